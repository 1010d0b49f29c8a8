/- A part of the proof (part 6): see the last text. -/
import Derived.Test.YtbomedgnnklgbaaGreatDoorRb5
import Derived.Test.YtbomedgnnklgbaaGreatDoorRb4
import Derived.Below
import Derived.Shelf.SlSortCmp.NoneTotal
import Derived.Test.YtbomedgnnklgbaaGreatDoorRb2
import Derived.Sort.Grow
import Derived.Deep.Draws
import Derived.Test.YtbomedgnnklgbaaGreatDoorRb3
import Derived.Test.YtbomedgnnklgbaaGreatDoorChecked
set_option linter.unusedVariables false
set_option linter.unusedSimpArgs false
set_option linter.unusedSectionVars false
open Array renaming getElem?_append_left→ae1, getElem?_eq_some_iff→aaH, getElem?_mapIdx→ae0, getElem?_modify→aaM
open Bool renaming and_eq_true→Z3, false_eq_true→abS
open Decidable renaming not_not→adC
open Go.IntKind renaming wrap→aa8
open Go.Proofs.SlLaysF renaming n6→ae2
open Go.Sort renaming ahead→aeZ
open Go.World renaming cell?→aeY
open Int renaming le_refl→aen, toNat_natCast→aa9
open List renaming all_cons→acM, append_assoc→aef, append_nil→adJ, drop_succ_cons→ac2, drop_zero→adx, eq_nil_of_length_eq_zero→aeS, filter_cons→aeV, flatMap_append→aeK, flatMap_cons→adn, flatMap_singleton→aeQ, flatten_cons→aa3, getElem?_append_left→abB, getElem?_append_right→abC, getElem?_cons_succ→adW, getElem?_cons_zero→adV, getElem?_drop→Z0, getElem?_eq_getElem→aaQ, getElem?_eq_some_iff→ZX, getElem?_map→aaP, getElem?_replicate→acJ, getElem?_take_of_lt→abY, getElem_mem→aaX, length_append→adD, length_cons→ael, length_eq_one_iff→aec, length_map→acz, length_mergeSort→ae3, length_replicate→aeW, length_set→ack, length_singleton→aez, length_take→adS, length→aeN, map_append→aeE, mem_append→ace, mem_cons_of_mem→acn, mem_cons_self→aco, mem_cons→acm, mem_of_getElem?→acN, mem_singleton→aeO, nil_append→aeH, not_mem_nil→aeX, replicate_succ→aa2, replicate→ZU, take_append_of_le_length→adF, take_of_length_le→adG
open Nat renaming add_comm→aeU, add_zero→aaz, eq_zero_or_pos→ads, le_add_right→aeT, le_of_lt→ad9, le_refl→np, le_succ→aaD, le_trans→sl, lt_irrefl→aeP, lt_of_lt_of_le→AV, lt_succ_self→acP, ne_of_lt→aaI, strongRecOn→aeR, zero_add→aaK, zero_le→aav
open Option renaming map_none→ad6, map_some→aae, map→acR, some→aad
open Prod renaming fst→adp
namespace Rb
open Go
variable{t:T}{f:aE}{s:cr}
def XF(f:aE)(x:Int×Int):Prop:=0≤x.1∧(f.bits=true→0≤x.2∧x.2≤64)∧(f.bits=false→x.2=8*(j f.type).1.1)
theorem Wo{packed:Bool}{kind a:Int}(d:0≤a)(g:rH packed f)(h:xp f.type)(ht:(j f.type).2=true):XF f ((fU packed kind a f (j f.type).1).1,(fU packed kind a f (j f.type).1).2.1):=by
 obtain⟨b1,b2,b3,k⟩:=h ht;have i:0≤(if kind=4 then(0:Int)else a):=by split;decide;exact d
 unfold fU;dsimp only;generalize (if kind=4 then(0:Int)else a)=b at *;by_cases c:f.bits=true
 · obtain ⟨l,m,o,y3,y4,_⟩:=g c;rw[af c];refine⟨?_,λ_=>⟨y3,?_⟩,λe=>by rw[c]at e;cases e⟩
   · show 0≤bX b _;split
     ·have:=jE (n:=b) (step:=8*f.type.size) (by omega);omega
     ·rw[xk];exact i
   ·show f.bb≤64;omega
 · rw[ak c];refine⟨?_,λe=>absurd e c,λ_=>rfl⟩;show 0≤bX b _;split
   ·have:=jE (n:=b) (step:=8) (by omega);omega
   ·have:=jE (n:=b) (step:=8*(j f.type).1.2) (by omega);omega
theorem Lo{packed:Bool}{kind:Int}:∀{l:List aE}{p q:PL}{n:Nat},n+l.length≤32→jF p n→(∀f∈l,rH packed f∧xp f.type)→dT packed kind p l=some q →
  ∃c:List cr,q.dq=p.dq++c∧∀(i:Nat)(f:aE)(s:cr),l[i]?=some f→c[i]?=some s→∃x,s=nU f x∧XF f x
 | [],p,q,n,e,d,hl,h=>by simp only[dT,aad.injEq]at h;subst h;exact⟨[],by simp,λi f s hf=>by simp at hf⟩
 | f :: r,p,q,n,e,d,hl,h=>by
  obtain⟨o1,o2⟩:=hl f (aco ..);have m:n+1+r.length≤32:=by rw[ael]at e;omega
  simp only[dT,rD]at h;by_cases ht:(j f.type).2=true
  · rw [af ht]at h;obtain⟨b1,b2,b3,o⟩:=o2 ht;have a:f.bits=true→1≤f.type.size∧f.type.size≤8∧0≤f.bb∧f.bb≤8*f.type.size∧packed=false∧(j f.type).1.2=f.type.size:=λa=>by
     obtain⟨t,z2,z3,z4,z5,u⟩:=o1 a;exact⟨z2,z3,z4,z5,u,by rw[rI (.inl t)]⟩
    obtain⟨e1,v⟩:=J1 (packed:=packed) (kind:=kind) (g:=(j f.type).1) (by omega) d b1 b2 b3 o (λq=>⟨(a q).1,(a q).2.1,(a q).2.2.1,(a q).2.2.2.1⟩);have w:=J3 (kind:=kind) d (f:=f) (g:=(j f.type).1) b3 (λq=>⟨(a q).1,(a q).2.2.1,(a q).2.2.2.1,(a q).2.2.2.2.1,(a q).2.2.2.2.2⟩);obtain⟨c,k,y⟩:=Lo m v (λg b=>hl g (acn _ b)) h;rw[e1,w]at k;refine⟨nU f ((fU packed kind p.bit f (j f.type).1).1,(fU packed kind p.bit f (j f.type).1).2.1)::c,by rw[k,aef];rfl,λi g s b hs=>?_⟩;cases i with
    | zero=>simp only[adV,aad.injEq]at b hs;subst b;exact⟨_,hs.symm,Wo d.b0 o1 o2 ht⟩
    | succ i=>simp only[adW]at b hs;exact y i g s b hs
  ·rw[ak ht]at h;cases h
structure oa(t:T)(s:cr):Prop where
 bits:s.bits=true→t.kind=1∧0≤s.len∧s.len≤9
 len:s.bits=false→s.len=(bx t).1.1
 bit:0≤s.bit∧s.bit≤7
 wid:0≤s.bb
theorem Wp(h:t.lay)(b:t.kind=3∨t.kind=4){n:Nat}(hf:t.aN[n]?=some f)(hs:(ja t)[n]?=some s)(i:f.type.lay):oa f.type s:=by
 obtain⟨p,d,_⟩:=xE h b;have c:=j5 h.snd;have hlen:=J7 c b;have g:∀f∈t.aN,rH t.packed f:=by
  have hs:=c;rw[gE]at hs;split at hs
  ·exact absurd hs (by decide)
  · rw[ak (show ¬t.kind=1 by omega),ak (show ¬t.kind=2 by omega),ak (show ¬t.kind=5 by omega),bM]at hs;exact J5 hs
 obtain⟨q,j,k⟩:=Lo (n:=0) (by omega) jF.zero (λf hf=>⟨g f hf,J8 f.type ((nR c b).1 f hf)⟩) d;unfold ja at hs;rw[d]at hs;dsimp only at hs;rw[j]at hs;obtain⟨x,e,r,l,m⟩:=k n f s hf (by simpa using hs);have o:=i.zero;rw[e];unfold nU;by_cases a:f.bits=true
 · rw[af a];obtain⟨z0,u⟩:=l a;refine⟨λ_=>⟨(g f (acN hf) a).1,?_,?_⟩,λe=>(by cases e),⟨?_,?_⟩,z0⟩
   ·show 0≤(if x.2>0 then _ else _);split<;>omega
   ·show(if x.2>0 then _ else _)≤_;split<;>omega
   ·show 0≤x.1%8;omega
   ·show x.1%8≤7;omega
 · rw[ak a];have:=m (by simpa using a);refine⟨λe=>(by cases e),λ_=>?_,⟨aen 0,(by decide:(0:Int)≤7)⟩,aen 0⟩;show x.2/8=(bx f.type).1.1;rw[o,this];dsimp only;omega
theorem xK(ht:t.lay)(h:oa t s)(b:t.kind=1∨t.kind=2):0≤s.len∧s.len≤16∧(t.kind=2→s.len=t.size)∧(t.size=1∨t.size=2∨t.size=4∨t.size=8∨t.size=16):=by
 have hs:=j5 ht.snd;have d:=BH hs b;have a : t.size=1∨t.size=2∨t.size=4∨t.size=8∨t.size=16:=by
  rw[gE]at hs;split at hs
  ·cases hs
  · have a:eV t.size 8=true∨eV t.size 16=true:=by
      rcases b with h1|h1
      · rw[af h1]at hs;split at hs
        ·exact .inl ‹_›
        ·cases hs
      · rw[bM,af h1]at hs;split at hs
        ·exact .inr ‹_›
        ·cases hs
    rcases a with a|a<;>(simp[eV]at a;omega)
 have hl:(bx t).1.1=t.size:=by rw[ht.zero,rI b]
 cases c:s.bits with
 | true=>have:=h.bits c;exact⟨this.2.1,by omega,λe=>by omega,a⟩
 | false=>have:=h.len c;rw[hl]at this;exact⟨by omega,by omega,λ_=>this,a⟩
theorem xL{k:Int}(h:k9 k t=true):(t.kind=1∨t.kind=2)∧((k=3∨k=14)→t.kind=1)∧(¬(k=3∨k=14)→t.kind=2)∧(¬(k=3∨k=14)→¬(k=5∨k=6)→t.size≤8):=by
 unfold k9 at h;by_cases h1:k=3∨k=14
 · rw[af h1]at h;have:t.kind=1:=by simpa using h
   exact⟨.inl this,λ_=>this,λe=>absurd h1 e,λe=>absurd h1 e⟩
 · rw [ak h1]at h;by_cases a:k=5∨k=6
   · rw[af a]at h;simp only[Z3,bK]at h;exact⟨.inr h.1,λe=>absurd e h1,λ_=>h.1,λ_ e=>absurd a e⟩
   · rw[ak a]at h;simp only[Z3,bK,dO]at h;exact⟨.inr h.1,λe=>absurd e h1,λ_=>h.1,λ_ _=>h.2⟩
end Rb

namespace Rb
open Go
variable{x:I}{n0 sz len:Nat}{cells:List I}{n:Int}
def jM(vars:List B)(wh xo xs xl:I)(c:LD):List I:=[aQ B.cells vars,wh,xo,.int .i64 (c.K:Nat),.int .i64 (c.labels:Nat),xs,.int .i64 c.V,xl]
structure bD(H:AH)(id:Nat)(vars:List B)(wh xl:I)(c:LD):Prop where
 x:∃xo xs,At H id (.row (jM vars wh xo xs xl c))∧cd (id+1) H 13 xo c.A.length (c.A.flatMap bn.cells)∧cd (id+1) H 5 xs c.sn c.sc∧∀t l c1,xo = .ab (.own t) l c1→∀l2 c2,xs ≠ .ab (.own t) l2 c2
 l:cM H 2 xl c.L.length (c.L.flatMap iJ)
 ld:∀j,ct xl=some j→id<j
 lo:∀p∈c.L,p.2<c.K
theorem bD.r3{H:AH}{id:Nat}{vars:List B}{wh xl:I}{c:LD}(h:bD H id vars wh xl c):ct xl≠some id:=λe=>aeP _ (h.ld _ e)
def KR(id:Nat)(H H':AH):Prop:=H.n≤H'.n∧∀i cs,i≠id→At H i (.row cs)→At H' i (.row cs)
section
variable{id j k N:Nat}{vars:List B}{wh xl v:I}{c c':LD}{H0 H H1 H2:AH}{cs:List I}
theorem KR.refl:KR id H H:=⟨np _,λ_ _ _ h=>h⟩
theorem KR.trans(h:KR id H H1)(k:KR id H1 H2):KR id H H2:=⟨sl h.1 k.1,λi cs hi a=>k.2 i cs hi (h.2 i cs hi a)⟩
theorem KR.ext(E:AH.Ext H H1):KR id H H1:=⟨E.1,λ_ _ _ h=>h.ext E⟩
theorem KR.set(o:bS):KR id H (H.set id o):=⟨np _,λ_ _ hi h=>h.aZ hi o⟩
theorem cd.Lp(h:cd n0 H sz x len cells)(k:∀t l d a b,x = .ab (.own t) l d→At H t (.tok a b)→At H1 t (.tok a b)):cd n0 H1 sz x len cells:=by
 obtain⟨tk,c,hc,ht⟩:=h;refine⟨tk,c,hc,?_⟩;rcases ht with ht|ht|⟨t,rfl,e,f⟩
 ·exact .inl ht
 ·exact .inr (.inl ht)
 ·exact .inr (.inr ⟨t,rfl,e,k t _ _ _ _ c f⟩)
def One(v:I):Prop:=v.known=true∧v.cells=[v]∧v.scalar=true
theorem One.int{k:IntKind}:One (.int k n):=⟨rfl,rfl,rfl⟩
theorem cd.one(h:cd n0 H sz x len cells):One x∧aU false x=some (.int .i64 len):=by obtain⟨tk,rfl,_⟩:=h;exact⟨⟨rfl,rfl,rfl⟩,rfl⟩
theorem At.st1(h:At H j (.row cs))(a:k<cs.length)(hv:One v):Y H 1 (.ptr j k) v=some (H.set j (.row (cs.set k v))):=by rw[h.store,af ⟨hv.1,by rw[hv.2.1];rfl,by rw[hv.2.1];simp[hv.2.2],a⟩,hv.2.1];rfl
theorem bD.ext(h:bD H id vars wh xl c)(E:AH.Ext H H1):bD H1 id vars wh xl c:=by obtain⟨xo,xs,a,b,d,e⟩:=h.x;exact⟨⟨xo,xs,a.ext E,b.frame λ_ _ _ h=>h.ext E,d.frame λ_ _ _ h=>h.ext E,e⟩,h.l.ext E,h.ld,h.lo⟩
theorem bD.other(h:bD H id vars wh xl c)(i:At H j (.row cs))(k:j≠id)(m:ct xl≠some j)(g:List I):bD (H.set j (.row g)) id vars wh xl c:=by obtain⟨xo,xs,a,b,d,e⟩:=h.x;have f:∀t a b,At H t (.tok a b)→At (H.set j (.row g)) t (.tok a b):=λt a b h=>h.aZ (h.ne i (by intro e;cases e)) _;exact⟨⟨xo,xs,a.aZ k.symm _,b.frame f,d.frame f,e⟩,h.l.set m _,h.ld,h.lo⟩
theorem bD.qI(h:bD H id vars wh xl c):Z H 1 false (.ptr id 3)=some (.int .i64 (c.K:Nat)):=by obtain⟨xo,xs,a,_⟩:=h.x;rw[a.load];rfl
theorem bD.kc(h:bD H id vars wh xl c):Z H 1 false (.ptr id 4)=some (.int .i64 (c.labels:Nat)):=by obtain⟨xo,xs,a,_⟩:=h.x;rw[a.load];rfl
theorem bD.ln(h:bD H id vars wh xl c):Z H 1 false (.ptr id 6)=some (.int .i64 c.V):=by obtain⟨xo,xs,a,_⟩:=h.x;rw[a.load];rfl
theorem bD.lcs(h:bD H id vars wh xl c):Z H 1 false (.ptr id 7)=some xl:=by obtain⟨xo,xs,a,_⟩:=h.x;rw[a.load];rfl
theorem bD.vs(h:bD H id vars wh xl c):Z H 1 false (.ptr id 0)=some (aQ B.cells vars):=by obtain⟨xo,xs,a,_⟩:=h.x;rw[a.load];rfl
theorem bD.Wq(h:bD H id vars wh xl c):Z H 1 false (.ptr id 1)=some wh:=by obtain⟨xo,xs,a,_⟩:=h.x;rw[a.load];rfl
theorem bD.own(h:bD H id vars wh xl c)(f:(k=3∧n=c'.K∧c.K≤c'.K∧c'.labels=c.labels∧c'.V=c.V)∨(k=4∧n=c'.labels∧c'.K=c.K∧c'.V=c.V)∨(k=6∧n=c'.V∧c'.K=c.K∧c'.labels=c.labels))(i:c'.A=c.A)(j:c'.sn=c.sn)(m:c'.sc=c.sc)(g:c'.L=c.L) :
  ∃H',Y H 1 (.ptr id k) (.int .i64 n)=some H'∧KR id H H'∧bD H' id vars wh xl c':=by
 obtain⟨xo,xs,a,b,d,e⟩:=h.x;refine⟨_,a.st1 (by rcases f with⟨rfl,_⟩|⟨rfl,_⟩|⟨rfl,_⟩<;>(show _<8;decide)) One.int,KR.set _,⟨xo,xs,?_,?_,?_,e⟩,by rw[g];exact h.l.set h.r3 _,h.ld,?_⟩
 · have:(jM vars wh xo xs xl c).set k (.int .i64 n)=jM vars wh xo xs xl c':=by
     unfold jM;rcases f with⟨rfl,rfl,_,k1,k2⟩|⟨rfl,rfl,k1,k2⟩|⟨rfl,rfl,k1,k2⟩<;>(rw[k1,k2];rfl)
   rw[this];exact a.set _
 ·rw[i];exact b.frame λt _ _ h=>h.aZ (h.ne a (by intro e;cases e)) _
 ·rw[j,m];exact d.frame λt _ _ h=>h.aZ (h.ne a (by intro e;cases e)) _
 · rw[g];intro p o;have:=h.lo p o;rcases f with⟨_,_,k1,_⟩|⟨_,_,k1,_⟩|⟨_,_,k1,_⟩<;>omega
structure Bx(H0:AH)(id:Nat)(xl:I)(H:AH)(j N:Nat)(cs:List I):Prop where
 a:At H j (.row cs)
 ne:j≠id
 nx:ct xl≠some j
 lo:H0.n≤j
 len:cs.length=N
theorem Bx.aO(b:Bx H0 id xl H j N cs)(k:KR id H H1):Bx H0 id xl H1 j N cs:=⟨k.2 _ _ b.ne b.a,b.ne,b.nx,b.lo,b.len⟩
theorem bD.box(h:bD H id vars wh xl c)(k:KR id H0 H)(hl:cs.length=N):Bx H0 id xl (H.push (.row cs)) H.n N cs:=by obtain⟨xo,xs,a,_⟩:=h.x;exact⟨At.new H _,by have:=a.1;omega,λe=>by have:=h.l.lt e;omega,k.1,hl⟩
theorem KR.box(k:KR id H0 H)(b:H0.n≤j)(o:bS):KR id H0 (H.set j o):=⟨k.1,λi cs hi a=>(k.2 i cs hi a).aZ (by have:=a.1;omega) o⟩
theorem Bx.other{c:Nat}(b:Bx H0 id xl H j N cs)(h:j≠c)(o:bS):Bx H0 id xl (H.set c o) j N cs:=⟨b.a.aZ h o,b.ne,b.nx,b.lo,b.len⟩
theorem Bx.set(b:Bx H0 id xl H j N cs)(ds:List I)(hl:ds.length=N):Bx H0 id xl (H.set j (.row ds)) j N ds:=⟨b.a.set _,b.ne,b.nx,b.lo,hl⟩
theorem Bx.lt(b:Bx H0 id xl H j N cs)(k:KR id H H1):j<H1.n:=AV b.a.1 k.1
theorem Bx.st(b:Bx H0 id xl H j N cs)(h:bD H id vars wh xl c)(e:KR id H0 H)(f:k<N)(hv:One v){P:AH→Prop}
  (g:∀H',KR id H0 H'→bD H' id vars wh xl c→Bx H0 id xl H' j N (cs.set k v)→(∀d M ds,d≠j→Bx H0 id xl H d M ds→Bx H0 id xl H' d M ds)→P H'):Do (Y H 1 (.ptr j k) v) P:=by
 rw[b.a.st1 (by rw[b.len];exact f) hv,X];exact g _ (e.box b.lo _) (h.other b.a b.ne b.nx _) (b.set _ (by rw[ack];exact b.len)) λd M ds i b2=>b2.other i _
theorem Bx.ld(b:Bx H0 id xl H j N cs)(c:cs[k]?=some x):Z H 1 false (.ptr j k)=some x:=by rw[b.a.load];unfold bw;have:=(ZX.1 c).1;rw[cj,de];exact c
theorem Bx.all(b:Bx H0 id xl H j N cs):Z H N true (.ptr j 0)=some (.agg cs):=b.a.all b.len
end
section
variable{C:Ctx}(aq:bT C)(hT:Cl (ai C) S.ba){id:Nat}{vars:List B}{wh xl:I}{c:LD}{H0 H:AH}{Q:ad}
include aq hT
theorem jc{P:I→AH→Prop}{k:Int}(h:bD H id vars wh xl c)(b:KR id H0 H)(d:∀j H',KR id H H'→bD H' id vars wh xl c→Bx H0 id xl H' j 13 (Ci k).cells→H.n≤j→P (.ptr j 0) H') :
  ai C 128 [.int .i64 k] H λe H2=>au (some (aK H2 true [.int .i64 0,.int .i64 0,.int .i64 0,.int .i64 0,.int .i64 0,.int .i64 0,.int .u64 0,.int .i64 0,.int .i64 0,.int .i64 0,.int .i64 0,.int .i64 0,.int .i64 0])) λa f=>Do (Y f 13 a e) λg=>P a g:=by
 refine S.RW hT ?_;unfold S.f128;rw[show aB [.int .i64 0,.int .i64 0,.int .i64 0,.int .i64 0,.int .i64 0,.int .i64 0,.int .u64 0,.int .i64 0,.int .i64 0,.int .i64 0,.int .i64 0,.int .i64 0,.int .i64 0] [(0,1,.int .i64 k),(1,1,(.int .i64 (-1))),(2,1,(.int .i64 (-1))),(3,1,(.int .i64 (-1))),(4,1,(.int .i64 (-1))),(5,1,(.int .i64 (-1)))]=some (.agg (Ci k).cells)from rfl];simp only[aK,aR,aH,X];rw[cC _ _ _ 13 rfl rfl rfl];simp only[X,dS];rw[eh (n:=13) rfl];simp only[X];rw[cC _ _ _ 13 rfl rfl rfl];simp only[X];have E:=AH.Ext.push H (.row (Ci k).cells);have h1:=h.ext E;have k1:=b.trans (KR.ext E);exact d _ _ ((KR.ext E).trans (KR.ext (AH.Ext.push _ _))) (h1.ext (AH.Ext.push _ _)) (h1.box k1 rfl) (aaD _)
theorem iK(h:bD H id vars wh xl c)(hl:c.A.length≤1000000000000)(o:bn)(p:∀H',KR id H H'→bD H' id vars wh xl (c.add o)→Q (.ar []) H'):ai C 130 [.ptr id 0,.agg o.cells] H Q:=by
 refine S.RY hT ?_;unfold S.f130;have q:aL H true 13 (.agg o.cells)=some (.ptr H.n 0,H.push (.row o.cells)):=by unfold aL;rw[af ⟨rfl,o.len⟩];rfl
 rw[q];simp only[aH,aD,aa,aaK,X];have b1:=h.box (KR.refl (id:=id)) o.len;have k1:KR id H (H.push (.row o.cells)):=KR.ext (AH.Ext.push _ _);have h1:=h.ext (AH.Ext.push H (.row o.cells));simp only[h1.ln,X];refine b1.st h1 k1 (by decide) One.int λH2 k2 f b2 _=>?_;have b:o.cells.set 12 (.int .i64 c.V)=({o with V:=c.V}:bn).cells:=rfl;rw[b]at b2;obtain⟨xo,xs,a,k,hs,r⟩:=f.x;rw[a.load,show bw (jM vars wh xo xs xl c) 2 1 false=some xo from rfl];simp only[X,b2.all];rw[show b8 H2 false 13 1 [.int .i64 0,.int .i64 0,.int .i64 0,.int .i64 0,.int .i64 0,.int .i64 0,.int .u64 0,.int .i64 0,.int .i64 0,.int .i64 0,.int .i64 0,.int .i64 0,.int .i64 0] [(0,13,.agg ({o with V:=c.V}:bn).cells)]=some (.ab .full 1 ({o with V:=c.V}:bn).cells,H2)from rfl];simp only[aH];refine k.KS (by have:=a.1;omega) (m:=1) (news:=({o with V:=c.V}:bn).cells) rfl rfl rfl (by decide) (by omega) (by omega) λs u v hk=>?_;have g:∀i ds,At H2 i (.row ds)→At s i (.row ds):=λi ds hi=>hk i _ hi λl cs e=>by
  subst e;obtain⟨tk,e1,_,b⟩:=k;cases e1;rcases b with⟨e,_⟩|e|⟨t,e,_,b⟩
  ·cases e
  ·cases e
  ·cases e;exact absurd (b.2.symm.trans hi.2) (by intro e;cases e)
 have a3:=g _ _ a;rw[a3.st1 (by show 2<8;decide) ⟨rfl,rfl,rfl⟩];simp only[X];refine p _ (k2.trans (KR.trans ⟨ad9 v,λi ds _=>g i ds⟩ (KR.set _))) ⟨⟨_,xs,a3.set _,?_,?_,λt l c1 e l2 c2 b=>?_⟩,(f.l.aO λi cs _=>g i cs).set f.r3 _,f.ld,f.lo⟩
 · have e:(c.add o).A=c.A++[{o with V:=c.V}]:=rfl;rw[e,adD,aeK,aeQ];exact u.frame λt _ _ h=>h.aZ (h.ne a3 (by intro e;cases e)) _
 ·exact hs.Lp λt l d x y e ht=>(hk t _ ht λl1 c1 e1=>r t l1 c1 e1 _ _ e).aZ (ht.ne a (by intro e;cases e)) _
 · cases e;obtain⟨tk,e1,_,j⟩:=hs;rw[b]at e1;cases e1;rcases j with⟨e,_⟩|e|⟨t,e,_,j⟩
   ·cases e
   ·cases e
   ·cases e;have:=j.1;omega
end
end Rb

namespace Rb
open Go
variable{a b n r l:Int}{R:Nat}
theorem cN(n:Nat):((n:Int)+1)=((n+1:Nat):Int):=by simp
theorem Lq:∀(L:List (List UInt8×Nat)) (k:Nat) (l:List UInt8×Nat),L[k]?=some l→((L.flatMap iJ).drop (k*2)).take 2=iJ l
 |[],k,l,h=>by simp at h
 | x::r,0,l,h=>by simp at h;subst h;rfl
 | x::r,k+1,l,h=>by have:=Lq r k l (by simpa using h);rw[show(k+1)*2=k*2+2 by omega];exact this
def EX(id:Nat)(vars:List B)(wh xl:I)(H:AH)(c:LD)(w:Nat)(k:List dw)(Q:ad):Prop:=∀(r:Int)(c':LD)(H':AH),KR id H H'→bD H' id vars wh xl c'→GE c c' w k→cZ c'.K r→Q (.int .i64 r) H'
def EU(id:Nat)(vars:List B)(wh xl:I)(H:AH)(c:LD)(w:Nat)(k:List dw)(Q:ad):Prop:=∀(c':LD)(H':AH),KR id H H'→bD H' id vars wh xl c'→GE c c' w k→Q (.ar []) H'
theorem im{R S:Nat}{k d d2 a b c n o z r t s l:Int}(f:1≤k)(g:k≤18)(h:cZ R d)(i:cZ R d2)(j:cZ R a)(m:cZ R b)(hc:cZ R c)(hs:k<4∨13<k∨(1≤s∧s≤(S:Nat)))(p:k<4∨10<k∨z=1∨z=2∨z=4∨z=8):hY R S ⟨k,d,d2,a,b,c,n,o,z,r,t,s,l⟩:=⟨f,g,h,i,j,m,hc,λe1 e=>by have e1:4≤k:=e1;have e:k≤13:=e;show 1≤s∧s≤_;omega,λe1 e=>by have e1:4≤k:=e1;have e:k≤10:=e;show z=1∨z=2∨z=4∨z=8;omega⟩
theorem ke{k d d2 a b c n o z r t s l:Int}(h:k<14∨16<k):l5 ⟨k,d,d2,a,b,c,n,o,z,r,t,s,l⟩:=λe=>by have e1:14≤k:=e.1;have f:k≤16:=e.2;omega
theorem cm:cZ R (-1):=cZ.none R
theorem iL{R n:Nat}(h:n<R):cZ R (n:Int):=⟨by omega,by omega⟩
section
variable{C:Ctx}(aq:bT C)(hT:Cl (ai C) S.ba){id:Nat}{vars:List B}{wh xl:I}{c:LD}{H0 H:AH}{Q:ad}{w:Nat}
include aq hT
theorem ob(h:bD H id vars wh xl c)(a:BD c (w+1))(b:∀H',KR id H H'→bD H' id vars wh xl {c with K:=c.K+1}→Q (.int .i64 (c.K:Nat)) H'):ai C 122 [.ptr id 0] H Q:=by
 have f:=a.r;refine S.RP hT ?_;unfold S.f122;have d:aa8 .i64 ((c.K:Int)+1)=((c.K+1:Nat):Int):=by rw[bJ,cN]
 have e:aa8 .i64 (((c.K+1:Nat):Int)-1)=(c.K:Int):=by rw[bJ];simp
 obtain⟨H1,e1,k1,h1⟩:=h.own (k:=3) (c':={c with K:=c.K+1}) (n:=((c.K+1:Nat):Int)) (.inl ⟨rfl,rfl,aaD _,rfl,rfl⟩) rfl rfl rfl rfl;simp only[aD,aa,aaK,X,h.qI,bu,d,e1,h1.qI,cU,e];exact b H1 k1 h1
theorem xM(h:bD H id vars wh xl c)(a:BD c (w+1))(b:∀H',KR id H H'→bD H' id vars wh xl {c with labels:=c.labels+1}→Q (.int .i64 ((c.labels+1:Nat):Int)) H'):ai C 186 [.ptr id 0] H Q:=by
 have e:=a.l;refine S.SE hT ?_;unfold S.f186;have d:aa8 .i64 ((c.labels:Int)+1)=((c.labels+1:Nat):Int):=by rw[bJ,cN]
 obtain⟨H1,e1,k1,h1⟩:=h.own (k:=4) (c':={c with labels:=c.labels+1}) (n:=((c.labels+1:Nat):Int)) (.inr (.inl ⟨rfl,rfl,rfl,rfl⟩)) rfl rfl rfl rfl;simp only[aD,aa,aaK,X,h.kc,bu,d,e1,h1.kc];exact b H1 k1 h1
theorem Cm(h:bD H id vars wh xl c)(a:BD c (w+1))(n:Int)(e:EX id vars wh xl H c 1 [] Q):ai C 174 [.ptr id 0,.int .u64 n] H Q:=by refine S.Sr hT ?_;unfold S.f174;refine jc aq hT h KR.refl λj H1 k1 h1 b1 r=>?_;refine ob aq hT h1 a λH2 k2 f=>?_;have b2:=b1.aO k2;have g:=k1.trans k2;simp only[aa,aaK,X];refine b2.st f g (by decide) One.int λs i l b3 _=>?_;refine b3.st l i (by decide) One.int λt m o b _=>?_;rw[b.all];simp only[X];refine iK aq hT o (by have:=a.A;show c.A.length≤_;omega) ⟨1,c.K,-1,-1,-1,-1,n,0,0,0,0,0,0⟩ λp d q=>?_;rw[(b.aO d).ld (k:=1) rfl];simp only[X];exact e _ _ p (m.trans d) q (GE.Ck (im (by decide) (by decide) (iL (acP _)) cm cm cm cm (.inl (by decide)) (.inl (by decide))) (ke (.inl (by decide)))) (iL (acP _))
theorem r5(h:bD H id vars wh xl c)(d:BD c (w+1))(op:Int)(g:cZ c.K a)(i:cZ c.K b)(l:EX id vars wh xl H c 1 [] Q):ai C 175 [.ptr id 0,.int .i64 op,.int .i64 a,.int .i64 b] H Q:=by refine S.Ss hT ?_;unfold S.f175;refine jc aq hT h KR.refl λj H1 k1 h1 b1 D=>?_;refine ob aq hT h1 d λH2 k2 m=>?_;have b2:=b1.aO k2;have n:=k1.trans k2;simp only[aa,aaK,X];refine b2.st m n (by decide) One.int λE o p b3 _=>?_;refine b3.st p o (by decide) One.int λF q r s _=>?_;refine s.st r q (by decide) One.int λG t u v _=>?_;refine v.st u t (by decide) One.int λI x y e _=>?_;rw[e.all];simp only[X];refine iK aq hT y (by have:=d.A;show c.A.length≤_;omega) ⟨3,c.K,-1,a,b,-1,0,op,0,0,0,0,0⟩ λz f B=>?_;rw[(e.aO f).ld (k:=1) rfl];simp only[X];exact l _ _ z (x.trans f) B (GE.Ck (im (by decide) (by decide) (iL (acP _)) cm (g.mono (aaD _)) (i.mono (aaD _)) cm (.inl (by decide)) (.inl (by decide))) (ke (.inl (by decide)))) (iL (acP _))
theorem l9(h:bD H id vars wh xl c)(d:BD c (w+2))(op n:Int)(e:cZ c.K a)(f:EX id vars wh xl H c 2 [] Q):ai C 183 [.ptr id 0,.int .i64 op,.int .i64 a,.int .u64 n] H Q:=by
 refine S.SB hT ?_;unfold S.f183;have k1:S.AQ (ai C) (.ptr id 0) (.int .i64 op) (.int .i64 a) (.int .u64 n) Q [] H:=by unfold S.AQ;refine Cm aq hT (w:=w+1) h d n λr c1 H1 k1 h1 g1 r1=>?_;refine r5 aq hT (w:=w) h1 (g1.bd (m:=w+1) (d.mono (by omega))) op (e.mono g1.r0) r1 λg c2 H2 k2 i g2 g=>?_;exact f _ _ _ (k1.trans k2) i (g1.trans g2) g
 have k2:∀b:Bool,S.nL (ai C) (.ptr id 0) (.int .i64 op) (.int .i64 a) (.int .u64 n) Q [.bool b] H:=λb=>by unfold S.nL;simp only[ax,F,aC];exact ay (λ_=>f _ _ _ KR.refl h ((GE.refl c).mono (aav _) rfl) e) (λ_=>k1)
 simp only[b5,X,cD,cy,aC]
 repeat' first|exact k2 _|apply ay<;>intro _
theorem r6(h:bD H id vars wh xl c)(a:BD c (w+2)){s:cr}{b al:Int}(e:cZ c.K b)(d:EX id vars wh xl H c 2 [] Q):ai C 181 [.ptr id 0,.agg (s.cells++[.int .i64 b,.int .i64 al])] H Q:=by
 refine S.Sz hT ?_;unfold S.f181;have f:aL H false 8 (.agg (s.cells++[.int .i64 b,.int .i64 al]))=some (.aj (s.cells++[.int .i64 b,.int .i64 al]),H):=rfl;have g:Z H 1 false (.aj [.int .i64 b,.int .i64 al])=some (.int .i64 b):=rfl;have l0:Z H 1 false (.aj (s.cells++[.int .i64 b,.int .i64 al]))=some (.int .i64 s.at_):=rfl;rw[f];simp only[aH,show aa 6 (.aj (s.cells++[.int .i64 b,.int .i64 al]))=some (.aj [.int .i64 b,.int .i64 al])from rfl,show aa 0 (.aj (s.cells++[.int .i64 b,.int .i64 al]))=some (.aj (s.cells++[.int .i64 b,.int .i64 al]))from rfl,X,g,l0,b5,F,ie];apply ay<;>intro _
 ·exact Cm aq hT (w:=w+1) h a _ λr c1 H1 k1 h1 g1 r1=>d _ _ _ k1 h1 (g1.mono (by decide) rfl) r1
 ·exact l9 aq hT h a _ _ e d
theorem Cn(b:0≤n)(a:∀v,Q (.int .u64 v) H):ai C 184 [.int .i64 n] H Q:=by refine S.SC hT ?_;unfold S.f184;simp only[eQ,X,F];refine ay (λ_=>a _) (λ_=>?_);rw[rk _ _ _ _ b];simp only[X,cU];exact a _
theorem xN(h:bD H id vars wh xl c)(d:BD c (w+1))(e:cZ c.K a)(f:cZ c.K b)(g:EU id vars wh xl H c 1 [] Q):ai C 123 [.ptr id 0,.int .i64 a,.int .i64 b] H Q:=by
 refine S.RQ hT ?_;unfold S.f123;refine jc aq hT h KR.refl λj H1 i h1 b1 s=>?_;simp only[aa,aaK,X];refine b1.st h1 i (by decide) One.int λt k l b3 _=>?_;refine b3.st l k (by decide) One.int λu m n o _=>?_;rw[o.all];simp only[X];exact iK aq hT n (by have:=d.A;omega) ⟨2,a,-1,b,-1,-1,0,0,0,0,0,0,0⟩ λp q r=>g _ p (m.trans q) r (GE.add (im (by decide) (by decide) e cm f cm cm (.inl (by decide)) (.inl (by decide))) (ke (.inl (by decide))))
theorem xO(h:bD H id vars wh xl c)(a:BD c (w+1))(t:Int)(b:∀H',KR id H H'→bD H' id vars wh xl (c.add ⟨14,-1,-1,-1,-1,-1,0,0,0,0,t,0,0⟩)→Q (.ar []) H'):ai C 188 [.ptr id 0,.int .i64 t] H Q:=by refine S.SG hT ?_;unfold S.f188;refine jc aq hT h KR.refl λj H1 d h1 b1 l=>?_;simp only[aa,aaK,X];refine b1.st h1 d (by decide) One.int λm e f b3 _=>?_;rw[b3.all];simp only[X];exact iK aq hT f (by have:=a.A;omega) ⟨14,-1,-1,-1,-1,-1,0,0,0,0,t,0,0⟩ λg i k=>b g (e.trans i) k
theorem xP(h:bD H id vars wh xl c)(i:BD c (w+1))(t:Int)(m:cZ c.K r)(k:∀o H',KR id H H'→o.cY=t→(o.kind=15∨o.kind=16)→hY c.K c.sn o→bD H' id vars wh xl (c.add o)→Q (.ar []) H'):ai C 187 [.ptr id 0,.int .i64 t,.int .i64 r] H Q:=by
 refine S.SF hT ?_;unfold S.f187;refine jc aq hT h KR.refl λj H1 l h1 b1 x=>?_;simp only[aa,aaK,X,dc,F,aC];apply ay<;>intro _
 · refine b1.st h1 l (by decide) One.int λy n p b3 _=>?_;refine b3.st p n (by decide) One.int λz q s u _=>?_;unfold S.wt;simp only[aa,aaK,X];refine u.st s q (by decide) One.int λv a b d _=>?_;rw[d.all];simp only[X];exact iK aq hT b (by have:=i.A;omega) ⟨16,-1,-1,r,-1,-1,0,0,0,0,t,0,0⟩ λe f g=>k _ e (a.trans f) rfl (.inr rfl) (im (by decide) (by decide) cm cm m cm cm (.inr (.inl (by decide))) (.inr (.inl (by decide)))) g
 · unfold S.wt;simp only[aa,aaK,X];refine b1.st h1 l (by decide) One.int λv a b d _=>?_;rw[d.all];simp only[X];exact iK aq hT b (by have:=i.A;omega) ⟨15,-1,-1,-1,-1,-1,0,0,0,0,t,0,0⟩ λe f g=>k _ e (a.trans f) rfl (.inl rfl) (im (by decide) (by decide) cm cm cm cm cm (.inr (.inl (by decide))) (.inr (.inl (by decide)))) g
theorem Lr(h:bD H id vars wh xl c)(q:BD c (w+1))(k o:Int){W b:I}(m:dw)(r:m.cells = .int .i64 k :: .int .i64 o :: .int .i64 c.V::[W,b])(u:W.scalar=true)(v:b.scalar=true)(z:∀H' c',KR id H H'→bD H' id vars wh xl c'→GE c c' 1 [m]→c'.K=c.K→c'.sn=c.sn+1→Q (.int .i64 ((c.sn+1:Nat):Int)) H'):ai C 129 [.ptr id 0,.int .i64 k,.int .i64 o,.agg [W,b]] H Q:=by
 have hs:=q.s;refine S.RX hT ?_;unfold S.f129;obtain⟨xo,xs,a,h1,p,A⟩:=h.x;have B:Z H 1 false (.ptr id 5)=some xs:=by rw[a.load];rfl
 have D:Z H 2 true (.aj [W,b])=some (.agg [W,b]):=rfl;rw[show aL H false 2 (.agg [W,b])=some (.aj [W,b],H)from rfl];simp only[aH,aD,aa,aaK,X,h.ln,B,D];rw[show aB [.int .i64 0,.int .i64 0,.int .i64 0,.str [],.ab .nil 0 []] [(0,1,.int .i64 k),(1,1,.int .i64 o),(2,1,.int .i64 c.V),(3,2,.agg [W,b])]=some (.agg (.int .i64 k :: .int .i64 o :: .int .i64 c.V::[W,b]))from rfl];simp only[X];rw[show b8 H false 5 1 [.int .i64 0,.int .i64 0,.int .i64 0,.str [],.ab .nil 0 []] [(0,5,.agg (.int .i64 k :: .int .i64 o :: .int .i64 c.V::[W,b]))]=some (.ab .full 1 (.int .i64 k :: .int .i64 o :: .int .i64 c.V::[W,b]),H)from rfl];simp only[aH];refine p.KS (by have:=a.1;omega) (m:=1) (news:= .int .i64 k :: .int .i64 o :: .int .i64 c.V::[W,b]) rfl rfl (by show(true&&(true&&(true&&(W.scalar&&(b.scalar&&true)))))=true;rw[u,v];rfl) (by decide) (by omega) (by omega) λE nD F hk=>?_;have g:∀i ds,At H i (.row ds)→At E i (.row ds):=λi ds hi=>hk i _ hi λl cs e=>by
  subst e;obtain⟨tk,e1,_,f⟩:=p;cases e1;rcases f with⟨e,_⟩|e|⟨t,e,_,f⟩
  ·cases e
  ·cases e
  ·cases e;exact absurd (f.2.symm.trans hi.2) (by intro e;cases e)
 have a3:=g _ _ a;rw[a3.st1 (by show 5<8;decide) ⟨rfl,rfl,rfl⟩];simp only[X];have a4:=a3.set (.row ((jM vars wh xo xs xl c).set 5 (.ab (.own H.n) (c.sn+1) (c.sc++(.int .i64 k :: .int .i64 o :: .int .i64 c.V::[W,b])))));rw[a4.load,show bw ((jM vars wh xo xs xl c).set 5 (.ab (.own H.n) (c.sn+1) (c.sc++(.int .i64 k :: .int .i64 o :: .int .i64 c.V::[W,b])))) 5 1 false=some (.ab (.own H.n) (c.sn+1) (c.sc++(.int .i64 k :: .int .i64 o :: .int .i64 c.V::[W,b])))from rfl];simp only[X,show ∀(tk:Tok)(n:Nat)(cs:List I),aU false (.ab tk n cs)=some (.int .i64 n)from λ_ _ _=>rfl];refine z _ {c with sn:=c.sn+1,sc:=c.sc++(.int .i64 k :: .int .i64 o :: .int .i64 c.V::[W,b])} (KR.trans ⟨ad9 F,λi ds _=>g i ds⟩ (KR.set _)) ⟨⟨xo,_,a4,?_,nD.frame λt _ _ h=>h.aZ (h.ne a3 (by intro e;cases e)) _,λt l c1 e l2 c2 f=>?_⟩,(h.l.aO λi cs _=>g i cs).set h.r3 _,h.ld,h.lo⟩
  ⟨⟨[],(adJ _).symm,aav _,λ_ G=>by cases G⟩,np _,aaD _,rfl,by rw[aeQ,r],np _,rfl,rfl,rfl⟩ rfl rfl
 ·exact h1.Lp λt l d x y e ht=>(hk t _ ht λl1 c1 e1=>A t l d e _ _ e1).aZ (ht.ne a (by intro e;cases e)) _
 · cases f;obtain⟨tk,e1,_,j⟩:=h1;rw[e]at e1;cases e1;rcases j with⟨e,_⟩|e|⟨t,e,_,j⟩
   ·cases e
   ·cases e
   ·cases e;have:=j.1;omega
theorem r7(h:bD H id vars wh xl c)(hl:c.V=l)(a:BD c (w+1))(k o:Int)(b:k≠7)(x:aX)(d:∀H' c',KR id H H'→bD H' id vars wh xl c'→GE c c' 1 [⟨k,o,l,x⟩]→c'.K=c.K→c'.sn=c.sn+1→Q (.int .i64 ((c.sn+1:Nat):Int)) H'):ai C 129 [.ptr id 0,.int .i64 k,.int .i64 o,.agg x.cells] H Q:=by rw[aX.bN];exact Lr aq hT h a k o ⟨k,o,l,x⟩ (by unfold dw.cells;rw[ak b,aX.bN,hl]) rfl rfl d
theorem xQ(h:bD H id vars wh xl c)(m:BD c w){E:List UInt8}(n:E∈c.L.map adp)(o:∀r:Int,cZ c.K r→Q (.int .i64 r) H):ai C 124 [.ptr id 0,.str E] H Q:=by
 have B:=m.L;refine S.RR hT ?_;unfold S.f124;have p:aL H false 1 (.str E)=some (.aj [.str E],H):=rfl;simp only[p,aH,aD,aa,aaK,h.lcs,X];refine S.Sw hT ?_;unfold S.f178;simp only[h.l.len,X];have main:∀(r:List (List UInt8×Nat)) (k:Nat),c.L.drop k=r→E∈r.map adp →
   av (S.AP (ai C) xl (.fn 179 [.aj [.str E]]) (.int .i64 c.L.length) (λq a=>Do (Z a 1 false (.ptr id 7)) λs=>Do (aG none 2 s q) λt=>Do (aa 1 t) λu=>Do (Z a 1 false u) λv=>Q v a)) ([.int .i64 k],H):=by
  intro r;induction r with
  |nil=>intro k d he;simp at he
  | cons l r x=>
   intro k d he;obtain⟨hk,f,y⟩:=eR d;obtain⟨j,cs,D,g,i,z,G⟩:=h.l.addr hk;have b:=Lq c.L k l f;rw[←z,List.drop_take,List.take_take,Nat.min_eq_left (by omega)]at b;refine av.step ?_;simp only[S.AP,ax,aS,X,F];rw[eH];simp only[i,X,g.load];rw[show bw cs (k*2) 2 true=some (.agg (iJ l)) by unfold bw;rw[cj,af rfl,b]];simp only[X];refine⟨179,[.aj [.str E]],rfl,?_⟩;rw[yf rfl,yg rfl];show ai C 179 [.agg (iJ l),.aj [.str E]] H _;refine S.Sx hT ?_;unfold S.f179;have A:aL H false 2 (.agg (iJ l))=some (.aj (iJ l),H):=by unfold aL;rw[af ⟨rfl,rfl⟩];rfl
   have l0:Z H 1 false (.aj (List.drop 0 (iJ l)))=some (.str l.1):=rfl;have l1:Z H 1 false (.aj [.str E])=some (.str E):=rfl;simp only[A,aH,aa,X,l0,l1,jD,F];apply ay<;>intro e
   · simp only[h.lcs,X,i,aa,g.load];rw [show bw cs (k*2+1) 1 false=some (.int .i64 (l.2:Nat)) by
       have:cs[k*2+1]?=some (.int .i64 (l.2:Nat)):=by rw[←Z0,←abY (show 1<2 by decide),b];rfl
       unfold bw;rw[cj,de,this]]
     simp only[X];exact o _ (iL (h.lo l (acN f)))
   · simp only[bu,X];rw[bJ,cN];refine x (k+1) y ?_;rcases acm.1 he with he|he
     ·exact absurd (by simp[←he]) e
     ·exact he
 exact main c.L 0 rfl n
end
end Rb

namespace Rb
open Go
def P2(r:Int):Prop:=r=1∨r=2∨r=4∨r=8∨r=16
def P8(r:Int):Prop:=r=1∨r=2∨r=4∨r=8
theorem P2.pos{r:Int}(h:P2 r):1≤r∧r≤16:=by unfold P2 at h;omega
theorem P2.half{r:Int}(h:P2 r)(a:1<r):P2 (r/2)∧r/2<r∧M .quo (.int .i64 r) (.int .i64 2)=some (.int .i64 (r/2)):=by
 rcases h with rfl|rfl|rfl|rfl|rfl
 ·omega
 all_goals exact⟨by unfold P2;omega,by omega,by rw[j3 _ _ _ (by decide)];rfl⟩
theorem P2.ind{P:Int→Prop}(h:∀r,P2 r→(1<r→P (r/2))→P r):∀r,P2 r→P r:=by have p1:=h 1 (.inl rfl) (λe=>absurd e (by decide));have p2:=h 2 (.inr (.inl rfl)) (λ_=>p1);have a:=h 4 (.inr (.inr (.inl rfl))) (λ_=>p2);have b:=h 8 (.inr (.inr (.inr (.inl rfl)))) (λ_=>a);have d:=h 16 (.inr (.inr (.inr (.inr rfl)))) (λ_=>b);intro r c;rcases c with rfl|rfl|rfl|rfl|rfl<;>assumption
def dU(p:Int×Int):List I:=[.int .i64 p.1,.int .i64 p.2]
def Lt(x:I)(l:List (Int×Int)):Prop:=∃tk,x = .ab tk l.length (l.flatMap dU)
section
variable{C:Ctx}(aq:bT C)(hT:Cl (ai C) S.ba){H:AH}{Q:ad}
include aq hT
theorem Co{n m:Int}(d:P2 m)(f:∀r,P2 r→r≤m→Q (.int .i64 r) H):ai C 217 [.int .i64 n,.int .i64 m] H Q:=by
 refine S.SO hT ?_;unfold S.f217;have main:∀r,P2 r→(r≤m→av (S.wC (ai C) (.int .i64 n) Q) ([.int .i64 r],H)):=by
  refine P2.ind λr a g hle=>av.step ?_;simp only[S.wC,ax,dC,X,cD,aC];have k2:∀b:Bool,(b=true→1<r)→S.wB (ai C) ([.int .i64 r],H) (av (S.wC (ai C) (.int .i64 n) Q)) Q [.bool b] H:=λb c=>by unfold S.wB;simp only[ax,F,aC];refine ay (λe=>?_) (λ_=>f r a hle);unfold S.IA;obtain⟨_,i,h⟩:=a.half (c e);simp only[ax,h,X];exact g (c e) (by omega)
  refine ay (λe=>?_) (λe=>k2 false (λe=>by cases e));rw[wP _ _ _ (by have:=a.pos;omega)];simp only[X,dc];exact k2 _ λ_=>by simpa using e
 exact main m d (aen _)
theorem Wr{c len:Int}(hl:len≤16)(y:∀l x H',AH.Ext H H'→Lt x l→(∀p∈l,P8 p.2)→l.length≤16→Q x H'):ai C 238 [.agg [.int .i64 c,.int .i64 len]] H Q:=by
 refine S.SS hT ?_;unfold S.f238;have J:∀H',AH.Ext H H'→Q (.ab .nil 0 []) H':=λH' E=>y [] _ H' E ⟨.nil,rfl⟩ (λp f=>by cases f) (aav _);have j:aL H true 2 (.agg [.int .i64 c,.int .i64 len])=some (.ptr H.n 0,H.push (.row [.int .i64 c,.int .i64 len])):=rfl;rw[j];simp only[aH];have s:=AH.Ext.push H (.row [.int .i64 c,.int .i64 len]);have r1:=At.new H (.row [.int .i64 c,.int .i64 len]);rw[r1.all (n:=2) rfl];simp only[X];generalize H.push (.row [.int .i64 c,.int .i64 len])=H1 at *;have l0:Z H1 1 false (.ptr H.n 0)=some (.int .i64 c):=by rw[r1.load];rfl
 have l1:Z H1 1 false (.ptr H.n 1)=some (.int .i64 len):=by rw[r1.load];rfl
 have loop : ∀(n:Nat)(a len:Int)(x:I)(l:List (Int×Int)) (H2:AH),len.toNat=n→AH.Ext H H2→At H2 H.n (.row [.int .i64 a,.int .i64 len])→len≤16→cd H.n H2 2 x l.length (l.flatMap dU)→(∀p∈l,P8 p.2)→(l.length:Int)+len.toNat≤16→av (S.pH (ai C) (.ptr H.n 0) Q) ([x],H2):=by
  intro n;induction n using aeR with
  | _ n K =>
   intro a len x l H2 al g u am z f hc;have m0:Z H2 1 false (.ptr H.n 0)=some (.int .i64 a):=by rw[u.load];rfl
   have m1:Z H2 1 false (.ptr H.n 1)=some (.int .i64 len):=by rw[u.load];rfl
   refine av.step ?_;simp only[S.pH,aa,aaK,m1,X,dC,F,ax];apply ay<;>intro e
   · have an:0<len:=by simpa using e
     have inner:∀r,P2 r→(r≤8→av (S.wI (ai C) (.ptr H.n 0) ([x],H2) (av (S.pH (ai C) (.ptr H.n 0) Q)) Q) ([.int .i64 r],H2)):=by
      refine P2.ind λr d L hle=>av.step ?_;simp only[S.wI,aa,aaK,m0,m1,X,dC,cy,aC,ax];have A:∀b:Bool,(b=true→1<r)→(b=false→r≤len)→S.wH (ai C) (.ptr H.n 0) ([x],H2) (av (S.pH (ai C) (.ptr H.n 0) Q)) ([.int .i64 r],H2) (av (S.wI (ai C) (.ptr H.n 0) ([x],H2) (av (S.pH (ai C) (.ptr H.n 0) Q)) Q)) Q [.bool b] H2:=λb j v=>by
       unfold S.wH;simp only[ax,F,aC];apply ay<;>intro e
       · unfold S.IG;obtain⟨_,ao,N⟩:=d.half (j e);simp only[ax,N,X];exact L (j e) (by omega)
       · have ap:=v (by simpa using e);have O:P8 r:=by unfold P2 at d;unfold P8;omega
         unfold S.IH;simp only[ax,aa,aaK,m0,X];rw[show aB [.int .i64 0,.int .i64 0] [(0,1,.int .i64 a),(1,1,.int .i64 r)]=some (.agg (dU (a,r)))from rfl];simp only[X];rw[show b8 H2 false 2 1 [.int .i64 0,.int .i64 0] [(0,2,.agg (dU (a,r)))]=some (.ab .full 1 (dU (a,r)),H2)from rfl];simp only[aH];refine z.app g.1 (m:=1) (news:=dU (a,r)) rfl rfl rfl (by decide) (by omega) (by omega) λP k R w=>?_;have q:=w.row u;have T:AH.Ext H k:=⟨sl g.1 w.1,λi hi=>((w.2 i (H2.o i) ⟨AV hi g.1,rfl⟩ (.inl hi)).2).trans (g.2 i hi)⟩
         have m3:Z k 1 false (.ptr H.n 0)=some (.int .i64 a):=by rw[q.load];rfl
         simp only[m3,X,bu];rw[q.st1 (by show 0<2;decide) One.int];have r4:=q.set (.row ([.int .i64 a,.int .i64 len].set 0 (.int .i64 (aa8 .i64 (a+r)))));have U:=T.set (np _) (.row ([.int .i64 a,.int .i64 len].set 0 (.int .i64 (aa8 .i64 (a+r)))));have V:=R.frame (H':=k.set H.n (.row ([.int .i64 a,.int .i64 len].set 0 (.int .i64 (aa8 .i64 (a+r)))))) (λt _ _ h=>h.aZ (h.ne q (by intro e;cases e)) _);simp only[X];generalize k.set H.n (.row ([.int .i64 a,.int .i64 len].set 0 (.int .i64 (aa8 .i64 (a+r)))))=W at *;have m4:Z W 1 false (.ptr H.n 1)=some (.int .i64 len):=by rw[r4.load];rfl
         simp only[m4,X,cU];rw[wrap_i64 (n:=len-r) (by have:=d.pos;omega) (by have:=d.pos;omega),r4.st1 (by show 1<2;decide) One.int];simp only[X];refine K (len-r).toNat (by have:=d.pos;omega) (aa8 .i64 (a+r)) (len-r) P (l++[(a,r)]) _ rfl (U.set (np _) _) (r4.set _) (by have:=d.pos;omega) ?_ (λp Y=>?_) (by have:=d.pos;rw[adD,aez];omega)
         · rw[adD,aeK,aeQ];exact V.frame λt _ _ h=>h.aZ (h.ne r4 (by intro e;cases e)) _
         · rcases ace.1 Y with h|h
           ·exact f p h
           ·rw[aeO.1 h];exact O
      apply iH<;>intro e
      · have ac:r≤len:=by simpa using e
        rw[wP _ _ _ (by have:=d.pos;omega)];simp only[X,dc];refine A _ (λe1=>?_) (λ_=>ac);have:=d.pos;by_cases h1:r=1
        ·subst h1;simp at e1
        ·omega
      ·exact A true (λ_=>by have:len<r:=(by simpa using e);omega) (λe=>by cases e)
     exact inner 8 (.inr (.inr (.inr (.inl rfl)))) (aen _)
   · obtain⟨tk,ad,_⟩:=z;exact y l x H2 g ⟨tk,ad⟩ f (by omega)
 have ae:S.AX (ai C) (.ptr H.n 0) Q [] H1:=by
  unfold S.AX;by_cases aq:0≤len
  ·exact loop len.toNat c len _ [] H1 rfl s r1 hl (cd.nil _ _ _) (λp f=>by cases f) (by simp;omega)
  ·exact loop len.toNat c len _ [] H1 rfl s r1 hl (cd.nil _ _ _) (λp f=>by cases f) (by simp;omega)
 have B:∀b:Bool,S.wJ (ai C) (.ptr H.n 0) Q [.bool b] H1:=λb=>by unfold S.wJ;simp only[ax,F,aC];exact ay (λ_=>J H1 s) (λ_=>ae)
 have D:∀b:Bool,S.pI (ai C) (.ptr H.n 0) Q [.bool b] H1:=λb=>by unfold S.pI;simp only[ax,cy,aC,aa,aaK,l0,l1,X,bu,dC];exact ay (λ_=>B _) (λ_=>B _)
 have snd:∀b:Bool,Do (cO .not (.bool b)) λaf=>aM af false (Do (aa 1 (.ptr H.n 0)) λag=>Do (Z H1 1 false ag) λah=>Do (M .gtr ah (.int .i64 64)) λak=>G (S.pI (ai C) (.ptr H.n 0) Q) [ak] H1) (G (S.pI (ai C) (.ptr H.n 0) Q) [.bool true] H1) False:=λb=>by simp only[eg,X,cy,aa,aaK,l1,dC,aC];exact ay (λ_=>D _) (λ_=>D _)
 refine S.SU hT ?_;unfold S.f245;have v:aL H1 false 2 (.agg [.int .i64 c,.int .i64 len])=some (.aj [.int .i64 c,.int .i64 len],H1):=rfl;have s0:Z H1 1 false (.aj [.int .i64 c,.int .i64 len])=some (.int .i64 c):=rfl;have s1:Z H1 1 false (.aj [.int .i64 len])=some (.int .i64 len):=rfl;rw[v];simp only[aH,show aa 0 (.aj [.int .i64 c,.int .i64 len])=some (.aj [.int .i64 c,.int .i64 len])from rfl,show aa 1 (.aj [.int .i64 c,.int .i64 len])=some (.aj [.int .i64 len])from rfl,X,s0,s1,eQ,hK,cD,aC,S.AZ,S.AY,ax]
 repeat' first|exact snd _|apply ay<;>intro _
end
end Rb

namespace Rb
open Go
theorem Cp{tk:Tok}{l:List (Int×Int)}{i:Nat}{p:Int×Int}(h:l[i]?=some p)(H:AH):∃a,aG none 2 (.ab tk l.length (l.flatMap dU)) (.int .i64 i)=some a∧Z H 2 true a=some (.agg (dU p)):=⟨_,dP (cells:=dU) (ZX.1 h).1,en (cells:=dU) (λ_=>rfl) (by decide) H h⟩
theorem Left.ext{n0:Nat}{H0 H H':AH}(b:H0.n=n0)(E:AH.Ext H0 H)(a:Left n0 H H'):AH.Ext H0 H':=⟨sl E.1 a.1,λi hi=>((a.2 i (H.o i) ⟨AV hi E.1,rfl⟩ (.inl (by omega))).2).trans (E.2 i hi)⟩
def cW(s:cr)(b al:Int):List I:=s.cells++[.int .i64 b,.int .i64 al]
section
variable{s:cr}{b al:Int}
theorem Cq(H:AH):aL H false 8 (.agg (cW s b al))=some (.aj (cW s b al),H):=rfl
theorem xR:aa 0 (.aj (cW s b al))=some (.aj (cW s b al)):=rfl
theorem Ws(H:AH):Z H 1 false (.aj (cW s b al))=some (.int .i64 s.at_):=rfl
theorem Wt(H:AH):Z H 2 true (.aj (cW s b al))=some (.agg [.int .i64 s.at_,.int .i64 s.len]):=rfl
theorem Lu(H:AH):Z H 8 true (.aj (cW s b al))=some (.agg (cW s b al)):=rfl
theorem Wu(H:AH):∃p,aa 1 (.aj (cW s b al))=some p∧∀H:AH,Z H 1 false p=some (.int .i64 s.len):=⟨_,rfl,λ_=>rfl⟩
theorem Wv(H:AH):∃p,aa 6 (.aj (cW s b al))=some p∧∀H:AH,Z H 1 false p=some (.int .i64 b):=⟨_,rfl,λ_=>rfl⟩
theorem Ww(H:AH):∃p,aa 7 (.aj (cW s b al))=some p∧∀H:AH,Z H 1 false p=some (.int .i64 al):=⟨_,rfl,λ_=>rfl⟩
end
section
variable{C:Ctx}(aq:bT C)(hT:Cl (ai C) S.ba){H:AH}{Q:ad}
include aq hT
theorem Lv{s:cr}{b al:Int}(M:P2 al)(hl:s.len≤16)(J:∀l x H',AH.Ext H H'→Lt x l→(∀p∈l,P8 p.2)→l.length≤16→Q x H'):ai C 218 [.agg (cW s b al)] H Q:=by
 refine S.SP hT ?_;unfold S.f218;obtain⟨p1,f1,g1⟩:=Wu (s:=s) (b:=b) (al:=al) H;obtain⟨Y,f6,g6⟩:=Wv (s:=s) (b:=b) (al:=al) H;obtain⟨ac,f7,g7⟩:=Ww (s:=s) (b:=b) (al:=al) H;simp only[Cq,aH,f6,g6,X,b5,F,xR,Wt];apply ay<;>intro _
 · refine Wr aq hT hl λl x H1 N u j hc=>?_;obtain⟨tk,rfl⟩:=u;simp only[show aU false (.ab tk l.length (l.flatMap dU))=some (.int .i64 l.length)from rfl,X];have main:∀(r:List (Int×Int)) (i:Nat) (H2:AH) (y:I) (d:List (Int×Int)),l.drop i=r→d.length=i→i≤l.length→AH.Ext H H2→cd H.n H2 2 y d.length (d.flatMap dU)→(∀p∈d,P8 p.2) →
     av (S.wE (ai C) (.aj (cW s b al)) (.ab tk l.length (l.flatMap dU)) (.int .i64 l.length) Q) ([y,.int .i64 i],H2):=by
    intro r;induction r with
    | nil=>intro i H2 y d w he O c f g;have hle:=ff w;refine av.step ?_;simp only[S.wE,ax,bR,aS,X,F];rw[eT];obtain⟨z,e,_⟩:=f;exact J d y H2 c ⟨z,e⟩ g (by omega)
    | cons p r A=>
     intro i H2 y d w he O c f g;obtain⟨ad,u,P⟩:=eR w;obtain⟨a,e1,R⟩:=Cp (tk:=tk) u H2;refine av.step ?_;simp only[S.wE,ax,bR,aS,X,F];rw[eH];simp only[e1,R,X,aH,aK,aR];rw[cC _ _ _ 2 rfl rfl rfl];have K:=At.new H2 (.row (dU p));have L:=c.trans (AH.Ext.push H2 (.row (dU p)));have T:=f.frame (H':=H2.push (.row (dU p))) (λt _ _ h=>h.push _);generalize H2.push (.row (dU p))=v at *;have m0:Z v 1 false (.ptr H2.n 0)=some (.int .i64 p.1):=by rw[K.load];rfl
     have m1:Z v 1 false (.ptr H2.n 1)=some (.int .i64 p.2):=by rw[K.load];rfl
     simp only[X,show ∀k:Nat,aa k (.ptr H2.n 0)=some (.ptr H2.n (0+k))from λ_=>rfl,aaK,m0,m1,xR,Ws,cU];rw[show aB [.int .i64 0,.int .i64 0] [(0,1,.int .i64 (aa8 .i64 (p.1-s.at_))),(1,1,.int .i64 p.2)]=some (.agg (dU (aa8 .i64 (p.1-s.at_),p.2)))from rfl];simp only[X];rw[show b8 v false 2 1 [.int .i64 0,.int .i64 0] [(0,2,.agg (dU (aa8 .i64 (p.1-s.at_),p.2)))]=some (.ab .full 1 (dU (aa8 .i64 (p.1-s.at_),p.2)),v)from rfl];simp only[aH];refine T.app L.1 (m:=1) (news:=dU (aa8 .i64 (p.1-s.at_),p.2)) rfl rfl rfl (by decide) (by omega) (by omega) λy4 B D E=>?_;simp only[bu,X];rw[bJ,cN];refine A (i+1) B y4 (d++[(aa8 .i64 (p.1-s.at_),p.2)]) P (by simp[he]) (by omega) (E.ext rfl L) ?_ (λq G=>?_)
     ·rw[adD,aeK,aeQ];exact D
     · rcases ace.1 G with h|h
       ·exact g q h
       ·rw[aeO.1 h];exact j p (acN u)
   exact main l 0 H1 _ [] rfl rfl (aav _) N (cd.nil _ _ _) (λp j=>by cases j)
 · have loop : ∀(n:Nat)(a:Int)(y:I)(d:List (Int×Int)) (H2:AH),(s.len-a).toNat=n→0≤a→a≤16→AH.Ext H H2→cd H.n H2 2 y d.length (d.flatMap dU)→(∀p∈d,P8 p.2)→(d.length:Int)≤a →
       av (S.wF (ai C) (.aj (cW s b al)) Q) ([y,.int .i64 a],H2):=by
     intro n;induction n using aeR with
     | _ n A =>
      intro a y d H2 ae af ag c f g ah;refine av.step ?_;simp only[S.wF,xR,f1,g1,f7,g7,X,aS,F,ax,bR];apply ay<;>intro e
      · have ak:a<s.len:=by simpa using e
        obtain ⟨m,hm,am,em⟩:∃m,P2 m∧m≤8∧eP false [.int .i64 al,.int .i64 8]=some (.int .i64 m):=by
         rcases M with rfl|rfl|rfl|rfl|rfl
         ·exact⟨1,.inl rfl,by decide,rfl⟩
         ·exact⟨2,.inr (.inl rfl),by decide,rfl⟩
         ·exact⟨4,.inr (.inr (.inl rfl)),by decide,rfl⟩
         ·exact⟨8,.inr (.inr (.inr (.inl rfl))),by decide,rfl⟩
         ·exact⟨8,.inr (.inr (.inr (.inl rfl))),by decide,rfl⟩
        simp only[em,X];refine Co aq hT hm λr o an=>?_;have inner:∀r,P2 r→(r≤8→av (S.AW (ai C) (.aj (cW s b al)) ([y,.int .i64 a],H2) (av (S.wF (ai C) (.aj (cW s b al)) Q)) Q) ([.int .i64 r],H2)):=by
         refine P2.ind λr o U hle=>av.step ?_;simp only[S.AW,xR,f1,g1,X,cU,dC,F,ax,bR,aC];rw[bJ];apply ay<;>intro e
         · have h1:1<r:=by have:s.len-a<r:=(by simpa using e);omega
           obtain⟨_,ao,V⟩:=o.half h1;rw[V];simp only[X];exact U h1 (by omega)
         · have ap:r≤s.len-a:=by simpa using e
           have ar:=o.pos;have W:P8 r:=by unfold P2 at o;unfold P8;omega
           unfold S.IC;simp only[ax,bR];rw[show aB [.int .i64 0,.int .i64 0] [(0,1,.int .i64 a),(1,1,.int .i64 r)]=some (.agg (dU (a,r)))from rfl];simp only[X];rw[show b8 H2 false 2 1 [.int .i64 0,.int .i64 0] [(0,2,.agg (dU (a,r)))]=some (.ab .full 1 (dU (a,r)),H2)from rfl];simp only[aH];refine f.app c.1 (m:=1) (news:=dU (a,r)) rfl rfl rfl (by decide) (by omega) (by omega) λy4 B D E=>?_;simp only[bu,X];rw[bJ];refine A (s.len-(a+r)).toNat (by omega) (a+r) y4 (d++[(a,r)]) B rfl (by omega) (by omega) (E.ext rfl c) ?_ (λq G=>?_) (by rw[adD,aez];omega)
           ·rw[adD,aeK,aeQ];exact D
           · rcases ace.1 G with h|h
             ·exact g q h
             ·rw[aeO.1 h];exact W
        exact inner r o (by omega)
      · obtain⟨z,e,_⟩:=f;exact J d y H2 c ⟨z,e⟩ g (by omega)
   exact loop _ 0 _ [] H rfl (aen _) (by decide) (AH.Ext.refl _) (cd.nil _ _ _) (λp j=>by cases j) (by decide)
end
end Rb

namespace Rb
open Go
theorem bD.jd{id:Nat}{vars:List B}{wh xl:I}{c:LD}{H0 H:AH}{P:I→AH→Prop}{zs cs:List I}{N:Nat}(h:bD H id vars wh xl c)(a:KR id H0 H)(b:zs.length=N)(hc:cs.length=N)(hs:cs.all I.scalar=true)(d:∀j H',KR id H H'→bD H' id vars wh xl c→Bx H0 id xl H' j N cs→H.n≤j→P (.ptr j 0) H') :
  au (some (aK H true zs)) λx H1=>Do (Y H1 N x (.agg cs)) λH2=>P x H2:=by
 simp only[aK,aR,aH];rw[cC _ _ _ N hc hs b];simp only[X];exact d _ _ (KR.ext (AH.Ext.push _ _)) (h.ext (AH.Ext.push _ _)) (h.box a hc) (np _)
section
variable{C:Ctx}(aq:bT C)(hT:Cl (ai C) S.ba){id:Nat}{vars:List B}{wh xl:I}{c:LD}{H0 H:AH}{Q:ad}{w:Nat}
include aq hT
theorem Lw(h:bD H id vars wh xl c)(W:BD c (w+64)){s:cr}{b al a st:Int}(Y:P2 al)(hl:s.len≤16)(Z:cZ c.K a)(hs:1≤st∧st≤(c.sn:Nat))(ac:EX id vars wh xl H c 64 [] Q):ai C 182 [.ptr id 0,.agg (cW s b al),.int .i64 a,.int .i64 st] H Q:=by
 refine S.SA hT ?_;unfold S.f182;simp only[Cq,aH,Lu,X];refine Lv aq hT Y hl λl x H1 G e ad hc=>?_;obtain⟨tk,rfl⟩:=e;simp only[show aU false (.ab tk l.length (l.flatMap dU))=some (.int .i64 l.length)from rfl,X];have main:∀(r:List (Int×Int)) (i:Nat) (H2:AH) (c2:LD) (o:Int),l.drop i=r→i≤l.length→KR id H H2→bD H2 id vars wh xl c2→GE c c2 (4*i) []→cZ c2.K o →
   av (S.wo (ai C) (.ptr id 0) (.int .i64 a) (.int .i64 st) (.ab tk l.length (l.flatMap dU)) (.int .i64 l.length) Q) ([.int .i64 o,.int .i64 i],H2):=by
  intro r;induction r with
  | nil=>intro i H2 c2 o g ae k2 n g2 t;have hle:=ff g;refine av.step ?_;simp only[S.wo,ax,bR,aS,X,F];rw[eT];exact ac o c2 H2 k2 n (g2.mono (by omega) rfl) t
  | cons p r I=>
   intro i H2 c2 o g ae k2 n g2 t;obtain⟨a0,e,J⟩:=eR g;obtain⟨q,e1,af⟩:=Cp (tk:=tk) e H2;have u:BD c2 (w+4):=g2.bd (m:=w+4) (W.mono (by omega));refine av.step ?_;simp only[S.wo,ax,bR,aS,X,F];rw[eH];simp only[e1,af,X];refine n.jd k2 (cs:=dU p) rfl rfl rfl λjp a1 f ag L _=>?_;replace f:=k2.trans f;refine jc aq hT ag f λj a2 M ah aj a3=>?_;have v:=L.aO M;have d:jp≠j:=by have:=L.a.1;omega
   have ak:=f.trans M;simp only[show ∀k:Nat,aa k (.ptr jp 0)=some (.ptr jp (0+k))from λ_=>rfl,show ∀k:Nat,aa k (.ptr j 0)=some (.ptr j (0+k))from λ_=>rfl,aaK,X,v.ld (k:=0) rfl,v.ld (k:=1) rfl,ie];refine ob aq hT ah (w:=w+3) u λa4 y am=>?_;have z:=v.aO y;refine⟨z.ld rfl,z.ld rfl,?_⟩;refine(aj.aO y).st am (ak.trans y) (by decide) One.int λa5 an ao ap ar=>?_;have B:=ar _ _ _ d z;refine⟨B.ld rfl,B.ld rfl,?_⟩;refine ap.st ao an (by decide) One.int λa6 au aw az aA=>?_;have D:=aA _ _ _ d B;refine⟨D.ld rfl,D.ld rfl,?_⟩;refine az.st aw au (by decide) One.int λa7 aB aD aE aF=>?_;have N:=aF _ _ _ d D;refine⟨N.ld rfl,?_⟩;refine aE.st aD aB (by decide) One.int λa8 aG aI aJ aK=>?_;have aL:=aK _ _ _ d N;refine aJ.st aI aG (by decide) One.int λa9 O aM P aN=>?_;have aP:=aN _ _ _ d aL;rw[P.all];simp only[X];have a_:=u.A;refine iK aq hT aM (by show c2.A.length≤_;omega) ⟨4,c2.K,-1,a,-1,-1,aa8 .u64 p.1,0,p.2,0,0,st,0⟩ λba kb aQ=>?_;have aR:=aP.aO kb;rw[(P.aO kb).ld (k:=1) rfl];simp only[X,aR.ld (k:=0) rfl,gC,ie];have s0:=g2.s0;have r0:=g2.r0;have E:GE c2 (LD.add {c2 with K:=c2.K+1} ⟨4,c2.K,-1,a,-1,-1,aa8 .u64 p.1,0,p.2,0,0,st,0⟩) 1 []:=
    GE.Ck (im (by decide) (by decide) (iL (acP _)) cm (Z.mono (by omega)) cm cm (.inr (.inr ⟨hs.1,by omega⟩)) (.inr (.inr (ad p (acN e))))) (ke (.inl (by decide)))
   have R:=E.bd (m:=w+3) (u.mono (by omega));refine l9 aq hT aQ (w:=w+1) R _ _ (iL (acP _)) λr1 c5 aT T U gc rc=>?_;simp only[b5,X,F];have V:=(g2.trans E).trans gc;apply ay<;>intro _
   · simp only[aC,S.wm,ax,bR,bu,X];rw[bJ,cN];exact I (i+1) aT c5 r1 J (by omega) ((O.trans kb).trans T) U (V.mono (by omega) rfl) rc
   · refine r5 aq hT U (w:=w) (gc.bd (m:=w+1) (R.mono (by omega))) _ ((t.mono E.r0).mono gc.r0) rc λaV aW aX aY aZ gd rd=>?_;simp only[aC,S.wm,ax,bR,bu,X];rw[bJ,cN];exact I (i+1) aX aW aV J (by omega) (((O.trans kb).trans T).trans aY) aZ ((V.trans gd).mono (by omega) rfl) rd
 exact main l 0 H1 c (-1) rfl (aav _) (KR.ext G) (h.ext G) (GE.refl c) cm
theorem Wx(h:bD H id vars wh xl c)(G:BD c (w+48)){s:cr}{b al a st x:Int}(I:P2 al)(hl:s.len≤16)(J:cZ c.K a)(L:cZ c.K x)(hs:1≤st∧st≤(c.sn:Nat))(M:EU id vars wh xl H c 48 [] Q):ai C 185 [.ptr id 0,.agg (cW s b al),.int .i64 a,.int .i64 x,.int .i64 st] H Q:=by
 refine S.SD hT ?_;unfold S.f185;simp only[Cq,aH,Lu,X];refine Lv aq hT I hl λl y H1 u d N hc=>?_;obtain⟨tk,rfl⟩:=d;simp only[show aU false (.ab tk l.length (l.flatMap dU))=some (.int .i64 l.length)from rfl,X];have main:∀(r:List (Int×Int)) (i:Nat) (H2:AH) (c2:LD),l.drop i=r→i≤l.length→KR id H H2→bD H2 id vars wh xl c2→GE c c2 (3*i) [] →
   av (S.wq (ai C) (.ptr id 0) (.int .i64 a) (.int .i64 x) (.int .i64 st) (.ab tk l.length (l.flatMap dU)) (.int .i64 l.length) Q) ([.int .i64 i],H2):=by
  intro r;induction r with
  | nil=>intro i H2 c2 g O k2 n g2;have hle:=ff g;refine av.step ?_;simp only[S.wq,ax,aS,X,F];rw[eT];exact M c2 H2 k2 n (g2.mono (by omega) rfl)
  | cons p r P=>
   intro i H2 c2 g O k2 n g2;obtain⟨aI,d,R⟩:=eR g;obtain⟨q,e1,T⟩:=Cp (tk:=tk) d H2;have v:BD c2 (w+3):=g2.bd (m:=w+3) (G.mono (by omega));refine av.step ?_;simp only[S.wq,ax,aS,X,F];rw[eH];simp only[e1,T,X];refine n.jd k2 (cs:=dU p) rfl rfl rfl λjp aJ e U z _=>?_;replace e:=k2.trans e;refine jc aq hT U e λj aK B V W aL=>?_;have o:=z.aO B;have f:jp≠j:=by have:=z.a.1;omega
   have Y:=e.trans B;simp only[show ∀k:Nat,aa k (.ptr jp 0)=some (.ptr jp (0+k))from λ_=>rfl,show ∀k:Nat,aa k (.ptr j 0)=some (.ptr j (0+k))from λ_=>rfl,aaK,X,o.ld (k:=0) rfl,o.ld (k:=1) rfl,ie];refine W.st V Y (by decide) One.int λaM Z ac ad ae=>?_;have t:=ae _ _ _ f o;refine⟨t.ld rfl,t.ld rfl,?_⟩;refine ad.st ac Z (by decide) One.int λaN af ag ah aj=>?_;have D:=aj _ _ _ f t;refine⟨D.ld rfl,?_⟩;refine ah.st ag af (by decide) One.int λaP ak am an ao=>?_;have ap:=ao _ _ _ f D;refine an.st am ak (by decide) One.int λaQ ar au aw ay=>?_;have az:=ay _ _ _ f ap;simp only[az.ld (k:=0) rfl,X,gC,ie];have r0:=g2.r0;have s0:=g2.s0;refine l9 aq hT au (w:=w+1) v _ _ (L.mono r0) λr1 c5 aR E aA gc rc=>?_;refine(aw.aO E).st aA (ar.trans E) (by decide) One.int λaT aB aC bd aV=>?_;rw[bd.all];simp only[X];have aD:=gc.bd (m:=w+1) (v.mono (by omega));have aW:=aD.A;have aX:=gc.s0;have aY:=gc.r0;refine iK aq hT aC (by omega) ⟨5,-1,-1,a,r1,-1,aa8 .u64 p.1,0,p.2,0,0,st,0⟩ λaE aF aG=>?_;simp only[bu,X];rw[bJ,cN];refine P (i+1) aE _ R (by omega) (aB.trans aF) aG (((g2.trans gc).trans (GE.add (im (by decide) (by decide) cm cm (J.mono (by omega)) rc cm (.inr (.inr ⟨hs.1,by omega⟩)) (.inr (.inr (N p (acN d))))) (ke (.inl (by decide))))).mono (by omega) rfl)
 exact main l 0 H1 c rfl (aav _) (KR.ext u) (h.ext u) (GE.refl c)
end
end Rb

namespace Rb
open Go
def bV.pc(a:bV):I:=if a.what=7∨a.what=8∨a.what=9 then aQ aV.cells a.x.bf else aw
def bV.cells(a:bV):List I:=[J a.what,bP a.n,J a.k,J a.j,.str a.x.var,a.pc,J a.kind,J a.aW,J a.site,J a.V]
theorem bV.Wy(a:bV):a.pc.scalar=true:=by unfold bV.pc;split<;>rfl
theorem bV.bN(a:bV):a.cells=[J a.what,bP a.n,J a.k,J a.j,.str a.x.var,a.pc,J a.kind,J a.aW,J a.site,J a.V]:=rfl
theorem bV.len(a:bV):a.cells.length=10:=by rw[bV.bN];rfl
theorem bV.scalar(a:bV):a.cells.all I.scalar=true:=by show(true&&(true&&(true&&(true&&(true&&(a.pc.scalar&&(true&&(true&&(true&&(true&&true))))))))))=true;rw[a.Wy];rfl
section
variable(a:bV)(H:AH)
end
theorem lV.len(w:lV):w.cells.length=13:=rfl
section
variable{H:AH}{i:Nat}{w:lV}(h:At H i (.row w.cells))
include h
end
structure jN(vars:List B):Prop where
 l:vars.length≤32
 o:∀v∈vars,v.ok
 z:∀v∈vars,(bx v.type).2=0
 e:dH 0 vars≤65536
section
variable{C:Ctx}(aq:bT C)(hT:Cl (ai C) S.ba)
include aq hT
end
end Rb

namespace Rb
open Go
variable{H0 H:AH}{i1 i4 js:Nat}{xs px:I}{st D pr:List Int}
def Wz(w:lV)(a:Int)(px:I)(b:Bool):List I:=w.cells++[J a,px,.bool b]
structure RI(H0 H:AH)(i1 i4 js:Nat)(xs px:I)(st D pr:List Int):Prop where
 E:AH.Ext H0 H
 l1:H0.n≤i1
 l4:H0.n≤i4
 lj:H0.n≤js
 n14:i1≠i4
 xS:i1≠js
 xT:i4≠js
 r1:∃cs,At H i1 (.row cs)∧cs.length=16
 r4:At H i4 (.row (Wz rP 0 px false))
 r8:At H js (.row (D.map (bP)))
 st:cM H 1 xs st.length (st.map (bP))
 pr:cM H 1 px pr.length (pr.map (bP))
 ds:∀j,ct xs=some j→H0.n≤j∧j≠i1∧j≠i4∧j≠js∧ct px≠some j
 dp:∀j,ct px=some j→H0.n≤j∧j≠i1∧j≠i4∧j≠js
theorem RI.ext{H0 H H':AH}(h:RI H0 H i1 i4 js xs px st D pr)(k:AH.Ext H H'):RI H0 H' i1 i4 js xs px st D pr:=⟨h.E.trans k,h.l1,h.l4,h.lj,h.n14,h.xS,h.xT,by obtain⟨cs,a,b⟩:=h.r1;exact⟨cs,a.ext k,b⟩,h.r4.ext k,h.r8.ext k,h.st.ext k,h.pr.ext k,h.ds,h.dp⟩
theorem RI.push(h:RI H0 H i1 i4 js xs px st D pr)(v:Int)(hl:st.length≤1000000001){K:ad}(f:∀d H',RI H0 H' i1 i4 js d px (st++[v]) D pr→(∀i o,At H i o→ct xs≠some i→At H' i o)→K d H'):au (bH H true 1 8 xs (.ab .full 1 [bP v])) K:=by
 refine h.st.app (by decide) rfl rfl (by omega) (by omega) λd H' r1 g kp a=>f d H' ?_ (λi o b hi=>kp i o hi b);obtain⟨cs,W,b1⟩:=h.r1;have k:ct xs≠some i1:=λe=>(h.ds i1 e).2.1 rfl;have l:ct xs≠some i4:=λe=>(h.ds i4 e).2.2.1 rfl;have m:ct xs≠some js:=λe=>(h.ds js e).2.2.2.1 rfl;refine⟨Ext.aO h.E g (λi o hi b=>kp i o (λe=>by have:=(h.ds i e).1;omega) b),h.l1,h.l4,h.lj,h.n14,h.xS,h.xT,⟨cs,kp _ _ k W,b1⟩,kp _ _ l h.r4,kp _ _ m h.r8,?_,h.pr.aO (λj cs c b=>kp j _ (λe=>(h.ds j e).2.2.2.2 c) b),λj c=>?_,h.dp⟩
 ·rw[aeE,adD];exact r1
 · rcases a with a|a
   ·exact h.ds j (by rw[←a];exact c)
   · rw[a]at c;cases c;have hE:=h.E.1;have n:=W.1;have p:=h.r4.1;have q:=h.r8.1;exact⟨hE,by omega,by omega,by omega,λe=>by have:=h.pr.lt e;omega⟩
theorem RI.cut(r:List Int)(h:RI H0 H i1 i4 js xs px (st++r) D pr):∃a,c9 1 xs none (some (J (st.length:Nat))) none=some a∧RI H0 H i1 i4 js a px st D pr:=by obtain⟨a,e,b,c⟩:=h.st.cut (k:=st.length) (by rw[adD];omega);refine⟨a,e,h.E,h.l1,h.l4,h.lj,h.n14,h.xS,h.xT,h.r1,h.r4,h.r8,?_,h.pr,λj d=>h.ds j (by rw[←c];exact d),h.dp⟩;rw[Nat.mul_one,aeE,adF (by simp),adG (by simp)]at b;exact b
theorem RI.other{i1 i4 js i:Nat}(h:RI H0 H i1 i4 js xs px st D pr)(hi:H0.n≤i)(a:i1≠i)(b:i4≠i)(c:js≠i)(d:ct xs≠some i)(e:ct px≠some i)(o:bS):RI H0 (H.set i o) i1 i4 js xs px st D pr:=by obtain⟨cs,W,b1⟩:=h.r1;exact⟨h.E.set hi _,h.l1,h.l4,h.lj,h.n14,h.xS,h.xT,⟨cs,W.aZ a _,b1⟩,h.r4.aZ b _,h.r8.aZ c _,h.st.set d _,h.pr.set e _,h.ds,h.dp⟩
theorem RI.top{v:Int}(h:RI H0 H i1 i4 js xs px (st++[v]) D pr):∃p,aG none 1 xs (J st.length)=some p∧Z H 1 false p=some (bP v):=by obtain⟨p,e1,a⟩:=h.st.get (k:=st.length) (v:= bP v) (by simp);exact⟨p,e1,a H (AH.Ext.refl _)⟩
section
variable{C:Ctx}(aq:bT C)(hT:Cl (ai C) S.ba)
include aq hT
end
end Rb

namespace Rb
open Go
variable{H H1:AH}{xa xn xs:I}
structure CD where
 A:List bV
 L:List (List UInt8×Nat)
 nx:Nat
 ko:Int
 V:Int
def CD.add(c:CD)(a:bV):CD:={c with A:=c.A++[{a with V:=c.V}]}
def Lx(vars:List B)(xa xn xs:I)(c:CD):List I:=[aQ B.cells vars,xa,xn,xs,J c.nx,J c.ko,J c.V]
structure CR(H:AH)(id:Nat)(vars:List B)(xa xn xs:I)(c:CD):Prop where
 row:At H id (.row (Lx vars xa xn xs c))
 a:cM H 10 xa c.A.length (c.A.flatMap bV.cells)
 n:cM H 1 xn c.L.length (c.L.map λp=> .str p.1)
 s:cM H 1 xs c.L.length (c.L.map λp=> J (p.2:Int))
 da:∀j,ct xa=some j→j≠id∧ct xn≠some j∧ct xs≠some j
 dn:∀j,ct xn=some j→j≠id∧ct xs≠some j
 ds:∀j,ct xs=some j→j≠id
structure CF(id:Nat)(H:AH)(xa xn xs:I)(H':AH)(WA WB Cr:I):Prop where
 n:H.n≤H'.n
 k:∀i o,i≠id→ct xa≠some i→ct xn≠some i→ct xs≠some i→At H i o→At H' i o
 ra:∀j,ct WA=some j→ct xa=some j∨H.n≤j
 rn:∀j,ct WB=some j→ct xn=some j∨H.n≤j
 rs:∀j,ct Cr=some j→ct xs=some j∨H.n≤j
theorem CF.refl(id:Nat)(H:AH)(xa xn xs:I):CF id H xa xn xs H xa xn xs:=⟨np _,λ_ _ _ _ _ _ h=>h,λ_ h=> .inl h,λ_ h=> .inl h,λ_ h=> .inl h⟩
theorem CF.trans{id:Nat}{H H1 H2:AH}{xa xn xs c d f g l zs:I}(h:CF id H xa xn xs H1 c d f)(k:CF id H1 c d f H2 g l zs):CF id H xa xn xs H2 g l zs:=by
 refine⟨sl h.n k.n,λi o h1 m p r b=>k.k i o h1 ?_ ?_ ?_ (h.k i o h1 m p r b),λj a=>?_,λj a=>?_,λj a=>?_⟩
 · intro e;rcases h.ra i e with q|q
   ·exact m q
   ·have:=b.1;omega
 · intro e;rcases h.rn i e with q|q
   ·exact p q
   ·have:=b.1;omega
 · intro e;rcases h.rs i e with q|q
   ·exact r q
   ·have:=b.1;omega
 · rcases k.ra j a with q|q
   ·exact h.ra j q
   ·exact .inr (sl h.n q)
 · rcases k.rn j a with q|q
   ·exact h.rn j q
   ·exact .inr (sl h.n q)
 · rcases k.rs j a with q|q
   ·exact h.rs j q
   ·exact .inr (sl h.n q)
theorem CF.ext{id:Nat}(xa xn xs:I)(E:AH.Ext H H1):CF id H xa xn xs H1 xa xn xs:=⟨E.1,λ_ _ _ _ _ _ h=>h.ext E,λ_ h=> .inl h,λ_ h=> .inl h,λ_ h=> .inl h⟩
theorem CF.set{id:Nat}(xa xn xs:I)(o:bS):CF id H xa xn xs (H.set id o) xa xn xs:=⟨np _,λ_ _ h1 _ _ _ h=>h.aZ h1 o,λ_ h=> .inl h,λ_ h=> .inl h,λ_ h=> .inl h⟩
theorem CR.ext{id:Nat}{vars:List B}{c:CD}(h:CR H id vars xa xn xs c)(E:AH.Ext H H1):CR H1 id vars xa xn xs c:=⟨h.row.ext E,h.a.ext E,h.n.ext E,h.s.ext E,h.da,h.dn,h.ds⟩
theorem CR.put{id:Nat}{vars:List B}{c c':CD}(h:CR H id vars xa xn xs c)(d:c'.A=c.A)(b:c'.L=c.L):CR (H.set id (.row (Lx vars xa xn xs c'))) id vars xa xn xs c':=⟨h.row.set _,by rw[d];exact h.a.set (λe=>(h.da _ e).1 rfl) _,by rw[b];exact h.n.set (λe=>(h.dn _ e).1 rfl) _,by rw[b];exact h.s.set (λe=>(h.ds _ e) rfl) _,h.da,h.dn,h.ds⟩
section
variable{C:Ctx}(aq:bT C)(hT:Cl (ai C) S.ba){id:Nat}{vars:List B}
include aq hT
end
end Rb

namespace Rb
open Go
def CD.ex(vars:List B)(c:CD)(e:aA):CD:={c with A:=c.A++Ca vars c.L c.V e c.ko,ko:=aI (c.ko+BW e 0)}
def CD.pl(vars:List B)(c:CD)(x:aX):CD:={c with A:=c.A++xH vars c.L c.V x c.ko,ko:=aI (c.ko+jJ x)}
section
variable{C:Ctx}(aq:bT C)(hT:Cl (ai C) S.ba){id:Nat}{vars:List B}
include aq hT
end
end Rb

namespace Rb
open Go
variable{k:Nat}{a:bV}
def CD.st(vars:List B)(c:CD)(x:U):CD:=⟨c.A++Cg vars x c.A.length c.nx c.L c.ko,Lf c.L c.nx x,c.nx+Cf x,aI (c.ko+BX x 0),Le x⟩
def CD.bl(vars:List B)(c:CD)(l:List U):CD:=⟨c.A++rW vars l c.A.length c.nx c.L c.ko,c.L,c.nx+rT l,aI (c.ko+n5 l 0),pX l c.V⟩
theorem WC{A:List bV}(h:A[k]?=some a)(v:Int):(A.flatMap bV.cells).set (k*10+2) (J v)=(A.set k {a with k:=v}).flatMap bV.cells:=by
 induction A generalizing k with
 |nil=>simp at h
 | cons b r c=>
  cases k with
  | zero=>simp at h;subst h;rw[List.set_cons_zero,adn,adn,bV.bN,bV.bN];rfl
  | succ k=>rw[List.set_cons_succ,adn,adn,←c (by simpa using h),List.set_append_right _ _ (by rw[b.len];omega),b.len];congr 2;omega
theorem CR.patch{H:AH}{id:Nat}{vars:List B}{xa xn xs:I}{c:CD}(h:CR H id vars xa xn xs c)(f:c.A[k]?=some a)(v:Int):∃j H',aG none 10 xa (J k)=some (.ptr j (k*10))∧Y H 1 (.ptr j (k*10+2)) (J v)=some H'∧CF id H xa xn xs H' xa xn xs∧CR H' id vars xa xn xs {c with A:=c.A.set k {a with k:=v}}:=by
 have hk:=(ZX.1 f).1;obtain⟨j,cs,h1,b,l,p,y⟩:=h.a.addr hk;obtain⟨d1,d2,d3⟩:=h.da j h1;have z:k*10+2<c.A.length*10:=by omega
 refine⟨j,H.set j (.row (cs.set (k*10+2) (J v))),l,?_,⟨np _,λi o g1 g2 g3 g4 r=>r.aZ (λe=>g2 (by rw[e];exact h1)) _,λ_ q=> .inl q,λ_ q=> .inl q,λ_ q=> .inl q⟩,?_⟩
 ·rw[b.store,af ⟨rfl,rfl,rfl,by omega⟩];rfl
 · refine ⟨h.row.aZ (λe=>d1 e.symm) _,?_,h.n.set d2 _,h.s.set d3 _,h.da,h.dn,h.ds⟩;refine⟨by rw[KY bV.len],?_⟩;rcases h.a.2 with⟨tk,_,C,_⟩|⟨D,d,m,g,t,u,w,E⟩
   ·omega
   · rw[g]at h1;cases h1;have x:d=cs:=by have:=t.2.symm.trans b.2;simpa using this
     subst x;refine .inr ⟨j,d.set (k*10+2) (J v),m,by rw[g,ack],b.set _,by rw[ack];exact u,by rw[ack];exact w,?_⟩;show(d.set (k*10+2) (J v)).take ((c.A.set k {a with k:=v}).length*10)=(c.A.set k {a with k:=v}).flatMap bV.cells;rw[ack,List.take_set,p,WC f]
section
variable{C:Ctx}(aq:bT C)(hT:Cl (ai C) S.ba){id:Nat}{vars:List B}
include aq hT
end
end Rb

namespace Rb
open Go
section
variable(vars:List B)(L:List (List UInt8×Nat))(ln:Int)
end
def Kq(s s':RS):Prop:=s.stop=false→0≤s.fuel→s.fuel≤1000000→(s'.pr.length:Int)≤s.pr.length+s.fuel∧(s'.stop=false→0≤s'.fuel∧s'.fuel≤s.fuel∧(s'.pr.length:Int)+s'.fuel≤s.pr.length+s.fuel)
theorem Kq.trans{a b c:RS}(h:Kq a b)(k:Kq b c)(e:b.stop=true→c.pr=b.pr∧c.stop=true):Kq a c:=λf h1 g=>by
 obtain⟨i,j⟩:=h f h1 g;cases d:b.stop with
 | true=>obtain⟨e1,l⟩:=e d;rw[e1];exact⟨i,λz=>by rw[l]at z;cases z⟩
 | false=>obtain⟨m,n,y3⟩:=j d;obtain⟨o,z2⟩:=k d m (by omega);exact⟨by omega,λz=>by have:=z2 z;omega⟩
theorem Ks.same{s s':RS}(h:Ks s s')(hs:s.stop=true):s'.pr=s.pr∧s'.stop=true:=by have:=h.st hs;rw[this];exact⟨rfl,hs⟩
section
variable(vars:List B)(c:Nat)
end
end Rb

namespace Rb
open Go
section
variable{C:Ctx}(aq:bT C)(hT:Cl (ai C) S.ba){vars:List B}
include aq hT
end
end Rb

namespace Rb
open Go
section
variable{C:Ctx}(aq:bT C)(hT:Cl (ai C) S.ba){id:Nat}{vars:List B}{L:List (List UInt8)}{c:Nat}
include aq hT
end
end Rb

namespace Rb
open Go
section
variable{C:Ctx}(aq:bT C)(hT:Cl (ai C) S.ba){kw:List UInt8→Bool}(ek:∀x,bC (ai C) 22 [.str x] (.bool (kw x)))
include aq hT
include ek
end
end Rb

namespace Rb
open Go
section
variable{C:Ctx}(aq:bT C)(hT:Cl (ai C) S.ba){kw:List UInt8→Bool}(ek:∀x,bC (ai C) 22 [.str x] (.bool (kw x)))
include aq hT
include ek
end
end Rb

namespace Rb
open Go
theorem Ly{p:cH}(b:p.ok)(h:(cV cw p).2=0):jN p.vars∧∀t∈p.bo,vB p.vars [] t:=by
 obtain⟨h1,c,d⟩:=K9 cw h;have a:jI cw p.vars=if fF cw [] p.vars≠0 then fF cw [] p.vars else if dH 0 p.vars>65536 then 9 else 0:=by unfold jI;rw[bM];exact Lg cw 70000 rfl p.vars [] 0 0 (by decide) (by simp) (by omega)
 rw[c]at a;have hf:fF cw [] p.vars=0:=by
  by_cases e:fF cw [] p.vars=0
  ·exact e
  ·rw[af e]at a;exact a.symm
 rw[ak (by simpa using hf)]at a;refine⟨⟨h1,b.1.2,Lh cw hf,?_⟩,d⟩;by_cases e:dH 0 p.vars>65536
 ·rw[af e]at a;cases a
 ·omega
end Rb

namespace Rb
open Go
variable{x:aX}{t:T}{N:Nat}{cs ds:List I}
def c8(vars:List B):I:= .ab .dead vars.length (c_ vars (dI 0 vars))
def h0(C:Ctx)(id:Nat)(vars:List B)(L:List (List UInt8))(e:aA):Prop:=∀{xl:I}{c:LD}{H:AH}{Q:ad}{w:Nat}{l:Int},bD H id vars (c8 vars) xl c→c.L.map adp=L→c.V=l→BD c (w+dt e)→EX id vars (c8 vars) xl H c (dt e-8) (gi l e) Q→ai C 121 [.ptr id 0,.agg e.cells] H Q
theorem jO(e:aA):16≤dt e:=by rw[Lj];omega
theorem WD{vars:List B}(a:(cS vars x).1=0):∃n v,vars.findIdx? (λv=>v.E==x.var)=some n∧vars[n]?=some v∧cS vars x=ho v.type x.bf:=by
 unfold cS at a ⊢;rcases pQ (λv:B=>v.E==x.var) vars with⟨i,v,h1,b,c⟩|⟨h1,b⟩
 · rw[b]at a ⊢;dsimp only at a ⊢;by_cases hs:eW v.type≠0
   ·rw[af hs]at a;exact absurd a hs
   ·exact⟨i,v,h1,c,by rw[ak hs]⟩
 · rw[b]at a;have:(6:Int)=0:=a;omega
theorem WE{p:aV}{r:List aV}(h:(ho t (p::r)).1=0):ho t (p::r)=ho (dD t p).2 r:=by
 rw[ho];by_cases c:(dD t p).1≠0
 ·rw[ho,af c]at h;exact absurd h c
 ·rw[ak c]
theorem Lz{a r:Int}(b:P2 a)(c:P2 r):∃m,P2 m∧eP false [.int .i64 a,.int .i64 r]=some (.int .i64 m):=by
 rcases b with rfl|rfl|rfl|rfl|rfl<;>rcases c with rfl|rfl|rfl|rfl|rfl;all_goals first
  |exact⟨1,.inl rfl,rfl⟩
  |exact⟨2,.inr (.inl rfl),rfl⟩
  |exact⟨4,.inr (.inr (.inl rfl)),rfl⟩
  |exact⟨8,.inr (.inr (.inr (.inl rfl))),rfl⟩
  |exact⟨16,.inr (.inr (.inr (.inr rfl))),rfl⟩
theorem Bx.xU{id j N n o:Nat}{vars:List B}{wh xl:I}{c:LD}{H0 H:AH}(b:Bx H0 id xl H j N cs)(h:bD H id vars wh xl c)(f:KR id H0 H)(e:ds.length=n)(hs:ds.all I.scalar=true)(g:o+n≤N){P:AH→Prop}
  (i:∀H',KR id H0 H'→bD H' id vars wh xl c→Bx H0 id xl H' j N (setCells cs o ds)→(∀d M ds,d≠j→Bx H0 id xl H d M ds→Bx H0 id xl H' d M ds)→P H'):Do (Y H n (.ptr j o) (.agg ds)) P:=by
 rw[b.a.store,af ⟨rfl,e,hs,by rw[b.len];exact g⟩,X];exact i _ (f.box b.lo _) (h.other b.a b.ne b.nx _) (b.set _ (by rw[Ch];exact b.len)) λd M ds e b2=>b2.other e _
theorem LA(h:ds.length=cs.length):setCells cs 0 ds=ds:=by rw[rm (by omega)];rfl
theorem LB:∀{l:List B}{a:Int}{n:Nat}{v:B}{g:cr},l[n]?=some v→(dI a l)[n]?=some g→g.len=(bx v.type).1.1
 | u::r,a,0,v,g,h,k=>by simp at h;subst h;simp[dI]at k;rw[←k]
 |u::r,a,n+1,v,g,h,k=>LB (l:=r) (by simpa using h) (by simpa[dI]using k)
theorem eu(k:Nat)(cs:List I):aa k (.aj cs)=some (.aj (cs.drop k)):=rfl
theorem ef(i k:Nat):aa k (.ptr i 0)=some (.ptr i k):=by simp[aa]
theorem bD.WG{id:Nat}{vars:List B}{wh xl:I}{c:LD}{H0 H:AH}{P:I→AH→Prop}{zs:List I}(h:bD H id vars wh xl c)(a:KR id H0 H)(b:zs.length=N)(d:∀j H',KR id H H'→bD H' id vars wh xl c→Bx H0 id xl H' j N zs→H.n≤j→P (.ptr j 0) H'):au (some (aK H true zs)) P:=⟨_,_,rfl,d _ _ (KR.ext (AH.Ext.push _ _)) (h.ext (AH.Ext.push _ _)) (h.box a b) (np _)⟩
theorem oa.at_{s:cr}(h:oa t s)(a:Int):oa t {s with at_:=a}:=⟨h.bits,h.len,h.bit,h.wid⟩
section
variable{C:Ctx}(aq:bT C)(hT:Cl (ai C) S.ba){id:Nat}{vars:List B}{xl:I}{c:LD}{H:AH}{Q:ad}{w:Nat}
include aq hT
theorem r9(a2:jN vars){L:List (List UInt8)}(ct:x.ok)(a3:(cS vars x).1=0)(hE:∀p∈x.bf,∀e∈p.bB,h0 C id vars L e)(h:bD H id vars (c8 vars) xl c)(hL:c.L.map adp=L){l:Int}(hl:c.V=l)(U:BD c (w+e_ x))
  (ag:∀s b al c' H',KR id H H'→bD H' id vars (c8 vars) xl c'→GE c c' (e_ x) (gL l x)→cZ c'.K b→P2 al→oa (cS vars x).2 s→(cS vars x).2.lay→Q (.agg (cW s b al)) H'):ai C 180 [.ptr id 0,.agg x.cells] H Q:=by
 obtain⟨dl,dm⟩:=aX.fS ct;obtain⟨n,v,cu,ah,cv⟩:=WD a3;have bH:=acN ah;have cw:v.type.lay:=KJ (by have:=a2.o v bH;cases v;exact this.2) (a2.z v bH);have cx:=(ZX.1 ah).1;obtain⟨g,cy,g1,g2,g3⟩:=K3 (a:=0) ah;rw[cv]at a3 ag;rw[Wn]at U ag;rw[r2]at ag;refine S.Sy hT ?_;unfold S.f180;simp only[B0,aH];refine h.WG KR.refl (N:=8) rfl λq H1 k1 h1 b1 l1=>?_;simp only[aD,ef,X,h1.vs];refine S.A0 hT ?_;refine Bs (p:=λv=>v.E==x.var) (λu _ R au=>S.SL hT (by
   unfold S.f214;have U:aL H1 false 7 (.agg u.cells)=some (.aj u.cells,H1):=by unfold aL;rw[af ⟨rfl,u.len⟩];rfl
   have l0:Z H1 1 false (.aj (u.cells.drop 0))=some (.str u.E):=rC u;have l1:Z H1 1 false (.aj (x.cells.drop 0))=some (.str x.var):=VB x H1;rw[U];simp only[aH,aa,X,l0,l1,jD];exact au)) (by have:=a2.l;omega) ?_
 rw[cu];simp only[ga,aD,ef,X,h1.vs];rw[dP cx];simp only[X,eS,eu];rw[JJ v H1 ah];simp only[X];refine h1.jd k1 (cs:=v.type.cells) (N:=6) rfl v.type.len v.type.scalar λy H2 k2 bI bt l2=>?_;have bK:=k1.trans k2;have bL:=b1.aO k2;have bM:q≠y:=by have:=b1.a.1;omega
 simp only[bI.Wq,X];have cz:aG none 3 (c8 vars) (.int .i64 n)=some (.aj ((c_ vars (dI 0 vars)).drop (n*3))):=by show(if 0≤(n:Int)∧(n:Int)<(vars.length:Nat)then some (I.aj ((c_ vars (dI 0 vars)).drop ((n:Int).toNat*3)))else none)=_;rw[af ⟨by omega,by omega⟩,aa9]
 rw[cz,g3];simp only[X,eu,ac2,adx];rw[show Z H2 2 true (.aj (.int .i64 g.at_ :: .int .i64 g.len::cy))=some (.agg [.int .i64 g.at_,.int .i64 g.len])from rq (a:=[I.int .i64 g.at_,.int .i64 g.len]) rfl];simp only[X];rw[show aB [.int .i64 0,.int .i64 0,.int .i64 0,.bool false,.int .i64 0,.int .i64 0] [(0,2,.agg [.int .i64 g.at_,.int .i64 g.len])]=some (.agg ({ij with at_:=g.at_,len:=g.len}:cr).cells)from rfl];simp only[X];rw[show aB [.int .i64 0,.int .i64 0,.int .i64 0,.bool false,.int .i64 0,.int .i64 0,.int .i64 0,.int .i64 0] [(0,6,.agg ({ij with at_:=g.at_,len:=g.len}:cr).cells),(6,1,.int .i64 (-1)),(7,1,.int .i64 16)]=some (.agg (cW {ij with at_:=g.at_,len:=g.len} (-1) 16))from rfl];simp only[X];refine bI.jd bK (cs:=cW {ij with at_:=g.at_,len:=g.len} (-1) 16) (N:=8) rfl rfl rfl λjs cA a4 cB bs l3=>?_;have cC:=bK.trans a4;have cD:=bL.aO a4;have cE:=bt.aO a4;have W:q≠js:=by have:=bL.a.1;omega
 have J:y≠js:=by have:=bt.a.1;omega
 simp only[X,VC,dL];have main:∀(r:List aV)(i:Nat)(t:T)(s:cr)(b al:Int)(c2:LD)(H2:AH)(w1:Nat)(k1:List dw),x.bf.drop i=r→t.lay→(ho t r).1=0→ho t r=ho v.type x.bf→KR id H H2→bD H2 id vars (c8 vars) xl c2→Bx H id xl H2 q 8 [.int .i64 0,.int .i64 0,.int .i64 0,.bool false,.int .i64 0,.int .i64 0,.int .i64 0,.int .i64 0]→Bx H id xl H2 y 6 t.cells→Bx H id xl H2 js 8 (cW s b al)→oa t s→cZ c2.K b→P2 al→GE c c2 w1 k1→w1+fX r=fX x.bf→k1++kd l r=kd l x.bf →
   av (S.nK (ai C) (.ptr id 0) (.ptr q 0) (.ptr y 0) (.ptr js 0) (aQ aV.cells x.bf) (.int .i64 x.bf.length) Q) ([.int .i64 i],H2):=by
  intro r;induction r with
  | nil=>intro i t s b al c2 a5 w1 k1 a6 ht a7 aw az a8 aF a9 M hs aI aJ g4 hw hk;have hle:=ff a6;refine av.step ?_;simp only[S.nK,ax,aS,X,F,aC];rw[eT];unfold S.Ie;simp only[ef,X,M.ld (k:=7) rfl,M.ld (k:=0) rfl];refine Co aq hT (.inr (.inr (.inr (.inr rfl)))) λr a_ _=>?_;refine⟨M.ld rfl,?_⟩;obtain⟨m,hm,em⟩:=Lz aJ a_;simp only[em,X,ef];refine M.st a8 az (by decide) One.int λam Y aK D cF=>?_;rw[show(cW s b al).set 7 (.int .i64 m)=cW s b m from rfl]at D;rw[D.all];simp only[X];refine(cF _ _ _ W aF).xU aK Y rfl rfl (by show 0+8≤8;decide) λba bb an bO _=>?_;rw[show setCells [.int .i64 0,.int .i64 0,.int .i64 0,.bool false,.int .i64 0,.int .i64 0,.int .i64 0,.int .i64 0] 0 (cW s b m)=cW s b m from rfl]at bO;rw[bO.all];simp only[X];rw[←aw]at ag;rw[fX]at hw;rw[kd]at hk;exact ag s b m c2 ba bb an (g4.mono (by omega) (by rw[←hk,adJ])) aI hm hs ht
  | cons p r bP=>
   intro i t s b al c2 a5 w1 k1 a6 ht a7 aw az a8 aF a9 M hs aI aJ g4 hw hk;obtain⟨cG,bQ,bR⟩:=eR a6;have cH:=acN bQ;obtain⟨cI,aM⟩:=VS a7;have bS:=WE a7;rw[fX]at hw;rw[kd]at hk;have bT:BD c2 (w+(l6 p+fX r)):=g4.bd (m:=w+(l6 p+fX r)) (U.mono (by omega));refine av.step ?_;simp only[S.nK,ax,aS,X,F];rw[eH,dP cG];simp only[X];rw[en aV.len (by decide) _ bQ];simp only[X];refine a8.jd az (cs:=p.cells) (N:=2) rfl p.len p.scalar λjp am aP aK bU dn=>?_;have Y:=az.trans aP;have aR:=aF.aO aP;have ab:=a9.aO aP;have D:=M.aO aP;have dp:y≠jp:=by have:=a9.a.1;omega
   have dq:js≠jp:=by have:=M.a.1;omega
   have dr:q≠jp:=by have:=aF.a.1;omega
   have cJ:p.cells[1]?=some (aQ aA.cells p.bB):=by rw[aV.bN];rfl
   simp only[ef,X,bU.ld cJ,dL,b5,F];have nx:∀H',av (S.nK (ai C) (.ptr id 0) (.ptr q 0) (.ptr y 0) (.ptr js 0) (aQ aV.cells x.bf) (.int .i64 x.bf.length) Q) ([.int .i64 ((i+1:Nat):Int)],H')→S.wi (ai C) ([.int .i64 i],a5) (av (S.nK (ai C) (.ptr id 0) (.ptr q 0) (.ptr y 0) (.ptr js 0) (aQ aV.cells x.bf) (.int .i64 x.bf.length) Q)) Q [] H':=λH' hl=>by unfold S.wi;simp only[ax,bu,X];rw[bJ,cN];exact hl
   rcases VJ ht cI with⟨bV,aT,e,aU,he,ao,bW⟩|⟨bc,aT,n2,f,s2,f1,f2,f3,ao,bX⟩
   · rw [ak (by simp[bV])];obtain⟨ex,hex⟩:∃ex,p.bB=[ex]:=aec.1 bV;have au:l6 p=dt ex:=by rw[Lk,hex,di,di,aaz]
     have cK:rZ l p=gi l ex:=by rw[Ll,hex,dJ,dJ,adJ]
     have ds:=jO ex;rw[show aG none 8 (aQ aA.cells p.bB) (.int .i64 0)=some (eS aA.cells 8 p.bB 0)from dP (i:=0) (by omega)];simp only[X];rw[en aA.len (by decide) _ (show p.bB[0]?=some ex by rw[hex];rfl)];simp only[X];refine hE p cH ex (by rw[hex];exact aeO.2 rfl) aK (by rw[g4.L];exact hL) (l:=l) (by rw[g4.V];exact hl) (w:=w+fX r) (bT.mono (by omega)) λr1 be ba j an g6 bY=>?_;have bZ:BD be (w+fX r+8):=g6.bd (m:=w+fX r+8) (bT.mono (by omega));refine jc aq hT an (Y.trans j) λbg b0 aW bh cL l7=>?_;have bi:=(Y.trans j).trans aW;have ac:=(ab.aO j).aO aW;have bj:=(D.aO j).aO aW;have bk:=(aR.aO j).aO aW;have bl:y≠bg:=by have:=(ab.aO j).a.1;omega
     have b2:js≠bg:=by have:=(D.aO j).a.1;omega
     have b3:q≠bg:=by have:=(aR.aO j).a.1;omega
     have b4:t.cells[4]?=some (.int .i64 t.b6):=by rw[T.bN];rfl
     have cM:t.cells[5]?=some (aQ T.cells (e::aU)):=by rw[T.bN,←he];rfl
     simp only[ef,X,ac.ld b4,ie];refine cL.st bh bi (by decide) One.int λb7 bm bn cO O=>?_;refine⟨(O _ _ _ bl ac).ld b4,?_⟩;refine cO.st bn bm (by decide) One.int λbo bp bq cP ad=>?_;rw[cP.all];simp only[X];have du:=bZ.A;refine iK aq hT bq (by omega) ⟨17,-1,-1,r1,-1,-1,aa8 .u64 t.b6,0,0,0,0,0,0⟩ λdv aZ cQ=>?_;have g7:=GE.add (im (S:=be.sn) (d:= -1) (d2:= -1) (b:= -1) (c:= -1) (n:=aa8 .u64 t.b6) (o:=0) (z:=0) (r:=0) (t:=0) (s:=0) (l:=0) (k:=17) (by decide) (by decide) cm cm bY cm cm (.inr (.inl (by decide))) (.inr (.inl (by decide)))) (ke (.inr (by decide)));have b8:=g7.bd (m:=w+fX r+7) (bZ.mono (by omega));generalize LD.add be ⟨17,-1,-1,r1,-1,-1,aa8 .u64 t.b6,0,0,0,0,0,0⟩=dx at *;have cR:=bp.trans aZ;have b9:=(ad _ _ _ bl (O _ _ _ bl ac)).aO aZ;have cT:=(ad _ _ _ b2 (O _ _ _ b2 bj)).aO aZ;have cU:=(ad _ _ _ b3 (O _ _ _ b3 bk)).aO aZ;simp only[b9.ld cM,X];rw[show aG none 6 (aQ T.cells (e::aU)) (.int .i64 0)=some (eS T.cells 6 (e::aU) 0)from dP (by simp)];simp only[X];rw[en T.len (by decide) _ (show(e::aU)[0]?=some e from rfl)];simp only[X];refine b9.xU cQ cR e.len e.scalar (by decide) λdy cV cX br b_=>?_;rw[LA (by rw[e.len,t.len])]at br;have cY:=b_ _ _ _ J.symm cT;have c0:=b_ _ _ _ bM cU;rw[br.all];simp only[X];refine BC aq hT e bW.ok _ _ ?_;simp only[aY,adV,adW,X,ie];refine l9 aq hT cX (w:=w+fX r+5) (b8.mono (by omega)) _ _ (bY.mono g7.r0) λc1 ca dz a0 cb g8 cc=>?_;have c3:BD ca (w+fX r+5):=g8.bd (m:=w+fX r+5) (b8.mono (by omega));have cd:=cV.trans a0;have ce:=br.aO a0;have bv:=cY.aO a0;have cf:=c0.aO a0;have dA:t.kind=5:=aT;have c4:s.bits=false:=by
      cases c5:s.bits with
      |false=>rfl
      |true=>have:=(hs.bits c5).1;omega
     have fin:∀(G:Int)(P:LD)(B:AH),KR id H B→bD B id vars (c8 vars) xl P→Bx H id xl B q 8 [.int .i64 0,.int .i64 0,.int .i64 0,.bool false,.int .i64 0,.int .i64 0,.int .i64 0,.int .i64 0]→Bx H id xl B y 6 e.cells→Bx H id xl B js 8 (cW s G al)→cZ P.K G→GE c P (w1+dt ex) (k1++gi l ex) →
       S.wj (ai C) (.ptr js 0) (.int .i64 (bx e).1.1) ([.int .i64 i],a5) (av (S.nK (ai C) (.ptr id 0) (.ptr q 0) (.ptr y 0) (.ptr js 0) (aQ aV.cells x.bf) (.int .i64 x.bf.length) Q)) Q [] B:=by
      intro G P B bw ap c6 c7 bz c9 g9;unfold S.wj;simp only[ef,X];refine bz.st ap bw (by decide) One.int λcg bA bC ae ar=>?_;rw[show(cW s G al).set 1 (.int .i64 (bx e).1.1)=cW {s with len:=(bx e).1.1} G al from rfl]at ae;simp only[ae.ld (k:=7) rfl,X];refine Co aq hT (.inr (.inr (.inr (.inr rfl)))) λr a_ _=>?_;refine⟨ae.ld rfl,?_⟩;obtain⟨m,hm,em⟩:=Lz aJ a_;simp only[em,X,ef];refine ae.st bC bA (by decide) One.int λch da db ci of=>?_;rw[show(cW {s with len:=(bx e).1.1} G al).set 7 (.int .i64 m)=cW {s with len:=(bx e).1.1} G m from rfl]at ci;refine nx ch ?_;refine bP (i+1) e _ G m P ch (w1+dt ex) (k1++gi l ex) bR bW ?_ ?_ da db (of _ _ _ W (ar _ _ _ W c6)) (of _ _ _ J (ar _ _ _ J c7)) ci ⟨λe=>(by rw[c4]at e;cases e),λ_=>rfl,hs.bit,hs.wid⟩ c9 hm g9 (by omega) (by rw[←hk,cK,aef])
      ·rw[ao]at aM;exact aM
      ·rw[←aw,bS,ao]
     simp only[bv.ld (k:=6) rfl,X,b5,F,aC];have cj:=((g4.trans g6).trans g7).trans g8;apply ay<;>intro _
     · refine bv.st cb cd (by decide) One.int λB bw ap bz ck=>?_;exact fin c1 ca B bw ap (ck _ _ _ W cf) (ck _ _ _ J ce) bz cc (cj.mono (by omega) (by simp only[adJ]))
     · refine r5 aq hT cb (w:=w+fX r) (c3.mono (by omega)) _ (((aI.mono g6.r0).mono g7.r0).mono g8.r0) cc λdc P B a1 ap g9 dd=>?_;refine(bv.aO a1).st ap (cd.trans a1) (by decide) One.int λcg bA bC ae ar=>?_;exact fin dc P cg bA bC (ar _ _ _ W (cf.aO a1)) (ar _ _ _ J (ce.aO a1)) ae dd ((cj.trans g9).mono (by omega) (by simp only[adJ]))
   · rw [af (by simp[bc])];have de:=(ZX.1 f2).1;have df:=(ZX.1 f3).1;have bE:t.cells[3]?=some (aQ aE.cells t.aN):=by rw[T.bN];rfl
     simp only[ef,X,ab.ld bE];refine S.A1 hT ?_;refine fieldIndex (p:=λf=>f.E==p.field) (λu _ R au=>S.SM hT (by
       unfold S.f215;have U:aL am false 9 (.agg u.cells)=some (.aj u.cells,am):=by unfold aL;rw[af ⟨rfl,u.len⟩];rfl
       have l0:Z am 1 false (.aj (u.cells.drop 0))=some (.str u.E):=rz u;have l1:Z am 1 false (.ptr jp 0)=some (.str p.field):=bU.ld (by rw[aV.bN];rfl);rw[U];simp only[aH,ef,show aa 0 (.aj u.cells)=some (.aj (u.cells.drop 0))from rfl,X,l0,l1,jD];exact au)) (T.B6 ht.ok).2.2 ?_
     rw[f1];simp only[ga,ab.all,X];refine VQ aq hT ht aT _ _ ?_;simp only[aY,adV,adW,X];rw[dP df];simp only[X];rw[en (cells:=cr.cells) (λ_=>rfl) (by decide) _ f3];simp only[X];refine aK.jd Y (cs:=s2.cells) (N:=6) rfl rfl rfl λbF ba j an cl dB=>?_;have bb:=Y.trans j;have dg:js≠bF:=by have:=D.a.1;omega
     have dh:y≠bF:=by have:=ab.a.1;omega
     have dj:q≠bF:=by have:=aR.a.1;omega
     simp only[ef,X,cl.ld (k:=0) rfl,(D.aO j).ld (k:=0) rfl,bu];refine cl.st an bb (by decide) One.int λb0 bi bh cn bG=>?_;have bj:=bG _ _ _ dg (D.aO j);have ac:=bG _ _ _ dh (ab.aO j);have bk:=bG _ _ _ dj (aR.aO j);rw[show s2.cells.set 0 (.int .i64 (aa8 .i64 (s2.at_+s.at_)))=({s2 with at_:=aa8 .i64 (s2.at_+s.at_)}:cr).cells from rfl]at cn;rw[cn.all];simp only[X,ac.ld bE];rw[dP de];simp only[X,eS,eu];rw[KQ b0 f2];simp only[X];refine bj.xU bh bi rfl rfl (by show 0+6≤8;decide) λb7 bm bn co O=>?_;have cp:=O _ _ _ J ac;rw[show setCells (cW s b al) 0 ({s2 with at_:=aa8 .i64 (s2.at_+s.at_)}:cr).cells=cW {s2 with at_:=aa8 .i64 (s2.at_+s.at_)} b al from rfl]at co;refine⟨cp.ld bE,KQ b7 f2,?_⟩;refine cp.xU bn bm f.type.len f.type.scalar (by decide) λbo bp bq cq ad=>?_;rw[LA (by rw[f.type.len,t.len])]at cq;refine nx bo ?_;have dC:l6 p=0:=by rw[Lk,bc,di]
     have dk:rZ l p=[]:=by rw[Ll,bc,dJ]
     refine bP (i+1) f.type _ b al c2 bo w1 k1 bR bX ?_ ?_ bp bq (ad _ _ _ bM (O _ _ _ W bk)) cq (ad _ _ _ J.symm co) ((Wp ht aT f2 f3 bX).at_ _) aI aJ g4 (by omega) (by rw[←hk,dk];rfl)
     ·rw[ao]at aM;exact aM
     ·rw[←aw,bS,ao]
 refine main x.bf 0 v.type _ (-1) 16 c cA 0 [] rfl cw a3 rfl cC cB cD cE bs ⟨λe=>(by cases e),λ_=>?_,⟨aen 0,(by decide:(0:Int)≤7)⟩,aen 0⟩ cm (.inr (.inr (.inr (.inr rfl)))) (GE.refl c) (aaK _) rfl;exact show g.len=_ from LB ah g1
end
end Rb

namespace Rb
open Go
variable{e:aA}{l:Int}{x:I}
theorem cM.row{H:AH}{sz n j:Nat}{cells:List I}(h:cM H sz x n cells)(a:ct x=some j):∃cs,At H j (.row cs):=by
 rcases h.2 with⟨tk,_,_,rfl⟩|⟨i,cs,m,rfl,b,_⟩
 ·cases a
 ·cases a;exact⟨cs,b⟩
theorem bD.WH{H H':AH}{id:Nat}{vars:List B}{wh xl x:I}{c:LD}(h:bD H id vars wh xl c)(k:∀i o,ct x≠some i→At H i o→At H' i o)(g:∀j,ct x=some j→∃cs,At H j (.row cs))(m:ct x≠some id)(n:∀j,ct x=some j→ct xl≠some j):bD H' id vars wh xl c:=by obtain⟨xo,xs,a,b,d,e⟩:=h.x;have f:∀t p q,At H t (.tok p q)→At H' t (.tok p q):=λt p q ht=>k t _ (λe=>by obtain⟨cs,hc⟩:=g t e;exact absurd (hc.2.symm.trans ht.2) (by intro e;cases e)) ht;exact⟨⟨xo,xs,k _ _ m a,b.frame f,d.frame f,e⟩,h.l.aO λj cs r s=>k _ _ (λe=>n j e r) s,h.ld,h.lo⟩
theorem WI(h:hq e=true)(a:e.kind=3):e.bp.length=2:=by have:=(pW h).2.2.2.1;unfold hU at this;rw[af a]at this;have b:(e.bp.length:Int)=2:=this;omega
theorem WJ(h:hq e=true)(f:5≤e.kind):(e.kind≠5→1≤e.bp.length)∧(e.kind=8→2≤e.bp.length)∧e.kind≤8∧e.bp.length≤2:=by
 obtain⟨_,a,_,hl,_⟩:=pW h;unfold hU at hl;rw[bM]at hl;by_cases b:e.kind=5
 · rw[af (.inr b)]at hl;have c:(e.bp.length:Int)=0:=hl;exact⟨λe=>absurd b e,λe=>by omega,a,by omega⟩
 · rw [bM]at hl;by_cases d:e.kind=6∨e.kind=7
   · rw[af d]at hl;have c:(e.bp.length:Int)=1:=hl;exact⟨λ_=>by omega,λe=>by omega,a,by omega⟩
   · rw[ak d,cj]at hl;have c:(e.bp.length:Int)=2:=hl;exact⟨λ_=>by omega,λe=>by omega,a,by omega⟩
theorem LC(vars:List B){L:List (List UInt8)}{k:Int}{x:aX}(h:vP vars L k x):∀p∈x.bf,∀e∈p.bB,vE vars L e:=(Ld vars L).1 ((pV vars L k x).1 h).2.2
theorem GE.fr(c:LD):GE c {c with K:=c.K+1} 1 []:=⟨⟨[],(adJ _).symm,aav _,λ_ a=>by cases a⟩,aaD _,np _,rfl,(adJ _).symm,aav _,rfl,rfl,rfl⟩
theorem LF(h:hq e=true)(d:e.kind≤2):gi l e=[]:=by
 obtain⟨h1,_,b,a,_⟩:=pW h;have c:e.bp=[]:=by unfold hU at a;rw[bM,bM,bM,bM]at a;exact aeS (Int.ofNat.inj a)
 rw[xJ,r2,b (by omega),c,kd,dJ,bM];rfl
theorem WK{e x y:aA}(h:hq e=true)(c:e.kind=3)(a:e.bp=[x,y]):gi l e=gi l x++gi l y:=by obtain⟨h1,_,b,d,_⟩:=pW h;rw[xJ,r2,b (by omega),a,kd,dJ,dJ,dJ,bM];simp
theorem WL(h:hq e=true)(b:e.kind=4)(c:hR (aI (10+e.kind)) e.aW=true):gi l e=gL l e.place++[⟨14,0,l,e.place⟩]:=by
 obtain⟨h1,_,f,a,_⟩:=pW h;have d:e.bp=[]:=by unfold hU at a;rw[bM,cj]at a;exact aeS (Int.ofNat.inj a)
 have:e.aW=0:=by rw[b]at c;exact eq_of_beq c
 rw[xJ,d,dJ,cj,b,this];simp
theorem WM(a:5≤e.kind):gi l e=gL l e.place++dJ l e.bp++[⟨10+e.kind,e.aW,l,e.place⟩]:=by rw[xJ,cj]
theorem WN{a b:Int}(c:0≤b){P:I→Prop}(h:∀v,P (.int .u64 v)):Do (M .shl (.int .u64 a) (.int .i64 b)) P:=by rw[rk _ _ _ _ c,X];exact h _
section
variable{C:Ctx}(aq:bT C)(hT:Cl (ai C) S.ba){id:Nat}{vars:List B}{xl:I}{c:LD}{H:AH}{Q:ad}{w:Nat}
include aq hT
theorem WO(I:jN vars){L:List (List UInt8)}{x:aX}(J:x.ok)(K:vP vars L 14 x)(hE:∀p∈x.bf,∀e∈p.bB,h0 C id vars L e)(h:bD H id vars (c8 vars) xl c)(hL:c.L.map adp=L)(hl:c.V=l)(i:BD c (w+(e_ x+256)))
  (o:EX id vars (c8 vars) xl H c (e_ x+100) (gL l x++[⟨14,0,l,x⟩]) Q):ai C 176 [.ptr id 0,.agg x.cells] H Q:=by
 obtain⟨M,O,_⟩:=(pV vars L 14 x).1 K;refine S.Su hT ?_;unfold S.f176;simp only[B0,aH,KF,X];refine r9 aq hT I J M hE h hL hl (w:=w+256) (i.mono (by omega)) λs b al c1 H1 k1 h1 g1 P R hs T=>?_;obtain⟨U,an,_,_⟩:=xL O;obtain⟨z0,W,_,_⟩:=xK T hs U;have q:BD c1 (w+256):=g1.bd (m:=w+256) (i.mono (by omega));refine h1.jd k1 (cs:=cW s b al) (N:=8) rfl rfl rfl λj H2 k2 Y f l2=>?_;have Z:=k1.trans k2;rw[f.all];simp only[X];refine r6 aq hT Y (w:=w+200) (q.mono (by omega)) P λa c3 ao g aa g3 ab=>?_;have r:BD c3 (w+200):=g3.bd (m:=w+200) (q.mono (by omega));rw[(f.aO g).all];simp only[X];refine r7 aq hT aa (l:=l) (by rw[g3.V,g1.V];exact hl) (w:=w+199) (r.mono (by omega)) _ _ (by decide) x λap ac t ad g4 e1 ar=>?_;have u:BD ac (w+199):=g4.bd (m:=w+199) (r.mono (by omega));have y:=(f.aO g).aO t;refine⟨y.all,?_⟩;refine Lw aq hT ad (w:=w+100) (u.mono (by omega)) R W (ab.mono g4.r0) ⟨by omega,by omega⟩ λv c5 au z A g5 hv=>?_;have B:BD c5 (w+100):=g5.bd (m:=w+100) (u.mono (by omega));have d:=y.aO z;have D:=((Z.trans g).trans t).trans z;have E:=((g1.trans g3).trans g4).trans g5;simp only[ef,X,d.ld (k:=3) rfl,d.ld (k:=4) rfl,d.ld (k:=5) rfl,ie,F];refine ay (λ_=>?_) (λ_=>o _ _ _ D A (E.mono (by omega) (by simp only[adJ])) hv);refine l9 aq hT A (w:=w+98) B _ _ hv λv6 ae av G af g6 ag=>?_;have ah:BD ae (w+98):=g6.bd (m:=w+98) (B.mono (by omega));refine⟨(d.aO G).ld rfl,?_⟩;refine Cn aq hT hs.wid λn=>?_;refine l9 aq hT af (w:=w+96) ah _ _ ag λaw ax az aj ak g7 am=>?_;exact o _ _ _ ((D.trans G).trans aj) ak (((E.trans g6).trans g7).mono (by omega) (by simp only[adJ])) am
theorem WQ(bi:jN vars){L:List (List UInt8)}(bj:e.ok)(hf:hq e=true)(P:5≤e.kind)(bk:vP vars L (aI (10+e.kind)) e.place)(hE:∀p∈e.place.bf,∀e∈p.bB,h0 C id vars L e)(bl:∀k∈e.bp,h0 C id vars L k)(h:bD H id vars (c8 vars) xl c)(hL:c.L.map adp=L)(hl:c.V=l)(aB:BD c (w+(e_ e.place+di e.bp+256)))
  (bm:EX id vars (c8 vars) xl H c (e_ e.place+di e.bp+100) (gL l e.place++dJ l e.bp++[⟨10+e.kind,e.aW,l,e.place⟩]) Q):ai C 177 [.ptr id 0,.agg e.cells] H Q:=by
 obtain⟨bo,aU,_⟩:=(pV vars L _ e.place).1 bk;obtain⟨bq,br,cr,cu⟩:=WJ hf P;obtain⟨⟨cv,aD⟩,bt⟩:=aA.fS bj;have bv:aI (10+e.kind)=10+e.kind:=bJ;rw[bv]at aU;refine S.Sv hT ?_;unfold S.f177;have ag:∀p:Nat,aa p (.aj e.cells)=some (.aj (e.cells.drop p)):=λ_=>rfl;simp only[rK,aH,ag,rL,X];refine r9 aq hT bi bt bo hE h hL hl (w:=w+(di e.bp+256)) (aB.mono (by omega)) λs b al c1 H1 k1 h1 g1 bw cw hs bx=>?_;obtain⟨_,_,bz,bA⟩:=xL aU;have aV:=bz (by omega);have cx:=bA (by omega) (by omega);obtain⟨z0,cy,z2,z3⟩:=xK bx hs (.inr aV);have bC:P8 s.len:=by have:=z2 aV;unfold P8;omega
 refine h1.jd k1 (cs:=cW s b al) (N:=8) rfl rfl rfl λjs H2 k2 bE bs l2=>?_;have bF:=k1.trans k2;simp only[xt,X,dL];have tail:∀(t:LD)(u:AH)(x:I)(rs:List Int),rs.length=e.bp.length→KR id H u→bD u id vars (c8 vars) xl t→Bx H id xl u js 8 (cW s b al)→cM u 1 x rs.length (rs.map (I.int .i64))→(∀j,ct x=some j→H.n≤j∧j≠id∧ct xl≠some j∧j≠js)→(∀r∈rs,cZ t.K r)→cZ t.K b→GE c t (e_ e.place+di e.bp) (gL l e.place++dJ l e.bp)→S.AO (ai C) (.ptr id 0) (.aj e.cells) (.ptr js 0) Q [x] u:=by
  intro t u x rs cz R ah ac O z ad ak g4;have ao:BD t (w+256):=g4.bd (m:=w+256) (aB.mono (by omega));unfold S.AO;simp only[ag,lf,X,cU,bu,ax];rw[wrap_i64 (n:=e.kind-5) (by omega) (by omega),wrap_i64 (n:=e.kind-5+6) (by omega) (by omega)];refine jc aq hT ah R λae ap T ar aE bG=>?_;have aX:=R.trans T;have aY:=ac.aO T;have am:js≠ae:=by have:=ac.a.1;omega
  have cA:∀(g:AH),(∀j cs,ct x=some j→At u j (.row cs)→At g j (.row cs))→cM g 1 x rs.length (rs.map (I.int .i64)):=λg k=>O.aO k;have aZ:∀j cs,ct x=some j→At u j (.row cs)→At ap j (.row cs):=λj cs o E=>T.2 _ _ (z j o).2.1 E;have a0:∀j,ct x=some j→j≠ae:=λj o=>by have:=O.lt o;omega
  have fin:∀(kk b2 c2:Int)(g:AH),(kk=6∨(8≤kk∧kk≤10))→cZ t.K b2→cZ t.K c2→KR id H g→bD g id vars (c8 vars) xl t→Bx H id xl g js 8 (cW s b al)→Bx H id xl g ae 13 (⟨kk,-1,-1,-1,b2,c2,0,0,0,0,0,0,0⟩:bn).cells→S.wc (ai C) (.ptr id 0) (.aj e.cells) (.ptr js 0) (.ptr ae 0) Q [] g:=by
   intro kk b2 c2 g aD au bH G J B af;unfold S.wc;rw[B.all];simp only[X];refine r6 aq hT J (w:=w+254) ao ak λa D M aF U g7 bI=>?_;have a1:BD D (w+254):=g7.bd (m:=w+254) (ao.mono (by omega));have aJ:=B.aO aF;simp only[ef,X];refine(af.aO aF).st U (G.trans aF) (by decide) One.int λcB bK aK bL bM=>?_;have a2:=bM _ _ _ am aJ;simp only[a2.ld (k:=1) rfl,ag,lf,Kg,rL,X,bu];rw[wrap_i64 (n:=10+e.kind) (by omega) (by omega)];refine ob aq hT aK (w:=w+253) a1 λcC aL bN=>?_;have a3:=a2.aO aL;have a4:=GE.fr D;have a5:=a4.bd (m:=w+252) (a1.mono (by omega));refine⟨a3.ld rfl,trivial,trivial,trivial,trivial,?_⟩;refine r7 aq hT bN (l:=l) (by show D.V=l;rw[g7.V,g4.V];exact hl) (w:=w+251) a5 _ _ (by omega) e.place λcD W aM bO a6 bP es=>?_;have a7:=a3.aO aM;have bQ:BD W (w+251):=a6.bd (m:=w+251) (a5.mono (by omega));refine⟨a7.ld rfl,trivial,?_⟩;refine((bL.aO aL).aO aM).st bO ((bK.trans aL).trans aM) (by decide) One.int λcE bS bT bU bV=>?_;have bW:=bV _ _ _ am a7;refine⟨bW.ld rfl,trivial,?_⟩;refine bU.st bT bS (by decide) One.int λcF bX bY bZ cG=>?_;refine⟨trivial,?_⟩;refine bZ.st bY bX (by decide) One.int λcH b0 b1 b3 cI=>?_;refine b3.st b1 b0 (by decide) One.int λcJ b4 b6 a8 cK=>?_;rw[a8.all];simp only[X];have cL:W.K=D.K+1:=bP;have b7:W.sn=D.sn+1:=es;have cO:=g7.r0;have cP:=g7.s0;have cQ:=bQ.A;have cR:((D.sn+1:Nat):Int)=((W.sn:Nat):Int):=by rw[b7]
   refine iK aq hT b6 (by omega) ⟨kk,D.K,-1,a,b2,c2,0,0,s.len,e.aW,0,((D.sn+1:Nat):Int),0⟩ λb9 a9 b_=>?_;rw[(a8.aO a9).ld (k:=1) rfl];simp only[X];have ca:GE W (W.add ⟨kk,D.K,-1,a,b2,c2,0,0,s.len,e.aW,0,((D.sn+1:Nat):Int),0⟩) 1 []:=GE.add (im (by omega) (by omega) (iL (by omega)) cm (bI.mono (by omega)) (au.mono (by omega)) (bH.mono (by omega)) (.inr (.inr ⟨by omega,by omega⟩)) (.inr (.inr bC))) (ke (.inl (by omega)));exact bm _ _ b9 (b4.trans a9) b_ (((((g4.trans g7).trans a4).trans a6).trans ca).mono (by omega) (by simp only[adJ])) (iL (show D.K<W.K by omega))
  have k2:∀(kk b2:Int)(g:AH),(e.kind=5∧kk=6∨(5<e.kind∧8≤kk∧kk≤10))→cZ t.K b2→KR id H g→bD g id vars (c8 vars) xl t→Bx H id xl g js 8 (cW s b al)→cM g 1 x rs.length (rs.map (I.int .i64))→Bx H id xl g ae 13 (⟨kk,-1,-1,-1,b2,-1,0,0,0,0,0,0,0⟩:bn).cells→S.we (ai C) (.ptr id 0) (.aj e.cells) (.ptr js 0) (.ptr ae 0) [x] Q [] g:=by
   intro kk b2 g aD au G J B Y af;have a_:kk=6∨(8≤kk∧kk≤10):=by rcases aD with h|h<;>omega
   unfold S.we;simp only[ag,lf,X,b5,F,ax,aC];refine ay (λaK=>?_) (λ_=>fin kk b2 (-1) g a_ au cm G J B af);have cb:e.kind=8:=by simpa using aK
   have:=br cb;obtain⟨r1,aw⟩:∃r1,rs[1]?=some r1:=⟨_,aaQ (show 1<rs.length by omega)⟩
   obtain⟨p,e1,aN⟩:=Y.get (k:=1) (v:= .int .i64 r1) (by rw[aaP,aw];rfl);change aG none _ _ (.int .i64 1)=some _ at e1;simp only[e1,aN g (AH.Ext.refl _),X,ef];refine af.st J G (by decide) One.int λM an U aP az=>?_;exact fin kk b2 r1 M a_ au (ad r1 (acN aw)) an U (az _ _ _ am B) aP
  simp only[ag,lf,X,dc,F,aC];apply ay<;>intro ba
  · have cc:e.kind≠5:=by simpa using ba
    have:=bq cc;simp only[ef,X];rw[wrap_i64 (n:=e.kind-6) (by omega) (by omega),wrap_i64 (n:=e.kind-6+8) (by omega) (by omega)];refine aE.st ar aX (by decide) One.int λg G J af bb=>?_;have cd:∀j cs,ct x=some j→At ap j (.row cs)→At g j (.row cs):=λj cs o E=>by obtain⟨a,b,d,f⟩:=z j o;exact(bb j cs.length cs (a0 j o) ⟨E,b,d,a,rfl⟩).a
    have Y:=(O.aO aZ).aO cd;obtain⟨r0,bc⟩:∃r0,rs[0]?=some r0:=⟨_,aaQ (show 0<rs.length by omega)⟩
    obtain⟨p,e1,aN⟩:=Y.get (k:=0) (v:= .int .i64 r0) (by rw[aaP,bc];rfl);change aG none _ _ (.int .i64 0)=some _ at e1;simp only[e1,aN g (AH.Ext.refl _),X,ef];refine af.st J G (by decide) One.int λM an U aP az=>?_;have ce:∀j cs,ct x=some j→At g j (.row cs)→At M j (.row cs):=λj cs o E=>by obtain⟨a,b,d,f⟩:=z j o;exact(az j cs.length cs (a0 j o) ⟨E,b,d,a,rfl⟩).a
    exact k2 (e.kind-6+8) r0 M (.inr ⟨by omega,by omega,by omega⟩) (ad r0 (acN bc)) an U (az _ _ _ am (bb _ _ _ am aY)) (Y.aO ce) aP
  · have be:e.kind=5:=by simpa using ba
    refine k2 6 (-1) ap (.inl ⟨be,rfl⟩) cm aX ar aY (O.aO aZ) ?_;rw[be]at aE;exact aE
 have main:∀(r:List aA)(i:Nat)(t:LD)(u:AH)(x:I)(rs:List Int)(w1:Nat)(k1:List dw),e.bp.drop i=r→rs.length=i→i≤e.bp.length→KR id H u→bD u id vars (c8 vars) xl t→Bx H id xl u js 8 (cW s b al)→cM u 1 x rs.length (rs.map (I.int .i64))→(∀j,ct x=some j→H.n≤j∧j≠id∧ct xl≠some j∧j≠js)→(∀r∈rs,cZ t.K r)→cZ t.K b→GE c t w1 k1→w1+di r=e_ e.place+di e.bp→k1++dJ l r=gL l e.place++dJ l e.bp →
   av (S.wg (ai C) (.ptr id 0) (.aj e.cells) (.ptr js 0) (aQ aA.cells e.bp) (.int .i64 e.bp.length) Q) ([x,.int .i64 i],u):=by
  intro r;induction r with
  | nil=>intro i t u x rs w1 k1 aR bg cf R ah ac O z ad ak g4 hw P;have hle:=ff aR;refine av.step ?_;simp only[S.wg,ax,bR,aS,X,F,aC];rw[eT];rw[di]at hw;rw[dJ]at P;exact tail t u x rs (by omega) R ah ac O z ad ak (g4.mono (by omega) (by rw[←P,adJ]))
  | cons y r cg=>
   intro i t u x rs w1 k1 aR bg cf R ah ac O z ad ak g4 hw P;obtain⟨ch,bh,ci⟩:=eR aR;have cj:=acN bh;rw[di]at hw;rw[dJ]at P;have ao:BD t (w+dt y):=g4.bd (m:=w+dt y) (aB.mono (by omega));have cS:=jO y;refine av.step ?_;simp only[S.wg,ax,bR,aS,X,F];rw[eH,dP ch];simp only[X];rw[en aA.len (by decide) _ bh];simp only[X];refine ah.jd R (cs:=y.cells) (N:=8) rfl y.len (aA.scalar y) λcT ap T ar ck bG=>?_;rw[ck.all];simp only[X];refine bl y cj ar (by rw[g4.L];exact hL) (l:=l) (by rw[g4.V];exact hl) ao λr1 cl g aT J g6 aw=>?_;have G:=(R.trans T).trans aT;have B:=(ac.aO T).aO aT;have Y:cM g 1 x rs.length (rs.map (I.int .i64)):=O.aO λj cs o E=>aT.2 _ _ (z j o).2.1 (T.2 _ _ (z j o).2.1 E);rw[show b8 g false 1 1 [.int .i64 0] [(0,1,.int .i64 r1)]=some (.ab .full 1 [.int .i64 r1],g)from rfl];simp only[aH];refine Y.app (by decide) rfl rfl (by omega) (by omega) λcn M co cp kp Z=>?_;have U:=J.WH kp (λj o=>Y.row o) (λe=>(z id e).2.1 rfl) (λj o=>(z j o).2.2.1);have an:KR id H M:=⟨sl G.1 cp,λi cs hi E=>kp _ _ (λe=>by have:=(z i e).1;have:=E.1;omega) (G.2 i cs hi E)⟩
   have aJ:Bx H id xl M js 8 (cW s b al):=⟨kp _ _ (λe=>(z js e).2.2.2 rfl) B.a,B.ne,B.nx,B.lo,B.len⟩
   simp only[bu,X];rw[bJ,cN];refine cg (i+1) cl M cn (rs++[r1]) (w1+dt y) (k1++gi l y) ci (by simp[bg]) (by omega) an U aJ ?_ (λj o=>?_) (λq cq=>?_) (ak.mono g6.r0) ((g4.trans g6).mono (by omega) rfl) (by omega) (by rw[←P,aef])
   ·rw[adD,aeE];exact co
   · rcases Z with Z|Z
     ·exact z j (by rw[←Z];exact o)
     · rw[Z]at o;cases o;obtain⟨xo,xs,a,_⟩:=J.x;exact⟨G.1,by have:=a.1;omega,λe=>by have:=J.l.lt e;omega,by have:=B.a.1;omega⟩
   · rcases ace.1 cq with h|h
     ·exact(ad q h).mono g6.r0
     ·rw[aeO.1 h];exact aw
 exact main e.bp 0 c1 H2 _ [] (e_ e.place) (gL l e.place) rfl rfl (aav _) bF bE bs (cM.nil _ _) (λj o=>by cases o) (λr Z=>by cases Z) bw g1 rfl rfl
theorem LG(s:jN vars)(L:List (List UInt8)):∀e:aA,e.ok→vE vars L e→h0 C id vars L e:=by
 refine aA.ind λe A B he D=>?_;obtain⟨⟨ab,E⟩,t⟩:=aA.fS he;have G:=aX.fS t;obtain⟨w1,w2,w3,I,J⟩:=(V3 vars L e).1 D;have f:∀k∈e.bp,h0 C id vars L k:=λk hk=>A k hk (E k hk) ((xI vars L).1 J k hk);intro xl c H Q w l h hL hl a b;have j:=Lj e;refine S.RO hT ?_;unfold S.f121;simp only[rK,aH,lb,lf,Ke,BN,X,b5,F];have ac:∀p:Nat,aa p (.aj e.cells)=some (.aj (e.cells.drop p)):=λ_=>rfl;apply ay<;>intro hc
 · refine Cm aq hT h (w:=w+15) (a.mono (by omega)) _ λr c1 H1 k1 h1 g1 r1=>?_;exact b _ _ _ k1 h1 (g1.mono (by omega) (LF w1 (by simp at hc;omega)).symm) r1
 have c1:¬e.kind=1:=by simpa using hc
 apply ay<;>intro hc
 · have c2:e.kind=2:=by simpa using hc
   refine xQ aq hT h (a.mono (aeT _ _)) (by rw[hL];exact w3 c2) λr K=>?_;exact b _ _ _ KR.refl h ((GE.refl c).mono (by omega) (LF w1 (by omega)).symm) K
 have c2:¬e.kind=2:=by simpa using hc
 apply ay<;>intro hc
 · have c3:e.kind=3:=by simpa using hc
   match n:e.bp,WI w1 c3 with
   | [x,y],_=>
    rw[n]at f j;have M:aG none 8 (aQ aA.cells [x,y]) (.int .i64 0)=_:=dP (i:=0) (by simp);have N:aG none 8 (aQ aA.cells [x,y]) (.int .i64 1)=_:=dP (i:=1) (by simp);have O:∀H,Z H 8 true (eS aA.cells 8 [x,y] 0)=_:=λH=>en aA.len (by decide) H (show [x,y][0]?=some x from rfl);have ld1:∀H,Z H 8 true (eS aA.cells 8 [x,y] 1)=_:=λH=>en aA.len (by decide) H (show [x,y][1]?=some y from rfl);have u:∀H,Z H 1 false (.aj (e.cells.drop 7))=some (aQ aA.cells [x,y]):=λH=>by rw[xt,n]
    rw[di,di,di]at j;have ad:=jO x;have ae:=jO y;simp only[u,X,M,O];refine f x (by simp) h hL hl (w:=w+(dt y+16)) (a.mono (by omega)) λr1 d1 H1 k1 h1 g1 d=>?_;have v:BD d1 (w+(dt y+16)):=g1.bd (m:=w+(dt y+16)) (a.mono (by omega));simp only[Kf,u,X,N,ld1];refine f y (by simp) h1 (by rw[g1.L];exact hL) (l:=l) (by rw[g1.V];exact hl) (w:=w+16) (v.mono (by omega)) λaf d2 H2 k2 P g2 R=>?_;have T:BD d2 (w+16):=g2.bd (m:=w+16) (v.mono (by omega));refine⟨trivial,?_⟩;refine r5 aq hT P (w:=w+15) T _ (d.mono g2.r0) R λag d3 ah U W g3 Y=>?_;exact b _ _ _ ((k1.trans k2).trans U) W (((g1.trans g2).trans g3).mono (by omega) (by rw[WK w1 c3 n,adJ])) Y
 have c3:¬e.kind=3:=by simpa using hc
 have ai:=(pW w1).1;have g:=I (by omega);rw[cj]at j;have z:∀p∈e.place.bf,∀k∈p.bB,h0 C id vars L k:=λp o k hk=>B p o k hk ((G.2 p o).2 k hk) (LC vars g p o k hk);apply ay<;>intro hc
 · have q:e.kind=4:=by simpa using hc
   rw[q]at g;rw[show Z H 2 true (.aj (e.cells.drop 5))=some (.agg e.place.cells)from rL e H];simp only[X];refine WO aq hT s t g z h hL hl (w:=w) (a.mono (by omega)) λr d1 H1 k1 h1 g1 d=>?_;exact b _ _ _ k1 h1 (g1.mono (by omega) (WL w1 q w2).symm) d
 · have q:¬e.kind=4:=by simpa using hc
   simp only[BO,X];refine WQ aq hT s he w1 (by omega) g z f h hL hl (w:=w) (a.mono (by omega)) λr d1 H1 k1 h1 g1 d=>?_;exact b _ _ _ k1 h1 (g1.mono (by omega) (WM (by omega)).symm) d
end
end Rb

namespace Rb
open Go
variable{l:Int}{e:aA}{x:U}
theorem WR(v:Int):∃u,cO .xor (.int .u64 v)=some (.int .u64 u):=⟨_,rfl⟩
theorem r_{l:List aA}{i:Nat}(h:l[i]?=some e):aG none 8 (aQ aA.cells l) (.int .i64 i)=some (eS aA.cells 8 l i)∧∀H,Z H 8 true (eS aA.cells 8 l i)=some (.agg e.cells):=⟨dP (ZX.1 h).1,λH=>en aA.len (by decide) H h⟩
section
variable{C:Ctx}(aq:bT C)(hT:Cl (ai C) S.ba){id:Nat}{vars:List B}{xl:I}{c:LD}{H:AH}{Q:ad}{w:Nat}
include aq hT
theorem WS(ae:jN vars){L:List (List UInt8)}{x:aX}(af:x.ok)(ag:vP vars L 3 x)(hE:∀p∈x.bf,∀e∈p.bB,h0 C id vars L e)(ah:h0 C id vars L e)(h:bD H id vars (c8 vars) xl c)(hL:c.L.map adp=L)(hl:c.V=l)(D:BD c (w+(e_ x+dt e+256)))
  (aj:EU id vars (c8 vars) xl H c (e_ x+dt e+200) (gL l x++gi l e++[⟨3,0,l,x⟩]) Q):ai C 125 [.ptr id 0,.agg x.cells,.agg e.cells] H Q:=by
 obtain⟨ak,am,_⟩:=(pV vars L 3 x).1 ag;have aY:=jO e;refine S.RT hT ?_;unfold S.f125;simp only[B0,rK,aH,KF,X];refine r9 aq hT ae af ak hE h hL hl (w:=w+(dt e+256)) (D.mono (by omega)) λs b al c1 H1 k1 h1 g1 an E hs ao=>?_;obtain⟨ap,_,_,_⟩:=xL am;obtain⟨z0,G,_,_⟩:=xK ao hs ap;have I:BD c1 (w+(dt e+256)):=g1.bd (m:=w+(dt e+256)) (D.mono (by omega));refine h1.jd k1 (cs:=cW s b al) (N:=8) rfl rfl rfl λj H2 k2 ar au l2=>?_;have av:=k1.trans k2;simp only[BO,X];refine ah ar (by rw[g1.L];exact hL) (l:=l) (by rw[g1.V];exact hl) (w:=w+256) (I.mono (by omega)) λv c3 aZ J aw g3 hv=>?_;have M:BD c3 (w+256):=g3.bd (m:=w+256) (I.mono (by omega));have b3:=au.aO J;rw[b3.all];simp only[X];refine r6 aq hT aw (w:=w+254) M (an.mono g3.r0) λa i a0 O az g4 aA=>?_;have P:BD i (w+254):=g4.bd (m:=w+254) (M.mono (by omega));refine r7 aq hT az (l:=l) (by rw[g4.V,g3.V,g1.V];exact hl) (w:=w+253) P _ _ (by decide) x λR c5 T U g5 e1 a1=>?_;have z:BD c5 (w+253):=g5.bd (m:=w+253) (P.mono (by omega));have q:=(b3.aO O).aO T;have aB:=((av.trans J).trans O).trans T;have aC:=((g1.trans g3).trans g4).trans g5;have W:=(hv.mono g4.r0).mono g5.r0;have Y:=aA.mono g5.r0;have qO:1≤((i.sn+1:Nat):Int)∧((i.sn+1:Nat):Int)≤(c5.sn:Nat):=⟨by omega,by omega⟩
 simp only[ef,X,q.ld (k:=3) rfl,F];have fin:∀(u:Int)(d:LD)(f:AH)(m:Nat),m≤80→KR id R f→bD f id vars (c8 vars) xl d→GE c5 d m []→cZ d.K u→S.vu (ai C) (.ptr id 0) (.ptr j 0) (.int .i64 a) (.int .i64 ((i.sn+1:Nat):Int)) Q [.int .i64 u] f:=by intro u d f m hm g A g6 hu;have a2:=g6.s0;unfold S.vu;rw[(q.aO g).all];simp only[X,ax];refine Wx aq hT A (w:=w+50) (g6.bd (m:=w+98) (z.mono (by omega))) E G (Y.mono g6.r0) hu ⟨qO.1,by omega⟩ λZ aD r B g7=>?_;exact aj _ _ ((aB.trans g).trans r) B (((aC.trans g6).trans g7).mono (by omega) (by simp only[adJ]))
 apply ay<;>intro _
 · rw[q.all];simp only[X];refine Lw aq hT U (w:=w+100) (z.mono (by omega)) E G Y qO λo d f g A g6 aE=>?_;have aa:BD d (w+100):=g6.bd (m:=w+100) (z.mono (by omega));have t:=q.aO g;simp only[t.ld (k:=5) rfl,t.ld (k:=4) rfl,X];refine Cn aq hT hs.wid λn=>?_;refine⟨t.ld rfl,?_⟩;refine WN hs.bit.1 λn2=>?_;obtain⟨n3,aF⟩:=WR n2;simp only[aF,X];refine l9 aq hT A (w:=w+98) aa _ _ aE λa3 Z aD r B g7 aG=>?_;have ab:BD Z (w+98):=g7.bd (m:=w+98) (aa.mono (by omega));have y:=t.aO r;simp only[y.ld (k:=5) rfl,y.ld (k:=4) rfl,X,ie];refine Cn aq hT hs.wid λn4=>?_;refine⟨y.ld rfl,?_⟩;refine l9 aq hT B (w:=w+96) ab _ _ ((W.mono g6.r0).mono g7.r0) λa4 aI a5 ac aJ g8 aK=>?_;have ad:BD aI (w+96):=g8.bd (m:=w+96) (ab.mono (by omega));refine⟨(y.aO ac).ld rfl,?_⟩;refine l9 aq hT aJ (w:=w+94) ad _ _ aK λa6 aL a7 aM aN g9 aP=>?_;have aQ:BD aL (w+94):=g9.bd (m:=w+94) (ad.mono (by omega));refine r5 aq hT aN (w:=w+93) aQ _ ((aG.mono g8.r0).mono g9.r0) aP λra aR aS aT aU aV aW=>?_;exact fin ra aR aS 71 (by decide) ((((g.trans r).trans ac).trans aM).trans aT) aU (((((g6.trans g7).trans g8).trans g9).trans aV).mono (by decide) rfl) aW
 ·exact fin v c5 R 0 (by decide) KR.refl U (GE.refl _) W
theorem WT(az:jN vars){L:List (List UInt8)}(z:x.ok)(bx:x.kind=4∧x.bc.length=1∨x.kind=6∧x.bc.length=2)(aB:vP vars L x.kind x.place)(hE:∀p∈x.place.bf,∀e∈p.bB,h0 C id vars L e)(ac:∀e∈x.bc,h0 C id vars L e)(h:bD H id vars (c8 vars) xl c)(hL:c.L.map adp=L)(hl:c.V=l)(ad:BD c (w+(e_ x.place+di x.bc+256)))
  (aD:EU id vars (c8 vars) xl H c (e_ x.place+di x.bc+200) (gL l x.place++dJ l x.bc++[⟨x.kind,x.aW,l,x.place⟩]) Q):ai C 126 [.ptr id 0,.agg x.cells] H Q:=by
 obtain⟨aE,aF,_⟩:=(pV vars L _ x.place).1 aB;obtain⟨aI,_,_,_⟩:=U.fS z;refine S.RU hT ?_;unfold S.f126;simp only[nY,aH,gJ,nZ,X];refine r9 aq hT az aI aE hE h hL hl (w:=w+(di x.bc+256)) (ad.mono (by omega)) λs b al c1 H1 k1 h1 g1 aJ bz hs aK=>?_;obtain⟨aL,_,aM,aN⟩:=xL aF;have aP:=aM (by omega);obtain⟨z0,bA,z2,z3⟩:=xK aK hs aL;have aQ:x.kind=4→P8 s.len:=λe=>by have:=z2 aP;have:=aN (by omega) (by omega);unfold P8;omega
 have ae:BD c1 (w+(di x.bc+256)):=g1.bd (m:=w+(di x.bc+256)) (ad.mono (by omega));refine h1.jd k1 (cs:=cW s b al) (N:=8) rfl rfl rfl λjs H2 k2 aR bs l2=>?_;have af:=k1.trans k2;refine jc aq hT aR af λD bC ag aS aT l3=>?_;have aU:=af.trans ag;have B:js≠D:=by have:=bs.a.1;omega
 obtain⟨j,d⟩:∃j,x.bc[0]?=some j:=⟨_,aaQ (show 0<x.bc.length by omega)⟩
 obtain⟨a0,W⟩:=r_ d;change aG none _ _ (.int .i64 0)=some _ at a0;simp only[gJ,mK,a0,W,X];have ah:∀{l:List aA}{y:aA}{r:List aA},l=y::r→di l=dt y+di r:=λe=>by subst e;rw[di]
 obtain ⟨r0,o⟩:∃r0,x.bc=j::r0:=by
  cases z:x.bc with
  |nil=>rw[z]at d;cases d
  |cons a r=>rw[z]at d;simp at d;exact⟨r,by rw[d]⟩
 have bE:=ah o;have bF:=jO j;refine ac j (acN d) aS (by rw[g1.L];exact hL) (l:=l) (by rw[g1.V];exact hl) (w:=w+(di r0+256)) (ae.mono (by omega)) λv E bG G aV g4 hv=>?_;have ak:BD E (w+(di r0+256)):=g4.bd (m:=w+(di r0+256)) (ae.mono (by omega));simp only[ef,X];refine(aT.aO G).st aV (aU.trans G) (by decide) One.int λaX am an ao aY=>?_;have ap:=aY _ _ _ B ((bs.aO ag).aO G);have aZ:=g1.trans g4;have fin:∀(kk v2:Int)(q:LD)(f:AH)(m:Nat)(n:List dw),(kk=7∧x.kind=4∨kk=12)→KR id H f→bD f id vars (c8 vars) xl q→Bx H id xl f js 8 (cW s b al)→Bx H id xl f D 13 (⟨kk,-1,-1,-1,v,v2,0,0,0,0,0,0,0⟩:bn).cells→GE E q m n→m≤di r0→n=dJ l r0→cZ q.K v2→S.vv (ai C) (.ptr id 0) (.aj x.cells) (.ptr js 0) (.ptr D 0) Q [] f:=by intro kk v2 q f m n a1 I J ar a4 g6 hm a5 M;have au:BD q (w+256):=g6.bd (m:=w+256) (ak.mono (by omega));unfold S.vv;rw[ar.all];simp only[X];refine r6 aq hT J (w:=w+254) au ((aJ.mono g4.r0).mono g6.r0) λa t a6 g O g7 a7=>?_;have av:BD t (w+254):=g7.bd (m:=w+254) (au.mono (by omega));simp only[ef,X];refine(a4.aO g).st O (I.trans g) (by decide) One.int λaw P R a8 T=>?_;have ax:=T _ _ _ B (ar.aO g);simp only[ax.ld (k:=1) rfl,gJ,lg,xv,nZ,X];refine r7 aq hT R (l:=l) (by rw[g7.V,g6.V,g4.V,g1.V];exact hl) (w:=w+253) av _ _ (by omega) x.place λbH Y Z a9 aa bI es=>?_;have a_:=ax.aO Z;have ba:BD Y (w+253):=aa.bd (m:=w+253) (av.mono (by omega));refine⟨a_.ld rfl,trivial,?_⟩;refine(a8.aO Z).st a9 (P.trans Z) (by decide) One.int λbJ bb be bg bK=>?_;refine⟨trivial,?_⟩;refine bg.st be bb (by decide) One.int λbL bh bi bj bM=>?_;refine bj.st bi bh (by decide) One.int λbN bk bl bm bO=>?_;rw[bm.all];simp only[X];have bP:=ba.A;have ra:=aa.r0;have bQ:=g7.r0;have bR:=g6.r0;refine iK aq hT bl (by omega) ⟨kk,-1,-1,a,v,v2,0,0,s.len,x.aW,0,((t.sn+1:Nat):Int),0⟩ λbo bp bq=>?_;have br:GE Y (Y.add ⟨kk,-1,-1,a,v,v2,0,0,s.len,x.aW,0,((t.sn+1:Nat):Int),0⟩) 1 []:=GE.add (im (by omega) (by omega) cm cm (a7.mono ra) (hv.mono (by omega)) (M.mono (by omega)) (.inr (.inr ⟨by omega,by omega⟩)) (a1.elim (λe=> .inr (.inr (aQ e.2))) (λe=> .inr (.inl (by omega))))) (ke (.inl (by omega)));exact aD _ bo (bk.trans bp) bq (((((aZ.trans g6).trans g7).trans aa).trans br).mono (by omega) (by rw[a5,o,dJ];simp only[adJ,aef]))
 simp only[gJ,lg,X,b5,F,aC];apply ay<;>intro e
 · have bt:x.kind=6:=by simpa using e
   refine ao.st an am (by decide) One.int λf I J bu bv=>?_;obtain⟨u,i⟩:∃u,x.bc[1]?=some u:=⟨_,aaQ (show 1<x.bc.length by omega)⟩
   obtain⟨a2,a3⟩:=r_ i;change aG none _ _ (.int .i64 1)=some _ at a2;simp only[mK,a2,a3,X];obtain ⟨r1,ab⟩:∃r1,r0=u::r1:=by
    rw[o]at i;cases r0 with
    |nil=>simp at i
    |cons a r=>simp at i;exact⟨r,by rw[i]⟩
   have bS:=ah ab;have bT:=jO u;refine ac u (acN i) J (by rw[g4.L,g1.L];exact hL) (l:=l) (by rw[g4.V,g1.V];exact hl) (w:=w+256) (ak.mono (by omega)) λv2 t a6 g O g7 M=>?_;refine(bu.aO g).st O (I.trans g) (by decide) One.int λaw P R bw T=>?_;exact fin 12 v2 t aw _ _ (.inr rfl) P R (T _ _ _ B ((bv _ _ _ B ap).aO g)) bw g7 (by omega) (by rw[ab,show r1=[]from aeS (by have:=congrArg aeN o;rw[ab]at this;simp only[ael]at this;omega),dJ,dJ,adJ]) M
 · have bt:¬x.kind=6:=by simpa using e
   exact fin 7 (-1) E aX 0 [] (.inl ⟨rfl,by omega⟩) am an ap ao (GE.refl _) (aav _) (by rw[show r0=[]from aeS (by have:=congrArg aeN o;simp only[ael]at this;omega),dJ]) cm
theorem WU(aj:jN vars){L:List (List UInt8)}(ak:x.ok)(bb:x.kind=5)(am:x.E∈L)(an:x.cq∈L)(ao:vP vars L 5 x.place)(hE:∀p∈x.place.bf,∀e∈p.bB,h0 C id vars L e)(h:bD H id vars (c8 vars) xl c)(hL:c.L.map adp=L)(hl:c.V=l)(v:BD c (w+(e_ x.place+256)))
  (ap:EU id vars (c8 vars) xl H c (e_ x.place+200) (gL l x.place++[⟨x.kind,x.aW,l,x.place⟩]) Q):ai C 127 [.ptr id 0,.agg x.cells] H Q:=by
 obtain⟨ar,bc,_⟩:=(pV vars L _ x.place).1 ao;obtain⟨au,_,_,_⟩:=U.fS ak;refine S.RV hT ?_;unfold S.f127;simp only[nY,aH,gJ,nZ,X];refine r9 aq hT aj au ar hE h hL hl (w:=w+256) (v.mono (by omega)) λs b al c1 H1 k1 h1 g1 av be hs bg=>?_;have y:BD c1 (w+256):=g1.bd (m:=w+256) (v.mono (by omega));refine h1.jd k1 (cs:=cW s b al) (N:=8) rfl rfl rfl λjs H2 k2 aw bs l2=>?_;have z:=k1.trans k2;refine jc aq hT aw z λax bh B ay az l3=>?_;have aA:=z.trans B;have i:js≠ax:=by have:=bs.a.1;omega
 have D:=bs.aO B;rw[D.all];simp only[X];refine r6 aq hT ay (w:=w+254) y av λa d bi j aB g4 aC=>?_;have F:BD d (w+254):=g4.bd (m:=w+254) (y.mono (by omega));simp only[ef,X];refine(az.aO j).st aB (aA.trans j) (by decide) One.int λbj aD aE aF aG=>?_;have I:=aG _ _ _ i (D.aO j);simp only[I.ld (k:=1) rfl,gJ,lg,xv,nZ,X];refine ob aq hT aE (w:=w+253) F λbk n aI=>?_;have g6:=GE.fr d;have J:=g6.bd (m:=w+253) (F.mono (by omega));have M:=I.aO n;refine⟨M.ld rfl,trivial,trivial,trivial,trivial,?_⟩;refine ob aq hT aI (w:=w+252) J λbl o aJ=>?_;have g7:=GE.fr {d with K:=d.K+1};have O:=g7.bd (m:=w+252) (J.mono (by omega));have P:=M.aO o;refine⟨P.ld rfl,trivial,trivial,trivial,trivial,?_⟩;refine r7 aq hT aJ (l:=l) (by show d.V=l;rw[g4.V,g1.V];exact hl) (w:=w+251) O _ _ (by omega) x.place λbm f r aK R aL es=>?_;have T:=P.aO r;have W:BD f (w+251):=R.bd (m:=w+251) (O.mono (by omega));refine⟨T.ld rfl,trivial,?_⟩;refine(((aF.aO n).aO o).aO r).st aK (((aD.trans n).trans o).trans r) (by decide) One.int λbn aM aN aP aQ=>?_;have Y:=aQ _ _ _ i T;refine⟨Y.ld rfl,trivial,?_⟩;refine aP.st aN aM (by decide) One.int λbo aR aS aT aU=>?_;have aV:=aU _ _ _ i Y;refine⟨aV.ld rfl,trivial,?_⟩;refine aT.st aS aR (by decide) One.int λbp aX aY aZ bq=>?_;refine⟨trivial,?_⟩;refine aZ.st aY aX (by decide) One.int λbr a0 a1 a2 bt=>?_;refine a2.st a1 a0 (by decide) One.int λbu a3 a4 Z of=>?_;rw[Z.all];simp only[X];have bv:=W.A;have a5:f.K=d.K+1+1:=aL;have bw:f.sn=d.sn+1:=es;refine iK aq hT a4 (by omega) ⟨11,d.K,((d.K+1:Nat):Int),a,-1,-1,0,0,s.len,x.aW,0,((d.sn+1:Nat):Int),0⟩ λbx aa ab=>?_;have ac:GE f (f.add ⟨11,d.K,((d.K+1:Nat):Int),a,-1,-1,0,0,s.len,x.aW,0,((d.sn+1:Nat):Int),0⟩) 1 []:=GE.add (im (by decide) (by decide) (iL (by omega)) (iL (by omega)) (aC.mono (by omega)) cm cm (.inr (.inr ⟨by omega,by omega⟩)) (.inr (.inl (by decide)))) (ke (.inl (by decide)));have t:=ac.bd (m:=w+250) (W.mono (by rw[aeU 1];exact np _));have u:=Z.aO aa;have G:=(((((g1.trans g4).trans g6).trans g7).trans R).trans ac)
 have ad:(LD.add f ⟨11,d.K,((d.K+1:Nat):Int),a,-1,-1,0,0,s.len,x.aW,0,((d.sn+1:Nat):Int),0⟩).L.map adp=L:=by rw[G.L];exact hL
 have bz:(LD.add f ⟨11,d.K,((d.K+1:Nat):Int),a,-1,-1,0,0,s.len,x.aW,0,((d.sn+1:Nat):Int),0⟩).K=d.K+2:=a5;generalize LD.add f ⟨11,d.K,((d.K+1:Nat):Int),a,-1,-1,0,0,s.len,x.aW,0,((d.sn+1:Nat):Int),0⟩=bA at *;simp only[mJ,u.ld (k:=1) rfl,X];refine xQ aq hT ab t (by rw[ad];exact am) λq a6=>?_;refine⟨u.ld rfl,?_⟩;refine xN aq hT ab (w:=w+249) t a6 (iL (by omega)) λbC bE ae af g=>?_;have ag:=g.bd (m:=w+249) (t.mono (by rw[aeU 1];exact np _));have ah:=u.aO ae;simp only[BQ,ah.ld (k:=2) rfl,X];refine xQ aq hT af ag (by rw[g.L,ad];exact an) λbF a7=>?_;refine⟨ah.ld rfl,?_⟩;have bG:=g.r0;refine xN aq hT af (w:=w+248) ag a7 (iL (by omega)) λci a8 a9 a_ ba=>?_;exact ap _ a8 (((a3.trans aa).trans ae).trans a9) a_ (((G.trans g).trans ba).mono (by omega) (by simp only[adJ]))
end
end Rb

namespace Rb
open Go
def KB(id:Nat)(H H':AH):Prop:=H.n≤H'.n∧∀i cs,i<id→At H i (.row cs)→At H' i (.row cs)
theorem KB.refl(id:Nat)(H:AH):KB id H H:=⟨np _,λ_ _ _ h=>h⟩
theorem KB.trans{id:Nat}{a b c:AH}(h:KB id a b)(k:KB id b c):KB id a c:=⟨sl h.1 k.1,λi cs hi d=>k.2 i cs hi (h.2 i cs hi d)⟩
theorem KR.kb{id:Nat}{a b:AH}(h:KR id a b):KB id a b:=⟨h.1,λi cs hi c=>h.2 i cs (aaI hi) c⟩
def WV(id:Nat)(vars:List B)(H:AH)(c:LD)(w:Nat)(k:List dw)(L:List (List UInt8))(Q:ad):Prop:=∀(c':LD)(xl:I)(H':AH),KB id H H'→bD H' id vars (c8 vars) xl c'→GS c c' w k→c'.L.map adp=L→(∃t,c'.L=c.L++t∧t.length≤1)→Q (.ar []) H'
def Cs(C:Ctx)(id:Nat)(vars:List B)(x:U):Prop:=∀{L:List (List UInt8)}{xl:I}{c:LD}{H:AH}{Q:ad}{w:Nat},vS vars L x→bD H id vars (c8 vars) xl c→c.L.map adp=L→c.V=x.V→BD c (w+jL x)→WV id vars H c (jL x) (l8 x) (gh L x) Q→ai C 69 [.ptr id 0,.agg x.cells] H Q
def pY(C:Ctx)(id:Nat)(vars:List B)(l:List U):Prop:=∀{L:List (List UInt8)}{xl:I}{c:LD}{H:AH}{Q:ad}{w:Nat},vB vars L l→bD H id vars (c8 vars) xl c→c.L.map adp=L→BD c (w+cf l)→(∀(c':LD)(xl:I)(H':AH),KB id H H'→bD H' id vars (c8 vars) xl c'→GS c c' (cf l) (gM l)→c'.L=c.L→Q (.ar []) H')→ai C 27 [.ptr id 0,aQ U.cells l] H Q
theorem GS.refl(c:LD):GS c c 0 []:=(GE.refl c).gs
theorem GS.V(c:LD)(v:Int):GS c {c with V:=v} 0 []:=⟨⟨[],(adJ _).symm,np _,(λ_ a=>by cases a),e9.nil _⟩,np _,np _,rfl,(adJ _).symm,np _,np _⟩
theorem GS.g(c:LD)(l:List (List UInt8×Nat)):GS c {c with L:=l} 0 []:=⟨⟨[],(adJ _).symm,np _,(λ_ a=>by cases a),e9.nil _⟩,np _,np _,rfl,(adJ _).symm,np _,np _⟩
theorem Ct:∀L:List (List UInt8×Nat),(L.flatMap iJ).length=L.length*2
 |[]=>rfl
 |x::r=>by rw[adn,adD,Ct r,ael];show 2+_=_;omega
section
variable{C:Ctx}(aq:bT C)(hT:Cl (ai C) S.ba){id:Nat}{vars:List B}{xl:I}{c:LD}{H:AH}{Q:ad}{w:Nat}
include aq hT
theorem Cu{l:List U}(hl:l.length≤9223372036854775807)(hS:∀x∈l,Cs C id vars x):pY C id vars l:=by
 intro L xl c H Q w hv h hL B D;refine S.QF hT ?_;unfold S.f27;simp only[aD,ef,X,h.lcs,h.l.len,dL];have main:∀(r:List U)(i:Nat)(o:List (List UInt8)) (c1:LD) (s:I) (H1:AH) (w1:Nat) (k1:List dw),l.drop i=r→vB vars o r→KB id H H1→bD H1 id vars (c8 vars) s c1→c1.L.map adp=o→(∃t,c1.L=c.L++t∧t.length≤w1)→GS c c1 w1 k1→w1+cf r=cf l→k1++gM r=gM l →
   av (S.uK (ai C) (.ptr id 0) (aQ U.cells l) (.int .i64 c.L.length) (.int .i64 l.length) Q) ([.int .i64 i],H1):=by
  intro r;induction r with
  | nil=>
   intro i o c1 s H1 w1 k1 u hv kb h1 y ht g1 hw hk;have hle:=ff u;obtain⟨t,ht,E⟩:=ht;refine av.step ?_;simp only[S.uK,ax,aS,X,F,aC];rw[eT];unfold S.FP;simp only[aD,ef,X,h1.lcs];obtain⟨G,e,v,q⟩:=h1.l.cut (k:=c.L.length) (by rw[ht,adD];omega);simp only[e,X];obtain⟨xo,xs,a,b,d,f⟩:=h1.x;obtain⟨n1,n2,n3⟩:=v.known;rw[a.st1 (by show 7<8;decide) ⟨n1,n2,n3⟩];simp only[X];rw[cf]at hw;rw[gM]at hk;refine D {c1 with L:=c.L} G _ (kb.trans (KR.set _).kb) ⟨⟨xo,xs,a.set _,b.frame λ_ _ _ h=>h.aZ (h.ne a (by intro e;cases e)) _,d.frame λ_ _ _ h=>h.aZ (h.ne a (by intro e;cases e)) _,f⟩,?_,λj J=>h1.ld j (by rw[←q];exact J),λp K=>h1.lo p (by rw[ht];exact List.mem_append_left _ K)⟩ ((g1.trans (GS.g c1 c.L)).mono (by omega) hk) rfl;have:(c1.L.flatMap iJ).take (c.L.length*2)=c.L.flatMap iJ:=by rw[ht,aeK,adF (by rw[Ct];exact np _),adG (by rw[Ct];exact np _)]
   rw[this]at v;exact v.set (by rw[q];exact h1.r3) _
  | cons x r M=>
   intro i o c1 s H1 w1 k1 u hv kb h1 y ht g1 hw hk;obtain⟨O,z,q⟩:=eR u;have P:=acN z;obtain⟨v1,v2⟩:vS vars o x∧vB vars (gh o x) r:=by rw[vB]at hv;exact hv
   obtain⟨t,ht,E⟩:=ht;rw[cf]at hw;rw[gM]at hk;refine av.step ?_;simp only[S.uK,ax,aS,X,F];rw[eH,dP O];simp only[X];rw[en U.len (by decide) _ z];simp only[X];refine h1.jd KR.refl (cs:=x.cells) (N:=10) rfl x.len (U.scalar x) λj H2 k2 R b2 l2=>?_;have T:x.cells[1]?=some (.int .i64 x.V):=by rw[U.bN];rfl
   obtain⟨aj,W,A,Y⟩:=R.own (k:=6) (c':={c1 with V:=x.V}) (n:=x.V) (.inr (.inr ⟨rfl,rfl,rfl,rfl⟩)) rfl rfl rfl rfl;simp only[ef,X,b2.ld T,aD,W,(b2.aO A).all];have g3:=g1.trans (GS.V c1 x.V);have Z:BD ({c1 with V:=x.V}:LD) (w+jL x):=g3.bd (m:=w+jL x) (B.mono (by omega)) (by show c1.L.length≤_;rw[ht,adD];omega);refine hS x P v1 Y y rfl Z λaa ab ac ad ae g4 af ag=>?_;obtain⟨t2,ah,ak⟩:=ag;have:16≤jL x:=by rw[Lm];omega
   simp only[bu,X];rw[bJ,cN];refine M (i+1) _ aa ab ac (w1+jL x) (k1++l8 x) q v2 ((kb.trans (k2.trans A).kb).trans ad) ae af ⟨t++t2,by rw[ah];show c1.L++t2=_;rw[ht,aef],by rw[adD];omega⟩ ((g3.trans g4).mono (by omega) (by rw[adJ])) (by omega) (by rw[←hk,aef])
 exact main l 0 L c xl H 0 [] rfl hv (KB.refl _ _) h hL ⟨[],by simp,by simp⟩ (GS.refl c) (aaK _) rfl
end
end Rb

namespace Rb
open Go
variable{l0 l3:Nat}{n1 n2:List bn}{o1 o2 m1 m2:bn}{x:U}{e0:aA}
theorem LH(t:Int)(o:bn)(l:List bn):hZ t (o::l)=(if o.kind=14∧o.cY=t then 1 else 0)+hZ t l:=by
 unfold hZ;rw[aeV];by_cases h:o.kind=14∧o.cY=t
 ·rw[af h,af (by simp[h.1,h.2]),ael];omega
 ·rw[ak h,ak (by simpa using h),aaK]
theorem LI{t:Int}{l:List bn}(h:∀o∈l,l5 o):hZ t l=0:=by unfold hZ;rw[List.length_eq_zero_iff,List.filter_eq_nil_iff];intro o a b;simp only[Z3,bK]at b;exact h o a ⟨by omega,by omega⟩
structure GR(c c':LD)(w:Nat)(k:List dw)(new:List bn):Prop where
 A:c'.A=c.A++new
 len:new.length≤w
 op:∀o∈new,hY c'.K c'.sn o
 r0:c.K≤c'.K
 r1:c'.K≤c.K+w
 s1:c'.sn=c.sn+k.length
 sc:c'.sc=c.sc++k.flatMap dw.cells
 sw:k.length≤w
 l1:c'.labels≤c.labels+w
section
variable{c c1 c2:LD}{w w':Nat}{k k':List dw}{n n':List bn}
theorem GR.trans(h:GR c c1 w k n)(g:GR c1 c2 w' k' n'):GR c c2 (w+w') (k++k') (n++n'):=by
 obtain⟨W,a2,a3,a4,a5,a6,a7,a8,a9⟩:=h;obtain⟨b1,b2,b3,b,e,f,d,i,j⟩:=g;refine⟨by rw[b1,W,aef],by rw[adD];omega,λo a=>?_,by omega,by omega,by rw[adD];omega,by rw[d,a7,aeK,aef],by rw[adD];omega,by omega⟩;rcases ace.1 a with a|a
 ·exact(a3 o a).mono b (by omega)
 ·exact b3 o a
theorem GR.mono(h:GR c c1 w k n)(b:w≤w')(a:k=k'):GR c c1 w' k' n:=by obtain⟨W,a2,a3,a4,a5,a6,a7,a8,a9⟩:=h;subst a;exact⟨W,by omega,a3,a4,by omega,a6,a7,by omega,by omega⟩
theorem GE.gr(h:GE c c1 w k):∃n,GR c c1 w k n∧(∀o∈n,l5 o)∧c1.labels=c.labels:=by obtain⟨n,a,b,d⟩:=h.new;exact⟨n,⟨a,b,λo e=>(d o e).1,h.r0,h.r1,h.s1,h.sc,h.sw,by rw[h.kc];omega⟩,λo e=>(d o e).2,h.kc⟩
theorem GS.gr(h:GS c c1 w k):∃n,GR c c1 w k n∧e9 c.labels c1.labels n:=by obtain⟨n,a,b,d,e⟩:=h.new;exact⟨n,⟨a,b,d,h.r0,h.r1,h.s1,h.sc,h.sw,h.l1⟩,e⟩
theorem GR.gs(h:GR c c1 w k n)(e:e9 c.labels c1.labels n):GS c c1 w k:=⟨⟨n,h.A,h.len,h.op,e⟩,h.r0,h.r1,h.s1,h.sc,h.sw,h.l1⟩
theorem GR.add{o:bn}(h:hY c.K c.sn o):GR c (c.add o) 1 [] [{o with V:=c.V}]:=⟨rfl,np _,λp a=>by rw[aeO]at a;subst a;exact h.V _,np _,aaD _,rfl,(adJ _).symm,aav _,aaD _⟩
theorem GR.label(c:LD):GR c {c with labels:=c.labels+1} 1 [] []:=⟨(adJ _).symm,aav _,(λ_ a=>by cases a),np _,aaD _,rfl,(adJ _).symm,aav _,np _⟩
theorem GR.V(c:LD)(v:Int):GR c {c with V:=v} 0 [] []:=⟨(adJ _).symm,aav _,(λ_ a=>by cases a),np _,np _,rfl,(adJ _).symm,np _,np _⟩
theorem GR.bd{m:Nat}(g:GR c c1 w k n)(h:BD c (w+m))(hL:c1.L=c.L):BD c1 m:=by obtain⟨W,a2,a3,a4,a5,a6,a7,a8,a9⟩:=g;obtain⟨b1,b2,b3,a,b⟩:=h;exact⟨by rw[W,adD];omega,by omega,by omega,by omega,by rw[hL];omega⟩
end
def Jp(o:bn)(t:Nat):Prop:=(o.kind=15∨o.kind=16)∧o.cY=(t:Int)
def Mk(o:bn)(t:Nat):Prop:=o.kind=14∧o.cY=(t:Int)
theorem WW{l0 l3 l4:Nat}{n1 n2 f:List bn}(g:∀o∈n1,l5 o)(h:Jp o1 (l0+1))(d:e9 (l0+2) l3 n2)(i:Jp o2 (l0+2))(k1:Mk m1 (l0+1))(e:e9 l3 l4 f)(k2:Mk m2 (l0+2)):e9 l0 l4 (n1++([o1]++(n2++([o2]++([m1]++(f++[m2])))))):=by
 have k:=d.le;have l:=e.le;obtain⟨p1,p2⟩:=h;obtain⟨m,n⟩:=i;obtain⟨r1,p⟩:=k1;obtain⟨s1,s2⟩:=k2;refine⟨by omega,λo c a b=>?_,λt t0 t1=>?_⟩
 · simp only[ace,aeO]at c;rcases c with c|rfl|c|rfl|rfl|c|rfl
   ·exact absurd ⟨a,b⟩ (g o c)
   ·omega
   ·have:=d.cY o c a b;omega
   ·omega
   ·omega
   ·have:=e.cY o c a b;omega
   ·omega
 · have j:hZ t n1=0:=LI g;simp only[Cj,LH,j,show hZ t []=0 from rfl];rw[ak (show ¬(o1.kind=14∧o1.cY=t) by omega),ak (show ¬(o2.kind=14∧o2.cY=t) by omega)];by_cases c1:t≤((l0+2:Nat):Int)
   · rw[n_ d (.inl c1),n_ e (.inl (by omega))];by_cases c2:t=((l0+1:Nat):Int)
     ·rw[af (show m1.kind=14∧m1.cY=t by omega),ak (show ¬(m2.kind=14∧m2.cY=t) by omega)]
     ·rw[ak (show ¬(m1.kind=14∧m1.cY=t) by omega),af (show m2.kind=14∧m2.cY=t by omega)]
   · rw[ak (show ¬(m1.kind=14∧m1.cY=t) by omega),ak (show ¬(m2.kind=14∧m2.cY=t) by omega)];by_cases c2:t≤(l3:Int)
     ·rw[d.one t (by omega) c2,n_ e (.inl c2)]
     ·rw[n_ d (.inr (by omega)),e.one t (by omega) t1]
theorem WX(k1:Mk m1 (l0+1))(e:∀o∈n1,l5 o)(f:Jp o1 (l0+2))(d:e9 (l0+2) l3 n2)(g:Jp o2 (l0+1))(k2:Mk m2 (l0+2)):e9 l0 l3 ([m1]++(n1++([o1]++(n2++([o2]++[m2]))))):=by
 have i:=d.le;obtain⟨p1,p2⟩:=f;obtain⟨j,k⟩:=g;obtain⟨r1,l⟩:=k1;obtain⟨s1,s2⟩:=k2;refine⟨by omega,λo c a b=>?_,λt t0 t1=>?_⟩
 · simp only[ace,aeO]at c;rcases c with rfl|c|rfl|c|rfl|rfl
   ·omega
   ·exact absurd ⟨a,b⟩ (e o c)
   ·omega
   ·have:=d.cY o c a b;omega
   ·omega
   ·omega
 · have h:hZ t n1=0:=LI e;simp only[Cj,LH,h,show hZ t []=0 from rfl];rw[ak (show ¬(o1.kind=14∧o1.cY=t) by omega),ak (show ¬(o2.kind=14∧o2.cY=t) by omega)];by_cases c1:t≤((l0+2:Nat):Int)
   · rw[n_ d (.inl c1)];by_cases c2:t=((l0+1:Nat):Int)
     ·rw[af (show m1.kind=14∧m1.cY=t by omega),ak (show ¬(m2.kind=14∧m2.cY=t) by omega)]
     ·rw[ak (show ¬(m1.kind=14∧m1.cY=t) by omega),af (show m2.kind=14∧m2.cY=t by omega)]
   · rw[ak (show ¬(m1.kind=14∧m1.cY=t) by omega),ak (show ¬(m2.kind=14∧m2.cY=t) by omega),d.one t (by omega) t1]
section
variable{C:Ctx}(aq:bT C)(hT:Cl (ai C) S.ba){id:Nat}{vars:List B}{xl:I}{c:LD}{H:AH}{Q:ad}{w:Nat}
include aq hT
theorem bD.Cv{P:AH→Prop}(h:bD H id vars (c8 vars) xl c)(v:Int)(a:∀H',KR id H H'→bD H' id vars (c8 vars) xl {c with V:=v}→P H'):Do (Y H 1 (.ptr id 6) (.int .i64 v)) P:=by obtain⟨f,b,d,e⟩:=h.own (k:=6) (c':={c with V:=v}) (n:=v) (.inr (.inr ⟨rfl,rfl,rfl,rfl⟩)) rfl rfl rfl rfl;rw[b,X];exact a _ d e
theorem WY{L:List (List UInt8)}(p:x.bc=[e0])(q:h0 C id vars L e0)(s:pY C id vars x.be)(u:pY C id vars x.bA)(v:vB vars L x.be)(y:vB vars L x.bA)(h:bD H id vars (c8 vars) xl c)(hL:c.L.map adp=L)(z:c.V=x.V)(a:BD c (w+(16+dt e0+cf x.be+cf x.bA)))
  (A:∀(c':LD)(xl:I)(H':AH),KB id H H'→bD H' id vars (c8 vars) xl c'→GS c c' (16+dt e0+cf x.be+cf x.bA) (gi x.V e0++(gM x.be++gM x.bA))→c'.L=c.L→Q (.ar []) H'):ai C 131 [.ptr id 0,.agg x.cells] H Q:=by
 have aK:=jO e0;refine S.RZ hT ?_;unfold S.f131;simp only[nY,aH];refine xM aq hT h (w:=w+(15+dt e0+cf x.be+cf x.bA)) (a.mono (by omega)) λH1 k1 h1=>?_;have g1:=GR.label c;have B1:=g1.bd (m:=w+(15+dt e0+cf x.be+cf x.bA)) (a.mono (by omega)) rfl;refine xM aq hT h1 (w:=w+(14+dt e0+cf x.be+cf x.bA)) (B1.mono (by omega)) λH2 k2 B=>?_;have g2:=g1.trans (GR.label {c with labels:=c.labels+1});have D:=g2.bd (m:=w+(14+dt e0+cf x.be+cf x.bA)) (a.mono (by omega)) rfl;obtain⟨a0,W⟩:=r_ (l:=x.bc) (i:=0) (e:=e0) (by rw[p];rfl);change aG none _ _ (.int .i64 0)=some _ at a0;simp only[gJ,mK,a0,W,X];refine q B hL z (w:=w+(14+cf x.be+cf x.bA)) (D.mono (by omega)) λr c3 aL E F ge G=>?_;obtain⟨n1,g3,J,K⟩:=ge.gr;have d:c3.L=c.L:=ge.L;have sa:c3.labels=c.labels+2:=K;have g:=g2.trans g3;have M:=g.bd (m:=w+(14+cf x.be+cf x.bA)) (a.mono (by omega)) d;refine xP aq hT F (w:=w+(13+cf x.be+cf x.bA)) (M.mono (by omega)) _ G λo1 aM N O ok P T=>?_;have g4:=g.trans (GR.add P);have U:=g4.bd (m:=w+(13+cf x.be+cf x.bA)) (a.mono (by omega)) d;simp only[xw,X];refine s v T (by show c3.L.map _=_;rw[d];exact hL) (w:=w+(13+cf x.bA)) (U.mono (by omega)) λc5 aN aO Y Z aa ab=>?_;obtain⟨n2,g5,ac⟩:=aa.gr;have b:c5.L=c.L:=ab.trans d;have ad:=g4.trans g5;simp only[BP,X,aD,ef];refine Z.Cv aq hT _ λaP ae af=>?_;have g6:=ad.trans (GR.V c5 x.V);have ag:=g6.bd (m:=w+(13+cf x.bA)) (a.mono (by omega)) b;refine xP aq hT af (w:=w+(12+cf x.bA)) (ag.mono (by omega)) _ cm λo2 aQ ah aj pj ak al=>?_;have g7:=g6.trans (GR.add ak);have am:=g7.bd (m:=w+(12+cf x.bA)) (a.mono (by omega)) b;refine xO aq hT al (w:=w+(11+cf x.bA)) (am.mono (by omega)) _ λaR an ao=>?_;have j:∀{R S:Nat}{t:Int},hY R S ⟨14,-1,-1,-1,-1,-1,0,0,0,0,t,0,0⟩:=im (by decide) (by decide) cm cm cm cm cm (.inr (.inl (by decide))) (.inr (.inl (by decide)));have g8:=g7.trans (GR.add (o:=⟨14,-1,-1,-1,-1,-1,0,0,0,0,((c.labels+1:Nat):Int),0,0⟩) j);have ap:=g8.bd (m:=w+(11+cf x.bA)) (a.mono (by omega)) b;simp only[BR,X];refine u y ao (by show c5.L.map _=_;rw[b];exact hL) (w:=w+11) (ap.mono (by omega)) λf au aS av aw ax ay=>?_;obtain⟨n3,g9,az⟩:=ax.gr;have k:f.L=c.L:=ay.trans b;have aA:=g8.trans g9;refine aw.Cv aq hT _ λaT aB aC=>?_;have n:=aA.trans (GR.V f x.V);have aE:=n.bd (m:=w+11) (a.mono (by omega)) k;refine xO aq hT aC (w:=w+10) aE _ λaF kb aI=>?_;have aJ:=n.trans (GR.add (o:=⟨14,-1,-1,-1,-1,-1,0,0,0,0,((c.labels+1+1:Nat):Int),0,0⟩) j);refine A _ au aF (((((((k1.trans k2).trans E).trans N).kb.trans Y).trans ((ae.trans ah).trans an).kb).trans av).trans (aB.trans kb).kb) aI (GR.gs (aJ.mono (by omega) (by simp only[adJ,aeH,aef])) ?_) k;have l2:e9 (c.labels+2) c5.labels n2:=by rw[←sa];exact ac
 have l3:e9 c5.labels f.labels n3:=az;have:=WW (o1:={o1 with V:=c3.V}) (o2:={o2 with V:=x.V}) (m1:=⟨14,-1,-1,-1,-1,-1,0,0,0,0,((c.labels+1:Nat):Int),0,x.V⟩) (m2:=⟨14,-1,-1,-1,-1,-1,0,0,0,0,((c.labels+1+1:Nat):Int),0,x.V⟩) J ⟨ok,O⟩ l2 ⟨pj,aj⟩ ⟨rfl,rfl⟩ l3 ⟨rfl,rfl⟩;simp only[aeH,adJ,aef];exact this
theorem WZ{L:List (List UInt8)}(n:x.bc=[e0])(p:h0 C id vars L e0)(q:pY C id vars x.be)(s:vB vars L x.be)(h:bD H id vars (c8 vars) xl c)(hL:c.L.map adp=L)(u:c.V=x.V)(a:BD c (w+(16+dt e0+cf x.be)))
  (v:∀(c':LD)(xl:I)(H':AH),KB id H H'→bD H' id vars (c8 vars) xl c'→GS c c' (16+dt e0+cf x.be) (gi x.V e0++gM x.be)→c'.L=c.L→Q (.ar []) H'):ai C 132 [.ptr id 0,.agg x.cells] H Q:=by
 have an:=jO e0;refine S.R0 hT ?_;unfold S.f132;simp only[nY,aH];refine xM aq hT h (w:=w+(15+dt e0+cf x.be)) (a.mono (by omega)) λH1 k1 h1=>?_;have g1:=GR.label c;have B1:=g1.bd (m:=w+(15+dt e0+cf x.be)) (a.mono (by omega)) rfl;refine xM aq hT h1 (w:=w+(14+dt e0+cf x.be)) (B1.mono (by omega)) λH2 k2 d=>?_;have g2:=g1.trans (GR.label {c with labels:=c.labels+1});have f:=g2.bd (m:=w+(14+dt e0+cf x.be)) (a.mono (by omega)) rfl;have j:∀{R S:Nat}{t:Int},hY R S ⟨14,-1,-1,-1,-1,-1,0,0,0,0,t,0,0⟩:=im (by decide) (by decide) cm cm cm cm cm (.inr (.inl (by decide))) (.inr (.inl (by decide)));refine xO aq hT d (w:=w+(13+dt e0+cf x.be)) (f.mono (by omega)) _ λH2 y d=>?_;have g2:=g2.trans (GR.add (o:=⟨14,-1,-1,-1,-1,-1,0,0,0,0,((c.labels+1:Nat):Int),0,0⟩) j);have f:=g2.bd (m:=w+(13+dt e0+cf x.be)) (a.mono (by omega)) rfl;obtain⟨a0,W⟩:=r_ (l:=x.bc) (i:=0) (e:=e0) (by rw[n];rfl);change aG none _ _ (.int .i64 0)=some _ at a0;simp only[gJ,mK,a0,W,X];refine p d hL u (w:=w+(13+cf x.be)) (f.mono (by omega)) λr c3 ao z A ge B=>?_;obtain⟨n1,g3,D,E⟩:=ge.gr;have b:c3.L=c.L:=ge.L;have sa:c3.labels=c.labels+2:=E;have k:=g2.trans g3;have F:=k.bd (m:=w+(13+cf x.be)) (a.mono (by omega)) b;refine xP aq hT A (w:=w+(12+cf x.be)) (F.mono (by omega)) _ B λo1 ap G J ok K M=>?_;have g4:=k.trans (GR.add K);have N:=g4.bd (m:=w+(12+cf x.be)) (a.mono (by omega)) b;simp only[xw,X];refine q s M (by show c3.L.map _=_;rw[b];exact hL) (w:=w+12) (N.mono (by omega)) λc5 O au P T U Y=>?_;obtain⟨n2,g5,Z⟩:=U.gr;have g:c5.L=c.L:=Y.trans b;have aa:=g4.trans g5;simp only[BP,X,aD,ef];refine T.Cv aq hT _ λav ab ac=>?_;have g6:=aa.trans (GR.V c5 x.V);have ad:=g6.bd (m:=w+12) (a.mono (by omega)) g;refine xP aq hT ac (w:=w+11) ad _ cm λo2 aw ae af pj ag ah=>?_;have g7:=g6.trans (GR.add ag);have aj:=g7.bd (m:=w+11) (a.mono (by omega)) g;refine xO aq hT ah (w:=w+10) aj _ λak al am=>?_;have g8:=g7.trans (GR.add (o:=⟨14,-1,-1,-1,-1,-1,0,0,0,0,((c.labels+1+1:Nat):Int),0,0⟩) j);refine v _ O ak (((((k1.trans k2).trans y).trans z).trans G).kb.trans (P.trans ((ab.trans ae).trans al).kb)) am (GR.gs (g8.mono (by omega) (by simp only[adJ,aeH,aef])) ?_) g;have l2:e9 (c.labels+2) c5.labels n2:=by rw[←sa];exact Z
 have:=WX (o1:={o1 with V:=c3.V}) (o2:={o2 with V:=x.V}) (m1:=⟨14,-1,-1,-1,-1,-1,0,0,0,0,((c.labels+1:Nat):Int),0,c.V⟩) (m2:=⟨14,-1,-1,-1,-1,-1,0,0,0,0,((c.labels+1+1:Nat):Int),0,x.V⟩) ⟨rfl,rfl⟩ D ⟨ok,J⟩ l2 ⟨pj,af⟩ ⟨rfl,rfl⟩;simp only[aeH,adJ,aef];exact this
end
end Rb

namespace Rb
open Go
variable{x:U}
theorem W0{k:Int}:(ei k).2.2.2.1=if k=5∨k=7 then 0 else if k=6 then 2 else 1:=by
 unfold ei;by_cases b:k=5
 ·subst b;rfl
 by_cases a:k=6
 ·subst a;rfl
 by_cases c:k=7
 ·subst c;rfl
 rw[ak (show ¬(k=5∨k=7) by omega),ak a]
 repeat' split
 all_goals first|rfl|(exfalso;omega)
theorem Cw{e0:aA}(h:¬(3≤x.kind∧x.kind≤7))(a:x.place.bf=[])(b:x.bc=[e0]):l8 x=gi x.V e0++(gM x.be++gM x.bA):=by rw[Ln,r2,a,b,kd,dJ,dJ,ak h];simp
theorem xV(h:3≤x.kind∧x.kind≤7)(ht:x.be=[])(a:x.bA=[]):l8 x=gL x.V x.place++dJ x.V x.bc++[⟨x.kind,x.aW,x.V,x.place⟩]:=by rw[Ln,ht,a,gM,af h];simp
section
variable{C:Ctx}(aq:bT C)(hT:Cl (ai C) S.ba){id:Nat}{vars:List B}{xl:I}{c:LD}{H:AH}{Q:ad}{w:Nat}
include aq hT
theorem W1(J:jN vars)(Y:x.ok)(aw:pY C id vars x.be)(aM:pY C id vars x.bA):Cs C id vars x:=by
 intro L xl c H Q w hv h hL s r z;obtain⟨v1,v2,v3,v4,v5,v6,aN,az,v9⟩:=(V5 vars L x).1 hv;obtain⟨f1,f2,f3,f4,f5,f6⟩:=Wk v1;rw[W0]at f4;obtain⟨aE,⟨bh,aP⟩,_,_⟩:=U.fS Y;have hE:∀e∈x.bc,h0 C id vars L e:=λe he=>LG aq hT J L e (aP e he) ((xI vars L).1 aN e he);have aR:=aX.fS aE;have aa:3≤x.kind∧x.kind≤6→∀p∈x.place.bf,∀e∈p.bB,h0 C id vars L e:=λhk p v e he=>LG aq hT J L e ((aR.2 p v).2 e he) (LC vars (v6 hk) p v e he);have u:=Lm x;have B:¬(x.kind=5∨x.kind=7)→x.kind≠6→∃e0,x.bc=[e0]:=λa b=>by rw[ak a,ak b]at f4;exact aec.1 (by omega)
 have ac:x.kind≠1→gh L x=L:=λe=>by unfold gh;rw[ak e]
 have D:x.kind≠1→∀{m:Nat}{n:List dw},m≤jL x→n=l8 x→EU id vars (c8 vars) xl H c m n Q:=λhk m n hm ad c' H' k' aS g'=>z c' xl H' k'.kb aS (g'.gs.mono hm ad) (by rw[g'.L,hL,ac hk]) ⟨[],by rw[g'.L,adJ],aav _⟩;have a0:∀{e0:aA},x.bc=[e0]→aG none 8 (aQ aA.cells x.bc) (.int .i64 0)=some (eS aA.cells 8 x.bc 0)∧∀H,Z H 8 true (eS aA.cells 8 x.bc 0)=some (.agg e0.cells):=λ{e0} he=>r_ (l:=x.bc) (i:=0) (e:=e0) (by rw[he];rfl);have s1:∀{e0:aA},x.bc=[e0]→di x.bc=dt e0:=λhe=>by rw[he,di,di];exact aaz _
 have ae:∀{e0:aA},x.bc=[e0]→¬(3≤x.kind∧x.kind≤9)→gi x.V e0=l8 x:=λhe hk=>by rw[Cw (by omega) (f3 (by omega)) he,f6 (by omega) (by omega),f5 (by omega),gM];simp
 refine S.Q_ hT ?_;unfold S.f69;simp only[nY,aH,gJ,lg,mJ,nZ,mK,X,b5,F];apply ay<;>intro hc
 · have k1:x.kind=1:=by simpa using hc
   obtain⟨e0,k⟩:=B (by omega) (by omega);obtain⟨W,a2⟩:=a0 k;have t1:=s1 k;have aF:=jO e0;rw[bM]at u;simp only[W,a2,X];refine hE e0 (by rw[k];exact aeO.2 rfl) h hL s (w:=w+16) (r.mono (by omega)) λr1 c1 H1 R h1 g1 ag=>?_;have B1:BD c1 (w+16):=g1.bd (m:=w+16) (r.mono (by omega));refine ob aq hT h1 (w:=w+15) B1 λH2 k2 M=>?_;have g2:=GE.fr c1;have G:=g2.bd (m:=w+15) (B1.mono (by omega));refine xN aq hT M (w:=w+14) G (iL (acP _)) (ag.mono (aaD _)) λc3 I y o g3=>?_;have aT:=g3.bd (m:=w+14) (G.mono (by omega));have ah:=(g1.trans g2).trans g3;have aU:=g3.r0;have aV:c1.K<c3.K:=aU;simp only[aD,ef,X,o.lcs];rw[show aB [.str [],.int .i64 0] [(0,1,.str x.E),(1,1,.int .i64 (c1.K:Nat))]=some (.agg (iJ (x.E,c1.K)))from rfl];simp only[X];rw[show b8 I false 2 1 [.str [],.int .i64 0] [(0,2,.agg (iJ (x.E,c1.K)))]=some (.ab .full 1 (iJ (x.E,c1.K)),I)from rfl];simp only[aH];have bi:=aT.L;refine o.l.app (by decide) rfl rfl (by omega) (by omega) λal T aI ad kp N=>?_;obtain⟨xo,xs,a,b,d,f⟩:=o.x;have aJ:∀t p q,At I t (.tok p q)→At T t (.tok p q):=λt p q ht=>kp t _ (λe=>by obtain⟨cs,hc⟩:=o.l.row e;exact absurd (hc.2.symm.trans ht.2) (by intro e;cases e)) ht;have a4:=kp _ _ o.r3 a;obtain⟨n1,n2,n3⟩:=aI.known;have aK:∀j,ct al=some j→id<j:=λj am=>by
    rcases N with N|N
    ·exact o.ld j (by rw[←N];exact am)
    ·rw[N]at am;cases am;exact a.1
   have aY:ct al≠some id:=λe=>aeP _ (aK _ e);have a1:KB id H T:=⟨sl ((R.trans k2).trans y).1 ad,λi cs hi an=>kp i _ (λe=>by have:=o.ld i e;omega) (((R.trans k2).trans y).2 i cs (aaI hi) an)⟩
   rw[a4.st1 (by show 7<8;decide) ⟨n1,n2,n3⟩];simp only[X];refine z {c3 with L:=c3.L++[(x.E,c1.K)]} al _ (a1.trans (KR.set _).kb) ⟨⟨xo,xs,a4.set _,(b.frame aJ).frame λ_ _ _ h=>h.aZ (h.ne a4 (by intro e;cases e)) _,(d.frame aJ).frame λ_ _ _ h=>h.aZ (h.ne a4 (by intro e;cases e)) _,f⟩,?_,aK,λp v=>?_⟩ ((ah.gs.trans (GS.g c3 _)).mono (by omega) (by simp only[adJ];exact ae k (by omega))) ?_ ⟨[(x.E,c1.K)],by show c3.L++_=_;rw[ah.L],np _⟩
   · rw[adD,aeK,aeQ];exact aI.set aY _
   · rcases ace.1 v with v|v
     ·exact o.lo p v
     ·rw[aeO.1 v];exact aV
   · show(c3.L++_).map _=_;rw[aeE,ah.L,hL];unfold gh;rw[af k1];rfl
 have n1:x.kind≠1:=by simpa using hc
 apply ay<;>intro hc
 · have k2:x.kind=2:=by simpa using hc
   obtain⟨e0,k⟩:=B (by omega) (by omega);obtain⟨W,a2⟩:=a0 k;have t1:=s1 k;have aF:=jO e0;rw[bM]at u;simp only[W,a2,X];refine hE e0 (by rw[k];exact aeO.2 rfl) h hL s (w:=w+16) (r.mono (by omega)) λr1 c1 H1 R h1 g1 ag=>?_;have B1:BD c1 (w+16):=g1.bd (m:=w+16) (r.mono (by omega));refine xQ aq hT h1 B1 (by rw[g1.L,hL];exact v4 k2) λq a3=>?_;refine xN aq hT h1 (w:=w+15) B1 a3 ag λc3 I y o g3=>?_;exact D n1 (by omega) (by rw[adJ];exact ae k (by omega)) _ _ (R.trans y) o (g1.trans g3)
 have n2:x.kind≠2:=by simpa using hc
 apply ay<;>intro hc
 · have y:x.kind=3:=by simpa using hc
   obtain⟨e0,k⟩:=B (by omega) (by omega);obtain⟨W,a2⟩:=a0 k;have t1:=s1 k;rw[cj]at u;simp only[W,a2,X];refine WS aq hT J aE (by have:=v6 (by omega);rw[y]at this;exact this) (aa (by omega)) (hE e0 (by rw[k];exact aeO.2 rfl)) h hL s (w:=w) (r.mono (by omega)) λc1 H1 k1 h1 g1=>?_;refine D n1 (by omega) ?_ _ _ k1 h1 g1;have an:x.aW=0:=by rw[y]at v2;exact eq_of_beq v2
   rw[xV (by omega) (f6 (by omega) (by omega)) (f5 (by omega)),k,dJ,dJ,adJ,y,an]
 have n3:x.kind≠3:=by simpa using hc
 have k1 : ∀b:Bool,(b=true↔x.kind=4∨x.kind=6)→S.u9 (ai C) (.ptr id 0) (.aj x.cells) (.int .i64 x.kind) Q [.bool b] H:=by
  intro b aL;unfold S.u9;simp only[ax,F,Kh,gJ,lg,xv,mK,X,b5];apply ay<;>intro hc
  · have hk:=aL.1 hc;rw[cj]at u;refine WT aq hT J Y ?_ (v6 (by omega)) (aa (by omega)) hE h hL s (w:=w) (r.mono (by omega)) λc1 H1 k1 h1 g1=>?_
    · rcases hk with hk|hk
      · rw[bM,bM]at f4;exact .inl ⟨hk,by omega⟩
      · rw[bM,af hk]at f4;exact .inr ⟨hk,by omega⟩
    ·exact D n1 (by omega) (xV (by omega) (f6 (by omega) (by omega)) (f5 (by omega))).symm _ _ k1 h1 g1
  have n46:¬(x.kind=4∨x.kind=6):=λe=>hc (aL.2 e);apply ay<;>intro hc
  · have O:x.kind=5:=by simpa using hc
    rw[cj]at u;obtain⟨a5,a6,_⟩:=v5 O;refine WU aq hT J Y O a5 a6 (by have:=v6 (by omega);rw[O]at this;exact this) (aa (by omega)) h hL s (w:=w) (r.mono (by omega)) λc1 H1 k1 h1 g1=>?_;rw[cj]at f4;exact D n1 (by omega) (by rw[xV (by omega) (f6 (by omega) (by omega)) (f5 (by omega)),show x.bc=[]from aeS (by omega),dJ,adJ]) _ _ k1 h1 g1
  have bj:x.kind≠5:=by simpa using hc
  apply ay<;>intro hc
  · have a7:x.kind=7:=by simpa using hc
    rw[cj]at u;refine jc aq hT h KR.refl λa8 H1 k1 h1 ao l1=>?_;rw[show aB [.str [],.ab .nil 0 []] []=some (.agg [.str [],.ab .nil 0 []])from rfl];simp only[X,ef];refine Lr aq hT h1 (w:=w+200) (r.mono (by omega)) _ _ ⟨x.kind,x.aW,x.V,x.place⟩ (by unfold dw.cells;rw[af a7,s]) rfl rfl λH2 c2 k2 M g2 bk es=>?_;have G:=g2.bd (m:=w+200) (r.mono (by omega));refine⟨trivial,?_⟩;refine(ao.aO k2).st M (k1.trans k2) (by decide) One.int λI ap o b3 _=>?_;refine b3.st o ap (by decide) One.int λT a9 ar a_ _=>?_;rw[a_.all];simp only[X];refine iK aq hT ar (by have:=G.A;omega) ⟨13,-1,-1,-1,-1,-1,0,0,0,x.aW,0,((c.sn+1:Nat):Int),0⟩ λbl O ba=>?_;rw[cj]at f4;exact D n1 (by omega) (by rw[xV (by omega) (f6 (by omega) (by omega)) (f5 (by omega)),show x.bc=[]from aeS (by omega),dJ,r2,f3 (by omega),kd];rfl) _ _ (a9.trans O) ba (g2.trans (GE.add (im (by decide) (by decide) cm cm cm cm cm (.inr (.inr ⟨by omega,by omega⟩)) (.inr (.inl (by decide)))) (ke (.inl (by decide)))))
  have n7:x.kind≠7:=by simpa using hc
  apply ay<;>intro hc
  · have bm:x.kind=8:=by simpa using hc
    obtain⟨e0,k⟩:=B (by omega) (by omega);have t1:=s1 k;rw[bM]at u;rw[ac n1]at z;refine WY aq hT k (hE e0 (by rw[k];exact aeO.2 rfl)) aw aM az v9 h hL s (w:=w) (r.mono (by omega)) λc1 au H1 av h1 g1 P=>?_;exact z c1 au H1 av h1 (g1.mono (by omega) (Cw (by omega) (f3 (by omega)) k).symm) (by rw[P];exact hL) ⟨[],by rw[P,adJ],aav _⟩
  have n8:x.kind≠8:=by simpa using hc
  apply ay<;>intro hc
  · have bn:x.kind=9:=by simpa using hc
    obtain⟨e0,k⟩:=B (by omega) (by omega);have t1:=s1 k;rw[bM]at u;rw[ac n1]at z;refine WZ aq hT k (hE e0 (by rw[k];exact aeO.2 rfl)) aw az h hL s (w:=w) (r.mono (by omega)) λc1 au H1 av h1 g1 P=>?_;exact z c1 au H1 av h1 (g1.mono (by omega) (by rw[Cw (by omega) (f3 (by omega)) k,f5 (by omega),gM,adJ])) (by rw[P];exact hL) ⟨[],by rw[P,adJ],aav _⟩
  have bo:x.kind≠9:=by simpa using hc
  apply ay<;>intro hc
  · have bp:x.kind=10:=by simpa using hc
    obtain⟨e0,k⟩:=B (by omega) (by omega);obtain⟨W,a2⟩:=a0 k;have t1:=s1 k;have aF:=jO e0;rw[bM]at u;refine jc aq hT h KR.refl λa8 H1 k1 h1 ao l1=>?_;simp only[W,a2,X];refine hE e0 (by rw[k];exact aeO.2 rfl) h1 hL s (w:=w+16) (r.mono (by omega)) λr1 c2 H2 k2 M g2 bb=>?_;have G:BD c2 (w+16):=g2.bd (m:=w+16) (r.mono (by omega));simp only[ef,X];refine(ao.aO k2).st M (k1.trans k2) (by decide) One.int λI ap o b3 _=>?_;rw[b3.all];simp only[X];refine iK aq hT o (by have:=G.A;omega) ⟨18,-1,-1,r1,-1,-1,0,0,0,0,0,0,0⟩ λT bg ar=>?_;exact D n1 (by omega) (by rw[adJ];exact ae k (by omega)) _ _ (ap.trans bg) ar (g2.trans (GE.add (im (by decide) (by decide) cm cm bb cm cm (.inr (.inl (by decide))) (.inr (.inl (by decide)))) (ke (.inr (by decide)))))
  · have n10:x.kind≠10:=by simpa using hc
    omega
 simp only[aC];apply ay<;>intro hc
 ·exact k1 _ ⟨λ_=> .inl (by simpa using hc),λ_=>hc⟩
 · refine k1 _ ⟨λe=> .inr (by simpa using e),λe=>?_⟩;have:x.kind≠4:=by simpa using hc
   simp;omega
theorem W2(c:jN vars):∀x:U,x.ok→Cs C id vars x:=by refine U.ind λx h1 d b=>?_;obtain⟨_,_,⟨l1,o1⟩,l2,o2⟩:=U.fS b;exact W1 aq hT c b (Cu aq hT l1 λy a=>h1 y a (o1 y a)) (Cu aq hT l2 λy a=>d y a (o2 y a))
end
end Rb

namespace Rb
open Go
def pZ:LD:=⟨[],0,0,0,[],0,[]⟩
section
variable{C:Ctx}(aq:bT C)(hT:Cl (ai C) S.ba)(ek:∀x,bC (ai C) 22 [.str x] (.bool (cw x)))
include aq hT ek
end
end Rb

namespace Rb
open Go
variable{H:AH}{Q:ad}{n id:Nat}
def bO:Nat→Int→Prop:=λ_ _=>True
theorem wN(h:n≤4000000000000000000):aa8 .i64 ((n:Int)+1)=((n+1:Nat):Int):=by rw[bJ,cN]
theorem wA{n m:Nat}(h:n+m≤4000000000000000000):aa8 .i64 ((n:Int)+(m:Int))=((n+m:Nat):Int):=by rw[bJ];omega
section
variable{C:Ctx}(hT:Cl (ai C) S.ba)
include hT
theorem LJ{v:Int}(a:Q (.bool (decide (v<0))) H):ai C 140 [J v] H Q:=by refine S.R5 hT ?_;unfold S.f140;simp only[aS,X];exact a
theorem W3(e:n≤1000000)(h:Rw 1 bO H id n)(a:∀i:Nat,i<n→Q (J (i:Nat)) H)(b:Q (J (-1)) H):ai C 200 [.row id 0 n 1,.fn 140 []] H Q:=by
 refine S.SI hT ?_;unfold S.f200;simp only[k0,X];have main:∀(d i:Nat),i+d=n→av (S.wu (ai C) (.row id 0 n 1) (.fn 140 []) (J (n:Nat)) Q) ([J (i:Nat)],H):=by
  intro d;induction d with
  | zero=>intro i hi;refine av.step ?_;simp only[S.wu,ax,aS,X,F];rw[eF];exact b
  | succ d c=>intro i hi;refine av.step ?_;simp only[S.wu,ax,aS,X,F];rw[e5,dY (by omega)];simp only[X];obtain⟨v,_,hv⟩:=h.ld1 (i:=i) (k:=0) (by omega) (by decide);rw[aaz]at hv;rw[hv];simp only[X];refine⟨_,_,rfl,?_⟩;refine LJ hT ?_;simp only[F,bu,X,wN (show i≤4000000000000000000 by omega)];exact ay (λ_=>a i (by omega)) (λ_=>c (i+1) (by omega))
 exact main n 0 (by omega)
theorem W4(o:n≤1000000)(h:Rw 1 bO H id n)(l:∀m H',m≤n→Rw 1 bO H' id n→KX (·= id) H H'→Q (.row id 0 m 1) H'):ai C 139 [.row id 0 n 1,.fn 140 []] H Q:=by
 refine S.R4 hT ?_;unfold S.f139;have p:Gd bg true (Q (.row id 0 n 1) H) (Do (M .add (J (-1)) (J 1)) λq=>av (S.q9 (ai C) (.row id 0 n 1) (.fn 140 []) Q) ([J (-1),q],H)):=l n H (np _) h (KX.refl _);refine W3 hT o h (λi hi=>?_) ?_
 · simp only[b5,X,F];rw[jq];simp only[bu,X,wN (show i≤4000000000000000000 by omega)];have main:∀(d i j:Nat)(H1:AH),j+d=n→i<j→Rw 1 bO H1 id n→KX (·= id) H H1→av (S.q9 (ai C) (.row id 0 n 1) (.fn 140 []) Q) ([J (i:Nat),J (j:Nat)],H1):=by
    intro d;induction d with
    | zero=>
     intro i j H1 g r h1 k1;refine av.step ?_;simp only[S.q9,ax,bR,k0,aS,X,F,aC];rw[eF];unfold S.HB;have e1:c9 1 (.row id 0 n 1) (some (J (i:Nat))) none none=some (.row id i (n-i) 1):=by simp only[c9,d_,ad6];rw[af (show(0:Int)≤(i:Nat) by omega),aa9];dsimp only;rw[af ⟨by omega,np _,trivial⟩,af (.inr (by omega))];simp
     have s:c9 1 (.row id 0 n 1) none (some (J (i:Nat))) none=some (.row id 0 i 1):=by simp only[c9,d_,ad6];rw[af (show(0:Int)≤(i:Nat) by omega),aa9];dsimp only;rw[af ⟨by omega,by omega,trivial⟩,af (.inl rfl)];simp
     simp only[ax,e1,s,X];obtain⟨cs,a,b,c⟩:=h1;have t:c7 H1 (.clear 1 [O]) [.row id i (n-i) 1]=some (.ar [],H1.set id (.row (setCells cs i (ZU (n-i) [O]).flatten))):=by simp only[c7];rw[bM,c.2];dsimp only;rw[af ⟨rfl,rfl,by omega⟩]
     have u:(ZU (n-i) [O]).flatten=ZU (n-i) (O):=by
      induction (n-i)with
      |zero=>rfl
      |succ k f=>rw[aa2,aa3,f];rfl
     rw[t];simp only[aH];refine l i _ (by omega) ⟨_,by rw[oq,a],λj g=>?_,c.set _⟩ (k1.tr (KX.set (S:=(·= id)) _ rfl _));rw[u,mZ _ _ _ _ (by rw[aeW,a];omega),aeW];split
     · rename_i x;exact⟨0,by rw[acJ,cj],trivial⟩
     ·exact b j g
    | succ d f=>intro i j H1 g r h1 k1;refine av.step ?_;simp only[S.q9,ax,bR,k0,aS,X,F,aC];rw[e5,dY (by omega)];simp only[X];obtain⟨v,_,hv⟩:=h1.ld1 (i:=j) (k:=0) (by omega) (by decide);rw[aaz]at hv;rw[hv];simp only[X];refine⟨_,_,rfl,?_⟩;refine LJ hT ?_;simp only[eg,F,X,S.AB,ax,bR,bu,wN (show i≤4000000000000000000 by omega),wN (show j≤4000000000000000000 by omega)];refine ay (λ_=>?_) (λ_=>f i (j+1) H1 (by omega) (by omega) h1 k1);rw[dY (by omega)];simp only[X];obtain⟨H2,e,w,k2⟩:=h1.st1 (i:=i) (k:=0) (by omega) (by decide) (v:=v) trivial;rw[aaz]at e;rw[e];simp only[X];exact f (i+1) (j+1) H2 (by omega) (by omega) w (k1.tr k2)
   exact main (n-(i+1)) i (i+1) H (by omega) (by omega) h (KX.refl _)
 · simp only[b5,X];exact p
theorem LK(a:n≤1000000)(h:Rw 1 bO H id n)(b:∀m H',m≤n→Rw 1 bO H' id n→KX (·= id) H H'→Q (.row id 0 m 1) H'):ai C 77 [.row id 0 n 1] H Q:=by refine S.Rj hT ?_;unfold S.f77;exact W4 hT a h b
theorem Cx{es:List I}(h:∀c∈es,∃v,c=J v)(H:AH):Rw 1 bO (H.push (.row es)) H.n es.length:=⟨es,by omega,λj b=>by
  have a:j<es.length:=by omega
  obtain⟨v,hv⟩:=h es[j] (aaX _);exact⟨v,by rw[aaQ a,hv],trivial⟩,At.new _ _⟩
def LL(H:AH)(Q:ad):Prop:=∀id m H',m≤3→H.n≤id→(∃n,m≤n∧Rw 1 bO H' id n)→KX (λ_=>False) H H'→Q (.row id 0 m 1) H'
theorem W5(o:bn)(d:LL H Q):ai C 36 [.agg o.cells] H Q:=by
 refine S.QN hT ?_;unfold S.f36;have f:aL H false 13 (.agg o.cells)=some (.aj o.cells,H):=rfl;have l3:∀H,Z H 1 false (.aj (o.cells.drop 3))=some (J o.a):=λ_=>rfl;have l4:∀H,Z H 1 false (.aj (o.cells.drop 4))=some (J o.b):=λ_=>rfl;have g:∀H,Z H 1 false (.aj (o.cells.drop 5))=some (J o.c):=λ_=>rfl;simp only[f,aH,eu,X,l3,l4,g];rw[show b8 H true 1 3 [O] [(0,1,J o.a),(1,1,J o.b),(2,1,J o.c)]=some (.row H.n 0 3 1,H.push (.row [J o.a,J o.b,J o.c]))from rfl];simp only[aH];have r:=Cx hT (es:=[J o.a,J o.b,J o.c]) (λc hc=>by simp only[acm,aeX,or_false]at hc;rcases hc with rfl|rfl|rfl<;>exact⟨_,rfl⟩) H
 refine LK hT (by decide) r λm H' hm h1 k1=>?_;exact d H.n m H' hm (np _) ⟨3,hm,h1⟩ ((KX.push _ _).trans k1 λi hi e=>by omega)
theorem W6(o:bn)(a:LL H Q):ai C 37 [.agg o.cells] H Q:=by
 refine S.QO hT ?_;unfold S.f37;have b:aL H false 13 (.agg o.cells)=some (.aj o.cells,H):=rfl;have l3:∀H,Z H 1 false (.aj (o.cells.drop 1))=some (J o.dst):=λ_=>rfl;have l4:∀H,Z H 1 false (.aj (o.cells.drop 2))=some (J o.lp):=λ_=>rfl;simp only[b,aH,eu,X,l3,l4];rw[show b8 H true 1 2 [O] [(0,1,J o.dst),(1,1,J o.lp)]=some (.row H.n 0 2 1,H.push (.row [J o.dst,J o.lp]))from rfl];simp only[aH];have r:=Cx hT (es:=[J o.dst,J o.lp]) (λc hc=>by simp only[acm,aeX,or_false]at hc;rcases hc with rfl|rfl<;>exact⟨_,rfl⟩) H
 refine LK hT (by decide) r λm H' hm h1 k1=>?_;exact a H.n m H' (by omega) (np _) ⟨2,hm,h1⟩ ((KX.push _ _).trans k1 λi hi e=>by omega)
theorem W7{t:Nat}(ht:t≤1000000)(a:∀x H',(t=0∧x = aw∧H'=H)∨(x = .row H.n 0 0 1∧Rw 1 bO H' H.n t∧KX (λ_=>False) H H')→Q x H'):ai C 76 [aw,J (t:Nat)] H Q:=by
 refine S.Ri hT ?_;unfold S.f76;simp only[aS,X,F,aC];rw[jq];unfold S.Aq;have e1:kA (aw)=some (O):=rfl;have f:c9 1 aw none (some O) none=some (aw):=rfl;have w0:aa8 .i64 ((0:Int)-((0:Nat):Int))=0:=rfl;have w1:aa8 .i64 ((t:Int)-0)=t:=by rw[bJ];omega
 simp only[e1,f,fQ,cU,dC,X,F,w0,w1];apply ay<;>intro e
 · have b:0<t:=by simpa using e
   have g:c7 H (.grow 1 8 [O]) [aw,J (t:Nat)]=some (.row H.n 0 t 1,H.push (.row (ZU t [O]).flatten)):=by simp only[c7];rw[af ⟨by omega,by omega,by omega,rfl,by decide⟩,aa9]
   rw[g];simp only[aH];rw [show c9 1 (.row H.n 0 t 1) none (some (J ((0:Nat):Int))) none=some (.row H.n 0 0 1)from by simp only[c9,d_,ad6];rw[af (show(0:Int)≤((0:Nat):Int) by omega),aa9];dsimp only;rw[af ⟨np _,aav _,trivial⟩,af (.inl rfl)]]
   simp only[X];have d:∀t,(ZU t [O]).flatten=ZU t (O):=λt=>by
    induction t with
    |zero=>rfl
    |succ k h=>rw[aa2,aa3,h];rfl
   refine a _ _ (.inr ⟨rfl,?_,KX.push _ _⟩);have:=Cx hT (es:=(ZU t [O]).flatten) (λc hc=>by rw[d]at hc;exact⟨0,(List.mem_replicate.1 hc).2⟩) H
   rw[d]at this ⊢;rwa [aeW]at this
 · have b:t=0:=by
     have:¬0<t:=by simpa using e
     omega
   exact a _ _ (.inl ⟨b,rfl,rfl⟩)
end
end Rb

namespace Rb
open Go Go.RowKit
variable{w w':World}{G:bj}{F:cJ}{H:AH}
theorem LM{b o:Nat}{V:Value}(h:w.cell? ⟨b,o,none⟩=some V):b<w.heap.size:=by
 unfold aeY at h;split at h
 · rename_i a;exact(aaH.1 a).1
 ·cases h
theorem LN(a:Below w.heap.size w w'):GLe w G w' G:=⟨np _,λ_ _=>rfl,λ_ _=>rfl,λ_ _ h=>h,λb o V _ hc=>by rw[a.cell (p:=⟨b,o,none⟩) (LM hc)];exact hc⟩
theorem W8(d:Below w.heap.size w w'){i:Nat}{x:bS}(h:fa F w G i x):fa F w' G i x:=by
 have l:=LN (G:=G) d;cases x with
 | row cs=>obtain⟨c,e,h1,a,f,g⟩:=h;refine⟨c,e,by rw[d.block _ (aaH.1 h1).1];exact h1,a,f,λj c n=>?_⟩;obtain⟨V,o,p⟩:=g j c n;exact⟨V,o,p.mono l⟩
 | tok k sz=>obtain⟨c,e,h1,a,f,g⟩:=h;exact⟨c,e,by rw[d.block _ (aaH.1 h1).1];exact h1,a,f,g⟩
 | map es=>obtain⟨c,e,h1,a,f,g⟩:=h;refine⟨c,e,by rw[d.block _ (aaH.1 h1).1];exact h1,a,f,λj k v n=>?_⟩;obtain⟨m,o,p,q⟩:=g j k v n;exact⟨m,o,p.mono l,q.mono l⟩
 | fG s pos=>obtain⟨h1,a⟩:=h;exact⟨by rw[d.block _ (aaH.1 h1).1];exact h1,a⟩
 | gN T u b=>obtain⟨v,h1,a⟩:=h;exact⟨v,by rw[d.block _ (aaH.1 h1).1];exact h1,a⟩
 | kq U bs=>obtain⟨c,z,h1,a⟩:=h;exact⟨c,z,by rw[d.block _ (aaH.1 h1).1];exact h1,a⟩
 |gone=>trivial
theorem W9(a:Below w.heap.size w w')(h:Rel F w G H):Rel F w' G H:=
 ⟨h.n,h.over,λi=>W8 a (h.obj i),h.eZ,λb o hf=>by obtain⟨V,c⟩:=h.e2 b o hf;exact⟨V,by rw[a.cell (p:=⟨b,o,none⟩) (LM c)];exact c⟩⟩
theorem W_(a:Below w.heap.size w w')(b:w.drawn≤w'.drawn)(h:Rel F w G H):Step w G H w' G H:=
 { LN a with
   size:=a.size
   os:=a.os
   tape:=a.tape
   output:=a.output
   dr:=b
   dE:=λk hk _=>a.block k hk
   owned:=λi hl _=>⟨i,hl,rfl⟩
   e3:=λ_ _ hf=> .inl hf}
end Rb

namespace Rb
open Go
def ca(p:Int×Int):List I:=[J p.1,J p.2]
end Rb

namespace Rb
open Go
variable{H:AH}{R:Int→I→Prop}{id:Nat}
section
variable{C:Ctx}(hT:Cl (ai C) S.ba)
include hT
theorem Xa{i1 d m1 m2 n1 n2:Nat}(q:Rw 1 bO H i1 n1)(l1:m1≤n1)(s:Rw 1 bO H d n2)(l2:m2≤n2)(b1:m1≤3)(b2:m2≤3){Q:ad}
  (l:∀x H',Ls 1 bO (λi=>H.n≤i) H' x (m1+m2)→KX (λ_=>False) H H'→Q x H'):ai C 35 [.ab .full 2 [.row i1 0 m1 1,.row d 0 m2 1]] H Q:=by
 refine S.QM hT ?_;unfold S.f35;have e0:aG none 1 (.ab .full 2 [.row i1 0 m1 1,.row d 0 m2 1]) (O)=some (.aj [.row i1 0 m1 1,.row d 0 m2 1]):=rfl;have e1:aG none 1 (.ab .full 2 [.row i1 0 m1 1,.row d 0 m2 1]) (J 1)=some (.aj [.row d 0 m2 1]):=rfl;have d0:∀H,Z H 1 false (.aj [I.row i1 0 m1 1,.row d 0 m2 1])=some (.row i1 0 m1 1):=λ_=>rfl;have d1:∀H,Z H 1 false (.aj [I.row d 0 m2 1])=some (.row d 0 m2 1):=λ_=>rfl;have w1:aa8 .i64 ((0:Int)+1)=1:=rfl;have w2:aa8 .i64 ((1:Int)+1)=2:=rfl;have w3:aa8 .i64 ((0:Int)+(m1:Int))=(m1:Int):=by rw[bJ];omega
 have u:aa8 .i64 ((m1:Int)+(m2:Int))=((m1+m2:Nat):Int):=wA (by omega);simp only[fQ,X];have t0:decide ((0:Int)<((2:Nat):Int))=true:=rfl;have t1:decide ((1:Int)<((2:Nat):Int))=true:=rfl;have t2:decide ((2:Int)<((2:Nat):Int))=false:=rfl;refine av.step ?_;simp only[S.uP,ax,bR,aS,t0,X,F,aR,e0,d0,k0,bu,w3,aC];rw[jq];simp only[S.uN,ax,bR,bu,w1,X];refine av.step ?_;simp only[S.uP,ax,bR,aS,t1,X,F,aR,e1,d1,k0,bu,u,aC];rw[eF];simp only[S.uN,ax,bR,bu,w2,X];refine av.step ?_;simp only[S.uP,ax,bR,aS,t2,X,F,abS,bz,aC,S.F0];refine W7 hT (t:=m1+m2) (by omega) λo H0 g0=>?_;have fin:∀{x:I}{H1:AH}{len:Nat}{i m n:Nat},Rw 1 bO H i n→m≤n→m≤3→len≤3→len+m≤m1+m2→((m1+m2=0∧x = aw∧H1=H∧len=0)∨(x = .row H.n 0 len 1∧Rw 1 bO H1 H.n (m1+m2)∧KX (λ_=>False) H H1)) →
   ∃f H2,bH H1 false 1 8 x (.row i 0 m 1)=some (f,H2)∧((m1+m2=0∧f = aw∧H2=H∧len+m=0)∨(f = .row H.n 0 (len+m) 1∧Rw 1 bO H2 H.n (m1+m2)∧KX (λ_=>False) H H2)):=by
  intro x H1 len i m n p hm A hl hs v;rcases v with⟨z,rfl,rfl,rfl⟩|⟨rfl,r,k⟩
  · obtain⟨es,hc,he⟩:=p.cells hm;refine⟨_,_,?_,.inl ⟨z,rfl,rfl,by omega⟩⟩;obtain rfl:m=0:=by omega
    simp only[bH,hc,he.scalar,not_true_eq_false,bz,aR]
  · obtain⟨es,hc,he⟩:=(p.kx k λh=>h).cells hm;obtain⟨H2,e,w,k2⟩:=r.app (mu:=false) (bytes:=8) hc he hs (by omega) (by omega);exact⟨_,H2,e,.inr ⟨rfl,w,k.trans k2 λj B e=>by omega⟩⟩
 have y:(m1+m2=0∧o = aw∧H0=H∧0=0)∨(o = .row H.n 0 0 1∧Rw 1 bO H0 H.n (m1+m2)∧KX (λ_=>False) H H0):=by
  rcases g0 with⟨a,b,c⟩|g
  ·exact .inl ⟨a,b,c,rfl⟩
  ·exact .inr g
 simp only[fQ,X];obtain⟨D,H1,W,g1⟩:=fin q l1 b1 (aav _) (by omega) y;obtain⟨E,H2,a2,g2⟩:=fin s l2 b2 (by omega) (by omega) g1;refine av.step ?_;simp only[S.uO,ax,bR,aS,t0,X,F,aR,e0,d0,W,aH,bu,w1];refine av.step ?_;simp only[S.uO,ax,bR,aS,t1,X,F,aR,e1,d1,a2,aH,bu,w2];refine av.step ?_;simp only[S.uO,ax,bR,aS,t2,X,F,abS,bz];rw[aaK]at g2;rcases g2 with⟨z,rfl,rfl,_⟩|⟨rfl,r,k⟩
 ·exact l _ _ (.inl ⟨rfl,z⟩) (KX.refl _)
 ·exact l _ _ (.inr ⟨_,_,rfl,np _,r,np _⟩) k
end
def fy(R:Int→I→Prop)(es:List (I×I)):Prop:=∀e∈es,∃k,e.1 = J k∧R k e.2
theorem Cy{R:Int→I→Prop}{k:Int}:∀{es:List (I×I)}{i:Nat},fy R es→(fH .n (J k) es i=some none∧∀e∈es,e.1 ≠ J k)∨∃j v,fH .n (J k) es i=some (some (i+j,v))∧es[j]?=some (J k,v)∧R k v
 |[],i,h=> .inl ⟨rfl,λe he=>by cases he⟩
 | (a, b)::r,i,h=>by
  obtain⟨k',e,c⟩:=h _ (aco ..);dsimp only at e c;subst e;unfold fH;have f:mV .n (J k) (J k')=some (k==k'):=rfl;rw[f];by_cases hk:k=k'
  · subst hk;right;refine⟨0,b,?_,rfl,c⟩;simp
  · rw [show(k==k')=false by simpa using hk];rcases Cy (k:=k) (i:=i+1) (λe he=>h e (acn _ he))with d|⟨j,v,h1,g,l⟩
    · refine .inl ⟨d.1,λe he=>?_⟩;rcases acm.1 he with rfl|he
      ·exact λq=>hk (by cases q;rfl)
      ·exact d.2 e he
    ·exact .inr ⟨j+1,v,by dsimp only;rw[h1,Nat.add_assoc,aeU 1 j],g,l⟩
theorem sb{es:List (I×I)}(h:At H id (.map es))(d:fy R es)(b:I)(a:Bool)(k:Int) :
  (f_ H .n b a (.map id) (J k)=some (gk a b false)∧∀e∈es,e.1 ≠ J k)∨∃(j:Nat) (v:I),f_ H .n b a (.map id) (J k)=some (gk a v true)∧es[j]?=some (J k,v)∧R k v:=by
 have e:f_ H .n b a (.map id) (J k)=(fH .n (J k) es 0).map λr=>(match r with|some (_,v)=>gk a v true|none=>gk a b false):=by simp only[f_,h.2];rfl
 rw[e];rcases Cy (k:=k) (i:=0) d with c|⟨j,v,h1,f,g⟩
 ·rw[c.1];exact .inl ⟨rfl,c.2⟩
 ·rw[h1];exact .inr ⟨j,v,rfl,f,g⟩
theorem Cz{es:List (I×I)}(h:At H id (.map es))(b:fy R es)(k:Int){v:I}(hv:v.known=true)(c:R k v) :
  ∃a,jj H .n (.map id) (J k) v=some (H.set id (.map a))∧fy R a∧a.length≤es.length+1∧(J k,v)∈a:=by
 have e : jj H .n (.map id) (J k) v=(fH .n (J k) es 0).map λr=>(match r with
       |some (i,_)=>H.set id (.map (es.set i (J k,v)))
       |none=>H.set id (.map (es++[(J k,v)]))):=by
   simp only[jj,h.2];rw[af ⟨rfl,hv⟩];rfl
 rw[e];rcases Cy (k:=k) (i:=0) b with d|⟨j,w,h1,f,g⟩
 · rw [d.1];refine⟨_,rfl,λe he=>?_,by simp,by simp⟩;rcases ace.1 he with he|he
   ·exact b e he
   · rw[aeO]at he;subst he;exact⟨k,rfl,c⟩
 · rw [h1];refine⟨_,rfl,λe he=>?_,by simp,by rw[aaK];exact List.mem_iff_getElem?.2 ⟨j,List.getElem?_set_self (ZX.1 f).1⟩⟩;rcases List.mem_or_eq_of_mem_set he with he|he
   ·exact b e he
   · subst he;exact⟨k,rfl,c⟩
end Rb

namespace Rb
open Go
variable{H:AH}{x:I}{len:Nat}
structure Iv where
 r:Int
 f:Int
 t:Int
def Iv.cells(i:Iv):List I:=[J i.r,J i.f,J i.t]
theorem CA:∀l:List Iv,(l.flatMap Iv.cells).length=l.length*3
 |[]=>rfl
 |x::r=>by rw[adn,adD,CA r,ael];show 3+_=_;omega
theorem CB:∀(l:List Iv)(k:Nat)(x:Iv),l[k]?=some x→(l.flatMap Iv.cells)[k*3]?=some (J x.r)∧(l.flatMap Iv.cells)[k*3+1]?=some (J x.f)∧(l.flatMap Iv.cells)[k*3+2]?=some (J x.t)
 |[],k,x,h=>by simp at h
 | y::r,0,x,h=>by simp at h;subst h;exact⟨rfl,rfl,rfl⟩
 | y::r,k+1,x,h=>by have:=CB r k x (by simpa using h);rw[show(k+1)*3=k*3+3 by omega];exact this
theorem LO:∀(l:List Iv)(k:Nat)(x:Iv)(T:Int),l[k]?=some x→(l.flatMap Iv.cells).set (k*3+2) (J T)=(l.set k {x with t:=T}).flatMap Iv.cells
 |[],k,x,T,h=>by simp at h
 | y::r,0,x,T,h=>by simp at h;subst h;rfl
 | y::r,k+1,x,T,h=>by have:=LO r k x T (by simpa using h);rw[show(k+1)*3+2=(k*3+2)+3 by omega];show J y.r :: J y.f :: J y.t::(r.flatMap Iv.cells).set (k*3+2) _=_;rw[this];rfl
theorem LP:∀(n:Nat)(cs:List I),cs.length=n*3→(∀j,j<n*3→∃v,cs[j]?=some (J v)∧True)→∃l:List Iv,l.length=n∧cs=l.flatMap Iv.cells
 |0,cs,h,_=>⟨[],rfl,aeS (by omega)⟩
 | n + 1,cs,h,hv=>by
  match cs,h with
  | a::b::c::r,h=>
   obtain ⟨l,hl,e⟩:=LP n r (by simp at h;omega) λj i=>by have:=hv (j+3) (by omega);exact this
   obtain⟨x,d,_⟩:=hv 0 (by omega);obtain⟨y,f,_⟩:=hv 1 (by omega);obtain⟨z,g,_⟩:=hv 2 (by omega);cases d;cases f;cases g;exact⟨⟨x,y,z⟩::l,by simp[hl],by rw[adn,←e];rfl⟩
  |[],h=>simp at h
  |[_],h=>simp at h;omega
  |[_,_],h=>simp at h;omega
def fh(M:Int):List Iv→Nat
 |[]=>0
 |x::r=>(M-x.t).toNat+fh M r
theorem LQ{M T:Int}(hT:T≤M):∀(l:List Iv)(k:Nat)(x:Iv),l[k]?=some x→x.t<T→fh M (l.set k {x with t:=T})<fh M l
 |[],k,x,h,_=>by simp at h
 | y::r,0,x,h,ht=>by simp at h;subst h;show(M-T).toNat+fh M r<(M-y.t).toNat+fh M r;omega
 | y::r,k+1,x,h,ht=>by have:=LQ hT r k x (by simpa using h) ht;show(M-y.t).toNat+fh M (r.set k _)<(M-y.t).toNat+fh M r;omega
def OV(H:AH)(S:Nat→Prop)(x:I)(len:Nat)(l:List Iv):Prop:=(x = aw∧len=0)∨∃id,x = .row id 0 len 3∧len≤l.length∧At H id (.row (l.flatMap Iv.cells))∧S id
theorem Ls.ov{S:Nat→Prop}(h:Ls 3 bO S H x len):∃l,OV H S x len l:=by
 rcases h with⟨rfl,rfl⟩|⟨id,n,rfl,d,⟨cs,a,b,c⟩,hS⟩
 ·exact⟨[],.inl ⟨rfl,rfl⟩⟩
 · obtain⟨l,hl,rfl⟩:=LP n cs a b;exact⟨l,.inr ⟨id,rfl,by omega,c,hS⟩⟩
section
variable{C:Ctx}(hT:Cl (ai C) S.ba)
include hT
theorem Xb{U:Nat→Prop}{l:List Iv}(h:OV H U x len l)(hl:len≤1000000000){M:Int}{p:Int×Int}(g:p.2≤M){Q:ad}
  (j:∀(b:Bool) l' H',OV H' U x len l'→KX U H H'→fh M l'≤fh M l→(b=true→fh M l'<fh M l)→Q (.bool b) H'):ai C 39 [x,.agg (ca p)] H Q:=by
 refine S.QQ hT ?_;unfold S.f39;have m:aL H false 2 (.agg (ca p))=some (.aj (ca p),H):=rfl;have n:∀H,Z H 1 false (.aj ((ca p).drop 0))=some (J p.1):=λ_=>rfl;have p1:∀H,Z H 1 false (.aj ((ca p).drop 1))=some (J p.2):=λ_=>rfl;have hlen:aU false x=some (J len):=by rcases h with⟨rfl,rfl⟩|⟨id,rfl,_⟩<;>rfl
 simp only[m,aH,hlen,X];have main:∀(d i:Nat)(b:Bool)(l1:List Iv)(H1:AH),i+d=len→OV H1 U x len l1→KX U H H1→fh M l1≤fh M l→(b=true→fh M l1<fh M l)→av (S.q0 (ai C) x (.aj (ca p)) (J (len:Nat)) Q) ([.bool b,J (i:Nat)],H1):=by
  intro d;induction d with
  | zero=>intro i b l1 H1 hi h1 k1 m1 m2;refine av.step ?_;simp only[S.q0,ax,bR,aS,X,F];rw[eF];exact j b l1 H1 h1 k1 m1 m2
  | succ d f=>
   intro i b l1 H1 hi h1 k1 m1 m2;refine av.step ?_;simp only[S.q0,ax,bR,aS,X,F];rw[e5];have o:=h1;rcases h1 with⟨rfl,e⟩|⟨id,rfl,hle,a,hS⟩
   ·omega
   rw[dY (by omega)];have hk:i<l1.length:=by omega
   obtain⟨g0,g1,g2⟩:=CB l1 i l1[i] (aaQ hk);have q:=CA l1;have ld:∀k v,(l1.flatMap Iv.cells)[i*3+k]?=some v→Z H1 1 false (.ptr id (i*3+k))=some v:=λk v hv=>by rw[a.load];unfold bw;rw[af (by have:=(ZX.1 hv).1;omega),de];exact hv
   have c:S.py (ai C) (.aj (ca p)) (.ptr id (i*3)) ([.bool b,J (i:Nat)],H1) (av (S.q0 (ai C) (.row id 0 len 3) (.aj (ca p)) (J (len:Nat)) Q)) Q [P] H1:=by simp only[S.py,ax,F,abS,bz,aC,S.uR,bR,bu,X,wN (show i≤4000000000000000000 by omega)];exact f (i+1) b l1 H1 (by omega) o k1 m1 m2
   simp only[X,aD,aa,ld 1 _ g1,adx,n,aS,cD,aC,show Z H1 1 false (.aj (ca p))=some (J p.1)from rfl];refine ay (λ_=>?_) (λ_=>c);simp only[ld 2 _ g2,X,eQ,cD];refine ay (λ_=>?_) (λ_=>c);simp only[p1,X,aS];by_cases hc:l1[i].t<p.2
   · rw[show decide (l1[i].t<p.2)=true by simpa using hc];simp only[S.py,ax,F,aR,aa,aD,p1,X,aC];rw[a.store,af ⟨rfl,rfl,rfl,by show i*3+2+1≤_;omega⟩];simp only[X,S.uR,ax,bR,bu,wN (show i≤4000000000000000000 by omega)];rw[show setCells (l1.flatMap Iv.cells) (i*3+2) (J p.2).cells=(l1.flatMap Iv.cells).set (i*3+2) (J p.2)from rfl,LO l1 i l1[i] p.2 (aaQ hk)];have r:=LQ g l1 i l1[i] (aaQ hk) hc;exact f (i+1) true _ _ (by omega) (.inr ⟨id,rfl,by rw[ack];omega,a.set _,hS⟩) (k1.tr (KX.set _ hS _)) (by omega) (λ_=>by omega)
   · rw[show decide (l1[i].t<p.2)=false by simpa using hc];exact c
 exact main len 0 false l H (by omega) h (KX.refl _) (np _) (λe=>by cases e)
end
end Rb

namespace Rb
open Go
variable{H:AH}{A:List bn}{k:Nat}
theorem LS{H a H2:AH}(h:Left H.n a H2)(k:KX (λ_=>False) H a):KX (λ_=>False) H H2:=⟨sl k.1 h.1,λi hi hs=>by have:=h.2 i (a.o i) ⟨AV hi k.1,rfl⟩ (.inl hi);rw[this.2];exact k.2 i hi hs⟩
theorem CC{o:bn}(h:A[k]?=some o)(tk:Tok):aG none 13 (.ab tk A.length (A.flatMap bn.cells)) (J (k:Nat))=some (eS bn.cells 13 A k)∧∀H,Z H 13 true (eS bn.cells 13 A k)=some (.agg o.cells):=⟨dP (cells:=bn.cells) (sz:=13) (ZX.1 h).1,λH=>en (cells:=bn.cells) bn.len (by decide) H h⟩
theorem LU{A:List (Int×Int)}{o:Int×Int}(h:A[k]?=some o)(tk:Tok):aG none 2 (.ab tk A.length (A.flatMap ca)) (J (k:Nat))=some (eS ca 2 A k)∧∀H,Z H 2 true (eS ca 2 A k)=some (.agg (ca o)):=⟨dP (cells:=ca) (sz:=2) (ZX.1 h).1,λH=>en (cells:=ca) (λ_=>rfl) (by decide) H h⟩
theorem LV:∀l:List (Int×Int),(l.flatMap ca).length=l.length*2
 |[]=>rfl
 |x::r=>by rw[adn,adD,LV r,ael];show 2+_=_;omega
def LW(_:Int)(v:I):Prop:=∃n,v = J n
abbrev CE:List I:=[O,O,O,O,O,O,bP 0,O,O,O,O,O,O]
section
variable{C:Ctx}(hT:Cl (ai C) S.ba)
include hT
theorem Xc(P:A.length≤1000000){tk:Tok}{Q:ad}(z:∀tk (f:List (Int×Int)) H',f.length≤A.length→KX (λ_=>False) H H'→Q (.ab tk f.length (f.flatMap ca)) H') :
  ai C 38 [.ab tk A.length (A.flatMap bn.cells)] H Q:=by
 refine S.QP hT ?_;unfold S.f38;simp only[fQ,X];have main:∀(d i:Nat)(x:I)(f:List (Int×Int)) (es:List (I×I)) (H1:AH),i+d=A.length→cd H.n H1 2 x f.length (f.flatMap ca)→f.length≤i→At H1 H.n (.map es)→fy LW es→KX (λ_=>False) H H1 →
   av (S.pw (ai C) (.ab tk A.length (A.flatMap bn.cells)) (J (A.length:Nat)) H Q) ([x,J (i:Nat)],H1):=by
  intro d;induction d with
  | zero=>intro i x f es H1 hi w hl hm hk k1;refine av.step ?_;simp only[S.pw,ax,bR,aS,X,F];rw[eF];obtain⟨B,rfl,_⟩:=w;exact z B f H1 (by omega) k1
  | succ d D=>
   intro i x f es H1 hi w hl hm hk k1;refine av.step ?_;simp only[S.pw,ax,bR,aS,X,F];rw[e5];have E:i<A.length:=by omega
   obtain⟨o,G⟩:∃o,A[i]?=some o:=⟨_,aaQ E⟩
   obtain⟨e1,K⟩:=CC G tk;rw[e1];simp only[X,K,aK,aR,aH];rw[cC H1 CE o.cells 13 rfl rfl rfl];simp only[X,aa,dS,aaK,show bw o.cells 0 1 false=some (J o.kind)from rfl,show bw o.cells 10 1 false=some (J o.cY)from rfl,b5,F,aC];have s:cd H.n (H1.push (.row o.cells)) 2 x f.length (f.flatMap ca):=w.frame λt a b h=>h.push _;have l:At (H1.push (.row o.cells)) H.n (.map es):=hm.push _;have k2:KX (λ_=>False) H (H1.push (.row o.cells)):=k1.tr (KX.push _ _);have lx:∀k v,bw o.cells k 1 false=some v→Z (H1.push (.row o.cells)) 1 false (.ptr H1.n k)=some v:=λk v hv=>by rw[dS];exact hv
   have l10:=lx 10 _ (show bw o.cells 10 1 false=some (J o.cY)from rfl);have hH:H1.n+1=(H1.push (.row o.cells)).n:=rfl;generalize R:H1.push (.row o.cells)=H2 at *;have u:∀(p:I)(r:List (Int×Int)) (q:List (I×I)) (g:AH),cd H.n g 2 p r.length (r.flatMap ca)→r.length≤i+1→At g H.n (.map q)→fy LW q→KX (λ_=>False) H g →
     S.pv (ai C) ([x,J (i:Nat)],H1) (av (S.pw (ai C) (.ab tk A.length (A.flatMap bn.cells)) (J (A.length:Nat)) H Q)) Q [p] g:=by
    intro p r q g a b c L e;simp only[S.pv,ax,bR,bu,X,wN (show i≤4000000000000000000 by omega)];exact D (i+1) p r q g (by omega) a b c L e
   have y:∀b:Bool,S.uQ (ai C) (.ptr H1.n 0) H ([x,J (i:Nat)],H1) (av (S.pw (ai C) (.ab tk A.length (A.flatMap bn.cells)) (J (A.length:Nat)) H Q)) Q [.bool b] H2:=by
    intro b;simp only[S.uQ,ax,bR,F,aa,aaK,l10,X,aC];refine ay (λ_=>?_) (λ_=>u x f es H2 s (by omega) l hk k2);rcases sb l hk O true o.cY with⟨h,_⟩|⟨j,v,h,_,⟨n,rfl⟩⟩
    · rw[h];simp only[X,gk,aR,aY,adV,adW,F,abS,bz];exact u x f es H2 s (by omega) l hk k2
    · rw[h];simp only[X,gk,aR,aY,adV,adW,F];rw[show aB [O,O] [(0,1,J n),(1,1,J (i:Nat))]=some (.agg (ca (n,(i:Int))))from rfl];simp only[X];rw[show b8 H2 false 2 1 [O,O] [(0,2,.agg (ca (n,(i:Int))))]=some (.ab .full 1 (ca (n,(i:Int))),H2)from rfl];simp only[aH];refine s.app (n0:=H.n) k2.1 (m:=1) (news:=ca (n,(i:Int))) rfl rfl rfl (by decide) (by omega) (by omega) λp g a b=>?_;refine u p (f++[(n,(i:Int))]) es g ?_ (by simp;omega) (b.2 _ _ l (.inr λ_ _ e=>by cases e)) hk (LS b k2);rw[adD,aeK];exact a
   apply ay<;>intro _
   · obtain⟨q,M,N,_,_⟩:=Cz l hk o.cY (v:= J (i:Nat)) rfl ⟨_,rfl⟩;rw[M];simp only[X];refine u x f q _ (s.frame λt a b h=>h.aZ (λe=>?_) _) (by omega) (l.set _) N (k2.trans (KX.set (S:=(·= H.n)) _ rfl _) λi hi e=>by omega);subst e;have:=h.2.symm.trans l.2;cases this
   ·refine ay (λ_=>y _) (λ_=>y _)
 exact main A.length 0 _ [] [] _ (by omega) (cd.nil _ _ _) (np _) (At.new _ _) (λe he=>by cases he) (KX.push _ _)
end
end Rb

namespace Rb
open Go
variable{H H':AH}{l:List Iv}{x:I}{len:Nat}{U:Nat→Prop}
def sd(H:AH)(k:Int)(v:I):Prop:=∃b,v = .ptr b 0∧Rw 3 bO H b 1
theorem sd.kx{S:Nat→Prop}(k:KX S H H')(hs:∀i,i<H.n→¬S i){x:Int}{v:I}(h:sd H x v):sd H' x v:=by obtain⟨b,e,r⟩:=h;exact⟨b,e,r.kx k (hs b r.lt)⟩
theorem fy.imp{R c:Int→I→Prop}{es:List (I×I)}(h:fy R es)(f:∀k v,R k v→c k v):fy c es:=λe he=>by obtain⟨k,a,b⟩:=h e he;exact⟨k,a,f k _ b⟩
def iM(n:Nat)(e:I×I):Bool:=match e.1 with | .int _ k=>decide (k<n)|_=>false
theorem LX(n:Nat)(es:List (I×I)):(es.filter (iM n)).length≤es.length:=List.length_filter_le _ _
theorem CG(n:Nat):∀es:List (I×I),(es.filter (iM n)).length≤(es.filter (iM (n+1))).length
 |[]=>np _
 | e :: r=>by
  have a:=CG n r;rw[aeV,aeV];by_cases h:iM n e=true
  · have b:iM (n+1) e=true:=by
      unfold iM at h ⊢;split at h
      ·simp at h ⊢;omega
      ·cases h
    rw[af h,af b];simp;exact a
  · rw[ak h];split
    ·simp;omega
    ·exact a
theorem LY{n:Nat}{v:I}:∀{es:List (I×I)},(J (n:Nat),v)∈es→(es.filter (iM n)).length+1≤(es.filter (iM (n+1))).length
 |[],h=>by cases h
 | e :: r,h=>by
  rw[aeV,aeV];rcases acm.1 h with rfl|h
  · rw[ak (by simp[iM]),af (by simp[iM];omega)];have:=CG n r;simp;omega
  · have b:=LY h;by_cases a:iM n e=true
    · have c:iM (n+1) e=true:=by
        unfold iM at a ⊢;split at a
        ·simp at a ⊢;omega
        ·cases a
      rw[af a,af c];simp;omega
    · rw[ak a];split
      ·simp;omega
      ·exact b
theorem LZ:∀b:List (Int×Int),∃M:Int,∀p∈b,p.2≤M
 |[]=>⟨0,λp c=>by cases c⟩
 | p::r=>by
  obtain⟨M,h⟩:=LZ r;refine⟨max p.2 M,λq a=>?_⟩;rcases acm.1 a with rfl|a
  ·omega
  ·have:=h q a;omega
theorem L0{id:Nat}(h:At H id (.row (l.flatMap Iv.cells))):Rw 3 bO H id l.length:=by
 refine⟨_,CA l,λj a=>?_,h⟩;have hk:j/3<l.length:=by omega
 obtain⟨g0,g1,g2⟩:=CB l (j/3) l[j/3] (aaQ hk);have:j=j/3*3∨j=j/3*3+1∨j=j/3*3+2:=by omega
 rcases this with e|e|e<;>rw[e]
 ·exact⟨_,g0,trivial⟩
 ·exact⟨_,g1,trivial⟩
 ·exact⟨_,g2,trivial⟩
theorem OV.ls(h:OV H U x len l):Ls 3 bO U H x len:=by
 rcases h with h|⟨id,e,hl,a,u⟩
 ·exact .inl h
 ·exact .inr ⟨id,_,e,hl,L0 a,u⟩
theorem OV.kx{U T:Nat→Prop}(h:OV H U x len l)(k:KX T H H')(hs:∀i,i<H.n→U i→¬T i):OV H' U x len l:=by
 rcases h with h|⟨id,e,hl,a,u⟩
 ·exact .inl h
 ·exact .inr ⟨id,e,hl,k.at a (hs _ a.1 u),u⟩
def mP(v:I)(len:Nat):Prop:=(v = aw∧len=0)∨(0<len∧∃cs,v = .ab .dead len cs∧gf 3 bO len cs)
theorem Ls.freeze(h:Ls 3 bO (λ_=>True) H x len)(d:len=0→x = aw){N:Nat}(e:∀id,x = .row id 0 len 3→N≤id):∃v H',fb H x=some (v,H')∧mP v len∧H.n≤H'.n∧(∀i,i<N→H'.o i=H.o i):=by
 rcases h with⟨rfl,rfl⟩|⟨id,n,rfl,f,r,_⟩
 ·exact⟨_,H,rfl,.inl ⟨rfl,rfl⟩,np _,λ_ _=>rfl⟩
 · have g:0<len:=by
     rcases ads len with q|q
     ·cases d q
     ·exact q
   obtain⟨cs,a,b,c⟩:=r;have hl:len*3≤n*3:=Nat.mul_le_mul_right _ f;have:=e id rfl;refine⟨.ab .dead len ((cs.drop 0).take (len*3)),H.set id .gone,?_,.inr ⟨g,_,rfl,by rw[adS,adx];omega,λj k=>?_⟩,np _,λi hi=>AH.aZ H .gone (by omega)⟩
   · simp only[fb,c.2];rw[cj]
   · obtain⟨v,h1,l⟩:=b j (by omega);exact⟨v,by rw[abY k,adx];exact h1,l⟩
section
variable{C:Ctx}(hT:Cl (ai C) S.ba)
include hT
theorem Xd{a0:I}(h:OV H U x len l)(hl:len≤1000000000){tk:Tok}{a:List (Int×Int)}(u:a.length≤1000000000){Q:ad}
  (m:∀H',Ls 3 bO U H' x len→KX U H H'→au (fb H' x) Q):av (S.pn (ai C) (.ab tk a.length (a.flatMap ca)) [x] Q) ([bg],H):=by
 obtain⟨M,n⟩:=LZ a;have main:∀(k:Nat)(l1:List Iv)(H1:AH),fh M l1≤k→OV H1 U x len l1→KX U H H1→av (S.pn (ai C) (.ab tk a.length (a.flatMap ca)) [x] Q) ([bg],H1):=by
  intro k;induction k using aeR with
  |ind k o=>
  intro l1 H1 hk h1 k1;refine av.step ?_;simp only[S.pn,ax,F,aR,fQ,X];have inner:∀(d i:Nat)(b:Bool)(l2:List Iv)(H2:AH),i+d=a.length→OV H2 U x len l2→KX U H H2→fh M l2≤fh M l1→(b=true→fh M l2<fh M l1) →
    av (S.uA (ai C) (.ab tk a.length (a.flatMap ca)) (J (a.length:Nat)) [x] (av (S.pn (ai C) (.ab tk a.length (a.flatMap ca)) [x] Q)) Q) ([.bool b,J (i:Nat)],H2):=by
   intro d;induction d with
   | zero=>
    intro i b l2 H2 hi c k2 m1 m2;refine av.step ?_;simp only[S.uA,ax,bR,aS,X,F];rw[eF];cases b with
    | true=>have:=m2 rfl;exact o (fh M l2) (by omega) l2 H2 (np _) c k2
    | false=>refine av.step ?_;simp only[S.pn,ax,F,abS,bz,aC,S.Fy];exact m H2 c.ls k2
   | succ d f=>
    intro i b l2 H2 hi c k2 m1 m2;refine av.step ?_;simp only[S.uA,ax,bR,aS,X,F];rw[e5];obtain⟨p,g⟩:∃p,a[i]?=some p:=⟨_,aaQ (by omega)⟩
    obtain⟨e1,r⟩:=LU g tk;rw[e1];simp only[X,r,aK,aR,aH];rw[cC H2 [O,O] (ca p) 2 rfl rfl rfl];simp only[X,dS,show bw (ca p) 0 2 true=some (.agg (ca p))from rfl];have s:OV (H2.push (.row (ca p))) U x len l2:=c.kx (KX.push (S:=λ_=>False) _ _) λ_ _ _ h=>h;refine Xb hT s hl (n p (acN g)) λv l' H' j k' w t=>?_;have kk:KX U H H':=(k2.tr (KX.push _ _)).tr k';simp only[cy,aC,S.Ah,ax,bR,bu,X,wN (show i≤4000000000000000000 by omega)];apply ru<;>intro e
    ·exact f (i+1) b l' H' (by omega) j kk (by omega) (λq=>by have:=m2 q;omega)
    ·exact f (i+1) true l' H' (by omega) j kk (by omega) (λ_=>by have:=t e;omega)
  exact inner a.length 0 false l1 H1 (by omega) h1 k1 (np _) (λe=>by cases e)
 exact main (fh M l) l H (np _) h (KX.refl _)
theorem Xe{A:List bn}(aa:A.length≤100000){tk:Tok}{K:Nat}(ac:K≤100000000000){H a:AH}{es:List (I×I)}(s:At a H.n (.map es))(w:fy (sd a) es)(hl:es.length≤6*A.length)(g:KX (λ_=>False) H a){Q:ad}
  (y:∀v len H',len≤6*A.length→mP v len→KX (λ_=>False) H H'→Q v H') :
  S.Ai (ai C) (.ab tk A.length (A.flatMap bn.cells)) (J (K:Nat)) H Q [] a:=by
 simp only[S.Ai];rw [show eP true [J (K:Nat),O]=some (J (K:Nat))from by simp only[eP,mT,p7,aR];rw[bM]]
 simp only[X];have main:∀(d r:Nat)(x:I)(len:Nat)(H1:AH),r+d=K→Ls 3 bO (λi=>a.n≤i) H1 x len→KX (λi=>a.n≤i) a H1→len≤(es.filter (iM r)).length→(len=0→x = aw) →
   av (S.uB (ai C) (.ab tk A.length (A.flatMap bn.cells)) (J (K:Nat)) H Q) ([x,J (r:Nat)],H1):=by
  intro d;induction d with
  | zero=>
   intro r x len H1 hi c k1 hc m;refine av.step ?_;simp only[S.uB,ax,bR,aS,X,F,aC];rw[eF];have hlen:len≤6*A.length:=sl hc (sl (LX _ _) hl);simp only[S.Fz];refine Xc hT (by omega) λae ag H2 ah k2=>?_;have z:=c.kx k2 λ_ _ h=>h;obtain⟨l,hv⟩:=z.ov;refine Xd hT (a0:=x) hv (by omega) (by omega) λH' f B=>?_;have kk:KX (λi=>a.n≤i) a H':=(k1.trans k2 λ_ _ h=>h.elim).tr B;obtain ⟨v,D,E,G,L,M⟩:=(f.mono λi _ _=>trivial).freeze m (N:=a.n) λid q=>by
    rcases f with⟨o,_⟩|⟨aj,_,o,_,_,R⟩
    ·rw[o]at q;cases q
    ·rw[o]at q;cases q;exact R
   rw[E];simp only[aH];have t:KX (λ_=>False) H H':=g.trans kk λi hi e=>by have:=g.1;omega
   have n4:=g.1;exact y v len D hlen G ⟨sl t.1 L,λi hi hs=>(M i (by omega)).trans (t.2 i hi hs)⟩
  | succ d u=>
   intro r x len H1 hi c k1 hc m;refine av.step ?_;simp only[S.uB,ax,bR,aS,X,F,aC];rw[e5];have hlen:len≤6*A.length:=sl hc (sl (LX _ _) hl);have T:At H1 H.n (.map es):=k1.at s (by have:=s.1;omega);have U:fy (sd H1) es:=w.imp λk v h=>h.kx k1 λi hi e=>by omega
   rcases sb T U .dx false r with⟨h,_⟩|⟨j,v,h,V,⟨b,rfl,W⟩⟩
   · rw[h];simp only[X,gk,abS,bz,show h3 .p true .dx=some (P)from rfl,F];simp only[S.uz,ax,bR,bu,X,wN (show r≤4000000000000000000 by omega)];exact u (r+1) x len H1 (by omega) c k1 (sl hc (CG _ _)) m
   · rw [h];simp only[X,gk,abS,bz,show h3 .p true (.ptr b 0)=some (bg)from rfl,F,aR,aD];obtain⟨ev,he,e1⟩:=W.ld (i:=0) (by decide);rw[Nat.zero_mul]at e1;rw[e1];simp only[X];rw [show b8 H1 false 3 1 [O,O,O] [(0,3,.agg ev)]=some (.ab .full 1 ev,H1)from by
       unfold b8 fZ;rw[af ⟨rfl,he.1,by decide⟩];show acR _ (some (setCells [O,O,O] 0 ev))=_;rw[rm (by rw[he.1];rfl)];rfl]
     simp only[aH];obtain⟨Y,H',Z,f,k2⟩:=c.app (bytes:=24) (tk:= .full) (by decide) he (by omega) (by omega);rw[Z];simp only[aH,S.uz,ax,bR,bu,X,wN (show r≤4000000000000000000 by omega)];refine u (r+1) Y (len+1) H' (by omega) (f.mono λi _ h=>?_) (k1.tr k2) (sl (by omega) (LY (acN V))) (λq=>by omega);rcases h with h|h
     ·exact h
     ·exact sl k1.1 h
 exact main K 0 _ 0 a (by omega) (.inl ⟨rfl,rfl⟩) (KX.refl _) (aav _) (λ_=>rfl)
end
end Rb

namespace Rb
open Go
def jP(V:Nat→Prop)(H:AH)(k:Int)(v:I):Prop:=∃b,v = .ptr b 0∧V b∧Rw 3 bO H b 1
theorem jP.kx{V S:Nat→Prop}{H H':AH}(k:KX S H H')(hs:∀i,i<H.n→¬S i){x:Int}{v:I}(h:jP V H x v):jP V H' x v:=by obtain⟨b,e,u,r⟩:=h;exact⟨b,e,u,r.kx k (hs b r.lt)⟩
section
variable{C:Ctx}(hT:Cl (ai C) S.ba)
include hT
theorem Xf{H0:AH}{K t:Nat}{i:Nat}(hi:i≤1000000)(ht:t≤6){s:List I}{w:AH}(hs:D s 0 = J (i:Nat)){x:I}{L:(List I×AH)→Prop}{Q:ad}{H:AH}{es:List (I×I)}{n N:Nat}(ac:Ls 1 bO (λj=>N≤j) H x t)(aI:H0.n<N)
  (hm:At H H0.n (.map es)) (hk:fy (jP (λb=>H0.n<b∧b<N) H) es) (aJ:es.length≤n) (ah:KX (λ_=>False) H0 H)
  (hL:∀M H',At H' H0.n (.map M)→fy (jP (λb=>H0.n<b) H') M→M.length≤n+t→KX (λ_=>False) H0 H'→L ([J ((i+1:Nat):Int)],H')) :
  av (S.nH (ai C) (J (K:Nat)) x (J (t:Nat)) H0 (s,w) L Q) ([O],H):=by
 have main:∀(d k:Nat)(l:List (I×I)) (H1:AH),k+d=t→Ls 1 bO (λj=>N≤j) H1 x t→At H1 H0.n (.map l)→fy (jP (λb=>H0.n<b∧∀ix,x = .row ix 0 t 1→b≠ix) H1) l→l.length≤n+k→KX (λ_=>False) H0 H1 →
   av (S.nH (ai C) (J (K:Nat)) x (J (t:Nat)) H0 (s,w) L Q) ([J (k:Nat)],H1):=by
  intro d;induction d with
  | zero=>intro k l H1 aj R m o ak k1;refine av.step ?_;simp only[S.nH,ax,aS,X,F,aC];rw[eF];simp only[S.Fx,hs,bu,X,wN (show i≤4000000000000000000 by omega)];exact hL l H1 m (o.imp λk v ⟨b,e,u,r⟩=>⟨b,e,u.1,r⟩) (by omega) k1
  | succ d al=>
   intro k l H1 aj R m o ak k1;refine av.step ?_;simp only[S.nH,ax,aS,X,F,aC];rw[e5];have T:=R;rcases R with⟨_,e⟩|⟨ix,nx,rfl,hle,rx,aK⟩
   ·omega
   rw[dY (by omega)];obtain⟨r,_,ae⟩:=rx.ld1 (i:=k) (k:=0) (by omega) (by decide);rw[aaz]at ae;rw[X,ae];simp only[X,eQ,F];have next:∀(f:List (I×I)) (H2:AH),Ls 1 bO (λj=>N≤j) H2 (.row ix 0 t 1) t→At H2 H0.n (.map f)→fy (jP (λb=>H0.n<b∧∀g,I.row ix 0 t 1 = .row g 0 t 1→b≠g) H2) f→f.length≤n+(k+1)→KX (λ_=>False) H0 H2 →
     S.ux (ai C) ([J (k:Nat)],H1) (av (S.nH (ai C) (J (K:Nat)) (.row ix 0 t 1) (J (t:Nat)) H0 (s,w) L Q)) Q [] H2:=by
    intro f H2 a b c U e;simp only[S.ux,ax,bu,X,wN (show k≤4000000000000000000 by omega)];exact al (k+1) f H2 (by omega) a b c U e
   have af:∀(f:List (I×I)) (H2:AH),Ls 1 bO (λj=>N≤j) H2 (.row ix 0 t 1) t→At H2 H0.n (.map f)→fy (jP (λb=>H0.n<b∧∀g,I.row ix 0 t 1 = .row g 0 t 1→b≠g) H2) f→f.length≤n+(k+1)→KX (λ_=>False) H0 H2→(∃v,(J r,v)∈f) →
     S.uy (ai C) (J r) H0 (s,w) ([J (k:Nat)],H1) (av (S.nH (ai C) (J (K:Nat)) (.row ix 0 t 1) (J (t:Nat)) H0 (s,w) L Q)) Q [] H2:=by
    intro f H2 a b c U e ⟨v,hv⟩;simp only[S.uy,aC];rcases sb b c .dx false r with⟨_,h⟩|⟨j,v,h,y,⟨z,rfl,A,B⟩⟩
    ·exact absurd rfl (h _ hv)
    · rw [h];simp only[X,gk,abS,bz,aD,aa,aaK,hs];obtain⟨E,am,an,G⟩:=B.st1 (i:=0) (k:=2) (by decide) (by decide) (v:=(i:Nat)) trivial;have ao:Y H2 1 (.ptr z 2) (J (i:Nat))=some E:=am;rw[ao];simp only[X];have ap:fy (jP (λb=>H0.n<b∧∀g,I.row ix 0 t 1 = .row g 0 t 1→b≠g) E) f:=c.imp λk v h=>by
       obtain⟨V,ev,u,W⟩:=h;by_cases q:V=z
       ·subst q;exact⟨V,ev,u,an⟩
       ·exact⟨V,ev,u,W.kx G q⟩
      have a3:Ls 1 bO (λj=>N≤j) E (.row ix 0 t 1) t:=by
       rcases a with⟨q,_⟩|⟨g,ag,q,aq,ar,au⟩
       ·cases q
       · cases q;exact .inr ⟨ix,ag,rfl,aq,ar.kx G (λq=>A.2 ix rfl q.symm),au⟩
      exact next f E a3 (G.at b (λq=>by have:=A.1;omega)) ap U (e.trans G λj y q=>by have:=A.1;omega)
   refine ay (λ_=>next l H1 T m o (by omega) k1) (λ_=>?_);rcases sb m o .dx false r with⟨h,_⟩|⟨j,v,h,y,⟨z,rfl,A,B⟩⟩
   · rw [h];simp only[X,gk,abS,bz,show h3 .p false .dx=some (bg)from rfl,F,aR,hs];rw[show aB [O,O,O] [(0,1,J r),(1,1,J (i:Nat)),(2,1,J (i:Nat))]=some (.agg [J r,J (i:Nat),J (i:Nat)])from rfl];simp only[X];rw[show aL H1 true 3 (.agg [J r,J (i:Nat),J (i:Nat)])=some (.ptr H1.n 0,H1.push (.row [J r,J (i:Nat),J (i:Nat)]))from rfl];simp only[aH];have B:Rw 3 bO (H1.push (.row [J r,J (i:Nat),J (i:Nat)])) H1.n 1:=by
      have:=L0 (At.new H1 (.row (List.flatMap Iv.cells [⟨r,i,i⟩])));exact this
     have aw:=m.1;have aM:ix<H1.n:=rx.lt;have az:fy (jP (λb=>H0.n<b∧∀g,I.row ix 0 t 1 = .row g 0 t 1→b≠g) (H1.push (.row [J r,J (i:Nat),J (i:Nat)]))) l:=o.imp λk v h=>h.kx (KX.push (S:=λ_=>False) _ _) λ_ _ h=>h;obtain⟨f,aA,aE,aN,aF⟩:=Cz (m.push _) az r (v:= .ptr H1.n 0) rfl ⟨H1.n,rfl,⟨aw,λg q=>by cases q;omega⟩,B⟩;rw[aA];simp only[X];have Z:KX (·= H0.n) (H1.push (.row [J r,J (i:Nat),J (i:Nat)])) ((H1.push (.row [J r,J (i:Nat),J (i:Nat)])).set H0.n (.map f)):=KX.set (S:=(·= H0.n)) _ rfl _;have aG:fy (jP (λb=>H0.n<b∧∀g,I.row ix 0 t 1 = .row g 0 t 1→b≠g) ((H1.push (.row [J r,J (i:Nat),J (i:Nat)])).set H0.n (.map f))) f:=aE.imp λk v ⟨b,ev,u,W⟩=>⟨b,ev,u,W.kx Z (λq=>by have:=u.1;omega)⟩
     exact af f _ ((T.kx (KX.push (S:=λ_=>False) _ _) λ_ _ h=>h).kx Z λj y q=>by omega) ((m.push _).set _) aG (by omega) ((k1.tr (KX.push _ _)).trans Z λj y q=>by omega) ⟨_,aF⟩
   · rw[h];simp only[X,gk,abS,bz,show h3 .p false (.ptr z 0)=some (P)from rfl,F];exact af l H1 T m o (by omega) k1 ⟨_,acN y⟩
 refine main t 0 es H (by omega) ac hm (hk.imp λk v ⟨b,e,u,r⟩=>⟨b,e,⟨u.1,λix q=>?_⟩,r⟩) (by omega) ah;rcases ac with⟨ab,_⟩|⟨g,ag,ab,_,_,aO⟩
 ·rw[ab]at q;cases q
 ·rw[ab]at q;cases q;omega
theorem Xg{A:List bn}(m:A.length≤100000){tk:Tok}{K:Nat}(p:K≤100000000000){H:AH}{Q:ad}
  (q:∀v len H',len≤6*A.length→mP v len→KX (λ_=>False) H H'→Q v H') :
  ai C 17 [.ab tk A.length (A.flatMap bn.cells),J (K:Nat)] H Q:=by
 refine S.Qx hT ?_;unfold S.f17;simp only[fQ,X];have main:∀(d i:Nat)(es:List (I×I)) (H1:AH),i+d=A.length→At H1 H.n (.map es)→fy (jP (λb=>H.n<b) H1) es→es.length≤6*i→KX (λ_=>False) H H1 →
   av (S.uC (ai C) (.ab tk A.length (A.flatMap bn.cells)) (J (K:Nat)) (J (A.length:Nat)) H Q) ([J (i:Nat)],H1):=by
  intro d;induction d with
  | zero=>intro i es H1 hi hm hk hl k1;refine av.step ?_;simp only[S.uC,ax,aS,X,F,aC];rw[eF];exact Xe hT m p hm (hk.imp λk v ⟨b,e,u,r⟩=>⟨b,e,r⟩) (by omega) k1 q
  | succ d s=>
   intro i es H1 hi hm hk hl k1;refine av.step ?_;simp only[S.uC,ax,aS,X,F,aC];rw[e5];obtain⟨o,t⟩:∃o,A[i]?=some o:=⟨_,aaQ (by omega)⟩
   obtain⟨e1,w⟩:=CC t tk;rw[e1];simp only[X,w,aK,aR,aH];rw[cC H1 CE o.cells 13 rfl rfl rfl];have j:∀H2,KX (λ_=>False) (H1.push (.row o.cells)) H2→Z H2 13 true (.ptr H1.n 0)=some (.agg o.cells):=λH2 k=>by rw[(k.at (At.new H1 (.row o.cells)) λh=>h).load];rfl
   simp only[X,j _ (KX.refl _)];refine W5 hT o λi1 m1 H2 b1 g1 r1 k2=>?_;refine⟨j _ k2,?_⟩;refine W6 hT o λi2 m2 f b2 g2 y g=>?_;rw[show b8 f false 1 2 [aw] [(0,1,.row i1 0 m1 1),(1,1,.row i2 0 m2 1)]=some (.ab .full 2 [.row i1 0 m1 1,.row i2 0 m2 1],f)from rfl];simp only[aH];obtain⟨n1,l1,z⟩:=r1;obtain⟨n2,l2,B⟩:=y;refine Xa hT (z.kx g λh=>h) l1 B l2 b1 b2 λx D l E=>?_;rw[l.len];simp only[X];have kp:KX (λ_=>False) H1 (H1.push (.row o.cells)):=KX.push _ _;have kk:KX (λ_=>False) H1 D:=((kp.tr k2).tr g).tr E;have G:m1+m2≤6:=by omega
   have O:=hm.1;have g3:H1.n≤f.n:=sl (sl kp.1 k2.1) g.1;refine Xf hT (H0:=H) (i:=i) (n:=6*i) (N:=f.n) (by omega) G rfl l (by omega) (kk.at hm λh=>h) (hk.imp λk v ⟨b,e,u,r⟩=>⟨b,e,⟨u,AV r.lt g3⟩,r.kx kk λh=>h⟩) hl (k1.tr kk) λL H' a b c M=>?_;exact s (i+1) L H' (by omega) a b (by omega) M
 exact main A.length 0 [] _ (by omega) (At.new _ _) (λe he=>by cases he) (aav _) (KX.push _ _)
end
end Rb

namespace Rb
open Go
variable{H:AH}{n id m a b:Nat}{Q:ad}{f:I}
theorem wS(a:1≤n)(h:n≤4000000000000000000):aa8 .i64 ((n:Int)-1)=((n-1:Nat):Int):=by rw[bJ];omega
theorem wD(a:m≤n)(h:n≤4000000000000000000):aa8 .i64 ((n:Int)-(m:Int))=((n-m:Nat):Int):=by rw[bJ];omega
theorem xW{s:Nat}(h:s≤4000000000000000000){K:I→Prop}(a:K (J ((s/2:Nat):Int))) :
  Do (dK .u64 (J (s:Nat))) λx=>Do (M .shr x (bP 1)) λy=>Do (dK .i64 y) K:=by
 simp only[ie,X];rw[Jn,Jl _ _ _ _ (by decide)];simp only[X,ie];have e:((s:Int).fdiv (2^(min (1:Int).toNat IntKind.u64.bits)))=((s/2:Nat):Int):=by show(s:Int).fdiv 2=_;rw[Int.fdiv_eq_ediv_of_nonneg _ (by decide)];omega
 rw[e,bJ];exact a
theorem xX{id n i j:Nat}(h:Rw 3 bO H id n)(hi:i<n)(a:j<n){K:AH→Prop}(b:∀H',Rw 3 bO H' id n→KX (·= id) H H'→K H') :
  Do (Z H 3 true (.ptr id (i*3))) λx=>Do (Z H 3 true (.ptr id (j*3))) λy=>Do (Y H 3 (.ptr id (j*3)) x) λH1=>Do (Y H1 3 (.ptr id (i*3)) y) K:=by
 obtain⟨e1,W,b1⟩:=h.ld hi;obtain⟨d,a2,b2⟩:=h.ld a;obtain⟨H1,s1,r1,k1⟩:=h.st a W;obtain⟨H2,s2,c,k2⟩:=r1.st hi a2;rw[b1];simp only[X];rw[b2];simp only[X];rw[s1];simp only[X];rw[s2];simp only[X];exact b H2 c (k1.tr k2)
section
variable{C:Ctx}(hT:Cl (ai C) S.ba)
include hT
theorem L1{a b:Int}(d:∀c:Int,Q (J c) H):ai C 32 [J a,J b] H Q:=by
 have nan:∀(n:Int)(R:ad),R (.bool (n != n)) H→ai C 71 [J n] H R:=λn R e=>S.Rc hT (by unfold S.f71;simp only[dc,X];exact e)
 refine S.QJ hT ?_;unfold S.f32;refine nan _ _ (nan _ _ ?_);simp only[F,aS,dC,X]
 repeat' first|exact d _|apply ay<;>intro _
theorem Xh{a b:Int}(d:∀c:Int,Q (J c) H):ai C 31 [.ab .full 2 [J a,J b]] H Q:=by refine S.QI hT ?_;unfold S.f31;have e0:aG none 1 (.ab .full 2 [J a,J b]) (O)=some (.aj [J a,J b]):=rfl;have e1:aG none 1 (.ab .full 2 [J a,J b]) (J 1)=some (.aj [J b]):=rfl;have l0:Z H 1 false (.aj [J a,J b])=some (J a):=rfl;have l1:Z H 1 false (.aj [J b])=some (J b):=rfl;simp only[fQ,X];refine av.step ?_;simp only[S.uL,ax,aS,X,F];rw[pS,e0];simp only[X,l0,dc,F,bu,show aa8 .i64 ((0:Int)+1)=1 from rfl];refine ay (λ_=>d _) (λ_=>?_);refine av.step ?_;simp only[S.uL,ax,aS,X,F];rw[pS,e1];simp only[X,l1,dc,F,bu,show aa8 .i64 ((1:Int)+1)=2 from rfl];refine ay (λ_=>d _) (λ_=>?_);refine av.step ?_;simp only[S.uL,ax,aS,X,F];rw[de];exact d _
theorem xY{es fs:List I}(d:El 3 bO es)(hf:El 3 bO fs)(f:∀c:Int,Q (J c) H):ai C 30 [.agg es,.agg fs] H Q:=by
 have three:∀{es:List I},El 3 bO es→∃a b c:Int,es=[J a,J b,J c]:=by
  intro es d;obtain⟨l,h⟩:=d
  match es,l with
  | [x,y,z],_=>obtain⟨a,g,_⟩:=h 0 (by decide);obtain⟨b,e,_⟩:=h 1 (by decide);obtain⟨c,hc,_⟩:=h 2 (by decide);cases g;cases e;cases hc;exact⟨a,b,c,rfl⟩
 obtain⟨a,b,c,rfl⟩:=three d;obtain⟨i,j,c',rfl⟩:=three hf;refine S.QH hT ?_;unfold S.f30;have e:∀(x y z:Int),aL H false 3 (.agg [J x,J y,J z])=some (.aj [J x,J y,J z],H):=λ_ _ _=>rfl;have l0:∀(x y z:Int),Z H 1 false (.aj [J x,J y,J z])=some (J x):=λ_ _ _=>rfl;have l1:∀(x y:Int),Z H 1 false (.aj [J x,J y])=some (J x):=λ_ _=>rfl;simp only[e,aH,eu,ac2,adx,X,l0,l1];refine L1 hT λx=>?_;refine⟨rfl,rfl,?_⟩;refine L1 hT λy=>?_;rw[show b8 H false 1 2 [O] [(0,1,J x),(1,1,J y)]=some (.ab .full 2 [J x,J y],H)from rfl];simp only[aH];exact Xh hT f
def lq(H:AH)(id n:Nat)(Q:ad):Prop:=∀H',Rw 3 bO H' id n→KX (·= id) H H'→Q (.ar []) H'
theorem lq.of{H a:AH}(b:lq H id n Q)(k:KX (·= id) H a):lq a id n Q:=λH' r k'=>b H' r (k.tr k')
theorem L2(v:n≤1000000)(w:a≤b)(x:b≤n)(h:Rw 3 bO H id n)(l:lq H id n Q):ai C 133 [.row id 0 n 3,J (a:Nat),J (b:Nat),.fn 30 []] H Q:=by
 refine S.I2 hT ?_;unfold S.f133;simp only[bu,X,wN (show a≤4000000000000000000 by omega)];have main:∀(d i:Nat)(H1:AH),i+d=b∨(d=0∧b≤i)→a+1≤i→i≤n+1→Rw 3 bO H1 id n→KX (·= id) H H1→av (S.mB (ai C) (.row id 0 n 3) (J (a:Nat)) (J (b:Nat)) (.fn 30 []) Q) ([J (i:Nat)],H1):=by
  intro d;induction d with
  | zero=>intro i H1 hi m o h1 k1;refine av.step ?_;simp only[S.mB,ax,aS,X,F];rw[eF];exact l H1 h1 k1
  | succ d g=>
   intro i H1 hi m o h1 k1;refine av.step ?_;simp only[S.mB,ax,aS,X,F];rw[e5];have inner:∀(j:Nat)(H2:AH),a≤j→j≤i→Rw 3 bO H2 id n→KX (·= id) H H2→av (S.q7 (ai C) (.row id 0 n 3) (J (a:Nat)) (.fn 30 []) ([J (i:Nat)],H1) (av (S.mB (ai C) (.row id 0 n 3) (J (a:Nat)) (J (b:Nat)) (.fn 30 []) Q)) Q) ([J (j:Nat)],H2):=by
    intro j;induction j with
    | zero=>intro H2 p q f k2;refine av.step ?_;simp only[S.q7,ax,dC,X,cD,aC];rw[jq];simp only[S.pF,ax,F,abS,bz,aC,S.Aw,bu,X,wN (show i≤4000000000000000000 by omega)];exact g (i+1) H2 (by omega) (by omega) (by omega) f k2
    | succ j r=>
     intro H2 p q f k2;refine av.step ?_;simp only[S.q7,ax,dC,X,cD,aC];have stop:S.pF (ai C) (.row id 0 n 3) ([J (i:Nat)],H1) (av (S.mB (ai C) (.row id 0 n 3) (J (a:Nat)) (J (b:Nat)) (.fn 30 []) Q)) ([J ((j+1:Nat):Int)],H2) (av (S.q7 (ai C) (.row id 0 n 3) (J (a:Nat)) (.fn 30 []) ([J (i:Nat)],H1) (av (S.mB (ai C) (.row id 0 n 3) (J (a:Nat)) (J (b:Nat)) (.fn 30 []) Q)) Q)) Q [P] H2:=by simp only[S.pF,ax,F,abS,bz,aC,S.Aw,bu,X,wN (show i≤4000000000000000000 by omega)];exact g (i+1) H2 (by omega) (by omega) (by omega) f k2
     refine ay (λe=>?_) (λ_=>stop);have y:a<j+1:=by simp at e;omega
     have k:aa8 .i64 (((j+1:Nat):Int)-1)=(j:Nat):=by rw[wS (by omega) (by omega)];rfl
     simp only[cU,k,X];rw[dY (i:=j+1) (by omega),dY (i:=j) (by omega)];obtain⟨e1,W,b1⟩:=f.ld (i:=j+1) (by omega);obtain⟨z,a2,b2⟩:=f.ld (i:=j) (by omega);simp only[X,b1,b2];refine⟨_,_,rfl,?_⟩;refine xY hT W a2 λc=>?_;simp only[aS,X];by_cases hc:c<0
     · rw[show decide (c<0)=true by simpa using hc];simp only[S.pF,ax,F,aR,aC,S.Hu,cU,k,X];rw[dY (i:=j+1) (by omega),dY (i:=j) (by omega)];simp only[X];exact xX f (by omega) (by omega) λs t u=>r s (by omega) (by omega) t (k2.tr u)
     · rw[show decide (c<0)=false by simpa using hc];exact stop
   exact inner i H1 (by omega) (np _) h1 k1
 by_cases A:a+1≤b
 ·exact main (b-(a+1)) (a+1) H (.inl (by omega)) (np _) (by omega) h (KX.refl _)
 ·exact main 0 (a+1) H (.inr ⟨rfl,by omega⟩) (np _) (by omega) h (KX.refl _)
theorem CH(l:n≤1000000)(o:a+m≤n)(p:b+m≤n)(h:Rw 3 bO H id n)(c:lq H id n Q):ai C 219 [.row id 0 n 3,J (a:Nat),J (b:Nat),J (m:Nat),f] H Q:=by
 refine S.SQ hT ?_;unfold S.f219;have main:∀(d i:Nat)(H1:AH),i+d=m→Rw 3 bO H1 id n→KX (·= id) H H1→av (S.wG (ai C) (.row id 0 n 3) (J (a:Nat)) (J (b:Nat)) (J (m:Nat)) Q) ([J (i:Nat)],H1):=by
  intro d;induction d with
  | zero=>intro i H1 hi h1 k1;refine av.step ?_;simp only[S.wG,ax,aS,X,F];rw[eF];exact c H1 h1 k1
  | succ d e=>intro i H1 hi h1 k1;refine av.step ?_;simp only[S.wG,ax,aS,X,F];rw[e5];simp only[bu,X,wA (show a+i≤4000000000000000000 by omega),wA (show b+i≤4000000000000000000 by omega),wN (show i≤4000000000000000000 by omega)];rw[dY (i:=a+i) (by omega),dY (i:=b+i) (by omega)];simp only[X];exact xX h1 (by omega) (by omega) λg j k=>e (i+1) g (by omega) j (k1.tr k)
 exact main m 0 H (by omega) h (KX.refl _)
theorem Xi(g:n≤1000000)(r:a<m)(t:m<b)(u:b≤n)(h:Rw 3 bO H id n)(o:lq H id n Q):ai C 189 [.row id 0 n 3,J (a:Nat),J (m:Nat),J (b:Nat),f] H Q:=by
 refine S.SH hT ?_;unfold S.f189;simp only[cU,X,wD (show a≤m by omega) (show m≤4000000000000000000 by omega),wD (show m≤b by omega) (show b≤4000000000000000000 by omega)];have main:∀(s i j:Nat)(H1:AH),i+j≤s→0<i→0<j→i≤m→m+j≤n→Rw 3 bO H1 id n→KX (·= id) H H1→av (S.AR (ai C) (.row id 0 n 3) (J (m:Nat)) f Q) ([J (i:Nat),J (j:Nat)],H1):=by
  intro s;induction s with
  |zero=>intro i j H1 hs k;omega
  | succ s l=>
   intro i j H1 hs k p d q h1 k1;refine av.step ?_;simp only[S.AR,ax,bR,dc,dC,X,F,aC];apply ay<;>intro e
   · have v:i≠j:=by simp at e;omega
     apply ay<;>intro e
     · have w:j<i:=by simpa using e
       simp only[cU,X,wD d (show m≤4000000000000000000 by omega),wD (show j≤i by omega) (show i≤4000000000000000000 by omega)];exact CH hT g (by omega) (by omega) h1 λH2 c k2=>l (i-j) j H2 (by omega) (by omega) p (by omega) q c (k1.tr k2)
     · have x:i<j:=(by have:¬j<i:=(by simpa using e);omega)
       simp only[cU,bu,X,wD d (show m≤4000000000000000000 by omega),wA (show m+j≤4000000000000000000 by omega),wD (show i≤m+j by omega) (show m+j≤4000000000000000000 by omega),wD (show i≤j by omega) (show j≤4000000000000000000 by omega)];exact CH hT g (by omega) (by omega) h1 λH2 c k2=>l i (j-i) H2 (by omega) k (by omega) d (by omega) c (k1.tr k2)
   · have heq:i=j:=by simp at e;omega
     simp only[S.Iq,ax,cU,X,wD d (show m≤4000000000000000000 by omega)];exact CH hT g (by omega) (by omega) h1 λH2 c k2=>o H2 c (k1.tr k2)
 exact main _ _ _ H (np _) (by omega) (by omega) (by omega) (by omega) h (KX.refl _)
end
end Rb

namespace Rb
open Go
variable{id n:Nat}{H:AH}{Q:ad}
section
variable{C:Ctx}(hT:Cl (ai C) S.ba)
include hT
theorem L3{id n a i:Nat}(l:n≤1000000)(hi:i≤n)(h:Rw 3 bO H id n)(c:lq H id n Q):S.Ax (ai C) (.row id 0 n 3) (J (a:Nat)) Q [J (i:Nat)] H:=by
 simp only[S.Ax];have main:∀(d k:Nat)(H1:AH),i≤k+1+d→(d=0→i≤k+1)→(0<d→i=k+1+d)→Rw 3 bO H1 id n→KX (·= id) H H1→a≤k→av (S.vw (ai C) (.row id 0 n 3) [J (i:Nat)] Q) ([J (k:Nat)],H1):=by
  intro d;induction d with
  | zero=>intro k H1 _ b _ h1 k1 e;have:=b rfl;refine av.step ?_;simp only[S.vw,ax,cU,aS,X,F];rw[wrap_i64 (n:=(i:Int)-1) (by omega) (by omega),eF];exact c H1 h1 k1
  | succ d f=>intro k H1 _ _ b h1 k1 e;have b:=b (by omega);refine av.step ?_;simp only[S.vw,ax,cU,bu,aS,X,F,wN (show k≤4000000000000000000 by omega)];rw[wrap_i64 (n:=(i:Int)-1) (by omega) (by omega),e5,dY (i:=k+1) (by omega),dY (i:=k) (by omega)];simp only[X];exact xX h1 (by omega) (by omega) λH2 g k2=>f (k+1) H2 (by omega) (by omega) (by omega) g (k1.tr k2) (by omega)
 rcases Nat.lt_or_ge (a+1) i with j|j
 ·exact main (i-(a+1)) a H (by omega) (by omega) (by omega) h (KX.refl _) (np _)
 ·exact main 0 a H (by omega) (by omega) (by omega) h (KX.refl _) (np _)
theorem L4{id n m i:Nat}(e:n≤1000000)(f:m<n)(h:Rw 3 bO H id n)(a:lq H id n Q):S.Ay (ai C) (.row id 0 n 3) (J (m:Nat)) Q [J (i:Nat)] H:=by
 simp only[S.Ay];have main:∀(k:Nat)(H1:AH),k≤m→Rw 3 bO H1 id n→KX (·= id) H H1→av (S.vy (ai C) (.row id 0 n 3) [J (i:Nat)] Q) ([J (k:Nat)],H1):=by
  intro k;induction k with
  | zero=>intro H1 hk h1 k1;refine av.step ?_;simp only[S.vy,ax,dC,X,F];rw[jq];exact a H1 h1 k1
  | succ k b=>
   intro H1 hk h1 k1;refine av.step ?_;simp only[S.vy,ax,dC,X,F];refine ay (λ_=>?_) (λ_=>a H1 h1 k1);have c:aa8 .i64 (((k+1:Nat):Int)-1)=(k:Nat):=by rw[wS (by omega) (by omega)];rfl
   simp only[cU,c,X];rw[dY (i:=k+1) (by omega),dY (i:=k) (by omega)];simp only[X];exact xX h1 (by omega) (by omega) λH2 d k2=>b H2 (by omega) d (k1.tr k2)
 exact main m H (np _) h (KX.refl _)
theorem L5(v:n≤1000000):∀(s a m b:Nat),b≤a+s→a<m→m<b→b≤n→∀{H:AH}{Q:ad},Rw 3 bO H id n→lq H id n Q →
  ai C 134 [.row id 0 n 3,J (a:Nat),J (m:Nat),J (b:Nat),.fn 30 []] H Q:=by
 intro s;induction s with
 |zero=>intro a m b h1 P R;omega
 |succ s D=>
 intro a m b hs T U O H Q h o;refine S.R1 hT ?_;unfold S.f134;simp only[cU,X,wD (show a≤m by omega) (show m≤4000000000000000000 by omega),wD (show m≤b by omega) (show b≤4000000000000000000 by omega),b5,F];apply ay<;>intro _
 · have main:∀(d i j:Nat),i≤j→j≤i+d→j≤b→av (S.vx (ai C) (.row id 0 n 3) (J (a:Nat)) (.fn 30 []) Q) ([J (i:Nat),J (j:Nat)],H):=by
     intro d;induction d with
     | zero=>intro i j w x f;refine av.step ?_;simp only[S.vx,ax,bR,aS,X,F,aC];rw[eF];exact L3 hT v (by omega) h o
     | succ d g=>
      intro i j w x f;refine av.step ?_;simp only[S.vx,ax,bR,aS,X,F,aC];refine ay (λe=>?_) (λ_=>L3 hT v (by omega) h o);have E:i<j:=by simp at e;omega
      simp only[bu,X,wA (show i+j≤4000000000000000000 by omega)];refine xW (by omega) ?_;rw[dY (i:=(i+j)/2) (by omega),dY (i:=a) (by omega)];obtain⟨e1,W,b1⟩:=h.ld (i:=(i+j)/2) (by omega);obtain⟨l,a2,b2⟩:=h.ld (i:=a) (by omega);simp only[X,b1,b2];refine⟨_,_,rfl,?_⟩;refine xY hT W a2 λc=>?_;simp only[aS,bu,X,F,wN (show(i+j)/2≤4000000000000000000 by omega)];exact ay (λ_=>g _ _ (by omega) (by omega) f) (λ_=>g _ _ (by omega) (by omega) (by omega))
   exact main (b-m) m b (by omega) (by omega) (np _)
 apply ay<;>intro _
 · have main:∀(d i j:Nat),i≤j→j≤i+d→j≤m→av (S.vz (ai C) (.row id 0 n 3) (J (m:Nat)) (.fn 30 []) Q) ([J (i:Nat),J (j:Nat)],H):=by
     intro d;induction d with
     | zero=>intro i j w x f;refine av.step ?_;simp only[S.vz,ax,bR,aS,X,F,aC];rw[eF];exact L4 hT v (by omega) h o
     | succ d g=>
      intro i j w x f;refine av.step ?_;simp only[S.vz,ax,bR,aS,X,F,aC];refine ay (λe=>?_) (λ_=>L4 hT v (by omega) h o);have E:i<j:=by simp at e;omega
      simp only[bu,X,wA (show i+j≤4000000000000000000 by omega)];refine xW (by omega) ?_;rw[dY (i:=(i+j)/2) (by omega),dY (i:=m) (by omega)];obtain⟨e1,W,b1⟩:=h.ld (i:=(i+j)/2) (by omega);obtain⟨l,a2,b2⟩:=h.ld (i:=m) (by omega);simp only[X,b1,b2];refine⟨_,_,rfl,?_⟩;refine xY hT a2 W λc=>?_;simp only[aS,bu,X,eg,F,wN (show(i+j)/2≤4000000000000000000 by omega)];exact ay (λ_=>g _ _ (by omega) (by omega) f) (λ_=>g _ _ (by omega) (by omega) (by omega))
   exact main (m-a) a m (by omega) (by omega) (np _)
 simp only[bu,X,wA (show a+b≤4000000000000000000 by omega)];refine xW (by omega) ?_;generalize V:(a+b)/2=bU;simp only[bu,wA (show bU+m≤4000000000000000000 by omega),X,dC,F,aC];have G:∀(st:Nat)(H1:AH),a≤st→bU+m≤st+b→st≤bU→Rw 3 bO H1 id n→KX (·= id) H H1 →
   S.vC (ai C) (.row id 0 n 3) (J (b:Nat)) (.fn 30 []) (J (bU:Nat)) (J ((bU+m-st:Nat):Int)) Q [] H1:=by
  intro st H1 p t u h1 k1;have I:∀q:Bool,(q=true→bU<bU+m-st∧bU+m-st<b)→S.vA (ai C) (.row id 0 n 3) (J (b:Nat)) (.fn 30 []) (J (bU:Nat)) (J ((bU+m-st:Nat):Int)) Q [.bool q] H1:=by intro q y;simp only[S.vA,ax,F];refine ay (λe=>?_) (λ_=>o H1 h1 k1);obtain⟨z,A⟩:=y e;exact D bU (bU+m-st) b (by omega) z A O h1 λH' r k=>o H' r (k1.tr k)
  simp only[S.vC,aS,X,cD,aC];refine ay (λe=>I _ λl=>?_) (λ_=>I _ λe=>by cases e);simp at e l;omega
 have K:∀(st:Nat)(H1:AH),a≤st→bU+m≤st+b→st≤bU→st≤m→Rw 3 bO H1 id n→KX (·= id) H H1 →
   S.vF (ai C) (.row id 0 n 3) (J (a:Nat)) (J (b:Nat)) (.fn 30 []) (J (bU:Nat)) (J ((bU+m-st:Nat):Int)) [J (st:Nat)] Q [] H1:=by
  intro st H1 p t u B h1 k1;have L:∀q:Bool,(q=true→a<st∧st<bU)→S.vD (ai C) (.row id 0 n 3) (J (a:Nat)) (J (b:Nat)) (.fn 30 []) (J (bU:Nat)) (J ((bU+m-st:Nat):Int)) [J (st:Nat)] Q [.bool q] H1:=by intro q y;simp only[S.vD,ax,F,aC];refine ay (λe=>?_) (λ_=>G st H1 p t u h1 k1);obtain⟨z,A⟩:=y e;exact D a st bU (by omega) z A (by omega) h1 λH' r k=>G st H' p t u r (k1.tr k)
  simp only[S.vF,ax,aS,X,cD,aC];refine ay (λe=>L _ λl=>?_) (λ_=>L _ λe=>by cases e);simp at e l;omega
 have M:∀(st:Nat),a≤st→bU+m≤st+b→st≤bU→st≤m →
   S.Az (ai C) (.row id 0 n 3) (J (a:Nat)) (J (m:Nat)) (J (b:Nat)) (.fn 30 []) (J (bU:Nat)) (J ((bU+m:Nat):Int)) Q [J (st:Nat)] H:=by
  intro st p t u B;simp only[S.Az,ax,cU,aS,X,cD,aC,wD (show st≤bU+m by omega) (show bU+m≤4000000000000000000 by omega)];have N:∀q:Bool,(q=true→st<m∧m<bU+m-st)→S.vG (ai C) (.row id 0 n 3) (J (a:Nat)) (J (m:Nat)) (J (b:Nat)) (.fn 30 []) (J (bU:Nat)) (J ((bU+m-st:Nat):Int)) [J (st:Nat)] Q [.bool q] H:=by intro q y;simp only[S.vG,ax,F,aC];refine ay (λe=>?_) (λ_=>K st H p t u B h (KX.refl _));obtain⟨z,A⟩:=y e;exact Xi hT v z A (by omega) h λH' r k=>K st H' p t u B r k
  refine ay (λe=>N _ λl=>?_) (λ_=>N _ λe=>by cases e);simp at e l;omega
 have main:∀(lo hi:Nat),a≤lo→bU+m≤lo+b→hi≤bU→hi≤m→∀(d i j:Nat),lo≤i→i≤j→j≤hi→j≤i+d →
   av (S.vH (ai C) (.row id 0 n 3) (J (a:Nat)) (J (m:Nat)) (J (b:Nat)) (.fn 30 []) (J (bU:Nat)) (J ((bU+m:Nat):Int)) (J ((bU+m-1:Nat):Int)) Q) ([J (i:Nat),J (j:Nat)],H):=by
  intro lo hi Y Z aa ab d;induction d with
  | zero=>intro i j hl w f x;refine av.step ?_;simp only[S.vH,ax,bR,aS,X,F,aC];rw[eF];exact M i (by omega) (by omega) (by omega) (by omega)
  | succ d g=>
   intro i j hl w f x;refine av.step ?_;simp only[S.vH,ax,bR,aS,X,F,aC];refine ay (λe=>?_) (λ_=>M i (by omega) (by omega) (by omega) (by omega));have E:i<j:=by simp at e;omega
   simp only[bu,X,wA (show i+j≤4000000000000000000 by omega)];refine xW (by omega) ?_;simp only[cU,X,wD (show(i+j)/2≤bU+m-1 by omega) (show bU+m-1≤4000000000000000000 by omega)];rw[dY (i:=bU+m-1-(i+j)/2) (by omega),dY (i:=(i+j)/2) (by omega)];obtain⟨e1,W,b1⟩:=h.ld (i:=bU+m-1-(i+j)/2) (by omega);obtain⟨l,a2,b2⟩:=h.ld (i:=(i+j)/2) (by omega);simp only[X,b1,b2];refine⟨_,_,rfl,?_⟩;refine xY hT W a2 λc=>?_;simp only[aS,bu,X,eg,F,wN (show(i+j)/2≤4000000000000000000 by omega)];exact ay (λ_=>g _ _ (by omega) (by omega) f (by omega)) (λ_=>g _ _ (by omega) (by omega) (by omega) (by omega))
 apply ay<;>intro e
 · have ac:bU<m:=by simp at e;omega
   simp only[cU,X,wD (show b≤bU+m by omega) (show bU+m≤4000000000000000000 by omega),S.vI,ax,bR,wS (show 1≤bU+m by omega) (show bU+m≤4000000000000000000 by omega)];exact main (bU+m-b) bU (by omega) (by omega) (np _) (by omega) (bU-(bU+m-b)) (bU+m-b) bU (np _) (by omega) (np _) (by omega)
 · have hle:m≤bU:=(by have:¬bU<m:=(by simp at e;omega);omega)
   simp only[cU,X,S.vI,ax,bR,wS (show 1≤bU+m by omega) (show bU+m≤4000000000000000000 by omega)];exact main a m (np _) (by omega) (by omega) (np _) (m-a) a m (np _) (by omega) (np _) (by omega)
theorem Xj(g:n≤1000000)(h:Rw 3 bO H id n)(m:lq H id n Q):ai C 29 [.row id 0 n 3,.fn 30 []] H Q:=by
 refine S.IX hT ?_;unfold S.f29;simp only[k0,X];refine S.IZ hT ?_;unfold S.f70;have outer:∀(d bs:Nat)(H1:AH),n≤bs+d→20≤bs→bs≤4000000→Rw 3 bO H1 id n→KX (·= id) H H1→av (S.nI (ai C) (.row id 0 n 3) (J (n:Nat)) (.fn 30 []) (λ_ b=>Q (.ar []) b)) ([J (bs:Nat)],H1):=by
  intro d;induction d with
  | zero=>intro bs H1 p r s h1 k1;refine av.step ?_;simp only[S.nI,ax,aS,X,F];rw[eF];exact m H1 h1 k1
  | succ d i=>
   intro bs H1 p r s h1 k1;refine av.step ?_;simp only[S.nI,ax,aS,X,F];refine ay (λe=>?_) (λ_=>m H1 h1 k1);have x:bs<n:=by simp at e;omega
   have w2:aa8 .i64 ((2:Int)*(bs:Int))=((2*bs:Nat):Int):=by rw[bJ];omega
   have t:aa8 .i64 ((bs:Int)*(2:Int))=((2*bs:Nat):Int):=by rw[bJ];omega
   simp only[gC,X,w2];have j:∀H2,Rw 3 bO H2 id n→KX (·= id) H H2→S.u_ (ai C) ([J (bs:Nat)],H1) (av (S.nI (ai C) (.row id 0 n 3) (J (n:Nat)) (.fn 30 []) (λ_ b=>Q (.ar []) b))) (λ_ b=>Q (.ar []) b) [] H2:=λH2 c k2=>by simp only[S.u_,ax,gC,X,t];exact i (2*bs) H2 (by omega) (by omega) (by omega) c k2
   have inner:∀(e a:Nat)(H2:AH),n≤a+e→a≤n→Rw 3 bO H2 id n→KX (·= id) H H2→av (S.va (ai C) (.row id 0 n 3) (J (n:Nat)) (.fn 30 []) ([J (bs:Nat)],H1) (av (S.nI (ai C) (.row id 0 n 3) (J (n:Nat)) (.fn 30 []) (λ_ b=>Q (.ar []) b))) (λ_ b=>Q (.ar []) b)) ([J (a:Nat),J ((a+2*bs:Nat):Int)],H2):=by
    intro e;induction e with
    | zero=>intro a H2 he f c k2;refine av.step ?_;simp only[S.va,ax,bR,hK,X,F,aC];rw[eF];simp only[S.Ap,ax,bu,aS,X,F,aC,wA (show a+bs≤4000000000000000000 by omega)];rw[eF];exact j H2 c k2
    | succ e u=>
     intro a H2 he f c k2;refine av.step ?_;simp only[S.va,ax,bR,hK,X,F,aC];refine ay (λq=>?_) (λ_=>?_)
     · have hle:a+2*bs≤n:=by simp at q;omega
       simp only[bu,gC,X,wA (show a+bs≤4000000000000000000 by omega),w2,wA (show(a+2*bs)+2*bs≤4000000000000000000 by omega)];exact L5 hT g _ a (a+bs) (a+2*bs) (np _) (by omega) (by omega) hle c λb k l=>u (a+2*bs) b (by omega) hle k (k2.tr l)
     · simp only[S.Ap,ax,bu,aS,X,F,aC,wA (show a+bs≤4000000000000000000 by omega)];refine ay (λq=>?_) (λ_=>j H2 c k2);have v:a+bs<n:=by simp at q;omega
       exact L5 hT g _ a (a+bs) n (show n≤a+n by omega) (by omega) v (np _) c λb k l=>j b k (k2.tr l)
   have:=inner n 0 H1 (by omega) (aav _) h1 k1;rwa [aaK]at this
 have first:∀(e a:Nat)(H1:AH),n≤a+e→a≤n→Rw 3 bO H1 id n→KX (·= id) H H1→av (S.q5 (ai C) (.row id 0 n 3) (J (n:Nat)) (.fn 30 []) (λ_ b=>Q (.ar []) b)) ([J (a:Nat),J ((a+20:Nat):Int)],H1):=by
  intro e;have o:∀(a:Nat)(H1:AH),a≤n→Rw 3 bO H1 id n→KX (·= id) H H1→S.vb (ai C) (.row id 0 n 3) (J (n:Nat)) (.fn 30 []) (λ_ b=>Q (.ar []) b) [J (a:Nat)] H1:=by intro a H1 f h1 k1;simp only[S.vb,ax];exact L2 hT g f (np _) h1 λH2 c k2=>outer n 20 H2 (by omega) (np _) (by omega) c (k1.tr k2)
  induction e with
  | zero=>intro a H1 he f h1 k1;refine av.step ?_;simp only[S.q5,ax,bR,hK,X,F,aC];rw[eF];exact o a H1 f h1 k1
  | succ e i=>
   intro a H1 he f h1 k1;refine av.step ?_;simp only[S.q5,ax,bR,hK,X,F,aC];refine ay (λq=>?_) (λ_=>o a H1 f h1 k1);have hle:a+20≤n:=by simp at q;omega
   refine L2 hT g (by omega) hle h1 λH2 c k2=>?_;have w:aa8 .i64 (((a+20:Nat):Int)+20)=((a+20+20:Nat):Int):=by rw[bJ];omega
   simp only[bu,X,w];exact i (a+20) H2 (by omega) hle c (k1.tr k2)
 exact first n 0 H (by omega) (aav _) h (KX.refl _)
end
end Rb

namespace Rb
open Go
variable{H:AH}{j i:Nat}{Q:ad}{x:I}
theorem L6:fI S.zZ 183=some (275,some (1,false)):=by kernel_rfl
theorem CI:fI S.ud 183=some (276,some (1,false)):=by kernel_rfl
theorem CJ:fI S.ue 183=some (277,some (1,false)):=by kernel_rfl
theorem Xk:fI S.E3 183=some (278,none):=by kernel_rfl
theorem Xl:fI S.E4 183=some (279,none):=by kernel_rfl
def Pl(B:Nat)(_:Nat)(v:Int):Prop:=0≤v∧v<B
def Pq(B:Nat)(k:Nat)(v:Int):Prop:=k=1→0≤v∧v<B
section
variable{C:Ctx}(hT:Cl (ai C) S.ba){B:Nat}{p b n cap:Nat}
include hT
theorem CK(h:Rw 2 (Pq B) H b cap)(f:n≤cap)(hi:i<n)(a:j<n)(d:∀c:Bool,Q (.bool c) H):ai C 276 [.row b 0 n 2,J (i:Nat),J (j:Nat)] H Q:=by refine S.SV hT ?_;unfold S.f276;rw[dY hi,dY a];obtain⟨v,_,e1⟩:=h.ld1 (i:=i) (k:=0) (by omega) (by decide);obtain⟨w,_,e⟩:=h.ld1 (i:=j) (k:=0) (by omega) (by decide);simp only[X,aa,e1,e,aS];exact d _
theorem CL(h:Rw 2 (Pq B) H b cap)(e:n≤cap)(hi:i<n)(a:j<n)(c:∀H',Rw 2 (Pq B) H' b cap→KX (·= b) H H'→Q (.ar []) H'):ai C 277 [.row b 0 n 2,J (i:Nat),J (j:Nat)] H Q:=by refine S.SX hT ?_;unfold S.f277;rw[dY hi,dY a];obtain⟨e1,W,b1⟩:=h.ld (i:=j) (by omega);obtain⟨f,a2,b2⟩:=h.ld (i:=i) (by omega);obtain⟨H1,s1,r1,k1⟩:=h.st (i:=i) (by omega) W;obtain⟨H2,s2,d,k2⟩:=r1.st (i:=j) (by omega) a2;simp only[X,b1,b2,s1,s2];exact c H2 d (k1.tr k2)
def fY(H:AH)(p:Nat)(x:I):Prop:=∃xf y z,At H p (.row [xf,x,y,z])
theorem fY.ld(h:fY H p x):Z H 1 false (.ptr p 1)=some x:=by obtain⟨xf,y,z,a⟩:=h;rw[a.load];rfl
theorem fY.kx{T:Nat→Prop}{H H':AH}(h:fY H p x)(k:KX T H H')(b:¬T p):fY H' p x:=by obtain⟨xf,y,z,a⟩:=h;exact⟨xf,y,z,k.at a b⟩
theorem Xm(o:n≤1000000)(h:Rw 2 (Pq B) H b cap)(i:fY H p (.row b 0 n 2))(k:p≠b)(d:n≤cap)(a:j<n)(f:∀H',Rw 2 (Pq B) H' b cap→KX (·= b) H H'→Q (.ar []) H'):ai C 138 [.iface 183 (.ptr p 1),J (j:Nat)] H Q:=by
 refine S.R3 hT ?_;unfold S.f138;have main:∀(j:Nat)(H1:AH),j<n→Rw 2 (Pq B) H1 b cap→KX (·= b) H H1→av (S.AA (ai C) (.iface 183 (.ptr p 1)) Q) ([J (j:Nat)],H1):=by
  intro j;induction j using aeR with
  |ind j l=>
  intro H1 a h1 k1;have g:fY H1 p (.row b 0 n 2):=fY.kx hT i k1 k;refine av.step ?_;have e:(M .quo (J (aa8 .i64 ((j:Int)-1))) (J 2))=some (J (((j-1)/2:Nat):Int)):=by
   rw[j3 _ _ _ (by decide),wrap_i64 (n:=(j:Int)-1) (by omega) (by omega)];congr 2;rcases ads j with rfl|r
   ·rfl
   · rw[show(j:Int)-1=((j-1:Nat):Int) by omega,Int.tdiv_eq_ediv_of_nonneg (by omega),bJ];omega
  simp only[S.AA,ax,cU,X,e,b5,cy,aC];apply ru<;>intro q
  · have s:j≠0:=by rintro rfl;simp at q
    refine⟨183,.ptr p 1,_,_,rfl,CI,fY.ld hT g,?_⟩;refine CK hT h1 d a (by omega) λc=>?_;simp only[eg,X,S.vN,ax,F,aC];refine ay (λ_=>f H1 h1 k1) (λ_=>?_);simp only[S.Hz,ax];refine⟨183,.ptr p 1,_,_,rfl,CJ,fY.ld hT g,?_⟩;exact CL hT h1 d (by omega) a λH2 m k2=>l _ (by omega) H2 (by omega) m (k1.tr k2)
  · simp only[S.vN,ax,F,aR];exact f H1 h1 k1
 exact main j H a h (KX.refl _)
theorem Xn{j m:Nat}(D:n≤1000000)(h:Rw 2 (Pq B) H b cap)(r:fY H p (.row b 0 n 2))(u:p≠b)(g:n≤cap)(E:m≤n)(f:j<n){a:Int}(w:∀(v:I) H',Rw 2 (Pq B) H' b cap→KX (·= b) H H'→Q v H')(x:a=(j:Int)):ai C 135 [.iface 183 (.ptr p 1),J a,J (m:Nat)] H Q:=by
 refine S.R2 hT ?_;unfold S.f135;have main:∀(d j:Nat)(H1:AH),n≤j+d→j<n→Rw 2 (Pq B) H1 b cap→KX (·= b) H H1→av (S.q8 (ai C) (.iface 183 (.ptr p 1)) (J a) (J (m:Nat)) Q) ([J (j:Nat)],H1):=by
  intro d;induction d with
  |zero=>intro j H1 y f;omega
  | succ d z=>
   intro j H1 y f h1 k1;have i:fY H1 p (.row b 0 n 2):=fY.kx hT r k1 u;refine av.step ?_;have w1:aa8 .i64 ((2:Int)*(j:Int))=((2*j:Nat):Int):=by rw[bJ];omega
   simp only[S.q8,ax,gC,bu,w1,wN (show 2*j≤4000000000000000000 by omega),X,eQ,cy,aC];have fin:∀H2 (s:I),Rw 2 (Pq B) H2 b cap→KX (·= b) H H2→(∃k,s = J k)→S.vJ (ai C) (J a) Q [s] H2:=by rintro H2 s l k2 ⟨k,rfl⟩;simp only[S.vJ,ax,dC,X];exact w _ H2 l k2
   refine ru (λe=>?_) (λ_=>?_)
   · have G:2*j+1<m:=by simp at e;omega
     simp only[aS,X];rw[show decide (((2*j+1:Nat):Int)<0)=false by simp;omega];simp only[S.vM,ax,F,abS,bz,aC,S.Hx,bu,wN (show 2*j+1≤4000000000000000000 by omega),X,aS,cD];have o:∀(t:Nat),j<t→t<n→S.vK (ai C) (.iface 183 (.ptr p 1)) (J a) ([J (j:Nat)],H1) (av (S.q8 (ai C) (.iface 183 (.ptr p 1)) (J a) (J (m:Nat)) Q)) Q [J (t:Nat)] H1:=by intro t K ht;simp only[S.vK,ax];refine⟨183,.ptr p 1,_,_,rfl,CI,fY.ld hT i,?_⟩;refine CK hT h1 g ht f λc=>?_;simp only[eg,X,F,aC];refine ay (λ_=>fin H1 _ h1 k1 ⟨_,rfl⟩) (λ_=>?_);refine⟨183,.ptr p 1,_,_,rfl,CJ,fY.ld hT i,?_⟩;exact CL hT h1 g f ht λH2 l k2=>z t H2 (by omega) ht l (k1.tr k2)
     have q:∀c:Bool,(c=true→2*j+1+1<m)→S.vL (ai C) (.iface 183 (.ptr p 1)) (J a) (J ((2*j+1:Nat):Int)) (J ((2*j+1+1:Nat):Int)) ([J (j:Nat)],H1) (av (S.q8 (ai C) (.iface 183 (.ptr p 1)) (J a) (J (m:Nat)) Q)) Q [.bool c] H1:=by intro c hc;simp only[S.vL,ax,F,aC];refine ay (λe=>?_) (λ_=>o _ (by omega) (by omega));have:=hc e;exact o _ (by omega) (by omega)
     refine ay (λe=>?_) (λ_=>q false λe=>by cases e);have A:2*j+1+1<m:=by simp at e;omega
     refine⟨183,.ptr p 1,_,_,rfl,CI,fY.ld hT i,?_⟩;exact CK hT h1 g (by omega) (by omega) λc=>q c λ_=>A
   · simp only[S.vM,ax,F,aR,aC];exact fin H1 _ h1 k1 ⟨_,rfl⟩
 subst x;exact main n j H (by omega) f h (KX.refl _)
end
end Rb

namespace Rb
open Go
variable{H:AH}{Q:ad}{us sz fl nx:Nat}{U:Nat→Prop}{es:List I}{xf y z:I}
theorem L7{id len h sz:Nat}(a:h≤len):c9 sz (.row id 0 len sz) none (some (J (h:Nat))) none=some (.row id 0 h sz):=by simp only[c9,d_,ad6];rw[af (show(0:Int)≤(h:Nat) by omega),aa9];dsimp only;rw[af ⟨by omega,a,trivial⟩,af (.inl rfl)];simp
theorem CM{P:Nat→Int→Prop}(h:El sz P es){z:List I}(a:z.length=sz)(H:AH):b8 H false sz 1 z [(0,sz,.agg es)]=some (.ab .full 1 es,H):=by
 have e:(ZU 1 z).flatten=z:=by simp
 unfold b8;rw[e];unfold fZ;rw[af ⟨rfl,h.1,by omega⟩];show acR _ (some (setCells z 0 es))=_;rw[rm (by rw[h.1,a];omega)];rfl
section
variable{C:Ctx}(hT:Cl (ai C) S.ba){B:Nat}{p:Nat}
include hT
theorem Xo{b k cap:Nat}{Q:ad}(m:k≤900000)(a:At H p (.row [xf,.row b 0 (k+1) 2,y,z]))(h:Rw 2 (Pq B) H b cap)(hc:k+1≤cap)(c:p≠b)
  (g:∀es H',El 2 (Pq B) es→At H' p (.row [xf,.row b 0 k 2,y,z])→Rw 2 (Pq B) H' b cap→KX (λi=>i=b∨i=p) H H'→Q (.iface 181 (.agg es)) H'):ai C 72 [.iface 183 (.ptr p 1)] H Q:=by
 refine S.Re hT ?_;unfold S.f72;have d:fY H p (.row b 0 (k+1) 2):=⟨_,_,_,a⟩
 refine⟨183,.ptr p 1,_,_,rfl,L6,fY.ld hT d,?_⟩;refine S.I4 hT ?_;unfold S.f275;have w1:aa8 .i64 (((k+1:Nat):Int)-1)=(k:Nat):=by rw[wS (by omega) (by omega)];rfl
 simp only[k0,X,cU,w1];refine⟨183,.ptr p 1,_,_,rfl,CJ,fY.ld hT d,?_⟩;refine CL hT (i:=0) h hc (by omega) (show k<k+1 by omega) λH1 h1 k1=>?_;have W:=k1.at a c;refine Xn hT (n:=k+1) (j:=0) (by omega) h1 ⟨_,_,_,W⟩ c hc (by omega) (by omega) (λv H2 l k2=>?_) rfl;have a2:=k2.at W c;refine⟨183,.ptr p 1,_,_,rfl,Xk,rfl,?_⟩;refine S.SY hT ?_;unfold S.f278;simp only[aD,X];rw[a2.load];simp only[show bw [xf,I.row b 0 (k+1) 2,y,z] 1 1 false=some (.row b 0 (k+1) 2)from rfl,X,k0,cU,w1];rw[L7 (by omega)];simp only[X];rw[a2.store,af ⟨rfl,rfl,rfl,by show 1+1≤4;decide⟩];simp only[X];rw[dY (by omega)];have kp:KX (·= p) H2 (H2.set p (.row [xf,.row b 0 k 2,y,z])):=KX.set (S:=(·= p)) _ rfl _;have f:Rw 2 (Pq B) (H2.set p (.row [xf,.row b 0 k 2,y,z])) b cap:=l.kx kp (λe=>c e.symm);obtain⟨es,he,e1⟩:=f.ld (i:=k) (by omega);change Do (some (I.ptr b (k*2))) _;simp only[X];rw[show setCells [xf,I.row b 0 (k+1) 2,y,z] 1 (I.row b 0 k 2).cells=[xf,.row b 0 k 2,y,z]from rfl,e1];simp only[X];exact g es _ he (a2.set _) f (((k1.trans k2 λi _ e=>e).mono λi _ e=> .inl e).trans kp λi _ e=> .inr e)
theorem Xp{xf xu y z:I}{Q:ad}(w:us≤900000)(a:At H p (.row [xf,xu,y,z]))(h:Ls 2 (Pq B) U H xu us)(g:¬U p)(j:El 2 (Pq B) es)
  (s:∀c H',At H' p (.row [xf,c,y,z])→Ls 2 (Pq B) (λi=>U i∨H.n≤i) H' c (us+1)→KX (λi=>U i∨i=p) H H'→Q (.ar []) H'):ai C 75 [.iface 183 (.ptr p 1),.iface 181 (.agg es)] H Q:=by
 refine S.Rh hT ?_;unfold S.f75;refine⟨183,.ptr p 1,_,_,rfl,Xl,rfl,?_⟩;refine S.SZ hT ?_;unfold S.f279;have l1:Z H 1 false (.ptr p 1)=some xu:=by rw[a.load];rfl
 simp only[aD,X,l1];rw[show c7 H (.kB 181) [.iface 181 (.agg es)]=some (.agg es,H)from rfl];simp only[aH];refine⟨l1,?_⟩;rw[CM j rfl];simp only[aH];obtain⟨c,H1,e1,h1,k1⟩:=h.app (bytes:=16) (tk:= .full) (by decide) j (by omega) (by omega);rw[e1];simp only[aH];have W:=k1.at a g;have f:=h1.known;rw[W.store,af ⟨f.1,by rw[f.2.2];rfl,by rw[f.2.2,acM,f.2.1];rfl,by show 1+1≤4;decide⟩,f.2.2];simp only[X];rw[show setCells [xf,xu,y,z] 1 [c]=[xf,c,y,z]from rfl];have kp:KX (·= p) H1 (H1.set p (.row [xf,c,y,z])):=KX.set (S:=(·= p)) _ rfl _;have k:¬(U p∨H.n≤p):=λe=>by
  rcases e with e|e
  ·exact g e
  ·have:=a.1;omega
 have t:Ls 2 (Pq B) (λi=>U i∨H.n≤i) (H1.set p (.row [xf,c,y,z])) c (us+1):=h1.kx kp λi e q=>k (q▸e);have a2:=W.set (.row [xf,c,y,z]);have kk:KX (λi=>U i∨i=p) H (H1.set p (.row [xf,c,y,z])):=(k1.mono λi _ e=> .inl e).trans kp λi _ e=> .inr e;generalize H1.set p (.row [xf,c,y,z])=H2 at *;rcases t with⟨_,e⟩|⟨b,n,rfl,l,r,d⟩
 ·omega
 refine⟨183,.ptr p 1,_,_,rfl,L6,fY.ld hT ⟨_,_,_,a2⟩,?_⟩;refine S.I4 hT ?_;unfold S.f275;have w1:aa8 .i64 (((us+1:Nat):Int)-1)=(us:Nat):=by rw[wS (by omega) (by omega)];rfl
 simp only[k0,X,cU,w1];have m:p≠b:=λe=>k (e▸d);refine Xm hT (n:=us+1) (by omega) r ⟨_,_,_,a2⟩ m l (by omega) λu v o=>?_;refine s _ u (o.at a2 m) (.inr ⟨b,n,rfl,l,v,d⟩) (kk.trans o λi hi e=>?_);subst e;rcases d with d|d
 ·exact .inl d
 ·omega
end
structure eN(H:AH)(p B:Nat)(U:Nat→Prop)(fl us nx:Nat):Prop where
 up:U p
 bd:∀i,U i→i<H.n
 le:fl+us≤nx
 nb:nx≤B
 row:∃(xf xu:I) (Uf Uu:Nat→Prop),At H p (.row [xf,xu,J (nx:Nat),J (B:Nat)])∧Ls 1 (Pl B) Uf H xf fl∧Ls 2 (Pq B) Uu H xu us∧(∀i,Uf i→U i∧i≠p∧¬Uu i)∧(∀i,Uu i→U i∧i≠p)
theorem eN.kx{H H':AH}{p B fl us nx:Nat}{U T:Nat→Prop}(h:eN H p B U fl us nx)(k:KX T H H')(hs:∀i,U i→¬T i):eN H' p B U fl us nx:=by obtain⟨xf,xu,Uf,Uu,a,b,c,d,e⟩:=h.row;exact⟨h.up,λi hi=>AV (h.bd i hi) k.1,h.le,h.nb,xf,xu,Uf,Uu,k.at a (hs _ h.up),b.kx k λi hi=>hs i (d i hi).1,c.kx k λi hi=>hs i (e i hi).1,d,e⟩
def p0(H H':AH)(U a:Nat→Prop):Prop:=∀i,a i→U i∨(H.n≤i∧i<H'.n)
def p3(Φ:ae):Prop:=∀{H:AH}{Q:ad}{B len:Nat}{x:I}{U:Nat→Prop},Ls 1 (Pl B) U H x len→B≤1000000→len≤1000000→(∀H',Ls 1 (Pl B) U H' x len→KX U H H'→Q (.ar []) H')→Φ 73 [x,.fn 74 []] H Q
section
variable{C:Ctx}(hT:Cl (ai C) S.ba)(hS:p3 (ai C)){B:Nat}{p:Nat}(hB:B≤900000)
include hT hS hB
theorem L8{t:Int}(h:eN H p B U fl us nx)(G:∀K L y H',eN H' p B y K L nx→(∀i,U i→y i)→p0 H H' U y→KX U H H'→Q (.ar []) H') :
  ai C 33 [.ptr p 0,J t] H Q:=by
 refine S.QK hT ?_;unfold S.f33;have main:∀(us fl:Nat)(f:Nat→Prop)(H1:AH),eN H1 p B f fl us nx→(∀i,U i→f i)→p0 H H1 U f→KX U H H1→av (S.qZ (ai C) (.ptr p 0) (J t) Q) ([],H1):=by
  intro us;have fin:∀(us fl:Nat)(f:Nat→Prop)(H1:AH),eN H1 p B f fl us nx→(∀i,U i→f i)→p0 H H1 U f→KX U H H1→S.Aj (ai C) (.ptr p 0) Q [] H1:=by
   intro us fl f H1 h1 m g1 k1;obtain⟨xf,xu,Uf,Uu,a,b,c,d,e⟩:=h1.row;have l0:Z H1 1 false (.ptr p 0)=some xf:=by rw[a.load];rfl
   simp only[S.Aj,aD,aa,aaK,X,l0];have:=h1.le;have:=h1.nb;refine hS b (by omega) (by omega) λH2 b2 k2=>?_;have M:eN H2 p B f fl us nx:=⟨h1.up,λi hi=>AV (h1.bd i hi) k2.1,h1.le,h1.nb,xf,xu,Uf,Uu,k2.at a (λq=>(d p q).2.1 rfl),b2,c.kx k2 λi hi q=>(d i q).2.2 hi,d,e⟩
   refine G fl us f H2 M m (λi hi=>?_) (k1.trans k2 λi hi q=>?_)
   · rcases g1 i hi with q|q
     ·exact .inl q
     ·exact .inr ⟨q.1,AV q.2 k2.1⟩
   · rcases g1 i (d i q).1 with q|q
     ·exact q
     ·omega
  induction us with
  | zero=>
   intro fl f H1 h1 m g1 k1;refine av.step ?_;obtain⟨xf,xu,Uf,Uu,a,b,c,d,e⟩:=h1.row;have l1:Z H1 1 false (.ptr p 1)=some xu:=by rw[a.load];rfl
   simp only[S.qZ,aD,aa,aaK,X,l1,c.len,dC,cD,aC];rw[jq];simp only[S.qY,ax,F,abS,bz,aC];exact fin 0 fl f H1 h1 m g1 k1
  | succ us N=>
   intro fl f H1 h1 m g1 k1;refine av.step ?_;have hle:=h1.le;have ad:=h1.nb;obtain⟨xf,xu,Uf,Uu,a,b,c,d,e⟩:=h1.row;have l0:Z H1 1 false (.ptr p 0)=some xf:=by rw[a.load];rfl
   have l1:Z H1 1 false (.ptr p 1)=some xu:=by rw[a.load];rfl
   simp only[S.qZ,aD,aa,aaK,X,l1,c.len,dC,cD,aC];rw[ot];have c':=c;rcases c with⟨_,q⟩|⟨g,cap,rfl,P,r,l⟩
   ·omega
   rw[show aG none 2 (.row g 0 (us+1) 2) (O)=some (.ptr g (0*2))from dY (i:=0) (by omega)];obtain⟨v,_,ev⟩:=r.ld1 (i:=0) (k:=0) (by omega) (by decide);simp only[X,aa,ev,aS];have A:p≠g:=λq=>(e g l).2 q.symm;have o:∀D:Bool,S.qY (ai C) (.ptr p 0) (av (S.qZ (ai C) (.ptr p 0) (J t) Q)) Q [.bool D] H1:=by
    intro D;simp only[S.qY,ax,F,aC];refine ay (λ_=>?_) (λ_=>fin (us+1) fl f H1 h1 m g1 k1);simp only[S.FX,aD,aa,aaK,X,l0];refine Xo hT (by omega) a r P A λes H2 he a2 R k2=>?_;have E:Z H2 1 false (.ptr p 0)=some xf:=by rw[a2.load];rfl
    refine⟨E,?_⟩;rw[show c7 H2 (.kB 181) [.iface 181 (.agg es)]=some (.agg es,H2)from rfl];simp only[aH];refine⟨E,?_⟩;obtain⟨w,hw,z⟩:=he.2 1 (by decide);have z:=z rfl;rw [show jS 1 1 false (.agg es)=some (J w)from by show bw es 1 1 false=_;unfold bw;rw[af (by rw[he.1];decide),de];exact hw]
    simp only[X];rw[show b8 H2 false 1 1 [O] [(0,1,J w)]=some (.ab .full 1 [J w],H2)from rfl];simp only[aH];have b2:Ls 1 (Pl B) Uf H2 xf fl:=b.kx k2 λi hi q=>by
     rcases q with q|q
     ·exact(d i hi).2.2 (q▸l)
     ·exact(d i hi).2.1 q
    have V:El 1 (Pl B) [J w]:=⟨rfl,λk hk=>⟨w,by rw[show k=0 by omega];rfl,z⟩⟩
    obtain⟨j,u,W,b3,o⟩:=b2.app (bytes:=8) (tk:= .full) (by decide) V (by omega) (by omega);rw[W];simp only[aH];have a3:=o.at a2 (λq=>(d p q).2.1 rfl);have x:=b3.known;rw[a3.store,af ⟨x.1,by rw[x.2.2];rfl,by rw[x.2.2,acM,x.2.1];rfl,by show 0+1≤4;decide⟩,x.2.2];simp only[X];rw[show setCells [xf,I.row g 0 us 2,J (nx:Nat),J (B:Nat)] 0 [j]=[j,.row g 0 us 2,J (nx:Nat),J (B:Nat)]from rfl];have kp:KX (·= p) u (u.set p (.row [j,.row g 0 us 2,J (nx:Nat),J (B:Nat)])):=KX.set (S:=(·= p)) _ rfl _;have a4:=a3.set (.row [j,.row g 0 us 2,J (nx:Nat),J (B:Nat)]);have ae:(u.set p (.row [j,.row g 0 us 2,J (nx:Nat),J (B:Nat)])).n=u.n:=rfl;generalize u.set p (.row [j,.row g 0 us 2,J (nx:Nat),J (B:Nat)])=s at *;have n12:=k2.1;have n23:=o.1;have ag:=a.1;have r4:Rw 2 (Pq B) s g cap:=(R.kx o λq=>(d g q).2.2 l).kx kp λq=>A q.symm;have Y:Ls 1 (Pl B) (λi=>(Uf i∨H2.n≤i)∧i<s.n) s j (fl+1):=(b3.kx kp λi hi q=>by
      rcases hi with hi|hi
      ·exact(d i hi).2.1 q
      ·omega).mono λi hi q=>⟨q,hi⟩
    have kk:KX f H1 s:=((k2.mono (T:=f) λi _ q=>by
      rcases q with q|q
      ·exact q▸(e g l).1
      ·exact q▸h1.up).trans o λi _ q=>(d i q).1).trans kp λi _ q=>q▸h1.up
    refine N (fl+1) (λi=>f i∨(H1.n≤i∧i<s.n)) s ⟨.inl h1.up,λi hi=>?_,by omega,h1.nb,j,_,_,(·= g),a4,Y,.inr ⟨g,cap,rfl,by omega,r4,rfl⟩,λi hi=>?_,λi hi=>?_⟩ (λi hi=> .inl (m i hi)) (λi hi=>?_) (k1.trans kk λi hi q=>?_)
    · rcases hi with hi|hi
      ·have:=h1.bd i hi;omega
      ·exact hi.2
    · obtain⟨hi,ac⟩:=hi;rcases hi with hi|hi
      ·exact⟨.inl (d i hi).1,(d i hi).2.1,λq=>(d i hi).2.2 (q▸l)⟩
      ·exact⟨.inr ⟨by omega,ac⟩,by omega,λq=>by have:=r.lt;omega⟩
    ·subst hi;exact⟨.inl (e i l).1,(e i l).2⟩
    · rcases hi with hi|hi
      · rcases g1 i hi with q|q
        ·exact .inl q
        ·exact .inr ⟨q.1,by omega⟩
      ·exact .inr ⟨sl k1.1 hi.1,hi.2⟩
    · rcases g1 i q with q|q
      ·exact q
      ·omega
   exact o _
 exact main us fl U H h (λi hi=>hi) (λi hi=> .inl hi) (KX.refl _)
end
end Rb

namespace Rb
open Go Go.RowKit Go.Lib Go.Sort Go.Proofs
variable{F:cJ}{w:World}{G:bj}{H:AH}{id:Nat}{cs:List I}
abbrev Fm:=Fin 1000001
def jQ(x:Fm):Value:= .int .i64 (x.val:Int)
def je(x:Fm):I:= .int .i64 (x.val:Int)
theorem L9{l:List Fm}{j:Nat}{c:I}(h:(l.map je)[j]?=some c):∃n,c = .int .i64 n∧jQ l.toArray[j]! = .int .i64 n:=by
 rw[aaP]at h;obtain⟨x,a,rfl⟩:=Option.map_eq_some_iff.1 h;have:l.toArray[j]! = x:=by simp only[Array.getElem!_eq_getD,Array.getD_eq_getD_getElem?,List.getElem?_toArray,a];rfl
 exact⟨_,rfl,by rw[this];rfl⟩
theorem Xq{l:List Fm}(f:Rel F w G H)(g:H.o id = .row cs)(hc:cs.take l.length=l.map je):Go.Sort.Holds jQ w (G.loc id) 0 l.toArray∧G.loc id<w.heap.size:=by
 have h:=f.obj id;rw[g]at h;obtain⟨c,e,h1,t,u,i⟩:=h;refine⟨λj k=>?_,(aaH.1 h1).1⟩;have b:j<l.length:=by simpa using k
 obtain⟨a,d⟩:∃a,(l.map je)[j]?=some a:=⟨_,aaQ (by rw[acz];exact b)⟩
 obtain⟨n,rfl,m⟩:=L9 d;have p:cs[j]?=some (.int .i64 n):=by rw[←d,←hc,abY b]
 obtain⟨V,q,r⟩:=i j _ p;have s:V = .int .i64 n:=by cases r;rfl
 subst s;refine⟨?_,?_⟩
 · rw[m];simp only[aeY,h1,Option.isSome_none,abS,bz,aaK];exact q
 · simp only[World.frozen?,h1];simp
theorem L_{l l':List Fm}(g:Rel F w G H)(p:H.o id = .row cs)(hc:cs.take l.length=l.map je)(hl:l'.length=l.length)(n:Nat)(d:Array Obj) :
  Rel F (sortWorld jQ w (G.loc id) 0 n l'.toArray d) G (H.set id (.row (l'.map je++cs.drop l.length)))∧Step w G H (sortWorld jQ w (G.loc id) 0 n l'.toArray d) G (H.set id (.row (l'.map je++cs.drop l.length))):=by
 have h:=g.obj id;rw[p]at h;obtain⟨c,e,h1,u,q,r⟩:=h;have hlen:l.length≤cs.length:=by have:=congrArg aeN hc;rw[adS,acz]at this;omega
 have ht:jr w (putRow jQ (aeZ w n) (G.loc id) 0 l'.toArray) (G.loc id):=
  ⟨by simp[putRow,mapBlock,aeZ],λk hk=>by simp[putRow,mapBlock,aeZ,aaM,Ne.symm hk],rfl,rfl,rfl,aeT _ _⟩
 have v:(putRow jQ (aeZ w n) (G.loc id) 0 l'.toArray).heap[G.loc id]?=some (.cells (putCells jQ 0 l'.toArray c) e (0,0)):=by show((aeZ w n).heap.modify (G.loc id) _)[G.loc id]?=_;rw[aaM,af rfl];show(w.heap[G.loc id]?).map _=_;rw[h1];rfl
 obtain ⟨r1,s1⟩:=g.write (i:=id) (by rw[p];rfl) q ht (.row (l'.map je++cs.drop l.length)) rfl λx=>by
  refine⟨_,e,v,by simp[putCells,u],q,λj a b=>?_⟩;have s:l'.toArray.size=l.length:=by simp[hl]
  by_cases y:j<l.length
  · rw [abB (by rw[acz,hl];exact y)]at b;obtain⟨m,rfl,hm⟩:=L9 b;have z:j<c.size:=by
     obtain⟨V,f,_⟩:=r j _ (aaQ (show j<cs.length by omega));exact(aaH.1 f).1
    refine⟨.int .i64 m,?_,.int _ _⟩;simp only[putCells,ae0];rw[Array.getElem?_eq_getElem z,aae,af (by rw[s];omega),Nat.sub_zero,hm]
  · rw[abC (by rw[acz,hl];omega),acz,hl,Z0,show l.length+(j-l.length)=j by omega]at b;obtain⟨V,f,A⟩:=r j a b;refine⟨V,?_,A.mono x⟩;simp only[putCells,ae0];rw[f,aae,ak (by rw[s];omega)]
 have t:Below (putRow jQ (aeZ w n) (G.loc id) 0 l'.toArray).heap.size (putRow jQ (aeZ w n) (G.loc id) 0 l'.toArray) (sortWorld jQ w (G.loc id) 0 n l'.toArray d):=by refine⟨rfl,rfl,rfl,by simp[sortWorld,grow],λk hk=>?_⟩;simp only[sortWorld,grow];rw[ae1 hk]
 exact⟨W9 t r1,s1.trans (W_ t (np _) r1)⟩
def l_(x y:Fm):Int:=(y.val:Int)-(x.val:Int)
theorem xZ(x y:Fm):ltOf l_ x y=decide (y.val<x.val):=by unfold ltOf l_;apply decide_eq_decide.2;omega
theorem Xr:SWO (ltOf l_) where
 irrefl x:=by rw[xZ];simp
 trans x y z h1 a:=by rw[xZ,dO]at *;omega
 ntrans x y z h1 a:=by rw[xZ,decide_eq_false_iff_not]at *;omega
theorem Xt(x y:Fm)(a:ltOf l_ x y=false)(b:ltOf l_ y x=false):x=y:=by rw[xZ,decide_eq_false_iff_not]at *;exact Fin.ext (by omega)
end Rb

namespace Rb
open Go Go.RowKit
theorem b7.flat{C:Ctx}(aq:bT C){key:Nat}{args:List I}{f:FuncId}{v:I}{w:World}{G:bj}{H:AH}{Vs:Array Value}(hf:C.F key=some f)(D:I.bF args=true)(E:v.bh=true)(u:dN C w G H)(d:Rel C.F w G H)(y:aP C.F w G args Vs)
  (h:∀Q:ad,(∀H',Q v H')→b7 C key args AH.mt Q):Calls C.P f Vs w λe w'=>∃V G',e = .returned V∧R C.F w' G' v V∧dN C w' G' H∧Rel C.F w' G' H∧GLe w G w' G'∧Below w.heap.size w w'∧∃q os,w'=Go.Sort.grow (w.drewN q) os:=by
 have J:Rel C.F w (bj.mt G.fz) AH.mt:=Rel.mt d.e2;have K:aP C.F w (bj.mt G.fz) args Vs:=⟨y.1,λj c V hc x=>oY (G:=G) (G':=bj.mt G.fz) (w:=w) (λ_ _ h=>h) (λ_ _ _ _ h=>h) (mq D j c hc) (y.2 j c V hc x)⟩
 have L:iv C w (bj.mt G.fz):=λg l r=>oY (G:=G) (G':=bj.mt G.fz) (w:=w) (λ_ _ h=>h) (λ_ _ _ _ h=>h) (by simp only[I.bh];exact aq g l r) (u.1 g l r);refine Calls.mono ((h (λz _=>z=v) (λ_=>rfl)).2 f hf _ w Vs (u.mt L λi hi=>by cases hi) J K) λe w' he=>?_;obtain⟨V,z,H',G',rfl,rfl,hv,M,p⟩:=he;have m:=p.below;have Z:=p.dr;have A:∀b o,G'.fz b o→G.fz b o∨w.heap.size≤b:=by
  intro b o N;rcases p.e3 b o N with h|h|⟨i,hi,_⟩
  ·exact .inl h
  ·exact .inr h
  ·cases hi
 let s:bj:={G with fz:=λb o=>G.fz b o∨G'.fz b o}
 have B:∀b o V,G.fz b o→w.cell? ⟨b,o,none⟩=some V→w'.cell? ⟨b,o,none⟩=some V:=λb o V hf hc=>by rw[World.cell?_of_block (w:=w) (m.block b (World.block_lt_of_cell? w _ hc))];exact hc
 have r:GLe w G w' s:=⟨np _,λ_ _=>rfl,λ_ _=>rfl,λ_ _ h=> .inl h,B⟩
 have O:Rel C.F w' s H:=by
  refine⟨d.n,d.over,λj=>(d.obj j).aO r (λhl=>d.gX hl) (λhl=>m.block _ ((d.obj j).lt hl)) λhl o t=>?_,d.eZ,λb o hf=>?_⟩
  · rcases t with t|t
    ·exact t
    · rcases A _ _ t with h|h
      ·exact h
      ·exact absurd ((d.obj j).lt hl) (by omega)
  · rcases hf with hf|hf
    · obtain⟨V,x⟩:=d.e2 b o hf;exact⟨V,B b o V hf x⟩
    ·exact M.e2 b o hf
 have S:Step w G H w' s H:={r with
     size:=p.size,os:=p.os,tape:=p.tape,output:=p.output,dr:=p.dr,dE:=λk hk _=>m.block k hk,owned:=λi hi _=>⟨i,hi,rfl⟩
     e3:=λb o hf=>by
      rcases hf with hf|hf
      ·exact .inl hf
      · rcases A b o hf with h|h
        ·exact .inl h
        ·exact .inr (.inl h)}
 refine⟨V,s,rfl,oY (G:=G') (G':=s) (w:=w') (λ_ _ h=>Or.inr h) (λ_ _ _ _ h=>h) E hv,u.step S,O,r,m,w'.drawn-w.drawn,w'.heap.extract w.heap.size w'.heap.size,?_⟩;have T:w'.heap=w.heap++w'.heap.extract w.heap.size w'.heap.size:=by
  apply Array.ext_getElem?;intro k;by_cases hk:k<w.heap.size
  ·rw[ae1 hk];exact m.block k hk
  · rw[Array.getElem?_append_right (by omega),Array.getElem?_extract];have hs:=m.size;split
    ·rw[show w.heap.size+(k-w.heap.size)=k by omega]
    ·exact Array.getElem?_eq_none (by omega)
 have key:∀a b:World,a.heap=b.heap→a.tape=b.tape→a.drawn=b.drawn→a.os=b.os→a.output=b.output→a=b:=by rintro⟨_,_,_,_,_⟩ ⟨_,_,_,_,_⟩ h1 U W X Y;cases h1;cases U;cases W;cases X;cases Y;rfl
 exact key _ _ T m.tape (by show w'.drawn=w.drawn+(w'.drawn-w.drawn);omega) m.os m.output
end Rb

namespace Go.Proofs.YtbomedgnnklgbaaGreatDoor.rb
open Rb Go.Shelf Go.RowKit Go.Lib Go.Sort Go.Proofs
variable{H:AH}{Q:ad}
def Xu:Go.Shelf.Ren:=⟨λ|6=>73|15=>137|14=>136|28=>198|29=>199|20=>190|21=>191|22=>192|23=>193|24=>194|25=>195|26=>196|27=>197|46=>220|47=>221|48=>222|49=>223|50=>224|57=>239|n=>n,λ|22=>72|24=>3|25=>112|3=>3|39=>250|0=>0|53=>38|55=>80|4=>4|46=>300|45=>299|50=>121|5=>5|9=>9|66=>328|70=>151|76=>344|77=>345|n=>n,λ|n=>n⟩
theorem Ma:ae2 Tryz.prog Xu:={
  mixed:=by kernel_rfl
  f6 := ⟨"slices.SortFunc[[]int,int]", by decide, Tryz.func73.trans (congrArg some (by kernel_rfl))⟩
  f14 := ⟨"slices.pdqsortCmpFunc[int]", by decide, Tryz.func136.trans (congrArg some (by kernel_rfl))⟩
  f15:=Tryz.func137.trans (congrArg some (by kernel_rfl))
  f20 := ⟨"slices.insertionSortCmpFunc[int]", by decide, Tryz.func190.trans (congrArg some (by kernel_rfl))⟩
  f21 := ⟨"slices.heapSortCmpFunc[int]", by decide, Tryz.func191.trans (congrArg some (by kernel_rfl))⟩
  f22 := ⟨"slices.breakPatternsCmpFunc[int]", by decide, Tryz.func192.trans (congrArg some (by kernel_rfl))⟩
  f23 := ⟨"slices.choosePivotCmpFunc[int]", by decide, Tryz.func193.trans (congrArg some (by kernel_rfl))⟩
  f24 := ⟨"slices.reverseRangeCmpFunc[int]", by decide, Tryz.func194.trans (congrArg some (by kernel_rfl))⟩
  f25 := ⟨"slices.partialInsertionSortCmpFunc[int]", by decide, Tryz.func195.trans (congrArg some (by kernel_rfl))⟩
  f26 := ⟨"slices.partitionEqualCmpFunc[int]", by decide, Tryz.func196.trans (congrArg some (by kernel_rfl))⟩
  f27 := ⟨"slices.partitionCmpFunc[int]", by decide, Tryz.func197.trans (congrArg some (by kernel_rfl))⟩
  f28:=Tryz.func198.trans (congrArg some (by kernel_rfl))
  f29:=Tryz.func199.trans (congrArg some (by kernel_rfl))
  f46 := ⟨"slices.siftDownCmpFunc[int]", by decide, Tryz.func220.trans (congrArg some (by kernel_rfl))⟩
  f47:=Tryz.func221.trans (congrArg some (by kernel_rfl))
  f48:=Tryz.func222.trans (congrArg some (by kernel_rfl))
  f49 := ⟨"slices.medianAdjacentCmpFunc[int]", by decide, Tryz.func223.trans (congrArg some (by kernel_rfl))⟩
  f50 := ⟨"slices.medianCmpFunc[int]", by decide, Tryz.func224.trans (congrArg some (by kernel_rfl))⟩
  f57 := ⟨"slices.order2CmpFunc[int]", by decide, Tryz.func239.trans (congrArg some (by kernel_rfl))⟩
  t0:=Tryz.underlying0
  a0:=Tryz.isAgg0
  z0:=Tryz.sizeOf0
  v0:=Tryz.zeroValue0
  t3:=Tryz.underlying3
  a3:=Tryz.isAgg3
  z3:=Tryz.sizeOf3
  v3:=Tryz.zeroValue3
  t4:=Tryz.underlying4
  a4:=Tryz.isAgg4
  z4:=Tryz.sizeOf4
  v4:=Tryz.zeroValue4
  t5:=Tryz.underlying5
  a5:=Tryz.isAgg5
  z5:=Tryz.sizeOf5
  v5:=Tryz.zeroValue5
  t9:=Tryz.underlying9
  a9:=Tryz.isAgg9
  z9:=Tryz.sizeOf9
  v9:=Tryz.zeroValue9
  t22:=Tryz.underlying72
  a22:=Tryz.isAgg72
  z22:=Tryz.sizeOf72
  v22:=Tryz.zeroValue72
  a24:=Tryz.isAgg3
  z24:=Tryz.sizeOf3
  t25:=Tryz.underlying112
  a25:=Tryz.isAgg112
  z25:=Tryz.sizeOf112
  v25:=Tryz.zeroValue112
  t39:=Tryz.underlying250
  a39:=Tryz.isAgg250
  z39:=Tryz.sizeOf250
  v39:=Tryz.zeroValue250
  t45:=Tryz.underlying299
  a45:=Tryz.isAgg299
  z45:=Tryz.sizeOf299
  v45:=Tryz.zeroValue299
  t46:=Tryz.underlying300
  a46:=Tryz.isAgg300
  z46:=Tryz.sizeOf300
  v46:=Tryz.zeroValue300
  t50:=Tryz.underlying121
  a50:=Tryz.isAgg121
  z50:=Tryz.sizeOf121
  v50:=Tryz.zeroValue121
  t53:=Tryz.underlying38
  a53:=Tryz.isAgg38
  z53:=Tryz.sizeOf38
  v53:=Tryz.zeroValue38
  t55:=Tryz.underlying80
  a55:=Tryz.isAgg80
  z55:=Tryz.sizeOf80
  v55:=Tryz.zeroValue80
  t66:=Tryz.underlying328
  a66:=Tryz.isAgg328
  z66:=Tryz.sizeOf328
  v66:=Tryz.zeroValue328
  t70:=Tryz.underlying151
  a70:=Tryz.isAgg151
  z70:=Tryz.sizeOf151
  v70:=Tryz.zeroValue151
  t76:=Tryz.underlying344
  a76:=Tryz.isAgg344
  z76:=Tryz.sizeOf344
  v76:=Tryz.zeroValue344
  t77:=Tryz.underlying345
  a77:=Tryz.isAgg345
  z77:=Tryz.sizeOf345
  v77:=Tryz.zeroValue345}
theorem Mb{B:Nat}(hB:B≤1000000):∀(n:Nat)(cs:List I),n≤cs.length→(∀j,j<n→∃v:Int,cs[j]?=some (J v)∧(0≤v∧v<B))→∃l:List Fm,l.length=n∧cs.take n=l.map je∧∀x∈l,x.val<B
 |0,cs,_,_=>⟨[],rfl,by simp,λx a=>by cases a⟩
 |n+1,[],h,_=>by simp at h
 | n + 1,c::r,h,hv=>by
  obtain ⟨l,h1,b,d⟩:=Mb hB n r (by simpa using h) λj f=>by have:=hv (j+1) (by omega);simpa using this
  obtain⟨v,hc,e,g⟩:=hv 0 (by omega);simp at hc;subst hc;refine⟨⟨v.toNat,by omega⟩::l,by simp[h1],?_,λx a=>?_⟩
  · rw[List.take_succ_cons,b,List.map_cons];congr 1;show J v = J ((v.toNat:Nat):Int);rw[Int.toNat_of_nonneg e]
  · rcases acm.1 a with rfl|a
    ·show v.toNat<B;omega
    ·exact d x a
def se(l:List Fm):List Fm:=l.mergeSort λx y=>!(ltOf l_) y x
set_option maxRecDepth 100000 in
theorem Xv{id:Nat}{cs:List I}{l:List Fm}(h:At H id (.row cs))(hc:cs.take l.length=l.map je)(hl:l.length<4611686018427387904)(b:Q (.ar []) (H.set id (.row ((se l).map je++cs.drop l.length)))):b7 C 73 [.row id 0 l.length 1,.fn 74 []] H Q:=by
 have r:(se l).length=l.length:=ae3 _;refine⟨⟨_,_,b⟩,λf hf G W Vs s g t=>?_⟩;obtain rfl:f=73:=by
  have:C.F 73=some 73:=by kernel_rfl
  rw[this]at hf;exact(aad.inj hf).symm
 obtain⟨u,hv⟩:=t;obtain⟨z⟩:=Vs
 match z,u with
 | [o,p],_=>
  have A:=hv 0 _ o rfl rfl;have h1:=hv 1 _ p rfl rfl;obtain ⟨cap,rfl⟩:∃cap,o = .slice (some ⟨G.loc id,0,none⟩) l.length cap:=by
   cases A with
   |row _ _ _ _ cap h hle hc=>exact⟨cap,rfl⟩
  have e1:p = .func (.func 74) #[] #[]:=by
   cases h1 with
   | fn _ _ f Vs hk hf hl hv=>
    have:C.F 74=some 74:=by kernel_rfl
    rw[this]at hf;cases hf;have:Vs = #[]:=Array.eq_empty_of_size_eq_zero (by rw[←hl];rfl);rw[this]
   |kr _ k _ f Vs hk hf hl hv=>cases hk
  subst e1;obtain⟨g1,g2⟩:=Xq g h.2 hc;have B:CmpLays1 Tryz.prog 74 #[] jQ l_ (G.loc id) 0 l.toArray.size W:=by
   intro m os i D x y;obtain⟨d,st⟩:=L_ g h.2 hc (l':=i.toList) (by simpa using D) m os;have E:i.toList.toArray=i:=by simp
   rw[E]at d st;refine(b7.flat (C:=C) kW (key:=74) (args:=[je x,je y]) (v:= J (l_ x y)) (by kernel_rfl) rfl rfl (s.step st) d ⟨rfl,λj c V hc a=>?_⟩ λQ b=>ai.to (S.Rf A4 ?_)).mono λe w' ⟨V,G',he,a,_,_,_,_,K⟩=>⟨by rw[he,a.eK],K⟩
   · rcases j with _|_|j
     ·simp at hc a;subst hc a;exact .int _ _
     ·simp at hc a;subst hc a;exact .int _ _
     ·simp at hc
   · unfold S.f74 je;simp only[cU,X];have M:=x.isLt;have N:=y.isLt;rw[bJ];exact b _
  have L:∀args w,(callFunc 74 args).run Tryz.prog w = .ok (.enter 74 args) w:=enters_of Tryz.func74 (by kernel_rfl) rfl;have q:=Any.slices_SortFunc_total Ma jQ (λ_=>rfl) l_ Xr 74 #[] (G.loc id) 0 cap l.toArray W L B g1 g2 (by simpa using hl) Xt;change Calls Tryz.prog 73 _ W _ at q;refine q.mono λe w' ⟨he,n,os,hw⟩=>?_;subst hw;obtain⟨d,st⟩:=L_ g h.2 hc r n os;exact⟨_,_,_,G,he,b,.ar [] #[] rfl λj c V hc=>by simp at hc,d,st⟩
theorem Xw{tk:Rb.Tok}(d:Q (.ar []) H):b7 C 73 [.ab tk 0 [],.fn 74 []] H Q:=by
 refine⟨⟨_,_,d⟩,λf hf G W Vs s k l=>?_⟩;obtain rfl:f=73:=by
  have:C.F 73=some 73:=by kernel_rfl
  rw[this]at hf;exact(aad.inj hf).symm
 obtain⟨m,hv⟩:=l;obtain⟨n⟩:=Vs
 match n,m with
 | [g,q],_=>
  have r:=hv 0 _ g rfl rfl;obtain ⟨p,cap,rfl⟩:∃p cap,g = .slice p 0 cap:=by
   cases r with
   |eI=>exact⟨_,_,rfl⟩
   |eJ a cap=>exact⟨_,_,rfl⟩
   |ab _ _ _ b o cap t u hle h hv=>exact⟨_,_,rfl⟩
  have i:=AnyF.slices_SortFunc_none {Ma with} p cap q W;change Calls Tryz.prog 73 _ W _ at i;refine i.mono λe w' ⟨he,hw⟩=>?_;subst hw;exact⟨_,_,H,G,he,d,.ar [] #[] rfl λj c V hc=>by simp at hc,k,Step.refl _ _ _⟩
theorem Xx:p3 (ai C):=by
 intro H Q B len x U h hB hl e;rcases h with⟨rfl,rfl⟩|⟨id,n,rfl,i,⟨cs,a,b,c⟩,f⟩
 ·exact⟨_,_,e H (.inl ⟨rfl,rfl⟩) (KX.refl _),Xw ⟨rfl,rfl⟩⟩
 · obtain ⟨l,h1,k,m⟩:=Mb hB len cs (by omega) λj g=>by
     obtain⟨v,hv,o⟩:=b j (by omega);exact⟨v,hv,o⟩
   subst h1;have p:(se l).length=l.length:=ae3 _;refine⟨_,_,e _ (.inr ⟨id,n,rfl,i,⟨_,?_,λj g=>?_,c.set _⟩,f⟩) (KX.set _ f _),Xv c k (by omega) ⟨rfl,rfl⟩⟩
   ·rw[adD,acz,List.length_drop,p,a];omega
   · by_cases d:j<(se l).length
     · rw[abB (by rw[acz];exact d),aaP,aaQ d];refine⟨_,rfl,?_⟩;have:=m _ (List.mem_mergeSort.1 (aaX d));exact⟨by omega,by omega⟩
     · rw[abC (by rw[acz];omega),acz,Z0,show l.length+(j-(se l).length)=j by omega];exact b j g
end Go.Proofs.YtbomedgnnklgbaaGreatDoor.rb

namespace Rb
open Go
structure Mc(t:List U)(A:List bn)(K:Nat)(k:Int):Prop where
 ops:∀o∈A,4≤o.kind→o.kind≤10→o.size=1∨o.size=2∨o.size=4∨o.size=8
 len:A.length≤16384
 rg:K≤100000000000
 nil:t=[]→A=[]∧K=0∧k=0
 cap:k=0∨k=12
def sf(A:List bn)(K:Nat)(k:Int):I:= .ar [aQ bn.cells A,.int .i64 (K:Nat),.agg [.int .i64 0,.int .i64 k]]
theorem Md{vars:List B}{kw:List UInt8→Bool}:∀{ts:List (List U)},(fV kw vars ts).2=0→fV kw vars ts=(0,0)
 |[],_=>by rw[fV]
 | t::r,h=>by
  rw[fV]at h ⊢;split at h
  ·rename_i e;exact absurd h e
  ·rename_i e;rw[ak e];exact Md h
theorem Me{p:cH}{kw:List UInt8→Bool}(h:(cV kw p).2=0):cV kw p=(0,0):=by
 unfold cV at h ⊢;split at h
 ·cases h
 · rename_i e;rw[ak e];split at h
   ·rename_i a;exact absurd h a
   ·rename_i a;rw[ak a];exact Md h
theorem Xy(A:List bn)(K:Nat)(k:Int):(sf A K k).bh=true:=by unfold sf;simp only[I.bh,I.bF,lO (cells:=bn.cells) (λ_=>rfl),Bool.and_self]
section
variable{C:Ctx}(aq:bT C)(hT:Cl (ai C) S.ba)(ek:∀x,bC (ai C) 22 [.str x] (.bool (cw x)))
include aq hT ek
theorem Xz{vars:List B}{t:List U}(aU:vars.length≤32)(hv:∀v∈vars,v.ok)(m:jN vars)(R:t.length≤maxLen)(T:∀s∈t,s.ok)(V:vB vars [] t)(aV:cf t≤100000000000) :
  ∃(A:List bn) (K:Nat) (k:Int),Mc t A K k∧∀(p:cH)(n:Nat),p.ok→(cV cw p).2=0→p.vars=vars→p.bo[n]?=some t→bC (ai C) 15 [.agg p.cells,.int .i64 (n:Nat)] (sf A K k):=by
 have hm:=mL;let g:AH:=(AH.mt.push (.row [.int .i64 0,.int .i64 0])).push (.row [.int .i64 0,.int .i64 0]);let f:AH:=g.push (.row (jM vars (c8 vars) (.ab .nil 0 []) (.ab .nil 0 []) (.ab .nil 0 []) pZ));have W:At f 2 (.row (jM vars (c8 vars) (.ab .nil 0 []) (.ab .nil 0 []) (.ab .nil 0 []) pZ)):=At.new g _;have aa:bD f 2 vars (c8 vars) (.ab .nil 0 []) pZ:=⟨⟨_,_,W,cd.nil _ _ _,cd.nil _ _ _,λt l c1 e=>(by cases e)⟩,cM.nil _ _,λj ac=>(by cases ac),λq r=>(by cases r)⟩
 have r0:At f 0 (.row [.int .i64 0,.int .i64 0]):=((At.new AH.mt _).push _).push _;have ad:ai C 27 [.ptr 2 0,aQ U.cells t] f λv d=>v = .ar []∧At d 0 (.row [.int .i64 0,.int .i64 0])∧∃(A:List bn) (K:Nat) (tk:Tok),Z d 1 false (.ptr 2 2)=some (.ab tk A.length (A.flatMap bn.cells))∧Z d 1 false (.ptr 2 3)=some (.int .i64 (K:Nat))∧(∀o∈A,4≤o.kind→o.kind≤10→o.size=1∨o.size=2∨o.size=4∨o.size=8)∧K≤100000000000∧A.length≤cf t∧K≤cf t:=by
  refine Cu aq hT (id:=2) (vars:=vars) (l:=t) (by omega) (λx ae=>W2 aq hT m x (T x ae)) (w:=0) V aa rfl ⟨by show 0+_≤_;omega,by show 0+_≤_;omega,by show 0+_≤_;omega,by show 0+_≤_;omega,by show 0+_≤_;omega⟩ λc' aW d kb D gs aX=>?_;obtain⟨ag,ah,al,go,_⟩:=gs.new;obtain⟨xo,xs,a6,u,_⟩:=D.x;have E:c'.A=ag:=by rw[ah];rfl
  have r1:c'.K≤0+cf t:=gs.r1;obtain⟨tk,am,_⟩:=u;exact⟨rfl,kb.2 _ _ (by decide) r0,c'.A,c'.K,tk,by rw[a6.load,←am];rfl,D.qI,λo r=>(go o (by rw[←E];exact r)).size,by omega,by rw[E];exact al,by omega⟩
 obtain⟨v0,d,⟨rfl,G,A,K,tk,l2,l3,an,ao,J,ap⟩,av⟩:=ai.one ad;have main:∀(k:Int)(h:List bn)(i:Nat),((A.length:Int)>16384→k=12∧h=[]∧i=0)→(¬(A.length:Int)>16384→k=0∧h=A∧i=K)→∀(p:cH)(n:Nat),p.ok→(cV cw p).2=0→p.vars=vars→p.bo[n]?=some t→bC (ai C) 15 [.agg p.cells,.int .i64 (n:Nat)] (sf h i k):=by
  intro k h i aw az p n L aA aE ht;refine bC.of aq (by simp[I.bF,I.bh,cH.bh]) (Xy _ _ _) λQ M=>ai.cB ?_;have aF:=(ZX.1 ht).1;have R:=L.2.1;refine S.Qv hT ?_;unfold S.f15;have aG:aL AH.mt false 2 (.agg p.cells)=some (.aj p.cells,AH.mt):=by unfold aL;rw[af ⟨rfl,rfl⟩];rfl
  have aI:∀H,Z H 1 false (.aj (p.cells.drop 0))=some (aQ B.cells p.vars):=λ_=>rfl;have N:∀H,Z H 1 false (.aj (p.cells.drop 1))=some (aQ el p.bo):=λ_=>rfl;have aJ:∀H,Z H 2 true (.aj p.cells)=some (.agg p.cells):=λ_=>rfl;simp only[aG,aH,aK,aR,eu,X,aJ];refine BV aq hT ek p L _ _ ?_;unfold xz;rw[Me aA,cC _ _ _ 2 rfl rfl rfl];simp only[X,ef];have aM:Z g 1 false (.ptr 1 1)=some (.int .i64 0):=rfl;change Do (Z g 1 false (.ptr 1 1)) _;rw[aM];simp only[X,dc,F];rw[de];simp only[aS,X,cy,eu,N,dL,eQ,aC];rw[af (by simp only[decide_eq_false_iff_not];omega),show decide ((n:Int)≥(p.bo.length:Nat))=false by simp only[decide_eq_false_iff_not];omega];simp only[S.Af,ax,F,abS,bz,aC,S.Ft,eu,aI,N,X];rw[aE];refine KN aq hT (by omega) hv _ _ ?_;have aN:=K2 m.z m.e;unfold lh;rw[aN,ak (by show ¬(0:Int)≠0;decide)];simp only[aY,adV,adW,X];rw[show aB [.ab .nil 0 [],.ab .nil 0 [],.ab .nil 0 [],.int .i64 0,.int .i64 0,.ab .nil 0 [],.int .i64 0,.ab .nil 0 []] [(0,1,aQ B.cells vars),(1,1,.ab .dead vars.length (c_ vars (dI 0 vars)))]=some (.agg (jM vars (c8 vars) (.ab .nil 0 []) (.ab .nil 0 []) (.ab .nil 0 []) pZ))from rfl];simp only[X];change au (aL g true 8 (.agg (jM vars (c8 vars) (.ab .nil 0 []) (.ab .nil 0 []) (.ab .nil 0 []) pZ))) _;rw[show aL g true 8 (.agg (jM vars (c8 vars) (.ab .nil 0 []) (.ab .nil 0 []) (.ab .nil 0 []) pZ))=some (.ptr 2 0,f)from rfl];simp only[aH];rw[dP aF];simp only[X];have aO:Z f 1 false (eS el 1 p.bo n)=some (aQ U.cells t):=Jo (c:=λl=>aQ U.cells l) f ht;rw[aO];simp only[X];refine wM C _ _ _ _ _ (λa b e=>?_) av;obtain⟨e1,aP⟩:=e;rw[aP];have aT:aB [.int .i64 0,.int .i64 0] []=some (.agg [.int .i64 0,.int .i64 0]):=rfl;have kA:aB [.int .i64 0,.int .i64 0] [(1,1,.int .i64 12)]=some (.agg [.int .i64 0,.int .i64 12]):=rfl;simp only[aD,ef,X,l2,l3,fQ,dC,F,aT,kA];have O:∀x y:Int,Y d 2 (.ptr 0 0) (.agg [.int .i64 x,.int .i64 y])=some (d.set 0 (.row [.int .i64 x,.int .i64 y])):=λx y=>G.put (n:=2) rfl rfl rfl;have P:∀x y:Int,Z (d.set 0 (.row [.int .i64 x,.int .i64 y])) 2 true (.ptr 0 0)=some (.agg [.int .i64 x,.int .i64 y]):=λx y=>(G.set _).all (n:=2) rfl;have aZ:AH.mt.n=0:=rfl;have wk:∀(A:List bn),I.ch (A.flatMap bn.cells)=A.flatMap bn.cells:=λA=>by have:=pT (cells:=bn.cells) (λ_=>rfl) A;simp only[aQ,I.cB]at this;exact(I.ab.inj this).2.2
  apply ay<;>intro e
  · obtain⟨rfl,rfl,rfl⟩:=aw (by simpa using e);refine⟨_,O 0 12,_,P 0 12,?_⟩;exact M _
  · obtain⟨rfl,rfl,rfl⟩:=az (by simpa using e);refine⟨_,O 0 0,_,P 0 0,?_⟩;simp only[I.cB,I.ch,wk];exact M _
 by_cases hc:(A.length:Int)>16384
 · refine⟨[],0,12,⟨λo u=>(by cases u),by decide,by decide,λq=>?_,.inr rfl⟩,main 12 [] 0 (λ_=>⟨rfl,rfl,rfl⟩) (λq=>absurd hc q)⟩;subst q;rw[show cf []=0 from by rw[cf]]at J;omega
 · refine⟨A,K,0,⟨an,by omega,ao,λq=>?_,.inl rfl⟩,main 0 A K (λq=>absurd q hc) (λ_=>⟨rfl,rfl,rfl⟩)⟩;subst q;rw[show cf []=0 from by rw[cf]]at J ap;exact⟨aeS (by omega),by omega,rfl⟩
end
end Rb

namespace Rb
open Go
variable{H:AH}{Q:ad}{U:Nat→Prop}{fl us nx len:Nat}{x:I}
section
variable{C:Ctx}(hT:Cl (ai C) S.ba){B:Nat}{p:Nat}(hB:B≤800000)
include hT hB
theorem Mf{t v:Int}{H H0:AH}{Q:ad}(h:eN H p B U fl us nx)(hl:fl+us+1≤nx)(hv:0≤v∧v<B)(x:H.n=H0.n)(g:KX U H0 H)
  (j:∀(v:Int) l m o f H',0≤v∧v<B→eN H' p B f l m o→p0 H0 H' U f→KX U H0 H'→Q (.ar [J v,bg]) H') :
  S.uM (ai C) (.ptr p 0) (J t) Q [J v] H:=by
 obtain⟨xf,xu,Uf,Uu,a,b,c,d,e⟩:=h.row;have hle:=h.le;have y:=h.nb;simp only[S.uM,aD,aa,aaK,X,ax];rw[show aB [O,O] [(0,1,J t),(1,1,J v)]=some (.agg [J t,J v])from rfl];simp only[X];have r:El 2 (Pq B) [J t,J v]:=⟨rfl,λk hk=>by
   rcases(show k=0∨k=1 by omega)with rfl|rfl
   ·exact⟨t,rfl,λq=>by omega⟩
   ·exact⟨v,rfl,λ_=>hv⟩⟩
 refine Xp hT (by omega) a c (λq=>(e p q).2 rfl) r λs H' u c' k'=>?_;have z:=a.1;have kk:KX U H H':=k'.mono λi _ q=>by
  rcases q with q|q
  ·exact(e i q).1
  ·exact q▸h.up
 refine j v fl (us+1) nx (λi=>U i∨(H.n≤i∧i<H'.n)) H' hv ⟨.inl h.up,λi hi=>?_,by omega,h.nb,xf,s,Uf,(λi=>(Uu i∨H.n≤i)∧i<H'.n),u,b.kx k' λi hi q=>?_,c'.mono λi hi q=>⟨q,hi⟩,λi hi=>?_,λi hi=>?_⟩ (λi hi=>?_) (g.tr kk)
 · rcases hi with hi|hi
   ·have:=h.bd i hi;have:=k'.1;omega
   ·exact hi.2
 · rcases q with q|q
   ·exact(d i hi).2.2 q
   ·exact(d i hi).2.1 q
 · refine⟨.inl (d i hi).1,(d i hi).2.1,λq=>?_⟩;have:=h.bd i (d i hi).1;rcases q.1 with q|q
   ·exact(d i hi).2.2 q
   ·omega
 · obtain⟨hi,w⟩:=hi;rcases hi with hi|hi
   ·exact⟨.inl (e i hi).1,(e i hi).2⟩
   ·exact⟨.inr ⟨hi,w⟩,by omega⟩
 · rcases hi with hi|hi
   ·exact .inl hi
   ·exact .inr ⟨by omega,hi.2⟩
theorem Mg{t:Int}(h:eN H p B U fl us nx)(o:Q (.ar [O,P]) H)
  (g:∀(v:Int) s u w j H',0≤v∧v<B→eN H' p B j s u w→p0 H H' U j→KX U H H'→Q (.ar [J v,bg]) H') :
  ai C 34 [.ptr p 0,J t] H Q:=by
 refine S.QL hT ?_;unfold S.f34;have hle:=h.le;have y:=h.nb;obtain⟨xf,xu,Uf,Uu,a,b,c,d,e⟩:=h.row;have l0:Z H 1 false (.ptr p 0)=some xf:=by rw[a.load];rfl
 have l2:Z H 1 false (.ptr p 2)=some (J (nx:Nat)):=by rw[a.load];rfl
 have l3:Z H 1 false (.ptr p 3)=some (J (B:Nat)):=by rw[a.load];rfl
 simp only[aD,aa,aaK,X,l0,l2,l3,b.len,dC,F,aC];apply ay<;>intro q
 · have l:0<fl:=by simp at q;omega
   rcases b with⟨_,z⟩|⟨f,n,rfl,A,r,m⟩
   ·omega
   simp only[cU,wS (show 1≤fl by omega) (show fl≤4000000000000000000 by omega),X];rw[dY (by omega),L7 (by omega)];obtain⟨v,hv,ev⟩:=r.ld1 (i:=fl-1) (k:=0) (by omega) (by decide);rw[aaz]at ev;simp only[X,ev];rw[a.store,af ⟨rfl,rfl,rfl,by show 0+1≤4;decide⟩];simp only[X];rw[show setCells [I.row f 0 fl 1,xu,J (nx:Nat),J (B:Nat)] 0 (I.row f 0 (fl-1) 1).cells=[.row f 0 (fl-1) 1,xu,J (nx:Nat),J (B:Nat)]from rfl];have kp:KX (·= p) H (H.set p (.row [.row f 0 (fl-1) 1,xu,J (nx:Nat),J (B:Nat)])):=KX.set (S:=(·= p)) _ rfl _;refine Mf hT hB (H0:=H) (fl:=fl-1) (us:=us) (nx:=nx) ⟨h.up,h.bd,by omega,h.nb,_,xu,Uf,Uu,a.set _,.inr ⟨f,n,rfl,by omega,r.kx kp (d f m).2.1,m⟩,c.kx kp λi hi=>(e i hi).2,d,e⟩ (by omega) hv rfl (kp.mono λi _ q=>q▸h.up) g
 · have l:fl=0:=by simp at q;omega
   subst l;simp only[eQ,X,F];refine ay (λ_=>o) (λx=>?_);have D:nx<B:=by simp at x;omega
   simp only[bu,wN (show nx≤4000000000000000000 by omega),X];rw[a.store,af ⟨rfl,rfl,rfl,by show 2+1≤4;decide⟩];simp only[X];rw[show setCells [xf,xu,J (nx:Nat),J (B:Nat)] 2 (J ((nx+1:Nat):Int)).cells=[xf,xu,J ((nx+1:Nat):Int),J (B:Nat)]from rfl];have kp:KX (·= p) H (H.set p (.row [xf,xu,J ((nx+1:Nat):Int),J (B:Nat)])):=KX.set (S:=(·= p)) _ rfl _;exact Mf hT hB (H0:=H) (fl:=0) (us:=us) (nx:=nx+1) ⟨h.up,h.bd,by omega,by omega,xf,xu,Uf,Uu,a.set _,b.kx kp λi hi=>(d i hi).2.1,c.kx kp λi hi=>(e i hi).2,d,e⟩ (by omega) ⟨by omega,by omega⟩ rfl (kp.mono λi _ q=>q▸h.up) g
end
def CN(H:AH)(N:Nat)(x:I)(len:Nat):Prop:=(len=0∧aU false x=some O)∨∃id,x = .row id 0 len 3∧Rw 3 bO H id len∧N≤id
section
variable{C:Ctx}(hT:Cl (ai C) S.ba)
include hT
theorem XA(hl:len≤1000000)(h:mP x len)(a:∀b H',CN H' H.n b len→KX (λ_=>False) H H'→Q b H'):ai C 28 [x] H Q:=by
 refine S.QG hT ?_;unfold S.f28;rcases h with⟨rfl,rfl⟩|⟨d,es,rfl,he⟩
 · rw[show h3 .s false (aw)=some (bg)from rfl];simp only[X,F,aR];exact a _ _ (.inl ⟨rfl,rfl⟩) (KX.refl _)
 · obtain ⟨k,rfl⟩:∃k,len=k+1:=⟨len-1,by omega⟩
   rw[show h3 .s false (.ab .dead (k+1) es)=some (P)from rfl];simp only[X,F,abS,bz];rw[show b8 H false 3 0 [O,O,O] []=some (.ab .full 0 [],H)from rfl];simp only[aH];have hc:dQ H 3 (.ab .dead (k+1) es)=some (k+1,es):=by show(if es.length=(k+1)*3 then some (k+1,es)else none)=_;rw[af he.1]
   rw [show bH H true 3 24 (.ab .full 0 []) (.ab .dead (k+1) es)=some (.row H.n 0 (0+(k+1)) 3,H.push (.row ([]++es)))from by simp only[bH,hc,he.scalar,not_true_eq_false,bz];rw[ak (Nat.succ_ne_zero k),ak (by simp only[adC];exact⟨rfl,by omega,by omega⟩)]]
   simp only[aH];refine a _ _ (.inr ⟨H.n,by rw[aaK],⟨es,he.1,λj c=>he.2 j c,At.new _ _⟩,np _⟩) (KX.push _ _)
theorem XB{N len:Nat}(hl:len≤1000000)(h:CN H N x len)(a:∀H',CN H' N x len→(∀i,i<N→i<H.n→H'.o i=H.o i)→H.n≤H'.n→Q (.ar []) H'):ai C 29 [x,.fn 30 []] H Q:=by
 rcases h with⟨rfl,he⟩|⟨id,rfl,r,b⟩
 · refine S.IX hT ?_;unfold S.f29;simp only[he,X];refine S.IZ hT ?_;unfold S.f70;refine av.step ?_;simp only[S.q5,ax,bR,hK,X,F,aC];rw[de];simp only[S.vb,ax];refine S.I2 hT ?_;unfold S.f133;simp only[bu,X];refine av.step ?_;simp only[S.mB,ax,aS,X,F];rw[de];refine av.step ?_;simp only[S.nI,ax,aS,X,F];rw[de];exact a H (.inl ⟨rfl,he⟩) (λ_ _ _=>rfl) (np _)
 ·exact Xj hT hl r λH' c k'=>a H' (.inr ⟨id,rfl,c,b⟩) (λi hi d=>k'.2 i d (by omega)) k'.1
end
end Rb

namespace Rb
open Go
def Pv(L:Nat)(_:Nat)(v:Int):Prop:= -(L:Int)-1≤v∧v≤6
theorem sa{es:List I}(d:El 3 bO es):∃a b c:Int,es=[J a,J b,J c]:=by
 obtain⟨l,h⟩:=d
 match es,l with
 | [x,y,z],_=>obtain⟨a,e,_⟩:=h 0 (by decide);obtain⟨b,f,_⟩:=h 1 (by decide);obtain⟨c,hc,_⟩:=h 2 (by decide);cases e;cases f;cases hc;exact⟨a,b,c,rfl⟩
theorem eN.new(H:AH)(B:Nat):eN (H.push (.row [aw,aw,O,J (B:Nat)])) H.n B (·= H.n) 0 0 0:=⟨rfl,λi hi=>by subst hi;exact acP _,np _,aav _,_,_,(λ_=>False),(λ_=>False),At.new _ _,.inl ⟨rfl,rfl⟩,.inl ⟨rfl,rfl⟩,λi hi=>hi.elim,λi hi=>hi.elim⟩
section
variable{C:Ctx}(hT:Cl (ai C) S.ba)(hS:p3 (ai C))
include hT hS
theorem XC{x:I}{len B1 p1 p2 ido K:Nat}(hl:len≤100000)(bx:B1≤7)(bA:K≤100000000000)(o1:ido<p1)(o2:p1<p2){H0:AH}{Q:ad}(aZ:∀cs (s:Nat) H',gf 1 (Pv len) K cs→s≤len→KX (λi=>ido≤i) H0 H'→Q (.ar [.ab .dead K cs,J (s:Nat)]) H') :
  ∀ (d i iC y w gD p o:Nat) (z u:Nat→Prop) (H1:AH),i+d=len→eN H1 p1 B1 z iC y w→eN H1 p2 len u gD p o→(∀j,z j→p1≤j∧¬u j)→(∀j,u j→p1≤j)→Rw 1 (Pv len) H1 ido K→(i<len→∃id,x = .row id 0 len 3∧Rw 3 bO H1 id len∧id<ido)→KX (λi=>ido≤i) H0 H1 →
   av (S.lK (ai C) x (.row ido 0 K 1) (.ptr p1 0) (.ptr p2 0) (J (len:Nat)) Q) ([J (i:Nat)],H1):=by
 intro d;induction d with
 | zero=>
  intro i iC y w gD p o z u H1 hi P P2 G R ae aA k1;refine av.step ?_;simp only[S.lK,ax,aS,X,F,aC];rw[eF];obtain⟨xf,xu,Uf,Uu,a,_⟩:=P2.row;obtain⟨cs,c1,c2,c3⟩:=ae;have a0:fb H1 (.row ido 0 K 1)=some (.ab .dead K ((cs.drop 0).take (K*1)),H1.set ido .gone):=by simp only[fb,c3.2];rw[cj]
  simp only[S.Fv,a0,aH,aD,aa,aaK,X];have aB:KX (·= ido) H1 (H1.set ido .gone):=KX.set (S:=(·= ido)) _ rfl _;rw[(aB.at a (by omega)).load];exact ⟨_,rfl,aZ _ o _ ⟨by rw[adS,adx];omega,λj l=>by obtain⟨v,h1,a1⟩:=c2 j l;exact⟨v,by rw[abY l,adx];exact h1,a1⟩⟩ P2.nb (k1.trans aB λi _ q=>by omega)⟩
 | succ d a2=>
  intro i iC y w gD p o z u H1 hi P P2 G R ae aA k1;refine av.step ?_;simp only[S.lK,ax,aS,X,F,aC];rw[e5];obtain⟨id,rfl,rx,a3⟩:=aA (by omega);rw[dY (by omega)];obtain⟨es,he,e1⟩:=rx.ld (i:=i) (by omega);obtain⟨r,f,t,rfl⟩:=sa he;simp only[X,e1,aK,aR,aH];rw[cC H1 [O,O,O] [J r,J f,J t] 3 rfl rfl rfl];have kb:KX (λ_=>False) H1 (H1.push (.row [J r,J f,J t])):=KX.push _ _;have am:=At.new H1 (.row [J r,J f,J t]);have bB:=ae.lt;have bC:=P.bd _ P.up;have bD:=P2.bd _ P2.up;have an:=P.kx kb λ_ _ h=>h;have ao:=P2.kx kb λ_ _ h=>h;have aE:=ae.kx kb λh=>h;have aF:=rx.kx kb λh=>h;have aI:KX (λi=>ido≤i) H0 (H1.push (.row [J r,J f,J t])):=k1.tr (KX.push _ _);have bE:H1.n+1=(H1.push (.row [J r,J f,J t])).n:=rfl;generalize H1.push (.row [J r,J f,J t])=H2 at *;have H:∀H',At H' H1.n (.row [J r,J f,J t])→Z H' 1 false (.ptr H1.n 0)=some (J r)∧Z H' 1 false (.ptr H1.n 1)=some (J f)∧Z H' 1 false (.ptr H1.n 2)=some (J t):=λH' a=>by refine⟨?_,?_,?_⟩<;>(rw[a.load];rfl)
  have next:∀(iC y w gD p o:Nat)(z u:Nat→Prop)(m:AH),eN m p1 B1 z iC y w→eN m p2 len u gD p o→(∀j,z j→p1≤j∧¬u j)→(∀j,u j→p1≤j)→Rw 1 (Pv len) m ido K→Rw 3 bO m id len→KX (λi=>ido≤i) H0 m →
    S.nG (ai C) ([J (i:Nat)],H1) (av (S.lK (ai C) (.row id 0 len 3) (.row ido 0 K 1) (.ptr p1 0) (.ptr p2 0) (J (len:Nat)) Q)) Q [] m:=by
   intro iC y w gD p o z u m a b c af e ap g;simp only[S.nG,ax,bu,X,wN (show i≤4000000000000000000 by omega)];exact a2 (i+1) iC y w gD p o z u m (by omega) a b c af e (λ_=>⟨id,rfl,ap,a3⟩) g
  have skip:=next iC y w gD p o z u H2 an ao G R aE aF aI
  have go:∀rn:Nat,r=(rn:Int)→rn<K→S.Ag (ai C) (.row ido 0 K 1) (.ptr p1 0) (.ptr p2 0) (.ptr H1.n 0) ([J (i:Nat)],H1) (av (S.lK (ai C) (.row id 0 len 3) (.row ido 0 K 1) (.ptr p1 0) (.ptr p2 0) (J (len:Nat)) Q)) Q [] H2:=by
   rintro rn rfl aJ;simp only[S.Ag,aa,aaK,X,(H H2 am).2.1];refine⟨_,_,rfl,?_⟩;refine L8 hT hS (B:=B1) (by omega) an λaL aM W aq aN bF aO T=>?_;have b1:∀j,z j→j<H2.n:=an.bd;have b2:∀j,u j→j<H2.n:=ao.bd;have aP:=T.at am (λq=>by have:=P.bd _ q;omega);have a4:eN aq p2 len u gD p o:=ao.kx T λj l q=>(G j q).2 l;have a5:=aE.kx T (λq=>by have:=(G _ q).1;omega);have a6:=aF.kx T (λq=>by have:=(G _ q).1;omega);have a7:KX (λi=>ido≤i) H0 aq:=aI.trans T λj _ q=>by have:=(G _ q).1;omega
   have au:∀j,W j→p1≤j∧¬u j:=λj l=>by
    rcases aO j l with q|q
    ·exact G j q
    ·exact⟨by omega,λaw=>by have:=b2 j aw;omega⟩
   have bG:=T.1;simp only[(H aq aP).2.1,X];refine⟨_,_,rfl,?_⟩;refine L8 hT hS (B:=len) (by omega) a4 λa8 a9 L N ag bH ay U=>?_;have ah:=U.at aP (λq=>by have:=P2.bd _ q;omega);have a_:=aN.bd;have az:eN N p1 B1 W aL aM w:=aN.kx U λj l q=>(au j l).2 q;have aQ:=a5.kx U (λq=>by have:=R _ q;omega);have aT:=a6.kx U (λq=>by have:=R _ q;omega);have aU:KX (λi=>ido≤i) H0 N:=a7.trans U λj _ q=>by have:=R _ q;omega
   have bI:=U.1;have ac:∀j,L j→p1≤j:=λj l=>by
    rcases ay j l with q|q
    ·exact R j q
    ·omega
   have D:∀j,W j→p1≤j∧¬L j:=λj l=>⟨(au j l).1,λq=>by
     rcases ay j q with q|q
     ·exact(au j l).2 q
     ·have:=a_ j l;omega⟩
   have ba:∀j,W j→j≠H1.n:=λj l e=>by
    rcases aO j l with q|q
    ·have:=P.bd _ q;omega
    ·omega
   have bb:∀j,L j→j≠H1.n:=λj l e=>by
    rcases ay j l with q|q
    ·have:=P2.bd _ q;omega
    ·omega
   have bc:=ag.bd;simp only[(H N ah).2.2,X];have put:∀(v:Int)(iC y w gD p o:Nat)(aj A:Nat→Prop)(m:AH),Pv len 0 v→eN m p1 B1 aj iC y w→eN m p2 len A gD p o→(∀j,aj j→p1≤j∧¬A j)→(∀j,A j→p1≤j)→Rw 1 (Pv len) m ido K→Rw 3 bO m id len→KX (λi=>ido≤i) H0 m →
     Do (aG none 1 (.row ido 0 K 1) (J (rn:Nat))) λbe=>Do (Y m 1 be (J v)) λbf=>S.nG (ai C) ([J (i:Nat)],H1) (av (S.lK (ai C) (.row id 0 len 3) (.row ido 0 K 1) (.ptr p1 0) (.ptr p2 0) (J (len:Nat)) Q)) Q [] bf:=by
    intro v iC y w gD p o aj A m hv a b c af e ap g;rw[dY aJ];obtain⟨bg,aV,r4,ak⟩:=e.st1 (i:=rn) (k:=0) aJ (by decide) hv;rw[aaz]at aV;simp only[X,aV];exact next _ _ _ _ _ _ aj A bg (a.kx ak λj l q=>by have:=(c j l).1;omega) (b.kx ak λj l q=>by have:=af j l;omega) c af r4 (ap.kx ak (by omega)) (g.trans ak λj _ q=>by omega)
   refine Mg hT (B:=B1) (by omega) az ?_ λv bh bi bj bk al hv bl gc E=>?_
   · simp only[aY,adV,adW,X,F,abS,bz,(H N ah).2.2];have aW:∀(v:Int)(c:Bool)(gD p o:Nat)(A:Nat→Prop)(m:AH),0≤v∧v≤len→eN m p2 len A gD p o→p0 N m L A→KX L N m →
       Do (aY 0 (.ar [J v,.bool c])) λbm=>Do (aY 1 (.ar [J v,.bool c])) λbK=>Do (Z m 1 false (.ptr H1.n 0)) λbn=>Do (M .sub (J (-1)) bm) λbo=>Do (aG none 1 (.row ido 0 K 1) bn) λbp=>Do (Y m 1 bp bo) λbq=>S.nG (ai C) ([J (i:Nat)],H1) (av (S.lK (ai C) (.row id 0 len 3) (.row ido 0 K 1) (.ptr p1 0) (.ptr p2 0) (J (len:Nat)) Q)) Q [] bq:=by
      intro v c gD p o A m hv b gd V;have br:=V.at ah (λq=>bb _ q rfl);simp only[aY,adV,adW,X,(H m br).1,cU];rw[bJ];have bL:=V.1;refine put (-1-v) aL aM w gD p o W A m ⟨by omega,by omega⟩ (az.kx V λj l q=>(D j l).2 q) b (λj l=>⟨(D j l).1,λq=>?_⟩) (λj l=>?_) (aQ.kx V (λq=>by have:=ac _ q;omega)) (aT.kx V (λq=>by have:=ac _ q;omega)) (aU.trans V λj _ q=>by have:=ac _ q;omega)
      · rcases gd j q with q|q
        ·exact(D j l).2 q
        ·have:=az.bd j l;omega
      · rcases gd j l with q|q
        ·exact ac j q
        ·omega
     refine Mg hT (B:=len) (by omega) ag (aW 0 false _ _ _ L N ⟨by omega,by omega⟩ ag (λj l=> .inl l) (KX.refl _)) λv bM bN bP bs al hv bt gc E=>aW v true _ _ _ bs al ⟨hv.1,by have:=hv.2;omega⟩ bt gc E
   · have bv:=E.at ah (λq=>ba _ q rfl);simp only[aY,adV,adW,X,F,aR,(H al bv).1];have bQ:=E.1;refine put v bh bi bj a8 a9 o bk L al ⟨by have:=hv.1;omega,by have:=hv.2;omega⟩ bl (ag.kx E λj l q=>(D j q).2 l) (λj l=>?_) ac (aQ.kx E (λq=>by have:=(D _ q).1;omega)) (aT.kx E (λq=>by have:=(D _ q).1;omega)) (aU.trans E λj _ q=>by have:=(D _ q).1;omega);rcases gc j l with q|q
     ·exact D j q
     ·exact⟨by omega,λaw=>by have:=bc j aw;omega⟩
  simp only[X,aa,aaK,(H H2 am).1,k0,aS,eQ,cy];have aX:∀c:Bool,(c=false→0≤r∧r<K)→S.uw (ai C) (.row ido 0 K 1) (.ptr p1 0) (.ptr p2 0) (.ptr H1.n 0) ([J (i:Nat)],H1) (av (S.lK (ai C) (.row id 0 len 3) (.row ido 0 K 1) (.ptr p1 0) (.ptr p2 0) (J (len:Nat)) Q)) Q [.bool c] H2:=by intro c hc;simp only[S.uw,ax,F,aC];refine ig (λ_=>skip) (λe=>?_);have:=hc e;exact go r.toNat (by omega) (by omega)
  refine ru (λe=>aX _ λbw=>?_) (λ_=>aX true λe=>by cases e);simp at e bw;omega
theorem XD{x:I}{len B1 K:Nat}(hl:len≤100000)(o:B1≤7)(p:K≤100000000000){H:AH}{Q:ad}(h:mP x len)
  (u:∀cs (s:Nat) H',gf 1 (Pv len) K cs→s≤len→KX (λ_=>False) H H'→Q (.ar [.ab .dead K cs,J (s:Nat)]) H') :
  ai C 16 [x,J (K:Nat),J (B1:Nat)] H Q:=by
 refine S.Qw hT ?_;unfold S.f16;refine XA hT (by omega) h λf H1 h1 k1=>?_;refine XB hT (by omega) h1 λH2 g o2 n2=>?_;have k2:KX (λ_=>False) H H2:=⟨sl k1.1 n2,λi hi hs=>(o2 i hi (AV hi k1.1)).trans (k1.2 i hi hs)⟩
 have mx:∀n:Nat,eP true [J (n:Nat),O]=some (J (n:Nat)):=λn=>by simp only[eP,mT,p7,aR];rw[bM]
 simp only[mx,X];have v:ir H2 true 1 8 [O] (J (K:Nat)) (J (K:Nat))=some (.row H2.n 0 K 1,H2.push (.row (ZU K [O]).flatten)):=by simp only[ir];rw[af ⟨by omega,by omega,by omega,by omega,rfl⟩];simp
 rw[v];simp only[aH];have w:∀t,(ZU t [O]).flatten=ZU t (O):=λt=>by
  induction t with
  |zero=>rfl
  |succ k y=>rw[aa2,aa3,y];rfl
 have r0:Rw 1 (Pv len) (H2.push (.row (ZU K [O]).flatten)) H2.n K:=by rw[w];refine⟨_,by rw[aeW];omega,λj l=>⟨0,by rw[acJ,cj],⟨by omega,by omega⟩⟩,At.new _ _⟩
 have m:KX (λ_=>False) H2 (H2.push (.row (ZU K [O]).flatten)):=KX.push _ _;have n3:(H2.push (.row (ZU K [O]).flatten)).n=H2.n+1:=rfl;generalize H2.push (.row (ZU K [O]).flatten)=a at *;rw[show aB [aw,aw,O,O] [(3,1,J (B1:Nat))]=some (.agg [aw,aw,O,J (B1:Nat)])from rfl];simp only[X];rw[show aL a true 4 (.agg [aw,aw,O,J (B1:Nat)])=some (.ptr a.n 0,a.push (.row [aw,aw,O,J (B1:Nat)]))from rfl];simp only[aH];have z:=eN.new a B1;have d:KX (λ_=>False) a (a.push (.row [aw,aw,O,J (B1:Nat)])):=KX.push _ _;have n4:(a.push (.row [aw,aw,O,J (B1:Nat)])).n=a.n+1:=rfl;generalize a.push (.row [aw,aw,O,J (B1:Nat)])=b at *;have A:aU false x=some (J (len:Nat)):=by rcases h with⟨rfl,rfl⟩|⟨_,es,rfl,_⟩<;>rfl
 simp only[A,X];rw[show aB [aw,aw,O,O] [(3,1,J (len:Nat))]=some (.agg [aw,aw,O,J (len:Nat)])from rfl];simp only[X];rw[show aL b true 4 (.agg [aw,aw,O,J (len:Nat)])=some (.ptr b.n 0,b.push (.row [aw,aw,O,J (len:Nat)]))from rfl];simp only[aH];have P2:=eN.new b len;have c:KX (λ_=>False) b (b.push (.row [aw,aw,O,J (len:Nat)])):=KX.push _ _;generalize b.push (.row [aw,aw,O,J (len:Nat)])=B at *;have D:aU false f=some (J (len:Nat)):=by
  rcases g with⟨rfl,e⟩|⟨id,rfl,_⟩
  ·exact e
  ·rfl
 simp only[D,X];have E:=k2.1;refine XC hT hS (x:=f) (H0:=H) hl o p (ido:=H2.n) (p1:=a.n) (p2:=b.n) (by omega) (by omega) (λcs s H' r hs k=>u cs s H' r hs (k.mono λi hi q=>by omega)) len 0 0 0 0 0 0 0 _ _ B (by omega) (z.kx c λ_ _ h=>h) P2 (λj l=>⟨by omega,λq=>by omega⟩) (λj l=>by omega) ((r0.kx d λh=>h).kx c λh=>h) (λ_=>?_) ?_
 · rcases g with⟨e,_⟩|⟨id,e,r,F⟩
   ·omega
   ·exact⟨id,e,((r.kx m λh=>h).kx d λh=>h).kx c λh=>h,r.lt⟩
 ·exact(((k2.tr m).tr d).tr c).mono λi _ q=>q.elim
end
end Rb

namespace Rb
open Go
def kf(op:Int):List UInt8→List Int→Bool
 |[],rest=>rest==[op,0,0,0,0,0,0]
 |c::r,rest=>if(c.toNat:Int)=122 then kf op r rest else hj (dd c.toNat) (rest.getD (iB c.toNat) 0)&&kf op r (rest.set (iB c.toNat) 0)
theorem CO(op:Int):∀(l:List UInt8)(rest:List Int)(w:Int),kf op l rest=true→(k4 op l rest w).2=0
 | [],rest,w,h=>by unfold k4;rw[af (by simpa[kf]using h)]
 | c :: r,rest,w,h=>by
  unfold kf at h;unfold k4;by_cases hc:(c.toNat:Int)=122
  · rw[af hc]at h ⊢;exact CO op r rest w h
  · rw[ak hc]at h ⊢;rw[Z3]at h;rw[af h.1];exact CO op r _ _ h.2
structure lr(i:List Int):Prop where
 len:i.length=7
 enc:(iD i).2=0
theorem Mh{op a b c d e f:Int}(l:List UInt8)(hs:(ep op).2=l)(hl:l≠[])(h:kf op l [op,a,b,c,d,e,f]=true):lr [op,a,b,c,d,e,f]:=by refine⟨rfl,?_⟩;unfold iD;rw[show([op,a,b,c,d,e,f]:List Int).getD 0 0=op from rfl,hs,ak hl];exact CO op l _ _ h
def Rg(x:Int):Prop:=0≤x∧x≤31
def Ra(x:Int):Prop:=0≤x∧x≤30
theorem Ra.g{x:Int}(h:Ra x):Rg x:=⟨h.1,by have:=h.2;omega⟩
section
variable{op d n m e s x:Int}
theorem XE{c:Int}(hc:dd c=(0,5,false,0,31)∨dd c=(5,5,false,0,31)∨dd c=(16,5,false,0,31)∨dd c=(10,5,false,0,31))(h:Rg x):hj (dd c) x=true:=by have:=h.1;have:=h.2;rcases hc with hc|hc|hc|hc<;>rw[hc]<;>simp[hj]<;>omega
theorem XG(h:Rg x):hj (dd ((100:UInt8).toNat:Nat)) x=true:=XE (.inl rfl) h
theorem Mi{c x:Int}{a b t k:Int}(hc:dd c=(a,b,false,t,k))(h:0≤x∧x≤k):hj (dd c) x=true:=by have:=h.1;have:=h.2;rw[hc];simp[hj];omega
theorem XH(h:0≤x∧x≤3):hj (dd ((113:UInt8).toNat:Nat)) x=true:=Mi (k:=3) rfl h
theorem Mj(h:0≤x∧x≤65535):hj (dd ((105:UInt8).toNat:Nat)) x=true:=Mi (k:=65535) rfl h
theorem x0{c:UInt8}{r:List UInt8}{rest:List Int}(hc:(c.toNat:Int)≠122)(h:hj (dd (c.toNat:Nat)) (rest.getD (iB c.toNat) 0)=true)(k:kf op r (rest.set (iB c.toNat) 0)=true):kf op (c::r) rest=true:=by unfold kf;rw[ak hc,h,Bool.true_and];exact k
theorem Ml:kf op [] [op,0,0,0,0,0,0]=true:=by simp[kf]
theorem XI(a:op=1∨op=2)(b:Rg d)(c:0≤e∧e≤3)(f:0≤x∧x≤65535):lr [op,d,0,0,e,0,x]:=Mh [100,105,113] (by rcases a with rfl|rfl<;>rfl) (by decide) (x0 (by decide) (XG b) (x0 (by decide) (Mj f) (x0 (by decide) (XH c) Ml)))
theorem XJ(a:op=31∨op=32)(b:0≤x∧x≤65535):lr [op,0,0,0,0,0,x]:=Mh [105] (by rcases a with rfl|rfl<;>rfl) (by decide) (x0 (by decide) (Mj b) Ml)
end
def x1(i:List Int):Prop:=13≤i.getD 0 0∧i.getD 0 0≤16
def Ok(n:Nat)(l:List (List Int)):Prop:=∀(k:Nat)(x:List Int),l[k]?=some x→lr x∧(x1 x→0≤(n:Int)+k+x.getD 6 0∧(n:Int)+k+x.getD 6 0≤n+l.length)
theorem Ok.nil(n:Nat):Ok n []:=λk x h=>by cases h
theorem Ok.app{n:Nat}{a b:List (List Int)}(h:Ok n a)(g:Ok (n+a.length) b):Ok n (a++b):=by
 intro k x c;rw[adD];by_cases hk:k<a.length
 · rw[abB hk]at c;obtain⟨i,j⟩:=h k x c;exact⟨i,λe=>by have:=j e;omega⟩
 · rw[abC (by omega)]at c;obtain⟨i,j⟩:=g _ x c;exact⟨i,λe=>by have:=j e;omega⟩
theorem Ok.one{n:Nat}{x:List Int}(h:lr x)(b:¬x1 x):Ok n [x]:=λk y a=>by
 cases k with
 |zero=>cases a;exact⟨h,λe=>absurd e b⟩
 |succ k=>cases a
theorem nB{op a b c d e f:Int}(h:op<13∨16<op):¬x1 [op,a,b,c,d,e,f]:=λk=>by have h1:13≤op:=k.1;have g:op≤16:=k.2;omega
end Rb

namespace Rb
open Go
variable{U T:Nat→Prop}{x:I}{i:List Int}{H1 H2:AH}{c1 c2:Nat→Nat}
def gj(H:AH)(U:Nat→Prop)(x:I)(is:List (List Int)):Prop:=(x = aw∧is=[])∨∃id,x = .row id 0 is.length 7∧At H id (.row (is.flatMap IV))∧U id
theorem sg:∀{is:List (List Int)},(∀i∈is,i.length=7)→(is.flatMap IV).length=is.length*7
 |[],_=>rfl
 | i::r,h=>by rw[adn,adD,sg λj a=>h j (acn _ a),ael,ih,h i (aco ..)];omega
theorem x2(h:i.length=7):El 7 bO (IV i):=⟨by rw[ih,h],λk hk=>⟨i.getD k 0,by simp[List.getD,show k<i.length by omega],trivial⟩⟩
theorem gj.app{H:AH}{is:List (List Int)}(h:gj H U x is)(d:∀i∈is,i.length=7)(hi:i.length=7)(f:is.length≤1000000) :
  ∃b H',bH H true 7 56 x (.ab .full 1 (IV i))=some (b,H')∧gj H' (λj=>U j∨H.n≤j) b (is++[i])∧KX U H H':=by
 have he:=x2 hi;have c:=Bf he .full H;rcases h with⟨rfl,rfl⟩|⟨id,rfl,a,e⟩
 · refine ⟨.row H.n 0 1 7,H.push (.row (IV i)),?_,.inr ⟨H.n,rfl,?_,.inr (np _)⟩,KX.push _ _⟩
   · simp only[bH,c,he.scalar,not_true_eq_false,bz];rw[de,ak (by simp only[adC];exact⟨rfl,by omega,by omega⟩)];rfl
   · have:=At.new H (.row (IV i));simpa using this
 · have hl:=sg d;refine⟨.row H.n 0 (is.length+1) 7,(H.set id .gone).push (.row (is.flatMap IV++IV i)),?_,.inr ⟨H.n,by simp,?_,.inr (np _)⟩,(KX.set H e .gone).tr (KX.push _ _)⟩
   · simp only[bH,c,he.scalar,not_true_eq_false,bz,a.2];rw[de,ak (by simp only[adC];exact⟨trivial,trivial,by omega,by omega⟩),bM,af hl]
   · have:=At.new (H.set id .gone) (.row (is.flatMap IV++IV i));simpa using this
theorem gj.kx{H H':AH}{is:List (List Int)}(h:gj H U x is)(k:KX T H H')(hs:∀i,U i→¬T i):gj H' U x is:=by
 rcases h with h|⟨id,e,a,u⟩
 ·exact .inl h
 ·exact .inr ⟨id,e,k.at a (hs _ u),u⟩
theorem gj.mono{H:AH}{is:List (List Int)}(h:gj H U x is)(hs:∀i,i<H.n→U i→T i):gj H T x is:=by
 rcases h with h|⟨id,e,a,u⟩
 ·exact .inl h
 ·exact .inr ⟨id,e,a,hs _ a.1 u⟩
theorem gj.known{H:AH}{is:List (List Int)}(h:gj H U x is):x.known=true∧x.scalar=true∧x.cells=[x]∧aU false x=some (J (is.length:Nat)):=by rcases h with⟨rfl,rfl⟩|⟨id,rfl,_⟩<;>exact⟨rfl,rfl,rfl,rfl⟩
def kg(H:AH)(U:Nat→Prop)(x:I)(bs:List (Int×Int)):Prop:=∃tk,x = .ab tk bs.length (bs.flatMap ca)∧((tk = .nil∧bs=[])∨∃t,tk = .own t∧At H t (.tok (bs.length*2) 2)∧U t)
theorem kg.kx{H H':AH}{bs:List (Int×Int)}(h:kg H U x bs)(k:KX T H H')(hs:∀i,U i→¬T i):kg H' U x bs:=by
 obtain⟨tk,e,h⟩:=h;refine⟨tk,e,?_⟩;rcases h with h|⟨t,a,b,c⟩
 ·exact .inl h
 ·exact .inr ⟨t,a,k.at b (hs _ c),c⟩
theorem kg.mono{H:AH}{bs:List (Int×Int)}(h:kg H U x bs)(hs:∀i,i<H.n→U i→T i):kg H T x bs:=by
 obtain⟨tk,e,h⟩:=h;refine⟨tk,e,?_⟩;rcases h with h|⟨t,a,b,c⟩
 ·exact .inl h
 ·exact .inr ⟨t,a,b,hs _ b.1 c⟩
theorem kg.app{H:AH}{bs:List (Int×Int)}(h:kg H U x bs)(p:Int×Int)(g:bs.length≤1000000) :
  ∃b H',bH H false 2 16 x (.ab .full 1 (ca p))=some (b,H')∧kg H' (λj=>U j∨H.n≤j) b (bs++[p])∧KX U H H':=by
 obtain⟨tk,rfl,h⟩:=h;have c:dQ H 2 (.ab .full 1 (ca p))=some (1,ca p):=rfl;have d:(ca p).all I.scalar=true:=rfl;have hl:=LV bs;have e1:(bs++[p]).flatMap ca=bs.flatMap ca++ca p:=by simp
 have e:(bs++[p]).length=bs.length+1:=by simp
 unfold kg;rw[e1,e];rcases h with⟨rfl,rfl⟩|⟨t,rfl,a,f⟩
 · refine⟨.ab (.own H.n) 1 (ca p),H.push (.tok 2 2),?_,⟨_,rfl,.inr ⟨H.n,rfl,At.new _ _,.inr (np _)⟩⟩,KX.push _ _⟩;rfl
 · refine⟨.ab (.own H.n) (bs.length+1) (bs.flatMap ca++ca p),(H.set t .gone).push (.tok ((bs.length+1)*2) 2),?_,⟨_,rfl,.inr ⟨H.n,rfl,At.new (H.set t .gone) _,.inr (np _)⟩⟩,(KX.set H f .gone).tr (KX.push _ _)⟩;simp only[bH,c,d,not_true_eq_false,bz];rw[de,ak (by simp only[adC];exact⟨hl,by omega,by omega⟩)];simp[a.2]
def Mm(n:Nat)(_:Int)(v:I):Prop:=∃x:Nat,v = J (x:Nat)∧x≤n
def ma(is:List (List Int))(b:Int×Int):Prop:=∃(k:Nat) (op d x:Int),b.1=(k:Nat)∧is[k]?=some [op,d,0,0,0,0,x]∧((op=13∧d=0)∨(op=15∧Rg d))
theorem ma.app{is:List (List Int)}{b:Int×Int}(h:ma is b)(a:List (List Int)):ma (is++a) b:=by obtain⟨k,op,d,x,e,h1,c⟩:=h;exact⟨k,op,d,x,e,by rw[abB (ZX.1 h1).1];exact h1,c⟩
structure cz(D:(Int×Int→Prop)×Nat×Nat×(Int→Prop))(m:Nat)(pc:List I)(f L:Nat)(H:AH)(c:Nat→Nat)(is:List (List Int)):Prop where
 l7:∀i∈is,i.length=7
 um:c m=1
 bd:∀i,c i≠0→i<H.n
 pl:gf 1 (Pv L) f pc
 row:∃(xo xs xl xb:I) (V e:Int) (lm:Nat) (es:List (I×I)) (bs:List (Int×Int)),At H m (.row [.ab .dead f pc,xo,xs,xl,J V,.map lm,xb,J e])∧c lm=2∧gj H (c ·= 3) xo is∧Ls 1 bO (c ·= 4) H xs is.length∧Ls 1 bO (c ·= 5) H xl is.length∧At H lm (.map es)∧fy (Mm D.2.2.1) es∧kg H (c ·= 6) xb bs∧(∀b∈bs,ma is b∨D.1 b)∧bs.length≤D.2.1∧D.2.2.1≤is.length∧D.2.2.2 e
structure ES(H:AH)(c:Nat→Nat)(H':AH)(c':Nat→Nat):Prop where
 kx:KX (λi=>c i≠0) H H'
 gr:∀i,c' i≠0→c i≠0∨(H.n≤i∧i<H'.n)
theorem ES.refl(H:AH)(c:Nat→Nat):ES H c H c:=⟨KX.refl _,λi h=> .inl h⟩
theorem ES.trans{H H1 H2:AH}{c c1 c2:Nat→Nat}(h:ES H c H1 c1)(g:ES H1 c1 H2 c2):ES H c H2 c2:=
 ⟨h.kx.trans g.kx λi hi q=>by
   rcases h.gr i q with q|q
   ·exact q
   ·omega,λi hi=>by
   have:=h.kx.1;have:=g.kx.1;rcases g.gr i hi with q|q
   · rcases h.gr i q with q|q
     ·exact .inl q
     ·exact .inr ⟨q.1,by omega⟩
   ·exact .inr ⟨by omega,q.2⟩⟩
theorem ES.at{H H':AH}{c c':Nat→Nat}(h:ES H c H' c'){i:Nat}{o:bS}(a:At H i o)(hc:c i=0):At H' i o∧c' i=0:=by
 refine⟨h.kx.at a (λq=>q hc),?_⟩;rcases ads (c' i)with q|q
 ·exact q
 · exfalso;rcases h.gr i (by omega)with q|q
   ·exact q hc
   ·have:=a.1;omega
structure iN(D:(Int×Int→Prop)×Nat×Nat×(Int→Prop))(m:Nat)(pc:List I)(f L:Nat)(H:AH)(c:Nat→Nat)(is new:List (List Int))(H':AH)(c':Nat→Nat):Prop where
 now:cz D m pc f L H' c' (is++new)
 es:ES H c H' c'
section
variable{D:(Int×Int→Prop)×Nat×Nat×(Int→Prop)}{m:Nat}{pc:List I}{f L:Nat}{H:AH}{c:Nat→Nat}{is:List (List Int)}
theorem iN.refl(h:cz D m pc f L H c is):iN D m pc f L H c is [] H c:=⟨by rw[adJ];exact h,ES.refl _ _⟩
theorem iN.trans{a b:List (List Int)}(h:iN D m pc f L H c is a H1 c1)(g:iN D m pc f L H1 c1 (is++a) b H2 c2):iN D m pc f L H c is (a++b) H2 c2:=⟨by rw[←aef];exact g.now,h.es.trans g.es⟩
end
def pt(c:Nat→Nat)(a b k:Nat)(i:Nat):Nat:=if a≤i∧i<b then k else c i
theorem kh{c:Nat→Nat}{a b k i:Nat}(h:i<a):pt c a b k i=c i:=bM
section
variable{C:Ctx}(hT:Cl (ai C) S.ba){D:(Int×Int→Prop)×Nat×Nat×(Int→Prop)}{m:Nat}{pc:List I}{f L:Nat}{H:AH}{c:Nat→Nat}{is:List (List Int)}
include hT
theorem lu(h:cz D m pc f L H c is)(aB:is.length≤900000)(hi:i.length=7){s:Int}{Q:ad}(ae:∀H' c',iN D m pc f L H c is [i] H' c'→Q (.ar []) H') :
  ai C 89 [.ptr m 0,J s,.agg (IV i)] H Q:=by
 refine S.Rx hT ?_;unfold S.f89;have ag:aL H false 7 (.agg (IV i))=some (.aj (IV i),H):=by unfold aL;rw[af ⟨rfl,by show(IV i).length=7;rw[ih,hi]⟩];rfl
 have ah:∀H,Z H 7 true (.aj (IV i))=some (.agg (IV i)):=λH=>eh (by rw[ih,hi]);obtain⟨xo,xs,xl,xb,V,e,lm,es,bs,a,E,ak,hs,hl,P,mk,al,am,F⟩:=h.row;have l1:Z H 1 false (.ptr m 1)=some xo:=by rw[a.load];rfl
 simp only[ag,aH,aD,aa,aaK,X,l1,ah];rw[CM (x2 hi) rfl];simp only[aH];obtain⟨g,H1,e1,R,k1⟩:=ak.app h.l7 hi (by omega);rw[e1];have W:=k1.at a (by rw[h.um];decide);have n1:=k1.1;have hm:=a.1;have an:∀{x:Nat},(c m=3∨H.n≤m)→False:=λq=>q.elim (λq=>by rw[h.um]at q;cases q) λq=>(by omega)
 obtain⟨z,A,o,_⟩:=R.known;simp only[aH];rw[W.store,af ⟨z,by rw[o];rfl,by rw[o,acM,A];rfl,by show 1+1≤8;decide⟩,o,show setCells [I.ab .dead f pc,xo,xs,xl,J V,.map lm,xb,J e] 1 [g]=[.ab .dead f pc,g,xs,xl,J V,.map lm,xb,J e]from rfl];simp only[X];have G:KX (·= m) H1 (H1.set m (.row [.ab .dead f pc,g,xs,xl,J V,.map lm,xb,J e])):=KX.set (S:=(·= m)) _ rfl _;have a2:=W.set (.row [.ab .dead f pc,g,xs,xl,J V,.map lm,xb,J e]);have n2:=G.1;have k2:KX (λj=>c j=3∨c j=1) H (H1.set m (.row [.ab .dead f pc,g,xs,xl,J V,.map lm,xb,J e])):=(k1.mono λj _ q=> .inl q).trans G λj _ q=> .inr (q▸h.um);have ao:gj (H1.set m (.row [.ab .dead f pc,g,xs,xl,J V,.map lm,xb,J e])) (λj=>c j=3∨(H.n≤j∧j<H1.n)) g (is++[i]):=(R.kx G λj d q=>by subst q;exact an (x:=0) d).mono λj d q=>q.elim .inl λq=> .inr ⟨q,d⟩;have aC:(H1.set m (.row [.ab .dead f pc,g,xs,xl,J V,.map lm,xb,J e])).n=H1.n:=rfl;generalize H1.set m (.row [.ab .dead f pc,g,xs,xl,J V,.map lm,xb,J e])=H2 at *;have ua:=hs.kx k2 λj d q=>by rcases q with q|q<;>rw[d]at q<;>cases q
 have l2:Z H2 1 false (.ptr m 2)=some xs:=by rw[a2.load];rfl
 simp only[l2,X];have T:∀v:Int,El 1 bO [J v]:=λv=>⟨rfl,λk hk=>⟨v,by rw[show k=0 by omega];rfl,trivial⟩⟩
 rw[show b8 H2 false 1 1 [O] [(0,1,J s)]=some (.ab .full 1 [J s],H2)from rfl];simp only[aH];obtain⟨l,r,ap,nD,K⟩:=ua.app (bytes:=8) (tk:= .full) (by decide) (T s) (by omega) (by omega);rw[ap];have a3:=K.at a2 (by rw[h.um];decide);obtain⟨z,A,o⟩:=nD.known;simp only[aH];rw[a3.store,af ⟨z,by rw[o];rfl,by rw[o,acM,A];rfl,by show 2+1≤8;decide⟩,o,show setCells [I.ab .dead f pc,g,xs,xl,J V,.map lm,xb,J e] 2 [l]=[.ab .dead f pc,g,l,xl,J V,.map lm,xb,J e]from rfl];simp only[X];have U:KX (·= m) r (r.set m (.row [.ab .dead f pc,g,l,xl,J V,.map lm,xb,J e])):=KX.set (S:=(·= m)) _ rfl _;have a4:=a3.set (.row [.ab .dead f pc,g,l,xl,J V,.map lm,xb,J e]);have w:KX (λj=>c j=4∨c j=1) H2 (r.set m (.row [.ab .dead f pc,g,l,xl,J V,.map lm,xb,J e])):=(K.mono λj _ q=> .inl q).trans U λj _ q=> .inr (q▸h.um);have aE:H2.n≤r.n:=K.1;have aF:(r.set m (.row [.ab .dead f pc,g,l,xl,J V,.map lm,xb,J e])).n=r.n:=rfl;have ub:Ls 1 bO (λj=>c j=4∨(H2.n≤j∧j<r.n)) (r.set m (.row [.ab .dead f pc,g,l,xl,J V,.map lm,xb,J e])) l (is.length+1):=(nD.kx U λj d q=>by
   subst q;rcases d with d|d
   ·rw[h.um]at d;cases d
   ·omega).mono λj d q=>q.elim .inl λq=> .inr ⟨q,d⟩
 generalize r.set m (.row [.ab .dead f pc,g,l,xl,J V,.map lm,xb,J e])=t at *;have n4:=w.1;have aq:=hl.kx k2 λj d q=>by rcases q with q|q<;>rw[d]at q<;>cases q
 have au:=aq.kx w λj d q=>by rcases q with q|q<;>rw[d]at q<;>cases q
 have l3:Z t 1 false (.ptr m 3)=some xl:=by rw[a4.load];rfl
 have l4:Z t 1 false (.ptr m 4)=some (J V):=by rw[a4.load];rfl
 simp only[l3,l4,X];rw[show b8 t false 1 1 [O] [(0,1,J V)]=some (.ab .full 1 [J V],t)from rfl];simp only[aH];obtain⟨p,u,av,Y,M⟩:=au.app (bytes:=8) (tk:= .full) (by decide) (T V) (by omega) (by omega);rw[av];have a5:=M.at a4 (by rw[h.um];decide);obtain⟨z,A,o⟩:=Y.known;simp only[aH];rw[a5.store,af ⟨z,by rw[o];rfl,by rw[o,acM,A];rfl,by show 3+1≤8;decide⟩,o,show setCells [I.ab .dead f pc,g,l,xl,J V,.map lm,xb,J e] 3 [p]=[.ab .dead f pc,g,l,p,J V,.map lm,xb,J e]from rfl];simp only[X];have ac:KX (·= m) u (u.set m (.row [.ab .dead f pc,g,l,p,J V,.map lm,xb,J e])):=KX.set (S:=(·= m)) _ rfl _;have a6:=a5.set (.row [.ab .dead f pc,g,l,p,J V,.map lm,xb,J e]);have y:KX (λj=>c j=5∨c j=1) t (u.set m (.row [.ab .dead f pc,g,l,p,J V,.map lm,xb,J e])):=(M.mono λj _ q=> .inl q).trans ac λj _ q=> .inr (q▸h.um);have aG:t.n≤u.n:=M.1;have aI:(u.set m (.row [.ab .dead f pc,g,l,p,J V,.map lm,xb,J e])).n=u.n:=rfl;have aw:Ls 1 bO (λj=>c j=5∨(t.n≤j∧j<u.n)) (u.set m (.row [.ab .dead f pc,g,l,p,J V,.map lm,xb,J e])) p (is.length+1):=(Y.kx ac λj d q=>by
   subst q;rcases d with d|d
   ·rw[h.um]at d;cases d
   ·omega).mono λj d q=>q.elim .inl λq=> .inr ⟨q,d⟩
 generalize u.set m (.row [.ab .dead f pc,g,l,p,J V,.map lm,xb,J e])=N at *;have n6:=y.1;have kk:KX (λj=>c j≠0) H N:=((k2.mono λj _ q=>by omega).trans w λj _ q=>by omega).trans y λj _ q=>by omega
 have aJ:=k2.1;have ax:=(ao.kx w λj d q=>by have:=h.bd j;omega).kx y λj d q=>by have:=h.bd j;omega
 have uc:=ub.kx y λj d q=>by have:=h.bd j;omega
 have ay:=y.at (w.at (k2.at P (by rw[E];decide)) (by rw[E];decide)) (by rw[E];decide);have az:=((al.kx k2 λj d q=>by omega).kx w λj d q=>by omega).kx y λj d q=>by omega
 have B:=h.bd;refine ae N (pt (pt (pt c H.n H2.n 3) H2.n t.n 4) t.n N.n 5) ⟨⟨λj d=>?_,?_,λj d=>?_,h.pl,g,l,p,xb,V,e,lm,es,bs,a6,?_,ax.mono λj d q=>?_,?_,?_,ay,?_,az.mono λj d q=>?_,λb aA=>(am b aA).imp (λq=>q.app _) _root_.id,?_⟩,⟨kk,λj d=>?_⟩⟩
 · rcases ace.1 d with d|d
   ·exact h.l7 j d
   ·rw[aeO]at d;rw[d];exact hi
 ·rw[kh (by omega),kh (by omega),kh (by omega)];exact h.um
 · have:=B j;unfold pt at d
   repeat' split at d
   all_goals omega
 · have:=P.1;rw[kh (by omega),kh (by omega),kh (by omega)];exact E
 · unfold pt;have:=B j
   repeat' split
   all_goals omega
 · rw[adD];refine uc.mono λj d q=>?_;unfold pt;have:=B j
   repeat' split
   all_goals omega
 · rw[adD];refine aw.mono λj d q=>?_;unfold pt;have:=B j
   repeat' split
   all_goals omega
 ·exact mk
 · unfold pt;have:=B j
   repeat' split
   all_goals omega
 · have:=F.2.1;exact⟨F.1,by rw[adD];omega,F.2.2⟩
 · unfold pt at d
   repeat' split at d
   all_goals omega
end
end Rb
