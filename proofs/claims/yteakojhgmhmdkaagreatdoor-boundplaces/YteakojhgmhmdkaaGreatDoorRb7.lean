/- A part of the proof (part 7): see the last text. -/
import Derived.Test.YteakojhgmhmdkaaGreatDoorRb6
import Derived.Test.YteakojhgmhmdkaaGreatDoorRb5
import Derived.Test.YteakojhgmhmdkaaGreatDoorRb3
import Derived.SizedLaws
import Derived.Test.YteakojhgmhmdkaaGreatDoorRb4
import Derived.Test.YteakojhgmhmdkaaGreatDoorRb2
import Derived.Test.YteakojhgmhmdkaaGreatDoorTie
import Derived.Test.YteakojhgmhmdkaaGreatDoorCards
set_option linter.unusedVariables false
set_option linter.unusedSimpArgs false
set_option linter.unusedSectionVars false
open Bool renaming and_eq_true→X1, false_eq_true→ZP, not_true→abW
open Go.IntKind renaming bits→X9, max→abx, min→abw, signed→X8, wrap→Y6
open Go.Lib renaming TabIs→adt, cells_of_tab→adu, tabData→ads
open Int renaming le_refl→ab_
open List renaming findIdx?_eq_some_iff_getElem→adr, flatMap_cons→abe, getElem?_cons_succ→abk, getElem?_cons_zero→abj, getElem?_eq_getElem→YO, getElem?_eq_some_iff→XV, mem_append_left→acP, mem_append_right→acO, mem_cons_of_mem→aai, mem_cons_self→aaj, mem_cons→aah, mem_map→aay, mem_of_getElem?→aaH, mem_singleton→acL, nil_append→acx, not_mem_nil→adv
open Nat renaming lt_trichotomy→aaB
open Option renaming some→Yb
namespace Go.Proofs.YteakojhgmhmdkaaGreatDoor.rb
open Rb
noncomputable section
def sP:List (Nat×List I×I):=[
  (219,[.int .u8 (.ofNat 32)],.bool false),
  (139,[.str [118,97,114,32,116,104,114,101,97,100,32,115,116,114,117,99,116,32,117,110,105,111,110,32,112,97,99,107,101,100,32,117,56,32,117,49,54,32,117,51,50,32,117,54,52,32,97,56,32,97,49,54,32,97,51,50,32,97,54,52,32,97,49,50,56,32,108,101,116,32,115,101,116,32,119,114,105,116,101,32,115,116,111,114,101,32,108,111,97,100,50,32,115,116,111,114,101,50,32,102,101,110,99,101,32,105,102,32,101,108,115,101,32,119,104,105,108,101,32,112,114,105,110,116,32,114,101,97,100,32,108,111,97,100,32,97,100,100,32,115,119,97,112,32,99,97,115,32,114,108,120,32,97,99,113,32,114,101,108,32,115,99]],.ak .dead 34 [.str [118,97,114],.str [116,104,114,101,97,100],.str [115,116,114,117,99,116],.str [117,110,105,111,110],.str [112,97,99,107,101,100],.str [117,56],.str [117,49,54],.str [117,51,50],.str [117,54,52],.str [97,56],.str [97,49,54],.str [97,51,50],.str [97,54,52],.str [97,49,50,56],.str [108,101,116],.str [115,101,116],.str [119,114,105,116,101],.str [115,116,111,114,101],.str [108,111,97,100,50],.str [115,116,111,114,101,50],.str [102,101,110,99,101],.str [105,102],.str [101,108,115,101],.str [119,104,105,108,101],.str [112,114,105,110,116],.str [114,101,97,100],.str [108,111,97,100],.str [97,100,100],.str [115,119,97,112],.str [99,97,115],.str [114,108,120],.str [97,99,113],.str [114,101,108],.str [115,99]]),
  (188,[.ak .dead 34 [.str [118,97,114],.str [116,104,114,101,97,100],.str [115,116,114,117,99,116],.str [117,110,105,111,110],.str [112,97,99,107,101,100],.str [117,56],.str [117,49,54],.str [117,51,50],.str [117,54,52],.str [97,56],.str [97,49,54],.str [97,51,50],.str [97,54,52],.str [97,49,50,56],.str [108,101,116],.str [115,101,116],.str [119,114,105,116,101],.str [115,116,111,114,101],.str [108,111,97,100,50],.str [115,116,111,114,101,50],.str [102,101,110,99,101],.str [105,102],.str [101,108,115,101],.str [119,104,105,108,101],.str [112,114,105,110,116],.str [114,101,97,100],.str [108,111,97,100],.str [97,100,100],.str [115,119,97,112],.str [99,97,115],.str [114,108,120],.str [97,99,113],.str [114,101,108],.str [115,99]],.str [115]],.int .i64 (.negSucc 0))]
def Cp:List (Nat×List I×I):=[
  (55,[.str [118,97,114,32,115,32,115,116,114,117,99,116,32,123,32,97,32,117,56,32,59,32,98,32,117,51,50,32,58,32,51,32,59,32,99,32,117,51,50,32,58,32,57,32,59,32,100,32,117,56,32,59,32,125,32,59,32,116,104,114,101,97,100,32,123,32,119,114,105,116,101,32,115,46,99,32,61,32,53,32,59,32,112,114,105,110,116,32,114,101,97,100,32,115,46,100,32,59,32,125]],.aq [.agg [.ak .dead 1 [.str [115],.int .i64 (.ofNat 3),.int .i64 (.ofNat 0),.bool false,.ak .dead 4 [.str [97],.int .i64 (.ofNat 1),.int .i64 (.ofNat 1),.bool false,.ak .dead 0 [],.int .i64 (.ofNat 0),.ak .dead 0 [],.bool false,.int .i64 (.ofNat 0),.str [98],.int .i64 (.ofNat 1),.int .i64 (.ofNat 4),.bool false,.ak .dead 0 [],.int .i64 (.ofNat 0),.ak .dead 0 [],.bool true,.int .i64 (.ofNat 3),.str [99],.int .i64 (.ofNat 1),.int .i64 (.ofNat 4),.bool false,.ak .dead 0 [],.int .i64 (.ofNat 0),.ak .dead 0 [],.bool true,.int .i64 (.ofNat 9),.str [100],.int .i64 (.ofNat 1),.int .i64 (.ofNat 1),.bool false,.ak .dead 0 [],.int .i64 (.ofNat 0),.ak .dead 0 [],.bool false,.int .i64 (.ofNat 0)],.int .i64 (.ofNat 0),.ak .dead 0 []],.ak .dead 1 [.ak .dead 2 [.int .i64 (.ofNat 3),.int .i64 (.ofNat 1),.str [],.str [],.int .i64 (.ofNat 0),.str [115],.ak .dead 1 [.str [99],.ak .dead 0 []],.ak .dead 1 [.int .i64 (.ofNat 1),.int .u64 (.ofNat 5),.str [],.int .i64 (.ofNat 0),.int .i64 (.ofNat 0),.str [],.ak .dead 0 [],.ak .dead 0 []],.ak .dead 0 [],.ak .dead 0 [],.int .i64 (.ofNat 10),.int .i64 (.ofNat 1),.str [],.str [],.int .i64 (.ofNat 0),.str [],.ak .dead 0 [],.ak .dead 1 [.int .i64 (.ofNat 4),.int .u64 (.ofNat 0),.str [],.int .i64 (.ofNat 0),.int .i64 (.ofNat 0),.str [115],.ak .dead 1 [.str [100],.ak .dead 0 []],.ak .dead 0 []],.ak .dead 0 [],.ak .dead 0 []]]],.agg [.int .i64 (.ofNat 0),.int .i64 (.ofNat 0)]])]
theorem VS:forced (nK (rr RbNa) sP)=true:=by kernel_rfl
theorem K_:gW (af C) (f_ (sP++RbNa)):=rm j5 (ux K9) K9 (dF VS)
theorem VT:forced (nK (rr (sP++RbNa)) Cp)=true:=by kernel_rfl
theorem VU:gW (af C) (f_ (Cp++(sP++RbNa))):=rm j5 (ux K_) K_ (dF VT)
theorem VV:forced (nK (rr (Cp++(sP++RbNa))) [(8,[],.bool true)])=true:=by kernel_rfl
theorem VW:gW (af C) (f_ [(8,[],.bool true)]):=rm j5 (ux VU) uw (N:=[(8,[],.bool true)]) (dF VV)
end
end Go.Proofs.YteakojhgmhmdkaaGreatDoor.rb

namespace Rb
open Go
structure xX(a:Int)(r:List B)(x:Int×Int)(n:Nat):Prop where
 ex:∃v g y,r[n]?=some v∧(bW a r)[n]?=some g∧y∈aG v.type 0∧x=(g.at_+y.1,y.2)∧65536+a≤g.at_∧g.at_+g.len≤131072∧km 0 g.len y
theorem Cq:∀(r:List B)(a:Int)(l:List (Int×Int)),(∀v∈r,v.ok∧(aX v.type).2=0)→0≤a→ff a r≤65536→eW r (bW a r)=some l→(∀x∈l,∃n,xX a r x n)∧∀(n:Nat)(v:B)(g:be)(y:Int×Int),r[n]?=some v→(bW a r)[n]?=some g→y∈aG v.type 0→(g.at_+y.1,y.2)∈l
 | [],a,l,_,_,_,h=>by
  rw[eW]at h
  ·cases h;exact⟨λx c=>(by cases c),λn v g y hv=>(by simp at hv)⟩
  ·intros;simp_all
 | v :: r,a,l,hv,ha,he,h=>by
  obtain⟨p,hz⟩:=hv v (aaj ..);have f:∀w∈r,w.ok∧(aX w.type).2=0:=λw hw=>hv w (aai _ hw);obtain⟨b1,b2,b3,E⟩:=mi hz;have hu:a≤ek a v:=(gE (n:=a) (step:=(aX v.type).1.2) (by omega)).1;rw[ff]at he;have hle:=xd (a:=ek a v+(aX v.type).1.1) λw hw=>(f w hw).2;have i:=mY p.2 hz;have q:(A v.type).1.1=(aX v.type).1.1:=by rw[i.zero]
  rw[bW,eW]at h;by_cases j:(eD v.type).2≠0
  ·rw[aa j]at h;cases h
  rw[ab j]at h;have k:(eD v.type).2=0:=by omega
  cases hw:eW r (bW (ek a v+(aX v.type).1.1) r)with
  |none=>rw[hw]at h;cases h
  | some l'=>
   rw[hw]at h;simp only[Option.map_some,Yb.injEq]at h;subst h;obtain⟨i1,i2⟩:=Cq r (ek a v+(aX v.type).1.1) l' f (by omega) he hw;have m:∀y∈aG v.type 0,km 0 (aX v.type).1.1 y:=λy b=>by have:=sD v.type i 0 (by decide) (by omega) y b;rwa [q]at this
   have o:∀y∈aG v.type 0,V (65536+ek a v+y.1)=65536+ek a v+y.1:=λy b=>by obtain⟨F,G,H⟩:=m y b;exact bH
   refine⟨λx c=>?_,λn w g y hn d b=>?_⟩
   · rcases List.mem_append.1 c with c|c
     · obtain⟨y,b,rfl⟩:=aay.1 c;have e:=(Ie k y).1 b;refine⟨0,v,_,y,rfl,rfl,e,?_,by show 65536+a≤65536+ek a v;omega,by show 65536+ek a v+(aX v.type).1.1≤_;omega,m y e⟩;show(V (65536+ek a v+y.1),y.2)=_;rw[o y e]
     · obtain⟨n,w,g,y,s,t,u,z,I,C,D⟩:=i1 x c;exact⟨n+1,w,g,y,by simpa using s,by rw[bW];simpa using t,u,z,by omega,C,D⟩
   · cases n with
     | zero=>rw[bW]at d;simp only[abj,Yb.injEq]at hn d;subst hn d;refine acP _ (aay.2 ⟨y,(Ie k y).2 b,?_⟩);show(V (65536+ek a v+y.1),y.2)=_;rw[o y b]
     | succ n=>rw[bW]at d;simp only[abk]at hn d;exact acO _ (i2 n w g y hn d b)
theorem xX.La{a:Int}{r:List B}{x:Int×Int}{n:Nat}(h:xX a r x n)(ha:0≤a):65536≤x.1∧1≤x.2∧x.1+x.2≤131072:=by obtain⟨v,g,y,_,_,_,rfl,c,d,e,b,f⟩:=h;exact⟨by show 65536≤g.at_+y.1;omega,b,by show g.at_+y.1+y.2≤_;omega⟩
theorem sQ:∀{r:List B}{a:Int},(∀v∈r,v.ok)→(∀v∈r,(aX v.type).2=0)→0≤a→ff a r≤65536→∀{n:Nat}{v:B}{g:be},r[n]?=some v→(bW a r)[n]?=some g→65536+a≤g.at_∧g.at_+g.len≤131072∧g.len=(aX v.type).1.1
 |[],a,_,_,_,_,n,v,g,h,_=>by simp at h
 | w::r,a,c,hz,ha,he,n,v,g,h,k=>by
  have b:∀v∈r,(aX v.type).2=0:=λv hv=>hz v (aai _ hv);obtain⟨b1,b2,b3,f⟩:=mi (hz w (aaj ..));have hu:a≤ek a w:=(gE (n:=a) (step:=(aX w.type).1.2) (by omega)).1;rw[ff]at he;have hle:=xd (a:=ek a w+(aX w.type).1.1) b;rw[bW]at k;cases n with
  | zero=>simp only[abj,Yb.injEq]at h k;subst h k;exact⟨by show 65536+a≤65536+ek a w;omega,by show 65536+ek a w+(aX w.type).1.1≤_;omega,rfl⟩
  | succ n=>simp only[abk]at h k;obtain⟨i,d,e⟩:=sQ (λv hv=>c v (aai _ hv)) b (by omega) he h k;exact⟨by omega,d,e⟩
theorem Cr:∀{r:List B}{a:Int},(∀v∈r,v.ok)→(∀v∈r,(aX v.type).2=0)→0≤a→ff a r≤65536→∀{n m:Nat}{v w:B}{g h:be},n<m→r[n]?=some v→(bW a r)[n]?=some g→r[m]?=some w→(bW a r)[m]?=some h→g.at_+g.len≤h.at_
 |[],a,_,_,_,_,n,m,v,w,g,h,_,k,_,_,_=>by simp at k
 | u::r,a,f,hz,ha,he,n,m,v,w,g,h,i,k1,k2,c,b=>by
  have d:∀v∈r,(aX v.type).2=0:=λv hv=>hz v (aai _ hv);have e:∀v∈r,v.ok:=λv hv=>f v (aai _ hv);obtain⟨b1,b2,b3,j⟩:=mi (hz u (aaj ..));have hu:a≤ek a u:=(gE (n:=a) (step:=(aX u.type).1.2) (by omega)).1;rw[ff]at he;rw[bW]at k2 b;obtain⟨m,rfl⟩:∃k,m=k+1:=⟨m-1,by omega⟩
  simp only[abk]at c b;cases n with
  | zero=>simp only[abj,Yb.injEq]at k1 k2;subst k1 k2;have:=(sQ e d (by omega) he c b).1;show 65536+ek a u+(aX u.type).1.1≤_;omega
  | succ n=>simp only[abk]at k1 k2;exact Cr e d (by omega) he (by omega) k1 k2 c b
end Rb

namespace Rb
open Go
structure jQ where
 Cs:Int
 site:Int
 rd:Bool
 wr:Bool
 fn:Bool
 at_:Int
 len_:Int
 data:List Int
 aV:Int
 VX:Bool
 pair:Int
def jQ.cells(e:jQ):List I:=[.int .i64 e.Cs,.int .i64 e.site,.bool e.rd,.bool e.wr,.bool e.fn,.int .i64 e.at_,.int .i64 e.len_,au (i1 .u8) e.data,.int .i64 e.aV,.bool e.VX,.int .i64 e.pair]
def Lb(l:List Int):List I:=[au (i1 .i64) l]
structure qs where
 events:List jQ
 from_:List (List Int)
 after:List (List Int)
 size:Int
def qs.cells(x:qs):List I:=[au jQ.cells x.events,au Lb x.from_,au Lb x.after,.int .i64 x.size]
theorem jQ.len(e:jQ):e.cells.length=11:=rfl
theorem qs.len(x:qs):x.cells.length=4:=rfl
def jR(z:Int):Prop:=abw .i64≤z∧z≤abx .i64
theorem jR.lo{z:Int}(h:jR z) : -9223372036854775808≤z:=by have:=h.1;simp[abw,X8,X9]at this;omega
theorem jR.hi{z:Int}(h:jR z):z≤9223372036854775807:=by have:=h.2;simp[abx,X8,X9]at this;omega
structure jQ.ok(e:jQ):Prop where
 Cs:jR e.Cs
 site:jR e.site
 at_:jR e.at_
 len_:jR e.len_
 aV:jR e.aV
 pair:jR e.pair
structure qs.ok(x:qs):Prop where
 events:x.events.length≤maxLen∧∀e∈x.events,e.ok
 from_:x.from_.length≤maxLen∧∀l∈x.from_,l.length≤maxLen∧∀z∈l,jR z
 after:x.after.length≤maxLen∧∀l∈x.after,l.length≤maxLen∧∀z∈l,jR z
 size:jR x.size
section
variable{H:Type}{enc:TypeId×Value→H}{P:Program}{w:World}{sp:Nat→Bool}{held:Bool}{F:cz}
end
end Rb

namespace Rb
open Go
theorem jQ.scalar(e:jQ):e.cells.all I.scalar=true:=rfl
theorem jQ.bb(e:jQ):I.bA e.cells=true:=by have:(au (i1 .u8) e.data).bb=true:=j_ (λ_=>rfl) _;simp only[jQ.cells,I.bA,I.bb,this,Bool.and_self]
end Rb

namespace Rb
open Go
section
variable{C:Ctx}(aj:bN C)(hT:Cl (af C) S.bu){p:cH}(hp:p.ok)(hA:∀n k:Int,-9223372036854775808≤k∧k≤9223372036854775807→bB (af C) 6 [.agg p.cells,.int .i64 n,.int .i64 k] (.aq [au av (cZ p n k).1,.bool (cZ p n k).2]))
include aj hT hp hA
end
end Rb

namespace Rb
open Go
def qt(xs:List (Int×Int))(k j:Nat):I:= .ae (((xs.flatMap av).drop (k*2)).drop j)
theorem VY{xs:List (Int×Int)}{k:Nat}{s:Int×Int}(H:Z)(h:xs[k]?=some s):W 0 (dN av 2 xs k)=some (qt xs k 0)∧O H 1 false (qt xs k 0)=some (.int .i64 s.1)∧W 1 (dN av 2 xs k)=some (qt xs k 1)∧O H 1 false (qt xs k 1)=some (.int .i64 s.2):=by
 have a:(xs.flatMap av).drop (k*2)=av s++(xs.drop (k+1)).flatMap av:=by
  rw[nS (sz:=2) (λ_=>rfl)];have b:=(XV.1 h).1;have a:xs.drop k=s::xs.drop (k+1):=by rw[List.drop_eq_getElem_cons b];rw[YO b]at h;simp at h;rw[h]
  rw[a,abe]
 refine⟨rfl,?_,rfl,?_⟩
 ·unfold qt;rw[a];rfl
 ·unfold qt;rw[a];rfl
section
variable{C:Ctx}(aj:bN C)(hT:Cl (af C) S.bu){p:cH}(hp:p.ok)(hA:∀n k:Int,-9223372036854775808≤k∧k≤9223372036854775807→bB (af C) 6 [.agg p.cells,.int .i64 n,.int .i64 k] (.aq [au av (cZ p n k).1,.bool (cZ p n k).2]))
 (hW:bB (af C) 8 [] (.bool true))
include aj hT hp hA hW
end
end Rb

namespace Rb
open Go
theorem Lc{kind S:Int}:∀(l:List aw)(ss:List be)(b:Int),Fits kind S l ss b→∀(n:Nat)(f:aw)(s:be),l[n]?=some f→ss[n]?=some s→f.bits=true→0<f.aM→1≤s.len
 |[],ss,b,hf,n,f,s,h,k,_,_=>by simp at h
 |f::r,[],b,hf,n,g,s,h,k,_,_=>hf.elim
 | f::r,s::ss,b,hf,n,g,t,h,k,hb,hw=>by
  obtain⟨a,⟨x,hs,e,i,c,j,m,o⟩,d⟩:=hf;cases n with
  | zero=>simp only[abj,Yb.injEq]at h k;subst h k;have:=c hb;rw[hs];unfold jI;rw[aa hb];show 1≤(if x.2>0 then(x.1+x.2-1)/8-x.1/8+1 else 0);rw[cG];omega
  | succ n=>simp only[abk]at h k;exact Lc r ss a d n g t h k hb hw
theorem VZ{t:U}(h:t.lay)(a:t.kind=1∨t.kind=2):1≤(A t).1.1:=by rw[mh a];obtain⟨_,_,_,b⟩:=sr (s:=⟨0,(aX t).1.1,0,false,0,0⟩) h ⟨λe=>(by cases e),λ_=>rfl,⟨ab_ 0,(by show(0:Int)≤7;decide)⟩,ab_ 0⟩ a;show 1≤t.size;omega
theorem Ct:∀(r:List K)(t:U)(sp out:be)(idx:List Int),t.lay→eU r t sp idx=some out→(cb t r).1=0→((cb t r).2.kind=1∨(cb t r).2.kind=2)→sp.len=(A t).1.1→1≤out.len
 | [],t,sp,out,idx,h,hw,hp,hk,hl=>by rw[eU,Yb.injEq]at hw;subst hw;rw[cb]at hk;rw[hl];exact VZ h hk
 | p :: r,t,sp,out,idx,h,hw,hp,hk,hl=>by
  obtain⟨k,a⟩:=kH hp;have l:=JZ hp;rw[eU.eq_def]at hw;dsimp only at hw;rcases lO h k with⟨v,d,e,B,he,b,m⟩|⟨n,d,n2,f,s2,f1,f2,f3,b,g⟩
  · rw [aa v]at hw;cases idx with
    |nil=>cases hw
    | cons i q=>
     dsimp only at hw;rw[he]at hw;dsimp only at hw;by_cases o:i≥lJ t.ba
     ·rw[aa o]at hw;cases hw
     · rw[ab o]at hw;rw[b]at a;rw[l,b]at hk;exact Ct r e _ out q m hw a hk (by show(aX e).1.1=_;rw[m.zero])
  · rw [ab (by rw[n];decide),f1]at hw;dsimp only at hw;rw[f2,f3]at hw;dsimp only at hw;obtain⟨S,s0,s1,C,hf⟩:=BU h d;have s:=BN h d f2 f3 g;obtain⟨D,w,u⟩:=BX t.aE (cq t) 0 (ab_ _) hf n2 f s2 f2 f3;rw[b]at a;rw[l,b]at hk;by_cases c:f.bits=true
    · have j:s2.bits=true:=(u c).1;have x:0<f.aM:=by have:=(u c).2;have:=J1 h d k n f1 f2 c;omega
      have y:r=[]:=by
       have E:f.type.kind=1:=(s.bits j).1;cases r with
       |nil=>rfl
       | cons F G=>
        obtain⟨g1,_⟩:=kH a;rcases lO g g1 with⟨_,H,_⟩|⟨_,I,_⟩
        ·omega
        ·omega
      subst y;rw[eU,Yb.injEq]at hw;subst hw;exact Lc t.aE (cq t) 0 hf n2 f s2 f2 f3 c x
    · have z:f.bits=false:=by simpa using c
      have j:s2.bits=false:=(w z).1;exact Ct r f.type _ out idx g hw a hk (by show s2.len=_;rw[s.len j,g.zero])
theorem Cu{vars:List B}{n:List UInt8}{v:B}(d:fh vars)(hv:vars.find? (λv=>v.E==n)=some v):∀(r done:List K)(t:U)(sp:be)(idx:List Int),t.lay→cb v.type done=(0,t)→(cb t r).1=0→idx∈dT (cj vars n done r)→(∃out,eU r t sp idx=some out)∧idx.length=hX r∧∀i∈idx,0≤i∧i≤65536
 | [],done,t,sp,idx,h,a,hp,hi=>by rw[cj,dT,acL]at hi;subst hi;exact⟨⟨sp,by rw[eU]⟩,by rw[hX];rfl,λi hi=>by cases hi⟩
 | p :: r,done,t,sp,idx,h,a,hp,hi=>by
  obtain⟨o,b⟩:=kH hp;have u:=K1 d hv a;have c:cb v.type (done++[p])=(0,(cV t p).2):=by rw[Cn _ _ _ (by rw[a]),a];show cb t [p]=_;rw[cb,ab (λq=>q o),cb]
  rw[cj]at hi;rw[eU.eq_def];dsimp only;rcases lO h o with⟨g,s,e,C,he,k,w⟩|⟨l,s,n2,f,s2,f1,f2,f3,k,x⟩
  · rw[ab (by intro e;rw[e]at g;cases g),List.singleton_append,dT,List.mem_flatMap]at hi;obtain⟨i,y,hi⟩:=hi;obtain⟨q,z,rfl⟩:=aay.1 hi;obtain⟨c1,c2,_⟩:=sC h s he;rw[u,List.mem_range]at y;have A:lJ t.ba=t.ba:=wj;rw[aa g];dsimp only;rw[ab (by rw[A];omega),he];dsimp only;rw[k]at b c;obtain⟨w1,w2,w3⟩:=Cu d hv r (done++[p]) e {sp with at_:=V (sp.at_+V (Y6 .i64 (i:Int)*(aX e).1.1)),len:=(aX e).1.1} q w c b z;refine⟨w1,by rw[hX,List.length_cons];omega,λj m=>?_⟩;rcases aah.1 m with rfl|m
    ·omega
    ·exact w3 j m
  · rw[aa l,acx]at hi;rw[ab (by rw[l];decide),f1];dsimp only;rw[f2,f3];dsimp only;rw[k]at b c;obtain⟨w1,w2,w3⟩:=Cu d hv r (done++[p]) f.type {s2 with at_:=V (s2.at_+sp.at_)} idx x c b hi;exact⟨w1,by rw[hX,l];simpa using w2,w3⟩
theorem fits_int{k:Int}{t:U}(h:jk k t=true):t.kind=1∨t.kind=2:=by
 unfold jk at h;split at h
 ·left;simpa using h
 · split at h
   ·right;simp only[X1,bG]at h;exact h.1
   ·right;simp only[X1,bG]at h;exact h.1
theorem V0{vars:List B}{x:aN}(b:fh vars)(J:x.ok)(c:(bK vars x).1=0)(m:(bK vars x).2.kind=1∨(bK vars x).2.kind=2){idx:List Int}(hi:idx∈dT (cj vars x.var [] x.aB)) :
  ∃n v g,vars.findIdx? (λv=>v.E==x.var)=some n∧vars[n]?=some v∧(bW 0 vars)[n]?=some g∧1≤(dI vars x idx).len∧J2 g.at_ (aG v.type 0) (dI vars x idx)∧(∃sp,eU x.aB v.type {db with at_:=g.at_,len:=g.len} idx=some sp∧dI vars x idx={sp with kind:=(bK vars x).2.kind})∧idx.length=hX x.aB∧∀i∈idx,0≤i∧i≤65536:=by
 obtain⟨v,hf,hm,hl,p⟩:=Cm b c;have d:(cb v.type x.aB).1=0:=by rw[←p];exact c
 have r:(cb v.type x.aB).2.kind=1∨(cb v.type x.aB).2.kind=2:=by rw[←p];exact m
 obtain ⟨n,hn,f⟩:∃n,vars.findIdx? (λv=>v.E==x.var)=some n∧vars[n]?=some v:=by have e:=List.find?_eq_some_iff_getElem.1 hf;obtain⟨q,n,s,t,C⟩:=e;exact⟨n,adr.2 ⟨s,by rw[t];exact q,λj D=>by have:=C j D;simpa using this⟩,by rw[YO s,t]⟩
 obtain⟨g,_,h,K,_⟩:=qd (a:=0) f;obtain⟨⟨sp,hw⟩,u,y⟩:=Cu b hf x.aB [] v.type {db with at_:=g.at_,len:=g.len} idx hl (by rw[cb]) d hi;have hb:=sQ (a:=0) b.o (λw hw=>b.z w hw) (by decide) b.e f h;have k:g.len=(A v.type).1.1:=by rw[hb.2.2,hl.zero]
 have hlen:=Ct x.aB v.type _ sp idx hl hw d r k;have F:=BZ (G:=g.at_) (by omega) (by have:=hb.2.1;have:=mi (b.z v hm);omega) x.aB v.type _ sp idx 0 hl (λi hi=>by have:=y i hi;omega) hw d r (by decide) (by rw[←k];omega) (by show g.at_=g.at_+0;omega) rfl k;have H:=xe b.z b.e;have l:dI vars x idx={sp with kind:=(bK vars x).2.kind}:=by
  unfold dI;have I:gj x.aB 0=hX x.aB:=by have:=K0 b c;have:=Bs d;rw[Bt _ _ (by decide) (by omega)];omega
  rw[H,ab (λq=>q rfl),ab (λq=>q c),ab (λq=>q m),ab (by rw[I,u];exact λq=>q rfl),hn];dsimp only;rw[f,h];dsimp only;rw[hw]
 refine⟨n,v,g,hn,f,h,?_,?_,⟨sp,hw,l⟩,u,y⟩
 ·rw[l];exact hlen
 ·rw[l];exact F
end Rb

namespace Rb
open Go
variable{p:cH}{n m:Nat}{v:B}{vars:List B}
theorem Ld(kw:List UInt8→Bool):∀{l:List B}{seen:List (List UInt8)},fF kw seen l=0→∀v∈l,v.E∉seen
 | v :: r, seen,h,w,hw=>by
  rw[fF]at h;split at h
  ·cases h
  · split at h
    ·cases h
    · rename_i hs;split at h
      ·rename_i e;exact absurd h e
      · rcases aah.1 hw with rfl|hw
        ·simpa using hs
        · have:=Ld kw h w hw;intro q;exact this (acP _ q)
theorem Cv(kw:List UInt8→Bool):∀{l:List B}{seen:List (List UInt8)},fF kw seen l=0→∀{n m:Nat}{v w:B},n<m→l[n]?=some v→l[m]?=some w→v.E≠w.E
 |[],seen,h,n,m,v,w,b,h1,a=>by simp at h1
 | u :: r,seen,h,n,m,v,w,b,h1,a=>by
  rw[fF]at h;split at h
  ·cases h
  · split at h
    ·cases h
    · split at h
      ·rename_i e;exact absurd h e
      · obtain ⟨m,rfl⟩:∃k,m=k+1:=⟨m-1,by omega⟩
        simp only[abk]at a;cases n with
        | zero=>simp only[abj,Yb.injEq]at h1;subst h1;have:=Ld kw h w (aaH a);intro e;exact this (acO _ (by rw[e];exact acL.2 rfl))
        | succ n=>simp only[abk]at h1;exact Cv kw h (by omega) h1 a
theorem V1(h:(fq dq p).2=0){v w:B}(b:p.vars[n]?=some v)(c:p.vars[m]?=some w)(hn:v.E=w.E):n=m:=by
 obtain⟨hl,hv,_⟩:=Jb dq h;have a:kd dq p.vars=if fF dq [] p.vars≠0 then fF dq [] p.vars else if ff 0 p.vars>65536 then 9 else 0:=by unfold kd;rw[bw];exact BJ dq 70000 rfl p.vars [] 0 0 (by decide) (by simp) (by omega)
 rw[hv]at a;have hf:fF dq [] p.vars=0:=by
  by_cases e:fF dq [] p.vars=0
  ·exact e
  ·rw[aa e]at a;exact a.symm
 rcases aaB n m with h|h|h
 ·exact absurd hn (Cv dq hf h b c)
 ·exact h
 ·exact absurd hn.symm (Cv dq hf h c b)
theorem V2(b:fh vars){x:Int×Int}{g:be}(h:xX 0 vars x m)(hv:vars[n]?=some v)(d:(bW 0 vars)[n]?=some g){a:Int}(l:g.at_≤a)(p:a<g.at_+g.len)(f:x.1≤a)(i:a<x.1+x.2):g.at_≤x.1∧x.1+x.2≤g.at_+g.len:=by
 obtain⟨w,k,y,j,c,q,rfl,r,s,t,u,A⟩:=h;have f:k.at_+y.1≤a:=f;have i:a<k.at_+y.1+y.2:=i;have e:n=m:=by
  rcases aaB n m with h|h|h
  · have:=Cr b.o b.z (by decide) b.e h hv d j c;omega
  ·exact h
  · have:=Cr b.o b.z (by decide) b.e h j c hv d;omega
 subst e;rw[d]at c;cases c;exact⟨by show g.at_≤g.at_+y.1;omega,by show g.at_+y.1+y.2≤_;omega⟩
theorem V4{x:aN}(b:fh vars)(q:x.ok)(r:(bK vars x).1=0)(t:(bK vars x).2.kind=1∨(bK vars x).2.kind=2){idx:List Int}(hi:idx∈dT (cj vars x.var [] x.aB)){aG:List (Int×Int)}(hl:eW vars (bW 0 vars)=some aG) :
  h3 vars x aG idx∈aG∧∃n v g,vars.findIdx? (λv=>v.E==x.var)=some n∧vars[n]?=some v∧(bW 0 vars)[n]?=some g∧g.at_≤(h3 vars x aG idx).1∧(h3 vars x aG idx).1+(h3 vars x aG idx).2≤g.at_+g.len:=by
 obtain⟨n,v,g,hn,hv,c,hlen,⟨u,hu,d,f⟩,_⟩:=V0 b q r t hi;obtain⟨i1,i2⟩:=Cq vars 0 aG (λv hv=>⟨b.o v hv,b.z v hv⟩) (by decide) b.e hl;have hb:∀z∈aG,65536≤z.1∧1≤z.2∧z.1+z.2≤131072:=λz hz=>by obtain⟨n,h⟩:=i1 z hz;exact h.La (by decide)
 have i:=i2 n v g u hv c hu;have F:=hb _ i;have hm:=aaH hv;have j:=mY (b.o v hm).2 (b.z v hm);have y:=sQ (a:=0) b.o (λw hw=>b.z w hw) (by decide) b.e hv c;have G:=mi (b.z v hm);have e0:(A v.type).1.1=(aX v.type).1.1:=by rw[j.zero]
 have k:=sD v.type j 0 (by decide) (by omega) u hu;rw[e0,←y.2.2]at k;obtain⟨w1,w2,w3⟩:=k;generalize hs:dI vars x idx=s at hlen d f;have p:0≤s.at_∧s.at_≤1099511627776∧1≤s.len∧s.len≤1048576:=by omega
 have B:i7 (jO s) (g.at_+u.1,u.2)=true:=(within_iff (a:=jO s) p ⟨by show 0≤g.at_+u.1;omega,by show g.at_+u.1≤_;omega,by show 0≤u.2;omega,by show u.2≤_;omega⟩).2 ⟨d,f⟩;obtain⟨l1,l2⟩:=Ua (l:=aG) (s:=jO s) (λz hz=>(hb z hz).2.1) ⟨_,i,B⟩;have H:=hb _ l1;have C:h3 vars x aG idx=kO aG (jO s):=by unfold h3;rw[hs]
 rw[C];obtain⟨l3,l4⟩:=(within_iff (a:=jO s) p ⟨by omega,by omega,by omega,by omega⟩).1 l2;obtain⟨m,D⟩:=i1 _ l1;refine⟨l1,n,v,g,hn,hv,c,?_⟩;exact V2 b D hv c (a:=s.at_) (by omega) (by omega) l3 (by have:s.at_+s.len≤(kO aG (jO s)).1+(kO aG (jO s)).2:=l4;omega)
theorem V5(hp:p.ok){n k:Int}(h:(cZ p n k).2=true):∃m v aG,1≤k∧k≤((cD p n).length:Int)∧(cD p n)[(k-1).toNat]?=some m∧ho m.kind=true∧gn (cj p.vars m.pl.var [] m.pl.aB) 1=some v∧eW p.vars (bW 0 p.vars)=some aG∧(fq dq p).2=0∧fh p.vars ∧
  cZ p n k=((dT (cj p.vars m.pl.var [] m.pl.aB)).map (h3 p.vars m.pl aG),true)∧∀x∈(cZ p n k).1,x∈aG∧∃j w g,p.vars.findIdx? (λv=>v.E==m.pl.var)=some j∧p.vars[j]?=some w∧(bW 0 p.vars)[j]?=some g∧g.at_≤x.1∧x.1+x.2≤g.at_+g.len:=by
 by_cases h1:k<1∨k>((cD p n).length:Int)
 ·unfold cZ at h;rw[aa h1]at h;cases h
 cases hm:(cD p n)[(k-1).toNat]? with
 |none=>unfold cZ at h;rw[ab h1,hm]at h;cases h
 | some m=>
  by_cases hw:ho m.kind=true
  · cases hv:gn (cj p.vars m.pl.var [] m.pl.aB) 1 with
    |none=>rw[sM (by omega) hm hw,hv]at h;cases h
    | some v=>
     cases hl:eW p.vars (bW 0 p.vars)with
     |none=>rw[sM (by omega) hm hw,hv]at h;dsimp only at h;rw[hl]at h;cases h
     | some aG=>
      have a:cZ p n k=((dT (cj p.vars m.pl.var [] m.pl.aB)).map (h3 p.vars m.pl aG),true):=by rw[sM (by omega) hm hw,hv];dsimp only;rw[hl]
      obtain⟨f,b,ha⟩:=Ck hp (aaH hm);obtain⟨a1,a2,a3⟩:=ha (xW hw);have e:m.pl=m.place:=by unfold bm.pl;rw[ab (xW hw)]
      refine⟨m,v,aG,by omega,by omega,rfl,hw,hv,rfl,f,b,a,λx c=>?_⟩;rw[a]at c;obtain⟨y,d,rfl⟩:=aay.1 c;rw[e]at d ⊢;exact V4 b a1 a2 (fits_int a3) d hl
  ·unfold cZ at h;rw[ab h1,hm]at h;dsimp only at h;rw[aa (by simpa using hw)]at h;cases h
end Rb

namespace Rb
open Go
variable{H:Z}{Q:ad}
theorem V6{p:cH}{n k:Int}(h:(cZ p n k).2=false):(cZ p n k).1=[]:=by
 unfold cZ at h ⊢;split
 ·rfl
 · rename_i h1;rw[ab h1]at h;split
   ·rfl
   · rename_i m hm;rw[hm]at h;dsimp only at h;split
     ·rfl
     · rename_i a;rw[ab a]at h;split
       ·rfl
       · rename_i v hv;rw[hv]at h;dsimp only at h;split
         ·rfl
         · rename_i aG hl;rw[hl]at h;cases h
theorem V7{l:List bm}{k:Nat}{m:bm}(H:Z)(h:l[k]?=some m):∃z y,W 3 (dN bm.wk 5 l k)=some z∧W 0 z=some y∧O H 1 false y=some (.str m.pl.var):=by
 have a:(l.flatMap bm.wk).drop (k*5)=m.wk++(l.drop (k+1)).flatMap bm.wk:=by rw[nS bm.xP,drop_cons h,abe]
 refine⟨_,_,rfl,rfl,?_⟩;rw[a];unfold bm.wk;rw[aN.bF];rfl
theorem V8{vars:List B}{i:Nat}{v:B}{g:be}(H:Z)(h:vars[i]?=some v)(b:(bW 0 vars)[i]?=some g):∃z y,aP none 3 (.ak .dead vars.length (dw vars (bW 0 vars))) (.int .i64 i)=some z∧W 0 z=some z∧O H 1 false z=some (.str v.E)∧W 1 z=some y∧O H 2 true y=some (.agg (av (g.at_,g.len))):=by have d:=(XV.1 h).1;obtain⟨g',tl,h1,_,c⟩:=qd (a:=0) h;rw[b]at h1;cases h1;refine⟨.ae (.str v.E :: .int .i64 g.at_ :: .int .i64 g.len::tl),.ae (.int .i64 g.at_ :: .int .i64 g.len::tl),?_,rfl,rfl,rfl,rfl⟩;show(if 0≤(i:Int)∧(i:Int)<(vars.length:Nat)then some (I.ae ((dw vars (bW 0 vars)).drop ((i:Int).toNat*3)))else none)=_;rw[aa ⟨by omega,by omega⟩,Int.toNat_natCast,c]
theorem V9(a b:Int×Int):ja false [.n,.n] (.agg (av a)) (.agg (av b))=some (.bool (decide (a=b))):=by
 have:((a.1==b.1)&&(a.2==b.2))=decide (a=b):=by rw[Bool.eq_iff_iff];simp only[X1,bG,dU];exact⟨λh=>Prod.ext h.1 h.2,λh=>by rw[h];exact⟨rfl,rfl⟩⟩
 simp[ja,dA,av,this]
section
variable{C:Ctx}(aj:bN C)(hT:Cl (af C) S.bu)(fe:∀x,bB (af C) 96 [.str x] (.bool (dq x)))(hS:nf (af C)){p:cH}(hp:p.ok)(hA:∀n k:Int,-9223372036854775808≤k∧k≤9223372036854775807→bB (af C) 6 [.agg p.cells,.int .i64 n,.int .i64 k] (.aq [au av (cZ p n k).1,.bool (cZ p n k).2]))
 (hz:∀t∈p.dd,cn t≤100000000000) (hW:bB (af C) 8 [] (.bool true))
include aj hT fe hS hp hA hz hW
theorem V_{L aG:List (Int×Int)}{a l:Int}{id:Nat}(g:At H id (.row (av (a,l))))(p:∀x∈L,x∈aG∧a≤x.1∧x.1+x.2≤a+l∧0≤x.1∧x.1+x.2≤131072∧0≤x.2)(G:L.length≤1000000)(I:aG.length≤1000000)(ha:0≤a+l)(eK:a+l≤131072)(hQ:∀H',Q (.bool true) H') :
  aC (S.nL (af C) (au av L) (au av aG) (.int .i64 0) (.ptr id 0) Q) ([.int .i64 0],H):=by
 have q:O H 1 false (.ptr id 0)=some (.int .i64 a):=by rw[g.load];rfl
 have t:O H 1 false (.ptr id 1)=some (.int .i64 l):=by rw[g.load];rfl
 have fin:N (S.zH (af C) (.int .i64 0) Q) [] H:=by simp only[aT,S.zH,cI,T];exact hQ H
 have main:∀(r:List (Int×Int)) (i:Nat),L.drop i=r→aC (S.nL (af C) (au av L) (au av aG) (.int .i64 0) (.ptr id 0) Q) ([.int .i64 i],H):=by
  intro r;induction r with
  | nil=>intro i c;have hle:=er c;refine aC.step ?_;simp only[S.nL,aF,cU,bD,T,cP,aT];rw[ee];simp only[S.uC,aF,aD,ZP,bR];exact fin
  | cons x r u=>
   intro i c;obtain⟨m,d,v⟩:=ed c;obtain⟨b1,b2,b3,J,K,M⟩:=p x (aaH d);refine aC.step ?_;simp only[S.nL,aF,cU,bD,T,cP,aT];rw[dW];simp only[S.uC,aF,aD,aT];refine aI (λ_=>?_) (λ_=>fin);unfold S.EC;have f:∀{b:List (Int×Int)}{k:Nat},k<b.length→aP none 2 (au av b) (.int .i64 k)=some (dN av 2 b k):=λh=>cQ h;have o:∀{b:List (Int×Int)}{k:Nat}{s:Int×Int},b[k]?=some s→∀H,O H 2 true (dN av 2 b k)=some (.agg (av s)):=λh H=>dD (cells:=av) (sz:=2) (λ_=>rfl) (by decide) H h;obtain⟨z0,w,z2,z3⟩:=VY H d;have found:S.zG (af C) (au av L) (.ptr id 0) ([.int .i64 i],H) (aC (S.nL (af C) (au av L) (au av aG) (.int .i64 0) (.ptr id 0) Q)) Q [.bool true] H:=by unfold S.zG;have w1:Y6 .i64 (x.1+x.2)=x.1+x.2:=bH;have w2:Y6 .i64 (a+l)=a+l:=bH;simp only[aF,ec,T,cv,abW,a_,f m,z0,w,z2,z3,ey,Nat.zero_add,q,t,bD,b4,ej,w1,w2,aT];rw[aa (by simp only[decide_eq_false_iff_not];omega)];simp only[S.uz,aF,aD];rw[ee];simp only[aT,S.EB,aF,b4,T];rw[wrap_i64 (n:=(i:Int)+1) (by omega) (by omega),cN];exact u (i+1) v
   have inner:∀(b:List (Int×Int)) (j:Nat),aG.drop j=b→x∈b→aC (S.uB (af C) (au av L) (au av aG) (.ptr id 0) ([.int .i64 i],H) (aC (S.nL (af C) (au av L) (au av aG) (.int .i64 0) (.ptr id 0) Q)) Q) ([.bool false,.int .i64 j],H):=by
    intro b;induction b with
    |nil=>intro j _ h;cases h
    | cons y b z=>
     intro j A B;obtain⟨D,E,F⟩:=ed A;refine aC.step ?_;simp only[S.uB,aF,c4,cU,bD,T,cP,aT,ec];rw[dW];simp only[S.uA,aF,aD,Bool.not_false,a_,aT,S.EA,c4,f D,f m,T,o E,o d,V9,b4];rw[wrap_i64 (n:=(j:Int)+1) (by omega) (by omega),cN];by_cases e:y=x
     · rw[show decide (y=x)=true by simpa using e];refine aC.step ?_;simp only[S.uB,aF,c4,cU,bD,T,cP,aT,ec,abW,S.uA,aD,ZP,bR,ite_self];exact found
     · rw[show decide (y=x)=false by simpa using e];refine z (j+1) F ?_;rcases aah.1 B with h|h
       ·exact absurd h.symm e
       ·exact h
   exact inner aG 0 rfl b1
 exact main L 0 rfl
theorem Wa{n k:Int}(R : -9223372036854775808≤k∧k≤9223372036854775807)(hQ:∀H',Q (.bool true) H'):S.f5 (af C) (.agg p.cells) (.int .i64 n) (.int .i64 k) H Q:=by
 unfold S.f5;have U:∀H,aO H false 2 (.agg p.cells)=some (.ae p.cells,H):=λH=>by unfold aO;rw[aa ⟨rfl,rfl⟩];rfl
 have V:∀H,O H 2 true (.ae p.cells)=some (.agg p.cells):=λ_=>rfl;have X:∀H,O H 1 false (.ae p.cells)=some (au B.cells p.vars):=λ_=>rfl;have Y:W 0 (.ae p.cells)=some (.ae p.cells):=rfl;simp only[U,aR,V,T];refine hA n k R _ _ ?_;simp only[bj,abj,abk,T];refine KG aj hT fe hp hz n _ _ ?_;refine hW _ _ ?_;simp only[ec,T,cv,abW,a_,aT,S.zK,aF,aD];by_cases s:(cZ p n k).2=true
 case neg=>
  have G:(cZ p n k).2=false:=by simpa using s
  rw[aa (by rw[G];rfl),V6 G];refine hW _ _ ?_;simp only[cP,a_,cU,T,cI];exact hQ _
 rw[ab (by rw[s];decide)];obtain⟨m,v,aG,k1,k2,hm,hw,hv,hl,ac,b,ad,I⟩:=V5 hp s;obtain⟨h1,_,ag⟩:=K4 hp n;obtain⟨aK,aM,aN,ah⟩:=h1 m (aaH hm) hw;obtain⟨ai,aP,aQ⟩:=Ci _ 1 v ah (by decide) (by decide) hv;have hlen:(cZ p n k).1.length=(dT (cj p.vars m.pl.var [] m.pl.aB)).length:=by rw[ad];simp
 have J:1≤(cZ p n k).1.length∧(cZ p n k).1.length≤4096:=by simp at ai;omega
 simp only[aT,S.EF,bD,T,cv];rw[aa (by simp only[decide_eq_false_iff_not];omega)];simp only[cU,T,ej,aT,S.zJ,aF,cv];rw[aa (by simp only[decide_eq_false_iff_not];omega)];simp only[cI,T,aT,S.zI,aF,aD];rw[ab (by simp only[bG];omega)];simp only[aT,S.EE,Y,X,T];refine J4 aj hT hS b _ _ ?_;rcases B1 p.vars (bW 0 p.vars) []with⟨l',e1,t⟩|⟨e1,t⟩
 case inr=>rw[hl]at e1;cases e1
 rw[hl]at e1;cases e1;rw[acx]at t;rw[t];simp only[bj,abj,abk,T];have aS:=b.l;refine xc aj hT (by omega) b.o _ _ ?_;have al:jn p.vars = .aq [.ak .dead p.vars.length (dw p.vars (bW 0 p.vars)),.int .i64 (ff 0 p.vars),.int .i64 0]:=by unfold jn;rw[xe b.z b.e];rfl
 rw[al];simp only[bj,abj,abk,T];rw[show bo [.int .i64 0,.int .i64 0] []=some (.agg (av (0,0)))from rfl];simp only[T,aR,aL,a_];rw[cS _ _ _ 2 rfl rfl rfl];simp only[T];obtain ⟨am,an⟩:∃x,x∈(cZ p n k).1:=by
  cases ao:(cZ p n k).1 with
  |nil=>rw[ao]at J;simp at J
  |cons x r=>exact⟨x,aaj ..⟩
 obtain⟨_,j,w,g,f1,f2,f3,_,_⟩:=I am an;have aU:=sQ (a:=0) b.o (λw hw=>b.z w hw) (by decide) b.e f2 f3;have aV:=mi (b.z w (aaH f2));have K:w.E=m.pl.var:=by have:=adr.1 f1;obtain⟨L,q,_⟩:=this;rw[YO L,Yb.injEq]at f2;rw[f2]at q;exact eq_of_beq q
 obtain⟨i1,_⟩:=Cq p.vars 0 aG (λv hv=>⟨b.o v hv,b.z v hv⟩) (by decide) b.e hl;have ap:∀x∈(cZ p n k).1,x∈aG∧g.at_≤x.1∧x.1+x.2≤g.at_+g.len∧0≤x.1∧x.1+x.2≤131072∧0≤x.2:=λx ar=>by obtain⟨r1,aW,w',g',M,aX,r4,aw,ax⟩:=I x ar;rw[f1]at M;cases M;rw[f3]at r4;cases r4;obtain⟨n',hb⟩:=i1 x r1;have:=hb.La (by decide);exact⟨r1,aw,ax,by omega,by omega,by omega⟩
 have aY:=ag b aG hl;have ay:(k-1).toNat<(cD p n).length:=by omega
 have aA:∀(r:List B)(i:Nat)(H':Z)(id:Nat),p.vars.drop i=r→At H' id (.row (av (if j<i then(g.at_,g.len)else(0,0))))→aC (S.ru (af C) (.int .i64 k) (au av (cZ p n k).1) (au bm.wk (cD p n)) (au av aG) (.int .i64 0) (.ak .dead p.vars.length (dw p.vars (bW 0 p.vars))) (.ptr id 0) Q) ([.int .i64 i],H'):=by
  intro r;induction r with
  | nil=>intro i H' id A c;have hle:=er A;have aZ:=(XV.1 f2).1;refine aC.step ?_;rw[cG]at c;have D:bp false (.ak .dead p.vars.length (dw p.vars (bW 0 p.vars)))=some (.int .i64 p.vars.length):=rfl;simp only[S.ru,aF,D,bD,T,aD];rw[ee];simp only[aT,S.ED];exact V_ aj hT fe hS hp hA hz hW c ap (by omega) (by omega) (by omega) (by omega) hQ
  | cons u r aE=>
   intro i H' id A c;obtain⟨L,d,aH⟩:=ed A;obtain⟨a0,_,F,_,_⟩:=qd (a:=0) d;obtain⟨z,y,g0,g1,g2,g3,g4⟩:=V8 H' d F;obtain⟨az,a4,a1,a2,a3⟩:=V7 H' hm;refine aC.step ?_;have D:bp false (.ak .dead p.vars.length (dw p.vars (bW 0 p.vars)))=some (.int .i64 p.vars.length):=rfl;simp only[S.ru,aF,D,bD,T,aD];rw[dW];simp only[g0,g1,g2,g3,g4,T,fO];rw[wrap_i64 (n:=k-1) (by omega) (by omega),show k-1=(((k-1).toNat:Nat):Int) by omega,Ch ay];simp only[T,a1,a2,a3,iU,aD,aT];have next:∀f,At f id (.row (av (if j<i+1 then(g.at_,g.len)else(0,0))))→S.uy (af C) ([.int .i64 i],H') (aC (S.ru (af C) (.int .i64 k) (au av (cZ p n k).1) (au bm.wk (cD p n)) (au av aG) (.int .i64 0) (.ak .dead p.vars.length (dw p.vars (bW 0 p.vars))) (.ptr id 0) Q)) Q [] f:=λf h=>by unfold S.uy;simp only[aF,b4,T];rw[wrap_i64 (n:=(i:Int)+1) (by omega) (by omega),cN];exact aE (i+1) f id aH h
   apply aI<;>intro e
   · have aJ:u.E=m.pl.var:=by simpa using e
     have N:i=j:=V1 ac d f2 (aJ.trans K.symm);subst N;rw[f3]at F;cases F;rw[c.put (n:=2) rfl rfl rfl];simp only[T];refine next _ ?_
     rw[cG];exact c.set _
   · refine next _ ?_
     have N:i≠j:=λh=>by subst h;rw[d]at f2;cases f2;exact e (by simpa using K)
     by_cases P:j<i
     · rw[cG];rw[aa P]at c;exact c
     · rw[bw];rw[ab P]at c;exact c
 refine aA p.vars 0 _ _ rfl ?_;rw[bw];exact At.new _ _
end
end Rb

namespace Rb
open Go Go.RowKit
section
variable{H:Type}{enc:TypeId×Value→H}{P:Program}{w:World}{sp:Nat→Bool}{held:Bool}{F:cz}{G:aH}
end
end Rb

namespace Rb
open Go Go.RowKit
section
variable{H:Type}{enc:TypeId×Value→H}{P:Program}{w:World}{sp:Nat→Bool}{held:Bool}{F:cz}
def cH.pK(p:cH):Prop:=p.ok∧p.dd.length≤140737488355328∧∀t∈p.dd,t.length≤140737488355328
end
end Rb

namespace Rb
open Go
mutual
theorem Wb:∀e:ax,sb e≤de e.cells
 | .mk kind n E op aV place bq=>by have h1:=Wc place;have a:=xY bq;simp only[sb,ax.cells,de,jD,ma];omega
theorem xY:∀l:List ax,lQ l≤de (ax.all l)
 |[]=>by simp[lQ,ax.all,de]
 | e::r=>by have h1:=Wb e;have a:=xY r;simp only[lQ,ax.all,ma];omega
theorem Wc:∀x:aN,na x≤de x.cells
 | .mk var aB=>by have h1:=Cw aB;simp only[na,aN.cells,de,jD];omega
theorem Cw:∀l:List K,nc l≤de (K.all l)
 |[]=>by simp[nc,K.all,de]
 | e::r=>by have h1:=Wd e;have a:=Cw r;simp only[nc,K.all,ma];omega
theorem Wd:∀x:K,sd x≤de x.cells
 | .mk field bc=>by have h1:=xY bc;simp only[sd,K.cells,de,jD];omega
end
theorem We(x:aN):na x+2≤de x.cells:=by
 cases x with
 | mk var aB=>have h1:=Cw aB;simp only[na,aN.cells,de,jD];omega
mutual
theorem Wf:∀x:ay,sf x≤de x.cells
 | .mk kind X E cg aV place bf bg bx=>by have h1:=We place;have a:=xY bf;have b:=xZ bg;have c:=xZ bx;rw[ax.all_eq]at a;simp only[sf,ay.cells,au,de,jD,ma];omega
theorem xZ:∀l:List ay,lS l≤de (ay.all l)
 |[]=>by simp[lS,ay.all,de]
 | e::r=>by have h1:=Wf e;have a:=xZ r;simp only[lS,ay.all,ma];omega
end
theorem Le{α:Type}{cells:α→List I}{x:α}:∀{l:List α},x∈l→de (cells x)≤de (l.flatMap cells)
 | y :: r,h=>by
  rw[abe,ma];rcases aah.1 h with e|e
  ·rw[e];omega
  · have:=Le (cells:=cells) e;omega
theorem Wg{p:cH}{t:List ay}(h:t∈p.dd):lS t≤de p.cells:=by have h1:=xZ t;have a:=Le (cells:=iR) h;rw[ay.all_eq]at h1;simp only[cH.cells,au,de,jD]at a ⊢;simp only[iR,au,de,jD]at a;omega
end Rb

namespace Rb
open Go
mutual
theorem Wh:∀e:ax,dO e≤272*sb e
 | .mk kind n E op aV place bq=>by have h1:=Lf place;have a:=x0 bq;rw[dO,sb];split<;>omega
theorem x0:∀l:List ax,dK l≤272*lQ l
 |[]=>by rw[dK,lQ];omega
 | e::r=>by have h1:=Wh e;have a:=x0 r;rw[dK,lQ];omega
theorem Lf:∀x:aN,fI x≤272*na x
 | .mk var aB=>by have h1:=Lg aB;rw[fI,na];omega
theorem Lg:∀l:List K,gG l≤272*nc l
 |[]=>by rw[gG,nc];omega
 | e::r=>by have h1:=Wi e;have a:=Lg r;rw[gG,nc];omega
theorem Wi:∀x:K,mo x≤272*sd x
 | .mk field bc=>by have h1:=x0 bc;rw[mo,sd];omega
end
mutual
theorem Wj:∀x:ay,ki x≤272*sf x
 | .mk kind X E cg aV place bf bg bx=>by have h1:=Lf place;have a:=x0 bf;have b:=x1 bg;have c:=x1 bx;rw[ki,sf];split<;>omega
theorem x1:∀l:List ay,cn l≤272*lS l
 |[]=>by rw[cn,lS];omega
 | e::r=>by have h1:=Wj e;have a:=x1 r;rw[cn,lS];omega
end
theorem Lh{p:cH}(hz:de p.cells≤1048576):∀t∈p.dd,cn t≤100000000000:=λt ht=>by have h1:=Wg ht;have a:=x1 t;omega
end Rb

namespace Go.Proofs.YteakojhgmhmdkaaGreatDoor.rb
open Rb
theorem Wk:bB (af C) 8 [] (.bool true):=λH Q hQ=>VW 8 [] (.bool true) rfl H Q hQ
theorem boundPlaces.any(p:cH)(hp:p.ok)(hz:de p.cells≤1048576)(n:Int)(_ : -9223372036854775808≤n)(_:n≤9223372036854775807)(k:Int)(a : -9223372036854775808≤k)(b:k≤9223372036854775807):af C 5 [.agg p.cells,.int .i64 n,.int .i64 k] Z.mt (λv _=>v = .bool true):=S.OW nR (Wa j5 nR K6 KO hp (λn k hk=>Co hp (Lh hz) n k hk) (Lh hz) Wk ⟨a,b⟩ λ_=>rfl)
end Go.Proofs.YteakojhgmhmdkaaGreatDoor.rb

namespace Go.Proofs.YteakojhgmhmdkaaGreatDoor.rb
open Rb Go.ChangeShapes Go.WideShapes Go.ChangeAt Go.RowKit
variable{W:World}
theorem own:ownKnob Tryz.prog.godebug=none:=by kernel_rfl
theorem laidOut:laidOutB Tryz.prog=true:=by kernel_rfl
theorem Li:Tryz.prog.cellsOf 5=1:=by kernel_rfl
def mz:List (String×DataW Unit):=Rows.boundAllowsRow.laid
theorem Cx : Tryz.prog.globalNamed "strings.asciiSpace" = some 0 := by kernel_rfl
theorem Wl:(Tryz.prog.globals[0]?).map (·.type)=some 263:=by kernel_rfl
theorem Wm:Tryz.prog.cellsOf 263=256:=by kernel_rfl
theorem Wn:(Rows.laid_strings_asciiSpace:DataW Unit)=ads .u8 Go.Lib.asciiSpaceTab:=by kernel_rfl
theorem Wo : (("strings.asciiSpace", Go.Lib.tabData .u8 Go.Lib.asciiSpaceTab) : String × DataW Unit) ∈ mz := by
 rw[←Wn];exact .tail _ (.tail _ (.tail _ (.tail _ (.tail _ (.tail _ (.head _))))))
set_option maxRecDepth 100000 in
theorem Lj(h : laidMet Tryz.prog mz W) : Go.Lib.TabIs Tryz.prog W "strings.asciiSpace" .u8 Go.Lib.asciiSpaceTab := by
 obtain⟨g',t',cs,fuel,p,a,b,c,d⟩:=Go.Lib.laidMet.reads h Wo;obtain rfl:=Yb.inj (Cx.symm.trans a);obtain rfl:=Yb.inj (Wl.symm.trans b);unfold adt;rw[c,←adu Tryz.underlying263 Tryz.underlying5 Li Wm d]
theorem Cy : Tryz.prog.globalNamed "internal/strconv.uint64pow10" = some 5 := by kernel_rfl
theorem Wq:(Tryz.prog.globals[5]?).map (·.type)=some 331:=by kernel_rfl
theorem Wr:Tryz.prog.cellsOf 331=20:=by kernel_rfl
theorem Ws:(Rows.laid_internal_strconv_uint64pow10:DataW Unit)=ads .u64 rp:=by kernel_rfl
theorem Wt : (("internal/strconv.uint64pow10", Go.Lib.tabData .u64 rp) : String × DataW Unit) ∈ mz := by
 rw[←Ws];exact .tail _ (.tail _ (.head _))
set_option maxRecDepth 100000 in
theorem Lk(h : laidMet Tryz.prog mz W) : Go.Lib.TabIs Tryz.prog W "internal/strconv.uint64pow10" .u64 rp := by
 obtain⟨g',t',cs,fuel,p,a,b,c,d⟩:=Go.Lib.laidMet.reads h Wt;obtain rfl:=Yb.inj (Cy.symm.trans a);obtain rfl:=Yb.inj (Wq.symm.trans b);unfold adt;rw[c,←adu Tryz.underlying331 Tryz.underlying12 (by kernel_rfl) Wr d]
theorem Cz : Tryz.prog.globalNamed "math/bits.deBruijn64tab" = some 7 := by kernel_rfl
theorem Wu:(Tryz.prog.globals[7]?).map (·.type)=some 334:=by kernel_rfl
theorem Wv:Tryz.prog.cellsOf 334=64:=by kernel_rfl
theorem Ww:(Rows.laid_math_bits_deBruijn64tab:DataW Unit)=ads .u8 qU:=by kernel_rfl
theorem Wx : (("math/bits.deBruijn64tab", Go.Lib.tabData .u8 qU) : String × DataW Unit) ∈ mz := by
 rw[←Ww];exact .tail _ (.head _)
set_option maxRecDepth 100000 in
theorem Ll(h : laidMet Tryz.prog mz W) : Go.Lib.TabIs Tryz.prog W "math/bits.deBruijn64tab" .u8 qU := by
 obtain⟨g',t',cs,fuel,p,a,b,c,d⟩:=Go.Lib.laidMet.reads h Wx;obtain rfl:=Yb.inj (Cz.symm.trans a);obtain rfl:=Yb.inj (Wu.symm.trans b);unfold adt;rw[c,←adu Tryz.underlying334 Tryz.underlying5 Li Wv d]
theorem Wy(h:laidMet Tryz.prog mz W):jc C W (aH.mt (kA W)):=by
 intro g l a;change gt g=some l at a;unfold gt at a;split at a
 · rename_i e;subst e;cases a;rw[QK];exact Aj λi hi=>(Lj h).cell Cx i hi
 · split at a
   · rename_i e;subst e;cases a;rw[(show Ew=rp.map (I.int .u64)from rfl)];exact Aj λi hi=>(Lk h).cell Cy i hi
   · split at a
     · rename_i e;subst e;cases a;rw[(show Dw=qU.map (I.int .u8)from rfl)];exact Aj λi hi=>(Ll h).cell Cz i hi
     ·cases a
theorem nB(h:laidMet Tryz.prog mz W):ct C W (aH.mt (kA W)) Z.mt:=by
 refine⟨Wy h,λg l a _=>⟨?_,λi hi=>by cases hi⟩⟩;change gt g=some l at a;unfold gt at a;split at a
 · rename_i e;subst e;cases a;obtain⟨cs,t,fr,h1,b⟩:=Ak Cx (Lj h);exact⟨cs,t,fr,h1,b.trans (by kernel_rfl)⟩
 · split at a
   · rename_i e;subst e;cases a;obtain⟨cs,t,fr,h1,b⟩:=Ak Cy (Lk h);exact⟨cs,t,fr,h1,b.trans (by kernel_rfl)⟩
   · split at a
     · rename_i e;subst e;cases a;obtain⟨cs,t,fr,h1,b⟩:=Ak Cz (Ll h);exact⟨cs,t,fr,h1,b.trans (by kernel_rfl)⟩
     ·cases a
noncomputable def CA(a:Os):World:=
 let N:=(World.settled Tryz.prog a).heap.size;let w0:=World.holding Tryz.prog a ⟨#[.cells #[.string ⟨#[118,97,108,117,101,32,111,117,116,32,111,102,32,114,97,110,103,101]⟩] 323,.cells #[.string ⟨#[105,110,118,97,108,105,100,32,115,121,110,116,97,120]⟩] 323,.cells #[.int .u16 9,.int .u16 13,.int .u16 1,.int .u16 32,.int .u16 133,.int .u16 101,.int .u16 160,.int .u16 5760,.int .u16 5600,.int .u16 8192,.int .u16 8202,.int .u16 1,.int .u16 8232,.int .u16 8233,.int .u16 1,.int .u16 8239,.int .u16 8287,.int .u16 48,.int .u16 12288,.int .u16 12288,.int .u16 1] 307,.cells #[.slice (some ⟨N+2,0,none⟩) 7 7,.slice none 0 0,.int .i64 2] 304],#[],[]⟩;let put (h:Array Obj) (g:Nat) (cs:Array Value):Array Obj:=h.modify g λ
  | .cells _ t frozen=> .cells cs t frozen
  |o=>o
 {w0 with heap:=put (put (put (put (put (put (put (w0.heap) 6 #[.int .u8 0,.int .u8 1,.int .u8 28,.int .u8 2,.int .u8 29,.int .u8 14,.int .u8 24,.int .u8 3,.int .u8 30,.int .u8 22,.int .u8 20,.int .u8 15,.int .u8 25,.int .u8 17,.int .u8 4,.int .u8 8,.int .u8 31,.int .u8 27,.int .u8 13,.int .u8 23,.int .u8 21,.int .u8 19,.int .u8 16,.int .u8 7,.int .u8 26,.int .u8 12,.int .u8 18,.int .u8 6,.int .u8 11,.int .u8 5,.int .u8 10,.int .u8 9]) 7 #[.int .u8 0,.int .u8 1,.int .u8 56,.int .u8 2,.int .u8 57,.int .u8 49,.int .u8 28,.int .u8 3,.int .u8 61,.int .u8 58,.int .u8 42,.int .u8 50,.int .u8 38,.int .u8 29,.int .u8 17,.int .u8 4,.int .u8 62,.int .u8 47,.int .u8 59,.int .u8 36,.int .u8 45,.int .u8 43,.int .u8 51,.int .u8 22,.int .u8 53,.int .u8 39,.int .u8 33,.int .u8 30,.int .u8 24,.int .u8 18,.int .u8 12,.int .u8 5,.int .u8 63,.int .u8 55,.int .u8 48,.int .u8 27,.int .u8 60,.int .u8 41,.int .u8 37,.int .u8 16,.int .u8 46,.int .u8 35,.int .u8 44,.int .u8 21,.int .u8 52,.int .u8 32,.int .u8 23,.int .u8 11,.int .u8 54,.int .u8 26,.int .u8 40,.int .u8 15,.int .u8 34,.int .u8 20,.int .u8 31,.int .u8 10,.int .u8 25,.int .u8 14,.int .u8 19,.int .u8 9,.int .u8 13,.int .u8 8,.int .u8 7,.int .u8 6]) 5 #[.int .u64 1,.int .u64 10,.int .u64 100,.int .u64 1000,.int .u64 10000,.int .u64 100000,.int .u64 1000000,.int .u64 10000000,.int .u64 100000000,.int .u64 1000000000,.int .u64 10000000000,.int .u64 100000000000,.int .u64 1000000000000,.int .u64 10000000000000,.int .u64 100000000000000,.int .u64 1000000000000000,.int .u64 10000000000000000,.int .u64 100000000000000000,.int .u64 1000000000000000000,.int .u64 10000000000000000000]) 3 #[.iface 321 (.pointer (some ⟨N+0,0,none⟩))]) 2 #[.iface 321 (.pointer (some ⟨N+1,0,none⟩))]) 1 #[.pointer (some ⟨N+3,0,none⟩)]) 0 #[.int .u8 0,.int .u8 0,.int .u8 0,.int .u8 0,.int .u8 0,.int .u8 0,.int .u8 0,.int .u8 0,.int .u8 0,.int .u8 1,.int .u8 1,.int .u8 1,.int .u8 1,.int .u8 1,.int .u8 0,.int .u8 0,.int .u8 0,.int .u8 0,.int .u8 0,.int .u8 0,.int .u8 0,.int .u8 0,.int .u8 0,.int .u8 0,.int .u8 0,.int .u8 0,.int .u8 0,.int .u8 0,.int .u8 0,.int .u8 0,.int .u8 0,.int .u8 0,.int .u8 1,.int .u8 0,.int .u8 0,.int .u8 0,.int .u8 0,.int .u8 0,.int .u8 0,.int .u8 0,.int .u8 0,.int .u8 0,.int .u8 0,.int .u8 0,.int .u8 0,.int .u8 0,.int .u8 0,.int .u8 0,.int .u8 0,.int .u8 0,.int .u8 0,.int .u8 0,.int .u8 0,.int .u8 0,.int .u8 0,.int .u8 0,.int .u8 0,.int .u8 0,.int .u8 0,.int .u8 0,.int .u8 0,.int .u8 0,.int .u8 0,.int .u8 0,.int .u8 0,.int .u8 0,.int .u8 0,.int .u8 0,.int .u8 0,.int .u8 0,.int .u8 0,.int .u8 0,.int .u8 0,.int .u8 0,.int .u8 0,.int .u8 0,.int .u8 0,.int .u8 0,.int .u8 0,.int .u8 0,.int .u8 0,.int .u8 0,.int .u8 0,.int .u8 0,.int .u8 0,.int .u8 0,.int .u8 0,.int .u8 0,.int .u8 0,.int .u8 0,.int .u8 0,.int .u8 0,.int .u8 0,.int .u8 0,.int .u8 0,.int .u8 0,.int .u8 0,.int .u8 0,.int .u8 0,.int .u8 0,.int .u8 0,.int .u8 0,.int .u8 0,.int .u8 0,.int .u8 0,.int .u8 0,.int .u8 0,.int .u8 0,.int .u8 0,.int .u8 0,.int .u8 0,.int .u8 0,.int .u8 0,.int .u8 0,.int .u8 0,.int .u8 0,.int .u8 0,.int .u8 0,.int .u8 0,.int .u8 0,.int .u8 0,.int .u8 0,.int .u8 0,.int .u8 0,.int .u8 0,.int .u8 0,.int .u8 0,.int .u8 0,.int .u8 0,.int .u8 0,.int .u8 0,.int .u8 0,.int .u8 0,.int .u8 0,.int .u8 0,.int .u8 0,.int .u8 0,.int .u8 0,.int .u8 0,.int .u8 0,.int .u8 0,.int .u8 0,.int .u8 0,.int .u8 0,.int .u8 0,.int .u8 0,.int .u8 0,.int .u8 0,.int .u8 0,.int .u8 0,.int .u8 0,.int .u8 0,.int .u8 0,.int .u8 0,.int .u8 0,.int .u8 0,.int .u8 0,.int .u8 0,.int .u8 0,.int .u8 0,.int .u8 0,.int .u8 0,.int .u8 0,.int .u8 0,.int .u8 0,.int .u8 0,.int .u8 0,.int .u8 0,.int .u8 0,.int .u8 0,.int .u8 0,.int .u8 0,.int .u8 0,.int .u8 0,.int .u8 0,.int .u8 0,.int .u8 0,.int .u8 0,.int .u8 0,.int .u8 0,.int .u8 0,.int .u8 0,.int .u8 0,.int .u8 0,.int .u8 0,.int .u8 0,.int .u8 0,.int .u8 0,.int .u8 0,.int .u8 0,.int .u8 0,.int .u8 0,.int .u8 0,.int .u8 0,.int .u8 0,.int .u8 0,.int .u8 0,.int .u8 0,.int .u8 0,.int .u8 0,.int .u8 0,.int .u8 0,.int .u8 0,.int .u8 0,.int .u8 0,.int .u8 0,.int .u8 0,.int .u8 0,.int .u8 0,.int .u8 0,.int .u8 0,.int .u8 0,.int .u8 0,.int .u8 0,.int .u8 0,.int .u8 0,.int .u8 0,.int .u8 0,.int .u8 0,.int .u8 0,.int .u8 0,.int .u8 0,.int .u8 0,.int .u8 0,.int .u8 0,.int .u8 0,.int .u8 0,.int .u8 0,.int .u8 0,.int .u8 0,.int .u8 0,.int .u8 0,.int .u8 0,.int .u8 0,.int .u8 0,.int .u8 0,.int .u8 0,.int .u8 0,.int .u8 0,.int .u8 0,.int .u8 0,.int .u8 0,.int .u8 0,.int .u8 0,.int .u8 0,.int .u8 0,.int .u8 0,.int .u8 0,.int .u8 0,.int .u8 0,.int .u8 0,.int .u8 0,.int .u8 0,.int .u8 0,.int .u8 0,.int .u8 0]}
theorem Wz(a:Os)(args:Array Value):laidMet Tryz.prog mz ((CA a).forCall (λ_ _=>0) ⟨#[],args,[]⟩).memory:=laidMet_of_run3 10 (by kernel_rfl) (by kernel_rfl) (by kernel_rfl)
end Go.Proofs.YteakojhgmhmdkaaGreatDoor.rb

namespace Go.Proofs.YteakojhgmhmdkaaGreatDoor.rb
open Rb
variable{H:Type}{enc:TypeId×Value→H}{w:World}{sp:Nat→Bool}{held:Bool}{F:cz}
theorem WA:∃fT fF,Hu Tryz.prog 3 4 9 80 104 78 77 fT fF:=⟨_,_,Tryz.underlying3,Tryz.underlying4,Tryz.underlying9,Tryz.underlying80,Tryz.underlying104,Tryz.underlying78,Tryz.underlying77,rfl,rfl,by kernel_rfl,by kernel_rfl,λt ht=>by simp only[aah,adv,or_false]at ht;rcases ht with rfl|rfl|rfl|rfl|rfl<;>kernel_rfl⟩
theorem WB(n:Nat):Q F enc Tryz.prog w sp held n 80 U.cells U.ok:=let ⟨_,_,h⟩:=WA;QR h n
theorem WC:∃fE fL fR,Al Tryz.prog 3 47 9 138 39 96 90 37 fE fL fR:=⟨_,_,_,Tryz.underlying3,Tryz.underlying47,Tryz.underlying9,Tryz.underlying138,Tryz.underlying39,Tryz.underlying96,Tryz.underlying90,Tryz.underlying37,rfl,rfl,rfl,by kernel_rfl,by kernel_rfl,by kernel_rfl,λt ht=>by simp only[aah,adv,or_false]at ht;rcases ht with rfl|rfl|rfl|rfl|rfl<;>kernel_rfl⟩
theorem WD(n:Nat):Q F enc Tryz.prog w sp held n 82 B.cells B.ok:=QU Tryz.underlying9 (by kernel_rfl) (by kernel_rfl) WB Tryz.underlying82 rfl (by kernel_rfl) n
theorem WE(n:Nat):Q F enc Tryz.prog w sp held n 92 ay.cells ay.ok:=let ⟨_,_,_,h⟩:=WC;QV h Tryz.underlying92 Tryz.underlying36 rfl (by kernel_rfl) (by kernel_rfl) n
theorem WG(n:Nat):Q F enc Tryz.prog w sp held n 25 cH.cells cH.ok:=QW WD WE Tryz.underlying22 Tryz.underlying36 Tryz.underlying23 (by kernel_rfl) (by kernel_rfl) (by kernel_rfl) (by kernel_rfl) (by kernel_rfl) Tryz.underlying25 rfl (by kernel_rfl) n
end Go.Proofs.YteakojhgmhmdkaaGreatDoor.rb
