/- A part of the proof (part 7): see the last text. -/
import Derived.Test.YteakojhgmhmdkaaGreatDoorRb6
import Derived.Test.YteakojhgmhmdkaaGreatDoorRb5
import Derived.Test.YteakojhgmhmdkaaGreatDoorRb3
import Derived.SizedLaws
import Derived.Test.YteakojhgmhmdkaaGreatDoorRb4
import Derived.Test.YteakojhgmhmdkaaGreatDoorRb2
import Derived.Test.YteakojhgmhmdkaaGreatDoorTie
import Derived.Test.YteakojhgmhmdkaaGreatDoorCards
set_option linter.unusedVariables false
set_option linter.unusedSimpArgs false
set_option linter.unusedSectionVars false
open Bool renaming false_and→acY, false_eq_true→ZV, false_or→aai, true_and→abh
open Go.IntKind renaming bits→Ye, max→abD, min→abC, signed→Yd, wrap→Zb
open Go.Lib renaming TabIs→adw, cells_of_tab→adx, tabData→adv
open List renaming drop_eq_getElem_cons→abK, flatMap_cons→abk, getElem?_cons_succ→abq, getElem?_cons_zero→abp, getElem?_eq_getElem→YU, getElem?_eq_some_iff→X1, length_take→ab3, mem_cons→aan, mem_map→aaE, mem_of_getElem?→aaN, not_mem_nil→ady
open Option renaming some→Yh
namespace Go.Proofs.YteakojhgmhmdkaaGreatDoor.rb
open Rb
noncomputable section
def sU:List (Nat×List I×I):=[
  (219,[.int .u8 (.ofNat 32)],.bool false),
  (139,[.str [118,97,114,32,116,104,114,101,97,100,32,115,116,114,117,99,116,32,117,110,105,111,110,32,112,97,99,107,101,100,32,117,56,32,117,49,54,32,117,51,50,32,117,54,52,32,97,56,32,97,49,54,32,97,51,50,32,97,54,52,32,97,49,50,56,32,108,101,116,32,115,101,116,32,119,114,105,116,101,32,115,116,111,114,101,32,108,111,97,100,50,32,115,116,111,114,101,50,32,102,101,110,99,101,32,105,102,32,101,108,115,101,32,119,104,105,108,101,32,112,114,105,110,116,32,114,101,97,100,32,108,111,97,100,32,97,100,100,32,115,119,97,112,32,99,97,115,32,114,108,120,32,97,99,113,32,114,101,108,32,115,99]],.aq .dead 34 [.str [118,97,114],.str [116,104,114,101,97,100],.str [115,116,114,117,99,116],.str [117,110,105,111,110],.str [112,97,99,107,101,100],.str [117,56],.str [117,49,54],.str [117,51,50],.str [117,54,52],.str [97,56],.str [97,49,54],.str [97,51,50],.str [97,54,52],.str [97,49,50,56],.str [108,101,116],.str [115,101,116],.str [119,114,105,116,101],.str [115,116,111,114,101],.str [108,111,97,100,50],.str [115,116,111,114,101,50],.str [102,101,110,99,101],.str [105,102],.str [101,108,115,101],.str [119,104,105,108,101],.str [112,114,105,110,116],.str [114,101,97,100],.str [108,111,97,100],.str [97,100,100],.str [115,119,97,112],.str [99,97,115],.str [114,108,120],.str [97,99,113],.str [114,101,108],.str [115,99]]),
  (188,[.aq .dead 34 [.str [118,97,114],.str [116,104,114,101,97,100],.str [115,116,114,117,99,116],.str [117,110,105,111,110],.str [112,97,99,107,101,100],.str [117,56],.str [117,49,54],.str [117,51,50],.str [117,54,52],.str [97,56],.str [97,49,54],.str [97,51,50],.str [97,54,52],.str [97,49,50,56],.str [108,101,116],.str [115,101,116],.str [119,114,105,116,101],.str [115,116,111,114,101],.str [108,111,97,100,50],.str [115,116,111,114,101,50],.str [102,101,110,99,101],.str [105,102],.str [101,108,115,101],.str [119,104,105,108,101],.str [112,114,105,110,116],.str [114,101,97,100],.str [108,111,97,100],.str [97,100,100],.str [115,119,97,112],.str [99,97,115],.str [114,108,120],.str [97,99,113],.str [114,101,108],.str [115,99]],.str [115]],.int .i64 (.negSucc 0))]
def Cf:List (Nat×List I×I):=[
  (55,[.str [118,97,114,32,115,32,115,116,114,117,99,116,32,123,32,97,32,117,56,32,59,32,98,32,117,51,50,32,58,32,51,32,59,32,99,32,117,51,50,32,58,32,57,32,59,32,100,32,117,56,32,59,32,125,32,59,32,116,104,114,101,97,100,32,123,32,119,114,105,116,101,32,115,46,99,32,61,32,53,32,59,32,112,114,105,110,116,32,114,101,97,100,32,115,46,100,32,59,32,125]],.ar [.agg [.aq .dead 1 [.str [115],.int .i64 (.ofNat 3),.int .i64 (.ofNat 0),.bool false,.aq .dead 4 [.str [97],.int .i64 (.ofNat 1),.int .i64 (.ofNat 1),.bool false,.aq .dead 0 [],.int .i64 (.ofNat 0),.aq .dead 0 [],.bool false,.int .i64 (.ofNat 0),.str [98],.int .i64 (.ofNat 1),.int .i64 (.ofNat 4),.bool false,.aq .dead 0 [],.int .i64 (.ofNat 0),.aq .dead 0 [],.bool true,.int .i64 (.ofNat 3),.str [99],.int .i64 (.ofNat 1),.int .i64 (.ofNat 4),.bool false,.aq .dead 0 [],.int .i64 (.ofNat 0),.aq .dead 0 [],.bool true,.int .i64 (.ofNat 9),.str [100],.int .i64 (.ofNat 1),.int .i64 (.ofNat 1),.bool false,.aq .dead 0 [],.int .i64 (.ofNat 0),.aq .dead 0 [],.bool false,.int .i64 (.ofNat 0)],.int .i64 (.ofNat 0),.aq .dead 0 []],.aq .dead 1 [.aq .dead 2 [.int .i64 (.ofNat 3),.int .i64 (.ofNat 1),.str [],.str [],.int .i64 (.ofNat 0),.str [115],.aq .dead 1 [.str [99],.aq .dead 0 []],.aq .dead 1 [.int .i64 (.ofNat 1),.int .u64 (.ofNat 5),.str [],.int .i64 (.ofNat 0),.int .i64 (.ofNat 0),.str [],.aq .dead 0 [],.aq .dead 0 []],.aq .dead 0 [],.aq .dead 0 [],.int .i64 (.ofNat 10),.int .i64 (.ofNat 1),.str [],.str [],.int .i64 (.ofNat 0),.str [],.aq .dead 0 [],.aq .dead 1 [.int .i64 (.ofNat 4),.int .u64 (.ofNat 0),.str [],.int .i64 (.ofNat 0),.int .i64 (.ofNat 0),.str [115],.aq .dead 1 [.str [100],.aq .dead 0 []],.aq .dead 0 []],.aq .dead 0 [],.aq .dead 0 []]]],.agg [.int .i64 (.ofNat 0),.int .i64 (.ofNat 0)]])]
theorem VS:forced (nI (rA RbNa) sU)=true:=by kernel_rfl
theorem KW:gY (ai C) (fY (sU++RbNa)):=rv j2 (uA KV) KV (dD VS)
theorem VT:forced (nI (rA (sU++RbNa)) Cf)=true:=by kernel_rfl
theorem VU:gY (ai C) (fY (Cf++(sU++RbNa))):=rv j2 (uA KW) KW (dD VT)
theorem VV:forced (nI (rA (Cf++(sU++RbNa))) [(8,[],.bool true)])=true:=by kernel_rfl
theorem VW:gY (ai C) (fY [(8,[],.bool true)]):=rv j2 (uA VU) uz (N:=[(8,[],.bool true)]) (dD VV)
end
end Go.Proofs.YteakojhgmhmdkaaGreatDoor.rb

namespace Rb
open Go
structure Cg(a:Int)(r:List U)(x:Int×Int)(n:Nat):Prop where
 ex:∃v g y,r[n]?=some v∧(cy a r)[n]?=some g∧y∈aS v.type 0∧x=(g.at_+y.1,y.2)∧65536+a≤g.at_∧g.at_+g.len≤131072∧kh 0 g.len y
theorem KY:∀(r:List U)(a:Int)(l:List (Int×Int)),(∀v∈r,v.ok∧(aZ v.type).2=0)→0≤a→gM a r≤65536→fm r (cy a r)=some l→(∀x∈l,∃n,Cg a r x n)∧∀(n:Nat)(v:U)(g:bp)(y:Int×Int),r[n]?=some v→(cy a r)[n]?=some g→y∈aS v.type 0→(g.at_+y.1,y.2)∈l
 | [],a,l,_,_,_,h=>by
  rw[fm]at h
  ·cases h;exact⟨λx c=>(by cases c),λn v g y hv=>(by simp at hv)⟩
  ·intros;simp_all
 | v :: r,a,l,hv,ha,he,h=>by
  obtain⟨p,hz⟩:=hv v (List.mem_cons_self ..);have f:∀w∈r,w.ok∧(aZ w.type).2=0:=λw hw=>hv w (List.mem_cons_of_mem _ hw);obtain⟨b1,b2,b3,E⟩:=xe hz;have hu:a≤e2 a v:=(hj (n:=a) (step:=(aZ v.type).1.2) (by omega)).1;rw[gM]at he;have hle:=Bs (a:=e2 a v+(aZ v.type).1.1) λw hw=>(f w hw).2;have i:=oe p.2 hz;have q:(A v.type).1.1=(aZ v.type).1.1:=by rw[i.zero]
  rw[cy,fm]at h;by_cases j:(eC v.type).2≠0
  ·rw[aa j]at h;cases h
  rw[ae j]at h;have k:(eC v.type).2=0:=by omega
  cases hw:fm r (cy (e2 a v+(aZ v.type).1.1) r)with
  |none=>rw[hw]at h;cases h
  | some l'=>
   rw[hw]at h;simp only[Option.map_some,Yh.injEq]at h;subst h;obtain⟨i1,i2⟩:=KY r (e2 a v+(aZ v.type).1.1) l' f (by omega) he hw;have m:∀y∈aS v.type 0,kh 0 (aZ v.type).1.1 y:=λy b=>by have:=BR v.type i 0 (by decide) (by omega) y b;rwa [q]at this
   have o:∀y∈aS v.type 0,B (65536+e2 a v+y.1)=65536+e2 a v+y.1:=λy b=>by obtain⟨F,G,H⟩:=m y b;exact bI
   refine⟨λx c=>?_,λn w g y hn d b=>?_⟩
   · rcases List.mem_append.1 c with c|c
     · obtain⟨y,b,rfl⟩:=aaE.1 c;have e:=(H4 k y).1 b;refine⟨0,v,_,y,rfl,rfl,e,?_,by show 65536+a≤65536+e2 a v;omega,by show 65536+e2 a v+(aZ v.type).1.1≤_;omega,m y e⟩;show(B (65536+e2 a v+y.1),y.2)=_;rw[o y e]
     · obtain⟨n,w,g,y,s,t,u,z,I,C,D⟩:=i1 x c;exact⟨n+1,w,g,y,by simpa using s,by rw[cy];simpa using t,u,z,by omega,C,D⟩
   · cases n with
     | zero=>rw[cy]at d;simp only[abp,Yh.injEq]at hn d;subst hn d;refine List.mem_append_left _ (aaE.2 ⟨y,(H4 k y).2 b,?_⟩);show(B (65536+e2 a v+y.1),y.2)=_;rw[o y b]
     | succ n=>rw[cy]at d;simp only[abq]at hn d;exact List.mem_append_right _ (i2 n w g y hn d b)
theorem Cg.VX{a:Int}{r:List U}{x:Int×Int}{n:Nat}(h:Cg a r x n)(ha:0≤a):65536≤x.1∧1≤x.2∧x.1+x.2≤131072:=by obtain⟨v,g,y,_,_,_,rfl,c,d,e,b,f⟩:=h;exact⟨by show 65536≤g.at_+y.1;omega,b,by show g.at_+y.1+y.2≤_;omega⟩
theorem VY{p:cA}(hp:p.ok)(n k:Int):∀x∈(cZ p n k).1,0≤x.1∧x.1≤1099511627776∧0≤x.2∧x.2≤1048576:=by
 intro x a;unfold cZ at a;split at a
 ·cases a
 split at a
 ·cases a
 rename_i m hm;split at a
 ·cases a
 split at a
 ·cases a
 split at a
 ·cases a
 rename_i aS hl;obtain⟨y,_,rfl⟩:=aaE.1 a;obtain⟨_,b,_⟩:=Cd hp (aaN hm);obtain⟨i1,_⟩:=KY p.vars 0 aS (λv hv=>⟨b.o v hv,b.z v hv⟩) (by decide) b.e hl;have hb:∀z∈aS,65536≤z.1∧1≤z.2∧z.1+z.2≤131072:=λz hz=>by obtain⟨n,h⟩:=i1 z hz;exact h.VX (by decide)
 unfold lP;rcases T7 (l:=aS) (s:=oA (d_ p.vars m.pl y)) (λz hz=>(hb z hz).2.1)with h|h
 ·rw[h];decide
 · have:=hb _ h;omega
end Rb

namespace Rb
open Go
structure bW where
 e3:Int
 site:Int
 rd:Bool
 wr:Bool
 fn:Bool
 at_:Int
 len_:Int
 data:List Int
 aV:Int
 VZ:Bool
 pair:Int
def bW.cells(e:bW):List I:=[.int .i64 e.e3,.int .i64 e.site,.bool e.rd,.bool e.wr,.bool e.fn,.int .i64 e.at_,.int .i64 e.len_,av (i1 .u8) e.data,.int .i64 e.aV,.bool e.VZ,.int .i64 e.pair]
def K0(l:List Int):List I:=[av (i1 .i64) l]
structure qx where
 events:List bW
 from_:List (List Int)
 after:List (List Int)
 size:Int
def qx.cells(x:qx):List I:=[av bW.cells x.events,av K0 x.from_,av K0 x.after,.int .i64 x.size]
theorem bW.len(e:bW):e.cells.length=11:=rfl
theorem qx.len(x:qx):x.cells.length=4:=rfl
def jN(z:Int):Prop:=abC .i64≤z∧z≤abD .i64
theorem jN.lo{z:Int}(h:jN z) : -9223372036854775808≤z:=by have:=h.1;simp[abC,Yd,Ye]at this;omega
theorem jN.hi{z:Int}(h:jN z):z≤9223372036854775807:=by have:=h.2;simp[abD,Yd,Ye]at this;omega
structure bW.ok(e:bW):Prop where
 e3:jN e.e3
 site:jN e.site
 at_:jN e.at_
 len_:jN e.len_
 aV:jN e.aV
 pair:jN e.pair
structure qx.ok(x:qx):Prop where
 events:x.events.length≤maxLen∧∀e∈x.events,e.ok
 from_:x.from_.length≤maxLen∧∀l∈x.from_,l.length≤maxLen∧∀z∈l,jN z
 after:x.after.length≤maxLen∧∀l∈x.after,l.length≤maxLen∧∀z∈l,jN z
 size:jN x.size
section
variable{H:Type}{enc:TypeId×Value→H}{P:Program}{w:World}{sp:Nat→Bool}{held:Bool}{F:cx}
theorem V0{ti tb tu a b tE:TypeId}{d fE:Array Field}(hi:P.underlying ti=some (.int .i64))(hb:P.underlying tb=some .bool)(h:P.underlying tu=some (.int .u8))(hS:P.underlying a=some (.struct d))(i:d.toList.map (λf=>(f.type,f.offset))=[(ti,0),(ti,1)])
  (j:P.underlying b=some (.slice tu)) (k:P.underlying tE=some (.struct fE)) (lE:fE.toList.map (λf=>(f.type,f.offset))=[(ti,0),(ti,1),(tb,2),(tb,3),(tb,4),(a,5),(b,7),(ti,8),(tb,9),(ti,10)])
  (ci:P.cellsOf ti=1) (e:P.cellsOf tb=1) (l:P.cellsOf tu=1) (c:P.cellsOf a=2) (g:P.cellsOf b=1) (cE:P.cellsOf tE=11):∀n,Q F enc P w sp held n tE bW.cells bW.ok:=by
 intro n;refine Q.mono (n:=n+1+1) ?_ (by omega);have m:Q F enc P w sp held (n+1) a _ _:=Q.struct hS i (by simp[jh,ci]) (by simp[hU,ci,c]) (cb.cons (Q.int hi) (cb.cons (Q.int hi) cb.nil));have o:Q F enc P w sp held (n+1) b (λxs:List Int=>[av (i1 .u8) xs]) _:=Q.slice j l (by decide) (λ_=>rfl) (Q.int h);refine Q.map (λ(x:Int×Int×Bool×Bool×Bool×(Int×Int×Unit)×List Int×Int×Bool×Int×Unit)=>(⟨x.1,x.2.1,x.2.2.1,x.2.2.2.1,x.2.2.2.2.1,x.2.2.2.2.2.1.1,x.2.2.2.2.2.1.2.1,x.2.2.2.2.2.2.1,x.2.2.2.2.2.2.2.1,x.2.2.2.2.2.2.2.2.1,x.2.2.2.2.2.2.2.2.2.1⟩:bW)) (λx=>?_) (λx p=>?_)
  (Q.struct k lE (by simp[jh,ci,e,c,g]) (by simp[hU,ci,e,c,g,cE]) (cb.cons (Q.int hi) (cb.cons (Q.int hi) (cb.cons (Q.bool hb) (cb.cons (Q.bool hb) (cb.cons (Q.bool hb) (cb.cons m (cb.cons o (cb.cons (Q.int hi) (cb.cons (Q.bool hb) (cb.cons (Q.int hi) cb.nil)))))))))))
 ·rfl
 · obtain⟨h1,q,_,_,_,⟨r,s,_⟩,u,h9,_,t,_⟩:=p;exact⟨h1,q,r,s,h9,t⟩
end
end Rb

namespace Rb
open Go
variable{i:Nat}
def sV(a l:Int):List I:=[M a,M l]
def mr(xs:List bW)(i k:Nat):I:= .af (((xs.flatMap bW.cells).drop (i*11)).drop k)
theorem K1{xs:List bW}(hi:i<xs.length):aO none 11 (av bW.cells xs) (M i)=some (dE bW.cells 11 xs i):=cK hi
theorem V1(xs:List bW)(i k:Nat):W k (dE bW.cells 11 xs i)=some (mr xs i k):=rfl
theorem xX{xs:List bW}{e:bW}(hi:xs[i]?=some e):(xs.flatMap bW.cells).drop (i*11)=e.cells++(xs.drop (i+1)).flatMap bW.cells:=by
 rw[nP bW.len];have a:=(X1.1 hi).1;have b:xs.drop i=e::xs.drop (i+1):=by rw[abK a];rw[YU a]at hi;simp at hi;rw[hi]
 rw[b,abk]
theorem V2{xs:List bW}{e:bW}(hi:xs[i]?=some e)(H:Z):O H 11 true (dE bW.cells 11 xs i)=some (.agg e.cells):=dz bW.len (by decide) H hi
theorem V4{xs:List bW}{e:bW}(hi:xs[i]?=some e)(H:Z):O H 1 false (mr xs i 3)=some (.bool e.wr):=by unfold mr;rw[xX hi];rfl
theorem V5{xs:List bW}{e:bW}(hi:xs[i]?=some e)(H:Z):O H 2 true (mr xs i 5)=some (.agg (sV e.at_ e.len_)):=by unfold mr;rw[xX hi];rfl
theorem V6{xs:List bW}{e:bW}(hi:xs[i]?=some e)(H:Z):O H 1 false (mr xs i 0)=some (M e.e3):=by unfold mr;rw[xX hi];rfl
theorem V7{xs:List bW}{e:bW}(hi:xs[i]?=some e)(H:Z):O H 1 false (mr xs i 1)=some (M e.site):=by unfold mr;rw[xX hi];rfl
theorem bW.scalar(e:bW):e.cells.all I.scalar=true:=rfl
theorem bW.a_(e:bW):I.bA e.cells=true:=by have:(av (i1 .u8) e.data).a_=true:=j4 (λ_=>rfl) _;simp only[bW.cells,I.bA,I.a_,this,Bool.and_self]
end Rb

namespace Rb
open Go
variable{H:Z}{xs:List bW}{Q:ad}
def jO(p:cA)(e:bW):Bool:=e.wr&&(!(cZ p e.e3 e.site).2||!((cZ p e.e3 e.site).1.any λs=>gF (e.at_,e.len_) s))
def ep(p:cA):List bW→Nat→Int×Bool
 |[],_=>(0,false)
 |e::r,i=>if jO p e then((i:Nat),true)else ep p r (i+1)
def ng(e:bW):Bool:=decide (0≤e.at_)&&decide (e.at_≤1099511627776)&&decide (1≤e.len_)&&decide (e.len_≤1048576)
theorem K2(e:bW):ng e=true↔0≤e.at_∧e.at_≤1099511627776∧1≤e.len_∧e.len_≤1048576:=by unfold ng;simp only[Bool.and_eq_true,dQ];omega
theorem V8(h:20<xs.length):c9 11 (av bW.cells xs) none (some (.int .i64 20)) none=some (av bW.cells (xs.take 20)):=by
 have hc:(xs.flatMap bW.cells).length=xs.length*11:=Hm bW.len xs;simp only[c9,av,eh,Option.map_none,Nat.le_refl,Int.reduceLE,aY,Int.reduceToNat];rw[aa ⟨by omega,by omega,by simpa using hc⟩,bC];have ht:(xs.take 20).flatMap bW.cells=(xs.flatMap bW.cells).take (20*11):=by rw[←Hv bW.len]
 simp[ht,ab3];omega
theorem V9{Φ:aj}{Q:ad}{p:Int×Int→Bool}{key:Nat}{bx:List I}{xs:List (Int×Int)}(hf:∀x∈xs,∀(R:ad),R (.bool (p x)) H→Φ key ([.agg (u x)]++bx) H R)(hl:xs.length≤9223372036854775807)
  (hQ:Q (.int .i64 (fI (xs.findIdx? p))) H) (a:fB key=none:=by first|assumption|rfl):S.f59 Φ (av u xs) (.fn key bx) H Q:=by
 have h:p5 2 Φ (av u xs) (.fn key bx) H Q:=wt (cells:=u) (sz:=2) (λ_=>rfl) (by decide) hf hl hQ;exact h
theorem K3{p:cA}(hp:p.ok)(n k:Int):(cZ p n k).1.length≤9223372036854775807:=by
 unfold cZ;split
 ·decide
 split
 ·decide
 rename_i m hm;split
 ·decide
 rename_i hw;split
 ·decide
 rename_i v hv;split
 ·decide
 rename_i aS hl;obtain⟨h1,_⟩:=KP hp n;obtain⟨_,_,_,a⟩:=h1 m (aaN hm) (by simpa using hw);obtain⟨b,c,d⟩:=Cb _ 1 v a (by decide) (by decide) hv;rw[List.length_map];simp at b;omega
section
variable{C:Ctx}(ak:bP C)(hT:Cl (ai C) S.bu){p:cA}(hp:p.ok)(hA:∀n k:Int,-9223372036854775808≤k∧k≤9223372036854775807→bE (ai C) 6 [.agg p.cells,.int .i64 n,.int .i64 k] (.ar [av u (cZ p n k).1,.bool (cZ p n k).2]))
include ak hT hp hA
theorem V_{e:bW}{id:Nat}(h:At H id (.row e.cells))(s:Int×Int){R:ad}(a:R (.bool (gF (e.at_,e.len_) s)) H):ai C 34 ([.agg (u s)]++[.ptr id 0]) H R:=by
 refine S.OX hT ?_;unfold S.f34;simp only[ow,aP,dX,D,Nat.zero_add];have b:O H 2 true (.ptr id 5)=some (.agg (u (e.at_,e.len_))):=by rw[h.load];rfl
 rw[b];simp only[D,xH];exact JU ak hT _ _ _ _ a
theorem Wa(k:∀e∈xs,e.ok)(hl:xs.length≤9223372036854775807)(hQ:∀H',Q (.ar [.int .i64 (ep p xs 0).1,.bool (ep p xs 0).2]) H'):ai C 13 [.agg p.cells,av bW.cells xs] H Q:=by
 refine S.ON hT ?_;unfold S.f13;have l:∀H,aK H false 2 (.agg p.cells)=some (.af p.cells,H):=λH=>by unfold aK;rw[aa ⟨rfl,rfl⟩];rfl
 have m:∀H,O H 2 true (.af p.cells)=some (.agg p.cells):=λ_=>rfl;simp only[l,aP,cO,D];have main:∀(r:List bW)(i:Nat)(H:Z),xs.drop i=r→ep p r i=ep p xs 0→aA (S.rD (ai C) (av bW.cells xs) (.af p.cells) (.int .i64 xs.length) Q) ([.int .i64 i],H):=by
  intro r;induction r with
  | nil=>intro i H b he;have hle:=ek b;refine aA.step ?_;simp only[S.rD,aE,bD,D,aB];rw[ee];rw[←he]at hQ;exact hQ _
  | cons e r o=>
   intro i H b he;obtain⟨q,c,t⟩:=ed b;have d:=k e (aaN c);refine aA.step ?_;simp only[S.rD,aE,bD,D,aB];rw[dU,K1 q];simp only[D];rw[V2 c];simp only[D,aP,aJ,aY];rw[cM _ _ _ 11 e.len e.scalar rfl];simp only[D,dX];have a:=At.new H (.row e.cells);have l3:O (H.push (.row e.cells)) 1 false (.ptr H.n (0+3))=some (.bool e.wr):=by rw[a.load];rfl
   have l0:O (H.push (.row e.cells)) 1 false (.ptr H.n (0+0))=some (.int .i64 e.e3):=by rw[a.load];rfl
   have l1:O (H.push (.row e.cells)) 1 false (.ptr H.n (0+1))=some (.int .i64 e.site):=by rw[a.load];rfl
   rw[l3];simp only[D,dS,aB,aR];have next:∀H',jO p e=false→S.uF (ai C) ([.int .i64 i],H) (aA (S.rD (ai C) (av bW.cells xs) (.af p.cells) (.int .i64 xs.length) Q)) Q [] H':=λH' hs=>by unfold S.uF;simp only[aE,b4,D];rw[wrap_i64 (n:=(i:Int)+1) (by omega) (by omega),cN];refine o (i+1) H' t ?_;rw[ep,ae (by rw[hs];decide)]at he;exact he
   have stop:∀H',jO p e=true→Q (.ar [.int .i64 i,.bool true]) H':=λH' hs=>by rw[ep,aa hs]at he;rw[←he]at hQ;exact hQ H'
   by_cases hw:e.wr=true
   · rw [ae (by rw[hw];decide),m];simp only[D,l0,l1];refine hA e.e3 e.site ⟨d.site.lo,d.site.hi⟩ _ _ ?_;simp only[bh,abp,abq,D,dS,cv,aR];by_cases hk:(cZ p e.e3 e.site).2=true
     · rw [aa (by rw[hk];rfl)];refine S.OW hT ?_;unfold S.f33;refine S.O9 hT (V9 (p:=λs=>gF (e.at_,e.len_) s) (λs _ R u=>V_ ak hT hp hA a s u) (K3 hp _ _) ?_)
       · simp only[f_,D,rY,dS,S.uG,aE,aB];have f:jO p e=!((cZ p e.e3 e.site).1.any λs=>gF (e.at_,e.len_) s):=by unfold jO;rw[hw,hk];rfl
         apply aF<;>intro h
         ·exact stop _ (by rw[f];exact h)
         ·exact next _ (by rw[f];simpa using h)
     · have g:(cZ p e.e3 e.site).2=false:=by simpa using hk
       rw[ae (by rw[g];decide)];simp only[S.uG,aE,aB,aY];exact stop _ (by unfold jO;rw[hw,g];rfl)
   · have j:e.wr=false:=by simpa using hw
     rw[aa (by rw[j];rfl)];exact next _ (by unfold jO;rw[j];rfl)
 exact main xs 0 H rfl rfl
end
end Rb

namespace Rb
open Go
variable{xs:List bW}{H:Z}{Q:ad}
def qy(xs:List (Int×Int))(k j:Nat):I:= .af (((xs.flatMap u).drop (k*2)).drop j)
theorem Wb{xs:List (Int×Int)}{k:Nat}{s:Int×Int}(H:Z)(h:xs[k]?=some s):W 0 (dE u 2 xs k)=some (qy xs k 0)∧O H 1 false (qy xs k 0)=some (.int .i64 s.1)∧W 1 (dE u 2 xs k)=some (qy xs k 1)∧O H 1 false (qy xs k 1)=some (.int .i64 s.2):=by
 have a:(xs.flatMap u).drop (k*2)=u s++(xs.drop (k+1)).flatMap u:=by
  rw[nP (sz:=2) (λ_=>rfl)];have b:=(X1.1 h).1;have a:xs.drop k=s::xs.drop (k+1):=by rw[abK b];rw[YU b]at h;simp at h;rw[h]
  rw[a,abk]
 refine⟨rfl,?_,rfl,?_⟩
 ·unfold qy;rw[a];rfl
 ·unfold qy;rw[a];rfl
section
variable{C:Ctx}(ak:bP C)(hT:Cl (ai C) S.bu){p:cA}(hp:p.ok)(hA:∀n k:Int,-9223372036854775808≤k∧k≤9223372036854775807→bE (ai C) 6 [.agg p.cells,.int .i64 n,.int .i64 k] (.ar [av u (cZ p n k).1,.bool (cZ p n k).2]))
 (hW:bE (ai C) 8 [] (.bool true))
include ak hT hp hA hW
theorem K4(w:∀e∈xs,e.ok)(hl:xs.length≤9223372036854775807)(hQ:∀H',Q (.bool true) H'):S.uD (ai C) (.af p.cells) Q [av bW.cells xs] H:=by
 have x:∀H,O H 2 true (.af p.cells)=some (.agg p.cells):=λ_=>rfl;unfold S.uD;simp only[aE,x,D];refine Wa ak hT hp hA w hl λH'=>?_;simp only[bh,abp,abq,D];have main : ∀(r:List bW)(i:Nat)(H:Z),xs.drop i=r→ep p r i=ep p xs 0→aA (S.l9 (ai C) (.af p.cells) (.int .i64 (ep p xs 0).1) (.bool (ep p xs 0).2) [av bW.cells xs] Q) ([.int .i64 i],H):=by
  intro r;induction r with
  | nil=>intro i H o he;have hle:=ek o;refine aA.step ?_;simp only[S.l9,aE,cO,bD,D,aB];rw[ee];simp only[aR,S.Em];refine hW _ _ ?_;rw[←he];simp only[ep,cD,aY,dS,D,Bool.not_false,aR,S.zK,aE,cJ];exact hQ _
  | cons e r G=>
   intro i H o he;obtain⟨I,f,J⟩:=ed o;have y:=w e (aaN f);refine aA.step ?_;simp only[S.l9,aE,cO,bD,D,aB];rw[dU,K1 I];simp only[D,V1,V4 f,dS,aB,aR];have next:∀H',jO p e=false→S.uB (ai C) ([.int .i64 i],H) (aA (S.l9 (ai C) (.af p.cells) (.int .i64 (ep p xs 0).1) (.bool (ep p xs 0).2) [av bW.cells xs] Q)) Q [] H':=λH' hs=>by unfold S.uB;simp only[aE,b4,D];rw[wrap_i64 (n:=(i:Int)+1) (by omega) (by omega),cN];refine G (i+1) H' J ?_;rw[ep,ae (by rw[hs];decide)]at he;exact he
   by_cases hw:e.wr=true
   · rw [ae (by rw[hw];decide),x];simp only[D,V6 f,V7 f];refine hA e.e3 e.site ⟨y.site.lo,y.site.hi⟩ _ _ ?_;simp only[bh,abp,abq,D,V5 f,aP,aJ,aY];rw[cM _ _ _ 2 rfl rfl rfl];simp only[D,dX];have z:=At.new H (.row (sV e.at_ e.len_));have l0:O (H.push (.row (sV e.at_ e.len_))) 1 false (.ptr H.n (0+0))=some (.int .i64 e.at_):=by rw[z.load];rfl
     have l1:O (H.push (.row (sV e.at_ e.len_))) 1 false (.ptr H.n (0+1))=some (.int .i64 e.len_):=by rw[z.load];rfl
     generalize H.push (.row (sV e.at_ e.len_))=d at *;generalize H.n=id at *;have fin:∀b:Bool,(e.wr&&(!b))=jO p e→S.zH (ai C) (.int .i64 (ep p xs 0).1) (.bool (ep p xs 0).2) ([.int .i64 i],H) (aA (S.l9 (ai C) (.af p.cells) (.int .i64 (ep p xs 0).1) (.bool (ep p xs 0).2) [av bW.cells xs] Q)) Q [.bool b] d:=by
      intro b hb;unfold S.zH;simp only[aE,dS,D,aB,aR];rw[hw,abh]at hb;apply aF<;>intro h
      · rw[h]at hb;refine hW _ _ ?_;rw[ep,aa hb.symm]at he;rw[←he];simp only[cD,aY,S.zG,aE,cJ,D,beq_self_eq_true];exact hQ _
      ·exact next _ (by rw[←hb];simpa using h)
     have inner:∀(g:List (Int×Int)) (k:Nat) (b:Bool),(cZ p e.e3 e.site).2=true→(cZ p e.e3 e.site).1.drop k=g→(e.wr&&!(b||g.any λs=>gF (e.at_,e.len_) s))=jO p e →
       aA (S.pN (ai C) (.int .i64 (ep p xs 0).1) (.bool (ep p xs 0).2) (av u (cZ p e.e3 e.site).1) (.bool (cZ p e.e3 e.site).2) (.ptr id 0) ([.int .i64 i],H) (aA (S.l9 (ai C) (.af p.cells) (.int .i64 (ep p xs 0).1) (.bool (ep p xs 0).2) [av bW.cells xs] Q)) [.bool (ng e)] Q) ([.bool b,.int .i64 k],d):=by
      intro g;induction g with
      | nil=>intro k b hf t hs;have hle:=ek t;refine aA.step ?_;simp only[S.pN,aE,cW,cO,bD,D,cD,aR];rw[ee];simp only[S.rB,aE,aB,ZV,bR,aR];exact fin b (by rw[←hs];simp)
      | cons s g K=>
       intro k b hf t hs;obtain⟨L,A,M⟩:=ed t;have hlen:=K3 hp e.e3 e.site;have N:=VY hp e.e3 e.site s (aaN A);refine aA.step ?_;simp only[S.pN,aE,cW,cO,bD,D,cD,aR];rw[dU];simp only[S.rB,aE,aB,hf,aY,aR,S.El,cv,cW];have go:∀j:Bool,j=(b||gF (e.at_,e.len_) s)→S.pM (ai C) ([.bool b,.int .i64 k],d) (aA (S.pN (ai C) (.int .i64 (ep p xs 0).1) (.bool (ep p xs 0).2) (av u (cZ p e.e3 e.site).1) (.bool (cZ p e.e3 e.site).2) (.ptr id 0) ([.int .i64 i],H) (aA (S.l9 (ai C) (.af p.cells) (.int .i64 (ep p xs 0).1) (.bool (ep p xs 0).2) [av bW.cells xs] Q)) [.bool (ng e)] Q)) Q [.bool j] d:=by intro j v;unfold S.pM;simp only[aE,cW,b4,D];rw[wrap_i64 (n:=(k:Int)+1) (by omega) (by omega),cN];refine K (k+1) j hf M ?_;rw[←hs,v,List.any_cons,Bool.or_assoc]
       rw[hf]at go;by_cases hb:b=false
       · subst hb;simp only[aY,dS,D,cv];by_cases l:ng e=true
         · rw [aa (by rw[l];rfl)];have m:=(K2 e).1 l;have B:=within_iff (a:=(e.at_,e.len_)) (b:=s) ⟨m.1,m.2.1,m.2.2.1,m.2.2.2⟩ N;have P:aO none 2 (av u (cZ p e.e3 e.site).1) (.int .i64 k)=some (dE u 2 (cZ p e.e3 e.site).1 k):=cK L;obtain⟨z0,R,z2,z3⟩:=Wb d A;simp only[dX,l0,l1,D,P,z0,R,z2,z3,f_,b4,ji,cD,aR];have w1:Zb .i64 (e.at_+e.len_)=e.at_+e.len_:=bI;have w2:Zb .i64 (s.1+s.2)=s.1+s.2:=bI;rw[w1,w2];refine aF (λh=>go _ ?_) (λh=>go _ ?_)
           · rw[aai,Bool.eq_iff_iff,B,dQ];have:e.at_≥s.1:=by simpa using h
             exact⟨λq=>⟨this,q⟩,λq=>q.2⟩
           · rw[aai];symm;rw[Bool.eq_false_iff,Ne,B];have:¬e.at_≥s.1:=by simpa using h
             exact λq=>this q.1
         · have T:ng e=false:=by simpa using l
           rw[ae (by rw[T];decide)];exact go _ (by rw[T6 (a:=(e.at_,e.len_)) (λh=>l ((K2 e).2 ⟨h.1,h.2.1,h.2.2.1,h.2.2.2⟩))];rfl)
       · have v:b=true:=by simpa using hb
         subst v;rw[el];exact go _ rfl
     have c:S.uC (ai C) (.int .i64 (ep p xs 0).1) (.bool (ep p xs 0).2) (av u (cZ p e.e3 e.site).1) (.bool (cZ p e.e3 e.site).2) (.ptr id 0) ([.int .i64 i],H) (aA (S.l9 (ai C) (.af p.cells) (.int .i64 (ep p xs 0).1) (.bool (ep p xs 0).2) [av bW.cells xs] Q)) Q [.bool (ng e)] d:=by
      unfold S.uC;by_cases hf:(cZ p e.e3 e.site).2=true
      · refine inner _ 0 false hf rfl ?_;unfold jO;rw[hf,aai];simp
      · have E:(cZ p e.e3 e.site).2=false:=by simpa using hf
        refine aA.step ?_;simp only[S.pN,aE,cW,cO,bD,D,cD,aR,E,S.rB,aB,ZV,bR,ite_self];exact fin false (by unfold jO;rw[E];rfl)
     simp only[dX,l0,l1,D,f_,ji,cD,aR,S.zJ,S.zI,aE];have U:ng e=(decide (0≤e.at_)&&decide (e.at_≤1099511627776)&&decide (1≤e.len_)&&decide (e.len_≤1048576)):=rfl;rw[U]at c;by_cases c1:e.at_≥0
     · rw [aa (by simpa using c1)];rw[show decide (0≤e.at_)=true by simpa using c1,abh]at c;by_cases c2:e.at_≤1099511627776
       · rw [aa (by simpa using c2)];rw[show decide (e.at_≤1099511627776)=true by simpa using c2,abh]at c;by_cases c3:e.len_≥1
         · rw[aa (by simpa using c3)];rw[show decide (1≤e.len_)=true by simpa using c3,abh]at c;exact c
         · rw[ae (by simpa using c3)];rw[show decide (1≤e.len_)=false by simpa using c3,acY]at c;exact c
       · rw[ae (by simpa using c2),el];rw[show decide (e.at_≤1099511627776)=false by simpa using c2,acY]at c;exact c
     · rw[ae (by simpa using c1),el,el];rw[show decide (0≤e.at_)=false by simpa using c1,acY,acY,acY]at c;exact c
   · have F:e.wr=false:=by simpa using hw
     rw[aa (by rw[F];rfl)];exact next _ (by unfold jO;rw[F];rfl)
 exact main xs 0 H' rfl rfl
theorem Wc(a:∀e∈xs,e.ok)(hl:xs.length≤9223372036854775807)(hQ:∀H',Q (.bool true) H'):S.f4 (ai C) (.agg p.cells) (av bW.cells xs) H Q:=by
 unfold S.f4;have b:∀H,aK H false 2 (.agg p.cells)=some (.af p.cells,H):=λH=>by unfold aK;rw[aa ⟨rfl,rfl⟩];rfl
 simp only[b,aP,cO,D,eu,aB,aR];apply aF<;>intro h
 · have c:(xs.length:Int)>20:=by simpa using h
   rw[V8 (by omega)];simp only[D];exact K4 ak hT hp hA hW (λe he=>a e (List.mem_of_mem_take he)) (by rw[ab3];omega) hQ
 ·exact K4 ak hT hp hA hW a hl hQ
end
end Rb

namespace Rb
open Go Go.RowKit
section
variable{H:Type}{enc:TypeId×Value→H}{P:Program}{w:World}{sp:Nat→Bool}{held:Bool}{F:cx}{G:aG}
end
end Rb

namespace Rb
open Go Go.RowKit
section
variable{H:Type}{enc:TypeId×Value→H}{P:Program}{w:World}{sp:Nat→Bool}{held:Bool}{F:cx}
def cA.pL(p:cA):Prop:=p.ok∧p.dj.length≤140737488355328∧∀t∈p.dj,t.length≤140737488355328
end
end Rb

namespace Rb
open Go
mutual
theorem Wd:∀e:X,sk e≤dd e.cells
 | .mk kind n E op aV place bn=>by have h1:=We place;have a:=xY bn;simp only[sk,X.cells,dd,jD,l_];omega
theorem xY:∀l:List X,lM l≤dd (X.all l)
 |[]=>by simp[lM,X.all,dd]
 | e::r=>by have h1:=Wd e;have a:=xY r;simp only[lM,X.all,l_];omega
theorem We:∀x:aM,mX x≤dd x.cells
 | .mk var aC=>by have h1:=Ch aC;simp only[mX,aM.cells,dd,jD];omega
theorem Ch:∀l:List K,mY l≤dd (K.all l)
 |[]=>by simp[mY,K.all,dd]
 | e::r=>by have h1:=Wf e;have a:=Ch r;simp only[mY,K.all,l_];omega
theorem Wf:∀x:K,so x≤dd x.cells
 | .mk field bb=>by have h1:=xY bb;simp only[so,K.cells,dd,jD];omega
end
theorem Wg(x:aM):mX x+2≤dd x.cells:=by
 cases x with
 | mk var aC=>have h1:=Ch aC;simp only[mX,aM.cells,dd,jD];omega
mutual
theorem Wh:∀x:aw,sr x≤dd x.cells
 | .mk kind V E cg aV place bc be bw=>by have h1:=Wg place;have a:=xY bc;have b:=xZ be;have c:=xZ bw;rw[X.all_eq]at a;simp only[sr,aw.cells,av,dd,jD,l_];omega
theorem xZ:∀l:List aw,lN l≤dd (aw.all l)
 |[]=>by simp[lN,aw.all,dd]
 | e::r=>by have h1:=Wh e;have a:=xZ r;simp only[lN,aw.all,l_];omega
end
theorem K5{α:Type}{cells:α→List I}{x:α}:∀{l:List α},x∈l→dd (cells x)≤dd (l.flatMap cells)
 | y :: r,h=>by
  rw[abk,l_];rcases aan.1 h with e|e
  ·rw[e];omega
  · have:=K5 (cells:=cells) e;omega
theorem Wi{p:cA}{t:List aw}(h:t∈p.dj):lN t≤dd p.cells:=by have h1:=xZ t;have a:=K5 (cells:=iS) h;rw[aw.all_eq]at h1;simp only[cA.cells,av,dd,jD]at a ⊢;simp only[iS,av,dd,jD]at a;omega
end Rb

namespace Rb
open Go
mutual
theorem Wj:∀e:X,dM e≤272*sk e
 | .mk kind n E op aV place bn=>by have h1:=K6 place;have a:=x0 bn;rw[dM,sk];split<;>omega
theorem x0:∀l:List X,dI l≤272*lM l
 |[]=>by rw[dI,lM];omega
 | e::r=>by have h1:=Wj e;have a:=x0 r;rw[dI,lM];omega
theorem K6:∀x:aM,fx x≤272*mX x
 | .mk var aC=>by have h1:=K7 aC;rw[fx,mX];omega
theorem K7:∀l:List K,gD l≤272*mY l
 |[]=>by rw[gD,mY];omega
 | e::r=>by have h1:=Wk e;have a:=K7 r;rw[gD,mY];omega
theorem Wk:∀x:K,ml x≤272*so x
 | .mk field bb=>by have h1:=x0 bb;rw[ml,so];omega
end
mutual
theorem Wl:∀x:aw,ke x≤272*sr x
 | .mk kind V E cg aV place bc be bw=>by have h1:=K6 place;have a:=x0 bc;have b:=x1 be;have c:=x1 bw;rw[ke,sr];split<;>omega
theorem x1:∀l:List aw,cm l≤272*lN l
 |[]=>by rw[cm,lN];omega
 | e::r=>by have h1:=Wl e;have a:=x1 r;rw[cm,lN];omega
end
theorem Wm{p:cA}(hz:dd p.cells≤1048576):∀t∈p.dj,cm t≤100000000000:=λt ht=>by have h1:=Wi ht;have a:=x1 t;omega
end Rb

namespace Go.Proofs.YteakojhgmhmdkaaGreatDoor.rb
open Rb
theorem Wn:bE (ai C) 8 [] (.bool true):=λH Q hQ=>VW 8 [] (.bool true) rfl H Q hQ
theorem boundStrays.any(p:cA)(hp:p.ok)(hz:dd p.cells≤1048576)(xs:List bW)(hl:xs.length≤maxLen)(a:∀e∈xs,e.ok):ai C 4 [.agg p.cells,av bW.cells xs] Z.mt (λv _=>v = .bool true):=S.OL nO (Wc j2 nO hp (λn k hk=>Ce hp (Wm hz) n k hk) Wn a (Nat.le_trans hl (by decide)) λ_=>rfl)
end Go.Proofs.YteakojhgmhmdkaaGreatDoor.rb

namespace Go.Proofs.YteakojhgmhmdkaaGreatDoor.rb
open Rb Go.ChangeShapes Go.WideShapes Go.ChangeAt Go.RowKit
variable{W:World}
theorem own:ownKnob Tryz.prog.godebug=none:=by kernel_rfl
theorem laidOut:laidOutB Tryz.prog=true:=by kernel_rfl
theorem K8:Tryz.prog.cellsOf 5=1:=by kernel_rfl
def mw:List (String×DataW Unit):=Rows.boundAllowsRow.laid
theorem Ci : Tryz.prog.globalNamed "strings.asciiSpace" = some 0 := by kernel_rfl
theorem Wo:(Tryz.prog.globals[0]?).map (·.type)=some 263:=by kernel_rfl
theorem Wq:Tryz.prog.cellsOf 263=256:=by kernel_rfl
theorem Wr:(Rows.laid_strings_asciiSpace:DataW Unit)=adv .u8 Go.Lib.asciiSpaceTab:=by kernel_rfl
theorem Ws : (("strings.asciiSpace", Go.Lib.tabData .u8 Go.Lib.asciiSpaceTab) : String × DataW Unit) ∈ mw := by
 rw[←Wr];exact .tail _ (.tail _ (.tail _ (.tail _ (.tail _ (.tail _ (.head _))))))
set_option maxRecDepth 100000 in
theorem K9(h : laidMet Tryz.prog mw W) : Go.Lib.TabIs Tryz.prog W "strings.asciiSpace" .u8 Go.Lib.asciiSpaceTab := by
 obtain⟨g',t',cs,fuel,p,a,b,c,d⟩:=Go.Lib.laidMet.reads h Ws;obtain rfl:=Yh.inj (Ci.symm.trans a);obtain rfl:=Yh.inj (Wo.symm.trans b);unfold adw;rw[c,←adx Tryz.underlying263 Tryz.underlying5 K8 Wq d]
theorem Cj : Tryz.prog.globalNamed "internal/strconv.uint64pow10" = some 5 := by kernel_rfl
theorem Wt:(Tryz.prog.globals[5]?).map (·.type)=some 331:=by kernel_rfl
theorem Wu:Tryz.prog.cellsOf 331=20:=by kernel_rfl
theorem Wv:(Rows.laid_internal_strconv_uint64pow10:DataW Unit)=adv .u64 ry:=by kernel_rfl
theorem Ww : (("internal/strconv.uint64pow10", Go.Lib.tabData .u64 ry) : String × DataW Unit) ∈ mw := by
 rw[←Wv];exact .tail _ (.tail _ (.head _))
set_option maxRecDepth 100000 in
theorem K_(h : laidMet Tryz.prog mw W) : Go.Lib.TabIs Tryz.prog W "internal/strconv.uint64pow10" .u64 ry := by
 obtain⟨g',t',cs,fuel,p,a,b,c,d⟩:=Go.Lib.laidMet.reads h Ww;obtain rfl:=Yh.inj (Cj.symm.trans a);obtain rfl:=Yh.inj (Wt.symm.trans b);unfold adw;rw[c,←adx Tryz.underlying331 Tryz.underlying12 (by kernel_rfl) Wu d]
theorem Ck : Tryz.prog.globalNamed "math/bits.deBruijn64tab" = some 7 := by kernel_rfl
theorem Wx:(Tryz.prog.globals[7]?).map (·.type)=some 334:=by kernel_rfl
theorem Wy:Tryz.prog.cellsOf 334=64:=by kernel_rfl
theorem Wz:(Rows.laid_math_bits_deBruijn64tab:DataW Unit)=adv .u8 qZ:=by kernel_rfl
theorem WA : (("math/bits.deBruijn64tab", Go.Lib.tabData .u8 qZ) : String × DataW Unit) ∈ mw := by
 rw[←Wz];exact .tail _ (.head _)
set_option maxRecDepth 100000 in
theorem La(h : laidMet Tryz.prog mw W) : Go.Lib.TabIs Tryz.prog W "math/bits.deBruijn64tab" .u8 qZ := by
 obtain⟨g',t',cs,fuel,p,a,b,c,d⟩:=Go.Lib.laidMet.reads h WA;obtain rfl:=Yh.inj (Ck.symm.trans a);obtain rfl:=Yh.inj (Wx.symm.trans b);unfold adw;rw[c,←adx Tryz.underlying334 Tryz.underlying5 K8 Wy d]
theorem WB(h:laidMet Tryz.prog mw W):jb C W (aG.mt (kx W)):=by
 intro g l a;change gt g=some l at a;unfold gt at a;split at a
 · rename_i e;subst e;cases a;rw[QD];exact Aj λi hi=>(K9 h).cell Ci i hi
 · split at a
   · rename_i e;subst e;cases a;rw[(show Eh=ry.map (I.int .u64)from rfl)];exact Aj λi hi=>(K_ h).cell Cj i hi
   · split at a
     · rename_i e;subst e;cases a;rw[(show Dh=qZ.map (I.int .u8)from rfl)];exact Aj λi hi=>(La h).cell Ck i hi
     ·cases a
theorem nz(h:laidMet Tryz.prog mw W):cq C W (aG.mt (kx W)) Z.mt:=by
 refine⟨WB h,λg l a _=>⟨?_,λi hi=>by cases hi⟩⟩;change gt g=some l at a;unfold gt at a;split at a
 · rename_i e;subst e;cases a;obtain⟨cs,t,fr,h1,b⟩:=Ak Ci (K9 h);exact⟨cs,t,fr,h1,b.trans (by kernel_rfl)⟩
 · split at a
   · rename_i e;subst e;cases a;obtain⟨cs,t,fr,h1,b⟩:=Ak Cj (K_ h);exact⟨cs,t,fr,h1,b.trans (by kernel_rfl)⟩
   · split at a
     · rename_i e;subst e;cases a;obtain⟨cs,t,fr,h1,b⟩:=Ak Ck (La h);exact⟨cs,t,fr,h1,b.trans (by kernel_rfl)⟩
     ·cases a
noncomputable def Cm(a:Os):World:=
 let N:=(World.settled Tryz.prog a).heap.size;let w0:=World.holding Tryz.prog a ⟨#[.cells #[.string ⟨#[118,97,108,117,101,32,111,117,116,32,111,102,32,114,97,110,103,101]⟩] 323,.cells #[.string ⟨#[105,110,118,97,108,105,100,32,115,121,110,116,97,120]⟩] 323,.cells #[.int .u16 9,.int .u16 13,.int .u16 1,.int .u16 32,.int .u16 133,.int .u16 101,.int .u16 160,.int .u16 5760,.int .u16 5600,.int .u16 8192,.int .u16 8202,.int .u16 1,.int .u16 8232,.int .u16 8233,.int .u16 1,.int .u16 8239,.int .u16 8287,.int .u16 48,.int .u16 12288,.int .u16 12288,.int .u16 1] 307,.cells #[.slice (some ⟨N+2,0,none⟩) 7 7,.slice none 0 0,.int .i64 2] 304],#[],[]⟩;let put (h:Array Obj) (g:Nat) (cs:Array Value):Array Obj:=h.modify g λ
  | .cells _ t frozen=> .cells cs t frozen
  |o=>o
 {w0 with heap:=put (put (put (put (put (put (put (w0.heap) 6 #[.int .u8 0,.int .u8 1,.int .u8 28,.int .u8 2,.int .u8 29,.int .u8 14,.int .u8 24,.int .u8 3,.int .u8 30,.int .u8 22,.int .u8 20,.int .u8 15,.int .u8 25,.int .u8 17,.int .u8 4,.int .u8 8,.int .u8 31,.int .u8 27,.int .u8 13,.int .u8 23,.int .u8 21,.int .u8 19,.int .u8 16,.int .u8 7,.int .u8 26,.int .u8 12,.int .u8 18,.int .u8 6,.int .u8 11,.int .u8 5,.int .u8 10,.int .u8 9]) 7 #[.int .u8 0,.int .u8 1,.int .u8 56,.int .u8 2,.int .u8 57,.int .u8 49,.int .u8 28,.int .u8 3,.int .u8 61,.int .u8 58,.int .u8 42,.int .u8 50,.int .u8 38,.int .u8 29,.int .u8 17,.int .u8 4,.int .u8 62,.int .u8 47,.int .u8 59,.int .u8 36,.int .u8 45,.int .u8 43,.int .u8 51,.int .u8 22,.int .u8 53,.int .u8 39,.int .u8 33,.int .u8 30,.int .u8 24,.int .u8 18,.int .u8 12,.int .u8 5,.int .u8 63,.int .u8 55,.int .u8 48,.int .u8 27,.int .u8 60,.int .u8 41,.int .u8 37,.int .u8 16,.int .u8 46,.int .u8 35,.int .u8 44,.int .u8 21,.int .u8 52,.int .u8 32,.int .u8 23,.int .u8 11,.int .u8 54,.int .u8 26,.int .u8 40,.int .u8 15,.int .u8 34,.int .u8 20,.int .u8 31,.int .u8 10,.int .u8 25,.int .u8 14,.int .u8 19,.int .u8 9,.int .u8 13,.int .u8 8,.int .u8 7,.int .u8 6]) 5 #[.int .u64 1,.int .u64 10,.int .u64 100,.int .u64 1000,.int .u64 10000,.int .u64 100000,.int .u64 1000000,.int .u64 10000000,.int .u64 100000000,.int .u64 1000000000,.int .u64 10000000000,.int .u64 100000000000,.int .u64 1000000000000,.int .u64 10000000000000,.int .u64 100000000000000,.int .u64 1000000000000000,.int .u64 10000000000000000,.int .u64 100000000000000000,.int .u64 1000000000000000000,.int .u64 10000000000000000000]) 3 #[.iface 321 (.pointer (some ⟨N+0,0,none⟩))]) 2 #[.iface 321 (.pointer (some ⟨N+1,0,none⟩))]) 1 #[.pointer (some ⟨N+3,0,none⟩)]) 0 #[.int .u8 0,.int .u8 0,.int .u8 0,.int .u8 0,.int .u8 0,.int .u8 0,.int .u8 0,.int .u8 0,.int .u8 0,.int .u8 1,.int .u8 1,.int .u8 1,.int .u8 1,.int .u8 1,.int .u8 0,.int .u8 0,.int .u8 0,.int .u8 0,.int .u8 0,.int .u8 0,.int .u8 0,.int .u8 0,.int .u8 0,.int .u8 0,.int .u8 0,.int .u8 0,.int .u8 0,.int .u8 0,.int .u8 0,.int .u8 0,.int .u8 0,.int .u8 0,.int .u8 1,.int .u8 0,.int .u8 0,.int .u8 0,.int .u8 0,.int .u8 0,.int .u8 0,.int .u8 0,.int .u8 0,.int .u8 0,.int .u8 0,.int .u8 0,.int .u8 0,.int .u8 0,.int .u8 0,.int .u8 0,.int .u8 0,.int .u8 0,.int .u8 0,.int .u8 0,.int .u8 0,.int .u8 0,.int .u8 0,.int .u8 0,.int .u8 0,.int .u8 0,.int .u8 0,.int .u8 0,.int .u8 0,.int .u8 0,.int .u8 0,.int .u8 0,.int .u8 0,.int .u8 0,.int .u8 0,.int .u8 0,.int .u8 0,.int .u8 0,.int .u8 0,.int .u8 0,.int .u8 0,.int .u8 0,.int .u8 0,.int .u8 0,.int .u8 0,.int .u8 0,.int .u8 0,.int .u8 0,.int .u8 0,.int .u8 0,.int .u8 0,.int .u8 0,.int .u8 0,.int .u8 0,.int .u8 0,.int .u8 0,.int .u8 0,.int .u8 0,.int .u8 0,.int .u8 0,.int .u8 0,.int .u8 0,.int .u8 0,.int .u8 0,.int .u8 0,.int .u8 0,.int .u8 0,.int .u8 0,.int .u8 0,.int .u8 0,.int .u8 0,.int .u8 0,.int .u8 0,.int .u8 0,.int .u8 0,.int .u8 0,.int .u8 0,.int .u8 0,.int .u8 0,.int .u8 0,.int .u8 0,.int .u8 0,.int .u8 0,.int .u8 0,.int .u8 0,.int .u8 0,.int .u8 0,.int .u8 0,.int .u8 0,.int .u8 0,.int .u8 0,.int .u8 0,.int .u8 0,.int .u8 0,.int .u8 0,.int .u8 0,.int .u8 0,.int .u8 0,.int .u8 0,.int .u8 0,.int .u8 0,.int .u8 0,.int .u8 0,.int .u8 0,.int .u8 0,.int .u8 0,.int .u8 0,.int .u8 0,.int .u8 0,.int .u8 0,.int .u8 0,.int .u8 0,.int .u8 0,.int .u8 0,.int .u8 0,.int .u8 0,.int .u8 0,.int .u8 0,.int .u8 0,.int .u8 0,.int .u8 0,.int .u8 0,.int .u8 0,.int .u8 0,.int .u8 0,.int .u8 0,.int .u8 0,.int .u8 0,.int .u8 0,.int .u8 0,.int .u8 0,.int .u8 0,.int .u8 0,.int .u8 0,.int .u8 0,.int .u8 0,.int .u8 0,.int .u8 0,.int .u8 0,.int .u8 0,.int .u8 0,.int .u8 0,.int .u8 0,.int .u8 0,.int .u8 0,.int .u8 0,.int .u8 0,.int .u8 0,.int .u8 0,.int .u8 0,.int .u8 0,.int .u8 0,.int .u8 0,.int .u8 0,.int .u8 0,.int .u8 0,.int .u8 0,.int .u8 0,.int .u8 0,.int .u8 0,.int .u8 0,.int .u8 0,.int .u8 0,.int .u8 0,.int .u8 0,.int .u8 0,.int .u8 0,.int .u8 0,.int .u8 0,.int .u8 0,.int .u8 0,.int .u8 0,.int .u8 0,.int .u8 0,.int .u8 0,.int .u8 0,.int .u8 0,.int .u8 0,.int .u8 0,.int .u8 0,.int .u8 0,.int .u8 0,.int .u8 0,.int .u8 0,.int .u8 0,.int .u8 0,.int .u8 0,.int .u8 0,.int .u8 0,.int .u8 0,.int .u8 0,.int .u8 0,.int .u8 0,.int .u8 0,.int .u8 0,.int .u8 0,.int .u8 0,.int .u8 0,.int .u8 0,.int .u8 0,.int .u8 0,.int .u8 0,.int .u8 0,.int .u8 0,.int .u8 0,.int .u8 0,.int .u8 0,.int .u8 0,.int .u8 0,.int .u8 0,.int .u8 0,.int .u8 0,.int .u8 0,.int .u8 0,.int .u8 0,.int .u8 0,.int .u8 0,.int .u8 0,.int .u8 0,.int .u8 0,.int .u8 0,.int .u8 0,.int .u8 0,.int .u8 0]}
theorem WC(a:Os)(args:Array Value):laidMet Tryz.prog mw ((Cm a).forCall (λ_ _=>0) ⟨#[],args,[]⟩).memory:=laidMet_of_run3 10 (by kernel_rfl) (by kernel_rfl) (by kernel_rfl)
end Go.Proofs.YteakojhgmhmdkaaGreatDoor.rb

namespace Go.Proofs.YteakojhgmhmdkaaGreatDoor.rb
open Rb
variable{H:Type}{enc:TypeId×Value→H}{w:World}{sp:Nat→Bool}{held:Bool}{F:cx}
theorem WD:∃fT fF,Hg Tryz.prog 3 4 9 80 104 78 77 fT fF:=⟨_,_,Tryz.underlying3,Tryz.underlying4,Tryz.underlying9,Tryz.underlying80,Tryz.underlying104,Tryz.underlying78,Tryz.underlying77,rfl,rfl,by kernel_rfl,by kernel_rfl,λt ht=>by simp only[aan,ady,or_false]at ht;rcases ht with rfl|rfl|rfl|rfl|rfl<;>kernel_rfl⟩
theorem WE(n:Nat):Q F enc Tryz.prog w sp held n 80 T.cells T.ok:=let ⟨_,_,h⟩:=WD;QK h n
theorem WG:∃fE fL fR,Al Tryz.prog 3 47 9 138 39 96 90 37 fE fL fR:=⟨_,_,_,Tryz.underlying3,Tryz.underlying47,Tryz.underlying9,Tryz.underlying138,Tryz.underlying39,Tryz.underlying96,Tryz.underlying90,Tryz.underlying37,rfl,rfl,rfl,by kernel_rfl,by kernel_rfl,by kernel_rfl,λt ht=>by simp only[aan,ady,or_false]at ht;rcases ht with rfl|rfl|rfl|rfl|rfl<;>kernel_rfl⟩
theorem WH(n:Nat):Q F enc Tryz.prog w sp held n 82 U.cells U.ok:=QN Tryz.underlying9 (by kernel_rfl) (by kernel_rfl) WE Tryz.underlying82 rfl (by kernel_rfl) n
theorem WI(n:Nat):Q F enc Tryz.prog w sp held n 92 aw.cells aw.ok:=let ⟨_,_,_,h⟩:=WG;QO h Tryz.underlying92 Tryz.underlying36 rfl (by kernel_rfl) (by kernel_rfl) n
theorem WJ(n:Nat):Q F enc Tryz.prog w sp held n 25 cA.cells cA.ok:=QP WH WI Tryz.underlying22 Tryz.underlying36 Tryz.underlying23 (by kernel_rfl) (by kernel_rfl) (by kernel_rfl) (by kernel_rfl) (by kernel_rfl) Tryz.underlying25 rfl (by kernel_rfl) n
theorem WK(n:Nat):Q F enc Tryz.prog w sp held n 60 bW.cells bW.ok:=V0 Tryz.underlying3 Tryz.underlying4 Tryz.underlying5 Tryz.underlying49 (by kernel_rfl) Tryz.underlying58 Tryz.underlying60 (by kernel_rfl) (by kernel_rfl) (by kernel_rfl) (by kernel_rfl) (by kernel_rfl) (by kernel_rfl) (by kernel_rfl) n
theorem WL(n:Nat):Q F enc Tryz.prog w sp held n 55 (λxs:List bW=>[av bW.cells xs]) (λxs=>xs.length≤maxLen∧∀x∈xs,x.ok):=Q.mono (Q.slice Tryz.underlying55 (by kernel_rfl) (by decide) bW.len (WK n)) (Nat.le_succ n)
end Go.Proofs.YteakojhgmhmdkaaGreatDoor.rb
