/- A part of the proof (part 1): see the last text. -/
import Derived.Tactics2
import Derived.Laws.AppendOwn
import Derived.LoopN
import Derived.Laws.Strings
import Derived.Lib.Strings
import Derived.Laws.IdiomStrings
import Derived.WideLaws
import Derived.Laws.StructEq
import Derived.LaidEql
set_option linter.unusedVariables false
set_option linter.unusedSimpArgs false
namespace Rb
open Go
inductive Tok where
 |nil|full|own (t:Nat)|dead
 deriving DecidableEq
inductive AV where
 |bool (b:Bool)
 |int (k:IntKind) (n:Int)
 |str (s:List UInt8)
 |jX
 |ptr (id off:Nat)
 |av (cells:List AV)
 |aq (tk:Tok) (len:Nat) (cells:List AV)
 |row (id off len sz:Nat)
 |map (id:Nat)
 |mw
 |fn (key:Nat) (cA:List AV)
 |nk
 |iface (t:TypeId) (v:AV)
 |nn
 |agg (cs:List AV)
 |aM (vs:List AV)
 |bot
 deriving Inhabited
def AV.cells:AV→List AV
 | .agg cs=>cs
 |v=>[v]
def ny(key:Nat):Option Nat:=cond (Nat.ble 1048576 key) (some (key-1048576)) none
def AV.scalar:AV→Bool
 | .agg _ | .aM _ | .bot=>false
 |_=>true
inductive dc where
 |row (cs:List AV)
 |tok (n sz:Nat)
 |map (es:List (AV×AV))
 |nO (s:List UInt8) (pos:Nat)
 |nB (T:TypeId) (used:Bool) (zu:Option (Nat×Nat))
 |zu (U:TypeId) (bs:List UInt8)
 |gone
def dc.live:dc→Bool
 | .gone=>false
 |_=>true
structure AH where
 n:Nat
 o:Nat→dc
def AH.set(H:AH)(i:Nat)(x:dc):AH:={H with o:=fun j=>if j=i then x else H.o j}
def AH.push(H:AH)(x:dc):AH:={n:=H.n+1,o:=fun j=>if j=H.n then x else H.o j}
structure cc where
 n:Nat
 loc:Nat→Nat
 cap:Nat→Nat
 fz:Nat→Nat→Prop
def IU(G:cc)(b o len cap:Nat):Tok→Prop
 | .nil=>False
 | .full=>cap=len
 | .own t=>t<G.n∧G.loc t=b∧o=0∧G.cap t=cap
 | .dead=>True
abbrev eG:=Nat→Option FuncId
inductive VR(F:eG)(w:World)(G:cc):AV→Value→Prop where
 |bot (V:Value):VR F w G .bot V
 |bool (b:Bool):VR F w G (.bool b) (.bool b)
 |int (k:IntKind) (n:Int):VR F w G (.int k n) (.int k n)
 |str (s:List UInt8):VR F w G (.str s) (.string ⟨s.toArray⟩)
 |jX:VR F w G .jX (.pointer none)
 |ptr (id off:Nat) (h:id<G.n):VR F w G (.ptr id off) (.pointer (some ⟨G.loc id,off,none⟩))
 | av (cells:List AV) (b o:Nat) (Vs:Nat→Value)
   (h:∀(j:Nat)(c:AV),cells[j]?=some c→G.fz b (o+j)∧w.cell? ⟨b,o+j,none⟩=some (Vs j))
   (hv:∀(j:Nat)(c:AV),cells[j]?=some c→VR F w G c (Vs j)):VR F w G (.av cells) (.pointer (some ⟨b,o,none⟩))
 |lr:VR F w G (.aq .nil 0 []) (.slice none 0 0)
 |lC (a:Option Addr) (cap:Nat):VR F w G (.aq .dead 0 []) (.slice a 0 cap)
 | aq (tk:Tok) (len:Nat) (cells:List AV) (b o cap:Nat) (Vs:Nat→Value) (ht:IU G b o len cap tk) (hle:len≤cap)
   (h:∀(j:Nat)(c:AV),cells[j]?=some c→G.fz b (o+j)∧w.cell? ⟨b,o+j,none⟩=some (Vs j))
   (hv:∀(j:Nat)(c:AV),cells[j]?=some c→VR F w G c (Vs j)):VR F w G (.aq tk len cells) (.slice (some ⟨b,o,none⟩) len cap)
 |row (id off len sz cap:Nat) (h:id<G.n) (hle:len≤cap) (hc:off+cap*sz=G.cap id):VR F w G (.row id off len sz) (.slice (some ⟨G.loc id,off,none⟩) len cap)
 |map (id:Nat) (h:id<G.n):VR F w G (.map id) (.map (some (G.loc id)))
 |mw:VR F w G .mw (.map none)
 | fn (key:Nat) (cA:List AV) (f:FuncId) (Vs:Array Value) (hk:ny key=none) (hf:F key=some f) (hl:cA.length=Vs.size)
   (hv:∀(j:Nat)(c:AV)(V:Value),cA[j]?=some c→Vs[j]?=some V→VR F w G c V):VR F w G (.fn key cA) (.func (.func f) #[] Vs)
 | zr (key k:Nat) (cA:List AV) (f:FuncId) (Vs:Array Value) (hk:ny key=some k) (hf:F k=some f) (hl:cA.length=Vs.size)
   (hv:∀(j:Nat)(c:AV)(V:Value),cA[j]?=some c→Vs[j]?=some V→VR F w G c V):VR F w G (.fn key cA) (.func (.func f) Vs #[])
 |nk:VR F w G .nk .nilFunc
 |iface (t:TypeId) (v:AV) (V:Value) (h:VR F w G v V):VR F w G (.iface t v) (.iface t V)
 |nn:VR F w G .nn .nilIface
 | agg (cs:List AV) (Vs:Array Value) (hl:cs.length=Vs.size)
   (hv:∀(j:Nat)(c:AV)(V:Value),cs[j]?=some c→Vs[j]?=some V→VR F w G c V):VR F w G (.agg cs) (.agg Vs)
 | aM (cs:List AV) (Vs:Array Value) (hl:cs.length=Vs.size)
   (hv:∀(j:Nat)(c:AV)(V:Value),cs[j]?=some c→Vs[j]?=some V→VR F w G c V):VR F w G (.aM cs) (.tuple Vs)
structure GLe(w:World)(G:cc)(w':World)(G':cc):Prop where
 n:G.n≤G'.n
 loc:∀i,i<G.n→G'.loc i=G.loc i
 cap:∀i,i<G.n→G'.cap i=G.cap i
 fz:∀b o,G.fz b o→G'.fz b o
 cell:∀b o V,G.fz b o→w.cell? ⟨b,o,none⟩=some V→w'.cell? ⟨b,o,none⟩=some V
theorem GLe.refl(w:World)(G:cc):GLe w G w G:=⟨Nat.le_refl _,fun _ _=>rfl,fun _ _=>rfl,fun _ _ h=>h,fun _ _ _ _ h=>h⟩
theorem GLe.trans{w1 w2 w3:World}{G1 G2 G3:cc}(h:GLe w1 G1 w2 G2)(k:GLe w2 G2 w3 G3):GLe w1 G1 w3 G3:=
 ⟨Nat.le_trans h.n k.n,fun i hi=>(k.loc i (Nat.lt_of_lt_of_le hi h.n)).trans (h.loc i hi),
   fun i hi=>(k.cap i (Nat.lt_of_lt_of_le hi h.n)).trans (h.cap i hi),
   fun b o hb=>k.fz b o (h.fz b o hb),fun b o V hb hc=>k.cell b o V (h.fz b o hb) (h.cell b o V hb hc)⟩
theorem IU.mono{w w':World}{G G':cc}(hg:GLe w G w' G'){b o len cap:Nat}{tk:Tok}(h:IU G b o len cap tk):IU G' b o len cap tk:=by
 cases tk with
 |nil=>exact h
 |full=>exact h
 |dead=>exact h
 | own t=>obtain⟨h1,h2,h3,h4⟩:=h;exact⟨Nat.lt_of_lt_of_le h1 hg.n,(hg.loc t h1).trans h2,h3,(hg.cap t h1).trans h4⟩
theorem VR.mono{F:eG}{w w':World}{G G':cc}(hg:GLe w G w' G'){c:AV}{V:Value}(h:VR F w G c V):VR F w' G' c V:=by
 induction h with
 |bot V=>exact .bot V
 |bool b=>exact .bool b
 |int k n=>exact .int k n
 |str s=>exact .str s
 |jX=>exact .jX
 |ptr id off h=>rw[←hg.loc id h];exact .ptr id off (Nat.lt_of_lt_of_le h hg.n)
 |av cells b o Vs h _ ih=>exact .av cells b o Vs (fun j c hj=>⟨hg.fz _ _ (h j c hj).1,hg.cell _ _ _ (h j c hj).1 (h j c hj).2⟩) ih
 |lr=>exact .lr
 |lC a cap=>exact .lC a cap
 |aq tk len cells b o cap Vs ht hle h _ ih=>exact .aq tk len cells b o cap Vs (ht.mono hg) hle (fun j c hj=>⟨hg.fz _ _ (h j c hj).1,hg.cell _ _ _ (h j c hj).1 (h j c hj).2⟩) ih
 | row id off len sz cap h hle hc=>rw[←hg.loc id h];exact .row id off len sz cap (Nat.lt_of_lt_of_le h hg.n) hle (by rw[hg.cap id h];exact hc)
 |map id h=>rw[←hg.loc id h];exact .map id (Nat.lt_of_lt_of_le h hg.n)
 |mw=>exact .mw
 |fn key cA f Vs hk hf hl _ ih=>exact .fn key cA f Vs hk hf hl ih
 |zr key k cA f Vs hk hf hl _ ih=>exact .zr key k cA f Vs hk hf hl ih
 |nk=>exact .nk
 |iface t v V _ ih=>exact .iface t v V ih
 |nn=>exact .nn
 |agg cs Vs hl _ ih=>exact .agg cs Vs hl ih
 |aM cs Vs hl _ ih=>exact .aM cs Vs hl ih
def nu(F:eG)(w:World)(G:cc)(i:Nat):dc→Prop
 | .row cs=>∃C e,w.heap[G.loc i]?=some (.cells C e (0,0))∧C.size=G.cap i∧(∀j,¬G.fz (G.loc i) j) ∧
   ∀(j:Nat)(c:AV),cs[j]?=some c→∃V,C[j]?=some V∧VR F w G c V
 | .tok k sz=>∃C e,w.heap[G.loc i]?=some (.cells C e (0,0))∧C.size=G.cap i*sz∧k≤C.size∧(∀j,k≤j→¬G.fz (G.loc i) j)
 | .map es=>∃(E:Array MapEntry) (clock:Nat),w.heap[G.loc i]?=some (.map E clock)∧E.size=es.length∧(∀j,¬G.fz (G.loc i) j) ∧
   ∀(j:Nat)(k v:AV),es[j]?=some (k,v)→∃e,E[j]?=some e∧VR F w G k e.key∧VR F w G v e.val
 | .nO s pos=>w.heap[G.loc i]?=some (.stringIter ⟨s.toArray⟩ pos)∧∀j,¬G.fz (G.loc i) j
 | .nB T used zu=>∃v,w.heap[G.loc i]?=some (.cells #[.pointer (if used=true then some ⟨G.loc i,0,none⟩else none),v] T (0,0))∧(∀j,¬G.fz (G.loc i) j) ∧
   ((zu=none∧v = .slice none 0 0)∨∃j n,zu=some (j,n)∧j<G.n∧v = .slice (some ⟨G.loc j,0,none⟩) n (G.cap j))
 | .zu U bs=>∃(C:Array Value) (z:Nat×Nat),w.heap[G.loc i]?=some (.cells C U z)∧C.size=G.cap i∧z.2≤bs.length∧bs.length≤G.cap i∧G.cap i≤maxLen∧(∀j,¬G.fz (G.loc i) j) ∧
   C.toList.take bs.length=bs.map fun b=>Value.int .u8 b.toNat
 | .gone=>True
structure Rel(F:eG)(w:World)(G:cc)(H:AH):Prop where
 n:G.n=H.n
 over:∀i,H.n≤i→H.o i = .gone
 obj:∀i,nu F w G i (H.o i)
 mQ:∀i j,i≠j→(H.o i).live=true→(H.o j).live=true→G.loc i≠G.loc j
 nV:∀b o,G.fz b o→∃V,w.cell? ⟨b,o,none⟩=some V
structure Step(w:World)(G:cc)(H:AH)(w':World)(G':cc)(H':AH):Prop extends GLe w G w' G' where
 size:w.heap.size≤w'.heap.size
 os:w'.os=w.os
 tape:w'.tape=w.tape
 output:w'.output=w.output
 iU:∀k,k<w.heap.size→(∀i,(H.o i).live=true→G.loc i≠k)→w'.heap[k]?=w.heap[k]?
 owned:∀i,(H'.o i).live=true→G'.loc i<w.heap.size→∃j,(H.o j).live=true∧G.loc j=G'.loc i
 ng:∀b o,G'.fz b o→G.fz b o∨w.heap.size≤b∨∃i,(H.o i).live=true∧G.loc i=b
theorem Step.refl(w:World)(G:cc)(H:AH):Step w G H w G H:={GLe.refl w G with size:=Nat.le_refl _,os:=rfl,tape:=rfl,output:=rfl,iU:=fun _ _ _=>rfl,owned:=fun i h _=>⟨i,h,rfl⟩,ng:=fun _ _ h=> .inl h}
theorem Step.trans{w1 w2 w3:World}{G1 G2 G3:cc}{H1 H2 H3:AH}(h:Step w1 G1 H1 w2 G2 H2)(k:Step w2 G2 H2 w3 G3 H3):Step w1 G1 H1 w3 G3 H3:=
 { h.toGLe.trans k.toGLe with
   size:=Nat.le_trans h.size k.size
   os:=k.os.trans h.os
   tape:=k.tape.trans h.tape
   output:=k.output.trans h.output
   iU:=fun b hb hn=>by rw[k.iU b (Nat.lt_of_lt_of_le hb h.size) fun i hi he=>?_,h.iU b hb hn];subst he;obtain⟨j,hj,e⟩:=h.owned i hi hb;exact hn j hj e
   owned:=fun i hi hb=>by obtain⟨j,hj,e⟩:=k.owned i hi (Nat.lt_of_lt_of_le hb h.size);rw[←e]at hb ⊢;exact h.owned j hj hb
   ng := fun b o hf=>by
    rcases k.ng b o hf with hf|hb|⟨i,hi,e⟩
    ·exact h.ng b o hf
    ·exact .inr (.inl (Nat.le_trans h.size hb))
    · rcases Nat.lt_or_ge b w1.heap.size with hb|hb
      · obtain⟨j,hj,e'⟩:=h.owned i hi (by rw[e];exact hb);exact .inr (.inr ⟨j,hj,e'.trans e⟩)
      ·exact .inr (.inl hb)}
def bo(F:eG)(w:World)(G:cc)(cs:List AV)(Vs:Array Value):Prop:=cs.length=Vs.size∧∀(j:Nat)(c:AV)(V:Value),cs[j]?=some c→Vs[j]?=some V→VR F w G c V
theorem bo.mono{F:eG}{w w':World}{G G':cc}(hg:GLe w G w' G'){cs:List AV}{Vs:Array Value}(h:bo F w G cs Vs):bo F w' G' cs Vs:=⟨h.1,fun j c V hc hV=>(h.2 j c V hc hV).mono hg⟩
end Rb

namespace Rb
open Go
def Do{α:Type}(x:Option α)(K:α→Prop):Prop:=∃a,x=some a∧K a
def vp(op:BinOp)(k:IntKind)(a b:Int):Option Int:=
 let x:=BitVec.ofInt k.bits a;let y:=BitVec.ofInt k.bits b
 match op with
 | .and=>some (k.wrap (x &&& y).toNat)
 | .or=>some (k.wrap (x ||| y).toNat)
 | .xor=>some (k.wrap (x ^^^ y).toNat)
 | .andNot=>some (k.wrap (x &&& ~~~y).toNat)
 |_=>none
def dV(op:BinOp)(k:IntKind)(a:Int)(k':IntKind)(b:Int):Option AV:=
 match op with
 | .shl=>if b<0 then none else some (.int k (k.wrap (a*2^(min b.toNat k.bits))))
 | .shr=>if b<0 then none else some (.int k (a.fdiv (2^(min b.toNat k.bits))))
 | .add=>if k=k' then some (.int k (k.wrap (a+b)))else none
 | .sub=>if k=k' then some (.int k (k.wrap (a-b)))else none
 | .mul=>if k=k' then some (.int k (k.wrap (a*b)))else none
 | .quo=>if k=k'∧b≠0 then some (.int k (k.wrap (a.tdiv b)))else none
 | .rem=>if k=k'∧b≠0 then some (.int k (a.tmod b))else none
 | .eql=>if k=k' then some (.bool (a==b))else none
 | .neq=>if k=k' then some (.bool (a != b))else none
 | .lss=>if k=k' then some (.bool (decide (a<b)))else none
 | .leq=>if k=k' then some (.bool (decide (a≤b)))else none
 | .gtr=>if k=k' then some (.bool (decide (a>b)))else none
 | .geq=>if k=k' then some (.bool (decide (a≥b)))else none
 |op=>if k=k' then(vp op k a b).map (.int k)else none
def abG(op:BinOp)(s t:List UInt8):Option AV:=
 match op with
 | .add=>if s.length+t.length≤9223372036854775807 then some (.str (s++t))else none
 | .eql=>some (.bool (s==t))
 | .neq=>some (.bool !(s==t))
 | .lss=>some (.bool (Op.bytesLess s t))
 | .leq=>some (.bool (Op.bytesLess s t||s==t))
 | .gtr=>some (.bool !(Op.bytesLess s t||s==t))
 | .geq=>some (.bool !(Op.bytesLess s t))
 |_=>none
inductive NK where
 |p|s|m|f|i
 deriving DecidableEq
def AV.isNil:NK→AV→Option Bool
 | .p,.jX=>some true
 | .p,.ptr _ _ | .p,.av _=>some false
 | .s,.aq .nil _ _=>some true
 | .s,.row _ _ _ _ | .s,.aq .full _ (_::_) | .s,.aq (.own _) _ _ | .s,.aq .dead (_+1) _=>some false
 | .m,.mw=>some true
 | .m,.map _=>some false
 | .f,.nk=>some true
 | .f,.fn _ _=>some false
 | .i,.nn=>some true
 | .i,.iface _ _=>some false
 |_,_=>none
inductive FK where
 |n|b|t
 deriving DecidableEq
def gP:List FK→List AV→List AV→Option Bool
 |[],[],[]=>some true
 | .n::ks,.int k a::r,.int k' b::t=>if k=k' then(gP ks r t).map (fun x=>a==b&&x)else none
 | .b::ks,.bool a::r,.bool b::t=>(gP ks r t).map (fun x=>a==b&&x)
 | .t::ks,.str a::r,.str b::t=>(gP ks r t).map (fun x=>a==b&&x)
 |_,_,_=>none
def ai(op:BinOp)(x y:AV):Option AV:=
 match x,y with
 | .int k a,.int k' b=>dV op k a k' b
 | .str s,.str t=>abG op s t
 |_,_=>none
def uF(neg:Bool)(x y:AV):Option AV:=
 match x,y with
 | .bool a,.bool b=>some (.bool (if neg then !(a==b)else a==b))
 |_,_=>none
def Fy(k:NK)(neg:Bool)(x:AV):Option AV:=(x.isNil k).map fun b=> .bool (if neg then !b else b)
def vo(neg:Bool)(ks:List FK)(x y:AV):Option AV:=
 match x,y with
 | .agg a,.agg b=>(gP ks a b).map fun r=> .bool (if neg then !r else r)
 |_,_=>none
def eB(op:UnOp)(x:AV):Option AV:=
 match op,x with
 | .not,.bool b=>some (.bool !b)
 | .neg,.int k n=>some (.int k (k.wrap (0-n)))
 | .xor,.int k n=>(vp .xor k (if k.signed then -1 else k.max) n).map (.int k)
 |_,_=>none
def my(k:IntKind)(x:AV):Option AV:=
 match x with
 | .int _ n=>some (.int k (k.wrap n))
 |_=>none
def ET(x:AV):Option AV:=
 match x with
 | .str s=>some (.str s)
 |_=>none
def bR(x:AV):Option AV:=
 match x with
 | .ptr i o=>some (.ptr i o)
 | .av cs=>some (.av cs)
 | .fn k cs=>some (.fn k cs)
 |_=>none
def cC(cs:List AV)(o n:Nat)(agg:Bool):Option AV:=if o+n≤cs.length then(if agg then some (.agg ((cs.drop o).take n))else cs[o]?)else none
def yD(off sz:Nat)(agg:Bool)(x:AV):Option AV:=
 match x with
 | .agg cs=>cC cs off sz agg
 |_=>none
def yX(len sz:Nat)(agg:Bool)(x i:AV):Option AV:=
 match x,i with
 | .agg cs,.int _ i=>if 0≤i∧i<len then cC cs (i.toNat*sz) sz agg else none
 |_,_=>none
def oz(x i:AV):Option AV:=
 match x,i with
 | .str s,.int _ i=>if 0≤i then(s[i.toNat]?).map fun b=> .int .u8 b.toNat else none
 |_,_=>none
def ab(off:Nat)(x:AV):Option AV:=
 match x with
 | .ptr i o=>some (.ptr i (o+off))
 | .av cs=>some (.av (cs.drop off))
 |_=>none
def bj(arr:Option Nat)(sz:Nat)(x i:AV):Option AV:=
 match i with
 | .int _ i=>
  match arr,x with
  |none,.aq _ len cells=>if 0≤i∧i<len then some (.av (cells.drop (i.toNat*sz)))else none
  |none,.row id o len _=>if 0≤i∧i<len then some (.ptr id (o+i.toNat*sz))else none
  |some n,.ptr id o=>if 0≤i∧i<n then some (.ptr id (o+i.toNat*sz))else none
  |some n,.av cells=>if 0≤i∧i<n then some (.av (cells.drop (i.toNat*sz)))else none
  |_,_=>none
 |_=>none
def kH(x:Option AV)(d:Nat):Option Nat:=
 match x with
 |none=>some d
 |some (.int _ i)=>if 0≤i then some i.toNat else none
 |_=>none
def D3(x:AV)(lo hi:Option AV):Option AV:=
 match x with
 | .str s=>
  match kH hi s.length,kH lo 0 with
  |some h,some l=>if l≤h∧h≤s.length then some (.str ((s.take h).drop l))else none
  |_,_=>none
 |_=>none
def kO(sz:Nat)(x:AV)(lo hi mx:Option AV):Option AV:=
 match x with
 | .aq tk len cells=>
  match kH hi len,kH lo 0,mx.map fun m=>kH (some m) 0 with
  | some h,some l,none=>
   if l≤h∧h≤len∧cells.length=len*sz then
    if l=0∧h=len then some (.aq tk len cells)
    else some (.aq (if l=0 then(match tk with | .own t=> .own t|_=> .dead)else .dead) (h-l) ((cells.take (h*sz)).drop (l*sz)))
   else none
  | some h,some l,some (some m)=>
   if l=h∧h=m∧m≤len then(match tk with | .nil=>some (.aq .nil 0 [])|_=>some (.aq .dead 0 []))
   else if l≤h∧h≤m∧m≤len∧cells.length=len*sz∧tk ≠ .nil∧l<m then some (.aq (if m=h then .full else .dead) (h-l) ((cells.take (h*sz)).drop (l*sz)))else none
  |_,_,_=>none
 | .row id o len mr=>
  match kH hi len,kH lo 0,mx with
  | some h,some l,none=>if l≤h∧h≤len∧mr=sz then(if l=0∨l<h then some (.row id (o+l*sz) (h-l) sz)else some (.aq .dead 0 []))else none
  |_,_,_=>none
 |_=>none
def Gd(v:AV)(want:Bool)(A B:Prop):Prop:=
 match v with
 | .bool b=>if b=want then A else B
 |_=>False
def aL(v:AV)(want:Bool)(A B C:Prop):Prop:=
 match v with
 | .bool b=>if b=want then A else B
 | .aM []=>C
 |_=>False
def AV.wanted(v:AV)(want:Bool):Option Bool:=
 match v with
 | .bool b=>some (b==want)
 | .aM []=>some false
 |_=>none
theorem AV.Sp{v:AV}{want:Bool}(h:v.wanted want=some true):v = .bool want:=by
 unfold AV.wanted at h;split at h
 ·simp at h;rw[h]
 ·cases h
 ·cases h
theorem AV.ZI{v:AV}{want:Bool}(h:v.wanted want=some false):v = .bool (!want)∨v = .aM []:=by
 unfold AV.wanted at h;split at h
 · rename_i b;left;cases b<;>cases want<;>simp_all
 ·exact .inr rfl
 ·cases h
@[simp] theorem AV.aB_ (want:Bool):(AV.bool want).wanted want=some true:=by simp[AV.wanted]
@[simp] theorem AV.aCb (want:Bool):(AV.bool (!want)).wanted want=some false:=by cases want<;>rfl
@[simp] theorem AV.aCc (want:Bool):(AV.aM []).wanted want=some false:=rfl
def db(i:Nat)(x:AV):Option AV:=
 match x with
 | .aM vs=>vs[i]?
 |_=>none
def setCells(cs:List AV)(o:Nat):List AV→List AV
 |[]=>cs
 |v::r=>setCells (cs.set o v) (o+1) r
def AV.known:AV→Bool
 | .bot | .aM _=>false
 |_=>true
def qW(cs:List AV):List (Nat×Nat×AV)→Option (List AV)
 |[]=>some cs
 |(off,sz,v)::r=>if v.known∧v.cells.length=sz∧off+sz≤cs.length then qW (setCells cs off v.cells) r else none
def bJ(zero:List AV)(parts:List (Nat×Nat×AV)):Option AV:=(qW zero parts).map .agg
def br(str:Bool)(x:AV):Option AV:=
 match str,x with
 |true,.str s=>some (.int .i64 s.length)
 |false,.aq _ len _=>some (.int .i64 len)
 |false,.row _ _ len _=>some (.int .i64 len)
 |_,_=>none
def YU(mx:Bool)(x y:AV):Option AV:=
 match x,y with
 | .int k a,.int _ b=>some (.int k (if mx then(if b>a then b else a)else(if b<a then b else a)))
 |_,_=>none
def Je(mx:Bool)(x:AV):List AV→Option AV
 |[]=>some x
 |y::r=>match YU mx x y with|some z=>Je mx z r|none=>none
def oY(mx:Bool)(xs:List AV):Option AV:=
 match xs with
 | .int k a::r=>Je mx (.int k a) r
 |_=>none
def J(H:AH)(n:Nat)(agg:Bool)(x:AV):Option AV:=
 match x with
 | .ptr id o=>match H.o id with | .row cs=>cC cs o n agg|_=>none
 | .av cs=>cC cs 0 n agg
 |_=>none
def aH(H:AH)(n:Nat)(x v:AV):Option AH:=
 match x with
 | .ptr id o=>
  match H.o id with
  | .row cs=>if v.known∧v.cells.length=n∧v.cells.all AV.scalar∧o+n≤cs.length then some (H.set id (.row (setCells cs o v.cells)))else none
  |_=>none
 |_=>none
def be(H:AH)(mu:Bool)(cells:List AV):AV×AH:=if mu then(.ptr H.n 0,H.push (.row cells))else(.av cells,H)
def bB(H:AH)(mu:Bool)(n:Nat)(v:AV):Option (AV×AH):=if v.known∧v.cells.length=n then some (be H mu v.cells)else none
def fb(H:AH)(mu:Bool)(sz len:Nat)(zero:List AV)(parts:List (Nat×Nat×AV)):Option (AV×AH):=
 (qW (List.replicate len zero).flatten parts).map fun cells=>if mu then(.row H.n 0 len sz,H.push (.row cells))else(.aq .full len cells,H)
def mM(H:AH)(sz:Nat)(x:AV):Option (Nat×List AV):=
 match x with
 | .aq _ len cells=>if cells.length=len*sz then some (len,cells)else none
 | .row id o len _=>match H.o id with | .row cs=>if o+len*sz≤cs.length then some (len,(cs.drop o).take (len*sz))else none|_=>none
 |_=>none
def eF(H:AH)(mu:Bool)(sz bytes:Nat)(x y:AV):Option (AV×AH):=
 match mM H sz y with
 |none=>none
 | some (m,news)=>
  if ¬news.all AV.scalar then none else
  match x with
  | .aq tk len cells=>
   if m=0 then some (.aq tk len cells,H)
   else if ¬(cells.length=len*sz∧(len+m)*bytes≤140737488355328∧len+m≤9223372036854775807)then none
   else match tk,mu with
   | .nil,true | .full,true=>some (.row H.n 0 (len+m) sz,H.push (.row (cells++news)))
   | .nil,false | .full,false=>some (.aq (.own H.n) (len+m) (cells++news),H.push (.tok ((len+m)*sz) sz))
   | .own t,_=>match H.o t with
    | .tok k mr=>if k=len*sz∧mr=sz then some (.aq (.own H.n) (len+m) (cells++news),(H.set t .gone).push (.tok ((len+m)*sz) sz))else none
    |_=>none
   | .dead,_=>none
  | .row id o len mr=>
   match H.o id with
   | .row cs=>
    if m=0 then some (.row id o len mr,H)
    else if ¬(o=0∧mr=sz∧(len+m)*bytes≤140737488355328∧len+m≤9223372036854775807)then none
    else if(len+m)*sz≤cs.length then some (.row id 0 (len+m) sz,H.set id (.row (setCells cs (len*sz) news)))
    else if cs.length=len*sz then some (.row H.n 0 (len+m) sz,(H.set id .gone).push (.row (cs++news)))
    else none
   |_=>none
  |_=>none
def byteCells(s:List UInt8):List AV:=s.map fun b=> .int .u8 b.toNat
def DO:List AV→Option (List UInt8)
 |[]=>some []
 | .int .u8 n::r=>(DO r).map fun s=>UInt8.ofNat n.toNat::s
 |_=>none
def D2(x:AV):Option AV:=
 match x with
 | .str s=>some (.aq .dead s.length (byteCells s))
 |_=>none
def abstr(H:AH)(x:AV):Option AV:=
 match mM H 1 x with
 |some (_,cells)=>(DO cells).map .str
 |none=>none
def BG(H:AH)(x:AV):Option (AV×AH):=
 match x with
 | .str s=>some (.ptr H.n 0,H.push (.nO s 0))
 |_=>none
def xb(H:AH)(x:AV):Option (AV×AH):=
 match x with
 | .ptr id 0=>
  match H.o id with
  | .nO s pos=>
   if pos<s.length then
    let d:=Utf8.decode ⟨s.toArray⟩ pos
    some (.aM [.bool true,.int .i64 pos,.int .i32 d.1],H.set id (.nO s (pos+d.2)))
   else some (.aM [.bool false],H)
  |_=>none
 |_=>none
def Ca(H:AH)(mu:Bool)(sz bytes:Nat)(zero:List AV)(len cap:AV):Option (AV×AH):=
 match len,cap with
 | .int .i64 n,.int .i64 c=>
  if 0≤n∧n≤c∧bytes*c≤281474976710656∧c≤9223372036854775807∧zero.length=sz then
   if mu then some (.row H.n 0 n.toNat sz,H.push (.row (List.replicate c.toNat zero).flatten))
   else if n=c then some (.aq .full n.toNat (List.replicate n.toNat zero).flatten,H)else none
  else none
 |_,_=>none
def IV(H:AH)(sz:Nat)(x y:AV):Option (AV×AH):=
 match x,mM H sz y with
 | .row id o len _,some (m,news)=>
  match H.o id with
  | .row cs=>
   let n:=min m len
   if news.all AV.scalar∧o+n*sz≤cs.length then some (.int .i64 n,H.set id (.row (setCells cs o (news.take (n*sz)))))else none
  |_=>none
 |_,_=>none
def Fg(kk:FK):AV→AV→Option Bool
 | .int k a,.int k' b=>if kk = .n∧k=k' then some (a==b)else none
 | .str s,.str t=>if kk = .t then some (s==t)else none
 | .bool a,.bool b=>if kk = .b then some (a==b)else none
 |_,_=>none
def qX(kk:FK)(k:AV):List (AV×AV)→Nat→Option (Option (Nat×AV))
 |[],_=>some none
 | e::es,i=>
  match Fg kk k e.1 with
  |some true=>some (some (i,e.2))
  |some false=>qX kk k es (i+1)
  |none=>none
def plainKey(kk:FK):AV→Bool
 | .int _ _=>kk == .n
 | .str _=>kk == .t
 | .bool _=>kk == .b
 |_=>false
def HR(ok:Bool)(v:AV)(b:Bool):AV:=if ok then .aM [v,.bool b]else v
def wT(H:AH)(kk:FK)(zero:AV)(ok:Bool)(m k:AV):Option AV:=
 match m with
 | .mw=>if plainKey kk k then some (HR ok zero false)else none
 | .map id=>
  match H.o id with
  | .map es=>if plainKey kk k then(qX kk k es 0).map fun r=>(match r with|some (_,v)=>HR ok v true|none=>HR ok zero false)else none
  |_=>none
 |_=>none
def HY(H:AH)(kk:FK)(m k v:AV):Option AH:=
 match m with
 | .map id=>
  match H.o id with
  | .map es=>if plainKey kk k∧v.known then(qX kk k es 0).map fun r=>(match r with
      |some (i,_)=>H.set id (.map (es.set i (k,v)))
      |none=>H.set id (.map (es++[(k,v)])))else none
  |_=>none
 |_=>none
def HC(H:AH)(kk:FK)(m k:AV):Option AH:=
 match m with
 | .map id=>
  match H.o id with
  | .map es=>if plainKey kk k then(qX kk k es 0).map fun r=>(match r with
      |some (i,_)=>H.set id (.map (es.eraseIdx i))
      |none=>H)else none
  |_=>none
 |_=>none
def wU(H:AH)(m:AV):Option AV:=
 match m with
 | .mw=>some (.int .i64 0)
 | .map id=>match H.o id with | .map es=>some (.int .i64 es.length)|_=>none
 |_=>none
def qu(o:Nat→dc):List AV→Option (List AV×Nat)
 |[]=>none
 | .row id off len sz::r=>match o id with
  | .row cs=>if off+len*sz≤cs.length then some (.aq .dead len ((cs.drop off).take (len*sz))::r,id)else none
  |_=>none
 |c::r=>(qu o r).map fun q=>(c::q.1,q.2)
def z8(H:AH)(x:AV):Option (AV×AH):=
 match x with
 | .row id o len sz=>
  match H.o id with
  | .row cs=>if o+len*sz≤cs.length then some (.aq .dead len ((cs.drop o).take (len*sz)),H.set id .gone)else none
  |_=>none
 | .ptr id o=>
  match H.o id with
  | .row cs=>match qu H.o cs with
   |some (l,fQ)=>if fQ=id then none else some (.ptr id o,(H.set fQ .gone).set id (.row l))
   |none=>some (.av (cs.drop o),H.set id .gone)
  |_=>none
 | .aq tk len cells=>some (.aq tk len cells,H)
 | .av cs=>some (.av cs,H)
 | .agg cells=>match qu H.o cells with
  |some (l,id)=>some (.agg l,H.set id .gone)
  |none=>some (.agg cells,H)
 |_=>none
inductive bn where
 |t (n:Nat)
 |k (v:AV)
abbrev Env:=List AV
def bn.ev(env:Env):bn→AV
 | .t n=>env.getD n .bot
 | .k v=>v
def Cu(x:AV):Option AV:=
 match x with
 | .aq .nil 0 []=>some (.int .i64 0)
 |_=>none
inductive Ext where
 |Ef (t:TypeId)
 |Au (neg:Bool)
 |clear (sz:Nat) (zero:List AV)
 |grow (sz bytes:Nat) (zero:List AV)
 |vD (T:TypeId)
 |stuck
def jH(H:AH)(e:Ext)(xs:List AV):Option (AV×AH):=
 match e,xs with
 | .Ef t,[.iface t' v]=>if t'=t then some (v,H)else none
 | .Au neg,[.ptr i o,.ptr j p]=>
  match H.o i,H.o j with
  | .row _,.row _=>if i=j then some (.bool (if neg then !(o==p)else o==p),H)else some (.bool neg,H)
  |_,_=>none
 | .clear sz zero,[.row id o len z]=>
  if len=0 then some (.aM [],H)else
  match H.o id with
  | .row cs=>if zero.all AV.scalar∧zero.length=sz∧o+len*sz≤cs.length then some (.aM [],H.set id (.row (setCells cs o (List.replicate len zero).flatten)))else none
  |_=>none
 | .clear _ _,[.aq _ 0 _]=>some (.aM [],H)
 | .grow sz bytes zero,[.aq .nil 0 [],.int .i64 n]=>if 0<n∧n.toNat*bytes≤281474976710656∧n≤9223372036854775807∧zero.length=sz∧0<sz then some (.row H.n 0 n.toNat sz,H.push (.row (List.replicate n.toNat zero).flatten))else none
 | .vD T,[]=>some (.ptr H.n 0,H.push (.nB T false none))
 | .vD T,[.agg [.jX,.aq .nil 0 []]]=>some (.ptr H.n 0,H.push (.nB T false none))
 |_,_=>none
def I3:List (TypeId×Nat×Option (Nat×Bool))→TypeId→Option (Nat×Option (Nat×Bool))
 |[],_=>none
 |(t',r)::l,t=>if t'=t then some r else I3 l t
def JP(H:AH)(m:Option (Nat×Bool))(v:AV):Option AV:=
 match m with
 |none=>some v
 |some (n,agg)=>J H n agg v
inductive fw where
 |mv (x:bn)
 |pick (c a b:bn)
 |bin (op:BinOp) (x y:bn)
 |beq (neg:Bool) (x y:bn)
 |tf (k:NK) (neg:Bool) (x:bn)
 |qV (neg:Bool) (ks:List FK) (x y:bn)
 |un (op:UnOp) (x:bn)
 |conv (k:IntKind) (x:bn)
 |same (x:bn)
 |uC (x:bn)
 |field (off sz:Nat) (agg:Bool) (x:bn)
 |idx (len sz:Nat) (agg:Bool) (x i:bn)
 |idxs (x i:bn)
 |uz (off:Nat) (x:bn)
 |td (arr:Option Nat) (sz:Nat) (x i:bn)
 |slice (sz:Nat) (x:bn) (lo hi mx:Option bn)
 |uy (x:bn) (lo hi:Option bn)
 |pD (t:TypeId) (x:bn)
 |oG (key:Nat) (cA:List bn)
 |extract (i:Nat) (x:bn)
 |build (zero:List AV) (parts:List (Nat×Nat×bn))
 |len (str:Bool) (x:bn)
 |pC (n:Nat)
 |pe (mx:Bool) (xs:List bn)
 |load (n:Nat) (agg:Bool) (x:bn)
 |store (n:Nat) (x v:bn)
 |box (mu:Bool) (n:Nat) (x:bn)
 |alloc (mu:Bool) (zero:List AV)
 |ov (mu:Bool) (sz len:Nat) (zero:List AV) (parts:List (Nat×Nat×bn))
 |append (mu:Bool) (sz bytes:Nat) (x y:bn)
 |make (mu:Bool) (sz bytes:Nat) (zero:List AV) (len cap:bn)
 |copy (sz:Nat) (x y:bn)
 |oC
 |lookup (kk:FK) (zero:AV) (ok:Bool) (m k:bn)
 |pq (kk:FK) (m k v:bn)
 |delete (kk:FK) (m k:bn)
 |pd (m:bn)
 |ux (x:bn)
 |pw (x:bn)
 |qe (x:bn)
 |ql (x:bn)
 |call (key:Nat) (args:List bn)
 |qg (f:bn) (args:List bn)
 |ext (e:Ext) (xs:List bn)
 |cap (x:bn)
 |inv (p9:List (TypeId×Nat×Option (Nat×Bool))) (x:bn) (args:List bn)
structure bT where
 dst:Option Nat
 op:fw
 guard:Option (Nat×Bool)
def iS(env:Env)(xs:List bn):List AV:=xs.map (bn.ev env)
def mz(env:Env)(xs:List (Nat×Nat×bn)):List (Nat×Nat×AV):=xs.map fun p=>(p.1,p.2.1,p.2.2.ev env)
abbrev ae:=AV→AH→Prop
abbrev aj:=Nat→List AV→AH→ae→Prop
def aJ(x:Option (AV×AH))(K:ae):Prop:=∃v H,x=some (v,H)∧K v H
def uI(key:Nat):Nat:=match ny key with|some k=>k|none=>key
def uA(key:Nat)(args cA:List AV):List AV:=match ny key with|some _=>cA++args|none=>args++cA
theorem SM{key:Nat}(h:ny key=none):uI key=key:=by unfold uI;rw[h]
theorem amz{key k:Nat}(h:ny key=some k):uI key=k:=by unfold uI;rw[h]
theorem Sr{key:Nat}(h:ny key=none)(args cA:List AV):uA key args cA=args++cA:=by unfold uA;rw[h]
theorem alS{key k:Nat}(h:ny key=some k)(args cA:List AV):uA key args cA=cA++args:=by unfold uA;rw[h]
def dk(Φ:aj)(env:Env)(H:AH)(K:ae):fw→Prop
 | .mv x=>K (x.ev env) H
 | .pick c a b=>Gd (c.ev env) true (K (a.ev env) H) (K (b.ev env) H)
 | .bin op x y=>Do (ai op (x.ev env) (y.ev env)) fun v=>K v H
 | .beq neg x y=>Do (uF neg (x.ev env) (y.ev env)) fun v=>K v H
 | .tf k neg x=>Do (Fy k neg (x.ev env)) fun v=>K v H
 | .qV neg ks x y=>Do (vo neg ks (x.ev env) (y.ev env)) fun v=>K v H
 | .un op x=>Do (eB op (x.ev env)) fun v=>K v H
 | .conv k x=>Do (my k (x.ev env)) fun v=>K v H
 | .same x=>Do (ET (x.ev env)) fun v=>K v H
 | .uC x=>Do (bR (x.ev env)) fun v=>K v H
 | .field off sz agg x=>Do (yD off sz agg (x.ev env)) fun v=>K v H
 | .idx len sz agg x i=>Do (yX len sz agg (x.ev env) (i.ev env)) fun v=>K v H
 | .idxs x i=>Do (oz (x.ev env) (i.ev env)) fun v=>K v H
 | .uz off x=>Do (ab off (x.ev env)) fun v=>K v H
 | .td arr sz x i=>Do (bj arr sz (x.ev env) (i.ev env)) fun v=>K v H
 | .slice sz x lo hi mx=>Do (kO sz (x.ev env) (lo.map (bn.ev env)) (hi.map (bn.ev env)) (mx.map (bn.ev env))) fun v=>K v H
 | .uy x lo hi=>Do (D3 (x.ev env) (lo.map (bn.ev env)) (hi.map (bn.ev env))) fun v=>K v H
 | .pD t x=>K (.iface t (x.ev env)) H
 | .oG key cA=>K (.fn key (iS env cA)) H
 | .extract i x=>Do (db i (x.ev env)) fun v=>K v H
 | .build zero parts=>Do (bJ zero (mz env parts)) fun v=>K v H
 | .len str x=>Do (br str (x.ev env)) fun v=>K v H
 | .pC n=>K (.int .i64 n) H
 | .pe mx xs=>Do (oY mx (iS env xs)) fun v=>K v H
 | .load n agg x=>Do (J H n agg (x.ev env)) fun v=>K v H
 | .store n x v=>Do (aH H n (x.ev env) (v.ev env)) fun H=>K (.aM []) H
 | .box mu n x=>aJ (bB H mu n (x.ev env)) K
 | .alloc mu zero=>aJ (some (be H mu zero)) K
 | .ov mu sz len zero parts=>aJ (fb H mu sz len zero (mz env parts)) K
 | .append mu sz bytes x y=>aJ (eF H mu sz bytes (x.ev env) (y.ev env)) K
 | .make mu sz bytes zero len cap=>aJ (Ca H mu sz bytes zero (len.ev env) (cap.ev env)) K
 | .copy sz x y=>aJ (IV H sz (x.ev env) (y.ev env)) K
 | .oC=>K (.map H.n) (H.push (.map []))
 | .lookup kk zero ok m k=>Do (wT H kk zero ok (m.ev env) (k.ev env)) fun v=>K v H
 | .pq kk m k v=>Do (HY H kk (m.ev env) (k.ev env) (v.ev env)) fun H=>K (.aM []) H
 | .delete kk m k=>Do (HC H kk (m.ev env) (k.ev env)) fun H=>K (.aM []) H
 | .pd m=>Do (wU H (m.ev env)) fun v=>K v H
 | .ux x=>Do (D2 (x.ev env)) fun v=>K v H
 | .pw x=>Do (abstr H (x.ev env)) fun v=>K v H
 | .qe x=>aJ (BG H (x.ev env)) K
 | .ql x=>aJ (xb H (x.ev env)) K
 | .call key args=>Φ key (iS env args) H K
 | .qg f args=>∃key cA,f.ev env = .fn key cA∧Φ (uI key) (uA key (iS env args) cA) H K
 | .ext e xs=>aJ (jH H e (iS env xs)) K
 | .cap x=>Do (Cu (x.ev env)) fun v=>K v H
 | .inv p9 x args=>∃t v r u,x.ev env = .iface t v∧I3 p9 t=some r∧JP H r.2 v=some u∧Φ r.1 (u::iS env args) H K
def cY(env:Env)(d:Option Nat)(v:AV):Env:=
 match d with
 |some t=>env.set t v
 |none=>env
def qb(Φ:aj):List bT→Env→AH→(Env→AH→Prop)→Prop
 |[],env,H,K=>K env H
 | o :: r,env,H,K=>
  match o.guard with
  |none=>dk Φ env H (fun v H'=>qb Φ r (cY env o.dst v) H' K) o.op
  | some (s,want)=>
   aL (env.getD s .bot) want (dk Φ (env.set s (.bool want)) H (fun v H'=>qb Φ r (cY (env.set s (.bool want)) o.dst v) H' K) o.op)
    (qb Φ r (cY (env.set s (.bool !want)) o.dst (.aM [])) H K) (qb Φ r (cY (env.set s (.aM [])) o.dst (.aM [])) H K)
def Fx(env:Env)(H:AH)(o:bT):Prop:=
 match o.op with
 | .load n agg x=>J H n agg (x.ev env)=some (env.getD (o.dst.getD 0) .bot)
 | .lookup kk zero ok m k=>wT H kk zero ok (m.ev env) (k.ev env)=some (env.getD (o.dst.getD 0) .bot)
 | .pd m=>wU H (m.ev env)=some (env.getD (o.dst.getD 0) .bot)
 | .pw x=>abstr H (x.ev env)=some (env.getD (o.dst.getD 0) .bot)
 |_=>True
def IQ(env:Env)(H:AH)(o:bT):Prop:=
 match o.guard with
 |none=>Fx env H o
 |some (s,want)=>env.getD s .bot = .bool want→Fx env H o
def nq(ops:List bT)(env:Env)(H:AH)(X:Prop):List Nat→Prop
 |[]=>X
 |l::r=>(match ops[l]? with|some o=>IQ env H o|none=>True)∧nq ops env H X r
def ta(Φ:aj)(o:bT)(env:Env)(H:AH)(K:Env→AH→Prop):Prop:=
 match o.guard with
 |none=>dk Φ env H (fun v H'=>K (cY env o.dst v) H') o.op
 | some (s,want)=>
  aL (env.getD s .bot) want (dk Φ (env.set s (.bool want)) H (fun v H'=>K (cY (env.set s (.bool want)) o.dst v) H') o.op)
   (K (cY (env.set s (.bool !want)) o.dst (.aM [])) H) (K (cY (env.set s (.aM [])) o.dst (.aM [])) H)
def xf(Φ:aj)(ops:List bT):List Nat→Env→AH→(Env→AH→Prop)→Prop
 |[],env,H,K=>K env H
 | i::r,env,H,K=>match ops[i]? with
  |some o=>ta Φ o env H fun aU H'=>xf Φ ops r aU H' K
  |none=>False
def sY(Φ:aj)(ops:List bT)(last:List Nat):List (List Nat×Nat×List Nat)→Env→AH→(Env→AH→Prop)→Prop
 |[],env,H,K=>xf Φ ops last env H K
 | (dU,e,st)::r,env,H,K=>xf Φ ops dU env H fun AE H1=>match ops[e]? with
  |some o=>ta Φ o AE H1 fun qs H2=>nq ops AE H2 (sY Φ ops last r qs H2 K) st
  |none=>False
inductive kQ where
 |skip
 |region (ops:List bT)
 |draw (ops:List bT) (pr:List (List Nat)) (bX:List (List Nat×Nat×List Nat)) (last:List Nat)
 |seq (a b:kQ)
 |join (vs ks:List Nat) (a b:kQ)
 |cond (x:bn) (a b:kQ)
 |block (id:Nat) (a:kQ)
 |loop (vs ks:List Nat) (a:kQ)
 |exit (id:Nat)
 |ret
 |freeze (t:Nat) (a:kQ)
 |qk (vs ks:List Nat) (ops:List bT) (b:kQ)
inductive pg where
 |normal
 |exit (id:Nat)
 |ret
def jc(env:Env)(vs:List Nat):List AV:=vs.map fun t=>env.getD t .bot
def kJ(env:Env):List Nat→Env
 |[]=>env
 |t::r=>kJ (env.set t .bot) r
def qw(env:Env):List Nat→List AV→Env
 |t::r,s=>qw (env.set t (s.headD .bot)) r s.tail
 |[],_=>env
def sl(s:List AV):Nat→AV
 |0=>s.headD .bot
 |i+1=>sl s.tail i
def aB{σ:Type}(F:σ→(σ→Prop)→Prop)(s:σ):Prop:=∀I:σ→Prop,(∀s K,F s K→(∀t,K t→I t)→I s)→I s
theorem aB.step{σ:Type}{F:σ→(σ→Prop)→Prop}{s:σ}(h:F s (aB F)):aB F s:=fun I hI=>hI s _ h fun _ ht=>ht I hI
def ak(K:List AV→AH→Prop)(st:List AV)(H:AH):Prop:=K st H
def jR(Φ:aj):kQ→Env→AH→(pg→Env→AH→Prop)→Prop
 | .skip,env,H,Q=>Q .normal env H
 | .region ops,env,H,Q=>qb Φ ops env H (Q .normal)
 | .draw ops _ bX last,env,H,Q=>sY Φ ops last bX env H (Q .normal)
 | .seq a b,env,H,Q=>jR Φ a env H fun e aU H'=>match e with
  | .normal=>jR Φ b aU H' Q
  |e=>Q e aU H'
 | .join vs ks a b,env,H,Q=>jR Φ a env H fun e aU H'=>match e with
  | .normal=>ak (fun st eV=>jR Φ b (qw (kJ env ks) vs st) eV Q) (jc aU vs) H'
  |e=>Q e aU H'
 | .cond x a b,env,H,Q=>Gd (x.ev env) true (jR Φ a env H Q) (jR Φ b env H Q)
 | .block id a,env,H,Q=>jR Φ a env H fun e aU H'=>match e with
  | .exit fQ=>if fQ=id then Q .normal aU H' else Q (.exit fQ) aU H'
  |e=>Q e aU H'
 | .loop vs ks a,env,H,Q=>
  aB (fun(s:List AV×AH) (K:List AV×AH→Prop)=>
    jR Φ a (qw (kJ env ks) vs s.1) s.2 fun e aU H'=>match e with
     | .normal=>K (jc aU vs,H')
     |e=>Q e aU H') (jc env vs,H)
 | .exit id,env,H,Q=>Q (.exit id) env H
 | .ret,env,H,Q=>Q .ret env H
 | .freeze t a,env,H,Q=>aJ (z8 H (env.getD t .bot)) fun v H'=>jR Φ a (env.set t v) H' Q
 | .qk vs ks ops b,env,H,Q=>qb Φ ops env H fun aU H'=>ak (fun st eV=>jR Φ b (qw (kJ env ks) vs st) eV Q) (jc aU vs) H'
inductive tg where
 |tmp (t:Nat)
 |cell (t n:Nat) (agg:Bool)
def xe(env:Env)(H:AH):List tg→(List AV→Prop)→Prop
 |[],K=>K []
 | .tmp t::r,K=>xe env H r fun vs=>K (env.getD t .bot::vs)
 | .cell t n agg::r,K=>Do (J H n agg (env.getD t .bot)) fun v=>xe env H r fun vs=>K (v::vs)
structure bm where
 ntmps:Nat
 results:List tg
 body:kQ
def Am:List AV→AV
 |[v]=>v
 |vs=> .aM vs
def Fc(Φ:aj)(f:bm)(args:List AV)(H:AH)(Q:ae):Prop:=
 jR Φ f.body (args++List.replicate (f.ntmps-args.length) .bot) H fun e env H'=>match e with
  | .exit _=>False
  |_=>xe env H' f.results fun vs=>Q (Am vs) H'
end Rb

namespace Rb
open Go
def w_(Φ:aj):Prop:=∀(key:Nat)(args:List AV)(H:AH)(Q:ae),Φ key args H Q→∃v H',Q v H'
theorem Do.nv{α:Type}{x:Option α}{K:α→Prop}(h:Do x K):∃a,K a:=by obtain⟨a,_,h⟩:=h;exact⟨a,h⟩
theorem aJ.nv{x:Option (AV×AH)}{K:ae}(h:aJ x K):∃v H,K v H:=by obtain⟨a,H,_,h⟩:=h;exact⟨a,H,h⟩
theorem Gd.nv{v:AV}{want:Bool}{A B X:Prop}(hA:A→X)(hB:B→X)(h:Gd v want A B):X:=by
 unfold Gd at h;split at h
 · split at h
   ·exact hA h
   ·exact hB h
 ·exact h.elim
theorem aL.nv{v:AV}{want:Bool}{A B D X:Prop}(hA:A→X)(hB:B→X)(hD:D→X)(h:aL v want A B D):X:=by
 unfold aL at h;split at h
 · split at h
   ·exact hA h
   ·exact hB h
 ·exact hD h
 ·exact h.elim
section
variable{Φ:aj}
theorem MD(eg:w_ Φ){env:Env}{H:AH}{K:ae}{op:fw}(h:dk Φ env H K op):∃v H',K v H':=by
 cases op with
 |mv x=>exact⟨_,_,h⟩
 |pick c x y=>exact Gd.nv (fun h=>⟨_,_,h⟩) (fun h=>⟨_,_,h⟩) h
 |pD t x=>exact⟨_,_,h⟩
 |oG key cA=>exact⟨_,_,h⟩
 |pC n=>exact⟨_,_,h⟩
 |box mu n x=>exact aJ.nv h
 |alloc mu zero=>exact aJ.nv h
 |ov=>exact aJ.nv h
 |append=>exact aJ.nv h
 |make=>exact aJ.nv h
 |copy=>exact aJ.nv h
 |oC=>exact⟨_,_,h⟩
 |qe=>exact aJ.nv h
 |ql=>exact aJ.nv h
 |call key args=>exact eg _ _ _ _ h
 |qg f args=>obtain⟨key,cA,h1,h2⟩:=h;exact eg _ _ _ _ h2
 |ext=>exact aJ.nv h
 |inv p9 x args=>obtain⟨t,v,r,u,h1,h2,h3,h4⟩:=h;exact eg _ _ _ _ h4
 |store=>obtain⟨H',h⟩:=Do.nv h;exact⟨_,_,h⟩
 |pq=>obtain⟨H',h⟩:=Do.nv h;exact⟨_,_,h⟩
 |delete=>obtain⟨H',h⟩:=Do.nv h;exact⟨_,_,h⟩
 |_=>obtain⟨v,h⟩:=Do.nv h;exact⟨_,_,h⟩
theorem aaL(eg:w_ Φ){o:bT}{env:Env}{H:AH}{K:Env→AH→Prop}(h:ta Φ o env H K):∃aU H',K aU H':=by
 unfold ta at h;split at h
 ·obtain⟨v,H',h⟩:=MD eg h;exact⟨_,_,h⟩
 · refine aL.nv (fun h=>?_) (fun h=>⟨_,_,h⟩) (fun h=>⟨_,_,h⟩) h;obtain⟨v,H',h⟩:=MD eg h;exact⟨_,_,h⟩
theorem DS(eg:w_ Φ):∀(l:List bT){env:Env}{H:AH}{K:Env→AH→Prop},qb Φ l env H K→∃aU H',K aU H'
 |[],_,_,_,h=>⟨_,_,h⟩
 | o :: r,env,H,K,h=>by
  unfold qb at h;split at h
  ·obtain⟨v,H',h⟩:=MD eg h;exact DS eg r h
  · refine aL.nv (fun h=>?_) (fun h=>DS eg r h) (fun h=>DS eg r h) h;obtain⟨v,H',h⟩:=MD eg h;exact DS eg r h
theorem SZ(eg:w_ Φ){ops:List bT}:∀(l:List Nat){env:Env}{H:AH}{K:Env→AH→Prop},xf Φ ops l env H K→∃aU H',K aU H'
 |[],_,_,_,h=>⟨_,_,h⟩
 | i::r,env,H,K,h=>by
  unfold xf at h;split at h
  ·obtain⟨aU,H',h⟩:=aaL eg h;exact SZ eg r h
  ·exact h.elim
theorem abt{ops:List bT}{env:Env}{H:AH}{X:Prop}:∀(l:List Nat),nq ops env H X l→X
 |[],h=>h
 |_::r,h=>abt r h.2
theorem Z2(eg:w_ Φ){ops:List bT}{last:List Nat}:∀(l:List (List Nat×Nat×List Nat)) {env:Env} {H:AH} {K:Env→AH→Prop},sY Φ ops last l env H K→∃aU H',K aU H'
 |[],env,H,K,h=>SZ eg last h
 | (dU,e,st)::r,env,H,K,h=>by
  unfold sY at h;obtain⟨AE,H1,h⟩:=SZ eg dU h;split at h
  ·obtain⟨qs,H2,h⟩:=aaL eg h;exact Z2 eg r (abt st h)
  ·exact h.elim
theorem alL(eg:w_ Φ):∀(c:kQ){env:Env}{H:AH}{Q:pg→Env→AH→Prop},jR Φ c env H Q→∃e aU H',Q e aU H':=by
 intro c;induction c with
 |skip=>intro env H Q h;exact⟨_,_,_,h⟩
 |region ops=>intro env H Q h;obtain⟨e,H',h⟩:=DS eg ops h;exact⟨_,_,_,h⟩
 |draw ops pr bX last=>intro env H Q h;obtain⟨e,H',h⟩:=Z2 eg bX h;exact⟨_,_,_,h⟩
 | seq a b mF mG=>
  intro env H Q h;obtain⟨e,aU,H',h⟩:=mF h;cases e with
  |normal=>exact mG h
  |exit i=>exact⟨_,_,_,h⟩
  |ret=>exact⟨_,_,_,h⟩
 | join vs ks a b mF mG=>
  intro env H Q h;obtain⟨e,aU,H',h⟩:=mF h;cases e with
  |normal=>exact mG h
  |exit i=>exact⟨_,_,_,h⟩
  |ret=>exact⟨_,_,_,h⟩
 |cond x a b mF mG=>intro env H Q h;exact Gd.nv (fun h=>mF h) (fun h=>mG h) h
 | block id a ih=>
  intro env H Q h;obtain⟨e,aU,H',h⟩:=ih h;cases e with
  |normal=>exact⟨_,_,_,h⟩
  | exit i=>
   dsimp only at h;split at h
   ·exact⟨_,_,_,h⟩
   ·exact⟨_,_,_,h⟩
  |ret=>exact⟨_,_,_,h⟩
 | loop vs ks a ih=>
  intro env H Q h;refine h (fun _=>∃e aU H',Q e aU H') fun s K hs hK=>?_;obtain⟨e,aU,H',h⟩:=ih hs;cases e with
  |normal=>exact hK _ h
  |exit i=>exact⟨_,_,_,h⟩
  |ret=>exact⟨_,_,_,h⟩
 |exit id=>intro env H Q h;exact⟨_,_,_,h⟩
 |ret=>intro env H Q h;exact⟨_,_,_,h⟩
 |freeze t a ih=>intro env H Q h;obtain⟨v,H',h⟩:=aJ.nv h;exact ih h
 |qk vs ks ops b ih=>intro env H Q h;obtain⟨e,H',h⟩:=DS eg ops h;exact ih h
theorem Mm{env:Env}{H:AH}:∀(l:List tg){K:List AV→Prop},xe env H l K→∃vs,K vs
 |[],K,h=>⟨_,h⟩
 | .tmp t::r,K,h=>by obtain⟨vs,h⟩:=Mm r h;exact⟨_,h⟩
 | .cell t n agg::r,K,h=>by obtain⟨v,h⟩:=Do.nv h;obtain⟨vs,h⟩:=Mm r h;exact⟨_,h⟩
theorem aa6(eg:w_ Φ){f:bm}{args:List AV}{H:AH}{Q:ae}(h:Fc Φ f args H Q):∃v H',Q v H':=by
 obtain⟨e,aU,H',h⟩:=alL eg _ h;cases e with
 |normal=>obtain⟨vs,h⟩:=Mm _ h;exact⟨_,_,h⟩
 |exit i=>exact h.elim
 |ret=>obtain⟨vs,h⟩:=Mm _ h;exact⟨_,_,h⟩
end
end Rb

namespace Rb
open Go
section
variable{P:Program}{F:eG}{w:World}{G:cc}
@[simp] theorem aCa {α:Type} (a:α) (K:α→Prop):Do (some a) K=K a:=by simp[Do]
@[simp] theorem aCh {α:Type} (K:α→Prop):Do none K=False:=by simp[Do]
theorem VR.lW{k:IntKind}{n:Int}{V:Value}(h:VR F w G (.int k n) V):V = .int k n:=by cases h;rfl
theorem VR.qN{b:Bool}{V:Value}(h:VR F w G (.bool b) V):V = .bool b:=by cases h;rfl
theorem VR.rP{s:List UInt8}{V:Value}(h:VR F w G (.str s) V):V = .string ⟨s.toArray⟩:=by cases h;rfl
theorem VR.BF{cs:List AV}{V:Value}(h:VR F w G (.agg cs) V):∃Vs,V = .agg Vs∧bo F w G cs Vs:=by cases h with|agg cs Vs hl hv=>exact⟨Vs,rfl,hl,hv⟩
theorem VR.adh{cs:List AV}{V:Value}(h:VR F w G (.aM cs) V):∃Vs,V = .tuple Vs∧bo F w G cs Vs:=by cases h with|aM cs Vs hl hv=>exact⟨Vs,rfl,hl,hv⟩
theorem VR.abz{V:Value}(h:VR F w G (.aM []) V):V = .tuple #[]:=by
 obtain⟨Vs,rfl,hs,_⟩:=h.adh;have:Vs.size=0:=by simpa using hs.symm
 rw[Array.size_eq_zero_iff.1 this]
theorem bo.agg{cs:List AV}{Vs:Array Value}(h:bo F w G cs Vs):VR F w G (.agg cs) (.agg Vs):= .agg cs Vs h.1 h.2
theorem bo.aM{cs:List AV}{Vs:Array Value}(h:bo F w G cs Vs):VR F w G (.aM cs) (.tuple Vs):= .aM cs Vs h.1 h.2
theorem bo.get{cs:List AV}{Vs:Array Value}(h:bo F w G cs Vs){j:Nat}{c:AV}(hc:cs[j]?=some c):∃V,Vs[j]?=some V∧VR F w G c V:=by have hj:j<cs.length:=(List.getElem?_eq_some_iff.1 hc).1;have i5:j<Vs.size:=h.1▸hj;exact⟨Vs[j],Array.getElem?_eq_getElem i5,h.2 j c _ hc (Array.getElem?_eq_getElem i5)⟩
theorem bo.BM{cs:List AV}{Vs:List Value}(hl:cs.length=Vs.length)(h:∀(j:Nat)(c:AV)(V:Value),cs[j]?=some c→Vs[j]?=some V→VR F w G c V):bo F w G cs Vs.toArray:=⟨by simpa using hl,fun j c V hc hV=>h j c V hc (by simpa using hV)⟩
theorem bo.cut{cs:List AV}{Vs:Array Value}(h:bo F w G cs Vs)(o n:Nat)(hn:o+n≤cs.length):bo F w G ((cs.drop o).take n) (Vs.extract o (o+n)):=by
 have h1:=h.1;refine⟨by simp;omega,fun j c V hc hV=>?_⟩;rw[List.getElem?_take]at hc;split at hc
 · rename_i hj;rw[List.getElem?_drop]at hc;rw[Array.getElem?_extract]at hV;split at hV
   ·exact h.2 _ _ _ hc hV
   ·cases hV
 ·cases hc
def qc:TypeDesc→Bool
 | .struct _ | .array _ _=>true
 |_=>false
theorem Sf{t:TypeId}{cs:Array Value}{off:Nat}{d:TypeDesc}{i:TypeInfo}(hd:P.underlying t=some d)(ha:qc d=true)(hi:P.info? t=some i) :
  (part t cs off).run P w = .ok (.agg (cs.extract off (off+i.size))) w:=by
 cases d<;>simp[qc]at ha<;>simp[part,isAgg,Go.sizeOf,typeInfo,run_underlying hd,hi]
theorem Sg{t:TypeId}{cs:Array Value}{off:Nat}{d:TypeDesc}{V:Value}(hd:P.underlying t=some d)(ha:qc d=false)(hV:cs[off]?=some V) :
  (part t cs off).run P w = .ok V w:=by
 cases d<;>simp[qc]at ha<;>simp[part,isAgg,run_underlying hd,hV]
def qy(P:Program)(t:TypeId)(sz:Nat)(agg:Bool):Bool:=
 match P.underlying t,P.info? t with
 |some d,some i=>qc d==agg&&i.size==sz&&(agg||sz==1)
 |_,_=>false
theorem MF{t:TypeId}{sz:Nat}{agg:Bool}(h:qy P t sz agg=true):∃d i,P.underlying t=some d∧P.info? t=some i∧qc d=agg∧i.size=sz∧(agg=true∨sz=1):=by
 unfold qy at h;split at h
 · rename_i d i hd hi;simp only[Bool.and_eq_true,beq_iff_eq,Bool.or_eq_true]at h;exact⟨d,i,hd,hi,h.1.1,h.1.2,h.2⟩
 ·cases h
theorem Zm{t:TypeId}{sz:Nat}{agg:Bool}(ht:qy P t sz agg=true){cs:List AV}{Vs:Array Value}(h:bo F w G cs Vs){o:Nat}{v:AV}(hv:cC cs o sz agg=some v) :
  ∃V,(part t Vs o).run P w = .ok V w∧VR F w G v V:=by
 obtain⟨d,i,hd,hi,ha,hs,ma⟩:=MF ht;unfold cC at hv;split at hv
 · rename_i hle;cases agg with
   | true=>simp at hv;subst hv;subst hs;exact⟨_,Sf hd ha hi,(h.cut o _ hle).agg⟩
   | false=>simp at hv;obtain⟨V,hV,hr⟩:=h.get hv;exact⟨V,Sg hd ha hV,hr⟩
 ·cases hv
theorem alz{op:BinOp}{x y v:AV}{X Y:Value}{t:TypeId}(h:ai op x y=some v)(hx:VR F w G x X)(hy:VR F w G y Y) :
  ∃V,(binOp op t X Y).run P w = .ok V w∧VR F w G v V:=by
 unfold ai at h;split at h
 · rename_i k a k' b;obtain rfl:=hx.lW;obtain rfl:=hy.lW;unfold dV at h;cases op<;>simp only[]at h
   case shl=>
    split at h
    ·cases h
    · rename_i hb;cases h;refine⟨.int k (k.wrap (a*2^(min b.toNat k.bits))),?_,.int _ _⟩;simp[binOp,Op.shift,hb]
   case shr=>
    split at h
    ·cases h
    · rename_i hb;cases h;refine⟨.int k (a.fdiv (2^(min b.toNat k.bits))),?_,.int _ _⟩;simp[binOp,Op.shift,hb]
   case quo=>
    split at h
    · rename_i hb;cases h;obtain⟨rfl,hb⟩:=hb;refine⟨.int k (k.wrap (a.tdiv b)),?_,.int _ _⟩;simp[binOp,Op.intDiv,hb]
    ·cases h
   case rem=>
    split at h
    · rename_i hb;cases h;obtain⟨rfl,hb⟩:=hb;refine⟨.int k (a.tmod b),?_,.int _ _⟩;simp[binOp,Op.intDiv,hb]
    ·cases h
   all_goals
    split at h
    · rename_i hk;subst hk;first
       | (have h:=show some (AV.int k _)=some v from h
          cases h;refine⟨_,?_,.int _ _⟩;simp only[binOp,ne_eq,not_true_eq_false,if_false];rfl)
       | (cases h
          refine⟨_,?_,.bool _⟩;simp only[binOp,ne_eq,not_true_eq_false,if_false];rfl)
    ·cases h
 · rename_i s u;obtain rfl:=hx.rP;obtain rfl:=hy.rP;unfold abG at h;cases op<;>simp only[]at h
   case add=>
    split at h
    · rename_i hl;cases h;refine⟨_,?_,.str _⟩;have jL:¬(9223372036854775807<(s.length:Int)+(u.length:Int)):=by omega
      have hs:(ByteArray.mk s.toArray).size=s.length:=by simp[ByteArray.size]
      have hu:(ByteArray.mk u.toArray).size=u.length:=by simp[ByteArray.size]
      have he:(ByteArray.mk s.toArray++ByteArray.mk u.toArray)=⟨(s++u).toArray⟩:=by apply ByteArray.ext;simp
      simp[binOp,Op.stringOp,hs,hu,jL,IntKind.max,IntKind.signed,IntKind.bits,he]
    ·cases h
   all_goals
    first
     |(cases h;exact⟨_,by simp[binOp,Op.stringOp],.bool _⟩)
     |cases h
 ·cases h
theorem Zg(op:BinOp)(t:TypeId)(x y:Operand)(X Y:Value)(h1:∀cs,X ≠ .agg cs)(h2:X ≠ .nilIface):(eqGuard op t x y X Y).run P w = .ok () w:=by unfold eqGuard;cases op<;>simp;all_goals (cases X<;>simp_all)
theorem aly{neg:Bool}{x y v:AV}{X Y:Value}{t:TypeId}(ht:P.underlying t=some .bool)(h:uF neg x y=some v)(hx:VR F w G x X)(hy:VR F w G y Y) :
  ∃V,(binOp (if neg then .neq else .eql) t X Y).run P w = .ok V w∧VR F w G v V:=by
 unfold uF at h;split at h
 · rename_i a b;obtain rfl:=hx.qN;obtain rfl:=hy.qN;cases h;have fj:∀n,(Op.equalIn (n+1) t (.bool a) (.bool b)).run P w = .ok (a==b) w:=fun n=>by
    unfold Op.equalIn;simp[run_underlying ht]
   have he:(Op.equal t (.bool a) (.bool b)).run P w = .ok (a==b) w:=fj 9999;refine⟨_,?_,.bool _⟩;cases neg
   · show(do pure (.bool (←Op.equal t (.bool a) (.bool b))):Sem Value).run P w=_;simp[he]
   · show(do pure (.bool (!(←Op.equal t (.bool a) (.bool b)))):Sem Value).run P w=_;simp[he]
 ·cases h
def Ed:TypeDesc→Option NK
 | .pointer _=>some .p
 | .slice _=>some .s
 | .map _ _=>some .m
 | .func _ _ _=>some .f
 | .interface _=>some .i
 |_=>none
def NK.nil:NK→Value
 | .p=> .pointer none
 | .s=> .slice none 0 0
 | .m=> .map none
 | .f=> .nilFunc
 | .i=> .nilIface
theorem akf{k:NK}{x:AV}{b:Bool}{X:Value}{t:TypeId}{d:TypeDesc}(hd:P.underlying t=some d)(hk:Ed d=some k)(h:x.isNil k=some b)(hx:VR F w G x X) :
  (Op.equal t X k.nil).run P w = .ok b w:=by
 have key:∀n,(Op.equalIn (n+1) t X k.nil).run P w = .ok b w:=by
  intro n;unfold AV.isNil at h;split at h<;>(try (cases h;done))<;>cases h;all_goals
   cases d<;>simp only[Ed,Option.some.injEq,reduceCtorEq]at hk;cases hx<;>first|(unfold Op.equalIn;simp[NK.nil,run_underlying hd];done)|contradiction
 exact key 9999
theorem alE{k:NK}{neg:Bool}{x v:AV}{X:Value}{t:TypeId}{d:TypeDesc}(hd:P.underlying t=some d)(hk:Ed d=some k)(h:Fy k neg x=some v)(hx:VR F w G x X) :
  ∃V,(binOp (if neg then .neq else .eql) t X k.nil).run P w = .ok V w∧VR F w G v V:=by
 unfold Fy at h;cases hb:x.isNil k with
 |none=>simp[hb]at h
 | some b=>
  simp[hb]at h;subst h;have hr:=akf (P:=P) hd hk hb hx;have xz:(neg=false→binOp .eql t X k.nil=(do pure (.bool (←Op.equal t X k.nil))))∧(neg=true→binOp .neq t X k.nil=(do pure (.bool (!(←Op.equal t X k.nil))))):=by unfold AV.isNil at hb;split at hb<;>(try (cases hb;done))<;>cases hx<;>exact⟨fun _=>rfl,fun _=>rfl⟩
  refine⟨_,?_,.bool _⟩;cases neg
  · rw[if_neg (by simp),xz.1 rfl];simp[hr]
  · rw[if_pos rfl,xz.2 rfl];simp[hr]
theorem amm{op:UnOp}{x v:AV}{X:Value}(h:eB op x=some v)(hx:VR F w G x X):∃V,(Op.unary op X).run P w = .ok V w∧VR F w G v V:=by
 unfold eB at h;split at h
 · obtain rfl:=hx.qN;cases h;exact⟨_,rfl,.bool _⟩
 · obtain rfl:=hx.lW;cases h;exact⟨_,rfl,.int _ _⟩
 · obtain rfl:=hx.lW;simp only[vp,Option.map_some,Option.some.injEq]at h;subst h;exact⟨_,rfl,.int _ _⟩
 ·cases h
theorem akP{k:IntKind}{x v:AV}{X:Value}{s t:TypeId}{d:TypeDesc}(hs:P.underlying s=some d)(ht:P.underlying t=some (.int k))(h:my k x=some v)(hx:VR F w G x X) :
  ∃V,(convert s t X).run P w = .ok V w∧VR F w G v V:=by
 unfold my at h;split at h
 · obtain rfl:=hx.lW;cases h;refine⟨_,?_,.int _ _⟩;simp[convert,run_underlying hs,run_underlying ht,Conv.intToInt]
 ·cases h
theorem akT{x v:AV}{X:Value}{s t:TypeId}(hs:P.underlying s=some .string)(ht:P.underlying t=some .string)(h:ET x=some v)(hx:VR F w G x X) :
  ∃V,(convert s t X).run P w = .ok V w∧VR F w G v V:=by
 unfold ET at h;split at h
 · obtain rfl:=hx.rP;cases h;refine⟨_,?_,.str _⟩;simp[convert,run_underlying hs,run_underlying ht]
 ·cases h
theorem akp{x v:AV}{X:Value}(h:bR x=some v)(hx:VR F w G x X):(∃a,X = .pointer (some a))∧VR F w G v X∨(∃f As Vs,X = .func (.func f) As Vs)∧VR F w G v X:=by
 unfold bR at h;split at h
 ·cases h;left;exact⟨by cases hx;exact⟨_,rfl⟩,hx⟩
 ·cases h;left;exact⟨by cases hx;exact⟨_,rfl⟩,hx⟩
 ·cases h;right;exact⟨by cases hx<;>exact⟨_,_,_,rfl⟩,hx⟩
 ·cases h
theorem akl{t:TypeId}{fields:Array Field}{n off sz:Nat}{agg:Bool}{f:Field}{x v:AV}{X:Value}(ht:P.underlying t=some (.struct fields))(hf:fields[n]?=some f)(ho:f.offset=off)
  (pX:qy P f.type sz agg=true) (h:yD off sz agg x=some v) (hx:VR F w G x X):∃V,(Instr.field t X n).run P w = .ok V w∧VR F w G v V:=by
 unfold yD at h;split at h
 · obtain⟨Vs,rfl,pM⟩:=hx.BF;subst ho;obtain⟨V,hr,hv⟩:=Zm (w:=w) pX pM h;exact⟨V,by simp[Instr.field,run_underlying ht,hf,asAgg,hr],hv⟩
 ·cases h
theorem alC{t e:TypeId}{len sz:Nat}{agg:Bool}{x i v:AV}{X I:Value}(ht:P.underlying t=some (.array len e))(pX:qy P e sz agg=true)(h:yX len sz agg x i=some v)
  (hx:VR F w G x X) (hi:VR F w G i I):∃V,(Instr.index t X I).run P w = .ok V w∧VR F w G v V:=by
 unfold yX at h;split at h
 · obtain ⟨Vs,rfl,pM⟩:=hx.BF;obtain rfl:=hi.lW;split at h
   · rename_i hb;obtain⟨V,hr,hv⟩:=Zm (w:=w) pX pM h;obtain⟨d,inf,hd,jm,_,hs,_⟩:=MF pX;subst hs;exact⟨V,by simp[Instr.index,asIntOf,run_underlying ht,hb,Go.sizeOf,typeInfo,jm,hr],hv⟩
   ·cases h
 ·cases h
theorem akR{t:TypeId}{x i v:AV}{X I:Value}(ht:P.underlying t=some .string)(h:oz x i=some v)
  (hx:VR F w G x X) (hi:VR F w G i I):∃V,(Instr.index t X I).run P w = .ok V w∧VR F w G v V:=by
 unfold oz at h;split at h
 · rename_i s k i;obtain rfl:=hx.rP;obtain rfl:=hi.lW;split at h
   · rename_i hb;cases hs:s[i.toNat]? with
     |none=>simp[hs]at h
     | some b=>
      simp[hs]at h;subst h;have hg:(ByteArray.mk s.toArray)[i.toNat]?=some b:=by
       have aO:=(List.getElem?_eq_some_iff.1 hs).1;have he:=(List.getElem?_eq_some_iff.1 hs).2;have gN:i.toNat<(ByteArray.mk s.toArray).size:=by simpa[ByteArray.size]using aO
       rw[getElem?_pos (ByteArray.mk s.toArray) i.toNat gN];simp[ByteArray.getElem_eq_getElem_data,he]
      exact⟨_,by simp[Instr.index,asIntOf,run_underlying ht,hb,hg],.int _ _⟩
   ·cases h
 ·cases h
theorem wR(b o n:Nat):(⟨b,o,none⟩:Addr).add n=⟨b,o+n,none⟩:=by
 unfold Addr.add;split
 ·rename_i h;subst h;rfl
 ·rfl
theorem Vw{cs:List AV}{b o:Nat}(h:VR F w G (.av cs) (.pointer (some ⟨b,o,none⟩)))(n:Nat):VR F w G (.av (cs.drop n)) (.pointer (some ⟨b,o+n,none⟩)):=by
 cases h with
 | av cs b o Vs h hv=>
  refine .av _ _ _ (fun j=>Vs (n+j)) (fun j c hj=>?_) (fun j c hj=>?_)
  · rw[List.getElem?_drop]at hj;have:=h _ _ hj;rw[←Nat.add_assoc]at this;exact this
  · rw[List.getElem?_drop]at hj;exact hv _ _ hj
theorem akk{t:TypeId}{fields:Array Field}{n off:Nat}{f:Field}{fi:TypeInfo}{x v:AV}{X:Value}(ht:P.underlying t=some (.struct fields))(hf:fields[n]?=some f)(ho:f.offset=off)
  (A6:P.info? f.type=some fi) (Cz:fi.size≠0) (h:ab off x=some v) (hx:VR F w G x X):∃V,(Instr.fieldAt t X n).run P w = .ok V w∧VR F w G v V:=by
 subst ho;have key:∀b o,X = .pointer (some ⟨b,o,none⟩)→(Instr.fieldAt t X n).run P w = .ok (.pointer (some ⟨b,o+f.offset,none⟩)) w:=by intro b o hX;subst hX;simp[Instr.fieldAt,run_underlying ht,hf,Instr.sureAddr,fieldPlace,Go.sizeOf,typeInfo,A6,Cz,wR]
 unfold ab at h;split at h
 · cases h;cases hx with
   |ptr id off gC=>exact⟨_,key _ _ rfl,.ptr _ _ gC⟩
 · cases h;cases hx with
   |av _ b o Vs h hv=>exact⟨_,key _ _ rfl,Vw (.av _ b o Vs h hv) _⟩
 ·cases h
theorem Uh{v:AV}{want:Bool}{A B:Prop}(h:Gd v want A B):∃b,v = .bool b∧if b=want then A else B:=by
 unfold Gd at h;split at h
 ·rename_i b;exact⟨b,rfl,h⟩
 ·exact h.elim
@[simp] theorem aCj (b want:Bool) (A B:Prop):Gd (.bool b) want A B=if b=want then A else B:=rfl
theorem ajU{i:Nat}{x v:AV}{X:Value}(h:db i x=some v)(hx:VR F w G x X):∃V,(Instr.extract X i).run P w = .ok V w∧VR F w G v V:=by
 unfold db at h;split at h
 · obtain⟨Vs,rfl,pM⟩:=hx.adh;obtain⟨V,hV,hv⟩:=pM.get h;exact⟨V,by simp[Instr.extract,hV],hv⟩
 ·cases h
theorem bo.app{cs fI:List AV}{Vs mg:Array Value}(h:bo F w G cs Vs)(h':bo F w G fI mg):bo F w G (cs++fI) (Vs++mg):=by
 refine⟨by simp[h.1,h'.1],fun j c V hc hV=>?_⟩;rw[List.getElem?_append]at hc;rw[Array.getElem?_append]at hV;rw[h.1]at hc;split at hc
 · rename_i hj;rw[if_pos hj]at hV;exact h.2 _ _ _ hc hV
 · rename_i hj;rw[if_neg hj]at hV;exact h'.2 _ _ _ hc hV
theorem bo.set{cs:List AV}{Vs:Array Value}(h:bo F w G cs Vs)(j:Nat){c:AV}{V:Value}(hc:VR F w G c V):bo F w G (cs.set j c) (Vs.setIfInBounds j V):=by
 refine⟨by simp[h.1],fun i d U hd hU=>?_⟩;rw[List.getElem?_set]at hd;rw[Array.getElem?_setIfInBounds]at hU;by_cases nF:j=i
 · subst nF;rw[if_pos rfl]at hd;rw[if_pos rfl]at hU;split at hd
   · rename_i aO;rw[if_pos (h.1▸aO)]at hU;cases hd;cases hU;exact hc
   ·cases hd
 · rw[if_neg nF]at hd hU;exact h.2 _ _ _ hd hU
theorem bo.one{c:AV}{V:Value}(h:VR F w G c V):bo F w G [c] #[V]:=
 bo.BM (Vs:=[V]) rfl fun j d U hd hU=>by
  cases j with
  |zero=>simp at hd hU;subst hd;subst hU;exact h
  |succ j=>simp at hd
theorem bo.nil:bo F w G [] #[]:=⟨rfl,fun j c V hc _=>by simp at hc⟩
theorem VR.Sn{v:AV}{V:Value}(hk:v.known=true)(h:VR F w G v V):bo F w G v.cells V.cells:=by
 cases v with
 | agg cs=>obtain⟨Vs,rfl,pM⟩:=h.BF;exact pM
 |aM _=>cases hk
 |bot=>cases hk
 | _=>
  have hV:V.cells = #[V]:=by cases h<;>rfl
  rw[hV];exact bo.one h
theorem VR.aai{v:AV}{V:Value}(hk:v.scalar=true)(h:VR F w G v V):V.oneCell'=true:=by cases v<;>simp[AV.scalar]at hk<;>cases h<;>rfl
end
end Rb

namespace Rb
open Go
section
variable{P:Program}{F:eG}{w:World}{G:cc}
theorem VR.abh{cells:List AV}{b o:Nat}{Vs:Nat→Value}
  (h:∀(j:Nat)(c:AV),cells[j]?=some c→G.fz b (o+j)∧w.cell? ⟨b,o+j,none⟩=some (Vs j))
  (hv:∀(j:Nat)(c:AV),cells[j]?=some c→VR F w G c (Vs j)) (n m:Nat) :
  (∀(j:Nat)(c:AV),((cells.take m).drop n)[j]?=some c→G.fz b (o+n+j)∧w.cell? ⟨b,o+n+j,none⟩=some (Vs (n+j))) ∧
  (∀(j:Nat)(c:AV),((cells.take m).drop n)[j]?=some c→VR F w G c (Vs (n+j))):=by
 have key:∀(j:Nat)(c:AV),((cells.take m).drop n)[j]?=some c→cells[n+j]?=some c:=by
  intro j c hj;rw[List.getElem?_drop,List.getElem?_take]at hj;split at hj
  ·exact hj
  ·cases hj
 refine⟨fun j c hj=>?_,fun j c hj=>hv _ _ (key j c hj)⟩;have:=h _ _ (key j c hj);rw[←Nat.add_assoc]at this;exact this
theorem akm{t e:TypeId}{arr:Option Nat}{sz:Nat}{inf:TypeInfo}{x i v:AV}{X I:Value}
  (ht:match arr with|none=>P.underlying t=some (.slice e)|some n=>P.underlying t=some (.array n e))
  (hi:P.info? e=some inf) (hs:inf.size=sz) (h:bj arr sz x i=some v) (hx:VR F w G x X) (ig:VR F w G i I) :
  ∃V,(Instr.indexAt t X I).run P w = .ok V w∧VR F w G v V:=by
 subst hs;unfold bj at h;split at h
 · rename_i k i;obtain rfl:=ig.lW;split at h
   · rename_i tk len cells;simp only at ht;split at h
     · rename_i hb;cases h;cases hx with
       |lr=>simp at hb;omega
       |lC=>simp at hb;omega
       | aq _ _ _ b o cap Vs gD hle h hv=>refine⟨.pointer (some ⟨b,o+i.toNat*inf.size,none⟩),?_,Vw (.av _ b o Vs h hv) _⟩;simp[Instr.indexAt,asIntOf,run_underlying ht,hb,Go.sizeOf,typeInfo,hi,wR]
     ·cases h
   · rename_i id o len;simp only at ht;split at h
     · rename_i hb;cases h;cases hx with
       | row _ _ _ _ cap gC hle hc=>refine⟨_,?_,.ptr _ _ gC⟩;simp[Instr.indexAt,asIntOf,run_underlying ht,hb,Go.sizeOf,typeInfo,hi,wR]
     ·cases h
   · rename_i n id o;simp only at ht;split at h
     · rename_i hb;cases h;cases hx with
       | ptr _ _ gC=>refine⟨_,?_,.ptr _ _ gC⟩;simp[Instr.indexAt,asIntOf,run_underlying ht,hb,Go.sizeOf,typeInfo,hi,wR,Instr.sureAddr]
     ·cases h
   · rename_i n cells;simp only at ht;split at h
     · rename_i hb;cases h;cases hx with
       | av _ b o Vs h hv=>refine⟨.pointer (some ⟨b,o+i.toNat*inf.size,none⟩),?_,Vw (.av _ b o Vs h hv) _⟩;simp[Instr.indexAt,asIntOf,run_underlying ht,hb,Go.sizeOf,typeInfo,hi,wR,Instr.sureAddr]
     ·cases h
   ·cases h
 ·cases h
theorem Hj{x:AV}{X:Value}{n y:Nat}{code:BoundsCode}{d:Nat}(h:kH (some x) d=some n)(hx:VR F w G x X)(hn:n≤y) :
  (Instr.sliceBound X y code).run P w = .ok n w:=by
 cases x with
 | int k i=>
  obtain rfl:=hx.lW;simp only[kH]at h;split at h
  · rename_i hp;cases h;have hle:0≤i∧i≤(y:Int):=⟨hp,by omega⟩
    simp[Instr.sliceBound,asIntOf,hle]
  ·cases h
 |_=>simp[kH]at h
def xW(F:eG)(w:World)(G:cc):Option AV→Option Value→Prop
 |none,none=>True
 |some x,some X=>VR F w G x X
 |_,_=>False
theorem Sc{b:Bool}{lo hi:Option AV}{Lo Hi:Option Value}{len cap l h:Nat}(hh:kH hi len=some h)(hl:kH lo 0=some l)(h1:l≤h)(h2:h≤len)(h3:len≤cap)
  (rl:xW F w G lo Lo) (rh:xW F w G hi Hi):(Instr.sliceBounds b len cap Lo Hi none).run P w = .ok (l,h,cap) w:=by
 have eh:(match Hi with|some v=>Instr.sliceBound v cap (if b then .sliceAcap else .sliceAlen)|none=>pure len).run P w = .ok h w:=by
  cases hi with
  | none=>
   cases Hi with
   |none=>simp[kH]at hh;simp[hh]
   |some _=>exact rh.elim
  | some x=>
   cases Hi with
   |none=>exact rh.elim
   |some X=>exact Hj hh rh (Nat.le_trans h2 h3)
 have el:(match Lo with|some v=>Instr.sliceBound v h .sliceB|none=>pure 0).run P w = .ok l w:=by
  cases lo with
  | none=>
   cases Lo with
   |none=>simp[kH]at hl;simp[hl]
   |some _=>exact rl.elim
  | some x=>
   cases Lo with
   |none=>exact rl.elim
   |some X=>exact Hj hl rl h1
 unfold Instr.sliceBounds;cases Hi<;>cases Lo<;>simp at eh el ⊢ <;> simp[eh,el]
theorem LN{b:Bool}{lo hi:Option AV}{m:AV}{Lo Hi:Option Value}{M:Value}{len cap l h mm:Nat}(hm:kH (some m) 0=some mm)(hh:kH hi len=some h)(hhi:hi≠none)(hl:kH lo 0=some l)(h1:l≤h)(h2:h≤mm)(h3:mm≤cap)
  (rl:xW F w G lo Lo) (rh:xW F w G hi Hi) (rm:VR F w G m M):(Instr.sliceBounds b len cap Lo Hi (some M)).run P w = .ok (l,h,mm) w:=by
 have em:∀c,(Instr.sliceBound M cap c).run P w = .ok mm w:=fun c=>Hj hm rm h3;cases hi with
 |none=>exact absurd rfl hhi
 | some x=>
  cases Hi with
  |none=>exact rh.elim
  | some X=>
   have eh:∀c,(Instr.sliceBound X mm c).run P w = .ok h w:=fun c=>Hj hh rh h2;have el:(match Lo with|some v=>Instr.sliceBound v h .slice3C|none=>pure 0).run P w = .ok l w:=by
    cases lo with
    | none=>
     cases Lo with
     |none=>simp[kH]at hl;simp[hl]
     |some _=>exact rl.elim
    | some x=>
     cases Lo with
     |none=>exact rl.elim
     |some X=>exact Hj hl rl h1
   unfold Instr.sliceBounds;cases Lo<;>simp at el ⊢ <;> simp[em,eh,el]
theorem agE(s:List UInt8):(ByteArray.mk s.toArray).size=s.length:=by simp[ByteArray.size]
theorem aj8{t:TypeId}{x v:AV}{lo hi:Option AV}{X:Value}{Lo Hi:Option Value}(ht:P.underlying t=some .string)(h:D3 x lo hi=some v)
  (hx:VR F w G x X) (rl:xW F w G lo Lo) (rh:xW F w G hi Hi):∃V,(Instr.sliceAt t X Lo Hi none).run P w = .ok V w∧VR F w G v V:=by
 unfold D3 at h;split at h
 · rename_i s;obtain rfl:=hx.rP;split at h
   · rename_i hh l ye hl;split at h
     · rename_i hb;cases h;have og:=Sc (P:=P) (b:=false) ye hl hb.1 hb.2 (Nat.le_refl _) rl rh;have he:(ByteArray.mk s.toArray).extract l hh=⟨((s.take hh).drop l).toArray⟩:=by
        rw[Lib.extract_eq];congr 1;simp[List.drop_take]
       refine⟨_,?_,.str _⟩;simp[Instr.sliceAt,Instr.slice,run_underlying ht,agE,og,he]
     ·cases h
   ·cases h
 ·cases h
theorem akq{t e : TypeId}{sz:Nat}{inf:TypeInfo}{x v:AV}{lo hi mx:Option AV}{X:Value}{Lo Hi Mx:Option Value}(ht:P.underlying t=some (.slice e))(ig:P.info? e=some inf)(hs:inf.size=sz)
  (hm:mx≠none→hi≠none) (h:kO sz x lo hi mx=some v) (hx:VR F w G x X) (rl:xW F w G lo Lo) (rh:xW F w G hi Hi) (rm:xW F w G mx Mx) :
  ∃V,(Instr.sliceAt t X Lo Hi Mx).run P w = .ok V w∧VR F w G v V:=by
 subst hs;have run:∀(a:Option Addr)(len cap l h m:Nat),(Instr.sliceBounds true len cap Lo Hi Mx).run P w = .ok (l,h,m) w →
   (Instr.sliceAt t (.slice a len cap) Lo Hi Mx).run P w = .ok (.slice (if m=l then a else a.map (·.add (l*inf.size))) (h-l) (m-l)) w:=by
  intro a len cap l h m hb;simp[Instr.sliceAt,Instr.slice,run_underlying ht,hb,Go.sizeOf,typeInfo,ig]
 unfold kO at h;split at h
 · rename_i tk len cells;split at h
   · rename_i hh l ye hl yh;cases mx with
     |some m=>simp at yh
     |none=>
     cases Mx with
     |some _=>exact rm.elim
     |none=>
     split at h
     · rename_i hb;have og:∀cap,len≤cap→_:=fun cap hc=>Sc (P:=P) (b:=true) ye hl hb.1 hb.2.1 hc rl rh;split at h
       · rename_i he;cases h;obtain⟨rfl,rfl⟩:=he;cases hx with
         |lr=>exact⟨_,run _ _ _ _ _ _ (og 0 (Nat.le_refl _)),by simpa using VR.lr⟩
         |lC a cap=>exact⟨_,run _ _ _ _ _ _ (og cap (Nat.zero_le _)),by simpa using VR.lC _ _⟩
         | aq _ _ _ b o cap Vs gD hle h hv=>refine⟨_,run _ _ _ _ _ _ (og cap hle),?_⟩;have:=VR.aq (F:=F) tk hh cells b o cap Vs gD hle h hv;split<;>simpa[wR]using this
       · rename_i bU;cases h;cases hx with
         |lr=>exact absurd ⟨by omega,by omega⟩ bU
         |lC a cap=>exact absurd ⟨by omega,by omega⟩ bU
         | aq _ _ _ b o cap Vs gD hle h hv=>
          refine⟨_,run _ _ _ _ _ _ (og cap hle),?_⟩;by_cases jZ:cap=l
          · obtain rfl:hh=cap:=by omega
            obtain rfl:hh=len:=by omega
            obtain rfl:l=hh:=by omega
            have KU:¬l=0:=fun e=>bU ⟨e,rfl⟩;rw[if_neg KU,if_pos rfl];have aw_:(cells.take (l*inf.size)).drop (l*inf.size)=[]:=by simp
            rw[aw_];simpa using VR.lC (some ⟨b,o,none⟩) 0
          · rw [if_neg jZ];have hd:=VR.abh (F:=F) h hv (l*inf.size) (hh*inf.size);simp only[Option.map_some,wR];refine .aq _ _ _ b (o+l*inf.size) (cap-l) (fun j=>Vs (l*inf.size+j)) ?_ (by omega) hd.1 hd.2;split
            · rename_i KU;subst KU;split
              · rename_i t;obtain⟨h1,h2,h3,h4⟩:=gD;exact⟨h1,h2,by omega,by omega⟩
              ·trivial
            ·trivial
     ·cases h
   · rename_i hh l m ye hl yh;cases mx with
     |none=>simp at yh
     |some mv=>
     cases Mx with
     |none=>exact rm.elim
     |some Mv=>
     simp at yh;split at h
     · rename_i rC;obtain⟨e1,e2,e3⟩:=rC;subst e1;subst e2;cases hx with
       | lr=>have og:=LN (P:=P) (b:=true) (cap:=0) yh ye (hm (by simp)) hl (Nat.le_refl _) (Nat.le_refl _) (by omega) rl rh rm;cases h;exact⟨_,run _ _ _ _ _ _ og,by simpa using VR.lr⟩
       | lC a cap=>have og:=LN (P:=P) (b:=true) (cap:=cap) yh ye (hm (by simp)) hl (Nat.le_refl _) (Nat.le_refl _) (by omega) rl rh rm;cases h;exact⟨_,run _ _ _ _ _ _ og,by simpa using VR.lC _ _⟩
       | aq _ _ _ b o cap Vs gD hle h' hv=>
        have og:=LN (P:=P) (b:=true) (cap:=cap) yh ye (hm (by simp)) hl (Nat.le_refl _) (Nat.le_refl _) (by omega) rl rh rm;refine⟨_,run _ _ _ _ _ _ og,?_⟩;have Dw:v = .aq .dead 0 []:=by
         cases tk with
         |nil=>exact gD.elim
         |full=>cases h;rfl
         |dead=>cases h;rfl
         |own t=>cases h;rfl
        subst Dw;simpa using VR.lC _ _
     split at h
     · rename_i hb;cases h;cases hx with
       |lr=>exact absurd rfl hb.2.2.2.2.1
       |lC a cap=>have h1:=hb.2.2.2.2.2;have h2:=hb.2.2.1;omega
       | aq _ _ _ b o cap Vs gD hle h hv=>
        obtain⟨kZ,jv,hb3,qE,hb5,hb6⟩:=hb;have og:=LN (P:=P) (b:=true) (cap:=cap) yh ye (hm (by simp)) hl kZ jv (by omega) rl rh rm;refine⟨_,run _ _ _ _ _ _ og,?_⟩;rw[if_neg (show ¬m=l by omega)];have hd:=VR.abh (F:=F) h hv (l*inf.size) (hh*inf.size);simp only[Option.map_some,wR];refine .aq _ _ _ b (o+l*inf.size) (m-l) (fun j=>Vs (l*inf.size+j)) ?_ (Nat.sub_le_sub_right jv l) hd.1 hd.2;split
        · rename_i e;show m-l=hh-l;omega
        ·trivial
     ·cases h
   ·cases h
 · rename_i id o len mr;split at h
   · rename_i hh l ye hl;cases Mx with
     |some _=>exact rm.elim
     |none=>
     split at h
     · rename_i hb;obtain⟨kZ,jv,rfl⟩:=hb;cases hx with
       | row _ _ _ _ cap gC hle hc=>
        have og:=Sc (P:=P) (b:=true) ye hl kZ jv hle rl rh;split at h
        · rename_i hlh;cases h;refine⟨_,run _ _ _ _ _ _ og,?_⟩;by_cases jZ:cap=l
          · have KU:l=0:=by omega
            subst KU;rw[if_pos jZ];have:=VR.row (F:=F) (w:=w) (G:=G) id o (hh-0) inf.size cap gC (by omega) hc;simpa using this
          · rw[if_neg jZ];simp only[Option.map_some,wR];refine .row id _ _ _ _ gC (by omega) ?_;have:cap*inf.size=l*inf.size+(cap-l)*inf.size:=by rw[←Nat.add_mul];congr 1;omega
            omega
        · rename_i hlh;cases h;refine⟨_,run _ _ _ _ _ _ og,?_⟩;have:hh-l=0:=by omega
          rw[this];exact .lC _ _
     ·cases h
   ·cases h
 ·cases h
theorem amD{cs:List AV}{Vs:Array Value}(h:bo F w G cs Vs)(off:Nat):∀(l:List AV)(L:List Value)(k:Nat),l.length=L.length →
  (∀(j:Nat)(c:AV)(V:Value),l[j]?=some c→L[j]?=some V→VR F w G c V) →
  bo F w G (setCells cs (off+k) l) ((L.zipIdx k).foldl (fun cs (x:Value×Nat)=>cs.setIfInBounds (off+x.2) x.1) Vs):=by
 intro l;induction l generalizing cs Vs with
 | nil=>
  intro L k hl _;cases L with
  |nil=>simpa[setCells]using h
  |cons _ _=>cases hl
 | cons c l ih=>
  intro L k hl hr;cases L with
  |nil=>cases hl
  | cons V L=>simp only[setCells,List.zipIdx_cons,List.foldl_cons];rw[Nat.add_assoc];exact ih (h.set _ (hr 0 c V rfl rfl)) L (k+1) (by simpa using hl) fun j d U hd hU=>hr (j+1) d U (by simpa using hd) (by simpa using hU)
theorem ajT(l:List AV):∀(cs:List AV)(o:Nat),(setCells cs o l).length=cs.length:=by
 induction l with
 |nil=>intro cs o;rfl
 |cons c l ih=>intro cs o;simp[setCells,ih]
theorem Z6{place:Nat→Option (Nat×Nat)}:∀(mh:List (Nat×Nat×AV)) (ps:List (Nat×Value)) (cs fI:List AV) (Vs:Array Value),bo F w G cs Vs→mh.length=ps.length →
  (∀(j:Nat)(a:Nat×Nat×AV)(p:Nat×Value),mh[j]?=some a→ps[j]?=some p→place p.1=some (a.1,a.2.1)∧VR F w G a.2.2 p.2)→qW cs mh=some fI →
  ∃mg,Instr.fill place Vs ps=some mg∧bo F w G fI mg:=by
 intro mh;induction mh with
 | nil=>
  intro ps cs fI Vs h hl _ hf;cases ps with
  |nil=>cases hf;exact⟨Vs,rfl,h⟩
  |cons _ _=>cases hl
 | cons a mh ih=>
  intro ps cs fI Vs h hl hr hf;cases ps with
  |nil=>cases hl
  | cons p ps=>
   obtain⟨off,sz,v⟩:=a;obtain⟨i,V⟩:=p;obtain⟨hp,hv⟩:=hr 0 _ _ rfl rfl;simp only[qW]at hf;split at hf
   · rename_i hk;obtain⟨ij,eZ,uX⟩:=hk;have hc:=hv.Sn ij;have h':=amD h off v.cells V.cells.toList 0 (by simpa using hc.1) fun j c U hd hU=>hc.2 j c U hd (by simpa using hU);rw[Nat.add_zero]at h';obtain⟨mg,awI,gM⟩:=ih ps _ _ _ h' (by simpa using hl) (fun j a p ha jM=>hr (j+1) a p (by simpa using ha) (by simpa using jM)) hf;refine⟨mg,?_,gM⟩;have gN:V.cells.size=sz:=by rw[←hc.1];exact eZ
     have hle:¬(V.cells.size≠sz∨off+V.cells.size>Vs.size):=by rw[gN,←h.1];omega
     simp only[Instr.fill,hp];have aCz:V.cells.zipIdx.foldl (fun cs (x:Value×Nat)=>cs.setIfInBounds (off+x.2) x.1) Vs=(V.cells.toList.zipIdx 0).foldl (fun cs (x:Value×Nat)=>cs.setIfInBounds (off+x.2) x.1) Vs:=by rw[←Array.foldl_toList,Array.toList_zipIdx]
     rw[if_neg (by simpa using hle)];rw[←awI];congr 1
   ·cases hf
theorem alD{t:TypeId}{d:TypeDesc}{ty:TypeId}{str:Bool}{x v:AV}{X:Value}(hd:P.underlying t=some d)
  (hk:if str then d = .string else ∃e,d = .slice e) (h:br str x=some v) (hx:VR F w G x X) :
  ∃V,(Builtin.len_ #[t] ty #[X]).run P w = .ok V w∧VR F w G v V:=by
 unfold br at h;split at h
 · cases h;simp at hk;subst hk;obtain rfl:=hx.rP;refine⟨_,?_,.int _ _⟩;simp[Builtin.len_,run_underlying hd,goInt,agE]
 · cases h;simp at hk;obtain⟨e,rfl⟩:=hk;cases hx<;>exact⟨_,by simp[Builtin.len_,run_underlying hd,goInt],.int _ _⟩
 · cases h;simp at hk;obtain⟨e,rfl⟩:=hk;cases hx;exact⟨_,by simp[Builtin.len_,run_underlying hd,goInt],.int _ _⟩
 ·cases h
theorem alb{mx:Bool}:∀(xs:List AV)(Xs:List Value)(x v:AV)(X:Value),Je mx x xs=some v→VR F w G x X→xs.length=Xs.length →
  (∀(j:Nat)(c:AV)(V:Value),xs[j]?=some c→Xs[j]?=some V→VR F w G c V) →
  ∃V,(Xs.foldlM (if mx then Builtin.max2 else Builtin.min2) X).run P w = .ok V w∧VR F w G v V:=by
 intro xs;induction xs with
 | nil=>
  intro Xs x v X h hx hl _;cases Xs with
  |nil=>cases h;exact⟨X,rfl,hx⟩
  |cons _ _=>cases hl
 | cons y xs ih=>
  intro Xs x v X h hx hl hr;cases Xs with
  |nil=>cases hl
  | cons Y Xs=>
   have hy:=hr 0 y Y rfl rfl;simp only[Je]at h;split at h
   · rename_i z hz;unfold YU at hz;split at hz
     · rename_i k a k' b;obtain rfl:=hx.lW;obtain rfl:=hy.lW;cases hz;obtain⟨V,hV,hv⟩:=ih Xs _ v _ h (.int _ _) (by simpa using hl) fun j c U hc hU=>hr (j+1) c U (by simpa using hc) (by simpa using hU);refine⟨V,?_,hv⟩;cases mx<;>simp[List.foldlM_cons,Builtin.max2,Builtin.min2]at hV ⊢ <;> exact hV
     ·cases hz
   ·cases h
end
end Rb

namespace Rb
open Go
section
variable{P:Program}{F:eG}{w w':World}{G G':cc}{H H':AH}
structure fD(w w':World)(o:Obj):Prop where
 heap:w'.heap=w.heap.push o
 os:w'.os=w.os
 tape:w'.tape=w.tape
 output:w'.output=w.output
theorem fD.alloc(w:World)(o:Obj):fD w (w.alloc o) o:=⟨rfl,rfl,rfl,rfl⟩
theorem fD.drew(w:World)(o:Obj):fD w (w.drew.alloc o) o:=⟨rfl,rfl,rfl,rfl⟩
theorem fD.iU{o:Obj}(h:fD w w' o){k:Nat}(hk:k<w.heap.size):w'.heap[k]?=w.heap[k]?:=by rw[h.heap,Array.getElem?_push,if_neg (by omega)]
theorem fD.new{o:Obj}(h:fD w w' o):w'.heap[w.heap.size]?=some o:=by rw[h.heap];simp
theorem fD.size{o:Obj}(h:fD w w' o):w'.heap.size=w.heap.size+1:=by rw[h.heap];simp
theorem fD.cell{o:Obj}(h:fD w w' o){a:Addr}{V:Value}(hc:w.cell? a=some V):w'.cell? a=some V:=by rw[World.cell?_of_block (w:=w) (h.iU (World.block_lt_of_cell? w a hc))];exact hc
theorem nu.lt{i:Nat}{x:dc}(h:nu F w G i x)(hl:x.live=true):G.loc i<w.heap.size:=by
 cases x with
 |gone=>cases hl
 |row cs=>obtain⟨C,e,hc,_⟩:=h;exact(Array.getElem?_eq_some_iff.1 hc).1
 |tok n sz=>obtain⟨C,e,hc,_⟩:=h;exact(Array.getElem?_eq_some_iff.1 hc).1
 |map es=>obtain⟨E,c,hc,_⟩:=h;exact(Array.getElem?_eq_some_iff.1 hc).1
 |nO s pos=>exact(Array.getElem?_eq_some_iff.1 h.1).1
 |nB T u b=>obtain⟨v,hc,_⟩:=h;exact(Array.getElem?_eq_some_iff.1 hc).1
 |zu U bs=>obtain⟨C,z,hc,_⟩:=h;exact(Array.getElem?_eq_some_iff.1 hc).1
theorem Rel.qv(h:Rel F w G H){i:Nat}(hl:(H.o i).live=true):i<G.n:=by
 rw[h.n];rcases Nat.lt_or_ge i H.n with h'|h'
 ·exact h'
 ·rw[h.over i h']at hl;cases hl
theorem nu.aY{i:Nat}{x:dc}(h:nu F w G i x)(hg:GLe w G w' G')(hi:x.live=true→i<G.n)(hb:x.live=true→w'.heap[G.loc i]?=w.heap[G.loc i]?)
  (hf:x.live=true→∀j,G'.fz (G.loc i) j→G.fz (G.loc i) j):nu F w' G' i x:=by
 cases x with
 |gone=>trivial
 | row cs=>
  obtain⟨C,e,hc,hs,hz,hv⟩:=h;refine⟨C,e,?_,?_,?_,fun j c hj=>?_⟩
  ·rw[hg.loc i (hi rfl),hb rfl];exact hc
  ·rw[hg.cap i (hi rfl)];exact hs
  ·rw[hg.loc i (hi rfl)];exact fun j hj=>hz j (hf rfl j hj)
  ·obtain⟨V,hV,hr⟩:=hv j c hj;exact⟨V,hV,hr.mono hg⟩
 | tok n sz=>
  obtain⟨C,e,hc,hs,hk,hz⟩:=h;refine⟨C,e,?_,?_,hk,?_⟩
  ·rw[hg.loc i (hi rfl),hb rfl];exact hc
  ·rw[hg.cap i (hi rfl)];exact hs
  ·rw[hg.loc i (hi rfl)];exact fun j hn hj=>hz j hn (hf rfl j hj)
 | map es=>
  obtain⟨E,cl,hc,hs,hz,hv⟩:=h;refine⟨E,cl,?_,hs,?_,fun j k v hj=>?_⟩
  ·rw[hg.loc i (hi rfl),hb rfl];exact hc
  ·rw[hg.loc i (hi rfl)];exact fun j hj=>hz j (hf rfl j hj)
  ·obtain⟨e,he,h1,h2⟩:=hv j k v hj;exact⟨e,he,h1.mono hg,h2.mono hg⟩
 | nO s pos=>
  obtain⟨hc,hz⟩:=h;refine⟨?_,?_⟩
  ·rw[hg.loc i (hi rfl),hb rfl];exact hc
  ·rw[hg.loc i (hi rfl)];exact fun j hj=>hz j (hf rfl j hj)
 | nB T u b=>
  obtain⟨v,hc,hz,hv⟩:=h;refine⟨v,?_,?_,?_⟩
  ·rw[hg.loc i (hi rfl),hb rfl];exact hc
  ·rw[hg.loc i (hi rfl)];exact fun j hj=>hz j (hf rfl j hj)
  · rcases hv with hv|⟨j,n,h1,h2,h3⟩
    ·exact .inl hv
    ·exact .inr ⟨j,n,h1,Nat.lt_of_lt_of_le h2 hg.n,by rw[hg.loc j h2,hg.cap j h2];exact h3⟩
 | zu U bs=>
  obtain⟨C,z,hc,hs,h1,h2,h3,hz,h4⟩:=h;refine⟨C,z,?_,?_,h1,?_,?_,?_,h4⟩
  ·rw[hg.loc i (hi rfl),hb rfl];exact hc
  ·rw[hg.cap i (hi rfl)];exact hs
  ·rw[hg.cap i (hi rfl)];exact h2
  ·rw[hg.cap i (hi rfl)];exact h3
  ·rw[hg.loc i (hi rfl)];exact fun j hj=>hz j (hf rfl j hj)
theorem Rel.kill(h:Rel F w G H)(i:Nat)(hi:i<H.n):Rel F w G (H.set i .gone)∧Step w G H w G (H.set i .gone):=by
 have ho:∀j,((H.set i .gone).o j).live=true→(H.o j).live=true∧(H.set i .gone).o j=H.o j:=by
  intro j hj;simp only[AH.set]at hj ⊢;split at hj
  ·cases hj
  ·rename_i bU;exact⟨hj,if_neg bU⟩
 refine⟨⟨h.n,fun j hj=>?_,fun j=>?_,fun j k KQ h1 h2=>h.mQ j k KQ (ho j h1).1 (ho k h2).1,h.nV⟩,?_⟩
 · simp only[AH.set]at hj ⊢;split
   ·rfl
   ·exact h.over j hj
 · simp only[AH.set];split
   ·trivial
   ·exact h.obj j
 ·exact {GLe.refl w G with size:=Nat.le_refl _,os:=rfl,tape:=rfl,output:=rfl,iU:=fun _ _ _=>rfl,owned:=fun j hj _=>⟨j,(ho j hj).1,rfl⟩,ng:=fun _ _ h=> .inl h}
def cc.ik(G:cc)(b lo hi:Nat):cc:={G with fz:=fun x y=>G.fz x y∨(x=b∧lo≤y∧y<hi)}
def cc.more(G:cc)(b c:Nat):cc:={G with n:=G.n+1,loc:=fun i=>if i=G.n then b else G.loc i,cap:=fun i=>if i=G.n then c else G.cap i}
theorem GLe.ik{o:Obj}(h:fD w w' o)(b lo hi:Nat):GLe w G w' (G.ik b lo hi):=⟨Nat.le_refl _,fun _ _=>rfl,fun _ _=>rfl,fun _ _ hf=> .inl hf,fun _ _ _ _ hc=>h.cell hc⟩
theorem GLe.more{o:Obj}(h:fD w w' o)(b c:Nat):GLe w G w' (G.more b c):=⟨Nat.le_succ _,fun i hi=>if_neg (Nat.ne_of_lt hi),fun i hi=>if_neg (Nat.ne_of_lt hi),fun _ _ hf=>hf,fun _ _ _ _ hc=>h.cell hc⟩
theorem GLe.TS{o:Obj}(h:fD w w' o)(b lo hi b' c:Nat):GLe w G w' ((G.ik b lo hi).more b' c):=⟨Nat.le_succ _,fun i hi=>if_neg (Nat.ne_of_lt hi),fun i hi=>if_neg (Nat.ne_of_lt hi),fun _ _ hf=> .inl hf,fun _ _ _ _ hc=>h.cell hc⟩
theorem Rel.frozen(h:Rel F w G H){C:Array Value}{e:TypeId}(hp:fD w w' (.cells C e)) :
  Rel F w' (G.ik w.heap.size 0 C.size) H∧Step w G H w' (G.ik w.heap.size 0 C.size) H:=by
 have hg:=GLe.ik (G:=G) hp w.heap.size 0 C.size;have nz:∀i,(H.o i).live=true→G.loc i≠w.heap.size:=fun i hl=>Nat.ne_of_lt ((h.obj i).lt hl);refine⟨⟨h.n,h.over,fun i=>(h.obj i).aY hg (fun hl=>h.qv hl) (fun hl=>hp.iU ((h.obj i).lt hl)) fun hl j hj=>?_,h.mQ,fun b o hb=>?_⟩,?_⟩
 · rcases hj with hj|⟨hj,_⟩
   ·exact hj
   ·exact absurd hj (nz i hl)
 · rcases hb with hb|⟨rfl,_,ho⟩
   ·obtain⟨V,hV⟩:=h.nV b o hb;exact⟨V,hp.cell hV⟩
   ·exact⟨C[o],by rw[cell_of_row w' _ o C e (0,0) hp.new];exact Array.getElem?_eq_getElem ho⟩
 ·exact {hg with size:=by rw[hp.size];omega,os:=hp.os,tape:=hp.tape,output:=hp.output,iU:=fun k hk _=>hp.iU hk,owned:=fun i hl _=>⟨i,hl,rfl⟩,ng:=fun b o hf=>hf.imp id fun hf=> .inl (Nat.le_of_eq hf.1.symm)}
theorem Rel.frozenAt(h:Rel F w G H){o:Obj}(hp:fD w w' o)(n:Nat)(hc:∀j,j<n→∃V,w'.cell? ⟨w.heap.size,j,none⟩=some V) :
  Rel F w' (G.ik w.heap.size 0 n) H∧Step w G H w' (G.ik w.heap.size 0 n) H:=by
 have hg:=GLe.ik (G:=G) hp w.heap.size 0 n;have nz:∀i,(H.o i).live=true→G.loc i≠w.heap.size:=fun i hl=>Nat.ne_of_lt ((h.obj i).lt hl);refine⟨⟨h.n,h.over,fun i=>(h.obj i).aY hg (fun hl=>h.qv hl) (fun hl=>hp.iU ((h.obj i).lt hl)) fun hl j hj=>?_,h.mQ,fun b o hb=>?_⟩,?_⟩
 · rcases hj with hj|⟨hj,_⟩
   ·exact hj
   ·exact absurd hj (nz i hl)
 · rcases hb with hb|⟨rfl,_,ho⟩
   ·obtain⟨V,hV⟩:=h.nV b o hb;exact⟨V,hp.cell hV⟩
   ·exact hc o ho
 ·exact {hg with size:=by rw[hp.size];omega,os:=hp.os,tape:=hp.tape,output:=hp.output,iU:=fun k hk _=>hp.iU hk,owned:=fun i hl _=>⟨i,hl,rfl⟩,ng:=fun b o hf=>hf.imp (fun h=>h) fun hf=> .inl (Nat.le_of_eq hf.1.symm)}
theorem aky{C:Array Value}{e:TypeId}(hp:fD w w' (.cells C e)){cs:List AV}(hv:bo F w G cs C) :
  (∀(j:Nat)(c:AV),cs[j]?=some c→(G.ik w.heap.size 0 C.size).fz w.heap.size (0+j)∧w'.cell? ⟨w.heap.size,0+j,none⟩=some (C.getD j undef)) ∧
  (∀(j:Nat)(c:AV),cs[j]?=some c→VR F w' (G.ik w.heap.size 0 C.size) c (C.getD j undef)):=by
 have hg:=GLe.ik (G:=G) hp w.heap.size 0 C.size;have key:∀(j:Nat)(c:AV),cs[j]?=some c→C[j]?=some (C.getD j undef)∧j<C.size:=by intro j c hj;have aO:j<C.size:=hv.1▸(List.getElem?_eq_some_iff.1 hj).1;exact⟨by simp[aO],aO⟩
 refine⟨fun j c hj=>?_,fun j c hj=>(hv.2 j c _ hj (key j c hj).1).mono hg⟩;rw[Nat.zero_add];exact⟨.inr ⟨rfl,Nat.zero_le _,(key j c hj).2⟩,by rw[cell_of_row w' _ j C e (0,0) hp.new];exact(key j c hj).1⟩
theorem Rel.push(h:Rel F w G H){C:Array Value}{e:TypeId}(hp:fD w w' (.cells C e))(hi c:Nat)(hhi:hi≤C.size)(x:dc)
  (hx:nu F w' ((G.ik w.heap.size 0 hi).more w.heap.size c) H.n x) :
  Rel F w' ((G.ik w.heap.size 0 hi).more w.heap.size c) (H.push x)∧Step w G H w' ((G.ik w.heap.size 0 hi).more w.heap.size c) (H.push x):=by
 have hg:=GLe.TS (G:=G) hp w.heap.size 0 hi w.heap.size c;have hn:=h.n;have nz:∀i,(H.o i).live=true→G.loc i≠w.heap.size:=fun i hl=>Nat.ne_of_lt ((h.obj i).lt hl);have cx:∀i,i≠H.n→((G.ik w.heap.size 0 hi).more w.heap.size c).loc i=G.loc i:=fun i hi=>if_neg (show ¬i=G.n by omega);have oB:((G.ik w.heap.size 0 hi).more w.heap.size c).loc H.n=w.heap.size:=if_pos hn.symm;have ho:∀i,i≠H.n→(H.push x).o i=H.o i:=fun i hi=>if_neg hi;refine⟨⟨by show G.n+1=H.n+1;omega,fun i ig=>?_,fun i=>?_,fun i j nF h1 h2=>?_,fun b o hb=>?_⟩,?_⟩
 · have aO:H.n+1≤i:=ig;rw[ho i (by omega)];exact h.over i (by omega)
 · by_cases jw:i=H.n
   · subst jw;show nu F w' _ H.n (if H.n=H.n then x else H.o H.n);rw[if_pos rfl];exact hx
   · rw[ho i jw];refine(h.obj i).aY hg (fun hl=>h.qv hl) (fun hl=>hp.iU ((h.obj i).lt hl)) fun hl j hj=>?_;rcases hj with hj|⟨hj,_⟩
     ·exact hj
     ·exact absurd hj (nz i hl)
 · by_cases ig:i=H.n<;>by_cases i5:j=H.n
   ·omega
   ·rw[ig,oB,cx j i5];rw[ho j i5]at h2;exact(nz j h2).symm
   ·rw[i5,oB,cx i ig];rw[ho i ig]at h1;exact nz i h1
   ·rw[cx i ig,cx j i5];rw[ho i ig]at h1;rw[ho j i5]at h2;exact h.mQ i j nF h1 h2
 · rcases hb with hb|⟨rfl,_,kC⟩
   ·obtain⟨V,hV⟩:=h.nV b o hb;exact⟨V,hp.cell hV⟩
   ·exact⟨C[o],by rw[cell_of_row w' _ o C e (0,0) hp.new];exact Array.getElem?_eq_getElem (by omega)⟩
 · refine {hg with size:=by rw[hp.size];omega,os:=hp.os,tape:=hp.tape,output:=hp.output,iU:=fun k hk _=>hp.iU hk,owned:=fun i hl aO=>?_,ng:=fun b o hf=>hf.imp id fun hf=> .inl (Nat.le_of_eq hf.1.symm)};by_cases jw:i=H.n
   ·rw[jw,oB]at aO;omega
   · rw[ho i jw]at hl;exact⟨i,hl,(cx i jw).symm⟩
theorem Rel.NI(h:Rel F w G H){o:Obj}(hp:fD w w' o)(c:Nat)(x:dc)(hx:nu F w' (G.more w.heap.size c) H.n x) :
  Rel F w' (G.more w.heap.size c) (H.push x)∧Step w G H w' (G.more w.heap.size c) (H.push x):=by
 have hg:=GLe.more (G:=G) hp w.heap.size c;have hn:=h.n;have nz:∀i,(H.o i).live=true→G.loc i≠w.heap.size:=fun i hl=>Nat.ne_of_lt ((h.obj i).lt hl);have cx:∀i,i≠H.n→(G.more w.heap.size c).loc i=G.loc i:=fun i hi=>if_neg (show ¬i=G.n by omega);have oB:(G.more w.heap.size c).loc H.n=w.heap.size:=if_pos hn.symm;have ho:∀i,i≠H.n→(H.push x).o i=H.o i:=fun i hi=>if_neg hi;refine⟨⟨by show G.n+1=H.n+1;omega,fun i ig=>?_,fun i=>?_,fun i j nF h1 h2=>?_,fun b o hb=>?_⟩,?_⟩
 · have aO:H.n+1≤i:=ig;rw[ho i (by omega)];exact h.over i (by omega)
 · by_cases jw:i=H.n
   · subst jw;show nu F w' _ H.n (if H.n=H.n then x else H.o H.n);rw[if_pos rfl];exact hx
   · rw[ho i jw];exact(h.obj i).aY hg (fun hl=>h.qv hl) (fun hl=>hp.iU ((h.obj i).lt hl)) fun _ _ hj=>hj
 · by_cases ig:i=H.n<;>by_cases i5:j=H.n
   ·omega
   ·rw[ig,oB,cx j i5];rw[ho j i5]at h2;exact(nz j h2).symm
   ·rw[i5,oB,cx i ig];rw[ho i ig]at h1;exact nz i h1
   ·rw[cx i ig,cx j i5];rw[ho i ig]at h1;rw[ho j i5]at h2;exact h.mQ i j nF h1 h2
 ·obtain⟨V,hV⟩:=h.nV b o hb;exact⟨V,hp.cell hV⟩
 · refine {hg with size:=by rw[hp.size];omega,os:=hp.os,tape:=hp.tape,output:=hp.output,iU:=fun k hk _=>hp.iU hk,owned:=fun i hl aO=>?_,ng:=fun _ _ h=> .inl h};by_cases jw:i=H.n
   ·rw[jw,oB]at aO;omega
   · rw[ho i jw]at hl;exact⟨i,hl,(cx i jw).symm⟩
theorem Rel.axP(h:Rel F w G H){o:Obj}(hp:fD w w' o):Rel F w' G H∧Step w G H w' G H:=by
 have hg:GLe w G w' G:=⟨Nat.le_refl _,fun _ _=>rfl,fun _ _=>rfl,fun _ _ hf=>hf,fun _ _ _ _ hc=>hp.cell hc⟩
 refine⟨⟨h.n,h.over,fun i=>(h.obj i).aY hg (fun hl=>h.qv hl) (fun hl=>hp.iU ((h.obj i).lt hl)) fun _ _ hj=>hj,h.mQ,fun b o hb=>?_⟩,?_⟩
 ·obtain⟨V,hV⟩:=h.nV b o hb;exact⟨V,hp.cell hV⟩
 ·exact {hg with size:=by rw[hp.size];omega,os:=hp.os,tape:=hp.tape,output:=hp.output,iU:=fun k hk _=>hp.iU hk,owned:=fun i hl _=>⟨i,hl,rfl⟩,ng:=fun _ _ h=> .inl h}
theorem Rel.Vj(h:Rel F w G H){b c:Nat}(hb:∀i,(H.o i).live=true→G.loc i≠b)(x:dc)(hx:GLe w G w (G.more b c)→nu F w (G.more b c) H.n x) :
  GLe w G w (G.more b c)∧Rel F w (G.more b c) (H.push x):=by
 have hg:GLe w G w (G.more b c):=⟨Nat.le_succ _,fun i hi=>if_neg (Nat.ne_of_lt hi),fun i hi=>if_neg (Nat.ne_of_lt hi),fun _ _ hf=>hf,fun _ _ _ _ hc=>hc⟩
 have hn:=h.n;have cx:∀i,i≠H.n→(G.more b c).loc i=G.loc i:=fun i hi=>if_neg (show ¬i=G.n by omega);have oB:(G.more b c).loc H.n=b:=if_pos hn.symm;have ho:∀i,i≠H.n→(H.push x).o i=H.o i:=fun i hi=>if_neg hi;refine⟨hg,⟨by show G.n+1=H.n+1;omega,fun i ig=>?_,fun i=>?_,fun i j nF h1 h2=>?_,h.nV⟩⟩
 · have aO:H.n+1≤i:=ig;rw[ho i (by omega)];exact h.over i (by omega)
 · by_cases jw:i=H.n
   · subst jw;show nu F w _ H.n (if H.n=H.n then x else H.o H.n);rw[if_pos rfl];exact hx hg
   · rw[ho i jw];exact(h.obj i).aY hg (fun hl=>h.qv hl) (fun _=>rfl) fun _ _ hj=>hj
 · by_cases ig:i=H.n<;>by_cases i5:j=H.n
   ·omega
   ·rw[ig,oB,cx j i5];rw[ho j i5]at h2;exact(hb j h2).symm
   ·rw[i5,oB,cx i ig];rw[ho i ig]at h1;exact hb i h1
   ·rw[cx i ig,cx j i5];rw[ho i ig]at h1;rw[ho j i5]at h2;exact h.mQ i j nF h1 h2
structure vn(w w':World)(g:Nat):Prop where
 size:w'.heap.size=w.heap.size
 other:∀k,k≠g→w'.heap[k]?=w.heap[k]?
 os:w'.os=w.os
 tape:w'.tape=w.tape
 output:w'.output=w.output
theorem vn.setRow(w:World)(g:Nat)(C:Array Value):vn w (w.setRow g C) g:=⟨by simp[World.setRow],fun k hk=>by simp[World.setRow,Array.getElem?_modify,Ne.symm hk],rfl,rfl,rfl⟩
theorem Rel.write(h:Rel F w G H){i:Nat}(hl:(H.o i).live=true)(hu:∀j,¬G.fz (G.loc i) j)(ht:vn w w' (G.loc i))(x:dc)(Lc:x.live=true)(hx:GLe w G w' G→nu F w' G i x) :
  Rel F w' G (H.set i x)∧Step w G H w' G (H.set i x):=by
 have hg:GLe w G w' G:=⟨Nat.le_refl _,fun _ _=>rfl,fun _ _=>rfl,fun _ _ hf=>hf,fun b o V hf hc=>by have hb:b≠G.loc i:=fun e=>hu o (e▸hf);rw[World.cell?_of_block (w:=w) (ht.other b hb)];exact hc⟩
 have jw:i<H.n:=h.n▸h.qv hl;have ho:∀j,j≠i→(H.set i x).o j=H.o j:=fun j hj=>if_neg hj;have RB:(H.set i x).o i=x:=if_pos rfl;refine⟨⟨h.n,fun j hj=>?_,fun j=>?_,fun j k KQ h1 h2=>?_,fun b o hb=>?_⟩,?_⟩
 · have aO:H.n≤j:=hj;rw[ho j (by omega)];exact h.over j aO
 · by_cases oM:j=i
   ·subst oM;rw[RB];exact hx hg
   · rw[ho j oM];exact(h.obj j).aY hg (fun hl=>h.qv hl) (fun uZ=>ht.other _ (h.mQ j i oM uZ hl)) fun _ _ hf=>hf
 · have key:∀j,((H.set i x).o j).live=true→(H.o j).live=true:=by
     intro j hj;by_cases oM:j=i
     ·subst oM;exact hl
     ·rw[ho j oM]at hj;exact hj
   exact h.mQ j k KQ (key j h1) (key k h2)
 · obtain⟨V,hV⟩:=h.nV b o hb;exact⟨V,hg.cell b o V hb hV⟩
 · refine {hg with size:=by rw[ht.size];exact Nat.le_refl _,os:=ht.os,tape:=ht.tape,output:=ht.output,iU:=fun k _ hn=>ht.other k (fun e=>hn i hl e.symm),owned:=fun j uZ _=>?_,ng:=fun _ _ h=> .inl h};by_cases oM:j=i
   ·subst oM;exact⟨j,hl,rfl⟩
   ·rw[ho j oM]at uZ;exact⟨j,uZ,rfl⟩
end
end Rb

namespace Rb
open Go
section
variable{P:Program}{F:eG}{w:World}{G:cc}{H:AH}
def pv(F:eG)(w:World)(G:cc)(H:AH)(v:AV)(H':AH)(r:Result Value):Prop:=∃V w' G',r = .ok V w'∧VR F w' G' v V∧Rel F w' G' H'∧Step w G H w' G' H'
def wS(F:eG)(w:World)(G:cc)(b o:Nat)(cs:List AV):Prop:=∀(j:Nat)(c:AV),cs[j]?=some c→∃V,w.cell? ⟨b,o+j,none⟩=some V∧VR F w G c V
theorem wS.vO{b o:Nat}{cs:List AV}(h:wS F w G b o cs):∃Vs:List Value,bo F w G cs Vs.toArray∧∀(j:Nat)(V:Value),Vs[j]?=some V→w.cell? ((⟨b,o,none⟩:Addr).add j)=some V:=by
 refine⟨(List.range cs.length).map fun j=>(w.cell? ⟨b,o+j,none⟩).getD undef,bo.BM (by simp) fun j c V hc hV=>?_,fun j V hV=>?_⟩
 · obtain⟨U,hU,hr⟩:=h j c hc;have aO:=(List.getElem?_eq_some_iff.1 hc).1;simp[aO,hU]at hV;subst hV;exact hr
 · rw [wR];simp only[List.getElem?_map]at hV;cases hj:(List.range cs.length)[j]? with
   |none=>simp[hj]at hV
   | some i=>
    have aO:j<cs.length:=by have:=(List.getElem?_eq_some_iff.1 hj).1;simpa using this
    have:i=j:=by simp[aO]at hj;exact hj.symm
    subst this;simp[hj]at hV;obtain⟨U,hU,hr⟩:=h i cs[i] (List.getElem?_eq_getElem aO);rw[hU]at hV ⊢;simpa using hV
theorem wS.cut{b o:Nat}{cs:List AV}(h:wS F w G b o cs)(n m:Nat):wS F w G b (o+n) ((cs.drop n).take m):=by
 intro j c hj;rw[List.getElem?_take]at hj;split at hj
 · rw[List.getElem?_drop]at hj;obtain⟨V,hV,hr⟩:=h _ _ hj;exact⟨V,by rw[Nat.add_assoc];exact hV,hr⟩
 ·cases hj
theorem Zw{t:TypeId}{n o b o':Nat}{agg:Bool}{cs:List AV}{v:AV}(pX:qy P t n agg=true)(h:cC cs o n agg=some v)(hc:wS F w G b o' cs) :
  ∃V,(loadVar t ⟨b,o'+o,none⟩).run P w = .ok V w∧VR F w G v V:=by
 obtain⟨d,inf,hd,hi,ha,hs,ma⟩:=MF pX;unfold cC at h;split at h
 · rename_i hle;cases agg with
   | true=>
    simp at h;subst h;obtain⟨Vs,pM,rW⟩:=(hc.cut o n).vO;have hlen:Vs.length=n:=by have:=pM.1;simp at this;omega
    have cr:=run_loadCells_list (P:=P) w ⟨b,o'+o,none⟩ Vs rW;rw[hlen]at cr;refine⟨_,?_,pM.agg⟩;cases d<;>simp[qc]at ha<;>simp[loadVar,isAgg,Go.sizeOf,typeInfo,run_underlying hd,hi,hs,cr]
   | false=>simp at h;obtain⟨V,hV,hr⟩:=hc _ _ h;refine⟨V,?_,hr⟩;cases d<;>simp[qc]at ha<;>simp[loadVar,isAgg,run_underlying hd,hV]
 ·cases h
theorem nu.Mn{i:Nat}{cs:List AV}(h:nu F w G i (.row cs)):wS F w G (G.loc i) 0 cs:=by obtain⟨C,e,hc,hs,hz,hv⟩:=h;intro j c hj;obtain⟨V,hV,hr⟩:=hv j c hj;exact⟨V,by rw[Nat.zero_add,cell_of_row w _ j C e (0,0) hc];exact hV,hr⟩
theorem VR.alV{cs:List AV}{b o:Nat}(h:VR F w G (.av cs) (.pointer (some ⟨b,o,none⟩))):wS F w G b o cs:=by
 cases h with
 |av _ b o Vs h hv=>exact fun j c hj=>⟨Vs j,(h j c hj).2,hv j c hj⟩
theorem VR.anH{cs:List AV}{X:Value}(h:VR F w G (.av cs) X):∃b o,X = .pointer (some ⟨b,o,none⟩):=by
 cases h with
 |av _ b o Vs h hv=>exact⟨b,o,rfl⟩
theorem Sj{t:TypeId}{n:Nat}{agg:Bool}{x v:AV}{X:Value}(pX:qy P t n agg=true)(aI:Rel F w G H)(h:J H n agg x=some v)(hx:VR F w G x X) :
  ∃V,(Instr.loadAt t X).run P w = .ok V w∧VR F w G v V:=by
 unfold J at h;split at h
 · rename_i id o;split at h
   · rename_i cs ho;have iz:=aI.obj id;rw[ho]at iz;obtain⟨V,hV,hr⟩:=Zw pX h iz.Mn;rw[Nat.zero_add]at hV;cases hx with
     |ptr _ _ gC=>exact⟨V,by simp[Instr.loadAt,Instr.sureAddr,hV],hr⟩
   ·cases h
 · rename_i cs;obtain⟨b,o,rfl⟩:=hx.anH;obtain⟨V,hV,hr⟩:=Zw pX h hx.alV;exact⟨V,by simp[Instr.loadAt,Instr.sureAddr];simpa using hV,hr⟩
 ·cases h
theorem ZG(l:List AV):∀(cs:List AV)(o j:Nat),o+l.length≤cs.length→(setCells cs o l)[j]?=if o≤j∧j<o+l.length then l[j-o]? else cs[j]?:=by
 induction l with
 |nil=>intro cs o j _;simp[setCells];intro h1 h2;omega
 | cons c l ih=>
  intro cs o j hl;simp only[List.length_cons]at hl;rw[setCells,ih _ _ _ (by simp;omega)];by_cases h1:j=o
  · subst h1;rw[if_neg (by omega),if_pos (by simp),List.getElem?_set_self (by omega)];simp
  · by_cases h2:o+1≤j∧j<o+1+l.length
    · rw[if_pos h2,if_pos (by simp;omega)];have:j-o=(j-(o+1))+1:=by omega
      rw[this];simp
    · rw[if_neg h2,List.getElem?_set_ne (by omega)];rw[if_neg (by simp;omega)]
theorem Te(C:Array Value)(L:List Value)(o j:Nat)(h:o+L.length≤C.size) :
  (C.toList.take o++L++C.toList.drop (o+L.length)).toArray[j]?=if o≤j∧j<o+L.length then L[j-o]? else C[j]?:=by
 simp only[List.getElem?_toArray];rw[List.append_assoc,List.getElem?_append];have qI:(C.toList.take o).length=o:=by simp;omega
 rw[qI];by_cases h1:j<o
 ·rw[if_pos h1,if_neg (by omega),List.getElem?_take,if_pos h1];simp
 · rw [if_neg h1,List.getElem?_append];by_cases h2:j<o+L.length
   ·rw[if_pos (by omega),if_pos (by omega)]
   · rw[if_neg (by omega),if_neg (by omega),List.getElem?_drop];have:o+L.length+(j-o-L.length)=j:=by omega
     rw[this];simp
theorem Mo{id o:Nat}{cs l:List AV}{L:List Value}(aI:Rel F w G H)(ho:H.o id = .row cs)(hl:bo F w G l L.toArray)(hle:o+l.length≤cs.length)(lQ:l.all AV.scalar=true) :
  ∃w',(storeCells ⟨G.loc id,o,none⟩ L).run P w = .ok () w'∧Rel F w' G (H.set id (.row (setCells cs o l)))∧Step w G H w' G (H.set id (.row (setCells cs o l))):=by
 have iz:=aI.obj id;rw[ho]at iz;obtain⟨C,e,hc,hs,hz,hv⟩:=iz;have jZ:cs.length≤C.size:=by
  rcases Nat.lt_or_ge C.size cs.length with aO|sA
  · obtain⟨V,hV,_⟩:=hv C.size cs[C.size] (List.getElem?_eq_getElem aO);simp at hV
  ·exact sA
 have hlL:l.length=L.length:=by simpa using hl.1
 have vG:o+0+L.length≤C.size:=by omega
 have cr:=run_storeCells_at P (G.loc id) o e L 0 C w hc vG (fun V hV=>by
   obtain⟨j,hj,rfl⟩:=List.mem_iff_getElem.1 hV;have i5:j<l.length:=by omega
   have hr:=hl.2 j l[j] L[j] (List.getElem?_eq_getElem i5) (by simp[hj]);exact hr.aai (List.all_eq_true.1 lQ _ (List.getElem_mem i5)))
 simp only[Nat.add_zero]at cr;refine⟨_,cr,?_⟩;have po:(H.o id).live=true:=by rw[ho];rfl
 refine aI.write po hz (vn.setRow w _ _) _ rfl fun hg=>⟨_,e,setRow_heap w (G.loc id) C _ e (0,0) hc,?_,hz,fun j c hj=>?_⟩
 ·rw[←hs];simp;omega
 · rw [ZG l cs o j hle]at hj;rw[Te C L o j (by omega)];split at hj
   · rename_i jw;rw[if_pos (by omega)];have aO:j-o<L.length:=by omega
     exact⟨L[j-o],List.getElem?_eq_getElem aO,(hl.2 (j-o) c L[j-o] hj (by simp[aO])).mono hg⟩
   · rename_i jw;rw[if_neg (by omega)];obtain⟨V,hV,hr⟩:=hv j c hj;exact⟨V,hV,hr.mono hg⟩
theorem aks{t:TypeId}{n:Nat}{agg:Bool}{x v:AV}{X V:Value}{H':AH}(pX:qy P t n agg=true)(aI:Rel F w G H)(h:aH H n x v=some H')(hx:VR F w G x X)(hv:VR F w G v V) :
  ∃w',(Instr.storeAt t X V).run P w = .ok () w'∧Rel F w' G H'∧Step w G H w' G H':=by
 obtain⟨d,inf,hd,hi,ha,hs,ma⟩:=MF pX;unfold aH at h;split at h
 · rename_i id o;split at h
   · rename_i cs ho;split at h
     · rename_i hk;obtain⟨ij,eZ,uX,A8⟩:=hk;cases h;have hc:=hv.Sn ij;obtain⟨w',cr,hr⟩:=Mo (P:=P) (o:=o) (l:=v.cells) (L:=V.cells.toList) aI ho (by simpa using hc) (by omega) uX;cases hx with
       | ptr _ _ gC=>
        refine⟨w',?_,hr⟩;have gN:V.cells.size=inf.size:=by rw[←hc.1];omega
        simp[Instr.storeAt,Instr.sureAddr,storeVar,Go.sizeOf,typeInfo,hi,gN];exact cr
     ·cases h
   ·cases h
 ·cases h
end
end Rb

namespace Rb
open Go
section
variable{P:Program}{F:eG}{w w':World}{G:cc}{H:AH}
theorem Rel.FO(h:Rel F w G H)(j:Nat):¬G.fz w.heap.size j:=fun hf=>by obtain⟨V,hV⟩:=h.nV _ _ hf;have:=World.block_lt_of_cell? w _ hV;simp at this
theorem NH{C:Array Value}{e:TypeId}{cs:List AV}(aI:Rel F w G H)(hp:fD w w' (.cells C e))(hv:∀(j:Nat)(c:AV),cs[j]?=some c→∃V,C[j]?=some V∧VR F w G c V) :
  ∃G',Rel F w' G' (H.push (.row cs))∧Step w G H w' G' (H.push (.row cs))∧H.n<G'.n∧G'.loc H.n=w.heap.size∧G'.cap H.n=C.size:=by
 have hn:=aI.n;have cx:((G.ik w.heap.size 0 0).more w.heap.size C.size).loc H.n=w.heap.size:=if_pos hn.symm;have kv:((G.ik w.heap.size 0 0).more w.heap.size C.size).cap H.n=C.size:=if_pos hn.symm;have hr:=aI.push hp 0 C.size (Nat.zero_le _) (.row cs) ⟨C,e,by rw[cx];exact hp.new,kv.symm,fun j hj=>by
   rw[cx]at hj;rcases hj with hj|⟨_,_,hj⟩
   ·exact aI.FO j hj
   ·omega,fun j c hj=>by
   obtain⟨V,hV,hr⟩:=hv j c hj;exact⟨V,hV,hr.mono (GLe.TS hp _ _ _ _ _)⟩⟩
 exact⟨_,hr.1,hr.2,by show H.n<G.n+1;omega,cx,kv⟩
theorem bo.part{cs:List AV}{C:Array Value}(h:bo F w G cs C):∀(j:Nat)(c:AV),cs[j]?=some c→∃V,C[j]?=some V∧VR F w G c V:=fun j c hj=>h.get hj
theorem Sv{C:Array Value}{e:TypeId}{cs:List AV}(aI:Rel F w G H)(hp:fD w w' (.cells C e))(hv:bo F w G cs C) :
  ∃G',Rel F w' G' H∧Step w G H w' G' H∧VR F w' G' (.av cs) (.pointer (some ⟨w.heap.size,0,none⟩))∧∀len,VR F w' G' (.aq .full len cs) (.slice (some ⟨w.heap.size,0,none⟩) len len):=by
 have hr:=aI.frozen hp;have hc:=aky (G:=G) hp hv;exact⟨_,hr.1,hr.2,.av _ _ _ _ hc.1 hc.2,fun len=> .aq _ _ _ _ _ _ _ rfl (Nat.le_refl _) hc.1 hc.2⟩
theorem aax{C:Array Value}{e:TypeId}{cs:List AV}{mu:Bool}(aI:Rel F w G H)(hv:bo F w G cs C) :
  pv F w G H (be H mu cs).1 (be H mu cs).2 (.ok (.pointer (some ⟨w.heap.size,0,none⟩)) (w.alloc (.cells C e))):=by
 unfold be;cases mu with
 | true=>obtain⟨G',hr,aX,hn,cx,kv⟩:=NH aI (fD.alloc w (.cells C e)) hv.part;exact⟨_,_,G',rfl,by rw[←cx];exact .ptr _ _ hn,hr,aX⟩
 | false=>obtain⟨G',hr,aX,hp,_⟩:=Sv aI (fD.alloc w (.cells C e)) hv;exact⟨_,_,G',rfl,hp,hr,aX⟩
theorem akN{t:TypeId}{mu:Bool}{n:Nat}{x v:AV}{X:Value}{H':AH}(aI:Rel F w G H)(h:bB H mu n x=some (v,H'))(hx:VR F w G x X) :
  pv F w G H v H' ((Instr.box t X).run P w):=by
 unfold bB at h;split at h
 · rename_i hk;have hg:=aax (e:=t) (mu:=mu) aI (hx.Sn hk.1);have hr:(Instr.box t X).run P w = .ok (.pointer (some ⟨w.heap.size,0,none⟩)) (w.alloc (.cells X.cells t)):=by
    simp[Instr.box,newVar,newRow]
   rw[hr];have e:=Option.some.inj h;rw[show v=(be H mu x.cells).1 from(congrArg Prod.fst e).symm,show H'=(be H mu x.cells).2 from(congrArg Prod.snd e).symm];exact hg
 ·cases h
theorem range_zero:Array.range 0 = #[]:=rfl
theorem aki{t:TypeId}{mu:Bool}{zero:List AV}{inf:TypeInfo}{z:Value}(aI:Rel F w G H)(hi:P.info? t=some inf)(hz:inf.zero=some z)(hv:bo F w G zero z.cells) :
  pv F w G H (be H mu zero).1 (be H mu zero).2 ((Instr.alloc t true (.tuple #[])).run P w):=by
 have hg:=aax (e:=t) (mu:=mu) aI hv;have hr:(Instr.alloc t true (.tuple #[])).run P w = .ok (.pointer (some ⟨w.heap.size,0,none⟩)) (w.alloc (.cells z.cells t)):=by simp[Instr.alloc,zeroValue,typeInfo,hi,hz,newVar,newRow]
 rw[hr];exact hg
theorem akM{t:TypeId}{inf:TypeInfo}{z:Value}(aI:Rel F w G H)(hi:P.info? t=some inf)(hz:inf.zero=some z)(hc:z.cells = #[.pointer none,.slice none 0 0]) :
  pv F w G H (.ptr H.n 0) (H.push (.nB t false none)) ((Instr.alloc t true (.tuple #[])).run P w):=by
 have hr:(Instr.alloc t true (.tuple #[])).run P w = .ok (.pointer (some ⟨w.heap.size,0,none⟩)) (w.alloc (.cells #[.pointer none,.slice none 0 0] t)):=by simp[Instr.alloc,zeroValue,typeInfo,hi,hz,newVar,newRow,hc]
 rw[hr];have hp:=fD.alloc w (.cells #[.pointer none,.slice none 0 0] t);have hn:=aI.n;have cx:(G.more w.heap.size 0).loc H.n=w.heap.size:=if_pos hn.symm;obtain ⟨hr,aX⟩:=aI.NI hp 0 (.nB t false none) ⟨.slice none 0 0,by rw[cx];exact hp.new,fun j hf=>by rw[cx]at hf;exact aI.FO j hf,.inl ⟨rfl,rfl⟩⟩
 refine⟨_,_,_,rfl,?_,hr,aX⟩;have:=VR.ptr (F:=F) (w:=w.alloc (.cells #[.pointer none,.slice none 0 0] t)) (G:=G.more w.heap.size 0) H.n 0 (show H.n<G.n+1 by omega);rw[cx]at this;exact this
theorem VR.akW{X:Value}(h:VR F w G (.agg [.jX,.aq .nil 0 []]) X):X = .agg #[.pointer none,.slice none 0 0]:=by
 obtain⟨Vs,rfl,hs⟩:=h.BF;obtain⟨hl,hv⟩:=hs;have h2:Vs.size=2:=hl.symm;have e0:=hv 0 _ Vs[0] rfl (by simp);have e1:=hv 1 _ Vs[1] rfl (by simp);have a0:Vs[0] = .pointer none:=by generalize Vs[0]=V at e0;cases e0;rfl
 have a1:Vs[1] = .slice none 0 0:=by
  generalize Vs[1]=V at e1;cases e1 with
  |lr=>rfl
  |aq _ _ _ _ _ _ _ ht=>exact absurd ht (by simp[IU])
 congr 1;apply Array.ext
 ·exact h2
 · intro i h1 h3;have:i=0∨i=1:=by omega
   rcases this with rfl|rfl
   ·exact a0
   ·exact a1
theorem akj{t:TypeId}(aI:Rel F w G H){X:Value}(hx:VR F w G (.agg [.jX,.aq .nil 0 []]) X) :
  pv F w G H (.ptr H.n 0) (H.push (.nB t false none)) ((Instr.box t X).run P w):=by
 have hX:=hx.akW;subst hX;have hr:(Instr.box t (.agg #[.pointer none,.slice none 0 0])).run P w = .ok (.pointer (some ⟨w.heap.size,0,none⟩)) (w.alloc (.cells #[.pointer none,.slice none 0 0] t)):=by simp[Instr.box,newVar,newRow,Value.cells]
 rw[hr];have hp:=fD.alloc w (.cells #[.pointer none,.slice none 0 0] t);have hn:=aI.n;have cx:(G.more w.heap.size 0).loc H.n=w.heap.size:=if_pos hn.symm;obtain ⟨hr,aX⟩:=aI.NI hp 0 (.nB t false none) ⟨.slice none 0 0,by rw[cx];exact hp.new,fun j hf=>by rw[cx]at hf;exact aI.FO j hf,.inl ⟨rfl,rfl⟩⟩
 refine⟨_,_,_,rfl,?_,hr,aX⟩;have:=VR.ptr (F:=F) (w:=w.alloc (.cells #[.pointer none,.slice none 0 0] t)) (G:=G.more w.heap.size 0) H.n 0 (show H.n<G.n+1 by omega);rw[cx]at this;exact this
theorem ak4{α:Type}(l:List α):∀(n i:Nat),((List.replicate n l).flatten)[i]?=if i<n*l.length then l[i%l.length]? else none:=by
 intro n;induction n with
 |zero=>intro i;simp
 | succ n ih=>
  intro i;rw[List.replicate_succ,List.flatten_cons,List.getElem?_append];by_cases h:i<l.length
  ·rw[if_pos h,if_pos (by rw[Nat.add_mul];omega),Nat.mod_eq_of_lt h]
  · rw [if_neg h,ih];have e:i-l.length<n*l.length↔i<(n+1)*l.length:=by rw[Nat.add_mul];omega
    by_cases h2:i<(n+1)*l.length
    · rw[if_pos h2,if_pos (e.2 h2)];congr 1;rw[Nat.mod_eq_sub_mod (by omega:i≥l.length)]
    ·rw[if_neg h2,if_neg (fun h3=>h2 (e.1 h3))]
theorem DL{zero:List AV}{Z:Array Value}(h:bo F w G zero Z)(n:Nat):bo F w G (List.replicate n zero).flatten ((Array.range (n*zero.length)).map fun i=>Z[i%Z.size]!):=by
 refine⟨by simp,fun j c V hc hV=>?_⟩;rw[ak4]at hc;split at hc
 · rename_i aO;simp only[Array.getElem?_map,Array.getElem?_range,aO,if_true,Option.map_some,Option.some.injEq]at hV;obtain⟨U,hU,hr⟩:=h.get hc;rw[h.1]at hU;have:Z[j%Z.size]! = U:=by
    rw[getElem!_def,hU]
   rw[this]at hV;subst hV;exact hr
 ·cases hc
theorem aj1{t e:TypeId}{inf:TypeInfo}{mu:Bool}{sz len:Nat}{zero:List AV}{z:Value}{mh:List (Nat×Nat×AV)}{ps:List (Nat×Value)}{v:AV}{H':AH}(aI:Rel F w G H)
  (ht:P.underlying t=some (.slice e)) (hi:P.info? e=some inf) (hs:inf.size=sz) (hz:inf.zero=some z) (t_:bo F w G zero z.cells) (wF:zero.length=sz) (aCO:len*sz≤16777216)
  (hl:mh.length=ps.length) (Ds:∀(j:Nat)(a:Nat×Nat×AV)(p:Nat×Value),mh[j]?=some a→ps[j]?=some p→(p.1*sz,sz)=(a.1,a.2.1)∧VR F w G a.2.2 p.2)
  (h:fb H mu sz len zero mh=some (v,H')):pv F w G H v H' ((Instr.buildSlice t len ps.toArray).run P w):=by
 unfold fb at h;cases hf:qW (List.replicate len zero).flatten mh with
 |none=>simp[hf]at h
 | some cells=>
  simp only[hf,Option.map_some,Option.some.injEq]at h;have mE:=DL t_ len;obtain ⟨C,hC,hr⟩:=Z6 (place:=fun i=>some (i*sz,sz)) mh ps _ _ _ mE hl (fun j a p ha hp=>by obtain⟨h1,h2⟩:=Ds j a p ha hp;exact⟨by rw[h1],h2⟩) hf
  have avp:¬(16777216<len*inf.size):=by rw[hs];omega
  have cr:(Instr.buildSlice t len ps.toArray).run P w = .ok (.slice (some ⟨w.heap.size,0,none⟩) len len) (w.alloc (.cells C e)):=by
   rw[wF]at hC;subst hs;by_cases h0:len*inf.size=0
   · have hC0:Instr.fill (fun i=>some (i*inf.size,inf.size)) #[] ps=some C:=by
       rw[h0,range_zero]at hC;simpa using hC
     simp[Instr.buildSlice,run_underlying ht,Go.sizeOf,typeInfo,hi,h0,range_zero,hC0,newRow]
   ·simp[Instr.buildSlice,run_underlying ht,Go.sizeOf,typeInfo,zeroValue,hi,hz,h0,avp,hC,newRow]
  rw[cr];cases mu with
  | true=>
   simp at h;obtain⟨rfl,rfl⟩:=h;obtain⟨G',gM,aX,hn,cx,kv⟩:=NH aI (fD.alloc w (.cells C e)) hr.part;refine⟨_,_,G',rfl,?_,gM,aX⟩;rw[←cx];refine .row _ _ _ _ _ hn (Nat.le_refl _) ?_;have:=DL t_ len;rw[kv,←hr.1];have hlen:∀(mh:List (Nat×Nat×AV)) (cs fI:List AV),qW cs mh=some fI→fI.length=cs.length:=by
    intro mh;induction mh with
    |nil=>intro cs fI h;cases h;rfl
    | cons a mh ih=>
     intro cs fI h;simp only[qW]at h;split at h
     ·rw[ih _ _ h,ajT]
     ·cases h
   rw[hlen _ _ _ hf];simp[wF]
  | false=>simp at h;obtain⟨rfl,rfl⟩:=h;obtain⟨G',gM,aX,_,jL⟩:=Sv aI (fD.alloc w (.cells C e)) hr;exact⟨_,_,G',rfl,jL len,gM,aX⟩
theorem akS{t e:TypeId}{inf:TypeInfo}{mu:Bool}{sz bytes:Nat}{zero:List AV}{z:Value}{len cap v:AV}{L Cp:Value}{H':AH}(aI:Rel F w G H)
  (ht:P.underlying t=some (.slice e)) (hi:P.info? e=some inf) (hs:inf.size=sz) (hb:inf.bytes=bytes) (hz:inf.zero=some z) (t_:bo F w G zero z.cells)
  (h:Ca H mu sz bytes zero len cap=some (v,H')) (hl:VR F w G len L) (hc:VR F w G cap Cp):pv F w G H v H' ((Instr.makeSlice t L Cp).run P w):=by
 unfold Ca at h;split at h
 · rename_i n c;obtain rfl:=hl.lW;obtain rfl:=hc.lW;split at h
   · rename_i hk;obtain⟨h0,hnc,KE,Ge,wF⟩:=hk;obtain⟨n',rfl⟩:=Int.eq_ofNat_of_zero_le h0;obtain⟨c',rfl⟩:=Int.eq_ofNat_of_zero_le (Int.le_trans h0 hnc);have ahe:n'≤c':=by omega
     have w1:IntKind.i64.wrap (n':Int)=n':=by simp[IntKind.wrap,IntKind.bits,IntKind.signed];omega
     have w2:IntKind.i64.wrap (c':Int)=c':=by simp[IntKind.wrap,IntKind.bits,IntKind.signed];omega
     have mE:=DL t_ c';have IE:¬(281474976710656<(inf.bytes:Int)*(c':Int)):=by rw[hb];omega
     have wA:¬((n':Int)<0):=by omega
     have Gl:¬((c':Int)<0):=by omega
     have A4:¬(c'<n'):=by omega
     have cr:(Instr.makeSlice t (.int .i64 n') (.int .i64 c')).run P w =
       .ok (.slice (some ⟨w.heap.size,0,none⟩) n' c') (w.alloc (.cells ((Array.range (c'*zero.length)).map fun i=>z.cells[i%z.cells.size]!) e)):=by
      rw[wF];subst hs;by_cases nH:c'*inf.size=0
      ·simp[Instr.makeSlice,run_underlying ht,asInt,asIntOf,typeInfo,Go.sizeOf,hi,w1,w2,IE,wA,Gl,A4,nH,range_zero,newRow]
      ·simp[Instr.makeSlice,run_underlying ht,asInt,asIntOf,typeInfo,Go.sizeOf,zeroValue,hi,hz,w1,w2,IE,wA,Gl,A4,nH,newRow]
     rw[cr];simp only[Int.toNat_natCast]at h;cases mu with
     | true=>simp at h;obtain⟨rfl,rfl⟩:=h;obtain⟨G',gM,aX,hn,cx,kv⟩:=NH aI (fD.alloc w (.cells _ e)) mE.part;refine⟨_,_,G',rfl,?_,gM,aX⟩;rw[←cx];refine .row _ _ _ _ _ hn ahe ?_;rw[kv];simp[wF]
     | false=>
      simp at h;obtain⟨aCQ,rfl,rfl⟩:=h;obtain rfl:n'=c':=by omega
      obtain⟨G',gM,aX,_,jL⟩:=Sv aI (fD.alloc w (.cells _ e)) mE;exact⟨_,_,G',rfl,jL n',gM,aX⟩
   ·cases h
 ·cases h
end
end Rb

namespace Rb
open Go
section
variable{P:Program}{F:eG}{w w':World}{G:cc}{H:AH}
theorem Rel.pass(h:Rel F w G H){i:Nat}(hl:(H.o i).live=true)(ht:vn w w' (G.loc i))(lo hi:Nat)(hg:GLe w G w' ((G.ik (G.loc i) lo hi).more (G.loc i) (G.cap i)))(x:dc)
  (hx:nu F w' ((G.ik (G.loc i) lo hi).more (G.loc i) (G.cap i)) H.n x) (hf:∀o,lo≤o→o<hi→∃V,w'.cell? ⟨G.loc i,o,none⟩=some V) :
  Rel F w' ((G.ik (G.loc i) lo hi).more (G.loc i) (G.cap i)) ((H.set i .gone).push x)∧Step w G H w' ((G.ik (G.loc i) lo hi).more (G.loc i) (G.cap i)) ((H.set i .gone).push x):=by
 have hn:=h.n;have jw:i<H.n:=h.n▸h.qv hl;have cx:∀j,j≠H.n→((G.ik (G.loc i) lo hi).more (G.loc i) (G.cap i)).loc j=G.loc j:=fun j hj=>if_neg (show ¬j=G.n by omega);have oB:((G.ik (G.loc i) lo hi).more (G.loc i) (G.cap i)).loc H.n=G.loc i:=if_pos hn.symm;have hon:((H.set i .gone).push x).o H.n=x:=if_pos rfl;have RB:((H.set i .gone).push x).o i = .gone:=by show(if i=H.n then x else(if i=i then dc.gone else H.o i)) = .gone;rw[if_neg (by omega),if_pos rfl]
 have ho:∀j,j≠H.n→j≠i→((H.set i .gone).push x).o j=H.o j:=by intro j h1 h2;show(if j=H.n then x else(if j=i then dc.gone else H.o j))=H.o j;rw[if_neg h1,if_neg h2]
 have po:∀j,j≠H.n→(((H.set i .gone).push x).o j).live=true→(H.o j).live=true∧j≠i:=by
  intro j h1 h2;by_cases oM:j=i
  ·rw[oM,RB]at h2;cases h2
  ·rw[ho j h1 oM]at h2;exact⟨h2,oM⟩
 refine⟨⟨by show G.n+1=H.n+1;omega,fun j hj=>?_,fun j=>?_,fun j k KQ h1 h2=>?_,fun b o hb=>?_⟩,?_⟩
 · have aO:H.n+1≤j:=hj;rw[ho j (by omega) (by omega)];exact h.over j (by omega)
 · by_cases Gr:j=H.n
   ·subst Gr;rw[hon];exact hx
   · by_cases oM:j=i
     ·rw[oM,RB];trivial
     · rw[ho j Gr oM];refine(h.obj j).aY hg (fun uZ=>h.qv uZ) (fun uZ=>ht.other _ (h.mQ j i oM uZ hl)) fun uZ k hk=>?_;rcases hk with hk|⟨hk,_⟩
       ·exact hk
       ·exact absurd hk (h.mQ j i oM uZ hl)
 · by_cases i5:j=H.n<;>by_cases fW:k=H.n
   ·omega
   · obtain⟨ij,eZ⟩:=po k fW h2;rw[i5,oB,cx k fW];exact(h.mQ k i eZ ij hl).symm
   · obtain⟨hj1,hj2⟩:=po j i5 h1;rw[fW,oB,cx j i5];exact h.mQ j i hj2 hj1 hl
   ·rw[cx j i5,cx k fW];exact h.mQ j k KQ (po j i5 h1).1 (po k fW h2).1
 · rcases hb with hb|⟨rfl,h1,h2⟩
   · obtain⟨V,hV⟩:=h.nV b o hb;exact⟨V,hg.cell b o V hb hV⟩
   ·exact hf o h1 h2
 · refine {hg with size:=by rw[ht.size];exact Nat.le_refl _,os:=ht.os,tape:=ht.tape,output:=ht.output,iU:=fun k _ hn=>ht.other k (fun e=>hn i hl e.symm),owned:=fun j uZ _=>?_,ng:=fun b o hf=>hf.imp id fun hf=> .inr ⟨i,hl,hf.1.symm⟩};by_cases Gr:j=H.n
   ·rw[Gr,oB];exact⟨i,hl,rfl⟩
   ·exact⟨j,(po j Gr uZ).1,(cx j Gr).symm⟩
theorem Zj(t ty e e':TypeId)(i:TypeInfo)(ht:P.underlying t=some (.slice e))(hi:P.info? e=some i)
  (g uP CH:Nat) (cur:Array Value) (hg:w.heap[g]?=some (.cells cur e' (0,0)))
  (a:Addr) (m c:Nat) (news:List Value) (hl:news.length=m*i.size) (Vy:∀(j:Nat)(u:Value),news[j]?=some u→w.cell? (a.add j)=some u) (h1:∀u∈news,u.oneCell'=true)
  (rX:uP+m≤CH) (vG:uP*i.size+news.length≤cur.size) :
  (Builtin.append_ #[t,t] ty #[.slice (some ⟨g,0,none⟩) uP CH,.slice (some a) m c]).run P w =
   .ok (.slice (some ⟨g,0,none⟩) (uP+m) CH) (w.setRow g (cur.toList.take (uP*i.size)++news++cur.toList.drop (uP*i.size+news.length)).toArray):=by
 have hf:=run_firstCells_some (P:=P) w i.size m a m c news hl Vy;have aX:=run_storeCells_at P g (uP*i.size) e' news 0 cur w hg (by simpa using vG) h1;simp only[Nat.add_zero]at aX;simp[Builtin.append_,run_underlying ht,Go.sizeOf,typeInfo,hi,Builtin.lenOf,rX,hf,Addr.add_lit,aX]
theorem ajK(t ty e:TypeId)(i:TypeInfo)(ht:P.underlying t=some (.slice e))(hi:P.info? e=some i)
  (g uP CH:Nat) (a:Addr) (m c:Nat) (news:List Value) (hl:news.length=m*i.size) (Vy:∀(j:Nat)(u:Value),news[j]?=some u→w.cell? (a.add j)=some u)
  (rX:uP+m≤CH) (aX:(storeCells ⟨g,uP*i.size,none⟩ news).run P w = .ok () w') :
  (Builtin.append_ #[t,t] ty #[.slice (some ⟨g,0,none⟩) uP CH,.slice (some a) m c]).run P w = .ok (.slice (some ⟨g,0,none⟩) (uP+m) CH) w':=by
 have hf:=run_firstCells_some (P:=P) w i.size m a m c news hl Vy;simp[Builtin.append_,run_underlying ht,Go.sizeOf,typeInfo,hi,Builtin.lenOf,rX,hf,Addr.add_lit,aX]
theorem Sb{sz m:Nat}{y:AV}{news:List AV}{Y:Value}(aI:Rel F w G H)(h:mM H sz y=some (m,news))(hy:VR F w G y Y) :
  news.length=m*sz∧∃ad c,Y = .slice ad m c∧(0<m→∃b o,ad=some ⟨b,o,none⟩∧wS F w G b o news):=by
 unfold mM at h;split at h
 · rename_i tk len cells;split at h
   · rename_i hlen;cases h;refine⟨hlen,?_⟩;cases hy with
     |lr=>exact⟨_,_,rfl,fun h=>absurd h (by omega)⟩
     |lC a cap=>exact⟨_,_,rfl,fun h=>absurd h (by omega)⟩
     |aq _ _ _ b o cap Vs ht hle h hv=>exact⟨_,_,rfl,fun _=>⟨b,o,rfl,fun j c hj=>⟨Vs j,(h j c hj).2,hv j c hj⟩⟩⟩
   ·cases h
 · rename_i id o len mr;split at h
   · rename_i cs ho;split at h
     · rename_i hle;cases h;refine⟨by simp;omega,?_⟩;have iz:=aI.obj id;rw[ho]at iz;cases hy with
       | row _ _ _ _ cap gC Gm qF=>refine⟨_,_,rfl,fun _=>⟨_,_,rfl,?_⟩⟩;have:=iz.Mn.cut o (m*sz);rw[Nat.zero_add]at this;exact this
     ·cases h
   ·cases h
 ·cases h
theorem ZS{l:List AV}{L:List Value}(hl:bo F w G l L.toArray)(lQ:l.all AV.scalar=true):∀V∈L,V.oneCell'=true:=by
 intro V hV;obtain⟨j,hj,rfl⟩:=List.mem_iff_getElem.1 hV;have i5:j<l.length:=by have:=hl.1;simp at this;omega
 exact(hl.2 j l[j] L[j] (List.getElem?_eq_getElem i5) (by simp[hj])).aai (List.all_eq_true.1 lQ _ (List.getElem_mem i5))
theorem SO{C:Array Value}{e:TypeId}{cs:List AV}{cap sz:Nat}(aI:Rel F w G H)(hp:fD w w' (.cells C e))(hv:∀(j:Nat)(c:AV),cs[j]?=some c→∃V,C[j]?=some V∧VR F w G c V)
  (hC:C.size=cap*sz) (len:Nat) (hlen:cs.length=len*sz) (hle:len≤cap) :
  ∃G',Rel F w' G' (H.push (.tok (len*sz) sz))∧Step w G H w' G' (H.push (.tok (len*sz) sz))∧VR F w' G' (.aq (.own H.n) len cs) (.slice (some ⟨w.heap.size,0,none⟩) len cap):=by
 have hn:=aI.n;have cx:((G.ik w.heap.size 0 (len*sz)).more w.heap.size cap).loc H.n=w.heap.size:=if_pos hn.symm;have kv:((G.ik w.heap.size 0 (len*sz)).more w.heap.size cap).cap H.n=cap:=if_pos hn.symm;have hlC:len*sz≤C.size:=by rw[hC];exact Nat.mul_le_mul_right _ hle
 have hg:=GLe.TS (G:=G) hp w.heap.size 0 (len*sz) w.heap.size cap;have hr:=aI.push hp (len*sz) cap hlC (.tok (len*sz) sz) ⟨C,e,by rw[cx];exact hp.new,by rw[kv];exact hC,hlC,fun j hj hf=>by
   rw[cx]at hf;rcases hf with hf|⟨_,_,hf⟩
   ·exact aI.FO j hf
   ·omega⟩
 have key:∀(j:Nat)(c:AV),cs[j]?=some c→C[j]?=some (C.getD j undef)∧j<len*sz∧VR F w G c (C.getD j undef):=by
  intro j c hj;obtain⟨V,hV,hr⟩:=hv j c hj;have aO:j<cs.length:=(List.getElem?_eq_some_iff.1 hj).1;have hCj:C.getD j undef=V:=by simp[Array.getD_eq_getD_getElem?,hV]
  rw[hCj];exact⟨hV,by omega,hr⟩
 refine⟨_,hr.1,hr.2,.aq _ _ _ _ _ _ (fun j=>C.getD j undef) ⟨by show H.n<G.n+1;omega,cx,rfl,kv⟩ hle (fun j c hj=>?_) fun j c hj=>(key j c hj).2.2.mono hg⟩;rw[Nat.zero_add];exact⟨.inr ⟨rfl,Nat.zero_le _,(key j c hj).2.1⟩,by rw[cell_of_row w' _ j C e (0,0) hp.new];exact(key j c hj).1⟩
theorem Mf{C:Array Value}{e:TypeId}{cs:List AV}{cap sz:Nat}(aI:Rel F w G H)(hp:fD w w' (.cells C e))(hv:∀(j:Nat)(c:AV),cs[j]?=some c→∃V,C[j]?=some V∧VR F w G c V)
  (hC:C.size=cap*sz) (len:Nat) (hle:len≤cap) :
  ∃G',Rel F w' G' (H.push (.row cs))∧Step w G H w' G' (H.push (.row cs))∧VR F w' G' (.row H.n 0 len sz) (.slice (some ⟨w.heap.size,0,none⟩) len cap):=by
 obtain⟨G',hr,aX,hn,cx,kv⟩:=NH aI hp hv;refine⟨G',hr,aX,?_⟩;rw[←cx];exact .row _ _ _ _ _ hn hle (by rw[kv,hC];omega)
theorem D1{cs news:List AV}{L M:List Value}{Z:Array Value}(h:bo F w G cs L.toArray)(k:bo F w G news M.toArray) :
  ∀(j:Nat)(c:AV),(cs++news)[j]?=some c→∃V,(L.toArray++M.toArray++Z)[j]?=some V∧VR F w G c V:=by
 intro j c hj;obtain⟨V,hV,hr⟩:=(h.app k).get hj;refine⟨V,?_,hr⟩;rw[Array.getElem?_append,if_pos (Array.getElem?_eq_some_iff.1 hV).1];exact hV
theorem DM{L M:List Value}{z:Value}{sz n m cap:Nat}(hL:L.length=n*sz)(hM:M.length=m*sz)(hz:z.cells.size=sz)(kv:n+m≤cap) :
  (L.toArray++M.toArray++Builtin.zeroCells z.cells (cap-(n+m))).size=cap*sz:=by
 simp only[Array.size_append,List.size_toArray,size_zeroCells,hz,hL,hM,←Nat.add_mul];congr 1;omega
theorem aj0{t e ty : TypeId}{inf:TypeInfo}{mu:Bool}{sz bytes:Nat}{z:Value}{x y v:AV}{X Y:Value}{H':AH}(aI:Rel F w G H)
  (ht:P.underlying t=some (.slice e)) (hi:P.info? e=some inf) (hs:inf.size=sz) (hb:inf.bytes=bytes) (hz:inf.zero=some z) (sH:z.cells.size=sz) (gN:0<sz)
  (h:eF H mu sz bytes x y=some (v,H')) (hx:VR F w G x X) (hy:VR F w G y Y):pv F w G H v H' ((Builtin.append_ #[t,t] ty #[X,Y]).run P w):=by
 subst hs;subst hb;unfold eF at h;split at h
 ·cases h
 · rename_i m news pN;obtain⟨Rx,ad,c,rfl,QS⟩:=Sb aI pN hy;split at h
   ·cases h
   · rename_i lQ;simp only[Bool.not_eq_true,Bool.not_eq_false]at lQ;have lQ:news.all AV.scalar=true:=by simpa using lQ
     have zero:∀(a:Option Addr)(len cap:Nat),len≤cap→m=0→(∀u,a=some u→u.spot=none∨True)→(Builtin.append_ #[t,t] ty #[.slice a len cap,.slice ad m c]).run P w = .ok (.slice a len cap) w:=by intro a len cap hle hm _;subst hm;cases a<;>cases ad<;>simp[Builtin.append_,run_underlying ht,Go.sizeOf,typeInfo,hi,Builtin.lenOf,Builtin.firstCells,loadCells,loadCellsFrom,storeCells,hle]
     split at h
     · rename_i tk len cells;split at h
       · rename_i hm;cases h;cases hx with
         |lr=>rw[zero _ _ _ (Nat.le_refl _) hm (fun _ _=> .inr trivial)];exact⟨_,_,G,rfl,.lr,aI,Step.refl _ _ _⟩
         |lC a cap=>rw[zero _ _ _ (Nat.zero_le _) hm (fun _ _=> .inr trivial)];exact⟨_,_,G,rfl,.lC _ _,aI,Step.refl _ _ _⟩
         |aq _ _ _ b o cap Vs gD hle h hv=>rw[zero _ _ _ hle hm (fun _ _=> .inr trivial)];exact⟨_,_,G,rfl,.aq _ _ _ _ _ _ Vs gD hle h hv,aI,Step.refl _ _ _⟩
       · rename_i hm;obtain⟨bs,os,rfl,yc⟩:=QS (by omega);obtain⟨M,hM,zB⟩:=yc.vO;have oK:M.length=m*inf.size:=by have:=hM.1;simp at this;omega
         split at h
         ·cases h
         · rename_i hk;simp only[Classical.not_not]at hk;obtain⟨jZ,Rq,Ge⟩:=hk;have acb:∀(hlen:len=0),(Builtin.append_ #[t,t] ty #[.slice none 0 0,.slice (some ⟨bs,os,none⟩) m c]).run P w =
             .ok (.slice (some ⟨w.heap.size,0,none⟩) (len+m) (grownCap w (len+m) 0 e)) (w.drew.alloc (.cells (([]:List Value).toArray++M.toArray++Builtin.zeroCells z.cells (grownCap w (len+m) 0 e-(len+m))) e)):=by
            intro hlen;subst hlen;have:=run_append_nil (P:=P) w t ty e inf z ht hi hz ⟨bs,os,none⟩ m c M oK zB (by omega) (by omega) (by simp only[Nat.zero_add]at Rq;omega);simpa using this
           have TR:∀(b o cap:Nat)(L:List Value),L.length=len*inf.size→(∀(j:Nat)(V:Value),L[j]?=some V→w.cell? ((⟨b,o,none⟩:Addr).add j)=some V)→cap<len+m →
             (Builtin.append_ #[t,t] ty #[.slice (some ⟨b,o,none⟩) len cap,.slice (some ⟨bs,os,none⟩) m c]).run P w =
             .ok (.slice (some ⟨w.heap.size,0,none⟩) (len+m) (grownCap w (len+m) cap e)) (w.drew.alloc (.cells (L.toArray++M.toArray++Builtin.zeroCells z.cells (grownCap w (len+m) cap e-(len+m))) e)):=by
            intro b o cap L hL wm kv;exact run_append_grow (P:=P) w t ty e inf z ht hi hz ⟨b,o,none⟩ len cap L hL wm ⟨bs,os,none⟩ m c M oK zB kv (by omega) (growslice_fits kv Rq)
           have JN:(cells++news).length=(len+m)*inf.size:=by rw[List.length_append,jZ,Rx,Nat.add_mul]
           have WT:∀{b o:Nat}{Vs:Nat→Value},(∀(j:Nat)(c:AV),cells[j]?=some c→G.fz b (o+j)∧w.cell? ⟨b,o+j,none⟩=some (Vs j))→(∀(j:Nat)(c:AV),cells[j]?=some c→VR F w G c (Vs j)) →
             ∃L:List Value,bo F w G cells L.toArray∧L.length=len*inf.size∧∀(j:Nat)(V:Value),L[j]?=some V→w.cell? ((⟨b,o,none⟩:Addr).add j)=some V:=by
            intro b o Vs h1 h2;obtain⟨L,hL,wm⟩:=(show wS F w G b o cells from fun j c hj=>⟨Vs j,(h1 j c hj).2,h2 j c hj⟩).vO;exact⟨L,hL,by have:=hL.1;simp at this;omega,wm⟩
           split at h
           ·
             cases h;cases hx with
             | lr=>rw[acb rfl];obtain⟨G',hr,aX,hv⟩:=Mf aI (fD.drew w _) (D1 bo.nil hM) (DM (n:=0) (by simp) oK sH (grownCap_ge w _ _ _)) (0+m) (grownCap_ge w _ _ _);exact⟨_,_,G',rfl,hv,hr,aX⟩
             |aq _ _ _ b o cap Vs gD hle h hv=>exact gD.elim
           ·
             cases h;cases hx with
             | aq _ _ _ b o cap Vs gD hle h hv=>obtain⟨L,hL,wo,wm⟩:=WT h hv;rw[TR b o cap L wo wm (by have:cap=len:=gD;omega)];obtain⟨G',hr,aX,hv⟩:=Mf aI (fD.drew w _) (D1 hL hM) (DM wo oK sH (grownCap_ge w _ _ _)) (len+m) (grownCap_ge w _ _ _);exact⟨_,_,G',rfl,hv,hr,aX⟩
           ·
             cases h;cases hx with
             | lr=>rw[acb rfl];obtain⟨G',hr,aX,hv⟩:=SO aI (fD.drew w _) (D1 bo.nil hM) (DM (n:=0) (by simp) oK sH (grownCap_ge w _ _ _)) (0+m) (by simpa using JN) (grownCap_ge w _ _ _);exact⟨_,_,G',rfl,hv,hr,aX⟩
             |aq _ _ _ b o cap Vs gD hle h hv=>exact gD.elim
           ·
             cases h;cases hx with
             | aq _ _ _ b o cap Vs gD hle h hv=>obtain⟨L,hL,wo,wm⟩:=WT h hv;rw[TR b o cap L wo wm (by have:cap=len:=gD;omega)];obtain⟨G',hr,aX,hv⟩:=SO aI (fD.drew w _) (D1 hL hM) (DM wo oK sH (grownCap_ge w _ _ _)) (len+m) JN (grownCap_ge w _ _ _);exact⟨_,_,G',rfl,hv,hr,aX⟩
           ·
             rename_i tid;split at h
             · rename_i k mr ahk;split at h
               · rename_i hk;obtain⟨rfl,rfl⟩:=hk;cases h;have po:(H.o tid).live=true:=by rw[ahk];rfl
                 have iz:=aI.obj tid;rw[ahk]at iz;obtain⟨C,e',hC,zy,hkC,hkz⟩:=iz;cases hx with
                 | aq _ _ _ b o cap Vs gD hle h hv=>
                  obtain⟨ht1,rfl,rfl,rfl⟩:=gD;obtain⟨L,hL,wo,wm⟩:=WT h hv;by_cases rX:len+m≤G.cap tid
                  · have vG:len*inf.size+M.length≤C.size:=by rw[oK,zy,←Nat.add_mul];exact Nat.mul_le_mul_right _ rX
                    rw[Zj t ty e e' inf ht hi (G.loc tid) len (G.cap tid) C hC ⟨bs,os,none⟩ m c M oK zB (ZS hM lQ) rX vG];have hn:=aI.n;have Cx:=Te C M (len*inf.size);have nz:=setRow_heap w (G.loc tid) C (C.toList.take (len*inf.size)++M++C.toList.drop (len*inf.size+M.length)).toArray e' (0,0) hC;have rW:∀j,(w.setRow (G.loc tid) (C.toList.take (len*inf.size)++M++C.toList.drop (len*inf.size+M.length)).toArray).cell? ⟨G.loc tid,j,none⟩=if len*inf.size≤j∧j<len*inf.size+M.length then M[j-len*inf.size]? else C[j]?:=by intro j;rw[cell_of_row _ _ j _ e' (0,0) nz];exact Cx j vG
                    have cx:((G.ik (G.loc tid) (len*inf.size) ((len+m)*inf.size)).more (G.loc tid) (G.cap tid)).loc H.n=G.loc tid:=if_pos hn.symm;have kv:((G.ik (G.loc tid) (len*inf.size) ((len+m)*inf.size)).more (G.loc tid) (G.cap tid)).cap H.n=G.cap tid:=if_pos hn.symm;have WJ:(len+m)*inf.size=len*inf.size+M.length:=by rw[oK,Nat.add_mul]
                    have hg:GLe w G (w.setRow (G.loc tid) (C.toList.take (len*inf.size)++M++C.toList.drop (len*inf.size+M.length)).toArray) ((G.ik (G.loc tid) (len*inf.size) ((len+m)*inf.size)).more (G.loc tid) (G.cap tid)):=
                     ⟨Nat.le_succ _,fun i hi=>if_neg (Nat.ne_of_lt hi),fun i hi=>if_neg (Nat.ne_of_lt hi),fun _ _ hf=> .inl hf,fun b o V hf hc=>by
                       by_cases hb:b=G.loc tid
                       · subst hb;have ho:o<len*inf.size:=by
                          rcases Nat.lt_or_ge o (len*inf.size)with h'|h'
                          ·exact h'
                          ·exact absurd hf (hkz o h')
                         rw[rW,if_neg (by omega)];rw[cell_of_row w _ o C e' (0,0) hC]at hc;exact hc
                       ·rw[World.cell?_of_block (w:=w) ((vn.setRow w _ _).other b hb)];exact hc⟩
                    have Ja:=aI.pass po (vn.setRow w _ _) (len*inf.size) ((len+m)*inf.size) hg (.tok ((len+m)*inf.size) inf.size)
                     ⟨_,e',by rw[cx];exact nz,by rw[kv,←zy];simp;omega,by simp;omega,fun j hj hf=>by
                       rw[cx]at hf;rcases hf with hf|⟨_,_,hf⟩
                       ·exact hkz j (by omega) hf
                       ·omega⟩
                     (fun o h1 h2=>⟨M[o-len*inf.size],by rw[rW,if_pos (by omega)];exact List.getElem?_eq_getElem (by omega)⟩)
                    refine⟨_,_,_,rfl,?_,Ja.1,Ja.2⟩;have key:∀(j:Nat)(c:AV),(cells++news)[j]?=some c→((G.ik (G.loc tid) (len*inf.size) ((len+m)*inf.size)).more (G.loc tid) (G.cap tid)).fz (G.loc tid) (0+j) ∧
                      ∃V,(w.setRow (G.loc tid) (C.toList.take (len*inf.size)++M++C.toList.drop (len*inf.size+M.length)).toArray).cell? ⟨G.loc tid,0+j,none⟩=some V∧VR F w G c V:=by
                     intro j c hj;rw[List.getElem?_append]at hj;rw[Nat.zero_add];split at hj
                     · rename_i aO;have h1:=h j c hj;rw[Nat.zero_add]at h1;refine⟨.inl h1.1,Vs j,?_,hv j c hj⟩;rw[rW,if_neg (by omega)];rw[cell_of_row w _ j C e' (0,0) hC]at h1;exact h1.2
                     · rename_i sA;obtain⟨V,hV,hr⟩:=hM.get hj;have aO:=(List.getElem?_eq_some_iff.1 hj).1;refine⟨.inr ⟨rfl,by omega,by omega⟩,V,?_,hr⟩;rw[rW,if_pos (by omega),←jZ];simpa using hV
                    refine .aq _ _ _ (G.loc tid) 0 (G.cap tid) (fun j=>((w.setRow (G.loc tid) (C.toList.take (len*inf.size)++M++C.toList.drop (len*inf.size+M.length)).toArray).cell? ⟨G.loc tid,0+j,none⟩).getD undef) ⟨by show H.n<G.n+1;omega,cx,rfl,kv⟩ rX (fun j c hj=>?_) fun j c hj=>?_
                    · obtain⟨h1,V,hV,_⟩:=key j c hj;exact⟨h1,by rw[hV];rfl⟩
                    · obtain⟨h1,V,hV,hr⟩:=key j c hj;rw[hV];exact hr.mono hg
                  · rw[TR (G.loc tid) 0 (G.cap tid) L wo wm (by omega)];have hk:=aI.kill tid (aI.n▸ht1);obtain⟨G',hr,aX,hv⟩:=SO hk.1 (fD.drew w _) (D1 hL hM) (DM wo oK sH (grownCap_ge w _ _ _)) (len+m) JN (grownCap_ge w _ _ _);exact⟨_,_,G',rfl,hv,hr,hk.2.trans aX⟩
               ·cases h
             ·cases h
           ·cases h
     · rename_i id o len mr;split at h
       · rename_i cs ho;split at h
         · rename_i hm;cases h;cases hx with
           |row _ _ _ _ cap gC hle hc=>rw[zero _ _ _ hle hm (fun _ _=> .inr trivial)];exact⟨_,_,G,rfl,.row _ _ _ _ _ gC hle hc,aI,Step.refl _ _ _⟩
         · rename_i hm;obtain⟨bs,os,rfl,yc⟩:=QS (by omega);obtain⟨M,hM,zB⟩:=yc.vO;have oK:M.length=m*inf.size:=by have:=hM.1;simp at this;omega
           split at h
           ·cases h
           · rename_i hk;simp only[Classical.not_not]at hk;obtain⟨rfl,rfl,Rq,Ge⟩:=hk;have po:(H.o id).live=true:=by rw[ho];rfl
             have iz:=aI.obj id;rw[ho]at iz;obtain⟨C,e',hC,zy,nH,hvC⟩:=iz;have jZ:cs.length≤C.size:=by
              rcases Nat.lt_or_ge C.size cs.length with aO|sA
              · obtain⟨V,hV,_⟩:=hvC C.size cs[C.size] (List.getElem?_eq_getElem aO);simp at hV
              ·exact sA
             cases hx with
             | row _ _ _ _ cap gC hle hc=>
              rw[Nat.zero_add]at hc;split at h
              · rename_i jw;cases h;have rX:len+m≤cap:=by
                 have:(len+m)*inf.size≤cap*inf.size:=by rw[hc,←zy];omega
                 exact Nat.le_of_mul_le_mul_right this gN
                obtain⟨w1,JL,kD⟩:=Mo (P:=P) (o:=len*inf.size) (l:=news) (L:=M) aI ho hM (by rw[Rx,←Nat.add_mul];exact jw) lQ;rw[ajK t ty e inf ht hi (G.loc id) len cap ⟨bs,os,none⟩ m c M oK zB rX JL];exact⟨_,_,G,rfl,.row _ _ _ _ _ gC rX (by rw[Nat.zero_add];exact hc),kD.1,kD.2⟩
              · split at h
                · rename_i aCR Wx;cases h;by_cases rX:len+m≤cap
                  · have vG:len*inf.size+M.length≤C.size:=by rw[oK,zy,←hc,←Nat.add_mul];exact Nat.mul_le_mul_right _ rX
                    rw[Zj t ty e e' inf ht hi (G.loc id) len cap C hC ⟨bs,os,none⟩ m c M oK zB (ZS hM lQ) rX vG];have hn:=aI.n;have nz:=setRow_heap w (G.loc id) C (C.toList.take (len*inf.size)++M++C.toList.drop (len*inf.size+M.length)).toArray e' (0,0) hC;have cx:((G.ik (G.loc id) 0 0).more (G.loc id) (G.cap id)).loc H.n=G.loc id:=if_pos hn.symm;have kv:((G.ik (G.loc id) 0 0).more (G.loc id) (G.cap id)).cap H.n=G.cap id:=if_pos hn.symm;have hg:GLe w G (w.setRow (G.loc id) (C.toList.take (len*inf.size)++M++C.toList.drop (len*inf.size+M.length)).toArray) ((G.ik (G.loc id) 0 0).more (G.loc id) (G.cap id)):=
                     ⟨Nat.le_succ _,fun i hi=>if_neg (Nat.ne_of_lt hi),fun i hi=>if_neg (Nat.ne_of_lt hi),fun _ _ hf=> .inl hf,fun b o V hf hc=>by have hb:b≠G.loc id:=fun e=>nH o (e▸hf);rw[World.cell?_of_block (w:=w) ((vn.setRow w _ _).other b hb)];exact hc⟩
                    have Ja:=aI.pass po (vn.setRow w _ _) 0 0 hg (.row (cs++news))
                     ⟨_, e',by rw[cx];exact nz,by rw[kv,←zy];simp;omega,fun j hf=>by
                       rw[cx]at hf;rcases hf with hf|⟨_,_,hf⟩
                       ·exact nH j hf
                       ·omega,fun j c hj=>by
                       rw[Te C M (len*inf.size) j vG];rw[List.getElem?_append]at hj;split at hj
                       · rename_i aO;rw[if_neg (by omega)];obtain⟨V,hV,hr⟩:=hvC j c hj;exact⟨V,hV,hr.mono hg⟩
                       · rename_i sA;have aO:=(List.getElem?_eq_some_iff.1 hj).1;rw[if_pos (by omega),show j-len*inf.size=j-cs.length by omega];obtain⟨V,hV,hr⟩:=hM.get hj;exact⟨V,by simpa using hV,hr.mono hg⟩⟩
                     (fun o h1 h2=>by omega)
                    refine⟨_,_,_,rfl,?_,Ja.1,Ja.2⟩;have:=VR.row (F:=F) (w:=w.setRow (G.loc id) (C.toList.take (len*inf.size)++M++C.toList.drop (len*inf.size+M.length)).toArray) (G:=(G.ik (G.loc id) 0 0).more (G.loc id) (G.cap id)) H.n 0 (len+m) inf.size cap (by show H.n<G.n+1;omega) rX (by rw[kv,Nat.zero_add];exact hc);rw[cx]at this;exact this
                  · have awQ:=(show nu F w G id (.row cs) by have:=aI.obj id;rw[ho]at this;exact this).Mn;obtain⟨L,hL,wm⟩:=awQ.vO;have wo:L.length=len*inf.size:=by have:=hL.1;simp at this;omega
                    rw[run_append_grow (P:=P) w t ty e inf z ht hi hz ⟨G.loc id,0,none⟩ len cap L wo wm ⟨bs,os,none⟩ m c M oK zB (by omega) (by omega) (growslice_fits (by omega) Rq)];have hk:=aI.kill id (aI.n▸gC);obtain⟨G',hr,aX,hv⟩:=Mf hk.1 (fD.drew w _) (D1 hL hM) (DM wo oK sH (grownCap_ge w _ _ _)) (len+m) (grownCap_ge w _ _ _);exact⟨_,_,G',rfl,hv,hr,hk.2.trans aX⟩
                ·cases h
       ·cases h
     ·cases h
end
end Rb

namespace Rb
open Go
section
variable{P:Program}{F:eG}{w:World}{G:cc}{H:AH}
theorem fD.mark(w:World)(o:Obj):fD w (w.drew.alloc o) o:=⟨rfl,rfl,rfl,rfl⟩
theorem aj5{src dst e:TypeId}{x v:AV}{X:Value}(aI:Rel F w G H)(hs:P.underlying src=some .string)(hd:P.underlying dst=some (.slice e))(he:P.underlying e=some (.int .u8))
  (h:D2 x=some v) (hx:VR F w G x X):pv F w G H v H ((convert src dst X).run P w):=by
 unfold D2 at h;split at h
 · rename_i s;cases h;obtain rfl:=hx.rP;have cr:=run_bytes_of_string (P:=P) w src dst e ⟨s.toArray⟩ hs hd he;generalize kv:grownCap w (ByteArray.size ⟨s.toArray⟩) 0 e=cap at cr;have gN:(ByteArray.mk s.toArray).size=s.length:=by simp[ByteArray.size]
   rw[cr,gN];have hle:s.length≤cap:=by rw[←kv,←gN];exact grownCap_ge w _ 0 e
   have hp:=fD.mark w (.cells (bytesRow ⟨s.toArray⟩ cap) e ((bytesRow ⟨s.toArray⟩ cap).size,(bytesRow ⟨s.toArray⟩ cap).size+1));have rW:∀j,j<s.length→(w.drew.alloc (.cells (bytesRow ⟨s.toArray⟩ cap) e ((bytesRow ⟨s.toArray⟩ cap).size,(bytesRow ⟨s.toArray⟩ cap).size+1))).cell? ⟨w.heap.size,j,none⟩=some (.int .u8 ((s.getD j 0).toNat:Nat)):=by intro j hj;rw[cell_of_row _ _ j _ e _ hp.new];simp[bytesRow,Array.getElem?_append,hj,List.getD]
   obtain⟨hr,aX⟩:=aI.frozenAt hp s.length fun j hj=>⟨_,rW j hj⟩
   refine⟨_,_,_,rfl,?_,hr,aX⟩;refine .aq .dead s.length (byteCells s) w.heap.size 0 cap (fun j=> .int .u8 ((s.getD j 0).toNat:Nat)) trivial hle (fun j c hj=>?_) fun j c hj=>?_
   · have aO:j<s.length:=by have:=(List.getElem?_eq_some_iff.1 hj).1;simpa[byteCells]using this
     rw[Nat.zero_add];exact⟨.inr ⟨rfl,Nat.zero_le _,aO⟩,rW j aO⟩
   · have aO:j<s.length:=by have:=(List.getElem?_eq_some_iff.1 hj).1;simpa[byteCells]using this
     simp[byteCells,aO]at hj;subst hj;simp only[List.getD_eq_getElem?_getD,List.getElem?_eq_getElem aO,Option.getD_some];exact .int _ _
 ·cases h
theorem ajV:∀{cells:List AV}{s:List UInt8}{Vs:List Value},DO cells=some s→bo F w G cells Vs.toArray→∃ns:List Int,Vs=ns.map (Value.int .u8)∧s=ns.map fun n=>UInt8.ofNat n.toNat:=by
 intro cells;induction cells with
 | nil=>intro s Vs h hv;cases h;have:=hv.1;simp at this;have:Vs=[]:=List.length_eq_zero_iff.1 (by omega);subst this;exact⟨[],rfl,rfl⟩
 | cons c cells ih=>
  intro s Vs h hv;cases Vs with
  |nil=>have:=hv.1;simp at this
  | cons V Vs=>
   have h0:VR F w G c V:=hv.2 0 c V rfl rfl;have hr:bo F w G cells Vs.toArray:=bo.BM (by have:=hv.1;simp at this ⊢;exact this) fun j d U hd hU=>hv.2 (j+1) d U (by simpa using hd) (by simpa using hU);unfold DO at h;split at h
   ·rename_i heq;cases heq
   · rename_i n r heq;cases heq;cases hc:DO cells with
     |none=>simp[hc]at h
     | some s'=>simp only[hc,Option.map_some,Option.some.injEq]at h;obtain⟨ns,h1,h2⟩:=ih hc hr;obtain rfl:=h0.lW;exact⟨n::ns,by rw[h1];rfl,by rw[←h,h2];rfl⟩
   ·cases h
theorem foldl_push:∀(ns:List Int)(r:ByteArray),ns.foldl (fun r n=>r.push (UInt8.ofNat n.toNat)) r=⟨r.data++(ns.map fun n=>UInt8.ofNat n.toNat).toArray⟩
 |[],r=>by simp
 | n::ns,r=>by simp only[List.foldl_cons,List.map_cons];rw[foldl_push ns];simp[ByteArray.push]
theorem akO{src dst e:TypeId}{x v:AV}{X:Value}(aI:Rel F w G H)(hs:P.underlying src=some (.slice e))(he:P.underlying e=some (.int .u8))(hd:P.underlying dst=some .string)
  (h:abstr H x=some v) (hx:VR F w G x X):∃V,(convert src dst X).run P w = .ok V w∧VR F w G v V:=by
 unfold abstr at h;split at h
 · rename_i m cells hc;cases hb:DO cells with
   |none=>simp[hb]at h
   | some s=>
    simp only[hb,Option.map_some,Option.some.injEq]at h;subst h;obtain⟨hlen,ad,c,rfl,IC⟩:=Sb aI hc hx;rw[Nat.mul_one]at hlen;refine⟨_,?_,.str s⟩;rw[run_convert_bytes_string w src dst e ad m c hs he hd];by_cases hm:0<m
    · obtain⟨b,o,rfl,ef⟩:=IC hm;obtain⟨Vs,pM,rW⟩:=ef.vO;obtain⟨ns,rfl,rfl⟩:=ajV hb pM;have hl:ns.length=m:=by have:=pM.1;simp at this;omega
      have I8:=run_loadCells_list (P:=P) w ⟨b,o,none⟩ _ rW;rw[List.length_map,hl]at I8;rw[run_bytesToString w ⟨b,o,none⟩ m c ns I8,foldl_push];simp[ByteArray.empty,ByteArray.emptyWithCapacity];rfl
    · have hm0:m=0:=by omega
      subst hm0;have A4:cells=[]:=List.length_eq_zero_iff.1 hlen;subst A4;cases hb;cases ad with
      |none=>rfl
      | some ad=>have I8:=run_loadCells_list (P:=P) w ad [] (fun j V hV=>by simp at hV);simp only[List.length_nil]at I8;rw[run_bytesToString w ad 0 c [] I8];rfl
 ·cases h
theorem aj7{t:TypeId}{x v:AV}{X:Value}{H':AH}(aI:Rel F w G H)(ht:P.underlying t=some .string)(h:BG H x=some (v,H'))(hx:VR F w G x X) :
  pv F w G H v H' ((Instr.range t X).run P w):=by
 unfold BG at h;split at h
 · rename_i s;cases h;obtain rfl:=hx.rP;have cr:(Instr.range t (.string ⟨s.toArray⟩)).run P w = .ok (.pointer (some ⟨w.heap.size,0,none⟩)) (w.alloc (.stringIter ⟨s.toArray⟩ 0)):=by
    simp[Instr.range,run_underlying ht]
   rw[cr];have hp:=fD.alloc w (.stringIter ⟨s.toArray⟩ 0);have hn:=aI.n;have cx:(G.more w.heap.size 0).loc H.n=w.heap.size:=if_pos hn.symm;obtain ⟨hr,aX⟩:=aI.NI hp 0 (.nO s 0) ⟨by rw[cx];exact hp.new,fun j hf=>by rw[cx]at hf;exact aI.FO j hf⟩
   refine⟨_,_,_,rfl,?_,hr,aX⟩;have:=VR.ptr (F:=F) (w:=w.alloc (.stringIter ⟨s.toArray⟩ 0)) (G:=G.more w.heap.size 0) H.n 0 (show H.n<G.n+1 by omega);rw[cx]at this;exact this
 ·cases h
theorem akr{t:TypeId}{x v:AV}{X:Value}{H':AH}(aI:Rel F w G H)(h:xb H x=some (v,H'))(hx:VR F w G x X) :
  pv F w G H v H' ((Instr.next X true t).run P w):=by
 unfold xb at h;split at h
 · rename_i id;split at h
   · rename_i s pos ho;cases hx with
     | ptr _ _ gC=>
      have iz:=aI.obj id;rw[ho]at iz;obtain⟨hb,hz⟩:=iz;have gN:(ByteArray.mk s.toArray).size=s.length:=by simp[ByteArray.size]
      have hg:(getObj (G.loc id)).run P w = .ok (.stringIter ⟨s.toArray⟩ pos) w:=by simp[getObj,Sem.run,hb]
      split at h
      · rename_i aO;cases h;have uM:(setObj (G.loc id) (.stringIter ⟨s.toArray⟩ (pos+(Utf8.decode ⟨s.toArray⟩ pos).2))).run P w = .ok () {w with heap:=w.heap.setIfInBounds (G.loc id) (.stringIter ⟨s.toArray⟩ (pos+(Utf8.decode ⟨s.toArray⟩ pos).2))}:=by
         simp[setObj,Sem.run,hb]
        have cr:(Instr.next (.pointer (some ⟨G.loc id,0,none⟩)) true t).run P w = .ok (.tuple #[.bool true,.int .i64 pos,.int .i32 (Utf8.decode ⟨s.toArray⟩ pos).1]) {w with heap:=w.heap.setIfInBounds (G.loc id) (.stringIter ⟨s.toArray⟩ (pos+(Utf8.decode ⟨s.toArray⟩ pos).2))}:=by simp[Instr.next,hg,gN,aO,uM,goInt]
        rw[cr];have ht:vn w {w with heap:=w.heap.setIfInBounds (G.loc id) (.stringIter ⟨s.toArray⟩ (pos+(Utf8.decode ⟨s.toArray⟩ pos).2))} (G.loc id):=
         ⟨by simp,fun k hk=>by simp[Array.getElem?_setIfInBounds,Ne.symm hk],rfl,rfl,rfl⟩
        have hl:(H.o id).live=true:=by rw[ho];rfl
        have uJ:G.loc id<w.heap.size:=(Array.getElem?_eq_some_iff.1 hb).1;obtain⟨hr,aX⟩:=aI.write hl hz ht (.nO s (pos+(Utf8.decode ⟨s.toArray⟩ pos).2)) rfl fun _=>⟨by simp[uJ],hz⟩
        refine⟨_,_,_,rfl,?_,hr,aX⟩;refine .aM _ _ rfl fun j c V hc hV=>?_
        match j with
        |0=>simp at hc hV;subst hc;subst hV;exact .bool _
        |1=>simp at hc hV;subst hc;subst hV;exact .int _ _
        |2=>simp at hc hV;subst hc;subst hV;exact .int _ _
        |j+3=>simp at hc
      · rename_i sA;cases h;have cr:(Instr.next (.pointer (some ⟨G.loc id,0,none⟩)) true t).run P w = .ok (.tuple #[.bool false]) w:=by
         simp[Instr.next,hg,gN,sA]
        rw[cr];refine⟨_,_,_,rfl,?_,aI,Step.refl _ _ _⟩;refine .aM _ _ rfl fun j c V hc hV=>?_
        match j with
        |0=>simp at hc hV;subst hc;subst hV;exact .bool _
        |j+1=>simp at hc
   ·cases h
 ·cases h
end
end Rb

namespace Rb
open Go
def wX(P:Program)(kt:TypeId)(kk:FK):Bool:=
 match P.underlying kt,kk with
 |some (.int _),.n|some .bool,.b|some .string,.t=>true
 |_,_=>false
section
variable{P:Program}{F:eG}{w:World}{G:cc}{H:AH}
theorem LV{kt:TypeId}{kk:FK}(h:wX P kt kk=true):∃d,P.underlying kt=some d∧((kk = .n∧∃q,d = .int q)∨(kk = .b∧d = .bool)∨(kk = .t∧d = .string)):=by
 unfold wX at h;split at h
 ·rename_i q hd;exact⟨_,hd,.inl ⟨rfl,q,rfl⟩⟩
 ·rename_i hd;exact⟨_,hd,.inr (.inl ⟨rfl,rfl⟩)⟩
 ·rename_i hd;exact⟨_,hd,.inr (.inr ⟨rfl,rfl⟩)⟩
 ·cases h
theorem Bp{kt:TypeId}{kk:FK}(h:wX P kt kk=true)(e:Bool)(K:Value)(n:Nat):(Instr.checkKey e (n+1) kt K).run P w = .ok () w:=by obtain⟨d,hd,hk⟩:=LV h;rcases hk with⟨_,q,rfl⟩|⟨_,rfl⟩|⟨_,rfl⟩<;>simp[Instr.checkKey,run_underlying hd]
theorem Zt(s t:Array UInt8):((⟨s⟩:ByteArray)==⟨t⟩)=(s==t):=rfl
theorem R_{d:TypeDesc}{kk:FK}(hk:(kk = .n∧∃q,d = .int q)∨(kk = .b∧d = .bool)∨(kk = .t∧d = .string)){x y:AV}{X Y:Value}{b:Bool}(h:Fg kk x y=some b)(hx:VR F w G x X)(hy:VR F w G y Y) :
  Instr.sameNow d X Y=some b:=by
 unfold Fg at h;split at h
 · split at h
   · rename_i hc;obtain⟨rfl,rfl⟩:=hc;obtain rfl:=hx.lW;obtain rfl:=hy.lW;rcases hk with⟨_,q,rfl⟩|⟨h',_⟩|⟨h',_⟩
     ·simpa[Instr.sameNow]using h
     ·cases h'
     ·cases h'
   ·cases h
 · split at h
   · rename_i hc;subst hc;obtain rfl:=hx.rP;obtain rfl:=hy.rP;rcases hk with⟨h',_⟩|⟨h',_⟩|⟨_,rfl⟩
     ·cases h'
     ·cases h'
     · rename_i s t;simp only[Instr.sameNow];rw[←h];congr 1;rw[Zt];simp
   ·cases h
 · split at h
   · rename_i hc;subst hc;obtain rfl:=hx.qN;obtain rfl:=hy.qN;rcases hk with⟨h',_⟩|⟨_,rfl⟩|⟨h',_⟩
     ·cases h'
     ·simpa[Instr.sameNow]using h
     ·cases h'
   ·cases h
 ·cases h
theorem R7{d:TypeDesc}{kk:FK}(hk:(kk = .n∧∃q,d = .int q)∨(kk = .b∧d = .bool)∨(kk = .t∧d = .string)){x:AV}{X:Value}(hx:VR F w G x X) :
  ∀ (es:List (AV×AV)) (E:List MapEntry) (i:Nat) (r:Option (Nat×AV)),es.length=E.length→(∀(j:Nat)(k v:AV),es[j]?=some (k,v)→∃e,E[j]?=some e∧VR F w G k e.key∧VR F w G v e.val) →
   qX kk x es i=some r→(r=none∧Instr.findNow d X E i=some none)∨∃j v V,r=some (i+j,v)∧Instr.findNow d X E i=some (some (i+j,V))∧VR F w G v V∧j<es.length∧∃k e,es[j]?=some (k,v)∧E[j]?=some e∧Fg kk x k=some true∧VR F w G k e.key:=by
 intro es;induction es with
 | nil=>intro E i r hl _ h;have:E=[]:=List.length_eq_zero_iff.1 hl.symm;subst this;cases h;exact .inl ⟨rfl,rfl⟩
 | cons p es ih=>
  intro E i r hl hE h;obtain⟨k,v⟩:=p;obtain⟨e,he,h1,h2⟩:=hE 0 k v rfl;cases E with
  |nil=>simp at he
  | cons e' E=>
   simp at he;subst he;simp only[qX]at h;split at h
   · rename_i heq;cases h;refine .inr ⟨0,v,e'.val,rfl,?_,h2,by simp,k,e',rfl,rfl,heq,h1⟩;simp only[Instr.findNow,R_ hk heq hx h1];rfl
   · rename_i heq;have:=ih E (i+1) r (by simpa using hl) (fun j k v hj=>by
       obtain⟨e,he,h⟩:=hE (j+1) k v (by simpa using hj);exact⟨e,by simpa using he,h⟩) h
     rcases this with⟨rfl,hf⟩|⟨j,v',V,rfl,hf,hv,hj,k',e2,g1,g2,g3,g4⟩
     · left;refine⟨rfl,?_⟩;simp only[Instr.findNow,R_ hk heq hx h1];exact hf
     · right;refine⟨j+1,v',V,by simp;omega,?_,hv,by simp;omega,k',e2,by simpa using g1,by simpa using g2,g3,g4⟩;simp only[Instr.findNow,R_ hk heq hx h1];rw[hf];simp;omega
   ·cases h
theorem ako{t:TypeId}(aI:Rel F w G H):pv F w G H (.map H.n) (H.push (.map [])) ((Instr.makeMap t none).run P w):=by
 have cr:(Instr.makeMap t none).run P w = .ok (.map (some w.heap.size)) (w.alloc (.map #[] 0)):=rfl;rw[cr];have hp:=fD.alloc w (.map #[] 0);have hn:=aI.n;have cx:(G.more w.heap.size 0).loc H.n=w.heap.size:=if_pos hn.symm;obtain ⟨hr,aX⟩:=aI.NI hp 0 (.map []) ⟨#[],0,by rw[cx];exact hp.new,rfl,fun j hf=>by rw[cx]at hf;exact aI.FO j hf,fun j k v hj=>by simp at hj⟩
 refine⟨_,_,_,rfl,?_,hr,aX⟩;have:=VR.map (F:=F) (w:=w.alloc (.map #[] 0)) (G:=G.more w.heap.size 0) H.n (show H.n<G.n+1 by omega);rw[cx]at this;exact this
theorem R9{ok b:Bool}{v:AV}{V:Value}(hv:VR F w G v V):VR F w G (HR ok v b) (if ok then .tuple #[V,.bool b]else V):=by
 unfold HR;cases ok with
 |false=>simpa using hv
 | true=>
  simp only[if_true];refine .aM _ _ rfl fun j c U hc hU=>?_
  match j with
  |0=>simp at hc hU;subst hc;subst hU;exact hv
  |1=>simp at hc hU;subst hc;subst hU;exact .bool _
  |j+2=>simp at hc
theorem aj3{t kt et:TypeId}{inf:TypeInfo}{z:Value}{kk:FK}{zero m k v:AV}{ok:Bool}{M K:Value}(aI:Rel F w G H)(ht:P.underlying t=some (.map kt et))(hk:wX P kt kk=true)(hi:P.info? et=some inf)(hz:inf.zero=some z)
  (t_:VR F w G zero z) (h:wT H kk zero ok m k=some v) (hm:VR F w G m M) (hK:VR F w G k K):∃V,(Instr.lookup t M K ok).run P w = .ok V w∧VR F w G v V:=by
 obtain⟨d,hd,oN⟩:=LV hk;have Yx:(zeroValue et).run P w = .ok z w:=by simp[zeroValue,typeInfo,hi,hz]
 unfold wT at h;split at h
 · split at h
   · cases h;obtain rfl:M = .map none:=by cases hm;rfl
     refine⟨_,?_,R9 t_⟩;simp[Instr.lookup,run_underlying ht,run_underlying hd,Bp hk,Instr.findKey,Instr.findNow,Yx]
   ·cases h
 · rename_i id;split at h
   · rename_i es ho;split at h
     · have iz:=aI.obj id;rw[ho]at iz;obtain⟨E,clock,hb,hs,mE,hv⟩:=iz;cases hm with
       | map _ gC=>
        have hg:=run_getObj_map (P:=P) w (G.loc id) E clock hb;cases hf:qX kk k es 0 with
        |none=>simp[hf]at h
        | some r=>
         simp only[hf,Option.map_some,Option.some.injEq]at h;rcases R7 oN hK es E.toList 0 r (by simp[hs]) (fun j k v hj=>by obtain⟨e,he,h⟩:=hv j k v hj;exact⟨e,by simpa using he,h⟩) hf with⟨rfl,hn⟩|⟨j,u,V,rfl,hn,hu,_⟩
         · subst h;refine⟨_,?_,R9 t_⟩;simp[Instr.lookup,run_underlying ht,run_underlying hd,Bp hk,Instr.findKey,hn,Yx,hg]
         · subst h;refine⟨_,?_,R9 hu⟩;simp[Instr.lookup,run_underlying ht,run_underlying hd,Bp hk,Instr.findKey,hn,Yx,hg]
     ·cases h
   ·cases h
 ·cases h
theorem AH.z7{H:AH}{i:Nat}{x:dc}(h:H.o i=x):H.set i x=H:=by
 cases H with
 | mk n o=>
  simp only[AH.set]at h ⊢;congr 1;funext j;split
  ·rename_i hj;rw[hj,←h]
  ·rfl
theorem LP(w:World)(b:Nat)(o:Obj):vn w {w with heap:=w.heap.setIfInBounds b o} b:=⟨by simp,fun k hk=>by simp[Array.getElem?_setIfInBounds,Ne.symm hk],rfl,rfl,rfl⟩
theorem akD{kk:FK}{x y:AV}{X Y:Value}(h:Fg kk x y=some true)(hx:VR F w G x X)(hy:VR F w G y Y):Instr.sameBits 10000 Y X=true:=by
 unfold Fg at h;split at h
 · split at h
   · rename_i hc;obtain⟨rfl,rfl⟩:=hc;obtain rfl:=hx.lW;obtain rfl:=hy.lW;simp at h;simp[Instr.sameBits,h]
   ·cases h
 · split at h
   · obtain rfl:=hx.rP;obtain rfl:=hy.rP;simp at h;simp[Instr.sameBits,h,Zt]
   ·cases h
 · split at h
   · obtain rfl:=hx.qN;obtain rfl:=hy.qN;simp at h;simp[Instr.sameBits,h]
   ·cases h
 ·cases h
theorem akn{t kt et:TypeId}{kk:FK}{m k v:AV}{M K V:Value}{H':AH}(aI:Rel F w G H)(ht:P.underlying t=some (.map kt et))(hk:wX P kt kk=true)
  (h:HY H kk m k v=some H') (hm:VR F w G m M) (hK:VR F w G k K) (hV:VR F w G v V):∃w',(Instr.mapUpdate t M K V).run P w = .ok () w'∧Rel F w' G H'∧Step w G H w' G H':=by
 obtain⟨d,hd,oN⟩:=LV hk;unfold HY at h;split at h
 · rename_i id;split at h
   · rename_i es ho;split at h
     · have iz := aI.obj id;rw[ho]at iz;obtain⟨E,clock,hb,hs,mE,hv⟩:=iz;have hl:(H.o id).live=true:=by rw[ho];rfl
       have uJ:G.loc id<w.heap.size:=(Array.getElem?_eq_some_iff.1 hb).1;cases hm with
       | map _ gC=>
        have hg:=run_getObj_map (P:=P) w (G.loc id) E clock hb;have uM:∀o,(setObj (G.loc id) o).run P w = .ok () {w with heap:=w.heap.setIfInBounds (G.loc id) o}:=fun o=>by simp[setObj,Sem.run,hb]
        cases hf:qX kk k es 0 with
        |none=>simp[hf]at h
        | some r =>
         simp only[hf,Option.map_some,Option.some.injEq]at h;rcases R7 oN hK es E.toList 0 r (by simp[hs]) (fun j k v hj=>by obtain⟨e,he,h⟩:=hv j k v hj;exact⟨e,by simpa using he,h⟩) hf with⟨rfl,hn⟩|⟨j,u,U,rfl,hn,hu,hj,k0,e0,g1,g2,g3,g4⟩
         · subst h;refine⟨_,?_,aI.write hl mE (LP w _ (.map (E.push {key:=K,val:=V,born:=clock}) (clock+1))) _ rfl fun jW=>?_⟩
           ·simp[Instr.mapUpdate,run_underlying ht,run_underlying hd,Bp hk,Instr.findKey,hn,hg,uM]
           · refine ⟨E.push {key:=K,val:=V,born:=clock},clock+1,by simp[uJ],by simp[hs],mE,fun i k' v' hi=>?_⟩;by_cases ig:i<es.length
             · rw[List.getElem?_append_left ig]at hi;obtain⟨e,he,q1,q2⟩:=hv i k' v' hi;refine⟨e,?_,q1.mono jW,q2.mono jW⟩;rw[Array.getElem?_push,if_neg (by omega)];exact he
             · rw [List.getElem?_append_right (by omega)]at hi;have n_:i=es.length:=by
                have:=(List.getElem?_eq_some_iff.1 hi).1;simp at this;omega
               subst n_;simp at hi;obtain⟨rfl,rfl⟩:=hi;exact⟨{key:=K,val:=V,born:=clock},by rw[←hs];simp,hK.mono jW,hV.mono jW⟩
         · simp only[Nat.zero_add]at h hn;subst h;have g2':E[j]?=some e0:=by simpa using g2
           refine⟨_,?_,aI.write hl mE (LP w _ (.map (E.modify j fun e=>{e with key:=K,val:=V}) clock)) _ rfl fun jW=>?_⟩
           · have vI:(Instr.keyThatStays e0.key K).run P w = .ok K w:=by
               simp[Instr.keyThatStays,akD g3 hK g4]
             simp[Instr.mapUpdate,run_underlying ht,run_underlying hd,Bp hk,Instr.findKey,hn,hg,g2',vI,uM]
           · refine ⟨E.modify j fun e=>{e with key:=K,val:=V},clock,by simp[uJ],by simp[hs],mE,fun i k' v' hi=>?_⟩;rw[List.getElem?_set]at hi;by_cases nF:j=i
             · subst nF;simp only[if_true,hj]at hi;cases hi;refine⟨{e0 with key:=K,val:=V},?_,hK.mono jW,hV.mono jW⟩;rw[Array.getElem?_modify,if_pos rfl,g2'];rfl
             · rw[if_neg nF]at hi;obtain⟨e,he,q1,q2⟩:=hv i k' v' hi;refine⟨e,?_,q1.mono jW,q2.mono jW⟩;rw[Array.getElem?_modify,if_neg nF];exact he
     ·cases h
   ·cases h
 ·cases h
theorem aj2{t kt et t' ty:TypeId}{kk:FK}{m k:AV}{M K:Value}{H':AH}(aI:Rel F w G H)(ht:P.underlying t=some (.map kt et))(hk:wX P kt kk=true)
  (h:HC H kk m k=some H') (hm:VR F w G m M) (hK:VR F w G k K):∃w',(Builtin.delete_ #[t,t'] ty #[M,K]).run P w = .ok (.tuple #[]) w'∧Rel F w' G H'∧Step w G H w' G H':=by
 obtain⟨d,hd,oN⟩:=LV hk;unfold HC at h;split at h
 · rename_i id;split at h
   · rename_i es ho;split at h
     · have iz := aI.obj id;rw[ho]at iz;obtain⟨E,clock,hb,hs,mE,hv⟩:=iz;have hl:(H.o id).live=true:=by rw[ho];rfl
       have uJ:G.loc id<w.heap.size:=(Array.getElem?_eq_some_iff.1 hb).1;cases hm with
       | map _ gC =>
        have hg:=run_getObj_map (P:=P) w (G.loc id) E clock hb;have uM:∀o,(setObj (G.loc id) o).run P w = .ok () {w with heap:=w.heap.setIfInBounds (G.loc id) o}:=fun o=>by simp[setObj,Sem.run,hb]
        cases hf:qX kk k es 0 with
        |none=>simp[hf]at h
        | some r =>
         simp only[hf,Option.map_some,Option.some.injEq]at h;rcases R7 oN hK es E.toList 0 r (by simp[hs]) (fun j k v hj=>by obtain⟨e,he,h⟩:=hv j k v hj;exact⟨e,by simpa using he,h⟩) hf with⟨rfl,hn⟩|⟨j,u,U,rfl,hn,hu,hj,k0,e0,g1,g2,g3,g4⟩
         · subst h;have hw:=aI.write hl mE (LP w _ (.map E clock)) (.map es) rfl fun jW=>⟨E,clock,by simp[uJ],hs,mE,fun i k' v' hi=>by
             obtain⟨e,he,q1,q2⟩:=hv i k' v' hi;exact⟨e,he,q1.mono jW,q2.mono jW⟩⟩
           rw[AH.z7 ho]at hw;refine⟨_,?_,hw⟩;simp[Builtin.delete_,run_underlying ht,run_underlying hd,Bp hk,Instr.findKey,hn,hg,uM]
         · simp only [Nat.zero_add]at h hn;subst h;have hjE:j<E.size:=by rw[hs];exact hj
           refine⟨_,?_,aI.write hl mE (LP w _ (.map (E.eraseIdxIfInBounds j) clock)) _ rfl fun jW=>?_⟩
           ·simp[Builtin.delete_,run_underlying ht,run_underlying hd,Bp hk,Instr.findKey,hn,hg,uM]
           · have he:(E.eraseIdxIfInBounds j).toList=E.toList.eraseIdx j:=by simp[Array.eraseIdxIfInBounds,hjE]
             refine⟨E.eraseIdxIfInBounds j,clock,by simp[uJ],?_,mE,fun i k' v' hi=>?_⟩
             · rw[←Array.length_toList,he,List.length_eraseIdx,List.length_eraseIdx];simp[hs]
             · have Yi:∃i2:Nat,es[i2]?=some (k',v')∧(E.eraseIdxIfInBounds j)[i]?=E[i2]?:=by
                 rw[List.getElem?_eraseIdx]at hi;have h2:(E.eraseIdxIfInBounds j)[i]?=(E.toList.eraseIdx j)[i]?:=by rw[←he,Array.getElem?_toList]
                 rw[h2,List.getElem?_eraseIdx];split at hi
                 ·rename_i aO;exact⟨i,hi,by simp[aO]⟩
                 ·rename_i aO;exact⟨i+1,hi,by simp[aO]⟩
               obtain⟨i2,h1,h2⟩:=Yi;obtain⟨e,fj,q1,q2⟩:=hv i2 k' v' h1;exact⟨e,by rw[h2];exact fj,q1.mono jW,q2.mono jW⟩
     ·cases h
   ·cases h
 ·cases h
theorem aj4{t kt et ty:TypeId}{m v:AV}{M:Value}(aI:Rel F w G H)(ht:P.underlying t=some (.map kt et))(h:wU H m=some v)(hm:VR F w G m M):∃V,(Builtin.len_ #[t] ty #[M]).run P w = .ok V w∧VR F w G v V:=by
 unfold wU at h;split at h
 · cases h;obtain rfl:M = .map none:=by cases hm;rfl
   exact⟨goInt 0,by simp[Builtin.len_,run_underlying ht],.int _ _⟩
 · rename_i id;split at h
   · rename_i es ho;cases h;have iz:=aI.obj id;rw[ho]at iz;obtain⟨E,clock,hb,hs,mE,hv⟩:=iz;cases hm with
     | map _ gC=>have hg:=run_getObj_map (P:=P) w (G.loc id) E clock hb;refine⟨goInt E.size,by simp[Builtin.len_,run_underlying ht,hg],?_⟩;rw[hs];exact .int _ _
   ·cases h
 ·cases h
end
end Rb

namespace Rb
open Go
structure Ctx where
 P:Program
 F:eG
 GT:Nat→Option (List AV)
def DX:Value→AV→Bool
 | .bool b,.bool b'=>b==b'
 | .int k n,.int k' n'=>k==k'&&n==n'
 | .string s,.str l=>s.data.toList==l
 | .pointer none,.jX | .map none,.mw | .nilFunc,.nk | .nilIface,.nn=>true
 | .slice none 0 0,.aq .nil 0 []=>true
 |_,_=>false
def m8:List Value→List AV→Bool
 |[],[]=>true
 |V::Vs,c::cs=>DX V c&&m8 Vs cs
 |_,_=>false
theorem aj9{z:Value}(h:m8 z.cells.toList [.jX,.aq .nil 0 []]=true):z.cells = #[.pointer none,.slice none 0 0]:=by
 generalize hl:z.cells.toList=l at h;have key:l=[.pointer none,.slice none 0 0]:=by
  match l,h with
  |[],h=>simp[m8]at h
  |[a],h=>simp[m8]at h
  |a::b::c::r,h=>simp[m8]at h
  | [a,b],h=>
   simp only[m8,Bool.and_eq_true]at h;obtain⟨h1,h2,_⟩:=h;have ea:a = .pointer none:=by unfold DX at h1;split at h1<;>simp_all
   have eb:b = .slice none 0 0:=by unfold DX at h2;split at h2<;>simp_all
   rw[ea,eb]
 apply Array.ext';rw[hl,key]
def MK(V:Value)(c:AV):Bool:=
 match V,c with
 | .agg Vs,.agg cs=>m8 Vs.toList cs
 | .tuple Vs,.aM cs=>m8 Vs.toList cs
 |V,c=>DX V c
def Ak:List AV→List AV→Bool
 |[],[]=>true
 | .int k a::r,.int k' b::t=>k==k'&&a==b&&Ak r t
 | .bool a::r,.bool b::t=>a==b&&Ak r t
 | .str a::r,.str b::t=>a==b&&Ak r t
 |_,_=>false
def afY(C:Ctx)(x:Operand)(y:bn):Bool:=
 match x,y with
 | .tmp t,.t t'=>t==t'
 | .const v,.k c=>MK v c
 | .global g,.k c=>match C.GT g,c with|some l,.av l'=>Ak l l'|_,_=>false
 | .func f,.k c=>match c with | .fn key []=>(ny key).isNone&&C.F key==some f|_=>false
 |_,_=>false
def afD:bn→Bool
 | .k .bot=>true
 |_=>false
def dA(C:Ctx)(x:Operand)(y:bn):Bool:=afD y||afY C x y
def Cd(C:Ctx)(x:Option Operand)(y:Option bn):Bool:=
 match x,y with
 |none,none=>true
 |some x,some y=>dA C x y
 |_,_=>false
def vt(C:Ctx):List Operand→List bn→Bool
 |[],[]=>true
 |x::xs,y::ys=>dA C x y&&vt C xs ys
 |_,_=>false
def Ec(P:Program)(t:TypeId)(n:Nat):Option Field:=
 match P.underlying t with
 |some (.struct fs)=>fs[n]?
 |_=>none
def wP(P:Program)(t:TypeId):Option TypeId:=
 match P.underlying t with
 |some (.slice e)=>some e
 |_=>none
def LS(P:Program)(t:TypeId):Option (Nat×TypeId):=
 match P.underlying t with
 |some (.array n e)=>some (n,e)
 |_=>none
def B5(P:Program)(t:TypeId)(sz:Nat):Bool:=
 match P.info? t with
 |some i=>i.size==sz
 |none=>false
def PZ(P:Program)(t:TypeId)(sz bytes:Nat)(zero:List AV):Bool:=
 match P.info? t with
 |some i=>i.size==sz&&i.bytes==bytes&&(match i.zero with|some z=>z.cells.size==sz&&m8 z.cells.toList zero|none=>false)
 |none=>false
def Bw(C:Ctx)(place:Nat→Option (Nat×Nat)):List (Nat×Operand)→List (Nat×Nat×bn)→Bool
 |[],[]=>true
 |(i,x)::r,(off,sz,y)::t=>place i==some (off,sz)&&dA C x y&&Bw C place r t
 |_,_=>false
def placeOf(P:Program)(t:TypeId)(i:Nat):Option (Nat×Nat):=
 match P.underlying t with
 |some (.struct fs)=>match fs[i]? with|some f=>(P.info? f.type).map fun inf=>(f.offset,inf.size)|none=>none
 |some (.array _ e)=>(P.info? e).map fun inf=>(i*inf.size,inf.size)
 |_=>none
def Sm(P:Program)(t:TypeId):Bool:=
 match P.underlying t with
 |some (.struct fs)=>fs.all fun f=>(P.info? f.type).isSome
 |some (.array _ e)=>(P.info? e).isSome
 |_=>false
def sZ(P:Program)(f:FuncId):Bool:=
 match P.funcs[f]? with
 | some fn => !(fn.name == "runtime.NumGoroutine") && fn.body.isSome
 |none=>false
def Eo(rec:TypeId→Option (List FK)):List Field→Nat→Option (List FK)
 |[],_=>some []
 | f :: r, k => if f.offset = k ∧ f.name ≠ "_" then (match rec f.type with | some l => (Eo rec r (k + l.length)).map (l ++ ·) | none => none) else none
def xj(P:Program):Nat→TypeId→Option (List FK)
 |0,_=>none
 | d+1,t=>match P.underlying t,P.info? t with
  |some (.int _),_=>some [.n]
  |some .bool,_=>some [.b]
  |some .string,_=>some [.t]
  |some (.struct fs),some i=>if P.stoodInHeld t=true then none else(match Eo (xj P d) fs.toList 0 with|some l=>if i.size=l.length then some l else none|none=>none)
  |some (.array n e),some i=>(match xj P d e,P.info? e with|some l,some j=>if i.size=(List.replicate n l).flatten.length∧j.size=l.length then some (List.replicate n l).flatten else none|_,_=>none)
  |_,_=>none
def T3:TypeDesc→Bool
 | .interface _=>false
 |_=>true
def El(C:Ctx)(o:Op)(e:Ext)(xs:List bn):Bool:=
 match e with
 | .stuck=>true
 | .vD T=>match o,xs with
  | .alloc t,[]=>t==T&&(match C.P.info? t with|some inf=>(match inf.zero with|some z=>m8 z.cells.toList [.jX,.aq .nil 0 []]|none=>false)|none=>false)
  | .box t x',[x]=>t==T&&dA C x' x
  |_,_=>false
 | .Ef t=>match o,xs with
  | .typeAssert x' _ t' ok,[x]=>t==t'&&!ok&&(match C.P.underlying t with|some d=>T3 d|none=>false)&&dA C x' x
  |_,_=>false
 | .Au neg=>match o,xs with
  | .binOp op t x' y' _,[x,y]=>op==(if neg then .neq else .eql)&&(match C.P.underlying t with|some (.pointer e)=>(match C.P.info? e with|some j=>j.size != 0|none=>false)|_=>false)&&dA C x' x&&dA C y' y
  |_,_=>false
 | .grow sz bytes zero=>match o,xs with
  | .call {callee:= .builtin .append,args,argTypes},[x,y]=>(match args.toList,argTypes.toList with
    |[x',y'],[t,it]=>dA C x' x&&dA C y' y&&(match C.P.underlying it with|some (.int _)=>true|_=>false)&&(match wP C.P t with|some e=>(match C.P.info? e with|some inf=>inf.size==sz&&inf.bytes==bytes&&(match inf.zero with|some z=>m8 z.cells.toList zero|none=>false)|none=>false)|none=>false)
    |_,_=>false)
  |_,_=>false
 | .clear sz zero=>match o,xs with
  | .call {callee:= .builtin .clear,args,argTypes},[x]=>(match args.toList,argTypes.toList with
    |[x'],[t]=>dA C x' x&&(match wP C.P t with|some e=>(match C.P.info? e with|some inf=>(match inf.zero with|some z=>z.cells.size==sz&&m8 z.cells.toList zero|none=>false)|none=>false)|none=>false)
    |_,_=>false)
  |_,_=>false
def MH(C:Ctx)(name:String)(t:TypeId)(key:Nat)(m:Option (Nat×Bool)):Bool:=
 match C.P.info? t with
 | some i=>(match i.methods.find? (·.name==name)with
   | some mt=>mt.path.toList.isEmpty&&(match mt.func,m,C.P.underlying t with
     |some (f,true),none,some (.pointer _)=>C.F key==some f&&sZ C.P f
     |some (f,false),some (n,agg),some (.pointer e)=>C.F key==some f&&sZ C.P f&&qy C.P e n agg
     |_,_,_=>false)
   |none=>false)
 |none=>false
def NS(C:Ctx)(name:String):List (TypeId×Nat×Option (Nat×Bool))→Bool
 |[]=>true
 |(t,key,m)::r=>MH C name t key m&&NS C name r
def eM(C : Ctx)(o:Op)(a:fw):Bool:=
 match a with
 | .mv x=>match o with | .move y | .assign y=>dA C y x|_=>false
 | .pick c x y=>match o with | .pick c' x' y'=>dA C c' c&&dA C x' x&&dA C y' y|_=>false
 | .bin op x y=>match o with | .binOp mn _ x' y' _=>op==mn&&dA C x' x&&dA C y' y|_=>false
 | .beq neg x y=>match o with
  | .binOp op t x' y' _=>op==(if neg then .neq else .eql)&&(match C.P.underlying t with|some .bool=>true|_=>false)&&dA C x' x&&dA C y' y
  |_=>false
 | .tf k neg x=>match o with
  | .binOp op t x' y' _=>op==(if neg then .neq else .eql)&&(match C.P.underlying t with|some d=>Ed d==some k|none=>false)&&dA C x' x &&
    (match y' with | .const v=>(match k,v with | .p,.pointer none | .s,.slice none 0 0 | .m,.map none | .f,.nilFunc | .i,.nilIface=>true|_,_=>false)|_=>false)
  |_=>false
 | .qV neg ks x y=>match o with
  | .binOp op t x' y' _=>op==(if neg then .neq else .eql)&&(match C.P.underlying t with|some d=>qc d|none=>false)&&xj C.P 9 t==some ks&&!C.P.eqGuardType C.P.depth t&&dA C x' x&&dA C y' y
  |_=>false
 | .un op x=>match o with | .unOp mn _ x'=>op==mn&&dA C x' x|_=>false
 | .conv k x=>match o with
  | .convert s d x'=>(match C.P.underlying s,C.P.underlying d with|some _,some (.int k')=>k==k'|_,_=>false)&&dA C x' x
  |_=>false
 | .same x=>match o with
  | .convert s d x'=>(match C.P.underlying s,C.P.underlying d with|some .string,some .string=>true|_,_=>false)&&dA C x' x
  |_=>false
 | .uC x=>match o with | .nilCheck x'=>dA C x' x|_=>false
 | .field off sz agg x=>match o with
  | .field t x' n=>(match Ec C.P t n with|some f=>f.offset==off&&qy C.P f.type sz agg|none=>false)&&dA C x' x
  |_=>false
 | .idx len sz agg x i=>match o with
  | .index t x' i'=>(match LS C.P t with|some (n,e)=>n==len&&qy C.P e sz agg|none=>false)&&dA C x' x&&dA C i' i
  |_=>false
 | .idxs x i=>match o with
  | .index t x' i'=>(match C.P.underlying t with|some .string=>true|_=>false)&&dA C x' x&&dA C i' i
  |_=>false
 | .uz off x=>match o with
  | .fieldAddr t x' n=>(match Ec C.P t n with|some f=>f.offset==off&&(match C.P.info? f.type with|some fi=>fi.size != 0|none=>false)|none=>false)&&dA C x' x
  |_=>false
 | .td arr sz x i=>match o with
  | .indexAddr t x' i'=>(match arr with
      |none=>(match wP C.P t with|some e=>B5 C.P e sz|none=>false)
      |some n=>(match LS C.P t with|some (n',e)=>n==n'&&B5 C.P e sz|none=>false))&&dA C x' x&&dA C i' i
  |_=>false
 | .slice sz x lo hi mx=>match o with
  | .slice t x' Lu ig GM=>(match wP C.P t with|some e=>B5 C.P e sz|none=>false)&&dA C x' x&&Cd C Lu lo&&Cd C ig hi&&Cd C GM mx&&(mx.isNone||hi.isSome)
  |_=>false
 | .uy x lo hi=>match o with
  | .slice t x' Lu ig GM=>(match C.P.underlying t with|some .string=>true|_=>false)&&dA C x' x&&Cd C Lu lo&&Cd C ig hi&&GM.isNone
  |_=>false
 | .pD t x=>match o with
  | .makeInterface t' x'=>t==t'&&(match C.P.underlying t with|some (.interface _)=>false|some _=>true|none=>false)&&dA C x' x
  |_=>false
 | .oG key cA=>match o with
  | .makeFunc (.func f) first Cb=>match ny key with
   |none=>C.F key==some f&&first.size==0&&vt C Cb.toList cA
   |some k=>C.F k==some f&&Cb.size==0&&vt C first.toList cA
  |_=>false
 | .extract i x=>match o with | .extract x' i'=>i==i'&&dA C x' x|_=>false
 | .build zero parts=>match o with
  | .build t ps=>(match C.P.info? t with|some inf=>(match inf.zero with|some z=>m8 z.cells.toList zero|none=>false)|none=>false)&&Sm C.P t&&Bw C (placeOf C.P t) ps.toList parts
  |_=>false
 | .len str x=>match o with
  | .call {callee:= .builtin .len,args,argTypes}=>(match args.toList,argTypes.toList with
      |[x'],[t]=>dA C x' x&&(match C.P.underlying t with|some .string=>str|some (.slice _)=>!str|_=>false)
      |_,_=>false)
  |_=>false
 | .cap x=>match o with
  | .call {callee:= .builtin .cap,args,argTypes}=>(match args.toList,argTypes.toList with
      |[x'],[t]=>dA C x' x&&(match C.P.underlying t with|some (.slice _)=>true|_=>false)
      |_,_=>false)
  |_=>false
 | .pC n=>match o with
  | .call {callee:= .builtin .len,args,argTypes}=>(match args.toList,argTypes.toList with
      |[_],[t]=>(match C.P.underlying t with|some (.array n' _)=>n==n'|_=>false)
      |_,_=>false)
  |_=>false
 | .pe mx xs=>match o with
  | .call {callee:= .builtin b,args,..}=>(match b with | .max=>mx | .min=>!mx|_=>false)&&vt C args.toList xs
  |_=>false
 | .load n agg x=>match o with | .load t x'=>qy C.P t n agg&&dA C x' x|_=>false
 | .store n x v=>match o with | .store t x' v'=>(qy C.P t n true||qy C.P t n false)&&dA C x' x&&dA C v' v|_=>false
 | .box _ _ x=>match o with | .box _ x'=>dA C x' x|_=>false
 | .alloc _ zero=>match o with
  | .alloc t=>(match C.P.info? t with|some inf=>(match inf.zero with|some z=>m8 z.cells.toList zero|none=>false)|none=>false)
  |_=>false
 | .ov _ sz len zero parts=>match o with
  | .buildSlice t JS ps=>(match wP C.P t with
      |some e=>(match C.P.info? e with|some inf=>PZ C.P e sz inf.bytes zero|none=>false)&&zero.length==sz&&len==JS&&decide (len*sz≤16777216)&&Bw C (fun i=>some (i*sz,sz)) ps.toList parts
      |none=>false)
  |_=>false
 | .append _ sz bytes x y=>match o with
  | .call {callee:= .builtin .append,args,argTypes}=>(match args.toList,argTypes.toList with
      | [x', y'], [t, t'] => t == t' && dA C x' x && dA C y' y && (match wP C.P t with
          |some e=>(match C.P.info? e with|some inf=>inf.size==sz&&inf.bytes==bytes&&(match inf.zero with|some z=>z.cells.size==sz|none=>false)&&decide (0<sz)|none=>false)
          |none=>false)
      |_,_=>false)
  |_=>false
 | .make _ sz bytes zero len cap=>match o with
  | .makeSlice t l c=>dA C l len&&dA C c cap&&(match wP C.P t with|some e=>PZ C.P e sz bytes zero|none=>false)
  |_=>false
 | .call key args=>match o with
  | .call {callee:= .value (.func f),args:=lY,..}=>C.F key==some f&&sZ C.P f&&vt C lY.toList args
  |_=>false
 | .qg f args=>match o with
  | .call {callee:= .value f',args:=lY,..}=>dA C f' f&&vt C lY.toList args
  |_=>false
 | .ux x=>match o with
  | .convert s d x'=>(match C.P.underlying s,C.P.underlying d with|some .string,some (.slice e)=>(match C.P.underlying e with|some (.int .u8)=>true|_=>false)|_,_=>false)&&dA C x' x
  |_=>false
 | .pw x=>match o with
  | .convert s d x'=>(match C.P.underlying s,C.P.underlying d with|some (.slice e),some .string=>(match C.P.underlying e with|some (.int .u8)=>true|_=>false)|_,_=>false)&&dA C x' x
  |_=>false
 | .qe x=>match o with | .range t x'=>(match C.P.underlying t with|some .string=>true|_=>false)&&dA C x' x|_=>false
 | .ql x=>match o with | .next x' true=>dA C x' x|_=>false
 | .oC=>match o with | .makeMap _ r=>r.isNone|_=>false
 | .lookup kk zero ok m k=>match o with
  | .lookup t m' k' ok'=>ok==ok'&&(match C.P.underlying t with|some (.map kt et)=>wX C.P kt kk&&(match C.P.info? et with|some inf=>(match inf.zero with|some z=>MK z zero|none=>false)|none=>false)|_=>false)&&dA C m' m&&dA C k' k
  |_=>false
 | .pq kk m k v=>match o with
  | .mapUpdate t m' k' v' | .insert t m' k' v'=>(match C.P.underlying t with|some (.map kt _)=>wX C.P kt kk|_=>false)&&dA C m' m&&dA C k' k&&dA C v' v
  |_=>false
 | .delete kk m k=>match o with
  | .call {callee:= .builtin .delete,args,argTypes}=>(match args.toList,argTypes.toList with
      |[m',k'],[t,_]=>dA C m' m&&dA C k' k&&(match C.P.underlying t with|some (.map kt _)=>wX C.P kt kk|_=>false)
      |_,_=>false)
  |_=>false
 | .pd m=>match o with
  | .call {callee:= .builtin .len,args,argTypes}=>(match args.toList,argTypes.toList with
      |[m'],[t]=>dA C m' m&&(match C.P.underlying t with|some (.map _ _)=>true|_=>false)
      |_,_=>false)
  |_=>false
 | .ext e xs=>El C o e xs
 | .inv p9 x args=>match o with
  | .call {callee:= .invoke x' name,args:=lY,..}=>dA C x' x&&vt C lY.toList args&&NS C name p9
  |_=>false
 | .copy sz x y=>match o with
  | .call {callee:= .builtin .copy,args,argTypes}=>(match args.toList,argTypes.toList with
      |[x',y'],[t,_]=>dA C x' x&&dA C y' y&&(match wP C.P t with|some e=>B5 C.P e sz|none=>false)
      |_,_=>false)
  |_=>false
def tB(C:Ctx)(w:World)(G:cc):Prop:=∀g l,C.GT g=some l→VR C.F w G (.av l) (.pointer (some ⟨g,0,none⟩))
theorem tB.mono{C:Ctx}{w w':World}{G G':cc}(hg:GLe w G w' G')(h:tB C w G):tB C w' G':=fun g l hl=>(h g l hl).mono hg
def jI(C:Ctx)(w:World)(G:cc)(H:AH):Prop:=tB C w G∧∀g l,C.GT g=some l→l≠[]→(∃cs t fr,w.heap[g]?=some (.cells cs t fr)∧cs.size=l.length)∧∀i,(H.o i).live=true→G.loc i≠g
theorem jI.step{C:Ctx}{w w':World}{G G':cc}{H H':AH}(h:jI C w G H)(aX:Step w G H w' G' H'):jI C w' G' H':=by refine⟨h.1.mono aX.toGLe,fun g l hl bU=>?_⟩;obtain⟨⟨cs,t,fr,hh,hs⟩,u0⟩:=h.2 g l hl bU;have aO:g<w.heap.size:=(Array.getElem?_eq_some_iff.1 hh).1;refine⟨⟨cs,t,fr,(aX.iU g aO u0).trans hh,hs⟩,fun i hi e=>?_⟩;obtain⟨j,hj,ej⟩:=aX.owned i hi (by rw[e];exact aO);exact u0 j hj (ej.trans e)
theorem jI.Vj{C:Ctx}{w:World}{G:cc}{H:AH}{x:dc}(h:jI C w G H){b c:Nat}(jW:GLe w G w (G.more b c))(hn:G.n=H.n)(Yn:∀j,¬G.fz b j):jI C w (G.more b c) (H.push x):=by
 refine⟨h.1.mono jW,fun g l hl bU=>⟨(h.2 g l hl bU).1,fun i hi e=>?_⟩⟩;by_cases jw:i=H.n
 · have hb:(G.more b c).loc i=b:=if_pos (jw.trans hn.symm);have hv:=h.1 g l hl;generalize hX:(Value.pointer (some ⟨g,0,none⟩))=X at hv;generalize hY:AV.av l=Y at hv;cases hv with
   | av cells b' o Vs hc hv=>
    cases hX;cases hY;cases yc:l with
    |nil=>exact bU yc
    | cons c0 r=>refine Yn 0 ?_;rw[←hb,e];simpa using(hc 0 c0 (by rw[yc];rfl)).1
   |bot=>cases hY
   |_=>cases hY
 · have h1:(H.push x).o i=H.o i:=if_neg jw;have h2:(G.more b c).loc i=G.loc i:=if_neg (fun e'=>jw (e'.trans hn));rw[h1]at hi;rw[h2]at e;exact(h.2 g l hl bU).2 i hi e
theorem jI.mt{C:Ctx}{w:World}{G G':cc}{H H':AH}(h:jI C w G H)(h':tB C w G')(hH:∀i,(H'.o i).live=true→False):jI C w G' H':=⟨h',fun g l hl bU=>⟨(h.2 g l hl bU).1,fun i hi=>(hH i hi).elim⟩⟩
def au(C:Ctx):aj:=fun key args H Q=>
 (∃v H',Q v H')∧∀f,C.F key=some f→∀(G:cc)(w:World)(Vs:Array Value),jI C w G H→Rel C.F w G H→bo C.F w G args Vs →
  Calls C.P f Vs w fun e w'=>∃V v H' G',e = .returned V∧Q v H'∧VR C.F w' G' v V∧Rel C.F w' G' H'∧Step w G H w' G' H'
theorem S3(C:Ctx):w_ (au C):=fun _ _ _ _ h=>h.1
section
variable{C:Ctx}{w:World}{G:cc}{H:AH}{env:Env}{a:Act}
theorem Zp{V:Value}{c:AV}(h:DX V c=true):VR C.F w G c V:=by
 unfold DX at h;split at h
 ·simp at h;subst h;exact .bool _
 ·simp at h;obtain⟨rfl,rfl⟩:=h;exact .int _ _
 · rename_i s l;simp at h;subst h;have:s=⟨s.data.toList.toArray⟩:=(Lib.mk_data s).symm;rw[this];simpa using VR.str (F:=C.F) (w:=w) (G:=G) s.data.toList
 ·exact .jX
 ·exact .mw
 ·exact .nk
 ·exact .nn
 ·exact .lr
 ·cases h
theorem wO:∀{Vs:List Value}{cs:List AV},m8 Vs cs=true→bo C.F w G cs Vs.toArray:=by
 intro Vs;induction Vs with
 |nil=>intro cs h;cases cs<;>simp[m8]at h;exact bo.nil
 | cons V Vs ih=>
  intro cs h;cases cs with
  |nil=>simp[m8]at h
  | cons c cs=>
   simp[m8]at h;have h2:=ih h.2;refine bo.BM (by have:=h2.1;simp at this ⊢;exact this) fun j d U hd hU=>?_;cases j with
   |zero=>simp at hd hU;subst hd;subst hU;exact Zp h.1
   |succ j=>exact h2.2 j d U (by simpa using hd) (by simpa using hU)
theorem Zu{V:Value}{c:AV}(h:MK V c=true):VR C.F w G c V:=by
 unfold MK at h;split at h
 · rename_i Vs cs;have:=(wO (C:=C) (w:=w) (G:=G) h).agg;simpa using this
 · rename_i Vs cs;have:=(wO (C:=C) (w:=w) (G:=G) h).aM;simpa using this
 ·exact Zp h
theorem akv:∀{l l':List AV},Ak l l'=true→l=l':=by
 intro l;induction l with
 |nil=>intro l' h;cases l'<;>simp[Ak]at h;rfl
 | cons c l ih=>
  intro l' h;cases l' with
  |nil=>cases c<;>simp[Ak]at h
  | cons d l'=>
   cases c<;>cases d<;>simp[Ak]at h
   ·rw[h.1,ih h.2]
   ·rw[h.1.1,h.1.2,ih h.2]
   ·rw[h.1,ih h.2]
theorem ML{t:Nat}(he:bo C.F w G env a.tmps):VR C.F w G (env.getD t .bot) (a.tmps.getD t undef):=by
 rw[List.getD_eq_getElem?_getD,Array.getD_eq_getD_getElem?];cases hc:env[t]? with
 |none=>exact .bot _
 | some c=>obtain⟨V,hV,hr⟩:=he.get hc;rw[hV];exact hr
theorem dI{x:Operand}{y:bn}(hG:tB C w G)(he:bo C.F w G env a.tmps)(h:dA C x y=true):VR C.F w G (y.ev env) (a.eval x):=by
 unfold dA at h;rw[Bool.or_eq_true]at h;rcases h with h|h
 · unfold afD at h;split at h
   ·exact .bot _
   ·cases h
 unfold afY at h;split at h
 ·simp at h;subst h;exact ML he
 ·exact Zu h
 · split at h
   · rename_i l l' hl;rw[←akv h];exact hG _ _ hl
   ·cases h
 · split at h
   · rename_i key;simp only[Bool.and_eq_true,Option.isNone_iff_eq_none,beq_iff_eq]at h;exact .fn key [] _ #[] h.1 h.2 rfl (fun j c V hc _=>by simp at hc)
   ·cases h
 ·cases h
theorem Hl{x:Option Operand}{y:Option bn}(hG:tB C w G)(he:bo C.F w G env a.tmps)(h:Cd C x y=true):xW C.F w G (y.map (bn.ev env)) (x.map a.eval):=by
 unfold Cd at h;split at h
 ·trivial
 ·exact dI hG he h
 ·cases h
theorem Br(hG:tB C w G)(he:bo C.F w G env a.tmps):∀{xs:List Operand}{ys:List bn},vt C xs ys=true→bo C.F w G (iS env ys) (xs.map a.eval).toArray:=by
 intro xs;induction xs with
 |nil=>intro ys h;cases ys<;>simp[vt]at h;exact bo.nil
 | cons x xs ih=>
  intro ys h;cases ys with
  |nil=>simp[vt]at h
  | cons y ys=>
   simp[vt]at h;have h2:=ih h.2;refine bo.BM (by have:=h2.1;simp[iS]at this ⊢;exact this) fun j d U hd hU=>?_;cases j with
   |zero=>simp[iS]at hd hU;subst hd;subst hU;exact dI hG he h.1
   |succ j=>exact h2.2 j d U (by simpa[iS]using hd) (by simpa using hU)
theorem Zo(hG:tB C w G)(he:bo C.F w G env a.tmps){place:Nat→Option (Nat×Nat)}:∀{xs:List (Nat×Operand)}{ys:List (Nat×Nat×bn)},Bw C place xs ys=true →
  (mz env ys).length=(xs.map fun p=>(p.1,a.eval p.2)).length ∧
  ∀(j:Nat)(q:Nat×Nat×AV)(p:Nat×Value),(mz env ys)[j]?=some q→(xs.map fun p=>(p.1,a.eval p.2))[j]?=some p→place p.1=some (q.1,q.2.1)∧VR C.F w G q.2.2 p.2:=by
 intro xs;induction xs with
 |nil=>intro ys h;cases ys<;>simp[Bw]at h;exact⟨rfl,fun j q p hq=>by simp[mz]at hq⟩
 | cons x xs ih=>
  intro ys h;obtain⟨i,x⟩:=x;cases ys with
  |nil=>simp[Bw]at h
  | cons y ys=>
   obtain⟨off,sz,y⟩:=y;simp[Bw]at h;obtain⟨h1,h2⟩:=ih h.2;refine⟨by simp[mz]at h1 ⊢;exact h1,fun j q p hq hp=>?_⟩;cases j with
   |zero=>simp[mz]at hq hp;subst hq;subst hp;exact⟨h.1.1,dI hG he h.1.2⟩
   |succ j=>exact h2 j q p (by simpa[mz]using hq) (by simpa using hp)
end
end Rb

namespace Rb
open Go
def Op.D5(m:Nat)(xs ys:Array Value)(e:TypeId)(n:Nat):List Nat→Sem Bool
 |[]=>pure true
 | i::r=>do
  let a ←part e xs (i*n);let b ←part e ys (i*n);let x ←Op.equalIn m e a b
  if(!x)=true then pure false else Op.D5 m xs ys e n r
theorem run_equalIn_array{P:Program}(w:World)(m:Nat)(t e:TypeId)(len:Nat)(i:TypeInfo)(xs ys:Array Value)(ht:P.underlying t=some (.array len e))(hi:P.info? e=some i) :
  (Op.equalIn (m+1) t (.agg xs) (.agg ys)).run P w=(Op.D5 m xs ys e i.size (List.range len)).run P w:=by
 have hs:(Go.sizeOf e).run P w = .ok i.size w:=by simp[Go.sizeOf,typeInfo,hi]
 simp only[Op.equalIn,Sem.run_bind,run_underlying ht,Result.andThen_ok,hs];rw[Std.Legacy.Range.forIn_eq_forIn_range'];have hr:List.range' (Std.Legacy.Range.start [:len]) (Std.Legacy.Range.size [:len]) (Std.Legacy.Range.step [:len])=List.range len:=by simp[Std.Legacy.Range.size,List.range_eq_range']
 rw[hr];clear hs hr;generalize List.range len=l;induction l generalizing w with
 |nil=>simp[Op.D5]
 | cons j r ih=>
  simp only[List.forIn_cons,Op.D5,Sem.run_bind,Sem.run_ite];generalize (part e xs (j*i.size)).run P w=r1;cases r1 with
  | ok a w1=>
   simp only[Result.andThen_ok];generalize (part e ys (j*i.size)).run P w1=r2;cases r2 with
   | ok b w2=>
    simp only[Result.andThen_ok];generalize (Op.equalIn m e a b).run P w2=r3;cases r3 with
    | ok x w3=>
     cases x
     ·simp only[Result.andThen_ok,Bool.not_false,if_true,Sem.run_pure]
     · simp only[Result.andThen_ok,Bool.not_true,Bool.false_eq_true,if_false,Sem.run_pure];exact ih w3
    |halt x w3=>simp[Result.andThen]
   |halt x w2=>simp[Result.andThen]
  |halt x w1=>simp[Result.andThen]
theorem Sl:∀(k1 k2:List FK)(xs ys:List AV)(b:Bool),gP (k1++k2) xs ys=some b →
  ∃x1 x2 y1 y2 b1 b2,xs=x1++x2∧ys=y1++y2∧x1.length=k1.length∧y1.length=k1.length∧gP k1 x1 y1=some b1∧gP k2 x2 y2=some b2∧b=(b1&&b2):=by
 intro k1;induction k1 with
 |nil=>intro k2 xs ys b h;exact⟨[],xs,[],ys,true,b,rfl,rfl,rfl,rfl,rfl,h,by simp⟩
 | cons k k1 ih=>
  intro k2 xs ys b h;have step:∀(x y:AV)(r t:List AV)(b' q:Bool),gP (k1++k2) r t=some b'→(∀(z:Bool),gP k1 (r.take k1.length) (t.take k1.length)=some z→gP (k::k1) (x::r.take k1.length) (y::t.take k1.length)=some (q&&z))→b=(q&&b') →
    ∃x1 x2 y1 y2 b1 b2,x::r=x1++x2∧y::t=y1++y2∧x1.length=(k::k1).length∧y1.length=(k::k1).length∧gP (k::k1) x1 y1=some b1∧gP k2 x2 y2=some b2∧b=(b1&&b2):=by
   intro x y r t b' q iC hq hb;obtain⟨x1,x2,y1,y2,b1,b2,rfl,rfl,hx,hy,h1,h2,h3⟩:=ih k2 r t b' iC;rw[←hx,List.take_left,hx,←hy,List.take_left]at hq;exact⟨x::x1,x2,y::y1,y2,q&&b1,b2,rfl,rfl,by simp[hx],by simp[hy],hq _ h1,h2,by rw[hb,h3,Bool.and_assoc]⟩
  cases k<;>cases xs<;>(try (simp[gP]at h;done))<;>cases ys<;>(try (simp[gP]at h;done))<;>rename_i x r y t<;>cases x<;>(try (simp[gP]at h;done))<;>cases y<;>(try (simp[gP]at h;done))
  · simp only[List.cons_append,gP]at h;split at h
    · rename_i hk;subst hk;cases hb:gP (k1++k2) r t with
      |none=>simp[hb]at h
      | some b'=>simp[hb]at h;exact step _ _ r t b' _ hb (fun z hz=>by simp only[gP,if_true,hz,Option.map_some]) h.symm
    ·cases h
  · simp only[List.cons_append,gP]at h;cases hb:gP (k1++k2) r t with
    |none=>simp[hb]at h
    | some b'=>simp[hb]at h;exact step _ _ r t b' _ hb (fun z hz=>by simp only[gP,hz,Option.map_some]) h.symm
  · simp only[List.cons_append,gP]at h;cases hb:gP (k1++k2) r t with
    |none=>simp[hb]at h
    | some b'=>simp[hb]at h;exact step _ _ r t b' _ hb (fun z hz=>by simp only[gP,hz,Option.map_some]) h.symm
theorem ZL:∀(ks:List FK)(xs ys:List AV)(b:Bool),gP ks xs ys=some b→xs.length=ks.length∧ys.length=ks.length:=by intro ks xs ys b h;obtain⟨x1,x2,y1,y2,b1,b2,rfl,rfl,h1,h2,_,h3,_⟩:=Sl ks [] xs ys b (by simpa using h);cases x2<;>cases y2<;>simp[gP]at h3;simp[h1,h2]
section
variable{P:Program}{F:eG}{w:World}{G:cc}
def oX(F:eG)(w:World)(G:cc)(Xs:Array Value)(o:Nat)(xs:List AV):Prop:=∀(j:Nat)(c:AV),xs[j]?=some c→∃V,Xs[o+j]?=some V∧VR F w G c V
theorem oX.left{Xs:Array Value}{o:Nat}{x y:List AV}(h:oX F w G Xs o (x++y)):oX F w G Xs o x:=fun j c hj=>h j c (by rw[List.getElem?_append_left (List.getElem?_eq_some_iff.1 hj).1];exact hj)
theorem oX.right{Xs:Array Value}{o:Nat}{x y:List AV}(h:oX F w G Xs o (x++y)):oX F w G Xs (o+x.length) y:=fun j c hj=>by have:=h (x.length+j) c (by rw[List.getElem?_append_right (by omega)];simpa using hj);rwa [←Nat.add_assoc]at this
theorem oX.cut{Xs:Array Value}{o n:Nat}{x:List AV}(h:oX F w G Xs o x)(hn:n=x.length):oX F w G (Xs.extract o (o+n)) 0 x:=fun j c hj=>by obtain⟨V,hV,hv⟩:=h j c hj;have KS:=(List.getElem?_eq_some_iff.1 hj).1;have aO:=(Array.getElem?_eq_some_iff.1 hV).1;refine⟨V,?_,hv⟩;rw[Nat.zero_add,Array.getElem?_extract,if_pos (by omega)];exact hV
def HV(P:Program)(F:eG)(w:World)(G:cc)(m:Nat)(t:TypeId)(ks:List FK):Prop:=
 ∀ (Xs Ys:Array Value) (ox oy:Nat) (xs ys:List AV) (b:Bool),gP ks xs ys=some b→oX F w G Xs ox xs→oX F w G Ys oy ys →
  ∃a c,(part t Xs ox).run P w = .ok a w∧(part t Ys oy).run P w = .ok c w∧(Op.equalIn m t a c).run P w = .ok b w
def P0(P:Program)(F:eG)(w:World)(G:cc)(m:Nat)(t:TypeId)(ks:List FK):Prop:=∀(Xs Ys:Array Value)(xs ys:List AV)(b:Bool),gP ks xs ys=some b→oX F w G Xs 0 xs→oX F w G Ys 0 ys→(Op.equalIn m t (.agg Xs) (.agg Ys)).run P w = .ok b w
theorem ak1{m:Nat}{rec:TypeId→Option (List FK)}(axh:∀t l,rec t=some l→HV P F w G m t l){Xs Ys:Array Value}:∀(fs:List Field)(k:Nat)(ks:List FK)(xs ys:List AV)(b:Bool),Eo rec fs k=some ks→gP ks xs ys=some b →
  oX F w G Xs k xs→oX F w G Ys k ys→(Op.eqFields m Xs Ys fs).run P w = .ok b w:=by
 intro fs;induction fs with
 | nil=>intro k ks xs ys b hd he _ _;simp only[Eo,Option.some.injEq]at hd;subst hd;cases xs<;>cases ys<;>simp[gP]at he;subst he;rfl
 | cons f fs ih=>
  intro k ks xs ys b hd he hX hY;simp only[Eo]at hd;split at hd
  · rename_i jx;obtain⟨axa,I9⟩:=jx;split at hd
    · rename_i l hl;cases hr:Eo rec fs (k+l.length)with
      |none=>simp[hr]at hd
      | some ks'=>
       simp only[hr,Option.map_some,Option.some.injEq]at hd;subst hd;obtain⟨x1,x2,y1,y2,b1,b2,rfl,rfl,hx,hy,h1,h2,rfl⟩:=Sl l ks' xs ys b he;obtain⟨a,c,ha,hc,Gj⟩:=axh _ _ hl Xs Ys k k x1 y1 b1 h1 hX.left hY.left;rw[←axa]at ha hc;have KJ:=hX.right;have KL:=hY.right;rw[hx]at KJ;rw[hy]at KL;simp only[Op.eqFields,I9,ne_eq,not_false_eq_true,if_true,Sem.run_bind,ha,hc,Gj,Result.andThen_ok];cases b1 with
       |false=>simp
       |true=>simp;exact ih (k+l.length) ks' x2 y2 b2 hr h2 KJ KL
    ·cases hd
  ·cases hd
theorem alP{m:Nat}{e:TypeId}{l:List FK}(hp:HV P F w G m e l){Xs Ys:Array Value}:∀(n s:Nat)(xs ys:List AV)(b:Bool),gP (List.replicate n l).flatten xs ys=some b →
  oX F w G Xs (s*l.length) xs→oX F w G Ys (s*l.length) ys→(Op.D5 m Xs Ys e l.length (List.range' s n)).run P w = .ok b w:=by
 intro n;induction n with
 | zero=>intro s xs ys b he _ _;cases xs<;>cases ys<;>simp[gP]at he;subst he;rfl
 | succ n ih=>
  intro s xs ys b he hX hY;rw[List.replicate_succ,List.flatten_cons]at he;obtain⟨x1,x2,y1,y2,b1,b2,rfl,rfl,hx,hy,h1,h2,rfl⟩:=Sl l _ xs ys b he;obtain⟨a,c,ha,hc,Gj⟩:=hp Xs Ys _ _ x1 y1 b1 h1 hX.left hY.left;have KJ:=hX.right;have KL:=hY.right;rw[hx,←Nat.succ_mul]at KJ;rw[hy,←Nat.succ_mul]at KL;rw[List.range'_succ];simp only[Op.D5,Sem.run_bind,ha,hc,Gj,Result.andThen_ok];cases b1 with
  |false=>simp
  |true=>simp;exact ih (s+1) x2 y2 b2 h2 KJ KL
theorem alQ:∀(d:Nat)(t:TypeId)(ks:List FK),xj P d t=some ks→∀m,d≤m→HV P F w G m t ks∧(∀D,P.underlying t=some D→qc D=true→P0 P F w G m t ks):=by
 intro d;induction d with
 |zero=>intro t ks h;cases h
 | succ d ih=>
  intro t ks h m hm;obtain⟨m,rfl⟩:∃m',m=m'+1:=⟨m-1,by omega⟩
  have hdm:d≤m:=by omega
  have wrap:∀D (i:TypeInfo),P.underlying t=some D→qc D=true→P.info? t=some i→i.size=ks.length→P0 P F w G (m+1) t ks→HV P F w G (m+1) t ks∧(∀D,P.underlying t=some D→qc D=true→P0 P F w G (m+1) t ks):=by intro D i hD mR hi gN ha;refine⟨fun Xs Ys ox oy xs ys b he hX hY=>?_,fun _ _ _=>ha⟩;obtain⟨hlx,Gt⟩:=ZL ks xs ys b he;exact⟨_,_,Sf hD mR hi,Sf hD mR hi,ha _ _ xs ys b he (hX.cut (by omega)) (hY.cut (by omega))⟩
  have WZ:∀D,P.underlying t=some D→qc D=false→∀k,ks=[k]→(∀x y b V U,gP [k] [x] [y]=some b→VR F w G x V→VR F w G y U→(Op.equalIn (m+1) t V U).run P w = .ok b w)→HV P F w G (m+1) t ks∧(∀D,P.underlying t=some D→qc D=true→P0 P F w G (m+1) t ks):=by
   intro D hD mR k hk hs;subst hk;refine⟨fun Xs Ys ox oy xs ys b he hX hY=>?_,fun D' hD' gM=>?_⟩
   · obtain ⟨hlx,Gt⟩:=ZL _ xs ys b he
     match xs,ys,hlx,Gt with
     | [x],[y],_,_=>obtain⟨V,hV,hv⟩:=hX 0 x rfl;obtain⟨U,hU,hu⟩:=hY 0 y rfl;rw[Nat.add_zero]at hV hU;exact⟨V,U,Sg hD mR hV,Sg hD mR hU,hs x y b V U he hv hu⟩
   ·rw[hD]at hD';cases hD';rw[mR]at gM;cases gM
  simp only[xj]at h;split at h
  · rename_i k0 hd;cases h;refine WZ _ hd rfl _ rfl fun x y b V U he hx hy=>?_;cases x<;>cases y<;>simp only[gP]at he<;>try (cases he;done)
    split at he
    · rename_i gW;subst gW;obtain rfl:=hx.lW;obtain rfl:=hy.lW;simp at he;rw[run_equalIn_int w m t _ _ _ _ hd,he]
    ·cases he
  · rename_i hd;cases h;refine WZ _ hd rfl _ rfl fun x y b V U he hx hy=>?_;cases x<;>cases y<;>simp only[gP]at he<;>try (cases he;done)
    obtain rfl:=hx.qN;obtain rfl:=hy.qN;simp at he;rw[run_equalIn_bool' w m t _ _ hd,he]
  · rename_i hd;cases h;refine WZ _ hd rfl _ rfl fun x y b V U he hx hy=>?_;cases x<;>cases y<;>simp only[gP]at he<;>try (cases he;done)
    obtain rfl:=hx.rP;obtain rfl:=hy.rP;simp at he;rw[run_equalIn_string w m t _ _ hd];simp[he]
  · rename_i fs i hd hi;split at h
    ·cases h
    · rename_i aX;split at h
      · rename_i l hl;split at h
        · rename_i gN;cases h;refine wrap _ i hd rfl hi gN fun Xs Ys xs ys b he hX hY=>?_;have mX:P.fieldsOf t=fs:=by simp[Program.fieldsOf,hd]
          have h1:=run_equalIn_struct (P:=P) w m t Xs Ys (by rw[mX];exact hd) (by simpa using aX);rw[mX]at h1;rw[h1];exact ak1 (fun t l hl=>(ih t l hl m hdm).1) fs.toList 0 _ xs ys b hl he hX hY
        ·cases h
      ·cases h
  · rename_i n e i hd hi;split at h
    · rename_i l j hl hj;split at h
      · rename_i gN;cases h;refine wrap _ i hd rfl hi gN.1 fun Xs Ys xs ys b he hX hY=>?_;rw[run_equalIn_array w m t e n j Xs Ys hd hj,gN.2,List.range_eq_range'];exact alP (ih e l hl m hdm).1 n 0 xs ys b he (by simpa using hX) (by simpa using hY)
      ·cases h
    ·cases h
  ·cases h
end
section
variable{P:Program}{F:eG}{w:World}{G:cc}{H:AH}
theorem bo.take{cs:List AV}{L:List Value}(h:bo F w G cs L.toArray)(k:Nat):bo F w G (cs.take k) (L.take k).toArray:=by
 refine bo.BM (by have:=h.1;simp at this;simp[this]) fun j c V hc hV=>?_;have hj:j<k:=by have:=(List.getElem?_eq_some_iff.1 hc).1;simp at this;omega
 rw[List.getElem?_take_of_lt hj]at hc hV;exact h.2 j c V hc (by simpa using hV)
theorem akQ{t t2 e ty:TypeId}{inf:TypeInfo}{sz:Nat}{x y v:AV}{X Y:Value}{H':AH}(aI:Rel F w G H)(ht:P.underlying t=some (.slice e))(hi:P.info? e=some inf)(hs:inf.size=sz)
  (h:IV H sz x y=some (v,H')) (hx:VR F w G x X) (hy:VR F w G y Y):pv F w G H v H' ((Builtin.copy_ #[t,t2] ty #[X,Y]).run P w):=by
 subst hs;unfold IV at h;split at h
 · rename_i id o len s' m news pN;obtain⟨Rx,ad,c,rfl,QS⟩:=Sb aI pN hy;split at h
   · rename_i cs ho;dsimp only at h;split at h
     · rename_i hk;cases h;have hL:∃L:List Value,bo F w G (news.take (min m len*inf.size)) L.toArray∧(Builtin.firstCells inf.size (min m len) (.slice ad m c)).run P w = .ok L.toArray w:=by
        rcases Nat.eq_zero_or_pos m with hm|hm
        · subst hm;have:news=[]:=by simpa using Rx
          subst this;refine⟨[],by simpa using bo.nil,?_⟩;cases ad<;>simp[Builtin.firstCells,loadCells,loadCellsFrom]
        · obtain ⟨bs,os,rfl,yc⟩:=QS hm;obtain⟨M,hM,zB⟩:=yc.vO;have oK:M.length=m*inf.size:=by have:=hM.1;simp at this;omega
          refine⟨M.take (min m len*inf.size),hM.take _,?_⟩;have hle:min m len*inf.size≤m*inf.size:=Nat.mul_le_mul_right _ (Nat.min_le_left _ _);exact run_firstCells_some (P:=P) w inf.size (min m len) ⟨bs,os,none⟩ m c (M.take (min m len*inf.size)) (by rw[List.length_take,oK];omega) fun j u hj=>by
           have aO:j<min m len*inf.size:=by have:=(List.getElem?_eq_some_iff.1 hj).1;simp at this;omega
           rw[List.getElem?_take_of_lt aO]at hj;exact zB j u hj
       obtain⟨L,hLv,hf⟩:=hL;have Dq:(news.take (min m len*inf.size)).length≤min m len*inf.size:=by simp;omega
       obtain ⟨w',cr,hr,aX⟩:=Mo (P:=P) (o:=o) aI ho hLv (by omega) (by rw[List.all_eq_true];intro z hz;exact(List.all_eq_true.1 hk.1) z (List.mem_of_mem_take hz))
       cases hx with
       | row _ _ _ _ cap gC hle hc=>refine⟨.int .i64 ((min m len:Nat):Int),w',G,?_,.int _ _,hr,aX⟩;have aw8:Nat.min m len=min m len:=rfl;simp[Builtin.copy_,run_underlying ht,Go.sizeOf,typeInfo,hi,Builtin.lenOf,aw8,hf,cr,goInt]
     ·cases h
   ·cases h
 ·cases h
end
section
variable{P:Program}{F:eG}{w:World}{G:cc}{H:AH}
theorem alj{t xT:TypeId}{D:TypeDesc}{V:Value}(ht:P.underlying t=some D)(hD:T3 D=true):(Instr.typeAssert (.iface t V) xT t false).run P w = .ok V w:=by cases D<;>first|(simp[T3]at hD;done)|simp[Instr.typeAssert,run_underlying ht]
theorem SX{tp te:TypeId}{j:TypeInfo}{neg r:Bool}{a b:Addr}{p q:Operand}(hp:P.underlying tp=some (.pointer te))(Lb:P.info? te=some j)(gN:j.size≠0)(hs:(sameAddr a b).run P w = .ok r w) :
  (do eqGuard (if neg then .neq else .eql) tp p q (.pointer (some a)) (.pointer (some b));binOp (if neg then .neq else .eql) tp (.pointer (some a)) (.pointer (some b)):Sem Value).run P w = .ok (.bool (if neg then !r else r)) w:=by
 have h:∀d:Nat,(Op.equalIn (d+1) tp (.pointer (some a)) (.pointer (some b))).run P w = .ok r w:=fun d=>by simp[Op.equalIn,run_underlying hp,Go.sizeOf,typeInfo,Lb,gN,hs]
 cases neg
 · have xz:binOp .eql tp (.pointer (some a)) (.pointer (some b))=(do pure (.bool (←Op.equal tp (.pointer (some a)) (.pointer (some b))))):=rfl;simp[eqGuard,xz,Op.equal,Op.maxDepth,h 9999]
 · have xz:binOp .neq tp (.pointer (some a)) (.pointer (some b))=(do pure (.bool (!(←Op.equal tp (.pointer (some a)) (.pointer (some b)))))):=rfl;simp[eqGuard,xz,Op.equal,Op.maxDepth,h 9999]
theorem alB{neg:Bool}{x y v:AV}{X Y:Value}{H':AH}{tp te:TypeId}{j:TypeInfo}{p q:Operand}(aI:Rel F w G H)(hp:P.underlying tp=some (.pointer te))(Lb:P.info? te=some j)(gN:j.size≠0)
  (h:jH H (.Au neg) [x,y]=some (v,H')) (hx:VR F w G x X) (hy:VR F w G y Y) :
  ∃V,(do eqGuard (if neg then .neq else .eql) tp p q X Y;binOp (if neg then .neq else .eql) tp X Y:Sem Value).run P w = .ok V w∧VR F w G v V∧H'=H:=by
 cases x<;>cases y<;>try (simp[jH]at h;done)
 rename_i i o j' p';simp only[jH]at h;split at h
 · rename_i cs ds hi hj;have oi:=aI.obj i;have oj:=aI.obj j';rw[hi]at oi;rw[hj]at oj;obtain⟨C,e,hc,_⟩:=oi;obtain⟨D,e',hd,_⟩:=oj;cases hx with
   | ptr _ _ gC=>
    cases hy with
    | ptr _ _ hjd=>
     split at h
     · rename_i nF;subst nF;simp only[Option.some.injEq,Prod.mk.injEq]at h;obtain⟨rfl,rfl⟩:=h;by_cases eR:o=p'
       · subst eR;refine⟨_,SX hp Lb gN (run_sameAddr_same (P:=P) w _),?_,rfl⟩;rw[beq_self_eq_true];cases neg<;>exact VR.bool _
       · have bU:(⟨G.loc i,o,none⟩:Addr)≠⟨G.loc i,p',none⟩:=fun e=>eR (by injection e);have hb:(o==p')=false:=by simpa using eR
         rw[hb];refine⟨_,SX hp Lb gN (run_sameAddr_other w bU hc hd),?_,rfl⟩;cases neg<;>exact VR.bool _
     · rename_i nF;simp only[Option.some.injEq,Prod.mk.injEq]at h;obtain⟨rfl,rfl⟩:=h;have bU:(⟨G.loc i,o,none⟩:Addr)≠⟨G.loc j',p',none⟩:=fun e=>aI.mQ i j' nF (by rw[hi];rfl) (by rw[hj];rfl) (by injection e);refine⟨_,SX hp Lb gN (run_sameAddr_other w bU hc hd),?_,rfl⟩;cases neg<;>exact VR.bool _
 ·cases h
theorem ajL(w:World){t it ty e:TypeId}{k:IntKind}{i:TypeInfo}{z:Value}(ht:P.underlying t=some (.slice e))(hit:P.underlying it=some (.int k))(hi:P.info? e=some i)(hz:i.zero=some z)(hs:i.size≠0)
  (n:Nat) (h0:0<n) (Ge:(n:Int)≤9223372036854775807) (KE:n*i.bytes≤281474976710656) :
  (Builtin.append_ #[t,it] ty #[.slice none 0 0,.int .i64 n]).run P w =
   .ok (.slice (some ⟨w.heap.size,0,none⟩) n (grownCap w n 0 e)) (w.drew.alloc (.cells (#[]++Builtin.zeroCells z.cells n++Builtin.zeroCells z.cells (grownCap w n 0 e-n)) e)):=by
 have hn:n≠0:=by omega
 have awH:¬(9223372036854775807<(n:Int)):=by omega
 have awG:¬(281474976710656<Builtin.nextslicecap n 0*i.bytes):=by rw[nextslicecap_zero h0];omega
 have hw:IntKind.i64.wrap (n:Int)=n:=by simp[IntKind.wrap,IntKind.bits,IntKind.signed];omega
 have aw9:¬((n:Int)<0):=by omega
 have avb:¬(281474976710656<(n:Int)*(i.bytes:Int)):=by
  have:((n*i.bytes:Nat):Int)≤281474976710656:=by omega
  rw[Int.natCast_mul]at this;omega
 have hns:n*i.size≠0:=Nat.mul_ne_zero hn hs;have hb:IntKind.i64.max=9223372036854775807:=rfl;simp[Builtin.append_,run_underlying ht,run_underlying hit,Go.sizeOf,typeInfo,zeroValue,hi,hz,asInt,asIntOf,hw,aw9,avb,hn,hs,awH,awG,hb,Question.forced,Builtin.firstCells,newRow,grownCap];intro h;exact absurd h hns
theorem aml{t it e ty:TypeId}{k:IntKind}{inf:TypeInfo}{sz bytes:Nat}{zero:List AV}{z:Value}{x y v:AV}{X Y:Value}{H':AH}(aI:Rel F w G H)(ht:P.underlying t=some (.slice e))(hit:P.underlying it=some (.int k))(hi:P.info? e=some inf)(hs:inf.size=sz)(hb:inf.bytes=bytes)(hz:inf.zero=some z)(t_:bo F w G zero z.cells)
  (h:jH H (.grow sz bytes zero) [x,y]=some (v,H')) (hx:VR F w G x X) (hy:VR F w G y Y):pv F w G H v H' ((Builtin.append_ #[t,it] ty #[X,Y]).run P w):=by
 subst hs hb;cases x<;>try (simp[jH]at h;done)
 rename_i tk len cells;cases tk<;>cases len<;>cases cells<;>try (simp[jH]at h;done)
 cases y<;>try (simp[jH]at h;done)
 rename_i k' n;cases k'<;>try (simp[jH]at h;done)
 simp only[jH]at h;split at h
 · rename_i hk;obtain⟨h0,KE,Ge,wF,gN⟩:=hk;simp only[Option.some.injEq,Prod.mk.injEq]at h;obtain⟨rfl,rfl⟩:=h;obtain rfl:=hy.lW;obtain⟨m,rfl⟩:=Int.eq_ofNat_of_zero_le (Int.le_of_lt h0);simp only[Int.toNat_natCast]at KE ⊢;have sH:zero.length=z.cells.size:=t_.1;cases hx with
   | lr=>
    rw[ajL w ht hit hi hz (by omega) m (by omega) Ge KE];have mE:=DL t_ m;have FH:∀(j:Nat)(c:AV),(List.replicate m zero).flatten[j]?=some c→∃V,(#[]++Builtin.zeroCells z.cells m++Builtin.zeroCells z.cells (grownCap w m 0 e-m))[j]?=some V∧VR F w G c V:=by intro j c hj;obtain⟨V,hV,hr⟩:=mE.get hj;rw[sH]at hV;refine⟨V,?_,hr⟩;have hV2:(Builtin.zeroCells z.cells m)[j]?=some V:=hV;rw[Array.empty_append,Array.getElem?_append,if_pos (Array.getElem?_eq_some_iff.1 hV2).1];exact hV2
    have sA:=grownCap_ge w m 0 e;have avv:(#[]++Builtin.zeroCells z.cells m++Builtin.zeroCells z.cells (grownCap w m 0 e-m)).size=grownCap w m 0 e*inf.size:=by simp only[Array.size_append,Array.size_empty,size_zeroCells,Nat.zero_add,←Nat.add_mul,←sH,wF];congr 1;omega
    obtain⟨G',hr,aX,hv⟩:=Mf aI (fD.drew w _) FH avv m sA;exact⟨_,_,G',rfl,hv,hr,aX⟩
   |aq _ _ _ b o cap Vs gD hle h hv=>exact gD.elim
 ·cases h
theorem alA{t e ty:TypeId}{inf:TypeInfo}{sz:Nat}{zero:List AV}{z:Value}{x v:AV}{X:Value}{H':AH}(aI:Rel F w G H)(ht:P.underlying t=some (.slice e))(hi:P.info? e=some inf)(hz:inf.zero=some z)(t_:bo F w G zero z.cells)
  (h:jH H (.clear sz zero) [x]=some (v,H')) (hx:VR F w G x X):pv F w G H v H' ((Builtin.clear_ #[t] ty #[X]).run P w):=by
 have nothing:∀(a:Option Addr)(cap:Nat),pv F w G H (.aM []) H ((Builtin.clear_ #[t] ty #[.slice a 0 cap]).run P w):=by intro a cap;refine⟨.tuple #[],w,G,?_,.aM [] #[] rfl (fun j c V hc _=>by simp at hc),aI,Step.refl _ _ _⟩;cases a<;>simp[Builtin.clear_,run_underlying ht]
 cases x<;>try (simp[jH]at h;done)
 · rename_i tk len cells;cases len with
   |succ n=>simp[jH]at h
   | zero=>
    simp only[jH,Option.some.injEq,Prod.mk.injEq]at h;obtain⟨rfl,rfl⟩:=h;cases hx with
    |lr=>exact nothing _ _
    |lC a cap=>exact nothing _ _
    |aq _ _ _ b o cap Vs gD hle h hv=>exact nothing _ _
 · rename_i id o len zz;simp only[jH]at h;cases hx with
   | row _ _ _ _ cap gC hle hc=>
    split at h
    · rename_i hl;subst hl;simp only[Option.some.injEq,Prod.mk.injEq]at h;obtain⟨rfl,rfl⟩:=h;exact nothing _ _
    · rename_i hl;split at h
      · rename_i cs ho;split at h
        · rename_i hk;obtain⟨lQ,wF,vG⟩:=hk;simp only[Option.some.injEq,Prod.mk.injEq]at h;obtain⟨rfl,rfl⟩:=h;have sH:zero.length=z.cells.size:=t_.1;have mE:bo F w G (List.replicate len zero).flatten (Builtin.zeroCells z.cells len).toList.toArray:=by
           have:=DL t_ len;rw[sH]at this;rw[Array.toArray_toList];exact this
          have pR:(List.replicate len zero).flatten.length=len*zero.length:=by simp
          have axk:(List.replicate len zero).flatten.all AV.scalar=true:=by rw[List.all_eq_true];intro c hc;rw[List.mem_flatten]at hc;obtain⟨l,hl,jZ⟩:=hc;rw[(List.mem_replicate.1 hl).2]at jZ;exact(List.all_eq_true.1 lQ) c jZ
          obtain⟨w',cr,hr,aX⟩:=Mo (P:=P) (o:=o) aI ho mE (by rw[pR,wF];exact vG) axk;refine⟨.tuple #[],w',G,?_,.aM [] #[] rfl (fun j c V hc _=>by simp at hc),hr,aX⟩;obtain⟨n,rfl⟩:∃n,len=n+1:=⟨len-1,by omega⟩
          simp[Builtin.clear_,run_underlying ht,zeroValue,typeInfo,hi,hz,cr]
        ·cases h
      ·cases h
end
theorem aab{P:Program}{w:World}{n:Nat}{t f:Nat}{V U:Value}{name:String}{i:TypeInfo}{mt:Method}{pr:Bool}(hi:P.info? t=some i)(hm:i.methods.find? (·.name==name)=some mt)(hp:mt.path.toList=[])(hf:mt.func=some (f,pr))
  (hr:∀wr,(receiverAt t (.val V) pr wr).run P w = .ok U w):(method (n+1) t V name).run P w = .ok (f,U) w:=by
 have hti:(typeInfo t).run P w = .ok i w:=by simp[typeInfo,hi]
 unfold method;simp only[Sem.run_bind,hti,Result.andThen_ok,hm,hp,follow,Sem.run_pure,hf,hr]
theorem amK{C:Ctx}{w:World}{G:cc}{H:AH}{name:String}{t:TypeId}{key:Nat}{m:Option (Nat×Bool)}{v u:AV}{V:Value}(aI:Rel C.F w G H)(h:MH C name t key m=true)(hV:VR C.F w G v V)(hu:JP H m v=some u) :
  ∃f U,C.F key=some f∧sZ C.P f=true∧(method (C.P.types.size+Made.depth) t V name).run C.P w = .ok (f,U) w∧VR C.F w G u U:=by
 have avm:C.P.types.size+Made.depth=(C.P.types.size+99)+1:=rfl;rw[avm];unfold MH at h;cases hi:C.P.info? t with
 |none=>rw[hi]at h;cases h
 | some i=>
  rw[hi]at h;dsimp only at h;cases hm:i.methods.find? (·.name==name)with
  |none=>rw[hm]at h;cases h
  | some mt=>
   rw[hm]at h;dsimp only at h;rw[Bool.and_eq_true]at h;obtain⟨hp,h⟩:=h;have j_:mt.path.toList=[]:=by simpa using hp
   cases Rv:mt.func with
   |none=>rw[Rv]at h;cases h
   | some fp=>
    obtain⟨f,pr⟩:=fp;rw[Rv]at h;cases ht:C.P.underlying t with
    |none=>rw[ht]at h;cases pr<;>cases m<;>cases h
    | some D=>
     rw[ht]at h;cases D<;>try (cases pr<;>cases m<;>cases h;done)
     rename_i e;have Dv:(underlying t).run C.P w = .ok (.pointer e) w:=run_underlying ht w;cases pr with
     | true=>
      cases m with
      |some _=>cases h
      | none=>simp only[Bool.and_eq_true,beq_iff_eq]at h;simp only[JP,Option.some.injEq]at hu;subst hu;refine⟨f,V,h.1,h.2,aab hi hm j_ Rv fun wr=>?_,hV⟩;unfold receiverAt;simp only[Sem.run_bind,Dv,Result.andThen_ok];rfl
     | false=>
      cases m with
      |none=>cases h
      | some na=>
       obtain⟨n,agg⟩:=na;simp only[Bool.and_eq_true,beq_iff_eq]at h;obtain⟨⟨h1,h2⟩,h3⟩:=h;simp only[JP]at hu;obtain⟨U,cr,hU⟩:=Sj (P:=C.P) h3 aI hu hV;have hVp:∃a,V = .pointer (some a):=by unfold J at hu;cases hV<;>first|(simp at hu;done)|exact⟨_,rfl⟩
       obtain⟨a,rfl⟩:=hVp;simp only[Instr.loadAt,Instr.sureAddr,Sem.run_bind,Sem.run_pure,Result.andThen_ok]at cr;refine⟨f,U,h1,h2,aab hi hm j_ Rv fun wr=>?_,hU⟩;unfold receiverAt;simp only[Sem.run_bind,Dv,Result.andThen_ok,Place.get,Sem.run_pure];cases wr with
       |none=>simp only[Sem.run_bind,Sem.run_pure,Result.andThen_ok,asAddr,cr]
       | some nm=>
        have hs : (Builtin.ssaWrapNilChk_ #[t] t #[.pointer (some a), strVal "", strVal nm]).run C.P w = .ok (.pointer (some a)) w := rfl
        simp only[Sem.run_bind,hs,Sem.run_pure,Result.andThen_ok,asAddr,cr]
theorem ZZ{C:Ctx}{name:String}:∀{l:List (TypeId×Nat×Option (Nat×Bool))}{t:TypeId}{r:Nat×Option (Nat×Bool)},NS C name l=true→I3 l t=some r→MH C name t r.1 r.2=true
 |[],_,_,_,h=>by cases h
 | (t',r')::l,t,r,hc,h=>by
  simp only[NS,Bool.and_eq_true]at hc;simp only[I3]at h;split at h
  · rename_i e;cases h;rw[←e];exact hc.1
  ·exact ZZ hc.2 h
def xN(C:Ctx):Prop:=∀key f,C.F key=some f→sZ C.P f=true
def NP(C:Ctx)(w:World)(G:cc)(H:AH)(K:ae)(a:Act)(dst:Option Tmp):Act→World→Prop:=fun a' w'=>∃v H' G' V,a'=a.put dst V∧K v H'∧VR C.F w' G' v V∧Rel C.F w' G' H'∧Step w G H w' G' H'
section
variable{C:Ctx}{w:World}{G:cc}{H:AH}{env:Env}{a:Act}{o:Oper}{K:ae}{Q:Exit→Act→World→Prop}
theorem MG{V:Value}{w':World}{next:Act→World→Prop}(h:(execOp a.eval o).run C.P w = .ok (.value V) w')(hn:next (a.put o.dst V) w'):o.wp C.P a w next Q:=by unfold Oper.wp;rw[h];exact hn
theorem abC{w':World}{next:Act→World→Prop}(h:(execOp a.eval o).run C.P w = .ok .skip w')(hn:next (a.put o.dst undef) w'):o.wp C.P a w next Q:=by unfold Oper.wp;rw[h];exact hn
theorem DZ:VR C.F w G (.aM []) undef:= .aM [] #[] rfl fun j c V hc _=>by simp at hc
theorem wp_pure{V:Value}{v:AV}(aI:Rel C.F w G H)(h:(execOp a.eval o).run C.P w = .ok (.value V) w)(hv:VR C.F w G v V)(hK:K v H):o.wp C.P a w (NP C w G H K a o.dst) Q:=MG h ⟨v,H,G,V,rfl,hK,hv,aI,Step.refl _ _ _⟩
theorem rQ{v:AV}{H':AH}{r:Result Value}(h:pv C.F w G H v H' r)(hr:(execOp a.eval o).run C.P w=r.andThen fun V w'=> .ok (.value V) w')(hK:K v H'):o.wp C.P a w (NP C w G H K a o.dst) Q:=by obtain⟨V,w',G',rfl,hv,aI,aX⟩:=h;exact MG hr ⟨v,H',G',V,rfl,hK,hv,aI,aX⟩
theorem LO{f:FuncId}{args:Array Value}(h:sZ C.P f=true):(callFunc f args).run C.P w = .ok (.enter f args) w:=by
 unfold sZ at h;split at h
 · rename_i fn hf;simp at h;obtain⟨h1,h2⟩:=h;cases hb:fn.body with
   |none=>simp[hb]at h2
   |some c=>simp[callFunc,hf,h1,hb]
 ·cases h
theorem ams{P:Program}{F:eG}{t:TypeId}{D:TypeDesc}{neg:Bool}{ks:List FK}{x y v:AV}{X Y:Value}{p q:Operand}(ht:P.underlying t=some D)(mR:qc D=true)(hp:xj P 9 t=some ks)
  (hq:P.eqGuardType P.depth t=false) (h:vo neg ks x y=some v) (hx:VR F w G x X) (hy:VR F w G y Y) :
  ∃V,(do eqGuard (if neg then .neq else .eql) t p q X Y;binOp (if neg then .neq else .eql) t X Y:Sem Value).run P w = .ok V w∧VR F w G v V:=by
 unfold vo at h;split at h
 · rename_i xs ys;obtain⟨Xs,rfl,wq⟩:=hx.BF;obtain⟨Ys,rfl,hYs⟩:=hy.BF;cases hb:gP ks xs ys with
   |none=>simp[hb]at h
   | some b=>
    simp only[hb,Option.map_some,Option.some.injEq]at h;subst h;have hr:(Op.equal t (.agg Xs) (.agg Ys)).run P w = .ok b w:=
     (alQ (F:=F) (G:=G) 9 t ks hp 10000 (by omega)).2 D ht mR Xs Ys xs ys b hb (fun j c hj=>by rw[Nat.zero_add];exact wq.get hj) (fun j c hj=>by rw[Nat.zero_add];exact hYs.get hj)
    refine⟨_,?_,.bool _⟩;cases neg
    · have xz:binOp .eql t (.agg Xs) (.agg Ys)=(do pure (.bool (←Op.equal t (.agg Xs) (.agg Ys)))):=rfl;simp[eqGuard,hq,xz,hr]
    · have xz:binOp .neq t (.agg Xs) (.agg Ys)=(do pure (.bool (!(←Op.equal t (.agg Xs) (.agg Ys))))):=rfl;simp[eqGuard,hq,xz,hr]
 ·cases h
end
end Rb

namespace Rb
open Go
section
variable{C:Ctx}{w:World}{G:cc}{H:AH}{env:Env}{a:Act}{o:Oper}{K:ae}{Q:Exit→Act→World→Prop}
theorem yv{P:Program}{t e:TypeId}(h:wP P t=some e):P.underlying t=some (.slice e):=by
 unfold wP at h;split at h
 ·rename_i e' ht;cases h;exact ht
 ·cases h
theorem Zk{P:Program}{t e:TypeId}{n:Nat}(h:LS P t=some (n,e)):P.underlying t=some (.array n e):=by
 unfold LS at h;split at h
 ·rename_i e' ht;cases h;exact ht
 ·cases h
theorem ZM{P:Program}{t:TypeId}{n:Nat}{f:Field}(h:Ec P t n=some f):∃fs,P.underlying t=some (.struct fs)∧fs[n]?=some f:=by
 unfold Ec at h;split at h
 ·rename_i fs ht;exact⟨fs,ht,h⟩
 ·cases h
theorem SA{P:Program}{t:TypeId}{sz:Nat}(h:B5 P t sz=true):∃i,P.info? t=some i∧i.size=sz:=by
 unfold B5 at h;split at h
 ·rename_i i hi;simp at h;exact⟨i,hi,h⟩
 ·cases h
theorem SE{P:Program}{F:eG}{t:TypeId}{sz bytes:Nat}{zero:List AV}(h:PZ P t sz bytes zero=true) :
  ∃i z,P.info? t=some i∧i.size=sz∧i.bytes=bytes∧i.zero=some z∧z.cells.size=sz∧m8 z.cells.toList zero=true:=by
 unfold PZ at h;split at h
 · rename_i i hi;simp only[Bool.and_eq_true,beq_iff_eq]at h;obtain⟨⟨h1,h2⟩,h3⟩:=h;split at h3
   · rename_i z hz;simp only[Bool.and_eq_true,beq_iff_eq]at h3;exact⟨i,z,hi,h1,h2,hz,h3.1,h3.2⟩
   ·cases h3
 ·cases h
theorem oq{α:Type}{l:Array α}{xs:List α}(h:l.toList=xs):l=xs.toArray:=by subst h;simp
theorem anX{α β:Type}{P:Program}{g:α→Sem β}{h:α→β}:∀(l:List α),(∀x∈l,(g x).run P w = .ok (h x) w)→(l.mapM g).run P w = .ok (l.map h) w:=by
 intro l;induction l with
 |nil=>intro _;rfl
 | cons x l ih=>intro hl;have h1:=hl x (by simp);have h2:=ih (fun y hy=>hl y (by simp[hy]));rw[List.mapM_cons];simp only[Sem.run_bind,h1,h2,Result.andThen_ok,Sem.run_pure,List.map_cons]
theorem amo{t:TypeId}{zero:List AV}{inf:TypeInfo}{z:Value}{mh:List (Nat×Nat×AV)}{ps:List (Nat×Value)}{v:AV}(hi:C.P.info? t=some inf)(hz:inf.zero=some z)(Dz:m8 z.cells.toList zero=true)
  (hk:Sm C.P t=true) (hl:mh.length=ps.length) (Ds:∀(j:Nat)(q:Nat×Nat×AV)(p:Nat×Value),mh[j]?=some q→ps[j]?=some p→placeOf C.P t p.1=some (q.1,q.2.1)∧VR C.F w G q.2.2 p.2)
  (h:bJ zero mh=some v):∃V,(Instr.build t ps.toArray).run C.P w = .ok V w∧VR C.F w G v V:=by
 unfold bJ at h;cases hf:qW zero mh with
 |none=>simp[hf]at h
 | some cells=>
  simp[hf]at h;subst h;have nH:=wO (C:=C) (w:=w) (G:=G) Dz;have axr:bo C.F w G zero z.cells:=by simpa using nH
  obtain⟨Cs,zy,hr⟩:=Z6 (place:=placeOf C.P t) mh ps _ _ _ axr hl Ds hf;refine⟨.agg Cs,?_,hr.agg⟩;unfold Sm at hk;split at hk
  · rename_i fs ht;have aw7:∀(l:List Field),(∀f∈l,(C.P.info? f.type).isSome=true)→(l.mapM fun f=>(do pure (f.offset,←Go.sizeOf f.type):Sem (Nat×Nat))).run C.P w = .ok (l.map fun f=>(f.offset,((C.P.info? f.type).map (·.size)).getD 0)) w:=by
     intro l hl;refine anX l fun f hf=>?_;have hf0:=hl f hf;cases A6:C.P.info? f.type with
     |none=>simp[A6]at hf0
     |some fi=>simp[Go.sizeOf,typeInfo,A6]
    have py:∀f∈fs.toList,(C.P.info? f.type).isSome=true:=fun f hf=>by rw[Array.all_eq_true_iff_forall_mem]at hk;exact hk f (by simpa using hf)
    have hm:=aw7 fs.toList py;have U9:∀i,((fs.toList.map fun f=>(f.offset,((C.P.info? f.type).map (·.size)).getD 0)).toArray)[i]?=placeOf C.P t i:=by
     intro i;unfold placeOf;rw[ht];simp only[List.getElem?_toArray,List.getElem?_map,Array.getElem?_toList];cases A6:fs[i]? with
     |none=>rfl
     | some f=>
      have:=py f (by simpa using Array.mem_of_getElem? A6);cases jm:C.P.info? f.type with
      |none=>simp[jm]at this
      |some x=>simp[jm]
    have QM:Instr.fill (fun i=>((fs.toList.map fun f=>(f.offset,((C.P.info? f.type).map (·.size)).getD 0)).toArray)[i]?) z.cells ps=some Cs:=by rw[show(fun i=>((fs.toList.map fun f=>(f.offset,((C.P.info? f.type).map (·.size)).getD 0)).toArray)[i]?)=placeOf C.P t from funext U9];exact zy
    have xy:(fs.mapM fun f=>(do pure (f.offset,←Go.sizeOf f.type):Sem (Nat×Nat))).run C.P w = .ok (fs.toList.map fun f=>(f.offset,((C.P.info? f.type).map (·.size)).getD 0)).toArray w:=by
     have he:fs=fs.toList.toArray:=by simp
     rw[he,List.mapM_toArray];simp only[Sem.run_map,hm,Result.andThen_ok]
    simp only[Instr.build,zeroValue,typeInfo,Sem.run_bind,run_program,Result.andThen_ok,hi,hz,run_underlying ht,xy,Sem.run_pure];simp at QM;simp[QM]
  · rename_i n e ht;cases Ye:C.P.info? e with
    |none=>simp[Ye]at hk
    | some ei=>
     have U9:(fun i=>some (i*ei.size,ei.size))=placeOf C.P t:=by funext i;unfold placeOf;rw[ht];simp[Ye]
     have QM:Instr.fill (fun i=>some (i*ei.size,ei.size)) z.cells ps=some Cs:=by rw[U9];exact zy
     simp[Instr.build,zeroValue,typeInfo,Go.sizeOf,hi,hz,run_underlying ht,Ye,QM]
  ·cases hk
theorem abl(hF : xN C){ao:fw}(ay:eM C o.op ao=true)(Rn:jI C w G H)(aI:Rel C.F w G H)(he:bo C.F w G env a.tmps)(h:dk (au C) env H K ao) :
  o.wp C.P a w (NP C w G H K a o.dst) Q:=by
 have hG:=Rn.1;cases ao with
 | mv x=>
  simp only[eM]at ay;split at ay
  · rename_i y ho;exact wp_pure aI (by simp[execOp,ho]) (dI hG he ay) h
  · rename_i y ho;exact wp_pure aI (by simp[execOp,ho]) (dI hG he ay) h
  ·cases ay
 | pick c x y=>
  simp only[eM]at ay;split at ay
  · rename_i c' x' y' ho;simp only[Bool.and_eq_true]at ay;obtain⟨⟨h1,h2⟩,h3⟩:=ay;obtain⟨t,ht,h⟩:=Uh h;have hc:=dI hG he h1;rw[ht]at hc;have hcb:=hc.qN;cases t with
    |true=>exact wp_pure aI (V:=a.eval x') (by simp[execOp,ho,hcb,asBool]) (dI hG he h2) (by simpa using h)
    |false=>exact wp_pure aI (V:=a.eval y') (by simp[execOp,ho,hcb,asBool]) (dI hG he h3) (by simpa using h)
  ·cases ay
 | bin op x y=>
  simp only[eM]at ay;split at ay
  · rename_i mn t x' y' yt ho;simp only[Bool.and_eq_true,beq_iff_eq]at ay;obtain⟨⟨rfl,h2⟩,h3⟩:=ay;obtain⟨v,hv,hK⟩:=h;have hx:=dI hG he h2;have hy:=dI hG he h3;obtain⟨V,cr,hr⟩:=alz (P:=C.P) (t:=t) hv hx hy;have hg:=Zg (P:=C.P) (w:=w) op t x' y' (a.eval x') (a.eval y')
     (fun cs e=>by rw[e]at hx;generalize x.ev env=xv at hx hv;cases hx<;>simp[ai]at hv)
     (fun e=>by rw[e]at hx;generalize x.ev env=xv at hx hv;cases hx<;>simp[ai]at hv)
    exact wp_pure aI (by simp[execOp,ho,hg,cr]) hr hK
  ·cases ay
 | beq neg x y=>
  simp only[eM]at ay;split at ay
  · rename_i mn t x' y' yt ho;simp only[Bool.and_eq_true,beq_iff_eq]at ay;obtain⟨⟨⟨rfl,h1⟩,h2⟩,h3⟩:=ay;obtain⟨v,hv,hK⟩:=h;have hx:=dI hG he h2;have hy:=dI hG he h3;split at h1
    · rename_i ht;obtain⟨V,cr,hr⟩:=aly (P:=C.P) (t:=t) ht hv hx hy;have hg:=Zg (P:=C.P) (w:=w) (if neg then .neq else .eql) t x' y' (a.eval x') (a.eval y')
       (fun cs e=>by rw[e]at hx;generalize x.ev env=xv at hx hv;cases hx<;>simp[uF]at hv)
       (fun e=>by rw[e]at hx;generalize x.ev env=xv at hx hv;cases hx<;>simp[uF]at hv)
      exact wp_pure aI (by simp[execOp,ho,hg,cr]) hr hK
    ·cases h1
  ·cases ay
 | tf k neg x=>
  simp only[eM]at ay;split at ay
  · rename_i mn t x' y' yt ho;simp only[Bool.and_eq_true,beq_iff_eq]at ay;obtain⟨⟨⟨rfl,h1⟩,h2⟩,h3⟩:=ay;obtain⟨v,hv,hK⟩:=h;have hx:=dI hG he h2;split at h1
    · rename_i d hd;simp only[beq_iff_eq]at h1;split at h3
      · rename_i V0;have X7:V0=k.nil:=by
         split at h3<;>first|rfl|cases h3
        subst X7;obtain⟨V,cr,hr⟩:=alE (P:=C.P) hd h1 hv hx;have hg:(eqGuard (if neg then .neq else .eql) t x' (.const k.nil) (a.eval x') k.nil).run C.P w = .ok () w:=by unfold eqGuard;cases neg<;>cases k<;>cases Dx:a.eval x'<;>simp[NK.nil]
        have hev:a.eval (.const k.nil)=k.nil:=rfl;exact wp_pure aI (by simp[execOp,ho,hev,hg,cr]) hr hK
      ·cases h3
    ·cases h1
  ·cases ay
 | qV neg ks x y=>
  simp only[eM]at ay;split at ay
  · rename_i mn t x' y' yt ho;simp only[Bool.and_eq_true,beq_iff_eq,Bool.not_eq_true']at ay;obtain⟨⟨⟨⟨⟨rfl,h1⟩,h2⟩,h3⟩,h4⟩,h5⟩:=ay;obtain⟨v,hv,hK⟩:=h;split at h1
    · rename_i D ht;obtain⟨V,cr,hr⟩:=ams (P:=C.P) (p:=x') (q:=y') ht h1 h2 h3 hv (dI hG he h4) (dI hG he h5);exact wp_pure aI (by simp only[execOp,ho,Sem.run_bind]at cr ⊢;rw[cr];rfl) hr hK
    ·cases h1
  ·cases ay
 | un op x=>
  simp only[eM]at ay;split at ay
  · rename_i mn t x' ho;simp only[Bool.and_eq_true,beq_iff_eq]at ay;obtain⟨rfl,h2⟩:=ay;obtain⟨v,hv,hK⟩:=h;obtain⟨V,cr,hr⟩:=amm (P:=C.P) hv (dI hG he h2);exact wp_pure aI (by simp[execOp,ho,cr]) hr hK
  ·cases ay
 | conv k x=>
  simp only[eM]at ay;split at ay
  · rename_i s d x' ho;simp only[Bool.and_eq_true]at ay;obtain⟨h1,h2⟩:=ay;obtain⟨v,hv,hK⟩:=h;split at h1
    · rename_i d1 k' hs hd;simp at h1;subst h1;obtain⟨V,cr,hr⟩:=akP (P:=C.P) hs hd hv (dI hG he h2);exact wp_pure aI (by simp[execOp,ho,cr]) hr hK
    ·cases h1
  ·cases ay
 | same x=>
  simp only[eM]at ay;split at ay
  · rename_i s d x' ho;simp only[Bool.and_eq_true]at ay;obtain⟨h1,h2⟩:=ay;obtain⟨v,hv,hK⟩:=h;split at h1
    · rename_i hs hd;obtain⟨V,cr,hr⟩:=akT (P:=C.P) hs hd hv (dI hG he h2);exact wp_pure aI (by simp[execOp,ho,cr]) hr hK
    ·cases h1
  ·cases ay
 | uC x=>
  simp only[eM]at ay;split at ay
  · rename_i x' ho;obtain⟨v,hv,hK⟩:=h;rcases akp hv (dI hG he ay)with⟨⟨ad,hX⟩,hr⟩|⟨⟨f,As,Vs,hX⟩,hr⟩
    ·exact wp_pure aI (by simp[execOp,ho,hX]) hr hK
    ·exact wp_pure aI (by simp[execOp,ho,hX]) hr hK
  ·cases ay
 | field off sz agg x=>
  simp only[eM]at ay;split at ay
  · rename_i t x' n ho;simp only[Bool.and_eq_true]at ay;obtain⟨h1,h2⟩:=ay;obtain⟨v,hv,hK⟩:=h;split at h1
    · rename_i f hf;simp only[Bool.and_eq_true,beq_iff_eq]at h1;obtain⟨fs,ht,mX⟩:=ZM hf;obtain⟨V,cr,hr⟩:=akl (P:=C.P) ht mX h1.1 h1.2 hv (dI hG he h2);exact wp_pure aI (by simp[execOp,ho,cr]) hr hK
    ·cases h1
  ·cases ay
 | idx len sz agg x i=>
  simp only[eM]at ay;split at ay
  · rename_i t x' i' ho;simp only[Bool.and_eq_true]at ay;obtain⟨⟨h1,h2⟩,h3⟩:=ay;obtain⟨v,hv,hK⟩:=h;split at h1
    · rename_i n e hn;simp only[Bool.and_eq_true,beq_iff_eq]at h1;obtain⟨rfl,pX⟩:=h1;obtain⟨V,cr,hr⟩:=alC (P:=C.P) (Zk hn) pX hv (dI hG he h2) (dI hG he h3);exact wp_pure aI (by simp[execOp,ho,cr]) hr hK
    ·cases h1
  ·cases ay
 | idxs x i=>
  simp only[eM]at ay;split at ay
  · rename_i t x' i' ho;simp only[Bool.and_eq_true]at ay;obtain⟨⟨h1,h2⟩,h3⟩:=ay;obtain⟨v,hv,hK⟩:=h;split at h1
    · rename_i ht;obtain⟨V,cr,hr⟩:=akR (P:=C.P) ht hv (dI hG he h2) (dI hG he h3);exact wp_pure aI (by simp[execOp,ho,cr]) hr hK
    ·cases h1
  ·cases ay
 | uz off x=>
  simp only[eM]at ay;split at ay
  · rename_i t x' n ho;simp only[Bool.and_eq_true]at ay;obtain⟨h1,h2⟩:=ay;obtain⟨v,hv,hK⟩:=h;split at h1
    · rename_i f hf;simp only[Bool.and_eq_true,beq_iff_eq]at h1;obtain⟨rfl,h1⟩:=h1;obtain⟨fs,ht,mX⟩:=ZM hf;split at h1
      · rename_i fi A6;obtain⟨V,cr,hr⟩:=akk (P:=C.P) ht mX rfl A6 (by simpa using h1) hv (dI hG he h2);exact wp_pure aI (by simp[execOp,ho,cr]) hr hK
      ·cases h1
    ·cases h1
  ·cases ay
 | td arr sz x i=>
  simp only[eM]at ay;split at ay
  · rename_i t x' i' ho;simp only[Bool.and_eq_true]at ay;obtain⟨⟨h1,h2⟩,h3⟩:=ay;obtain⟨v,hv,hK⟩:=h;have key:∃e inf,(match arr with|none=>C.P.underlying t=some (.slice e)|some n=>C.P.underlying t=some (.array n e))∧C.P.info? e=some inf∧inf.size=sz:=by
     split at h1
     · split at h1
       · rename_i e fA;obtain⟨inf,hi,hs⟩:=SA h1;exact⟨e,inf,yv fA,hi,hs⟩
       ·cases h1
     · split at h1
       · rename_i n' e fA;simp only[Bool.and_eq_true,beq_iff_eq]at h1;obtain⟨rfl,h1⟩:=h1;obtain⟨inf,hi,hs⟩:=SA h1;exact⟨e,inf,Zk fA,hi,hs⟩
       ·cases h1
    obtain⟨e,inf,ht,hi,hs⟩:=key;obtain⟨V,cr,hr⟩:=akm (P:=C.P) ht hi hs hv (dI hG he h2) (dI hG he h3);exact wp_pure aI (by simp[execOp,ho,cr]) hr hK
  ·cases ay
 | slice sz x lo hi mx=>
  simp only[eM]at ay;split at ay
  · rename_i t x' Lu ig GM ho;simp only[Bool.and_eq_true]at ay;obtain⟨⟨⟨⟨⟨h1,h2⟩,h3⟩,h4⟩,h5⟩,h6⟩:=ay;obtain⟨v,hv,hK⟩:=h;split at h1
    · rename_i e fA;obtain⟨inf,jm,hs⟩:=SA h1;obtain⟨V,cr,hr⟩:=akq (P:=C.P) (yv fA) jm hs (fun hm=>by cases mx<;>cases hi<;>simp at h6 hm ⊢) hv (dI hG he h2) (Hl hG he h3) (Hl hG he h4) (Hl hG he h5);exact wp_pure aI (by simp[execOp,ho,cr]) hr hK
    ·cases h1
  ·cases ay
 | uy x lo hi=>
  simp only[eM]at ay;split at ay
  · rename_i t x' Lu ig GM ho;simp only[Bool.and_eq_true]at ay;obtain⟨⟨⟨⟨h1,h2⟩,h3⟩,h4⟩,h5⟩:=ay;obtain⟨v,hv,hK⟩:=h;cases GM with
    |some _=>simp at h5
    |none=>
    split at h1
    · rename_i ht;obtain⟨V,cr,hr⟩:=aj8 (P:=C.P) ht hv (dI hG he h2) (Hl hG he h3) (Hl hG he h4);exact wp_pure aI (by simp[execOp,ho,cr]) hr hK
    ·cases h1
  ·cases ay
 | pD t x=>
  simp only[eM]at ay;split at ay
  · rename_i t' x' ho;simp only[Bool.and_eq_true,beq_iff_eq]at ay;obtain⟨⟨rfl,h1⟩,h2⟩:=ay;refine wp_pure aI (V:= .iface t (a.eval x')) ?_ (.iface _ _ _ (dI hG he h2)) h;split at h1
    ·cases h1
    · rename_i d bU hd;have:(Instr.makeInterface t (a.eval x')).run C.P w = .ok (.iface t (a.eval x')) w:=by
       simp only[Instr.makeInterface,Sem.run_bind,run_underlying hd,Result.andThen_ok];cases d<;>first|rfl|(exact absurd rfl (bU _))
      simp[execOp,ho,this]
    ·cases h1
  ·cases ay
 | oG key cA=>
  simp only[eM]at ay;split at ay
  · rename_i f first Cb ho
    cases hb:ny key with
    | none=>
     simp only[hb,Bool.and_eq_true,beq_iff_eq]at ay;obtain⟨⟨h1,h2⟩,h3⟩:=ay;have hz:first = #[]:=by simpa using h2
     subst hz;have hc:=Br hG he h3;refine wp_pure aI (V:= .func (.func f) #[] (Cb.map a.eval)) (by simp[execOp,ho,Instr.makeFunc]) ?_ h;have hm:(List.map a.eval Cb.toList).toArray=Cb.map a.eval:=by apply Array.ext';simp
     rw[hm]at hc;exact .fn key _ f _ hb h1 hc.1 hc.2
    | some k=>
     simp only[hb,Bool.and_eq_true,beq_iff_eq]at ay;obtain⟨⟨h1,h2⟩,h3⟩:=ay;have hz:Cb = #[]:=by simpa using h2
     subst hz;have hc:=Br hG he h3;refine wp_pure aI (V:= .func (.func f) (first.map a.eval) #[]) (by simp[execOp,ho,Instr.makeFunc]) ?_ h;have hm:(List.map a.eval first.toList).toArray=first.map a.eval:=by apply Array.ext';simp
     rw[hm]at hc;exact .zr key k _ f _ hb h1 hc.1 hc.2
  ·cases ay
 | extract i x=>
  simp only[eM]at ay;split at ay
  · rename_i x' i' ho;simp only[Bool.and_eq_true,beq_iff_eq]at ay;obtain⟨rfl,h2⟩:=ay;obtain⟨v,hv,hK⟩:=h;obtain⟨V,cr,hr⟩:=ajU (P:=C.P) hv (dI hG he h2);exact wp_pure aI (by simp[execOp,ho,cr]) hr hK
  ·cases ay
 | build zero parts=>
  simp only[eM]at ay;split at ay
  · rename_i t ps ho;simp only[Bool.and_eq_true]at ay;obtain⟨⟨h1,h2⟩,h3⟩:=ay;obtain⟨v,hv,hK⟩:=h;split at h1
    · rename_i inf jm;split at h1
      · rename_i z hz;obtain⟨hl,Ds⟩:=Zo hG he h3;obtain⟨V,cr,hr⟩:=amo jm hz h1 h2 hl Ds hv;refine wp_pure aI (V:=V) ?_ hr hK;have hm:(ps.map fun(x:Nat×Operand)=>(x.1,a.eval x.2))=(ps.toList.map fun x=>(x.1,a.eval x.2)).toArray:=by apply Array.ext';simp
        simp only[execOp,ho,hm,Sem.run_bind,cr,Result.andThen_ok,Sem.run_pure]
      ·cases h1
    ·cases h1
  ·cases ay
 | len str x=>
  simp only[eM]at ay;split at ay
  · rename_i args argTypes ho;split at ay
    · rename_i x' t eU pA;simp only[Bool.and_eq_true]at ay;obtain⟨h1,h2⟩:=ay;obtain⟨v,hv,hK⟩:=h;obtain rfl:=oq eU;obtain rfl:=oq pA;have key:∃d,C.P.underlying t=some d∧(if str then d = .string else ∃e,d = .slice e):=by
       split at h2
       ·rename_i ht;exact⟨_,ht,by simp[h2]⟩
       ·rename_i e ht;exact⟨_,ht,by simp at h2;simp[h2]⟩
       ·cases h2
      obtain⟨d,hd,hk⟩:=key;obtain⟨V,cr,hr⟩:=alD (P:=C.P) (ty:=o.type) hd hk hv (dI hG he h1);exact wp_pure aI (by simp[execOp,ho,resolve,invoke,builtin,cr]) hr hK
    ·cases ay
  ·cases ay
 | cap x =>
  simp only[eM]at ay;split at ay
  · rename_i args argTypes ho;split at ay
    · rename_i x' t eU pA;simp only[Bool.and_eq_true]at ay;obtain⟨h1,h2⟩:=ay;obtain⟨v,hv,hK⟩:=h;obtain rfl:=oq eU;obtain rfl:=oq pA;split at h2
      · rename_i e ht;have sG:=dI hG he h1;generalize x.ev env=y at hv sG;generalize hX:a.eval x'=X at sG;unfold Cu at hv;split at hv
        · cases hv;cases sG with
          |lr=>exact wp_pure aI (by simp[execOp,ho,resolve,invoke,builtin,hX,Builtin.cap_,run_underlying ht,goInt]) (.int _ _) hK
          |aq _ _ _ b o' cap Vs gD hle h hv=>exact gD.elim
        ·cases hv
      ·cases h2
    ·cases ay
  ·cases ay
 | pC n =>
  simp only[eM]at ay;split at ay
  · rename_i args argTypes ho;split at ay
    · rename_i x' t eU pA;obtain rfl:=oq eU;obtain rfl:=oq pA;split at ay
      · rename_i n' e ht;simp at ay;subst ay;refine wp_pure aI (V:= .int .i64 n) ?_ (.int _ _) h;simp[execOp,ho,resolve,invoke,builtin,Builtin.len_,run_underlying ht,goInt]
      ·cases ay
    ·cases ay
  ·cases ay
 | pe mx xs=>
  simp only[eM]at ay;split at ay
  · rename_i b args mY ho;simp only[Bool.and_eq_true]at ay;obtain⟨h1,h2⟩:=ay;obtain⟨v,hv,hK⟩:=h;have hc:=Br hG he h2;unfold oY at hv;split at hv
    · rename_i k n r hxs;rw[hxs]at hc;have bU:∃X Xs,args.toList.map a.eval=X::Xs:=by
       cases hl:args.toList.map a.eval with
       |nil=>rw[hl]at hc;have:=hc.1;simp at this
       |cons X Xs=>exact⟨X,Xs,rfl⟩
      obtain⟨X,Xs,wq⟩:=bU;rw[wq]at hc;have hX:=hc.2 0 _ X rfl (by simp);obtain⟨V,cr,hr⟩:=alb (P:=C.P) r Xs _ v X hv hX (by have:=hc.1;simp at this;omega) fun j c U hj hU=>hc.2 (j+1) c U (by simpa using hj) (by simpa using hU);refine wp_pure aI (V:=V) ?_ hr hK;have hm:(args.map a.eval).toList=X::Xs:=by simpa using wq
      split at h1
      · subst h1;simp only[if_true]at cr;simp[execOp,ho,resolve,invoke,builtin,Builtin.max_,wq,cr]
      · simp at h1;subst h1;simp only[Bool.false_eq_true,if_false]at cr;simp[execOp,ho,resolve,invoke,builtin,Builtin.min_,wq,cr]
      ·cases h1
    ·cases hv
  ·cases ay
 | load n agg x=>
  simp only[eM]at ay;split at ay
  · rename_i t x' ho;simp only[Bool.and_eq_true]at ay;obtain⟨v,hv,hK⟩:=h;obtain⟨V,cr,hr⟩:=Sj (P:=C.P) ay.1 aI hv (dI hG he ay.2);exact wp_pure aI (by simp[execOp,ho,cr]) hr hK
  ·cases ay
 | store n x v=>
  simp only[eM]at ay;split at ay
  · rename_i t x' v' ho;simp only[Bool.and_eq_true,Bool.or_eq_true]at ay;obtain⟨⟨h1,h2⟩,h3⟩:=ay;obtain⟨H',hv,hK⟩:=h;have key:∃agg,qy C.P t n agg=true:=by rcases h1 with h1|h1<;>exact⟨_,h1⟩
    obtain⟨agg,pX⟩:=key;obtain⟨w',cr,hr,aX⟩:=aks (P:=C.P) pX aI hv (dI hG he h2) (dI hG he h3);exact abC (by simp[execOp,ho,cr]) ⟨_,H',G,undef,rfl,hK,DZ,hr,aX⟩
  ·cases ay
 | box mu n x=>
  simp only[eM]at ay;split at ay
  · rename_i t x' ho;obtain⟨v,H',hv,hK⟩:=h;have hg:=akN (P:=C.P) (t:=t) aI hv (dI hG he ay);exact rQ hg (by simp[execOp,ho]) hK
  ·cases ay
 | alloc mu zero=>
  simp only[eM]at ay;split at ay
  · rename_i t ho;obtain⟨v,H',hv,hK⟩:=h;split at ay
    · rename_i inf jm;split at ay
      · rename_i z hz;have nH:=wO (C:=C) (w:=w) (G:=G) ay;have hg:=aki (P:=C.P) (t:=t) (mu:=mu) aI jm hz (by simpa using nH);have e:=Option.some.inj hv;rw[e]at hg;exact rQ hg (by simp[execOp,ho]) hK
      ·cases ay
    ·cases ay
  ·cases ay
 | ov mu sz len zero parts=>
  simp only[eM]at ay;split at ay
  · rename_i t JS ps ho;obtain⟨v,H',hv,hK⟩:=h;split at ay
    · rename_i e fA;simp only[Bool.and_eq_true,beq_iff_eq,decide_eq_true_eq]at ay;obtain⟨⟨⟨⟨h1,h2⟩,rfl⟩,h4⟩,h5⟩:=ay;split at h1
      · rename_i aCW aCA;obtain⟨inf,z,jm,hs,hb,hz,sH,Dz⟩:=SE (F:=C.F) h1;have nH:=wO (C:=C) (w:=w) (G:=G) Dz;obtain⟨hl,Ds⟩:=Zo hG he h5;have hg:=aj1 (P:=C.P) aI (yv fA) jm hs hz (by simpa using nH) h2 h4 hl (fun j q p hq hp=>by
          obtain⟨e1,e2⟩:=Ds j q p hq hp;exact⟨Option.some.inj e1,e2⟩) hv
        have hm:(ps.map fun(x:Nat×Operand)=>(x.1,a.eval x.2))=(ps.toList.map fun x=>(x.1,a.eval x.2)).toArray:=by apply Array.ext';simp
        exact rQ hg (by simp only[execOp,ho,hm,Sem.run_bind,Sem.run_pure]) hK
      ·cases h1
    ·cases ay
  ·cases ay
 | append mu sz bytes x y=>
  simp only[eM]at ay;split at ay
  · rename_i args argTypes ho;split at ay
    · rename_i x' y' t t' eU pA;simp only[Bool.and_eq_true,beq_iff_eq]at ay;obtain⟨⟨⟨rfl,h1⟩,h2⟩,h3⟩:=ay;obtain⟨v,H',hv,hK⟩:=h;obtain rfl:=oq eU;obtain rfl:=oq pA;split at h3
      · rename_i e fA;split at h3
        · rename_i inf jm;simp only[Bool.and_eq_true,beq_iff_eq,decide_eq_true_eq]at h3;obtain⟨⟨⟨hs,hb⟩,hz⟩,gN⟩:=h3;split at hz
          · rename_i z mE;have hg:=aj0 (P:=C.P) (ty:=o.type) aI (yv fA) jm hs hb mE (by simpa using hz) gN hv (dI hG he h1) (dI hG he h2);exact rQ hg (by simp[execOp,ho,resolve,invoke,builtin]) hK
          ·cases hz
        ·cases h3
      ·cases h3
    ·cases ay
  ·cases ay
 | make mu sz bytes zero len cap=>
  simp only[eM]at ay;split at ay
  · rename_i t l c ho;simp only[Bool.and_eq_true]at ay;obtain⟨⟨h1,h2⟩,h3⟩:=ay;obtain⟨v,H',hv,hK⟩:=h;split at h3
    · rename_i e fA;obtain⟨inf,z,jm,hs,hb,hz,sH,Dz⟩:=SE (F:=C.F) h3;have nH:=wO (C:=C) (w:=w) (G:=G) Dz;have hg:=akS (P:=C.P) aI (yv fA) jm hs hb hz (by simpa using nH) hv (dI hG he h1) (dI hG he h2);exact rQ hg (by simp[execOp,ho]) hK
    ·cases h3
  ·cases ay
 | call key args=>
  simp only[eM]at ay;split at ay
  · rename_i f lY mY ho;simp only[Bool.and_eq_true,beq_iff_eq]at ay;obtain⟨⟨h1,h2⟩,h3⟩:=ay;have hc:=h.2 f h1 G w _ Rn aI (Br hG he h3);have hm:(lY.toList.map a.eval).toArray=lY.map a.eval:=by apply Array.ext';simp
    rw[hm]at hc;have cr:(execOp a.eval o).run C.P w = .ok (.enter f (lY.map a.eval)) w:=by simp[execOp,ho,resolve,Act.eval,Deferred.ofValue,invoke,LO h2]
    unfold Oper.wp;rw[cr];refine Calls.mono hc fun e w' fj=>?_;obtain⟨V,v,H',G',rfl,hQ,hv,hr,aX⟩:=fj;exact⟨v,H',G',V,rfl,hQ,hv,hr,aX⟩
  ·cases ay
 | qg f args=>
  simp only[eM]at ay;split at ay
  · rename_i f' lY mY ho;simp only[Bool.and_eq_true]at ay;obtain⟨h1,h3⟩:=ay;obtain⟨key,cA,hf,h⟩:=h;have KP:=dI hG he h1;rw[hf]at KP;have axR:(∃iq Vs,a.eval f' = .func (.func iq) #[] Vs∧ny key=none∧C.F key=some iq∧bo C.F w G cA Vs)∨∃k iq Vs,a.eval f' = .func (.func iq) Vs #[]∧ny key=some k∧C.F k=some iq∧bo C.F w G cA Vs:=by
     generalize a.eval f'=X at KP;cases KP with
     |fn _ _ iq Vs hk KH hl hv=>exact .inl ⟨iq,Vs,rfl,hk,KH,hl,hv⟩
     |zr _ k _ iq Vs hk KH hl hv=>exact .inr ⟨k,iq,Vs,rfl,hk,KH,hl,hv⟩
    have hm:(lY.toList.map a.eval).toArray=lY.map a.eval:=by apply Array.ext';simp
    obtain ⟨iq,As,vI,eU,cr⟩:∃iq As,C.F (uI key)=some iq∧bo C.F w G (uA key (iS env args) cA) As∧(execOp a.eval o).run C.P w = .ok (.enter iq As) w:=by
     rcases axR with⟨iq,Vs,hX,hk,vI,pM⟩|⟨k,iq,Vs,hX,hk,vI,pM⟩
     · rw[SM hk,Sr hk];have eU:=(Br hG he h3).app pM;rw[hm]at eU;refine⟨iq,lY.map a.eval++Vs,vI,eU,?_⟩;simp[execOp,ho,resolve,hX,Deferred.ofValue,invoke,LO (hF key iq vI)]
     · rw[amz hk,alS hk];have eU:=pM.app (Br hG he h3);rw[hm]at eU;refine⟨iq,Vs++lY.map a.eval,vI,eU,?_⟩;simp[execOp,ho,resolve,hX,Deferred.ofValue,invoke,LO (hF _ iq vI)]
    have hc:=h.2 iq vI G w _ Rn aI eU;unfold Oper.wp;rw[cr];refine Calls.mono hc fun e w' fj=>?_;obtain⟨V,v,H',G',rfl,hQ,hv,hr,aX⟩:=fj;exact⟨v,H',G',V,rfl,hQ,hv,hr,aX⟩
  ·cases ay
 | ext e xs =>
  simp only[eM]at ay;obtain⟨v,H',hv,hK⟩:=h;cases e with
  |stuck=>simp[jH]at hv
  | Ef t =>
   simp only[El]at ay;split at ay
   · rename_i x' xT t' ok x ho;simp only[Bool.and_eq_true,beq_iff_eq,Bool.not_eq_true']at ay;obtain⟨⟨⟨rfl,rfl⟩,hD⟩,hx⟩:=ay;have sG:=dI hG he hx;simp only[iS,List.map_cons,List.map_nil]at hv;generalize x.ev env=y at hv sG;cases y<;>try (simp[jH]at hv;done)
     rename_i t'' u;simp only[jH]at hv;split at hv
     · rename_i ht;subst ht;simp only[Option.some.injEq,Prod.mk.injEq]at hv;obtain⟨rfl,rfl⟩:=hv;generalize hX:a.eval x'=X at sG;cases sG with
       | iface _ _ V h1=>
        split at hD
        · rename_i d hd;exact wp_pure aI (by simp[execOp,ho,hX,alj hd hD]) h1 hK
        ·cases hD
     ·cases hv
   ·cases ay
  | vD t0 =>
   simp only[El]at ay;split at ay
   · rename_i t ho;simp only[Bool.and_eq_true,beq_iff_eq]at ay;obtain⟨rfl,hD⟩:=ay;split at hD
     · rename_i inf jm;split at hD
       · rename_i z hz;simp only[iS,List.map_nil]at hv;simp only[jH,Option.some.injEq,Prod.mk.injEq]at hv;obtain⟨rfl,rfl⟩:=hv;have hc:z.cells = #[.pointer none,.slice none 0 0]:=aj9 hD;have hg:=akM (P:=C.P) (t:=t) aI jm hz hc;exact rQ hg (by simp[execOp,ho]) hK
       ·cases hD
     ·cases hD
   · rename_i t x' x ho;simp only[Bool.and_eq_true,beq_iff_eq]at ay;obtain⟨rfl,hx⟩:=ay;have sG:=dI hG he hx;simp only[iS,List.map_cons,List.map_nil]at hv;generalize x.ev env=y at hv sG;have hy:y = .agg [.jX,.aq .nil 0 []]∧v = .ptr H.n 0∧H'=H.push (.nB t false none):=by
      unfold jH at hv;split at hv<;>simp_all
     obtain⟨rfl,rfl,rfl⟩:=hy;have hg:=akj (P:=C.P) (t:=t) aI sG;exact rQ hg (by simp[execOp,ho]) hK
   ·cases ay
  | Au neg=>
   simp only[El]at ay;split at ay
   · rename_i mn t x' y' yt x y ho;simp only[Bool.and_eq_true,beq_iff_eq]at ay;obtain⟨⟨⟨rfl,hD⟩,h1⟩,h2⟩:=ay;split at hD
     · rename_i e ht;split at hD
       · rename_i j hj;simp only[iS,List.map_cons,List.map_nil]at hv;obtain⟨V,cr,hr,rfl⟩:=alB (P:=C.P) (p:=x') (q:=y') aI ht hj (by simpa using hD) hv (dI hG he h1) (dI hG he h2);exact wp_pure aI (by simp only[execOp,ho,Sem.run_bind]at cr ⊢;rw[cr];rfl) hr hK
       ·cases hD
     ·cases hD
   ·cases ay
  | grow sz bytes zero=>
   simp only[El]at ay;split at ay
   · rename_i args argTypes x y ho;split at ay
     · rename_i x' y' t it eU pA;simp only[Bool.and_eq_true]at ay;obtain⟨⟨⟨h1,h2⟩,hk⟩,h3⟩:=ay;obtain rfl:=oq eU;obtain rfl:=oq pA;split at hk
       · rename_i k hit;split at h3
         · rename_i e fA;split at h3
           · rename_i inf jm;simp only[Bool.and_eq_true,beq_iff_eq]at h3;obtain⟨⟨hs,hb⟩,h3⟩:=h3;split at h3
             · rename_i z hz;simp only[iS,List.map_cons,List.map_nil]at hv;have hg:=aml (P:=C.P) (ty:=o.type) aI (yv fA) hit jm hs hb hz (by simpa using wO (C:=C) (w:=w) (G:=G) h3) hv (dI hG he h1) (dI hG he h2);exact rQ hg (by simp[execOp,ho,resolve,invoke,builtin]) hK
             ·cases h3
           ·cases h3
         ·cases h3
       ·cases hk
     ·cases ay
   ·cases ay
  | clear sz zero=>
   simp only[El]at ay;split at ay
   · rename_i args argTypes x ho;split at ay
     · rename_i x' t eU pA;simp only[Bool.and_eq_true]at ay;obtain⟨h1,h3⟩:=ay;obtain rfl:=oq eU;obtain rfl:=oq pA;split at h3
       · rename_i e fA;split at h3
         · rename_i inf jm;split at h3
           · rename_i z hz;simp only[Bool.and_eq_true,beq_iff_eq]at h3;simp only[iS,List.map_cons,List.map_nil]at hv;have hg:=alA (P:=C.P) (ty:=o.type) aI (yv fA) jm hz (by simpa using wO (C:=C) (w:=w) (G:=G) h3.2) hv (dI hG he h1);exact rQ hg (by simp[execOp,ho,resolve,invoke,builtin]) hK
           ·cases h3
         ·cases h3
       ·cases h3
     ·cases ay
   ·cases ay
 | inv p9 x args=>
  simp only[eM]at ay;split at ay
  · rename_i x' name lY mY ho;simp only[Bool.and_eq_true]at ay;obtain⟨⟨h1,h2⟩,h3⟩:=ay;obtain⟨t,v,r,u,hx,hr,hu,h⟩:=h;have sG:=dI hG he h1;rw[hx]at sG;obtain ⟨V,hX,hV⟩:∃V,a.eval x' = .iface t V∧VR C.F w G v V:=by
     generalize a.eval x'=X at sG;cases sG with
     |iface _ _ V h=>exact⟨V,rfl,h⟩
    obtain⟨f,U,vI,I7,cr,hU⟩:=amK aI (ZZ h3 hr) hV hu;have eU:=(bo.one hU).app (Br hG he h2);have hm:(lY.toList.map a.eval).toArray=lY.map a.eval:=by apply Array.ext';simp
    rw[hm]at eU;have hc:=h.2 f vI G w _ Rn aI eU;have avu:(execOp a.eval o).run C.P w = .ok (.enter f (#[U]++lY.map a.eval)) w:=by
     have h0:(#[Value.iface t V]++lY.map a.eval)[0]?=some (.iface t V):=by simp[Array.getElem?_append]
     have Be:(lY.map a.eval).extract 0 lY.size=lY.map a.eval:=by have:=Array.extract_size (xs:=lY.map a.eval);rwa [Array.size_map]at this
     simp[execOp,ho,resolve,hX,invoke,callMethod,h0,Be,cr,LO I7]
    unfold Oper.wp;rw[avu];refine Calls.mono hc fun e w' fj=>?_;obtain⟨V,v,H',G',rfl,hQ,hv,hr,aX⟩:=fj;exact⟨v,H',G',V,rfl,hQ,hv,hr,aX⟩
  ·cases ay
 | ux x =>
  simp only[eM]at ay;split at ay
  · rename_i s d x' ho;simp only[Bool.and_eq_true]at ay;obtain⟨h1,h2⟩:=ay;obtain⟨v,hv,hK⟩:=h;split at h1
    · rename_i e hs hd;split at h1
      · rename_i Yc;have hg:=aj5 (P:=C.P) aI hs hd Yc hv (dI hG he h2);exact rQ hg (by simp[execOp,ho]) hK
      ·cases h1
    ·cases h1
  ·cases ay
 | pw x =>
  simp only[eM]at ay;split at ay
  · rename_i s d x' ho;simp only[Bool.and_eq_true]at ay;obtain⟨h1,h2⟩:=ay;obtain⟨v,hv,hK⟩:=h;split at h1
    · rename_i e hs hd;split at h1
      · rename_i Yc;obtain⟨V,hr,hV⟩:=akO (P:=C.P) aI hs Yc hd hv (dI hG he h2);exact wp_pure aI (by simp[execOp,ho,hr]) hV hK
      ·cases h1
    ·cases h1
  ·cases ay
 | qe x=>
  simp only[eM]at ay;split at ay
  · rename_i t x' ho;simp only[Bool.and_eq_true]at ay;obtain⟨h1,h2⟩:=ay;obtain⟨v,H',hv,hK⟩:=h;split at h1
    · rename_i ht;have hg:=aj7 (P:=C.P) aI ht hv (dI hG he h2);exact rQ hg (by simp[execOp,ho]) hK
    ·cases h1
  ·cases ay
 | ql x=>
  simp only[eM]at ay;split at ay
  · rename_i x' ho;obtain⟨v,H',hv,hK⟩:=h;have hg:=akr (P:=C.P) (t:=o.type) aI hv (dI hG he ay);exact rQ hg (by simp[execOp,ho]) hK
  ·cases ay
 | copy sz x y=>
  simp only[eM]at ay;split at ay
  · rename_i args argTypes ho;split at ay
    · rename_i x' y' t t' eU pA;simp only[Bool.and_eq_true]at ay;obtain⟨⟨h1,h2⟩,h3⟩:=ay;obtain⟨v,H',hv,hK⟩:=h;obtain rfl:=oq eU;obtain rfl:=oq pA;split at h3
      · rename_i e fA;unfold B5 at h3;split at h3
        · rename_i inf jm;have hg:=akQ (P:=C.P) (ty:=o.type) (t2:=t') aI (yv fA) jm (by simpa using h3) hv (dI hG he h1) (dI hG he h2);exact rQ hg (by simp[execOp,ho,resolve,invoke,builtin]) hK
        ·cases h3
      ·cases h3
    ·cases ay
  ·cases ay
 | oC=>
  simp only[eM]at ay;split at ay
  · rename_i t r ho;have hr:r=none:=by simpa using ay
    subst hr;have hg:=ako (P:=C.P) (t:=t) aI;exact rQ hg (by simp[execOp,ho]) h
  ·cases ay
 | lookup kk zero ok m k=>
  simp only[eM]at ay;split at ay
  · rename_i t m' k' ok' ho;simp only[Bool.and_eq_true,beq_iff_eq]at ay;obtain⟨⟨⟨rfl,h1⟩,h2⟩,h3⟩:=ay;obtain⟨v,hv,hK⟩:=h;split at h1
    · rename_i kt et ht;simp only[Bool.and_eq_true]at h1;obtain⟨hk,hz⟩:=h1;split at hz
      · rename_i inf jm;split at hz
        · rename_i z Yz;obtain⟨V,hr,hV⟩:=aj3 (P:=C.P) aI ht hk jm Yz (Zu hz) hv (dI hG he h2) (dI hG he h3);exact wp_pure aI (by simp[execOp,ho,hr]) hV hK
        ·cases hz
      ·cases hz
    ·cases h1
  ·cases ay
 | pq kk m k v=>
  simp only[eM]at ay;obtain⟨H',hv,hK⟩:=h;have fin:∀(t:TypeId)(m' k' v':Operand),(execOp a.eval o=(do Instr.mapUpdate t (a.eval m') (a.eval k') (a.eval v');pure Next.skip))→(match C.P.underlying t with|some (.map kt _)=>wX C.P kt kk|_=>false)&&dA C m' m&&dA C k' k&&dA C v' v→o.wp C.P a w (NP C w G H K a o.dst) Q:=by
   intro t m' k' v' hex hc;simp only[Bool.and_eq_true]at hc;obtain⟨⟨⟨h1,h2⟩,h3⟩,h4⟩:=hc;split at h1
   · rename_i kt et ht;obtain⟨w',cr,hr,aX⟩:=akn (P:=C.P) aI ht h1 hv (dI hG he h2) (dI hG he h3) (dI hG he h4);exact abC (by rw[hex];simp[cr]) ⟨_,H',G,undef,rfl,hK,DZ,hr,aX⟩
   ·cases h1
  split at ay
  · rename_i t m' k' v' ho;exact fin t m' k' v' (by simp only[execOp,ho]) ay
  · rename_i t m' k' v' ho;exact fin t m' k' v' (by simp only[execOp,ho]) ay
  ·cases ay
 | delete kk m k=>
  simp only[eM]at ay;split at ay
  · rename_i args argTypes ho;split at ay
    · rename_i m' k' t t' eU pA;simp only[Bool.and_eq_true]at ay;obtain⟨⟨h1,h2⟩,h3⟩:=ay;obtain⟨H',hv,hK⟩:=h;obtain rfl:=oq eU;obtain rfl:=oq pA;split at h3
      · rename_i kt et ht;obtain⟨w',cr,hr,aX⟩:=aj2 (P:=C.P) (t':=t') (ty:=o.type) aI ht h3 hv (dI hG he h1) (dI hG he h2);refine MG (V:= .tuple #[]) (by simp[execOp,ho,resolve,invoke,builtin,cr]) ⟨_,H',G,_,rfl,hK,DZ,hr,aX⟩
      ·cases h3
    ·cases ay
  ·cases ay
 | pd m =>
  simp only[eM]at ay;split at ay
  · rename_i args argTypes ho;split at ay
    · rename_i m' t eU pA;simp only[Bool.and_eq_true]at ay;obtain⟨h1,h2⟩:=ay;obtain⟨v,hv,hK⟩:=h;obtain rfl:=oq eU;obtain rfl:=oq pA;split at h2
      · rename_i kt et ht;obtain⟨V,cr,hV⟩:=aj4 (P:=C.P) (ty:=o.type) aI ht hv (dI hG he h1);exact wp_pure aI (by simp[execOp,ho,resolve,invoke,builtin,cr]) hV hK
      ·cases h2
    ·cases ay
  ·cases ay
end
end Rb

namespace Rb
open Go
def bn.eA:bn→List Nat
 | .t n=>[n]
 | .k _=>[]
def EM:Option bn→List Nat
 |some x=>x.eA
 |none=>[]
def yG(xs:List bn):List Nat:=xs.flatMap bn.eA
def II(xs:List (Nat×Nat×bn)):List Nat:=xs.flatMap fun p=>p.2.2.eA
def dh:fw→List Nat
 | .mv  x=>(x.eA)
 | .pick  c x y=>(c.eA)++(x.eA)++(y.eA)
 | .bin _ x y=>(x.eA)++(y.eA)
 | .beq _ x y=>(x.eA)++(y.eA)
 | .tf _ _ x=>(x.eA)
 | .qV _ _ x y=>(x.eA)++(y.eA)
 | .un _ x=>(x.eA)
 | .conv _ x=>(x.eA)
 | .same  x=>(x.eA)
 | .uC  x=>(x.eA)
 | .field _ _ _ x=>(x.eA)
 | .idx _ _ _ x i=>(x.eA)++(i.eA)
 | .idxs  x i=>(x.eA)++(i.eA)
 | .uz _ x=>(x.eA)
 | .td _ _ x i=>(x.eA)++(i.eA)
 | .slice _ x lo hi mx=>(x.eA)++(EM lo)++(EM hi)++(EM mx)
 | .uy  x lo hi=>(x.eA)++(EM lo)++(EM hi)
 | .pD _ x=>(x.eA)
 | .oG _ cA=>(yG cA)
 | .extract _ x=>(x.eA)
 | .build _ parts=>(II parts)
 | .len _ x=>(x.eA)
 | .pC _  =>[]
 | .cap x=>x.eA
 | .pe _ xs=>(yG xs)
 | .load _ _ x=>(x.eA)
 | .store _ x v=>(x.eA)++(v.eA)
 | .box _ _ x=>(x.eA)
 | .alloc _ _  =>[]
 | .ov _ _ _ _ parts=>(II parts)
 | .append _ _ _ x y=>(x.eA)++(y.eA)
 | .make _ _ _ _ len cap=>(len.eA)++(cap.eA)
 | .copy _ x y=>(x.eA)++(y.eA)
 | .oC   =>[]
 | .lookup _ _ _ m k=>(m.eA)++(k.eA)
 | .pq _ m k v=>(m.eA)++(k.eA)++(v.eA)
 | .delete _ m k=>(m.eA)++(k.eA)
 | .pd  m=>(m.eA)
 | .ux x=>(x.eA)
 | .pw x=>(x.eA)
 | .qe x=>(x.eA)
 | .ql x=>(x.eA)
 | .call _ args=>(yG args)
 | .qg  f args=>(f.eA)++(yG args)
 | .ext _ xs=>yG xs
 | .inv _ x args=>(x.eA)++(yG args)
section
variable{env aU:Env}
theorem ez(x:bn)(h:∀t∈x.eA,env.getD t .bot=aU.getD t .bot):x.ev env=x.ev aU:=by
 cases x with
 |t n=>exact h n (by simp[bn.eA])
 |k v=>rfl
theorem H_(x:Option bn)(h:∀t∈EM x,env.getD t .bot=aU.getD t .bot):x.map (bn.ev env)=x.map (bn.ev aU):=by
 cases x with
 |none=>rfl
 |some x=>simp only[Option.map_some];rw[ez x h]
theorem Er(xs:List bn)(h:∀t∈yG xs,env.getD t .bot=aU.getD t .bot):iS env xs=iS aU xs:=by
 induction xs with
 |nil=>rfl
 | cons x xs ih=>simp only[iS,List.map_cons]at ih ⊢;rw[ez x (fun t ht=>h t (by simp[yG];left;exact ht)),ih (fun t ht=>h t (by simp[yG]at ht ⊢;right;exact ht))]
theorem abO(xs:List (Nat×Nat×bn))(h:∀t∈II xs,env.getD t .bot=aU.getD t .bot):mz env xs=mz aU xs:=by
 induction xs with
 |nil=>rfl
 | cons x xs ih=>simp only[mz,List.map_cons]at ih ⊢;rw[ez x.2.2 (fun t ht=>h t (by simp[II];left;exact ht)),ih (fun t ht=>h t (by simp[II]at ht ⊢;right;exact ht))]
theorem Td{Φ:aj}{H:AH}{K:ae}(op:fw)(h:∀t∈dh op,env.getD t .bot=aU.getD t .bot):dk Φ env H K op=dk Φ aU H K op:=by
 cases op with
 |mv x=>simp only[dk];rw[ez x (fun t ht=>h t (by simp only[dh,List.mem_append];simp[ht]))]
 |pick c x y=>simp only[dk];rw[ez c (fun t ht=>h t (by simp only[dh,List.mem_append];simp[ht])),ez x (fun t ht=>h t (by simp only[dh,List.mem_append];simp[ht])),ez y (fun t ht=>h t (by simp only[dh,List.mem_append];simp[ht]))]
 |bin op x y=>simp only[dk];rw[ez x (fun t ht=>h t (by simp only[dh,List.mem_append];simp[ht])),ez y (fun t ht=>h t (by simp only[dh,List.mem_append];simp[ht]))]
 |beq neg x y=>simp only[dk];rw[ez x (fun t ht=>h t (by simp only[dh,List.mem_append];simp[ht])),ez y (fun t ht=>h t (by simp only[dh,List.mem_append];simp[ht]))]
 |tf k neg x=>simp only[dk];rw[ez x (fun t ht=>h t (by simp only[dh,List.mem_append];simp[ht]))]
 |qV neg ks x y=>simp only[dk];rw[ez x (fun t ht=>h t (by simp only[dh,List.mem_append];simp[ht])),ez y (fun t ht=>h t (by simp only[dh,List.mem_append];simp[ht]))]
 |un op x=>simp only[dk];rw[ez x (fun t ht=>h t (by simp only[dh,List.mem_append];simp[ht]))]
 |conv k x=>simp only[dk];rw[ez x (fun t ht=>h t (by simp only[dh,List.mem_append];simp[ht]))]
 |same x=>simp only[dk];rw[ez x (fun t ht=>h t (by simp only[dh,List.mem_append];simp[ht]))]
 |uC x=>simp only[dk];rw[ez x (fun t ht=>h t (by simp only[dh,List.mem_append];simp[ht]))]
 |field off sz agg x=>simp only[dk];rw[ez x (fun t ht=>h t (by simp only[dh,List.mem_append];simp[ht]))]
 |idx len sz agg x i=>simp only[dk];rw[ez x (fun t ht=>h t (by simp only[dh,List.mem_append];simp[ht])),ez i (fun t ht=>h t (by simp only[dh,List.mem_append];simp[ht]))]
 |idxs x i=>simp only[dk];rw[ez x (fun t ht=>h t (by simp only[dh,List.mem_append];simp[ht])),ez i (fun t ht=>h t (by simp only[dh,List.mem_append];simp[ht]))]
 |uz off x=>simp only[dk];rw[ez x (fun t ht=>h t (by simp only[dh,List.mem_append];simp[ht]))]
 |td arr sz x i=>simp only[dk];rw[ez x (fun t ht=>h t (by simp only[dh,List.mem_append];simp[ht])),ez i (fun t ht=>h t (by simp only[dh,List.mem_append];simp[ht]))]
 |slice sz x lo hi mx=>simp only[dk];rw[ez x (fun t ht=>h t (by simp only[dh,List.mem_append];simp[ht])),H_ lo (fun t ht=>h t (by simp only[dh,List.mem_append];simp[ht])),H_ hi (fun t ht=>h t (by simp only[dh,List.mem_append];simp[ht])),H_ mx (fun t ht=>h t (by simp only[dh,List.mem_append];simp[ht]))]
 |uy x lo hi=>simp only[dk];rw[ez x (fun t ht=>h t (by simp only[dh,List.mem_append];simp[ht])),H_ lo (fun t ht=>h t (by simp only[dh,List.mem_append];simp[ht])),H_ hi (fun t ht=>h t (by simp only[dh,List.mem_append];simp[ht]))]
 |pD t x=>simp only[dk];rw[ez x (fun t ht=>h t (by simp only[dh,List.mem_append];simp[ht]))]
 |oG key cA=>simp only[dk];rw[Er cA (fun t ht=>h t (by simp only[dh,List.mem_append];simp[ht]))]
 |extract i x=>simp only[dk];rw[ez x (fun t ht=>h t (by simp only[dh,List.mem_append];simp[ht]))]
 |build zero parts=>simp only[dk];rw[abO parts (fun t ht=>h t (by simp only[dh,List.mem_append];simp[ht]))]
 |len str x=>simp only[dk];rw[ez x (fun t ht=>h t (by simp only[dh,List.mem_append];simp[ht]))]
 |pC n=>rfl
 |pe mx xs=>simp only[dk];rw[Er xs (fun t ht=>h t (by simp only[dh,List.mem_append];simp[ht]))]
 |load n agg x=>simp only[dk];rw[ez x (fun t ht=>h t (by simp only[dh,List.mem_append];simp[ht]))]
 |store n x v=>simp only[dk];rw[ez x (fun t ht=>h t (by simp only[dh,List.mem_append];simp[ht])),ez v (fun t ht=>h t (by simp only[dh,List.mem_append];simp[ht]))]
 |box mu n x=>simp only[dk];rw[ez x (fun t ht=>h t (by simp only[dh,List.mem_append];simp[ht]))]
 |alloc mu zero=>rfl
 |ov mu sz len zero parts=>simp only[dk];rw[abO parts (fun t ht=>h t (by simp only[dh,List.mem_append];simp[ht]))]
 |append mu sz bytes x y=>simp only[dk];rw[ez x (fun t ht=>h t (by simp only[dh,List.mem_append];simp[ht])),ez y (fun t ht=>h t (by simp only[dh,List.mem_append];simp[ht]))]
 |make mu sz bytes zero len cap=>simp only[dk];rw[ez len (fun t ht=>h t (by simp only[dh,List.mem_append];simp[ht])),ez cap (fun t ht=>h t (by simp only[dh,List.mem_append];simp[ht]))]
 |copy sz x y=>simp only[dk];rw[ez x (fun t ht=>h t (by simp only[dh,List.mem_append];simp[ht])),ez y (fun t ht=>h t (by simp only[dh,List.mem_append];simp[ht]))]
 |oC  =>rfl
 |lookup kk zero ok m k=>simp only[dk];rw[ez m (fun t ht=>h t (by simp only[dh,List.mem_append];simp[ht])),ez k (fun t ht=>h t (by simp only[dh,List.mem_append];simp[ht]))]
 |pq kk m k v=>simp only[dk];rw[ez m (fun t ht=>h t (by simp only[dh,List.mem_append];simp[ht])),ez k (fun t ht=>h t (by simp only[dh,List.mem_append];simp[ht])),ez v (fun t ht=>h t (by simp only[dh,List.mem_append];simp[ht]))]
 |delete kk m k=>simp only[dk];rw[ez m (fun t ht=>h t (by simp only[dh,List.mem_append];simp[ht])),ez k (fun t ht=>h t (by simp only[dh,List.mem_append];simp[ht]))]
 |pd m=>simp only[dk];rw[ez m (fun t ht=>h t (by simp only[dh,List.mem_append];simp[ht]))]
 |ux x=>simp only[dk];rw[ez x (fun t ht=>h t (by simp only[dh];simp[ht]))]
 |pw x=>simp only[dk];rw[ez x (fun t ht=>h t (by simp only[dh];simp[ht]))]
 |qe x=>simp only[dk];rw[ez x (fun t ht=>h t (by simp only[dh];simp[ht]))]
 |ql x=>simp only[dk];rw[ez x (fun t ht=>h t (by simp only[dh];simp[ht]))]
 |call key args=>simp only[dk];rw[Er args (fun t ht=>h t (by simp only[dh,List.mem_append];simp[ht]))]
 |qg f args=>simp only[dk];rw[ez f (fun t ht=>h t (by simp only[dh,List.mem_append];simp[ht])),Er args (fun t ht=>h t (by simp only[dh,List.mem_append];simp[ht]))]
 |cap x=>simp only[dk];rw[ez x (fun t ht=>h t (by simp only[dh];simp[ht]))]
 |ext e xs=>simp only[dk];rw[Er xs (fun t ht=>h t (by simp only[dh];simp[ht]))]
 |inv p9 x args=>simp only[dk];rw[ez x (fun t ht=>h t (by simp only[dh,List.mem_append];simp[ht])),Er args (fun t ht=>h t (by simp only[dh,List.mem_append];simp[ht]))]
end
def mj:fw→Bool
 | .mv .. =>true
 | .pick .. =>true
 | .bin .. =>true
 | .beq .. =>true
 | .tf .. =>true
 | .qV .. =>true
 | .un .. =>true
 | .conv .. =>true
 | .same .. =>true
 | .uC .. =>true
 | .field .. =>true
 | .idx .. =>true
 | .idxs .. =>true
 | .uz .. =>true
 | .td .. =>true
 | .slice .. =>true
 | .uy .. =>true
 | .pD .. =>true
 | .oG .. =>true
 | .extract .. =>true
 | .build .. =>true
 | .len .. =>true
 | .pC .. =>true
 | .cap .. =>true
 | .pe .. =>true
 | .ux .. =>true
 | .box mu _ _=>!mu
 | .alloc mu _=>!mu
 | .ov mu _ _ _ _=>!mu
 |_=>false
def la:fw→Bool
 | .load .. =>true
 | .lookup .. =>true
 | .pd .. =>true
 | .pw .. =>true
 |_=>false
def ky(env:Env)(H:AH):fw→Option AV
 | .mv x=>some (x.ev env)
 | .pick c x y=>match c.ev env with | .bool b=>some (if b=true then x.ev env else y.ev env)|_=>none
 | .bin op x y=>ai op (x.ev env) (y.ev env)
 | .beq neg x y=>uF neg (x.ev env) (y.ev env)
 | .tf k neg x=>Fy k neg (x.ev env)
 | .qV neg ks x y=>vo neg ks (x.ev env) (y.ev env)
 | .un op x=>eB op (x.ev env)
 | .conv k x=>my k (x.ev env)
 | .same x=>ET (x.ev env)
 | .uC x=>bR (x.ev env)
 | .field off sz agg x=>yD off sz agg (x.ev env)
 | .idx len sz agg x i=>yX len sz agg (x.ev env) (i.ev env)
 | .idxs x i=>oz (x.ev env) (i.ev env)
 | .uz off x=>ab off (x.ev env)
 | .td arr sz x i=>bj arr sz (x.ev env) (i.ev env)
 | .slice sz x lo hi mx=>kO sz (x.ev env) (lo.map (bn.ev env)) (hi.map (bn.ev env)) (mx.map (bn.ev env))
 | .uy x lo hi=>D3 (x.ev env) (lo.map (bn.ev env)) (hi.map (bn.ev env))
 | .pD t x=>some (.iface t (x.ev env))
 | .oG key cA=>some (.fn key (iS env cA))
 | .extract i x=>db i (x.ev env)
 | .build zero parts=>bJ zero (mz env parts)
 | .len str x=>br str (x.ev env)
 | .pC n=>some (.int .i64 n)
 | .cap x=>Cu (x.ev env)
 | .pe mx xs=>oY mx (iS env xs)
 | .load n agg x=>J H n agg (x.ev env)
 | .lookup kk zero ok m k=>wT H kk zero ok (m.ev env) (k.ev env)
 | .pd m=>wU H (m.ev env)
 | .ux x=>D2 (x.ev env)
 | .pw x=>abstr H (x.ev env)
 | .box mu n x=>if mu then none else(if(x.ev env).known∧(x.ev env).cells.length=n then some (.av (x.ev env).cells)else none)
 | .alloc mu zero=>if mu then none else some (.av zero)
 | .ov mu sz len zero parts=>if mu then none else(qW (List.replicate len zero).flatten (mz env parts)).map fun cells=> .aq .full len cells
 |_=>none
theorem Ml{Φ:aj}{env:Env}{H:AH}{K:ae}{op:fw}(hp:mj op=true∨la op=true)(h:dk Φ env H K op):∃v,ky env H op=some v∧K v H:=by
 cases op with
 |mv x=>exact⟨_,rfl,h⟩
 | pick c x y=>
  obtain⟨b,hb,h⟩:=Uh h;refine⟨_,by simp only[ky];rw[hb],?_⟩;cases b
  ·simpa using h
  ·simpa using h
 |pD t x=>exact⟨_,rfl,h⟩
 |oG key cA=>exact⟨_,rfl,h⟩
 |pC n=>exact⟨_,rfl,h⟩
 | box mu n x=>
  cases mu with
  |true=>simp[mj,la]at hp
  | false=>
   obtain⟨v,H',hv,hK⟩:=h;simp only[bB,be,Bool.false_eq_true,if_false]at hv;split at hv
   · rename_i hk;cases hv;exact⟨_,by simp only[ky,Bool.false_eq_true,if_false];rw[if_pos hk],hK⟩
   ·cases hv
 | alloc mu zero=>
  cases mu with
  |true=>simp[mj,la]at hp
  | false=>obtain⟨v,H',hv,hK⟩:=h;simp only[be,Bool.false_eq_true,if_false]at hv;cases hv;exact⟨_,rfl,hK⟩
 | ov mu sz len zero parts=>
  cases mu with
  |true=>simp[mj,la]at hp
  | false=>
   obtain⟨v,H',hv,hK⟩:=h;simp only[fb,Bool.false_eq_true,if_false]at hv;cases hf:qW (List.replicate len zero).flatten (mz env parts)with
   |none=>simp[hf]at hv
   | some cells=>simp only[hf,Option.map_some,Option.some.injEq,Prod.mk.injEq]at hv;obtain⟨rfl,rfl⟩:=hv;exact⟨_,by simp[ky,hf],hK⟩
 |store|append|make|copy|oC|pq|delete|qe|ql|call|qg|ext|inv=>simp[mj,la]at hp
 |_=>obtain⟨v,hv,hK⟩:=h;exact⟨v,hv,hK⟩
theorem Mp{Φ:aj}{env:Env}{H:AH}{K:ae}{op:fw}{v:AV}(h:ky env H op=some v)(hK:K v H):dk Φ env H K op:=by
 cases op with
 |mv x=>cases h;exact hK
 | pick c x y=>
  simp only[ky]at h;simp only[dk];split at h
  · rename_i b hb;rw[hb];cases h;cases b
    ·simpa using hK
    ·simpa using hK
  ·cases h
 |pD t x=>cases h;exact hK
 |oG key cA=>cases h;exact hK
 |pC n=>cases h;exact hK
 | box mu n x=>
  cases mu with
  |true=>simp[ky]at h
  | false=>
   simp only[ky,Bool.false_eq_true,if_false]at h;split at h
   · rename_i hk;cases h;exact⟨_,H,by simp[bB,be,hk],hK⟩
   ·cases h
 | alloc mu zero=>
  cases mu with
  |true=>simp[ky]at h
  | false=>simp only[ky,Bool.false_eq_true,if_false]at h;cases h;exact⟨_,H,by simp[be],hK⟩
 | ov mu sz len zero parts=>
  cases mu with
  |true=>simp[ky]at h
  | false=>
   simp only[ky,Bool.false_eq_true,if_false]at h;cases hf:qW (List.replicate len zero).flatten (mz env parts)with
   |none=>simp[hf]at h
   | some cells=>simp only[hf,Option.map_some,Option.some.injEq]at h;subst h;exact⟨_,H,by simp[fb,hf],hK⟩
 |store|append|make|copy|oC|pq|delete|qe|ql|call|qg|ext|inv=>simp[ky]at h
 |_=>exact⟨v,h,hK⟩
theorem at6{env:Env}{H H':AH}{op:fw}(h:mj op=true):ky env H op=ky env H' op:=by cases op<;>first|rfl|(simp[mj]at h)
theorem aaO{env:Env}{H:AH}{op:fw}{v:AV}(hv:ky env H op=some v):mj op=true∨la op=true:=by
 cases op with
 | box mu n x=>cases mu with
  |true=>simp[ky]at hv
  |false=>left;rfl
 | alloc mu zero=>cases mu with
  |true=>simp[ky]at hv
  |false=>left;rfl
 | ov mu sz len zero parts=>cases mu with
  |true=>simp[ky]at hv
  |false=>left;rfl
 |load|lookup|pd|pw=>right;rfl
 |store|append|make|copy|oC|pq|delete|qe|ql|call|qg|ext|inv=>simp[ky]at hv
 |_=>left;rfl
theorem aqg{env aU:Env}{H:AH}{op:fw}(h:∀t∈dh op,env.getD t .bot=aU.getD t .bot):ky env H op=ky aU H op:=by
 cases hv:ky env H op with
 | some v=>have h1:dk (fun _ _ _ _=>False) env H (fun u _=>u=v) op:=Mp hv rfl;rw[Td op h]at h1;obtain⟨u,hu,rfl⟩:=Ml (aaO hv) h1;exact hu.symm
 | none=>
  cases u7:ky aU H op with
  |none=>rfl
  | some v=>have h1:dk (fun _ _ _ _=>False) aU H (fun u _=>u=v) op:=Mp u7 rfl;rw[←Td op h]at h1;obtain⟨u,hu,_⟩:=Ml (aaO u7) h1;rw[hv]at hu;cases hu
end Rb

namespace Rb
open Go
def rZ(Φ:aj):Prop:=∀key args H (Q Q':ae),(∀v H,Q v H→Q' v H)→Φ key args H Q→Φ key args H Q'
theorem LX(C:Ctx):rZ (au C):=by intro key args H Q Q' hQ h;refine⟨h.1.imp fun v h=>h.imp fun H' h=>hQ _ _ h,fun f hf G w Vs hG aI eU=>?_⟩;refine Calls.mono (h.2 f hf G w Vs hG aI eU) fun e w' he=>?_;obtain⟨V,v,H',G',h1,h2,h3⟩:=he;exact⟨V,v,H',G',h1,hQ _ _ h2,h3⟩
theorem Do.mono{α:Type}{x:Option α}{K K':α→Prop}(hK:∀a,K a→K' a)(h:Do x K):Do x K':=by obtain⟨a,ha,h⟩:=h;exact⟨a,ha,hK a h⟩
theorem aJ.mono{x:Option (AV×AH)}{K K':ae}(hK:∀v H,K v H→K' v H)(h:aJ x K):aJ x K':=by obtain⟨a,H,ha,h⟩:=h;exact⟨a,H,ha,hK a H h⟩
theorem Gd.mono{v:AV}{want:Bool}{A B A' B':Prop}(hA:A→A')(hB:B→B')(h:Gd v want A B):Gd v want A' B':=by
 unfold Gd at *;split at h
 · split at h
   ·rename_i hh;simp[hh,hA h]
   ·rename_i hh;simp[hh,hB h]
 ·exact h.elim
theorem DN{Φ:aj}(eg:rZ Φ){env:Env}{H:AH}{K K':ae}{op:fw}(hK:∀v H,K v H→K' v H)(h:dk Φ env H K op):dk Φ env H K' op:=by
 cases op with
 |mv x=>exact hK _ _ h
 |pick c x y=>exact Gd.mono (hK _ _) (hK _ _) h
 |pD t x=>exact hK _ _ h
 |oG key cA=>exact hK _ _ h
 |pC n=>exact hK _ _ h
 |box mu n x=>exact aJ.mono hK h
 |alloc mu zero=>exact aJ.mono hK h
 |ov=>exact aJ.mono hK h
 |append=>exact aJ.mono hK h
 |make=>exact aJ.mono hK h
 |copy=>exact aJ.mono hK h
 |oC=>exact hK _ _ h
 |qe=>exact aJ.mono hK h
 |ql=>exact aJ.mono hK h
 |call key args=>exact eg _ _ _ _ _ hK h
 |qg f args=>obtain⟨key,cA,h1,h2⟩:=h;exact⟨key,cA,h1,eg _ _ _ _ _ hK h2⟩
 |ext=>exact aJ.mono hK h
 |inv p9 x args=>obtain⟨t,v,r,u,h1,h2,h3,h4⟩:=h;exact⟨t,v,r,u,h1,h2,h3,eg _ _ _ _ _ hK h4⟩
 |store=>exact Do.mono (fun H h=>hK _ _ h) h
 |pq=>exact Do.mono (fun H h=>hK _ _ h) h
 |delete=>exact Do.mono (fun H h=>hK _ _ h) h
 |_=>exact Do.mono (fun v h=>hK _ _ h) h
def ow(o:bT):List Nat:=dh o.op++(match o.guard with|some (s,_)=>[s]|none=>[])
def rp(Φ:aj)(o:bT)(env:Env)(H:AH)(K:ae):Prop:=
 match o.guard with
 |none=>dk Φ env H K o.op
 |some (s,want)=>∃b,(env.getD s .bot).wanted want=some b∧if b=true then dk Φ env H K o.op else K (.aM []) H
theorem z7{env:Env}{s:Nat}{v:AV}(h:env.getD s .bot=v):env.set s v=env:=by
 apply List.ext_getElem?;intro i;rw[List.getElem?_set];split
 · rename_i hi;subst hi;split
   · rename_i hl;rw[List.getD_eq_getElem?_getD,List.getElem?_eq_getElem hl]at h;rw[List.getElem?_eq_getElem hl,←h];rfl
   ·rename_i hl;rw[List.getElem?_eq_none (by omega)]
 ·rfl
theorem MC{Φ:aj}{o:bT}{env:Env}{H:AH}{K:Env→AH→Prop}:ta Φ o env H K↔rp Φ o env H (fun v H'=>K (cY env o.dst v) H'):=by
 unfold ta rp;cases hg:o.guard with
 |none=>exact Iff.rfl
 | some g=>
  obtain⟨s,want⟩:=g;dsimp only;constructor
  · intro h;unfold aL at h;split at h
    · rename_i b hb;refine⟨b==want,by rw[hb];rfl,?_⟩;by_cases lM:b=want
      · subst lM;rw[if_pos rfl]at h;rw[if_pos (by simp)];rw[z7 hb]at h;exact h
      · rw[if_neg lM]at h;rw[if_neg (by simpa using lM)];have:b=!want:=by cases b<;>cases want<;>simp at lM ⊢
        subst this;rw[z7 hb]at h;exact h
    · rename_i hb;refine⟨false,by rw[hb];rfl,?_⟩;rw[if_neg (by simp)];rw[z7 hb]at h;exact h
    ·exact h.elim
  · rintro ⟨b,hb,h⟩;unfold aL;cases b with
    | true=>have hw:=AV.Sp hb;rw[hw];dsimp only;rw[if_pos rfl]at h ⊢;rw[z7 hw];exact h
    | false=>
     rw[if_neg (by simp)]at h;rcases AV.ZI hb with hw|hw
     · rw[hw];dsimp only;rw[if_neg (by cases want<;>simp),z7 hw];exact h
     · rw[hw];dsimp only;rw[z7 hw];exact h
def qf(o:bT)(env:Env)(H:AH)(v:AV):Prop:=
 match o.guard with
 |none=>ky env H o.op=some v
 |some (s,want)=>∃b,(env.getD s .bot).wanted want=some b∧if b=true then ky env H o.op=some v else v = .aM []
theorem ac3{Φ:aj}{o:bT}{env aU:Env}{H:AH}{K:ae}(h:∀t∈ow o,env.getD t .bot=aU.getD t .bot):rp Φ o env H K↔rp Φ o aU H K:=by
 have h1:=Td (Φ:=Φ) (H:=H) (K:=K) o.op (fun t ht=>h t (by simp[ow,ht]));unfold rp;split
 ·rw[h1]
 · rename_i s want hg;rw[h1,h s (by simp[ow,hg])]
theorem DU{o:bT}{env aU:Env}{H:AH}{v:AV}(h:∀t∈ow o,env.getD t .bot=aU.getD t .bot):qf o env H v↔qf o aU H v:=by
 have h1:=aqg (H:=H) (op:=o.op) (fun t ht=>h t (by simp[ow,ht]));unfold qf;split
 ·rw[h1]
 · rename_i s want hg;rw[h1,h s (by simp[ow,hg])]
theorem aon{o:bT}{env:Env}{H H':AH}{v:AV}(h:mj o.op=true):qf o env H v↔qf o env H' v:=by unfold qf;rw[at6 (H':=H') h]
theorem am0{Φ:aj}{o:bT}{env:Env}{H:AH}{K:ae}(hp:mj o.op=true∨la o.op=true)(h:rp Φ o env H K):∃v,qf o env H v∧K v H:=by
 unfold rp at h;unfold qf;split at h
 · rename_i hg;obtain⟨v,h1,h2⟩:=Ml hp h;exact⟨v,h1,h2⟩
 · rename_i s want hg;obtain⟨b,hb,h⟩:=h;split at h
   · rename_i lM;obtain⟨v,h1,h2⟩:=Ml hp h;exact⟨v,⟨b,hb,by rw[if_pos lM];exact h1⟩,h2⟩
   · rename_i lM;exact⟨.aM [],⟨b,hb,by rw[if_neg lM]⟩,h⟩
theorem amv{Φ:aj}{o:bT}{env:Env}{H:AH}{K:ae}{v:AV}(h:qf o env H v)(hK:K v H):rp Φ o env H K:=by
 unfold qf at h;unfold rp;split
 · rename_i hg;rw[hg]at h;exact Mp h hK
 · rename_i s want hg;rw[hg]at h;obtain⟨b,hb,h⟩:=h;refine⟨b,hb,?_⟩;split at h
   ·rename_i lM;rw[if_pos lM];exact Mp h hK
   ·rename_i lM;rw[if_neg lM];subst h;exact hK
theorem am1{Φ:aj}(eg:rZ Φ){o:bT}{env:Env}{H:AH}{K K':ae}(hK:∀v H,K v H→K' v H)(h:rp Φ o env H K):rp Φ o env H K':=by
 unfold rp at *;split at h
 ·exact DN eg hK h
 · obtain⟨b,hb,h⟩:=h;refine⟨b,hb,?_⟩;split at h
   ·rename_i lM;rw[if_pos lM];exact DN eg hK h
   ·rename_i lM;rw[if_neg lM];exact hK _ _ h
end Rb
