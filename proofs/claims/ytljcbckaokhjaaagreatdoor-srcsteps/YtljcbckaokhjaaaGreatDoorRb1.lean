/- A part of the proof (part 1): see the last text. -/
import Derived.Tactics2
import Derived.Laws.AppendOwn
import Derived.LoopN
import Derived.Laws.Strings
import Derived.Lib.Strings
import Derived.Laws.IdiomStrings
import Derived.WideLaws
import Derived.Laws.StructEq
import Derived.LaidEql
import Derived.Orders
set_option linter.unusedVariables false
set_option linter.unusedSimpArgs false
open Array renaming ext'→abu, getD_eq_getD_getElem?→aaS, getElem?_append→Z6, getElem?_eq_getElem→ZG, getElem?_eq_some_iff→aao, getElem?_extract→ZJ, getElem?_setIfInBounds_ne→abR, getElem?_setIfInBounds→Z8, range→aaF, replicate→abV, size_setIfInBounds→abQ
open BitVec renaming ofInt→AH
open Bool renaming and_eq_true→ZL, eq_false_iff→abT, eq_iff_iff→abE, false_eq_true→abe, false_or→abI, not_eq_true'→abr, or_eq_false_iff→abJ, or_eq_true→ZM
open ByteArray renaming emptyWithCapacity→aa3, empty→aa2, ext→ZQ, getElem_eq_getElem_data→Z0, mk→ZO, push→aa0, size→ZP
open Classical renaming not_not→aaV
open Go renaming sizeOf→ZK
open Go.Act renaming put→abN
open Go.Addr renaming add_lit→aaQ
open Go.Builtin renaming append_→aaO, copy_→abl, firstCells→aaU, lenOf→aaP, len_→aai, max2→aaj, min2→aak, zeroCells→aaT
open Go.Calls renaming mono→abw
open Go.Deferred renaming ofValue→abv
open Go.Edge renaming on→abM
open Go.Instr renaming alloc→aaG, box→aaE, buildSlice→aaJ, build→abo, extract→Z4, fieldAt→Z2, field→ZY, fill→aag, indexAt→Z9, index→ZZ, loadAt→aaw, makeInterface→abt, makeSlice→aaK, next→aa5, range→aa4, sliceAt→aab, sliceBounds→aaa, sliceBound→Z_, slice→aac, storeAt→aaD, sureAddr→Z3
open Go.IntKind renaming bits→ZT, i64→aaM, signed→ZS, wrap→aaN
open Go.Op renaming bytesLess→AV, eqFields→abi, equalIn→ZU, equal→ZV, intDiv→ZN, stringOp→ZR
open Go.Oper renaming wp→abm
open Go.Region renaming binds→abL, ready→abX, wanted→abO
open Go.Region.Mode renaming any→abU
open Go.Result renaming andThen_ok→aa7, andThen→abf
open Go.Sem renaming run_bind→aa6, run_map→abq, run_pure→abd
open Go.Utf8 renaming decode→ZE
open Go.World renaming block_lt_of_cell?→aan, cell?_of_block→aam, setRow→aas
open Iff renaming rfl→abA
open Int renaming eq_ofNat_of_zero_le→aaL
open List renaming all_eq_true→aaB, any_eq_true→abC, cons_append→abh, countP_cons→abP, flatten_cons→aaI, foldl_cons→aaf, getD_eq_getElem?_getD→aaW, getElem?_append→Z5, getElem?_drop→ZI, getElem?_eq_getElem→aav, getElem?_eq_none→abz, getElem?_eq_some_iff→ZF, getElem?_map→aau, getElem?_set_ne→aay, getElem?_set_self→aax, getElem?_set→Z7, getElem?_take_of_lt→abk, getElem?_take→ZH, getElem?_toArray→aaz, getElem_mem→aaC, length_eq_zero_iff→aaY, length_map→aa1, length_set→abF, mapM_cons→abn, mapM_toArray→abp, map_cons→aaZ, mem_append→abx, mem_cons_of_mem→abH, mem_cons_self→abK, mem_cons→abG, mem_filter→abS, mem_iff_getElem→aaA, mem_map→abW, mem_range→abD, range'→aa9, range_eq_range'→abc, range→aat, replicate_succ→aaH, replicate→Gd, set_eq_of_length_le→abY, take_left→abg
open Nat renaming add_assoc→Z1, add_mul→aae, add_zero→aah, le_of_eq→aaq, le_of_not_lt→abB, le_refl→hT, le_succ→aal, le_trans→h1, lt_of_lt_of_le→px, lt_or_ge→z8, mul_le_mul_right→aaR, ne_of_lt→aap, succ_mul→abj, zero_add→aar, zero_le→aad
open Option renaming getD_some→aaX, map_some→ZX, some→ZW
open Prod renaming mk→aby
open Std.Legacy.Range renaming forIn_eq_forIn_range'→aa8, size→aba, start→aa_, step→abb
open UInt8 renaming ofNat→KT
open Bool renaming false→ab0, true→abZ
open Option renaming none→ab2, some→ab1
namespace Rb
universe u
variable{c:Prop}{d:Decidable c}{α:Sort u}{t e:α}
theorem aI(h:¬c:=by decide):@ite α c d t e=e:=if_neg h
theorem eu(h:c:=by decide):@ite α c d t e=t:=if_pos h
theorem bg(h:¬c:=by omega):@ite α c d t e=e:=if_neg h
theorem cX(h:c:=by omega):@ite α c d t e=t:=if_pos h
theorem cp(h:c:=by simp only[decide_eq_true_eq];omega):@ite α c d t e=t:=if_pos h
theorem dg(h:¬c:=by simp only[decide_eq_true_eq];omega):@ite α c d t e=e:=if_neg h
theorem hZ(h:¬c:=by simp):@ite α c d t e=e:=if_neg h
theorem km(h:c:=by simp):@ite α c d t e=t:=if_pos h
theorem jZ(h:¬c:=by simp;omega):@ite α c d t e=e:=if_neg h
theorem nX(h:c:=by simp;omega):@ite α c d t e=t:=if_pos h
theorem ad{c:Prop}{d:Decidable c}(h:¬c){α:Sort u}{t e:α}:@ite α c d t e=e:=if_neg h
theorem aa{c:Prop}{d:Decidable c}(h:c){α:Sort u}{t e:α}:@ite α c d t e=t:=if_pos h
theorem fq(i:Nat):((i:Int)+1)=((i+1:Nat):Int):=by simp
theorem du{p:Prop}[d:Decidable p]:(decide p=abZ)=p:=decide_eq_true_eq
theorem aQ{α:Sort u}{x:Decidable True}(t e:α):ite True t e=t:=if_true t e
theorem cc{α:Sort u}{x:Decidable False}(t e:α):ite False t e=e:=if_false t e
theorem cq{α:Type u}[BEq α][LawfulBEq α]{a b:α}:a==b↔a=b:=beq_iff_eq
end Rb
namespace Rb
open Go
variable{w R w1 w2 w3:World}
inductive Tok where
 |nil|full|own (t:Nat)|dead
 deriving DecidableEq
inductive I where
 |bool (b:Bool)
 |int (k:IntKind) (n:Int)
 |str (s:List UInt8)
 |ga
 |ptr (id off:Nat)
 |ak (cells:List I)
 |aj (tk:Tok) (len:Nat) (cells:List I)
 |row (id off len sz:Nat)
 |fn (key:Nat) (cB:List I)
 |ic
 |iface (t:TypeId) (v:I)
 |ie
 |agg (cs:List I)
 |aH (vs:List I)
 |bot
 deriving Inhabited
def I.cells:I->List I
 | .agg cs=>cs
 |v=>[v]
def iM(a:Nat):Option Nat:=cond (Nat.ble 1048576 a) (ab1 (a-1048576)) ab2
def I.scalar:I->Bool
 | .agg _ | .aH _ | .bot=>ab0
 |_=>abZ
inductive c0 where
 |row (cs:List I)
 |tok (n sz:Nat)
 |hX (s:List UInt8) (pos:Nat)
 |gone
def c0.live:c0->Bool
 | .gone=>ab0
 |_=>abZ
structure O where
 n:Nat
 o:Nat->c0
def O.set(H:O)(i:Nat)(x:c0):O:={H with o:=λj=>if j=i then x else H.o j}
def O.push(H:O)(x:c0):O:={n:=H.n+1,o:=λj=>if j=H.n then x else H.o j}
structure ch where
 n:Nat
 loc:Nat->Nat
 cap:Nat->Nat
 fz:Nat->Nat->Prop
def tv(G:ch)(b o len cap:Nat):Tok->Prop
 | .nil=>False
 | .full=>cap=len
 | .own t=>t<G.n/\G.loc t=b/\o=0/\G.cap t=cap
 | .dead=>True
abbrev el:=Nat->Option FuncId
inductive VR(F:el)(w:World)(G:ch):I->Value->Prop where
 |bot (V:Value):VR F w G .bot V
 |bool (b:Bool):VR F w G (.bool b) (.bool b)
 |int (k:IntKind) (n:Int):VR F w G (.int k n) (.int k n)
 |str (s:List UInt8):VR F w G (.str s) (.string ⟨s.toArray⟩)
 |ga:VR F w G .ga (.pointer ab2)
 |ptr (id off:Nat) (h:id<G.n):VR F w G (.ptr id off) (.pointer (ab1 ⟨G.loc id,off,ab2⟩))
 | ak (cells:List I) (b o:Nat) (Vs:Nat->Value)
   (h:∀(j:Nat)(c:I),cells[j]?=ab1 c->G.fz b (o+j)/\w.cell? ⟨b,o+j,ab2⟩=ab1 (Vs j))
   (hv:∀(j:Nat)(c:I),cells[j]?=ab1 c->VR F w G c (Vs j)):VR F w G (.ak cells) (.pointer (ab1 ⟨b,o,ab2⟩))
 |hY:VR F w G (.aj .nil 0 []) (.slice ab2 0 0)
 |gp (a:Option Addr) (cap:Nat):VR F w G (.aj .dead 0 []) (.slice a 0 cap)
 | aj (tk:Tok) (len:Nat) (cells:List I) (b o cap:Nat) (Vs:Nat->Value) (ht:tv G b o len cap tk) (hle:len<=cap)
   (h:∀(j:Nat)(c:I),cells[j]?=ab1 c->G.fz b (o+j)/\w.cell? ⟨b,o+j,ab2⟩=ab1 (Vs j))
   (hv:∀(j:Nat)(c:I),cells[j]?=ab1 c->VR F w G c (Vs j)):VR F w G (.aj tk len cells) (.slice (ab1 ⟨b,o,ab2⟩) len cap)
 |row (id off len sz cap:Nat) (h:id<G.n) (hle:len<=cap) (hc:off+cap*sz=G.cap id):VR F w G (.row id off len sz) (.slice (ab1 ⟨G.loc id,off,ab2⟩) len cap)
 | fn (key:Nat) (cB:List I) (f:FuncId) (Vs:Array Value) (hk:iM key=ab2) (hf:F key=ab1 f) (hl:cB.length=Vs.size)
   (hv:∀(j:Nat)(c:I)(V:Value),cB[j]?=ab1 c->Vs[j]?=ab1 V->VR F w G c V):VR F w G (.fn key cB) (.func (.func f) #[] Vs)
 |ic:VR F w G .ic .nilFunc
 |iface (t:TypeId) (v:I) (V:Value) (h:VR F w G v V):VR F w G (.iface t v) (.iface t V)
 |ie:VR F w G .ie .nilIface
 | agg (cs:List I) (Vs:Array Value) (hl:cs.length=Vs.size)
   (hv:∀(j:Nat)(c:I)(V:Value),cs[j]?=ab1 c->Vs[j]?=ab1 V->VR F w G c V):VR F w G (.agg cs) (.agg Vs)
 | aH (cs:List I) (Vs:Array Value) (hl:cs.length=Vs.size)
   (hv:∀(j:Nat)(c:I)(V:Value),cs[j]?=ab1 c->Vs[j]?=ab1 V->VR F w G c V):VR F w G (.aH cs) (.tuple Vs)
structure GLe(w:World)(G:ch)(R:World)(G':ch):Prop where
 n:G.n<=G'.n
 loc:∀i,i<G.n->G'.loc i=G.loc i
 cap:∀i,i<G.n->G'.cap i=G.cap i
 fz:∀b o,G.fz b o->G'.fz b o
 cell:∀b o V,G.fz b o->w.cell? ⟨b,o,ab2⟩=ab1 V->R.cell? ⟨b,o,ab2⟩=ab1 V
theorem GLe.refl(w:World)(G:ch):GLe w G w G:=⟨hT _,λ_ _=>rfl,λ_ _=>rfl,λ_ _ h=>h,λ_ _ _ _ h=>h⟩
theorem GLe.trans{c d e:ch}(h:GLe w1 c w2 d)(k:GLe w2 d w3 e):GLe w1 c w3 e:=
 ⟨h1 h.n k.n,λi hi=>(k.loc i (px hi h.n)).trans (h.loc i hi),
   λi hi=>(k.cap i (px hi h.n)).trans (h.cap i hi),
   λb o a=>k.fz b o (h.fz b o a),λb o V a hc=>k.cell b o V (h.fz b o a) (h.cell b o V a hc)⟩
theorem tv.mono{G G':ch}(a:GLe w G R G'){b o len cap:Nat}{tk:Tok}(h:tv G b o len cap tk):tv G' b o len cap tk:=by
 cases tk with
 |nil=>exact h
 |full=>exact h
 |dead=>exact h
 | own t=>obtain⟨U,c,d,e⟩:=h;exact⟨px U a.n,(a.loc t U).trans c,d,(a.cap t U).trans e⟩
theorem VR.mono{F:el}{G G':ch}(e:GLe w G R G'){c:I}{V:Value}(h:VR F w G c V):VR F R G' c V:=by
 induction h with
 |bot V=>exact .bot V
 |bool b=>exact .bool b
 |int k n=>exact .int k n
 |str s=>exact .str s
 |ga=>exact .ga
 |ptr id off h=>rw[<-e.loc id h];exact .ptr id off (px h e.n)
 |ak cells b o Vs h _ d=>exact .ak cells b o Vs (λj c g=>⟨e.fz _ _ (h j c g).1,e.cell _ _ _ (h j c g).1 (h j c g).2⟩) d
 |hY=>exact .hY
 |gp a cap=>exact .gp a cap
 |aj tk len cells b o cap Vs ht hle h _ d=>exact .aj tk len cells b o cap Vs (ht.mono e) hle (λj c g=>⟨e.fz _ _ (h j c g).1,e.cell _ _ _ (h j c g).1 (h j c g).2⟩) d
 | row id off len sz cap h hle hc=>rw[<-e.loc id h];exact .row id off len sz cap (px h e.n) hle (by rw[e.cap id h];exact hc)
 |fn key cB f Vs hk hf hl _ d=>exact .fn key cB f Vs hk hf hl d
 |ic=>exact .ic
 |iface t v V _ d=>exact .iface t v V d
 |ie=>exact .ie
 |agg cs Vs hl _ d=>exact .agg cs Vs hl d
 |aH cs Vs hl _ d=>exact .aH cs Vs hl d
def hd(F:el)(w:World)(G:ch)(i:Nat):c0->Prop
 | .row cs=>∃C e,w.heap[G.loc i]?=ab1 (.cells C e (0,0))/\C.size=G.cap i/\(∀j,¬G.fz (G.loc i) j) /\
   ∀(j:Nat)(c:I),cs[j]?=ab1 c->∃V,C[j]?=ab1 V/\VR F w G c V
 | .tok k sz=>∃C e,w.heap[G.loc i]?=ab1 (.cells C e (0,0))/\C.size=G.cap i*sz/\k<=C.size/\(∀j,k<=j->¬G.fz (G.loc i) j)
 | .hX s pos=>w.heap[G.loc i]?=ab1 (.stringIter ⟨s.toArray⟩ pos)/\∀j,¬G.fz (G.loc i) j
 | .gone=>True
structure Rel(F:el)(w:World)(G:ch)(H:O):Prop where
 n:G.n=H.n
 over:∀i,H.n<=i->H.o i = .gone
 obj:∀i,hd F w G i (H.o i)
 hJ:∀i j,i≠j->(H.o i).live=abZ->(H.o j).live=abZ->G.loc i≠G.loc j
 ig:∀b o,G.fz b o->∃V,w.cell? ⟨b,o,ab2⟩=ab1 V
structure Step(w:World)(G:ch)(H:O)(R:World)(G':ch)(H':O):Prop extends GLe w G R G' where
 size:w.heap.size<=R.heap.size
 os:R.os=w.os
 tape:R.tape=w.tape
 output:R.output=w.output
 dr:w.drawn<=R.drawn
 eN:∀k,k<w.heap.size->(∀i,(H.o i).live=abZ->G.loc i≠k)->R.heap[k]?=w.heap[k]?
 owned:∀i,(H'.o i).live=abZ->G'.loc i<w.heap.size->∃j,(H.o j).live=abZ/\G.loc j=G'.loc i
 hg:∀b o,G'.fz b o->G.fz b o\/w.heap.size<=b\/∃i,(H.o i).live=abZ/\G.loc i=b
theorem Step.refl(w:World)(G:ch)(H:O):Step w G H w G H:={GLe.refl w G with size:=hT _,os:=rfl,tape:=rfl,output:=rfl,dr:=hT _,eN:=λ_ _ _=>rfl,owned:=λi h _=>⟨i,h,rfl⟩,hg:=λ_ _ h=> .inl h}
theorem Step.trans{d f g:ch}{l m n:O}(h:Step w1 d l w2 f m)(k:Step w2 f m w3 g n):Step w1 d l w3 g n:=
 { h.toGLe.trans k.toGLe with
   size:=h1 h.size k.size
   os:=k.os.trans h.os
   tape:=k.tape.trans h.tape
   output:=k.output.trans h.output
   dr:=h1 h.dr k.dr
   eN:=λb a hn=>by rw[k.eN b (px a h.size) λi hi he=>?_,h.eN b a hn];subst he;obtain⟨j,c,e⟩:=h.owned i hi a;exact hn j c e
   owned:=λi hi a=>by obtain⟨j,c,e⟩:=k.owned i hi (px a h.size);rw[<-e]at a ⊢;exact h.owned j c a
   hg :=λb o hf=>by
    rcases k.hg b o hf with hf|a|⟨i,hi,e⟩
    ·exact h.hg b o hf
    ·exact .inr (.inl (h1 h.size a))
    . rcases z8 b w1.heap.size with a|a
      . obtain⟨j,c,p⟩:=h.owned i hi (by rw[e];exact a);exact .inr (.inr ⟨j,c,p.trans e⟩)
      ·exact .inr (.inl a)}
def bG(F:el)(w:World)(G:ch)(cs:List I)(Vs:Array Value):Prop:=cs.length=Vs.size/\∀(j:Nat)(c:I)(V:Value),cs[j]?=ab1 c->Vs[j]?=ab1 V->VR F w G c V
theorem bG.mono{F:el}{G G':ch}(a:GLe w G R G'){cs:List I}{Vs:Array Value}(h:bG F w G cs Vs):bG F R G' cs Vs:=⟨h.1,λj c V hc b=>(h.2 j c V hc b).mono a⟩
abbrev D(z:Int):I:= .int .i64 z
abbrev J:I:= .int .i64 0
abbrev T(z:Int):I:= .int .u64 z
abbrev av:I:= .bool ab0
abbrev aZ:I:= .bool abZ
abbrev Y:I:= .aj .nil 0 []
end Rb
namespace Rb
open Go
variable{want:Bool}{key:Nat}
def Do{α:Type}(x:Option α)(K:α->Prop):Prop:=∃a,x=ab1 a/\K a
def nS(op:BinOp)(k:IntKind)(a b:Int):Option Int:=
 let x:=AH k.bits a;let y:=AH k.bits b
 match op with
 | .and=>ab1 (k.wrap (x &&& y).toNat)
 | .or=>ab1 (k.wrap (x ||| y).toNat)
 | .xor=>ab1 (k.wrap (x ^^^ y).toNat)
 | .andNot=>ab1 (k.wrap (x &&& ~~~y).toNat)
 |_=>ab2
def hK(op:BinOp)(k:IntKind)(a:Int)(c:IntKind)(b:Int):Option I:=
 match op with
 | .shl=>if b<0 then ab2 else ab1 (.int k (k.wrap (a*2^(min b.toNat k.bits))))
 | .shr=>if b<0 then ab2 else ab1 (.int k (a.fdiv (2^(min b.toNat k.bits))))
 | .add=>if k=c then ab1 (.int k (k.wrap (a+b)))else ab2
 | .sub=>if k=c then ab1 (.int k (k.wrap (a-b)))else ab2
 | .mul=>if k=c then ab1 (.int k (k.wrap (a*b)))else ab2
 | .quo=>if k=c/\b≠0 then ab1 (.int k (k.wrap (a.tdiv b)))else ab2
 | .rem=>if k=c/\b≠0 then ab1 (.int k (a.tmod b))else ab2
 | .eql=>if k=c then ab1 (.bool (a==b))else ab2
 | .neq=>if k=c then ab1 (.bool (a != b))else ab2
 | .lss=>if k=c then ab1 (.bool (decide (a<b)))else ab2
 | .leq=>if k=c then ab1 (.bool (decide (a<=b)))else ab2
 | .gtr=>if k=c then ab1 (.bool (decide (a>b)))else ab2
 | .geq=>if k=c then ab1 (.bool (decide (a>=b)))else ab2
 |op=>if k=c then(nS op k a b).map (.int k)else ab2
def Eg(op:BinOp)(s t:List UInt8):Option I:=
 match op with
 | .add=>if s.length+t.length<=9223372036854775807 then ab1 (.str (s++t))else ab2
 | .eql=>ab1 (.bool (s==t))
 | .neq=>ab1 (.bool !(s==t))
 | .lss=>ab1 (.bool (AV s t))
 | .leq=>ab1 (.bool (AV s t||s==t))
 | .gtr=>ab1 (.bool !(AV s t||s==t))
 | .geq=>ab1 (.bool !(AV s t))
 |_=>ab2
inductive NK where
 |p|s|f|i
 deriving DecidableEq
def I.isNil:NK->I->Option Bool
 | .p,.ga=>ab1 abZ
 | .p,.ptr _ _ | .p,.ak _=>ab1 ab0
 | .s,.aj .nil _ _=>ab1 abZ
 | .s,.row _ _ _ _ | .s,.aj .full _ (_::_) | .s,.aj (.own _) _ _ | .s,.aj .dead (_+1) _=>ab1 ab0
 | .f,.ic=>ab1 abZ
 | .f,.fn _ _=>ab1 ab0
 | .i,.ie=>ab1 abZ
 | .i,.iface _ _=>ab1 ab0
 |_,_=>ab2
inductive FK where
 |n|b|t
 deriving DecidableEq
def dZ:List FK->List I->List I->Option Bool
 |[],[],[]=>ab1 abZ
 | .n::ks,.int k a::r,.int c b::t=>if k=c then(dZ ks r t).map (λx=>a==b&&x)else ab2
 | .b::ks,.bool a::r,.bool b::t=>(dZ ks r t).map (λx=>a==b&&x)
 | .t::ks,.str a::r,.str b::t=>(dZ ks r t).map (λx=>a==b&&x)
 |_,_,_=>ab2
def dA(op:BinOp)(x y:I):Option I:=
 match x,y with
 | .int k a,.int c b=>hK op k a c b
 | .str s,.str t=>Eg op s t
 |_,_=>ab2
def kL(c:Bool)(x y:I):Option I:=
 match x,y with
 | .bool a,.bool b=>ab1 (.bool (if c then !(a==b)else a==b))
 |_,_=>ab2
def hh(k:NK)(a:Bool)(x:I):Option I:=(x.isNil k).map λb=> .bool (if a then !b else b)
def ih(c:Bool)(ks:List FK)(x y:I):Option I:=
 match x,y with
 | .agg a,.agg b=>(dZ ks a b).map λr=> .bool (if c then !r else r)
 |_,_=>ab2
def c4(op:UnOp)(x:I):Option I:=
 match op,x with
 | .not,.bool b=>ab1 (.bool !b)
 | .neg,.int k n=>ab1 (.int k (k.wrap (0-n)))
 | .xor,.int k n=>(nS .xor k (if k.signed then -1 else k.max) n).map (.int k)
 |_,_=>ab2
def gb(k:IntKind)(x:I):Option I:=
 match x with
 | .int _ n=>ab1 (.int k (k.wrap n))
 |_=>ab2
def qD(x:I):Option I:=
 match x with
 | .str s=>ab1 (.str s)
 |_=>ab2
def br(x:I):Option I:=
 match x with
 | .ptr i o=>ab1 (.ptr i o)
 | .ak cs=>ab1 (.ak cs)
 | .fn k cs=>ab1 (.fn k cs)
 |_=>ab2
def bY(cs:List I)(o n:Nat)(agg:Bool):Option I:=if o+n<=cs.length then(if agg then ab1 (.agg ((cs.drop o).take n))else cs[o]?)else ab2
def mz(a sz:Nat)(agg:Bool)(x:I):Option I:=
 match x with
 | .agg cs=>bY cs a sz agg
 |_=>ab2
def lv(len sz:Nat)(agg:Bool)(x i:I):Option I:=
 match x,i with
 | .agg cs,.int _ i=>if 0<=i/\i<len then bY cs (i.toNat*sz) sz agg else ab2
 |_,_=>ab2
def jH(x i:I):Option I:=
 match x,i with
 | .str s,.int _ i=>if 0<=i then(s[i.toNat]?).map λb=> .int .u8 b.toNat else ab2
 |_,_=>ab2
def aJ(a:Nat)(x:I):Option I:=
 match x with
 | .ptr i o=>ab1 (.ptr i (o+a))
 | .ak cs=>ab1 (.ak (cs.drop a))
 |_=>ab2
def aP(a:Option Nat)(sz:Nat)(x i:I):Option I:=
 match i with
 | .int _ i=>
  match a,x with
  |none,.aj _ len cells=>if 0<=i/\i<len then ab1 (.ak (cells.drop (i.toNat*sz)))else ab2
  |none,.row id o len _=>if 0<=i/\i<len then ab1 (.ptr id (o+i.toNat*sz))else ab2
  |some n,.ptr id o=>if 0<=i/\i<n then ab1 (.ptr id (o+i.toNat*sz))else ab2
  |some n,.ak cells=>if 0<=i/\i<n then ab1 (.ak (cells.drop (i.toNat*sz)))else ab2
  |_,_=>ab2
 |_=>ab2
def eo(x:Option I)(d:Nat):Option Nat:=
 match x with
 |none=>ab1 d
 |some (.int _ i)=>if 0<=i then ab1 i.toNat else ab2
 |_=>ab2
def qE(x:I)(lo hi:Option I):Option I:=
 match x with
 | .str s=>
  match eo hi s.length,eo lo 0 with
  |some h,ab1 l=>if l<=h/\h<=s.length then ab1 (.str ((s.take h).drop l))else ab2
  |_,_=>ab2
 |_=>ab2
def cC(sz:Nat)(x:I)(lo hi mx:Option I):Option I:=
 match x with
 | .aj tk len cells=>
  match eo hi len,eo lo 0,mx.map λm=>eo (ab1 m) 0 with
  | some h,ab1 l,ab2=>
   if l<=h/\h<=len/\cells.length=len*sz then
    if l=0/\h=len then ab1 (.aj tk len cells)
    else ab1 (.aj (if l=0 then(match tk with | .own t=> .own t|_=> .dead)else .dead) (h-l) ((cells.take (h*sz)).drop (l*sz)))
   else ab2
  | some h,ab1 l,ab1 (ab1 m)=>
   if l=h/\h=m/\m<=len then(match tk with | .nil=>ab1 (.aj .nil 0 [])|_=>ab1 (.aj .dead 0 []))
   else if l<=h/\h<=m/\m<=len/\cells.length=len*sz/\tk ≠ .nil/\l<m then ab1 (.aj (if m=h then .full else .dead) (h-l) ((cells.take (h*sz)).drop (l*sz)))else ab2
  |_,_,_=>ab2
 | .row id o len a=>
  match eo hi len,eo lo 0,mx with
  | some h,ab1 l,ab2=>if l<=h/\h<=len/\a=sz then(if l=0\/l<h then ab1 (.row id (o+l*sz) (h-l) sz)else ab1 (.aj .dead 0 []))else ab2
  |_,_,_=>ab2
 |_=>ab2
def q(v:I)(want:Bool)(A B:Prop):Prop:=
 match v with
 | .bool b=>if b=want then A else B
 |_=>False
def u(v:I)(want:Bool)(A B C:Prop):Prop:=
 match v with
 | .bool b=>if b=want then A else B
 | .aH []=>C
 |_=>False
def I.wanted(v:I)(want:Bool):Option Bool:=
 match v with
 | .bool b=>ab1 (b==want)
 | .aH []=>ab1 ab0
 |_=>ab2
theorem I.zD{v:I}(h:v.wanted want=ab1 abZ):v = .bool want:=by
 unfold I.wanted at h;split at h
 ·simp at h;rw[h]
 ·cases h
 ·cases h
theorem I.Eh{v:I}(h:v.wanted want=ab1 ab0):v = .bool (!want)\/v = .aH []:=by
 unfold I.wanted at h;split at h
 . rename_i b;left;cases b<;>cases want<;>simp_all
 ·exact .inr rfl
 ·cases h
@[simp] theorem I.Zr (want:Bool):(I.bool want).wanted want=ab1 abZ:=by simp[I.wanted]
@[simp] theorem I.Zs (want:Bool):(I.bool (!want)).wanted want=ab1 ab0:=by cases want<;>rfl
@[simp] theorem I.Zt (want:Bool):(I.aH []).wanted want=ab1 ab0:=rfl
def bL(i:Nat)(x:I):Option I:=
 match x with
 | .aH vs=>vs[i]?
 |_=>ab2
def setCells(cs:List I)(o:Nat):List I->List I
 |[]=>cs
 |v::r=>setCells (cs.set o v) (o+1) r
def I.known:I->Bool
 | .bot | .aH _=>ab0
 |_=>abZ
def jX(cs:List I):List (Nat×Nat×I)->Option (List I)
 |[]=>ab1 cs
 |(off,sz,v)::r=>if v.known/\v.cells.length=sz/\off+sz<=cs.length then jX (setCells cs off v.cells) r else ab2
def bI(a:List I)(b:List (Nat×Nat×I)):Option I:=(jX a b).map .agg
def eV(str:Bool)(x:I):Option I:=
 match str,x with
 |true,.str s=>ab1 (.int .i64 s.length)
 |false,.aj _ len _=>ab1 (.int .i64 len)
 |false,.row _ _ len _=>ab1 (.int .i64 len)
 |_,_=>ab2
def qF(mx:Bool)(x y:I):Option I:=
 match x,y with
 | .int k a,.int _ b=>ab1 (.int k (if mx then(if b>a then b else a)else(if b<a then b else a)))
 |_,_=>ab2
def nT(mx:Bool)(x:I):List I->Option I
 |[]=>ab1 x
 |y::r=>match qF mx x y with|some z=>nT mx z r|none=>ab2
def hj(mx:Bool)(xs:List I):Option I:=
 match xs with
 | .int k a::r=>nT mx (.int k a) r
 |_=>ab2
def af(H:O)(n:Nat)(a:Bool)(x:I):Option I:=
 match x with
 | .ptr id o=>match H.o id with | .row cs=>bY cs o n a|_=>ab2
 | .ak cs=>bY cs 0 n a
 |_=>ab2
def bZ(H:O)(n:Nat)(x v:I):Option O:=
 match x with
 | .ptr id o=>
  match H.o id with
  | .row cs=>if v.known/\v.cells.length=n/\v.cells.all I.scalar/\o+n<=cs.length then ab1 (H.set id (.row (setCells cs o v.cells)))else ab2
  |_=>ab2
 |_=>ab2
def bx(H:O)(mu:Bool)(cells:List I):I×O:=if mu then(.ptr H.n 0,H.push (.row cells))else(.ak cells,H)
def cg(H:O)(mu:Bool)(n:Nat)(v:I):Option (I×O):=if v.known/\v.cells.length=n then ab1 (bx H mu v.cells)else ab2
def cU(H:O)(mu:Bool)(sz len:Nat)(a:List I)(b:List (Nat×Nat×I)):Option (I×O):=
 (jX (Gd len a).flatten b).map λcells=>if mu then(.row H.n 0 len sz,H.push (.row cells))else(.aj .full len cells,H)
def fh(H:O)(sz:Nat)(x:I):Option (Nat×List I):=
 match x with
 | .aj _ len cells=>if cells.length=len*sz then ab1 (len,cells)else ab2
 | .row id o len _=>match H.o id with | .row cs=>if o+len*sz<=cs.length then ab1 (len,(cs.drop o).take (len*sz))else ab2|_=>ab2
 |_=>ab2
def cI(H:O)(mu:Bool)(sz b:Nat)(x y:I):Option (I×O):=
 match fh H sz y with
 |none=>ab2
 | some (m,news)=>
  if ¬news.all I.scalar then ab2 else
  match x with
  | .aj tk len cells=>
   if m=0 then ab1 (.aj tk len cells,H)
   else if ¬(cells.length=len*sz/\(len+m)*b<=140737488355328/\len+m<=9223372036854775807)then ab2
   else match tk,mu with
   | .nil,abZ | .full,abZ=>ab1 (.row H.n 0 (len+m) sz,H.push (.row (cells++news)))
   | .nil,ab0 | .full,ab0=>ab1 (.aj (.own H.n) (len+m) (cells++news),H.push (.tok ((len+m)*sz) sz))
   | .own t,_=>match H.o t with
    | .tok k a=>if k=len*sz/\a=sz then ab1 (.aj (.own H.n) (len+m) (cells++news),(H.set t .gone).push (.tok ((len+m)*sz) sz))else ab2
    |_=>ab2
   | .dead,_=>ab2
  | .row id o len a=>
   match H.o id with
   | .row cs=>
    if m=0 then ab1 (.row id o len a,H)
    else if ¬(o=0/\a=sz/\(len+m)*b<=140737488355328/\len+m<=9223372036854775807)then ab2
    else if(len+m)*sz<=cs.length then ab1 (.row id 0 (len+m) sz,H.set id (.row (setCells cs (len*sz) news)))
    else if cs.length=len*sz then ab1 (.row H.n 0 (len+m) sz,(H.set id .gone).push (.row (cs++news)))
    else ab2
   |_=>ab2
  |_=>ab2
def byteCells(s:List UInt8):List I:=s.map λb=> .int .u8 b.toNat
def ly:List I->Option (List UInt8)
 |[]=>ab1 []
 | .int .u8 n::r=>(ly r).map λs=>KT n.toNat::s
 |_=>ab2
def qG(x:I):Option I:=
 match x with
 | .str s=>ab1 (.aj .dead s.length (byteCells s))
 |_=>ab2
def abstr(H:O)(x:I):Option I:=
 match fh H 1 x with
 |some (_,cells)=>(ly cells).map .str
 |none=>ab2
def nU(H:O)(x:I):Option (I×O):=
 match x with
 | .str s=>ab1 (.ptr H.n 0,H.push (.hX s 0))
 |_=>ab2
def lz(H:O)(x:I):Option (I×O):=
 match x with
 | .ptr id 0=>
  match H.o id with
  | .hX s pos=>
   if pos<s.length then
    let d:=ZE ⟨s.toArray⟩ pos
    ab1 (.aH [.bool abZ,.int .i64 pos,.int .i32 d.1],H.set id (.hX s (pos+d.2)))
   else ab1 (.aH [.bool ab0],H)
  |_=>ab2
 |_=>ab2
def hp(H:O)(mu:Bool)(sz b:Nat)(a:List I)(len cap:I):Option (I×O):=
 match len,cap with
 | .int .i64 n,.int .i64 c=>
  if 0<=n/\n<=c/\b*c<=281474976710656/\c<=9223372036854775807/\a.length=sz then
   if mu then ab1 (.row H.n 0 n.toNat sz,H.push (.row (Gd c.toNat a).flatten))
   else if n=c then ab1 (.aj .full n.toNat (Gd n.toNat a).flatten,H)else ab2
  else ab2
 |_,_=>ab2
def m7(H:O)(sz:Nat)(x y:I):Option (I×O):=
 match x,fh H sz y with
 | .row id o len _,ab1 (m,news)=>
  match H.o id with
  | .row cs=>
   let n:=min m len
   if news.all I.scalar/\o+n*sz<=cs.length then ab1 (.int .i64 n,H.set id (.row (setCells cs o (news.take (n*sz)))))else ab2
  |_=>ab2
 |_,_=>ab2
def lA(H:O)(x:I):Option (I×O):=
 match x with
 | .row id o len sz=>
  match H.o id with
  | .row cs=>if o+len*sz<=cs.length then ab1 (.aj .dead len ((cs.drop o).take (len*sz)),H.set id .gone)else ab2
  |_=>ab2
 | .ptr id o=>
  match H.o id with
  | .row cs=>ab1 (.ak (cs.drop o),H.set id .gone)
  |_=>ab2
 | .aj tk len cells=>ab1 (.aj tk len cells,H)
 | .ak cs=>ab1 (.ak cs,H)
 | .agg cells=>ab1 (.agg cells,H)
 |_=>ab2
inductive b7 where
 |t (n:Nat)
 |k (v:I)
abbrev Env:=List I
def b7.ev(a:Env):b7->I
 | .t n=>a.getD n .bot
 | .k v=>v
inductive Ext where
 |stuck
def zE(H:O)(e:Ext)(xs:List I):Option (I×O):=
 match e,xs with
 |_,_=>ab2
inductive e_ where
 |mv (x:b7)
 |pick (c a b:b7)
 |bin (op:BinOp) (x y:b7)
 |beq (neg:Bool) (x y:b7)
 |kk (k:NK) (neg:Bool) (x:b7)
 |jI (neg:Bool) (ks:List FK) (x y:b7)
 |un (op:UnOp) (x:b7)
 |conv (k:IntKind) (x:b7)
 |same (x:b7)
 |kM (x:b7)
 |field (off sz:Nat) (agg:Bool) (x:b7)
 |idx (len sz:Nat) (agg:Bool) (x i:b7)
 |idxs (x i:b7)
 |kN (off:Nat) (x:b7)
 |kl (arr:Option Nat) (sz:Nat) (x i:b7)
 |slice (sz:Nat) (x:b7) (lo hi mx:Option b7)
 |kO (x:b7) (lo hi:Option b7)
 |iN (t:TypeId) (x:b7)
 |ij (key:Nat) (cB:List b7)
 |extract (i:Nat) (x:b7)
 |build (zero:List I) (parts:List (Nat×Nat×b7))
 |len (str:Bool) (x:b7)
 |iO (n:Nat)
 |iP (mx:Bool) (xs:List b7)
 |load (n:Nat) (agg:Bool) (x:b7)
 |store (n:Nat) (x v:b7)
 |box (mu:Bool) (n:Nat) (x:b7)
 |alloc (mu:Bool) (zero:List I)
 |ik (mu:Bool) (sz len:Nat) (zero:List I) (parts:List (Nat×Nat×b7))
 |append (mu:Bool) (sz bytes:Nat) (x y:b7)
 |make (mu:Bool) (sz bytes:Nat) (zero:List I) (len cap:b7)
 |copy (sz:Nat) (x y:b7)
 |kP (x:b7)
 |jg (x:b7)
 |jh (x:b7)
 |ji (x:b7)
 |call (key:Nat) (args:List b7)
 |jj (f:b7) (args:List b7)
 |ext (e:Ext) (xs:List b7)
structure cz where
 dst:Option Nat
 op:e_
 guard:Option (Nat×Bool)
def gC(a:Env)(xs:List b7):List I:=xs.map (b7.ev a)
def hq(a:Env)(xs:List (Nat×Nat×b7)):List (Nat×Nat×I):=xs.map λp=>(p.1,p.2.1,p.2.2.ev a)
abbrev ab:=I->O->Prop
abbrev Z:=Nat->List I->O->ab->Prop
def bJ(x:Option (I×O))(K:ab):Prop:=∃v H,x=ab1 (v,H)/\K v H
def lB(key:Nat):Nat:=match iM key with|some k=>k|none=>key
def lC(key:Nat)(a cB:List I):List I:=match iM key with|some _=>cB++a|none=>a++cB
theorem zF(h:iM key=ab2):lB key=key:=by unfold lB;rw[h]
theorem zG(h:iM key=ab2)(a cB:List I):lC key a cB=a++cB:=by unfold lC;rw[h]
def cW(Φ:Z)(d:Env)(H:O)(K:ab):e_->Prop
 | .mv x=>K (x.ev d) H
 | .pick c a b=>q (c.ev d) abZ (K (a.ev d) H) (K (b.ev d) H)
 | .bin op x y=>Do (dA op (x.ev d) (y.ev d)) λv=>K v H
 | .beq neg x y=>Do (kL neg (x.ev d) (y.ev d)) λv=>K v H
 | .kk k neg x=>Do (hh k neg (x.ev d)) λv=>K v H
 | .jI neg ks x y=>Do (ih neg ks (x.ev d) (y.ev d)) λv=>K v H
 | .un op x=>Do (c4 op (x.ev d)) λv=>K v H
 | .conv k x=>Do (gb k (x.ev d)) λv=>K v H
 | .same x=>Do (qD (x.ev d)) λv=>K v H
 | .kM x=>Do (br (x.ev d)) λv=>K v H
 | .field off sz agg x=>Do (mz off sz agg (x.ev d)) λv=>K v H
 | .idx len sz agg x i=>Do (lv len sz agg (x.ev d) (i.ev d)) λv=>K v H
 | .idxs x i=>Do (jH (x.ev d) (i.ev d)) λv=>K v H
 | .kN off x=>Do (aJ off (x.ev d)) λv=>K v H
 | .kl arr sz x i=>Do (aP arr sz (x.ev d) (i.ev d)) λv=>K v H
 | .slice sz x lo hi mx=>Do (cC sz (x.ev d) (lo.map (b7.ev d)) (hi.map (b7.ev d)) (mx.map (b7.ev d))) λv=>K v H
 | .kO x lo hi=>Do (qE (x.ev d) (lo.map (b7.ev d)) (hi.map (b7.ev d))) λv=>K v H
 | .iN t x=>K (.iface t (x.ev d)) H
 | .ij key cB=>K (.fn key (gC d cB)) H
 | .extract i x=>Do (bL i (x.ev d)) λv=>K v H
 | .build zero parts=>Do (bI zero (hq d parts)) λv=>K v H
 | .len str x=>Do (eV str (x.ev d)) λv=>K v H
 | .iO n=>K (.int .i64 n) H
 | .iP mx xs=>Do (hj mx (gC d xs)) λv=>K v H
 | .load n agg x=>Do (af H n agg (x.ev d)) λv=>K v H
 | .store n x v=>Do (bZ H n (x.ev d) (v.ev d)) λH=>K (.aH []) H
 | .box mu n x=>bJ (cg H mu n (x.ev d)) K
 | .alloc mu zero=>bJ (ab1 (bx H mu zero)) K
 | .ik mu sz len zero parts=>bJ (cU H mu sz len zero (hq d parts)) K
 | .append mu sz bytes x y=>bJ (cI H mu sz bytes (x.ev d) (y.ev d)) K
 | .make mu sz bytes zero len cap=>bJ (hp H mu sz bytes zero (len.ev d) (cap.ev d)) K
 | .copy sz x y=>bJ (m7 H sz (x.ev d) (y.ev d)) K
 | .kP x=>Do (qG (x.ev d)) λv=>K v H
 | .jg x=>Do (abstr H (x.ev d)) λv=>K v H
 | .jh x=>bJ (nU H (x.ev d)) K
 | .ji x=>bJ (lz H (x.ev d)) K
 | .call key args=>Φ key (gC d args) H K
 | .jj f args=>∃key cB,f.ev d = .fn key cB/\Φ (lB key) (lC key (gC d args) cB) H K
 | .ext e xs=>bJ (zE H e (gC d xs)) K
def cH(a:Env)(d:Option Nat)(v:I):Env:=
 match d with
 |some t=>a.set t v
 |none=>a
def jk(Φ:Z):List cz->Env->O->(Env->O->Prop)->Prop
 |[],env,H,K=>K env H
 | o :: r,env,H,K=>
  match o.guard with
  |none=>cW Φ env H (λv H'=>jk Φ r (cH env o.dst v) H' K) o.op
  | some (s,want)=>
   u (env.getD s .bot) want (cW Φ (env.set s (.bool want)) H (λv H'=>jk Φ r (cH (env.set s (.bool want)) o.dst v) H' K) o.op)
    (jk Φ r (cH (env.set s (.bool !want)) o.dst (.aH [])) H K) (jk Φ r (cH (env.set s (.aH [])) o.dst (.aH [])) H K)
def oZ(a:Env)(H:O)(o:cz):Prop:=
 match o.op with
 | .load n agg x=>af H n agg (x.ev a)=ab1 (a.getD (o.dst.getD 0) .bot)
 | .jg x=>abstr H (x.ev a)=ab1 (a.getD (o.dst.getD 0) .bot)
 |_=>True
def qH(a:Env)(H:O)(o:cz):Prop:=
 match o.guard with
 |none=>oZ a H o
 |some (s,want)=>a.getD s .bot = .bool want->oZ a H o
def hr(a:List cz)(b:Env)(H:O)(X:Prop):List Nat->Prop
 |[]=>X
 |l::r=>(match a[l]? with|some o=>qH b H o|none=>True)/\hr a b H X r
def kQ(Φ:Z)(o:cz)(a:Env)(H:O)(K:Env->O->Prop):Prop:=
 match o.guard with
 |none=>cW Φ a H (λv H'=>K (cH a o.dst v) H') o.op
 | some (s,want)=>
  u (a.getD s .bot) want (cW Φ (a.set s (.bool want)) H (λv H'=>K (cH (a.set s (.bool want)) o.dst v) H') o.op)
   (K (cH (a.set s (.bool !want)) o.dst (.aH [])) H) (K (cH (a.set s (.aH [])) o.dst (.aH [])) H)
def lD(Φ:Z)(a:List cz):List Nat->Env->O->(Env->O->Prop)->Prop
 |[],env,H,K=>K env H
 | i::r,env,H,K=>match a[i]? with
  |some o=>kQ Φ o env H λbw H'=>lD Φ a r bw H' K
  |none=>False
def jY(Φ:Z)(a:List cz)(b:List Nat):List (List Nat×Nat×List Nat)->Env->O->(Env->O->Prop)->Prop
 |[],env,H,K=>lD Φ a b env H K
 | (f,e,st)::r,env,H,K=>lD Φ a f env H λc H1=>match a[e]? with
  |some o=>kQ Φ o c H1 λg d=>hr a c d (jY Φ a b r g d K) st
  |none=>False
inductive gD where
 |skip
 |region (ops:List cz)
 |draw (ops:List cz) (pr:List (List Nat)) (cf:List (List Nat×Nat×List Nat)) (last:List Nat)
 |seq (a b:gD)
 |join (vs ks:List Nat) (a b:gD)
 |cond (x:b7) (a b:gD)
 |block (id:Nat) (a:gD)
 |loop (vs ks:List Nat) (a:gD)
 |exit (id:Nat)
 |ret
 |freeze (t:Nat) (a:gD)
 |jJ (vs ks:List Nat) (ops:List cz) (b:gD)
inductive kR where
 |normal
 |exit (id:Nat)
 |ret
def gL(a:Env)(vs:List Nat):List I:=vs.map λt=>a.getD t .bot
def hL(a:Env):List Nat->Env
 |[]=>a
 |t::r=>hL (a.set t .bot) r
def jK(a:Env):List Nat->List I->Env
 |t::r,s=>jK (a.set t (s.headD .bot)) r s.tail
 |[],_=>a
def sl(s:List I):Nat->I
 |0=>s.headD .bot
 |i+1=>sl s.tail i
def au{a:Type}(F:a->(a->Prop)->Prop)(s:a):Prop:=∀b:a->Prop,(∀s K,F s K->(∀t,K t->b t)->b s)->b s
theorem au.step{a:Type}{F:a->(a->Prop)->Prop}{s:a}(h:F s (au F)):au F s:=λc b=>b s _ h λ_ ht=>ht c b
def V(K:List I->O->Prop)(a:List I)(H:O):Prop:=K a H
def gM(Φ:Z):gD->Env->O->(kR->Env->O->Prop)->Prop
 | .skip,env,H,Q=>Q .normal env H
 | .region ops,env,H,Q=>jk Φ ops env H (Q .normal)
 | .draw ops _ cf last,env,H,Q=>jY Φ ops last cf env H (Q .normal)
 | .seq a b,env,H,Q=>gM Φ a env H λe bw H'=>match e with
  | .normal=>gM Φ b bw H' Q
  |e=>Q e bw H'
 | .join vs ks a b,env,H,Q=>gM Φ a env H λe bw H'=>match e with
  | .normal=>V (λst c=>gM Φ b (jK (hL env ks) vs st) c Q) (gL bw vs) H'
  |e=>Q e bw H'
 | .cond x a b,env,H,Q=>q (x.ev env) abZ (gM Φ a env H Q) (gM Φ b env H Q)
 | .block id a,env,H,Q=>gM Φ a env H λe bw H'=>match e with
  | .exit d=>if d=id then Q .normal bw H' else Q (.exit d) bw H'
  |e=>Q e bw H'
 | .loop vs ks a,env,H,Q=>
  au (λ(s:List I×O) (K:List I×O->Prop)=>
    gM Φ a (jK (hL env ks) vs s.1) s.2 λe bw H'=>match e with
     | .normal=>K (gL bw vs,H')
     |e=>Q e bw H') (gL env vs,H)
 | .exit id,env,H,Q=>Q (.exit id) env H
 | .ret,env,H,Q=>Q .ret env H
 | .freeze t a,env,H,Q=>bJ (lA H (env.getD t .bot)) λv H'=>gM Φ a (env.set t v) H' Q
 | .jJ vs ks ops b,env,H,Q=>jk Φ ops env H λbw H'=>V (λst c=>gM Φ b (jK (hL env ks) vs st) c Q) (gL bw vs) H'
inductive lG where
 |tmp (t:Nat)
 |cell (t n:Nat) (agg:Bool)
def mA(a:Env)(H:O):List lG->(List I->Prop)->Prop
 |[],K=>K []
 | .tmp t::r,K=>mA a H r λvs=>K (a.getD t .bot::vs)
 | .cell t n agg::r,K=>Do (af H n agg (a.getD t .bot)) λv=>mA a H r λvs=>K (v::vs)
structure bn where
 ntmps:Nat
 results:List lG
 body:gD
def o0:List I->I
 |[v]=>v
 |vs=> .aH vs
def qI(Φ:Z)(f:bn)(a:List I)(H:O)(Q:ab):Prop:=
 gM Φ f.body (a++Gd (f.ntmps-a.length) .bot) H λe env H'=>match e with
  | .exit _=>False
  |_=>mA env H' f.results λvs=>Q (o0 vs) H'
end Rb
namespace Rb
open Go
variable{H:O}{K:ab}{v:I}{want:Bool}{A B X:Prop}{env:Env}
def m8(Φ:Z):Prop:=∀(key:Nat)(args:List I)(H:O)(Q:ab),Φ key args H Q->∃v H',Q v H'
theorem Do.nv{α:Type}{x:Option α}{K:α->Prop}(h:Do x K):∃a,K a:=by obtain⟨a,_,h⟩:=h;exact⟨a,h⟩
theorem bJ.nv{x:Option (I×O)}(h:bJ x K):∃v H,K v H:=by obtain⟨a,H,_,h⟩:=h;exact⟨a,H,h⟩
theorem q.nv(a:A->X)(b:B->X)(h:q v want A B):X:=by
 unfold q at h;split at h
 . split at h
   ·exact a h
   ·exact b h
 ·exact h.elim
theorem u.nv{A B D X:Prop}(a:A->X)(b:B->X)(c:D->X)(h:u v want A B D):X:=by
 unfold u at h;split at h
 . split at h
   ·exact a h
   ·exact b h
 ·exact c h
 ·exact h.elim
section
variable{Φ:Z}
theorem tw(a:m8 Φ){op:e_}(h:cW Φ env H K op):∃v H',K v H':=by
 cases op with
 |mv x=>exact⟨_,_,h⟩
 |pick c x y=>exact q.nv (λh=>⟨_,_,h⟩) (λh=>⟨_,_,h⟩) h
 |iN t x=>exact⟨_,_,h⟩
 |ij key cB=>exact⟨_,_,h⟩
 |iO n=>exact⟨_,_,h⟩
 |box mu n x=>exact bJ.nv h
 |alloc mu zero=>exact bJ.nv h
 |ik=>exact bJ.nv h
 |append=>exact bJ.nv h
 |make=>exact bJ.nv h
 |copy=>exact bJ.nv h
 |jh=>exact bJ.nv h
 |ji=>exact bJ.nv h
 |call key args=>exact a _ _ _ _ h
 |jj f args=>obtain⟨key,cB,U,b⟩:=h;exact a _ _ _ _ b
 |ext=>exact bJ.nv h
 |store=>obtain⟨H',h⟩:=Do.nv h;exact⟨_,_,h⟩
 |_=>obtain⟨v,h⟩:=Do.nv h;exact⟨_,_,h⟩
theorem Ei(a:m8 Φ){o:cz}{K:Env->O->Prop}(h:kQ Φ o env H K):∃bw H',K bw H':=by
 unfold kQ at h;split at h
 ·obtain⟨v,H',h⟩:=tw a h;exact⟨_,_,h⟩
 . refine u.nv (λh=>?_) (λh=>⟨_,_,h⟩) (λh=>⟨_,_,h⟩) h;obtain⟨v,H',h⟩:=tw a h;exact⟨_,_,h⟩
theorem o3(a:m8 Φ):∀(l:List cz){env:Env}{H:O}{K:Env->O->Prop},jk Φ l env H K->∃bw H',K bw H'
 |[],_,_,_,h=>⟨_,_,h⟩
 | o :: r,env,H,K,h=>by
  unfold jk at h;split at h
  ·obtain⟨v,H',h⟩:=tw a h;exact o3 a r h
  . refine u.nv (λh=>?_) (λh=>o3 a r h) (λh=>o3 a r h) h;obtain⟨v,H',h⟩:=tw a h;exact o3 a r h
theorem zH(a:m8 Φ){b:List cz}:∀(l:List Nat){env:Env}{H:O}{K:Env->O->Prop},lD Φ b l env H K->∃bw H',K bw H'
 |[],_,_,_,h=>⟨_,_,h⟩
 | i::r,env,H,K,h=>by
  unfold lD at h;split at h
  ·obtain⟨bw,H',h⟩:=Ei a h;exact zH a r h
  ·exact h.elim
theorem Ej{a:List cz}{env:Env}{H:O}{X:Prop}:∀(l:List Nat),hr a env H X l->X
 |[],h=>h
 |_::r,h=>Ej r h.2
theorem Ek(a:m8 Φ){c:List cz}{b:List Nat}:∀(l:List (List Nat×Nat×List Nat)) {env:Env} {H:O} {K:Env->O->Prop},jY Φ c b l env H K->∃bw H',K bw H'
 |[],env,H,K,h=>zH a b h
 | (d,e,st)::r,env,H,K,h=>by
  unfold jY at h;obtain⟨f,H1,h⟩:=zH a d h;split at h
  ·obtain⟨g,i,h⟩:=Ei a h;exact Ek a r (Ej st h)
  ·exact h.elim
theorem N4(j:m8 Φ):∀(c:gD){env:Env}{H:O}{Q:kR->Env->O->Prop},gM Φ c env H Q->∃e bw H',Q e bw H':=by
 intro c;induction c with
 |skip=>intro env H Q h;exact⟨_,_,_,h⟩
 |region ops=>intro env H Q h;obtain⟨e,H',h⟩:=o3 j ops h;exact⟨_,_,_,h⟩
 |draw ops pr cf last=>intro env H Q h;obtain⟨e,H',h⟩:=Ek j cf h;exact⟨_,_,_,h⟩
 | seq a b f g=>
  intro env H Q h;obtain⟨e,bw,H',h⟩:=f h;cases e with
  |normal=>exact g h
  |exit i=>exact⟨_,_,_,h⟩
  |ret=>exact⟨_,_,_,h⟩
 | join vs ks a b f g=>
  intro env H Q h;obtain⟨e,bw,H',h⟩:=f h;cases e with
  |normal=>exact g h
  |exit i=>exact⟨_,_,_,h⟩
  |ret=>exact⟨_,_,_,h⟩
 |cond x a b f g=>intro env H Q h;exact q.nv (λh=>f h) (λh=>g h) h
 | block id a d=>
  intro env H Q h;obtain⟨e,bw,H',h⟩:=d h;cases e with
  |normal=>exact⟨_,_,_,h⟩
  | exit i=>
   dsimp only at h;split at h
   ·exact⟨_,_,_,h⟩
   ·exact⟨_,_,_,h⟩
  |ret=>exact⟨_,_,_,h⟩
 | loop vs ks a d=>
  intro env H Q h;refine h (λ_=>∃e bw H',Q e bw H') λs K hs k=>?_;obtain⟨e,bw,H',h⟩:=d hs;cases e with
  |normal=>exact k _ h
  |exit i=>exact⟨_,_,_,h⟩
  |ret=>exact⟨_,_,_,h⟩
 |exit id=>intro env H Q h;exact⟨_,_,_,h⟩
 |ret=>intro env H Q h;exact⟨_,_,_,h⟩
 |freeze t a d=>intro env H Q h;obtain⟨v,H',h⟩:=bJ.nv h;exact d h
 |jJ vs ks ops b d=>intro env H Q h;obtain⟨e,H',h⟩:=o3 j ops h;exact d h
theorem tx{env:Env}{H:O}:∀(l:List lG){K:List I->Prop},mA env H l K->∃vs,K vs
 |[],K,h=>⟨_,h⟩
 | .tmp t::r,K,h=>by obtain⟨vs,h⟩:=tx r h;exact⟨_,h⟩
 | .cell t n agg::r,K,h=>by obtain⟨v,h⟩:=Do.nv h;obtain⟨vs,h⟩:=tx r h;exact⟨_,h⟩
theorem El(a:m8 Φ){f:bn}{b:List I}{Q:ab}(h:qI Φ f b H Q):∃v H',Q v H':=by
 obtain⟨e,bw,H',h⟩:=N4 a _ h;cases e with
 |normal=>obtain⟨vs,h⟩:=tx _ h;exact⟨_,_,h⟩
 |exit i=>exact h.elim
 |ret=>obtain⟨vs,h⟩:=tx _ h;exact⟨_,_,h⟩
end
end Rb
namespace Rb
open Go
variable{v x c y i:I}{t s:TypeId}{X V Y:Value}{cs:List I}{Vs:Array Value}{d:TypeDesc}{off sz o n:Nat}{k:IntKind}{b neg:Bool}{fields:Array Field}{f:Field}
section
variable{P:Program}{F:el}{w:World}{G:ch}
@[simp] theorem Zu {α:Type} (a:α) (K:α->Prop):Do (ab1 a) K=K a:=by simp[Do]
@[simp] theorem Zv {α:Type} (K:α->Prop):Do ab2 K=False:=by simp[Do]
theorem VR.im{n:Int}(h:VR F w G (.int k n) V):V = .int k n:=by cases h;rfl
theorem VR.kS(h:VR F w G (.bool b) V):V = .bool b:=by cases h;rfl
theorem VR.kT{s:List UInt8}(h:VR F w G (.str s) V):V = .string ⟨s.toArray⟩:=by cases h;rfl
theorem VR.qJ(h:VR F w G (.agg cs) V):∃Vs,V = .agg Vs/\bG F w G cs Vs:=by cases h with|agg cs Vs hl hv=>exact⟨Vs,rfl,hl,hv⟩
theorem VR.Em(h:VR F w G (.aH cs) V):∃Vs,V = .tuple Vs/\bG F w G cs Vs:=by cases h with|aH cs Vs hl hv=>exact⟨Vs,rfl,hl,hv⟩
theorem VR.En(h:VR F w G (.aH []) V):V = .tuple #[]:=by
 obtain⟨Vs,rfl,hs,_⟩:=h.Em;have:Vs.size=0:=by simpa using hs.symm
 rw[Array.size_eq_zero_iff.1 this]
theorem bG.agg(h:bG F w G cs Vs):VR F w G (.agg cs) (.agg Vs):= .agg cs Vs h.1 h.2
theorem bG.aH(h:bG F w G cs Vs):VR F w G (.aH cs) (.tuple Vs):= .aH cs Vs h.1 h.2
theorem bG.get(h:bG F w G cs Vs){j:Nat}(hc:cs[j]?=ab1 c):∃V,Vs[j]?=ab1 V/\VR F w G c V:=by have b:j<cs.length:=(ZF.1 hc).1;have a:j<Vs.size:=h.1▸b;exact⟨Vs[j],ZG a,h.2 j c _ hc (ZG a)⟩
theorem bG.nV{Vs:List Value}(hl:cs.length=Vs.length)(h:∀(j:Nat)(c:I)(V:Value),cs[j]?=ab1 c->Vs[j]?=ab1 V->VR F w G c V):bG F w G cs Vs.toArray:=⟨by simpa using hl,λj c V hc a=>h j c V hc (by simpa using a)⟩
theorem bG.cut(h:bG F w G cs Vs)(o n:Nat)(hn:o+n<=cs.length):bG F w G ((cs.drop o).take n) (Vs.extract o (o+n)):=by
 have U:=h.1;refine⟨by simp;omega,λj c V hc a=>?_⟩;rw[ZH]at hc;split at hc
 . rename_i b;rw[ZI]at hc;rw[ZJ]at a;split at a
   ·exact h.2 _ _ _ hc a
   ·cases a
 ·cases hc
def iQ:TypeDesc->Bool
 | .struct _ | .array _ _=>abZ
 |_=>ab0
theorem zI{cs:Array Value}{off:Nat}{i:TypeInfo}(a:P.underlying t=ab1 d)(b:iQ d=abZ)(hi:P.info? t=ab1 i) :
  (part t cs off).run P w = .ok (.agg (cs.extract off (off+i.size))) w:=by
 cases d<;>simp[iQ]at b<;>simp[part,isAgg,ZK,typeInfo,run_underlying a,hi]
theorem zJ{cs:Array Value}(a:P.underlying t=ab1 d)(b:iQ d=ab0)(c:cs[off]?=ab1 V) :
  (part t cs off).run P w = .ok V w:=by
 cases d<;>simp[iQ]at b<;>simp[part,isAgg,run_underlying a,c]
def jl(P:Program)(t:TypeId)(sz:Nat)(a:Bool):Bool:=
 match P.underlying t,P.info? t with
 |some d,ab1 i=>iQ d==a&&i.size==sz&&(a||sz==1)
 |_,_=>ab0
theorem tz{a:Bool}(h:jl P t sz a=abZ):∃d i,P.underlying t=ab1 d/\P.info? t=ab1 i/\iQ d=a/\i.size=sz/\(a=abZ\/sz=1):=by
 unfold jl at h;split at h
 . rename_i d i b hi;simp only[ZL,cq,ZM]at h;exact⟨d,i,b,hi,h.1.1,h.1.2,h.2⟩
 ·cases h
theorem Eo{agg:Bool}(ht:jl P t sz agg=abZ)(h:bG F w G cs Vs)(hv:bY cs o sz agg=ab1 v) :
  ∃V,(part t Vs o).run P w = .ok V w/\VR F w G v V:=by
 obtain⟨d,i,a,hi,b,hs,f⟩:=tz ht;unfold bY at hv;split at hv
 . rename_i hle;cases agg with
   | true=>simp at hv;subst hv;subst hs;exact⟨_,zI a b hi,(h.cut o _ hle).agg⟩
   | false=>simp at hv;obtain⟨V,c,e⟩:=h.get hv;exact⟨V,zJ a b c,e⟩
 ·cases hv
theorem N5{op:BinOp}{t:TypeId}(h:dA op x y=ab1 v)(d:VR F w G x X)(e:VR F w G y Y) :
  ∃V,(binOp op t X Y).run P w = .ok V w/\VR F w G v V:=by
 unfold dA at h;split at h
 . rename_i k a g b;obtain rfl:=d.im;obtain rfl:=e.im;unfold hK at h;cases op<;>simp only[]at h
   case shl=>
    split at h
    ·cases h
    . rename_i c;cases h;refine⟨.int k (k.wrap (a*2^(min b.toNat k.bits))),?_,.int _ _⟩;simp[binOp,Op.shift,c]
   case shr=>
    split at h
    ·cases h
    . rename_i c;cases h;refine⟨.int k (a.fdiv (2^(min b.toNat k.bits))),?_,.int _ _⟩;simp[binOp,Op.shift,c]
   case quo=>
    split at h
    . rename_i c;cases h;obtain⟨rfl,c⟩:=c;refine⟨.int k (k.wrap (a.tdiv b)),?_,.int _ _⟩;simp[binOp,ZN,c]
    ·cases h
   case rem=>
    split at h
    . rename_i c;cases h;obtain⟨rfl,c⟩:=c;refine⟨.int k (a.tmod b),?_,.int _ _⟩;simp[binOp,ZN,c]
    ·cases h
   all_goals
    split at h
    . rename_i hk;subst hk;first
       | (have h:=show ab1 (I.int k _)=ab1 v from h
          cases h;refine⟨_,?_,.int _ _⟩;simp only[binOp,ne_eq,not_true_eq_false,cc];rfl)
       | (cases h
          refine⟨_,?_,.bool _⟩;simp only[binOp,ne_eq,not_true_eq_false,cc];rfl)
    ·cases h
 . rename_i s u;obtain rfl:=d.kT;obtain rfl:=e.kT;unfold Eg at h;cases op<;>simp only[]at h
   case add=>
    split at h
    . rename_i hl;cases h;refine⟨_,?_,.str _⟩;have f:¬(9223372036854775807<(s.length:Int)+(u.length:Int)):=by omega
      have hs:(ZO s.toArray).size=s.length:=by simp[ZP]
      have hu:(ZO u.toArray).size=u.length:=by simp[ZP]
      have he:(ZO s.toArray++ZO u.toArray)=⟨(s++u).toArray⟩:=by apply ZQ;simp
      simp[binOp,ZR,hs,hu,f,IntKind.max,ZS,ZT,he]
    ·cases h
   all_goals
    first
     |(cases h;exact⟨_,by simp[binOp,ZR],.bool _⟩)
     |cases h
 ·cases h
theorem Ep(op:BinOp)(t:TypeId)(x y:Operand)(X Y:Value)(U:∀cs,X ≠ .agg cs)(a:X ≠ .nilIface):(eqGuard op t x y X Y).run P w = .ok () w:=by unfold eqGuard;cases op<;>simp;all_goals (cases X<;>simp_all)
theorem N6(ht:P.underlying t=ab1 .bool)(h:kL neg x y=ab1 v)(c:VR F w G x X)(d:VR F w G y Y) :
  ∃V,(binOp (if neg then .neq else .eql) t X Y).run P w = .ok V w/\VR F w G v V:=by
 unfold kL at h;split at h
 . rename_i a b;obtain rfl:=c.kS;obtain rfl:=d.kS;cases h;have e:∀n,(ZU (n+1) t (.bool a) (.bool b)).run P w = .ok (a==b) w:=λn=>by
    unfold ZU;simp[run_underlying ht]
   have he:(ZV t (.bool a) (.bool b)).run P w = .ok (a==b) w:=e 9999;refine⟨_,?_,.bool _⟩;cases neg
   . show(do pure (.bool (<-ZV t (.bool a) (.bool b))):Sem Value).run P w=_;simp[he]
   . show(do pure (.bool (!(<-ZV t (.bool a) (.bool b)))):Sem Value).run P w=_;simp[he]
 ·cases h
def m9:TypeDesc->Option NK
 | .pointer _=>ab1 .p
 | .slice _=>ab1 .s
 | .func _ _ _=>ab1 .f
 | .interface _=>ab1 .i
 |_=>ab2
def NK.nil:NK->Value
 | .p=> .pointer ab2
 | .s=> .slice ab2 0 0
 | .f=> .nilFunc
 | .i=> .nilIface
theorem N7{k:NK}(a:P.underlying t=ab1 d)(hk:m9 d=ab1 k)(h:x.isNil k=ab1 b)(c:VR F w G x X) :
  (ZV t X k.nil).run P w = .ok b w:=by
 have key:∀n,(ZU (n+1) t X k.nil).run P w = .ok b w:=by
  intro n;unfold I.isNil at h;split at h<;>(try (cases h;done))<;>cases h;all_goals
   cases d<;>simp only[m9,ZW.injEq,reduceCtorEq]at hk;cases c<;>first|(unfold ZU;simp[NK.nil,run_underlying a];done)|contradiction
 exact key 9999
theorem N8{k:NK}(g:P.underlying t=ab1 d)(hk:m9 d=ab1 k)(h:hh k neg x=ab1 v)(c:VR F w G x X) :
  ∃V,(binOp (if neg then .neq else .eql) t X k.nil).run P w = .ok V w/\VR F w G v V:=by
 unfold hh at h;cases a:x.isNil k with
 |none=>simp[a]at h
 | some b=>
  simp[a]at h;subst h;have e:=N7 (P:=P) g hk a c;have f:(neg=ab0->binOp .eql t X k.nil=(do pure (.bool (<-ZV t X k.nil))))/\(neg=abZ->binOp .neq t X k.nil=(do pure (.bool (!(<-ZV t X k.nil))))):=by unfold I.isNil at a;split at a<;>(try (cases a;done))<;>cases c<;>exact⟨λ_=>rfl,λ_=>rfl⟩
  refine⟨_,?_,.bool _⟩;cases neg
  . rw[hZ,f.1 rfl];simp[e]
  . rw[aa rfl,f.2 rfl];simp[e]
theorem N9{op:UnOp}(h:c4 op x=ab1 v)(a:VR F w G x X):∃V,(Op.unary op X).run P w = .ok V w/\VR F w G v V:=by
 unfold c4 at h;split at h
 . obtain rfl:=a.kS;cases h;exact⟨_,rfl,.bool _⟩
 . obtain rfl:=a.im;cases h;exact⟨_,rfl,.int _ _⟩
 . obtain rfl:=a.im;simp only[nS,ZX,ZW.injEq]at h;subst h;exact⟨_,rfl,.int _ _⟩
 ·cases h
theorem N_(hs:P.underlying s=ab1 d)(ht:P.underlying t=ab1 (.int k))(h:gb k x=ab1 v)(a:VR F w G x X) :
  ∃V,(convert s t X).run P w = .ok V w/\VR F w G v V:=by
 unfold gb at h;split at h
 . obtain rfl:=a.im;cases h;refine⟨_,?_,.int _ _⟩;simp[convert,run_underlying hs,run_underlying ht,Conv.intToInt]
 ·cases h
theorem Oa(hs:P.underlying s=ab1 .string)(ht:P.underlying t=ab1 .string)(h:qD x=ab1 v)(a:VR F w G x X) :
  ∃V,(convert s t X).run P w = .ok V w/\VR F w G v V:=by
 unfold qD at h;split at h
 . obtain rfl:=a.kT;cases h;refine⟨_,?_,.str _⟩;simp[convert,run_underlying hs,run_underlying ht]
 ·cases h
theorem Ob(h:br x=ab1 v)(b:VR F w G x X):(∃a,X = .pointer (ab1 a))/\VR F w G v X\/(∃f As Vs,X = .func (.func f) As Vs)/\VR F w G v X:=by
 unfold br at h;split at h
 ·cases h;left;exact⟨by cases b;exact⟨_,rfl⟩,b⟩
 ·cases h;left;exact⟨by cases b;exact⟨_,rfl⟩,b⟩
 ·cases h;right;exact⟨by cases b<;>exact⟨_,_,_,rfl⟩,b⟩
 ·cases h
theorem Oc{n off sz:Nat}{a:Bool}{x v:I}{X:Value}(ht:P.underlying t=ab1 (.struct fields))(hf:fields[n]?=ab1 f)(ho:f.offset=off)
  (b:jl P f.type sz a=abZ) (h:mz off sz a x=ab1 v) (c:VR F w G x X):∃V,(ZY t X n).run P w = .ok V w/\VR F w G v V:=by
 unfold mz at h;split at h
 . obtain⟨Vs,rfl,d⟩:=c.qJ;subst ho;obtain⟨V,e,hv⟩:=Eo (w:=w) b d h;exact⟨V,by simp[ZY,run_underlying ht,hf,asAgg,e],hv⟩
 ·cases h
theorem Od{t e:TypeId}{len sz:Nat}{a:Bool}{X b:Value}(ht:P.underlying t=ab1 (.array len e))(c:jl P e sz a=abZ)(h:lv len sz a x i=ab1 v)
  (f:VR F w G x X) (hi:VR F w G i b):∃V,(ZZ t X b).run P w = .ok V w/\VR F w G v V:=by
 unfold lv at h;split at h
 . obtain ⟨Vs,rfl,g⟩:=f.qJ;obtain rfl:=hi.im;split at h
   . rename_i j;obtain⟨V,k,hv⟩:=Eo (w:=w) c g h;obtain⟨d,inf,m,l,_,hs,_⟩:=tz c;subst hs;exact⟨V,by simp[ZZ,asIntOf,run_underlying ht,j,ZK,typeInfo,l,k],hv⟩
   ·cases h
 ·cases h
theorem Oe{X a:Value}(ht:P.underlying t=ab1 .string)(h:jH x i=ab1 v)
  (c:VR F w G x X) (hi:VR F w G i a):∃V,(ZZ t X a).run P w = .ok V w/\VR F w G v V:=by
 unfold jH at h;split at h
 . rename_i s k i;obtain rfl:=c.kT;obtain rfl:=hi.im;split at h
   . rename_i d;cases hs:s[i.toNat]? with
     |none=>simp[hs]at h
     | some b=>
      simp[hs]at h;subst h;have e:(ZO s.toArray)[i.toNat]?=ab1 b:=by
       have f:=(ZF.1 hs).1;have he:=(ZF.1 hs).2;have g:i.toNat<(ZO s.toArray).size:=by simpa[ZP]using f
       rw[getElem?_pos (ZO s.toArray) i.toNat g];simp[Z0,he]
      exact⟨_,by simp[ZZ,asIntOf,run_underlying ht,d,e],.int _ _⟩
   ·cases h
 ·cases h
theorem lH(b o n:Nat):(⟨b,o,ab2⟩:Addr).add n=⟨b,o+n,ab2⟩:=by
 unfold Addr.add;split
 ·rename_i h;subst h;rfl
 ·rfl
theorem zK{b o:Nat}(h:VR F w G (.ak cs) (.pointer (ab1 ⟨b,o,ab2⟩)))(n:Nat):VR F w G (.ak (cs.drop n)) (.pointer (ab1 ⟨b,o+n,ab2⟩)):=by
 cases h with
 | ak cs b o Vs h hv=>
  refine .ak _ _ _ (λj=>Vs (n+j)) (λj c a=>?_) (λj c a=>?_)
  . rw[ZI]at a;have:=h _ _ a;rw[<-Z1]at this;exact this
  . rw[ZI]at a;exact hv _ _ a
theorem Of{a:TypeInfo}{x v:I}{X:Value}(ht:P.underlying t=ab1 (.struct fields))(hf:fields[n]?=ab1 f)(ho:f.offset=off)
  (d:P.info? f.type=ab1 a) (e:a.size≠0) (h:aJ off x=ab1 v) (c:VR F w G x X):∃V,(Z2 t X n).run P w = .ok V w/\VR F w G v V:=by
 subst ho;have key:∀b o,X = .pointer (ab1 ⟨b,o,ab2⟩)->(Z2 t X n).run P w = .ok (.pointer (ab1 ⟨b,o+f.offset,ab2⟩)) w:=by intro b o g;subst g;simp[Z2,run_underlying ht,hf,Z3,fieldPlace,ZK,typeInfo,d,e,lH]
 unfold aJ at h;split at h
 . cases h;cases c with
   |ptr id off i=>exact⟨_,key _ _ rfl,.ptr _ _ i⟩
 . cases h;cases c with
   |ak _ b o Vs h hv=>exact⟨_,key _ _ rfl,zK (.ak _ b o Vs h hv) _⟩
 ·cases h
theorem zL{a:Bool}{A B:Prop}(h:q v a A B):∃b,v = .bool b/\if b=a then A else B:=by
 unfold q at h;split at h
 ·rename_i b;exact⟨b,rfl,h⟩
 ·exact h.elim
@[simp] theorem Zw (b want:Bool) (A B:Prop):q (.bool b) want A B=if b=want then A else B:=rfl
theorem Og{i:Nat}(h:bL i x=ab1 v)(a:VR F w G x X):∃V,(Z4 X i).run P w = .ok V w/\VR F w G v V:=by
 unfold bL at h;split at h
 . obtain⟨Vs,rfl,b⟩:=a.Em;obtain⟨V,c,hv⟩:=b.get h;exact⟨V,by simp[Z4,c],hv⟩
 ·cases h
theorem bG.app{cs d:List I}{Vs e:Array Value}(h:bG F w G cs Vs)(f:bG F w G d e):bG F w G (cs++d) (Vs++e):=by
 refine⟨by simp[h.1,f.1],λj c V hc a=>?_⟩;rw[Z5]at hc;rw[Z6]at a;rw[h.1]at hc;split at hc
 . rename_i b;rw[aa b]at a;exact h.2 _ _ _ hc a
 . rename_i b;rw[ad b]at a;exact f.2 _ _ _ hc a
theorem bG.set(h:bG F w G cs Vs)(j:Nat)(hc:VR F w G c V):bG F w G (cs.set j c) (Vs.setIfInBounds j V):=by
 refine⟨by simp[h.1],λi d g a b=>?_⟩;rw[Z7]at a;rw[Z8]at b;by_cases e:j=i
 . subst e;rw[aa rfl]at a;rw[aa rfl]at b;split at a
   . rename_i f;rw[aa (h.1▸f)]at b;cases a;cases b;exact hc
   ·cases a
 . rw[ad e]at a b;exact h.2 _ _ _ a b
theorem bG.one(h:VR F w G c V):bG F w G [c] #[V]:=
 bG.nV (Vs:=[V]) rfl λj d e a b=>by
  cases j with
  |zero=>simp at a b;subst a;subst b;exact h
  |succ j=>simp at a
theorem bG.nil:bG F w G [] #[]:=⟨rfl,λj c V hc _=>by simp at hc⟩
theorem VR.zM(hk:v.known=abZ)(h:VR F w G v V):bG F w G v.cells V.cells:=by
 cases v with
 | agg cs=>obtain⟨Vs,rfl,a⟩:=h.qJ;exact a
 |aH _=>cases hk
 |bot=>cases hk
 | _=>
  have b:V.cells = #[V]:=by cases h<;>rfl
  rw[b];exact bG.one h
theorem VR.Er(hk:v.scalar=abZ)(h:VR F w G v V):V.oneCell'=abZ:=by cases v<;>simp[I.scalar]at hk<;>cases h<;>rfl
end
end Rb
namespace Rb
open Go
variable{x v:I}{X:Value}{t e:TypeId}{lo hi:Option I}{sz len cap l h:Nat}{inf:TypeInfo}
section
variable{P:Program}{F:el}{w:World}{G:ch}
theorem VR.Es{cells:List I}{b o:Nat}{Vs:Nat->Value}
  (h:∀(j:Nat)(c:I),cells[j]?=ab1 c->G.fz b (o+j)/\w.cell? ⟨b,o+j,ab2⟩=ab1 (Vs j))
  (hv:∀(j:Nat)(c:I),cells[j]?=ab1 c->VR F w G c (Vs j)) (n m:Nat) :
  (∀(j:Nat)(c:I),((cells.take m).drop n)[j]?=ab1 c->G.fz b (o+n+j)/\w.cell? ⟨b,o+n+j,ab2⟩=ab1 (Vs (n+j))) /\
  (∀(j:Nat)(c:I),((cells.take m).drop n)[j]?=ab1 c->VR F w G c (Vs (n+j))):=by
 have key:∀(j:Nat)(c:I),((cells.take m).drop n)[j]?=ab1 c->cells[n+j]?=ab1 c:=by
  intro j c a;rw[ZI,ZH]at a;split at a
  ·exact a
  ·cases a
 refine⟨λj c a=>?_,λj c a=>hv _ _ (key j c a)⟩;have:=h _ _ (key j c a);rw[<-Z1]at this;exact this
theorem Oh{t e:TypeId}{f:Option Nat}{sz:Nat}{inf:TypeInfo}{x i v:I}{X g:Value}
  (ht:match f with|none=>P.underlying t=ab1 (.slice e)|some n=>P.underlying t=ab1 (.array n e))
  (hi:P.info? e=ab1 inf) (hs:inf.size=sz) (h:aP f sz x i=ab1 v) (c:VR F w G x X) (j:VR F w G i g) :
  ∃V,(Z9 t X g).run P w = .ok V w/\VR F w G v V:=by
 subst hs;unfold aP at h;split at h
 . rename_i k i;obtain rfl:=j.im;split at h
   . rename_i tk len cells;simp only at ht;split at h
     . rename_i a;cases h;cases c with
       |hY=>simp at a;omega
       |gp=>simp at a;omega
       | aj _ _ _ b o cap Vs l hle h hv=>refine⟨.pointer (ab1 ⟨b,o+i.toNat*inf.size,ab2⟩),?_,zK (.ak _ b o Vs h hv) _⟩;simp[Z9,asIntOf,run_underlying ht,a,ZK,typeInfo,hi,lH]
     ·cases h
   . rename_i id o len;simp only at ht;split at h
     . rename_i a;cases h;cases c with
       | row _ _ _ _ cap d hle hc=>refine⟨_,?_,.ptr _ _ d⟩;simp[Z9,asIntOf,run_underlying ht,a,ZK,typeInfo,hi,lH]
     ·cases h
   . rename_i n id o;simp only at ht;split at h
     . rename_i a;cases h;cases c with
       | ptr _ _ d=>refine⟨_,?_,.ptr _ _ d⟩;simp[Z9,asIntOf,run_underlying ht,a,ZK,typeInfo,hi,lH,Z3]
     ·cases h
   . rename_i n cells;simp only at ht;split at h
     . rename_i a;cases h;cases c with
       | ak _ b o Vs h hv=>refine⟨.pointer (ab1 ⟨b,o+i.toNat*inf.size,ab2⟩),?_,zK (.ak _ b o Vs h hv) _⟩;simp[Z9,asIntOf,run_underlying ht,a,ZK,typeInfo,hi,lH,Z3]
     ·cases h
   ·cases h
 ·cases h
theorem qK{n y:Nat}{a:BoundsCode}{d:Nat}(h:eo (ab1 x) d=ab1 n)(b:VR F w G x X)(hn:n<=y) :
  (Z_ X y a).run P w = .ok n w:=by
 cases x with
 | int k i=>
  obtain rfl:=b.im;simp only[eo]at h;split at h
  . rename_i c;cases h;have hle:0<=i/\i<=(y:Int):=⟨c,by omega⟩
    simp[Z_,asIntOf,hle]
  ·cases h
 |_=>simp[eo]at h
def lI(F:el)(w:World)(G:ch):Option I->Option Value->Prop
 |none,ab2=>True
 |some x,ab1 X=>VR F w G x X
 |_,_=>False
theorem zN{b:Bool}{a c:Option Value}(d:eo hi len=ab1 h)(hl:eo lo 0=ab1 l)(U:l<=h)(j:h<=len)(k:len<=cap)
  (e:lI F w G lo a) (f:lI F w G hi c):(aaa b len cap a c ab2).run P w = .ok (l,h,cap) w:=by
 have g:(match c with|some v=>Z_ v cap (if b then .sliceAcap else .sliceAlen)|none=>pure len).run P w = .ok h w:=by
  cases hi with
  | none=>
   cases c with
   |none=>simp[eo]at d;simp[d]
   |some _=>exact f.elim
  | some x=>
   cases c with
   |none=>exact f.elim
   |some X=>exact qK d f (h1 j k)
 have i:(match a with|some v=>Z_ v h .sliceB|none=>pure 0).run P w = .ok l w:=by
  cases lo with
  | none=>
   cases a with
   |none=>simp[eo]at hl;simp[hl]
   |some _=>exact e.elim
  | some x=>
   cases a with
   |none=>exact e.elim
   |some X=>exact qK hl e U
 unfold aaa;cases c<;>cases a<;>simp at g i ⊢ <;> simp[g,i]
theorem tA{b:Bool}{m:I}{a e:Option Value}{M:Value}{len cap l h d:Nat}(j:eo (ab1 m) 0=ab1 d)(k:eo hi len=ab1 h)(n:hi≠ab2)(hl:eo lo 0=ab1 l)(U:l<=h)(o:h<=d)(p:d<=cap)
  (f:lI F w G lo a) (g:lI F w G hi e) (q:VR F w G m M):(aaa b len cap a e (ab1 M)).run P w = .ok (l,h,d) w:=by
 have em:∀c,(Z_ M cap c).run P w = .ok d w:=λc=>qK j q p;cases hi with
 |none=>exact absurd rfl n
 | some x=>
  cases e with
  |none=>exact g.elim
  | some X=>
   have r:∀c,(Z_ X d c).run P w = .ok h w:=λc=>qK k g o;have i:(match a with|some v=>Z_ v h .slice3C|none=>pure 0).run P w = .ok l w:=by
    cases lo with
    | none=>
     cases a with
     |none=>simp[eo]at hl;simp[hl]
     |some _=>exact f.elim
    | some x=>
     cases a with
     |none=>exact f.elim
     |some X=>exact qK hl f U
   unfold aaa;cases a<;>simp at i ⊢ <;> simp[em,r,i]
theorem Et(s:List UInt8):(ZO s.toArray).size=s.length:=by simp[ZP]
theorem Oi{X:Value}{a c:Option Value}(ht:P.underlying t=ab1 .string)(h:qE x lo hi=ab1 v)
  (f:VR F w G x X) (g:lI F w G lo a) (i:lI F w G hi c):∃V,(aab t X a c ab2).run P w = .ok V w/\VR F w G v V:=by
 unfold qE at h;split at h
 . rename_i s;obtain rfl:=f.kT;split at h
   . rename_i d l j hl;split at h
     . rename_i e;cases h;have k:=zN (P:=P) (b:=ab0) j hl e.1 e.2 (hT _) g i;have he:(ZO s.toArray).extract l d=⟨((s.take d).drop l).toArray⟩:=by
        rw[Lib.extract_eq];congr 1;simp[List.drop_take]
       refine⟨_,?_,.str _⟩;simp[aab,aac,run_underlying ht,Et,k,he]
     ·cases h
   ·cases h
 ·cases h
theorem Oj{x v:I}{lo hi mx:Option I}{X:Value}{y z Mx:Option Value}(ht:P.underlying t=ab1 (.slice e))(J:P.info? e=ab1 inf)(hs:inf.size=sz)
  (hm:mx≠ab2->hi≠ab2) (h:cC sz x lo hi mx=ab1 v) (r:VR F w G x X) (n:lI F w G lo y) (p:lI F w G hi z) (k:lI F w G mx Mx) :
  ∃V,(aab t X y z Mx).run P w = .ok V w/\VR F w G v V:=by
 subst hs;have run:∀(a:Option Addr)(len cap l h m:Nat),(aaa abZ len cap y z Mx).run P w = .ok (l,h,m) w ->
   (aab t (.slice a len cap) y z Mx).run P w = .ok (.slice (if m=l then a else a.map (·.add (l*inf.size))) (h-l) (m-l)) w:=by
  intro a len cap l h m d;simp[aab,aac,run_underlying ht,d,ZK,typeInfo,J]
 unfold cC at h;split at h
 . rename_i tk len cells;split at h
   . rename_i f l g hl i;cases mx with
     |some m=>simp at i
     |none=>
     cases Mx with
     |some _=>exact k.elim
     |none=>
     split at h
     . rename_i d;have c:∀cap,len<=cap->_:=λcap hc=>zN (P:=P) (b:=abZ) g hl d.1 d.2.1 hc n p;split at h
       . rename_i he;cases h;obtain⟨rfl,rfl⟩:=he;cases r with
         |hY=>exact⟨_,run _ _ _ _ _ _ (c 0 (hT _)),by simpa using VR.hY⟩
         |gp a cap=>exact⟨_,run _ _ _ _ _ _ (c cap (aad _)),by simpa using VR.gp _ _⟩
         | aj _ _ _ b o cap Vs q hle h hv=>refine⟨_,run _ _ _ _ _ _ (c cap hle),?_⟩;have:=VR.aj (F:=F) tk f cells b o cap Vs q hle h hv;split<;>simpa[lH]using this
       . rename_i C;cases h;cases r with
         |hY=>exact absurd ⟨by omega,by omega⟩ C
         |gp a cap=>exact absurd ⟨by omega,by omega⟩ C
         | aj _ _ _ b o cap Vs q hle h hv=>
          refine⟨_,run _ _ _ _ _ _ (c cap hle),?_⟩;by_cases A:cap=l
          . obtain rfl:f=cap:=by omega
            obtain rfl:f=len:=by omega
            obtain rfl:l=f:=by omega
            have s:¬l=0:=λe=>C ⟨e,rfl⟩;rw[ad s,aa rfl];have K:(cells.take (l*inf.size)).drop (l*inf.size)=[]:=by simp
            rw[K];simpa using VR.gp (ab1 ⟨b,o,ab2⟩) 0
          . rw [ad A];have u:=VR.Es (F:=F) h hv (l*inf.size) (f*inf.size);simp only[ZX,lH];refine .aj _ _ _ b (o+l*inf.size) (cap-l) (λj=>Vs (l*inf.size+j)) ?_ (by omega) u.1 u.2;split
            . rename_i s;subst s;split
              . rename_i t;obtain⟨U,E,Q,R⟩:=q;exact⟨U,E,by omega,by omega⟩
              ·trivial
            ·trivial
     ·cases h
   . rename_i f l m g hl i;cases mx with
     |none=>simp at i
     |some mv=>
     cases Mx with
     |none=>exact k.elim
     |some S=>
     simp at i;split at h
     . rename_i L;obtain⟨e1,M,T⟩:=L;subst e1;subst M;cases r with
       | hY=>have c:=tA (P:=P) (b:=abZ) (cap:=0) i g (hm (by simp)) hl (hT _) (hT _) (by omega) n p k;cases h;exact⟨_,run _ _ _ _ _ _ c,by simpa using VR.hY⟩
       | gp a cap=>have c:=tA (P:=P) (b:=abZ) (cap:=cap) i g (hm (by simp)) hl (hT _) (hT _) (by omega) n p k;cases h;exact⟨_,run _ _ _ _ _ _ c,by simpa using VR.gp _ _⟩
       | aj _ _ _ b o cap Vs q hle W hv=>
        have c:=tA (P:=P) (b:=abZ) (cap:=cap) i g (hm (by simp)) hl (hT _) (hT _) (by omega) n p k;refine⟨_,run _ _ _ _ _ _ c,?_⟩;have N:v = .aj .dead 0 []:=by
         cases tk with
         |nil=>exact q.elim
         |full=>cases h;rfl
         |dead=>cases h;rfl
         |own t=>cases h;rfl
        subst N;simpa using VR.gp _ _
     split at h
     . rename_i d;cases h;cases r with
       |hY=>exact absurd rfl d.2.2.2.2.1
       |gp a cap=>have U:=d.2.2.2.2.2;have E:=d.2.2.1;omega
       | aj _ _ _ b o cap Vs q hle h hv=>
        obtain⟨D,B,Y,Z,ab,ac⟩:=d;have c:=tA (P:=P) (b:=abZ) (cap:=cap) i g (hm (by simp)) hl D B (by omega) n p k;refine⟨_,run _ _ _ _ _ _ c,?_⟩;rw[ad (show ¬m=l by omega)];have u:=VR.Es (F:=F) h hv (l*inf.size) (f*inf.size);simp only[ZX,lH];refine .aj _ _ _ b (o+l*inf.size) (m-l) (λj=>Vs (l*inf.size+j)) ?_ (Nat.sub_le_sub_right B l) u.1 u.2;split
        . rename_i e;show m-l=f-l;omega
        ·trivial
     ·cases h
   ·cases h
 . rename_i id o len ae;split at h
   . rename_i f l g hl;cases Mx with
     |some _=>exact k.elim
     |none=>
     split at h
     . rename_i d;obtain⟨D,B,rfl⟩:=d;cases r with
       | row _ _ _ _ cap H hle hc=>
        have c:=zN (P:=P) (b:=abZ) g hl D B hle n p;split at h
        . rename_i O;cases h;refine⟨_,run _ _ _ _ _ _ c,?_⟩;by_cases A:cap=l
          . have s:l=0:=by omega
            subst s;rw[aa A];have:=VR.row (F:=F) (w:=w) (G:=G) id o (f-0) inf.size cap H (by omega) hc;simpa using this
          . rw[ad A];simp only[ZX,lH];refine .row id _ _ _ _ H (by omega) ?_;have:cap*inf.size=l*inf.size+(cap-l)*inf.size:=by rw[<-aae];congr 1;omega
            omega
        . rename_i O;cases h;refine⟨_,run _ _ _ _ _ _ c,?_⟩;have:f-l=0:=by omega
          rw[this];exact .gp _ _
     ·cases h
   ·cases h
 ·cases h
theorem Ok{cs:List I}{Vs:Array Value}(h:bG F w G cs Vs)(a:Nat):∀(l:List I)(L:List Value)(k:Nat),l.length=L.length ->
  (∀(j:Nat)(c:I)(V:Value),l[j]?=ab1 c->L[j]?=ab1 V->VR F w G c V) ->
  bG F w G (setCells cs (a+k) l) ((L.zipIdx k).foldl (λcs (x:Value×Nat)=>cs.setIfInBounds (a+x.2) x.1) Vs):=by
 intro l;induction l generalizing cs Vs with
 | nil=>
  intro L k hl _;cases L with
  |nil=>simpa[setCells]using h
  |cons _ _=>cases hl
 | cons c l e=>
  intro L k hl b;cases L with
  |nil=>cases hl
  | cons V L=>simp only[setCells,List.zipIdx_cons,aaf];rw[Z1];exact e (h.set _ (b 0 c V rfl rfl)) L (k+1) (by simpa using hl) λj d f g i=>b (j+1) d f (by simpa using g) (by simpa using i)
theorem Ol(l:List I):∀(cs:List I)(o:Nat),(setCells cs o l).length=cs.length:=by
 induction l with
 |nil=>intro cs o;rfl
 |cons c l a=>intro cs o;simp[setCells,a]
theorem Eu{place:Nat->Option (Nat×Nat)}:∀(b:List (Nat×Nat×I)) (ps:List (Nat×Value)) (cs d:List I) (Vs:Array Value),bG F w G cs Vs->b.length=ps.length ->
  (∀(j:Nat)(a:Nat×Nat×I)(p:Nat×Value),b[j]?=ab1 a->ps[j]?=ab1 p->place p.1=ab1 (a.1,a.2.1)/\VR F w G a.2.2 p.2)->jX cs b=ab1 d ->
  ∃e,aag place Vs ps=ab1 e/\bG F w G d e:=by
 intro b;induction b with
 | nil=>
  intro ps cs d Vs h hl _ hf;cases ps with
  |nil=>cases hf;exact⟨Vs,rfl,h⟩
  |cons _ _=>cases hl
 | cons a b k=>
  intro ps cs d Vs h hl f hf;cases ps with
  |nil=>cases hl
  | cons p ps=>
   obtain⟨off,sz,v⟩:=a;obtain⟨i,V⟩:=p;obtain⟨l,hv⟩:=f 0 _ _ rfl rfl;simp only[jX]at hf;split at hf
   . rename_i hk;obtain⟨m,n,A⟩:=hk;have hc:=hv.zM m;have g:=Ok h off v.cells V.cells.toList 0 (by simpa using hc.1) λj c o q r=>hc.2 j c o q (by simpa using r);rw[aah]at g;obtain⟨e,s,t⟩:=k ps _ _ _ g (by simpa using hl) (λj a p u y=>f (j+1) a p (by simpa using u) (by simpa using y)) hf;refine⟨e,?_,t⟩;have z:V.cells.size=sz:=by rw[<-hc.1];exact n
     have hle:¬(V.cells.size≠sz\/off+V.cells.size>Vs.size):=by rw[z,<-h.1];omega
     simp only[aag,l];have B:V.cells.zipIdx.foldl (λcs (x:Value×Nat)=>cs.setIfInBounds (off+x.2) x.1) Vs=(V.cells.toList.zipIdx 0).foldl (λcs (x:Value×Nat)=>cs.setIfInBounds (off+x.2) x.1) Vs:=by rw[<-Array.foldl_toList,Array.toList_zipIdx]
     rw[ad (by simpa using hle),<-s];congr 1
   ·cases hf
theorem Om{d:TypeDesc}{ty:TypeId}{c:Bool}{x v:I}{X:Value}(a:P.underlying t=ab1 d)
  (hk:if c then d = .string else ∃e,d = .slice e) (h:eV c x=ab1 v) (b:VR F w G x X) :
  ∃V,(aai #[t] ty #[X]).run P w = .ok V w/\VR F w G v V:=by
 unfold eV at h;split at h
 . cases h;simp at hk;subst hk;obtain rfl:=b.kT;refine⟨_,?_,.int _ _⟩;simp[aai,run_underlying a,goInt,Et]
 . cases h;simp at hk;obtain⟨e,rfl⟩:=hk;cases b<;>exact⟨_,by simp[aai,run_underlying a,goInt],.int _ _⟩
 . cases h;simp at hk;obtain⟨e,rfl⟩:=hk;cases b;exact⟨_,by simp[aai,run_underlying a,goInt],.int _ _⟩
 ·cases h
theorem On{mx:Bool}:∀(xs:List I)(Xs:List Value)(x v:I)(X:Value),nT mx x xs=ab1 v->VR F w G x X->xs.length=Xs.length ->
  (∀(j:Nat)(c:I)(V:Value),xs[j]?=ab1 c->Xs[j]?=ab1 V->VR F w G c V) ->
  ∃V,(Xs.foldlM (if mx then aaj else aak) X).run P w = .ok V w/\VR F w G v V:=by
 intro xs;induction xs with
 | nil=>
  intro Xs x v X h e hl _;cases Xs with
  |nil=>cases h;exact⟨X,rfl,e⟩
  |cons _ _=>cases hl
 | cons y xs i=>
  intro Xs x v X h e hl f;cases Xs with
  |nil=>cases hl
  | cons Y Xs=>
   have l:=f 0 y Y rfl rfl;simp only[nT]at h;split at h
   . rename_i z d;unfold qF at d;split at d
     . rename_i k a o b;obtain rfl:=e.im;obtain rfl:=l.im;cases d;obtain⟨V,g,hv⟩:=i Xs _ v _ h (.int _ _) (by simpa using hl) λj c m hc n=>f (j+1) c m (by simpa using hc) (by simpa using n);refine⟨V,?_,hv⟩;cases mx<;>simp[List.foldlM_cons,aaj,aak]at g ⊢ <;> exact g
     ·cases d
   ·cases h
end
end Rb
namespace Rb
open Go
variable{o:Obj}{i:Nat}{C:Array Value}{e:TypeId}{x:c0}
section
variable{P:Program}{F:el}{w R:World}{G G':ch}{H H':O}
structure d_(w R:World)(o:Obj):Prop where
 heap:R.heap=w.heap.push o
 os:R.os=w.os
 tape:R.tape=w.tape
 output:R.output=w.output
 drawn:w.drawn<=R.drawn
theorem d_.alloc(w:World)(o:Obj):d_ w (w.alloc o) o:=⟨rfl,rfl,rfl,rfl,hT _⟩
theorem d_.drew(w:World)(o:Obj):d_ w (w.drew.alloc o) o:=⟨rfl,rfl,rfl,rfl,aal _⟩
theorem d_.eN(h:d_ w R o){k:Nat}(hk:k<w.heap.size):R.heap[k]?=w.heap[k]?:=by rw[h.heap,Array.getElem?_push,bg]
theorem d_.new(h:d_ w R o):R.heap[w.heap.size]?=ab1 o:=by rw[h.heap];simp
theorem d_.size(h:d_ w R o):R.heap.size=w.heap.size+1:=by rw[h.heap];simp
theorem d_.cell(h:d_ w R o){a:Addr}{V:Value}(hc:w.cell? a=ab1 V):R.cell? a=ab1 V:=by rw[aam (w:=w) (h.eN (aan w a hc))];exact hc
theorem hd.lt(h:hd F w G i x)(hl:x.live=abZ):G.loc i<w.heap.size:=by
 cases x with
 |gone=>cases hl
 |row cs=>obtain⟨C,e,hc,_⟩:=h;exact(aao.1 hc).1
 |tok n sz=>obtain⟨C,e,hc,_⟩:=h;exact(aao.1 hc).1
 |hX s pos=>exact(aao.1 h.1).1
theorem Rel.jL(h:Rel F w G H)(hl:(H.o i).live=abZ):i<G.n:=by
 rw[h.n];rcases z8 i H.n with a|a
 ·exact a
 ·rw[h.over i a]at hl;cases hl
theorem hd.cv(h:hd F w G i x)(a:GLe w G R G')(hi:x.live=abZ->i<G.n)(f:x.live=abZ->R.heap[G.loc i]?=w.heap[G.loc i]?)
  (hf:x.live=abZ->∀j,G'.fz (G.loc i) j->G.fz (G.loc i) j):hd F R G' i x:=by
 cases x with
 |gone=>trivial
 | row cs=>
  obtain⟨C,e,hc,hs,d,hv⟩:=h;refine⟨C,e,?_,?_,?_,λj c b=>?_⟩
  ·rw[a.loc i (hi rfl),f rfl];exact hc
  ·rw[a.cap i (hi rfl)];exact hs
  ·rw[a.loc i (hi rfl)];exact λj b=>d j (hf rfl j b)
  ·obtain⟨V,g,k⟩:=hv j c b;exact⟨V,g,k.mono a⟩
 | tok n sz=>
  obtain⟨C,e,hc,hs,hk,d⟩:=h;refine⟨C,e,?_,?_,hk,?_⟩
  ·rw[a.loc i (hi rfl),f rfl];exact hc
  ·rw[a.cap i (hi rfl)];exact hs
  ·rw[a.loc i (hi rfl)];exact λj hn b=>d j hn (hf rfl j b)
 | hX s pos=>
  obtain⟨hc,d⟩:=h;refine⟨?_,?_⟩
  ·rw[a.loc i (hi rfl),f rfl];exact hc
  ·rw[a.loc i (hi rfl)];exact λj b=>d j (hf rfl j b)
theorem Rel.kill(h:Rel F w G H)(i:Nat)(hi:i<H.n):Rel F w G (H.set i .gone)/\Step w G H w G (H.set i .gone):=by
 have ho:∀j,((H.set i .gone).o j).live=abZ->(H.o j).live=abZ/\(H.set i .gone).o j=H.o j:=by
  intro j a;simp only[O.set]at a ⊢;split at a
  ·cases a
  ·rename_i b;exact⟨a,ad b⟩
 refine⟨⟨h.n,λj a=>?_,λj=>?_,λj k c U d=>h.hJ j k c (ho j U).1 (ho k d).1,h.ig⟩,?_⟩
 . simp only[O.set]at a ⊢;split
   ·rfl
   ·exact h.over j a
 . simp only[O.set];split
   ·trivial
   ·exact h.obj j
 ·exact {GLe.refl w G with size:=hT _,os:=rfl,tape:=rfl,output:=rfl,dr:=hT _,eN:=λ_ _ _=>rfl,owned:=λj a _=>⟨j,(ho j a).1,rfl⟩,hg:=λ_ _ h=> .inl h}
def ch.ez(G:ch)(b lo hi:Nat):ch:={G with fz:=λx y=>G.fz x y\/(x=b/\lo<=y/\y<hi)}
def ch.more(G:ch)(b c:Nat):ch:={G with n:=G.n+1,loc:=λi=>if i=G.n then b else G.loc i,cap:=λi=>if i=G.n then c else G.cap i}
theorem GLe.ez(h:d_ w R o)(b lo hi:Nat):GLe w G R (G.ez b lo hi):=⟨hT _,λ_ _=>rfl,λ_ _=>rfl,λ_ _ hf=> .inl hf,λ_ _ _ _ hc=>h.cell hc⟩
theorem GLe.more(h:d_ w R o)(b c:Nat):GLe w G R (G.more b c):=⟨aal _,λi hi=>ad (aap hi),λi hi=>ad (aap hi),λ_ _ hf=>hf,λ_ _ _ _ hc=>h.cell hc⟩
theorem GLe.zO(h:d_ w R o)(b lo hi a c:Nat):GLe w G R ((G.ez b lo hi).more a c):=⟨aal _,λi hi=>ad (aap hi),λi hi=>ad (aap hi),λ_ _ hf=> .inl hf,λ_ _ _ _ hc=>h.cell hc⟩
theorem Rel.frozen(h:Rel F w G H)(a:d_ w R (.cells C e)) :
  Rel F R (G.ez w.heap.size 0 C.size) H/\Step w G H R (G.ez w.heap.size 0 C.size) H:=by
 have f:=GLe.ez (G:=G) a w.heap.size 0 C.size;have g:∀i,(H.o i).live=abZ->G.loc i≠w.heap.size:=λi hl=>aap ((h.obj i).lt hl);refine⟨⟨h.n,h.over,λi=>(h.obj i).cv f (λhl=>h.jL hl) (λhl=>a.eN ((h.obj i).lt hl)) λhl j c=>?_,h.hJ,λb o d=>?_⟩,?_⟩
 . rcases c with c|⟨c,_⟩
   ·exact c
   ·exact absurd c (g i hl)
 . rcases d with d|⟨rfl,_,ho⟩
   ·obtain⟨V,l⟩:=h.ig b o d;exact⟨V,a.cell l⟩
   ·exact⟨C[o],by rw[cell_of_row R _ o C e (0,0) a.new];exact ZG ho⟩
 ·exact {f with size:=by rw[a.size];omega,os:=a.os,tape:=a.tape,output:=a.output,dr:=a.drawn,eN:=λk hk _=>a.eN hk,owned:=λi hl _=>⟨i,hl,rfl⟩,hg:=λb o hf=>hf.imp id λhf=> .inl (aaq hf.1.symm)}
theorem Rel.frozenAt(h:Rel F w G H)(a:d_ w R o)(n:Nat)(hc:∀j,j<n->∃V,R.cell? ⟨w.heap.size,j,ab2⟩=ab1 V) :
  Rel F R (G.ez w.heap.size 0 n) H/\Step w G H R (G.ez w.heap.size 0 n) H:=by
 have e:=GLe.ez (G:=G) a w.heap.size 0 n;have f:∀i,(H.o i).live=abZ->G.loc i≠w.heap.size:=λi hl=>aap ((h.obj i).lt hl);refine⟨⟨h.n,h.over,λi=>(h.obj i).cv e (λhl=>h.jL hl) (λhl=>a.eN ((h.obj i).lt hl)) λhl j c=>?_,h.hJ,λb o d=>?_⟩,?_⟩
 . rcases c with c|⟨c,_⟩
   ·exact c
   ·exact absurd c (f i hl)
 . rcases d with d|⟨rfl,_,ho⟩
   ·obtain⟨V,g⟩:=h.ig b o d;exact⟨V,a.cell g⟩
   ·exact hc o ho
 ·exact {e with size:=by rw[a.size];omega,os:=a.os,tape:=a.tape,output:=a.output,dr:=a.drawn,eN:=λk hk _=>a.eN hk,owned:=λi hl _=>⟨i,hl,rfl⟩,hg:=λb o hf=>hf.imp (λh=>h) λhf=> .inl (aaq hf.1.symm)}
theorem Oo(b:d_ w R (.cells C e)){cs:List I}(hv:bG F w G cs C) :
  (∀(j:Nat)(c:I),cs[j]?=ab1 c->(G.ez w.heap.size 0 C.size).fz w.heap.size (0+j)/\R.cell? ⟨w.heap.size,0+j,ab2⟩=ab1 (C.getD j undef)) /\
  (∀(j:Nat)(c:I),cs[j]?=ab1 c->VR F R (G.ez w.heap.size 0 C.size) c (C.getD j undef)):=by
 have f:=GLe.ez (G:=G) b w.heap.size 0 C.size;have key:∀(j:Nat)(c:I),cs[j]?=ab1 c->C[j]?=ab1 (C.getD j undef)/\j<C.size:=by intro j c a;have d:j<C.size:=hv.1▸(ZF.1 a).1;exact⟨by simp[d],d⟩
 refine⟨λj c a=>?_,λj c a=>(hv.2 j c _ a (key j c a).1).mono f⟩;rw[aar];exact⟨.inr ⟨rfl,aad _,(key j c a).2⟩,by rw[cell_of_row R _ j C e (0,0) b.new];exact(key j c a).1⟩
theorem Rel.push(h:Rel F w G H)(a:d_ w R (.cells C e))(hi c:Nat)(z:hi<=C.size)(x:c0)
  (u:hd F R ((G.ez w.heap.size 0 hi).more w.heap.size c) H.n x) :
  Rel F R ((G.ez w.heap.size 0 hi).more w.heap.size c) (H.push x)/\Step w G H R ((G.ez w.heap.size 0 hi).more w.heap.size c) (H.push x):=by
 have s:=GLe.zO (G:=G) a w.heap.size 0 hi w.heap.size c;have hn:=h.n;have p:∀i,(H.o i).live=abZ->G.loc i≠w.heap.size:=λi hl=>aap ((h.obj i).lt hl);have f:∀i,i≠H.n->((G.ez w.heap.size 0 hi).more w.heap.size c).loc i=G.loc i:=λi hi=>ad (show ¬i=G.n by omega);have q:((G.ez w.heap.size 0 hi).more w.heap.size c).loc H.n=w.heap.size:=aa hn.symm;have ho:∀i,i≠H.n->(H.push x).o i=H.o i:=λi hi=>ad hi;refine⟨⟨by show G.n+1=H.n+1;omega,λi d=>?_,λi=>?_,λi j v U m=>?_,λb o r=>?_⟩,?_⟩
 . have t:H.n+1<=i:=d;rw[ho i (by omega)];exact h.over i (by omega)
 . by_cases c8:i=H.n
   . subst c8;show hd F R _ H.n (if H.n=H.n then x else H.o H.n);rw[aa rfl];exact u
   . rw[ho i c8];refine(h.obj i).cv s (λhl=>h.jL hl) (λhl=>a.eN ((h.obj i).lt hl)) λhl j g=>?_;rcases g with g|⟨g,_⟩
     ·exact g
     ·exact absurd g (p i hl)
 . by_cases d:i=H.n<;>by_cases l:j=H.n
   ·omega
   ·rw[d,q,f j l];rw[ho j l]at m;exact(p j m).symm
   ·rw[l,q,f i d];rw[ho i d]at U;exact p i U
   ·rw[f i d,f j l];rw[ho i d]at U;rw[ho j l]at m;exact h.hJ i j v U m
 . rcases r with r|⟨rfl,_,A⟩
   ·obtain⟨V,y⟩:=h.ig b o r;exact⟨V,a.cell y⟩
   ·exact⟨C[o],by rw[cell_of_row R _ o C e (0,0) a.new];exact ZG (by omega)⟩
 . refine {s with size:=by rw[a.size];omega,os:=a.os,tape:=a.tape,output:=a.output,dr:=a.drawn,eN:=λk hk _=>a.eN hk,owned:=λi hl t=>?_,hg:=λb o hf=>hf.imp id λhf=> .inl (aaq hf.1.symm)};by_cases c8:i=H.n
   ·rw[c8,q]at t;omega
   . rw[ho i c8]at hl;exact⟨i,hl,(f i c8).symm⟩
theorem Rel.Oq(h:Rel F w G H)(a:d_ w R o)(c:Nat)(x:c0)(r:hd F R (G.more w.heap.size c) H.n x) :
  Rel F R (G.more w.heap.size c) (H.push x)/\Step w G H R (G.more w.heap.size c) (H.push x):=by
 have m:=GLe.more (G:=G) a w.heap.size c;have hn:=h.n;have p:∀i,(H.o i).live=abZ->G.loc i≠w.heap.size:=λi hl=>aap ((h.obj i).lt hl);have e:∀i,i≠H.n->(G.more w.heap.size c).loc i=G.loc i:=λi hi=>ad (show ¬i=G.n by omega);have l:(G.more w.heap.size c).loc H.n=w.heap.size:=aa hn.symm;have ho:∀i,i≠H.n->(H.push x).o i=H.o i:=λi hi=>ad hi;refine⟨⟨by show G.n+1=H.n+1;omega,λi d=>?_,λi=>?_,λi j s U g=>?_,λb o t=>?_⟩,?_⟩
 . have q:H.n+1<=i:=d;rw[ho i (by omega)];exact h.over i (by omega)
 . by_cases c8:i=H.n
   . subst c8;show hd F R _ H.n (if H.n=H.n then x else H.o H.n);rw[aa rfl];exact r
   . rw[ho i c8];exact(h.obj i).cv m (λhl=>h.jL hl) (λhl=>a.eN ((h.obj i).lt hl)) λ_ _ u=>u
 . by_cases d:i=H.n<;>by_cases f:j=H.n
   ·omega
   ·rw[d,l,e j f];rw[ho j f]at g;exact(p j g).symm
   ·rw[f,l,e i d];rw[ho i d]at U;exact p i U
   ·rw[e i d,e j f];rw[ho i d]at U;rw[ho j f]at g;exact h.hJ i j s U g
 ·obtain⟨V,v⟩:=h.ig b o t;exact⟨V,a.cell v⟩
 . refine {m with size:=by rw[a.size];omega,os:=a.os,tape:=a.tape,output:=a.output,dr:=a.drawn,eN:=λk hk _=>a.eN hk,owned:=λi hl q=>?_,hg:=λ_ _ h=> .inl h};by_cases c8:i=H.n
   ·rw[c8,l]at q;omega
   . rw[ho i c8]at hl;exact⟨i,hl,(e i c8).symm⟩
theorem Rel.Ot(h:Rel F w G H)(a:d_ w R o):Rel F R G H/\Step w G H R G H:=by
 have c:GLe w G R G:=⟨hT _,λ_ _=>rfl,λ_ _=>rfl,λ_ _ hf=>hf,λ_ _ _ _ hc=>a.cell hc⟩
 refine⟨⟨h.n,h.over,λi=>(h.obj i).cv c (λhl=>h.jL hl) (λhl=>a.eN ((h.obj i).lt hl)) λ_ _ d=>d,h.hJ,λb o e=>?_⟩,?_⟩
 ·obtain⟨V,f⟩:=h.ig b o e;exact⟨V,a.cell f⟩
 ·exact {c with size:=by rw[a.size];omega,os:=a.os,tape:=a.tape,output:=a.output,dr:=a.drawn,eN:=λk hk _=>a.eN hk,owned:=λi hl _=>⟨i,hl,rfl⟩,hg:=λ_ _ h=> .inl h}
theorem Rel.zP(h:Rel F w G H){b c:Nat}(k:∀i,(H.o i).live=abZ->G.loc i≠b)(x:c0)(m:GLe w G w (G.more b c)->hd F w (G.more b c) H.n x) :
  GLe w G w (G.more b c)/\Rel F w (G.more b c) (H.push x):=by
 have g:GLe w G w (G.more b c):=⟨aal _,λi hi=>ad (aap hi),λi hi=>ad (aap hi),λ_ _ hf=>hf,λ_ _ _ _ hc=>hc⟩
 have hn:=h.n;have e:∀i,i≠H.n->(G.more b c).loc i=G.loc i:=λi hi=>ad (show ¬i=G.n by omega);have l:(G.more b c).loc H.n=b:=aa hn.symm;have ho:∀i,i≠H.n->(H.push x).o i=H.o i:=λi hi=>ad hi;refine⟨g,⟨by show G.n+1=H.n+1;omega,λi a=>?_,λi=>?_,λi j p U f=>?_,h.ig⟩⟩
 . have r:H.n+1<=i:=a;rw[ho i (by omega)];exact h.over i (by omega)
 . by_cases c8:i=H.n
   . subst c8;show hd F w _ H.n (if H.n=H.n then x else H.o H.n);rw[aa rfl];exact m g
   . rw[ho i c8];exact(h.obj i).cv g (λhl=>h.jL hl) (λ_=>rfl) λ_ _ q=>q
 . by_cases a:i=H.n<;>by_cases d:j=H.n
   ·omega
   ·rw[a,l,e j d];rw[ho j d]at f;exact(k j f).symm
   ·rw[d,l,e i a];rw[ho i a]at U;exact k i U
   ·rw[e i a,e j d];rw[ho i a]at U;rw[ho j d]at f;exact h.hJ i j p U f
structure lJ(w R:World)(g:Nat):Prop where
 size:R.heap.size=w.heap.size
 other:∀k,k≠g->R.heap[k]?=w.heap[k]?
 os:R.os=w.os
 tape:R.tape=w.tape
 output:R.output=w.output
 drawn:w.drawn<=R.drawn
theorem lJ.setRow(w:World)(g:Nat)(C:Array Value):lJ w (w.setRow g C) g:=⟨by simp[aas],λk hk=>by simp[aas,Array.getElem?_modify,Ne.symm hk],rfl,rfl,rfl,hT _⟩
theorem Rel.write(h:Rel F w G H)(hl:(H.o i).live=abZ)(l:∀j,¬G.fz (G.loc i) j)(ht:lJ w R (G.loc i))(x:c0)(u:x.live=abZ)(m:GLe w G R G->hd F R G i x) :
  Rel F R G (H.set i x)/\Step w G H R G (H.set i x):=by
 have d:GLe w G R G:=⟨hT _,λ_ _=>rfl,λ_ _=>rfl,λ_ _ hf=>hf,λb o V hf hc=>by have f:b≠G.loc i:=λe=>l o (e▸hf);rw[aam (w:=w) (ht.other b f)];exact hc⟩
 have c8:i<H.n:=h.n▸h.jL hl;have ho:∀j,j≠i->(H.set i x).o j=H.o j:=λj c=>ad c;have p:(H.set i x).o i=x:=aa rfl;refine⟨⟨h.n,λj c=>?_,λj=>?_,λj k q U r=>?_,λb o f=>?_⟩,?_⟩
 . have s:H.n<=j:=c;rw[ho j (by omega)];exact h.over j s
 . by_cases a:j=i
   ·subst a;rw[p];exact m d
   . rw[ho j a];exact(h.obj j).cv d (λhl=>h.jL hl) (λg=>ht.other _ (h.hJ j i a g hl)) λ_ _ hf=>hf
 . have key:∀j,((H.set i x).o j).live=abZ->(H.o j).live=abZ:=by
     intro j c;by_cases a:j=i
     ·subst a;exact hl
     ·rw[ho j a]at c;exact c
   exact h.hJ j k q (key j U) (key k r)
 . obtain⟨V,t⟩:=h.ig b o f;exact⟨V,d.cell b o V f t⟩
 . refine {d with size:=by rw[ht.size];exact hT _,os:=ht.os,tape:=ht.tape,output:=ht.output,dr:=ht.drawn,eN:=λk _ hn=>ht.other k (λe=>hn i hl e.symm),owned:=λj g _=>?_,hg:=λ_ _ h=> .inl h};by_cases a:j=i
   ·subst a;exact⟨j,hl,rfl⟩
   ·rw[ho j a]at g;exact⟨j,g,rfl⟩
end
end Rb
namespace Rb
open Go
variable{cs:List I}{o b n:Nat}{t:TypeId}{agg:Bool}{v x:I}{X:Value}
section
variable{P:Program}{F:el}{w:World}{G:ch}{H:O}
def kU(F:el)(w:World)(G:ch)(H:O)(v:I)(H':O)(r:Result Value):Prop:=∃V R G',r = .ok V R/\VR F R G' v V/\Rel F R G' H'/\Step w G H R G' H'
def lK(F:el)(w:World)(G:ch)(b o:Nat)(cs:List I):Prop:=∀(j:Nat)(c:I),cs[j]?=ab1 c->∃V,w.cell? ⟨b,o+j,ab2⟩=ab1 V/\VR F w G c V
theorem lK.nW(h:lK F w G b o cs):∃Vs:List Value,bG F w G cs Vs.toArray/\∀(j:Nat)(V:Value),Vs[j]?=ab1 V->w.cell? ((⟨b,o,ab2⟩:Addr).add j)=ab1 V:=by
 refine⟨(aat cs.length).map λj=>(w.cell? ⟨b,o+j,ab2⟩).getD undef,bG.nV (by simp) λj c V hc a=>?_,λj V a=>?_⟩
 . obtain⟨k,f,g⟩:=h j c hc;have e:=(ZF.1 hc).1;simp[e,f]at a;subst a;exact g
 . rw [lH];simp only[aau]at a;cases d:(aat cs.length)[j]? with
   |none=>simp[d]at a
   | some i=>
    have e:j<cs.length:=by have:=(ZF.1 d).1;simpa using this
    have:i=j:=by simp[e]at d;exact d.symm
    subst this;simp[d]at a;obtain⟨k,f,g⟩:=h i cs[i] (aav e);rw[f]at a ⊢;simpa using a
theorem lK.cut(h:lK F w G b o cs)(n m:Nat):lK F w G b (o+n) ((cs.drop n).take m):=by
 intro j c a;rw[ZH]at a;split at a
 . rw[ZI]at a;obtain⟨V,d,e⟩:=h _ _ a;exact⟨V,by rw[Z1];exact d,e⟩
 ·cases a
theorem Ev{n o b a:Nat}(i:jl P t n agg=abZ)(h:bY cs o n agg=ab1 v)(hc:lK F w G b a cs) :
  ∃V,(loadVar t ⟨b,a+o,ab2⟩).run P w = .ok V w/\VR F w G v V:=by
 obtain⟨d,inf,c,hi,e,hs,m⟩:=tz i;unfold bY at h;split at h
 . rename_i hle;cases agg with
   | true=>
    simp at h;subst h;obtain⟨Vs,f,j⟩:=(hc.cut o n).nW;have hlen:Vs.length=n:=by have:=f.1;simp at this;omega
    have g:=run_loadCells_list (P:=P) w ⟨b,a+o,ab2⟩ Vs j;rw[hlen]at g;refine⟨_,?_,f.agg⟩;cases d<;>simp[iQ]at e<;>simp[loadVar,isAgg,ZK,typeInfo,run_underlying c,hi,hs,g]
   | false=>simp at h;obtain⟨V,k,l⟩:=hc _ _ h;refine⟨V,?_,l⟩;cases d<;>simp[iQ]at e<;>simp[loadVar,isAgg,run_underlying c,k]
 ·cases h
theorem hd.tB{i:Nat}(h:hd F w G i (.row cs)):lK F w G (G.loc i) 0 cs:=by obtain⟨C,e,hc,hs,f,hv⟩:=h;intro j c a;obtain⟨V,b,d⟩:=hv j c a;exact⟨V,by rw[aar,cell_of_row w _ j C e (0,0) hc];exact b,d⟩
theorem VR.Ou(h:VR F w G (.ak cs) (.pointer (ab1 ⟨b,o,ab2⟩))):lK F w G b o cs:=by
 cases h with
 |ak _ b o Vs h hv=>exact λj c a=>⟨Vs j,(h j c a).2,hv j c a⟩
theorem VR.Ov(h:VR F w G (.ak cs) X):∃b o,X = .pointer (ab1 ⟨b,o,ab2⟩):=by
 cases h with
 |ak _ b o Vs h hv=>exact⟨b,o,rfl⟩
theorem Ew(e:jl P t n agg=abZ)(g:Rel F w G H)(h:af H n agg x=ab1 v)(c:VR F w G x X) :
  ∃V,(aaw t X).run P w = .ok V w/\VR F w G v V:=by
 unfold af at h;split at h
 . rename_i id o;split at h
   . rename_i cs ho;have f:=g.obj id;rw[ho]at f;obtain⟨V,a,d⟩:=Ev e h f.tB;rw[aar]at a;cases c with
     |ptr _ _ i=>exact⟨V,by simp[aaw,Z3,a],d⟩
   ·cases h
 . rename_i cs;obtain⟨b,o,rfl⟩:=c.Ov;obtain⟨V,a,d⟩:=Ev e h c.Ou;exact⟨V,by simp[aaw,Z3];simpa using a,d⟩
 ·cases h
theorem Ex(l:List I):∀(cs:List I)(o j:Nat),o+l.length<=cs.length->(setCells cs o l)[j]?=if o<=j/\j<o+l.length then l[j-o]? else cs[j]?:=by
 induction l with
 |nil=>intro cs o j _;simp[setCells];intro U a;omega
 | cons c l b=>
  intro cs o j hl;simp only[List.length_cons]at hl;rw[setCells,b _ _ _ (by simp;omega)];by_cases U:j=o
  . subst U;rw[bg,km,aax (by omega)];simp
  . by_cases a:o+1<=j/\j<o+1+l.length
    . rw[aa a,nX];have:j-o=(j-(o+1))+1:=by omega
      rw[this];simp
    . rw[ad a,aay (by omega),jZ]
theorem zQ(C:Array Value)(L:List Value)(o j:Nat)(h:o+L.length<=C.size) :
  (C.toList.take o++L++C.toList.drop (o+L.length)).toArray[j]?=if o<=j/\j<o+L.length then L[j-o]? else C[j]?:=by
 simp only[aaz];rw[List.append_assoc,Z5];have a:(C.toList.take o).length=o:=by simp;omega
 rw[a];by_cases U:j<o
 ·rw[aa U,bg,ZH,aa U];simp
 . rw [ad U,Z5];by_cases b:j<o+L.length
   ·rw[cX,cX]
   . rw[bg,bg,ZI];have:o+L.length+(j-o-L.length)=j:=by omega
     rw[this];simp
theorem zR{id o:Nat}{cs l:List I}{L:List Value}(g:Rel F w G H)(ho:H.o id = .row cs)(hl:bG F w G l L.toArray)(p:o+l.length<=cs.length)(q:l.all I.scalar=abZ) :
  ∃R,(storeCells ⟨G.loc id,o,ab2⟩ L).run P w = .ok () R/\Rel F R G (H.set id (.row (setCells cs o l)))/\Step w G H R G (H.set id (.row (setCells cs o l))):=by
 have h:=g.obj id;rw[ho]at h;obtain⟨C,e,hc,hs,i,hv⟩:=h;have u:cs.length<=C.size:=by
  rcases z8 C.size cs.length with d|r
  . obtain⟨V,b,_⟩:=hv C.size cs[C.size] (aav d);simp at b
  ·exact r
 have v:l.length=L.length:=by simpa using hl.1
 have s:o+0+L.length<=C.size:=by omega
 have k:=run_storeCells_at P (G.loc id) o e L 0 C w hc s (λV b=>by
   obtain⟨j,a,rfl⟩:=aaA.1 b;have m:j<l.length:=by omega
   have f:=hl.2 j l[j] L[j] (aav m) (by simp[a]);exact f.Er (aaB.1 q _ (aaC m)))
 simp only[aah]at k;refine⟨_,k,?_⟩;have t:(H.o id).live=abZ:=by rw[ho];rfl
 refine g.write t i (lJ.setRow w _ _) _ rfl λn=>⟨_,e,setRow_heap w (G.loc id) C _ e (0,0) hc,?_,i,λj c a=>?_⟩
 ·rw[<-hs];simp;omega
 . rw [Ex l cs o j p]at a;rw[zQ C L o j (by omega)];split at a
   . rename_i c8;rw[cX];have d:j-o<L.length:=by omega
     exact⟨L[j-o],aav d,(hl.2 (j-o) c L[j-o] a (by simp[d])).mono n⟩
   . rename_i c8;rw[bg];obtain⟨V,b,f⟩:=hv j c a;exact⟨V,b,f.mono n⟩
theorem Ow{X V:Value}{H':O}(a:jl P t n agg=abZ)(b:Rel F w G H)(h:bZ H n x v=ab1 H')(c:VR F w G x X)(hv:VR F w G v V) :
  ∃R,(aaD t X V).run P w = .ok () R/\Rel F R G H'/\Step w G H R G H':=by
 obtain⟨d,inf,k,hi,m,hs,p⟩:=tz a;unfold bZ at h;split at h
 . rename_i id o;split at h
   . rename_i cs ho;split at h
     . rename_i hk;obtain⟨e,q,f,r⟩:=hk;cases h;have hc:=hv.zM e;obtain⟨R,g,i⟩:=zR (P:=P) (o:=o) (l:=v.cells) (L:=V.cells.toList) b ho (by simpa using hc) (by omega) f;cases c with
       | ptr _ _ s=>
        refine⟨R,?_,i⟩;have j:V.cells.size=inf.size:=by rw[<-hc.1];omega
        simp[aaD,Z3,storeVar,ZK,typeInfo,hi,j];exact g
     ·cases h
   ·cases h
 ·cases h
end
end Rb
namespace Rb
open Go
variable{e t:TypeId}{mu:Bool}{C:Array Value}{cs zero:List I}{H':O}{inf:TypeInfo}{z:Value}
section
variable{P:Program}{F:el}{w R:World}{G:ch}{H:O}
theorem Rel.zS(h:Rel F w G H)(j:Nat):¬G.fz w.heap.size j:=λhf=>by obtain⟨V,a⟩:=h.ig _ _ hf;have:=aan w _ a;simp at this
theorem tC(d:Rel F w G H)(f:d_ w R (.cells C e))(hv:∀(j:Nat)(c:I),cs[j]?=ab1 c->∃V,C[j]?=ab1 V/\VR F w G c V) :
  ∃G',Rel F R G' (H.push (.row cs))/\Step w G H R G' (H.push (.row cs))/\H.n<G'.n/\G'.loc H.n=w.heap.size/\G'.cap H.n=C.size:=by
 have hn:=d.n;have g:((G.ez w.heap.size 0 0).more w.heap.size C.size).loc H.n=w.heap.size:=aa hn.symm;have h:((G.ez w.heap.size 0 0).more w.heap.size C.size).cap H.n=C.size:=aa hn.symm;have b:=d.push f 0 C.size (aad _) (.row cs) ⟨C,e,by rw[g];exact f.new,h.symm,λj a=>by
   rw[g]at a;rcases a with a|⟨_,_,a⟩
   ·exact d.zS j a
   ·omega,λj c a=>by
   obtain⟨V,i,b⟩:=hv j c a;exact⟨V,i,b.mono (GLe.zO f _ _ _ _ _)⟩⟩
 exact⟨_,b.1,b.2,by show H.n<G.n+1;omega,g,h⟩
theorem bG.part(h:bG F w G cs C):∀(j:Nat)(c:I),cs[j]?=ab1 c->∃V,C[j]?=ab1 V/\VR F w G c V:=λj c a=>h.get a
theorem zT(c:Rel F w G H)(a:d_ w R (.cells C e))(hv:bG F w G cs C) :
  ∃G',Rel F R G' H/\Step w G H R G' H/\VR F R G' (.ak cs) (.pointer (ab1 ⟨w.heap.size,0,ab2⟩))/\∀len,VR F R G' (.aj .full len cs) (.slice (ab1 ⟨w.heap.size,0,ab2⟩) len len):=by
 have b:=c.frozen a;have hc:=Oo (G:=G) a hv;exact⟨_,b.1,b.2,.ak _ _ _ _ hc.1 hc.2,λlen=> .aj _ _ _ _ _ _ _ rfl (hT _) hc.1 hc.2⟩
theorem Ey{e:TypeId}{mu:Bool}(c:Rel F w G H)(hv:bG F w G cs C) :
  kU F w G H (bx H mu cs).1 (bx H mu cs).2 (.ok (.pointer (ab1 ⟨w.heap.size,0,ab2⟩)) (w.alloc (.cells C e))):=by
 unfold bx;cases mu with
 | true=>obtain⟨G',a,b,hn,d,g⟩:=tC c (d_.alloc w (.cells C e)) hv.part;exact⟨_,_,G',rfl,by rw[<-d];exact .ptr _ _ hn,a,b⟩
 | false=>obtain⟨G',a,b,f,_⟩:=zT c (d_.alloc w (.cells C e)) hv;exact⟨_,_,G',rfl,f,a,b⟩
theorem Ox{t:TypeId}{n:Nat}{x v:I}{X:Value}(a:Rel F w G H)(h:cg H mu n x=ab1 (v,H'))(b:VR F w G x X) :
  kU F w G H v H' ((aaE t X).run P w):=by
 unfold cg at h;split at h
 . rename_i hk;have c:=Ey (e:=t) (mu:=mu) a (b.zM hk.1);have d:(aaE t X).run P w = .ok (.pointer (ab1 ⟨w.heap.size,0,ab2⟩)) (w.alloc (.cells X.cells t)):=by
    simp[aaE,newVar,newRow]
   rw[d];have e:=ZW.inj h;rw[show v=(bx H mu x.cells).1 from(congrArg Prod.fst e).symm,show H'=(bx H mu x.cells).2 from(congrArg Prod.snd e).symm];exact c
 ·cases h
theorem range_zero:aaF 0 = #[]:=rfl
theorem Oy{mu:Bool}(a:Rel F w G H)(hi:P.info? t=ab1 inf)(b:inf.zero=ab1 z)(hv:bG F w G zero z.cells) :
  kU F w G H (bx H mu zero).1 (bx H mu zero).2 ((aaG t abZ (.tuple #[])).run P w):=by
 have c:=Ey (e:=t) (mu:=mu) a hv;have d:(aaG t abZ (.tuple #[])).run P w = .ok (.pointer (ab1 ⟨w.heap.size,0,ab2⟩)) (w.alloc (.cells z.cells t)):=by simp[aaG,zeroValue,typeInfo,hi,b,newVar,newRow]
 rw[d];exact c
theorem Oz{α:Type}(l:List α):∀(n i:Nat),((Gd n l).flatten)[i]?=if i<n*l.length then l[i%l.length]? else ab2:=by
 intro n;induction n with
 |zero=>intro i;simp
 | succ n b=>
  intro i;rw[aaH,aaI,Z5];by_cases h:i<l.length
  ·rw[aa h,aa (by rw[aae];omega),Nat.mod_eq_of_lt h]
  . rw [ad h,b];have e:i-l.length<n*l.length↔i<(n+1)*l.length:=by rw[aae];omega
    by_cases a:i<(n+1)*l.length
    . rw[aa a,aa (e.2 a)];congr 1;rw[Nat.mod_eq_sub_mod (by omega:i>=l.length)]
    ·rw[ad a,ad (λc=>a (e.1 c))]
theorem zU{Z:Array Value}(h:bG F w G zero Z)(n:Nat):bG F w G (Gd n zero).flatten ((aaF (n*zero.length)).map λi=>Z[i%Z.size]!):=by
 refine⟨by simp,λj c V hc a=>?_⟩;rw[Oz]at hc;split at hc
 . rename_i d;simp only[Array.getElem?_map,Array.getElem?_range,d,aQ,ZX,ZW.injEq]at a;obtain⟨e,b,f⟩:=h.get hc;rw[h.1]at b;have:Z[j%Z.size]! = e:=by
    rw[getElem!_def,b]
   rw[this]at a;subst a;exact f
 ·cases hc
theorem OA{t e:TypeId}{inf:TypeInfo}{mu:Bool}{sz len:Nat}{zero:List I}{z:Value}{b:List (Nat×Nat×I)}{ps:List (Nat×Value)}{v:I}{H':O}(m:Rel F w G H)
  (ht:P.underlying t=ab1 (.slice e)) (hi:P.info? e=ab1 inf) (hs:inf.size=sz) (q:inf.zero=ab1 z) (n:bG F w G zero z.cells) (o:zero.length=sz) (M:len*sz<=16777216)
  (hl:b.length=ps.length) (r:∀(j:Nat)(a:Nat×Nat×I)(p:Nat×Value),b[j]?=ab1 a->ps[j]?=ab1 p->(p.1*sz,sz)=(a.1,a.2.1)/\VR F w G a.2.2 p.2)
  (h:cU H mu sz len zero b=ab1 (v,H')):kU F w G H v H' ((aaJ t len ps.toArray).run P w):=by
 unfold cU at h;cases hf:jX (Gd len zero).flatten b with
 |none=>simp[hf]at h
 | some cells=>
  simp only[hf,ZX,ZW.injEq]at h;have s:=zU n len;obtain ⟨C,c,f⟩:=Eu (place:=λi=>ab1 (i*sz,sz)) b ps _ _ _ s hl (λj a p u x=>by obtain⟨U,y⟩:=r j a p u x;exact⟨by rw[U],y⟩) hf
  have A:¬(16777216<len*inf.size):=by rw[hs];omega
  have B:(aaJ t len ps.toArray).run P w = .ok (.slice (ab1 ⟨w.heap.size,0,ab2⟩) len len) (w.alloc (.cells C e)):=by
   rw[o]at c;subst hs;by_cases g:len*inf.size=0
   . have D:aag (λi=>ab1 (i*inf.size,inf.size)) #[] ps=ab1 C:=by
       rw[g,range_zero]at c;simpa using c
     simp[aaJ,run_underlying ht,ZK,typeInfo,hi,g,range_zero,D,newRow]
   ·simp[aaJ,run_underlying ht,ZK,typeInfo,zeroValue,hi,q,g,A,c,newRow]
  rw[B];cases mu with
  | true=>
   simp at h;obtain⟨rfl,rfl⟩:=h;obtain⟨G',k,l,hn,E,J⟩:=tC m (d_.alloc w (.cells C e)) f.part;refine⟨_,_,G',rfl,?_,k,l⟩;rw[<-E];refine .row _ _ _ _ _ hn (hT _) ?_;have:=zU n len;rw[J,<-f.1];have hlen:∀(b:List (Nat×Nat×I)) (cs d:List I),jX cs b=ab1 d->d.length=cs.length:=by
    intro b;induction b with
    |nil=>intro cs d h;cases h;rfl
    | cons a b K=>
     intro cs d h;simp only[jX]at h;split at h
     ·rw[K _ _ h,Ol]
     ·cases h
   rw[hlen _ _ _ hf];simp[o]
  | false=>simp at h;obtain⟨rfl,rfl⟩:=h;obtain⟨G',k,l,_,L⟩:=zT m (d_.alloc w (.cells C e)) f;exact⟨_,_,G',rfl,L len,k,l⟩
theorem OB{t e:TypeId}{inf:TypeInfo}{mu:Bool}{sz bytes:Nat}{zero:List I}{z:Value}{len cap v:I}{L f:Value}{H':O}(g:Rel F w G H)
  (ht:P.underlying t=ab1 (.slice e)) (hi:P.info? e=ab1 inf) (hs:inf.size=sz) (s:inf.bytes=bytes) (u:inf.zero=ab1 z) (x:bG F w G zero z.cells)
  (h:hp H mu sz bytes zero len cap=ab1 (v,H')) (hl:VR F w G len L) (hc:VR F w G cap f):kU F w G H v H' ((aaK t L f).run P w):=by
 unfold hp at h;split at h
 . rename_i n c;obtain rfl:=hl.im;obtain rfl:=hc.im;split at h
   . rename_i hk;obtain⟨j,y,J,K,k⟩:=hk;obtain⟨a,rfl⟩:=aaL j;obtain⟨c',rfl⟩:=aaL (Int.le_trans j y);have A:a<=c':=by omega
     have w1:aaM.wrap (a:Int)=a:=by simp[aaN,ZT,ZS];omega
     have w2:aaM.wrap (c':Int)=c':=by simp[aaN,ZT,ZS];omega
     have l:=zU x c';have m:¬(281474976710656<(inf.bytes:Int)*(c':Int)):=by rw[s];omega
     have o:¬((a:Int)<0):=by omega
     have p:¬((c':Int)<0):=by omega
     have q:¬(c'<a):=by omega
     have B:(aaK t (.int .i64 a) (.int .i64 c')).run P w =
       .ok (.slice (ab1 ⟨w.heap.size,0,ab2⟩) a c') (w.alloc (.cells ((aaF (c'*zero.length)).map λi=>z.cells[i%z.cells.size]!) e)):=by
      rw[k];subst hs;by_cases r:c'*inf.size=0
      ·simp[aaK,run_underlying ht,asInt,asIntOf,typeInfo,ZK,hi,w1,w2,m,o,p,q,r,range_zero,newRow]
      ·simp[aaK,run_underlying ht,asInt,asIntOf,typeInfo,ZK,zeroValue,hi,u,w1,w2,m,o,p,q,r,newRow]
     rw[B];simp only[Int.toNat_natCast]at h;cases mu with
     | true=>simp at h;obtain⟨rfl,rfl⟩:=h;obtain⟨G',b,d,hn,C,D⟩:=tC g (d_.alloc w (.cells _ e)) l.part;refine⟨_,_,G',rfl,?_,b,d⟩;rw[<-C];refine .row _ _ _ _ _ hn A ?_;rw[D];simp[k]
     | false=>
      simp at h;obtain⟨M,rfl,rfl⟩:=h;obtain rfl:a=c':=by omega
      obtain⟨G',b,d,_,E⟩:=zT g (d_.alloc w (.cells _ e)) l;exact⟨_,_,G',rfl,E a,b,d⟩
   ·cases h
 ·cases h
end
end Rb
namespace Rb
open Go
variable{sz m:Nat}{L M:List Value}{e:TypeId}{cs news:List I}{y:I}{Y z:Value}{C:Array Value}
section
variable{P:Program}{F:el}{w R:World}{G:ch}{H:O}
theorem Rel.pass(h:Rel F w G H){i:Nat}(hl:(H.o i).live=abZ)(ht:lJ w R (G.loc i))(lo hi:Nat)(r:GLe w G R ((G.ez (G.loc i) lo hi).more (G.loc i) (G.cap i)))(x:c0)
  (v:hd F R ((G.ez (G.loc i) lo hi).more (G.loc i) (G.cap i)) H.n x) (hf:∀o,lo<=o->o<hi->∃V,R.cell? ⟨G.loc i,o,ab2⟩=ab1 V) :
  Rel F R ((G.ez (G.loc i) lo hi).more (G.loc i) (G.cap i)) ((H.set i .gone).push x)/\Step w G H R ((G.ez (G.loc i) lo hi).more (G.loc i) (G.cap i)) ((H.set i .gone).push x):=by
 have hn:=h.n;have c8:i<H.n:=h.n▸h.jL hl;have g:∀j,j≠H.n->((G.ez (G.loc i) lo hi).more (G.loc i) (G.cap i)).loc j=G.loc j:=λj t=>ad (show ¬j=G.n by omega);have s:((G.ez (G.loc i) lo hi).more (G.loc i) (G.cap i)).loc H.n=G.loc i:=aa hn.symm;have y:((H.set i .gone).push x).o H.n=x:=aa rfl;have u:((H.set i .gone).push x).o i = .gone:=by show(if i=H.n then x else(if i=i then c0.gone else H.o i)) = .gone;rw[bg,aa rfl]
 have ho:∀j,j≠H.n->j≠i->((H.set i .gone).push x).o j=H.o j:=by intro j U a;show(if j=H.n then x else(if j=i then c0.gone else H.o j))=H.o j;rw[ad U,ad a]
 have l:∀j,j≠H.n->(((H.set i .gone).push x).o j).live=abZ->(H.o j).live=abZ/\j≠i:=by
  intro j U a;by_cases c:j=i
  ·rw[c,u]at a;cases a
  ·rw[ho j U c]at a;exact⟨a,c⟩
 refine⟨⟨by show G.n+1=H.n+1;omega,λj t=>?_,λj=>?_,λj k z U a=>?_,λb o q=>?_⟩,?_⟩
 . have I:H.n+1<=j:=t;rw[ho j (by omega) (by omega)];exact h.over j (by omega)
 . by_cases f:j=H.n
   ·subst f;rw[y];exact v
   . by_cases c:j=i
     ·rw[c,u];trivial
     . rw[ho j f c];refine(h.obj j).cv r (λd=>h.jL d) (λd=>ht.other _ (h.hJ j i c d hl)) λd k hk=>?_;rcases hk with hk|⟨hk,_⟩
       ·exact hk
       ·exact absurd hk (h.hJ j i c d hl)
 . by_cases m:j=H.n<;>by_cases p:k=H.n
   ·omega
   . obtain⟨A,B⟩:=l k p a;rw[m,s,g k p];exact(h.hJ k i B A hl).symm
   . obtain⟨C,D⟩:=l j m U;rw[p,s,g j m];exact h.hJ j i D C hl
   ·rw[g j m,g k p];exact h.hJ j k z (l j m U).1 (l k p a).1
 . rcases q with q|⟨rfl,U,a⟩
   . obtain⟨V,E⟩:=h.ig b o q;exact⟨V,r.cell b o V q E⟩
   ·exact hf o U a
 . refine {r with size:=by rw[ht.size];exact hT _,os:=ht.os,tape:=ht.tape,output:=ht.output,dr:=ht.drawn,eN:=λk _ hn=>ht.other k (λe=>hn i hl e.symm),owned:=λj d _=>?_,hg:=λb o hf=>hf.imp id λhf=> .inr ⟨i,hl,hf.1.symm⟩};by_cases f:j=H.n
   ·rw[f,s];exact⟨i,hl,rfl⟩
   ·exact⟨j,(l j f d).1,(g j f).symm⟩
theorem Ez(t ty e f:TypeId)(i:TypeInfo)(ht:P.underlying t=ab1 (.slice e))(hi:P.info? e=ab1 i)
  (g b d:Nat) (cur:Array Value) (k:w.heap[g]?=ab1 (.cells cur f (0,0)))
  (a:Addr) (m c:Nat) (news:List Value) (hl:news.length=m*i.size) (l:∀(j:Nat)(u:Value),news[j]?=ab1 u->w.cell? (a.add j)=ab1 u) (U:∀u∈news,u.oneCell'=abZ)
  (n:b+m<=d) (o:b*i.size+news.length<=cur.size) :
  (aaO #[t,t] ty #[.slice (ab1 ⟨g,0,ab2⟩) b d,.slice (ab1 a) m c]).run P w =
   .ok (.slice (ab1 ⟨g,0,ab2⟩) (b+m) d) (w.setRow g (cur.toList.take (b*i.size)++news++cur.toList.drop (b*i.size+news.length)).toArray):=by
 have hf:=run_firstCells_some (P:=P) w i.size m a m c news hl l;have h:=run_storeCells_at P g (b*i.size) f news 0 cur w k (by simpa using o) U;simp only[aah]at h;simp[aaO,run_underlying ht,ZK,typeInfo,hi,aaP,n,hf,aaQ,h]
theorem OC(t ty e:TypeId)(i:TypeInfo)(ht:P.underlying t=ab1 (.slice e))(hi:P.info? e=ab1 i)
  (g b d:Nat) (a:Addr) (m c:Nat) (news:List Value) (hl:news.length=m*i.size) (f:∀(j:Nat)(u:Value),news[j]?=ab1 u->w.cell? (a.add j)=ab1 u)
  (h:b+m<=d) (k:(storeCells ⟨g,b*i.size,ab2⟩ news).run P w = .ok () R) :
  (aaO #[t,t] ty #[.slice (ab1 ⟨g,0,ab2⟩) b d,.slice (ab1 a) m c]).run P w = .ok (.slice (ab1 ⟨g,0,ab2⟩) (b+m) d) R:=by
 have hf:=run_firstCells_some (P:=P) w i.size m a m c news hl f;simp[aaO,run_underlying ht,ZK,typeInfo,hi,aaP,h,hf,aaQ,k]
theorem zV(i:Rel F w G H)(h:fh H sz y=ab1 (m,news))(d:VR F w G y Y) :
  news.length=m*sz/\∃e c,Y = .slice e m c/\(0<m->∃b o,e=ab1 ⟨b,o,ab2⟩/\lK F w G b o news):=by
 unfold fh at h;split at h
 . rename_i tk len cells;split at h
   . rename_i hlen;cases h;refine⟨hlen,?_⟩;cases d with
     |hY=>exact⟨_,_,rfl,λh=>absurd h (by omega)⟩
     |gp a cap=>exact⟨_,_,rfl,λh=>absurd h (by omega)⟩
     |aj _ _ _ b o cap Vs ht hle h hv=>exact⟨_,_,rfl,λ_=>⟨b,o,rfl,λj c f=>⟨Vs j,(h j c f).2,hv j c f⟩⟩⟩
   ·cases h
 . rename_i id o len k;split at h
   . rename_i cs ho;split at h
     . rename_i hle;cases h;refine⟨by simp;omega,?_⟩;have g:=i.obj id;rw[ho]at g;cases d with
       | row _ _ _ _ cap l n p=>refine⟨_,_,rfl,λ_=>⟨_,_,rfl,?_⟩⟩;have:=g.tB.cut o (m*sz);rw[aar]at this;exact this
     ·cases h
   ·cases h
 ·cases h
theorem EA{l:List I}(hl:bG F w G l L.toArray)(b:l.all I.scalar=abZ):∀V∈L,V.oneCell'=abZ:=by
 intro V c;obtain⟨j,d,rfl⟩:=aaA.1 c;have a:j<l.length:=by have:=hl.1;simp at this;omega
 exact(hl.2 j l[j] L[j] (aav a) (by simp[d])).Er (aaB.1 b _ (aaC a))
theorem zW{cap sz:Nat}(f:Rel F w G H)(b:d_ w R (.cells C e))(hv:∀(j:Nat)(c:I),cs[j]?=ab1 c->∃V,C[j]?=ab1 V/\VR F w G c V)
  (h:C.size=cap*sz) (len:Nat) (hlen:cs.length=len*sz) (hle:len<=cap) :
  ∃G',Rel F R G' (H.push (.tok (len*sz) sz))/\Step w G H R G' (H.push (.tok (len*sz) sz))/\VR F R G' (.aj (.own H.n) len cs) (.slice (ab1 ⟨w.heap.size,0,ab2⟩) len cap):=by
 have hn:=f.n;have g:((G.ez w.heap.size 0 (len*sz)).more w.heap.size cap).loc H.n=w.heap.size:=aa hn.symm;have i:((G.ez w.heap.size 0 (len*sz)).more w.heap.size cap).cap H.n=cap:=aa hn.symm;have k:len*sz<=C.size:=by rw[h];exact aaR _ hle
 have m:=GLe.zO (G:=G) b w.heap.size 0 (len*sz) w.heap.size cap;have d:=f.push b (len*sz) cap k (.tok (len*sz) sz) ⟨C,e,by rw[g];exact b.new,by rw[i];exact h,k,λj a hf=>by
   rw[g]at hf;rcases hf with hf|⟨_,_,hf⟩
   ·exact f.zS j hf
   ·omega⟩
 have key:∀(j:Nat)(c:I),cs[j]?=ab1 c->C[j]?=ab1 (C.getD j undef)/\j<len*sz/\VR F w G c (C.getD j undef):=by
  intro j c a;obtain⟨V,l,d⟩:=hv j c a;have p:j<cs.length:=(ZF.1 a).1;have o:C.getD j undef=V:=by simp[aaS,l]
  rw[o];exact⟨l,by omega,d⟩
 refine⟨_,d.1,d.2,.aj _ _ _ _ _ _ (λj=>C.getD j undef) ⟨by show H.n<G.n+1;omega,g,rfl,i⟩ hle (λj c a=>?_) λj c a=>(key j c a).2.2.mono m⟩;rw[aar];exact⟨.inr ⟨rfl,aad _,(key j c a).2.1⟩,by rw[cell_of_row R _ j C e (0,0) b.new];exact(key j c a).1⟩
theorem zX{cap sz:Nat}(a:Rel F w G H)(b:d_ w R (.cells C e))(hv:∀(j:Nat)(c:I),cs[j]?=ab1 c->∃V,C[j]?=ab1 V/\VR F w G c V)
  (d:C.size=cap*sz) (len:Nat) (hle:len<=cap) :
  ∃G',Rel F R G' (H.push (.row cs))/\Step w G H R G' (H.push (.row cs))/\VR F R G' (.row H.n 0 len sz) (.slice (ab1 ⟨w.heap.size,0,ab2⟩) len cap):=by
 obtain⟨G',f,g,hn,h,i⟩:=tC a b hv;refine⟨G',f,g,?_⟩;rw[<-h];exact .row _ _ _ _ _ hn hle (by rw[i,d];omega)
theorem o4{Z:Array Value}(h:bG F w G cs L.toArray)(k:bG F w G news M.toArray) :
  ∀(j:Nat)(c:I),(cs++news)[j]?=ab1 c->∃V,(L.toArray++M.toArray++Z)[j]?=ab1 V/\VR F w G c V:=by
 intro j c b;obtain⟨V,a,d⟩:=(h.app k).get b;refine⟨V,?_,d⟩;rw[Z6,aa (aao.1 a).1];exact a
theorem o5{sz n m cap:Nat}(a:L.length=n*sz)(b:M.length=m*sz)(c:z.cells.size=sz)(d:n+m<=cap) :
  (L.toArray++M.toArray++aaT z.cells (cap-(n+m))).size=cap*sz:=by
 simp only[Array.size_append,List.size_toArray,size_zeroCells,c,a,b,<-aae];congr 1;omega
theorem OD{t e ty:TypeId}{d:TypeInfo}{mu:Bool}{sz bytes:Nat}{z:Value}{x y v:I}{X Y:Value}{H':O}(f:Rel F w G H)
  (ht:P.underlying t=ab1 (.slice e)) (hi:P.info? e=ab1 d) (hs:d.size=sz) (Z:d.bytes=bytes) (ap:d.zero=ab1 z) (ab:z.cells.size=sz) (aK:0<sz)
  (h:cI H mu sz bytes x y=ab1 (v,H')) (Q:VR F w G x X) (aL:VR F w G y Y):kU F w G H v H' ((aaO #[t,t] ty #[X,Y]).run P w):=by
 subst hs;subst Z;unfold cI at h;split at h
 ·cases h
 . rename_i m news aM;obtain⟨aB,aC,c,rfl,aD⟩:=zV f aM aL;split at h
   ·cases h
   . rename_i ac;simp only[Bool.not_eq_true,Bool.not_eq_false]at ac;have ac:news.all I.scalar=abZ:=by simpa using ac
     have zero:∀(a:Option Addr)(len cap:Nat),len<=cap->m=0->(∀u,a=ab1 u->u.spot=ab2\/True)->(aaO #[t,t] ty #[.slice a len cap,.slice aC m c]).run P w = .ok (.slice a len cap) w:=by intro a len cap hle hm _;subst hm;cases a<;>cases aC<;>simp[aaO,run_underlying ht,ZK,typeInfo,hi,aaP,aaU,loadCells,loadCellsFrom,storeCells,hle]
     split at h
     . rename_i tk len cells;split at h
       . rename_i hm;cases h;cases Q with
         |hY=>rw[zero _ _ _ (hT _) hm (λ_ _=> .inr trivial)];exact⟨_,_,G,rfl,.hY,f,Step.refl _ _ _⟩
         |gp a cap=>rw[zero _ _ _ (aad _) hm (λ_ _=> .inr trivial)];exact⟨_,_,G,rfl,.gp _ _,f,Step.refl _ _ _⟩
         |aj _ _ _ b o cap Vs A hle h hv=>rw[zero _ _ _ hle hm (λ_ _=> .inr trivial)];exact⟨_,_,G,rfl,.aj _ _ _ _ _ _ Vs A hle h hv,f,Step.refl _ _ _⟩
       . rename_i hm;obtain⟨bs,os,rfl,aq⟩:=aD (by omega);obtain⟨M,r,S⟩:=aq.nW;have q:M.length=m*d.size:=by have:=r.1;simp at this;omega
         split at h
         ·cases h
         . rename_i hk;simp only[aaV]at hk;obtain⟨ar,al,aN⟩:=hk;have aE:∀(hlen:len=0),(aaO #[t,t] ty #[.slice ab2 0 0,.slice (ab1 ⟨bs,os,ab2⟩) m c]).run P w =
             .ok (.slice (ab1 ⟨w.heap.size,0,ab2⟩) (len+m) (grownCap w (len+m) 0 e)) (w.drew.alloc (.cells (([]:List Value).toArray++M.toArray++aaT z.cells (grownCap w (len+m) 0 e-(len+m))) e)):=by
            intro hlen;subst hlen;have:=run_append_nil (P:=P) w t ty e d z ht hi ap ⟨bs,os,ab2⟩ m c M q S (by omega) (by omega) (by simp only[aar]at al;omega);simpa using this
           have au:∀(b o cap:Nat)(L:List Value),L.length=len*d.size->(∀(j:Nat)(V:Value),L[j]?=ab1 V->w.cell? ((⟨b,o,ab2⟩:Addr).add j)=ab1 V)->cap<len+m ->
             (aaO #[t,t] ty #[.slice (ab1 ⟨b,o,ab2⟩) len cap,.slice (ab1 ⟨bs,os,ab2⟩) m c]).run P w =
             .ok (.slice (ab1 ⟨w.heap.size,0,ab2⟩) (len+m) (grownCap w (len+m) cap e)) (w.drew.alloc (.cells (L.toArray++M.toArray++aaT z.cells (grownCap w (len+m) cap e-(len+m))) e)):=by
            intro b o cap L s B R;exact run_append_grow (P:=P) w t ty e d z ht hi ap ⟨b,o,ab2⟩ len cap L s B ⟨bs,os,ab2⟩ m c M q S R (by omega) (growslice_fits R al)
           have av:(cells++news).length=(len+m)*d.size:=by rw[List.length_append,ar,aB,aae]
           have aw:∀{b o:Nat}{Vs:Nat->Value},(∀(j:Nat)(c:I),cells[j]?=ab1 c->G.fz b (o+j)/\w.cell? ⟨b,o+j,ab2⟩=ab1 (Vs j))->(∀(j:Nat)(c:I),cells[j]?=ab1 c->VR F w G c (Vs j)) ->
             ∃L:List Value,bG F w G cells L.toArray/\L.length=len*d.size/\∀(j:Nat)(V:Value),L[j]?=ab1 V->w.cell? ((⟨b,o,ab2⟩:Addr).add j)=ab1 V:=by
            intro b o Vs U ax;obtain⟨L,s,B⟩:=(show lK F w G b o cells from λj c g=>⟨Vs j,(U j c g).2,ax j c g⟩).nW;exact⟨L,s,by have:=s.1;simp at this;omega,B⟩
           split at h
           ·
             cases h;cases Q with
             | hY=>rw[aE rfl];obtain⟨G',p,D,hv⟩:=zX f (d_.drew w _) (o4 bG.nil r) (o5 (n:=0) (by simp) q ab (grownCap_ge w _ _ _)) (0+m) (grownCap_ge w _ _ _);exact⟨_,_,G',rfl,hv,p,D⟩
             |aj _ _ _ b o cap Vs A hle h hv=>exact A.elim
           ·
             cases h;cases Q with
             | aj _ _ _ b o cap Vs A hle h hv=>obtain⟨L,s,E,B⟩:=aw h hv;rw[au b o cap L E B (by have:cap=len:=A;omega)];obtain⟨G',p,D,hv⟩:=zX f (d_.drew w _) (o4 s r) (o5 E q ab (grownCap_ge w _ _ _)) (len+m) (grownCap_ge w _ _ _);exact⟨_,_,G',rfl,hv,p,D⟩
           ·
             cases h;cases Q with
             | hY=>rw[aE rfl];obtain⟨G',p,D,hv⟩:=zW f (d_.drew w _) (o4 bG.nil r) (o5 (n:=0) (by simp) q ab (grownCap_ge w _ _ _)) (0+m) (by simpa using av) (grownCap_ge w _ _ _);exact⟨_,_,G',rfl,hv,p,D⟩
             |aj _ _ _ b o cap Vs A hle h hv=>exact A.elim
           ·
             cases h;cases Q with
             | aj _ _ _ b o cap Vs A hle h hv=>obtain⟨L,s,E,B⟩:=aw h hv;rw[au b o cap L E B (by have:cap=len:=A;omega)];obtain⟨G',p,D,hv⟩:=zW f (d_.drew w _) (o4 s r) (o5 E q ab (grownCap_ge w _ _ _)) (len+m) av (grownCap_ge w _ _ _);exact⟨_,_,G',rfl,hv,p,D⟩
           ·
             rename_i tid;split at h
             . rename_i k aO aF;split at h
               . rename_i hk;obtain⟨rfl,rfl⟩:=hk;cases h;have ay:(H.o tid).live=abZ:=by rw[aF];rfl
                 have ag:=f.obj tid;rw[aF]at ag;obtain⟨C,K,T,ae,aT,aG⟩:=ag;cases Q with
                 | aj _ _ _ b o cap Vs A hle h hv=>
                  obtain⟨aP,rfl,rfl,rfl⟩:=A;obtain⟨L,s,E,B⟩:=aw h hv;by_cases N:len+m<=G.cap tid
                  . have ah:len*d.size+M.length<=C.size:=by rw[q,ae,<-aae];exact aaR _ N
                    rw[Ez t ty e K d ht hi (G.loc tid) len (G.cap tid) C T ⟨bs,os,ab2⟩ m c M q S (EA r ac) N ah];have hn:=f.n;have aQ:=zQ C M (len*d.size);have am:=setRow_heap w (G.loc tid) C (C.toList.take (len*d.size)++M++C.toList.drop (len*d.size+M.length)).toArray K (0,0) T;have an:∀j,(w.setRow (G.loc tid) (C.toList.take (len*d.size)++M++C.toList.drop (len*d.size+M.length)).toArray).cell? ⟨G.loc tid,j,ab2⟩=if len*d.size<=j/\j<len*d.size+M.length then M[j-len*d.size]? else C[j]?:=by intro j;rw[cell_of_row _ _ j _ K (0,0) am];exact aQ j ah
                    have W:((G.ez (G.loc tid) (len*d.size) ((len+m)*d.size)).more (G.loc tid) (G.cap tid)).loc H.n=G.loc tid:=aa hn.symm;have R:((G.ez (G.loc tid) (len*d.size) ((len+m)*d.size)).more (G.loc tid) (G.cap tid)).cap H.n=G.cap tid:=aa hn.symm;have aU:(len+m)*d.size=len*d.size+M.length:=by rw[q,aae]
                    have af:GLe w G (w.setRow (G.loc tid) (C.toList.take (len*d.size)++M++C.toList.drop (len*d.size+M.length)).toArray) ((G.ez (G.loc tid) (len*d.size) ((len+m)*d.size)).more (G.loc tid) (G.cap tid)):=
                     ⟨aal _,λi hi=>ad (aap hi),λi hi=>ad (aap hi),λ_ _ hf=> .inl hf,λb o V hf hc=>by
                       by_cases Z:b=G.loc tid
                       . subst Z;have ho:o<len*d.size:=by
                          rcases z8 o (len*d.size)with az|az
                          ·exact az
                          ·exact absurd hf (aG o az)
                         rw[an,bg];rw[cell_of_row w _ o C K (0,0) T]at hc;exact hc
                       ·rw[aam (w:=w) ((lJ.setRow w _ _).other b Z)];exact hc⟩
                    have ai:=f.pass ay (lJ.setRow w _ _) (len*d.size) ((len+m)*d.size) af (.tok ((len+m)*d.size) d.size)
                     ⟨_,K,by rw[W];exact am,by rw[R,<-ae];simp;omega,by simp;omega,λj g hf=>by
                       rw[W]at hf;rcases hf with hf|⟨_,_,hf⟩
                       ·exact aG j (by omega) hf
                       ·omega⟩
                     (λo U ax=>⟨M[o-len*d.size],by rw[an,cX];exact aav (by omega)⟩)
                    refine⟨_,_,_,rfl,?_,ai.1,ai.2⟩;have key:∀(j:Nat)(c:I),(cells++news)[j]?=ab1 c->((G.ez (G.loc tid) (len*d.size) ((len+m)*d.size)).more (G.loc tid) (G.cap tid)).fz (G.loc tid) (0+j) /\
                      ∃V,(w.setRow (G.loc tid) (C.toList.take (len*d.size)++M++C.toList.drop (len*d.size+M.length)).toArray).cell? ⟨G.loc tid,0+j,ab2⟩=ab1 V/\VR F w G c V:=by
                     intro j c g;rw[Z5]at g;rw[aar];split at g
                     . rename_i ak;have U:=h j c g;rw[aar]at U;refine⟨.inl U.1,Vs j,?_,hv j c g⟩;rw[an,bg];rw[cell_of_row w _ j C K (0,0) T]at U;exact U.2
                     . rename_i aA;obtain⟨V,J,p⟩:=r.get g;have ak:=(ZF.1 g).1;refine⟨.inr ⟨rfl,by omega,by omega⟩,V,?_,p⟩;rw[an,cX,<-ar];simpa using J
                    refine .aj _ _ _ (G.loc tid) 0 (G.cap tid) (λj=>((w.setRow (G.loc tid) (C.toList.take (len*d.size)++M++C.toList.drop (len*d.size+M.length)).toArray).cell? ⟨G.loc tid,0+j,ab2⟩).getD undef) ⟨by show H.n<G.n+1;omega,W,rfl,R⟩ N (λj c g=>?_) λj c g=>?_
                    . obtain⟨U,V,J,_⟩:=key j c g;exact⟨U,by rw[J];rfl⟩
                    . obtain⟨U,V,J,p⟩:=key j c g;rw[J];exact p.mono af
                  . rw[au (G.loc tid) 0 (G.cap tid) L E B (by omega)];have hk:=f.kill tid (f.n▸aP);obtain⟨G',p,D,hv⟩:=zW hk.1 (d_.drew w _) (o4 s r) (o5 E q ab (grownCap_ge w _ _ _)) (len+m) av (grownCap_ge w _ _ _);exact⟨_,_,G',rfl,hv,p,hk.2.trans D⟩
               ·cases h
             ·cases h
           ·cases h
     . rename_i id o len aO;split at h
       . rename_i cs ho;split at h
         . rename_i hm;cases h;cases Q with
           |row _ _ _ _ cap ao hle hc=>rw[zero _ _ _ hle hm (λ_ _=> .inr trivial)];exact⟨_,_,G,rfl,.row _ _ _ _ _ ao hle hc,f,Step.refl _ _ _⟩
         . rename_i hm;obtain⟨bs,os,rfl,aq⟩:=aD (by omega);obtain⟨M,r,S⟩:=aq.nW;have q:M.length=m*d.size:=by have:=r.1;simp at this;omega
           split at h
           ·cases h
           . rename_i hk;simp only[aaV]at hk;obtain⟨rfl,rfl,al,aN⟩:=hk;have ay:(H.o id).live=abZ:=by rw[ho];rfl
             have ag:=f.obj id;rw[ho]at ag;obtain⟨C,K,T,ae,aH,aI⟩:=ag;have ar:cs.length<=C.size:=by
              rcases z8 C.size cs.length with ak|aA
              . obtain⟨V,J,_⟩:=aI C.size cs[C.size] (aav ak);simp at J
              ·exact aA
             cases Q with
             | row _ _ _ _ cap ao hle hc=>
              rw[aar]at hc;split at h
              . rename_i c8;cases h;have N:len+m<=cap:=by
                 have:(len+m)*d.size<=cap*d.size:=by rw[hc,<-ae];omega
                 exact Nat.le_of_mul_le_mul_right this aK
                obtain⟨w1,aR,aJ⟩:=zR (P:=P) (o:=len*d.size) (l:=news) (L:=M) f ho r (by rw[aB,<-aae];exact c8) ac;rw[OC t ty e d ht hi (G.loc id) len cap ⟨bs,os,ab2⟩ m c M q S N aR];exact⟨_,_,G,rfl,.row _ _ _ _ _ ao N (by rw[aar];exact hc),aJ.1,aJ.2⟩
              . split at h
                . rename_i aV aW;cases h;by_cases N:len+m<=cap
                  . have ah:len*d.size+M.length<=C.size:=by rw[q,ae,<-hc,<-aae];exact aaR _ N
                    rw[Ez t ty e K d ht hi (G.loc id) len cap C T ⟨bs,os,ab2⟩ m c M q S (EA r ac) N ah];have hn:=f.n;have am:=setRow_heap w (G.loc id) C (C.toList.take (len*d.size)++M++C.toList.drop (len*d.size+M.length)).toArray K (0,0) T;have W:((G.ez (G.loc id) 0 0).more (G.loc id) (G.cap id)).loc H.n=G.loc id:=aa hn.symm;have R:((G.ez (G.loc id) 0 0).more (G.loc id) (G.cap id)).cap H.n=G.cap id:=aa hn.symm;have af:GLe w G (w.setRow (G.loc id) (C.toList.take (len*d.size)++M++C.toList.drop (len*d.size+M.length)).toArray) ((G.ez (G.loc id) 0 0).more (G.loc id) (G.cap id)):=
                     ⟨aal _,λi hi=>ad (aap hi),λi hi=>ad (aap hi),λ_ _ hf=> .inl hf,λb o V hf hc=>by have Z:b≠G.loc id:=λe=>aH o (e▸hf);rw[aam (w:=w) ((lJ.setRow w _ _).other b Z)];exact hc⟩
                    have ai:=f.pass ay (lJ.setRow w _ _) 0 0 af (.row (cs++news))
                     ⟨_, K,by rw[W];exact am,by rw[R,<-ae];simp;omega,λj hf=>by
                       rw[W]at hf;rcases hf with hf|⟨_,_,hf⟩
                       ·exact aH j hf
                       ·omega,λj c g=>by
                       rw[zQ C M (len*d.size) j ah];rw[Z5]at g;split at g
                       . rename_i ak;rw[bg];obtain⟨V,J,p⟩:=aI j c g;exact⟨V,J,p.mono af⟩
                       . rename_i aA;have ak:=(ZF.1 g).1;rw[cX,show j-len*d.size=j-cs.length by omega];obtain⟨V,J,p⟩:=r.get g;exact⟨V,by simpa using J,p.mono af⟩⟩
                     (λo U ax=>by omega)
                    refine⟨_,_,_,rfl,?_,ai.1,ai.2⟩;have:=VR.row (F:=F) (w:=w.setRow (G.loc id) (C.toList.take (len*d.size)++M++C.toList.drop (len*d.size+M.length)).toArray) (G:=(G.ez (G.loc id) 0 0).more (G.loc id) (G.cap id)) H.n 0 (len+m) d.size cap (by show H.n<G.n+1;omega) N (by rw[R,aar];exact hc);rw[W]at this;exact this
                  . have aS:=(show hd F w G id (.row cs) by have:=f.obj id;rw[ho]at this;exact this).tB;obtain⟨L,s,B⟩:=aS.nW;have E:L.length=len*d.size:=by have:=s.1;simp at this;omega
                    rw[run_append_grow (P:=P) w t ty e d z ht hi ap ⟨G.loc id,0,ab2⟩ len cap L E B ⟨bs,os,ab2⟩ m c M q S (by omega) (by omega) (growslice_fits (by omega) al)];have hk:=f.kill id (f.n▸ao);obtain⟨G',p,D,hv⟩:=zX hk.1 (d_.drew w _) (o4 s r) (o5 E q ab (grownCap_ge w _ _ _)) (len+m) (grownCap_ge w _ _ _);exact⟨_,_,G',rfl,hv,p,hk.2.trans D⟩
                ·cases h
       ·cases h
     ·cases h
end
end Rb
namespace Rb
open Go
variable{x v:I}{X:Value}{src dst e t:TypeId}{H':O}
section
variable{P:Program}{F:el}{w:World}{G:ch}{H:O}
theorem d_.mark(w:World)(o:Obj):d_ w (w.drew.alloc o) o:=⟨rfl,rfl,rfl,rfl,aal _⟩
theorem OE{x v:I}{X:Value}(k:Rel F w G H)(hs:P.underlying src=ab1 .string)(l:P.underlying dst=ab1 (.slice e))(m:P.underlying e=ab1 (.int .u8))
  (h:qG x=ab1 v) (n:VR F w G x X):kU F w G H v H ((convert src dst X).run P w):=by
 unfold qG at h;split at h
 . rename_i s;cases h;obtain rfl:=n.kT;have d:=run_bytes_of_string (P:=P) w src dst e ⟨s.toArray⟩ hs l m;generalize o:grownCap w (ZP ⟨s.toArray⟩) 0 e=cap at d;have f:(ZO s.toArray).size=s.length:=by simp[ZP]
   rw[d,f];have hle:s.length<=cap:=by rw[<-o,<-f];exact grownCap_ge w _ 0 e
   have g:=d_.mark w (.cells (bytesRow ⟨s.toArray⟩ cap) e ((bytesRow ⟨s.toArray⟩ cap).size,(bytesRow ⟨s.toArray⟩ cap).size+1));have i:∀j,j<s.length->(w.drew.alloc (.cells (bytesRow ⟨s.toArray⟩ cap) e ((bytesRow ⟨s.toArray⟩ cap).size,(bytesRow ⟨s.toArray⟩ cap).size+1))).cell? ⟨w.heap.size,j,ab2⟩=ab1 (.int .u8 ((s.getD j 0).toNat:Nat)):=by intro j a;rw[cell_of_row _ _ j _ e _ g.new];simp[bytesRow,Z6,a,List.getD]
   obtain⟨p,q⟩:=k.frozenAt g s.length λj a=>⟨_,i j a⟩
   refine⟨_,_,_,rfl,?_,p,q⟩;refine .aj .dead s.length (byteCells s) w.heap.size 0 cap (λj=> .int .u8 ((s.getD j 0).toNat:Nat)) trivial hle (λj c a=>?_) λj c a=>?_
   . have b:j<s.length:=by have:=(ZF.1 a).1;simpa[byteCells]using this
     rw[aar];exact⟨.inr ⟨rfl,aad _,b⟩,i j b⟩
   . have b:j<s.length:=by have:=(ZF.1 a).1;simpa[byteCells]using this
     simp[byteCells,b]at a;subst a;simp only[aaW,aav b,aaX];exact .int _ _
 ·cases h
theorem OG:∀{cells:List I}{s:List UInt8}{Vs:List Value},ly cells=ab1 s->bG F w G cells Vs.toArray->∃a:List Int,Vs=a.map (Value.int .u8)/\s=a.map λn=>KT n.toNat:=by
 intro cells;induction cells with
 | nil=>intro s Vs h hv;cases h;have:=hv.1;simp at this;have:Vs=[]:=aaY.1 (by omega);subst this;exact⟨[],rfl,rfl⟩
 | cons c cells b=>
  intro s Vs h hv;cases Vs with
  |nil=>have:=hv.1;simp at this
  | cons V Vs=>
   have e:VR F w G c V:=hv.2 0 c V rfl rfl;have f:bG F w G cells Vs.toArray:=bG.nV (by have:=hv.1;simp at this ⊢;exact this) λj d g i k=>hv.2 (j+1) d g (by simpa using i) (by simpa using k);unfold ly at h;split at h
   ·rename_i heq;cases heq
   . rename_i n r heq;cases heq;cases hc:ly cells with
     |none=>simp[hc]at h
     | some A=>simp only[hc,ZX,ZW.injEq]at h;obtain⟨a,U,l⟩:=b hc f;obtain rfl:=e.im;exact⟨n::a,by rw[U];rfl,by rw[<-h,l];rfl⟩
   ·cases h
theorem foldl_push:∀(a:List Int)(r:ByteArray),a.foldl (λr n=>r.push (KT n.toNat)) r=⟨r.data++(a.map λn=>KT n.toNat).toArray⟩
 |[],r=>by simp
 | n::a,r=>by simp only[aaf,aaZ];rw[foldl_push a];simp[aa0]
theorem OH{x v:I}{X:Value}(k:Rel F w G H)(hs:P.underlying src=ab1 (.slice e))(l:P.underlying e=ab1 (.int .u8))(n:P.underlying dst=ab1 .string)
  (h:abstr H x=ab1 v) (p:VR F w G x X):∃V,(convert src dst X).run P w = .ok V w/\VR F w G v V:=by
 unfold abstr at h;split at h
 . rename_i m cells hc;cases f:ly cells with
   |none=>simp[f]at h
   | some s=>
    simp only[f,ZX,ZW.injEq]at h;subst h;obtain⟨hlen,a,c,rfl,q⟩:=zV k hc p;rw[Nat.mul_one]at hlen;refine⟨_,?_,.str s⟩;rw[run_convert_bytes_string w src dst e a m c hs l n];by_cases hm:0<m
    . obtain⟨b,o,rfl,r⟩:=q hm;obtain⟨Vs,g,t⟩:=r.nW;obtain⟨i,rfl,rfl⟩:=OG f g;have hl:i.length=m:=by have:=g.1;simp at this;omega
      have d:=run_loadCells_list (P:=P) w ⟨b,o,ab2⟩ _ t;rw[aa1,hl]at d;rw[run_bytesToString w ⟨b,o,ab2⟩ m c i d,foldl_push];simp[aa2,aa3];rfl
    . have u:m=0:=by omega
      subst u;have y:cells=[]:=aaY.1 hlen;subst y;cases f;cases a with
      |none=>rfl
      | some a=>have d:=run_loadCells_list (P:=P) w a [] (λj V z=>by simp at z);simp only[List.length_nil]at d;rw[run_bytesToString w a 0 c [] d];rfl
 ·cases h
theorem OI(a:Rel F w G H)(ht:P.underlying t=ab1 .string)(h:nU H x=ab1 (v,H'))(d:VR F w G x X) :
  kU F w G H v H' ((aa4 t X).run P w):=by
 unfold nU at h;split at h
 . rename_i s;cases h;obtain rfl:=d.kT;have e:(aa4 t (.string ⟨s.toArray⟩)).run P w = .ok (.pointer (ab1 ⟨w.heap.size,0,ab2⟩)) (w.alloc (.stringIter ⟨s.toArray⟩ 0)):=by
    simp[aa4,run_underlying ht]
   rw[e];have c:=d_.alloc w (.stringIter ⟨s.toArray⟩ 0);have hn:=a.n;have b:(G.more w.heap.size 0).loc H.n=w.heap.size:=aa hn.symm;obtain ⟨f,g⟩:=a.Oq c 0 (.hX s 0) ⟨by rw[b];exact c.new,λj hf=>by rw[b]at hf;exact a.zS j hf⟩
   refine⟨_,_,_,rfl,?_,f,g⟩;have:=VR.ptr (F:=F) (w:=w.alloc (.stringIter ⟨s.toArray⟩ 0)) (G:=G.more w.heap.size 0) H.n 0 (show H.n<G.n+1 by omega);rw[b]at this;exact this
 ·cases h
theorem OJ{t:TypeId}(b:Rel F w G H)(h:lz H x=ab1 (v,H'))(m:VR F w G x X) :
  kU F w G H v H' ((aa5 X abZ t).run P w):=by
 unfold lz at h;split at h
 . rename_i id;split at h
   . rename_i s pos ho;cases m with
     | ptr _ _ z=>
      have f:=b.obj id;rw[ho]at f;obtain⟨d,g⟩:=f;have i:(ZO s.toArray).size=s.length:=by simp[ZP]
      have l:(getObj (G.loc id)).run P w = .ok (.stringIter ⟨s.toArray⟩ pos) w:=by simp[getObj,Sem.run,d]
      split at h
      . rename_i n;cases h;have p:(setObj (G.loc id) (.stringIter ⟨s.toArray⟩ (pos+(ZE ⟨s.toArray⟩ pos).2))).run P w = .ok () {w with heap:=w.heap.setIfInBounds (G.loc id) (.stringIter ⟨s.toArray⟩ (pos+(ZE ⟨s.toArray⟩ pos).2))}:=by
         simp[setObj,Sem.run,d]
        have e:(aa5 (.pointer (ab1 ⟨G.loc id,0,ab2⟩)) abZ t).run P w = .ok (.tuple #[.bool abZ,.int .i64 pos,.int .i32 (ZE ⟨s.toArray⟩ pos).1]) {w with heap:=w.heap.setIfInBounds (G.loc id) (.stringIter ⟨s.toArray⟩ (pos+(ZE ⟨s.toArray⟩ pos).2))}:=by simp[aa5,l,i,n,p,goInt]
        rw[e];have ht:lJ w {w with heap:=w.heap.setIfInBounds (G.loc id) (.stringIter ⟨s.toArray⟩ (pos+(ZE ⟨s.toArray⟩ pos).2))} (G.loc id):=
         ⟨by simp,λk hk=>by simp[Z8,Ne.symm hk],rfl,rfl,rfl,hT _⟩
        have hl:(H.o id).live=abZ:=by rw[ho];rfl
        have q:G.loc id<w.heap.size:=(aao.1 d).1;obtain⟨r,u⟩:=b.write hl g ht (.hX s (pos+(ZE ⟨s.toArray⟩ pos).2)) rfl λ_=>⟨by simp[q],g⟩
        refine⟨_,_,_,rfl,?_,r,u⟩;refine .aH _ _ rfl λj c V hc a=>?_
        match j with
        |0=>simp at hc a;subst hc;subst a;exact .bool _
        |1=>simp at hc a;subst hc;subst a;exact .int _ _
        |2=>simp at hc a;subst hc;subst a;exact .int _ _
        |j+3=>simp at hc
      . rename_i y;cases h;have e:(aa5 (.pointer (ab1 ⟨G.loc id,0,ab2⟩)) abZ t).run P w = .ok (.tuple #[.bool ab0]) w:=by
         simp[aa5,l,i,y]
        rw[e];refine⟨_,_,_,rfl,?_,b,Step.refl _ _ _⟩;refine .aH _ _ rfl λj c V hc a=>?_
        match j with
        |0=>simp at hc a;subst hc;subst a;exact .bool _
        |j+1=>simp at hc
   ·cases h
 ·cases h
end
end Rb
namespace Rb
open Go
variable{V:Value}{c:I}
structure Ctx where
 P:Program
 F:el
 GT:Nat->Option (List I)
def tD:Value->I->Bool
 | .bool b,.bool a=>b==a
 | .int k n,.int c d=>k==c&&n==d
 | .string s,.str l=>s.data.toList==l
 | .pointer ab2,.ga | .nilFunc,.ic | .nilIface,.ie=>abZ
 | .slice ab2 0 0,.aj .nil 0 []=>abZ
 |_,_=>ab0
def kn:List Value->List I->Bool
 |[],[]=>abZ
 |V::Vs,c::cs=>tD V c&&kn Vs cs
 |_,_=>ab0
def zY(V:Value)(c:I):Bool:=
 match V,c with
 | .agg Vs,.agg cs=>kn Vs.toList cs
 | .tuple Vs,.aH cs=>kn Vs.toList cs
 |V,c=>tD V c
def m_:List I->List I->Bool
 |[],[]=>abZ
 | .int k a::r,.int c b::t=>k==c&&a==b&&m_ r t
 | .bool a::r,.bool b::t=>a==b&&m_ r t
 | .str a::r,.str b::t=>a==b&&m_ r t
 |_,_=>ab0
def EB(C:Ctx)(x:Operand)(y:b7):Bool:=
 match x,y with
 | .tmp t,.t a=>t==a
 | .const v,.k c=>zY v c
 | .global g,.k c=>match C.GT g,c with|some l,.ak b=>m_ l b|_,_=>ab0
 | .func f,.k c=>match c with | .fn key []=>(iM key).isNone&&C.F key==ab1 f|_=>ab0
 |_,_=>ab0
def EC:b7->Bool
 | .k .bot=>abZ
 |_=>ab0
def dD(C:Ctx)(x:Operand)(y:b7):Bool:=EC y||EB C x y
def nY(C:Ctx)(x:Option Operand)(y:Option b7):Bool:=
 match x,y with
 |none,ab2=>abZ
 |some x,ab1 y=>dD C x y
 |_,_=>ab0
def mB(C:Ctx):List Operand->List b7->Bool
 |[],[]=>abZ
 |x::xs,y::ys=>dD C x y&&mB C xs ys
 |_,_=>ab0
def o6(P:Program)(t:TypeId)(n:Nat):Option Field:=
 match P.underlying t with
 |some (.struct fs)=>fs[n]?
 |_=>ab2
def na(P:Program)(t:TypeId):Option TypeId:=
 match P.underlying t with
 |some (.slice e)=>ab1 e
 |_=>ab2
def tG(P:Program)(t:TypeId):Option (Nat×TypeId):=
 match P.underlying t with
 |some (.array n e)=>ab1 (n,e)
 |_=>ab2
def nZ(P:Program)(t:TypeId)(sz:Nat):Bool:=
 match P.info? t with
 |some i=>i.size==sz
 |none=>ab0
def tH(P:Program)(t:TypeId)(sz bytes:Nat)(zero:List I):Bool:=
 match P.info? t with
 |some i=>i.size==sz&&i.bytes==bytes&&(match i.zero with|some z=>z.cells.size==sz&&kn z.cells.toList zero|none=>ab0)
 |none=>ab0
def n1(C:Ctx)(place:Nat->Option (Nat×Nat)):List (Nat×Operand)->List (Nat×Nat×b7)->Bool
 |[],[]=>abZ
 |(i,x)::r,(off,sz,y)::t=>place i==ab1 (off,sz)&&dD C x y&&n1 C place r t
 |_,_=>ab0
def placeOf(P:Program)(t:TypeId)(i:Nat):Option (Nat×Nat):=
 match P.underlying t with
 |some (.struct fs)=>match fs[i]? with|some f=>(P.info? f.type).map λinf=>(f.offset,inf.size)|none=>ab2
 |some (.array _ e)=>(P.info? e).map λinf=>(i*inf.size,inf.size)
 |_=>ab2
def zZ(P:Program)(t:TypeId):Bool:=
 match P.underlying t with
 |some (.struct fs)=>fs.all λf=>(P.info? f.type).isSome
 |some (.array _ e)=>(P.info? e).isSome
 |_=>ab0
def lM(P:Program)(f:FuncId):Bool:=
 match P.funcs[f]? with
 | some fn => !(fn.name == "runtime.NumGoroutine") && fn.body.isSome
 |none=>ab0
def o7(a:TypeId->Option (List FK)):List Field->Nat->Option (List FK)
 |[],_=>ab1 []
 | f :: r, k => if f.offset = k ∧ f.name ≠ "_" then (match a f.type with | some l => (o7 a r (k + l.length)).map (l ++ ·) | none => none) else none
def lN(P:Program):Nat->TypeId->Option (List FK)
 |0,_=>ab2
 | d+1,t=>match P.underlying t,P.info? t with
  |some (.int _),_=>ab1 [.n]
  |some .bool,_=>ab1 [.b]
  |some .string,_=>ab1 [.t]
  |some (.struct fs),ab1 i=>if P.stoodInHeld t=abZ then ab2 else(match o7 (lN P d) fs.toList 0 with|some l=>if i.size=l.length then ab1 l else ab2|none=>ab2)
  |some (.array n e),ab1 i=>(match lN P d e,P.info? e with|some l,ab1 j=>if i.size=(Gd n l).flatten.length/\j.size=l.length then ab1 (Gd n l).flatten else ab2|_,_=>ab2)
  |_,_=>ab2
def OK(C:Ctx)(o:Op)(e:Ext)(xs:List b7):Bool:=
 match e with
 | .stuck=>abZ
def dR(C:Ctx)(o:Op)(a:e_):Bool:=
 match a with
 | .mv x=>match o with | .move y | .assign y=>dD C y x|_=>ab0
 | .pick c x y=>match o with | .pick c' g h=>dD C c' c&&dD C g x&&dD C h y|_=>ab0
 | .bin op x y=>match o with | .binOp m _ g h _=>op==m&&dD C g x&&dD C h y|_=>ab0
 | .beq neg x y=>match o with
  | .binOp op t g h _=>op==(if neg then .neq else .eql)&&(match C.P.underlying t with|some .bool=>abZ|_=>ab0)&&dD C g x&&dD C h y
  |_=>ab0
 | .kk k neg x=>match o with
  | .binOp op t g h _=>op==(if neg then .neq else .eql)&&(match C.P.underlying t with|some d=>m9 d==ab1 k|none=>ab0)&&dD C g x &&
    (match h with | .const v=>(match k,v with | .p,.pointer ab2 | .s,.slice ab2 0 0 | .f,.nilFunc | .i,.nilIface=>abZ|_,_=>ab0)|_=>ab0)
  |_=>ab0
 | .jI neg ks x y=>match o with
  | .binOp op t g h _=>op==(if neg then .neq else .eql)&&(match C.P.underlying t with|some d=>iQ d|none=>ab0)&&lN C.P 9 t==ab1 ks&&!C.P.eqGuardType C.P.depth t&&dD C g x&&dD C h y
  |_=>ab0
 | .un op x=>match o with | .unOp m _ g=>op==m&&dD C g x|_=>ab0
 | .conv k x=>match o with
  | .convert s d g=>(match C.P.underlying s,C.P.underlying d with|some _,ab1 (.int D)=>k==D|_,_=>ab0)&&dD C g x
  |_=>ab0
 | .same x=>match o with
  | .convert s d g=>(match C.P.underlying s,C.P.underlying d with|some .string,ab1 .string=>abZ|_,_=>ab0)&&dD C g x
  |_=>ab0
 | .kM x=>match o with | .nilCheck g=>dD C g x|_=>ab0
 | .field off sz agg x=>match o with
  | .field t g n=>(match o6 C.P t n with|some f=>f.offset==off&&jl C.P f.type sz agg|none=>ab0)&&dD C g x
  |_=>ab0
 | .idx len sz agg x i=>match o with
  | .index t g j=>(match tG C.P t with|some (n,e)=>n==len&&jl C.P e sz agg|none=>ab0)&&dD C g x&&dD C j i
  |_=>ab0
 | .idxs x i=>match o with
  | .index t g j=>(match C.P.underlying t with|some .string=>abZ|_=>ab0)&&dD C g x&&dD C j i
  |_=>ab0
 | .kN off x=>match o with
  | .fieldAddr t g n=>(match o6 C.P t n with|some f=>f.offset==off&&(match C.P.info? f.type with|some E=>E.size != 0|none=>ab0)|none=>ab0)&&dD C g x
  |_=>ab0
 | .kl arr sz x i=>match o with
  | .indexAddr t g j=>(match arr with
      |none=>(match na C.P t with|some e=>nZ C.P e sz|none=>ab0)
      |some n=>(match tG C.P t with|some (q,e)=>n==q&&nZ C.P e sz|none=>ab0))&&dD C g x&&dD C j i
  |_=>ab0
 | .slice sz x lo hi mx=>match o with
  | .slice t g r u w=>(match na C.P t with|some e=>nZ C.P e sz|none=>ab0)&&dD C g x&&nY C r lo&&nY C u hi&&nY C w mx&&(mx.isNone||hi.isSome)
  |_=>ab0
 | .kO x lo hi=>match o with
  | .slice t g r u w=>(match C.P.underlying t with|some .string=>abZ|_=>ab0)&&dD C g x&&nY C r lo&&nY C u hi&&w.isNone
  |_=>ab0
 | .iN t x=>match o with
  | .makeInterface A g=>t==A&&(match C.P.underlying t with|some (.interface _)=>ab0|some _=>abZ|none=>ab0)&&dD C g x
  |_=>ab0
 | .ij key cB=>match o with
  | .makeFunc (.func f) first G=>match iM key with
   |none=>C.F key==ab1 f&&first.size==0&&mB C G.toList cB
   |some _=>ab0
  |_=>ab0
 | .extract i x=>match o with | .extract g j=>i==j&&dD C g x|_=>ab0
 | .build zero parts=>match o with
  | .build t ps=>(match C.P.info? t with|some inf=>(match inf.zero with|some z=>kn z.cells.toList zero|none=>ab0)|none=>ab0)&&zZ C.P t&&n1 C (placeOf C.P t) ps.toList parts
  |_=>ab0
 | .len str x=>match o with
  | .call {callee:= .builtin .len,args,argTypes}=>(match args.toList,argTypes.toList with
      |[g],[t]=>dD C g x&&(match C.P.underlying t with|some .string=>str|some (.slice _)=>!str|_=>ab0)
      |_,_=>ab0)
  |_=>ab0
 | .iO n=>match o with
  | .call {callee:= .builtin .len,args,argTypes}=>(match args.toList,argTypes.toList with
      |[_],[t]=>(match C.P.underlying t with|some (.array q _)=>n==q|_=>ab0)
      |_,_=>ab0)
  |_=>ab0
 | .iP mx xs=>match o with
  | .call {callee:= .builtin b,args,..}=>(match b with | .max=>mx | .min=>!mx|_=>ab0)&&mB C args.toList xs
  |_=>ab0
 | .load n agg x=>match o with | .load t g=>jl C.P t n agg&&dD C g x|_=>ab0
 | .store n x v=>match o with | .store t g H=>(jl C.P t n abZ||jl C.P t n ab0)&&dD C g x&&dD C H v|_=>ab0
 | .box _ _ x=>match o with | .box _ g=>dD C g x|_=>ab0
 | .alloc _ zero=>match o with
  | .alloc t=>(match C.P.info? t with|some inf=>(match inf.zero with|some z=>kn z.cells.toList zero|none=>ab0)|none=>ab0)
  |_=>ab0
 | .ik _ sz len zero parts=>match o with
  | .buildSlice t I ps=>(match na C.P t with
      |some e=>(match C.P.info? e with|some inf=>tH C.P e sz inf.bytes zero|none=>ab0)&&zero.length==sz&&len==I&&decide (len*sz<=16777216)&&n1 C (λi=>ab1 (i*sz,sz)) ps.toList parts
      |none=>ab0)
  |_=>ab0
 | .append _ sz bytes x y=>match o with
  | .call {callee:= .builtin .append,args,argTypes}=>(match args.toList,argTypes.toList with
      | [g, h], [t, A] => t == A && dD C g x && dD C h y && (match na C.P t with
          |some e=>(match C.P.info? e with|some inf=>inf.size==sz&&inf.bytes==bytes&&(match inf.zero with|some z=>z.cells.size==sz|none=>ab0)&&decide (0<sz)|none=>ab0)
          |none=>ab0)
      |_,_=>ab0)
  |_=>ab0
 | .make _ sz bytes zero len cap=>match o with
  | .makeSlice t l c=>dD C l len&&dD C c cap&&(match na C.P t with|some e=>tH C.P e sz bytes zero|none=>ab0)
  |_=>ab0
 | .call key args=>match o with
  | .call {callee:= .value (.func f),args:=B,..}=>C.F key==ab1 f&&lM C.P f&&mB C B.toList args
  |_=>ab0
 | .jj f args=>match o with
  | .call {callee:= .value J,args:=B,..}=>dD C J f&&mB C B.toList args
  |_=>ab0
 | .kP x=>match o with
  | .convert s d g=>(match C.P.underlying s,C.P.underlying d with|some .string,ab1 (.slice e)=>(match C.P.underlying e with|some (.int .u8)=>abZ|_=>ab0)|_,_=>ab0)&&dD C g x
  |_=>ab0
 | .jg x=>match o with
  | .convert s d g=>(match C.P.underlying s,C.P.underlying d with|some (.slice e),ab1 .string=>(match C.P.underlying e with|some (.int .u8)=>abZ|_=>ab0)|_,_=>ab0)&&dD C g x
  |_=>ab0
 | .jh x=>match o with | .range t g=>(match C.P.underlying t with|some .string=>abZ|_=>ab0)&&dD C g x|_=>ab0
 | .ji x=>match o with | .next g abZ=>dD C g x|_=>ab0
 | .ext e xs=>OK C o e xs
 | .copy sz x y=>match o with
  | .call {callee:= .builtin .copy,args,argTypes}=>(match args.toList,argTypes.toList with
      |[g,h],[t,_]=>dD C g x&&dD C h y&&(match na C.P t with|some e=>nZ C.P e sz|none=>ab0)
      |_,_=>ab0)
  |_=>ab0
def kV(C:Ctx)(w:World)(G:ch):Prop:=∀g l,C.GT g=ab1 l->VR C.F w G (.ak l) (.pointer (ab1 ⟨g,0,ab2⟩))
theorem kV.mono{C:Ctx}{w R:World}{G G':ch}(a:GLe w G R G')(h:kV C w G):kV C R G':=λg l hl=>(h g l hl).mono a
def fa(C:Ctx)(w:World)(G:ch)(H:O):Prop:=kV C w G/\∀g l,C.GT g=ab1 l->l≠[]->(∃cs t fr,w.heap[g]?=ab1 (.cells cs t fr)/\cs.size=l.length)/\∀i,(H.o i).live=abZ->G.loc i≠g
theorem fa.step{C:Ctx}{w R:World}{G G':ch}{H H':O}(h:fa C w G H)(a:Step w G H R G' H'):fa C R G' H':=by refine⟨h.1.mono a.toGLe,λg l hl f=>?_⟩;obtain⟨⟨cs,t,fr,b,hs⟩,c⟩:=h.2 g l hl f;have d:g<w.heap.size:=(aao.1 b).1;refine⟨⟨cs,t,fr,(a.eN g d c).trans b,hs⟩,λi hi e=>?_⟩;obtain⟨j,k,m⟩:=a.owned i hi (by rw[e];exact d);exact c j k (m.trans e)
theorem fa.zP{C:Ctx}{w:World}{G:ch}{H:O}{x:c0}(h:fa C w G H){b c:Nat}(k:GLe w G w (G.more b c))(hn:G.n=H.n)(m:∀j,¬G.fz b j):fa C w (G.more b c) (H.push x):=by
 refine⟨h.1.mono k,λg l hl a=>⟨(h.2 g l hl a).1,λi hi e=>?_⟩⟩;by_cases c8:i=H.n
 . have p:(G.more b c).loc i=b:=aa (c8.trans hn.symm);have hv:=h.1 g l hl;generalize q:(Value.pointer (ab1 ⟨g,0,ab2⟩))=X at hv;generalize d:I.ak l=Y at hv;cases hv with
   | ak cells v o Vs hc hv=>
    cases q;cases d;cases f:l with
    |nil=>exact a f
    | cons s r=>refine m 0 ?_;rw[<-p,e];simpa using(hc 0 s (by rw[f];rfl)).1
   |bot=>cases d
   |_=>cases d
 . have U:(H.push x).o i=H.o i:=ad c8;have t:(G.more b c).loc i=G.loc i:=ad (λu=>c8 (u.trans hn));rw[U]at hi;rw[t]at e;exact(h.2 g l hl a).2 i hi e
theorem fa.mt{C:Ctx}{w:World}{G G':ch}{H H':O}(h:fa C w G H)(a:kV C w G')(b:∀i,(H'.o i).live=abZ->False):fa C w G' H':=⟨a,λg l hl c=>⟨(h.2 g l hl c).1,λi hi=>(b i hi).elim⟩⟩
def ag(C:Ctx):Z:=λkey args H Q=>
 (∃v H',Q v H')/\∀f,C.F key=ab1 f->∀(G:ch)(w:World)(Vs:Array Value),fa C w G H->Rel C.F w G H->bG C.F w G args Vs ->
  Calls C.P f Vs w λe R=>∃V v H' G',e = .returned V/\Q v H'/\VR C.F R G' v V/\Rel C.F R G' H'/\Step w G H R G' H'
theorem ED(C:Ctx):m8 (ag C):=λ_ _ _ _ h=>h.1
section
variable{C:Ctx}{w:World}{G:ch}{H:O}{env:Env}{a:Act}
theorem EE(h:tD V c=abZ):VR C.F w G c V:=by
 unfold tD at h;split at h
 ·simp at h;subst h;exact .bool _
 ·simp at h;obtain⟨rfl,rfl⟩:=h;exact .int _ _
 . rename_i s l;simp at h;subst h;have:s=⟨s.data.toList.toArray⟩:=(Lib.mk_data s).symm;rw[this];simpa using VR.str (F:=C.F) (w:=w) (G:=G) s.data.toList
 ·exact .ga
 ·exact .ic
 ·exact .ie
 ·exact .hY
 ·cases h
theorem n2:∀{Vs:List Value}{cs:List I},kn Vs cs=abZ->bG C.F w G cs Vs.toArray:=by
 intro Vs;induction Vs with
 |nil=>intro cs h;cases cs<;>simp[kn]at h;exact bG.nil
 | cons V Vs f=>
  intro cs h;cases cs with
  |nil=>simp[kn]at h
  | cons c cs=>
   simp[kn]at h;have e:=f h.2;refine bG.nV (by have:=e.1;simp at this ⊢;exact this) λj d g a b=>?_;cases j with
   |zero=>simp at a b;subst a;subst b;exact EE h.1
   |succ j=>exact e.2 j d g (by simpa using a) (by simpa using b)
theorem OL(h:zY V c=abZ):VR C.F w G c V:=by
 unfold zY at h;split at h
 . rename_i Vs cs;have:=(n2 (C:=C) (w:=w) (G:=G) h).agg;simpa using this
 . rename_i Vs cs;have:=(n2 (C:=C) (w:=w) (G:=G) h).aH;simpa using this
 ·exact EE h
theorem OM:∀{l a:List I},m_ l a=abZ->l=a:=by
 intro l;induction l with
 |nil=>intro a h;cases a<;>simp[m_]at h;rfl
 | cons c l b=>
  intro a h;cases a with
  |nil=>cases c<;>simp[m_]at h
  | cons d a=>
   cases c<;>cases d<;>simp[m_]at h
   ·rw[h.1,b h.2]
   ·rw[h.1.1,h.1.2,b h.2]
   ·rw[h.1,b h.2]
theorem tI{t:Nat}(b:bG C.F w G env a.tmps):VR C.F w G (env.getD t .bot) (a.tmps.getD t undef):=by
 rw[aaW,aaS];cases hc:env[t]? with
 |none=>exact .bot _
 | some c=>obtain⟨V,d,e⟩:=b.get hc;rw[d];exact e
theorem dE{x:Operand}{y:b7}(b:kV C w G)(d:bG C.F w G env a.tmps)(h:dD C x y=abZ):VR C.F w G (y.ev env) (a.eval x):=by
 unfold dD at h;rw[ZM]at h;rcases h with h|h
 . unfold EC at h;split at h
   ·exact .bot _
   ·cases h
 unfold EB at h;split at h
 ·simp at h;subst h;exact tI d
 ·exact OL h
 . split at h
   . rename_i l e hl;rw[<-OM h];exact b _ _ hl
   ·cases h
 . split at h
   . rename_i key;simp only[ZL,Option.isNone_iff_eq_none,cq]at h;exact .fn key [] _ #[] h.1 h.2 rfl (λj c V hc _=>by simp at hc)
   ·cases h
 ·cases h
theorem qL{x:Option Operand}{y:Option b7}(b:kV C w G)(c:bG C.F w G env a.tmps)(h:nY C x y=abZ):lI C.F w G (y.map (b7.ev env)) (x.map a.eval):=by
 unfold nY at h;split at h
 ·trivial
 ·exact dE b c h
 ·cases h
theorem tJ(f:kV C w G)(g:bG C.F w G env a.tmps):∀{xs:List Operand}{ys:List b7},mB C xs ys=abZ->bG C.F w G (gC env ys) (xs.map a.eval).toArray:=by
 intro xs;induction xs with
 |nil=>intro ys h;cases ys<;>simp[mB]at h;exact bG.nil
 | cons x xs i=>
  intro ys h;cases ys with
  |nil=>simp[mB]at h
  | cons y ys=>
   simp[mB]at h;have e:=i h.2;refine bG.nV (by have:=e.1;simp[gC]at this ⊢;exact this) λj d k b c=>?_;cases j with
   |zero=>simp[gC]at b c;subst b;subst c;exact dE f g h.1
   |succ j=>exact e.2 j d k (by simpa[gC]using b) (by simpa using c)
theorem EF(d:kV C w G)(e:bG C.F w G env a.tmps){place:Nat->Option (Nat×Nat)}:∀{xs:List (Nat×Operand)}{ys:List (Nat×Nat×b7)},n1 C place xs ys=abZ ->
  (hq env ys).length=(xs.map λp=>(p.1,a.eval p.2)).length /\
  ∀(j:Nat)(q:Nat×Nat×I)(p:Nat×Value),(hq env ys)[j]?=ab1 q->(xs.map λp=>(p.1,a.eval p.2))[j]?=ab1 p->place p.1=ab1 (q.1,q.2.1)/\VR C.F w G q.2.2 p.2:=by
 intro xs;induction xs with
 |nil=>intro ys h;cases ys<;>simp[n1]at h;exact⟨rfl,λj q p b=>by simp[hq]at b⟩
 | cons x xs f=>
  intro ys h;obtain⟨i,x⟩:=x;cases ys with
  |nil=>simp[n1]at h
  | cons y ys=>
   obtain⟨off,sz,y⟩:=y;simp[n1]at h;obtain⟨U,g⟩:=f h.2;refine⟨by simp[hq]at U ⊢;exact U,λj q p b c=>?_⟩;cases j with
   |zero=>simp[hq]at b c;subst b;subst c;exact⟨h.1.1,dE d e h.1.2⟩
   |succ j=>exact g j q p (by simpa[hq]using b) (by simpa using c)
end
end Rb
namespace Rb
open Go
variable{Xs:Array Value}{v:I}{x y:List I}{m:Nat}{e t:TypeId}{H':O}{V:Value}{R:World}{next:Act->World->Prop}
def Op.o8(m:Nat)(xs ys:Array Value)(e:TypeId)(n:Nat):List Nat->Sem Bool
 |[]=>pure abZ
 | i::r=>do
  let a <-part e xs (i*n);let b <-part e ys (i*n);let x <-ZU m e a b
  if(!x)=abZ then pure ab0 else Op.o8 m xs ys e n r
theorem run_equalIn_array{P:Program}(w:World)(m:Nat)(t e:TypeId)(len:Nat)(i:TypeInfo)(xs ys:Array Value)(ht:P.underlying t=ab1 (.array len e))(hi:P.info? e=ab1 i) :
  (ZU (m+1) t (.agg xs) (.agg ys)).run P w=(Op.o8 m xs ys e i.size (aat len)).run P w:=by
 have hs:(ZK e).run P w = .ok i.size w:=by simp[ZK,typeInfo,hi]
 simp only[ZU,aa6,run_underlying ht,aa7,hs];rw[aa8];have c:aa9 (aa_ [:len]) (aba [:len]) (abb [:len])=aat len:=by simp[aba,abc]
 rw[c];clear hs c;generalize aat len=l;induction l generalizing w with
 |nil=>simp[Op.o8]
 | cons j r d=>
  simp only[List.forIn_cons,Op.o8,aa6,Sem.run_ite];generalize (part e xs (j*i.size)).run P w=r1;cases r1 with
  | ok a w1=>
   simp only[aa7];generalize (part e ys (j*i.size)).run P w1=f;cases f with
   | ok b w2=>
    simp only[aa7];generalize (ZU m e a b).run P w2=g;cases g with
    | ok x w3=>
     cases x
     ·simp only[aa7,Bool.not_false,aQ,abd]
     . simp only[aa7,Bool.not_true,abe,cc,abd];exact d w3
    |halt x w3=>simp[abf]
   |halt x w2=>simp[abf]
  |halt x w1=>simp[abf]
theorem z1:∀(a d:List FK)(xs ys:List I)(b:Bool),dZ (a++d) xs ys=ab1 b ->
  ∃f i g j b1 b2,xs=f++i/\ys=g++j/\f.length=a.length/\g.length=a.length/\dZ a f g=ab1 b1/\dZ d i j=ab1 b2/\b=(b1&&b2):=by
 intro a;induction a with
 |nil=>intro d xs ys b h;exact⟨[],xs,[],ys,abZ,b,rfl,rfl,rfl,rfl,rfl,h,by simp⟩
 | cons k a p=>
  intro d xs ys b h;have step:∀(x y:I)(r t:List I)(e q:Bool),dZ (a++d) r t=ab1 e->(∀(z:Bool),dZ a (r.take a.length) (t.take a.length)=ab1 z->dZ (k::a) (x::r.take a.length) (y::t.take a.length)=ab1 (q&&z))->b=(q&&e) ->
    ∃f i g j b1 b2,x::r=f++i/\y::t=g++j/\f.length=(k::a).length/\g.length=(k::a).length/\dZ (k::a) f g=ab1 b1/\dZ d i j=ab1 b2/\b=(b1&&b2):=by
   intro x y r t e q s n c;obtain⟨f,i,g,j,b1,b2,rfl,rfl,m,o,U,u,v⟩:=p d r t e s;rw[<-m,abg,m,<-o,abg]at n;exact⟨x::f,i,y::g,j,q&&b1,b2,rfl,rfl,by simp[m],by simp[o],n _ U,u,by rw[c,v,Bool.and_assoc]⟩
  cases k<;>cases xs<;>(try (simp[dZ]at h;done))<;>cases ys<;>(try (simp[dZ]at h;done))<;>rename_i x r y t<;>cases x<;>(try (simp[dZ]at h;done))<;>cases y<;>(try (simp[dZ]at h;done))
  . simp only[abh,dZ]at h;split at h
    . rename_i hk;subst hk;cases c:dZ (a++d) r t with
      |none=>simp[c]at h
      | some e=>simp[c]at h;exact step _ _ r t e _ c (λz l=>by simp only[dZ,aQ,l,ZX]) h.symm
    ·cases h
  . simp only[abh,dZ]at h;cases c:dZ (a++d) r t with
    |none=>simp[c]at h
    | some e=>simp[c]at h;exact step _ _ r t e _ c (λz l=>by simp only[dZ,l,ZX]) h.symm
  . simp only[abh,dZ]at h;cases c:dZ (a++d) r t with
    |none=>simp[c]at h
    | some e=>simp[c]at h;exact step _ _ r t e _ c (λz l=>by simp only[dZ,l,ZX]) h.symm
theorem EG:∀(ks:List FK)(xs ys:List I)(b:Bool),dZ ks xs ys=ab1 b->xs.length=ks.length/\ys.length=ks.length:=by intro ks xs ys b h;obtain⟨f,a,g,c,b1,b2,rfl,rfl,U,d,_,e,_⟩:=z1 ks [] xs ys b (by simpa using h);cases a<;>cases c<;>simp[dZ]at e;simp[U,d]
section
variable{P:Program}{F:el}{w:World}{G:ch}
def iq(F:el)(w:World)(G:ch)(Xs:Array Value)(o:Nat)(xs:List I):Prop:=∀(j:Nat)(c:I),xs[j]?=ab1 c->∃V,Xs[o+j]?=ab1 V/\VR F w G c V
theorem iq.left{o:Nat}(h:iq F w G Xs o (x++y)):iq F w G Xs o x:=λj c a=>h j c (by rw[List.getElem?_append_left (ZF.1 a).1];exact a)
theorem iq.right{o:Nat}(h:iq F w G Xs o (x++y)):iq F w G Xs (o+x.length) y:=λj c a=>by have:=h (x.length+j) c (by rw[List.getElem?_append_right (by omega)];simpa using a);rwa [<-Z1]at this
theorem iq.cut{o n:Nat}(h:iq F w G Xs o x)(hn:n=x.length):iq F w G (Xs.extract o (o+n)) 0 x:=λj c a=>by obtain⟨V,b,hv⟩:=h j c a;have d:=(ZF.1 a).1;have e:=(aao.1 b).1;refine⟨V,?_,hv⟩;rw[aar,ZJ,cX];exact b
def qM(P:Program)(F:el)(w:World)(G:ch)(m:Nat)(t:TypeId)(ks:List FK):Prop:=
 ∀ (Xs d:Array Value) (e f:Nat) (xs ys:List I) (b:Bool),dZ ks xs ys=ab1 b->iq F w G Xs e xs->iq F w G d f ys ->
  ∃a c,(part t Xs e).run P w = .ok a w/\(part t d f).run P w = .ok c w/\(ZU m t a c).run P w = .ok b w
def tK(P:Program)(F:el)(w:World)(G:ch)(m:Nat)(t:TypeId)(ks:List FK):Prop:=∀(Xs a:Array Value)(xs ys:List I)(b:Bool),dZ ks xs ys=ab1 b->iq F w G Xs 0 xs->iq F w G a 0 ys->(ZU m t (.agg Xs) (.agg a)).run P w = .ok b w
theorem ON{e:TypeId->Option (List FK)}(r:∀t l,e t=ab1 l->qM P F w G m t l){Xs g:Array Value}:∀(fs:List Field)(k:Nat)(ks:List FK)(xs ys:List I)(b:Bool),o7 e fs k=ab1 ks->dZ ks xs ys=ab1 b ->
  iq F w G Xs k xs->iq F w G g k ys->(abi m Xs g fs).run P w = .ok b w:=by
 intro fs;induction fs with
 | nil=>intro k ks xs ys b d he _ _;simp only[o7,ZW.injEq]at d;subst d;cases xs<;>cases ys<;>simp[dZ]at he;subst he;rfl
 | cons f fs s=>
  intro k ks xs ys b d he i j;simp only[o7]at d;split at d
  . rename_i u;obtain⟨v,x⟩:=u;split at d
    . rename_i l hl;cases h:o7 e fs (k+l.length)with
      |none=>simp[h]at d
      | some n=>
       simp only[h,ZX,ZW.injEq]at d;subst d;obtain⟨y,z,A,B,b1,b2,rfl,rfl,C,D,U,E,rfl⟩:=z1 l n xs ys b he;obtain⟨a,c,o,hc,H⟩:=r _ _ hl Xs g k k y A b1 U i.left j.left;rw[<-v]at o hc;have p:=i.right;have q:=j.right;rw[C]at p;rw[D]at q;simp only[abi,x,ne_eq,not_false_eq_true,aQ,aa6,o,hc,H,aa7];cases b1 with
       |false=>simp
       |true=>simp;exact s (k+l.length) n z B b2 h E p q
    ·cases d
  ·cases d
theorem OO{l:List FK}(j:qM P F w G m e l){Xs d:Array Value}:∀(n s:Nat)(xs ys:List I)(b:Bool),dZ (Gd n l).flatten xs ys=ab1 b ->
  iq F w G Xs (s*l.length) xs->iq F w G d (s*l.length) ys->(Op.o8 m Xs d e l.length (aa9 s n)).run P w = .ok b w:=by
 intro n;induction n with
 | zero=>intro s xs ys b he _ _;cases xs<;>cases ys<;>simp[dZ]at he;subst he;rfl
 | succ n k=>
  intro s xs ys b he f g;rw[aaH,aaI]at he;obtain⟨o,p,q,r,b1,b2,rfl,rfl,t,u,U,v,rfl⟩:=z1 l _ xs ys b he;obtain⟨a,c,x,hc,y⟩:=j Xs d _ _ o q b1 U f.left g.left;have h:=f.right;have i:=g.right;rw[t,<-abj]at h;rw[u,<-abj]at i;rw[List.range'_succ];simp only[Op.o8,aa6,x,hc,y,aa7];cases b1 with
  |false=>simp
  |true=>simp;exact k (s+1) p r b2 v h i
theorem OP:∀(d:Nat)(t:TypeId)(ks:List FK),lN P d t=ab1 ks->∀m,d<=m->qM P F w G m t ks/\(∀D,P.underlying t=ab1 D->iQ D=abZ->tK P F w G m t ks):=by
 intro d;induction d with
 |zero=>intro t ks h;cases h
 | succ d z=>
  intro t ks h m hm;obtain⟨m,rfl⟩:∃M,m=M+1:=⟨m-1,by omega⟩
  have A:d<=m:=by omega
  have wrap:∀D (i:TypeInfo),P.underlying t=ab1 D->iQ D=abZ->P.info? t=ab1 i->i.size=ks.length->tK P F w G (m+1) t ks->qM P F w G (m+1) t ks/\(∀D,P.underlying t=ab1 D->iQ D=abZ->tK P F w G (m+1) t ks):=by intro D i o p hi q B;refine⟨λXs r N O xs ys b he f g=>?_,λ_ _ _=>B⟩;obtain⟨C,E⟩:=EG ks xs ys b he;exact⟨_,_,zI o p hi,zI o p hi,B _ _ xs ys b he (f.cut (by omega)) (g.cut (by omega))⟩
  have v:∀D,P.underlying t=ab1 D->iQ D=ab0->∀k,ks=[k]->(∀x y b V c,dZ [k] [x] [y]=ab1 b->VR F w G x V->VR F w G y c->(ZU (m+1) t V c).run P w = .ok b w)->qM P F w G (m+1) t ks/\(∀D,P.underlying t=ab1 D->iQ D=abZ->tK P F w G (m+1) t ks):=by
   intro D o p k hk hs;subst hk;refine⟨λXs r N O xs ys b he f g=>?_,λT H I=>?_⟩
   . obtain ⟨C,E⟩:=EG _ xs ys b he
     match xs,ys,C,E with
     | [x],[y],_,_=>obtain⟨V,J,hv⟩:=f 0 x rfl;obtain⟨c,K,hu⟩:=g 0 y rfl;rw[aah]at J K;exact⟨V,c,zJ o p J,zJ o p K,hs x y b V c he hv hu⟩
   ·rw[o]at H;cases H;rw[p]at I;cases I
  simp only[lN]at h;split at h
  . rename_i W a;cases h;refine v _ a rfl _ rfl λx y b V c he s u=>?_;cases x<;>cases y<;>simp only[dZ]at he<;>try (cases he;done)
    split at he
    . rename_i Q;subst Q;obtain rfl:=s.im;obtain rfl:=u.im;simp at he;rw[run_equalIn_int w m t _ _ _ _ a,he]
    ·cases he
  . rename_i a;cases h;refine v _ a rfl _ rfl λx y b V c he s u=>?_;cases x<;>cases y<;>simp only[dZ]at he<;>try (cases he;done)
    obtain rfl:=s.kS;obtain rfl:=u.kS;simp at he;rw[run_equalIn_bool' w m t _ _ a,he]
  . rename_i a;cases h;refine v _ a rfl _ rfl λx y b V c he s u=>?_;cases x<;>cases y<;>simp only[dZ]at he<;>try (cases he;done)
    obtain rfl:=s.kT;obtain rfl:=u.kT;simp at he;rw[run_equalIn_string w m t _ _ a];simp[he]
  . rename_i fs i a hi;split at h
    ·cases h
    . rename_i R;split at h
      . rename_i l hl;split at h
        . rename_i q;cases h;refine wrap _ i a rfl hi q λXs r xs ys b he f g=>?_;have L:P.fieldsOf t=fs:=by simp[Program.fieldsOf,a]
          have U:=run_equalIn_struct (P:=P) w m t Xs r (by rw[L];exact a) (by simpa using R);rw[L]at U;rw[U];exact ON (λt l hl=>(z t l hl m A).1) fs.toList 0 _ xs ys b hl he f g
        ·cases h
      ·cases h
  . rename_i n e i a hi;split at h
    . rename_i l j hl S;split at h
      . rename_i q;cases h;refine wrap _ i a rfl hi q.1 λXs r xs ys b he f g=>?_;rw[run_equalIn_array w m t e n j Xs r a S,q.2,abc];exact OO (z e l hl m A).1 n 0 xs ys b he (by simpa using f) (by simpa using g)
      ·cases h
    ·cases h
  ·cases h
end
section
variable{P:Program}{F:el}{w:World}{G:ch}{H:O}
theorem bG.take{cs:List I}{L:List Value}(h:bG F w G cs L.toArray)(k:Nat):bG F w G (cs.take k) (L.take k).toArray:=by
 refine bG.nV (by have:=h.1;simp at this;simp[this]) λj c V hc a=>?_;have b:j<k:=by have:=(ZF.1 hc).1;simp at this;omega
 rw[abk b]at hc a;exact h.2 j c V hc (by simpa using a)
theorem OQ{t t2 e ty:TypeId}{a:TypeInfo}{sz:Nat}{x y v:I}{X Y:Value}{H':O}(d:Rel F w G H)(ht:P.underlying t=ab1 (.slice e))(hi:P.info? e=ab1 a)(hs:a.size=sz)
  (h:m7 H sz x y=ab1 (v,H')) (i:VR F w G x X) (k:VR F w G y Y):kU F w G H v H' ((abl #[t,t2] ty #[X,Y]).run P w):=by
 subst hs;unfold m7 at h;split at h
 . rename_i id o len A m news l;obtain⟨n,f,c,rfl,p⟩:=zV d l k;split at h
   . rename_i cs ho;dsimp only at h;split at h
     . rename_i hk;cases h;have q:∃L:List Value,bG F w G (news.take (min m len*a.size)) L.toArray/\(aaU a.size (min m len) (.slice f m c)).run P w = .ok L.toArray w:=by
        rcases Nat.eq_zero_or_pos m with hm|hm
        . subst hm;have:news=[]:=by simpa using n
          subst this;refine⟨[],by simpa using bG.nil,?_⟩;cases f<;>simp[aaU,loadCells,loadCellsFrom]
        . obtain ⟨bs,os,rfl,r⟩:=p hm;obtain⟨M,g,s⟩:=r.nW;have B:M.length=m*a.size:=by have:=g.1;simp at this;omega
          refine⟨M.take (min m len*a.size),g.take _,?_⟩;have hle:min m len*a.size<=m*a.size:=aaR _ (Nat.min_le_left _ _);exact run_firstCells_some (P:=P) w a.size (min m len) ⟨bs,os,ab2⟩ m c (M.take (min m len*a.size)) (by rw[List.length_take,B];omega) λj u b=>by
           have C:j<min m len*a.size:=by have:=(ZF.1 b).1;simp at this;omega
           rw[abk C]at b;exact s j u b
       obtain⟨L,D,hf⟩:=q;have S:(news.take (min m len*a.size)).length<=min m len*a.size:=by simp;omega
       obtain ⟨R,E,J,K⟩:=zR (P:=P) (o:=o) d ho D (by omega) (by rw[aaB];intro z N;exact(aaB.1 hk.1) z (List.mem_of_mem_take N))
       cases i with
       | row _ _ _ _ cap T hle hc=>refine⟨.int .i64 ((min m len:Nat):Int),R,G,?_,.int _ _,J,K⟩;have Q:Nat.min m len=min m len:=rfl;simp[abl,run_underlying ht,ZK,typeInfo,hi,aaP,Q,hf,E,goInt]
     ·cases h
   ·cases h
 ·cases h
end
def kW(C:Ctx):Prop:=∀key f,C.F key=ab1 f->lM C.P f=abZ
def z6(C:Ctx)(w:World)(G:ch)(H:O)(K:ab)(a:Act)(b:Option Tmp):Act->World->Prop:=λc R=>∃v H' G' V,c=a.put b V/\K v H'/\VR C.F R G' v V/\Rel C.F R G' H'/\Step w G H R G' H'
section
variable{C:Ctx}{w:World}{G:ch}{H:O}{env:Env}{a:Act}{o:Oper}{K:ab}{Q:Exit->Act->World->Prop}
theorem z7(h:(execOp a.eval o).run C.P w = .ok (.value V) R)(hn:next (a.put o.dst V) R):o.wp C.P a w next Q:=by unfold abm;rw[h];exact hn
theorem OR(h:(execOp a.eval o).run C.P w = .ok .skip R)(hn:next (a.put o.dst undef) R):o.wp C.P a w next Q:=by unfold abm;rw[h];exact hn
theorem tM:VR C.F w G (.aH []) undef:= .aH [] #[] rfl λj c V hc _=>by simp at hc
theorem wp_pure(b:Rel C.F w G H)(h:(execOp a.eval o).run C.P w = .ok (.value V) w)(hv:VR C.F w G v V)(c:K v H):o.wp C.P a w (z6 C w G H K a o.dst) Q:=z7 h ⟨v,H,G,V,rfl,c,hv,b,Step.refl _ _ _⟩
theorem mC{r:Result Value}(h:kU C.F w G H v H' r)(b:(execOp a.eval o).run C.P w=r.andThen λV R=> .ok (.value V) R)(c:K v H'):o.wp C.P a w (z6 C w G H K a o.dst) Q:=by obtain⟨V,R,G',rfl,hv,d,e⟩:=h;exact z7 b ⟨v,H',G',V,rfl,c,hv,d,e⟩
theorem EH{f:FuncId}{a:Array Value}(h:lM C.P f=abZ):(callFunc f a).run C.P w = .ok (.enter f a) w:=by
 unfold lM at h;split at h
 . rename_i fn hf;simp at h;obtain⟨U,d⟩:=h;cases b:fn.body with
   |none=>simp[b]at d
   |some c=>simp[callFunc,hf,U,b]
 ·cases h
theorem OS{P:Program}{F:el}{D:TypeDesc}{d:Bool}{ks:List FK}{x y v:I}{X Y:Value}{p q:Operand}(ht:P.underlying t=ab1 D)(l:iQ D=abZ)(m:lN P 9 t=ab1 ks)
  (i:P.eqGuardType P.depth t=ab0) (h:ih d ks x y=ab1 v) (n:VR F w G x X) (o:VR F w G y Y) :
  ∃V,(do eqGuard (if d then .neq else .eql) t p q X Y;binOp (if d then .neq else .eql) t X Y:Sem Value).run P w = .ok V w/\VR F w G v V:=by
 unfold ih at h;split at h
 . rename_i xs ys;obtain⟨Xs,rfl,r⟩:=n.qJ;obtain⟨a,rfl,s⟩:=o.qJ;cases e:dZ ks xs ys with
   |none=>simp[e]at h
   | some b=>
    simp only[e,ZX,ZW.injEq]at h;subst h;have k:(ZV t (.agg Xs) (.agg a)).run P w = .ok b w:=
     (OP (F:=F) (G:=G) 9 t ks m 10000 (by omega)).2 D ht l Xs a xs ys b e (λj c f=>by rw[aar];exact r.get f) (λj c f=>by rw[aar];exact s.get f)
    refine⟨_,?_,.bool _⟩;cases d
    . have g:binOp .eql t (.agg Xs) (.agg a)=(do pure (.bool (<-ZV t (.agg Xs) (.agg a)))):=rfl;simp[eqGuard,i,g,k]
    . have g:binOp .neq t (.agg Xs) (.agg a)=(do pure (.bool (!(<-ZV t (.agg Xs) (.agg a))))):=rfl;simp[eqGuard,i,g,k]
 ·cases h
end
end Rb
namespace Rb
open Go
variable{P:Program}{t e:TypeId}{n sz:Nat}{zero:List I}{α:Type}
section
variable{C:Ctx}{w:World}{G:ch}{H:O}{env:Env}{a:Act}{o:Oper}{K:ab}{Q:Exit->Act->World->Prop}
theorem o9(h:na P t=ab1 e):P.underlying t=ab1 (.slice e):=by
 unfold na at h;split at h
 ·rename_i a ht;cases h;exact ht
 ·cases h
theorem EI(h:tG P t=ab1 (n,e)):P.underlying t=ab1 (.array n e):=by
 unfold tG at h;split at h
 ·rename_i a ht;cases h;exact ht
 ·cases h
theorem EJ{f:Field}(h:o6 P t n=ab1 f):∃fs,P.underlying t=ab1 (.struct fs)/\fs[n]?=ab1 f:=by
 unfold o6 at h;split at h
 ·rename_i fs ht;exact⟨fs,ht,h⟩
 ·cases h
theorem z_(h:nZ P t sz=abZ):∃i,P.info? t=ab1 i/\i.size=sz:=by
 unfold nZ at h;split at h
 ·rename_i i hi;simp at h;exact⟨i,hi,h⟩
 ·cases h
theorem EK{F:el}{sz bytes:Nat}(h:tH P t sz bytes zero=abZ) :
  ∃i z,P.info? t=ab1 i/\i.size=sz/\i.bytes=bytes/\i.zero=ab1 z/\z.cells.size=sz/\kn z.cells.toList zero=abZ:=by
 unfold tH at h;split at h
 . rename_i i hi;simp only[ZL,cq]at h;obtain⟨⟨U,b⟩,a⟩:=h;split at a
   . rename_i z c;simp only[ZL,cq]at a;exact⟨i,z,hi,U,b,c,a.1,a.2⟩
   ·cases a
 ·cases h
theorem nb{l:Array α}{xs:List α}(h:l.toList=xs):l=xs.toArray:=by subst h;simp
theorem OT{α β:Type}{g:α->Sem β}{h:α->β}:∀(l:List α),(∀x∈l,(g x).run P w = .ok (h x) w)->(l.mapM g).run P w = .ok (l.map h) w:=by
 intro l;induction l with
 |nil=>intro _;rfl
 | cons x l a=>intro hl;have U:=hl x (by simp);have b:=a (λy c=>hl y (by simp[c]));rw[abn];simp only[aa6,U,b,aa7,abd,aaZ]
theorem OU{o:TypeInfo}{z:Value}{a:List (Nat×Nat×I)}{ps:List (Nat×Value)}{v:I}(hi:C.P.info? t=ab1 o)(r:o.zero=ab1 z)(A:kn z.cells.toList zero=abZ)
  (hk:zZ C.P t=abZ) (hl:a.length=ps.length) (B:∀(j:Nat)(q:Nat×Nat×I)(p:Nat×Value),a[j]?=ab1 q->ps[j]?=ab1 p->placeOf C.P t p.1=ab1 (q.1,q.2.1)/\VR C.F w G q.2.2 p.2)
  (h:bI zero a=ab1 v):∃V,(abo t ps.toArray).run C.P w = .ok V w/\VR C.F w G v V:=by
 unfold bI at h;cases hf:jX zero a with
 |none=>simp[hf]at h
 | some cells=>
  simp[hf]at h;subst h;have D:=n2 (C:=C) (w:=w) (G:=G) A;have E:bG C.F w G zero z.cells:=by simpa using D
  obtain⟨g,s,H⟩:=Eu (place:=placeOf C.P t) a ps _ _ _ E hl B hf;refine⟨.agg g,?_,H.agg⟩;unfold zZ at hk;split at hk
  . rename_i fs ht;have J:∀(l:List Field),(∀f∈l,(C.P.info? f.type).isSome=abZ)->(l.mapM λf=>(do pure (f.offset,<-ZK f.type):Sem (Nat×Nat))).run C.P w = .ok (l.map λf=>(f.offset,((C.P.info? f.type).map (·.size)).getD 0)) w:=by
     intro l hl;refine OT l λf hf=>?_;have K:=hl f hf;cases b:C.P.info? f.type with
     |none=>simp[b]at K
     |some M=>simp[ZK,typeInfo,b]
    have u:∀f∈fs.toList,(C.P.info? f.type).isSome=abZ:=λf hf=>by rw[Array.all_eq_true_iff_forall_mem]at hk;exact hk f (by simpa using hf)
    have hm:=J fs.toList u;have k:∀i,((fs.toList.map λf=>(f.offset,((C.P.info? f.type).map (·.size)).getD 0)).toArray)[i]?=placeOf C.P t i:=by
     intro i;unfold placeOf;rw[ht];simp only[aaz,aau,Array.getElem?_toList];cases b:fs[i]? with
     |none=>rfl
     | some f=>
      have:=u f (by simpa using Array.mem_of_getElem? b);cases y:C.P.info? f.type with
      |none=>simp[y]at this
      |some x=>simp[y]
    have c:aag (λi=>((fs.toList.map λf=>(f.offset,((C.P.info? f.type).map (·.size)).getD 0)).toArray)[i]?) z.cells ps=ab1 g:=by rw[show(λi=>((fs.toList.map λf=>(f.offset,((C.P.info? f.type).map (·.size)).getD 0)).toArray)[i]?)=placeOf C.P t from funext k];exact s
    have L:(fs.mapM λf=>(do pure (f.offset,<-ZK f.type):Sem (Nat×Nat))).run C.P w = .ok (fs.toList.map λf=>(f.offset,((C.P.info? f.type).map (·.size)).getD 0)).toArray w:=by
     have he:fs=fs.toList.toArray:=by simp
     rw[he,abp];simp only[abq,hm,aa7]
    simp only[abo,zeroValue,typeInfo,aa6,run_program,aa7,hi,r,run_underlying ht,L,abd];simp at c;simp[c]
  . rename_i n e ht;cases m:C.P.info? e with
    |none=>simp[m]at hk
    | some d=>
     have k:(λi=>ab1 (i*d.size,d.size))=placeOf C.P t:=by funext i;unfold placeOf;rw[ht];simp[m]
     have c:aag (λi=>ab1 (i*d.size,d.size)) z.cells ps=ab1 g:=by rw[k];exact s
     simp[abo,zeroValue,typeInfo,ZK,hi,r,run_underlying ht,m,c]
  ·cases hk
theorem EL(aJ:kW C){ao:e_}(g:dR C o.op ao=abZ)(an:fa C w G H)(L:Rel C.F w G H)(A:bG C.F w G env a.tmps)(h:cW (ag C) env H K ao) :
  o.wp C.P a w (z6 C w G H K a o.dst) Q:=by
 have B:=an.1;cases ao with
 | mv x=>
  simp only[dR]at g;split at g
  . rename_i y ho;exact wp_pure L (by simp[execOp,ho]) (dE B A g) h
  . rename_i y ho;exact wp_pure L (by simp[execOp,ho]) (dE B A g) h
  ·cases g
 | pick c x y=>
  simp only[dR]at g;split at g
  . rename_i c' M Z ho;simp only[ZL]at g;obtain⟨⟨U,m⟩,E⟩:=g;obtain⟨t,ht,h⟩:=zL h;have hc:=dE B A U;rw[ht]at hc;have aG:=hc.kS;cases t with
    |true=>exact wp_pure L (V:=a.eval M) (by simp[execOp,ho,aG,asBool]) (dE B A m) (by simpa using h)
    |false=>exact wp_pure L (V:=a.eval Z) (by simp[execOp,ho,aG,asBool]) (dE B A E) (by simpa using h)
  ·cases g
 | bin op x y=>
  simp only[dR]at g;split at g
  . rename_i ak t M Z ap ho;simp only[ZL,cq]at g;obtain⟨⟨rfl,m⟩,E⟩:=g;obtain⟨v,hv,u⟩:=h;have O:=dE B A m;have aq:=dE B A E;obtain⟨V,J,I⟩:=N5 (P:=C.P) (t:=t) hv O aq;have N:=Ep (P:=C.P) (w:=w) op t M Z (a.eval M) (a.eval Z)
     (λcs e=>by rw[e]at O;generalize x.ev env=ar at O hv;cases O<;>simp[dA]at hv)
     (λe=>by rw[e]at O;generalize x.ev env=ar at O hv;cases O<;>simp[dA]at hv)
    exact wp_pure L (by simp[execOp,ho,N,J]) I u
  ·cases g
 | beq neg x y=>
  simp only[dR]at g;split at g
  . rename_i ak t M Z ap ho;simp only[ZL,cq]at g;obtain⟨⟨⟨rfl,U⟩,m⟩,E⟩:=g;obtain⟨v,hv,u⟩:=h;have O:=dE B A m;have aq:=dE B A E;split at U
    . rename_i ht;obtain⟨V,J,I⟩:=N6 (P:=C.P) (t:=t) ht hv O aq;have N:=Ep (P:=C.P) (w:=w) (if neg then .neq else .eql) t M Z (a.eval M) (a.eval Z)
       (λcs e=>by rw[e]at O;generalize x.ev env=ar at O hv;cases O<;>simp[kL]at hv)
       (λe=>by rw[e]at O;generalize x.ev env=ar at O hv;cases O<;>simp[kL]at hv)
      exact wp_pure L (by simp[execOp,ho,N,J]) I u
    ·cases U
  ·cases g
 | kk k neg x=>
  simp only[dR]at g;split at g
  . rename_i ak t M Z ap ho;simp only[ZL,cq]at g;obtain⟨⟨⟨rfl,U⟩,m⟩,E⟩:=g;obtain⟨v,hv,u⟩:=h;have O:=dE B A m;split at U
    . rename_i d S;simp only[cq]at U;split at E
      . rename_i aK;have aL:aK=k.nil:=by
         split at E<;>first|rfl|cases E
        subst aL;obtain⟨V,J,I⟩:=N8 (P:=C.P) S U hv O;have N:(eqGuard (if neg then .neq else .eql) t M (.const k.nil) (a.eval M) k.nil).run C.P w = .ok () w:=by unfold eqGuard;cases neg<;>cases k<;>cases a7:a.eval M<;>simp[NK.nil]
        have aM:a.eval (.const k.nil)=k.nil:=rfl;exact wp_pure L (by simp[execOp,ho,aM,N,J]) I u
      ·cases E
    ·cases U
  ·cases g
 | jI neg ks x y=>
  simp only[dR]at g;split at g
  . rename_i ak t M Z ap ho;simp only[ZL,cq,abr]at g;obtain⟨⟨⟨⟨⟨rfl,U⟩,m⟩,E⟩,ac⟩,ad⟩:=g;obtain⟨v,hv,u⟩:=h;split at U
    . rename_i D ht;obtain⟨V,J,I⟩:=OS (P:=C.P) (p:=M) (q:=Z) ht U m E hv (dE B A ac) (dE B A ad);exact wp_pure L (by simp only[execOp,ho,aa6]at J ⊢;rw[J];rfl) I u
    ·cases U
  ·cases g
 | un op x=>
  simp only[dR]at g;split at g
  . rename_i ak t M ho;simp only[ZL,cq]at g;obtain⟨rfl,m⟩:=g;obtain⟨v,hv,u⟩:=h;obtain⟨V,J,I⟩:=N9 (P:=C.P) hv (dE B A m);exact wp_pure L (by simp[execOp,ho,J]) I u
  ·cases g
 | conv k x=>
  simp only[dR]at g;split at g
  . rename_i s d M ho;simp only[ZL]at g;obtain⟨U,m⟩:=g;obtain⟨v,hv,u⟩:=h;split at U
    . rename_i d1 a8 hs S;simp at U;subst U;obtain⟨V,J,I⟩:=N_ (P:=C.P) hs S hv (dE B A m);exact wp_pure L (by simp[execOp,ho,J]) I u
    ·cases U
  ·cases g
 | same x=>
  simp only[dR]at g;split at g
  . rename_i s d M ho;simp only[ZL]at g;obtain⟨U,m⟩:=g;obtain⟨v,hv,u⟩:=h;split at U
    . rename_i hs S;obtain⟨V,J,I⟩:=Oa (P:=C.P) hs S hv (dE B A m);exact wp_pure L (by simp[execOp,ho,J]) I u
    ·cases U
  ·cases g
 | kM x=>
  simp only[dR]at g;split at g
  . rename_i M ho;obtain⟨v,hv,u⟩:=h;rcases Ob hv (dE B A g)with⟨⟨a9,ae⟩,I⟩|⟨⟨f,As,Vs,ae⟩,I⟩
    ·exact wp_pure L (by simp[execOp,ho,ae]) I u
    ·exact wp_pure L (by simp[execOp,ho,ae]) I u
  ·cases g
 | field off sz agg x=>
  simp only[dR]at g;split at g
  . rename_i t M n ho;simp only[ZL]at g;obtain⟨U,m⟩:=g;obtain⟨v,hv,u⟩:=h;split at U
    . rename_i f hf;simp only[ZL,cq]at U;obtain⟨fs,ht,au⟩:=EJ hf;obtain⟨V,J,I⟩:=Oc (P:=C.P) ht au U.1 U.2 hv (dE B A m);exact wp_pure L (by simp[execOp,ho,J]) I u
    ·cases U
  ·cases g
 | idx len sz agg x i=>
  simp only[dR]at g;split at g
  . rename_i t M av ho;simp only[ZL]at g;obtain⟨⟨U,m⟩,E⟩:=g;obtain⟨v,hv,u⟩:=h;split at U
    . rename_i n e hn;simp only[ZL,cq]at U;obtain⟨rfl,aw⟩:=U;obtain⟨V,J,I⟩:=Od (P:=C.P) (EI hn) aw hv (dE B A m) (dE B A E);exact wp_pure L (by simp[execOp,ho,J]) I u
    ·cases U
  ·cases g
 | idxs x i=>
  simp only[dR]at g;split at g
  . rename_i t M av ho;simp only[ZL]at g;obtain⟨⟨U,m⟩,E⟩:=g;obtain⟨v,hv,u⟩:=h;split at U
    . rename_i ht;obtain⟨V,J,I⟩:=Oe (P:=C.P) ht hv (dE B A m) (dE B A E);exact wp_pure L (by simp[execOp,ho,J]) I u
    ·cases U
  ·cases g
 | kN off x=>
  simp only[dR]at g;split at g
  . rename_i t M n ho;simp only[ZL]at g;obtain⟨U,m⟩:=g;obtain⟨v,hv,u⟩:=h;split at U
    . rename_i f hf;simp only[ZL,cq]at U;obtain⟨rfl,U⟩:=U;obtain⟨fs,ht,au⟩:=EJ hf;split at U
      . rename_i a_ aN;obtain⟨V,J,I⟩:=Of (P:=C.P) ht au rfl aN (by simpa using U) hv (dE B A m);exact wp_pure L (by simp[execOp,ho,J]) I u
      ·cases U
    ·cases U
  ·cases g
 | kl arr sz x i=>
  simp only[dR]at g;split at g
  . rename_i t M av ho;simp only[ZL]at g;obtain⟨⟨U,m⟩,E⟩:=g;obtain⟨v,hv,u⟩:=h;have key:∃e inf,(match arr with|none=>C.P.underlying t=ab1 (.slice e)|some n=>C.P.underlying t=ab1 (.array n e))/\C.P.info? e=ab1 inf/\inf.size=sz:=by
     split at U
     . split at U
       . rename_i e T;obtain⟨inf,hi,hs⟩:=z_ U;exact⟨e,inf,o9 T,hi,hs⟩
       ·cases U
     . split at U
       . rename_i aO e T;simp only[ZL,cq]at U;obtain⟨rfl,U⟩:=U;obtain⟨inf,hi,hs⟩:=z_ U;exact⟨e,inf,EI T,hi,hs⟩
       ·cases U
    obtain⟨e,inf,ht,hi,hs⟩:=key;obtain⟨V,J,I⟩:=Oh (P:=C.P) ht hi hs hv (dE B A m) (dE B A E);exact wp_pure L (by simp[execOp,ho,J]) I u
  ·cases g
 | slice sz x lo hi mx=>
  simp only[dR]at g;split at g
  . rename_i t M aP aR aH ho;simp only[ZL]at g;obtain⟨⟨⟨⟨⟨U,m⟩,E⟩,ac⟩,ad⟩,aS⟩:=g;obtain⟨v,hv,u⟩:=h;split at U
    . rename_i e T;obtain⟨inf,W,hs⟩:=z_ U;obtain⟨V,J,I⟩:=Oj (P:=C.P) (o9 T) W hs (λhm=>by cases mx<;>cases hi<;>simp at aS hm ⊢) hv (dE B A m) (qL B A E) (qL B A ac) (qL B A ad);exact wp_pure L (by simp[execOp,ho,J]) I u
    ·cases U
  ·cases g
 | kO x lo hi=>
  simp only[dR]at g;split at g
  . rename_i t M aP aR aH ho;simp only[ZL]at g;obtain⟨⟨⟨⟨U,m⟩,E⟩,ac⟩,ad⟩:=g;obtain⟨v,hv,u⟩:=h;cases aH with
    |some _=>simp at ad
    |none=>
    split at U
    . rename_i ht;obtain⟨V,J,I⟩:=Oi (P:=C.P) ht hv (dE B A m) (qL B A E) (qL B A ac);exact wp_pure L (by simp[execOp,ho,J]) I u
    ·cases U
  ·cases g
 | iN t x=>
  simp only[dR]at g;split at g
  . rename_i ax M ho;simp only[ZL,cq]at g;obtain⟨⟨rfl,U⟩,m⟩:=g;refine wp_pure L (V:= .iface t (a.eval M)) ?_ (.iface _ _ _ (dE B A m)) h;split at U
    ·cases U
    . rename_i d ay S;have:(abt t (a.eval M)).run C.P w = .ok (.iface t (a.eval M)) w:=by
       simp only[abt,aa6,run_underlying S,aa7];cases d<;>first|rfl|(exact absurd rfl (ay _))
      simp[execOp,ho,this]
    ·cases U
  ·cases g
 | ij key cB=>
  simp only[dR]at g;split at g
  . rename_i f first az ho
    cases ab:iM key with
    | none=>
     simp only[ab,ZL,cq]at g;obtain⟨⟨U,m⟩,E⟩:=g;have Y:first = #[]:=by simpa using m
     subst Y;have hc:=tJ B A E;refine wp_pure L (V:= .func (.func f) #[] (az.map a.eval)) (by simp[execOp,ho,Instr.makeFunc]) ?_ h;have hm:(List.map a.eval az.toList).toArray=az.map a.eval:=by apply abu;simp
     rw[hm]at hc;exact .fn key _ f _ ab U hc.1 hc.2
    |some k=>simp[ab]at g
  ·cases g
 | extract i x=>
  simp only[dR]at g;split at g
  . rename_i M av ho;simp only[ZL,cq]at g;obtain⟨rfl,m⟩:=g;obtain⟨v,hv,u⟩:=h;obtain⟨V,J,I⟩:=Og (P:=C.P) hv (dE B A m);exact wp_pure L (by simp[execOp,ho,J]) I u
  ·cases g
 | build zero parts=>
  simp only[dR]at g;split at g
  . rename_i t ps ho;simp only[ZL]at g;obtain⟨⟨U,m⟩,E⟩:=g;obtain⟨v,hv,u⟩:=h;split at U
    . rename_i inf W;split at U
      . rename_i z Y;obtain⟨hl,aA⟩:=EF B A E;obtain⟨V,J,I⟩:=OU W Y U m hl aA hv;refine wp_pure L (V:=V) ?_ I u;have hm:(ps.map λ(x:Nat×Operand)=>(x.1,a.eval x.2))=(ps.toList.map λx=>(x.1,a.eval x.2)).toArray:=by apply abu;simp
        simp only[execOp,ho,hm,aa6,J,aa7,abd]
      ·cases U
    ·cases U
  ·cases g
 | len str x=>
  simp only[dR]at g;split at g
  . rename_i args argTypes ho;split at g
    . rename_i M t aa af;simp only[ZL]at g;obtain⟨U,m⟩:=g;obtain⟨v,hv,u⟩:=h;obtain rfl:=nb aa;obtain rfl:=nb af;have key:∃d,C.P.underlying t=ab1 d/\(if str then d = .string else ∃e,d = .slice e):=by
       split at m
       ·rename_i ht;exact⟨_,ht,by simp[m]⟩
       ·rename_i e ht;exact⟨_,ht,by simp at m;simp[m]⟩
       ·cases m
      obtain⟨d,S,hk⟩:=key;obtain⟨V,J,I⟩:=Om (P:=C.P) (ty:=o.type) S hk hv (dE B A U);exact wp_pure L (by simp[execOp,ho,resolve,invoke,builtin,J]) I u
    ·cases g
  ·cases g
 | iO n=>
  simp only[dR]at g;split at g
  . rename_i args argTypes ho;split at g
    . rename_i M t aa af;obtain rfl:=nb aa;obtain rfl:=nb af;split at g
      . rename_i aO e ht;simp at g;subst g;refine wp_pure L (V:= .int .i64 n) ?_ (.int _ _) h;simp[execOp,ho,resolve,invoke,builtin,aai,run_underlying ht,goInt]
      ·cases g
    ·cases g
  ·cases g
 | iP mx xs=>
  simp only[dR]at g;split at g
  . rename_i b args hM ho;simp only[ZL]at g;obtain⟨U,m⟩:=g;obtain⟨v,hv,u⟩:=h;have hc:=tJ B A m;unfold hj at hv;split at hv
    . rename_i k n r aT;rw[aT]at hc;have ay:∃X Xs,args.toList.map a.eval=X::Xs:=by
       cases hl:args.toList.map a.eval with
       |nil=>rw[hl]at hc;have:=hc.1;simp at this
       |cons X Xs=>exact⟨X,Xs,rfl⟩
      obtain⟨X,Xs,al⟩:=ay;rw[al]at hc;have ae:=hc.2 0 _ X rfl (by simp);obtain⟨V,J,I⟩:=On (P:=C.P) r Xs _ v X hv ae (by have:=hc.1;simp at this;omega) λj c aU aV aW=>hc.2 (j+1) c aU (by simpa using aV) (by simpa using aW);refine wp_pure L (V:=V) ?_ I u;have hm:(args.map a.eval).toList=X::Xs:=by simpa using al
      split at U
      . subst U;simp only[aQ]at J;simp[execOp,ho,resolve,invoke,builtin,Builtin.max_,al,J]
      . simp at U;subst U;simp only[abe,cc]at J;simp[execOp,ho,resolve,invoke,builtin,Builtin.min_,al,J]
      ·cases U
    ·cases hv
  ·cases g
 | load n agg x=>
  simp only[dR]at g;split at g
  . rename_i t M ho;simp only[ZL]at g;obtain⟨v,hv,u⟩:=h;obtain⟨V,J,I⟩:=Ew (P:=C.P) g.1 L hv (dE B A g.2);exact wp_pure L (by simp[execOp,ho,J]) I u
  ·cases g
 | store n x v=>
  simp only[dR]at g;split at g
  . rename_i t M ba ho;simp only[ZL,ZM]at g;obtain⟨⟨U,m⟩,E⟩:=g;obtain⟨H',hv,u⟩:=h;have key:∃agg,jl C.P t n agg=abZ:=by rcases U with U|U<;>exact⟨_,U⟩
    obtain⟨agg,aw⟩:=key;obtain⟨R,J,I,ai⟩:=Ow (P:=C.P) aw L hv (dE B A m) (dE B A E);exact OR (by simp[execOp,ho,J]) ⟨_,H',G,undef,rfl,u,tM,I,ai⟩
  ·cases g
 | box mu n x=>
  simp only[dR]at g;split at g
  . rename_i t M ho;obtain⟨v,H',hv,u⟩:=h;have N:=Ox (P:=C.P) (t:=t) L hv (dE B A g);exact mC N (by simp[execOp,ho]) u
  ·cases g
 | alloc mu zero=>
  simp only[dR]at g;split at g
  . rename_i t ho;obtain⟨v,H',hv,u⟩:=h;split at g
    . rename_i inf W;split at g
      . rename_i z Y;have aj:=n2 (C:=C) (w:=w) (G:=G) g;have N:=Oy (P:=C.P) (t:=t) (mu:=mu) L W Y (by simpa using aj);have e:=ZW.inj hv;rw[e]at N;exact mC N (by simp[execOp,ho]) u
      ·cases g
    ·cases g
  ·cases g
 | ik mu sz len zero parts=>
  simp only[dR]at g;split at g
  . rename_i t bb ps ho;obtain⟨v,H',hv,u⟩:=h;split at g
    . rename_i e T;simp only[ZL,cq,du]at g;obtain⟨⟨⟨⟨U,m⟩,rfl⟩,ac⟩,ad⟩:=g;split at U
      . rename_i bc bd;obtain⟨inf,z,W,hs,ab,Y,aX,aB⟩:=EK (F:=C.F) U;have aj:=n2 (C:=C) (w:=w) (G:=G) aB;obtain⟨hl,aA⟩:=EF B A ad;have N:=OA (P:=C.P) L (o9 T) W hs Y (by simpa using aj) m ac hl (λj q p aY aZ=>by
          obtain⟨e1,a0⟩:=aA j q p aY aZ;exact⟨ZW.inj e1,a0⟩) hv
        have hm:(ps.map λ(x:Nat×Operand)=>(x.1,a.eval x.2))=(ps.toList.map λx=>(x.1,a.eval x.2)).toArray:=by apply abu;simp
        exact mC N (by simp only[execOp,ho,hm,aa6,abd]) u
      ·cases U
    ·cases g
  ·cases g
 | append mu sz bytes x y=>
  simp only[dR]at g;split at g
  . rename_i args argTypes ho;split at g
    . rename_i M Z t ax aa af;simp only[ZL,cq]at g;obtain⟨⟨⟨rfl,U⟩,m⟩,E⟩:=g;obtain⟨v,H',hv,u⟩:=h;obtain rfl:=nb aa;obtain rfl:=nb af;split at E
      . rename_i e T;split at E
        . rename_i inf W;simp only[ZL,cq,du]at E;obtain⟨⟨⟨hs,ab⟩,Y⟩,a1⟩:=E;split at Y
          . rename_i z a2;have N:=OD (P:=C.P) (ty:=o.type) L (o9 T) W hs ab a2 (by simpa using Y) a1 hv (dE B A U) (dE B A m);exact mC N (by simp[execOp,ho,resolve,invoke,builtin]) u
          ·cases Y
        ·cases E
      ·cases E
    ·cases g
  ·cases g
 | make mu sz bytes zero len cap=>
  simp only[dR]at g;split at g
  . rename_i t l c ho;simp only[ZL]at g;obtain⟨⟨U,m⟩,E⟩:=g;obtain⟨v,H',hv,u⟩:=h;split at E
    . rename_i e T;obtain⟨inf,z,W,hs,ab,Y,aX,aB⟩:=EK (F:=C.F) E;have aj:=n2 (C:=C) (w:=w) (G:=G) aB;have N:=OB (P:=C.P) L (o9 T) W hs ab Y (by simpa using aj) hv (dE B A U) (dE B A m);exact mC N (by simp[execOp,ho]) u
    ·cases E
  ·cases g
 | call key args=>
  simp only[dR]at g;split at g
  . rename_i f ah hM ho;simp only[ZL,cq]at g;obtain⟨⟨U,m⟩,E⟩:=g;have hc:=h.2 f U G w _ an L (tJ B A E);have hm:(ah.toList.map a.eval).toArray=ah.map a.eval:=by apply abu;simp
    rw[hm]at hc;have J:(execOp a.eval o).run C.P w = .ok (.enter f (ah.map a.eval)) w:=by simp[execOp,ho,resolve,Act.eval,abv,invoke,EH m]
    unfold abm;rw[J];refine abw hc λe R aC=>?_;obtain⟨V,v,H',G',rfl,aD,hv,I,ai⟩:=aC;exact⟨v,H',G',V,rfl,aD,hv,I,ai⟩
  ·cases g
 | jj f args=>
  simp only[dR]at g;split at g
  . rename_i aI ah hM ho;simp only[ZL]at g;obtain⟨U,E⟩:=g;obtain⟨key,cB,hf,h⟩:=h;have aE:=dE B A U;rw[hf]at aE;have a3:(∃fp Vs,a.eval aI = .func (.func fp) #[] Vs/\iM key=ab2/\C.F key=ab1 fp/\bG C.F w G cB Vs):=by
     generalize a.eval aI=X at aE;cases aE with
     |fn _ _ fp Vs hk a4 hl hv=>exact⟨fp,Vs,rfl,hk,a4,hl,hv⟩
    have hm:(ah.toList.map a.eval).toArray=ah.map a.eval:=by apply abu;simp
    obtain ⟨fp,As,am,aa,J⟩:∃fp As,C.F (lB key)=ab1 fp/\bG C.F w G (lC key (gC env args) cB) As/\(execOp a.eval o).run C.P w = .ok (.enter fp As) w:=by
     obtain⟨fp,Vs,ae,hk,am,a5⟩:=a3
     . rw[zF hk,zG hk];have aa:=(tJ B A E).app a5;rw[hm]at aa;refine⟨fp,ah.map a.eval++Vs,am,aa,?_⟩;simp[execOp,ho,resolve,ae,abv,invoke,EH (aJ key fp am)]
    have hc:=h.2 fp am G w _ an L aa;unfold abm;rw[J];refine abw hc λe R aC=>?_;obtain⟨V,v,H',G',rfl,aD,hv,I,ai⟩:=aC;exact⟨v,H',G',V,rfl,aD,hv,I,ai⟩
  ·cases g
 | ext e xs=>
  simp only[dR]at g;obtain⟨v,H',hv,u⟩:=h;cases e with
  |stuck=>simp[zE]at hv
 | kP x=>
  simp only[dR]at g;split at g
  . rename_i s d M ho;simp only[ZL]at g;obtain⟨U,m⟩:=g;obtain⟨v,hv,u⟩:=h;split at U
    . rename_i e hs S;split at U
      . rename_i aF;have N:=OE (P:=C.P) L hs S aF hv (dE B A m);exact mC N (by simp[execOp,ho]) u
      ·cases U
    ·cases U
  ·cases g
 | jg x=>
  simp only[dR]at g;split at g
  . rename_i s d M ho;simp only[ZL]at g;obtain⟨U,m⟩:=g;obtain⟨v,hv,u⟩:=h;split at U
    . rename_i e hs S;split at U
      . rename_i aF;obtain⟨V,I,a6⟩:=OH (P:=C.P) L hs aF S hv (dE B A m);exact wp_pure L (by simp[execOp,ho,I]) a6 u
      ·cases U
    ·cases U
  ·cases g
 | jh x=>
  simp only[dR]at g;split at g
  . rename_i t M ho;simp only[ZL]at g;obtain⟨U,m⟩:=g;obtain⟨v,H',hv,u⟩:=h;split at U
    . rename_i ht;have N:=OI (P:=C.P) L ht hv (dE B A m);exact mC N (by simp[execOp,ho]) u
    ·cases U
  ·cases g
 | ji x=>
  simp only[dR]at g;split at g
  . rename_i M ho;obtain⟨v,H',hv,u⟩:=h;have N:=OJ (P:=C.P) (t:=o.type) L hv (dE B A g);exact mC N (by simp[execOp,ho]) u
  ·cases g
 | copy sz x y=>
  simp only[dR]at g;split at g
  . rename_i args argTypes ho;split at g
    . rename_i M Z t ax aa af;simp only[ZL]at g;obtain⟨⟨U,m⟩,E⟩:=g;obtain⟨v,H',hv,u⟩:=h;obtain rfl:=nb aa;obtain rfl:=nb af;split at E
      . rename_i e T;unfold nZ at E;split at E
        . rename_i inf W;have N:=OQ (P:=C.P) (ty:=o.type) (t2:=ax) L (o9 T) W (by simpa using E) hv (dE B A U) (dE B A m);exact mC N (by simp[execOp,ho,resolve,invoke,builtin]) u
        ·cases E
      ·cases E
    ·cases g
  ·cases g
end
end Rb
namespace Rb
open Go
variable{H:O}{op:e_}{Φ:Z}{K:ab}{v:I}
def b7.dF:b7->List Nat
 | .t n=>[n]
 | .k _=>[]
def o_:Option b7->List Nat
 |some x=>x.dF
 |none=>[]
def nc(xs:List b7):List Nat:=xs.flatMap b7.dF
def qN(xs:List (Nat×Nat×b7)):List Nat:=xs.flatMap λp=>p.2.2.dF
def df:e_->List Nat
 | .mv  x=>(x.dF)
 | .pick  c x y=>(c.dF)++(x.dF)++(y.dF)
 | .bin _ x y=>(x.dF)++(y.dF)
 | .beq _ x y=>(x.dF)++(y.dF)
 | .kk _ _ x=>(x.dF)
 | .jI _ _ x y=>(x.dF)++(y.dF)
 | .un _ x=>(x.dF)
 | .conv _ x=>(x.dF)
 | .same  x=>(x.dF)
 | .kM  x=>(x.dF)
 | .field _ _ _ x=>(x.dF)
 | .idx _ _ _ x i=>(x.dF)++(i.dF)
 | .idxs  x i=>(x.dF)++(i.dF)
 | .kN _ x=>(x.dF)
 | .kl _ _ x i=>(x.dF)++(i.dF)
 | .slice _ x lo hi mx=>(x.dF)++(o_ lo)++(o_ hi)++(o_ mx)
 | .kO  x lo hi=>(x.dF)++(o_ lo)++(o_ hi)
 | .iN _ x=>(x.dF)
 | .ij _ cB=>(nc cB)
 | .extract _ x=>(x.dF)
 | .build _ parts=>(qN parts)
 | .len _ x=>(x.dF)
 | .iO _  =>[]
 | .iP _ xs=>(nc xs)
 | .load _ _ x=>(x.dF)
 | .store _ x v=>(x.dF)++(v.dF)
 | .box _ _ x=>(x.dF)
 | .alloc _ _  =>[]
 | .ik _ _ _ _ parts=>(qN parts)
 | .append _ _ _ x y=>(x.dF)++(y.dF)
 | .make _ _ _ _ len cap=>(len.dF)++(cap.dF)
 | .copy _ x y=>(x.dF)++(y.dF)
 | .kP x=>(x.dF)
 | .jg x=>(x.dF)
 | .jh x=>(x.dF)
 | .ji x=>(x.dF)
 | .call _ args=>(nc args)
 | .jj  f args=>(f.dF)++(nc args)
 | .ext _ xs=>nc xs
section
variable{env bw:Env}
theorem dM(x:b7)(h:∀t∈x.dF,env.getD t .bot=bw.getD t .bot):x.ev env=x.ev bw:=by
 cases x with
 |t n=>exact h n (by simp[b7.dF])
 |k v=>rfl
theorem qO(x:Option b7)(h:∀t∈o_ x,env.getD t .bot=bw.getD t .bot):x.map (b7.ev env)=x.map (b7.ev bw):=by
 cases x with
 |none=>rfl
 |some x=>simp only[ZX];rw[dM x h]
theorem qP(xs:List b7)(h:∀t∈nc xs,env.getD t .bot=bw.getD t .bot):gC env xs=gC bw xs:=by
 induction xs with
 |nil=>rfl
 | cons x xs a=>simp only[gC,aaZ]at a ⊢;rw[dM x (λt ht=>h t (by simp[nc];left;exact ht)),a (λt ht=>h t (by simp[nc]at ht ⊢;right;exact ht))]
theorem EM(xs:List (Nat×Nat×b7))(h:∀t∈qN xs,env.getD t .bot=bw.getD t .bot):hq env xs=hq bw xs:=by
 induction xs with
 |nil=>rfl
 | cons x xs a=>simp only[hq,aaZ]at a ⊢;rw[dM x.2.2 (λt ht=>h t (by simp[qN];left;exact ht)),a (λt ht=>h t (by simp[qN]at ht ⊢;right;exact ht))]
theorem Aa(op:e_)(h:∀t∈df op,env.getD t .bot=bw.getD t .bot):cW Φ env H K op=cW Φ bw H K op:=by
 cases op with
 |mv x=>simp only[cW];rw[dM x (λt ht=>h t (by simp only[df,abx];simp[ht]))]
 |pick c x y=>simp only[cW];rw[dM c (λt ht=>h t (by simp only[df,abx];simp[ht])),dM x (λt ht=>h t (by simp only[df,abx];simp[ht])),dM y (λt ht=>h t (by simp only[df,abx];simp[ht]))]
 |bin op x y=>simp only[cW];rw[dM x (λt ht=>h t (by simp only[df,abx];simp[ht])),dM y (λt ht=>h t (by simp only[df,abx];simp[ht]))]
 |beq neg x y=>simp only[cW];rw[dM x (λt ht=>h t (by simp only[df,abx];simp[ht])),dM y (λt ht=>h t (by simp only[df,abx];simp[ht]))]
 |kk k neg x=>simp only[cW];rw[dM x (λt ht=>h t (by simp only[df,abx];simp[ht]))]
 |jI neg ks x y=>simp only[cW];rw[dM x (λt ht=>h t (by simp only[df,abx];simp[ht])),dM y (λt ht=>h t (by simp only[df,abx];simp[ht]))]
 |un op x=>simp only[cW];rw[dM x (λt ht=>h t (by simp only[df,abx];simp[ht]))]
 |conv k x=>simp only[cW];rw[dM x (λt ht=>h t (by simp only[df,abx];simp[ht]))]
 |same x=>simp only[cW];rw[dM x (λt ht=>h t (by simp only[df,abx];simp[ht]))]
 |kM x=>simp only[cW];rw[dM x (λt ht=>h t (by simp only[df,abx];simp[ht]))]
 |field off sz agg x=>simp only[cW];rw[dM x (λt ht=>h t (by simp only[df,abx];simp[ht]))]
 |idx len sz agg x i=>simp only[cW];rw[dM x (λt ht=>h t (by simp only[df,abx];simp[ht])),dM i (λt ht=>h t (by simp only[df,abx];simp[ht]))]
 |idxs x i=>simp only[cW];rw[dM x (λt ht=>h t (by simp only[df,abx];simp[ht])),dM i (λt ht=>h t (by simp only[df,abx];simp[ht]))]
 |kN off x=>simp only[cW];rw[dM x (λt ht=>h t (by simp only[df,abx];simp[ht]))]
 |kl arr sz x i=>simp only[cW];rw[dM x (λt ht=>h t (by simp only[df,abx];simp[ht])),dM i (λt ht=>h t (by simp only[df,abx];simp[ht]))]
 |slice sz x lo hi mx=>simp only[cW];rw[dM x (λt ht=>h t (by simp only[df,abx];simp[ht])),qO lo (λt ht=>h t (by simp only[df,abx];simp[ht])),qO hi (λt ht=>h t (by simp only[df,abx];simp[ht])),qO mx (λt ht=>h t (by simp only[df,abx];simp[ht]))]
 |kO x lo hi=>simp only[cW];rw[dM x (λt ht=>h t (by simp only[df,abx];simp[ht])),qO lo (λt ht=>h t (by simp only[df,abx];simp[ht])),qO hi (λt ht=>h t (by simp only[df,abx];simp[ht]))]
 |iN t x=>simp only[cW];rw[dM x (λt ht=>h t (by simp only[df,abx];simp[ht]))]
 |ij key cB=>simp only[cW];rw[qP cB (λt ht=>h t (by simp only[df,abx];simp[ht]))]
 |extract i x=>simp only[cW];rw[dM x (λt ht=>h t (by simp only[df,abx];simp[ht]))]
 |build zero parts=>simp only[cW];rw[EM parts (λt ht=>h t (by simp only[df,abx];simp[ht]))]
 |len str x=>simp only[cW];rw[dM x (λt ht=>h t (by simp only[df,abx];simp[ht]))]
 |iO n=>rfl
 |iP mx xs=>simp only[cW];rw[qP xs (λt ht=>h t (by simp only[df,abx];simp[ht]))]
 |load n agg x=>simp only[cW];rw[dM x (λt ht=>h t (by simp only[df,abx];simp[ht]))]
 |store n x v=>simp only[cW];rw[dM x (λt ht=>h t (by simp only[df,abx];simp[ht])),dM v (λt ht=>h t (by simp only[df,abx];simp[ht]))]
 |box mu n x=>simp only[cW];rw[dM x (λt ht=>h t (by simp only[df,abx];simp[ht]))]
 |alloc mu zero=>rfl
 |ik mu sz len zero parts=>simp only[cW];rw[EM parts (λt ht=>h t (by simp only[df,abx];simp[ht]))]
 |append mu sz bytes x y=>simp only[cW];rw[dM x (λt ht=>h t (by simp only[df,abx];simp[ht])),dM y (λt ht=>h t (by simp only[df,abx];simp[ht]))]
 |make mu sz bytes zero len cap=>simp only[cW];rw[dM len (λt ht=>h t (by simp only[df,abx];simp[ht])),dM cap (λt ht=>h t (by simp only[df,abx];simp[ht]))]
 |copy sz x y=>simp only[cW];rw[dM x (λt ht=>h t (by simp only[df,abx];simp[ht])),dM y (λt ht=>h t (by simp only[df,abx];simp[ht]))]
 |kP x=>simp only[cW];rw[dM x (λt ht=>h t (by simp only[df];simp[ht]))]
 |jg x=>simp only[cW];rw[dM x (λt ht=>h t (by simp only[df];simp[ht]))]
 |jh x=>simp only[cW];rw[dM x (λt ht=>h t (by simp only[df];simp[ht]))]
 |ji x=>simp only[cW];rw[dM x (λt ht=>h t (by simp only[df];simp[ht]))]
 |call key args=>simp only[cW];rw[qP args (λt ht=>h t (by simp only[df,abx];simp[ht]))]
 |jj f args=>simp only[cW];rw[dM f (λt ht=>h t (by simp only[df,abx];simp[ht])),qP args (λt ht=>h t (by simp only[df,abx];simp[ht]))]
 |ext e xs=>simp only[cW];rw[qP xs (λt ht=>h t (by simp only[df];simp[ht]))]
end
def ir:e_->Bool
 | .mv .. =>abZ
 | .pick .. =>abZ
 | .bin .. =>abZ
 | .beq .. =>abZ
 | .kk .. =>abZ
 | .jI .. =>abZ
 | .un .. =>abZ
 | .conv .. =>abZ
 | .same .. =>abZ
 | .kM .. =>abZ
 | .field .. =>abZ
 | .idx .. =>abZ
 | .idxs .. =>abZ
 | .kN .. =>abZ
 | .kl .. =>abZ
 | .slice .. =>abZ
 | .kO .. =>abZ
 | .iN .. =>abZ
 | .ij .. =>abZ
 | .extract .. =>abZ
 | .build .. =>abZ
 | .len .. =>abZ
 | .iO .. =>abZ
 | .iP .. =>abZ
 | .kP .. =>abZ
 | .box mu _ _=>!mu
 | .alloc mu _=>!mu
 | .ik mu _ _ _ _=>!mu
 |_=>ab0
def hN:e_->Bool
 | .load .. =>abZ
 | .jg .. =>abZ
 |_=>ab0
def fC(env:Env)(H:O):e_->Option I
 | .mv x=>ab1 (x.ev env)
 | .pick c x y=>match c.ev env with | .bool b=>ab1 (if b=abZ then x.ev env else y.ev env)|_=>ab2
 | .bin op x y=>dA op (x.ev env) (y.ev env)
 | .beq neg x y=>kL neg (x.ev env) (y.ev env)
 | .kk k neg x=>hh k neg (x.ev env)
 | .jI neg ks x y=>ih neg ks (x.ev env) (y.ev env)
 | .un op x=>c4 op (x.ev env)
 | .conv k x=>gb k (x.ev env)
 | .same x=>qD (x.ev env)
 | .kM x=>br (x.ev env)
 | .field off sz agg x=>mz off sz agg (x.ev env)
 | .idx len sz agg x i=>lv len sz agg (x.ev env) (i.ev env)
 | .idxs x i=>jH (x.ev env) (i.ev env)
 | .kN off x=>aJ off (x.ev env)
 | .kl arr sz x i=>aP arr sz (x.ev env) (i.ev env)
 | .slice sz x lo hi mx=>cC sz (x.ev env) (lo.map (b7.ev env)) (hi.map (b7.ev env)) (mx.map (b7.ev env))
 | .kO x lo hi=>qE (x.ev env) (lo.map (b7.ev env)) (hi.map (b7.ev env))
 | .iN t x=>ab1 (.iface t (x.ev env))
 | .ij key cB=>ab1 (.fn key (gC env cB))
 | .extract i x=>bL i (x.ev env)
 | .build zero parts=>bI zero (hq env parts)
 | .len str x=>eV str (x.ev env)
 | .iO n=>ab1 (.int .i64 n)
 | .iP mx xs=>hj mx (gC env xs)
 | .load n agg x=>af H n agg (x.ev env)
 | .kP x=>qG (x.ev env)
 | .jg x=>abstr H (x.ev env)
 | .box mu n x=>if mu then ab2 else(if(x.ev env).known/\(x.ev env).cells.length=n then ab1 (.ak (x.ev env).cells)else ab2)
 | .alloc mu zero=>if mu then ab2 else ab1 (.ak zero)
 | .ik mu sz len zero parts=>if mu then ab2 else(jX (Gd len zero).flatten (hq env parts)).map λcells=> .aj .full len cells
 |_=>ab2
theorem tN{env:Env}(d:ir op=abZ\/hN op=abZ)(h:cW Φ env H K op):∃v,fC env H op=ab1 v/\K v H:=by
 cases op with
 |mv x=>exact⟨_,rfl,h⟩
 | pick c x y=>
  obtain⟨b,e,h⟩:=zL h;refine⟨_,by simp only[fC];rw[e],?_⟩;cases b
  ·simpa using h
  ·simpa using h
 |iN t x=>exact⟨_,rfl,h⟩
 |ij key cB=>exact⟨_,rfl,h⟩
 |iO n=>exact⟨_,rfl,h⟩
 | box mu n x=>
  cases mu with
  |true=>simp[ir,hN]at d
  | false=>
   obtain⟨v,H',hv,a⟩:=h;simp only[cg,bx,abe,cc]at hv;split at hv
   . rename_i hk;cases hv;exact⟨_,by simp only[fC,abe,cc];rw[aa hk],a⟩
   ·cases hv
 | alloc mu zero=>
  cases mu with
  |true=>simp[ir,hN]at d
  | false=>obtain⟨v,H',hv,a⟩:=h;simp only[bx,abe,cc]at hv;cases hv;exact⟨_,rfl,a⟩
 | ik mu sz len zero parts=>
  cases mu with
  |true=>simp[ir,hN]at d
  | false=>
   obtain⟨v,H',hv,a⟩:=h;simp only[cU,abe,cc]at hv;cases hf:jX (Gd len zero).flatten (hq env parts)with
   |none=>simp[hf]at hv
   | some cells=>simp only[hf,ZX,ZW.injEq,aby.injEq]at hv;obtain⟨rfl,rfl⟩:=hv;exact⟨_,by simp[fC,hf],a⟩
 |store|append|make|copy|jh|ji|call|jj|ext=>simp[ir,hN]at d
 |_=>obtain⟨v,hv,a⟩:=h;exact⟨v,hv,a⟩
theorem tO{env:Env}(h:fC env H op=ab1 v)(a:K v H):cW Φ env H K op:=by
 cases op with
 |mv x=>cases h;exact a
 | pick c x y=>
  simp only[fC]at h;simp only[cW];split at h
  . rename_i b d;rw[d];cases h;cases b
    ·simpa using a
    ·simpa using a
  ·cases h
 |iN t x=>cases h;exact a
 |ij key cB=>cases h;exact a
 |iO n=>cases h;exact a
 | box mu n x=>
  cases mu with
  |true=>simp[fC]at h
  | false=>
   simp only[fC,abe,cc]at h;split at h
   . rename_i hk;cases h;exact⟨_,H,by simp[cg,bx,hk],a⟩
   ·cases h
 | alloc mu zero=>
  cases mu with
  |true=>simp[fC]at h
  | false=>simp only[fC,abe,cc]at h;cases h;exact⟨_,H,by simp[bx],a⟩
 | ik mu sz len zero parts=>
  cases mu with
  |true=>simp[fC]at h
  | false=>
   simp only[fC,abe,cc]at h;cases hf:jX (Gd len zero).flatten (hq env parts)with
   |none=>simp[hf]at h
   | some cells=>simp only[hf,ZX,ZW.injEq]at h;subst h;exact⟨_,H,by simp[cU,hf],a⟩
 |store|append|make|copy|jh|ji|call|jj|ext=>simp[fC]at h
 |_=>exact⟨v,h,a⟩
theorem OV{env:Env}{H H':O}(h:ir op=abZ):fC env H op=fC env H' op:=by cases op<;>first|rfl|(simp[ir]at h)
theorem EN{env:Env}(hv:fC env H op=ab1 v):ir op=abZ\/hN op=abZ:=by
 cases op with
 | box mu n x=>cases mu with
  |true=>simp[fC]at hv
  |false=>left;rfl
 | alloc mu zero=>cases mu with
  |true=>simp[fC]at hv
  |false=>left;rfl
 | ik mu sz len zero parts=>cases mu with
  |true=>simp[fC]at hv
  |false=>left;rfl
 |load|jg=>right;rfl
 |store|append|make|copy|jh|ji|call|jj|ext=>simp[fC]at hv
 |_=>left;rfl
theorem OW{env bw:Env}(h:∀t∈df op,env.getD t .bot=bw.getD t .bot):fC env H op=fC bw H op:=by
 cases hv:fC env H op with
 | some v=>have U:cW (λ_ _ _ _=>False) env H (λu _=>u=v) op:=tO hv rfl;rw[Aa op h]at U;obtain⟨u,hu,rfl⟩:=tN (EN hv) U;exact hu.symm
 | none=>
  cases a:fC bw H op with
  |none=>rfl
  | some v=>have U:cW (λ_ _ _ _=>False) bw H (λu _=>u=v) op:=tO a rfl;rw[<-Aa op h]at U;obtain⟨u,hu,_⟩:=tN (EN a) U;rw[hv]at hu;cases hu
end Rb
namespace Rb
open Go
variable{env bw:Env}{H:O}{o:cz}{K K':ab}{Φ:Z}{v:I}
def ko(Φ:Z):Prop:=∀key args H (Q a:ab),(∀v H,Q v H->a v H)->Φ key args H Q->Φ key args H a
theorem tP(C:Ctx):ko (ag C):=by intro key args H Q j a h;refine⟨h.1.imp λv h=>h.imp λH' h=>a _ _ h,λf hf G w Vs b c d=>?_⟩;refine abw (h.2 f hf G w Vs b c d) λe R he=>?_;obtain⟨V,v,H',G',U,g,i⟩:=he;exact⟨V,v,H',G',U,a _ _ g,i⟩
theorem Do.mono{α:Type}{x:Option α}{K K':α->Prop}(b:∀a,K a->K' a)(h:Do x K):Do x K':=by obtain⟨a,c,h⟩:=h;exact⟨a,c,b a h⟩
theorem bJ.mono{x:Option (I×O)}(b:∀v H,K v H->K' v H)(h:bJ x K):bJ x K':=by obtain⟨a,H,c,h⟩:=h;exact⟨a,H,c,b a H h⟩
theorem q.mono{b:Bool}{A B c d:Prop}(e:A->c)(f:B->d)(h:q v b A B):q v b c d:=by
 unfold q at *;split at h
 . split at h
   ·rename_i a;simp[a,e h]
   ·rename_i a;simp[a,f h]
 ·exact h.elim
theorem pa(b:ko Φ){op:e_}(a:∀v H,K v H->K' v H)(h:cW Φ env H K op):cW Φ env H K' op:=by
 cases op with
 |mv x=>exact a _ _ h
 |pick c x y=>exact q.mono (a _ _) (a _ _) h
 |iN t x=>exact a _ _ h
 |ij key cB=>exact a _ _ h
 |iO n=>exact a _ _ h
 |box mu n x=>exact bJ.mono a h
 |alloc mu zero=>exact bJ.mono a h
 |ik=>exact bJ.mono a h
 |append=>exact bJ.mono a h
 |make=>exact bJ.mono a h
 |copy=>exact bJ.mono a h
 |jh=>exact bJ.mono a h
 |ji=>exact bJ.mono a h
 |call key args=>exact b _ _ _ _ _ a h
 |jj f args=>obtain⟨key,cB,U,d⟩:=h;exact⟨key,cB,U,b _ _ _ _ _ a d⟩
 |ext=>exact bJ.mono a h
 |store=>exact Do.mono (λH h=>a _ _ h) h
 |_=>exact Do.mono (λv h=>a _ _ h) h
def kr(o:cz):List Nat:=df o.op++(match o.guard with|some (s,_)=>[s]|none=>[])
def jm(Φ:Z)(o:cz)(env:Env)(H:O)(K:ab):Prop:=
 match o.guard with
 |none=>cW Φ env H K o.op
 |some (s,want)=>∃b,(env.getD s .bot).wanted want=ab1 b/\if b=abZ then cW Φ env H K o.op else K (.aH []) H
theorem pb{s:Nat}(h:env.getD s .bot=v):env.set s v=env:=by
 apply List.ext_getElem?;intro i;rw[Z7];split
 . rename_i hi;subst hi;split
   . rename_i hl;rw[aaW,aav hl]at h;rw[aav hl,<-h];rfl
   ·rename_i hl;rw[abz (by omega)]
 ·rfl
theorem tQ{K:Env->O->Prop}:kQ Φ o env H K↔jm Φ o env H (λv H'=>K (cH env o.dst v) H'):=by
 unfold kQ jm;cases d:o.guard with
 |none=>exact abA
 | some g=>
  obtain⟨s,want⟩:=g;dsimp only;constructor
  . intro h;unfold u at h;split at h
    . rename_i b a;refine⟨b==want,by rw[a];rfl,?_⟩;by_cases c:b=want
      . subst c;rw[aa rfl]at h;rw[km];rw[pb a]at h;exact h
      . rw[ad c]at h;rw[ad (by simpa using c)];have:b=!want:=by cases b<;>cases want<;>simp at c ⊢
        subst this;rw[pb a]at h;exact h
    . rename_i a;refine⟨ab0,by rw[a];rfl,?_⟩;rw[hZ];rw[pb a]at h;exact h
    ·exact h.elim
  . rintro ⟨b,a,h⟩;unfold u;cases b with
    | true=>have hw:=I.zD a;rw[hw];dsimp only;rw[aa rfl]at h ⊢;rw[pb hw];exact h
    | false=>
     rw[hZ]at h;rcases I.Eh a with hw|hw
     . rw[hw];dsimp only;rw[ad (by cases want<;>simp),pb hw];exact h
     . rw[hw];dsimp only;rw[pb hw];exact h
def iR(o:cz)(env:Env)(H:O)(v:I):Prop:=
 match o.guard with
 |none=>fC env H o.op=ab1 v
 |some (s,want)=>∃b,(env.getD s .bot).wanted want=ab1 b/\if b=abZ then fC env H o.op=ab1 v else v = .aH []
theorem EO(h:∀t∈kr o,env.getD t .bot=bw.getD t .bot):jm Φ o env H K↔jm Φ o bw H K:=by
 have U:=Aa (Φ:=Φ) (H:=H) (K:=K) o.op (λt ht=>h t (by simp[kr,ht]));unfold jm;split
 ·rw[U]
 . rename_i s want a;rw[U,h s (by simp[kr,a])]
theorem pd(h:∀t∈kr o,env.getD t .bot=bw.getD t .bot):iR o env H v↔iR o bw H v:=by
 have U:=OW (H:=H) (op:=o.op) (λt ht=>h t (by simp[kr,ht]));unfold iR;split
 ·rw[U]
 . rename_i s want a;rw[U,h s (by simp[kr,a])]
theorem OX{H H':O}(h:ir o.op=abZ):iR o env H v↔iR o env H' v:=by unfold iR;rw[OV (H':=H') h]
theorem OY(d:ir o.op=abZ\/hN o.op=abZ)(h:jm Φ o env H K):∃v,iR o env H v/\K v H:=by
 unfold jm at h;unfold iR;split at h
 . rename_i f;obtain⟨v,U,a⟩:=tN d h;exact⟨v,U,a⟩
 . rename_i s want f;obtain⟨b,e,h⟩:=h;split at h
   . rename_i c;obtain⟨v,U,a⟩:=tN d h;exact⟨v,⟨b,e,by rw[aa c];exact U⟩,a⟩
   . rename_i c;exact⟨.aH [],⟨b,e,by rw[ad c]⟩,h⟩
theorem OZ(h:iR o env H v)(a:K v H):jm Φ o env H K:=by
 unfold iR at h;unfold jm;split
 . rename_i c;rw[c]at h;exact tO h a
 . rename_i s want c;rw[c]at h;obtain⟨b,e,h⟩:=h;refine⟨b,e,?_⟩;split at h
   ·rename_i d;rw[aa d];exact tO h a
   ·rename_i d;rw[ad d];subst h;exact a
theorem O0(d:ko Φ)(a:∀v H,K v H->K' v H)(h:jm Φ o env H K):jm Φ o env H K':=by
 unfold jm at *;split at h
 ·exact pa d a h
 . obtain⟨b,e,h⟩:=h;refine⟨b,e,?_⟩;split at h
   ·rename_i c;rw[aa c];exact pa d a h
   ·rename_i c;rw[ad c];exact a _ _ h
end Rb
namespace Rb
open Go
variable{env:Env}{i t:Nat}{o:cz}
def eg(ops:List cz)(k:Nat):Option Nat:=(ops[k]?).bind λo=>o.dst
def late(ops:List cz)(S:Nat->Bool)(t:Nat):Bool:=(aat ops.length).any λk=>eg ops k==ab1 t&&!S k
def fD(ops:List cz)(S:Nat->Bool)(e0 e1:Env):Env:=(aat e1.length).map λt=>if late ops S t then e0.getD t .bot else e1.getD t .bot
def jn(ops:List cz)(i:Nat):Bool:=
 match ops[i]? with
 |some ⟨ab1 _,.alloc abZ _,ab2⟩=>abZ
 |_=>ab0
def nf(op:e_):Prop:=∃zero,op = .alloc abZ zero
theorem tS{al:List cz}(h:jn al i=abZ):∃t op,al[i]?=ab1 ⟨ab1 t,op,ab2⟩/\nf op:=by
 unfold jn at h;split at h
 ·rename_i t zero heq;exact⟨_,_,heq,_,rfl⟩
 ·cases h
theorem Ab{op:e_}(h:nf op)(a:ir op=abZ\/hN op=abZ):False:=by rcases h with⟨zero,rfl⟩;rcases a with h|h<;>simp[ir,hN]at h
def c6(pr:List (List Nat))(i:Nat):List Nat:=pr.getD i []
def pe(n:Nat)(ops:List cz)(pr:List (List Nat))(i:Nat):Bool:=
 match ops[i]? with
 |none=>ab0
 | some o=>
  (c6 pr i).all (λj=>(c6 pr j).all (c6 pr i).contains)&&!(c6 pr i).contains i &&
  (kr o).all (λt=>(aat n).all λk=>!(eg ops k==ab1 t)||(c6 pr i).contains k||(!hN o.op&&(k==i||(c6 pr k).contains i))) &&
  (aat n).all (λk=>k==i||o.dst==ab2||!(eg ops k==o.dst))
def Ac(ops:List cz)(pr:List (List Nat)):Bool:=(aat ops.length).all (pe ops.length ops pr)
def kt(ops:List cz)(pr:List (List Nat))(a:List Nat):List Nat->List Nat->Bool
 |_,[]=>abZ
 |D,i::r=>decide (i<ops.length)&&!D.contains i&&(c6 pr i).all D.contains&&a.all (c6 pr i).contains&&(match ops[i]? with|some o=>ir o.op||hN o.op|none=>ab0)&&kt ops pr a (i::D) r
def n5(ops:List cz)(pr:List (List Nat))(a D:List Nat)(e:Nat)(b:List Nat):Bool:=
 decide (e<ops.length)&&!D.contains e&&(c6 pr e).all D.contains&&(jn ops e||a.all (c6 pr e).contains) &&
 D.all λi=>(c6 pr e).contains i||b.contains i||match ops[i]? with|some o=>!hN o.op|none=>ab0
def j0(last:List Nat):List (List Nat×Nat×List Nat)->List Nat
 |[]=>last
 |(a,_,_)::_=>a
def jo(ops:List cz)(pr:List (List Nat))(last:List Nat):List Nat->List Nat->List (List Nat×Nat×List Nat)->Bool
 |es,D,[]=>(aat ops.length).all D.contains
 |es,D,(_,e,st)::r=>n5 ops pr es D e st&&kt ops pr (e::es) (e::D) (j0 last r)&&jo ops pr last (e::es) ((j0 last r).reverse++(e::D)) r
def hx:List (List Nat×Nat×List Nat)->Option Nat
 |[]=>ab2
 |(_,e,_)::_=>ab1 e
def tU(ops:List cz)(pr:List (List Nat))(cf:List (List Nat×Nat×List Nat))(last:List Nat):Bool:=Ac ops pr&&kt ops pr [] [] (j0 last cf)&&jo ops pr last [] ((j0 last cf).reverse) cf
def tV(Φ:Z)(ops:List cz)(last:List Nat)(K:Env->O->Prop):List (List Nat×Nat×List Nat)->Env->O->Prop
 |[],env,H=>K env H
 | (_,e,st)::r,env,H=>match ops[e]? with
  |some o=>kQ Φ o env H λb a=>hr ops env a (jY Φ ops last r b a K) st
  |none=>False
section
variable{Φ:Z}{ops:List cz}{pr:List (List Nat)}{last:List Nat}{K:Env->O->Prop}{e0 e1:Env}{H:O}{S S':Nat->Bool}
theorem EP(cf:List (List Nat×Nat×List Nat))(env:Env):jY Φ ops last cf env H K=lD Φ ops (j0 last cf) env H (λbw H'=>tV Φ ops last K cf bw H'):=by
 cases cf with
 |nil=>simp only[jY,j0,tV]
 | cons p r=>obtain⟨a,e,st⟩:=p;exact rfl
theorem kX(h:e0.length=e1.length)(t:Nat):(fD ops S e0 e1).getD t .bot=if late ops S t then e0.getD t .bot else e1.getD t .bot:=by
 unfold fD;by_cases ht:t<e1.length
 ·simp[aaW,ht]
 . have U:e1.getD t .bot = .bot:=by simp[aaW,abz (abB ht)]
   have a:e0.getD t .bot = .bot:=by simp[aaW,abz (h▸abB ht)]
   rw[U,a];simp[aaW,ht]
theorem pf:(fD ops S e0 e1).length=e1.length:=by simp[fD]
theorem n7{a b:Env}(hl:a.length=b.length)(h:∀t,t<a.length->a.getD t .bot=b.getD t .bot):a=b:=by apply List.ext_getElem hl;intro i U c;have:=h i U;simpa[aaW,U,c]using this
theorem lO:late ops S t=abZ↔∃k,eg ops k=ab1 t/\S k=ab0:=by
 unfold late;simp only[abC,abD,ZL,cq,abr];constructor
 ·rintro⟨k,_,h⟩;exact⟨k,h⟩
 . rintro⟨k,U,a⟩;refine⟨k,?_,U,a⟩;unfold eg at U;rcases z8 k ops.length with h|h
   ·exact h
   ·simp[abz h]at U
structure Good(ops:List cz)(pr:List (List Nat)):Prop where
 trans:∀i,i<ops.length->∀j∈c6 pr i,∀k∈c6 pr j,k∈c6 pr i
 ER:∀i,i<ops.length->i∉c6 pr i
 reads:∀i o t k,ops[i]?=ab1 o->t∈kr o->eg ops k=ab1 t->k∈c6 pr i\/(hN o.op=ab0/\(k=i\/i∈c6 pr k))
 uniq:∀i k t,eg ops i=ab1 t->eg ops k=ab1 t->i=k
theorem tW{k t:Nat}(h:eg ops k=ab1 t):k<ops.length:=by
 unfold eg at h;rcases z8 k ops.length with a|a
 ·exact a
 ·simp[abz a]at h
theorem O1(h:Ac ops pr=abZ):Good ops pr:=by
 have one:∀i,i<ops.length->pe ops.length ops pr i=abZ:=λi hi=>by unfold Ac at h;rw[aaB]at h;exact h i (abD.2 hi)
 refine⟨λi hi j e k hk=>?_,λi hi=>?_,λi o t k ho ht hk=>?_,λi k t hi hk=>?_⟩
 . have:=one i hi;unfold pe at this;split at this
   ·cases this
   . simp only[ZL]at this;have c:=this.1.1.1;rw[aaB]at c;have b:=c j e;rw[aaB]at b;simpa using b k hk
 . have:=one i hi;unfold pe at this;split at this
   ·cases this
   . simp only[ZL]at this;have:=this.1.1.2;simpa using this
 . have hi:i<ops.length:=by
     rcases z8 i ops.length with d|d
     ·exact d
     ·simp[abz d]at ho
   have:=one i hi;unfold pe at this;rw[ho]at this;simp only[ZL]at this;have c:=this.1.2;rw[aaB]at c;have b:=c t ht;rw[aaB]at b;have a:=b k (abD.2 (tW hk));rw[hk]at a;simp at a;rcases a with a|⟨f,a⟩
   ·exact .inl a
   . refine .inr ⟨f,?_⟩;rcases a with a|a
     ·exact .inl a
     ·exact .inr a
 . have g:=tW hi;have:=one i g;unfold pe at this;split at this
   ·cases this
   . rename_i o ho;simp only[ZL]at this;have c:=this.2;rw[aaB]at c;have b:=c k (abD.2 (tW hk));have l:o.dst=ab1 t:=by simpa[eg,ho]using hi
     rw[l,hk]at b;simp at b;exact b.symm
theorem Ad(c:Good ops pr)(hl:e0.length=e1.length)(ho:ops[i]?=ab1 o)
  (U:∀k∈c6 pr i,S k=abZ) (d:S i=ab0) (e:∀k,S k=abZ->∀j∈c6 pr k,S j=abZ)
  (f:∀k∈c6 pr i,S' k=abZ) (g:S' i=ab0) (l:∀k,S' k=abZ->∀j∈c6 pr k,S' j=abZ) :
  ∀t∈kr o,(fD ops S e0 e1).getD t .bot=(fD ops S' e0 e1).getD t .bot:=by
 intro t ht;rw[kX hl,kX hl];have : late ops S t=late ops S' t:=by
  have key:∀{A B:Nat->Bool},(∀k∈c6 pr i,A k=abZ)->B i=ab0->(∀k,B k=abZ->∀j∈c6 pr k,B j=abZ)->late ops A t=abZ->late ops B t=abZ:=by
   intro A B W b2 bd h;obtain⟨k,hk,hn⟩:=lO.1 h;refine lO.2 ⟨k,hk,?_⟩;rcases c.reads i o t k ho ht hk with h|⟨_,h⟩
   ·rw[W k h]at hn;cases hn
   . rcases h with rfl|h
     ·exact b2
     . cases a:B k with
       |false=>rfl
       |true=>have:=bd k a i h;rw[b2]at this;cases this
  cases b:late ops S t with
  |true=>rw[key U g l b]
  | false=>
   cases a:late ops S' t with
   |false=>rfl
   |true=>rw[key f d e a]at b;cases b
 rw[this]
theorem tX(f:Good ops pr)(hl:e0.length=e1.length)(ho:ops[i]?=ab1 o){v:I}
  (hv:∀t,o.dst=ab1 t->t<e1.length->e1.getD t .bot=v) :
  cH (fD ops S e0 e1) o.dst v=fD ops (λk=>k==i||S k) e0 e1:=by
 have b:eg ops i=o.dst:=by simp[eg,ho]
 apply n7
 ·cases a:o.dst<;>simp[cH,pf]
 . intro t ht;rw[kX hl];cases a:o.dst with
   | none=>
    simp only[cH];rw[kX hl];have:late ops S t=late ops (λk=>k==i||S k) t:=by
     rw[abE,lO,lO];constructor
     . rintro⟨k,hk,hn⟩;refine⟨k,hk,?_⟩;have:k≠i:=λe=>by subst e;rw[b,a]at hk;cases hk
       simp[this,hn]
     . rintro⟨k,hk,hn⟩;simp at hn;exact⟨k,hk,hn.2⟩
    rw[this]
   | some s=>
    simp only[cH];by_cases c:s=t
    . subst c;have d:s<(fD ops S e0 e1).length:=by
       rw[a]at ht;simpa[cH,abF]using ht
      have g:late ops (λk=>k==i||S k) s=ab0:=by
       cases h:late ops (λk=>k==i||S k) s with
       |false=>rfl
       | true=>obtain⟨k,hk,hn⟩:=lO.1 h;have:=f.uniq i k s (by rw[b,a]) hk;subst this;simp at hn
      rw[g];simp only[aaW,aax d,abe,cc,aaX];rw[<-hv s a (by rw[pf]at d;exact d),aaW]
    . have U:((fD ops S e0 e1).set s v).getD t .bot=(fD ops S e0 e1).getD t .bot:=by
        rw[aaW,aay c,aaW]
      rw[U,kX hl];have:late ops S t=late ops (λk=>k==i||S k) t:=by
       rw[abE,lO,lO];constructor
       . rintro⟨k,hk,hn⟩;refine⟨k,hk,?_⟩;have:k≠i:=λe=>by subst e;rw[b,a]at hk;cases hk;exact c rfl
         simp[this,hn]
       . rintro⟨k,hk,hn⟩;simp at hn;exact⟨k,hk,hn.2⟩
      rw[this]
theorem lP(hl:e0.length=e1.length)(f:Good ops pr)(ho:ops[i]?=ab1 o)(v:I)(hi:S i=ab0):fD ops S e0 (cH e1 o.dst v)=fD ops S e0 e1:=by
 have c:eg ops i=o.dst:=by simp[eg,ho]
 have a:e0.length=(cH e1 o.dst v).length:=by cases b:o.dst<;>simp[cH,hl]
 apply n7
 ·rw[pf,pf,<-hl,<-a]
 . intro t _;rw[kX a,kX hl];cases d:late ops S t with
   |true=>rfl
   | false=>
    simp only[abe,cc];cases b:o.dst with
    |none=>rfl
    | some s=>simp only[cH];rw[aaW,aay,aaW];intro e;subst e;have:late ops S s=abZ:=lO.2 ⟨i,by rw[c,b],hi⟩;rw[d]at this;cases this
def Holds(e:Env)(d:Option Nat)(v:I):Prop:=∀t,d=ab1 t->t<e.length->e.getD t .bot=v
def Fact(ops:List cz)(pr:List (List Nat))(e0 e1:Env)(H:O)(i:Nat):Prop:=∃o v,ops[i]?=ab1 o/\(ir o.op=abZ\/hN o.op=abZ)/\iR o (fD ops (λk=>(c6 pr i).contains k) e0 e1) H v/\Holds e1 o.dst v
structure Inv(Φ:Z)(ops:List cz)(pr:List (List Nat))(last:List Nat)(K:Env->O->Prop)(cf:List (List Nat×Nat×List Nat))(S:Nat->Bool)(env:Env)(H:O):Prop where
 ex:∃(e0 e1:Env) (D es:List Nat),
  e0.length=e1.length/\env=fD ops S e0 e1/\e1=fD ops D.contains e0 e1 /\
  (∀i,S i=abZ->i∈D)/\(∀i,i∈D->S i=ab0->Fact ops pr e0 e1 H i) /\
  (∀k,S k=abZ->∀j∈c6 pr k,S j=abZ)/\(∀k∈D,∀j∈c6 pr k,j∈D) /\
  jo ops pr last es D cf=abZ/\tV Φ ops last K cf e1 H
theorem ES(b:Good ops pr){C:List Nat}{r:Env->O->Prop}:∀(a D:List Nat)(e1:Env),e0.length=e1.length->e1=fD ops D.contains e0 e1 ->
  (∀i,S i=abZ->i∈D)->(∀i,i∈D->S i=ab0->Fact ops pr e0 e1 H i)->(∀k∈D,∀j∈c6 pr k,j∈D)->kt ops pr C D a=abZ->lD Φ ops a e1 H r ->
  ∃ c,e0.length=c.length/\fD ops S e0 c=fD ops S e0 e1/\c=fD ops (a.reverse++D).contains e0 c/\(∀i,S i=abZ->i∈a.reverse++D) /\
   (∀i,i∈a.reverse++D->S i=ab0->Fact ops pr e0 c H i)/\(∀k∈a.reverse++D,∀j∈c6 pr k,j∈a.reverse++D)/\r c H:=by
 intro a;induction a with
 |nil=>intro D e1 hl hm l hf f _ h;exact⟨e1,hl,rfl,by simpa using hm,by simpa using l,by simpa using hf,by simpa using f,h⟩
 | cons i a E=>
  intro D e1 hl hm l hf f hc h;simp only[kt,ZL]at hc;obtain⟨⟨⟨⟨⟨hi,F⟩,u⟩,ab⟩,n⟩,G⟩:=hc;simp only[lD]at h;cases ho:ops[i]? with
  |none=>rw[ho]at h;exact h.elim
  | some o=>
   rw[ho]at h n;dsimp only at h n;have w:ir o.op=abZ\/hN o.op=abZ:=by simpa using n
   have m:i∉D:=by simpa using F
   have x:∀k∈c6 pr i,k∈D:=by rw[aaB]at u;intro k hk;simpa using u k hk
   have I:S i=ab0:=by
    cases hs:S i with
    |false=>rfl
    |true=>exact absurd (l i hs) m
   rw[tQ]at h;obtain⟨v,hv,h⟩:=OY w h;have J:eg ops i=o.dst:=by simp[eg,ho]
   have p:e0.length=(cH e1 o.dst v).length:=by cases f:o.dst<;>simp[cH,hl]
   have y:Holds (cH e1 o.dst v) o.dst v:=by intro t ht d;rw[ht]at d ⊢;simp only[cH]at d ⊢;rw[abF]at d;simp[aaW,d]
   have K:∀k,D.contains k=abZ->∀j∈c6 pr k,D.contains j=abZ:=λk hk j g=>by simpa using f k (by simpa using hk) j g
   have z:D.contains i=ab0:=by simpa using m
   have L:cH e1 o.dst v=fD ops (i::D).contains e0 (cH e1 o.dst v):=by have U:=tX (S:=D.contains) b p ho y;rw[lP hl b ho v z,<-hm]at U;rw[U];congr 1
   have M:Fact ops pr e0 (cH e1 o.dst v) H i:=by
    refine⟨o,v,ho,w,?_,y⟩;have A:(c6 pr i).contains i=ab0:=by simpa using b.ER i (by simpa using hi)
    rw[lP hl b ho v A];rw[hm]at hv;refine(pd (Ad b hl ho ?_ ?_ ?_ ?_ ?_ ?_)).1 hv
    ·intro k hk;simpa using x k hk
    ·exact z
    ·exact K
    ·intro k hk;simpa using hk
    ·exact A
    ·intro k hk j g;simpa using b.trans i (by simpa using hi) k (by simpa using hk) j g
   have hold:∀k,k∈D->S k=ab0->Fact ops pr e0 (cH e1 o.dst v) H k:=by
    intro k hk q;obtain⟨ok,N,B,P,Q,R⟩:=hf k hk q;have T:(c6 pr k).contains i=ab0:=by
     cases V:(c6 pr k).contains i with
     |false=>rfl
     |true=>exact absurd (f k hk i (by simpa using V)) m
    refine⟨ok,N,B,P,by rw[lP hl b ho v T];exact Q,?_⟩;intro t ht d;rw[<-p,hl]at d;have:=R t ht d;rw[<-this];cases W:o.dst with
    |none=>rfl
    | some s=>simp only[cH];rw[aaW,aay,aaW];intro e;subst e;have:=b.uniq i k s (by rw[J,W]) (by simp[eg,B,ht]);subst this;exact m hk
   have X:fD ops S e0 (cH e1 o.dst v)=fD ops S e0 e1:=lP hl b ho v I;have Y:∀k,k∈i::D->S k=ab0->Fact ops pr e0 (cH e1 o.dst v) H k:=by
    intro k hk q;rcases abG.1 hk with rfl|hk
    ·exact M
    ·exact hold k hk q
   have Z:∀k∈i::D,∀j∈c6 pr k,j∈i::D:=by
    intro k hk j g;rcases abG.1 hk with rfl|hk
    ·exact abH _ (x j g)
    ·exact abH _ (f k hk j g)
   obtain⟨c,g1,g2,g3,g4,g5,g6,g7⟩:=E (i::D) (cH e1 o.dst v) p L (λk hk=>abH _ (l k hk)) Y Z G h;have aa:(i::a).reverse++D=a.reverse++i::D:=by simp
   rw[aa];exact⟨c,g1,g2.trans X,g3,g4,g5,g6,g7⟩
theorem O2{X:Prop}:∀{a:List Nat},hr ops env H X a->X/\∀l∈a,∀o,ops[l]?=ab1 o->qH env H o:=by
 intro a;induction a with
 |nil=>intro h;exact⟨h,λl hl=>by cases hl⟩
 | cons l a b=>
  intro h;obtain⟨U,c⟩:=h;obtain⟨d,e⟩:=b c;refine⟨d,λk hk o ho=>?_⟩;rcases abG.1 hk with rfl|hk
  ·rw[ho]at U;exact U
  ·exact e k hk o ho
theorem ET(a:hN o.op=abZ)(h:oZ env H o):fC env H o.op=ab1 (env.getD (o.dst.getD 0) .bot):=by unfold oZ at h;cases ho:o.op<;>rw[ho]at a h<;>first|(simp[hN]at a;done)|exact h
theorem O3(b:Good ops pr){cf:List (List Nat×Nat×List Nat)}{env:Env}(hc:kt ops pr [] [] (j0 last cf)=abZ)(c:jo ops pr last [] ((j0 last cf).reverse) cf=abZ)
  (h:jY Φ ops last cf env H K):Inv Φ ops pr last K cf (λ_=>ab0) env H:=by
 rw[EP]at h;have a:∀S,fD ops S env env=env:=λS=>n7 pf λt _=>by rw[kX rfl];split<;>rfl
 obtain⟨d,g1,g2,g3,g4,g5,g6,g7⟩:=ES (S:=λ_=>ab0) b (j0 last cf) [] env rfl (a _).symm (λi hi=>by cases hi) (λi hi=>by cases hi) (λk hk=>by cases hk) hc h;refine⟨env,d,_,[],g1,?_,g3,g4,g5,λk hk=>(by cases hk),g6,by simpa using c,g7⟩;rw[g2,a]
theorem EU(u:Good ops pr)(hi:i<ops.length):∀(cf:List (List Nat×Nat×List Nat)) (b D:List Nat),jo ops pr last b D cf=abZ->i∉D->jn ops i=ab0->∀e∈b,e∈c6 pr i:=by
 intro cf;induction cf with
 | nil=>intro b D h hn f;simp only[jo]at h;rw[aaB]at h;exact absurd (by simpa using h i (abD.2 hi)) hn
 | cons p r m=>
  obtain⟨c,e,st⟩:=p;intro b D h hn f;simp only[jo,ZL]at h;obtain⟨⟨U,n⟩,o⟩:=h;have q:∀(c:List Nat)(D:List Nat),kt ops pr (e::b) D c=abZ->i∈c->∀a∈b,a∈c6 pr i:=by
   intro c;induction c with
   |nil=>intro D _ h;cases h
   | cons k c s=>
    intro D hc hk a d;simp only[kt,ZL]at hc;obtain⟨⟨⟨⟨⟨_,_⟩,_⟩,g⟩,_⟩,t⟩:=hc;rcases abG.1 hk with rfl|hk
    . rw[aaB]at g;simpa using g a (abH _ d)
    ·exact s _ t hk a d
  by_cases j:i=e
  . subst j;simp only[n5,ZL]at U;have:=U.1.2;rw[f,abI,aaB]at this;intro a d;simpa using this a d
  . by_cases l:i∈j0 last r
    ·exact q _ _ n l
    . have:=m (e::b) _ o (by simp[j,l,hn]) f;exact λa d=>this a (abH _ d)
theorem EW(aq:ko Φ)(a:Good ops pr){cf:List (List Nat×Nat×List Nat)}(h:Inv Φ ops pr last K cf S env H)(ho:ops[i]?=ab1 o)(G:S i=ab0)(x:∀k∈c6 pr i,S k=abZ)
  (T:jn ops i=ab0\/hx cf=ab1 i) :
  kQ Φ o env H (λbw H'=>Inv Φ ops pr last K (if hx cf=ab1 i then cf.tail else cf) (λk=>k==i||S k) bw H'):=by
 obtain⟨e0,e1,D,es,hl,hm,J,L,hf,V,B,d,M⟩:=h;have hi:i<ops.length:=(ZF.1 ho).1;have ar:(c6 pr i).contains i=ab0:=by simpa using a.ER i hi
 have ab:∀k,(k==i||S k)=abZ->∀j∈c6 pr k,(j==i||S j)=abZ:=by
  intro k hk j c;simp only[ZM,cq]at hk ⊢;rcases hk with rfl|hk
  ·exact .inr (x j c)
  ·exact .inr (V k hk j c)
 rw[tQ];by_cases q:i∈D
 . obtain ⟨aQ,v,ac,aR,au,av⟩:=hf i q G;rw[ho]at ac;cases ac;have aw:iR o env H v:=by
    rw[hm];refine(pd (Ad a hl ho ?_ ?_ ?_ ?_ ?_ ?_)).1 au
    ·intro k hk;simpa using hk
    ·exact ar
    ·intro k hk j c;simpa using a.trans i hi k (by simpa using hk) j c
    ·exact x
    ·exact G
    ·exact V
   have ax:hx cf≠ab1 i:=by
    cases cf with
    |nil=>simp[hx]
    | cons p r=>
     obtain⟨l,e,st⟩:=p;simp only[jo,ZL]at d;have U:=d.1.1;simp only[n5,ZL]at U;have W:e∉D:=by simpa using U.1.1.1.2
     intro he;simp only[hx,ZW.injEq]at he;subst he;exact W q
   rw[ad ax];refine OZ aw ⟨e0,e1,D,es,hl,?_,J,?_,?_,ab,B,d,M⟩
   ·rw[hm];exact tX a hl ho av
   . intro k hk;simp only[ZM,cq]at hk;rcases hk with rfl|hk
     ·exact q
     ·exact L k hk
   . intro k hk m;simp only[abJ]at m;exact hf k hk m.2
 . cases cf with
   | nil=>simp only[jo]at d;rw[aaB]at d;exact absurd (by simpa using d i (abD.2 hi)) q
   | cons p r =>
    obtain⟨l,e,st⟩:=p;have aS:=d;simp only[jo,ZL]at d;obtain⟨⟨U,ae⟩,af⟩:=d;simp only[n5,ZL]at U;obtain⟨⟨⟨⟨aT,ay⟩,aU⟩,aV⟩,ag⟩:=U;have W:e∉D:=by simpa using ay
    have C : i=e:=by
     by_cases C:i=e
     ·exact C
     exfalso;have T:jn ops i=ab0:=by
      rcases T with h|h
      ·exact h
      . simp only[hx,ZW.injEq]at h;exact absurd h.symm C
     have az:e∈c6 pr i:=by
      by_cases ah:i∈j0 last r
      . have aA:∀(l:List Nat)(D:List Nat),kt ops pr (e::es) D l=abZ->i∈l->e∈c6 pr i:=by
          intro l;induction l with
          |nil=>intro D _ h;cases h
          | cons k l aB=>
           intro D hc hk;simp only[kt,ZL]at hc;obtain⟨⟨⟨⟨⟨_,_⟩,_⟩,ai⟩,_⟩,aC⟩:=hc;rcases abG.1 hk with rfl|hk
           . rw[aaB]at ai;simpa using ai e abK
           ·exact aB _ aC hk
        exact aA _ _ ae ah
      ·exact EU a hi r (e::es) _ af (by simp[C,ah,q]) T e abK
     exact W (L e (x e az))
    subst C;rw[aa (show hx ((l,i,st)::r)=ab1 i from rfl)];simp only[tV,ho]at M;rw[tQ]at M;have aj:∀k∈c6 pr i,k∈D:=λk hk=>L k (x k hk);have ak:D.contains i=ab0:=by simpa using q
    have aD:∀k,D.contains k=abZ->∀j∈c6 pr k,D.contains j=abZ:=λk hk j c=>by simpa using B k (by simpa using hk) j c
    have aE:jm Φ o env H (λv H'=>hr ops e1 H' (jY Φ ops last r (cH e1 o.dst v) H' K) st):=by
     have agree:∀t∈kr o,e1.getD t .bot=env.getD t .bot:=by intro t ht;have:=Ad (S:=D.contains) (S':=S) a hl ho (λk hk=>by simpa using aj k hk) ak aD x G V t ht;rw[<-J,<-hm]at this;exact this
     exact(EO agree).1 M
    refine O0 aq ?_ aE;intro v H' hs;obtain⟨al,aF⟩:=O2 hs;have aG:eg ops i=o.dst:=by simp[eg,ho]
    have N:e0.length=(cH e1 o.dst v).length:=by cases aW:o.dst<;>simp[cH,hl]
    have am:Holds (cH e1 o.dst v) o.dst v:=by intro t ht w;rw[ht]at w ⊢;simp only[cH]at w ⊢;rw[abF]at w;simp[aaW,w]
    have aI:cH e1 o.dst v=fD ops (i::D).contains e0 (cH e1 o.dst v):=by have U:=tX (S:=D.contains) a N ho am;rw[lP hl a ho v ak,<-J]at U;rw[U];congr 1
    have aJ:cH env o.dst v=fD ops (λk=>k==i||S k) e0 (cH e1 o.dst v):=by have U:=tX (S:=S) a N ho am;rw[lP hl a ho v G,<-hm]at U;exact U
    have aK:∀k,k∈i::D->(k==i||S k)=ab0->Fact ops pr e0 (cH e1 o.dst v) H' k:=by
     intro k hk m;simp only[abJ,beq_eq_false_iff_ne]at m;obtain⟨an,m⟩:=m;have O:k∈D:=(abG.1 hk).resolve_left an;obtain⟨ok,aL,n,E,f,ao⟩:=hf k O m;have P:(c6 pr k).contains i=ab0:=by
      cases X:(c6 pr k).contains i with
      |false=>rfl
      |true=>exact absurd (B k O i (by simpa using X)) q
     have Q:∀u,Holds e1 ok.dst u->Holds (cH e1 o.dst v) ok.dst u:=by
      intro u hu t ht w;rw[<-N,hl]at w;have:=hu t ht w;rw[<-this];cases aM:o.dst with
      |none=>rfl
      | some s=>simp only[cH];rw[aaW,aay,aaW];intro e;subst e;have:=a.uniq i k s (by rw[aG,aM]) (by simp[eg,n,ht]);exact an this.symm
     by_cases ap:ir ok.op=abZ
     . refine⟨ok,aL,n,E,?_,Q _ ao⟩;rw[lP hl a ho v P];exact(OX ap).1 f
     . have R:hN ok.op=abZ:=E.resolve_left ap;have aN:k∈st:=by
        rw[aaB]at ag;have:=ag k O;rw[n]at this;simp[R]at this;rcases this with h|h
        ·exact absurd (x k h) (by rw[m];simp)
        ·exact h
       have y:=aF k aN ok n;have agree:∀t∈kr ok,(fD ops (λj=>(c6 pr k).contains j) e0 e1).getD t .bot=e1.getD t .bot:=by
        intro t ht
        conv=>rhs;rw[J]
        rw[kX hl,kX hl];have z:∀(A:Nat->Bool),(∀j∈c6 pr k,A j=abZ)->late ops A t=ab0:=by
         intro A z;cases X:late ops A t with
         |false=>rfl
         | true=>
          obtain⟨j,c,hn⟩:=lO.1 X;rcases a.reads k ok t j n ht c with h|⟨h,_⟩
          ·rw[z j h]at hn;cases hn
          ·rw[R]at h;cases h
        rw[z _ (λj c=>by simpa using c),z _ (λj c=>by simpa using B k O j c)]
       rw[pd agree]at f;unfold qH at y;unfold iR at f;cases F:ok.guard with
       | none=>
        rw[F]at y;refine⟨ok,e1.getD (ok.dst.getD 0) .bot,n,E,?_,Q _ ?_⟩
        . rw[lP hl a ho v P];refine(pd agree).2 ?_;unfold iR;rw[F];exact ET R y
        ·intro t ht _;rw[ht];rfl
       | some g=>
        obtain⟨s,want⟩:=g;rw[F]at y f;dsimp only at y f;obtain⟨b,Y,f⟩:=f;by_cases Z:b=abZ
        . subst Z;refine⟨ok,e1.getD (ok.dst.getD 0) .bot,n,E,?_,Q _ ?_⟩
          . rw[lP hl a ho v P];refine(pd agree).2 ?_;unfold iR;rw[F];exact⟨abZ,Y,by rw[aa rfl];exact ET R (y (I.zD Y))⟩
          ·intro t ht _;rw[ht];rfl
        . rw[ad Z]at f;subst f;refine⟨ok,.aH [],n,E,?_,Q _ ao⟩;rw[lP hl a ho v P];refine(pd agree).2 ?_;unfold iR;rw[F];exact⟨b,Y,by rw[ad Z]⟩
    rw[EP]at al;have z:∀k,(k==i||S k)=abZ->k∈i::D:=by
     intro k hk;simp only[ZM,cq]at hk;rcases hk with rfl|hk
     ·exact abK
     ·exact abH _ (L k hk)
    have aO:∀k∈i::D,∀j∈c6 pr k,j∈i::D:=by
     intro k hk j c;rcases abG.1 hk with rfl|hk
     ·exact abH _ (aj j c)
     ·exact abH _ (B k hk j c)
    obtain⟨aP,g1,g2,g3,g4,g5,g6,g7⟩:=ES (S:=λk=>k==i||S k) a (j0 last r) (i::D) (cH e1 o.dst v) N aI z aK aO ae al;exact⟨e0,aP,_,i::es,g1,by rw[g2];exact aJ,g3,g4,g5,ab,g6,af,g7⟩
theorem O4{cf:List (List Nat×Nat×List Nat)}(h:Inv Φ ops pr last K cf S env H)(a:∀i,i<ops.length->S i=abZ):K env H:=by
 obtain⟨e0,e1,D,es,hl,hm,n,c,hf,o,q,b,d⟩:=h;cases cf with
 | nil=>
  have:env=e1:=by
   rw[hm];refine n7 pf λt _=>?_;rw[kX hl];have:late ops S t=ab0:=by
    cases f:late ops S t with
    |false=>rfl
    | true=>obtain⟨j,g,hn⟩:=lO.1 f;rw[a j (tW g)]at hn;cases hn
   rw[this];rfl
  rw[this];exact d
 | cons p r=>
  obtain⟨s,e,st⟩:=p;simp only[jo,ZL]at b;obtain⟨⟨U,u⟩,v⟩:=b;simp only[n5,ZL]at U;obtain⟨⟨⟨⟨k,l⟩,w⟩,x⟩,y⟩:=U;have m:e∉D:=by simpa using l
  exact absurd (c e (a e (by simpa using k))) m
theorem O5(t:Good ops pr){cf:List (List Nat×Nat×List Nat)}(h:Inv Φ ops pr last K cf S env H) :
  (∀k,S k=abZ->∀j∈c6 pr k,S j=abZ) /\
  ∀p,jn ops p=abZ->S p=ab0->hx cf≠ab1 p->∀i,i<ops.length->S i=ab0->p∈c6 pr i->jn ops i=ab0->(∀k∈c6 pr i,S k=abZ\/(jn ops k=abZ/\hx cf≠ab1 k))->False:=by
 obtain⟨e0,e1,D,es,hl,hm,P,u,hf,w,x,a,Q⟩:=h;refine⟨w,λp y z R i hi T f A B=>?_⟩;have c:p∉D:=by intro c;obtain⟨o,v,ho,C,_⟩:=hf p c z;obtain⟨V,W,g,E⟩:=tS y;rw[ho]at g;cases g;exact Ab E C
 have d:i∉D:=λd=>c (x i d p f);cases cf with
 | nil=>simp only[jo]at a;rw[aaB]at a;exact absurd (by simpa using a i (abD.2 hi)) d
 | cons q r =>
  obtain⟨b,e,st⟩:=q;have X:=a;simp only[jo,ZL]at a;obtain⟨⟨U,F⟩,G⟩:=a;simp only[n5,ZL]at U;obtain⟨⟨⟨⟨Y,I⟩,l⟩,Z⟩,aa⟩:=U;have J:e∉D:=by simpa using I
  by_cases m:i=e
  . subst m;rw[aaB]at l;exact c (by simpa using l p f)
  . have L : e∈c6 pr i:=by
      by_cases n:i∈j0 last r
      . have M:∀(b:List Nat)(D:List Nat),kt ops pr (e::es) D b=abZ->i∈b->e∈c6 pr i:=by
          intro b;induction b with
          |nil=>intro D _ h;cases h
          | cons k b N=>
           intro D hc hk;simp only[kt,ZL]at hc;obtain⟨⟨⟨⟨⟨_,_⟩,_⟩,s⟩,_⟩,O⟩:=hc;rcases abG.1 hk with rfl|hk
           . rw[aaB]at s;simpa using s e abK
           ·exact N _ O hk
        exact M _ _ F n
      ·exact EU t hi r (e::es) _ G (by simp[m,n,d]) A e abK
    rcases B e L with h|⟨_,h⟩
    ·exact J (u e h)
    ·exact h rfl
theorem Ae{cf:List (List Nat×Nat×List Nat)}(h:Inv Φ ops pr last K cf S env H){e:Nat}(a:hx cf=ab1 e) :
  S e=ab0/\e<ops.length/\∀k∈c6 pr e,jn ops k=abZ->S k=abZ:=by
 obtain⟨e0,e1,D,es,hl,hm,t,g,hf,u,w,c,x⟩:=h;cases cf with
 |nil=>cases a
 | cons q r=>
  obtain⟨y,b,st⟩:=q;simp only[hx,ZW.injEq]at a;subst a;simp only[jo,ZL]at c;obtain⟨⟨U,z⟩,A⟩:=c;simp only[n5,ZL]at U;obtain⟨⟨⟨⟨i,j⟩,d⟩,B⟩,C⟩:=U;have l:b∉D:=by simpa using j
  refine⟨?_,by simpa using i,λk hk m=>?_⟩
  . cases hs:S b with
    |false=>rfl
    |true=>exact absurd (g b hs) l
  . cases hs:S k with
    |true=>rfl
    | false=>
     rw[aaB]at d;have n:k∈D:=by simpa using d k hk
     obtain⟨o,v,ho,p,_⟩:=hf k n hs;obtain⟨E,F,f,s⟩:=tS m;rw[ho]at f;cases f;exact(Ab s p).elim
end
end Rb
namespace Rb
open Go
variable{F:el}{Q:Exit->Act->World->Prop}{op:e_}{b i cap:Nat}{az:List Nat}{w0 R:World}{al:List cz}{v:I}{G':ch}{P:Program}{ao:cz}{H':O}
def lQ(a:Array Oper)(x:Option (Nat×Bool))(y:Option (Nat×Bool)):Bool:=
 match x,y with
 |none,ab2=>abZ
 |some (j,want),ab1 (s,b)=>want==b&&((a[j]?).bind (·.dst))==ab1 s
 |_,_=>ab0
def iS(C:Ctx)(b:Array Oper):List Oper->List cz->Bool
 |[],[]=>abZ
 |o::r,a::s=>o.dst==a.dst&&dR C o.op a.op&&lQ b o.guard a.guard&&iS C b r s
 |_,_=>ab0
def h0:List cz->List Nat
 |[]=>[]
 |o::r=>o.dst.toList++(match o.guard with|some (s,_)=>[s]|none=>[])++h0 r
def fb:gD->List Nat
 | .region ops=>h0 ops
 | .draw ops _ _ _=>h0 ops
 | .seq a b=>fb a++fb b
 | .join _ _ a b=>fb a++fb b
 | .cond _ a b=>fb a++fb b
 | .block _ a=>fb a
 | .loop _ _ a=>fb a
 | .freeze t a=>t::fb a
 | .jJ _ _ ops b=>h0 ops++fb b
 |_=>[]
def tY(a:Array Oper)(pr:List (List Nat)):Bool:=(aat a.size).all λi=>match a[i]? with
 | some o=>
  let es:=(o.after.toList.filter (abL .any)).map abM
  es.all (λj=>decide (j<i))&&(c6 pr i).all λj=>es.contains j||es.any λk=>(c6 pr k).contains j
 |none=>ab0
def tZ(ks vs:List Nat)(az:List Nat):Bool:=az.all λt=>ks.contains t||vs.contains t
def qQ(C:Ctx)(a:Array Oper):List Oper->gD->Bool
 |l,.region al=>iS C a l al
 |l,.jJ vs ks al b=>iS C a (l.take al.length) al&&tZ ks vs (h0 al)&&qQ C a (l.drop al.length) b
 |_,_=>ab0
def eO(C:Ctx):Code->gD->Bool
 | .skip,.skip=>abZ
 | .region _ ops ab0,.region al=>iS C ops ops.toList al
 | .region _ ops abZ,.draw al pr cf last=>iS C ops ops.toList al&&tY ops pr&&tU al pr cf last&&C.P.follows .mixedOrders
 | .seq a b,.seq x y=>eO C a x&&eO C b y
 | .seq a b,.join vs ks x y=>eO C a x&&eO C b y&&tZ ks vs (fb x)
 | .cond c a b,.cond x p q=>dD C c x&&eO C a p&&eO C b q
 | .block id a,.block d x=>id==d&&eO C a x
 | .loop a,.loop vs ks x=>eO C a x&&tZ ks vs (fb x)
 | .exit id,.exit d=>id==d
 | .ret,.ret=>abZ
 | .region _ ops ab0,.jJ vs ks al b=>qQ C ops ops.toList (.jJ vs ks al b)
 |c,.freeze t x=>eO C c x
 |_,_=>ab0
def eH(az:List Nat)(a b:Act):Prop:=b.tmps.size=a.tmps.size/\∀t,t∉az->b.tmps[t]?=a.tmps[t]?
theorem eH.refl(az:List Nat)(a:Act):eH az a a:=⟨rfl,λ_ _=>rfl⟩
theorem eH.trans{a b c:Act}(h:eH az a b)(k:eH az b c):eH az a c:=⟨k.1.trans h.1,λt ht=>(k.2 t ht).trans (h.2 t ht)⟩
theorem eH.mono{az bs:List Nat}{a b:Act}(h:eH az a b)(hs:∀t,t∈az->t∈bs):eH bs a b:=⟨h.1,λt ht=>h.2 t λc=>ht (hs t c)⟩
theorem eH.put(a:Act)(d:Option Tmp)(V:Value):eH d.toList a (a.put d V):=by
 cases d with
 |none=>exact eH.refl _ _
 | some d=>refine⟨by simp[abN],λt ht=>?_⟩;simp only[Option.toList_some,List.mem_singleton]at ht;simp only[abN];rw[Z8,ad (λe=>ht e.symm)]
section
variable{C:Ctx}{w:World}{G:ch}{H:O}{env:Env}{a:Act}
theorem bG.cH(h:bG C.F w G env a.tmps)(d:Option Tmp){V:Value}(hv:VR C.F w G v V):bG C.F w G (Rb.cH env d v) (a.put d V).tmps:=by
 cases d with
 |none=>exact h
 |some d=>exact h.set d hv
theorem bG.same{cs:List I}{Vs:Array Value}(h:bG F w G cs Vs){t:Nat}(hv:cs[t]?=ab1 v):bG F w G (cs.set t v) Vs:=by
 refine⟨by simp[h.1],λj c V hc a=>?_⟩;by_cases b:t=j
 . subst b;rw[aax (ZF.1 hv).1]at hc;cases hc;exact h.2 t v V hv a
 . rw[aay b]at hc;exact h.2 j c V hc a
theorem Oper.EX{o:Oper}{b g:Act->World->Prop}(h:o.wp P a w b Q)(hn:∀a w,b a w->g a w):o.wp P a w g Q:=by
 unfold abm at h ⊢;cases i:(execOp a.eval o).run P w with
 | halt j R=>rw[i]at h;cases j<;>first|exact h|exact h.elim
 | ok x R=>
  rw[i]at h;cases x with
  |value v=>exact hn _ _ h
  |skip=>exact hn _ _ h
  |defer d=>exact hn _ _ h
  | enter f args=>
   refine abw h λe k he=>?_;cases e with
   |returned v=>exact hn _ _ he
   |panicked c=>exact he
   |outgrown=>exact he
  |row r args=>exact Rows.mono h λv k hv=>hn _ _ hv
  |_=>exact h.elim
theorem put_defers(d:Option Tmp)(V:Value):(a.put d V).defers=a.defers:=by cases d<;>rfl
theorem O6{b:Array Oper}{rest:List Oper}{o:Oper}(c:o.guard=ab2)(h:o.wp P a w (wpList P b Q rest) Q):wpList P b Q (o::rest) a w:=by unfold wpList;rw[aa (by simp[abO,c])];exact .inl h
theorem EY(ab:kW C){T:List Deferred}{i:Array Oper}{Q:Exit->Act->World->Prop}{K:Env->O->Prop}{w0:World}{G0:ch}{H0:O}{a0:Act}{az:List Nat}{rest:List Oper} :
  ∀ (l:List Oper) (al:List cz) (env:Env) (H:O) (G:ch) (w:World) (a:Act),iS C i l al=abZ->jk (ag C) al env H K->fa C w G H->Rel C.F w G H->bG C.F w G env a.tmps->a.defers=T ->
   Step w0 G0 H0 w G H->eH az a0 a->(∀t,t∈h0 al->t∈az) ->
   (∀bw H' G' p R,K bw H'->fa C R G' H'->Rel C.F R G' H'->bG C.F R G' bw p.tmps->p.defers=T->Step w0 G0 H0 R G' H'->eH az a0 p->wpList C.P i Q rest p R) ->
   wpList C.P i Q (l++rest) a w:=by
 intro l;induction l with
 | nil=>
  intro al env H G w a q h k r he x y hk _ z;cases al with
  |nil=>exact z env H G a w h k r he x y hk
  |cons _ _=>simp[iS]at q
 | cons o l I=>
  intro al env H G w a q h k r he x y hk U z;cases al with
  |nil=>simp[iS]at q
  | cons ao al=>
   simp only[iS,ZL,cq]at q;obtain⟨⟨⟨B,ac⟩,e⟩,J⟩:=q;have L:∀t,t∈h0 al->t∈az:=λt ht=>U t (by simp[h0,ht]);have M:∀t,t∈o.dst.toList->t∈az:=λt ht=>U t (by rw[B]at ht;simp[h0];left;simpa using ht);have step:∀(D:Env)(W:Act),W=a->bG C.F w G D a.tmps->cW (ag C) D H (λv H'=>jk (ag C) al (cH D ao.dst v) H' K) ao.op->o.wp C.P a w (wpList C.P i Q (l++rest)) Q:=by intro D W _ X ae;refine Oper.EX (EL ab ac k r X ae) λp R af=>?_;obtain⟨v,H',G',V,rfl,Y,hv,A,hs⟩:=af;rw[<-B]at Y;exact I al _ H' G' R _ J Y (k.step hs) A ((X.mono hs.toGLe).cH o.dst hv) (by rw[put_defers];exact x) (y.trans hs) (hk.trans ((eH.put a o.dst V).mono M)) L z
   cases m:o.guard with
   | none=>
    rw[m]at e;have f:ao.guard=ab2:=by
     cases f:ao.guard with
     |none=>rfl
     |some _=>rw[f]at e;simp[lQ]at e
    simp only[jk,f]at h;exact O6 m (step env a rfl he h)
   | some g=>
    obtain⟨j,want⟩:=g;rw[m]at e;cases f:ao.guard with
    |none=>rw[f]at e;simp[lQ]at e
    | some g'=>
     obtain⟨s,ai⟩:=g';rw[f]at e;simp only[lQ,ZL,cq]at e;obtain⟨rfl,hs⟩:=e;simp only[jk,f]at h;have get:∀c,env.getD s .bot=c->c ≠ .bot->env[s]?=ab1 c:=by
      intro c d hc;rw[aaW]at d;cases Z:env[s]? with
      |none=>rw[Z]at d;exact absurd d.symm hc
      |some c=>rw[Z]at d;simp at d;rw[d]
     unfold u at h;split at h
     . rename_i b d;have n:=get _ d (by simp);obtain⟨V,N,A⟩:=he.get n;obtain rfl:=A.kS;have E:yielded i a.tmps j=ab1 b:=by simp[yielded,hs,N]
       by_cases S:b=want
       . subst S;rw[aa rfl]at h;rw[abh];unfold wpList;rw[aa (by simp[abO,m,E])];exact .inl (step _ a rfl (he.same n) h)
       . rw[ad S]at h;have ah:b=!want:=by cases b<;>cases want<;>simp at S ⊢
         subst ah;rw[abh];unfold wpList;rw[ad (by simp[abO,m,E])];rw[<-B]at h;exact I al _ H G w _ J h k r ((he.same n).cH o.dst tM) (by rw[put_defers];exact x) y (hk.trans ((eH.put a o.dst undef).mono M)) L z
     . rename_i d;have n:=get _ d (by simp);obtain⟨V,N,A⟩:=he.get n;obtain rfl:=A.En;have E:yielded i a.tmps j=ab2:=by simp[yielded,hs,N]
       rw[abh];unfold wpList;rw[ad (by simp[abO,m,E])];rw[<-B]at h;exact I al _ H G w _ J h k r ((he.same n).cH o.dst tM) (by rw[put_defers];exact x) y (hk.trans ((eH.put a o.dst undef).mono M)) L z
     ·exact h.elim
theorem EZ(e:kW C){c:List Deferred}{d:Array Oper}{Q:Exit->Act->World->Prop}{K:Env->O->Prop}{w0:World}{G0:ch}{H0:O}{a0:Act}{az:List Nat}
  (l:List Oper) (al:List cz) (env:Env) (H:O) (G:ch) (w:World) (a:Act) (f:iS C d l al=abZ) (h:jk (ag C) al env H K) (g:fa C w G H) (i:Rel C.F w G H) (he:bG C.F w G env a.tmps) (j:a.defers=c)
   (k:Step w0 G0 H0 w G H) (hk:eH az a0 a) (m:∀t,t∈h0 al->t∈az)
   (n:∀bw H' G' b R,K bw H'->fa C R G' H'->Rel C.F R G' H'->bG C.F R G' bw b.tmps->b.defers=c->Step w0 G0 H0 R G' H'->eH az a0 b->Q .normal b R) :
   wpList C.P d Q l a w:=by
 have:=EY (rest:=[]) e l al env H G w a f h g i he j k hk m n;rwa [List.append_nil]at this
theorem O7{b:Array Oper}:∀{l:List Oper}{al:List cz},iS C b l al=abZ->l.length=al.length/\∀(i:Nat)(o:Oper),l[i]?=ab1 o->∃ao,al[i]?=ab1 ao/\o.dst=ao.dst/\dR C o.op ao.op=abZ/\lQ b o.guard ao.guard=abZ:=by
 intro l;induction l with
 |nil=>intro al h;cases al<;>simp[iS]at h ⊢
 | cons o l c=>
  intro al h;cases al with
  |nil=>simp[iS]at h
  | cons ao al=>
   simp only[iS,ZL,cq]at h;obtain⟨⟨⟨d,e⟩,f⟩,g⟩:=h;obtain⟨U,j⟩:=c g;refine⟨by simp[U],λi k a=>?_⟩;cases i with
   |zero=>simp at a;subst a;exact⟨ao,rfl,d,e,f⟩
   |succ i=>exact j i k (by simpa using a)
theorem E0:∀{al:List cz}{i:Nat},al[i]?=ab1 ao->∀t,ao.dst=ab1 t->t∈h0 al:=by
 intro al;induction al with
 |nil=>intro i h;simp at h
 | cons x al a=>
  intro i h t ht;cases i with
  |zero=>simp at h;subst h;simp[h0,ht]
  |succ i=>simp only[h0,abx];exact .inr (a (by simpa using h) t ht)
theorem O8(B:kW C){f:Array Oper}{Q:Exit->Act->World->Prop}{N:Act->World->Prop}{r:ab}{o:Oper}(ho:f[i]?=ab1 o)(x:o.dst=ao.dst)(D:dR C o.op ao.op=abZ)
  (d:lQ f o.guard ao.guard=abZ) (h:jm (ag C) ao env H r) (t:fa C w G H) (y:Rel C.F w G H) (he:bG C.F w G env a.tmps)
  (z:∀v V H' G' R,r v H'->fa C R G' H'->VR C.F R G' v V->Rel C.F R G' H'->Step w G H R G' H'->N (a.put ao.dst V) R):wpOp C.P f Q i N a w:=by
 unfold wpOp;rw[ho];dsimp only;have step:cW (ag C) env H r ao.op->o.wp C.P a w N Q:=by intro E;refine Oper.EX (EL B D t y he E) λL R J=>?_;obtain⟨v,H',G',V,rfl,K,hv,k,hs⟩:=J;rw[x];exact z v V H' G' R K (t.step hs) hv k hs
 unfold jm at h;cases m:o.guard with
 | none=>
  rw[m]at d;have l:ao.guard=ab2:=by
   cases l:ao.guard with
   |none=>rfl
   |some _=>rw[l]at d;simp[lQ]at d
  rw[l]at h;rw[aa (by simp[abO,m])];exact .inl (step h)
 | some g=>
  obtain⟨j,want⟩:=g;rw[m]at d;cases l:ao.guard with
  |none=>rw[l]at d;simp[lQ]at d
  | some g'=>
   obtain⟨s,M⟩:=g';rw[l]at d;simp only[lQ,ZL,cq]at d;obtain⟨rfl,hs⟩:=d;rw[l]at h;dsimp only at h;obtain⟨b,e,h⟩:=h;have get:∀c,env.getD s .bot=c->c ≠ .bot->env[s]?=ab1 c:=by
    intro c e hc;rw[aaW]at e;cases A:env[s]? with
    |none=>rw[A]at e;exact absurd e.symm hc
    |some c=>rw[A]at e;simp at e;rw[e]
   cases b with
   | true=>
    have n:=get _ (I.zD e) (by simp);obtain⟨V,p,k⟩:=he.get n;obtain rfl:=k.kS;have q:yielded f a.tmps j=ab1 want:=by simp[yielded,hs,p]
    rw[aa rfl]at h;rw[aa (by simp[abO,m,q])];exact .inl (step h)
   | false=>
    rw[hZ]at h;have hw:abO o (yielded f a.tmps)=ab0:=by
     rcases I.Eh e with u|u
     . have n:=get _ u (by simp);obtain⟨V,p,k⟩:=he.get n;obtain rfl:=k.kS;have q:yielded f a.tmps j=ab1 (!want):=by simp[yielded,hs,p]
       simp[abO,m,q]
     . have n:=get _ u (by simp);obtain⟨V,p,k⟩:=he.get n;obtain rfl:=k.En;have q:yielded f a.tmps j=ab2:=by simp[yielded,hs,p]
       simp[abO,m,q]
    rw[ad (by simp[hw]),x];exact z _ _ H G w h t tM y (Step.refl _ _ _)
theorem O9{p a:Nat->Bool}:∀{l:List Nat},(∀x,a x=abZ->p x=abZ)->(∃x∈l,p x=abZ/\a x=ab0)->l.countP a<l.countP p:=by
 have le:∀{l:List Nat},(∀x,a x=abZ->p x=abZ)->l.countP a<=l.countP p:=λ{l} h=>List.countP_mono_left λx _=>h x;intro l;induction l with
 |nil=>rintro _ ⟨x,b,_⟩;cases b
 | cons y l e=>
  intro h ⟨x,b,U,d⟩;rw[abP,abP];rcases abG.1 b with rfl|b
  . rw[U,d];have:=le (l:=l) h;simp;omega
  . have:=e h ⟨x,b,U,d⟩;by_cases c:a y=abZ
    ·rw[c,h y c];omega
    . simp at c;rw[c];simp;omega
theorem Step.drawn{w:World}{G:ch}{H:O}{n:Nat}(hn:w.drawn<=n)(h:Rel F w G H):Rel F {w with drawn:=n} G H/\Step w G H {w with drawn:=n} G H:=by
 have a:GLe w G {w with drawn:=n} G:=⟨hT _,λ_ _=>rfl,λ_ _=>rfl,λ_ _ h=>h,λ_ _ _ _ h=>h⟩
 exact ⟨⟨h.n,h.over,λj=>(h.obj j).cv a (λhl=>h.jL hl) (λ_=>rfl) λhl k hf=>hf,h.hJ,h.ig⟩,
   {a with size:=hT _,os:=rfl,tape:=rfl,output:=rfl,dr:=hn,eN:=λ_ _ _=>rfl,owned:=λi hi _=>⟨i,hi,rfl⟩,hg:=λ_ _ h=> .inl h}⟩
def fi(al:List cz)(Pd:List Nat)(env:Env):Env:=(aat env.length).map λj=>if Pd.any (λp=>eg al p==ab1 j)then .bot else env.getD j .bot
theorem kY(al:List cz)(Pd:List Nat)(env:Env)(t:Nat):(fi al Pd env).getD t .bot=if Pd.any (λp=>eg al p==ab1 t)then .bot else env.getD t .bot:=by
 unfold fi;by_cases ht:t<env.length
 ·simp[aaW,ht]
 . have U:env.getD t .bot = .bot:=by simp[aaW,abz (abB ht)]
   rw[U];simp[aaW,ht]
def pg:e_->c0
 | .alloc _ zero=> .row zero
 |_=> .gone
def ph(_:e_)(i:Nat):I:= .ptr i 0
def t_(_:e_)(b:Nat):Value:= .pointer (ab1 ⟨b,0,ab2⟩)
def pj(F:el)(w:World)(G:ch):e_->Nat->Nat->Prop
 | .alloc _ zero,b,cap=>∃(a:Array Value) (e:TypeId),w.heap[b]?=ab1 (.cells a e (0,0))/\a.size=cap/\bG F w G zero a
 |_,_,_=>False
theorem E1(ho:nf op)(h:pj F w G op b cap):b<w.heap.size:=by obtain⟨zero,rfl⟩:=ho;obtain⟨_,_,h,_⟩:=h;exact(aao.1 h).1
theorem E2(ho:nf op)(h:pj F w G op b cap)(a:GLe w G R G')(c:R.heap[b]?=w.heap[b]?):pj F R G' op b cap:=by obtain⟨zero,rfl⟩:=ho;obtain⟨d,e,U,f,g⟩:=h;exact⟨d,e,c.trans U,f,g.mono a⟩
theorem O_(ho:nf op)(h:pj F w G op b cap)(a:GLe w G w G')(hl:G'.loc i=b)(hc:G'.cap i=cap)(hf:∀j,¬G'.fz b j):hd F w G' i (pg op):=by
 obtain⟨zero,rfl⟩:=ho;obtain⟨d,e,U,f,g⟩:=h;exact ⟨d,e,by rw[hl];exact U,by rw[hc];exact f,λj=>by rw[hl];exact hf j,λj c k=>by obtain⟨V,l,m⟩:=g.get k;exact⟨V,l,m.mono a⟩⟩
theorem Pa(ho:nf op)(hi:i<G.n)(hl:G.loc i=b):VR F w G (ph op i) (t_ op b):=by subst hl;exact .ptr i 0 hi
theorem Pb{Φ:Z}{env:Env}{K:ab}(ho:nf op):cW Φ env H K op↔K (ph op H.n) (H.push (pg op)):=by
 obtain⟨zero,rfl⟩:=ho;simp only[cW,bJ,bx,aQ,ZW.injEq,aby.injEq,ph,pg];constructor
 ·rintro⟨v,H',⟨rfl,rfl⟩,h⟩;exact h
 ·intro h;exact⟨_,_,⟨rfl,rfl⟩,h⟩
def ua(C:Ctx)(al:List cz)(w0 w:World)(G:ch)(H:O)(a:Act)(i b:Nat):Prop:=
 ∃ (t:Nat) (op:e_) (cap:Nat),al[i]?=ab1 ⟨ab1 t,op,ab2⟩/\nf op/\(t<a.tmps.size->a.tmps[t]?=ab1 (t_ op b))/\pj C.F w G op b cap /\
  w0.heap.size<=b/\(∀k,(H.o k).live=abZ->G.loc k≠b)/\∀j,¬G.fz b j
theorem ua.step(h:ua C al w0 w G H a i b)(hs:Step w G H R G' H')(d:Option Tmp)(V:Value)(o:∀t,eg al i=ab1 t->d≠ab1 t):ua C al w0 R G' H' (a.put d V) i b:=by
 obtain⟨t,op,cap,U,c,l,m,p,f,q⟩:=h;have n:b<w.heap.size:=E1 c m;refine⟨t,op,cap,U,c,λht=>?_,E2 c m hs.toGLe (hs.eN b n f),p,λk hk e=>?_,λj hf=>?_⟩
 . cases g:d with
   |none=>rw[g]at ht;exact l ht
   | some r=>rw[g]at ht;have s:r≠t:=λe=>o t (by simp[eg,U]) (by rw[g,e]);simp only[abN]at ht ⊢;rw[abQ]at ht;rw[abR s];exact l ht
 . obtain⟨j,u,v⟩:=hs.owned k hk (by rw[e];exact n);exact f j u (v.trans e)
 . rcases hs.hg b j hf with hf|x|⟨k,hk,e⟩
   ·exact q j hf
   ·omega
   ·exact f k hk e
structure Way(C:Ctx)(al:List cz)(pr:List (List Nat))(last:List Nat)(K:Env->O->Prop)(w0:World)(G0:ch)(H0:O)(a0:Act)
  (cf:List (List Nat×Nat×List Nat)) (S:Nat->Bool) (Pd:List Nat) (bl:Nat->Nat) (env:Env) (H:O) (G:ch) (a:Act) (w:World):Prop where
 inv:Inv (ag C) al pr last K cf S env H
 sep:∀p∈Pd,S p=ab0/\jn al p=abZ/\∀k∈c6 pr p,S k=abZ\/k∈Pd
 qR:∀p∈Pd,ua C al w0 w G H a p (bl p)
 inj:∀p∈Pd,∀q∈Pd,bl p=bl q->p=q
 pk:fa C w G H
 rel:Rel C.F w G H
 qS:bG C.F w G (fi al Pd env) a.tmps
 defers:a.defers=[]
 step:Step w0 G0 H0 w G H
 cv:eH (h0 al) a0 a
theorem Way.settle{pr:List (List Nat)}{y:List Nat}{K:Env->O->Prop}{w0:World}{G0:ch}{H0:O}{a0:Act}(M:Good al pr){bl:Nat->Nat} :
  ∀ (n:Nat) (cf:List (List Nat×Nat×List Nat)) (S:Nat->Bool) (Pd:List Nat) (env:Env) (H:O) (G:ch),cf.length=n->Way C al pr y K w0 G0 H0 a0 cf S Pd bl env H G a w ->
   ∃v S' s bw H' G',Way C al pr y K w0 G0 H0 a0 v S' s bl bw H' G' a w/\(∀k,(S' k=abZ\/k∈s)↔(S k=abZ\/k∈Pd))/\∀p∈s,hx v≠ab1 p:=by
 intro n;induction n with
 | zero=>intro cf S Pd env H G hn hw;have:cf=[]:=aaY.1 hn;subst this;exact⟨[],S,Pd,env,H,G,hw,λk=>abA,λp f h=>by cases h⟩
 | succ n Y =>
  intro cf S Pd env H G hn hw;by_cases N:∃p∈Pd,hx cf=ab1 p
  . obtain ⟨p, f,z⟩:=N;obtain⟨Z,aF,ab⟩:=hw.sep p f;obtain⟨_,aG,ac⟩:=Ae hw.inv z;have ae:∀k∈c6 pr p,S k=abZ:=by
     intro k hk;rcases ab k hk with h|h
     ·exact h
     ·exact ac k hk (hw.sep k h).2.1
    obtain⟨t,op,cap,U,A,af,ag,aH,ah,P⟩:=hw.qR p f;have B:=EW (tP C) M hw.inv U Z ae (.inr z);rw[aa z]at B;simp only[kQ]at B;have hinv:=(Pb A).1 B;have D:=hw.rel.n;obtain⟨m,ai⟩:=hw.rel.zP (b:=bl p) (c:=cap) ah (pg op) (λm=>O_ A ag m (aa D.symm) (aa D.symm) P);have Q:∀i,i≠H.n->(G.more (bl p) cap).loc i=G.loc i:=λi hi=>ad (show ¬i=G.n by omega);have E:(G.more (bl p) cap).loc H.n=bl p:=aa D.symm;have ho:∀i,i≠H.n->(H.push (pg op)).o i=H.o i:=λi hi=>ad hi;have R:eg al p=ab1 t:=by simp[eg,U]
    have hlen:(fi al Pd env).length=env.length:=by simp[fi]
    have aj : Way C al pr y K w0 G0 H0 a0 cf.tail (λk=>k==p||S k) (Pd.filter (λq=>!(q==p))) bl (cH env (ab1 t) (ph op H.n)) (H.push (pg op)) (G.more (bl p) cap) a w:=by
     refine⟨hinv,λq d=>?_,λq d=>?_,λq d ak am h=>?_,hw.pk.zP m hw.rel.n P,ai,?_,hw.defers,?_,hw.cv⟩
     . obtain ⟨d,F⟩:=abS.1 d;have I:q≠p:=by simpa using F
       obtain⟨g1,g2,g3⟩:=hw.sep q d;refine⟨by simp[I,g1],g2,λk hk=>?_⟩;rcases g3 k hk with h|h
       ·left;simp[h]
       . by_cases u:k=p
         ·left;simp[u]
         ·right;exact abS.2 ⟨h,by simp[u]⟩
     . obtain ⟨d,F⟩:=abS.1 d;have I:q≠p:=by simpa using F
       obtain⟨an,ao,ap,aq,T,ar,au,av,aw,ax⟩:=hw.qR q d;refine⟨an,ao,ap,aq,T,ar,E2 T au m rfl,av,λk hk e=>?_,λj hf=>ax j hf⟩;by_cases g:k=H.n
       . subst g;rw[E]at e;exact I (hw.inj q d p f e.symm)
       . rw[Q k g]at e;rw[ho k g]at hk;exact aw k hk e
     ·exact hw.inj q (abS.1 d).1 ak (abS.1 am).1 h
     . have hv :=hw.qS.mono m;refine⟨by simp only[fi,cH,aa1,List.length_range,abF];rw[<-hv.1,hlen],λj c V hc x=>?_⟩;have W:j<env.length:=by
        have:=(ZF.1 hc).1;simpa[fi,cH]using this
       have r:c=(fi al (Pd.filter (λq=>!(q==p))) (cH env (ab1 t) (ph op H.n))).getD j .bot:=by rw[aaW,hc];rfl
       rw[kY]at r;by_cases J:j=t
       . subst J;have ay:(Pd.filter (λq=>!(q==p))).any (λq=>eg al q==ab1 j)=ab0:=by
          rw[abT];intro X;rw[abC]at X;obtain⟨q,d,l⟩:=X;have az:eg al q=ab1 j:=by simpa using l
          have:=M.uniq q p j az R;subst this;simp at d
         rw[ay]at r;simp only[abe,cc,cH,aaW,aax W,aaX]at r;subst r;have aA:j<a.tmps.size:=(aao.1 x).1;rw[af aA]at x;cases x;exact Pa A (show H.n<G.n+1 by omega) E
       . have hold:(fi al Pd env).getD j .bot=if(Pd.filter (λq=>!(q==p))).any (λq=>eg al q==ab1 j)then .bot else env.getD j .bot:=by
           rw[kY];have : Pd.any (λq=>eg al q==ab1 j)=(Pd.filter (λq=>!(q==p))).any (λq=>eg al q==ab1 j):=by
            rw[abE,abC,abC];constructor
            . rintro⟨q,d,l⟩;refine⟨q,abS.2 ⟨d,?_⟩,l⟩;have:q≠p:=by
               rintro rfl;rw[R]at l;exact J (by simpa using l:t=j).symm
              simp[this]
            . rintro⟨q,d,l⟩;exact⟨q,(abS.1 d).1,l⟩
           rw[this]
         have aB:(cH env (ab1 t) (ph op H.n)).getD j .bot=env.getD j .bot:=by simp only[cH];rw[aaW,aay (λe=>J e.symm),aaW]
         rw[aB,<-hold]at r;have aC:j<(fi al Pd env).length:=by rw[hlen];exact W
         refine hv.2 j c V ?_ x;rw[r,aaW,aav aC];rfl
     . have hs:=hw.step;refine {hs.toGLe.trans m with size:=hs.size,os:=hs.os,tape:=hs.tape,output:=hs.output,dr:=hs.dr,eN:=hs.eN,owned:=λk hk L=>?_,hg:=λb o hf=>hs.hg b o hf};by_cases g:k=H.n
       . subst g;rw[E]at L;omega
       . rw[Q k g]at L ⊢;rw[ho k g]at hk;exact hs.owned k hk L
    obtain⟨v,S',s,bw,H',G',r1,aD,aE⟩:=Y cf.tail _ _ _ _ _ (by simp[hn]) aj;refine⟨v,S',s,bw,H',G',r1,λk=>(aD k).trans ?_,aE⟩;simp only[ZM,cq,abS,abr,beq_eq_false_iff_ne];constructor
    . rintro((rfl|h)|⟨h,_⟩)
      ·exact .inr f
      ·exact .inl h
      ·exact .inr h
    . rintro (h|h)
      ·exact .inl (.inr h)
      . by_cases u:k=p
        ·exact .inl (.inl u)
        ·exact .inr ⟨h,u⟩
  ·exact⟨cf,S,Pd,env,H,G,hw,λk=>abA,λp f h=>N ⟨p,f,h⟩⟩
theorem Pc(bc:kW C){b:Array Oper}{Q:Exit->Act->World->Prop}{K:Env->O->Prop}{al:List cz}{pr:List (List Nat)}{cf:List (List Nat×Nat×List Nat)}{aj:List Nat}
  (bd:iS C b b.toList al=abZ) (ax:tY b pr=abZ) (aW:tU al pr cf aj=abZ) (hm:C.P.follows .mixedOrders=abZ)
  (h:jY (ag C) al aj cf env H K) (be:fa C w G H) (bf:Rel C.F w G H) (he:bG C.F w G env a.tmps) (bg:a.defers=[])
  (bh:∀bw H' G' f R,K bw H'->fa C R G' H'->Rel C.F R G' H'->bG C.F R G' bw f.tmps->f.defers=[]->Step w G H R G' H'->eH (h0 al) a f->Q .normal f R) :
  wpAny C.P abU b Q b.size (abV b.size ab0) a {w with drawn:=w.drawn+1}:=by
 obtain⟨hlen,bi⟩:=O7 bd;have bV:b.size=al.length:=by simpa using hlen
 simp only[tU,ZL]at aW;obtain⟨⟨bj,ab⟩,hc⟩:=aW;have u:=O1 bj;have aX:∀(i:Nat)(o:Oper),b[i]?=ab1 o->(∀e∈o.after,abL .any e=abZ->e.on<i)/\∀j∈c6 pr i,∃e∈o.after,abL .any e=abZ/\(e.on=j\/j∈c6 pr e.on):=by
  intro i o ho;have hi:i<b.size:=(aao.1 ho).1;unfold tY at ax;rw[aaB]at ax;have:=ax i (abD.2 hi);rw[ho]at this;simp only[ZL]at this;obtain⟨U,l⟩:=this;rw[aaB]at U l;refine⟨λe m ab=>?_,λj ak=>?_⟩
  . have:=U e.on (abW.2 ⟨e,abS.2 ⟨by simpa using m,ab⟩,rfl⟩);simpa using this
  . have:=l j ak;rw[ZM,abC]at this;rcases this with h|⟨k,hk,h⟩
    . have am:j∈(o.after.toList.filter (abL .any)).map abM:=by simpa[List.contains_iff_mem]using h
      obtain⟨e,m,rfl⟩:=abW.1 am;obtain⟨m,L⟩:=abS.1 m;exact⟨e,by simpa using m,L,.inl rfl⟩
    . obtain⟨e,m,rfl⟩:=abW.1 hk;obtain⟨m,L⟩:=abS.1 m;exact⟨e,by simpa using m,L,.inr (by simpa using h)⟩
 have main : ∀ (fuel:Nat) (listed:Array Bool) (cf:List (List Nat×Nat×List Nat)) (S:Nat->Bool) (Pd:List Nat) (bl:Nat->Nat) (bw:Env) (H':O) (G':ch) (f:Act) (R:World),
   Way C al pr aj K w G H a cf S Pd bl bw H' G' f R->(∀k,listed.getD k ab0=abZ↔S k=abZ\/k∈Pd)->listed.size=b.size ->
   (aat b.size).countP (λk=>!listed.getD k ab0)<=fuel->wpAny C.P .any b Q fuel listed f R:=by
  have done:∀(listed:Array Bool),listed.size=b.size->abX .any b listed=[]->∀i,i<b.size->listed.getD i ab0=abZ:=by
   intro listed ac ay i;induction i using Nat.strongRecOn with
   | _ i an=>
    intro hi;cases g:listed.getD i ab0 with
    |true=>rfl
    | false=>
     exfalso;have am:i∈abX .any b listed:=by
      rw[mem_ready];have ae:i<listed.size:=by omega
      refine⟨?_,b[i],by simp[hi],λe m L=>?_⟩
      ·simpa[ae]using g
      . have:=(aX i b[i] (by simp[hi])).1 e m L;exact an e.on this (by omega)
     rw[ay]at am;cases am
  have fin:∀(listed:Array Bool)(cf:List (List Nat×Nat×List Nat)) (S:Nat->Bool) (Pd:List Nat) (bl:Nat->Nat) (bw:Env) (H':O) (G':ch) (f:Act) (R:World),
    Way C al pr aj K w G H a cf S Pd bl bw H' G' f R->(∀k,listed.getD k ab0=abZ↔S k=abZ\/k∈Pd)->(∀i,i<b.size->listed.getD i ab0=abZ)->Q .normal f R:=by
   intro listed cf S Pd bl bw H' G' f R hw n M;obtain⟨aY,S',az,aA,aB,N,r1,ap,bk⟩:=hw.settle u _ _ _ _ _ _ _ rfl;have aC:az=[]:=by
    cases aC:az with
    |nil=>rfl
    | cons p r=>
     exfalso;have d:p∈az:=by rw[aC];exact abK
     cases g:hx aY with
     | none=>
      obtain⟨e0,e1,D,es,hl,hm,bW,bX,hf,aZ,bY,aD,bZ⟩:=r1.inv;cases aY with
      |cons q r=>cases g
      | nil=>
       simp only[jo]at aD;rw[aaB]at aD;obtain⟨g1,g2,_⟩:=r1.sep p d;obtain⟨t,op,af,aq⟩:=tS g2;have bm:p<al.length:=(ZF.1 af).1;have bn:p∈D:=by simpa using aD p (abD.2 bm)
       obtain⟨o,v,ho,y,_⟩:=hf p bn g1;rw[af]at ho;cases ho;exact Ab aq y
     | some e=>
      obtain⟨g1,g2,_⟩:=Ae r1.inv g;have:=M e (by omega);rcases(ap e).2 ((n e).1 this)with h|h
      ·rw[g1]at h;cases h
      ·exact bk e h g
   subst aC;have bo:∀i,i<al.length->S' i=abZ:=by
    intro i hi;rcases(ap i).2 ((n i).1 (M i (by omega)))with h|h
    ·exact h
    ·cases h
   have aE:fi al [] aA=aA:=by apply n7 (by simp[fi]);intro t _;rw[kY];rfl
   have hv:=r1.qS;rw[aE]at hv;exact bh aA aB N f R (O4 r1.inv bo) r1.pk r1.rel hv r1.defers r1.step r1.cv
  intro fuel;induction fuel with
  | zero=>
   intro listed cf S Pd bl bw H' G' f R hw n ac aF;have M:∀i,i<b.size->listed.getD i ab0=abZ:=by intro i hi;have B:=Nat.le_zero.1 aF;rw[List.countP_eq_zero]at B;simpa using B i (abD.2 hi)
   have aG:abX .any b listed=[]:=by
    apply List.eq_nil_iff_forall_not_mem.2;intro i hi;obtain⟨B,o,ho,_⟩:=mem_ready.1 hi;have ae:i<b.size:=(aao.1 ho).1;have:=M i ae;have W:i<listed.size:=by omega
    simp[W]at B this;rw[B]at this;cases this
   exact⟨aG,fin listed cf S Pd bl bw H' G' f R hw n M⟩
  | succ fuel an=>
   intro listed bp bq br bl bs bt bu f R a0 a1 ac aF;refine⟨λaG=>fin listed bp bq br bl bs bt bu f R a0 a1 λi hi=>done listed ac aG i hi,λi hi=>?_⟩;obtain⟨cf,S,Pd,bw,H',G',hw,ap,a2⟩:=a0.settle u _ _ _ _ _ _ _ rfl;have n:∀k,listed.getD k ab0=abZ↔S k=abZ\/k∈Pd:=λk=>(a1 k).trans (ap k).symm;obtain⟨B,o,ho,M⟩:=mem_ready.1 hi;have ae:i<b.size:=(aao.1 ho).1;have W:i<listed.size:=by omega
   have aH:listed.getD i ab0=ab0:=by simpa[W]using B
   have ar:S i=ab0:=by
    cases g:S i with
    |false=>rfl
    |true=>have:=(n i).2 (.inl g);rw[aH]at this;cases this
   have X:i∉Pd:=λg=>by have:=(n i).2 (.inr g);rw[aH]at this;cases this
   obtain⟨ao,T,a3,y,aI⟩:=bi i o (by simpa using ho);have ah:eg al i=ao.dst:=by simp[eg,T]
   obtain⟨aZ,bv⟩:=O5 u hw.inv;have bx:∀k,listed.getD k ab0=abZ->∀j∈c6 pr k,listed.getD j ab0=abZ:=by
    intro k hk j ak;rw[n]at hk ⊢;rcases hk with hk|hk
    ·exact .inl (aZ k hk j ak)
    ·exact(hw.sep k hk).2.2 j ak
   have aJ:∀k∈c6 pr i,listed.getD k ab0=abZ:=by
    intro k hk;obtain⟨e,m,L,aK⟩:=(aX i o ho).2 k hk;have:=M e m L;rcases aK with rfl|aK
    ·exact this
    ·exact bx e.on this k aK
   have a4:∀k,(listed.setIfInBounds i abZ).getD k ab0=abZ↔k=i\/listed.getD k ab0=abZ:=by
    intro k;by_cases aL:k=i
    ·subst aL;simp[W]
    ·rw[getD_set_ne ab0 (λe=>aL e.symm)];simp[aL]
   have a5:(aat b.size).countP (λk=>!(listed.setIfInBounds i abZ).getD k ab0)<=fuel:=by
    refine Nat.lt_succ_iff.1 (px (O9 (λx g=>?_) ⟨i,abD.2 ae,by rw[aH];rfl,by simp[W]⟩) aF);by_cases a6:x=i
    ·subst a6;simp[W]at g
    ·rw[getD_set_ne ab0 (λe=>a6 e.symm)]at g;exact g
   by_cases a7:jn al i=abZ/\hx cf≠ab1 i
   ·
     obtain⟨E,b0⟩:=a7;obtain⟨t,op,af,aq⟩:=tS E;rw[T]at af;cases af;unfold wpOp;rw[ho];dsimp only;have aM:o.guard=ab2:=by
      cases aM:o.guard with
      |none=>rfl
      |some _=>rw[aM]at aI;simp[lQ]at aI
     rw[aa (by simp[abO,aM])];refine .inl ?_;obtain ⟨au,cap,bz,bA⟩:∃(au:Obj) (cap:Nat),(execOp f.eval o).run C.P R = .ok (.value (t_ op R.heap.size)) (R.alloc au)/\∀(w2:World)(N:ch),GLe R G' w2 N->w2.heap[R.heap.size]?=ab1 au->pj C.F w2 N op R.heap.size cap:=by
      obtain⟨zero,rfl⟩:=aq;simp only[dR]at y;split at y
      . rename_i ty bB;split at y
        . rename_i inf bC;split at y
          . rename_i z bD;have bE:=n2 (C:=C) (w:=R) (G:=G') y;have bF:bG C.F R G' zero z.cells:=by simpa using bE
            refine⟨.cells z.cells ty,z.cells.size,?_,λw2 N u ab=>⟨_,_,ab,rfl,bF.mono u⟩⟩;have ay:(aaG ty abZ (.tuple #[])).run C.P R = .ok (.pointer (ab1 ⟨R.heap.size,0,ab2⟩)) (R.alloc (.cells z.cells ty)):=by simp[aaG,zeroValue,typeInfo,bC,bD,newVar,newRow]
            simp[execOp,bB,ay,t_]
          ·cases y
        ·cases y
      ·cases y
     refine z7 bz ?_;have d:=d_.alloc R au;obtain⟨bH,I⟩:=hw.rel.Ot d;have bI:o.dst=ab1 t:=a3;rw[bI];refine an _ cf S (i::Pd) (λk=>if k=i then R.heap.size else bl k) bw H' G' _ _ ⟨hw.inv,λp A=>?_,λp A=>?_,λp A q bJ av=>?_,hw.pk.step I,bH,?_,by rw[put_defers];exact hw.defers,hw.step.trans I,hw.cv.trans ((eH.put f (ab1 t) _).mono λs hs=>E0 T s (by simpa[eq_comm]using hs))⟩ ?_ (by simp[ac]) a5
     . rcases abG.1 A with rfl|A
       . exact ⟨ar,E,λk hk=>by
           rcases(n k).1 (aJ k hk)with h|h
           ·exact .inl h
           ·exact .inr (abH _ h)⟩
       . obtain⟨g1,g2,g3⟩:=hw.sep p A;exact⟨g1,g2,λk hk=>(g3 k hk).imp id λh=>abH _ h⟩
     . rcases abG.1 A with rfl|A
       . rw [aa rfl];refine⟨t,op,cap,T,aq,λht=>?_,bA _ _ I.toGLe d.new,hw.step.size,λk hk=>aap ((hw.rel.obj k).lt hk),λj hf=>?_⟩
         . simp only[abN]at ht ⊢;rw[abQ]at ht;simp[ht]
         . obtain⟨V,ai⟩:=hw.rel.ig _ _ hf;have:=aan R _ ai;simp at this
       . have Y:p≠i:=λe=>X (e▸A);rw[ad Y];refine(hw.qR p A).step I (ab1 t) _ λs hs e=>?_;have bK:t=s:=ZW.inj e;subst bK;exact Y (u.uniq p i t hs (by rw[ah]))
     . have a8:∀q∈Pd,bl q<R.heap.size:=by
         intro q bL;obtain⟨_,_,_,_,B,_,bM,_⟩:=hw.qR q bL;exact E1 B bM
       have a9:=abG.1 A;have a_:=abG.1 bJ;by_cases U:p=i<;>by_cases l:q=i
       ·rw[U,l]
       . rw[aa U,ad l]at av;have:=a8 q (a_.resolve_left l);omega
       . rw[ad U,aa l]at av;have:=a8 p (a9.resolve_left U);omega
       . rw[ad U,ad l]at av;exact hw.inj p (a9.resolve_left U) q (a_.resolve_left l) av
     . have hv:=hw.qS.mono I.toGLe;refine⟨by simpa[fi,abN]using hv.1,λj c V hc ai=>?_⟩;have bN:j<bw.length:=by
        have:=(ZF.1 hc).1;simpa[fi]using this
       have Z:c=(fi al (i::Pd) bw).getD j .bot:=by rw[aaW,hc];rfl
       rw[kY]at Z;by_cases aN:t=j
       . subst aN;have:(i::Pd).any (λq=>eg al q==ab1 t)=abZ:=by simp[ah]
         rw[this]at Z;simp only[aQ]at Z;subst Z;exact .bot _
       . simp only[abN]at ai;rw[abR aN]at ai;have U:(i::Pd).any (λq=>eg al q==ab1 j)=Pd.any (λq=>eg al q==ab1 j):=by
          rw[List.any_cons,ah];have:(ab1 t==ab1 j)=ab0:=by simpa using aN
          rw[this,abI]
         rw[U,<-kY]at Z;have bO:j<(fi al Pd bw).length:=by simpa[fi]using bN
         refine hv.2 j c V ?_ ai;rw[Z,aaW,aav bO];rfl
     . intro k;rw[a4 k,n k];simp only[abG];constructor
       . rintro(h|h|h)
         ·exact .inr (.inl h)
         ·exact .inl h
         ·exact .inr (.inr h)
       . rintro(h|h|h)
         ·exact .inr (.inl h)
         ·exact .inl h
         ·exact .inr (.inr h)
   . have E : jn al i=ab0\/hx cf=ab1 i:=by
       by_cases U:jn al i=abZ
       . by_cases l:hx cf=ab1 i
         ·exact .inr l
         ·exact absurd ⟨U,l⟩ a7
       ·exact .inl (by simpa using U)
     have ba:∀k∈c6 pr i,S k=abZ:=by
      intro p d;rcases(n p).1 (aJ p d)with h|h
      ·exact h
      . exfalso;obtain⟨g1,g2,_⟩:=hw.sep p h;rcases E with E|E
        . refine bv p g2 g1 (a2 p h) i (by omega) ar d E λk hk=>?_;rcases(n k).1 (aJ k hk)with J|J
          ·exact .inl J
          ·exact .inr ⟨(hw.sep k J).2.1,a2 k J⟩
        . have:=(Ae hw.inv E).2.2 p d g2;rw[g1]at this;cases this
     have aO:=EW (tP C) u hw.inv T ar ba E;rw[tQ]at aO;have agree:∀t∈kr ao,bw.getD t .bot=(fi al Pd bw).getD t .bot:=by
      intro t ht;rw[kY];have : Pd.any (λp=>eg al p==ab1 t)=ab0:=by
       rw[abT];intro g;rw[abC]at g;obtain⟨p,d,aP⟩:=g;have aR:eg al p=ab1 t:=by simpa using aP
       obtain⟨g1,g2,g3⟩:=hw.sep p d;rcases u.reads i ao t p T ht aR with h|⟨_,h⟩
       ·have:=ba p h;rw[g1]at this;cases this
       . rcases h with rfl|h
         ·exact X d
         . rcases g3 i h with J|J
           ·rw[ar]at J;cases J
           ·exact X J
      rw[this];rfl
     rw[EO agree]at aO;refine O8 bc ho a3 y aI aO hw.pk hw.rel hw.qS ?_;intro v V aB N w2 bP bQ bR bS I;refine an _ _ (λk=>k==i||S k) Pd bl _ aB N _ w2 ⟨bP,λp d=>?_,λp d=>?_,hw.inj,bQ,bS,?_,by rw[put_defers];exact hw.defers,hw.step.trans I,hw.cv.trans ((eH.put f ao.dst V).mono λs hs=>E0 T s (by simpa[Option.mem_toList,eq_comm]using hs))⟩ ?_ (by simp[ac]) a5
     . obtain⟨g1,g2,g3⟩:=hw.sep p d;have Y:p≠i:=λe=>X (e▸d);exact⟨by simp[Y,g1],g2,λk hk=>(g3 k hk).imp (λh=>by simp[h]) id⟩
     . have Y:p≠i:=λe=>X (e▸d);refine(hw.qR p d).step I ao.dst V λs hs e=>?_;exact Y (u.uniq p i s hs (by rw[ah,e]))
     . have hv :=hw.qS.mono I.toGLe;have bb:∀t,ao.dst=ab1 t->Pd.any (λp=>eg al p==ab1 t)=ab0:=by
        intro t ht;rw[abT];intro g;rw[abC]at g;obtain⟨p,d,aP⟩:=g;have aR:eg al p=ab1 t:=by simpa using aP
        exact X ((u.uniq p i t aR (by rw[ah,ht]))▸d)
       have bT : fi al Pd (cH bw ao.dst v)=cH (fi al Pd bw) ao.dst v:=by
        apply n7
        ·cases aS:ao.dst<;>simp[fi,cH]
        . intro s _;rw[kY];cases aS:ao.dst with
          |none=>simp only[cH];rw[kY]
          | some t=>
           simp only[cH];by_cases aT:t=s
           . subst aT;rw[bb t aS];by_cases aw:t<bw.length
             . have aU:t<(fi al Pd bw).length:=by simpa[fi]using aw
               simp[aaW,aw,aU]
             . have aU:¬t<(fi al Pd bw).length:=by simpa[fi]using aw
               rw[abY (abB aw),abY (abB aU),kY,bb t aS]
           . have U:(bw.set t v).getD s .bot=bw.getD s .bot:=by
               rw[aaW,aay aT,aaW]
             have l:((fi al Pd bw).set t v).getD s .bot=(fi al Pd bw).getD s .bot:=by rw[aaW,aay aT,aaW]
             rw[U,l,kY]
       rw[bT];exact hv.cH ao.dst bR
     . intro k;rw[a4 k,n k];simp only[ZM,cq];constructor
       . rintro(h|h|h)
         ·exact .inl (.inl h)
         ·exact .inl (.inr h)
         ·exact .inr h
       . rintro((h|h)|h)
         ·exact .inl h
         ·exact .inr (.inl h)
         ·exact .inr (.inr h)
 obtain⟨bU,aV⟩:=Step.drawn (aal w.drawn) bf;refine main b.size (abV b.size ab0) cf (λ_=>ab0) [] (λ_=>0) env H G a _ ⟨O3 u ab hc h,λp d=>(by cases d),λp d=>(by cases d),λp d=>(by cases d),be.step aV,bU,?_,bg,aV,eH.refl _ _⟩ ?_ (by simp) ?_
 . have aE:fi al [] env=env:=by
     apply n7 (by simp[fi]);intro t _;rw[kY];rfl
   rw[aE];exact he.mono aV.toGLe
 . intro k;by_cases hk:k<b.size<;>simp[hk]
 ·exact h1 (List.countP_le_length) (by simp)
theorem Pe(e:kW C){b:Array Oper}{Q:Exit->Act->World->Prop}{K:Env->O->Prop}{al:List cz}{pr:List (List Nat)}{cf:List (List Nat×Nat×List Nat)}{d:List Nat}{ct:Nat}
  (f:iS C b b.toList al=abZ) (g:tY b pr=abZ) (i:tU al pr cf d=abZ) (hm:C.P.follows .mixedOrders=abZ)
  (h:jY (ag C) al d cf env H K) (j:fa C w G H) (k:Rel C.F w G H) (he:bG C.F w G env a.tmps) (l:a.defers=[])
  (m:∀bw H' G' c R,K bw H'->fa C R G' H'->Rel C.F R G' H'->bG C.F R G' bw c.tmps->c.defers=[]->Step w G H R G' H'->eH (h0 al) a c->Q .normal c R) :
  (Code.region ct b abZ).wp C.P Q a w:=
 wp_region_any hm (Pc e f g i hm h j k he l m)
theorem Pf{x v:I}{X:Value}(d:Rel F w G H)(h:lA H x=ab1 (v,H'))(f:VR F w G x X):∃G',Rel F w G' H'/\Step w G H w G' H'/\VR F w G' v X:=by
 have key:∀(id:Nat)(cs:List I),H.o id = .row cs->∃G',Rel F w G' (H.set id .gone)/\Step w G H w G' (H.set id .gone) /\
   ∃Vs:Nat->Value,(∀(j:Nat)(c:I),cs[j]?=ab1 c->G'.fz (G.loc id) j/\w.cell? ⟨G.loc id,j,ab2⟩=ab1 (Vs j))/\(∀(j:Nat)(c:I),cs[j]?=ab1 c->VR F w G' c (Vs j)):=by
  intro id cs ho;have l:(H.o id).live=abZ:=by rw[ho];rfl
  have m:=d.jL l;have hk:=d.kill id (d.n▸m);have t:=d.obj id;rw[ho]at t;have p:=t.tB;have q:GLe w G w (G.ez (G.loc id) 0 cs.length):=⟨hT _,λ_ _=>rfl,λ_ _=>rfl,λ_ _ hf=> .inl hf,λ_ _ _ _ hc=>hc⟩
  have u:∀j,((H.set id .gone).o j).live=abZ->j≠id/\(H.o j).live=abZ:=by
   intro j a;simp only[O.set]at a;split at a
   ·cases a
   ·rename_i y;exact⟨y,a⟩
  refine⟨G.ez (G.loc id) 0 cs.length,⟨hk.1.n,hk.1.over,λj=>?_,hk.1.hJ,λb o r=>?_⟩,?_,λj=>(w.cell? ⟨G.loc id,j,ab2⟩).getD undef,λj c a=>?_,λj c a=>?_⟩
  . refine (hk.1.obj j).cv q (λhl=>hk.1.jL hl) (λ_=>rfl) λhl k hf=>?_;rcases hf with hf|⟨hf,_⟩
    ·exact hf
    . obtain⟨U,g⟩:=u j hl;exact absurd hf (d.hJ j id U g l)
  . rcases r with r|⟨rfl,_,z⟩
    ·exact d.ig b o r
    . obtain⟨V,e,_⟩:=p o cs[o] (aav z);exact⟨V,by simpa using e⟩
  ·exact {q with size:=hT _,os:=rfl,tape:=rfl,output:=rfl,dr:=hT _,eN:=λ_ _ _=>rfl,owned:=λj hl _=>⟨j,(u j hl).2,rfl⟩,hg:=λb o hf=>hf.imp (λh=>h) λhf=> .inr ⟨id,l,hf.1.symm⟩}
  . obtain⟨V,e,_⟩:=p j c a;rw[aar]at e;exact⟨.inr ⟨rfl,aad _,(ZF.1 a).1⟩,by dsimp only;rw[e];rfl⟩
  . obtain⟨V,e,i⟩:=p j c a;rw[aar]at e;dsimp only;rw[e];exact i.mono q
 unfold lA at h;split at h
 . rename_i id o len sz;split at h
   . rename_i cs ho;split at h
     . cases h;obtain⟨G',i,s,Vs,U,g⟩:=key id cs ho;refine⟨G',i,s,?_⟩;cases f with
       | row _ _ _ _ cap m hle hc=>
        have gL:∀(j:Nat)(c:I),((cs.drop o).take (len*sz))[j]?=ab1 c->cs[o+j]?=ab1 c:=by
         intro j c a;rw[ZH]at a;split at a
         ·rw[ZI]at a;exact a
         ·cases a
        exact .aj _ _ _ _ o cap (λj=>Vs (o+j)) trivial hle (λj c a=>U _ c (gL j c a)) λj c a=>g _ c (gL j c a)
     ·cases h
   ·cases h
 . rename_i id o;split at h
   . rename_i cs ho;cases h;obtain⟨G',i,s,Vs,U,g⟩:=key id cs ho;refine⟨G',i,s,?_⟩;cases f with
     | ptr _ _ m=>exact .ak _ _ o (λj=>Vs (o+j)) (λj c a=>U _ c (by rw[ZI]at a;exact a)) λj c a=>g _ c (by rw[ZI]at a;exact a)
   ·cases h
 ·cases h;exact⟨G,d,Step.refl _ _ _,f⟩
 ·cases h;exact⟨G,d,Step.refl _ _ _,f⟩
 ·cases h;exact⟨G,d,Step.refl _ _ _,f⟩
 ·cases h
end
end Rb
namespace Rb
open Go
variable{F:el}{Vs:Array Value}
section
variable{C:Ctx}{w:World}{G:ch}{H:O}{env:Env}{a:Act}
theorem ub(h:bG F w G env Vs)(vs:List Nat):∀(j:Nat)(c:I),(gL env vs)[j]?=ab1 c->∃t V,vs[j]?=ab1 t/\(Vs[t]?=ab1 V/\VR F w G c V\/c = .bot):=by
 intro j c a;simp only[gL,aau]at a;cases hv:vs[j]? with
 |none=>simp[hv]at a
 | some t=>
  simp[hv]at a;subst a;cases he:env[t]? with
  |none=>exact⟨t,undef,rfl,.inr (by simp)⟩
  | some c=>obtain⟨V,b,d⟩:=h.get he;exact⟨t,V,rfl,.inl ⟨b,by simpa[he]using d⟩⟩
theorem Pg:∀(ks:List Nat){env:Env}{Vs:Array Value},bG F w G env Vs->bG F w G (hL env ks) Vs:=by
 intro ks;induction ks with
 |nil=>intro env Vs h;exact h
 | cons t ks b=>
  intro env Vs h;refine b ⟨by simp[h.1],λj c V hc d=>?_⟩;by_cases a:t=j
  . subst a;rw[Z7]at hc;simp only[aQ]at hc;split at hc
    ·cases hc;exact .bot _
    ·cases hc
  . rw[aay a]at hc;exact h.2 j c V hc d
theorem Ph:∀(ks:List Nat)(env:Env),(hL env ks).length=env.length:=by
 intro ks;induction ks with
 |nil=>intro env;rfl
 |cons t ks a=>intro env;rw[hL,a];simp
theorem Pj:∀(ks:List Nat)(env:Env)(t:Nat),t∈ks->∀c,(hL env ks)[t]?=ab1 c->c = .bot:=by
 intro ks;induction ks with
 |nil=>intro env t ht;cases ht
 | cons s ks a=>
  intro env t ht c hc;by_cases h:t∈ks
  ·exact a _ t h c hc
  . have d:t=s:=by rcases abG.1 ht with b|b;exact b;exact absurd b h
    subst d;have key:∀(ks:List Nat)(env:Env),t∉ks->(hL env ks)[t]?=env[t]?:=by
     intro ks;induction ks with
     |nil=>intro env _;rfl
     | cons u ks a=>intro env hn;rw[hL,a _ (λh=>hn (abH _ h)),aay (λe=>hn (by rw[e];exact abK))]
    rw[hL,key ks _ h,Z7]at hc;simp only[aQ]at hc;split at hc
    ·cases hc;rfl
    ·cases hc
theorem uc{ks vs az:List Nat}{Vs b:Array Value}(h:bG F w G env Vs)(hc:tZ ks vs az=abZ)(hs:b.size=Vs.size)(hk:∀t,t∉az->b[t]?=Vs[t]?)(a:List I)
  (k:∀(j:Nat)(c:I),a[j]?=ab1 c->∃t V,vs[j]?=ab1 t/\(b[t]?=ab1 V/\VR F w G c V\/c = .bot)) (hl:a.length=vs.length):bG F w G (jK (hL env ks) vs a) b:=by
 have p:∀(vs:List Nat)(a:List I)(env:Env),env.length=b.size->a.length=vs.length ->
   (∀(j:Nat)(c:I),a[j]?=ab1 c->∃t V,vs[j]?=ab1 t/\(b[t]?=ab1 V/\VR F w G c V\/c = .bot)) ->
   (∀(j:Nat)(c:I)(V:Value),env[j]?=ab1 c->b[j]?=ab1 V->j∈vs\/VR F w G c V)->bG F w G (jK env vs a) b:=by
  intro vs;induction vs with
  |nil=>intro a env hle _ _ h;exact⟨hle,λj c V hc f=>(h j c V hc f).resolve_left (by simp)⟩
  | cons t vs q=>
   intro a env hle hl k h;cases a with
   |nil=>simp at hl
   | cons d a=>
    rw[jK];refine q a _ (by simp[hle]) (by simpa using hl) (λj c e=>by obtain⟨m,V,l,i⟩:=k (j+1) c (by simpa using e);exact⟨m,V,by simpa using l,i⟩) λj c V hc f=>?_
    by_cases e:t=j
    . subst e;rw[Z7]at hc;simp only[aQ]at hc;split at hc
      . cases hc;obtain⟨m,r,l,i⟩:=k 0 d rfl;simp at l;subst l;rcases i with⟨n,i⟩|rfl
        ·rw[f]at n;cases n;exact .inr i
        ·exact .inr (.bot _)
      ·cases hc
    . rw [aay e]at hc;rcases h j c V hc f with g|g
      . rcases abG.1 g with g|g
        ·exact absurd g.symm e
        ·exact .inl g
      ·exact .inr g
 refine p vs a _ (by rw[Ph,h.1,hs]) hl k λj c V o f=>?_;by_cases e:j∈az
 . have:=aaB.1 hc j e;simp at this;rcases this with U|U
   ·rw[Pj ks env j U c o];exact .inr (.bot _)
   ·exact .inl U
 . rw[hk j e]at f;exact .inr ((Pg ks h).2 j c V o f)
theorem ud(env:Env)(vs:List Nat):(gL env vs).length=vs.length:=by simp[gL]
def iT:kR->Exit->Prop
 | .normal,.normal=>True
 | .exit i,.exit j=>i=j
 | .ret,.ret=>True
 |_,_=>False
theorem Pk(n:kW C){o:Array Oper}{Q:Exit->Act->World->Prop}{w0:World}{G0:ch}{H0:O}{a0:Act}{az:List Nat} :
  ∀ (b:gD) (l:List Oper) (env:Env) (H:O) (G:ch) (w:World) (a:Act) (K:kR->Env->O->Prop),qQ C o l b=abZ->gM (ag C) b env H K->fa C w G H->Rel C.F w G H->bG C.F w G env a.tmps->a.defers=[] ->
   Step w0 G0 H0 w G H->eH az a0 a->(∀t,t∈fb b->t∈az) ->
   (∀bw H' G' c R,K .normal bw H'->fa C R G' H'->Rel C.F R G' H'->bG C.F R G' bw c.tmps->c.defers=[]->Step w0 G0 H0 R G' H'->eH az a0 c->Q .normal c R) ->
   wpList C.P o Q l a w:=by
 intro b;induction b with
 | region al=>intro l env H G w a K d h f g he i j hk e k;exact EZ n l al env H G w a d h f g he i j hk e k
 | jJ vs ks al b q=>intro l env H G w a K d h f g he i j hk e k;simp only[qQ,ZL]at d;obtain⟨⟨U,r⟩,s⟩:=d;rw[<-List.take_append_drop al.length l];simp only[gM]at h;refine EY (w0:=w) (G0:=G) (H0:=H) (a0:=a) (az:=h0 al) n (l.take al.length) al env H G w a U h f g he i (Step.refl _ _ _) (eH.refl _ _) (λ_ ht=>ht) ?_;intro bw H' G' c R u v x y z p m;have A:=uc (he.mono p.toGLe) r m.1 m.2 (gL bw vs) (ub y vs) (ud _ _);exact q (l.drop al.length) _ H' G' R c K s u v x A z (j.trans p) (hk.trans (m.mono λt ht=>e t (by simp[fb,ht]))) (λt ht=>e t (by simp[fb,ht])) k
 |_=>intro l env H G w a K d;simp[qQ]at d
theorem Pl(au:kW C) :
  ∀ (ac:gD) (c:Code) (env:Env) (H:O) (G:ch) (w:World) (a:Act) (K:kR->Env->O->Prop) (Q:Exit->Act->World->Prop),eO C c ac=abZ->gM (ag C) ac env H K ->
   fa C w G H->Rel C.F w G H->bG C.F w G env a.tmps->a.defers=[] ->
   (∀B ex bw H' G' f R,iT B ex->K B bw H'->fa C R G' H'->Rel C.F R G' H'->bG C.F R G' bw f.tmps->f.defers=[]->Step w G H R G' H'->eH (fb ac) a f->Q ex f R) ->
   c.wp C.P Q a w:=by
 intro ac;induction ac with
 | skip=>intro c env H G w a K Q d h n o he r g;cases c<;>simp[eO]at d;exact wp_skip (g .normal .normal env H G a w trivial h n o he r (Step.refl _ _ _) (eH.refl _ _))
 | region al=>
  intro c env H G w a K Q d h n o he r g;cases c with
  | region id ops draw=>
   cases draw with
   |true=>simp[eO]at d
   | false=>
    simp only[eO]at d;refine wp_region_list ?_;exact EZ (az:=h0 al) (a0:=a) (w0:=w) (G0:=G) (H0:=H) (Q:=Q) (K:=K .normal) au ops.toList al env H G w a d h n o he r (Step.refl _ _ _) (eH.refl _ _) (λ_ ht=>ht)
     (λbw H' G' f R A D z E J m u=>g .normal .normal bw H' G' f R trivial A D z E J m u)
  |_=>simp[eO]at d
 | jJ vs ks al b _=>
  intro c env H G w a K Q d h n o he r g;cases c with
  | region id ops draw=>
   cases draw with
   |true=>simp[eO]at d
   | false=>
    simp only[eO]at d;refine wp_region_list ?_;exact Pk (az:=fb (.jJ vs ks al b)) (a0:=a) (w0:=w) (G0:=G) (H0:=H) (Q:=Q) (K:=K) au (.jJ vs ks al b) ops.toList env H G w a d h n o he r (Step.refl _ _ _) (eH.refl _ _) (λ_ ht=>ht)
     (λbw H' G' f R A D z E J m u=>g .normal .normal bw H' G' f R trivial A D z E J m u)
  |_=>simp[eO]at d
 | draw al pr cf last=>
  intro c env H G w a K Q d h n o he r g;cases c with
  | region id ops draw=>
   cases draw with
   |false=>simp[eO]at d
   | true=>simp only[eO,ZL]at d;obtain⟨⟨⟨U,S⟩,T⟩,X⟩:=d;exact Pe au U S T X h n o he r λbw H' G' f R A D z E J m u=>g .normal .normal bw H' G' f R trivial A D z E J m u
  |_=>simp[eO]at d
 | seq x y av aw=>
  intro c env H G w a K Q d h n o he r g;cases c with
  | seq p q=>
   simp only[eO,ZL]at d;refine wp_seq ?_;refine av p env H G w a _ _ d.1 h n o he r ?_;intro B ex bw H' G' f R hex A D z E J m u;cases B with
   | normal=>cases ex<;>simp only[iT]at hex;refine aw q bw H' G' R f K Q d.2 A D z E J ?_;intro B ex Y ak Z a2 w2 hex ab ae af L ah ai aj;exact g B ex Y ak Z a2 w2 hex ab ae af L ah (m.trans ai) ((u.mono λt ht=>by simp[fb,ht]).trans (aj.mono λt ht=>by simp[fb,ht]))
   | exit i=>cases ex<;>simp only[iT]at hex;exact g (.exit i) (.exit _) bw H' G' f R hex A D z E J m (u.mono λt ht=>by simp[fb,ht])
   | ret=>cases ex<;>simp only[iT]at hex;exact g .ret .ret bw H' G' f R trivial A D z E J m (u.mono λt ht=>by simp[fb,ht])
  |_=>simp[eO]at d
 | join vs ks x y av aw=>
  intro c env H G w a K Q d h n o he r g;cases c with
  | seq p q=>
   simp only[eO,ZL]at d;obtain⟨⟨ax,ay⟩,ar⟩:=d;refine wp_seq ?_;refine av p env H G w a _ _ ax h n o he r ?_;intro B ex bw H' G' f R hex A D z E J m u;cases B with
   | normal=>cases ex<;>simp only[iT]at hex;have aH:=uc (he.mono m.toGLe) ar u.1 u.2 (gL bw vs) (ub E vs) (ud _ _);refine aw q _ H' G' R f K Q ay A D z aH J ?_;intro B ex Y ak Z a2 w2 hex ab ae af L ah ai aj;exact g B ex Y ak Z a2 w2 hex ab ae af L ah (m.trans ai) ((u.mono λt ht=>by simp[fb,ht]).trans (aj.mono λt ht=>by simp[fb,ht]))
   | exit i=>cases ex<;>simp only[iT]at hex;exact g (.exit i) (.exit _) bw H' G' f R hex A D z E J m (u.mono λt ht=>by simp[fb,ht])
   | ret=>cases ex<;>simp only[iT]at hex;exact g .ret .ret bw H' G' f R trivial A D z E J m (u.mono λt ht=>by simp[fb,ht])
  |_=>simp[eO]at d
 | cond x p q aI aJ=>
  intro c env H G w a K Q d h n o he r g;cases c with
  | cond c' aK aL=>
   simp only[eO,ZL]at d;obtain⟨⟨ax,ay⟩,aM⟩:=d;obtain⟨t,ht,h⟩:=zL h;have aC:=dE n.1 he ax;rw[ht]at aC;refine wp_cond (t:=t) aC.kS ?_;cases t with
   | true=>rw[aa rfl]at h ⊢;exact aI aK env H G w a K Q ay h n o he r λB ex bw H' G' f R U S T X am an ao ap=>g B ex bw H' G' f R U S T X am an ao (ap.mono λt ht=>by simp[fb,ht])
   | false=>rw[hZ]at h ⊢;exact aJ aL env H G w a K Q aM h n o he r λB ex bw H' G' f R U S T X am an ao ap=>g B ex bw H' G' f R U S T X am an ao (ap.mono λt ht=>by simp[fb,ht])
  |_=>simp[eO]at d
 | block id x aq=>
  intro c env H G w a K Q d h n o he r g;cases c with
  | block aY p=>
   simp only[eO,ZL,cq]at d;obtain⟨rfl,hc⟩:=d;refine wp_block ?_;refine aq p env H G w a _ _ hc h n o he r ?_;intro B ex bw H' G' f R hex A D z E J m u;cases B with
   | normal=>cases ex<;>simp only[iT]at hex;exact g .normal .normal bw H' G' f R trivial A D z E J m u
   | exit i=>
    cases ex with
    | exit j=>
     simp only[iT]at hex;subst hex;dsimp only at A;simp only[Exit.inBlock];split
     . rename_i aA;rw[aa aA]at A;exact g .normal .normal bw H' G' f R trivial A D z E J m u
     . rename_i aA;rw[ad aA]at A;exact g (.exit i) (.exit i) bw H' G' f R rfl A D z E J m u
    |_=>simp only[iT]at hex
   | ret=>cases ex<;>simp only[iT]at hex;exact g .ret .ret bw H' G' f R trivial A D z E J m u
  |_=>simp[eO]at d
 | loop vs ks x aq=>
  intro c env H G w a K Q d h n o he r g;cases c with
  | loop p=>
   simp only[eO,ZL]at d;obtain⟨hc,ar⟩:=d;let aN:List I×O->Prop:=λs=>∀G' R f,fa C R G' s.2->Rel C.F R G' s.2->bG C.F R G' (jK (hL env ks) vs s.1) f.tmps->f.defers=[]->Step w G H R G' s.2->eH (fb x) a f ->
    ∀(b:Frame)(k:List Item)(cs:List Frame),∃e a2 w2,Q e a2 w2/\Arrives C.P (lone (b.at f (.code p :: .inLoop p::k)) cs R) b k cs e a2 w2
   have aO:=h aN λs K' aP aR=>by
    intro G' R f D z E J m u b k cs;have aS:p.wp C.P (λex a2 w2=>match ex with
        | .normal=>∀(b:Frame)(k:List Item)(cs:List Frame),∃e a3 w3,Q e a3 w3/\Arrives C.P (lone (b.at a2 (.code p :: .inLoop p::k)) cs w2) b k cs e a3 w3
        |e=>Q e a2 w2) f R:=by
      refine aq p _ _ G' R f _ _ hc aP D z E J ?_;intro B ex Y ak Z a2 w2 hex ab ae af L ah ai aj;cases B with
      | normal=>cases ex<;>simp only[iT]at hex;have aB:=u.trans aj;have aD:=m.trans ai;exact aR _ ab Z w2 a2 ae af (uc (he.mono aD.toGLe) ar aB.1 aB.2 (gL Y vs) (ub L vs) (ud _ _)) ah aD aB
      | exit i=>
       cases ex with
       |exit j=>exact g (.exit i) (.exit j) Y ak Z a2 w2 hex ab ae af L ah (m.trans ai) (u.trans aj)
       |_=>simp only[iT]at hex
      | ret=>
       cases ex with
       |ret=>exact g .ret .ret Y ak Z a2 w2 hex ab ae af L ah (m.trans ai) (u.trans aj)
       |_=>simp only[iT]at hex
    obtain⟨e,W,w1,M,N⟩:=aS b (.inLoop p::k) cs;cases e with
    | normal=>obtain⟨aT,a2,w2,aU,aV⟩:=M b k cs;exact⟨aT,a2,w2,aU,.of_steps (Steps.trans N (.one step_inLoop)) aV⟩
    |exit id=>exact⟨_,W,w1,M,.pass (x:= .inLoop p) rfl (λ_ _=> .inl (by simp)) N⟩
    |goto l=>exact⟨_,W,w1,M,.pass (x:= .inLoop p) rfl (λ_ _=> .inl (by simp)) N⟩
    |ret=>exact⟨_,W,w1,M,.pass (x:= .inLoop p) rfl (λ_ _=> .inl (by simp)) N⟩
    |panic aZ=>exact⟨_,W,w1,M,.pass (x:= .inLoop p) rfl (λ_ _=> .inl (by simp)) N⟩
    |outgrown=>exact⟨_,W,w1,M,.pass (x:= .inLoop p) rfl (λ_ _=> .inl (by simp)) N⟩
   intro b k cs;have aW:=aO G w a n o (uc he ar rfl (λ_ _=>rfl) (gL env vs) (ub he vs) (ud _ _)) r (Step.refl _ _ _) (eH.refl _ _) b k cs;obtain⟨e,f,R,M,N⟩:=aW;exact⟨e,f,R,M,.of_steps (.one step_loop) N⟩
  |_=>simp[eO]at d
 | exit id=>intro c env H G w a K Q d h n o he r g;cases c<;>simp[eO]at d;subst d;exact wp_exit (g (.exit _) (.exit _) env H G a w rfl h n o he r (Step.refl _ _ _) (eH.refl _ _))
 | ret=>intro c env H G w a K Q d h n o he r g;cases c<;>simp[eO]at d;exact wp_ret (g .ret .ret env H G a w trivial h n o he r (Step.refl _ _ _) (eH.refl _ _))
 | freeze t x aq=>
  intro c env H G w a K Q d h n o he r g;have aX:eO C c x=abZ:=by cases c<;>simpa[eO]using d
  obtain⟨v,H',hv,h⟩:=h;obtain⟨G',z,m,aE⟩:=Pf o hv (tI he);have L:bG C.F w G' (env.set t v) a.tmps:=by
   refine⟨by simp[he.1],λj c V hc aF=>?_⟩;by_cases aG:t=j
   . subst aG;rw[Z7]at hc;simp only[aQ]at hc;split at hc
     . cases hc;rw[aaS,aF]at aE;exact aE
     ·cases hc
   . rw[aay aG]at hc;exact(he.2 j c V hc aF).mono m.toGLe
  exact aq c _ H' G' w a K Q aX h (n.step m) z L r λB ex bw H' G' f R U S T X am an ao ap=>g B ex bw H' G' f R U S T X am an (m.trans ao) (ap.mono λt ht=>by simp[fb,ht])
def kZ(P:Program):List ResultVar->List lG->Bool
 |[],[]=>abZ
 | .tmp t::r,.tmp a::s=>t==a&&kZ P r s
 | .cell t ty::r,.cell a n agg::s=>t==a&&jl P ty n agg&&kZ P r s
 |_,_=>ab0
def pn(C:Ctx)(f:FuncId)(a:bn):Bool:=
 match C.P.funcs[f]? with
 |some fn=>fn.ntmps==a.ntmps&&kZ C.P fn.results.toList a.results&&(match fn.body with|some c=>eO C c a.body|none=>ab0)
 |none=>ab0
def ue(b:Array Value):ResultVar->Sem Value
 | .tmp t=>pure (b.getD t undef)
 | .cell a t=>do loadVar t (<-asAddr (b.getD a undef))
theorem Pm(a:Func)(b:Array Value):results a b=(do
    let vs <-a.results.mapM (ue b)
    pure (if h:vs.size=1 then vs[0]else .tuple vs)):=by
  unfold results;congr 1
theorem Pn(u:Rel C.F w G H)(q:bG C.F w G env a.tmps):∀(rs:List ResultVar)(b:List lG)(K:List I->Prop),kZ C.P rs b=abZ->mA env H b K ->
  ∃vs Vs,K vs/\bG C.F w G vs (List.toArray Vs)/\(rs.mapM (ue a.tmps)).run C.P w = .ok Vs w:=by
 intro rs;induction rs with
 | nil=>intro b K hc h;cases b<;>simp[kZ]at hc;exact⟨[],[],h,bG.nil,rfl⟩
 | cons r rs s=>
  intro b K hc h;have cons:∀{v:I}{V:Value}{vs:List I}{Vs:List Value},VR C.F w G v V->bG C.F w G vs Vs.toArray->bG C.F w G (v::vs) (V::Vs).toArray:=by
   intro v V vs Vs hv e;refine bG.nV (by have:=e.1;simp at this ⊢;exact this) λj c x g i=>?_;cases j with
   |zero=>simp at g i;subst g;subst i;exact hv
   |succ j=>exact e.2 j c x (by simpa using g) (by simpa using i)
  cases r with
  | tmp t=>
   cases b with
   |nil=>simp[kZ]at hc
   | cons k b=>
    cases k with
    | tmp y=>simp only[kZ,ZL,cq]at hc;obtain⟨rfl,hc⟩:=hc;obtain⟨vs,Vs,l,e,m⟩:=s b _ hc h;refine⟨_,_::Vs,l,cons (tI q) e,?_⟩;rw[abn];simp only[ue,aa6,abd,aa7,m]
    |cell _ _ _=>simp[kZ]at hc
  | cell t ty=>
   cases b with
   |nil=>simp[kZ]at hc
   | cons k b=>
    cases k with
    |tmp _=>simp[kZ]at hc
    | cell y n agg=>
     simp only[kZ,ZL,cq]at hc;obtain⟨⟨rfl,z⟩,hc⟩:=hc;obtain⟨v,hv,h⟩:=h;obtain⟨vs,Vs,l,e,m⟩:=s b _ hc h;have d:=tI (t:=t) q;obtain⟨V,f,A⟩:=Ew (P:=C.P) z u hv d;refine⟨_,V::Vs,l,cons A e,?_⟩;have B:(do loadVar ty (<-asAddr (a.tmps.getD t undef)):Sem Value).run C.P w = .ok V w:=by
      unfold af at hv;split at hv
      . rename_i id o p;rw[p]at d;generalize a.tmps.getD t undef=X at d f;cases d;simpa[aaw,Z3,asAddr]using f
      . rename_i cs p;rw[p]at d;generalize a.tmps.getD t undef=X at d f;cases d;simpa[aaw,Z3,asAddr]using f
      ·cases hv
     rw[abn];have D:(ue a.tmps (.cell t ty)).run C.P w = .ok V w:=B;simp only[aa6,D,aa7,m,abd]
theorem E3(u:kW C){f:FuncId}{a:bn}(d:pn C f a=abZ){g:List I}{Q:ab}(h:qI (ag C) a g H Q)(x:fa C w G H)(y:Rel C.F w G H)(q:bG C.F w G g Vs) :
  Calls C.P f Vs w λe R=>∃V v H' G',e = .returned V/\Q v H'/\VR C.F R G' v V/\Rel C.F R G' H'/\Step w G H R G' H':=by
 unfold pn at d;split at d
 . rename_i fn z;simp only[ZL,cq]at d;obtain⟨⟨hn,A⟩,l⟩:=d;split at l
   . rename_i c B;refine calls_of_wp z B ?_;have he:bG C.F w G (g++Gd (a.ntmps-g.length) .bot) (Vs++abV (fn.ntmps-Vs.size) undef):=by
      refine q.app ⟨by simp[q.1,hn],λj c V hc S=>?_⟩;rw[List.getElem?_replicate]at hc;split at hc
      ·cases hc;exact .bot _
      ·cases hc
     refine Pl u a.body c _ H G w ⟨_,[]⟩ _ _ l h x y he rfl ?_;intro D ex bw H' G' r R hex m T s E J K W;have fin:mA bw H' a.results (λvs=>Q (o0 vs) H')->r.defers=[]/\∃v,(results fn r.tmps).run C.P R = .ok v R/\∃V t n o,(Ending.returned v) = .returned V/\Q t n/\VR C.F R o t V/\Rel C.F R o n/\Step w G H R o n:=by
      intro L;obtain⟨vs,b,M,k,N⟩:=Pn s E fn.results.toList a.results _ A L;refine⟨J,if h:b.toArray.size=1 then b.toArray[0]else .tuple b.toArray,?_,_,_,_,_,rfl,M,?_,s,K⟩
      . rw[Pm];have he:fn.results=fn.results.toList.toArray:=by simp
        rw[he,abp];simp only[aa6,abq,N,aa7,abd]
      . split
        . rename_i U;have hl:b.length=1:=by simpa using U
          have p:vs.length=1:=by have:=k.1;simp at this;omega
          match vs,b,p,hl with
          |[v],[V],_,_=>simpa[o0]using k.2 0 v V rfl rfl
        . rename_i U;have hl:b.length≠1:=by simpa using U
          have p:vs.length≠1:=by have:=k.1;simp at this;omega
          have O:o0 vs = .aH vs:=by
           match vs,p with
           |[],_=>rfl
           |_::_::_,_=>rfl
          rw[O];exact k.aH
     cases D with
     |normal=>cases ex<;>simp only[iT]at hex;exact fin m
     |exit i=>exact m.elim
     |ret=>cases ex<;>simp only[iT]at hex;exact fin m
   ·cases l
 ·cases d
end
end Rb
namespace Rb
open Go
abbrev k0:=List (Nat×bn)
def k0.get(T:k0)(k:Nat):Option bn:=T.lookup k
def E4(Φ:Z)(T:k0):Prop:=∀k f,T.get k=ab1 f->∀args H Q,qI Φ f args H Q->Φ k args H Q
def k1(C:Ctx):k0->Bool
 |[]=>abZ
 |(k,f)::T=>(match C.F k with|some fp=>pn C fp f|none=>abZ)&&k1 C T
theorem Po{T:k0}{k:Nat}{f:bn}(h:T.lookup k=ab1 f):(k,f)∈T:=by
 induction T with
 |nil=>cases h
 | cons p T a=>
  obtain⟨b,d⟩:=p;rw[List.lookup_cons]at h;split at h
  . rename_i hk;have c:k=b:=by simpa using hk
    cases h;rw[c];exact abK
  ·exact abH _ (a h)
theorem Pp{C:Ctx}:∀{T:k0},k1 C T=abZ->∀k f,(k,f)∈T->∀fp,C.F k=ab1 fp->pn C fp f=abZ:=by
 intro T;induction T with
 |nil=>intro _ k f h;cases h
 | cons p T a=>
  obtain⟨b,c⟩:=p;intro h k f hm fp hf;simp only[k1,ZL]at h;rcases abG.1 hm with he|hm
  . cases he;have:=h.1;rw[hf]at this;exact this
  ·exact a h.2 k f hm fp hf
theorem Pq{C:Ctx}(a:kW C){T:k0}(h:k1 C T=abZ):E4 (ag C) T:=by intro k f hk args H Q hs;refine⟨El (ED C) hs,λfp b G w Vs c d e=>?_⟩;exact E3 a (Pp h k f (Po hk) fp b) hs c d e
mutual
def I.same:I->I->Bool
 | .bool a,.bool b=>a==b
 | .int k a,.int f b=>k==f&&a==b
 | .str a,.str b=>a==b
 | .ga,.ga=>abZ
 | .ptr i o,.ptr g h=>i==g&&o==h
 | .ak cs,.ak e=>I.hr cs e
 | .aj tk len cs,.aj j l e=>tk==j&&len==l&&I.hr cs e
 | .row a b c d,.row m n c' p=>a==m&&b==n&&c==c'&&d==p
 | .fn k cs,.fn f e=>k==f&&I.hr cs e
 | .ic,.ic=>abZ
 | .iface t v,.iface q s=>t==q&&I.same v s
 | .ie,.ie=>abZ
 | .agg cs,.agg e=>I.hr cs e
 | .aH cs,.aH e=>I.hr cs e
 | .bot,.bot=>abZ
 |_,_=>ab0
def I.hr:List I->List I->Bool
 |[],[]=>abZ
 |c::r,d::t=>I.same c d&&I.hr r t
 |_,_=>ab0
end
mutual
theorem I.uf:(x y:I)->I.same x y=abZ->x=y
 | .bool a,.bool b,h=>by simp[I.same]at h;rw[h]
 | .int k a,.int f b,h=>by simp[I.same]at h;rw[h.1,h.2]
 | .str a,.str b,h=>by simp[I.same]at h;rw[h]
 | .ga,.ga,h=>rfl
 | .ptr i o,.ptr j l,h=>by simp[I.same]at h;rw[h.1,h.2]
 | .ak cs,.ak e,h=>by simp only[I.same]at h;rw[I.n9 cs e h]
 | .aj tk len cs,.aj m n e,h=>by simp only[I.same,ZL,cq]at h;rw[h.1.1,h.1.2,I.n9 cs e h.2]
 | .row a b c d,.row p q c' s,h=>by simp[I.same]at h;rw[h.1.1.1,h.1.1.2,h.1.2,h.2]
 | .fn k cs,.fn f e,h=>by simp only[I.same,ZL,cq]at h;rw[h.1,I.n9 cs e h.2]
 | .ic,.ic,h=>rfl
 | .iface t v,.iface u g,h=>by simp only[I.same,ZL,cq]at h;rw[h.1,I.uf v g h.2]
 | .ie,.ie,h=>rfl
 | .agg cs,.agg e,h=>by simp only[I.same]at h;rw[I.n9 cs e h]
 | .aH cs,.aH e,h=>by simp only[I.same]at h;rw[I.n9 cs e h]
 | .bot,.bot,h=>rfl
theorem I.n9:(xs ys:List I)->I.hr xs ys=abZ->xs=ys
 |[],[],h=>rfl
 | c::r,d::t,h=>by simp only[I.hr,ZL]at h;rw[I.uf c d h.1,I.n9 r t h.2]
end
end Rb
