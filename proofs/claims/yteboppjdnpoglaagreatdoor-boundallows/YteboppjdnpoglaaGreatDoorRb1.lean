/- A part of the proof (part 1): see the last text. -/
import Derived.Tactics2
import Derived.Laws.AppendOwn
import Derived.LoopN
import Derived.Laws.Strings
import Derived.Lib.Strings
import Derived.Laws.IdiomStrings
import Derived.WideLaws
import Derived.Laws.StructEq
import Derived.LaidEql
import Derived.Orders
set_option linter.unusedVariables false
set_option linter.unusedSimpArgs false
open Array renaming ext'→acb, getD_eq_getD_getElem?→abz, getElem?_append→aaM, getElem?_eq_getElem→aam, getElem?_eq_some_iff→aa5, getElem?_extract→aap, getElem?_setIfInBounds_ne→acA, getElem?_setIfInBounds→aaO, range→abl, replicate→acE, size_setIfInBounds→acz
open BitVec renaming ofInt→AV
open Bool renaming and_eq_true→aar, eq_false_iff→acC, eq_iff_iff→acm, false_eq_true→abW, false_or→acq, not_eq_true'→ab_, or_eq_false_iff→acr, or_eq_true→aas
open ByteArray renaming emptyWithCapacity→abK, empty→abJ, ext→aaw, getElem_eq_getElem_data→aaG, mk→aau, push→abH, size→aav
open Classical renaming not_not→abC
open Go renaming sizeOf→aaq
open Go.Act renaming put→acw
open Go.Addr renaming add_lit→abx
open Go.Builtin renaming append_→abv, clear_→ab6, copy_→ab5, firstCells→abB, lenOf→abw, len_→aaZ, max2→aa0, min2→aa1, zeroCells→abA
open Go.Calls renaming mono→ace
open Go.Deferred renaming ofValue→acd
open Go.Edge renaming on→acv
open Go.Instr renaming alloc→abm, box→abk, buildSlice→abp, build→ab9, extract→aaK, fieldAt→aaI, field→aaE, fill→aaX, indexAt→aaP, index→aaF, loadAt→abc, makeInterface→aca, makeSlice→abq, next→abM, range→abL, sliceAt→aaS, sliceBounds→aaR, sliceBound→aaQ, slice→aaT, storeAt→abj, sureAddr→aaJ
open Go.IntKind renaming bits→aaz, i64→abt, signed→aay, wrap→abu
open Go.Op renaming bytesLess→Gd, eqFields→ab2, equalIn→aaA, equal→aaB, intDiv→aat, stringOp→aax
open Go.Oper renaming wp→ab8
open Go.Region renaming binds→acu, ready→acG, wanted→acx
open Go.Region.Mode renaming any→acD
open Go.Result renaming andThen_ok→abO, andThen→abX
open Go.Sem renaming run_bind→abN, run_pure→abV
open Go.Utf8 renaming decode→aak
open Go.World renaming block_lt_of_cell?→aa4, cell?_of_block→aa3, setRow→aa9
open Iff renaming rfl→ach
open Int renaming eq_ofNat_of_zero_le→abr
open List renaming all_eq_true→abh, any_eq_true→acj, cons_append→abZ, countP_cons→acy, flatten_cons→abo, foldl_cons→aaW, getD_eq_getElem?_getD→abD, getElem?_append_left→ab0, getElem?_append_right→ab1, getElem?_append→aaL, getElem?_drop→aao, getElem?_eq_getElem→abb, getElem?_eq_none→acg, getElem?_eq_some_iff→aal, getElem?_map→aba, getElem?_set_ne→abe, getElem?_set_self→abd, getElem?_set→aaN, getElem?_take_of_lt→ab4, getElem?_take→aan, getElem?_toArray→abf, getElem_mem→abi, length_eq_zero_iff→abF, length_map→abI, length_set→acn, map_cons→abG, mem_append→acf, mem_cons_of_mem→acp, mem_cons_self→acs, mem_cons→aco, mem_filter→acB, mem_iff_getElem→abg, mem_map→acF, mem_range→ack, range'→abQ, range_eq_range'→abU, range→aa_, replicate_succ→abn, replicate→KT, set_eq_of_length_le→acH, take_left→abY
open Nat renaming add_assoc→aaH, add_mul→aaV, add_zero→aaY, le_of_eq→aa7, le_of_not_lt→aci, le_refl→hb, le_succ→aa2, le_trans→sl, lt_of_lt_of_le→xl, lt_or_ge→AH, mul_le_mul_right→aby, ne_of_lt→aa6, succ_mul→ab3, zero_add→aa8, zero_le→aaU
open Option renaming getD_some→abE, map_some→aaD, some→aaC
open Prod renaming mk→ab7
open Std.Legacy.Range renaming forIn_eq_forIn_range'→abP, size→abS, start→abR, step→abT
open UInt8 renaming ofNat→aaj
open Bool renaming false→acJ, true→acI
open Option renaming none→acL, some→acK
namespace Rb
universe u
variable{c:Prop}{d:Decidable c}{α:Sort u}{t e:α}
theorem cw(h:¬c:=by decide):@ite α c d t e=e:=if_neg h
theorem jD(h:c:=by decide):@ite α c d t e=t:=if_pos h
theorem bL(h:¬c:=by omega):@ite α c d t e=e:=if_neg h
theorem dN(h:c:=by omega):@ite α c d t e=t:=if_pos h
theorem cM(h:c:=by simp only[decide_eq_true_eq];omega):@ite α c d t e=t:=if_pos h
theorem cQ(h:¬c:=by simp only[decide_eq_true_eq];omega):@ite α c d t e=e:=if_neg h
theorem ka(h:¬c:=by simp):@ite α c d t e=e:=if_neg h
theorem lu(h:c:=by simp):@ite α c d t e=t:=if_pos h
theorem Ee(h:¬c:=by simp;omega):@ite α c d t e=e:=if_neg h
theorem oQ(h:c:=by simp;omega):@ite α c d t e=t:=if_pos h
theorem af{c:Prop}{d:Decidable c}(h:¬c){α:Sort u}{t e:α}:@ite α c d t e=e:=if_neg h
theorem ab{c:Prop}{d:Decidable c}(h:c){α:Sort u}{t e:α}:@ite α c d t e=t:=if_pos h
theorem fj(i:Nat):((i:Int)+1)=((i+1:Nat):Int):=by simp
theorem dJ{p:Prop}[d:Decidable p]:(decide p=acI)=p:=decide_eq_true_eq
theorem bc{α:Sort u}{x:Decidable True}(t e:α):ite True t e=t:=if_true t e
theorem b4{α:Sort u}{x:Decidable False}(t e:α):ite False t e=e:=if_false t e
theorem bZ{α:Type u}[BEq α][LawfulBEq α]{a b:α}:a==b↔a=b:=beq_iff_eq
end Rb
namespace Rb
open Go
variable{w w' w1 w2 w3:World}
inductive Tok where
 |nil|full|own (t:Nat)|dead
 deriving DecidableEq
inductive I where
 |bool (b:Bool)
 |int (k:IntKind) (n:Int)
 |str (s:List UInt8)
 |h5
 |ptr (id off:Nat)
 |ae (cells:List I)
 |aq (tk:Tok) (len:Nat) (cells:List I)
 |row (id off len sz:Nat)
 |fn (key:Nat) (cd:List I)
 |h6
 |iface (t:TypeId) (v:I)
 |h7
 |agg (cs:List I)
 |aA (vs:List I)
 |bot
 deriving Inhabited
def I.cells:I->List I
 | .agg cs=>cs
 |v=>[v]
def iC(key:Nat):Option Nat:=cond (Nat.ble 1048576 key) (acK (key-1048576)) acL
def I.scalar:I->Bool
 | .agg _ | .aA _ | .bot=>acJ
 |_=>acI
inductive cx where
 |row (cs:List I)
 |tok (n sz:Nat)
 |hr (s:List UInt8) (pos:Nat)
 |gone
def cx.live:cx->Bool
 | .gone=>acJ
 |_=>acI
structure Z where
 n:Nat
 o:Nat->cx
def Z.set(H:Z)(i:Nat)(x:cx):Z:={H with o:=λj=>if j=i then x else H.o j}
def Z.push(H:Z)(x:cx):Z:={n:=H.n+1,o:=λj=>if j=H.n then x else H.o j}
structure aW where
 n:Nat
 loc:Nat->Nat
 cap:Nat->Nat
 fz:Nat->Nat->Prop
def td(G:aW)(b o len cap:Nat):Tok->Prop
 | .nil=>False
 | .full=>cap=len
 | .own t=>t<G.n/\G.loc t=b/\o=0/\G.cap t=cap
 | .dead=>True
abbrev dE:=Nat->Option FuncId
inductive VR(F:dE)(w:World)(G:aW):I->Value->Prop where
 |bot (V:Value):VR F w G .bot V
 |bool (b:Bool):VR F w G (.bool b) (.bool b)
 |int (k:IntKind) (n:Int):VR F w G (.int k n) (.int k n)
 |str (s:List UInt8):VR F w G (.str s) (.string ⟨s.toArray⟩)
 |h5:VR F w G .h5 (.pointer acL)
 |ptr (id off:Nat) (h:id<G.n):VR F w G (.ptr id off) (.pointer (acK ⟨G.loc id,off,acL⟩))
 | ae (cells:List I) (b o:Nat) (Vs:Nat->Value)
   (h:∀(j:Nat)(c:I),cells[j]?=acK c->G.fz b (o+j)/\w.cell? ⟨b,o+j,acL⟩=acK (Vs j))
   (hv:∀(j:Nat)(c:I),cells[j]?=acK c->VR F w G c (Vs j)):VR F w G (.ae cells) (.pointer (acK ⟨b,o,acL⟩))
 |gX:VR F w G (.aq .nil 0 []) (.slice acL 0 0)
 |gg (a:Option Addr) (cap:Nat):VR F w G (.aq .dead 0 []) (.slice a 0 cap)
 | aq (tk:Tok) (len:Nat) (cells:List I) (b o cap:Nat) (Vs:Nat->Value) (ht:td G b o len cap tk) (hle:len<=cap)
   (h:∀(j:Nat)(c:I),cells[j]?=acK c->G.fz b (o+j)/\w.cell? ⟨b,o+j,acL⟩=acK (Vs j))
   (hv:∀(j:Nat)(c:I),cells[j]?=acK c->VR F w G c (Vs j)):VR F w G (.aq tk len cells) (.slice (acK ⟨b,o,acL⟩) len cap)
 |row (id off len sz cap:Nat) (h:id<G.n) (hle:len<=cap) (hc:off+cap*sz=G.cap id):VR F w G (.row id off len sz) (.slice (acK ⟨G.loc id,off,acL⟩) len cap)
 | fn (key:Nat) (cd:List I) (f:FuncId) (Vs:Array Value) (hk:iC key=acL) (hf:F key=acK f) (hl:cd.length=Vs.size)
   (hv:∀(j:Nat)(c:I)(V:Value),cd[j]?=acK c->Vs[j]?=acK V->VR F w G c V):VR F w G (.fn key cd) (.func (.func f) #[] Vs)
 |h6:VR F w G .h6 .nilFunc
 |iface (t:TypeId) (v:I) (V:Value) (h:VR F w G v V):VR F w G (.iface t v) (.iface t V)
 |h7:VR F w G .h7 .nilIface
 | agg (cs:List I) (Vs:Array Value) (hl:cs.length=Vs.size)
   (hv:∀(j:Nat)(c:I)(V:Value),cs[j]?=acK c->Vs[j]?=acK V->VR F w G c V):VR F w G (.agg cs) (.agg Vs)
 | aA (cs:List I) (Vs:Array Value) (hl:cs.length=Vs.size)
   (hv:∀(j:Nat)(c:I)(V:Value),cs[j]?=acK c->Vs[j]?=acK V->VR F w G c V):VR F w G (.aA cs) (.tuple Vs)
structure GLe(w:World)(G:aW)(w':World)(G':aW):Prop where
 n:G.n<=G'.n
 loc:∀i,i<G.n->G'.loc i=G.loc i
 cap:∀i,i<G.n->G'.cap i=G.cap i
 fz:∀b o,G.fz b o->G'.fz b o
 cell:∀b o V,G.fz b o->w.cell? ⟨b,o,acL⟩=acK V->w'.cell? ⟨b,o,acL⟩=acK V
theorem GLe.refl(w:World)(G:aW):GLe w G w G:=⟨hb _,λ_ _=>rfl,λ_ _=>rfl,λ_ _ h=>h,λ_ _ _ _ h=>h⟩
theorem GLe.trans{a c d:aW}(h:GLe w1 a w2 c)(k:GLe w2 c w3 d):GLe w1 a w3 d:=
 ⟨sl h.n k.n,λi hi=>(k.loc i (xl hi h.n)).trans (h.loc i hi),
   λi hi=>(k.cap i (xl hi h.n)).trans (h.cap i hi),
   λb o U=>k.fz b o (h.fz b o U),λb o V U hc=>k.cell b o V (h.fz b o U) (h.cell b o V U hc)⟩
theorem td.mono{G G':aW}(a:GLe w G w' G'){b o len cap:Nat}{tk:Tok}(h:td G b o len cap tk):td G' b o len cap tk:=by
 cases tk with
 |nil=>exact h
 |full=>exact h
 |dead=>exact h
 | own t=>obtain⟨h1,c,d,e⟩:=h;exact⟨xl h1 a.n,(a.loc t h1).trans c,d,(a.cap t h1).trans e⟩
theorem VR.mono{F:dE}{G G':aW}(e:GLe w G w' G'){c:I}{V:Value}(h:VR F w G c V):VR F w' G' c V:=by
 induction h with
 |bot V=>exact .bot V
 |bool b=>exact .bool b
 |int k n=>exact .int k n
 |str s=>exact .str s
 |h5=>exact .h5
 |ptr id off h=>rw[<-e.loc id h];exact .ptr id off (xl h e.n)
 |ae cells b o Vs h _ d=>exact .ae cells b o Vs (λj c g=>⟨e.fz _ _ (h j c g).1,e.cell _ _ _ (h j c g).1 (h j c g).2⟩) d
 |gX=>exact .gX
 |gg a cap=>exact .gg a cap
 |aq tk len cells b o cap Vs ht hle h _ d=>exact .aq tk len cells b o cap Vs (ht.mono e) hle (λj c g=>⟨e.fz _ _ (h j c g).1,e.cell _ _ _ (h j c g).1 (h j c g).2⟩) d
 | row id off len sz cap h hle hc=>rw[<-e.loc id h];exact .row id off len sz cap (xl h e.n) hle (by rw[e.cap id h];exact hc)
 |fn key cd f Vs hk hf hl _ d=>exact .fn key cd f Vs hk hf hl d
 |h6=>exact .h6
 |iface t v V _ d=>exact .iface t v V d
 |h7=>exact .h7
 |agg cs Vs hl _ d=>exact .agg cs Vs hl d
 |aA cs Vs hl _ d=>exact .aA cs Vs hl d
def gy(F:dE)(w:World)(G:aW)(i:Nat):cx->Prop
 | .row cs=>∃C e,w.heap[G.loc i]?=acK (.cells C e (0,0))/\C.size=G.cap i/\(∀j,¬G.fz (G.loc i) j) /\
   ∀(j:Nat)(c:I),cs[j]?=acK c->∃V,C[j]?=acK V/\VR F w G c V
 | .tok k sz=>∃C e,w.heap[G.loc i]?=acK (.cells C e (0,0))/\C.size=G.cap i*sz/\k<=C.size/\(∀j,k<=j->¬G.fz (G.loc i) j)
 | .hr s pos=>w.heap[G.loc i]?=acK (.stringIter ⟨s.toArray⟩ pos)/\∀j,¬G.fz (G.loc i) j
 | .gone=>True
structure Rel(F:dE)(w:World)(G:aW)(H:Z):Prop where
 n:G.n=H.n
 over:∀i,H.n<=i->H.o i = .gone
 obj:∀i,gy F w G i (H.o i)
 gz:∀i j,i≠j->(H.o i).live=acI->(H.o j).live=acI->G.loc i≠G.loc j
 e_:∀b o,G.fz b o->∃V,w.cell? ⟨b,o,acL⟩=acK V
structure Step(w:World)(G:aW)(H:Z)(w':World)(G':aW)(H':Z):Prop extends GLe w G w' G' where
 size:w.heap.size<=w'.heap.size
 os:w'.os=w.os
 tape:w'.tape=w.tape
 output:w'.output=w.output
 dr:w.drawn<=w'.drawn
 d_:∀k,k<w.heap.size->(∀i,(H.o i).live=acI->G.loc i≠k)->w'.heap[k]?=w.heap[k]?
 owned:∀i,(H'.o i).live=acI->G'.loc i<w.heap.size->∃j,(H.o j).live=acI/\G.loc j=G'.loc i
 ff:∀b o,G'.fz b o->G.fz b o\/w.heap.size<=b\/∃i,(H.o i).live=acI/\G.loc i=b
theorem Step.refl(w:World)(G:aW)(H:Z):Step w G H w G H:={GLe.refl w G with size:=hb _,os:=rfl,tape:=rfl,output:=rfl,dr:=hb _,d_:=λ_ _ _=>rfl,owned:=λi h _=>⟨i,h,rfl⟩,ff:=λ_ _ h=> .inl h}
theorem Step.trans{c d f:aW}{g H2 l:Z}(h:Step w1 c g w2 d H2)(k:Step w2 d H2 w3 f l):Step w1 c g w3 f l:=
 { h.toGLe.trans k.toGLe with
   size:=sl h.size k.size
   os:=k.os.trans h.os
   tape:=k.tape.trans h.tape
   output:=k.output.trans h.output
   dr:=sl h.dr k.dr
   d_:=λb U hn=>by rw[k.d_ b (xl U h.size) λi hi he=>?_,h.d_ b U hn];subst he;obtain⟨j,a,e⟩:=h.owned i hi U;exact hn j a e
   owned:=λi hi U=>by obtain⟨j,a,e⟩:=k.owned i hi (xl U h.size);rw[<-e]at U ⊢;exact h.owned j a U
   ff :=λb o hf=>by
    rcases k.ff b o hf with hf|U|⟨i,hi,e⟩
    ·exact h.ff b o hf
    ·exact .inr (.inl (sl h.size U))
    . rcases AH b w1.heap.size with U|U
      . obtain⟨j,a,m⟩:=h.owned i hi (by rw[e];exact U);exact .inr (.inr ⟨j,a,m.trans e⟩)
      ·exact .inr (.inl U)}
def be(F:dE)(w:World)(G:aW)(cs:List I)(Vs:Array Value):Prop:=cs.length=Vs.size/\∀(j:Nat)(c:I)(V:Value),cs[j]?=acK c->Vs[j]?=acK V->VR F w G c V
theorem be.mono{F:dE}{G G':aW}(a:GLe w G w' G'){cs:List I}{Vs:Array Value}(h:be F w G cs Vs):be F w' G' cs Vs:=⟨h.1,λj c V hc b=>(h.2 j c V hc b).mono a⟩
abbrev D(z:Int):I:= .int .i64 z
abbrev J:I:= .int .i64 0
abbrev cY(z:Int):I:= .int .u64 z
abbrev P:I:= .bool acJ
abbrev aT:I:= .bool acI
abbrev A:I:= .aq .nil 0 []
end Rb
namespace Rb
open Go
variable{want:Bool}{key:Nat}
def Do{α:Type}(x:Option α)(K:α->Prop):Prop:=∃a,x=acK a/\K a
def oK(op:BinOp)(k:IntKind)(a b:Int):Option Int:=
 let x:=AV k.bits a;let y:=AV k.bits b
 match op with
 | .and=>acK (k.wrap (x &&& y).toNat)
 | .or=>acK (k.wrap (x ||| y).toNat)
 | .xor=>acK (k.wrap (x ^^^ y).toNat)
 | .andNot=>acK (k.wrap (x &&& ~~~y).toNat)
 |_=>acL
def h8(op:BinOp)(k:IntKind)(a:Int)(k':IntKind)(b:Int):Option I:=
 match op with
 | .shl=>if b<0 then acL else acK (.int k (k.wrap (a*2^(min b.toNat k.bits))))
 | .shr=>if b<0 then acL else acK (.int k (a.fdiv (2^(min b.toNat k.bits))))
 | .add=>if k=k' then acK (.int k (k.wrap (a+b)))else acL
 | .sub=>if k=k' then acK (.int k (k.wrap (a-b)))else acL
 | .mul=>if k=k' then acK (.int k (k.wrap (a*b)))else acL
 | .quo=>if k=k'/\b≠0 then acK (.int k (k.wrap (a.tdiv b)))else acL
 | .rem=>if k=k'/\b≠0 then acK (.int k (a.tmod b))else acL
 | .eql=>if k=k' then acK (.bool (a==b))else acL
 | .neq=>if k=k' then acK (.bool (a != b))else acL
 | .lss=>if k=k' then acK (.bool (decide (a<b)))else acL
 | .leq=>if k=k' then acK (.bool (decide (a<=b)))else acL
 | .gtr=>if k=k' then acK (.bool (decide (a>b)))else acL
 | .geq=>if k=k' then acK (.bool (decide (a>=b)))else acL
 |op=>if k=k' then(oK op k a b).map (.int k)else acL
def DY(op:BinOp)(s t:List UInt8):Option I:=
 match op with
 | .add=>if s.length+t.length<=9223372036854775807 then acK (.str (s++t))else acL
 | .eql=>acK (.bool (s==t))
 | .neq=>acK (.bool !(s==t))
 | .lss=>acK (.bool (Gd s t))
 | .leq=>acK (.bool (Gd s t||s==t))
 | .gtr=>acK (.bool !(Gd s t||s==t))
 | .geq=>acK (.bool !(Gd s t))
 |_=>acL
inductive NK where
 |p|s|f|i
 deriving DecidableEq
def I.isNil:NK->I->Option Bool
 | .p,.h5=>acK acI
 | .p,.ptr _ _ | .p,.ae _=>acK acJ
 | .s,.aq .nil _ _=>acK acI
 | .s,.row _ _ _ _ | .s,.aq .full _ (_::_) | .s,.aq (.own _) _ _ | .s,.aq .dead (_+1) _=>acK acJ
 | .f,.h6=>acK acI
 | .f,.fn _ _=>acK acJ
 | .i,.h7=>acK acI
 | .i,.iface _ _=>acK acJ
 |_,_=>acL
inductive FK where
 |n|b|t
 deriving DecidableEq
def ep:List FK->List I->List I->Option Bool
 |[],[],[]=>acK acI
 | .n::ks,.int k a::r,.int k' b::t=>if k=k' then(ep ks r t).map (λx=>a==b&&x)else acL
 | .b::ks,.bool a::r,.bool b::t=>(ep ks r t).map (λx=>a==b&&x)
 | .t::ks,.str a::r,.str b::t=>(ep ks r t).map (λx=>a==b&&x)
 |_,_,_=>acL
def cH(op:BinOp)(x y:I):Option I:=
 match x,y with
 | .int k a,.int k' b=>h8 op k a k' b
 | .str s,.str t=>DY op s t
 |_,_=>acL
def kD(c:Bool)(x y:I):Option I:=
 match x,y with
 | .bool a,.bool b=>acK (.bool (if c then !(a==b)else a==b))
 |_,_=>acL
def nB(k:NK)(a:Bool)(x:I):Option I:=(x.isNil k).map λb=> .bool (if a then !b else b)
def kE(c:Bool)(ks:List FK)(x y:I):Option I:=
 match x,y with
 | .agg a,.agg b=>(ep ks a b).map λr=> .bool (if c then !r else r)
 |_,_=>acL
def cu(op:UnOp)(x:I):Option I:=
 match op,x with
 | .not,.bool b=>acK (.bool !b)
 | .neg,.int k n=>acK (.int k (k.wrap (0-n)))
 | .xor,.int k n=>(oK .xor k (if k.signed then -1 else k.max) n).map (.int k)
 |_,_=>acL
def fU(k:IntKind)(x:I):Option I:=
 match x with
 | .int _ n=>acK (.int k (k.wrap n))
 |_=>acL
def qm(x:I):Option I:=
 match x with
 | .str s=>acK (.str s)
 |_=>acL
def b8(x:I):Option I:=
 match x with
 | .ptr i o=>acK (.ptr i o)
 | .ae cs=>acK (.ae cs)
 | .fn k cs=>acK (.fn k cs)
 |_=>acL
def bO(cs:List I)(o n:Nat)(agg:Bool):Option I:=if o+n<=cs.length then(if agg then acK (.agg ((cs.drop o).take n))else cs[o]?)else acL
def kF(a sz:Nat)(agg:Bool)(x:I):Option I:=
 match x with
 | .agg cs=>bO cs a sz agg
 |_=>acL
def qn(len sz:Nat)(agg:Bool)(x i:I):Option I:=
 match x,i with
 | .agg cs,.int _ i=>if 0<=i/\i<len then bO cs (i.toNat*sz) sz agg else acL
 |_,_=>acL
def ju(x i:I):Option I:=
 match x,i with
 | .str s,.int _ i=>if 0<=i then(s[i.toNat]?).map λb=> .int .u8 b.toNat else acL
 |_,_=>acL
def aH(a:Nat)(x:I):Option I:=
 match x with
 | .ptr i o=>acK (.ptr i (o+a))
 | .ae cs=>acK (.ae (cs.drop a))
 |_=>acL
def aL(a:Option Nat)(sz:Nat)(x i:I):Option I:=
 match i with
 | .int _ i=>
  match a,x with
  |none,.aq _ len cells=>if 0<=i/\i<len then acK (.ae (cells.drop (i.toNat*sz)))else acL
  |none,.row id o len _=>if 0<=i/\i<len then acK (.ptr id (o+i.toNat*sz))else acL
  |some n,.ptr id o=>if 0<=i/\i<n then acK (.ptr id (o+i.toNat*sz))else acL
  |some n,.ae cells=>if 0<=i/\i<n then acK (.ae (cells.drop (i.toNat*sz)))else acL
  |_,_=>acL
 |_=>acL
def fg(x:Option I)(d:Nat):Option Nat:=
 match x with
 |none=>acK d
 |some (.int _ i)=>if 0<=i then acK i.toNat else acL
 |_=>acL
def qo(x:I)(lo hi:Option I):Option I:=
 match x with
 | .str s=>
  match fg hi s.length,fg lo 0 with
  |some h,acK l=>if l<=h/\h<=s.length then acK (.str ((s.take h).drop l))else acL
  |_,_=>acL
 |_=>acL
def eC(sz:Nat)(x:I)(lo hi mx:Option I):Option I:=
 match x with
 | .aq tk len cells=>
  match fg hi len,fg lo 0,mx.map λm=>fg (acK m) 0 with
  | some h,acK l,acL=>
   if l<=h/\h<=len/\cells.length=len*sz then
    if l=0/\h=len then acK (.aq tk len cells)
    else acK (.aq (if l=0 then(match tk with | .own t=> .own t|_=> .dead)else .dead) (h-l) ((cells.take (h*sz)).drop (l*sz)))
   else acL
  | some h,acK l,acK (acK m)=>
   if l=h/\h=m/\m<=len then(match tk with | .nil=>acK (.aq .nil 0 [])|_=>acK (.aq .dead 0 []))
   else if l<=h/\h<=m/\m<=len/\cells.length=len*sz/\tk ≠ .nil/\l<m then acK (.aq (if m=h then .full else .dead) (h-l) ((cells.take (h*sz)).drop (l*sz)))else acL
  |_,_,_=>acL
 | .row id o len a=>
  match fg hi len,fg lo 0,mx with
  | some h,acK l,acL=>if l<=h/\h<=len/\a=sz then(if l=0\/l<h then acK (.row id (o+l*sz) (h-l) sz)else acK (.aq .dead 0 []))else acL
  |_,_,_=>acL
 |_=>acL
def W(v:I)(want:Bool)(A B:Prop):Prop:=
 match v with
 | .bool b=>if b=want then A else B
 |_=>False
def aF(v:I)(want:Bool)(A B C:Prop):Prop:=
 match v with
 | .bool b=>if b=want then A else B
 | .aA []=>C
 |_=>False
def I.wanted(v:I)(want:Bool):Option Bool:=
 match v with
 | .bool b=>acK (b==want)
 | .aA []=>acK acJ
 |_=>acL
theorem I.zK{v:I}(h:v.wanted want=acK acI):v = .bool want:=by
 unfold I.wanted at h;split at h
 ·simp at h;rw[h]
 ·cases h
 ·cases h
theorem I.DZ{v:I}(h:v.wanted want=acK acJ):v = .bool (!want)\/v = .aA []:=by
 unfold I.wanted at h;split at h
 . rename_i b;left;cases b<;>cases want<;>simp_all
 ·exact .inr rfl
 ·cases h
@[simp] theorem I.Z3 (want:Bool):(I.bool want).wanted want=acK acI:=by simp[I.wanted]
@[simp] theorem I.Z4 (want:Bool):(I.bool (!want)).wanted want=acK acJ:=by cases want<;>rfl
@[simp] theorem I.Z5 (want:Bool):(I.aA []).wanted want=acK acJ:=rfl
def bA(i:Nat)(x:I):Option I:=
 match x with
 | .aA vs=>vs[i]?
 |_=>acL
def setCells(cs:List I)(o:Nat):List I->List I
 |[]=>cs
 |v::r=>setCells (cs.set o v) (o+1) r
def I.known:I->Bool
 | .bot | .aA _=>acJ
 |_=>acI
def jM(cs:List I):List (Nat×Nat×I)->Option (List I)
 |[]=>acK cs
 |(off,sz,v)::r=>if v.known/\v.cells.length=sz/\off+sz<=cs.length then jM (setCells cs off v.cells) r else acL
def bS(a:List I)(b:List (Nat×Nat×I)):Option I:=(jM a b).map .agg
def ea(str:Bool)(x:I):Option I:=
 match str,x with
 |true,.str s=>acK (.int .i64 s.length)
 |false,.aq _ len _=>acK (.int .i64 len)
 |false,.row _ _ len _=>acK (.int .i64 len)
 |_,_=>acL
def qp(mx:Bool)(x y:I):Option I:=
 match x,y with
 | .int k a,.int _ b=>acK (.int k (if mx then(if b>a then b else a)else(if b<a then b else a)))
 |_,_=>acL
def nC(mx:Bool)(x:I):List I->Option I
 |[]=>acK x
 |y::r=>match qp mx x y with|some z=>nC mx z r|none=>acL
def gH(mx:Bool)(xs:List I):Option I:=
 match xs with
 | .int k a::r=>nC mx (.int k a) r
 |_=>acL
def aj(H:Z)(n:Nat)(a:Bool)(x:I):Option I:=
 match x with
 | .ptr id o=>match H.o id with | .row cs=>bO cs o n a|_=>acL
 | .ae cs=>bO cs 0 n a
 |_=>acL
def cf(H:Z)(n:Nat)(x v:I):Option Z:=
 match x with
 | .ptr id o=>
  match H.o id with
  | .row cs=>if v.known/\v.cells.length=n/\v.cells.all I.scalar/\o+n<=cs.length then acK (H.set id (.row (setCells cs o v.cells)))else acL
  |_=>acL
 |_=>acL
def bQ(H:Z)(mu:Bool)(cells:List I):I×Z:=if mu then(.ptr H.n 0,H.push (.row cells))else(.ae cells,H)
def b5(H:Z)(mu:Bool)(n:Nat)(v:I):Option (I×Z):=if v.known/\v.cells.length=n then acK (bQ H mu v.cells)else acL
def cI(H:Z)(mu:Bool)(sz len:Nat)(a:List I)(b:List (Nat×Nat×I)):Option (I×Z):=
 (jM (KT len a).flatten b).map λcells=>if mu then(.row H.n 0 len sz,H.push (.row cells))else(.aq .full len cells,H)
def hL(H:Z)(sz:Nat)(x:I):Option (Nat×List I):=
 match x with
 | .aq _ len cells=>if cells.length=len*sz then acK (len,cells)else acL
 | .row id o len _=>match H.o id with | .row cs=>if o+len*sz<=cs.length then acK (len,(cs.drop o).take (len*sz))else acL|_=>acL
 |_=>acL
def cZ(H:Z)(mu:Bool)(sz b:Nat)(x y:I):Option (I×Z):=
 match hL H sz y with
 |none=>acL
 | some (m,news)=>
  if ¬news.all I.scalar then acL else
  match x with
  | .aq tk len cells=>
   if m=0 then acK (.aq tk len cells,H)
   else if ¬(cells.length=len*sz/\(len+m)*b<=140737488355328/\len+m<=9223372036854775807)then acL
   else match tk,mu with
   | .nil,acI | .full,acI=>acK (.row H.n 0 (len+m) sz,H.push (.row (cells++news)))
   | .nil,acJ | .full,acJ=>acK (.aq (.own H.n) (len+m) (cells++news),H.push (.tok ((len+m)*sz) sz))
   | .own t,_=>match H.o t with
    | .tok k a=>if k=len*sz/\a=sz then acK (.aq (.own H.n) (len+m) (cells++news),(H.set t .gone).push (.tok ((len+m)*sz) sz))else acL
    |_=>acL
   | .dead,_=>acL
  | .row id o len a=>
   match H.o id with
   | .row cs=>
    if m=0 then acK (.row id o len a,H)
    else if ¬(o=0/\a=sz/\(len+m)*b<=140737488355328/\len+m<=9223372036854775807)then acL
    else if(len+m)*sz<=cs.length then acK (.row id 0 (len+m) sz,H.set id (.row (setCells cs (len*sz) news)))
    else if cs.length=len*sz then acK (.row H.n 0 (len+m) sz,(H.set id .gone).push (.row (cs++news)))
    else acL
   |_=>acL
  |_=>acL
def qq(s:List UInt8):List I:=s.map λb=> .int .u8 b.toNat
def oL:List I->Option (List UInt8)
 |[]=>acK []
 | .int .u8 n::r=>(oL r).map λs=>aaj n.toNat::s
 |_=>acL
def qs(x:I):Option I:=
 match x with
 | .str s=>acK (.aq .dead s.length (qq s))
 |_=>acL
def abstr(H:Z)(x:I):Option I:=
 match hL H 1 x with
 |some (_,cells)=>(oL cells).map .str
 |none=>acL
def nD(H:Z)(x:I):Option (I×Z):=
 match x with
 | .str s=>acK (.ptr H.n 0,H.push (.hr s 0))
 |_=>acL
def la(H:Z)(x:I):Option (I×Z):=
 match x with
 | .ptr id 0=>
  match H.o id with
  | .hr s pos=>
   if pos<s.length then
    let d:=aak ⟨s.toArray⟩ pos
    acK (.aA [.bool acI,.int .i64 pos,.int .i32 d.1],H.set id (.hr s (pos+d.2)))
   else acK (.aA [.bool acJ],H)
  |_=>acL
 |_=>acL
def jN(H:Z)(mu:Bool)(sz b:Nat)(a:List I)(len cap:I):Option (I×Z):=
 match len,cap with
 | .int .i64 n,.int .i64 c=>
  if 0<=n/\n<=c/\b*c<=281474976710656/\c<=9223372036854775807/\a.length=sz then
   if mu then acK (.row H.n 0 n.toNat sz,H.push (.row (KT c.toNat a).flatten))
   else if n=c then acK (.aq .full n.toNat (KT n.toNat a).flatten,H)else acL
  else acL
 |_,_=>acL
def qt(H:Z)(sz:Nat)(x y:I):Option (I×Z):=
 match x,hL H sz y with
 | .row id o len _,acK (m,news)=>
  match H.o id with
  | .row cs=>
   let n:=min m len
   if news.all I.scalar/\o+n*sz<=cs.length then acK (.int .i64 n,H.set id (.row (setCells cs o (news.take (n*sz)))))else acL
  |_=>acL
 |_,_=>acL
def lh(o:Nat->cx):List I->Option (List I×Nat)
 |[]=>acL
 | .row id off len sz::r=>match o id with
  | .row cs=>if off+len*sz<=cs.length then acK (.aq .dead len ((cs.drop off).take (len*sz))::r,id)else acL
  |_=>acL
 |c::r=>(lh o r).map λq=>(c::q.1,q.2)
def kG(H:Z)(x:I):Option (I×Z):=
 match x with
 | .row id o len sz=>
  match H.o id with
  | .row cs=>if o+len*sz<=cs.length then acK (.aq .dead len ((cs.drop o).take (len*sz)),H.set id .gone)else acL
  |_=>acL
 | .ptr id o=>
  match H.o id with
  | .row cs=>match lh H.o cs with
   |some (l,a)=>if a=id then acL else acK (.ptr id o,(H.set a .gone).set id (.row l))
   |none=>acK (.ae (cs.drop o),H.set id .gone)
  |_=>acL
 | .aq tk len cells=>acK (.aq tk len cells,H)
 | .ae cs=>acK (.ae cs,H)
 | .agg cells=>acK (.agg cells,H)
 |_=>acL
inductive bK where
 |t (n:Nat)
 |k (v:I)
abbrev Env:=List I
def bK.ev(a:Env):bK->I
 | .t n=>a.getD n .bot
 | .k v=>v
inductive Ext where
 |clear (sz:Nat) (zero:List I)
 |stuck
def j8(H:Z)(e:Ext)(xs:List I):Option (I×Z):=
 match e,xs with
 | .clear sz zero,[.row id o len z]=>
  if len=0 then acK (.aA [],H)else
  match H.o id with
  | .row cs=>if zero.all I.scalar/\zero.length=sz/\o+len*sz<=cs.length then acK (.aA [],H.set id (.row (setCells cs o (KT len zero).flatten)))else acL
  |_=>acL
 | .clear _ _,[.aq _ 0 _]=>acK (.aA [],H)
 |_,_=>acL
inductive e2 where
 |mv (x:bK)
 |pick (c a b:bK)
 |bin (op:BinOp) (x y:bK)
 |beq (neg:Bool) (x y:bK)
 |j_ (k:NK) (neg:Bool) (x:bK)
 |jv (neg:Bool) (ks:List FK) (x y:bK)
 |un (op:UnOp) (x:bK)
 |conv (k:IntKind) (x:bK)
 |same (x:bK)
 |kH (x:bK)
 |field (off sz:Nat) (agg:Bool) (x:bK)
 |idx (len sz:Nat) (agg:Bool) (x i:bK)
 |idxs (x i:bK)
 |hM (off:Nat) (x:bK)
 |gY (arr:Option Nat) (sz:Nat) (x i:bK)
 |slice (sz:Nat) (x:bK) (lo hi mx:Option bK)
 |kI (x:bK) (lo hi:Option bK)
 |iD (t:TypeId) (x:bK)
 |h_ (key:Nat) (cd:List bK)
 |extract (i:Nat) (x:bK)
 |build (zero:List I) (parts:List (Nat×Nat×bK))
 |len (str:Bool) (x:bK)
 |iE (n:Nat)
 |iF (mx:Bool) (xs:List bK)
 |load (n:Nat) (agg:Bool) (x:bK)
 |store (n:Nat) (x v:bK)
 |box (mu:Bool) (n:Nat) (x:bK)
 |alloc (mu:Bool) (zero:List I)
 |hP (mu:Bool) (sz len:Nat) (zero:List I) (parts:List (Nat×Nat×bK))
 |append (mu:Bool) (sz bytes:Nat) (x y:bK)
 |make (mu:Bool) (sz bytes:Nat) (zero:List I) (len cap:bK)
 |copy (sz:Nat) (x y:bK)
 |kJ (x:bK)
 |iX (x:bK)
 |iY (x:bK)
 |iZ (x:bK)
 |call (key:Nat) (args:List bK)
 |i6 (f:bK) (args:List bK)
 |ext (e:Ext) (xs:List bK)
structure cb where
 dst:Option Nat
 op:e2
 guard:Option (Nat×Bool)
def gh(a:Env)(xs:List bK):List I:=xs.map (bK.ev a)
def gZ(a:Env)(xs:List (Nat×Nat×bK)):List (Nat×Nat×I):=xs.map λp=>(p.1,p.2.1,p.2.2.ev a)
abbrev aa:=I->Z->Prop
abbrev ad:=Nat->List I->Z->aa->Prop
def bs(x:Option (I×Z))(K:aa):Prop:=∃v H,x=acK (v,H)/\K v H
def jw(key:Nat):Nat:=match iC key with|some k=>k|none=>key
def jx(key:Nat)(args cd:List I):List I:=match iC key with|some _=>cd++args|none=>args++cd
theorem qu(h:iC key=acL):jw key=key:=by unfold jw;rw[h]
theorem qv(h:iC key=acL)(args cd:List I):jx key args cd=args++cd:=by unfold jx;rw[h]
def cy(Φ:ad)(d:Env)(H:Z)(K:aa):e2->Prop
 | .mv x=>K (x.ev d) H
 | .pick c a b=>W (c.ev d) acI (K (a.ev d) H) (K (b.ev d) H)
 | .bin op x y=>Do (cH op (x.ev d) (y.ev d)) λv=>K v H
 | .beq neg x y=>Do (kD neg (x.ev d) (y.ev d)) λv=>K v H
 | .j_ k neg x=>Do (nB k neg (x.ev d)) λv=>K v H
 | .jv neg ks x y=>Do (kE neg ks (x.ev d) (y.ev d)) λv=>K v H
 | .un op x=>Do (cu op (x.ev d)) λv=>K v H
 | .conv k x=>Do (fU k (x.ev d)) λv=>K v H
 | .same x=>Do (qm (x.ev d)) λv=>K v H
 | .kH x=>Do (b8 (x.ev d)) λv=>K v H
 | .field off sz agg x=>Do (kF off sz agg (x.ev d)) λv=>K v H
 | .idx len sz agg x i=>Do (qn len sz agg (x.ev d) (i.ev d)) λv=>K v H
 | .idxs x i=>Do (ju (x.ev d) (i.ev d)) λv=>K v H
 | .hM off x=>Do (aH off (x.ev d)) λv=>K v H
 | .gY arr sz x i=>Do (aL arr sz (x.ev d) (i.ev d)) λv=>K v H
 | .slice sz x lo hi mx=>Do (eC sz (x.ev d) (lo.map (bK.ev d)) (hi.map (bK.ev d)) (mx.map (bK.ev d))) λv=>K v H
 | .kI x lo hi=>Do (qo (x.ev d) (lo.map (bK.ev d)) (hi.map (bK.ev d))) λv=>K v H
 | .iD t x=>K (.iface t (x.ev d)) H
 | .h_ key cd=>K (.fn key (gh d cd)) H
 | .extract i x=>Do (bA i (x.ev d)) λv=>K v H
 | .build zero parts=>Do (bS zero (gZ d parts)) λv=>K v H
 | .len str x=>Do (ea str (x.ev d)) λv=>K v H
 | .iE n=>K (.int .i64 n) H
 | .iF mx xs=>Do (gH mx (gh d xs)) λv=>K v H
 | .load n agg x=>Do (aj H n agg (x.ev d)) λv=>K v H
 | .store n x v=>Do (cf H n (x.ev d) (v.ev d)) λH=>K (.aA []) H
 | .box mu n x=>bs (b5 H mu n (x.ev d)) K
 | .alloc mu zero=>bs (acK (bQ H mu zero)) K
 | .hP mu sz len zero parts=>bs (cI H mu sz len zero (gZ d parts)) K
 | .append mu sz bytes x y=>bs (cZ H mu sz bytes (x.ev d) (y.ev d)) K
 | .make mu sz bytes zero len cap=>bs (jN H mu sz bytes zero (len.ev d) (cap.ev d)) K
 | .copy sz x y=>bs (qt H sz (x.ev d) (y.ev d)) K
 | .kJ x=>Do (qs (x.ev d)) λv=>K v H
 | .iX x=>Do (abstr H (x.ev d)) λv=>K v H
 | .iY x=>bs (nD H (x.ev d)) K
 | .iZ x=>bs (la H (x.ev d)) K
 | .call key args=>Φ key (gh d args) H K
 | .i6 f args=>∃key cd,f.ev d = .fn key cd/\Φ (jw key) (jx key (gh d args) cd) H K
 | .ext e xs=>bs (j8 H e (gh d xs)) K
def cm(a:Env)(d:Option Nat)(v:I):Env:=
 match d with
 |some t=>a.set t v
 |none=>a
def i7(Φ:ad):List cb->Env->Z->(Env->Z->Prop)->Prop
 |[],env,H,K=>K env H
 | o :: r,env,H,K=>
  match o.guard with
  |none=>cy Φ env H (λv H'=>i7 Φ r (cm env o.dst v) H' K) o.op
  | some (s,want)=>
   aF (env.getD s .bot) want (cy Φ (env.set s (.bool want)) H (λv H'=>i7 Φ r (cm (env.set s (.bool want)) o.dst v) H' K) o.op)
    (i7 Φ r (cm (env.set s (.bool !want)) o.dst (.aA [])) H K) (i7 Φ r (cm (env.set s (.aA [])) o.dst (.aA [])) H K)
def oM(a:Env)(H:Z)(o:cb):Prop:=
 match o.op with
 | .load n agg x=>aj H n agg (x.ev a)=acK (a.getD (o.dst.getD 0) .bot)
 | .iX x=>abstr H (x.ev a)=acK (a.getD (o.dst.getD 0) .bot)
 |_=>True
def qw(a:Env)(H:Z)(o:cb):Prop:=
 match o.guard with
 |none=>oM a H o
 |some (s,want)=>a.getD s .bot = .bool want->oM a H o
def gQ(a:List cb)(b:Env)(H:Z)(X:Prop):List Nat->Prop
 |[]=>X
 |l::r=>(match a[l]? with|some o=>qw b H o|none=>True)/\gQ a b H X r
def kK(Φ:ad)(o:cb)(a:Env)(H:Z)(K:Env->Z->Prop):Prop:=
 match o.guard with
 |none=>cy Φ a H (λv H'=>K (cm a o.dst v) H') o.op
 | some (s,want)=>
  aF (a.getD s .bot) want (cy Φ (a.set s (.bool want)) H (λv H'=>K (cm (a.set s (.bool want)) o.dst v) H') o.op)
   (K (cm (a.set s (.bool !want)) o.dst (.aA [])) H) (K (cm (a.set s (.aA [])) o.dst (.aA [])) H)
def lk(Φ:ad)(a:List cb):List Nat->Env->Z->(Env->Z->Prop)->Prop
 |[],env,H,K=>K env H
 | i::r,env,H,K=>match a[i]? with
  |some o=>kK Φ o env H λaP H'=>lk Φ a r aP H' K
  |none=>False
def jO(Φ:ad)(a:List cb)(b:List Nat):List (List Nat×Nat×List Nat)->Env->Z->(Env->Z->Prop)->Prop
 |[],env,H,K=>lk Φ a b env H K
 | (d,e,st)::r,env,H,K=>lk Φ a d env H λc H1=>match a[e]? with
  |some o=>kK Φ o c H1 λf H2=>gQ a c H2 (jO Φ a b r f H2 K) st
  |none=>False
inductive dT where
 |skip
 |region (ops:List cb)
 |draw (ops:List cb) (pr:List (List Nat)) (bT:List (List Nat×Nat×List Nat)) (last:List Nat)
 |seq (a b:dT)
 |join (vs ks:List Nat) (a b:dT)
 |cond (x:bK) (a b:dT)
 |block (id:Nat) (a:dT)
 |loop (vs ks:List Nat) (a:dT)
 |exit (id:Nat)
 |ret
 |freeze (t:Nat) (a:dT)
 |hR (vs ks:List Nat) (ops:List cb) (b:dT)
inductive hU where
 |normal
 |exit (id:Nat)
 |ret
def fV(a:Env)(vs:List Nat):List I:=vs.map λt=>a.getD t .bot
def hx(a:Env):List Nat->Env
 |[]=>a
 |t::r=>hx (a.set t .bot) r
def jy(a:Env):List Nat->List I->Env
 |t::r,s=>jy (a.set t (s.headD .bot)) r s.tail
 |[],_=>a
def N(s:List I):Nat->I
 |0=>s.headD .bot
 |i+1=>N s.tail i
def ar{a:Type}(F:a->(a->Prop)->Prop)(s:a):Prop:=∀b:a->Prop,(∀s K,F s K->(∀t,K t->b t)->b s)->b s
theorem ar.step{a:Type}{F:a->(a->Prop)->Prop}{s:a}(h:F s (ar F)):ar F s:=λc b=>b s _ h λ_ ht=>ht c b
def G(K:List I->Z->Prop)(a:List I)(H:Z):Prop:=K a H
def dk(Φ:ad):dT->Env->Z->(hU->Env->Z->Prop)->Prop
 | .skip,env,H,Q=>Q .normal env H
 | .region ops,env,H,Q=>i7 Φ ops env H (Q .normal)
 | .draw ops _ bT last,env,H,Q=>jO Φ ops last bT env H (Q .normal)
 | .seq a b,env,H,Q=>dk Φ a env H λe aP H'=>match e with
  | .normal=>dk Φ b aP H' Q
  |e=>Q e aP H'
 | .join vs ks a b,env,H,Q=>dk Φ a env H λe aP H'=>match e with
  | .normal=>G (λst c=>dk Φ b (jy (hx env ks) vs st) c Q) (fV aP vs) H'
  |e=>Q e aP H'
 | .cond x a b,env,H,Q=>W (x.ev env) acI (dk Φ a env H Q) (dk Φ b env H Q)
 | .block id a,env,H,Q=>dk Φ a env H λe aP H'=>match e with
  | .exit d=>if d=id then Q .normal aP H' else Q (.exit d) aP H'
  |e=>Q e aP H'
 | .loop vs ks a,env,H,Q=>
  ar (λ(s:List I×Z) (K:List I×Z->Prop)=>
    dk Φ a (jy (hx env ks) vs s.1) s.2 λe aP H'=>match e with
     | .normal=>K (fV aP vs,H')
     |e=>Q e aP H') (fV env vs,H)
 | .exit id,env,H,Q=>Q (.exit id) env H
 | .ret,env,H,Q=>Q .ret env H
 | .freeze t a,env,H,Q=>bs (kG H (env.getD t .bot)) λv H'=>dk Φ a (env.set t v) H' Q
 | .hR vs ks ops b,env,H,Q=>i7 Φ ops env H λaP H'=>G (λst c=>dk Φ b (jy (hx env ks) vs st) c Q) (fV aP vs) H'
inductive ll where
 |tmp (t:Nat)
 |cell (t n:Nat) (agg:Bool)
def mc(a:Env)(H:Z):List ll->(List I->Prop)->Prop
 |[],K=>K []
 | .tmp t::r,K=>mc a H r λvs=>K (a.getD t .bot::vs)
 | .cell t n agg::r,K=>Do (aj H n agg (a.getD t .bot)) λv=>mc a H r λvs=>K (v::vs)
structure aU where
 ntmps:Nat
 results:List ll
 body:dT
def oN:List I->I
 |[v]=>v
 |vs=> .aA vs
def qx(Φ:ad)(f:aU)(args:List I)(H:Z)(Q:aa):Prop:=
 dk Φ f.body (args++KT (f.ntmps-args.length) .bot) H λe env H'=>match e with
  | .exit _=>False
  |_=>mc env H' f.results λvs=>Q (oN vs) H'
end Rb
namespace Rb
open Go
variable{H:Z}{K:aa}{v:I}{want:Bool}{A B X:Prop}{env:Env}
def mO(Φ:ad):Prop:=∀(key:Nat)(args:List I)(H:Z)(Q:aa),Φ key args H Q->∃v H',Q v H'
theorem Do.nv{α:Type}{x:Option α}{K:α->Prop}(h:Do x K):∃a,K a:=by obtain⟨a,_,h⟩:=h;exact⟨a,h⟩
theorem bs.nv{x:Option (I×Z)}(h:bs x K):∃v H,K v H:=by obtain⟨a,H,_,h⟩:=h;exact⟨a,H,h⟩
theorem W.nv(a:A->X)(hB:B->X)(h:W v want A B):X:=by
 unfold W at h;split at h
 . split at h
   ·exact a h
   ·exact hB h
 ·exact h.elim
theorem aF.nv{A B D X:Prop}(a:A->X)(hB:B->X)(b:D->X)(h:aF v want A B D):X:=by
 unfold aF at h;split at h
 . split at h
   ·exact a h
   ·exact hB h
 ·exact b h
 ·exact h.elim
section
variable{Φ:ad}
theorem te(a:mO Φ){op:e2}(h:cy Φ env H K op):∃v H',K v H':=by
 cases op with
 |mv x=>exact⟨_,_,h⟩
 |pick c x y=>exact W.nv (λh=>⟨_,_,h⟩) (λh=>⟨_,_,h⟩) h
 |iD t x=>exact⟨_,_,h⟩
 |h_ key cd=>exact⟨_,_,h⟩
 |iE n=>exact⟨_,_,h⟩
 |box mu n x=>exact bs.nv h
 |alloc mu zero=>exact bs.nv h
 |hP=>exact bs.nv h
 |append=>exact bs.nv h
 |make=>exact bs.nv h
 |copy=>exact bs.nv h
 |iY=>exact bs.nv h
 |iZ=>exact bs.nv h
 |call key args=>exact a _ _ _ _ h
 |i6 f args=>obtain⟨key,cd,h1,b⟩:=h;exact a _ _ _ _ b
 |ext=>exact bs.nv h
 |store=>obtain⟨H',h⟩:=Do.nv h;exact⟨_,_,h⟩
 |_=>obtain⟨v,h⟩:=Do.nv h;exact⟨_,_,h⟩
theorem D0(a:mO Φ){o:cb}{K:Env->Z->Prop}(h:kK Φ o env H K):∃aP H',K aP H':=by
 unfold kK at h;split at h
 ·obtain⟨v,H',h⟩:=te a h;exact⟨_,_,h⟩
 . refine aF.nv (λh=>?_) (λh=>⟨_,_,h⟩) (λh=>⟨_,_,h⟩) h;obtain⟨v,H',h⟩:=te a h;exact⟨_,_,h⟩
theorem oO(a:mO Φ):∀(l:List cb){env:Env}{H:Z}{K:Env->Z->Prop},i7 Φ l env H K->∃aP H',K aP H'
 |[],_,_,_,h=>⟨_,_,h⟩
 | o :: r,env,H,K,h=>by
  unfold i7 at h;split at h
  ·obtain⟨v,H',h⟩:=te a h;exact oO a r h
  . refine aF.nv (λh=>?_) (λh=>oO a r h) (λh=>oO a r h) h;obtain⟨v,H',h⟩:=te a h;exact oO a r h
theorem zL(a:mO Φ){b:List cb}:∀(l:List Nat){env:Env}{H:Z}{K:Env->Z->Prop},lk Φ b l env H K->∃aP H',K aP H'
 |[],_,_,_,h=>⟨_,_,h⟩
 | i::r,env,H,K,h=>by
  unfold lk at h;split at h
  ·obtain⟨aP,H',h⟩:=D0 a h;exact zL a r h
  ·exact h.elim
theorem D1{a:List cb}{env:Env}{H:Z}{X:Prop}:∀(l:List Nat),gQ a env H X l->X
 |[],h=>h
 |_::r,h=>D1 r h.2
theorem D2(a:mO Φ){c:List cb}{b:List Nat}:∀(l:List (List Nat×Nat×List Nat)) {env:Env} {H:Z} {K:Env->Z->Prop},jO Φ c b l env H K->∃aP H',K aP H'
 |[],env,H,K,h=>zL a b h
 | (d,e,st)::r,env,H,K,h=>by
  unfold jO at h;obtain⟨f,H1,h⟩:=zL a d h;split at h
  ·obtain⟨g,H2,h⟩:=D0 a h;exact D2 a r (D1 st h)
  ·exact h.elim
theorem N_(j:mO Φ):∀(c:dT){env:Env}{H:Z}{Q:hU->Env->Z->Prop},dk Φ c env H Q->∃e aP H',Q e aP H':=by
 intro c;induction c with
 |skip=>intro env H Q h;exact⟨_,_,_,h⟩
 |region ops=>intro env H Q h;obtain⟨e,H',h⟩:=oO j ops h;exact⟨_,_,_,h⟩
 |draw ops pr bT last=>intro env H Q h;obtain⟨e,H',h⟩:=D2 j bT h;exact⟨_,_,_,h⟩
 | seq a b f g=>
  intro env H Q h;obtain⟨e,aP,H',h⟩:=f h;cases e with
  |normal=>exact g h
  |exit i=>exact⟨_,_,_,h⟩
  |ret=>exact⟨_,_,_,h⟩
 | join vs ks a b f g=>
  intro env H Q h;obtain⟨e,aP,H',h⟩:=f h;cases e with
  |normal=>exact g h
  |exit i=>exact⟨_,_,_,h⟩
  |ret=>exact⟨_,_,_,h⟩
 |cond x a b f g=>intro env H Q h;exact W.nv (λh=>f h) (λh=>g h) h
 | block id a d=>
  intro env H Q h;obtain⟨e,aP,H',h⟩:=d h;cases e with
  |normal=>exact⟨_,_,_,h⟩
  | exit i=>
   dsimp only at h;split at h
   ·exact⟨_,_,_,h⟩
   ·exact⟨_,_,_,h⟩
  |ret=>exact⟨_,_,_,h⟩
 | loop vs ks a d=>
  intro env H Q h;refine h (λ_=>∃e aP H',Q e aP H') λs K hs k=>?_;obtain⟨e,aP,H',h⟩:=d hs;cases e with
  |normal=>exact k _ h
  |exit i=>exact⟨_,_,_,h⟩
  |ret=>exact⟨_,_,_,h⟩
 |exit id=>intro env H Q h;exact⟨_,_,_,h⟩
 |ret=>intro env H Q h;exact⟨_,_,_,h⟩
 |freeze t a d=>intro env H Q h;obtain⟨v,H',h⟩:=bs.nv h;exact d h
 |hR vs ks ops b d=>intro env H Q h;obtain⟨e,H',h⟩:=oO j ops h;exact d h
theorem tf{env:Env}{H:Z}:∀(l:List ll){K:List I->Prop},mc env H l K->∃vs,K vs
 |[],K,h=>⟨_,h⟩
 | .tmp t::r,K,h=>by obtain⟨vs,h⟩:=tf r h;exact⟨_,h⟩
 | .cell t n agg::r,K,h=>by obtain⟨v,h⟩:=Do.nv h;obtain⟨vs,h⟩:=tf r h;exact⟨_,h⟩
theorem D3(a:mO Φ){f:aU}{args:List I}{Q:aa}(h:qx Φ f args H Q):∃v H',Q v H':=by
 obtain⟨e,aP,H',h⟩:=N_ a _ h;cases e with
 |normal=>obtain⟨vs,h⟩:=tf _ h;exact⟨_,_,h⟩
 |exit i=>exact h.elim
 |ret=>obtain⟨vs,h⟩:=tf _ h;exact⟨_,_,h⟩
end
end Rb
namespace Rb
open Go
variable{v x c y i:I}{t s:TypeId}{X V Y:Value}{cs:List I}{Vs:Array Value}{d:TypeDesc}{off sz o n:Nat}{k:IntKind}{b neg:Bool}{fields:Array Field}{f:Field}
section
variable{P:Program}{F:dE}{w:World}{G:aW}
@[simp] theorem Z6 {α:Type} (a:α) (K:α->Prop):Do (acK a) K=K a:=by simp[Do]
@[simp] theorem Z7 {α:Type} (K:α->Prop):Do acL K=False:=by simp[Do]
theorem VR.hV{n:Int}(h:VR F w G (.int k n) V):V = .int k n:=by cases h;rfl
theorem VR.kL(h:VR F w G (.bool b) V):V = .bool b:=by cases h;rfl
theorem VR.kM{s:List UInt8}(h:VR F w G (.str s) V):V = .string ⟨s.toArray⟩:=by cases h;rfl
theorem VR.qy(h:VR F w G (.agg cs) V):∃Vs,V = .agg Vs/\be F w G cs Vs:=by cases h with|agg cs Vs hl hv=>exact⟨Vs,rfl,hl,hv⟩
theorem VR.D4(h:VR F w G (.aA cs) V):∃Vs,V = .tuple Vs/\be F w G cs Vs:=by cases h with|aA cs Vs hl hv=>exact⟨Vs,rfl,hl,hv⟩
theorem VR.D5(h:VR F w G (.aA []) V):V = .tuple #[]:=by
 obtain⟨Vs,rfl,hs,_⟩:=h.D4;have:Vs.size=0:=by simpa using hs.symm
 rw[Array.size_eq_zero_iff.1 this]
theorem be.agg(h:be F w G cs Vs):VR F w G (.agg cs) (.agg Vs):= .agg cs Vs h.1 h.2
theorem be.aA(h:be F w G cs Vs):VR F w G (.aA cs) (.tuple Vs):= .aA cs Vs h.1 h.2
theorem be.get(h:be F w G cs Vs){j:Nat}(hc:cs[j]?=acK c):∃V,Vs[j]?=acK V/\VR F w G c V:=by have b:j<cs.length:=(aal.1 hc).1;have a:j<Vs.size:=h.1▸b;exact⟨Vs[j],aam a,h.2 j c _ hc (aam a)⟩
theorem be.nE{Vs:List Value}(hl:cs.length=Vs.length)(h:∀(j:Nat)(c:I)(V:Value),cs[j]?=acK c->Vs[j]?=acK V->VR F w G c V):be F w G cs Vs.toArray:=⟨by simpa using hl,λj c V hc a=>h j c V hc (by simpa using a)⟩
theorem be.cut(h:be F w G cs Vs)(o n:Nat)(hn:o+n<=cs.length):be F w G ((cs.drop o).take n) (Vs.extract o (o+n)):=by
 have h1:=h.1;refine⟨by simp;omega,λj c V hc a=>?_⟩;rw[aan]at hc;split at hc
 . rename_i b;rw[aao]at hc;rw[aap]at a;split at a
   ·exact h.2 _ _ _ hc a
   ·cases a
 ·cases hc
def iG:TypeDesc->Bool
 | .struct _ | .array _ _=>acI
 |_=>acJ
theorem zM{cs:Array Value}{off:Nat}{i:TypeInfo}(a:P.underlying t=acK d)(ha:iG d=acI)(hi:P.info? t=acK i) :
  (part t cs off).run P w = .ok (.agg (cs.extract off (off+i.size))) w:=by
 cases d<;>simp[iG]at ha<;>simp[part,isAgg,aaq,typeInfo,run_underlying a,hi]
theorem zN{cs:Array Value}(a:P.underlying t=acK d)(ha:iG d=acJ)(b:cs[off]?=acK V) :
  (part t cs off).run P w = .ok V w:=by
 cases d<;>simp[iG]at ha<;>simp[part,isAgg,run_underlying a,b]
def i_(P:Program)(t:TypeId)(sz:Nat)(a:Bool):Bool:=
 match P.underlying t,P.info? t with
 |some d,acK i=>iG d==a&&i.size==sz&&(a||sz==1)
 |_,_=>acJ
theorem tg{a:Bool}(h:i_ P t sz a=acI):∃d i,P.underlying t=acK d/\P.info? t=acK i/\iG d=a/\i.size=sz/\(a=acI\/sz=1):=by
 unfold i_ at h;split at h
 . rename_i d i b hi;simp only[aar,bZ,aas]at h;exact⟨d,i,b,hi,h.1.1,h.1.2,h.2⟩
 ·cases h
theorem D6{agg:Bool}(ht:i_ P t sz agg=acI)(h:be F w G cs Vs)(hv:bO cs o sz agg=acK v) :
  ∃V,(part t Vs o).run P w = .ok V w/\VR F w G v V:=by
 obtain⟨d,i,a,hi,ha,hs,e⟩:=tg ht;unfold bO at hv;split at hv
 . rename_i hle;cases agg with
   | true=>simp at hv;subst hv;subst hs;exact⟨_,zM a ha hi,(h.cut o _ hle).agg⟩
   | false=>simp at hv;obtain⟨V,b,c⟩:=h.get hv;exact⟨V,zN a ha b,c⟩
 ·cases hv
theorem Oa{op:BinOp}{t:TypeId}(h:cH op x y=acK v)(c:VR F w G x X)(d:VR F w G y Y) :
  ∃V,(binOp op t X Y).run P w = .ok V w/\VR F w G v V:=by
 unfold cH at h;split at h
 . rename_i k a k' b;obtain rfl:=c.hV;obtain rfl:=d.hV;unfold h8 at h;cases op<;>simp only[]at h
   case shl=>
    split at h
    ·cases h
    . rename_i U;cases h;refine⟨.int k (k.wrap (a*2^(min b.toNat k.bits))),?_,.int _ _⟩;simp[binOp,Op.shift,U]
   case shr=>
    split at h
    ·cases h
    . rename_i U;cases h;refine⟨.int k (a.fdiv (2^(min b.toNat k.bits))),?_,.int _ _⟩;simp[binOp,Op.shift,U]
   case quo=>
    split at h
    . rename_i U;cases h;obtain⟨rfl,U⟩:=U;refine⟨.int k (k.wrap (a.tdiv b)),?_,.int _ _⟩;simp[binOp,aat,U]
    ·cases h
   case rem=>
    split at h
    . rename_i U;cases h;obtain⟨rfl,U⟩:=U;refine⟨.int k (a.tmod b),?_,.int _ _⟩;simp[binOp,aat,U]
    ·cases h
   all_goals
    split at h
    . rename_i hk;subst hk;first
       | (have h:=show acK (I.int k _)=acK v from h
          cases h;refine⟨_,?_,.int _ _⟩;simp only[binOp,ne_eq,not_true_eq_false,b4];rfl)
       | (cases h
          refine⟨_,?_,.bool _⟩;simp only[binOp,ne_eq,not_true_eq_false,b4];rfl)
    ·cases h
 . rename_i s u;obtain rfl:=c.kM;obtain rfl:=d.kM;unfold DY at h;cases op<;>simp only[]at h
   case add=>
    split at h
    . rename_i hl;cases h;refine⟨_,?_,.str _⟩;have e:¬(9223372036854775807<(s.length:Int)+(u.length:Int)):=by omega
      have hs:(aau s.toArray).size=s.length:=by simp[aav]
      have hu:(aau u.toArray).size=u.length:=by simp[aav]
      have he:(aau s.toArray++aau u.toArray)=⟨(s++u).toArray⟩:=by apply aaw;simp
      simp[binOp,aax,hs,hu,e,IntKind.max,aay,aaz,he]
    ·cases h
   all_goals
    first
     |(cases h;exact⟨_,by simp[binOp,aax],.bool _⟩)
     |cases h
 ·cases h
theorem D7(op:BinOp)(t:TypeId)(x y:Operand)(X Y:Value)(a:∀cs,X ≠ .agg cs)(b:X ≠ .nilIface):(eqGuard op t x y X Y).run P w = .ok () w:=by unfold eqGuard;cases op<;>simp;all_goals (cases X<;>simp_all)
theorem Ob(ht:P.underlying t=acK .bool)(h:kD neg x y=acK v)(c:VR F w G x X)(d:VR F w G y Y) :
  ∃V,(binOp (if neg then .neq else .eql) t X Y).run P w = .ok V w/\VR F w G v V:=by
 unfold kD at h;split at h
 . rename_i a b;obtain rfl:=c.kL;obtain rfl:=d.kL;cases h;have e:∀n,(aaA (n+1) t (.bool a) (.bool b)).run P w = .ok (a==b) w:=λn=>by
    unfold aaA;simp[run_underlying ht]
   have he:(aaB t (.bool a) (.bool b)).run P w = .ok (a==b) w:=e 9999;refine⟨_,?_,.bool _⟩;cases neg
   . show(do pure (.bool (<-aaB t (.bool a) (.bool b))):Sem Value).run P w=_;simp[he]
   . show(do pure (.bool (!(<-aaB t (.bool a) (.bool b)))):Sem Value).run P w=_;simp[he]
 ·cases h
def oP:TypeDesc->Option NK
 | .pointer _=>acK .p
 | .slice _=>acK .s
 | .func _ _ _=>acK .f
 | .interface _=>acK .i
 |_=>acL
def NK.nil:NK->Value
 | .p=> .pointer acL
 | .s=> .slice acL 0 0
 | .f=> .nilFunc
 | .i=> .nilIface
theorem Oc{k:NK}(a:P.underlying t=acK d)(c:oP d=acK k)(h:x.isNil k=acK b)(e:VR F w G x X) :
  (aaB t X k.nil).run P w = .ok b w:=by
 have key:∀n,(aaA (n+1) t X k.nil).run P w = .ok b w:=by
  intro n;unfold I.isNil at h;split at h<;>(try (cases h;done))<;>cases h;all_goals
   cases d<;>simp only[oP,aaC.injEq,reduceCtorEq]at c;cases e<;>first|(unfold aaA;simp[NK.nil,run_underlying a];done)|contradiction
 exact key 9999
theorem Od{k:NK}(f:P.underlying t=acK d)(g:oP d=acK k)(h:nB k neg x=acK v)(a:VR F w G x X) :
  ∃V,(binOp (if neg then .neq else .eql) t X k.nil).run P w = .ok V w/\VR F w G v V:=by
 unfold nB at h;cases U:x.isNil k with
 |none=>simp[U]at h
 | some b=>
  simp[U]at h;subst h;have c:=Oc (P:=P) f g U a;have e:(neg=acJ->binOp .eql t X k.nil=(do pure (.bool (<-aaB t X k.nil))))/\(neg=acI->binOp .neq t X k.nil=(do pure (.bool (!(<-aaB t X k.nil))))):=by unfold I.isNil at U;split at U<;>(try (cases U;done))<;>cases a<;>exact⟨λ_=>rfl,λ_=>rfl⟩
  refine⟨_,?_,.bool _⟩;cases neg
  . rw[ka,e.1 rfl];simp[c]
  . rw[ab rfl,e.2 rfl];simp[c]
theorem Oe{op:UnOp}(h:cu op x=acK v)(a:VR F w G x X):∃V,(Op.unary op X).run P w = .ok V w/\VR F w G v V:=by
 unfold cu at h;split at h
 . obtain rfl:=a.kL;cases h;exact⟨_,rfl,.bool _⟩
 . obtain rfl:=a.hV;cases h;exact⟨_,rfl,.int _ _⟩
 . obtain rfl:=a.hV;simp only[oK,aaD,aaC.injEq]at h;subst h;exact⟨_,rfl,.int _ _⟩
 ·cases h
theorem Of(hs:P.underlying s=acK d)(ht:P.underlying t=acK (.int k))(h:fU k x=acK v)(a:VR F w G x X) :
  ∃V,(convert s t X).run P w = .ok V w/\VR F w G v V:=by
 unfold fU at h;split at h
 . obtain rfl:=a.hV;cases h;refine⟨_,?_,.int _ _⟩;simp[convert,run_underlying hs,run_underlying ht,Conv.intToInt]
 ·cases h
theorem Og(hs:P.underlying s=acK .string)(ht:P.underlying t=acK .string)(h:qm x=acK v)(a:VR F w G x X) :
  ∃V,(convert s t X).run P w = .ok V w/\VR F w G v V:=by
 unfold qm at h;split at h
 . obtain rfl:=a.kM;cases h;refine⟨_,?_,.str _⟩;simp[convert,run_underlying hs,run_underlying ht]
 ·cases h
theorem Oh(h:b8 x=acK v)(b:VR F w G x X):(∃a,X = .pointer (acK a))/\VR F w G v X\/(∃f c Vs,X = .func (.func f) c Vs)/\VR F w G v X:=by
 unfold b8 at h;split at h
 ·cases h;left;exact⟨by cases b;exact⟨_,rfl⟩,b⟩
 ·cases h;left;exact⟨by cases b;exact⟨_,rfl⟩,b⟩
 ·cases h;right;exact⟨by cases b<;>exact⟨_,_,_,rfl⟩,b⟩
 ·cases h
theorem Oi{n off sz:Nat}{a:Bool}{x v:I}{X:Value}(ht:P.underlying t=acK (.struct fields))(hf:fields[n]?=acK f)(b:f.offset=off)
  (c:i_ P f.type sz a=acI) (h:kF off sz a x=acK v) (d:VR F w G x X):∃V,(aaE t X n).run P w = .ok V w/\VR F w G v V:=by
 unfold kF at h;split at h
 . obtain⟨Vs,rfl,e⟩:=d.qy;subst b;obtain⟨V,g,hv⟩:=D6 (w:=w) c e h;exact⟨V,by simp[aaE,run_underlying ht,hf,asAgg,g],hv⟩
 ·cases h
theorem Oj{t e:TypeId}{len sz:Nat}{a:Bool}{X b:Value}(ht:P.underlying t=acK (.array len e))(c:i_ P e sz a=acI)(h:qn len sz a x i=acK v)
  (f:VR F w G x X) (hi:VR F w G i b):∃V,(aaF t X b).run P w = .ok V w/\VR F w G v V:=by
 unfold qn at h;split at h
 . obtain ⟨Vs,rfl,g⟩:=f.qy;obtain rfl:=hi.hV;split at h
   . rename_i U;obtain⟨V,j,hv⟩:=D6 (w:=w) c g h;obtain⟨d,inf,l,k,_,hs,_⟩:=tg c;subst hs;exact⟨V,by simp[aaF,asIntOf,run_underlying ht,U,aaq,typeInfo,k,j],hv⟩
   ·cases h
 ·cases h
theorem Ol{X a:Value}(ht:P.underlying t=acK .string)(h:ju x i=acK v)
  (c:VR F w G x X) (hi:VR F w G i a):∃V,(aaF t X a).run P w = .ok V w/\VR F w G v V:=by
 unfold ju at h;split at h
 . rename_i s k i;obtain rfl:=c.kM;obtain rfl:=hi.hV;split at h
   . rename_i U;cases hs:s[i.toNat]? with
     |none=>simp[hs]at h
     | some b=>
      simp[hs]at h;subst h;have d:(aau s.toArray)[i.toNat]?=acK b:=by
       have e:=(aal.1 hs).1;have he:=(aal.1 hs).2;have f:i.toNat<(aau s.toArray).size:=by simpa[aav]using e
       rw[getElem?_pos (aau s.toArray) i.toNat f];simp[aaG,he]
      exact⟨_,by simp[aaF,asIntOf,run_underlying ht,U,d],.int _ _⟩
   ·cases h
 ·cases h
theorem lq(b o n:Nat):(⟨b,o,acL⟩:Addr).add n=⟨b,o+n,acL⟩:=by
 unfold Addr.add;split
 ·rename_i h;subst h;rfl
 ·rfl
theorem zO{b o:Nat}(h:VR F w G (.ae cs) (.pointer (acK ⟨b,o,acL⟩)))(n:Nat):VR F w G (.ae (cs.drop n)) (.pointer (acK ⟨b,o+n,acL⟩)):=by
 cases h with
 | ae cs b o Vs h hv=>
  refine .ae _ _ _ (λj=>Vs (n+j)) (λj c a=>?_) (λj c a=>?_)
  . rw[aao]at a;have:=h _ _ a;rw[<-aaH]at this;exact this
  . rw[aao]at a;exact hv _ _ a
theorem Om{a:TypeInfo}{x v:I}{X:Value}(ht:P.underlying t=acK (.struct fields))(hf:fields[n]?=acK f)(d:f.offset=off)
  (e:P.info? f.type=acK a) (g:a.size≠0) (h:aH off x=acK v) (c:VR F w G x X):∃V,(aaI t X n).run P w = .ok V w/\VR F w G v V:=by
 subst d;have key:∀b o,X = .pointer (acK ⟨b,o,acL⟩)->(aaI t X n).run P w = .ok (.pointer (acK ⟨b,o+f.offset,acL⟩)) w:=by intro b o i;subst i;simp[aaI,run_underlying ht,hf,aaJ,fieldPlace,aaq,typeInfo,e,g,lq]
 unfold aH at h;split at h
 . cases h;cases c with
   |ptr id off j=>exact⟨_,key _ _ rfl,.ptr _ _ j⟩
 . cases h;cases c with
   |ae _ b o Vs h hv=>exact⟨_,key _ _ rfl,zO (.ae _ b o Vs h hv) _⟩
 ·cases h
theorem zP{a:Bool}{A B:Prop}(h:W v a A B):∃b,v = .bool b/\if b=a then A else B:=by
 unfold W at h;split at h
 ·rename_i b;exact⟨b,rfl,h⟩
 ·exact h.elim
@[simp] theorem Z8 (b want:Bool) (A B:Prop):W (.bool b) want A B=if b=want then A else B:=rfl
theorem On{i:Nat}(h:bA i x=acK v)(a:VR F w G x X):∃V,(aaK X i).run P w = .ok V w/\VR F w G v V:=by
 unfold bA at h;split at h
 . obtain⟨Vs,rfl,b⟩:=a.D4;obtain⟨V,c,hv⟩:=b.get h;exact⟨V,by simp[aaK,c],hv⟩
 ·cases h
theorem be.app{cs cs':List I}{Vs d:Array Value}(h:be F w G cs Vs)(e:be F w G cs' d):be F w G (cs++cs') (Vs++d):=by
 refine⟨by simp[h.1,e.1],λj c V hc a=>?_⟩;rw[aaL]at hc;rw[aaM]at a;rw[h.1]at hc;split at hc
 . rename_i b;rw[ab b]at a;exact h.2 _ _ _ hc a
 . rename_i b;rw[af b]at a;exact e.2 _ _ _ hc a
theorem be.set(h:be F w G cs Vs)(j:Nat)(hc:VR F w G c V):be F w G (cs.set j c) (Vs.setIfInBounds j V):=by
 refine⟨by simp[h.1],λi d g a b=>?_⟩;rw[aaN]at a;rw[aaO]at b;by_cases e:j=i
 . subst e;rw[ab rfl]at a;rw[ab rfl]at b;split at a
   . rename_i f;rw[ab (h.1▸f)]at b;cases a;cases b;exact hc
   ·cases a
 . rw[af e]at a b;exact h.2 _ _ _ a b
theorem be.one(h:VR F w G c V):be F w G [c] #[V]:=
 be.nE (Vs:=[V]) rfl λj d e a b=>by
  cases j with
  |zero=>simp at a b;subst a;subst b;exact h
  |succ j=>simp at a
theorem be.nil:be F w G [] #[]:=⟨rfl,λj c V hc _=>by simp at hc⟩
theorem VR.zQ(a:v.known=acI)(h:VR F w G v V):be F w G v.cells V.cells:=by
 cases v with
 | agg cs=>obtain⟨Vs,rfl,b⟩:=h.qy;exact b
 |aA _=>cases a
 |bot=>cases a
 | _=>
  have c:V.cells = #[V]:=by cases h<;>rfl
  rw[c];exact be.one h
theorem VR.D8(a:v.scalar=acI)(h:VR F w G v V):V.oneCell'=acI:=by cases v<;>simp[I.scalar]at a<;>cases h<;>rfl
end
end Rb
namespace Rb
open Go
variable{x v:I}{X:Value}{t e:TypeId}{lo hi:Option I}{sz len cap l h:Nat}{inf:TypeInfo}
section
variable{P:Program}{F:dE}{w:World}{G:aW}
theorem VR.D9{cells:List I}{b o:Nat}{Vs:Nat->Value}
  (h:∀(j:Nat)(c:I),cells[j]?=acK c->G.fz b (o+j)/\w.cell? ⟨b,o+j,acL⟩=acK (Vs j))
  (hv:∀(j:Nat)(c:I),cells[j]?=acK c->VR F w G c (Vs j)) (n m:Nat) :
  (∀(j:Nat)(c:I),((cells.take m).drop n)[j]?=acK c->G.fz b (o+n+j)/\w.cell? ⟨b,o+n+j,acL⟩=acK (Vs (n+j))) /\
  (∀(j:Nat)(c:I),((cells.take m).drop n)[j]?=acK c->VR F w G c (Vs (n+j))):=by
 have key:∀(j:Nat)(c:I),((cells.take m).drop n)[j]?=acK c->cells[n+j]?=acK c:=by
  intro j c a;rw[aao,aan]at a;split at a
  ·exact a
  ·cases a
 refine⟨λj c a=>?_,λj c a=>hv _ _ (key j c a)⟩;have:=h _ _ (key j c a);rw[<-aaH]at this;exact this
theorem Oo{t e:TypeId}{d:Option Nat}{sz:Nat}{inf:TypeInfo}{x i v:I}{X f:Value}
  (ht:match d with|none=>P.underlying t=acK (.slice e)|some n=>P.underlying t=acK (.array n e))
  (hi:P.info? e=acK inf) (hs:inf.size=sz) (h:aL d sz x i=acK v) (a:VR F w G x X) (g:VR F w G i f) :
  ∃V,(aaP t X f).run P w = .ok V w/\VR F w G v V:=by
 subst hs;unfold aL at h;split at h
 . rename_i k i;obtain rfl:=g.hV;split at h
   . rename_i tk len cells;simp only at ht;split at h
     . rename_i U;cases h;cases a with
       |gX=>simp at U;omega
       |gg=>simp at U;omega
       | aq _ _ _ b o cap Vs j hle h hv=>refine⟨.pointer (acK ⟨b,o+i.toNat*inf.size,acL⟩),?_,zO (.ae _ b o Vs h hv) _⟩;simp[aaP,asIntOf,run_underlying ht,U,aaq,typeInfo,hi,lq]
     ·cases h
   . rename_i id o len;simp only at ht;split at h
     . rename_i U;cases h;cases a with
       | row _ _ _ _ cap c hle hc=>refine⟨_,?_,.ptr _ _ c⟩;simp[aaP,asIntOf,run_underlying ht,U,aaq,typeInfo,hi,lq]
     ·cases h
   . rename_i n id o;simp only at ht;split at h
     . rename_i U;cases h;cases a with
       | ptr _ _ c=>refine⟨_,?_,.ptr _ _ c⟩;simp[aaP,asIntOf,run_underlying ht,U,aaq,typeInfo,hi,lq,aaJ]
     ·cases h
   . rename_i n cells;simp only at ht;split at h
     . rename_i U;cases h;cases a with
       | ae _ b o Vs h hv=>refine⟨.pointer (acK ⟨b,o+i.toNat*inf.size,acL⟩),?_,zO (.ae _ b o Vs h hv) _⟩;simp[aaP,asIntOf,run_underlying ht,U,aaq,typeInfo,hi,lq,aaJ]
     ·cases h
   ·cases h
 ·cases h
theorem qz{n y:Nat}{a:BoundsCode}{d:Nat}(h:fg (acK x) d=acK n)(b:VR F w G x X)(hn:n<=y) :
  (aaQ X y a).run P w = .ok n w:=by
 cases x with
 | int k i=>
  obtain rfl:=b.hV;simp only[fg]at h;split at h
  . rename_i hp;cases h;have hle:0<=i/\i<=(y:Int):=⟨hp,by omega⟩
    simp[aaQ,asIntOf,hle]
  ·cases h
 |_=>simp[fg]at h
def lr(F:dE)(w:World)(G:aW):Option I->Option Value->Prop
 |none,acL=>True
 |some x,acK X=>VR F w G x X
 |_,_=>False
theorem zR{b:Bool}{a c:Option Value}(d:fg hi len=acK h)(hl:fg lo 0=acK l)(j:l<=h)(k:h<=len)(m:len<=cap)
  (e:lr F w G lo a) (f:lr F w G hi c):(aaR b len cap a c acL).run P w = .ok (l,h,cap) w:=by
 have g:(match c with|some v=>aaQ v cap (if b then .sliceAcap else .sliceAlen)|none=>pure len).run P w = .ok h w:=by
  cases hi with
  | none=>
   cases c with
   |none=>simp[fg]at d;simp[d]
   |some _=>exact f.elim
  | some x=>
   cases c with
   |none=>exact f.elim
   |some X=>exact qz d f (sl k m)
 have i:(match a with|some v=>aaQ v h .sliceB|none=>pure 0).run P w = .ok l w:=by
  cases lo with
  | none=>
   cases a with
   |none=>simp[fg]at hl;simp[hl]
   |some _=>exact e.elim
  | some x=>
   cases a with
   |none=>exact e.elim
   |some X=>exact qz hl e j
 unfold aaR;cases c<;>cases a<;>simp at g i ⊢ <;> simp[g,i]
theorem th{b:Bool}{m:I}{a e:Option Value}{M:Value}{len cap l h d:Nat}(j:fg (acK m) 0=acK d)(k:fg hi len=acK h)(n:hi≠acL)(hl:fg lo 0=acK l)(o:l<=h)(p:h<=d)(q:d<=cap)
  (f:lr F w G lo a) (g:lr F w G hi e) (r:VR F w G m M):(aaR b len cap a e (acK M)).run P w = .ok (l,h,d) w:=by
 have em:∀c,(aaQ M cap c).run P w = .ok d w:=λc=>qz j r q;cases hi with
 |none=>exact absurd rfl n
 | some x=>
  cases e with
  |none=>exact g.elim
  | some X=>
   have s:∀c,(aaQ X d c).run P w = .ok h w:=λc=>qz k g p;have i:(match a with|some v=>aaQ v h .slice3C|none=>pure 0).run P w = .ok l w:=by
    cases lo with
    | none=>
     cases a with
     |none=>simp[fg]at hl;simp[hl]
     |some _=>exact f.elim
    | some x=>
     cases a with
     |none=>exact f.elim
     |some X=>exact qz hl f o
   unfold aaR;cases a<;>simp at i ⊢ <;> simp[em,s,i]
theorem D_(s:List UInt8):(aau s.toArray).size=s.length:=by simp[aav]
theorem Oq{X:Value}{a c:Option Value}(ht:P.underlying t=acK .string)(h:qo x lo hi=acK v)
  (e:VR F w G x X) (f:lr F w G lo a) (g:lr F w G hi c):∃V,(aaS t X a c acL).run P w = .ok V w/\VR F w G v V:=by
 unfold qo at h;split at h
 . rename_i s;obtain rfl:=e.kM;split at h
   . rename_i d l i hl;split at h
     . rename_i U;cases h;have j:=zR (P:=P) (b:=acJ) i hl U.1 U.2 (hb _) f g;have he:(aau s.toArray).extract l d=⟨((s.take d).drop l).toArray⟩:=by
        rw[Lib.extract_eq];congr 1;simp[List.drop_take]
       refine⟨_,?_,.str _⟩;simp[aaS,aaT,run_underlying ht,D_,j,he]
     ·cases h
   ·cases h
 ·cases h
theorem Ot{x v:I}{lo hi mx:Option I}{X:Value}{u y Mx:Option Value}(ht:P.underlying t=acK (.slice e))(H:P.info? e=acK inf)(hs:inf.size=sz)
  (hm:mx≠acL->hi≠acL) (h:eC sz x lo hi mx=acK v) (q:VR F w G x X) (k:lr F w G lo u) (n:lr F w G hi y) (i:lr F w G mx Mx) :
  ∃V,(aaS t X u y Mx).run P w = .ok V w/\VR F w G v V:=by
 subst hs;have run:∀(a:Option Addr)(len cap l h m:Nat),(aaR acI len cap u y Mx).run P w = .ok (l,h,m) w ->
   (aaS t (.slice a len cap) u y Mx).run P w = .ok (.slice (if m=l then a else a.map (·.add (l*inf.size))) (h-l) (m-l)) w:=by
  intro a len cap l h m U;simp[aaS,aaT,run_underlying ht,U,aaq,typeInfo,H]
 unfold eC at h;split at h
 . rename_i tk len cells;split at h
   . rename_i d l f hl g;cases mx with
     |some m=>simp at g
     |none=>
     cases Mx with
     |some _=>exact i.elim
     |none=>
     split at h
     . rename_i U;have c:∀cap,len<=cap->_:=λcap hc=>zR (P:=P) (b:=acI) f hl U.1 U.2.1 hc k n;split at h
       . rename_i he;cases h;obtain⟨rfl,rfl⟩:=he;cases q with
         |gX=>exact⟨_,run _ _ _ _ _ _ (c 0 (hb _)),by simpa using VR.gX⟩
         |gg a cap=>exact⟨_,run _ _ _ _ _ _ (c cap (aaU _)),by simpa using VR.gg _ _⟩
         | aq _ _ _ b o cap Vs p hle h hv=>refine⟨_,run _ _ _ _ _ _ (c cap hle),?_⟩;have:=VR.aq (F:=F) tk d cells b o cap Vs p hle h hv;split<;>simpa[lq]using this
       . rename_i B;cases h;cases q with
         |gX=>exact absurd ⟨by omega,by omega⟩ B
         |gg a cap=>exact absurd ⟨by omega,by omega⟩ B
         | aq _ _ _ b o cap Vs p hle h hv=>
          refine⟨_,run _ _ _ _ _ _ (c cap hle),?_⟩;by_cases z:cap=l
          . obtain rfl:d=cap:=by omega
            obtain rfl:d=len:=by omega
            obtain rfl:l=d:=by omega
            have r:¬l=0:=λe=>B ⟨e,rfl⟩;rw[af r,ab rfl];have J:(cells.take (l*inf.size)).drop (l*inf.size)=[]:=by simp
            rw[J];simpa using VR.gg (acK ⟨b,o,acL⟩) 0
          . rw [af z];have s:=VR.D9 (F:=F) h hv (l*inf.size) (d*inf.size);simp only[aaD,lq];refine .aq _ _ _ b (o+l*inf.size) (cap-l) (λj=>Vs (l*inf.size+j)) ?_ (by omega) s.1 s.2;split
            . rename_i r;subst r;split
              . rename_i t;obtain⟨h1,D,O,Q⟩:=p;exact⟨h1,D,by omega,by omega⟩
              ·trivial
            ·trivial
     ·cases h
   . rename_i d l m f hl g;cases mx with
     |none=>simp at g
     |some mv=>
     cases Mx with
     |none=>exact i.elim
     |some R=>
     simp at g;split at h
     . rename_i K;obtain⟨e1,L,S⟩:=K;subst e1;subst L;cases q with
       | gX=>have c:=th (P:=P) (b:=acI) (cap:=0) g f (hm (by simp)) hl (hb _) (hb _) (by omega) k n i;cases h;exact⟨_,run _ _ _ _ _ _ c,by simpa using VR.gX⟩
       | gg a cap=>have c:=th (P:=P) (b:=acI) (cap:=cap) g f (hm (by simp)) hl (hb _) (hb _) (by omega) k n i;cases h;exact⟨_,run _ _ _ _ _ _ c,by simpa using VR.gg _ _⟩
       | aq _ _ _ b o cap Vs p hle T hv=>
        have c:=th (P:=P) (b:=acI) (cap:=cap) g f (hm (by simp)) hl (hb _) (hb _) (by omega) k n i;refine⟨_,run _ _ _ _ _ _ c,?_⟩;have M:v = .aq .dead 0 []:=by
         cases tk with
         |nil=>exact p.elim
         |full=>cases h;rfl
         |dead=>cases h;rfl
         |own t=>cases h;rfl
        subst M;simpa using VR.gg _ _
     split at h
     . rename_i U;cases h;cases q with
       |gX=>exact absurd rfl U.2.2.2.2.1
       |gg a cap=>have h1:=U.2.2.2.2.2;have D:=U.2.2.1;omega
       | aq _ _ _ b o cap Vs p hle h hv=>
        obtain⟨C,A,W,Y,Z,aa⟩:=U;have c:=th (P:=P) (b:=acI) (cap:=cap) g f (hm (by simp)) hl C A (by omega) k n i;refine⟨_,run _ _ _ _ _ _ c,?_⟩;rw[af (show ¬m=l by omega)];have s:=VR.D9 (F:=F) h hv (l*inf.size) (d*inf.size);simp only[aaD,lq];refine .aq _ _ _ b (o+l*inf.size) (m-l) (λj=>Vs (l*inf.size+j)) ?_ (Nat.sub_le_sub_right A l) s.1 s.2;split
        . rename_i e;show m-l=d-l;omega
        ·trivial
     ·cases h
   ·cases h
 . rename_i id o len ac;split at h
   . rename_i d l f hl;cases Mx with
     |some _=>exact i.elim
     |none=>
     split at h
     . rename_i U;obtain⟨C,A,rfl⟩:=U;cases q with
       | row _ _ _ _ cap E hle hc=>
        have c:=zR (P:=P) (b:=acI) f hl C A hle k n;split at h
        . rename_i N;cases h;refine⟨_,run _ _ _ _ _ _ c,?_⟩;by_cases z:cap=l
          . have r:l=0:=by omega
            subst r;rw[ab z];have:=VR.row (F:=F) (w:=w) (G:=G) id o (d-0) inf.size cap E (by omega) hc;simpa using this
          . rw[af z];simp only[aaD,lq];refine .row id _ _ _ _ E (by omega) ?_;have:cap*inf.size=l*inf.size+(cap-l)*inf.size:=by rw[<-aaV];congr 1;omega
            omega
        . rename_i N;cases h;refine⟨_,run _ _ _ _ _ _ c,?_⟩;have:d-l=0:=by omega
          rw[this];exact .gg _ _
     ·cases h
   ·cases h
 ·cases h
theorem Ou{cs:List I}{Vs:Array Value}(h:be F w G cs Vs)(a:Nat):∀(l:List I)(L:List Value)(k:Nat),l.length=L.length ->
  (∀(j:Nat)(c:I)(V:Value),l[j]?=acK c->L[j]?=acK V->VR F w G c V) ->
  be F w G (setCells cs (a+k) l) ((L.zipIdx k).foldl (λcs (x:Value×Nat)=>cs.setIfInBounds (a+x.2) x.1) Vs):=by
 intro l;induction l generalizing cs Vs with
 | nil=>
  intro L k hl _;cases L with
  |nil=>simpa[setCells]using h
  |cons _ _=>cases hl
 | cons c l e=>
  intro L k hl b;cases L with
  |nil=>cases hl
  | cons V L=>simp only[setCells,List.zipIdx_cons,aaW];rw[aaH];exact e (h.set _ (b 0 c V rfl rfl)) L (k+1) (by simpa using hl) λj d f g i=>b (j+1) d f (by simpa using g) (by simpa using i)
theorem Ov(l:List I):∀(cs:List I)(o:Nat),(setCells cs o l).length=cs.length:=by
 induction l with
 |nil=>intro cs o;rfl
 |cons c l a=>intro cs o;simp[setCells,a]
theorem Ea{place:Nat->Option (Nat×Nat)}:∀(d:List (Nat×Nat×I)) (b:List (Nat×Value)) (cs cs':List I) (Vs:Array Value),be F w G cs Vs->d.length=b.length ->
  (∀(j:Nat)(a:Nat×Nat×I)(p:Nat×Value),d[j]?=acK a->b[j]?=acK p->place p.1=acK (a.1,a.2.1)/\VR F w G a.2.2 p.2)->jM cs d=acK cs' ->
  ∃e,aaX place Vs b=acK e/\be F w G cs' e:=by
 intro d;induction d with
 | nil=>
  intro b cs cs' Vs h hl _ hf;cases b with
  |nil=>cases hf;exact⟨Vs,rfl,h⟩
  |cons _ _=>cases hl
 | cons a d k=>
  intro b cs cs' Vs h hl f hf;cases b with
  |nil=>cases hl
  | cons p b=>
   obtain⟨off,sz,v⟩:=a;obtain⟨i,V⟩:=p;obtain⟨hp,hv⟩:=f 0 _ _ rfl rfl;simp only[jM]at hf;split at hf
   . rename_i hk;obtain⟨l,m,y⟩:=hk;have hc:=hv.zQ l;have g:=Ou h off v.cells V.cells.toList 0 (by simpa using hc.1) λj c n o q=>hc.2 j c n o (by simpa using q);rw[aaY]at g;obtain⟨e,r,s⟩:=k b _ _ _ g (by simpa using hl) (λj a p ha t=>f (j+1) a p (by simpa using ha) (by simpa using t)) hf;refine⟨e,?_,s⟩;have u:V.cells.size=sz:=by rw[<-hc.1];exact m
     have hle:¬(V.cells.size≠sz\/off+V.cells.size>Vs.size):=by rw[u,<-h.1];omega
     simp only[aaX,hp];have z:V.cells.zipIdx.foldl (λcs (x:Value×Nat)=>cs.setIfInBounds (off+x.2) x.1) Vs=(V.cells.toList.zipIdx 0).foldl (λcs (x:Value×Nat)=>cs.setIfInBounds (off+x.2) x.1) Vs:=by rw[<-Array.foldl_toList,Array.toList_zipIdx]
     rw[af (by simpa using hle),<-r];congr 1
   ·cases hf
theorem Ow{d:TypeDesc}{ty:TypeId}{c:Bool}{x v:I}{X:Value}(a:P.underlying t=acK d)
  (hk:if c then d = .string else ∃e,d = .slice e) (h:ea c x=acK v) (b:VR F w G x X) :
  ∃V,(aaZ #[t] ty #[X]).run P w = .ok V w/\VR F w G v V:=by
 unfold ea at h;split at h
 . cases h;simp at hk;subst hk;obtain rfl:=b.kM;refine⟨_,?_,.int _ _⟩;simp[aaZ,run_underlying a,goInt,D_]
 . cases h;simp at hk;obtain⟨e,rfl⟩:=hk;cases b<;>exact⟨_,by simp[aaZ,run_underlying a,goInt],.int _ _⟩
 . cases h;simp at hk;obtain⟨e,rfl⟩:=hk;cases b;exact⟨_,by simp[aaZ,run_underlying a,goInt],.int _ _⟩
 ·cases h
theorem Ox{mx:Bool}:∀(xs:List I)(Xs:List Value)(x v:I)(X:Value),nC mx x xs=acK v->VR F w G x X->xs.length=Xs.length ->
  (∀(j:Nat)(c:I)(V:Value),xs[j]?=acK c->Xs[j]?=acK V->VR F w G c V) ->
  ∃V,(Xs.foldlM (if mx then aa0 else aa1) X).run P w = .ok V w/\VR F w G v V:=by
 intro xs;induction xs with
 | nil=>
  intro Xs x v X h d hl _;cases Xs with
  |nil=>cases h;exact⟨X,rfl,d⟩
  |cons _ _=>cases hl
 | cons y xs g=>
  intro Xs x v X h d hl e;cases Xs with
  |nil=>cases hl
  | cons Y Xs=>
   have i:=e 0 y Y rfl rfl;simp only[nC]at h;split at h
   . rename_i z hz;unfold qp at hz;split at hz
     . rename_i k a k' b;obtain rfl:=d.hV;obtain rfl:=i.hV;cases hz;obtain⟨V,f,hv⟩:=g Xs _ v _ h (.int _ _) (by simpa using hl) λj c l hc m=>e (j+1) c l (by simpa using hc) (by simpa using m);refine⟨V,?_,hv⟩;cases mx<;>simp[List.foldlM_cons,aa0,aa1]at f ⊢ <;> exact f
     ·cases hz
   ·cases h
end
end Rb
namespace Rb
open Go
variable{o:Obj}{i:Nat}{C:Array Value}{e:TypeId}{x:cx}
section
variable{P:Program}{F:dE}{w w':World}{G G':aW}{H H':Z}
structure eb(w w':World)(o:Obj):Prop where
 heap:w'.heap=w.heap.push o
 os:w'.os=w.os
 tape:w'.tape=w.tape
 output:w'.output=w.output
 drawn:w.drawn<=w'.drawn
theorem eb.alloc(w:World)(o:Obj):eb w (w.alloc o) o:=⟨rfl,rfl,rfl,rfl,hb _⟩
theorem eb.drew(w:World)(o:Obj):eb w (w.drew.alloc o) o:=⟨rfl,rfl,rfl,rfl,aa2 _⟩
theorem eb.d_(h:eb w w' o){k:Nat}(a:k<w.heap.size):w'.heap[k]?=w.heap[k]?:=by rw[h.heap,Array.getElem?_push,bL]
theorem eb.new(h:eb w w' o):w'.heap[w.heap.size]?=acK o:=by rw[h.heap];simp
theorem eb.size(h:eb w w' o):w'.heap.size=w.heap.size+1:=by rw[h.heap];simp
theorem eb.cell(h:eb w w' o){a:Addr}{V:Value}(hc:w.cell? a=acK V):w'.cell? a=acK V:=by rw[aa3 (w:=w) (h.d_ (aa4 w a hc))];exact hc
theorem gy.lt(h:gy F w G i x)(hl:x.live=acI):G.loc i<w.heap.size:=by
 cases x with
 |gone=>cases hl
 |row cs=>obtain⟨C,e,hc,_⟩:=h;exact(aa5.1 hc).1
 |tok n sz=>obtain⟨C,e,hc,_⟩:=h;exact(aa5.1 hc).1
 |hr s pos=>exact(aa5.1 h.1).1
theorem Rel.hX(h:Rel F w G H)(hl:(H.o i).live=acI):i<G.n:=by
 rw[h.n];rcases AH i H.n with a|a
 ·exact a
 ·rw[h.over i a]at hl;cases hl
theorem gy.bh(h:gy F w G i x)(a:GLe w G w' G')(hi:x.live=acI->i<G.n)(U:x.live=acI->w'.heap[G.loc i]?=w.heap[G.loc i]?)
  (hf:x.live=acI->∀j,G'.fz (G.loc i) j->G.fz (G.loc i) j):gy F w' G' i x:=by
 cases x with
 |gone=>trivial
 | row cs=>
  obtain⟨C,e,hc,hs,hz,hv⟩:=h;refine⟨C,e,?_,?_,?_,λj c b=>?_⟩
  ·rw[a.loc i (hi rfl),U rfl];exact hc
  ·rw[a.cap i (hi rfl)];exact hs
  ·rw[a.loc i (hi rfl)];exact λj b=>hz j (hf rfl j b)
  ·obtain⟨V,d,f⟩:=hv j c b;exact⟨V,d,f.mono a⟩
 | tok n sz=>
  obtain⟨C,e,hc,hs,hk,hz⟩:=h;refine⟨C,e,?_,?_,hk,?_⟩
  ·rw[a.loc i (hi rfl),U rfl];exact hc
  ·rw[a.cap i (hi rfl)];exact hs
  ·rw[a.loc i (hi rfl)];exact λj hn b=>hz j hn (hf rfl j b)
 | hr s pos=>
  obtain⟨hc,hz⟩:=h;refine⟨?_,?_⟩
  ·rw[a.loc i (hi rfl),U rfl];exact hc
  ·rw[a.loc i (hi rfl)];exact λj b=>hz j (hf rfl j b)
theorem Rel.kill(h:Rel F w G H)(i:Nat)(hi:i<H.n):Rel F w G (H.set i .gone)/\Step w G H w G (H.set i .gone):=by
 have b:∀j,((H.set i .gone).o j).live=acI->(H.o j).live=acI/\(H.set i .gone).o j=H.o j:=by
  intro j a;simp only[Z.set]at a ⊢;split at a
  ·cases a
  ·rename_i c;exact⟨a,af c⟩
 refine⟨⟨h.n,λj a=>?_,λj=>?_,λj k d h1 e=>h.gz j k d (b j h1).1 (b k e).1,h.e_⟩,?_⟩
 . simp only[Z.set]at a ⊢;split
   ·rfl
   ·exact h.over j a
 . simp only[Z.set];split
   ·trivial
   ·exact h.obj j
 ·exact {GLe.refl w G with size:=hb _,os:=rfl,tape:=rfl,output:=rfl,dr:=hb _,d_:=λ_ _ _=>rfl,owned:=λj a _=>⟨j,(b j a).1,rfl⟩,ff:=λ_ _ h=> .inl h}
def aW.eA(G:aW)(b lo hi:Nat):aW:={G with fz:=λx y=>G.fz x y\/(x=b/\lo<=y/\y<hi)}
def aW.more(G:aW)(b c:Nat):aW:={G with n:=G.n+1,loc:=λi=>if i=G.n then b else G.loc i,cap:=λi=>if i=G.n then c else G.cap i}
theorem GLe.eA(h:eb w w' o)(b lo hi:Nat):GLe w G w' (G.eA b lo hi):=⟨hb _,λ_ _=>rfl,λ_ _=>rfl,λ_ _ hf=> .inl hf,λ_ _ _ _ hc=>h.cell hc⟩
theorem GLe.more(h:eb w w' o)(b c:Nat):GLe w G w' (G.more b c):=⟨aa2 _,λi hi=>af (aa6 hi),λi hi=>af (aa6 hi),λ_ _ hf=>hf,λ_ _ _ _ hc=>h.cell hc⟩
theorem GLe.zS(h:eb w w' o)(b lo hi a c:Nat):GLe w G w' ((G.eA b lo hi).more a c):=⟨aa2 _,λi hi=>af (aa6 hi),λi hi=>af (aa6 hi),λ_ _ hf=> .inl hf,λ_ _ _ _ hc=>h.cell hc⟩
theorem Rel.frozen(h:Rel F w G H)(hp:eb w w' (.cells C e)) :
  Rel F w' (G.eA w.heap.size 0 C.size) H/\Step w G H w' (G.eA w.heap.size 0 C.size) H:=by
 have c:=GLe.eA (G:=G) hp w.heap.size 0 C.size;have d:∀i,(H.o i).live=acI->G.loc i≠w.heap.size:=λi hl=>aa6 ((h.obj i).lt hl);refine⟨⟨h.n,h.over,λi=>(h.obj i).bh c (λhl=>h.hX hl) (λhl=>hp.d_ ((h.obj i).lt hl)) λhl j a=>?_,h.gz,λb o U=>?_⟩,?_⟩
 . rcases a with a|⟨a,_⟩
   ·exact a
   ·exact absurd a (d i hl)
 . rcases U with U|⟨rfl,_,f⟩
   ·obtain⟨V,g⟩:=h.e_ b o U;exact⟨V,hp.cell g⟩
   ·exact⟨C[o],by rw[cell_of_row w' _ o C e (0,0) hp.new];exact aam f⟩
 ·exact {c with size:=by rw[hp.size];omega,os:=hp.os,tape:=hp.tape,output:=hp.output,dr:=hp.drawn,d_:=λk hk _=>hp.d_ hk,owned:=λi hl _=>⟨i,hl,rfl⟩,ff:=λb o hf=>hf.imp id λhf=> .inl (aa7 hf.1.symm)}
theorem Rel.frozenAt(h:Rel F w G H)(hp:eb w w' o)(n:Nat)(hc:∀j,j<n->∃V,w'.cell? ⟨w.heap.size,j,acL⟩=acK V) :
  Rel F w' (G.eA w.heap.size 0 n) H/\Step w G H w' (G.eA w.heap.size 0 n) H:=by
 have c:=GLe.eA (G:=G) hp w.heap.size 0 n;have d:∀i,(H.o i).live=acI->G.loc i≠w.heap.size:=λi hl=>aa6 ((h.obj i).lt hl);refine⟨⟨h.n,h.over,λi=>(h.obj i).bh c (λhl=>h.hX hl) (λhl=>hp.d_ ((h.obj i).lt hl)) λhl j a=>?_,h.gz,λb o U=>?_⟩,?_⟩
 . rcases a with a|⟨a,_⟩
   ·exact a
   ·exact absurd a (d i hl)
 . rcases U with U|⟨rfl,_,e⟩
   ·obtain⟨V,f⟩:=h.e_ b o U;exact⟨V,hp.cell f⟩
   ·exact hc o e
 ·exact {c with size:=by rw[hp.size];omega,os:=hp.os,tape:=hp.tape,output:=hp.output,dr:=hp.drawn,d_:=λk hk _=>hp.d_ hk,owned:=λi hl _=>⟨i,hl,rfl⟩,ff:=λb o hf=>hf.imp (λh=>h) λhf=> .inl (aa7 hf.1.symm)}
theorem Oy(hp:eb w w' (.cells C e)){cs:List I}(hv:be F w G cs C) :
  (∀(j:Nat)(c:I),cs[j]?=acK c->(G.eA w.heap.size 0 C.size).fz w.heap.size (0+j)/\w'.cell? ⟨w.heap.size,0+j,acL⟩=acK (C.getD j undef)) /\
  (∀(j:Nat)(c:I),cs[j]?=acK c->VR F w' (G.eA w.heap.size 0 C.size) c (C.getD j undef)):=by
 have d:=GLe.eA (G:=G) hp w.heap.size 0 C.size;have key:∀(j:Nat)(c:I),cs[j]?=acK c->C[j]?=acK (C.getD j undef)/\j<C.size:=by intro j c a;have b:j<C.size:=hv.1▸(aal.1 a).1;exact⟨by simp[b],b⟩
 refine⟨λj c a=>?_,λj c a=>(hv.2 j c _ a (key j c a).1).mono d⟩;rw[aa8];exact⟨.inr ⟨rfl,aaU _,(key j c a).2⟩,by rw[cell_of_row w' _ j C e (0,0) hp.new];exact(key j c a).1⟩
theorem Rel.push(h:Rel F w G H)(hp:eb w w' (.cells C e))(hi c:Nat)(z:hi<=C.size)(x:cx)
  (u:gy F w' ((G.eA w.heap.size 0 hi).more w.heap.size c) H.n x) :
  Rel F w' ((G.eA w.heap.size 0 hi).more w.heap.size c) (H.push x)/\Step w G H w' ((G.eA w.heap.size 0 hi).more w.heap.size c) (H.push x):=by
 have s:=GLe.zS (G:=G) hp w.heap.size 0 hi w.heap.size c;have hn:=h.n;have q:∀i,(H.o i).live=acI->G.loc i≠w.heap.size:=λi hl=>aa6 ((h.obj i).lt hl);have g:∀i,i≠H.n->((G.eA w.heap.size 0 hi).more w.heap.size c).loc i=G.loc i:=λi hi=>af (show ¬i=G.n by omega);have r:((G.eA w.heap.size 0 hi).more w.heap.size c).loc H.n=w.heap.size:=ab hn.symm;have a:∀i,i≠H.n->(H.push x).o i=H.o i:=λi hi=>af hi;refine⟨⟨by show G.n+1=H.n+1;omega,λi d=>?_,λi=>?_,λi j v h1 p=>?_,λb o U=>?_⟩,?_⟩
 . have t:H.n+1<=i:=d;rw[a i (by omega)];exact h.over i (by omega)
 . by_cases f:i=H.n
   . subst f;show gy F w' _ H.n (if H.n=H.n then x else H.o H.n);rw[ab rfl];exact u
   . rw[a i f];refine(h.obj i).bh s (λhl=>h.hX hl) (λhl=>hp.d_ ((h.obj i).lt hl)) λhl j l=>?_;rcases l with l|⟨l,_⟩
     ·exact l
     ·exact absurd l (q i hl)
 . by_cases d:i=H.n<;>by_cases m:j=H.n
   ·omega
   ·rw[d,r,g j m];rw[a j m]at p;exact(q j p).symm
   ·rw[m,r,g i d];rw[a i d]at h1;exact q i h1
   ·rw[g i d,g j m];rw[a i d]at h1;rw[a j m]at p;exact h.gz i j v h1 p
 . rcases U with U|⟨rfl,_,A⟩
   ·obtain⟨V,y⟩:=h.e_ b o U;exact⟨V,hp.cell y⟩
   ·exact⟨C[o],by rw[cell_of_row w' _ o C e (0,0) hp.new];exact aam (by omega)⟩
 . refine {s with size:=by rw[hp.size];omega,os:=hp.os,tape:=hp.tape,output:=hp.output,dr:=hp.drawn,d_:=λk hk _=>hp.d_ hk,owned:=λi hl t=>?_,ff:=λb o hf=>hf.imp id λhf=> .inl (aa7 hf.1.symm)};by_cases f:i=H.n
   ·rw[f,r]at t;omega
   . rw[a i f]at hl;exact⟨i,hl,(g i f).symm⟩
theorem Rel.Oz(h:Rel F w G H)(hp:eb w w' o)(c:Nat)(x:cx)(s:gy F w' (G.more w.heap.size c) H.n x) :
  Rel F w' (G.more w.heap.size c) (H.push x)/\Step w G H w' (G.more w.heap.size c) (H.push x):=by
 have p:=GLe.more (G:=G) hp w.heap.size c;have hn:=h.n;have q:∀i,(H.o i).live=acI->G.loc i≠w.heap.size:=λi hl=>aa6 ((h.obj i).lt hl);have f:∀i,i≠H.n->(G.more w.heap.size c).loc i=G.loc i:=λi hi=>af (show ¬i=G.n by omega);have m:(G.more w.heap.size c).loc H.n=w.heap.size:=ab hn.symm;have a:∀i,i≠H.n->(H.push x).o i=H.o i:=λi hi=>af hi;refine⟨⟨by show G.n+1=H.n+1;omega,λi d=>?_,λi=>?_,λi j t h1 l=>?_,λb o U=>?_⟩,?_⟩
 . have r:H.n+1<=i:=d;rw[a i (by omega)];exact h.over i (by omega)
 . by_cases e:i=H.n
   . subst e;show gy F w' _ H.n (if H.n=H.n then x else H.o H.n);rw[ab rfl];exact s
   . rw[a i e];exact(h.obj i).bh p (λhl=>h.hX hl) (λhl=>hp.d_ ((h.obj i).lt hl)) λ_ _ u=>u
 . by_cases d:i=H.n<;>by_cases g:j=H.n
   ·omega
   ·rw[d,m,f j g];rw[a j g]at l;exact(q j l).symm
   ·rw[g,m,f i d];rw[a i d]at h1;exact q i h1
   ·rw[f i d,f j g];rw[a i d]at h1;rw[a j g]at l;exact h.gz i j t h1 l
 ·obtain⟨V,v⟩:=h.e_ b o U;exact⟨V,hp.cell v⟩
 . refine {p with size:=by rw[hp.size];omega,os:=hp.os,tape:=hp.tape,output:=hp.output,dr:=hp.drawn,d_:=λk hk _=>hp.d_ hk,owned:=λi hl r=>?_,ff:=λ_ _ h=> .inl h};by_cases e:i=H.n
   ·rw[e,m]at r;omega
   . rw[a i e]at hl;exact⟨i,hl,(f i e).symm⟩
theorem Rel.OA(h:Rel F w G H)(hp:eb w w' o):Rel F w' G H/\Step w G H w' G H:=by
 have a:GLe w G w' G:=⟨hb _,λ_ _=>rfl,λ_ _=>rfl,λ_ _ hf=>hf,λ_ _ _ _ hc=>hp.cell hc⟩
 refine⟨⟨h.n,h.over,λi=>(h.obj i).bh a (λhl=>h.hX hl) (λhl=>hp.d_ ((h.obj i).lt hl)) λ_ _ c=>c,h.gz,λb o U=>?_⟩,?_⟩
 ·obtain⟨V,d⟩:=h.e_ b o U;exact⟨V,hp.cell d⟩
 ·exact {a with size:=by rw[hp.size];omega,os:=hp.os,tape:=hp.tape,output:=hp.output,dr:=hp.drawn,d_:=λk hk _=>hp.d_ hk,owned:=λi hl _=>⟨i,hl,rfl⟩,ff:=λ_ _ h=> .inl h}
theorem Rel.qA(h:Rel F w G H){b c:Nat}(U:∀i,(H.o i).live=acI->G.loc i≠b)(x:cx)(p:GLe w G w (G.more b c)->gy F w (G.more b c) H.n x) :
  GLe w G w (G.more b c)/\Rel F w (G.more b c) (H.push x):=by
 have k:GLe w G w (G.more b c):=⟨aa2 _,λi hi=>af (aa6 hi),λi hi=>af (aa6 hi),λ_ _ hf=>hf,λ_ _ _ _ hc=>hc⟩
 have hn:=h.n;have f:∀i,i≠H.n->(G.more b c).loc i=G.loc i:=λi hi=>af (show ¬i=G.n by omega);have l:(G.more b c).loc H.n=b:=ab hn.symm;have d:∀i,i≠H.n->(H.push x).o i=H.o i:=λi hi=>af hi;refine⟨k,⟨by show G.n+1=H.n+1;omega,λi a=>?_,λi=>?_,λi j q h1 g=>?_,h.e_⟩⟩
 . have s:H.n+1<=i:=a;rw[d i (by omega)];exact h.over i (by omega)
 . by_cases m:i=H.n
   . subst m;show gy F w _ H.n (if H.n=H.n then x else H.o H.n);rw[ab rfl];exact p k
   . rw[d i m];exact(h.obj i).bh k (λhl=>h.hX hl) (λ_=>rfl) λ_ _ r=>r
 . by_cases a:i=H.n<;>by_cases e:j=H.n
   ·omega
   ·rw[a,l,f j e];rw[d j e]at g;exact(U j g).symm
   ·rw[e,l,f i a];rw[d i a]at h1;exact U i h1
   ·rw[f i a,f j e];rw[d i a]at h1;rw[d j e]at g;exact h.gz i j q h1 g
structure kN(w w':World)(g:Nat):Prop where
 size:w'.heap.size=w.heap.size
 other:∀k,k≠g->w'.heap[k]?=w.heap[k]?
 os:w'.os=w.os
 tape:w'.tape=w.tape
 output:w'.output=w.output
 drawn:w.drawn<=w'.drawn
theorem kN.setRow(w:World)(g:Nat)(C:Array Value):kN w (w.setRow g C) g:=⟨by simp[aa9],λk hk=>by simp[aa9,Array.getElem?_modify,Ne.symm hk],rfl,rfl,rfl,hb _⟩
theorem Rel.write(h:Rel F w G H)(hl:(H.o i).live=acI)(l:∀j,¬G.fz (G.loc i) j)(ht:kN w w' (G.loc i))(x:cx)(u:x.live=acI)(m:GLe w G w' G->gy F w' G i x) :
  Rel F w' G (H.set i x)/\Step w G H w' G (H.set i x):=by
 have d:GLe w G w' G:=⟨hb _,λ_ _=>rfl,λ_ _=>rfl,λ_ _ hf=>hf,λb o V hf hc=>by have U:b≠G.loc i:=λe=>l o (e▸hf);rw[aa3 (w:=w) (ht.other b U)];exact hc⟩
 have v:i<H.n:=h.n▸h.hX hl;have f:∀j,j≠i->(H.set i x).o j=H.o j:=λj c=>af c;have p:(H.set i x).o i=x:=ab rfl;refine⟨⟨h.n,λj c=>?_,λj=>?_,λj k q h1 r=>?_,λb o U=>?_⟩,?_⟩
 . have s:H.n<=j:=c;rw[f j (by omega)];exact h.over j s
 . by_cases a:j=i
   ·subst a;rw[p];exact m d
   . rw[f j a];exact(h.obj j).bh d (λhl=>h.hX hl) (λg=>ht.other _ (h.gz j i a g hl)) λ_ _ hf=>hf
 . have key:∀j,((H.set i x).o j).live=acI->(H.o j).live=acI:=by
     intro j c;by_cases a:j=i
     ·subst a;exact hl
     ·rw[f j a]at c;exact c
   exact h.gz j k q (key j h1) (key k r)
 . obtain⟨V,t⟩:=h.e_ b o U;exact⟨V,d.cell b o V U t⟩
 . refine {d with size:=by rw[ht.size];exact hb _,os:=ht.os,tape:=ht.tape,output:=ht.output,dr:=ht.drawn,d_:=λk _ hn=>ht.other k (λe=>hn i hl e.symm),owned:=λj g _=>?_,ff:=λ_ _ h=> .inl h};by_cases a:j=i
   ·subst a;exact⟨j,hl,rfl⟩
   ·rw[f j a]at g;exact⟨j,g,rfl⟩
end
end Rb
namespace Rb
open Go
variable{cs:List I}{o b n:Nat}{t:TypeId}{agg:Bool}{v x:I}{X:Value}
section
variable{P:Program}{F:dE}{w:World}{G:aW}{H:Z}
def jP(F:dE)(w:World)(G:aW)(H:Z)(v:I)(H':Z)(r:Result Value):Prop:=∃V w' G',r = .ok V w'/\VR F w' G' v V/\Rel F w' G' H'/\Step w G H w' G' H'
def ls(F:dE)(w:World)(G:aW)(b o:Nat)(cs:List I):Prop:=∀(j:Nat)(c:I),cs[j]?=acK c->∃V,w.cell? ⟨b,o+j,acL⟩=acK V/\VR F w G c V
theorem ls.nF(h:ls F w G b o cs):∃Vs:List Value,be F w G cs Vs.toArray/\∀(j:Nat)(V:Value),Vs[j]?=acK V->w.cell? ((⟨b,o,acL⟩:Addr).add j)=acK V:=by
 refine⟨(aa_ cs.length).map λj=>(w.cell? ⟨b,o+j,acL⟩).getD undef,be.nE (by simp) λj c V hc a=>?_,λj V a=>?_⟩
 . obtain⟨k,f,g⟩:=h j c hc;have e:=(aal.1 hc).1;simp[e,f]at a;subst a;exact g
 . rw [lq];simp only[aba]at a;cases d:(aa_ cs.length)[j]? with
   |none=>simp[d]at a
   | some i=>
    have e:j<cs.length:=by have:=(aal.1 d).1;simpa using this
    have:i=j:=by simp[e]at d;exact d.symm
    subst this;simp[d]at a;obtain⟨k,f,g⟩:=h i cs[i] (abb e);rw[f]at a ⊢;simpa using a
theorem ls.cut(h:ls F w G b o cs)(n m:Nat):ls F w G b (o+n) ((cs.drop n).take m):=by
 intro j c a;rw[aan]at a;split at a
 . rw[aao]at a;obtain⟨V,d,e⟩:=h _ _ a;exact⟨V,by rw[aaH];exact d,e⟩
 ·cases a
theorem Eb{n o b a:Nat}(g:i_ P t n agg=acI)(h:bO cs o n agg=acK v)(hc:ls F w G b a cs) :
  ∃V,(loadVar t ⟨b,a+o,acL⟩).run P w = .ok V w/\VR F w G v V:=by
 obtain⟨d,inf,c,hi,ha,hs,l⟩:=tg g;unfold bO at h;split at h
 . rename_i hle;cases agg with
   | true=>
    simp at h;subst h;obtain⟨Vs,e,i⟩:=(hc.cut o n).nF;have hlen:Vs.length=n:=by have:=e.1;simp at this;omega
    have f:=run_loadCells_list (P:=P) w ⟨b,a+o,acL⟩ Vs i;rw[hlen]at f;refine⟨_,?_,e.agg⟩;cases d<;>simp[iG]at ha<;>simp[loadVar,isAgg,aaq,typeInfo,run_underlying c,hi,hs,f]
   | false=>simp at h;obtain⟨V,j,k⟩:=hc _ _ h;refine⟨V,?_,k⟩;cases d<;>simp[iG]at ha<;>simp[loadVar,isAgg,run_underlying c,j]
 ·cases h
theorem gy.tj{i:Nat}(h:gy F w G i (.row cs)):ls F w G (G.loc i) 0 cs:=by obtain⟨C,e,hc,hs,hz,hv⟩:=h;intro j c a;obtain⟨V,b,d⟩:=hv j c a;exact⟨V,by rw[aa8,cell_of_row w _ j C e (0,0) hc];exact b,d⟩
theorem VR.OB(h:VR F w G (.ae cs) (.pointer (acK ⟨b,o,acL⟩))):ls F w G b o cs:=by
 cases h with
 |ae _ b o Vs h hv=>exact λj c a=>⟨Vs j,(h j c a).2,hv j c a⟩
theorem VR.OC(h:VR F w G (.ae cs) X):∃b o,X = .pointer (acK ⟨b,o,acL⟩):=by
 cases h with
 |ae _ b o Vs h hv=>exact⟨b,o,rfl⟩
theorem Ec(e:i_ P t n agg=acI)(g:Rel F w G H)(h:aj H n agg x=acK v)(c:VR F w G x X) :
  ∃V,(abc t X).run P w = .ok V w/\VR F w G v V:=by
 unfold aj at h;split at h
 . rename_i id o;split at h
   . rename_i cs i;have f:=g.obj id;rw[i]at f;obtain⟨V,a,d⟩:=Eb e h f.tj;rw[aa8]at a;cases c with
     |ptr _ _ j=>exact⟨V,by simp[abc,aaJ,a],d⟩
   ·cases h
 . rename_i cs;obtain⟨b,o,rfl⟩:=c.OC;obtain⟨V,a,d⟩:=Eb e h c.OB;exact⟨V,by simp[abc,aaJ];simpa using a,d⟩
 ·cases h
theorem Ed(l:List I):∀(cs:List I)(o j:Nat),o+l.length<=cs.length->(setCells cs o l)[j]?=if o<=j/\j<o+l.length then l[j-o]? else cs[j]?:=by
 induction l with
 |nil=>intro cs o j _;simp[setCells];intro h1 a;omega
 | cons c l b=>
  intro cs o j hl;simp only[List.length_cons]at hl;rw[setCells,b _ _ _ (by simp;omega)];by_cases h1:j=o
  . subst h1;rw[bL,lu,abd (by omega)];simp
  . by_cases a:o+1<=j/\j<o+1+l.length
    . rw[ab a,oQ];have:j-o=(j-(o+1))+1:=by omega
      rw[this];simp
    . rw[af a,abe (by omega),Ee]
theorem zT(C:Array Value)(L:List Value)(o j:Nat)(h:o+L.length<=C.size) :
  (C.toList.take o++L++C.toList.drop (o+L.length)).toArray[j]?=if o<=j/\j<o+L.length then L[j-o]? else C[j]?:=by
 simp only[abf];rw[List.append_assoc,aaL];have a:(C.toList.take o).length=o:=by simp;omega
 rw[a];by_cases h1:j<o
 ·rw[ab h1,bL,aan,ab h1];simp
 . rw [af h1,aaL];by_cases b:j<o+L.length
   ·rw[dN,dN]
   . rw[bL,bL,aao];have:o+L.length+(j-o-L.length)=j:=by omega
     rw[this];simp
theorem tm{id o:Nat}{cs l:List I}{L:List Value}(g:Rel F w G H)(h:H.o id = .row cs)(hl:be F w G l L.toArray)(p:o+l.length<=cs.length)(q:l.all I.scalar=acI) :
  ∃w',(storeCells ⟨G.loc id,o,acL⟩ L).run P w = .ok () w'/\Rel F w' G (H.set id (.row (setCells cs o l)))/\Step w G H w' G (H.set id (.row (setCells cs o l))):=by
 have i:=g.obj id;rw[h]at i;obtain⟨C,e,hc,hs,hz,hv⟩:=i;have v:cs.length<=C.size:=by
  rcases AH C.size cs.length with d|r
  . obtain⟨V,b,_⟩:=hv C.size cs[C.size] (abb d);simp at b
  ·exact r
 have x:l.length=L.length:=by simpa using hl.1
 have s:o+0+L.length<=C.size:=by omega
 have k:=run_storeCells_at P (G.loc id) o e L 0 C w hc s (λV b=>by
   obtain⟨j,a,rfl⟩:=abg.1 b;have m:j<l.length:=by omega
   have f:=hl.2 j l[j] L[j] (abb m) (by simp[a]);exact f.D8 (abh.1 q _ (abi m)))
 simp only[aaY]at k;refine⟨_,k,?_⟩;have t:(H.o id).live=acI:=by rw[h];rfl
 refine g.write t hz (kN.setRow w _ _) _ rfl λn=>⟨_,e,setRow_heap w (G.loc id) C _ e (0,0) hc,?_,hz,λj c a=>?_⟩
 ·rw[<-hs];simp;omega
 . rw [Ed l cs o j p]at a;rw[zT C L o j (by omega)];split at a
   . rename_i u;rw[dN];have d:j-o<L.length:=by omega
     exact⟨L[j-o],abb d,(hl.2 (j-o) c L[j-o] a (by simp[d])).mono n⟩
   . rename_i u;rw[bL];obtain⟨V,b,f⟩:=hv j c a;exact⟨V,b,f.mono n⟩
theorem OD{X V:Value}{H':Z}(a:i_ P t n agg=acI)(b:Rel F w G H)(h:cf H n x v=acK H')(c:VR F w G x X)(hv:VR F w G v V) :
  ∃w',(abj t X V).run P w = .ok () w'/\Rel F w' G H'/\Step w G H w' G H':=by
 obtain⟨d,inf,m,hi,ha,hs,p⟩:=tg a;unfold cf at h;split at h
 . rename_i id o;split at h
   . rename_i cs e;split at h
     . rename_i hk;obtain⟨f,q,g,r⟩:=hk;cases h;have hc:=hv.zQ f;obtain⟨w',i,j⟩:=tm (P:=P) (o:=o) (l:=v.cells) (L:=V.cells.toList) b e (by simpa using hc) (by omega) g;cases c with
       | ptr _ _ s=>
        refine⟨w',?_,j⟩;have k:V.cells.size=inf.size:=by rw[<-hc.1];omega
        simp[abj,aaJ,storeVar,aaq,typeInfo,hi,k];exact i
     ·cases h
   ·cases h
 ·cases h
end
end Rb
namespace Rb
open Go
variable{e t:TypeId}{mu:Bool}{C:Array Value}{cs zero:List I}{H':Z}{inf:TypeInfo}{z:Value}
section
variable{P:Program}{F:dE}{w w':World}{G:aW}{H:Z}
theorem Rel.zU(h:Rel F w G H)(j:Nat):¬G.fz w.heap.size j:=λhf=>by obtain⟨V,a⟩:=h.e_ _ _ hf;have:=aa4 w _ a;simp at this
theorem tn(d:Rel F w G H)(hp:eb w w' (.cells C e))(hv:∀(j:Nat)(c:I),cs[j]?=acK c->∃V,C[j]?=acK V/\VR F w G c V) :
  ∃G',Rel F w' G' (H.push (.row cs))/\Step w G H w' G' (H.push (.row cs))/\H.n<G'.n/\G'.loc H.n=w.heap.size/\G'.cap H.n=C.size:=by
 have hn:=d.n;have f:((G.eA w.heap.size 0 0).more w.heap.size C.size).loc H.n=w.heap.size:=ab hn.symm;have g:((G.eA w.heap.size 0 0).more w.heap.size C.size).cap H.n=C.size:=ab hn.symm;have b:=d.push hp 0 C.size (aaU _) (.row cs) ⟨C,e,by rw[f];exact hp.new,g.symm,λj a=>by
   rw[f]at a;rcases a with a|⟨_,_,a⟩
   ·exact d.zU j a
   ·omega,λj c a=>by
   obtain⟨V,h,b⟩:=hv j c a;exact⟨V,h,b.mono (GLe.zS hp _ _ _ _ _)⟩⟩
 exact⟨_,b.1,b.2,by show H.n<G.n+1;omega,f,g⟩
theorem be.part(h:be F w G cs C):∀(j:Nat)(c:I),cs[j]?=acK c->∃V,C[j]?=acK V/\VR F w G c V:=λj c a=>h.get a
theorem zV(b:Rel F w G H)(hp:eb w w' (.cells C e))(hv:be F w G cs C) :
  ∃G',Rel F w' G' H/\Step w G H w' G' H/\VR F w' G' (.ae cs) (.pointer (acK ⟨w.heap.size,0,acL⟩))/\∀len,VR F w' G' (.aq .full len cs) (.slice (acK ⟨w.heap.size,0,acL⟩) len len):=by
 have a:=b.frozen hp;have hc:=Oy (G:=G) hp hv;exact⟨_,a.1,a.2,.ae _ _ _ _ hc.1 hc.2,λlen=> .aq _ _ _ _ _ _ _ rfl (hb _) hc.1 hc.2⟩
theorem Ef{e:TypeId}{mu:Bool}(c:Rel F w G H)(hv:be F w G cs C) :
  jP F w G H (bQ H mu cs).1 (bQ H mu cs).2 (.ok (.pointer (acK ⟨w.heap.size,0,acL⟩)) (w.alloc (.cells C e))):=by
 unfold bQ;cases mu with
 | true=>obtain⟨G',a,b,hn,d,f⟩:=tn c (eb.alloc w (.cells C e)) hv.part;exact⟨_,_,G',rfl,by rw[<-d];exact .ptr _ _ hn,a,b⟩
 | false=>obtain⟨G',a,b,hp,_⟩:=zV c (eb.alloc w (.cells C e)) hv;exact⟨_,_,G',rfl,hp,a,b⟩
theorem OE{t:TypeId}{n:Nat}{x v:I}{X:Value}(a:Rel F w G H)(h:b5 H mu n x=acK (v,H'))(b:VR F w G x X) :
  jP F w G H v H' ((abk t X).run P w):=by
 unfold b5 at h;split at h
 . rename_i hk;have c:=Ef (e:=t) (mu:=mu) a (b.zQ hk.1);have d:(abk t X).run P w = .ok (.pointer (acK ⟨w.heap.size,0,acL⟩)) (w.alloc (.cells X.cells t)):=by
    simp[abk,newVar,newRow]
   rw[d];have e:=aaC.inj h;rw[show v=(bQ H mu x.cells).1 from(congrArg Prod.fst e).symm,show H'=(bQ H mu x.cells).2 from(congrArg Prod.snd e).symm];exact c
 ·cases h
theorem range_zero:abl 0 = #[]:=rfl
theorem OG{mu:Bool}(a:Rel F w G H)(hi:P.info? t=acK inf)(hz:inf.zero=acK z)(hv:be F w G zero z.cells) :
  jP F w G H (bQ H mu zero).1 (bQ H mu zero).2 ((abm t acI (.tuple #[])).run P w):=by
 have b:=Ef (e:=t) (mu:=mu) a hv;have c:(abm t acI (.tuple #[])).run P w = .ok (.pointer (acK ⟨w.heap.size,0,acL⟩)) (w.alloc (.cells z.cells t)):=by simp[abm,zeroValue,typeInfo,hi,hz,newVar,newRow]
 rw[c];exact b
theorem OH{α:Type}(l:List α):∀(n i:Nat),((KT n l).flatten)[i]?=if i<n*l.length then l[i%l.length]? else acL:=by
 intro n;induction n with
 |zero=>intro i;simp
 | succ n b=>
  intro i;rw[abn,abo,aaL];by_cases h:i<l.length
  ·rw[ab h,ab (by rw[aaV];omega),Nat.mod_eq_of_lt h]
  . rw [af h,b];have e:i-l.length<n*l.length↔i<(n+1)*l.length:=by rw[aaV];omega
    by_cases a:i<(n+1)*l.length
    . rw[ab a,ab (e.2 a)];congr 1;rw[Nat.mod_eq_sub_mod (by omega:i>=l.length)]
    ·rw[af a,af (λc=>a (e.1 c))]
theorem tp{Z:Array Value}(h:be F w G zero Z)(n:Nat):be F w G (KT n zero).flatten ((abl (n*zero.length)).map λi=>Z[i%Z.size]!):=by
 refine⟨by simp,λj c V hc a=>?_⟩;rw[OH]at hc;split at hc
 . rename_i d;simp only[Array.getElem?_map,Array.getElem?_range,d,bc,aaD,aaC.injEq]at a;obtain⟨e,b,f⟩:=h.get hc;rw[h.1]at b;have:Z[j%Z.size]! = e:=by
    rw[getElem!_def,b]
   rw[this]at a;subst a;exact f
 ·cases hc
theorem OI{t e:TypeId}{inf:TypeInfo}{mu:Bool}{sz len:Nat}{zero:List I}{z:Value}{b:List (Nat×Nat×I)}{c:List (Nat×Value)}{v:I}{H':Z}(m:Rel F w G H)
  (ht:P.underlying t=acK (.slice e)) (hi:P.info? e=acK inf) (hs:inf.size=sz) (hz:inf.zero=acK z) (n:be F w G zero z.cells) (o:zero.length=sz) (J:len*sz<=16777216)
  (hl:b.length=c.length) (q:∀(j:Nat)(a:Nat×Nat×I)(p:Nat×Value),b[j]?=acK a->c[j]?=acK p->(p.1*sz,sz)=(a.1,a.2.1)/\VR F w G a.2.2 p.2)
  (h:cI H mu sz len zero b=acK (v,H')):jP F w G H v H' ((abp t len c.toArray).run P w):=by
 unfold cI at h;cases hf:jM (KT len zero).flatten b with
 |none=>simp[hf]at h
 | some cells=>
  simp only[hf,aaD,aaC.injEq]at h;have r:=tp n len;obtain ⟨C,d,f⟩:=Ea (place:=λi=>acK (i*sz,sz)) b c _ _ _ r hl (λj a p ha hp=>by obtain⟨h1,s⟩:=q j a p ha hp;exact⟨by rw[h1],s⟩) hf
  have u:¬(16777216<len*inf.size):=by rw[hs];omega
  have x:(abp t len c.toArray).run P w = .ok (.slice (acK ⟨w.heap.size,0,acL⟩) len len) (w.alloc (.cells C e)):=by
   rw[o]at d;subst hs;by_cases g:len*inf.size=0
   . have y:aaX (λi=>acK (i*inf.size,inf.size)) #[] c=acK C:=by
       rw[g,range_zero]at d;simpa using d
     simp[abp,run_underlying ht,aaq,typeInfo,hi,g,range_zero,y,newRow]
   ·simp[abp,run_underlying ht,aaq,typeInfo,zeroValue,hi,hz,g,u,d,newRow]
  rw[x];cases mu with
  | true=>
   simp at h;obtain⟨rfl,rfl⟩:=h;obtain⟨G',k,l,hn,A,B⟩:=tn m (eb.alloc w (.cells C e)) f.part;refine⟨_,_,G',rfl,?_,k,l⟩;rw[<-A];refine .row _ _ _ _ _ hn (hb _) ?_;have:=tp n len;rw[B,<-f.1];have hlen:∀(b:List (Nat×Nat×I)) (cs cs':List I),jM cs b=acK cs'->cs'.length=cs.length:=by
    intro b;induction b with
    |nil=>intro cs cs' h;cases h;rfl
    | cons a b D=>
     intro cs cs' h;simp only[jM]at h;split at h
     ·rw[D _ _ h,Ov]
     ·cases h
   rw[hlen _ _ _ hf];simp[o]
  | false=>simp at h;obtain⟨rfl,rfl⟩:=h;obtain⟨G',k,l,_,E⟩:=zV m (eb.alloc w (.cells C e)) f;exact⟨_,_,G',rfl,E len,k,l⟩
theorem OJ{t e:TypeId}{inf:TypeInfo}{mu:Bool}{sz bytes:Nat}{zero:List I}{z:Value}{len cap v:I}{L d:Value}{H':Z}(f:Rel F w G H)
  (ht:P.underlying t=acK (.slice e)) (hi:P.info? e=acK inf) (hs:inf.size=sz) (U:inf.bytes=bytes) (hz:inf.zero=acK z) (r:be F w G zero z.cells)
  (h:jN H mu sz bytes zero len cap=acK (v,H')) (hl:VR F w G len L) (hc:VR F w G cap d):jP F w G H v H' ((abq t L d).run P w):=by
 unfold jN at h;split at h
 . rename_i n c;obtain rfl:=hl.hV;obtain rfl:=hc.hV;split at h
   . rename_i hk;obtain⟨g,s,C,D,j⟩:=hk;obtain⟨n',rfl⟩:=abr g;obtain⟨c',rfl⟩:=abr (Int.le_trans g s);have u:n'<=c':=by omega
     have w1:abt.wrap (n':Int)=n':=by simp[abu,aaz,aay];omega
     have w2:abt.wrap (c':Int)=c':=by simp[abu,aaz,aay];omega
     have k:=tp r c';have l:¬(281474976710656<(inf.bytes:Int)*(c':Int)):=by rw[U];omega
     have m:¬((n':Int)<0):=by omega
     have o:¬((c':Int)<0):=by omega
     have p:¬(c'<n'):=by omega
     have x:(abq t (.int .i64 n') (.int .i64 c')).run P w =
       .ok (.slice (acK ⟨w.heap.size,0,acL⟩) n' c') (w.alloc (.cells ((abl (c'*zero.length)).map λi=>z.cells[i%z.cells.size]!) e)):=by
      rw[j];subst hs;by_cases q:c'*inf.size=0
      ·simp[abq,run_underlying ht,asInt,asIntOf,typeInfo,aaq,hi,w1,w2,l,m,o,p,q,range_zero,newRow]
      ·simp[abq,run_underlying ht,asInt,asIntOf,typeInfo,aaq,zeroValue,hi,hz,w1,w2,l,m,o,p,q,newRow]
     rw[x];simp only[Int.toNat_natCast]at h;cases mu with
     | true=>simp at h;obtain⟨rfl,rfl⟩:=h;obtain⟨G',a,b,hn,y,A⟩:=tn f (eb.alloc w (.cells _ e)) k.part;refine⟨_,_,G',rfl,?_,a,b⟩;rw[<-y];refine .row _ _ _ _ _ hn u ?_;rw[A];simp[j]
     | false=>
      simp at h;obtain⟨E,rfl,rfl⟩:=h;obtain rfl:n'=c':=by omega
      obtain⟨G',a,b,_,B⟩:=zV f (eb.alloc w (.cells _ e)) k;exact⟨_,_,G',rfl,B n',a,b⟩
   ·cases h
 ·cases h
end
end Rb
namespace Rb
open Go
variable{sz m:Nat}{L M:List Value}{e:TypeId}{cs news:List I}{y:I}{Y z:Value}{C:Array Value}
section
variable{P:Program}{F:dE}{w w':World}{G:aW}{H:Z}
theorem Rel.pass(h:Rel F w G H){i:Nat}(hl:(H.o i).live=acI)(ht:kN w w' (G.loc i))(lo hi:Nat)(q:GLe w G w' ((G.eA (G.loc i) lo hi).more (G.loc i) (G.cap i)))(x:cx)
  (v:gy F w' ((G.eA (G.loc i) lo hi).more (G.loc i) (G.cap i)) H.n x) (hf:∀o,lo<=o->o<hi->∃V,w'.cell? ⟨G.loc i,o,acL⟩=acK V) :
  Rel F w' ((G.eA (G.loc i) lo hi).more (G.loc i) (G.cap i)) ((H.set i .gone).push x)/\Step w G H w' ((G.eA (G.loc i) lo hi).more (G.loc i) (G.cap i)) ((H.set i .gone).push x):=by
 have hn:=h.n;have I:i<H.n:=h.n▸h.hX hl;have g:∀j,j≠H.n->((G.eA (G.loc i) lo hi).more (G.loc i) (G.cap i)).loc j=G.loc j:=λj t=>af (show ¬j=G.n by omega);have r:((G.eA (G.loc i) lo hi).more (G.loc i) (G.cap i)).loc H.n=G.loc i:=ab hn.symm;have y:((H.set i .gone).push x).o H.n=x:=ab rfl;have u:((H.set i .gone).push x).o i = .gone:=by show(if i=H.n then x else(if i=i then cx.gone else H.o i)) = .gone;rw[bL,ab rfl]
 have s:∀j,j≠H.n->j≠i->((H.set i .gone).push x).o j=H.o j:=by intro j h1 a;show(if j=H.n then x else(if j=i then cx.gone else H.o j))=H.o j;rw[af h1,af a]
 have l:∀j,j≠H.n->(((H.set i .gone).push x).o j).live=acI->(H.o j).live=acI/\j≠i:=by
  intro j h1 a;by_cases c:j=i
  ·rw[c,u]at a;cases a
  ·rw[s j h1 c]at a;exact⟨a,c⟩
 refine⟨⟨by show G.n+1=H.n+1;omega,λj t=>?_,λj=>?_,λj k z h1 a=>?_,λb o U=>?_⟩,?_⟩
 . have J:H.n+1<=j:=t;rw[s j (by omega) (by omega)];exact h.over j (by omega)
 . by_cases f:j=H.n
   ·subst f;rw[y];exact v
   . by_cases c:j=i
     ·rw[c,u];trivial
     . rw[s j f c];refine(h.obj j).bh q (λd=>h.hX d) (λd=>ht.other _ (h.gz j i c d hl)) λd k hk=>?_;rcases hk with hk|⟨hk,_⟩
       ·exact hk
       ·exact absurd hk (h.gz j i c d hl)
 . by_cases m:j=H.n<;>by_cases p:k=H.n
   ·omega
   . obtain⟨A,B⟩:=l k p a;rw[m,r,g k p];exact(h.gz k i B A hl).symm
   . obtain⟨C,D⟩:=l j m h1;rw[p,r,g j m];exact h.gz j i D C hl
   ·rw[g j m,g k p];exact h.gz j k z (l j m h1).1 (l k p a).1
 . rcases U with U|⟨rfl,h1,a⟩
   . obtain⟨V,E⟩:=h.e_ b o U;exact⟨V,q.cell b o V U E⟩
   ·exact hf o h1 a
 . refine {q with size:=by rw[ht.size];exact hb _,os:=ht.os,tape:=ht.tape,output:=ht.output,dr:=ht.drawn,d_:=λk _ hn=>ht.other k (λe=>hn i hl e.symm),owned:=λj d _=>?_,ff:=λb o hf=>hf.imp id λhf=> .inr ⟨i,hl,hf.1.symm⟩};by_cases f:j=H.n
   ·rw[f,r];exact⟨i,hl,rfl⟩
   ·exact⟨j,(l j f d).1,(g j f).symm⟩
theorem Eg(t ty e f:TypeId)(i:TypeInfo)(ht:P.underlying t=acK (.slice e))(hi:P.info? e=acK i)
  (g b d:Nat) (cur:Array Value) (k:w.heap[g]?=acK (.cells cur f (0,0)))
  (a:Addr) (m c:Nat) (news:List Value) (hl:news.length=m*i.size) (l:∀(j:Nat)(u:Value),news[j]?=acK u->w.cell? (a.add j)=acK u) (h1:∀u∈news,u.oneCell'=acI)
  (n:b+m<=d) (o:b*i.size+news.length<=cur.size) :
  (abv #[t,t] ty #[.slice (acK ⟨g,0,acL⟩) b d,.slice (acK a) m c]).run P w =
   .ok (.slice (acK ⟨g,0,acL⟩) (b+m) d) (w.setRow g (cur.toList.take (b*i.size)++news++cur.toList.drop (b*i.size+news.length)).toArray):=by
 have hf:=run_firstCells_some (P:=P) w i.size m a m c news hl l;have h:=run_storeCells_at P g (b*i.size) f news 0 cur w k (by simpa using o) h1;simp only[aaY]at h;simp[abv,run_underlying ht,aaq,typeInfo,hi,abw,n,hf,abx,h]
theorem OK(t ty e:TypeId)(i:TypeInfo)(ht:P.underlying t=acK (.slice e))(hi:P.info? e=acK i)
  (g b d:Nat) (a:Addr) (m c:Nat) (news:List Value) (hl:news.length=m*i.size) (f:∀(j:Nat)(u:Value),news[j]?=acK u->w.cell? (a.add j)=acK u)
  (h:b+m<=d) (k:(storeCells ⟨g,b*i.size,acL⟩ news).run P w = .ok () w') :
  (abv #[t,t] ty #[.slice (acK ⟨g,0,acL⟩) b d,.slice (acK a) m c]).run P w = .ok (.slice (acK ⟨g,0,acL⟩) (b+m) d) w':=by
 have hf:=run_firstCells_some (P:=P) w i.size m a m c news hl f;simp[abv,run_underlying ht,aaq,typeInfo,hi,abw,h,hf,abx,k]
theorem zW(i:Rel F w G H)(h:hL H sz y=acK (m,news))(d:VR F w G y Y) :
  news.length=m*sz/\∃e c,Y = .slice e m c/\(0<m->∃b o,e=acK ⟨b,o,acL⟩/\ls F w G b o news):=by
 unfold hL at h;split at h
 . rename_i tk len cells;split at h
   . rename_i hlen;cases h;refine⟨hlen,?_⟩;cases d with
     |gX=>exact⟨_,_,rfl,λh=>absurd h (by omega)⟩
     |gg a cap=>exact⟨_,_,rfl,λh=>absurd h (by omega)⟩
     |aq _ _ _ b o cap Vs ht hle h hv=>exact⟨_,_,rfl,λ_=>⟨b,o,rfl,λj c f=>⟨Vs j,(h j c f).2,hv j c f⟩⟩⟩
   ·cases h
 . rename_i id o len l;split at h
   . rename_i cs k;split at h
     . rename_i hle;cases h;refine⟨by simp;omega,?_⟩;have g:=i.obj id;rw[k]at g;cases d with
       | row _ _ _ _ cap n p q=>refine⟨_,_,rfl,λ_=>⟨_,_,rfl,?_⟩⟩;have:=g.tj.cut o (m*sz);rw[aa8]at this;exact this
     ·cases h
   ·cases h
 ·cases h
theorem Eh{l:List I}(hl:be F w G l L.toArray)(b:l.all I.scalar=acI):∀V∈L,V.oneCell'=acI:=by
 intro V c;obtain⟨j,d,rfl⟩:=abg.1 c;have a:j<l.length:=by have:=hl.1;simp at this;omega
 exact(hl.2 j l[j] L[j] (abb a) (by simp[d])).D8 (abh.1 b _ (abi a))
theorem zX{cap sz:Nat}(d:Rel F w G H)(hp:eb w w' (.cells C e))(hv:∀(j:Nat)(c:I),cs[j]?=acK c->∃V,C[j]?=acK V/\VR F w G c V)
  (g:C.size=cap*sz) (len:Nat) (hlen:cs.length=len*sz) (hle:len<=cap) :
  ∃G',Rel F w' G' (H.push (.tok (len*sz) sz))/\Step w G H w' G' (H.push (.tok (len*sz) sz))/\VR F w' G' (.aq (.own H.n) len cs) (.slice (acK ⟨w.heap.size,0,acL⟩) len cap):=by
 have hn:=d.n;have f:((G.eA w.heap.size 0 (len*sz)).more w.heap.size cap).loc H.n=w.heap.size:=ab hn.symm;have h:((G.eA w.heap.size 0 (len*sz)).more w.heap.size cap).cap H.n=cap:=ab hn.symm;have i:len*sz<=C.size:=by rw[g];exact aby _ hle
 have l:=GLe.zS (G:=G) hp w.heap.size 0 (len*sz) w.heap.size cap;have b:=d.push hp (len*sz) cap i (.tok (len*sz) sz) ⟨C,e,by rw[f];exact hp.new,by rw[h];exact g,i,λj a hf=>by
   rw[f]at hf;rcases hf with hf|⟨_,_,hf⟩
   ·exact d.zU j hf
   ·omega⟩
 have key:∀(j:Nat)(c:I),cs[j]?=acK c->C[j]?=acK (C.getD j undef)/\j<len*sz/\VR F w G c (C.getD j undef):=by
  intro j c a;obtain⟨V,k,b⟩:=hv j c a;have o:j<cs.length:=(aal.1 a).1;have m:C.getD j undef=V:=by simp[abz,k]
  rw[m];exact⟨k,by omega,b⟩
 refine⟨_,b.1,b.2,.aq _ _ _ _ _ _ (λj=>C.getD j undef) ⟨by show H.n<G.n+1;omega,f,rfl,h⟩ hle (λj c a=>?_) λj c a=>(key j c a).2.2.mono l⟩;rw[aa8];exact⟨.inr ⟨rfl,aaU _,(key j c a).2.1⟩,by rw[cell_of_row w' _ j C e (0,0) hp.new];exact(key j c a).1⟩
theorem zY{cap sz:Nat}(a:Rel F w G H)(hp:eb w w' (.cells C e))(hv:∀(j:Nat)(c:I),cs[j]?=acK c->∃V,C[j]?=acK V/\VR F w G c V)
  (b:C.size=cap*sz) (len:Nat) (hle:len<=cap) :
  ∃G',Rel F w' G' (H.push (.row cs))/\Step w G H w' G' (H.push (.row cs))/\VR F w' G' (.row H.n 0 len sz) (.slice (acK ⟨w.heap.size,0,acL⟩) len cap):=by
 obtain⟨G',d,f,hn,g,h⟩:=tn a hp hv;refine⟨G',d,f,?_⟩;rw[<-g];exact .row _ _ _ _ _ hn hle (by rw[h,b];omega)
theorem oR{Z:Array Value}(h:be F w G cs L.toArray)(k:be F w G news M.toArray) :
  ∀(j:Nat)(c:I),(cs++news)[j]?=acK c->∃V,(L.toArray++M.toArray++Z)[j]?=acK V/\VR F w G c V:=by
 intro j c b;obtain⟨V,a,d⟩:=(h.app k).get b;refine⟨V,?_,d⟩;rw[aaM,ab (aa5.1 a).1];exact a
theorem oS{sz n m cap:Nat}(a:L.length=n*sz)(b:M.length=m*sz)(hz:z.cells.size=sz)(c:n+m<=cap) :
  (L.toArray++M.toArray++abA z.cells (cap-(n+m))).size=cap*sz:=by
 simp only[Array.size_append,List.size_toArray,size_zeroCells,hz,a,b,<-aaV];congr 1;omega
theorem OL{t e ty:TypeId}{d:TypeInfo}{mu:Bool}{sz bytes:Nat}{z:Value}{x y v:I}{X Y:Value}{H':Z}(f:Rel F w G H)
  (ht:P.underlying t=acK (.slice e)) (hi:P.info? e=acK d) (hs:d.size=sz) (U:d.bytes=bytes) (hz:d.zero=acK z) (aa:z.cells.size=sz) (aJ:0<sz)
  (h:cZ H mu sz bytes x y=acK (v,H')) (Q:VR F w G x X) (aK:VR F w G y Y):jP F w G H v H' ((abv #[t,t] ty #[X,Y]).run P w):=by
 subst hs;subst U;unfold cZ at h;split at h
 ·cases h
 . rename_i m news aL;obtain⟨aB,aC,c,rfl,aD⟩:=zW f aL aK;split at h
   ·cases h
   . rename_i ac;simp only[Bool.not_eq_true,Bool.not_eq_false]at ac;have ac:news.all I.scalar=acI:=by simpa using ac
     have zero:∀(a:Option Addr)(len cap:Nat),len<=cap->m=0->(∀u,a=acK u->u.spot=acL\/True)->(abv #[t,t] ty #[.slice a len cap,.slice aC m c]).run P w = .ok (.slice a len cap) w:=by intro a len cap hle hm _;subst hm;cases a<;>cases aC<;>simp[abv,run_underlying ht,aaq,typeInfo,hi,abw,abB,loadCells,loadCellsFrom,storeCells,hle]
     split at h
     . rename_i tk len cells;split at h
       . rename_i hm;cases h;cases Q with
         |gX=>rw[zero _ _ _ (hb _) hm (λ_ _=> .inr trivial)];exact⟨_,_,G,rfl,.gX,f,Step.refl _ _ _⟩
         |gg a cap=>rw[zero _ _ _ (aaU _) hm (λ_ _=> .inr trivial)];exact⟨_,_,G,rfl,.gg _ _,f,Step.refl _ _ _⟩
         |aq _ _ _ b o cap Vs A hle h hv=>rw[zero _ _ _ hle hm (λ_ _=> .inr trivial)];exact⟨_,_,G,rfl,.aq _ _ _ _ _ _ Vs A hle h hv,f,Step.refl _ _ _⟩
       . rename_i hm;obtain⟨O,os,rfl,ap⟩:=aD (by omega);obtain⟨M,r,S⟩:=ap.nF;have q:M.length=m*d.size:=by have:=r.1;simp at this;omega
         split at h
         ·cases h
         . rename_i hk;simp only[abC]at hk;obtain⟨ar,al,aM⟩:=hk;have aE:∀(hlen:len=0),(abv #[t,t] ty #[.slice acL 0 0,.slice (acK ⟨O,os,acL⟩) m c]).run P w =
             .ok (.slice (acK ⟨w.heap.size,0,acL⟩) (len+m) (grownCap w (len+m) 0 e)) (w.drew.alloc (.cells (([]:List Value).toArray++M.toArray++abA z.cells (grownCap w (len+m) 0 e-(len+m))) e)):=by
            intro hlen;subst hlen;have:=run_append_nil (P:=P) w t ty e d z ht hi hz ⟨O,os,acL⟩ m c M q S (by omega) (by omega) (by simp only[aa8]at al;omega);simpa using this
           have au:∀(b o cap:Nat)(L:List Value),L.length=len*d.size->(∀(j:Nat)(V:Value),L[j]?=acK V->w.cell? ((⟨b,o,acL⟩:Addr).add j)=acK V)->cap<len+m ->
             (abv #[t,t] ty #[.slice (acK ⟨b,o,acL⟩) len cap,.slice (acK ⟨O,os,acL⟩) m c]).run P w =
             .ok (.slice (acK ⟨w.heap.size,0,acL⟩) (len+m) (grownCap w (len+m) cap e)) (w.drew.alloc (.cells (L.toArray++M.toArray++abA z.cells (grownCap w (len+m) cap e-(len+m))) e)):=by
            intro b o cap L s B R;exact run_append_grow (P:=P) w t ty e d z ht hi hz ⟨b,o,acL⟩ len cap L s B ⟨O,os,acL⟩ m c M q S R (by omega) (growslice_fits R al)
           have av:(cells++news).length=(len+m)*d.size:=by rw[List.length_append,ar,aB,aaV]
           have aw:∀{b o:Nat}{Vs:Nat->Value},(∀(j:Nat)(c:I),cells[j]?=acK c->G.fz b (o+j)/\w.cell? ⟨b,o+j,acL⟩=acK (Vs j))->(∀(j:Nat)(c:I),cells[j]?=acK c->VR F w G c (Vs j)) ->
             ∃L:List Value,be F w G cells L.toArray/\L.length=len*d.size/\∀(j:Nat)(V:Value),L[j]?=acK V->w.cell? ((⟨b,o,acL⟩:Addr).add j)=acK V:=by
            intro b o Vs h1 ax;obtain⟨L,s,B⟩:=(show ls F w G b o cells from λj c g=>⟨Vs j,(h1 j c g).2,ax j c g⟩).nF;exact⟨L,s,by have:=s.1;simp at this;omega,B⟩
           split at h
           ·
             cases h;cases Q with
             | gX=>rw[aE rfl];obtain⟨G',p,D,hv⟩:=zY f (eb.drew w _) (oR be.nil r) (oS (n:=0) (by simp) q aa (grownCap_ge w _ _ _)) (0+m) (grownCap_ge w _ _ _);exact⟨_,_,G',rfl,hv,p,D⟩
             |aq _ _ _ b o cap Vs A hle h hv=>exact A.elim
           ·
             cases h;cases Q with
             | aq _ _ _ b o cap Vs A hle h hv=>obtain⟨L,s,E,B⟩:=aw h hv;rw[au b o cap L E B (by have:cap=len:=A;omega)];obtain⟨G',p,D,hv⟩:=zY f (eb.drew w _) (oR s r) (oS E q aa (grownCap_ge w _ _ _)) (len+m) (grownCap_ge w _ _ _);exact⟨_,_,G',rfl,hv,p,D⟩
           ·
             cases h;cases Q with
             | gX=>rw[aE rfl];obtain⟨G',p,D,hv⟩:=zX f (eb.drew w _) (oR be.nil r) (oS (n:=0) (by simp) q aa (grownCap_ge w _ _ _)) (0+m) (by simpa using av) (grownCap_ge w _ _ _);exact⟨_,_,G',rfl,hv,p,D⟩
             |aq _ _ _ b o cap Vs A hle h hv=>exact A.elim
           ·
             cases h;cases Q with
             | aq _ _ _ b o cap Vs A hle h hv=>obtain⟨L,s,E,B⟩:=aw h hv;rw[au b o cap L E B (by have:cap=len:=A;omega)];obtain⟨G',p,D,hv⟩:=zX f (eb.drew w _) (oR s r) (oS E q aa (grownCap_ge w _ _ _)) (len+m) av (grownCap_ge w _ _ _);exact⟨_,_,G',rfl,hv,p,D⟩
           ·
             rename_i tid;split at h
             . rename_i k aN aF;split at h
               . rename_i hk;obtain⟨rfl,rfl⟩:=hk;cases h;have ay:(H.o tid).live=acI:=by rw[aF];rfl
                 have ag:=f.obj tid;rw[aF]at ag;obtain⟨C,K,T,ad,aT,aG⟩:=ag;cases Q with
                 | aq _ _ _ b o cap Vs A hle h hv=>
                  obtain⟨aO,rfl,rfl,rfl⟩:=A;obtain⟨L,s,E,B⟩:=aw h hv;by_cases N:len+m<=G.cap tid
                  . have ah:len*d.size+M.length<=C.size:=by rw[q,ad,<-aaV];exact aby _ N
                    rw[Eg t ty e K d ht hi (G.loc tid) len (G.cap tid) C T ⟨O,os,acL⟩ m c M q S (Eh r ac) N ah];have hn:=f.n;have aP:=zT C M (len*d.size);have am:=setRow_heap w (G.loc tid) C (C.toList.take (len*d.size)++M++C.toList.drop (len*d.size+M.length)).toArray K (0,0) T;have an:∀j,(w.setRow (G.loc tid) (C.toList.take (len*d.size)++M++C.toList.drop (len*d.size+M.length)).toArray).cell? ⟨G.loc tid,j,acL⟩=if len*d.size<=j/\j<len*d.size+M.length then M[j-len*d.size]? else C[j]?:=by intro j;rw[cell_of_row _ _ j _ K (0,0) am];exact aP j ah
                    have W:((G.eA (G.loc tid) (len*d.size) ((len+m)*d.size)).more (G.loc tid) (G.cap tid)).loc H.n=G.loc tid:=ab hn.symm;have R:((G.eA (G.loc tid) (len*d.size) ((len+m)*d.size)).more (G.loc tid) (G.cap tid)).cap H.n=G.cap tid:=ab hn.symm;have aU:(len+m)*d.size=len*d.size+M.length:=by rw[q,aaV]
                    have ae:GLe w G (w.setRow (G.loc tid) (C.toList.take (len*d.size)++M++C.toList.drop (len*d.size+M.length)).toArray) ((G.eA (G.loc tid) (len*d.size) ((len+m)*d.size)).more (G.loc tid) (G.cap tid)):=
                     ⟨aa2 _,λi hi=>af (aa6 hi),λi hi=>af (aa6 hi),λ_ _ hf=> .inl hf,λb o V hf hc=>by
                       by_cases U:b=G.loc tid
                       . subst U;have ai:o<len*d.size:=by
                          rcases AH o (len*d.size)with az|az
                          ·exact az
                          ·exact absurd hf (aG o az)
                         rw[an,bL];rw[cell_of_row w _ o C K (0,0) T]at hc;exact hc
                       ·rw[aa3 (w:=w) ((kN.setRow w _ _).other b U)];exact hc⟩
                    have aj:=f.pass ay (kN.setRow w _ _) (len*d.size) ((len+m)*d.size) ae (.tok ((len+m)*d.size) d.size)
                     ⟨_,K,by rw[W];exact am,by rw[R,<-ad];simp;omega,by simp;omega,λj g hf=>by
                       rw[W]at hf;rcases hf with hf|⟨_,_,hf⟩
                       ·exact aG j (by omega) hf
                       ·omega⟩
                     (λo h1 ax=>⟨M[o-len*d.size],by rw[an,dN];exact abb (by omega)⟩)
                    refine⟨_,_,_,rfl,?_,aj.1,aj.2⟩;have key:∀(j:Nat)(c:I),(cells++news)[j]?=acK c->((G.eA (G.loc tid) (len*d.size) ((len+m)*d.size)).more (G.loc tid) (G.cap tid)).fz (G.loc tid) (0+j) /\
                      ∃V,(w.setRow (G.loc tid) (C.toList.take (len*d.size)++M++C.toList.drop (len*d.size+M.length)).toArray).cell? ⟨G.loc tid,0+j,acL⟩=acK V/\VR F w G c V:=by
                     intro j c g;rw[aaL]at g;rw[aa8];split at g
                     . rename_i ak;have h1:=h j c g;rw[aa8]at h1;refine⟨.inl h1.1,Vs j,?_,hv j c g⟩;rw[an,bL];rw[cell_of_row w _ j C K (0,0) T]at h1;exact h1.2
                     . rename_i aA;obtain⟨V,J,p⟩:=r.get g;have ak:=(aal.1 g).1;refine⟨.inr ⟨rfl,by omega,by omega⟩,V,?_,p⟩;rw[an,dN,<-ar];simpa using J
                    refine .aq _ _ _ (G.loc tid) 0 (G.cap tid) (λj=>((w.setRow (G.loc tid) (C.toList.take (len*d.size)++M++C.toList.drop (len*d.size+M.length)).toArray).cell? ⟨G.loc tid,0+j,acL⟩).getD undef) ⟨by show H.n<G.n+1;omega,W,rfl,R⟩ N (λj c g=>?_) λj c g=>?_
                    . obtain⟨h1,V,J,_⟩:=key j c g;exact⟨h1,by rw[J];rfl⟩
                    . obtain⟨h1,V,J,p⟩:=key j c g;rw[J];exact p.mono ae
                  . rw[au (G.loc tid) 0 (G.cap tid) L E B (by omega)];have hk:=f.kill tid (f.n▸aO);obtain⟨G',p,D,hv⟩:=zX hk.1 (eb.drew w _) (oR s r) (oS E q aa (grownCap_ge w _ _ _)) (len+m) av (grownCap_ge w _ _ _);exact⟨_,_,G',rfl,hv,p,hk.2.trans D⟩
               ·cases h
             ·cases h
           ·cases h
     . rename_i id o len aN;split at h
       . rename_i cs ai;split at h
         . rename_i hm;cases h;cases Q with
           |row _ _ _ _ cap ao hle hc=>rw[zero _ _ _ hle hm (λ_ _=> .inr trivial)];exact⟨_,_,G,rfl,.row _ _ _ _ _ ao hle hc,f,Step.refl _ _ _⟩
         . rename_i hm;obtain⟨O,os,rfl,ap⟩:=aD (by omega);obtain⟨M,r,S⟩:=ap.nF;have q:M.length=m*d.size:=by have:=r.1;simp at this;omega
           split at h
           ·cases h
           . rename_i hk;simp only[abC]at hk;obtain⟨rfl,rfl,al,aM⟩:=hk;have ay:(H.o id).live=acI:=by rw[ai];rfl
             have ag:=f.obj id;rw[ai]at ag;obtain⟨C,K,T,ad,aH,aI⟩:=ag;have ar:cs.length<=C.size:=by
              rcases AH C.size cs.length with ak|aA
              . obtain⟨V,J,_⟩:=aI C.size cs[C.size] (abb ak);simp at J
              ·exact aA
             cases Q with
             | row _ _ _ _ cap ao hle hc=>
              rw[aa8]at hc;split at h
              . rename_i aQ;cases h;have N:len+m<=cap:=by
                 have:(len+m)*d.size<=cap*d.size:=by rw[hc,<-ad];omega
                 exact Nat.le_of_mul_le_mul_right this aJ
                obtain⟨w1,aR,ez⟩:=tm (P:=P) (o:=len*d.size) (l:=news) (L:=M) f ai r (by rw[aB,<-aaV];exact aQ) ac;rw[OK t ty e d ht hi (G.loc id) len cap ⟨O,os,acL⟩ m c M q S N aR];exact⟨_,_,G,rfl,.row _ _ _ _ _ ao N (by rw[aa8];exact hc),ez.1,ez.2⟩
              . split at h
                . rename_i aV aW;cases h;by_cases N:len+m<=cap
                  . have ah:len*d.size+M.length<=C.size:=by rw[q,ad,<-hc,<-aaV];exact aby _ N
                    rw[Eg t ty e K d ht hi (G.loc id) len cap C T ⟨O,os,acL⟩ m c M q S (Eh r ac) N ah];have hn:=f.n;have am:=setRow_heap w (G.loc id) C (C.toList.take (len*d.size)++M++C.toList.drop (len*d.size+M.length)).toArray K (0,0) T;have W:((G.eA (G.loc id) 0 0).more (G.loc id) (G.cap id)).loc H.n=G.loc id:=ab hn.symm;have R:((G.eA (G.loc id) 0 0).more (G.loc id) (G.cap id)).cap H.n=G.cap id:=ab hn.symm;have ae:GLe w G (w.setRow (G.loc id) (C.toList.take (len*d.size)++M++C.toList.drop (len*d.size+M.length)).toArray) ((G.eA (G.loc id) 0 0).more (G.loc id) (G.cap id)):=
                     ⟨aa2 _,λi hi=>af (aa6 hi),λi hi=>af (aa6 hi),λ_ _ hf=> .inl hf,λb o V hf hc=>by have U:b≠G.loc id:=λe=>aH o (e▸hf);rw[aa3 (w:=w) ((kN.setRow w _ _).other b U)];exact hc⟩
                    have aj:=f.pass ay (kN.setRow w _ _) 0 0 ae (.row (cs++news))
                     ⟨_, K,by rw[W];exact am,by rw[R,<-ad];simp;omega,λj hf=>by
                       rw[W]at hf;rcases hf with hf|⟨_,_,hf⟩
                       ·exact aH j hf
                       ·omega,λj c g=>by
                       rw[zT C M (len*d.size) j ah];rw[aaL]at g;split at g
                       . rename_i ak;rw[bL];obtain⟨V,J,p⟩:=aI j c g;exact⟨V,J,p.mono ae⟩
                       . rename_i aA;have ak:=(aal.1 g).1;rw[dN,show j-len*d.size=j-cs.length by omega];obtain⟨V,J,p⟩:=r.get g;exact⟨V,by simpa using J,p.mono ae⟩⟩
                     (λo h1 ax=>by omega)
                    refine⟨_,_,_,rfl,?_,aj.1,aj.2⟩;have:=VR.row (F:=F) (w:=w.setRow (G.loc id) (C.toList.take (len*d.size)++M++C.toList.drop (len*d.size+M.length)).toArray) (G:=(G.eA (G.loc id) 0 0).more (G.loc id) (G.cap id)) H.n 0 (len+m) d.size cap (by show H.n<G.n+1;omega) N (by rw[R,aa8];exact hc);rw[W]at this;exact this
                  . have aS:=(show gy F w G id (.row cs) by have:=f.obj id;rw[ai]at this;exact this).tj;obtain⟨L,s,B⟩:=aS.nF;have E:L.length=len*d.size:=by have:=s.1;simp at this;omega
                    rw[run_append_grow (P:=P) w t ty e d z ht hi hz ⟨G.loc id,0,acL⟩ len cap L E B ⟨O,os,acL⟩ m c M q S (by omega) (by omega) (growslice_fits (by omega) al)];have hk:=f.kill id (f.n▸ao);obtain⟨G',p,D,hv⟩:=zY hk.1 (eb.drew w _) (oR s r) (oS E q aa (grownCap_ge w _ _ _)) (len+m) (grownCap_ge w _ _ _);exact⟨_,_,G',rfl,hv,p,hk.2.trans D⟩
                ·cases h
       ·cases h
     ·cases h
end
end Rb
namespace Rb
open Go
variable{x v:I}{X:Value}{src dst e t:TypeId}{H':Z}
section
variable{P:Program}{F:dE}{w:World}{G:aW}{H:Z}
theorem eb.mark(w:World)(o:Obj):eb w (w.drew.alloc o) o:=⟨rfl,rfl,rfl,rfl,aa2 _⟩
theorem OM{x v:I}{X:Value}(i:Rel F w G H)(hs:P.underlying src=acK .string)(k:P.underlying dst=acK (.slice e))(l:P.underlying e=acK (.int .u8))
  (h:qs x=acK v) (m:VR F w G x X):jP F w G H v H ((convert src dst X).run P w):=by
 unfold qs at h;split at h
 . rename_i s;cases h;obtain rfl:=m.kM;have d:=run_bytes_of_string (P:=P) w src dst e ⟨s.toArray⟩ hs k l;generalize n:grownCap w (aav ⟨s.toArray⟩) 0 e=cap at d;have f:(aau s.toArray).size=s.length:=by simp[aav]
   rw[d,f];have hle:s.length<=cap:=by rw[<-n,<-f];exact grownCap_ge w _ 0 e
   have hp:=eb.mark w (.cells (bytesRow ⟨s.toArray⟩ cap) e ((bytesRow ⟨s.toArray⟩ cap).size,(bytesRow ⟨s.toArray⟩ cap).size+1));have g:∀j,j<s.length->(w.drew.alloc (.cells (bytesRow ⟨s.toArray⟩ cap) e ((bytesRow ⟨s.toArray⟩ cap).size,(bytesRow ⟨s.toArray⟩ cap).size+1))).cell? ⟨w.heap.size,j,acL⟩=acK (.int .u8 ((s.getD j 0).toNat:Nat)):=by intro j a;rw[cell_of_row _ _ j _ e _ hp.new];simp[bytesRow,aaM,a,List.getD]
   obtain⟨o,p⟩:=i.frozenAt hp s.length λj a=>⟨_,g j a⟩
   refine⟨_,_,_,rfl,?_,o,p⟩;refine .aq .dead s.length (qq s) w.heap.size 0 cap (λj=> .int .u8 ((s.getD j 0).toNat:Nat)) trivial hle (λj c a=>?_) λj c a=>?_
   . have b:j<s.length:=by have:=(aal.1 a).1;simpa[qq]using this
     rw[aa8];exact⟨.inr ⟨rfl,aaU _,b⟩,g j b⟩
   . have b:j<s.length:=by have:=(aal.1 a).1;simpa[qq]using this
     simp[qq,b]at a;subst a;simp only[abD,abb b,abE];exact .int _ _
 ·cases h
theorem ON:∀{cells:List I}{s:List UInt8}{Vs:List Value},oL cells=acK s->be F w G cells Vs.toArray->∃a:List Int,Vs=a.map (Value.int .u8)/\s=a.map λn=>aaj n.toNat:=by
 intro cells;induction cells with
 | nil=>intro s Vs h hv;cases h;have:=hv.1;simp at this;have:Vs=[]:=abF.1 (by omega);subst this;exact⟨[],rfl,rfl⟩
 | cons c cells b=>
  intro s Vs h hv;cases Vs with
  |nil=>have:=hv.1;simp at this
  | cons V Vs=>
   have e:VR F w G c V:=hv.2 0 c V rfl rfl;have f:be F w G cells Vs.toArray:=be.nE (by have:=hv.1;simp at this ⊢;exact this) λj d g i k=>hv.2 (j+1) d g (by simpa using i) (by simpa using k);unfold oL at h;split at h
   ·rename_i heq;cases heq
   . rename_i n r heq;cases heq;cases hc:oL cells with
     |none=>simp[hc]at h
     | some R=>simp only[hc,aaD,aaC.injEq]at h;obtain⟨a,h1,l⟩:=b hc f;obtain rfl:=e.hV;exact⟨n::a,by rw[h1];rfl,by rw[<-h,l];rfl⟩
   ·cases h
theorem foldl_push:∀(a:List Int)(r:ByteArray),a.foldl (λr n=>r.push (aaj n.toNat)) r=⟨r.data++(a.map λn=>aaj n.toNat).toArray⟩
 |[],r=>by simp
 | n::a,r=>by simp only[aaW,abG];rw[foldl_push a];simp[abH]
theorem OO{x v:I}{X:Value}(i:Rel F w G H)(hs:P.underlying src=acK (.slice e))(k:P.underlying e=acK (.int .u8))(l:P.underlying dst=acK .string)
  (h:abstr H x=acK v) (n:VR F w G x X):∃V,(convert src dst X).run P w = .ok V w/\VR F w G v V:=by
 unfold abstr at h;split at h
 . rename_i m cells hc;cases U:oL cells with
   |none=>simp[U]at h
   | some s=>
    simp only[U,aaD,aaC.injEq]at h;subst h;obtain⟨hlen,a,c,rfl,p⟩:=zW i hc n;rw[Nat.mul_one]at hlen;refine⟨_,?_,.str s⟩;rw[run_convert_bytes_string w src dst e a m c hs k l];by_cases hm:0<m
    . obtain⟨b,o,rfl,q⟩:=p hm;obtain⟨Vs,f,r⟩:=q.nF;obtain⟨g,rfl,rfl⟩:=ON U f;have hl:g.length=m:=by have:=f.1;simp at this;omega
      have d:=run_loadCells_list (P:=P) w ⟨b,o,acL⟩ _ r;rw[abI,hl]at d;rw[run_bytesToString w ⟨b,o,acL⟩ m c g d,foldl_push];simp[abJ,abK];rfl
    . have t:m=0:=by omega
      subst t;have u:cells=[]:=abF.1 hlen;subst u;cases U;cases a with
      |none=>rfl
      | some a=>have d:=run_loadCells_list (P:=P) w a [] (λj V y=>by simp at y);simp only[List.length_nil]at d;rw[run_bytesToString w a 0 c [] d];rfl
 ·cases h
theorem OP(a:Rel F w G H)(ht:P.underlying t=acK .string)(h:nD H x=acK (v,H'))(c:VR F w G x X) :
  jP F w G H v H' ((abL t X).run P w):=by
 unfold nD at h;split at h
 . rename_i s;cases h;obtain rfl:=c.kM;have d:(abL t (.string ⟨s.toArray⟩)).run P w = .ok (.pointer (acK ⟨w.heap.size,0,acL⟩)) (w.alloc (.stringIter ⟨s.toArray⟩ 0)):=by
    simp[abL,run_underlying ht]
   rw[d];have hp:=eb.alloc w (.stringIter ⟨s.toArray⟩ 0);have hn:=a.n;have b:(G.more w.heap.size 0).loc H.n=w.heap.size:=ab hn.symm;obtain ⟨e,f⟩:=a.Oz hp 0 (.hr s 0) ⟨by rw[b];exact hp.new,λj hf=>by rw[b]at hf;exact a.zU j hf⟩
   refine⟨_,_,_,rfl,?_,e,f⟩;have:=VR.ptr (F:=F) (w:=w.alloc (.stringIter ⟨s.toArray⟩ 0)) (G:=G.more w.heap.size 0) H.n 0 (show H.n<G.n+1 by omega);rw[b]at this;exact this
 ·cases h
theorem OQ{t:TypeId}(b:Rel F w G H)(h:la H x=acK (v,H'))(l:VR F w G x X) :
  jP F w G H v H' ((abM X acI t).run P w):=by
 unfold la at h;split at h
 . rename_i id;split at h
   . rename_i s pos e;cases l with
     | ptr _ _ y=>
      have f:=b.obj id;rw[e]at f;obtain⟨U,hz⟩:=f;have g:(aau s.toArray).size=s.length:=by simp[aav]
      have i:(getObj (G.loc id)).run P w = .ok (.stringIter ⟨s.toArray⟩ pos) w:=by simp[getObj,Sem.run,U]
      split at h
      . rename_i m;cases h;have n:(setObj (G.loc id) (.stringIter ⟨s.toArray⟩ (pos+(aak ⟨s.toArray⟩ pos).2))).run P w = .ok () {w with heap:=w.heap.setIfInBounds (G.loc id) (.stringIter ⟨s.toArray⟩ (pos+(aak ⟨s.toArray⟩ pos).2))}:=by
         simp[setObj,Sem.run,U]
        have d:(abM (.pointer (acK ⟨G.loc id,0,acL⟩)) acI t).run P w = .ok (.tuple #[.bool acI,.int .i64 pos,.int .i32 (aak ⟨s.toArray⟩ pos).1]) {w with heap:=w.heap.setIfInBounds (G.loc id) (.stringIter ⟨s.toArray⟩ (pos+(aak ⟨s.toArray⟩ pos).2))}:=by simp[abM,i,g,m,n,goInt]
        rw[d];have ht:kN w {w with heap:=w.heap.setIfInBounds (G.loc id) (.stringIter ⟨s.toArray⟩ (pos+(aak ⟨s.toArray⟩ pos).2))} (G.loc id):=
         ⟨by simp,λk hk=>by simp[aaO,Ne.symm hk],rfl,rfl,rfl,hb _⟩
        have hl:(H.o id).live=acI:=by rw[e];rfl
        have p:G.loc id<w.heap.size:=(aa5.1 U).1;obtain⟨q,r⟩:=b.write hl hz ht (.hr s (pos+(aak ⟨s.toArray⟩ pos).2)) rfl λ_=>⟨by simp[p],hz⟩
        refine⟨_,_,_,rfl,?_,q,r⟩;refine .aA _ _ rfl λj c V hc a=>?_
        match j with
        |0=>simp at hc a;subst hc;subst a;exact .bool _
        |1=>simp at hc a;subst hc;subst a;exact .int _ _
        |2=>simp at hc a;subst hc;subst a;exact .int _ _
        |j+3=>simp at hc
      . rename_i u;cases h;have d:(abM (.pointer (acK ⟨G.loc id,0,acL⟩)) acI t).run P w = .ok (.tuple #[.bool acJ]) w:=by
         simp[abM,i,g,u]
        rw[d];refine⟨_,_,_,rfl,?_,b,Step.refl _ _ _⟩;refine .aA _ _ rfl λj c V hc a=>?_
        match j with
        |0=>simp at hc a;subst hc;subst a;exact .bool _
        |j+1=>simp at hc
   ·cases h
 ·cases h
end
end Rb
namespace Rb
open Go
variable{V:Value}{c:I}
structure Ctx where
 P:Program
 F:dE
 GT:Nat->Option (List I)
def tq:Value->I->Bool
 | .bool b,.bool a=>b==a
 | .int k n,.int k' n'=>k==k'&&n==n'
 | .string s,.str l=>s.data.toList==l
 | .pointer acL,.h5 | .nilFunc,.h6 | .nilIface,.h7=>acI
 | .slice acL 0 0,.aq .nil 0 []=>acI
 |_,_=>acJ
def jQ:List Value->List I->Bool
 |[],[]=>acI
 |V::Vs,c::cs=>tq V c&&jQ Vs cs
 |_,_=>acJ
def zZ(V:Value)(c:I):Bool:=
 match V,c with
 | .agg Vs,.agg cs=>jQ Vs.toList cs
 | .tuple Vs,.aA cs=>jQ Vs.toList cs
 |V,c=>tq V c
def mP:List I->List I->Bool
 |[],[]=>acI
 | .int k a::r,.int k' b::t=>k==k'&&a==b&&mP r t
 | .bool a::r,.bool b::t=>a==b&&mP r t
 | .str a::r,.str b::t=>a==b&&mP r t
 |_,_=>acJ
def Ei(C:Ctx)(x:Operand)(y:bK):Bool:=
 match x,y with
 | .tmp t,.t a=>t==a
 | .const v,.k c=>zZ v c
 | .global g,.k c=>match C.GT g,c with|some l,.ae l'=>mP l l'|_,_=>acJ
 | .func f,.k c=>match c with | .fn key []=>(iC key).isNone&&C.F key==acK f|_=>acJ
 |_,_=>acJ
def Ej:bK->Bool
 | .k .bot=>acI
 |_=>acJ
def dm(C:Ctx)(x:Operand)(y:bK):Bool:=Ej y||Ei C x y
def nG(C:Ctx)(x:Option Operand)(y:Option bK):Bool:=
 match x,y with
 |none,acL=>acI
 |some x,acK y=>dm C x y
 |_,_=>acJ
def me(C:Ctx):List Operand->List bK->Bool
 |[],[]=>acI
 |x::xs,y::a=>dm C x y&&me C xs a
 |_,_=>acJ
def oT(P:Program)(t:TypeId)(n:Nat):Option Field:=
 match P.underlying t with
 |some (.struct fs)=>fs[n]?
 |_=>acL
def mf(P:Program)(t:TypeId):Option TypeId:=
 match P.underlying t with
 |some (.slice e)=>acK e
 |_=>acL
def tr(P:Program)(t:TypeId):Option (Nat×TypeId):=
 match P.underlying t with
 |some (.array n e)=>acK (n,e)
 |_=>acL
def nH(P:Program)(t:TypeId)(sz:Nat):Bool:=
 match P.info? t with
 |some i=>i.size==sz
 |none=>acJ
def tt(P:Program)(t:TypeId)(sz bytes:Nat)(zero:List I):Bool:=
 match P.info? t with
 |some i=>i.size==sz&&i.bytes==bytes&&(match i.zero with|some z=>z.cells.size==sz&&jQ z.cells.toList zero|none=>acJ)
 |none=>acJ
def nI(C:Ctx)(place:Nat->Option (Nat×Nat)):List (Nat×Operand)->List (Nat×Nat×bK)->Bool
 |[],[]=>acI
 |(i,x)::r,(off,sz,y)::t=>place i==acK (off,sz)&&dm C x y&&nI C place r t
 |_,_=>acJ
def placeOf(P:Program)(t:TypeId)(i:Nat):Option (Nat×Nat):=
 match P.underlying t with
 |some (.struct fs)=>match fs[i]? with|some f=>(P.info? f.type).map λinf=>(f.offset,inf.size)|none=>acL
 |some (.array _ e)=>(P.info? e).map λinf=>(i*inf.size,inf.size)
 |_=>acL
def z1(P:Program)(t:TypeId):Bool:=
 match P.underlying t with
 |some (.struct fs)=>fs.all λf=>(P.info? f.type).isSome
 |some (.array _ e)=>(P.info? e).isSome
 |_=>acJ
def lv(P:Program)(f:FuncId):Bool:=
 match P.funcs[f]? with
 | some fn => !(fn.name == "runtime.NumGoroutine") && fn.body.isSome
 |none=>acJ
def oU(a:TypeId->Option (List FK)):List Field->Nat->Option (List FK)
 |[],_=>acK []
 | f :: r, k => if f.offset = k ∧ f.name ≠ "_" then (match a f.type with | some l => (oU a r (k + l.length)).map (l ++ ·) | none => none) else none
def lx(P:Program):Nat->TypeId->Option (List FK)
 |0,_=>acL
 | d+1,t=>match P.underlying t,P.info? t with
  |some (.int _),_=>acK [.n]
  |some .bool,_=>acK [.b]
  |some .string,_=>acK [.t]
  |some (.struct fs),acK i=>if P.stoodInHeld t=acI then acL else(match oU (lx P d) fs.toList 0 with|some l=>if i.size=l.length then acK l else acL|none=>acL)
  |some (.array n e),acK i=>(match lx P d e,P.info? e with|some l,acK j=>if i.size=(KT n l).flatten.length/\j.size=l.length then acK (KT n l).flatten else acL|_,_=>acL)
  |_,_=>acL
def Ek(C:Ctx)(o:Op)(e:Ext)(xs:List bK):Bool:=
 match e with
 | .stuck=>acI
 | .clear sz zero=>match o,xs with
  | .call {callee:= .builtin .clear,args,argTypes},[x]=>(match args.toList,argTypes.toList with
    |[a],[t]=>dm C a x&&(match mf C.P t with|some e=>(match C.P.info? e with|some inf=>(match inf.zero with|some z=>z.cells.size==sz&&jQ z.cells.toList zero|none=>acJ)|none=>acJ)|none=>acJ)
    |_,_=>acJ)
  |_,_=>acJ
def dO(C:Ctx)(o:Op)(a:e2):Bool:=
 match a with
 | .mv x=>match o with | .move y | .assign y=>dm C y x|_=>acJ
 | .pick c x y=>match o with | .pick c' g h=>dm C c' c&&dm C g x&&dm C h y|_=>acJ
 | .bin op x y=>match o with | .binOp m _ g h _=>op==m&&dm C g x&&dm C h y|_=>acJ
 | .beq neg x y=>match o with
  | .binOp op t g h _=>op==(if neg then .neq else .eql)&&(match C.P.underlying t with|some .bool=>acI|_=>acJ)&&dm C g x&&dm C h y
  |_=>acJ
 | .j_ k neg x=>match o with
  | .binOp op t g h _=>op==(if neg then .neq else .eql)&&(match C.P.underlying t with|some d=>oP d==acK k|none=>acJ)&&dm C g x &&
    (match h with | .const v=>(match k,v with | .p,.pointer acL | .s,.slice acL 0 0 | .f,.nilFunc | .i,.nilIface=>acI|_,_=>acJ)|_=>acJ)
  |_=>acJ
 | .jv neg ks x y=>match o with
  | .binOp op t g h _=>op==(if neg then .neq else .eql)&&(match C.P.underlying t with|some d=>iG d|none=>acJ)&&lx C.P 9 t==acK ks&&!C.P.eqGuardType C.P.depth t&&dm C g x&&dm C h y
  |_=>acJ
 | .un op x=>match o with | .unOp m _ g=>op==m&&dm C g x|_=>acJ
 | .conv k x=>match o with
  | .convert s d g=>(match C.P.underlying s,C.P.underlying d with|some _,acK (.int k')=>k==k'|_,_=>acJ)&&dm C g x
  |_=>acJ
 | .same x=>match o with
  | .convert s d g=>(match C.P.underlying s,C.P.underlying d with|some .string,acK .string=>acI|_,_=>acJ)&&dm C g x
  |_=>acJ
 | .kH x=>match o with | .nilCheck g=>dm C g x|_=>acJ
 | .field off sz agg x=>match o with
  | .field t g n=>(match oT C.P t n with|some f=>f.offset==off&&i_ C.P f.type sz agg|none=>acJ)&&dm C g x
  |_=>acJ
 | .idx len sz agg x i=>match o with
  | .index t g j=>(match tr C.P t with|some (n,e)=>n==len&&i_ C.P e sz agg|none=>acJ)&&dm C g x&&dm C j i
  |_=>acJ
 | .idxs x i=>match o with
  | .index t g j=>(match C.P.underlying t with|some .string=>acI|_=>acJ)&&dm C g x&&dm C j i
  |_=>acJ
 | .hM off x=>match o with
  | .fieldAddr t g n=>(match oT C.P t n with|some f=>f.offset==off&&(match C.P.info? f.type with|some D=>D.size != 0|none=>acJ)|none=>acJ)&&dm C g x
  |_=>acJ
 | .gY arr sz x i=>match o with
  | .indexAddr t g j=>(match arr with
      |none=>(match mf C.P t with|some e=>nH C.P e sz|none=>acJ)
      |some n=>(match tr C.P t with|some (n',e)=>n==n'&&nH C.P e sz|none=>acJ))&&dm C g x&&dm C j i
  |_=>acJ
 | .slice sz x lo hi mx=>match o with
  | .slice t g q r u=>(match mf C.P t with|some e=>nH C.P e sz|none=>acJ)&&dm C g x&&nG C q lo&&nG C r hi&&nG C u mx&&(mx.isNone||hi.isSome)
  |_=>acJ
 | .kI x lo hi=>match o with
  | .slice t g q r u=>(match C.P.underlying t with|some .string=>acI|_=>acJ)&&dm C g x&&nG C q lo&&nG C r hi&&u.isNone
  |_=>acJ
 | .iD t x=>match o with
  | .makeInterface w g=>t==w&&(match C.P.underlying t with|some (.interface _)=>acJ|some _=>acI|none=>acJ)&&dm C g x
  |_=>acJ
 | .h_ key cd=>match o with
  | .makeFunc (.func f) first E=>match iC key with
   |none=>C.F key==acK f&&first.size==0&&me C E.toList cd
   |some _=>acJ
  |_=>acJ
 | .extract i x=>match o with | .extract g j=>i==j&&dm C g x|_=>acJ
 | .build zero parts=>match o with
  | .build t A=>(match C.P.info? t with|some inf=>(match inf.zero with|some z=>jQ z.cells.toList zero|none=>acJ)|none=>acJ)&&z1 C.P t&&nI C (placeOf C.P t) A.toList parts
  |_=>acJ
 | .len str x=>match o with
  | .call {callee:= .builtin .len,args,argTypes}=>(match args.toList,argTypes.toList with
      |[g],[t]=>dm C g x&&(match C.P.underlying t with|some .string=>str|some (.slice _)=>!str|_=>acJ)
      |_,_=>acJ)
  |_=>acJ
 | .iE n=>match o with
  | .call {callee:= .builtin .len,args,argTypes}=>(match args.toList,argTypes.toList with
      |[_],[t]=>(match C.P.underlying t with|some (.array n' _)=>n==n'|_=>acJ)
      |_,_=>acJ)
  |_=>acJ
 | .iF mx xs=>match o with
  | .call {callee:= .builtin b,args,..}=>(match b with | .max=>mx | .min=>!mx|_=>acJ)&&me C args.toList xs
  |_=>acJ
 | .load n agg x=>match o with | .load t g=>i_ C.P t n agg&&dm C g x|_=>acJ
 | .store n x v=>match o with | .store t g G=>(i_ C.P t n acI||i_ C.P t n acJ)&&dm C g x&&dm C G v|_=>acJ
 | .box _ _ x=>match o with | .box _ g=>dm C g x|_=>acJ
 | .alloc _ zero=>match o with
  | .alloc t=>(match C.P.info? t with|some inf=>(match inf.zero with|some z=>jQ z.cells.toList zero|none=>acJ)|none=>acJ)
  |_=>acJ
 | .hP _ sz len zero parts=>match o with
  | .buildSlice t H A=>(match mf C.P t with
      |some e=>(match C.P.info? e with|some inf=>tt C.P e sz inf.bytes zero|none=>acJ)&&zero.length==sz&&len==H&&decide (len*sz<=16777216)&&nI C (λi=>acK (i*sz,sz)) A.toList parts
      |none=>acJ)
  |_=>acJ
 | .append _ sz bytes x y=>match o with
  | .call {callee:= .builtin .append,args,argTypes}=>(match args.toList,argTypes.toList with
      | [g, h], [t, w] => t == w && dm C g x && dm C h y && (match mf C.P t with
          |some e=>(match C.P.info? e with|some inf=>inf.size==sz&&inf.bytes==bytes&&(match inf.zero with|some z=>z.cells.size==sz|none=>acJ)&&decide (0<sz)|none=>acJ)
          |none=>acJ)
      |_,_=>acJ)
  |_=>acJ
 | .make _ sz bytes zero len cap=>match o with
  | .makeSlice t l c=>dm C l len&&dm C c cap&&(match mf C.P t with|some e=>tt C.P e sz bytes zero|none=>acJ)
  |_=>acJ
 | .call key args=>match o with
  | .call {callee:= .value (.func f),args:=B,..}=>C.F key==acK f&&lv C.P f&&me C B.toList args
  |_=>acJ
 | .i6 f args=>match o with
  | .call {callee:= .value I,args:=B,..}=>dm C I f&&me C B.toList args
  |_=>acJ
 | .kJ x=>match o with
  | .convert s d g=>(match C.P.underlying s,C.P.underlying d with|some .string,acK (.slice e)=>(match C.P.underlying e with|some (.int .u8)=>acI|_=>acJ)|_,_=>acJ)&&dm C g x
  |_=>acJ
 | .iX x=>match o with
  | .convert s d g=>(match C.P.underlying s,C.P.underlying d with|some (.slice e),acK .string=>(match C.P.underlying e with|some (.int .u8)=>acI|_=>acJ)|_,_=>acJ)&&dm C g x
  |_=>acJ
 | .iY x=>match o with | .range t g=>(match C.P.underlying t with|some .string=>acI|_=>acJ)&&dm C g x|_=>acJ
 | .iZ x=>match o with | .next g acI=>dm C g x|_=>acJ
 | .ext e xs=>Ek C o e xs
 | .copy sz x y=>match o with
  | .call {callee:= .builtin .copy,args,argTypes}=>(match args.toList,argTypes.toList with
      |[g,h],[t,_]=>dm C g x&&dm C h y&&(match mf C.P t with|some e=>nH C.P e sz|none=>acJ)
      |_,_=>acJ)
  |_=>acJ
def kc(C:Ctx)(w:World)(G:aW):Prop:=∀g l,C.GT g=acK l->VR C.F w G (.ae l) (.pointer (acK ⟨g,0,acL⟩))
theorem kc.mono{C:Ctx}{w w':World}{G G':aW}(a:GLe w G w' G')(h:kc C w G):kc C w' G':=λg l hl=>(h g l hl).mono a
def c9(C:Ctx)(w:World)(G:aW)(H:Z):Prop:=kc C w G/\∀g l,C.GT g=acK l->l≠[]->(∃cs t fr,w.heap[g]?=acK (.cells cs t fr)/\cs.size=l.length)/\∀i,(H.o i).live=acI->G.loc i≠g
theorem c9.step{C:Ctx}{w w':World}{G G':aW}{H H':Z}(h:c9 C w G H)(a:Step w G H w' G' H'):c9 C w' G' H':=by refine⟨h.1.mono a.toGLe,λg l hl f=>?_⟩;obtain⟨⟨cs,t,fr,b,hs⟩,c⟩:=h.2 g l hl f;have d:g<w.heap.size:=(aa5.1 b).1;refine⟨⟨cs,t,fr,(a.d_ g d c).trans b,hs⟩,λi hi e=>?_⟩;obtain⟨j,k,m⟩:=a.owned i hi (by rw[e];exact d);exact c j k (m.trans e)
theorem c9.qA{C:Ctx}{w:World}{G:aW}{H:Z}{x:cx}(h:c9 C w G H){b c:Nat}(k:GLe w G w (G.more b c))(hn:G.n=H.n)(m:∀j,¬G.fz b j):c9 C w (G.more b c) (H.push x):=by
 refine⟨h.1.mono k,λg l hl a=>⟨(h.2 g l hl a).1,λi hi e=>?_⟩⟩;by_cases d:i=H.n
 . have U:(G.more b c).loc i=b:=ab (d.trans hn.symm);have hv:=h.1 g l hl;generalize p:(Value.pointer (acK ⟨g,0,acL⟩))=X at hv;generalize hY:I.ae l=Y at hv;cases hv with
   | ae cells u o Vs hc hv=>
    cases p;cases hY;cases f:l with
    |nil=>exact a f
    | cons q r=>refine m 0 ?_;rw[<-U,e];simpa using(hc 0 q (by rw[f];rfl)).1
   |bot=>cases hY
   |_=>cases hY
 . have h1:(H.push x).o i=H.o i:=af d;have s:(G.more b c).loc i=G.loc i:=af (λt=>d (t.trans hn));rw[h1]at hi;rw[s]at e;exact(h.2 g l hl a).2 i hi e
theorem c9.mt{C:Ctx}{w:World}{G G':aW}{H H':Z}(h:c9 C w G H)(a:kc C w G')(b:∀i,(H'.o i).live=acI->False):c9 C w G' H':=⟨a,λg l hl c=>⟨(h.2 g l hl c).1,λi hi=>(b i hi).elim⟩⟩
def ai(C:Ctx):ad:=λkey args H Q=>
 (∃v H',Q v H')/\∀f,C.F key=acK f->∀(G:aW)(w:World)(Vs:Array Value),c9 C w G H->Rel C.F w G H->be C.F w G args Vs ->
  Calls C.P f Vs w λe w'=>∃V v H' G',e = .returned V/\Q v H'/\VR C.F w' G' v V/\Rel C.F w' G' H'/\Step w G H w' G' H'
theorem El(C:Ctx):mO (ai C):=λ_ _ _ _ h=>h.1
section
variable{C:Ctx}{w:World}{G:aW}{H:Z}{env:Env}{a:Act}
theorem Em(h:tq V c=acI):VR C.F w G c V:=by
 unfold tq at h;split at h
 ·simp at h;subst h;exact .bool _
 ·simp at h;obtain⟨rfl,rfl⟩:=h;exact .int _ _
 . rename_i s l;simp at h;subst h;have:s=⟨s.data.toList.toArray⟩:=(Lib.mk_data s).symm;rw[this];simpa using VR.str (F:=C.F) (w:=w) (G:=G) s.data.toList
 ·exact .h5
 ·exact .h6
 ·exact .h7
 ·exact .gX
 ·cases h
theorem mQ:∀{Vs:List Value}{cs:List I},jQ Vs cs=acI->be C.F w G cs Vs.toArray:=by
 intro Vs;induction Vs with
 |nil=>intro cs h;cases cs<;>simp[jQ]at h;exact be.nil
 | cons V Vs f=>
  intro cs h;cases cs with
  |nil=>simp[jQ]at h
  | cons c cs=>
   simp[jQ]at h;have e:=f h.2;refine be.nE (by have:=e.1;simp at this ⊢;exact this) λj d g a b=>?_;cases j with
   |zero=>simp at a b;subst a;subst b;exact Em h.1
   |succ j=>exact e.2 j d g (by simpa using a) (by simpa using b)
theorem OR(h:zZ V c=acI):VR C.F w G c V:=by
 unfold zZ at h;split at h
 . rename_i Vs cs;have:=(mQ (C:=C) (w:=w) (G:=G) h).agg;simpa using this
 . rename_i Vs cs;have:=(mQ (C:=C) (w:=w) (G:=G) h).aA;simpa using this
 ·exact Em h
theorem OS:∀{l l':List I},mP l l'=acI->l=l':=by
 intro l;induction l with
 |nil=>intro l' h;cases l'<;>simp[mP]at h;rfl
 | cons c l a=>
  intro l' h;cases l' with
  |nil=>cases c<;>simp[mP]at h
  | cons d l'=>
   cases c<;>cases d<;>simp[mP]at h
   ·rw[h.1,a h.2]
   ·rw[h.1.1,h.1.2,a h.2]
   ·rw[h.1,a h.2]
theorem ly{t:Nat}(b:be C.F w G env a.tmps):VR C.F w G (env.getD t .bot) (a.tmps.getD t undef):=by
 rw[abD,abz];cases hc:env[t]? with
 |none=>exact .bot _
 | some c=>obtain⟨V,d,e⟩:=b.get hc;rw[d];exact e
theorem dt{x:Operand}{y:bK}(hG:kc C w G)(b:be C.F w G env a.tmps)(h:dm C x y=acI):VR C.F w G (y.ev env) (a.eval x):=by
 unfold dm at h;rw[aas]at h;rcases h with h|h
 . unfold Ej at h;split at h
   ·exact .bot _
   ·cases h
 unfold Ei at h;split at h
 ·simp at h;subst h;exact ly b
 ·exact OR h
 . split at h
   . rename_i l l' hl;rw[<-OS h];exact hG _ _ hl
   ·cases h
 . split at h
   . rename_i key;simp only[aar,Option.isNone_iff_eq_none,bZ]at h;exact .fn key [] _ #[] h.1 h.2 rfl (λj c V hc _=>by simp at hc)
   ·cases h
 ·cases h
theorem qB{x:Option Operand}{y:Option bK}(hG:kc C w G)(b:be C.F w G env a.tmps)(h:nG C x y=acI):lr C.F w G (y.map (bK.ev env)) (x.map a.eval):=by
 unfold nG at h;split at h
 ·trivial
 ·exact dt hG b h
 ·cases h
theorem tv(hG:kc C w G)(g:be C.F w G env a.tmps):∀{xs:List Operand}{b:List bK},me C xs b=acI->be C.F w G (gh env b) (xs.map a.eval).toArray:=by
 intro xs;induction xs with
 |nil=>intro b h;cases b<;>simp[me]at h;exact be.nil
 | cons x xs i=>
  intro b h;cases b with
  |nil=>simp[me]at h
  | cons y b=>
   simp[me]at h;have f:=i h.2;refine be.nE (by have:=f.1;simp[gh]at this ⊢;exact this) λj d k c e=>?_;cases j with
   |zero=>simp[gh]at c e;subst c;subst e;exact dt hG g h.1
   |succ j=>exact f.2 j d k (by simpa[gh]using c) (by simpa using e)
theorem En(hG:kc C w G)(d:be C.F w G env a.tmps){place:Nat->Option (Nat×Nat)}:∀{xs:List (Nat×Operand)}{b:List (Nat×Nat×bK)},nI C place xs b=acI ->
  (gZ env b).length=(xs.map λp=>(p.1,a.eval p.2)).length /\
  ∀(j:Nat)(q:Nat×Nat×I)(p:Nat×Value),(gZ env b)[j]?=acK q->(xs.map λp=>(p.1,a.eval p.2))[j]?=acK p->place p.1=acK (q.1,q.2.1)/\VR C.F w G q.2.2 p.2:=by
 intro xs;induction xs with
 |nil=>intro b h;cases b<;>simp[nI]at h;exact⟨rfl,λj q p c=>by simp[gZ]at c⟩
 | cons x xs e=>
  intro b h;obtain⟨i,x⟩:=x;cases b with
  |nil=>simp[nI]at h
  | cons y b=>
   obtain⟨off,sz,y⟩:=y;simp[nI]at h;obtain⟨h1,f⟩:=e h.2;refine⟨by simp[gZ]at h1 ⊢;exact h1,λj q p c hp=>?_⟩;cases j with
   |zero=>simp[gZ]at c hp;subst c;subst hp;exact⟨h.1.1,dt hG d h.1.2⟩
   |succ j=>exact f j q p (by simpa[gZ]using c) (by simpa using hp)
end
end Rb
namespace Rb
open Go
variable{Xs:Array Value}{v:I}{x y:List I}{e t:TypeId}{H':Z}{m sz:Nat}{inf:TypeInfo}{V:Value}{w':World}{next:Act->World->Prop}
def Op.oV(m:Nat)(xs c:Array Value)(e:TypeId)(n:Nat):List Nat->Sem Bool
 |[]=>pure acI
 | i::r=>do
  let a <-part e xs (i*n);let b <-part e c (i*n);let x <-aaA m e a b
  if(!x)=acI then pure acJ else Op.oV m xs c e n r
theorem run_equalIn_array{P:Program}(w:World)(m:Nat)(t e:TypeId)(len:Nat)(i:TypeInfo)(xs c:Array Value)(ht:P.underlying t=acK (.array len e))(hi:P.info? e=acK i) :
  (aaA (m+1) t (.agg xs) (.agg c)).run P w=(Op.oV m xs c e i.size (aa_ len)).run P w:=by
 have hs:(aaq e).run P w = .ok i.size w:=by simp[aaq,typeInfo,hi]
 simp only[aaA,abN,run_underlying ht,abO,hs];rw[abP];have d:abQ (abR [:len]) (abS [:len]) (abT [:len])=aa_ len:=by simp[abS,abU]
 rw[d];clear hs d;generalize aa_ len=l;induction l generalizing w with
 |nil=>simp[Op.oV]
 | cons j r f=>
  simp only[List.forIn_cons,Op.oV,abN,Sem.run_ite];generalize (part e xs (j*i.size)).run P w=r1;cases r1 with
  | ok a w1=>
   simp only[abO];generalize (part e c (j*i.size)).run P w1=g;cases g with
   | ok b w2=>
    simp only[abO];generalize (aaA m e a b).run P w2=h;cases h with
    | ok x w3=>
     cases x
     ·simp only[abO,Bool.not_false,bc,abV]
     . simp only[abO,Bool.not_true,abW,b4,abV];exact f w3
    |halt x w3=>simp[abX]
   |halt x w2=>simp[abX]
  |halt x w1=>simp[abX]
theorem z6:∀(k1 k2:List FK)(xs g:List I)(b:Bool),ep (k1++k2) xs g=acK b ->
  ∃c e d f b1 b2,xs=c++e/\g=d++f/\c.length=k1.length/\d.length=k1.length/\ep k1 c d=acK b1/\ep k2 e f=acK b2/\b=(b1&&b2):=by
 intro k1;induction k1 with
 |nil=>intro k2 xs g b h;exact⟨[],xs,[],g,acI,b,rfl,rfl,rfl,rfl,rfl,h,by simp⟩
 | cons k k1 m=>
  intro k2 xs g b h;have step:∀(x y:I)(r t:List I)(a q:Bool),ep (k1++k2) r t=acK a->(∀(z:Bool),ep k1 (r.take k1.length) (t.take k1.length)=acK z->ep (k::k1) (x::r.take k1.length) (y::t.take k1.length)=acK (q&&z))->b=(q&&a) ->
    ∃c e d f b1 b2,x::r=c++e/\y::t=d++f/\c.length=(k::k1).length/\d.length=(k::k1).length/\ep (k::k1) c d=acK b1/\ep k2 e f=acK b2/\b=(b1&&b2):=by
   intro x y r t a q n j U;obtain⟨c,e,d,f,b1,b2,rfl,rfl,i,l,h1,o,p⟩:=m k2 r t a n;rw[<-i,abY,i,<-l,abY]at j;exact⟨x::c,e,y::d,f,q&&b1,b2,rfl,rfl,by simp[i],by simp[l],j _ h1,o,by rw[U,p,Bool.and_assoc]⟩
  cases k<;>cases xs<;>(try (simp[ep]at h;done))<;>cases g<;>(try (simp[ep]at h;done))<;>rename_i x r y t<;>cases x<;>(try (simp[ep]at h;done))<;>cases y<;>(try (simp[ep]at h;done))
  . simp only[abZ,ep]at h;split at h
    . rename_i hk;subst hk;cases U:ep (k1++k2) r t with
      |none=>simp[U]at h
      | some a=>simp[U]at h;exact step _ _ r t a _ U (λz hz=>by simp only[ep,bc,hz,aaD]) h.symm
    ·cases h
  . simp only[abZ,ep]at h;cases U:ep (k1++k2) r t with
    |none=>simp[U]at h
    | some a=>simp[U]at h;exact step _ _ r t a _ U (λz hz=>by simp only[ep,hz,aaD]) h.symm
  . simp only[abZ,ep]at h;cases U:ep (k1++k2) r t with
    |none=>simp[U]at h
    | some a=>simp[U]at h;exact step _ _ r t a _ U (λz hz=>by simp only[ep,hz,aaD]) h.symm
theorem Eo:∀(ks:List FK)(xs a:List I)(b:Bool),ep ks xs a=acK b->xs.length=ks.length/\a.length=ks.length:=by intro ks xs a b h;obtain⟨g,c,i,d,b1,b2,rfl,rfl,h1,e,_,f,_⟩:=z6 ks [] xs a b (by simpa using h);cases c<;>cases d<;>simp[ep]at f;simp[h1,e]
section
variable{P:Program}{F:dE}{w:World}{G:aW}
def ib(F:dE)(w:World)(G:aW)(Xs:Array Value)(o:Nat)(xs:List I):Prop:=∀(j:Nat)(c:I),xs[j]?=acK c->∃V,Xs[o+j]?=acK V/\VR F w G c V
theorem ib.left{o:Nat}(h:ib F w G Xs o (x++y)):ib F w G Xs o x:=λj c a=>h j c (by rw[ab0 (aal.1 a).1];exact a)
theorem ib.right{o:Nat}(h:ib F w G Xs o (x++y)):ib F w G Xs (o+x.length) y:=λj c a=>by have:=h (x.length+j) c (by rw[ab1 (by omega)];simpa using a);rwa [<-aaH]at this
theorem ib.cut{o n:Nat}(h:ib F w G Xs o x)(hn:n=x.length):ib F w G (Xs.extract o (o+n)) 0 x:=λj c a=>by obtain⟨V,b,hv⟩:=h j c a;have d:=(aal.1 a).1;have e:=(aa5.1 b).1;refine⟨V,?_,hv⟩;rw[aa8,aap,dN];exact b
def qC(P:Program)(F:dE)(w:World)(G:aW)(m:Nat)(t:TypeId)(ks:List FK):Prop:=
 ∀ (Xs d:Array Value) (e f:Nat) (xs g:List I) (b:Bool),ep ks xs g=acK b->ib F w G Xs e xs->ib F w G d f g ->
  ∃a c,(part t Xs e).run P w = .ok a w/\(part t d f).run P w = .ok c w/\(aaA m t a c).run P w = .ok b w
def tw(P:Program)(F:dE)(w:World)(G:aW)(m:Nat)(t:TypeId)(ks:List FK):Prop:=∀(Xs a:Array Value)(xs c:List I)(b:Bool),ep ks xs c=acK b->ib F w G Xs 0 xs->ib F w G a 0 c->(aaA m t (.agg Xs) (.agg a)).run P w = .ok b w
theorem OT{g:TypeId->Option (List FK)}(q:∀t l,g t=acK l->qC P F w G m t l){Xs h:Array Value}:∀(fs:List Field)(k:Nat)(ks:List FK)(xs e:List I)(b:Bool),oU g fs k=acK ks->ep ks xs e=acK b ->
  ib F w G Xs k xs->ib F w G h k e->(ab2 m Xs h fs).run P w = .ok b w:=by
 intro fs;induction fs with
 | nil=>intro k ks xs e b d he _ _;simp only[oU,aaC.injEq]at d;subst d;cases xs<;>cases e<;>simp[ep]at he;subst he;rfl
 | cons f fs r=>
  intro k ks xs e b d he j hY;simp only[oU]at d;split at d
  . rename_i s;obtain⟨u,v⟩:=s;split at d
    . rename_i l hl;cases i:oU g fs (k+l.length)with
      |none=>simp[i]at d
      | some n=>
       simp only[i,aaD,aaC.injEq]at d;subst d;obtain⟨x,y,z,A,b1,b2,rfl,rfl,B,C,h1,D,rfl⟩:=z6 l n xs e b he;obtain⟨a,c,ha,hc,E⟩:=q _ _ hl Xs h k k x z b1 h1 j.left hY.left;rw[<-u]at ha hc;have o:=j.right;have p:=hY.right;rw[B]at o;rw[C]at p;simp only[ab2,v,ne_eq,not_false_eq_true,bc,abN,ha,hc,E,abO];cases b1 with
       |false=>simp
       |true=>simp;exact r (k+l.length) n y A b2 i D o p
    ·cases d
  ·cases d
theorem OU{l:List FK}(hp:qC P F w G m e l){Xs f:Array Value}:∀(n s:Nat)(xs d:List I)(b:Bool),ep (KT n l).flatten xs d=acK b ->
  ib F w G Xs (s*l.length) xs->ib F w G f (s*l.length) d->(Op.oV m Xs f e l.length (abQ s n)).run P w = .ok b w:=by
 intro n;induction n with
 | zero=>intro s xs d b he _ _;cases xs<;>cases d<;>simp[ep]at he;subst he;rfl
 | succ n j=>
  intro s xs d b he g hY;rw[abn,abo]at he;obtain⟨k,o,p,q,b1,b2,rfl,rfl,r,t,h1,u,rfl⟩:=z6 l _ xs d b he;obtain⟨a,c,ha,hc,v⟩:=hp Xs f _ _ k p b1 h1 g.left hY.left;have h:=g.right;have i:=hY.right;rw[r,<-ab3]at h;rw[t,<-ab3]at i;rw[List.range'_succ];simp only[Op.oV,abN,ha,hc,v,abO];cases b1 with
  |false=>simp
  |true=>simp;exact j (s+1) o q b2 u h i
theorem OV:∀(d:Nat)(t:TypeId)(ks:List FK),lx P d t=acK ks->∀m,d<=m->qC P F w G m t ks/\(∀D,P.underlying t=acK D->iG D=acI->tw P F w G m t ks):=by
 intro d;induction d with
 |zero=>intro t ks h;cases h
 | succ d z=>
  intro t ks h m hm;obtain⟨m,rfl⟩:∃L,m=L+1:=⟨m-1,by omega⟩
  have A:d<=m:=by omega
  have wrap:∀D (i:TypeInfo),P.underlying t=acK D->iG D=acI->P.info? t=acK i->i.size=ks.length->tw P F w G (m+1) t ks->qC P F w G (m+1) t ks/\(∀D,P.underlying t=acK D->iG D=acI->tw P F w G (m+1) t ks):=by intro D i o p hi q ha;refine⟨λXs r M N xs c b he g hY=>?_,λ_ _ _=>ha⟩;obtain⟨B,C⟩:=Eo ks xs c b he;exact⟨_,_,zM o p hi,zM o p hi,ha _ _ xs c b he (g.cut (by omega)) (hY.cut (by omega))⟩
  have v:∀D,P.underlying t=acK D->iG D=acJ->∀k,ks=[k]->(∀x y b V f,ep [k] [x] [y]=acK b->VR F w G x V->VR F w G y f->(aaA (m+1) t V f).run P w = .ok b w)->qC P F w G (m+1) t ks/\(∀D,P.underlying t=acK D->iG D=acI->tw P F w G (m+1) t ks):=by
   intro D o p k hk hs;subst hk;refine⟨λXs r M N xs c b he g hY=>?_,λS E H=>?_⟩
   . obtain ⟨B,C⟩:=Eo _ xs c b he
     match xs,c,B,C with
     | [x],[y],_,_=>obtain⟨V,I,hv⟩:=g 0 x rfl;obtain⟨f,J,hu⟩:=hY 0 y rfl;rw[aaY]at I J;exact⟨V,f,zN o p I,zN o p J,hs x y b V f he hv hu⟩
   ·rw[o]at E;cases E;rw[p]at H;cases H
  simp only[lx]at h;split at h
  . rename_i T a;cases h;refine v _ a rfl _ rfl λx y b V f he s u=>?_;cases x<;>cases y<;>simp only[ep]at he<;>try (cases he;done)
    split at he
    . rename_i O;subst O;obtain rfl:=s.hV;obtain rfl:=u.hV;simp at he;rw[run_equalIn_int w m t _ _ _ _ a,he]
    ·cases he
  . rename_i a;cases h;refine v _ a rfl _ rfl λx y b V f he s u=>?_;cases x<;>cases y<;>simp only[ep]at he<;>try (cases he;done)
    obtain rfl:=s.kL;obtain rfl:=u.kL;simp at he;rw[run_equalIn_bool' w m t _ _ a,he]
  . rename_i a;cases h;refine v _ a rfl _ rfl λx y b V f he s u=>?_;cases x<;>cases y<;>simp only[ep]at he<;>try (cases he;done)
    obtain rfl:=s.kM;obtain rfl:=u.kM;simp at he;rw[run_equalIn_string w m t _ _ a];simp[he]
  . rename_i fs i a hi;split at h
    ·cases h
    . rename_i Q;split at h
      . rename_i l hl;split at h
        . rename_i q;cases h;refine wrap _ i a rfl hi q λXs r xs c b he g hY=>?_;have K:P.fieldsOf t=fs:=by simp[Program.fieldsOf,a]
          have h1:=run_equalIn_struct (P:=P) w m t Xs r (by rw[K];exact a) (by simpa using Q);rw[K]at h1;rw[h1];exact OT (λt l hl=>(z t l hl m A).1) fs.toList 0 _ xs c b hl he g hY
        ·cases h
      ·cases h
  . rename_i n e i a hi;split at h
    . rename_i l j hl R;split at h
      . rename_i q;cases h;refine wrap _ i a rfl hi q.1 λXs r xs c b he g hY=>?_;rw[run_equalIn_array w m t e n j Xs r a R,q.2,abU];exact OU (z e l hl m A).1 n 0 xs c b he (by simpa using g) (by simpa using hY)
      ·cases h
    ·cases h
  ·cases h
end
section
variable{P:Program}{F:dE}{w:World}{G:aW}{H:Z}
theorem be.take{cs:List I}{L:List Value}(h:be F w G cs L.toArray)(k:Nat):be F w G (cs.take k) (L.take k).toArray:=by
 refine be.nE (by have:=h.1;simp at this;simp[this]) λj c V hc a=>?_;have b:j<k:=by have:=(aal.1 hc).1;simp at this;omega
 rw[ab4 b]at hc a;exact h.2 j c V hc (by simpa using a)
theorem OW{t t2 e ty:TypeId}{x y v:I}{X Y:Value}{H':Z}(b:Rel F w G H)(ht:P.underlying t=acK (.slice e))(hi:P.info? e=acK inf)(hs:inf.size=sz)
  (h:qt H sz x y=acK (v,H')) (g:VR F w G x X) (i:VR F w G y Y):jP F w G H v H' ((ab5 #[t,t2] ty #[X,Y]).run P w):=by
 subst hs;unfold qt at h;split at h
 . rename_i id o len R m news k;obtain⟨l,d,c,rfl,n⟩:=zW b k i;split at h
   . rename_i cs p;dsimp only at h;split at h
     . rename_i hk;cases h;have q:∃L:List Value,be F w G (news.take (min m len*inf.size)) L.toArray/\(abB inf.size (min m len) (.slice d m c)).run P w = .ok L.toArray w:=by
        rcases Nat.eq_zero_or_pos m with hm|hm
        . subst hm;have:news=[]:=by simpa using l
          subst this;refine⟨[],by simpa using be.nil,?_⟩;cases d<;>simp[abB,loadCells,loadCellsFrom]
        . obtain ⟨r,os,rfl,s⟩:=n hm;obtain⟨M,f,A⟩:=s.nF;have B:M.length=m*inf.size:=by have:=f.1;simp at this;omega
          refine⟨M.take (min m len*inf.size),f.take _,?_⟩;have hle:min m len*inf.size<=m*inf.size:=aby _ (Nat.min_le_left _ _);exact run_firstCells_some (P:=P) w inf.size (min m len) ⟨r,os,acL⟩ m c (M.take (min m len*inf.size)) (by rw[List.length_take,B];omega) λj u a=>by
           have C:j<min m len*inf.size:=by have:=(aal.1 a).1;simp at this;omega
           rw[ab4 C]at a;exact A j u a
       obtain⟨L,D,hf⟩:=q;have O:(news.take (min m len*inf.size)).length<=min m len*inf.size:=by simp;omega
       obtain ⟨w',E,J,K⟩:=tm (P:=P) (o:=o) b p D (by omega) (by rw[abh];intro z hz;exact(abh.1 hk.1) z (List.mem_of_mem_take hz))
       cases g with
       | row _ _ _ _ cap Q hle hc=>refine⟨.int .i64 ((min m len:Nat):Int),w',G,?_,.int _ _,J,K⟩;have N:Nat.min m len=min m len:=rfl;simp[ab5,run_underlying ht,aaq,typeInfo,hi,abw,N,hf,E,goInt]
     ·cases h
   ·cases h
 ·cases h
theorem OX{t e ty:TypeId}{sz:Nat}{zero:List I}{z:Value}{x v:I}{X:Value}{H':Z}(d:Rel F w G H)(ht:P.underlying t=acK (.slice e))(hi:P.info? e=acK inf)(hz:inf.zero=acK z)(f:be F w G zero z.cells)
  (h:j8 H (.clear sz zero) [x]=acK (v,H')) (g:VR F w G x X):jP F w G H v H' ((ab6 #[t] ty #[X]).run P w):=by
 have nothing:∀(a:Option Addr)(cap:Nat),jP F w G H (.aA []) H ((ab6 #[t] ty #[.slice a 0 cap]).run P w):=by intro a cap;refine⟨.tuple #[],w,G,?_,.aA [] #[] rfl (λj c V hc _=>by simp at hc),d,Step.refl _ _ _⟩;cases a<;>simp[ab6,run_underlying ht]
 cases x<;>try (simp[j8]at h;done)
 . rename_i tk len cells;cases len with
   |succ n=>simp[j8]at h
   | zero=>
    simp only[j8,aaC.injEq,ab7.injEq]at h;obtain⟨rfl,rfl⟩:=h;cases g with
    |gX=>exact nothing _ _
    |gg a cap=>exact nothing _ _
    |aq _ _ _ b o cap Vs D hle h hv=>exact nothing _ _
 . rename_i id o len E;simp only[j8]at h;cases g with
   | row _ _ _ _ cap J hle hc=>
    split at h
    . rename_i hl;subst hl;simp only[aaC.injEq,ab7.injEq]at h;obtain⟨rfl,rfl⟩:=h;exact nothing _ _
    . rename_i hl;split at h
      . rename_i cs k;split at h
        . rename_i hk;obtain⟨m,p,q⟩:=hk;simp only[aaC.injEq,ab7.injEq]at h;obtain⟨rfl,rfl⟩:=h;have r:zero.length=z.cells.size:=f.1;have s:be F w G (KT len zero).flatten (abA z.cells len).toList.toArray:=by
           have:=tp f len;rw[r]at this;rw[Array.toArray_toList];exact this
          have u:(KT len zero).flatten.length=len*zero.length:=by simp
          have y:(KT len zero).flatten.all I.scalar=acI:=by rw[abh];intro c hc;rw[List.mem_flatten]at hc;obtain⟨l,hl,i⟩:=hc;rw[(List.mem_replicate.1 hl).2]at i;exact(abh.1 m) c i
          obtain⟨w',A,B,C⟩:=tm (P:=P) (o:=o) d k s (by rw[u,p];exact q) y;refine⟨.tuple #[],w',G,?_,.aA [] #[] rfl (λj c V hc _=>by simp at hc),B,C⟩;obtain⟨n,rfl⟩:∃n,len=n+1:=⟨len-1,by omega⟩
          simp[ab6,run_underlying ht,zeroValue,typeInfo,hi,hz,A]
        ·cases h
      ·cases h
end
def gI(C:Ctx):Prop:=∀key f,C.F key=acK f->lv C.P f=acI
def z7(C:Ctx)(w:World)(G:aW)(H:Z)(K:aa)(a:Act)(b:Option Tmp):Act->World->Prop:=λa' w'=>∃v H' G' V,a'=a.put b V/\K v H'/\VR C.F w' G' v V/\Rel C.F w' G' H'/\Step w G H w' G' H'
section
variable{C:Ctx}{w:World}{G:aW}{H:Z}{env:Env}{a:Act}{o:Oper}{K:aa}{Q:Exit->Act->World->Prop}
theorem z8(h:(execOp a.eval o).run C.P w = .ok (.value V) w')(hn:next (a.put o.dst V) w'):o.wp C.P a w next Q:=by unfold ab8;rw[h];exact hn
theorem OY(h:(execOp a.eval o).run C.P w = .ok .skip w')(hn:next (a.put o.dst undef) w'):o.wp C.P a w next Q:=by unfold ab8;rw[h];exact hn
theorem tx:VR C.F w G (.aA []) undef:= .aA [] #[] rfl λj c V hc _=>by simp at hc
theorem wp_pure(b:Rel C.F w G H)(h:(execOp a.eval o).run C.P w = .ok (.value V) w)(hv:VR C.F w G v V)(c:K v H):o.wp C.P a w (z7 C w G H K a o.dst) Q:=z8 h ⟨v,H,G,V,rfl,c,hv,b,Step.refl _ _ _⟩
theorem lz{r:Result Value}(h:jP C.F w G H v H' r)(b:(execOp a.eval o).run C.P w=r.andThen λV w'=> .ok (.value V) w')(c:K v H'):o.wp C.P a w (z7 C w G H K a o.dst) Q:=by obtain⟨V,w',G',rfl,hv,d,e⟩:=h;exact z8 b ⟨v,H',G',V,rfl,c,hv,d,e⟩
theorem Ep{f:FuncId}{args:Array Value}(h:lv C.P f=acI):(callFunc f args).run C.P w = .ok (.enter f args) w:=by
 unfold lv at h;split at h
 . rename_i fn hf;simp at h;obtain⟨h1,a⟩:=h;cases U:fn.body with
   |none=>simp[U]at a
   |some c=>simp[callFunc,hf,h1,U]
 ·cases h
theorem OZ{P:Program}{F:dE}{D:TypeDesc}{d:Bool}{ks:List FK}{x y v:I}{X Y:Value}{p q:Operand}(ht:P.underlying t=acK D)(l:iG D=acI)(hp:lx P 9 t=acK ks)
  (g:P.eqGuardType P.depth t=acJ) (h:kE d ks x y=acK v) (m:VR F w G x X) (n:VR F w G y Y) :
  ∃V,(do eqGuard (if d then .neq else .eql) t p q X Y;binOp (if d then .neq else .eql) t X Y:Sem Value).run P w = .ok V w/\VR F w G v V:=by
 unfold kE at h;split at h
 . rename_i xs i;obtain⟨Xs,rfl,o⟩:=m.qy;obtain⟨a,rfl,r⟩:=n.qy;cases U:ep ks xs i with
   |none=>simp[U]at h
   | some b=>
    simp only[U,aaD,aaC.injEq]at h;subst h;have k:(aaB t (.agg Xs) (.agg a)).run P w = .ok b w:=
     (OV (F:=F) (G:=G) 9 t ks hp 10000 (by omega)).2 D ht l Xs a xs i b U (λj c e=>by rw[aa8];exact o.get e) (λj c e=>by rw[aa8];exact r.get e)
    refine⟨_,?_,.bool _⟩;cases d
    . have f:binOp .eql t (.agg Xs) (.agg a)=(do pure (.bool (<-aaB t (.agg Xs) (.agg a)))):=rfl;simp[eqGuard,g,f,k]
    . have f:binOp .neq t (.agg Xs) (.agg a)=(do pure (.bool (!(<-aaB t (.agg Xs) (.agg a))))):=rfl;simp[eqGuard,g,f,k]
 ·cases h
end
end Rb
namespace Rb
open Go
variable{P:Program}{t e:TypeId}{n sz:Nat}{zero:List I}{α:Type}
section
variable{C:Ctx}{w:World}{G:aW}{H:Z}{env:Env}{a:Act}{o:Oper}{K:aa}{Q:Exit->Act->World->Prop}
theorem nJ(h:mf P t=acK e):P.underlying t=acK (.slice e):=by
 unfold mf at h;split at h
 ·rename_i a ht;cases h;exact ht
 ·cases h
theorem Er(h:tr P t=acK (n,e)):P.underlying t=acK (.array n e):=by
 unfold tr at h;split at h
 ·rename_i a ht;cases h;exact ht
 ·cases h
theorem Es{f:Field}(h:oT P t n=acK f):∃fs,P.underlying t=acK (.struct fs)/\fs[n]?=acK f:=by
 unfold oT at h;split at h
 ·rename_i fs ht;exact⟨fs,ht,h⟩
 ·cases h
theorem z_(h:nH P t sz=acI):∃i,P.info? t=acK i/\i.size=sz:=by
 unfold nH at h;split at h
 ·rename_i i hi;simp at h;exact⟨i,hi,h⟩
 ·cases h
theorem Et{F:dE}{sz bytes:Nat}(h:tt P t sz bytes zero=acI) :
  ∃i z,P.info? t=acK i/\i.size=sz/\i.bytes=bytes/\i.zero=acK z/\z.cells.size=sz/\jQ z.cells.toList zero=acI:=by
 unfold tt at h;split at h
 . rename_i i hi;simp only[aar,bZ]at h;obtain⟨⟨h1,b⟩,a⟩:=h;split at a
   . rename_i z hz;simp only[aar,bZ]at a;exact⟨i,z,hi,h1,b,hz,a.1,a.2⟩
   ·cases a
 ·cases h
theorem lA{l:Array α}{xs:List α}(h:l.toList=xs):l=xs.toArray:=by subst h;simp
theorem O0{α β:Type}{g:α->Sem β}{h:α->β}:∀(l:List α),(∀x∈l,(g x).run P w = .ok (h x) w)->(l.mapM g).run P w = .ok (l.map h) w:=by
 intro l;induction l with
 |nil=>intro _;rfl
 | cons x l a=>intro hl;have h1:=hl x (by simp);have b:=a (λy c=>hl y (by simp[c]));rw[List.mapM_cons];simp only[abN,h1,b,abO,abV,abG]
theorem O1{r:TypeInfo}{z:Value}{b:List (Nat×Nat×I)}{a:List (Nat×Value)}{v:I}(hi:C.P.info? t=acK r)(hz:r.zero=acK z)(A:jQ z.cells.toList zero=acI)
  (hk:z1 C.P t=acI) (hl:b.length=a.length) (B:∀(j:Nat)(q:Nat×Nat×I)(p:Nat×Value),b[j]?=acK q->a[j]?=acK p->placeOf C.P t p.1=acK (q.1,q.2.1)/\VR C.F w G q.2.2 p.2)
  (h:bS zero b=acK v):∃V,(ab9 t a.toArray).run C.P w = .ok V w/\VR C.F w G v V:=by
 unfold bS at h;cases hf:jM zero b with
 |none=>simp[hf]at h
 | some cells=>
  simp[hf]at h;subst h;have D:=mQ (C:=C) (w:=w) (G:=G) A;have E:be C.F w G zero z.cells:=by simpa using D
  obtain⟨k,s,H⟩:=Ea (place:=placeOf C.P t) b a _ _ _ E hl B hf;refine⟨.agg k,?_,H.agg⟩;unfold z1 at hk;split at hk
  . rename_i fs ht;have J:∀(l:List Field),(∀f∈l,(C.P.info? f.type).isSome=acI)->(l.mapM λf=>(do pure (f.offset,<-aaq f.type):Sem (Nat×Nat))).run C.P w = .ok (l.map λf=>(f.offset,((C.P.info? f.type).map (·.size)).getD 0)) w:=by
     intro l hl;refine O0 l λf hf=>?_;have K:=hl f hf;cases c:C.P.info? f.type with
     |none=>simp[c]at K
     |some M=>simp[aaq,typeInfo,c]
    have u:∀f∈fs.toList,(C.P.info? f.type).isSome=acI:=λf hf=>by rw[Array.all_eq_true_iff_forall_mem]at hk;exact hk f (by simpa using hf)
    have hm:=J fs.toList u;have m:∀i,((fs.toList.map λf=>(f.offset,((C.P.info? f.type).map (·.size)).getD 0)).toArray)[i]?=placeOf C.P t i:=by
     intro i;unfold placeOf;rw[ht];simp only[abf,aba,Array.getElem?_toList];cases c:fs[i]? with
     |none=>rfl
     | some f=>
      have:=u f (by simpa using Array.mem_of_getElem? c);cases y:C.P.info? f.type with
      |none=>simp[y]at this
      |some x=>simp[y]
    have d:aaX (λi=>((fs.toList.map λf=>(f.offset,((C.P.info? f.type).map (·.size)).getD 0)).toArray)[i]?) z.cells a=acK k:=by rw[show(λi=>((fs.toList.map λf=>(f.offset,((C.P.info? f.type).map (·.size)).getD 0)).toArray)[i]?)=placeOf C.P t from funext m];exact s
    have L:(fs.mapM λf=>(do pure (f.offset,<-aaq f.type):Sem (Nat×Nat))).run C.P w = .ok (fs.toList.map λf=>(f.offset,((C.P.info? f.type).map (·.size)).getD 0)).toArray w:=by
     have he:fs=fs.toList.toArray:=by simp
     rw[he,List.mapM_toArray];simp only[Sem.run_map,hm,abO]
    simp only[ab9,zeroValue,typeInfo,abN,run_program,abO,hi,hz,run_underlying ht,L,abV];simp at d;simp[d]
  . rename_i n e ht;cases o:C.P.info? e with
    |none=>simp[o]at hk
    | some g=>
     have m:(λi=>acK (i*g.size,g.size))=placeOf C.P t:=by funext i;unfold placeOf;rw[ht];simp[o]
     have d:aaX (λi=>acK (i*g.size,g.size)) z.cells a=acK k:=by rw[m];exact s
     simp[ab9,zeroValue,typeInfo,aaq,hi,hz,run_underlying ht,o,d]
  ·cases hk
theorem Eu(hF:gI C){ao:e2}(g:dO C o.op ao=acI)(am:c9 C w G H)(L:Rel C.F w G H)(E:be C.F w G env a.tmps)(h:cy (ai C) env H K ao) :
  o.wp C.P a w (z7 C w G H K a o.dst) Q:=by
 have hG:=am.1;cases ao with
 | mv x=>
  simp only[dO]at g;split at g
  . rename_i y m;exact wp_pure L (by simp[execOp,m]) (dt hG E g) h
  . rename_i y m;exact wp_pure L (by simp[execOp,m]) (dt hG E g) h
  ·cases g
 | pick c x y=>
  simp only[dO]at g;split at g
  . rename_i c' M Y m;simp only[aar]at g;obtain⟨⟨h1,A⟩,B⟩:=g;obtain⟨t,ht,h⟩:=zP h;have hc:=dt hG E h1;rw[ht]at hc;have aE:=hc.kL;cases t with
    |true=>exact wp_pure L (V:=a.eval M) (by simp[execOp,m,aE,asBool]) (dt hG E A) (by simpa using h)
    |false=>exact wp_pure L (V:=a.eval Y) (by simp[execOp,m,aE,asBool]) (dt hG E B) (by simpa using h)
  ·cases g
 | bin op x y=>
  simp only[dO]at g;split at g
  . rename_i ah t M Y an m;simp only[aar,bZ]at g;obtain⟨⟨rfl,A⟩,B⟩:=g;obtain⟨v,hv,u⟩:=h;have O:=dt hG E A;have ap:=dt hG E B;obtain⟨V,J,I⟩:=Oa (P:=C.P) (t:=t) hv O ap;have N:=D7 (P:=C.P) (w:=w) op t M Y (a.eval M) (a.eval Y)
     (λcs e=>by rw[e]at O;generalize x.ev env=aq at O hv;cases O<;>simp[cH]at hv)
     (λe=>by rw[e]at O;generalize x.ev env=aq at O hv;cases O<;>simp[cH]at hv)
    exact wp_pure L (by simp[execOp,m,N,J]) I u
  ·cases g
 | beq neg x y=>
  simp only[dO]at g;split at g
  . rename_i ah t M Y an m;simp only[aar,bZ]at g;obtain⟨⟨⟨rfl,h1⟩,A⟩,B⟩:=g;obtain⟨v,hv,u⟩:=h;have O:=dt hG E A;have ap:=dt hG E B;split at h1
    . rename_i ht;obtain⟨V,J,I⟩:=Ob (P:=C.P) (t:=t) ht hv O ap;have N:=D7 (P:=C.P) (w:=w) (if neg then .neq else .eql) t M Y (a.eval M) (a.eval Y)
       (λcs e=>by rw[e]at O;generalize x.ev env=aq at O hv;cases O<;>simp[kD]at hv)
       (λe=>by rw[e]at O;generalize x.ev env=aq at O hv;cases O<;>simp[kD]at hv)
      exact wp_pure L (by simp[execOp,m,N,J]) I u
    ·cases h1
  ·cases g
 | j_ k neg x=>
  simp only[dO]at g;split at g
  . rename_i ah t M Y an m;simp only[aar,bZ]at g;obtain⟨⟨⟨rfl,h1⟩,A⟩,B⟩:=g;obtain⟨v,hv,u⟩:=h;have O:=dt hG E A;split at h1
    . rename_i d W;simp only[bZ]at h1;split at B
      . rename_i aH;have aI:aH=k.nil:=by
         split at B<;>first|rfl|cases B
        subst aI;obtain⟨V,J,I⟩:=Od (P:=C.P) W h1 hv O;have N:(eqGuard (if neg then .neq else .eql) t M (.const k.nil) (a.eval M) k.nil).run C.P w = .ok () w:=by unfold eqGuard;cases neg<;>cases k<;>cases a1:a.eval M<;>simp[NK.nil]
        have aJ:a.eval (.const k.nil)=k.nil:=rfl;exact wp_pure L (by simp[execOp,m,aJ,N,J]) I u
      ·cases B
    ·cases h1
  ·cases g
 | jv neg ks x y=>
  simp only[dO]at g;split at g
  . rename_i ah t M Y an m;simp only[aar,bZ,ab_]at g;obtain⟨⟨⟨⟨⟨rfl,h1⟩,A⟩,B⟩,aa⟩,ab⟩:=g;obtain⟨v,hv,u⟩:=h;split at h1
    . rename_i D ht;obtain⟨V,J,I⟩:=OZ (P:=C.P) (p:=M) (q:=Y) ht h1 A B hv (dt hG E aa) (dt hG E ab);exact wp_pure L (by simp only[execOp,m,abN]at J ⊢;rw[J];rfl) I u
    ·cases h1
  ·cases g
 | un op x=>
  simp only[dO]at g;split at g
  . rename_i ah t M m;simp only[aar,bZ]at g;obtain⟨rfl,A⟩:=g;obtain⟨v,hv,u⟩:=h;obtain⟨V,J,I⟩:=Oe (P:=C.P) hv (dt hG E A);exact wp_pure L (by simp[execOp,m,J]) I u
  ·cases g
 | conv k x=>
  simp only[dO]at g;split at g
  . rename_i s d M m;simp only[aar]at g;obtain⟨h1,A⟩:=g;obtain⟨v,hv,u⟩:=h;split at h1
    . rename_i d1 k' hs W;simp at h1;subst h1;obtain⟨V,J,I⟩:=Of (P:=C.P) hs W hv (dt hG E A);exact wp_pure L (by simp[execOp,m,J]) I u
    ·cases h1
  ·cases g
 | same x=>
  simp only[dO]at g;split at g
  . rename_i s d M m;simp only[aar]at g;obtain⟨h1,A⟩:=g;obtain⟨v,hv,u⟩:=h;split at h1
    . rename_i hs W;obtain⟨V,J,I⟩:=Og (P:=C.P) hs W hv (dt hG E A);exact wp_pure L (by simp[execOp,m,J]) I u
    ·cases h1
  ·cases g
 | kH x=>
  simp only[dO]at g;split at g
  . rename_i M m;obtain⟨v,hv,u⟩:=h;rcases Oh hv (dt hG E g)with⟨⟨a2,ac⟩,I⟩|⟨⟨f,aj,Vs,ac⟩,I⟩
    ·exact wp_pure L (by simp[execOp,m,ac]) I u
    ·exact wp_pure L (by simp[execOp,m,ac]) I u
  ·cases g
 | field off sz agg x=>
  simp only[dO]at g;split at g
  . rename_i t M n m;simp only[aar]at g;obtain⟨h1,A⟩:=g;obtain⟨v,hv,u⟩:=h;split at h1
    . rename_i f hf;simp only[aar,bZ]at h1;obtain⟨fs,ht,ar⟩:=Es hf;obtain⟨V,J,I⟩:=Oi (P:=C.P) ht ar h1.1 h1.2 hv (dt hG E A);exact wp_pure L (by simp[execOp,m,J]) I u
    ·cases h1
  ·cases g
 | idx len sz agg x i=>
  simp only[dO]at g;split at g
  . rename_i t M au m;simp only[aar]at g;obtain⟨⟨h1,A⟩,B⟩:=g;obtain⟨v,hv,u⟩:=h;split at h1
    . rename_i n e hn;simp only[aar,bZ]at h1;obtain⟨rfl,av⟩:=h1;obtain⟨V,J,I⟩:=Oj (P:=C.P) (Er hn) av hv (dt hG E A) (dt hG E B);exact wp_pure L (by simp[execOp,m,J]) I u
    ·cases h1
  ·cases g
 | idxs x i=>
  simp only[dO]at g;split at g
  . rename_i t M au m;simp only[aar]at g;obtain⟨⟨h1,A⟩,B⟩:=g;obtain⟨v,hv,u⟩:=h;split at h1
    . rename_i ht;obtain⟨V,J,I⟩:=Ol (P:=C.P) ht hv (dt hG E A) (dt hG E B);exact wp_pure L (by simp[execOp,m,J]) I u
    ·cases h1
  ·cases g
 | hM off x=>
  simp only[dO]at g;split at g
  . rename_i t M n m;simp only[aar]at g;obtain⟨h1,A⟩:=g;obtain⟨v,hv,u⟩:=h;split at h1
    . rename_i f hf;simp only[aar,bZ]at h1;obtain⟨rfl,h1⟩:=h1;obtain⟨fs,ht,ar⟩:=Es hf;split at h1
      . rename_i a3 aK;obtain⟨V,J,I⟩:=Om (P:=C.P) ht ar rfl aK (by simpa using h1) hv (dt hG E A);exact wp_pure L (by simp[execOp,m,J]) I u
      ·cases h1
    ·cases h1
  ·cases g
 | gY arr sz x i=>
  simp only[dO]at g;split at g
  . rename_i t M au m;simp only[aar]at g;obtain⟨⟨h1,A⟩,B⟩:=g;obtain⟨v,hv,u⟩:=h;have key:∃e inf,(match arr with|none=>C.P.underlying t=acK (.slice e)|some n=>C.P.underlying t=acK (.array n e))/\C.P.info? e=acK inf/\inf.size=sz:=by
     split at h1
     . split at h1
       . rename_i e R;obtain⟨inf,hi,hs⟩:=z_ h1;exact⟨e,inf,nJ R,hi,hs⟩
       ·cases h1
     . split at h1
       . rename_i n' e R;simp only[aar,bZ]at h1;obtain⟨rfl,h1⟩:=h1;obtain⟨inf,hi,hs⟩:=z_ h1;exact⟨e,inf,Er R,hi,hs⟩
       ·cases h1
    obtain⟨e,inf,ht,hi,hs⟩:=key;obtain⟨V,J,I⟩:=Oo (P:=C.P) ht hi hs hv (dt hG E A) (dt hG E B);exact wp_pure L (by simp[execOp,m,J]) I u
  ·cases g
 | slice sz x lo hi mx=>
  simp only[dO]at g;split at g
  . rename_i t M aL aM aF m;simp only[aar]at g;obtain⟨⟨⟨⟨⟨h1,A⟩,B⟩,aa⟩,ab⟩,aN⟩:=g;obtain⟨v,hv,u⟩:=h;split at h1
    . rename_i e R;obtain⟨inf,S,hs⟩:=z_ h1;obtain⟨V,J,I⟩:=Ot (P:=C.P) (nJ R) S hs (λhm=>by cases mx<;>cases hi<;>simp at aN hm ⊢) hv (dt hG E A) (qB hG E B) (qB hG E aa) (qB hG E ab);exact wp_pure L (by simp[execOp,m,J]) I u
    ·cases h1
  ·cases g
 | kI x lo hi=>
  simp only[dO]at g;split at g
  . rename_i t M aL aM aF m;simp only[aar]at g;obtain⟨⟨⟨⟨h1,A⟩,B⟩,aa⟩,ab⟩:=g;obtain⟨v,hv,u⟩:=h;cases aF with
    |some _=>simp at ab
    |none=>
    split at h1
    . rename_i ht;obtain⟨V,J,I⟩:=Oq (P:=C.P) ht hv (dt hG E A) (qB hG E B) (qB hG E aa);exact wp_pure L (by simp[execOp,m,J]) I u
    ·cases h1
  ·cases g
 | iD t x=>
  simp only[dO]at g;split at g
  . rename_i aw M m;simp only[aar,bZ]at g;obtain⟨⟨rfl,h1⟩,A⟩:=g;refine wp_pure L (V:= .iface t (a.eval M)) ?_ (.iface _ _ _ (dt hG E A)) h;split at h1
    ·cases h1
    . rename_i d ax W;have:(aca t (a.eval M)).run C.P w = .ok (.iface t (a.eval M)) w:=by
       simp only[aca,abN,run_underlying W,abO];cases d<;>first|rfl|(exact absurd rfl (ax _))
      simp[execOp,m,this]
    ·cases h1
  ·cases g
 | h_ key cd=>
  simp only[dO]at g;split at g
  . rename_i f first ay m
    cases U:iC key with
    | none=>
     simp only[U,aar,bZ]at g;obtain⟨⟨h1,A⟩,B⟩:=g;have hz:first = #[]:=by simpa using A
     subst hz;have hc:=tv hG E B;refine wp_pure L (V:= .func (.func f) #[] (ay.map a.eval)) (by simp[execOp,m,Instr.makeFunc]) ?_ h;have hm:(List.map a.eval ay.toList).toArray=ay.map a.eval:=by apply acb;simp
     rw[hm]at hc;exact .fn key _ f _ U h1 hc.1 hc.2
    |some k=>simp[U]at g
  ·cases g
 | extract i x=>
  simp only[dO]at g;split at g
  . rename_i M au m;simp only[aar,bZ]at g;obtain⟨rfl,A⟩:=g;obtain⟨v,hv,u⟩:=h;obtain⟨V,J,I⟩:=On (P:=C.P) hv (dt hG E A);exact wp_pure L (by simp[execOp,m,J]) I u
  ·cases g
 | build zero parts=>
  simp only[dO]at g;split at g
  . rename_i t ae m;simp only[aar]at g;obtain⟨⟨h1,A⟩,B⟩:=g;obtain⟨v,hv,u⟩:=h;split at h1
    . rename_i inf S;split at h1
      . rename_i z hz;obtain⟨hl,az⟩:=En hG E B;obtain⟨V,J,I⟩:=O1 S hz h1 A hl az hv;refine wp_pure L (V:=V) ?_ I u;have hm:(ae.map λ(x:Nat×Operand)=>(x.1,a.eval x.2))=(ae.toList.map λx=>(x.1,a.eval x.2)).toArray:=by apply acb;simp
        simp only[execOp,m,hm,abN,J,abO,abV]
      ·cases h1
    ·cases h1
  ·cases g
 | len str x=>
  simp only[dO]at g;split at g
  . rename_i args argTypes m;split at g
    . rename_i M t T Z;simp only[aar]at g;obtain⟨h1,A⟩:=g;obtain⟨v,hv,u⟩:=h;obtain rfl:=lA T;obtain rfl:=lA Z;have key:∃d,C.P.underlying t=acK d/\(if str then d = .string else ∃e,d = .slice e):=by
       split at A
       ·rename_i ht;exact⟨_,ht,by simp[A]⟩
       ·rename_i e ht;exact⟨_,ht,by simp at A;simp[A]⟩
       ·cases A
      obtain⟨d,W,hk⟩:=key;obtain⟨V,J,I⟩:=Ow (P:=C.P) (ty:=o.type) W hk hv (dt hG E h1);exact wp_pure L (by simp[execOp,m,resolve,invoke,builtin,J]) I u
    ·cases g
  ·cases g
 | iE n=>
  simp only[dO]at g;split at g
  . rename_i args argTypes m;split at g
    . rename_i M t T Z;obtain rfl:=lA T;obtain rfl:=lA Z;split at g
      . rename_i n' e ht;simp at g;subst g;refine wp_pure L (V:= .int .i64 n) ?_ (.int _ _) h;simp[execOp,m,resolve,invoke,builtin,aaZ,run_underlying ht,goInt]
      ·cases g
    ·cases g
  ·cases g
 | iF mx xs=>
  simp only[dO]at g;split at g
  . rename_i b args hy m;simp only[aar]at g;obtain⟨h1,A⟩:=g;obtain⟨v,hv,u⟩:=h;have hc:=tv hG E A;unfold gH at hv;split at hv
    . rename_i k n r aO;rw[aO]at hc;have ax:∃X Xs,args.toList.map a.eval=X::Xs:=by
       cases hl:args.toList.map a.eval with
       |nil=>rw[hl]at hc;have:=hc.1;simp at this
       |cons X Xs=>exact⟨X,Xs,rfl⟩
      obtain⟨X,Xs,ak⟩:=ax;rw[ak]at hc;have ac:=hc.2 0 _ X rfl (by simp);obtain⟨V,J,I⟩:=Ox (P:=C.P) r Xs _ v X hv ac (by have:=hc.1;simp at this;omega) λj c aP aQ aR=>hc.2 (j+1) c aP (by simpa using aQ) (by simpa using aR);refine wp_pure L (V:=V) ?_ I u;have hm:(args.map a.eval).toList=X::Xs:=by simpa using ak
      split at h1
      . subst h1;simp only[bc]at J;simp[execOp,m,resolve,invoke,builtin,Builtin.max_,ak,J]
      . simp at h1;subst h1;simp only[abW,b4]at J;simp[execOp,m,resolve,invoke,builtin,Builtin.min_,ak,J]
      ·cases h1
    ·cases hv
  ·cases g
 | load n agg x=>
  simp only[dO]at g;split at g
  . rename_i t M m;simp only[aar]at g;obtain⟨v,hv,u⟩:=h;obtain⟨V,J,I⟩:=Ec (P:=C.P) g.1 L hv (dt hG E g.2);exact wp_pure L (by simp[execOp,m,J]) I u
  ·cases g
 | store n x v=>
  simp only[dO]at g;split at g
  . rename_i t M a4 m;simp only[aar,aas]at g;obtain⟨⟨h1,A⟩,B⟩:=g;obtain⟨H',hv,u⟩:=h;have key:∃agg,i_ C.P t n agg=acI:=by rcases h1 with h1|h1<;>exact⟨_,h1⟩
    obtain⟨agg,av⟩:=key;obtain⟨w',J,I,af⟩:=OD (P:=C.P) av L hv (dt hG E A) (dt hG E B);exact OY (by simp[execOp,m,J]) ⟨_,H',G,undef,rfl,u,tx,I,af⟩
  ·cases g
 | box mu n x=>
  simp only[dO]at g;split at g
  . rename_i t M m;obtain⟨v,H',hv,u⟩:=h;have N:=OE (P:=C.P) (t:=t) L hv (dt hG E g);exact lz N (by simp[execOp,m]) u
  ·cases g
 | alloc mu zero=>
  simp only[dO]at g;split at g
  . rename_i t m;obtain⟨v,H',hv,u⟩:=h;split at g
    . rename_i inf S;split at g
      . rename_i z hz;have ag:=mQ (C:=C) (w:=w) (G:=G) g;have N:=OG (P:=C.P) (t:=t) (mu:=mu) L S hz (by simpa using ag);have e:=aaC.inj hv;rw[e]at N;exact lz N (by simp[execOp,m]) u
      ·cases g
    ·cases g
  ·cases g
 | hP mu sz len zero parts=>
  simp only[dO]at g;split at g
  . rename_i t a5 ae m;obtain⟨v,H',hv,u⟩:=h;split at g
    . rename_i e R;simp only[aar,bZ,dJ]at g;obtain⟨⟨⟨⟨h1,A⟩,rfl⟩,aa⟩,ab⟩:=g;split at h1
      . rename_i a6 a7;obtain⟨inf,z,S,hs,U,hz,aS,aA⟩:=Et (F:=C.F) h1;have ag:=mQ (C:=C) (w:=w) (G:=G) aA;obtain⟨hl,az⟩:=En hG E ab;have N:=OI (P:=C.P) L (nJ R) S hs hz (by simpa using ag) A aa hl (λj q p aT hp=>by
          obtain⟨e1,aU⟩:=az j q p aT hp;exact⟨aaC.inj e1,aU⟩) hv
        have hm:(ae.map λ(x:Nat×Operand)=>(x.1,a.eval x.2))=(ae.toList.map λx=>(x.1,a.eval x.2)).toArray:=by apply acb;simp
        exact lz N (by simp only[execOp,m,hm,abN,abV]) u
      ·cases h1
    ·cases g
  ·cases g
 | append mu sz bytes x y=>
  simp only[dO]at g;split at g
  . rename_i args argTypes m;split at g
    . rename_i M Y t aw T Z;simp only[aar,bZ]at g;obtain⟨⟨⟨rfl,h1⟩,A⟩,B⟩:=g;obtain⟨v,H',hv,u⟩:=h;obtain rfl:=lA T;obtain rfl:=lA Z;split at B
      . rename_i e R;split at B
        . rename_i inf S;simp only[aar,bZ,dJ]at B;obtain⟨⟨⟨hs,U⟩,hz⟩,aV⟩:=B;split at hz
          . rename_i z aW;have N:=OL (P:=C.P) (ty:=o.type) L (nJ R) S hs U aW (by simpa using hz) aV hv (dt hG E h1) (dt hG E A);exact lz N (by simp[execOp,m,resolve,invoke,builtin]) u
          ·cases hz
        ·cases B
      ·cases B
    ·cases g
  ·cases g
 | make mu sz bytes zero len cap=>
  simp only[dO]at g;split at g
  . rename_i t l c m;simp only[aar]at g;obtain⟨⟨h1,A⟩,B⟩:=g;obtain⟨v,H',hv,u⟩:=h;split at B
    . rename_i e R;obtain⟨inf,z,S,hs,U,hz,aS,aA⟩:=Et (F:=C.F) B;have ag:=mQ (C:=C) (w:=w) (G:=G) aA;have N:=OJ (P:=C.P) L (nJ R) S hs U hz (by simpa using ag) hv (dt hG E h1) (dt hG E A);exact lz N (by simp[execOp,m]) u
    ·cases B
  ·cases g
 | call key args=>
  simp only[dO]at g;split at g
  . rename_i f ad hy m;simp only[aar,bZ]at g;obtain⟨⟨h1,A⟩,B⟩:=g;have hc:=h.2 f h1 G w _ am L (tv hG E B);have hm:(ad.toList.map a.eval).toArray=ad.map a.eval:=by apply acb;simp
    rw[hm]at hc;have J:(execOp a.eval o).run C.P w = .ok (.enter f (ad.map a.eval)) w:=by simp[execOp,m,resolve,Act.eval,acd,invoke,Ep A]
    unfold ab8;rw[J];refine ace hc λe w' aB=>?_;obtain⟨V,v,H',G',rfl,hQ,hv,I,af⟩:=aB;exact⟨v,H',G',V,rfl,hQ,hv,I,af⟩
  ·cases g
 | i6 f args=>
  simp only[dO]at g;split at g
  . rename_i aG ad hy m;simp only[aar]at g;obtain⟨h1,B⟩:=g;obtain⟨key,cd,hf,h⟩:=h;have aC:=dt hG E h1;rw[hf]at aC;have aX:(∃fh Vs,a.eval aG = .func (.func fh) #[] Vs/\iC key=acL/\C.F key=acK fh/\be C.F w G cd Vs):=by
     generalize a.eval aG=X at aC;cases aC with
     |fn _ _ fh Vs hk aY hl hv=>exact⟨fh,Vs,rfl,hk,aY,hl,hv⟩
    have hm:(ad.toList.map a.eval).toArray=ad.map a.eval:=by apply acb;simp
    obtain ⟨fh,aj,al,T,J⟩:∃fh aj,C.F (jw key)=acK fh/\be C.F w G (jx key (gh env args) cd) aj/\(execOp a.eval o).run C.P w = .ok (.enter fh aj) w:=by
     obtain⟨fh,Vs,ac,hk,al,aZ⟩:=aX
     . rw[qu hk,qv hk];have T:=(tv hG E B).app aZ;rw[hm]at T;refine⟨fh,ad.map a.eval++Vs,al,T,?_⟩;simp[execOp,m,resolve,ac,acd,invoke,Ep (hF key fh al)]
    have hc:=h.2 fh al G w _ am L T;unfold ab8;rw[J];refine ace hc λe w' aB=>?_;obtain⟨V,v,H',G',rfl,hQ,hv,I,af⟩:=aB;exact⟨v,H',G',V,rfl,hQ,hv,I,af⟩
  ·cases g
 | ext e xs =>
  simp only[dO]at g;obtain⟨v,H',hv,u⟩:=h;cases e with
  |stuck=>simp[j8]at hv
  | clear sz zero=>
   simp only[Ek]at g;split at g
   . rename_i args argTypes x m;split at g
     . rename_i M t T Z;simp only[aar]at g;obtain⟨h1,B⟩:=g;obtain rfl:=lA T;obtain rfl:=lA Z;split at B
       . rename_i e R;split at B
         . rename_i inf S;split at B
           . rename_i z hz;simp only[aar,bZ]at B;simp only[gh,abG,List.map_nil]at hv;have N:=OX (P:=C.P) (ty:=o.type) L (nJ R) S hz (by simpa using mQ (C:=C) (w:=w) (G:=G) B.2) hv (dt hG E h1);exact lz N (by simp[execOp,m,resolve,invoke,builtin]) u
           ·cases B
         ·cases B
       ·cases B
     ·cases g
   ·cases g
 | kJ x=>
  simp only[dO]at g;split at g
  . rename_i s d M m;simp only[aar]at g;obtain⟨h1,A⟩:=g;obtain⟨v,hv,u⟩:=h;split at h1
    . rename_i e hs W;split at h1
      . rename_i aD;have N:=OM (P:=C.P) L hs W aD hv (dt hG E A);exact lz N (by simp[execOp,m]) u
      ·cases h1
    ·cases h1
  ·cases g
 | iX x=>
  simp only[dO]at g;split at g
  . rename_i s d M m;simp only[aar]at g;obtain⟨h1,A⟩:=g;obtain⟨v,hv,u⟩:=h;split at h1
    . rename_i e hs W;split at h1
      . rename_i aD;obtain⟨V,I,a0⟩:=OO (P:=C.P) L hs aD W hv (dt hG E A);exact wp_pure L (by simp[execOp,m,I]) a0 u
      ·cases h1
    ·cases h1
  ·cases g
 | iY x=>
  simp only[dO]at g;split at g
  . rename_i t M m;simp only[aar]at g;obtain⟨h1,A⟩:=g;obtain⟨v,H',hv,u⟩:=h;split at h1
    . rename_i ht;have N:=OP (P:=C.P) L ht hv (dt hG E A);exact lz N (by simp[execOp,m]) u
    ·cases h1
  ·cases g
 | iZ x=>
  simp only[dO]at g;split at g
  . rename_i M m;obtain⟨v,H',hv,u⟩:=h;have N:=OQ (P:=C.P) (t:=o.type) L hv (dt hG E g);exact lz N (by simp[execOp,m]) u
  ·cases g
 | copy sz x y=>
  simp only[dO]at g;split at g
  . rename_i args argTypes m;split at g
    . rename_i M Y t aw T Z;simp only[aar]at g;obtain⟨⟨h1,A⟩,B⟩:=g;obtain⟨v,H',hv,u⟩:=h;obtain rfl:=lA T;obtain rfl:=lA Z;split at B
      . rename_i e R;unfold nH at B;split at B
        . rename_i inf S;have N:=OW (P:=C.P) (ty:=o.type) (t2:=aw) L (nJ R) S (by simpa using B) hv (dt hG E h1) (dt hG E A);exact lz N (by simp[execOp,m,resolve,invoke,builtin]) u
        ·cases B
      ·cases B
    ·cases g
  ·cases g
end
end Rb
namespace Rb
open Go
variable{H:Z}{op:e2}{Φ:ad}{K:aa}{v:I}
def bK.dw:bK->List Nat
 | .t n=>[n]
 | .k _=>[]
def oW:Option bK->List Nat
 |some x=>x.dw
 |none=>[]
def mR(xs:List bK):List Nat:=xs.flatMap bK.dw
def qD(xs:List (Nat×Nat×bK)):List Nat:=xs.flatMap λp=>p.2.2.dw
def c0:e2->List Nat
 | .mv  x=>(x.dw)
 | .pick  c x y=>(c.dw)++(x.dw)++(y.dw)
 | .bin _ x y=>(x.dw)++(y.dw)
 | .beq _ x y=>(x.dw)++(y.dw)
 | .j_ _ _ x=>(x.dw)
 | .jv _ _ x y=>(x.dw)++(y.dw)
 | .un _ x=>(x.dw)
 | .conv _ x=>(x.dw)
 | .same  x=>(x.dw)
 | .kH  x=>(x.dw)
 | .field _ _ _ x=>(x.dw)
 | .idx _ _ _ x i=>(x.dw)++(i.dw)
 | .idxs  x i=>(x.dw)++(i.dw)
 | .hM _ x=>(x.dw)
 | .gY _ _ x i=>(x.dw)++(i.dw)
 | .slice _ x lo hi mx=>(x.dw)++(oW lo)++(oW hi)++(oW mx)
 | .kI  x lo hi=>(x.dw)++(oW lo)++(oW hi)
 | .iD _ x=>(x.dw)
 | .h_ _ cd=>(mR cd)
 | .extract _ x=>(x.dw)
 | .build _ parts=>(qD parts)
 | .len _ x=>(x.dw)
 | .iE _  =>[]
 | .iF _ xs=>(mR xs)
 | .load _ _ x=>(x.dw)
 | .store _ x v=>(x.dw)++(v.dw)
 | .box _ _ x=>(x.dw)
 | .alloc _ _  =>[]
 | .hP _ _ _ _ parts=>(qD parts)
 | .append _ _ _ x y=>(x.dw)++(y.dw)
 | .make _ _ _ _ len cap=>(len.dw)++(cap.dw)
 | .copy _ x y=>(x.dw)++(y.dw)
 | .kJ x=>(x.dw)
 | .iX x=>(x.dw)
 | .iY x=>(x.dw)
 | .iZ x=>(x.dw)
 | .call _ args=>(mR args)
 | .i6  f args=>(f.dw)++(mR args)
 | .ext _ xs=>mR xs
section
variable{env aP:Env}
theorem dF(x:bK)(h:∀t∈x.dw,env.getD t .bot=aP.getD t .bot):x.ev env=x.ev aP:=by
 cases x with
 |t n=>exact h n (by simp[bK.dw])
 |k v=>rfl
theorem qE(x:Option bK)(h:∀t∈oW x,env.getD t .bot=aP.getD t .bot):x.map (bK.ev env)=x.map (bK.ev aP):=by
 cases x with
 |none=>rfl
 |some x=>simp only[aaD];rw[dF x h]
theorem qF(xs:List bK)(h:∀t∈mR xs,env.getD t .bot=aP.getD t .bot):gh env xs=gh aP xs:=by
 induction xs with
 |nil=>rfl
 | cons x xs a=>simp only[gh,abG]at a ⊢;rw[dF x (λt ht=>h t (by simp[mR];left;exact ht)),a (λt ht=>h t (by simp[mR]at ht ⊢;right;exact ht))]
theorem Ev(xs:List (Nat×Nat×bK))(h:∀t∈qD xs,env.getD t .bot=aP.getD t .bot):gZ env xs=gZ aP xs:=by
 induction xs with
 |nil=>rfl
 | cons x xs a=>simp only[gZ,abG]at a ⊢;rw[dF x.2.2 (λt ht=>h t (by simp[qD];left;exact ht)),a (λt ht=>h t (by simp[qD]at ht ⊢;right;exact ht))]
theorem Aa(op:e2)(h:∀t∈c0 op,env.getD t .bot=aP.getD t .bot):cy Φ env H K op=cy Φ aP H K op:=by
 cases op with
 |mv x=>simp only[cy];rw[dF x (λt ht=>h t (by simp only[c0,acf];simp[ht]))]
 |pick c x y=>simp only[cy];rw[dF c (λt ht=>h t (by simp only[c0,acf];simp[ht])),dF x (λt ht=>h t (by simp only[c0,acf];simp[ht])),dF y (λt ht=>h t (by simp only[c0,acf];simp[ht]))]
 |bin op x y=>simp only[cy];rw[dF x (λt ht=>h t (by simp only[c0,acf];simp[ht])),dF y (λt ht=>h t (by simp only[c0,acf];simp[ht]))]
 |beq neg x y=>simp only[cy];rw[dF x (λt ht=>h t (by simp only[c0,acf];simp[ht])),dF y (λt ht=>h t (by simp only[c0,acf];simp[ht]))]
 |j_ k neg x=>simp only[cy];rw[dF x (λt ht=>h t (by simp only[c0,acf];simp[ht]))]
 |jv neg ks x y=>simp only[cy];rw[dF x (λt ht=>h t (by simp only[c0,acf];simp[ht])),dF y (λt ht=>h t (by simp only[c0,acf];simp[ht]))]
 |un op x=>simp only[cy];rw[dF x (λt ht=>h t (by simp only[c0,acf];simp[ht]))]
 |conv k x=>simp only[cy];rw[dF x (λt ht=>h t (by simp only[c0,acf];simp[ht]))]
 |same x=>simp only[cy];rw[dF x (λt ht=>h t (by simp only[c0,acf];simp[ht]))]
 |kH x=>simp only[cy];rw[dF x (λt ht=>h t (by simp only[c0,acf];simp[ht]))]
 |field off sz agg x=>simp only[cy];rw[dF x (λt ht=>h t (by simp only[c0,acf];simp[ht]))]
 |idx len sz agg x i=>simp only[cy];rw[dF x (λt ht=>h t (by simp only[c0,acf];simp[ht])),dF i (λt ht=>h t (by simp only[c0,acf];simp[ht]))]
 |idxs x i=>simp only[cy];rw[dF x (λt ht=>h t (by simp only[c0,acf];simp[ht])),dF i (λt ht=>h t (by simp only[c0,acf];simp[ht]))]
 |hM off x=>simp only[cy];rw[dF x (λt ht=>h t (by simp only[c0,acf];simp[ht]))]
 |gY arr sz x i=>simp only[cy];rw[dF x (λt ht=>h t (by simp only[c0,acf];simp[ht])),dF i (λt ht=>h t (by simp only[c0,acf];simp[ht]))]
 |slice sz x lo hi mx=>simp only[cy];rw[dF x (λt ht=>h t (by simp only[c0,acf];simp[ht])),qE lo (λt ht=>h t (by simp only[c0,acf];simp[ht])),qE hi (λt ht=>h t (by simp only[c0,acf];simp[ht])),qE mx (λt ht=>h t (by simp only[c0,acf];simp[ht]))]
 |kI x lo hi=>simp only[cy];rw[dF x (λt ht=>h t (by simp only[c0,acf];simp[ht])),qE lo (λt ht=>h t (by simp only[c0,acf];simp[ht])),qE hi (λt ht=>h t (by simp only[c0,acf];simp[ht]))]
 |iD t x=>simp only[cy];rw[dF x (λt ht=>h t (by simp only[c0,acf];simp[ht]))]
 |h_ key cd=>simp only[cy];rw[qF cd (λt ht=>h t (by simp only[c0,acf];simp[ht]))]
 |extract i x=>simp only[cy];rw[dF x (λt ht=>h t (by simp only[c0,acf];simp[ht]))]
 |build zero parts=>simp only[cy];rw[Ev parts (λt ht=>h t (by simp only[c0,acf];simp[ht]))]
 |len str x=>simp only[cy];rw[dF x (λt ht=>h t (by simp only[c0,acf];simp[ht]))]
 |iE n=>rfl
 |iF mx xs=>simp only[cy];rw[qF xs (λt ht=>h t (by simp only[c0,acf];simp[ht]))]
 |load n agg x=>simp only[cy];rw[dF x (λt ht=>h t (by simp only[c0,acf];simp[ht]))]
 |store n x v=>simp only[cy];rw[dF x (λt ht=>h t (by simp only[c0,acf];simp[ht])),dF v (λt ht=>h t (by simp only[c0,acf];simp[ht]))]
 |box mu n x=>simp only[cy];rw[dF x (λt ht=>h t (by simp only[c0,acf];simp[ht]))]
 |alloc mu zero=>rfl
 |hP mu sz len zero parts=>simp only[cy];rw[Ev parts (λt ht=>h t (by simp only[c0,acf];simp[ht]))]
 |append mu sz bytes x y=>simp only[cy];rw[dF x (λt ht=>h t (by simp only[c0,acf];simp[ht])),dF y (λt ht=>h t (by simp only[c0,acf];simp[ht]))]
 |make mu sz bytes zero len cap=>simp only[cy];rw[dF len (λt ht=>h t (by simp only[c0,acf];simp[ht])),dF cap (λt ht=>h t (by simp only[c0,acf];simp[ht]))]
 |copy sz x y=>simp only[cy];rw[dF x (λt ht=>h t (by simp only[c0,acf];simp[ht])),dF y (λt ht=>h t (by simp only[c0,acf];simp[ht]))]
 |kJ x=>simp only[cy];rw[dF x (λt ht=>h t (by simp only[c0];simp[ht]))]
 |iX x=>simp only[cy];rw[dF x (λt ht=>h t (by simp only[c0];simp[ht]))]
 |iY x=>simp only[cy];rw[dF x (λt ht=>h t (by simp only[c0];simp[ht]))]
 |iZ x=>simp only[cy];rw[dF x (λt ht=>h t (by simp only[c0];simp[ht]))]
 |call key args=>simp only[cy];rw[qF args (λt ht=>h t (by simp only[c0,acf];simp[ht]))]
 |i6 f args=>simp only[cy];rw[dF f (λt ht=>h t (by simp only[c0,acf];simp[ht])),qF args (λt ht=>h t (by simp only[c0,acf];simp[ht]))]
 |ext e xs=>simp only[cy];rw[qF xs (λt ht=>h t (by simp only[c0];simp[ht]))]
end
def ic:e2->Bool
 | .mv .. =>acI
 | .pick .. =>acI
 | .bin .. =>acI
 | .beq .. =>acI
 | .j_ .. =>acI
 | .jv .. =>acI
 | .un .. =>acI
 | .conv .. =>acI
 | .same .. =>acI
 | .kH .. =>acI
 | .field .. =>acI
 | .idx .. =>acI
 | .idxs .. =>acI
 | .hM .. =>acI
 | .gY .. =>acI
 | .slice .. =>acI
 | .kI .. =>acI
 | .iD .. =>acI
 | .h_ .. =>acI
 | .extract .. =>acI
 | .build .. =>acI
 | .len .. =>acI
 | .iE .. =>acI
 | .iF .. =>acI
 | .kJ .. =>acI
 | .box mu _ _=>!mu
 | .alloc mu _=>!mu
 | .hP mu _ _ _ _=>!mu
 |_=>acJ
def hA:e2->Bool
 | .load .. =>acI
 | .iX .. =>acI
 |_=>acJ
def fv(env:Env)(H:Z):e2->Option I
 | .mv x=>acK (x.ev env)
 | .pick c x y=>match c.ev env with | .bool b=>acK (if b=acI then x.ev env else y.ev env)|_=>acL
 | .bin op x y=>cH op (x.ev env) (y.ev env)
 | .beq neg x y=>kD neg (x.ev env) (y.ev env)
 | .j_ k neg x=>nB k neg (x.ev env)
 | .jv neg ks x y=>kE neg ks (x.ev env) (y.ev env)
 | .un op x=>cu op (x.ev env)
 | .conv k x=>fU k (x.ev env)
 | .same x=>qm (x.ev env)
 | .kH x=>b8 (x.ev env)
 | .field off sz agg x=>kF off sz agg (x.ev env)
 | .idx len sz agg x i=>qn len sz agg (x.ev env) (i.ev env)
 | .idxs x i=>ju (x.ev env) (i.ev env)
 | .hM off x=>aH off (x.ev env)
 | .gY arr sz x i=>aL arr sz (x.ev env) (i.ev env)
 | .slice sz x lo hi mx=>eC sz (x.ev env) (lo.map (bK.ev env)) (hi.map (bK.ev env)) (mx.map (bK.ev env))
 | .kI x lo hi=>qo (x.ev env) (lo.map (bK.ev env)) (hi.map (bK.ev env))
 | .iD t x=>acK (.iface t (x.ev env))
 | .h_ key cd=>acK (.fn key (gh env cd))
 | .extract i x=>bA i (x.ev env)
 | .build zero parts=>bS zero (gZ env parts)
 | .len str x=>ea str (x.ev env)
 | .iE n=>acK (.int .i64 n)
 | .iF mx xs=>gH mx (gh env xs)
 | .load n agg x=>aj H n agg (x.ev env)
 | .kJ x=>qs (x.ev env)
 | .iX x=>abstr H (x.ev env)
 | .box mu n x=>if mu then acL else(if(x.ev env).known/\(x.ev env).cells.length=n then acK (.ae (x.ev env).cells)else acL)
 | .alloc mu zero=>if mu then acL else acK (.ae zero)
 | .hP mu sz len zero parts=>if mu then acL else(jM (KT len zero).flatten (gZ env parts)).map λcells=> .aq .full len cells
 |_=>acL
theorem tz{env:Env}(hp:ic op=acI\/hA op=acI)(h:cy Φ env H K op):∃v,fv env H op=acK v/\K v H:=by
 cases op with
 |mv x=>exact⟨_,rfl,h⟩
 | pick c x y=>
  obtain⟨b,U,h⟩:=zP h;refine⟨_,by simp only[fv];rw[U],?_⟩;cases b
  ·simpa using h
  ·simpa using h
 |iD t x=>exact⟨_,rfl,h⟩
 |h_ key cd=>exact⟨_,rfl,h⟩
 |iE n=>exact⟨_,rfl,h⟩
 | box mu n x=>
  cases mu with
  |true=>simp[ic,hA]at hp
  | false=>
   obtain⟨v,H',hv,a⟩:=h;simp only[b5,bQ,abW,b4]at hv;split at hv
   . rename_i hk;cases hv;exact⟨_,by simp only[fv,abW,b4];rw[ab hk],a⟩
   ·cases hv
 | alloc mu zero=>
  cases mu with
  |true=>simp[ic,hA]at hp
  | false=>obtain⟨v,H',hv,a⟩:=h;simp only[bQ,abW,b4]at hv;cases hv;exact⟨_,rfl,a⟩
 | hP mu sz len zero parts=>
  cases mu with
  |true=>simp[ic,hA]at hp
  | false=>
   obtain⟨v,H',hv,a⟩:=h;simp only[cI,abW,b4]at hv;cases hf:jM (KT len zero).flatten (gZ env parts)with
   |none=>simp[hf]at hv
   | some cells=>simp only[hf,aaD,aaC.injEq,ab7.injEq]at hv;obtain⟨rfl,rfl⟩:=hv;exact⟨_,by simp[fv,hf],a⟩
 |store|append|make|copy|iY|iZ|call|i6|ext=>simp[ic,hA]at hp
 |_=>obtain⟨v,hv,a⟩:=h;exact⟨v,hv,a⟩
theorem tA{env:Env}(h:fv env H op=acK v)(a:K v H):cy Φ env H K op:=by
 cases op with
 |mv x=>cases h;exact a
 | pick c x y=>
  simp only[fv]at h;simp only[cy];split at h
  . rename_i b U;rw[U];cases h;cases b
    ·simpa using a
    ·simpa using a
  ·cases h
 |iD t x=>cases h;exact a
 |h_ key cd=>cases h;exact a
 |iE n=>cases h;exact a
 | box mu n x=>
  cases mu with
  |true=>simp[fv]at h
  | false=>
   simp only[fv,abW,b4]at h;split at h
   . rename_i hk;cases h;exact⟨_,H,by simp[b5,bQ,hk],a⟩
   ·cases h
 | alloc mu zero=>
  cases mu with
  |true=>simp[fv]at h
  | false=>simp only[fv,abW,b4]at h;cases h;exact⟨_,H,by simp[bQ],a⟩
 | hP mu sz len zero parts=>
  cases mu with
  |true=>simp[fv]at h
  | false=>
   simp only[fv,abW,b4]at h;cases hf:jM (KT len zero).flatten (gZ env parts)with
   |none=>simp[hf]at h
   | some cells=>simp only[hf,aaD,aaC.injEq]at h;subst h;exact⟨_,H,by simp[cI,hf],a⟩
 |store|append|make|copy|iY|iZ|call|i6|ext=>simp[fv]at h
 |_=>exact⟨v,h,a⟩
theorem O2{env:Env}{H H':Z}(h:ic op=acI):fv env H op=fv env H' op:=by cases op<;>first|rfl|(simp[ic]at h)
theorem Ew{env:Env}(hv:fv env H op=acK v):ic op=acI\/hA op=acI:=by
 cases op with
 | box mu n x=>cases mu with
  |true=>simp[fv]at hv
  |false=>left;rfl
 | alloc mu zero=>cases mu with
  |true=>simp[fv]at hv
  |false=>left;rfl
 | hP mu sz len zero parts=>cases mu with
  |true=>simp[fv]at hv
  |false=>left;rfl
 |load|iX=>right;rfl
 |store|append|make|copy|iY|iZ|call|i6|ext=>simp[fv]at hv
 |_=>left;rfl
theorem O3{env aP:Env}(h:∀t∈c0 op,env.getD t .bot=aP.getD t .bot):fv env H op=fv aP H op:=by
 cases hv:fv env H op with
 | some v=>have h1:cy (λ_ _ _ _=>False) env H (λu _=>u=v) op:=tA hv rfl;rw[Aa op h]at h1;obtain⟨u,hu,rfl⟩:=tz (Ew hv) h1;exact hu.symm
 | none=>
  cases a:fv aP H op with
  |none=>rfl
  | some v=>have h1:cy (λ_ _ _ _=>False) aP H (λu _=>u=v) op:=tA a rfl;rw[<-Aa op h]at h1;obtain⟨u,hu,_⟩:=tz (Ew a) h1;rw[hv]at hu;cases hu
end Rb
namespace Rb
open Go
variable{env aP:Env}{H:Z}{o:cb}{K K':aa}{Φ:ad}{v:I}
def kd(Φ:ad):Prop:=∀key args H (Q a:aa),(∀v H,Q v H->a v H)->Φ key args H Q->Φ key args H a
theorem tB(C:Ctx):kd (ai C):=by intro key args H Q g hQ h;refine⟨h.1.imp λv h=>h.imp λH' h=>hQ _ _ h,λf hf G w Vs hG a b=>?_⟩;refine ace (h.2 f hf G w Vs hG a b) λe w' he=>?_;obtain⟨V,v,H',G',h1,c,d⟩:=he;exact⟨V,v,H',G',h1,hQ _ _ c,d⟩
theorem Do.mono{α:Type}{x:Option α}{K K':α->Prop}(b:∀a,K a->K' a)(h:Do x K):Do x K':=by obtain⟨a,ha,h⟩:=h;exact⟨a,ha,b a h⟩
theorem bs.mono{x:Option (I×Z)}(b:∀v H,K v H->K' v H)(h:bs x K):bs x K':=by obtain⟨a,H,ha,h⟩:=h;exact⟨a,H,ha,b a H h⟩
theorem W.mono{b:Bool}{A B c d:Prop}(e:A->c)(hB:B->d)(h:W v b A B):W v b c d:=by
 unfold W at *;split at h
 . split at h
   ·rename_i a;simp[a,e h]
   ·rename_i a;simp[a,hB h]
 ·exact h.elim
theorem oX(b:kd Φ){op:e2}(a:∀v H,K v H->K' v H)(h:cy Φ env H K op):cy Φ env H K' op:=by
 cases op with
 |mv x=>exact a _ _ h
 |pick c x y=>exact W.mono (a _ _) (a _ _) h
 |iD t x=>exact a _ _ h
 |h_ key cd=>exact a _ _ h
 |iE n=>exact a _ _ h
 |box mu n x=>exact bs.mono a h
 |alloc mu zero=>exact bs.mono a h
 |hP=>exact bs.mono a h
 |append=>exact bs.mono a h
 |make=>exact bs.mono a h
 |copy=>exact bs.mono a h
 |iY=>exact bs.mono a h
 |iZ=>exact bs.mono a h
 |call key args=>exact b _ _ _ _ _ a h
 |i6 f args=>obtain⟨key,cd,h1,d⟩:=h;exact⟨key,cd,h1,b _ _ _ _ _ a d⟩
 |ext=>exact bs.mono a h
 |store=>exact Do.mono (λH h=>a _ _ h) h
 |_=>exact Do.mono (λv h=>a _ _ h) h
def ke(o:cb):List Nat:=c0 o.op++(match o.guard with|some (s,_)=>[s]|none=>[])
def ja(Φ:ad)(o:cb)(env:Env)(H:Z)(K:aa):Prop:=
 match o.guard with
 |none=>cy Φ env H K o.op
 |some (s,want)=>∃b,(env.getD s .bot).wanted want=acK b/\if b=acI then cy Φ env H K o.op else K (.aA []) H
theorem oY{s:Nat}(h:env.getD s .bot=v):env.set s v=env:=by
 apply List.ext_getElem?;intro i;rw[aaN];split
 . rename_i hi;subst hi;split
   . rename_i hl;rw[abD,abb hl]at h;rw[abb hl,<-h];rfl
   ·rename_i hl;rw[acg (by omega)]
 ·rfl
theorem tC{K:Env->Z->Prop}:kK Φ o env H K↔ja Φ o env H (λv H'=>K (cm env o.dst v) H'):=by
 unfold kK ja;cases c:o.guard with
 |none=>exact ach
 | some g=>
  obtain⟨s,want⟩:=g;dsimp only;constructor
  . intro h;unfold aF at h;split at h
    . rename_i b U;refine⟨b==want,by rw[U];rfl,?_⟩;by_cases a:b=want
      . subst a;rw[ab rfl]at h;rw[lu];rw[oY U]at h;exact h
      . rw[af a]at h;rw[af (by simpa using a)];have:b=!want:=by cases b<;>cases want<;>simp at a ⊢
        subst this;rw[oY U]at h;exact h
    . rename_i U;refine⟨acJ,by rw[U];rfl,?_⟩;rw[ka];rw[oY U]at h;exact h
    ·exact h.elim
  . rintro ⟨b,U,h⟩;unfold aF;cases b with
    | true=>have hw:=I.zK U;rw[hw];dsimp only;rw[ab rfl]at h ⊢;rw[oY hw];exact h
    | false=>
     rw[ka]at h;rcases I.DZ U with hw|hw
     . rw[hw];dsimp only;rw[af (by cases want<;>simp),oY hw];exact h
     . rw[hw];dsimp only;rw[oY hw];exact h
def iH(o:cb)(env:Env)(H:Z)(v:I):Prop:=
 match o.guard with
 |none=>fv env H o.op=acK v
 |some (s,want)=>∃b,(env.getD s .bot).wanted want=acK b/\if b=acI then fv env H o.op=acK v else v = .aA []
theorem Ex(h:∀t∈ke o,env.getD t .bot=aP.getD t .bot):ja Φ o env H K↔ja Φ o aP H K:=by
 have h1:=Aa (Φ:=Φ) (H:=H) (K:=K) o.op (λt ht=>h t (by simp[ke,ht]));unfold ja;split
 ·rw[h1]
 . rename_i s want a;rw[h1,h s (by simp[ke,a])]
theorem oZ(h:∀t∈ke o,env.getD t .bot=aP.getD t .bot):iH o env H v↔iH o aP H v:=by
 have h1:=O3 (H:=H) (op:=o.op) (λt ht=>h t (by simp[ke,ht]));unfold iH;split
 ·rw[h1]
 . rename_i s want a;rw[h1,h s (by simp[ke,a])]
theorem O4{H H':Z}(h:ic o.op=acI):iH o env H v↔iH o env H' v:=by unfold iH;rw[O2 (H':=H') h]
theorem O5(hp:ic o.op=acI\/hA o.op=acI)(h:ja Φ o env H K):∃v,iH o env H v/\K v H:=by
 unfold ja at h;unfold iH;split at h
 . rename_i d;obtain⟨v,h1,a⟩:=tz hp h;exact⟨v,h1,a⟩
 . rename_i s want d;obtain⟨b,U,h⟩:=h;split at h
   . rename_i c;obtain⟨v,h1,a⟩:=tz hp h;exact⟨v,⟨b,U,by rw[ab c];exact h1⟩,a⟩
   . rename_i c;exact⟨.aA [],⟨b,U,by rw[af c]⟩,h⟩
theorem O6(h:iH o env H v)(a:K v H):ja Φ o env H K:=by
 unfold iH at h;unfold ja;split
 . rename_i c;rw[c]at h;exact tA h a
 . rename_i s want c;rw[c]at h;obtain⟨b,U,h⟩:=h;refine⟨b,U,?_⟩;split at h
   ·rename_i d;rw[ab d];exact tA h a
   ·rename_i d;rw[af d];subst h;exact a
theorem O7(d:kd Φ)(a:∀v H,K v H->K' v H)(h:ja Φ o env H K):ja Φ o env H K':=by
 unfold ja at *;split at h
 ·exact oX d a h
 . obtain⟨b,U,h⟩:=h;refine⟨b,U,?_⟩;split at h
   ·rename_i c;rw[ab c];exact oX d a h
   ·rename_i c;rw[af c];exact a _ _ h
end Rb
namespace Rb
open Go
variable{env:Env}{i t:Nat}{o:cb}
def ef(ops:List cb)(k:Nat):Option Nat:=(ops[k]?).bind λo=>o.dst
def late(ops:List cb)(S:Nat->Bool)(t:Nat):Bool:=(aa_ ops.length).any λk=>ef ops k==acK t&&!S k
def fw(ops:List cb)(S:Nat->Bool)(e0 e1:Env):Env:=(aa_ e1.length).map λt=>if late ops S t then e0.getD t .bot else e1.getD t .bot
def jb(ops:List cb)(i:Nat):Bool:=
 match ops[i]? with
 |some ⟨acK _,.alloc acI _,acL⟩=>acI
 |_=>acJ
def mS(op:e2):Prop:=∃zero,op = .alloc acI zero
theorem tD{al:List cb}(h:jb al i=acI):∃t op,al[i]?=acK ⟨acK t,op,acL⟩/\mS op:=by
 unfold jb at h;split at h
 ·rename_i t zero heq;exact⟨_,_,heq,_,rfl⟩
 ·cases h
theorem Ab{op:e2}(h:mS op)(a:ic op=acI\/hA op=acI):False:=by rcases h with⟨zero,rfl⟩;rcases a with h|h<;>simp[ic,hA]at h
def cJ(pr:List (List Nat))(i:Nat):List Nat:=pr.getD i []
def o0(n:Nat)(ops:List cb)(pr:List (List Nat))(i:Nat):Bool:=
 match ops[i]? with
 |none=>acJ
 | some o=>
  (cJ pr i).all (λj=>(cJ pr j).all (cJ pr i).contains)&&!(cJ pr i).contains i &&
  (ke o).all (λt=>(aa_ n).all λk=>!(ef ops k==acK t)||(cJ pr i).contains k||(!hA o.op&&(k==i||(cJ pr k).contains i))) &&
  (aa_ n).all (λk=>k==i||o.dst==acL||!(ef ops k==o.dst))
def Ac(ops:List cb)(pr:List (List Nat)):Bool:=(aa_ ops.length).all (o0 ops.length ops pr)
def kf(ops:List cb)(pr:List (List Nat))(a:List Nat):List Nat->List Nat->Bool
 |_,[]=>acI
 |D,i::r=>decide (i<ops.length)&&!D.contains i&&(cJ pr i).all D.contains&&a.all (cJ pr i).contains&&(match ops[i]? with|some o=>ic o.op||hA o.op|none=>acJ)&&kf ops pr a (i::D) r
def nK(ops:List cb)(pr:List (List Nat))(a D:List Nat)(e:Nat)(b:List Nat):Bool:=
 decide (e<ops.length)&&!D.contains e&&(cJ pr e).all D.contains&&(jb ops e||a.all (cJ pr e).contains) &&
 D.all λi=>(cJ pr e).contains i||b.contains i||match ops[i]? with|some o=>!hA o.op|none=>acJ
def jR(last:List Nat):List (List Nat×Nat×List Nat)->List Nat
 |[]=>last
 |(a,_,_)::_=>a
def jc(ops:List cb)(pr:List (List Nat))(last:List Nat):List Nat->List Nat->List (List Nat×Nat×List Nat)->Bool
 |es,D,[]=>(aa_ ops.length).all D.contains
 |es,D,(_,e,st)::r=>nK ops pr es D e st&&kf ops pr (e::es) (e::D) (jR last r)&&jc ops pr last (e::es) ((jR last r).reverse++(e::D)) r
def g_:List (List Nat×Nat×List Nat)->Option Nat
 |[]=>acL
 |(_,e,_)::_=>acK e
def tG(ops:List cb)(pr:List (List Nat))(bT:List (List Nat×Nat×List Nat))(last:List Nat):Bool:=Ac ops pr&&kf ops pr [] [] (jR last bT)&&jc ops pr last [] ((jR last bT).reverse) bT
def tH(Φ:ad)(ops:List cb)(last:List Nat)(K:Env->Z->Prop):List (List Nat×Nat×List Nat)->Env->Z->Prop
 |[],env,H=>K env H
 | (_,e,st)::r,env,H=>match ops[e]? with
  |some o=>kK Φ o env H λa H2=>gQ ops env H2 (jO Φ ops last r a H2 K) st
  |none=>False
section
variable{Φ:ad}{ops:List cb}{pr:List (List Nat)}{last:List Nat}{K:Env->Z->Prop}{e0 e1:Env}{H:Z}{S S':Nat->Bool}
theorem Ey(bT:List (List Nat×Nat×List Nat))(env:Env):jO Φ ops last bT env H K=lk Φ ops (jR last bT) env H (λaP H'=>tH Φ ops last K bT aP H'):=by
 cases bT with
 |nil=>simp only[jO,jR,tH]
 | cons p r=>obtain⟨a,e,st⟩:=p;exact rfl
theorem kO(h:e0.length=e1.length)(t:Nat):(fw ops S e0 e1).getD t .bot=if late ops S t then e0.getD t .bot else e1.getD t .bot:=by
 unfold fw;by_cases ht:t<e1.length
 ·simp[abD,ht]
 . have h1:e1.getD t .bot = .bot:=by simp[abD,acg (aci ht)]
   have a:e0.getD t .bot = .bot:=by simp[abD,acg (h▸aci ht)]
   rw[h1,a];simp[abD,ht]
theorem o3:(fw ops S e0 e1).length=e1.length:=by simp[fw]
theorem nL{a b:Env}(hl:a.length=b.length)(h:∀t,t<a.length->a.getD t .bot=b.getD t .bot):a=b:=by apply List.ext_getElem hl;intro i h1 c;have:=h i h1;simpa[abD,h1,c]using this
theorem lB:late ops S t=acI↔∃k,ef ops k=acK t/\S k=acJ:=by
 unfold late;simp only[acj,ack,aar,bZ,ab_];constructor
 ·rintro⟨k,_,h⟩;exact⟨k,h⟩
 . rintro⟨k,h1,a⟩;refine⟨k,?_,h1,a⟩;unfold ef at h1;rcases AH k ops.length with h|h
   ·exact h
   ·simp[acg h]at h1
structure Good(ops:List cb)(pr:List (List Nat)):Prop where
 trans:∀i,i<ops.length->∀j∈cJ pr i,∀k∈cJ pr j,k∈cJ pr i
 Ez:∀i,i<ops.length->i∉cJ pr i
 reads:∀i o t k,ops[i]?=acK o->t∈ke o->ef ops k=acK t->k∈cJ pr i\/(hA o.op=acJ/\(k=i\/i∈cJ pr k))
 uniq:∀i k t,ef ops i=acK t->ef ops k=acK t->i=k
theorem tI{k t:Nat}(h:ef ops k=acK t):k<ops.length:=by
 unfold ef at h;rcases AH k ops.length with a|a
 ·exact a
 ·simp[acg a]at h
theorem O8(h:Ac ops pr=acI):Good ops pr:=by
 have one:∀i,i<ops.length->o0 ops.length ops pr i=acI:=λi hi=>by unfold Ac at h;rw[abh]at h;exact h i (ack.2 hi)
 refine⟨λi hi j f k hk=>?_,λi hi=>?_,λi o t k d ht hk=>?_,λi k t hi hk=>?_⟩
 . have:=one i hi;unfold o0 at this;split at this
   ·cases this
   . simp only[aar]at this;have c:=this.1.1.1;rw[abh]at c;have b:=c j f;rw[abh]at b;simpa using b k hk
 . have:=one i hi;unfold o0 at this;split at this
   ·cases this
   . simp only[aar]at this;have:=this.1.1.2;simpa using this
 . have hi:i<ops.length:=by
     rcases AH i ops.length with e|e
     ·exact e
     ·simp[acg e]at d
   have:=one i hi;unfold o0 at this;rw[d]at this;simp only[aar]at this;have c:=this.1.2;rw[abh]at c;have b:=c t ht;rw[abh]at b;have a:=b k (ack.2 (tI hk));rw[hk]at a;simp at a;rcases a with a|⟨g,a⟩
   ·exact .inl a
   . refine .inr ⟨g,?_⟩;rcases a with a|a
     ·exact .inl a
     ·exact .inr a
 . have l:=tI hi;have:=one i l;unfold o0 at this;split at this
   ·cases this
   . rename_i o d;simp only[aar]at this;have c:=this.2;rw[abh]at c;have b:=c k (ack.2 (tI hk));have m:o.dst=acK t:=by simpa[ef,d]using hi
     rw[m,hk]at b;simp at b;exact b.symm
theorem Ad(a:Good ops pr)(hl:e0.length=e1.length)(b:ops[i]?=acK o)
  (h1:∀k∈cJ pr i,S k=acI) (c:S i=acJ) (d:∀k,S k=acI->∀j∈cJ pr k,S j=acI)
  (e:∀k∈cJ pr i,S' k=acI) (f:S' i=acJ) (g:∀k,S' k=acI->∀j∈cJ pr k,S' j=acI) :
  ∀t∈ke o,(fw ops S e0 e1).getD t .bot=(fw ops S' e0 e1).getD t .bot:=by
 intro t ht;rw[kO hl,kO hl];have : late ops S t=late ops S' t:=by
  have key:∀{A B:Nat->Bool},(∀k∈cJ pr i,A k=acI)->B i=acJ->(∀k,B k=acI->∀j∈cJ pr k,B j=acI)->late ops A t=acI->late ops B t=acI:=by
   intro A B M b2 bd h;obtain⟨k,hk,hn⟩:=lB.1 h;refine lB.2 ⟨k,hk,?_⟩;rcases a.reads i o t k b ht hk with h|⟨_,h⟩
   ·rw[M k h]at hn;cases hn
   . rcases h with rfl|h
     ·exact b2
     . cases U:B k with
       |false=>rfl
       |true=>have:=bd k U i h;rw[b2]at this;cases this
  cases ha:late ops S t with
  |true=>rw[key h1 f g ha]
  | false=>
   cases U:late ops S' t with
   |false=>rfl
   |true=>rw[key e c d U]at ha;cases ha
 rw[this]
theorem tJ(f:Good ops pr)(hl:e0.length=e1.length)(g:ops[i]?=acK o){v:I}
  (hv:∀t,o.dst=acK t->t<e1.length->e1.getD t .bot=v) :
  cm (fw ops S e0 e1) o.dst v=fw ops (λk=>k==i||S k) e0 e1:=by
 have b:ef ops i=o.dst:=by simp[ef,g]
 apply nL
 ·cases a:o.dst<;>simp[cm,o3]
 . intro t ht;rw[kO hl];cases a:o.dst with
   | none=>
    simp only[cm];rw[kO hl];have:late ops S t=late ops (λk=>k==i||S k) t:=by
     rw[acm,lB,lB];constructor
     . rintro⟨k,hk,hn⟩;refine⟨k,hk,?_⟩;have:k≠i:=λe=>by subst e;rw[b,a]at hk;cases hk
       simp[this,hn]
     . rintro⟨k,hk,hn⟩;simp at hn;exact⟨k,hk,hn.2⟩
    rw[this]
   | some s=>
    simp only[cm];by_cases c:s=t
    . subst c;have d:s<(fw ops S e0 e1).length:=by
       rw[a]at ht;simpa[cm,acn]using ht
      have h:late ops (λk=>k==i||S k) s=acJ:=by
       cases j:late ops (λk=>k==i||S k) s with
       |false=>rfl
       | true=>obtain⟨k,hk,hn⟩:=lB.1 j;have:=f.uniq i k s (by rw[b,a]) hk;subst this;simp at hn
      rw[h];simp only[abD,abd d,abW,b4,abE];rw[<-hv s a (by rw[o3]at d;exact d),abD]
    . have h1:((fw ops S e0 e1).set s v).getD t .bot=(fw ops S e0 e1).getD t .bot:=by
        rw[abD,abe c,abD]
      rw[h1,kO hl];have:late ops S t=late ops (λk=>k==i||S k) t:=by
       rw[acm,lB,lB];constructor
       . rintro⟨k,hk,hn⟩;refine⟨k,hk,?_⟩;have:k≠i:=λe=>by subst e;rw[b,a]at hk;cases hk;exact c rfl
         simp[this,hn]
       . rintro⟨k,hk,hn⟩;simp at hn;exact⟨k,hk,hn.2⟩
      rw[this]
theorem lC(hl:e0.length=e1.length)(g:Good ops pr)(c:ops[i]?=acK o)(v:I)(hi:S i=acJ):fw ops S e0 (cm e1 o.dst v)=fw ops S e0 e1:=by
 have d:ef ops i=o.dst:=by simp[ef,c]
 have a:e0.length=(cm e1 o.dst v).length:=by cases b:o.dst<;>simp[cm,hl]
 apply nL
 ·rw[o3,o3,<-hl,<-a]
 . intro t _;rw[kO a,kO hl];cases f:late ops S t with
   |true=>rfl
   | false=>
    simp only[abW,b4];cases b:o.dst with
    |none=>rfl
    | some s=>simp only[cm];rw[abD,abe,abD];intro e;subst e;have:late ops S s=acI:=lB.2 ⟨i,by rw[d,b],hi⟩;rw[f]at this;cases this
def Holds(e:Env)(d:Option Nat)(v:I):Prop:=∀t,d=acK t->t<e.length->e.getD t .bot=v
def Fact(ops:List cb)(pr:List (List Nat))(e0 e1:Env)(H:Z)(i:Nat):Prop:=∃o v,ops[i]?=acK o/\(ic o.op=acI\/hA o.op=acI)/\iH o (fw ops (λk=>(cJ pr i).contains k) e0 e1) H v/\Holds e1 o.dst v
structure Inv(Φ:ad)(ops:List cb)(pr:List (List Nat))(last:List Nat)(K:Env->Z->Prop)(bT:List (List Nat×Nat×List Nat))(S:Nat->Bool)(env:Env)(H:Z):Prop where
 ex:∃(e0 e1:Env) (D es:List Nat),
  e0.length=e1.length/\env=fw ops S e0 e1/\e1=fw ops D.contains e0 e1 /\
  (∀i,S i=acI->i∈D)/\(∀i,i∈D->S i=acJ->Fact ops pr e0 e1 H i) /\
  (∀k,S k=acI->∀j∈cJ pr k,S j=acI)/\(∀k∈D,∀j∈cJ pr k,j∈D) /\
  jc ops pr last es D bT=acI/\tH Φ ops last K bT e1 H
theorem EA(c:Good ops pr){C:List Nat}{r:Env->Z->Prop}:∀(a D:List Nat)(e1:Env),e0.length=e1.length->e1=fw ops D.contains e0 e1 ->
  (∀i,S i=acI->i∈D)->(∀i,i∈D->S i=acJ->Fact ops pr e0 e1 H i)->(∀k∈D,∀j∈cJ pr k,j∈D)->kf ops pr C D a=acI->lk Φ ops a e1 H r ->
  ∃ d,e0.length=d.length/\fw ops S e0 d=fw ops S e0 e1/\d=fw ops (a.reverse++D).contains e0 d/\(∀i,S i=acI->i∈a.reverse++D) /\
   (∀i,i∈a.reverse++D->S i=acJ->Fact ops pr e0 d H i)/\(∀k∈a.reverse++D,∀j∈cJ pr k,j∈a.reverse++D)/\r d H:=by
 intro a;induction a with
 |nil=>intro D e1 hl hm hS hf g _ h;exact⟨e1,hl,rfl,by simpa using hm,by simpa using hS,by simpa using hf,by simpa using g,h⟩
 | cons i a E=>
  intro D e1 hl hm hS hf g hc h;simp only[kf,aar]at hc;obtain⟨⟨⟨⟨⟨hi,F⟩,u⟩,Y⟩,n⟩,G⟩:=hc;simp only[lk]at h;cases b:ops[i]? with
  |none=>rw[b]at h;exact h.elim
  | some o=>
   rw[b]at h n;dsimp only at h n;have w:ic o.op=acI\/hA o.op=acI:=by simpa using n
   have m:i∉D:=by simpa using F
   have x:∀k∈cJ pr i,k∈D:=by rw[abh]at u;intro k hk;simpa using u k hk
   have I:S i=acJ:=by
    cases hs:S i with
    |false=>rfl
    |true=>exact absurd (hS i hs) m
   rw[tC]at h;obtain⟨v,hv,h⟩:=O5 w h;have J:ef ops i=o.dst:=by simp[ef,b]
   have p:e0.length=(cm e1 o.dst v).length:=by cases g:o.dst<;>simp[cm,hl]
   have y:Holds (cm e1 o.dst v) o.dst v:=by intro t ht f;rw[ht]at f ⊢;simp only[cm]at f ⊢;rw[acn]at f;simp[abD,f]
   have K:∀k,D.contains k=acI->∀j∈cJ pr k,D.contains j=acI:=λk hk j l=>by simpa using g k (by simpa using hk) j l
   have z:D.contains i=acJ:=by simpa using m
   have L:cm e1 o.dst v=fw ops (i::D).contains e0 (cm e1 o.dst v):=by have h1:=tJ (S:=D.contains) c p b y;rw[lC hl c b v z,<-hm]at h1;rw[h1];congr 1
   have M:Fact ops pr e0 (cm e1 o.dst v) H i:=by
    refine⟨o,v,b,w,?_,y⟩;have A:(cJ pr i).contains i=acJ:=by simpa using c.Ez i (by simpa using hi)
    rw[lC hl c b v A];rw[hm]at hv;refine(oZ (Ad c hl b ?_ ?_ ?_ ?_ ?_ ?_)).1 hv
    ·intro k hk;simpa using x k hk
    ·exact z
    ·exact K
    ·intro k hk;simpa using hk
    ·exact A
    ·intro k hk j l;simpa using c.trans i (by simpa using hi) k (by simpa using hk) j l
   have hold:∀k,k∈D->S k=acJ->Fact ops pr e0 (cm e1 o.dst v) H k:=by
    intro k hk q;obtain⟨ok,N,B,O,P,Q⟩:=hf k hk q;have R:(cJ pr k).contains i=acJ:=by
     cases T:(cJ pr k).contains i with
     |false=>rfl
     |true=>exact absurd (g k hk i (by simpa using T)) m
    refine⟨ok,N,B,O,by rw[lC hl c b v R];exact P,?_⟩;intro t ht f;rw[<-p,hl]at f;have:=Q t ht f;rw[<-this];cases U:o.dst with
    |none=>rfl
    | some s=>simp only[cm];rw[abD,abe,abD];intro e;subst e;have:=c.uniq i k s (by rw[J,U]) (by simp[ef,B,ht]);subst this;exact m hk
   have V:fw ops S e0 (cm e1 o.dst v)=fw ops S e0 e1:=lC hl c b v I;have W:∀k,k∈i::D->S k=acJ->Fact ops pr e0 (cm e1 o.dst v) H k:=by
    intro k hk q;rcases aco.1 hk with rfl|hk
    ·exact M
    ·exact hold k hk q
   have hB:∀k∈i::D,∀j∈cJ pr k,j∈i::D:=by
    intro k hk j l;rcases aco.1 hk with rfl|hk
    ·exact acp _ (x j l)
    ·exact acp _ (g k hk j l)
   obtain⟨d,g1,g2,g3,g4,g5,g6,g7⟩:=E (i::D) (cm e1 o.dst v) p L (λk hk=>acp _ (hS k hk)) W hB G h;have X:(i::a).reverse++D=a.reverse++i::D:=by simp
   rw[X];exact⟨d,g1,g2.trans V,g3,g4,g5,g6,g7⟩
theorem O9{X:Prop}:∀{a:List Nat},gQ ops env H X a->X/\∀l∈a,∀o,ops[l]?=acK o->qw env H o:=by
 intro a;induction a with
 |nil=>intro h;exact⟨h,λl hl=>by cases hl⟩
 | cons l a c=>
  intro h;obtain⟨h1,d⟩:=h;obtain⟨e,f⟩:=c d;refine⟨e,λk hk o b=>?_⟩;rcases aco.1 hk with rfl|hk
  ·rw[b]at h1;exact h1
  ·exact f k hk o b
theorem EB(a:hA o.op=acI)(h:oM env H o):fv env H o.op=acK (env.getD (o.dst.getD 0) .bot):=by unfold oM at h;cases b:o.op<;>rw[b]at a h<;>first|(simp[hA]at a;done)|exact h
theorem O_(b:Good ops pr){bT:List (List Nat×Nat×List Nat)}{env:Env}(hc:kf ops pr [] [] (jR last bT)=acI)(c:jc ops pr last [] ((jR last bT).reverse) bT=acI)
  (h:jO Φ ops last bT env H K):Inv Φ ops pr last K bT (λ_=>acJ) env H:=by
 rw[Ey]at h;have a:∀S,fw ops S env env=env:=λS=>nL o3 λt _=>by rw[kO rfl];split<;>rfl
 obtain⟨d,g1,g2,g3,g4,g5,g6,g7⟩:=EA (S:=λ_=>acJ) b (jR last bT) [] env rfl (a _).symm (λi hi=>by cases hi) (λi hi=>by cases hi) (λk hk=>by cases hk) hc h;refine⟨env,d,_,[],g1,?_,g3,g4,g5,λk hk=>(by cases hk),g6,by simpa using c,g7⟩;rw[g2,a]
theorem EC(u:Good ops pr)(hi:i<ops.length):∀(bT:List (List Nat×Nat×List Nat)) (b D:List Nat),jc ops pr last b D bT=acI->i∉D->jb ops i=acJ->∀e∈b,e∈cJ pr i:=by
 intro bT;induction bT with
 | nil=>intro b D h hn f;simp only[jc]at h;rw[abh]at h;exact absurd (by simpa using h i (ack.2 hi)) hn
 | cons p r m=>
  obtain⟨c,e,st⟩:=p;intro b D h hn f;simp only[jc,aar]at h;obtain⟨⟨h1,n⟩,o⟩:=h;have q:∀(c:List Nat)(D:List Nat),kf ops pr (e::b) D c=acI->i∈c->∀a∈b,a∈cJ pr i:=by
   intro c;induction c with
   |nil=>intro D _ h;cases h
   | cons k c s=>
    intro D hc hk a d;simp only[kf,aar]at hc;obtain⟨⟨⟨⟨⟨_,_⟩,_⟩,g⟩,_⟩,t⟩:=hc;rcases aco.1 hk with rfl|hk
    . rw[abh]at g;simpa using g a (acp _ d)
    ·exact s _ t hk a d
  by_cases j:i=e
  . subst j;simp only[nK,aar]at h1;have:=h1.1.2;rw[f,acq,abh]at this;intro a d;simpa using this a d
  . by_cases l:i∈jR last r
    ·exact q _ _ n l
    . have:=m (e::b) _ o (by simp[j,l,hn]) f;exact λa d=>this a (acp _ d)
theorem ED(ap:kd Φ)(a:Good ops pr){bT:List (List Nat×Nat×List Nat)}(h:Inv Φ ops pr last K bT S env H)(c:ops[i]?=acK o)(J:S i=acJ)(y:∀k∈cJ pr i,S k=acI)
  (T:jb ops i=acJ\/g_ bT=acK i) :
  kK Φ o env H (λaP H'=>Inv Φ ops pr last K (if g_ bT=acK i then bT.tail else bT) (λk=>k==i||S k) aP H'):=by
 obtain⟨e0,e1,D,es,hl,hm,L,hS,hf,V,C,f,M⟩:=h;have hi:i<ops.length:=(aal.1 c).1;have aq:(cJ pr i).contains i=acJ:=by simpa using a.Ez i hi
 have Z:∀k,(k==i||S k)=acI->∀j∈cJ pr k,(j==i||S j)=acI:=by
  intro k hk j d;simp only[aas,bZ]at hk ⊢;rcases hk with rfl|hk
  ·exact .inr (y j d)
  ·exact .inr (V k hk j d)
 rw[tC];by_cases w:i∈D
 . obtain ⟨aO,v,aa,aQ,ar,au⟩:=hf i w J;rw[c]at aa;cases aa;have av:iH o env H v:=by
    rw[hm];refine(oZ (Ad a hl c ?_ ?_ ?_ ?_ ?_ ?_)).1 ar
    ·intro k hk;simpa using hk
    ·exact aq
    ·intro k hk j d;simpa using a.trans i hi k (by simpa using hk) j d
    ·exact y
    ·exact J
    ·exact V
   have aw:g_ bT≠acK i:=by
    cases bT with
    |nil=>simp[g_]
    | cons p r=>
     obtain⟨m,e,st⟩:=p;simp only[jc,aar]at f;have h1:=f.1.1;simp only[nK,aar]at h1;have W:e∉D:=by simpa using h1.1.1.1.2
     intro he;simp only[g_,aaC.injEq]at he;subst he;exact W w
   rw[af aw];refine O6 av ⟨e0,e1,D,es,hl,?_,L,?_,?_,Z,C,f,M⟩
   ·rw[hm];exact tJ a hl c au
   . intro k hk;simp only[aas,bZ]at hk;rcases hk with rfl|hk
     ·exact w
     ·exact hS k hk
   . intro k hk n;simp only[acr]at n;exact hf k hk n.2
 . cases bT with
   | nil=>simp only[jc]at f;rw[abh]at f;exact absurd (by simpa using f i (ack.2 hi)) w
   | cons p r =>
    obtain⟨m,e,st⟩:=p;have aR:=f;simp only[jc,aar]at f;obtain⟨⟨h1,ac⟩,ad⟩:=f;simp only[nK,aar]at h1;obtain⟨⟨⟨⟨aS,ax⟩,aT⟩,aU⟩,ae⟩:=h1;have W:e∉D:=by simpa using ax
    have E : i=e:=by
     by_cases E:i=e
     ·exact E
     exfalso;have T:jb ops i=acJ:=by
      rcases T with h|h
      ·exact h
      . simp only[g_,aaC.injEq]at h;exact absurd h.symm E
     have ay:e∈cJ pr i:=by
      by_cases ag:i∈jR last r
      . have az:∀(m:List Nat)(D:List Nat),kf ops pr (e::es) D m=acI->i∈m->e∈cJ pr i:=by
          intro m;induction m with
          |nil=>intro D _ h;cases h
          | cons k m aB=>
           intro D hc hk;simp only[kf,aar]at hc;obtain⟨⟨⟨⟨⟨_,_⟩,_⟩,ah⟩,_⟩,aC⟩:=hc;rcases aco.1 hk with rfl|hk
           . rw[abh]at ah;simpa using ah e acs
           ·exact aB _ aC hk
        exact az _ _ ac ag
      ·exact EC a hi r (e::es) _ ad (by simp[E,ag,w]) T e acs
     exact W (hS e (y e ay))
    subst E;rw[ab (show g_ ((m,i,st)::r)=acK i from rfl)];simp only[tH,c]at M;rw[tC]at M;have ai:∀k∈cJ pr i,k∈D:=λk hk=>hS k (y k hk);have aj:D.contains i=acJ:=by simpa using w
    have aD:∀k,D.contains k=acI->∀j∈cJ pr k,D.contains j=acI:=λk hk j d=>by simpa using C k (by simpa using hk) j d
    have aE:ja Φ o env H (λv H'=>gQ ops e1 H' (jO Φ ops last r (cm e1 o.dst v) H' K) st):=by
     have agree:∀t∈ke o,e1.getD t .bot=env.getD t .bot:=by intro t ht;have:=Ad (S:=D.contains) (S':=S) a hl c (λk hk=>by simpa using ai k hk) aj aD y J V t ht;rw[<-L,<-hm]at this;exact this
     exact(Ex agree).1 M
    refine O7 ap ?_ aE;intro v H' hs;obtain⟨ak,aF⟩:=O9 hs;have aG:ef ops i=o.dst:=by simp[ef,c]
    have N:e0.length=(cm e1 o.dst v).length:=by cases aV:o.dst<;>simp[cm,hl]
    have al:Holds (cm e1 o.dst v) o.dst v:=by intro t ht x;rw[ht]at x ⊢;simp only[cm]at x ⊢;rw[acn]at x;simp[abD,x]
    have aH:cm e1 o.dst v=fw ops (i::D).contains e0 (cm e1 o.dst v):=by have h1:=tJ (S:=D.contains) a N c al;rw[lC hl a c v aj,<-L]at h1;rw[h1];congr 1
    have aI:cm env o.dst v=fw ops (λk=>k==i||S k) e0 (cm e1 o.dst v):=by have h1:=tJ (S:=S) a N c al;rw[lC hl a c v J,<-hm]at h1;exact h1
    have aJ:∀k,k∈i::D->(k==i||S k)=acJ->Fact ops pr e0 (cm e1 o.dst v) H' k:=by
     intro k hk n;simp only[acr,beq_eq_false_iff_ne]at n;obtain⟨am,n⟩:=n;have O:k∈D:=(aco.1 hk).resolve_left am;obtain⟨ok,aK,q,F,l,an⟩:=hf k O n;have P:(cJ pr k).contains i=acJ:=by
      cases X:(cJ pr k).contains i with
      |false=>rfl
      |true=>exact absurd (C k O i (by simpa using X)) w
     have Q:∀u,Holds e1 ok.dst u->Holds (cm e1 o.dst v) ok.dst u:=by
      intro u hu t ht x;rw[<-N,hl]at x;have:=hu t ht x;rw[<-this];cases aL:o.dst with
      |none=>rfl
      | some s=>simp only[cm];rw[abD,abe,abD];intro e;subst e;have:=a.uniq i k s (by rw[aG,aL]) (by simp[ef,q,ht]);exact am this.symm
     by_cases ao:ic ok.op=acI
     . refine⟨ok,aK,q,F,?_,Q _ an⟩;rw[lC hl a c v P];exact(O4 ao).1 l
     . have R:hA ok.op=acI:=F.resolve_left ao;have aM:k∈st:=by
        rw[abh]at ae;have:=ae k O;rw[q]at this;simp[R]at this;rcases this with h|h
        ·exact absurd (y k h) (by rw[n];simp)
        ·exact h
       have z:=aF k aM ok q;have agree:∀t∈ke ok,(fw ops (λj=>(cJ pr k).contains j) e0 e1).getD t .bot=e1.getD t .bot:=by
        intro t ht
        conv=>rhs;rw[L]
        rw[kO hl,kO hl];have B:∀(A:Nat->Bool),(∀j∈cJ pr k,A j=acI)->late ops A t=acJ:=by
         intro A B;cases X:late ops A t with
         |false=>rfl
         | true=>
          obtain⟨j,d,hn⟩:=lB.1 X;rcases a.reads k ok t j q ht d with h|⟨h,_⟩
          ·rw[B j h]at hn;cases hn
          ·rw[R]at h;cases h
        rw[B _ (λj d=>by simpa using d),B _ (λj d=>by simpa using C k O j d)]
       rw[oZ agree]at l;unfold qw at z;unfold iH at l;cases G:ok.guard with
       | none=>
        rw[G]at z;refine⟨ok,e1.getD (ok.dst.getD 0) .bot,q,F,?_,Q _ ?_⟩
        . rw[lC hl a c v P];refine(oZ agree).2 ?_;unfold iH;rw[G];exact EB R z
        ·intro t ht _;rw[ht];rfl
       | some g=>
        obtain⟨s,want⟩:=g;rw[G]at z l;dsimp only at z l;obtain⟨b,U,l⟩:=l;by_cases Y:b=acI
        . subst Y;refine⟨ok,e1.getD (ok.dst.getD 0) .bot,q,F,?_,Q _ ?_⟩
          . rw[lC hl a c v P];refine(oZ agree).2 ?_;unfold iH;rw[G];exact⟨acI,U,by rw[ab rfl];exact EB R (z (I.zK U))⟩
          ·intro t ht _;rw[ht];rfl
        . rw[af Y]at l;subst l;refine⟨ok,.aA [],q,F,?_,Q _ an⟩;rw[lC hl a c v P];refine(oZ agree).2 ?_;unfold iH;rw[G];exact⟨b,U,by rw[af Y]⟩
    rw[Ey]at ak;have B:∀k,(k==i||S k)=acI->k∈i::D:=by
     intro k hk;simp only[aas,bZ]at hk;rcases hk with rfl|hk
     ·exact acs
     ·exact acp _ (hS k hk)
    have hB:∀k∈i::D,∀j∈cJ pr k,j∈i::D:=by
     intro k hk j d;rcases aco.1 hk with rfl|hk
     ·exact acp _ (ai j d)
     ·exact acp _ (C k hk j d)
    obtain⟨aN,g1,g2,g3,g4,g5,g6,g7⟩:=EA (S:=λk=>k==i||S k) a (jR last r) (i::D) (cm e1 o.dst v) N aH B aJ hB ac ak;exact⟨e0,aN,_,i::es,g1,by rw[g2];exact aI,g3,g4,g5,Z,g6,ad,g7⟩
theorem Pa{bT:List (List Nat×Nat×List Nat)}(h:Inv Φ ops pr last K bT S env H)(a:∀i,i<ops.length->S i=acI):K env H:=by
 obtain⟨e0,e1,D,es,hl,hm,m,hS,hf,n,o,b,c⟩:=h;cases bT with
 | nil=>
  have:env=e1:=by
   rw[hm];refine nL o3 λt _=>?_;rw[kO hl];have:late ops S t=acJ:=by
    cases d:late ops S t with
    |false=>rfl
    | true=>obtain⟨j,f,hn⟩:=lB.1 d;rw[a j (tI f)]at hn;cases hn
   rw[this];rfl
  rw[this];exact c
 | cons p r=>
  obtain⟨q,e,st⟩:=p;simp only[jc,aar]at b;obtain⟨⟨h1,s⟩,u⟩:=b;simp only[nK,aar]at h1;obtain⟨⟨⟨⟨g,k⟩,v⟩,w⟩,x⟩:=h1;have l:e∉D:=by simpa using k
  exact absurd (hS e (a e (by simpa using g))) l
theorem Pb(t:Good ops pr){bT:List (List Nat×Nat×List Nat)}(h:Inv Φ ops pr last K bT S env H) :
  (∀k,S k=acI->∀j∈cJ pr k,S j=acI) /\
  ∀p,jb ops p=acI->S p=acJ->g_ bT≠acK p->∀i,i<ops.length->S i=acJ->p∈cJ pr i->jb ops i=acJ->(∀k∈cJ pr i,S k=acI\/(jb ops k=acI/\g_ bT≠acK k))->False:=by
 obtain⟨e0,e1,D,es,hl,hm,O,hS,hf,u,w,a,P⟩:=h;refine⟨u,λp hp x Q i hi R f y z=>?_⟩;have c:p∉D:=by intro c;obtain⟨o,v,A,B,_⟩:=hf p c x;obtain⟨T,U,g,C⟩:=tD hp;rw[A]at g;cases g;exact Ab C B
 have d:i∉D:=λd=>c (w i d p f);cases bT with
 | nil=>simp only[jc]at a;rw[abh]at a;exact absurd (by simpa using a i (ack.2 hi)) d
 | cons q r =>
  obtain⟨b,e,st⟩:=q;have V:=a;simp only[jc,aar]at a;obtain⟨⟨h1,E⟩,F⟩:=a;simp only[nK,aar]at h1;obtain⟨⟨⟨⟨W,G⟩,l⟩,X⟩,Y⟩:=h1;have I:e∉D:=by simpa using G
  by_cases m:i=e
  . subst m;rw[abh]at l;exact c (by simpa using l p f)
  . have J : e∈cJ pr i:=by
      by_cases n:i∈jR last r
      . have L:∀(b:List Nat)(D:List Nat),kf ops pr (e::es) D b=acI->i∈b->e∈cJ pr i:=by
          intro b;induction b with
          |nil=>intro D _ h;cases h
          | cons k b M=>
           intro D hc hk;simp only[kf,aar]at hc;obtain⟨⟨⟨⟨⟨_,_⟩,_⟩,s⟩,_⟩,N⟩:=hc;rcases aco.1 hk with rfl|hk
           . rw[abh]at s;simpa using s e acs
           ·exact M _ N hk
        exact L _ _ E n
      ·exact EC t hi r (e::es) _ F (by simp[m,n,d]) y e acs
    rcases z e J with h|⟨_,h⟩
    ·exact I (hS e h)
    ·exact h rfl
theorem Ae{bT:List (List Nat×Nat×List Nat)}(h:Inv Φ ops pr last K bT S env H){e:Nat}(a:g_ bT=acK e) :
  S e=acJ/\e<ops.length/\∀k∈cJ pr e,jb ops k=acI->S k=acI:=by
 obtain⟨e0,e1,D,es,hl,hm,t,hS,hf,u,w,c,x⟩:=h;cases bT with
 |nil=>cases a
 | cons q r=>
  obtain⟨y,b,st⟩:=q;simp only[g_,aaC.injEq]at a;subst a;simp only[jc,aar]at c;obtain⟨⟨h1,z⟩,A⟩:=c;simp only[nK,aar]at h1;obtain⟨⟨⟨⟨g,i⟩,d⟩,B⟩,C⟩:=h1;have j:b∉D:=by simpa using i
  refine⟨?_,by simpa using g,λk hk l=>?_⟩
  . cases hs:S b with
    |false=>rfl
    |true=>exact absurd (hS b hs) j
  . cases hs:S k with
    |true=>rfl
    | false=>
     rw[abh]at d;have m:k∈D:=by simpa using d k hk
     obtain⟨o,v,n,p,_⟩:=hf k m hs;obtain⟨E,F,f,s⟩:=tD l;rw[n]at f;cases f;exact(Ab s p).elim
end
end Rb
namespace Rb
open Go
variable{F:dE}{Q:Exit->Act->World->Prop}{op:e2}{b i cap:Nat}{az:List Nat}{w0 w':World}{al:List cb}{v:I}{G':aW}{cs:List I}{P:Program}{ao:cb}{H':Z}
def lD(a:Array Oper)(x:Option (Nat×Bool))(y:Option (Nat×Bool)):Bool:=
 match x,y with
 |none,acL=>acI
 |some (j,want),acK (s,b)=>want==b&&((a[j]?).bind (·.dst))==acK s
 |_,_=>acJ
def iI(C:Ctx)(b:Array Oper):List Oper->List cb->Bool
 |[],[]=>acI
 |o::r,a::s=>o.dst==a.dst&&dO C o.op a.op&&lD b o.guard a.guard&&iI C b r s
 |_,_=>acJ
def hd:List cb->List Nat
 |[]=>[]
 |o::r=>o.dst.toList++(match o.guard with|some (s,_)=>[s]|none=>[])++hd r
def eQ:dT->List Nat
 | .region ops=>hd ops
 | .draw ops _ _ _=>hd ops
 | .seq a b=>eQ a++eQ b
 | .join _ _ a b=>eQ a++eQ b
 | .cond _ a b=>eQ a++eQ b
 | .block _ a=>eQ a
 | .loop _ _ a=>eQ a
 | .freeze t a=>t::eQ a
 | .hR _ _ ops b=>hd ops++eQ b
 |_=>[]
def tK(a:Array Oper)(pr:List (List Nat)):Bool:=(aa_ a.size).all λi=>match a[i]? with
 | some o=>
  let es:=(o.after.toList.filter (acu .any)).map acv
  es.all (λj=>decide (j<i))&&(cJ pr i).all λj=>es.contains j||es.any λk=>(cJ pr k).contains j
 |none=>acJ
def tM(ks vs:List Nat)(az:List Nat):Bool:=az.all λt=>ks.contains t||vs.contains t
def qG(C:Ctx)(a:Array Oper):List Oper->dT->Bool
 |l,.region al=>iI C a l al
 |l,.hR vs ks al b=>iI C a (l.take al.length) al&&tM ks vs (hd al)&&qG C a (l.drop al.length) b
 |_,_=>acJ
def cz(C:Ctx):Code->dT->Bool
 | .skip,.skip=>acI
 | .region _ ops acJ,.region al=>iI C ops ops.toList al
 | .region _ ops acI,.draw al pr bT last=>iI C ops ops.toList al&&tK ops pr&&tG al pr bT last&&C.P.follows .mixedOrders
 | .seq a b,.seq x y=>cz C a x&&cz C b y
 | .seq a b,.join vs ks x y=>cz C a x&&cz C b y&&tM ks vs (eQ x)
 | .cond c a b,.cond x p q=>dm C c x&&cz C a p&&cz C b q
 | .block id a,.block d x=>id==d&&cz C a x
 | .loop a,.loop vs ks x=>cz C a x&&tM ks vs (eQ x)
 | .exit id,.exit d=>id==d
 | .ret,.ret=>acI
 | .region _ ops acJ,.hR vs ks al b=>qG C ops ops.toList (.hR vs ks al b)
 |c,.freeze t x=>cz C c x
 |_,_=>acJ
def dU(az:List Nat)(a a':Act):Prop:=a'.tmps.size=a.tmps.size/\∀t,t∉az->a'.tmps[t]?=a.tmps[t]?
theorem dU.refl(az:List Nat)(a:Act):dU az a a:=⟨rfl,λ_ _=>rfl⟩
theorem dU.trans{a b c:Act}(h:dU az a b)(k:dU az b c):dU az a c:=⟨k.1.trans h.1,λt ht=>(k.2 t ht).trans (h.2 t ht)⟩
theorem dU.mono{az c:List Nat}{a b:Act}(h:dU az a b)(hs:∀t,t∈az->t∈c):dU c a b:=⟨h.1,λt ht=>h.2 t λd=>ht (hs t d)⟩
theorem dU.put(a:Act)(d:Option Tmp)(V:Value):dU d.toList a (a.put d V):=by
 cases d with
 |none=>exact dU.refl _ _
 | some d=>refine⟨by simp[acw],λt ht=>?_⟩;simp only[Option.toList_some,List.mem_singleton]at ht;simp only[acw];rw[aaO,af (λe=>ht e.symm)]
section
variable{C:Ctx}{w:World}{G:aW}{H:Z}{env:Env}{a:Act}
theorem be.cm(h:be C.F w G env a.tmps)(d:Option Tmp){V:Value}(hv:VR C.F w G v V):be C.F w G (Rb.cm env d v) (a.put d V).tmps:=by
 cases d with
 |none=>exact h
 |some d=>exact h.set d hv
theorem be.same{Vs:Array Value}(h:be F w G cs Vs){t:Nat}(hv:cs[t]?=acK v):be F w G (cs.set t v) Vs:=by
 refine⟨by simp[h.1],λj c V hc a=>?_⟩;by_cases b:t=j
 . subst b;rw[abd (aal.1 hv).1]at hc;cases hc;exact h.2 t v V hv a
 . rw[abe b]at hc;exact h.2 j c V hc a
theorem Oper.EE{o:Oper}{n1 n2:Act->World->Prop}(h:o.wp P a w n1 Q)(hn:∀a w,n1 a w->n2 a w):o.wp P a w n2 Q:=by
 unfold ab8 at h ⊢;cases b:(execOp a.eval o).run P w with
 | halt g w'=>rw[b]at h;cases g<;>first|exact h|exact h.elim
 | ok x w'=>
  rw[b]at h;cases x with
  |value v=>exact hn _ _ h
  |skip=>exact hn _ _ h
  |defer d=>exact hn _ _ h
  | enter f args=>
   refine ace h λe i he=>?_;cases e with
   |returned v=>exact hn _ _ he
   |panicked c=>exact he
   |outgrown=>exact he
  |row r args=>exact Rows.mono h λv i hv=>hn _ _ hv
  |_=>exact h.elim
theorem put_defers(d:Option Tmp)(V:Value):(a.put d V).defers=a.defers:=by cases d<;>rfl
theorem Pc{b:Array Oper}{rest:List Oper}{o:Oper}(c:o.guard=acL)(h:o.wp P a w (wpList P b Q rest) Q):wpList P b Q (o::rest) a w:=by unfold wpList;rw[ab (by simp[acx,c])];exact .inl h
theorem EF(hF:gI C){ds:List Deferred}{i:Array Oper}{Q:Exit->Act->World->Prop}{K:Env->Z->Prop}{w0:World}{G0:aW}{H0:Z}{a0:Act}{az:List Nat}{rest:List Oper} :
  ∀ (l:List Oper) (al:List cb) (env:Env) (H:Z) (G:aW) (w:World) (a:Act),iI C i l al=acI->i7 (ai C) al env H K->c9 C w G H->Rel C.F w G H->be C.F w G env a.tmps->a.defers=ds ->
   Step w0 G0 H0 w G H->dU az a0 a->(∀t,t∈hd al->t∈az) ->
   (∀aP H' G' a' w',K aP H'->c9 C w' G' H'->Rel C.F w' G' H'->be C.F w' G' aP a'.tmps->a'.defers=ds->Step w0 G0 H0 w' G' H'->dU az a0 a'->wpList C.P i Q rest a' w') ->
   wpList C.P i Q (l++rest) a w:=by
 intro l;induction l with
 | nil=>
  intro al env H G w a m h hG n he p q hk _ hQ;cases al with
  |nil=>exact hQ env H G a w h hG n he p q hk
  |cons _ _=>simp[iI]at m
 | cons o l z=>
  intro al env H G w a m h hG n he p q hk J hQ;cases al with
  |nil=>simp[iI]at m
  | cons ao al=>
   simp only[iI,aar,bZ]at m;obtain⟨⟨⟨u,R⟩,e⟩,A⟩:=m;have B:∀t,t∈hd al->t∈az:=λt ht=>J t (by simp[hd,ht]);have D:∀t,t∈o.dst.toList->t∈az:=λt ht=>J t (by rw[u]at ht;simp[hd];left;simpa using ht);have step:∀(x:Env)(M:Act),M=a->be C.F w G x a.tmps->cy (ai C) x H (λv H'=>i7 (ai C) al (cm x ao.dst v) H' K) ao.op->o.wp C.P a w (wpList C.P i Q (l++rest)) Q:=by intro x M _ L S;refine Oper.EE (Eu hF R hG n L S) λa' w' T=>?_;obtain⟨v,H',G',V,rfl,N,hv,r,hs⟩:=T;rw[<-u]at N;exact z al _ H' G' w' _ A N (hG.step hs) r ((L.mono hs.toGLe).cm o.dst hv) (by rw[put_defers];exact p) (q.trans hs) (hk.trans ((dU.put a o.dst V).mono D)) B hQ
   cases k:o.guard with
   | none=>
    rw[k]at e;have f:ao.guard=acL:=by
     cases f:ao.guard with
     |none=>rfl
     |some _=>rw[f]at e;simp[lD]at e
    simp only[i7,f]at h;exact Pc k (step env a rfl he h)
   | some g=>
    obtain⟨j,want⟩:=g;rw[k]at e;cases f:ao.guard with
    |none=>rw[f]at e;simp[lD]at e
    | some W=>
     obtain⟨s,Y⟩:=W;rw[f]at e;simp only[lD,aar,bZ]at e;obtain⟨rfl,hs⟩:=e;simp only[i7,f]at h;have get:∀c,env.getD s .bot=c->c ≠ .bot->env[s]?=acK c:=by
      intro c d hc;rw[abD]at d;cases O:env[s]? with
      |none=>rw[O]at d;exact absurd d.symm hc
      |some c=>rw[O]at d;simp at d;rw[d]
     unfold aF at h;split at h
     . rename_i b d;have U:=get _ d (by simp);obtain⟨V,E,r⟩:=he.get U;obtain rfl:=r.kL;have y:yielded i a.tmps j=acK b:=by simp[yielded,hs,E]
       by_cases I:b=want
       . subst I;rw[ab rfl]at h;rw[abZ];unfold wpList;rw[ab (by simp[acx,k,y])];exact .inl (step _ a rfl (he.same U) h)
       . rw[af I]at h;have X:b=!want:=by cases b<;>cases want<;>simp at I ⊢
         subst X;rw[abZ];unfold wpList;rw[af (by simp[acx,k,y])];rw[<-u]at h;exact z al _ H G w _ A h hG n ((he.same U).cm o.dst tx) (by rw[put_defers];exact p) q (hk.trans ((dU.put a o.dst undef).mono D)) B hQ
     . rename_i d;have U:=get _ d (by simp);obtain⟨V,E,r⟩:=he.get U;obtain rfl:=r.D5;have y:yielded i a.tmps j=acL:=by simp[yielded,hs,E]
       rw[abZ];unfold wpList;rw[af (by simp[acx,k,y])];rw[<-u]at h;exact z al _ H G w _ A h hG n ((he.same U).cm o.dst tx) (by rw[put_defers];exact p) q (hk.trans ((dU.put a o.dst undef).mono D)) B hQ
     ·exact h.elim
theorem tN(hF:gI C){ds:List Deferred}{b:Array Oper}{Q:Exit->Act->World->Prop}{K:Env->Z->Prop}{w0:World}{G0:aW}{H0:Z}{a0:Act}{az:List Nat}
  (l:List Oper) (al:List cb) (env:Env) (H:Z) (G:aW) (w:World) (a:Act) (c:iI C b l al=acI) (h:i7 (ai C) al env H K) (hG:c9 C w G H) (d:Rel C.F w G H) (he:be C.F w G env a.tmps) (e:a.defers=ds)
   (f:Step w0 G0 H0 w G H) (hk:dU az a0 a) (g:∀t,t∈hd al->t∈az)
   (hQ:∀aP H' G' a' w',K aP H'->c9 C w' G' H'->Rel C.F w' G' H'->be C.F w' G' aP a'.tmps->a'.defers=ds->Step w0 G0 H0 w' G' H'->dU az a0 a'->Q .normal a' w') :
   wpList C.P b Q l a w:=by
 have:=EF (rest:=[]) hF l al env H G w a c h hG d he e f hk g hQ;rwa [List.append_nil]at this
theorem Pe{b:Array Oper}:∀{l:List Oper}{al:List cb},iI C b l al=acI->l.length=al.length/\∀(i:Nat)(o:Oper),l[i]?=acK o->∃ao,al[i]?=acK ao/\o.dst=ao.dst/\dO C o.op ao.op=acI/\lD b o.guard ao.guard=acI:=by
 intro l;induction l with
 |nil=>intro al h;cases al<;>simp[iI]at h ⊢
 | cons o l c=>
  intro al h;cases al with
  |nil=>simp[iI]at h
  | cons ao al=>
   simp only[iI,aar,bZ]at h;obtain⟨⟨⟨d,e⟩,f⟩,g⟩:=h;obtain⟨h1,j⟩:=c g;refine⟨by simp[h1],λi k a=>?_⟩;cases i with
   |zero=>simp at a;subst a;exact⟨ao,rfl,d,e,f⟩
   |succ i=>exact j i k (by simpa using a)
theorem EG:∀{al:List cb}{i:Nat},al[i]?=acK ao->∀t,ao.dst=acK t->t∈hd al:=by
 intro al;induction al with
 |nil=>intro i h;simp at h
 | cons x al a=>
  intro i h t ht;cases i with
  |zero=>simp at h;subst h;simp[hd,ht]
  |succ i=>simp only[hd,acf];exact .inr (a (by simpa using h) t ht)
theorem Pf(hF:gI C){f:Array Oper}{Q:Exit->Act->World->Prop}{N:Act->World->Prop}{q:aa}{o:Oper}(y:f[i]?=acK o)(t:o.dst=ao.dst)(z:dO C o.op ao.op=acI)
  (d:lD f o.guard ao.guard=acI) (h:ja (ai C) ao env H q) (hG:c9 C w G H) (u:Rel C.F w G H) (he:be C.F w G env a.tmps)
  (hN:∀v V H' G' w',q v H'->c9 C w' G' H'->VR C.F w' G' v V->Rel C.F w' G' H'->Step w G H w' G' H'->N (a.put ao.dst V) w'):wpOp C.P f Q i N a w:=by
 unfold wpOp;rw[y];dsimp only;have step:cy (ai C) env H q ao.op->o.wp C.P a w N Q:=by intro A;refine Oper.EE (Eu hF z hG u he A) λa' w' B=>?_;obtain⟨v,H',G',V,rfl,D,hv,k,hs⟩:=B;rw[t];exact hN v V H' G' w' D (hG.step hs) hv k hs
 unfold ja at h;cases m:o.guard with
 | none=>
  rw[m]at d;have l:ao.guard=acL:=by
   cases l:ao.guard with
   |none=>rfl
   |some _=>rw[l]at d;simp[lD]at d
  rw[l]at h;rw[ab (by simp[acx,m])];exact .inl (step h)
 | some g=>
  obtain⟨j,want⟩:=g;rw[m]at d;cases l:ao.guard with
  |none=>rw[l]at d;simp[lD]at d
  | some E=>
   obtain⟨s,J⟩:=E;rw[l]at d;simp only[lD,aar,bZ]at d;obtain⟨rfl,hs⟩:=d;rw[l]at h;dsimp only at h;obtain⟨b,e,h⟩:=h;have get:∀c,env.getD s .bot=c->c ≠ .bot->env[s]?=acK c:=by
    intro c e hc;rw[abD]at e;cases x:env[s]? with
    |none=>rw[x]at e;exact absurd e.symm hc
    |some c=>rw[x]at e;simp at e;rw[e]
   cases b with
   | true=>
    have U:=get _ (I.zK e) (by simp);obtain⟨V,n,k⟩:=he.get U;obtain rfl:=k.kL;have p:yielded f a.tmps j=acK want:=by simp[yielded,hs,n]
    rw[ab rfl]at h;rw[ab (by simp[acx,m,p])];exact .inl (step h)
   | false=>
    rw[ka]at h;have hw:acx o (yielded f a.tmps)=acJ:=by
     rcases I.DZ e with r|r
     . have U:=get _ r (by simp);obtain⟨V,n,k⟩:=he.get U;obtain rfl:=k.kL;have p:yielded f a.tmps j=acK (!want):=by simp[yielded,hs,n]
       simp[acx,m,p]
     . have U:=get _ r (by simp);obtain⟨V,n,k⟩:=he.get U;obtain rfl:=k.D5;have p:yielded f a.tmps j=acL:=by simp[yielded,hs,n]
       simp[acx,m,p]
    rw[af (by simp[hw]),t];exact hN _ _ H G w h hG tx u (Step.refl _ _ _)
theorem Pg{p a:Nat->Bool}:∀{l:List Nat},(∀x,a x=acI->p x=acI)->(∃x∈l,p x=acI/\a x=acJ)->l.countP a<l.countP p:=by
 have le:∀{l:List Nat},(∀x,a x=acI->p x=acI)->l.countP a<=l.countP p:=λ{l} h=>List.countP_mono_left λx _=>h x;intro l;induction l with
 |nil=>rintro _ ⟨x,b,_⟩;cases b
 | cons y l e=>
  intro h ⟨x,b,h1,d⟩;rw[acy,acy];rcases aco.1 b with rfl|b
  . rw[h1,d];have:=le (l:=l) h;simp;omega
  . have:=e h ⟨x,b,h1,d⟩;by_cases c:a y=acI
    ·rw[c,h y c];omega
    . simp at c;rw[c];simp;omega
theorem Step.drawn{w:World}{G:aW}{H:Z}{n:Nat}(hn:w.drawn<=n)(h:Rel F w G H):Rel F {w with drawn:=n} G H/\Step w G H {w with drawn:=n} G H:=by
 have a:GLe w G {w with drawn:=n} G:=⟨hb _,λ_ _=>rfl,λ_ _=>rfl,λ_ _ h=>h,λ_ _ _ _ h=>h⟩
 exact ⟨⟨h.n,h.over,λj=>(h.obj j).bh a (λhl=>h.hX hl) (λ_=>rfl) λhl k hf=>hf,h.gz,h.e_⟩,
   {a with size:=hb _,os:=rfl,tape:=rfl,output:=rfl,dr:=hn,d_:=λ_ _ _=>rfl,owned:=λi hi _=>⟨i,hi,rfl⟩,ff:=λ_ _ h=> .inl h}⟩
def fa(al:List cb)(Pd:List Nat)(env:Env):Env:=(aa_ env.length).map λj=>if Pd.any (λp=>ef al p==acK j)then .bot else env.getD j .bot
theorem kP(al:List cb)(Pd:List Nat)(env:Env)(t:Nat):(fa al Pd env).getD t .bot=if Pd.any (λp=>ef al p==acK t)then .bot else env.getD t .bot:=by
 unfold fa;by_cases ht:t<env.length
 ·simp[abD,ht]
 . have h1:env.getD t .bot = .bot:=by simp[abD,acg (aci ht)]
   rw[h1];simp[abD,ht]
def o4:e2->cx
 | .alloc _ zero=> .row zero
 |_=> .gone
def o5(_:e2)(i:Nat):I:= .ptr i 0
def tO(_:e2)(b:Nat):Value:= .pointer (acK ⟨b,0,acL⟩)
def o6(F:dE)(w:World)(G:aW):e2->Nat->Nat->Prop
 | .alloc _ zero,b,cap=>∃(a:Array Value) (e:TypeId),w.heap[b]?=acK (.cells a e (0,0))/\a.size=cap/\be F w G zero a
 |_,_,_=>False
theorem EH(a:mS op)(h:o6 F w G op b cap):b<w.heap.size:=by obtain⟨zero,rfl⟩:=a;obtain⟨_,_,h,_⟩:=h;exact(aa5.1 h).1
theorem EI(a:mS op)(h:o6 F w G op b cap)(c:GLe w G w' G')(U:w'.heap[b]?=w.heap[b]?):o6 F w' G' op b cap:=by obtain⟨zero,rfl⟩:=a;obtain⟨d,e,h1,f,g⟩:=h;exact⟨d,e,U.trans h1,f,g.mono c⟩
theorem Ph(a:mS op)(h:o6 F w G op b cap)(d:GLe w G w G')(hl:G'.loc i=b)(hc:G'.cap i=cap)(hf:∀j,¬G'.fz b j):gy F w G' i (o4 op):=by
 obtain⟨zero,rfl⟩:=a;obtain⟨f,e,h1,g,k⟩:=h;exact ⟨f,e,by rw[hl];exact h1,by rw[hc];exact g,λj=>by rw[hl];exact hf j,λj c l=>by obtain⟨V,m,n⟩:=k.get l;exact⟨V,m,n.mono d⟩⟩
theorem Pj(a:mS op)(hi:i<G.n)(hl:G.loc i=b):VR F w G (o5 op i) (tO op b):=by subst hl;exact .ptr i 0 hi
theorem Pk{Φ:ad}{env:Env}{K:aa}(a:mS op):cy Φ env H K op↔K (o5 op H.n) (H.push (o4 op)):=by
 obtain⟨zero,rfl⟩:=a;simp only[cy,bs,bQ,bc,aaC.injEq,ab7.injEq,o5,o4];constructor
 ·rintro⟨v,H',⟨rfl,rfl⟩,h⟩;exact h
 ·intro h;exact⟨_,_,⟨rfl,rfl⟩,h⟩
def tP(C:Ctx)(al:List cb)(w0 w:World)(G:aW)(H:Z)(a:Act)(i b:Nat):Prop:=
 ∃ (t:Nat) (op:e2) (cap:Nat),al[i]?=acK ⟨acK t,op,acL⟩/\mS op/\(t<a.tmps.size->a.tmps[t]?=acK (tO op b))/\o6 C.F w G op b cap /\
  w0.heap.size<=b/\(∀k,(H.o k).live=acI->G.loc k≠b)/\∀j,¬G.fz b j
theorem tP.step(h:tP C al w0 w G H a i b)(hs:Step w G H w' G' H')(d:Option Tmp)(V:Value)(n:∀t,ef al i=acK t->d≠acK t):tP C al w0 w' G' H' (a.put d V) i b:=by
 obtain⟨t,op,cap,h1,c,l,m,o,f,p⟩:=h;have U:b<w.heap.size:=EH c m;refine⟨t,op,cap,h1,c,λht=>?_,EI c m hs.toGLe (hs.d_ b U f),o,λk hk e=>?_,λj hf=>?_⟩
 . cases g:d with
   |none=>rw[g]at ht;exact l ht
   | some q=>rw[g]at ht;have r:q≠t:=λe=>n t (by simp[ef,h1]) (by rw[g,e]);simp only[acw]at ht ⊢;rw[acz]at ht;rw[acA r];exact l ht
 . obtain⟨j,s,u⟩:=hs.owned k hk (by rw[e];exact U);exact f j s (u.trans e)
 . rcases hs.ff b j hf with hf|v|⟨k,hk,e⟩
   ·exact p j hf
   ·omega
   ·exact f k hk e
structure Way(C:Ctx)(al:List cb)(pr:List (List Nat))(last:List Nat)(K:Env->Z->Prop)(w0:World)(G0:aW)(H0:Z)(a0:Act)
  (bT:List (List Nat×Nat×List Nat)) (S:Nat->Bool) (Pd:List Nat) (bl:Nat->Nat) (env:Env) (H:Z) (G:aW) (a:Act) (w:World):Prop where
 inv:Inv (ai C) al pr last K bT S env H
 sep:∀p∈Pd,S p=acJ/\jb al p=acI/\∀k∈cJ pr p,S k=acI\/k∈Pd
 qH:∀p∈Pd,tP C al w0 w G H a p (bl p)
 inj:∀p∈Pd,∀q∈Pd,bl p=bl q->p=q
 o7:c9 C w G H
 rel:Rel C.F w G H
 qI:be C.F w G (fa al Pd env) a.tmps
 defers:a.defers=[]
 step:Step w0 G0 H0 w G H
 bh:dU (hd al) a0 a
theorem Way.settle{pr:List (List Nat)}{x:List Nat}{K:Env->Z->Prop}{w0:World}{G0:aW}{H0:Z}{a0:Act}(L:Good al pr){bl:Nat->Nat} :
  ∀ (n:Nat) (bT:List (List Nat×Nat×List Nat)) (S:Nat->Bool) (Pd:List Nat) (env:Env) (H:Z) (G:aW),bT.length=n->Way C al pr x K w0 G0 H0 a0 bT S Pd bl env H G a w ->
   ∃u S' r aP H' G',Way C al pr x K w0 G0 H0 a0 u S' r bl aP H' G' a w/\(∀k,(S' k=acI\/k∈r)↔(S k=acI\/k∈Pd))/\∀p∈r,g_ u≠acK p:=by
 intro n;induction n with
 | zero=>intro bT S Pd env H G hn hw;have:bT=[]:=abF.1 hn;subst this;exact⟨[],S,Pd,env,H,G,hw,λk=>ach,λp hp h=>by cases h⟩
 | succ n W =>
  intro bT S Pd env H G hn hw;by_cases M:∃p∈Pd,g_ bT=acK p
  . obtain ⟨p, hp,y⟩:=M;obtain⟨X,aC,Y⟩:=hw.sep p hp;obtain⟨_,aD,aa⟩:=Ae hw.inv y;have ac:∀k∈cJ pr p,S k=acI:=by
     intro k hk;rcases Y k hk with h|h
     ·exact h
     ·exact aa k hk (hw.sep k h).2.1
    obtain⟨t,op,cap,h1,z,ad,ae,aE,ag,N⟩:=hw.qH p hp;have A:=ED (tB C) L hw.inv h1 X ac (.inr y);rw[ab y]at A;simp only[kK]at A;have hinv:=(Pk z).1 A;have B:=hw.rel.n;obtain⟨l,ah⟩:=hw.rel.qA (b:=bl p) (c:=cap) ag (o4 op) (λl=>Ph z ae l (ab B.symm) (ab B.symm) N);have O:∀i,i≠H.n->(G.more (bl p) cap).loc i=G.loc i:=λi hi=>af (show ¬i=G.n by omega);have D:(G.more (bl p) cap).loc H.n=bl p:=ab B.symm;have P:∀i,i≠H.n->(H.push (o4 op)).o i=H.o i:=λi hi=>af hi;have Q:ef al p=acK t:=by simp[ef,h1]
    have hlen:(fa al Pd env).length=env.length:=by simp[fa]
    have ai : Way C al pr x K w0 G0 H0 a0 bT.tail (λk=>k==p||S k) (Pd.filter (λq=>!(q==p))) bl (cm env (acK t) (o5 op H.n)) (H.push (o4 op)) (G.more (bl p) cap) a w:=by
     refine⟨hinv,λq d=>?_,λq d=>?_,λq d aj ak h=>?_,hw.o7.qA l hw.rel.n N,ah,?_,hw.defers,?_,hw.bh⟩
     . obtain ⟨d,E⟩:=acB.1 d;have F:q≠p:=by simpa using E
       obtain⟨g1,g2,g3⟩:=hw.sep q d;refine⟨by simp[F,g1],g2,λk hk=>?_⟩;rcases g3 k hk with h|h
       ·left;simp[h]
       . by_cases s:k=p
         ·left;simp[s]
         ·right;exact acB.2 ⟨h,by simp[s]⟩
     . obtain ⟨d,E⟩:=acB.1 d;have F:q≠p:=by simpa using E
       obtain⟨am,an,ao,k1,R,k2,ap,aq,ar,au⟩:=hw.qH q d;refine⟨am,an,ao,k1,R,k2,EI R ap l rfl,aq,λk hk e=>?_,λj hf=>au j hf⟩;by_cases f:k=H.n
       . subst f;rw[D]at e;exact F (hw.inj q d p hp e.symm)
       . rw[O k f]at e;rw[P k f]at hk;exact ar k hk e
     ·exact hw.inj q (acB.1 d).1 aj (acB.1 ak).1 h
     . have hv :=hw.qI.mono l;refine⟨by simp only[fa,cm,abI,List.length_range,acn];rw[<-hv.1,hlen],λj c V hc v=>?_⟩;have T:j<env.length:=by
        have:=(aal.1 hc).1;simpa[fa,cm]using this
       have m:c=(fa al (Pd.filter (λq=>!(q==p))) (cm env (acK t) (o5 op H.n))).getD j .bot:=by rw[abD,hc];rfl
       rw[kP]at m;by_cases I:j=t
       . subst I;have av:(Pd.filter (λq=>!(q==p))).any (λq=>ef al q==acK j)=acJ:=by
          rw[acC];intro U;rw[acj]at U;obtain⟨q,d,g⟩:=U;have aw:ef al q=acK j:=by simpa using g
          have:=L.uniq q p j aw Q;subst this;simp at d
         rw[av]at m;simp only[abW,b4,cm,abD,abd T,abE]at m;subst m;have ax:j<a.tmps.size:=(aa5.1 v).1;rw[ad ax]at v;cases v;exact Pj z (show H.n<G.n+1 by omega) D
       . have hold:(fa al Pd env).getD j .bot=if(Pd.filter (λq=>!(q==p))).any (λq=>ef al q==acK j)then .bot else env.getD j .bot:=by
           rw[kP];have : Pd.any (λq=>ef al q==acK j)=(Pd.filter (λq=>!(q==p))).any (λq=>ef al q==acK j):=by
            rw[acm,acj,acj];constructor
            . rintro⟨q,d,g⟩;refine⟨q,acB.2 ⟨d,?_⟩,g⟩;have:q≠p:=by
               rintro rfl;rw[Q]at g;exact I (by simpa using g:t=j).symm
              simp[this]
            . rintro⟨q,d,g⟩;exact⟨q,(acB.1 d).1,g⟩
           rw[this]
         have ay:(cm env (acK t) (o5 op H.n)).getD j .bot=env.getD j .bot:=by simp only[cm];rw[abD,abe (λe=>I e.symm),abD]
         rw[ay,<-hold]at m;have az:j<(fa al Pd env).length:=by rw[hlen];exact T
         refine hv.2 j c V ?_ v;rw[m,abD,abb az];rfl
     . have hs:=hw.step;refine {hs.toGLe.trans l with size:=hs.size,os:=hs.os,tape:=hs.tape,output:=hs.output,dr:=hs.dr,d_:=hs.d_,owned:=λk hk J=>?_,ff:=λb o hf=>hs.ff b o hf};by_cases f:k=H.n
       . subst f;rw[D]at J;omega
       . rw[O k f]at J ⊢;rw[P k f]at hk;exact hs.owned k hk J
    obtain⟨u,S',r,aP,H',G',r1,aA,aB⟩:=W bT.tail _ _ _ _ _ (by simp[hn]) ai;refine⟨u,S',r,aP,H',G',r1,λk=>(aA k).trans ?_,aB⟩;simp only[aas,bZ,acB,ab_,beq_eq_false_iff_ne];constructor
    . rintro((rfl|h)|⟨h,_⟩)
      ·exact .inr hp
      ·exact .inl h
      ·exact .inr h
    . rintro (h|h)
      ·exact .inl (.inr h)
      . by_cases s:k=p
        ·exact .inl (.inl s)
        ·exact .inr ⟨h,s⟩
  ·exact⟨bT,S,Pd,env,H,G,hw,λk=>ach,λp hp h=>M ⟨p,hp,h⟩⟩
theorem EJ(hF:gI C){b:Array Oper}{Q:Exit->Act->World->Prop}{K:Env->Z->Prop}{al:List cb}{pr:List (List Nat)}{bT:List (List Nat×Nat×List Nat)}{ad:List Nat}
  (a9:iI C b b.toList al=acI) (ar:tK b pr=acI) (aR:tG al pr bT ad=acI) (hm:C.P.follows .mixedOrders=acI)
  (h:jO (ai C) al ad bT env H K) (hG:c9 C w G H) (a_:Rel C.F w G H) (he:be C.F w G env a.tmps) (ba:a.defers=[])
  (hQ:∀aP H' G' a' w',K aP H'->c9 C w' G' H'->Rel C.F w' G' H'->be C.F w' G' aP a'.tmps->a'.defers=[]->Step w G H w' G' H'->dU (hd al) a a'->Q .normal a' w') :
  wpAny C.P acD b Q b.size (acE b.size acJ) a {w with drawn:=w.drawn+1}:=by
 obtain⟨hlen,bb⟩:=Pe a9;have bM:b.size=al.length:=by simpa using hlen
 simp only[tG,aar]at aR;obtain⟨⟨ha,U⟩,hc⟩:=aR;have n:=O8 ha;have aS:∀(i:Nat)(o:Oper),b[i]?=acK o->(∀e∈o.after,acu .any e=acI->e.on<i)/\∀j∈cJ pr i,∃e∈o.after,acu .any e=acI/\(e.on=j\/j∈cJ pr e.on):=by
  intro i o g;have hi:i<b.size:=(aa5.1 g).1;unfold tK at ar;rw[abh]at ar;have:=ar i (ack.2 hi);rw[g]at this;simp only[aar]at this;obtain⟨h1,f⟩:=this;rw[abh]at h1 f;refine⟨λe l U=>?_,λj ae=>?_⟩
  . have:=h1 e.on (acF.2 ⟨e,acB.2 ⟨by simpa using l,U⟩,rfl⟩);simpa using this
  . have:=f j ae;rw[aas,acj]at this;rcases this with h|⟨k,hk,h⟩
    . have ag:j∈(o.after.toList.filter (acu .any)).map acv:=by simpa[List.contains_iff_mem]using h
      obtain⟨e,l,rfl⟩:=acF.1 ag;obtain⟨l,J⟩:=acB.1 l;exact⟨e,by simpa using l,J,.inl rfl⟩
    . obtain⟨e,l,rfl⟩:=acF.1 hk;obtain⟨l,J⟩:=acB.1 l;exact⟨e,by simpa using l,J,.inr (by simpa using h)⟩
 have main : ∀ (fuel:Nat) (listed:Array Bool) (bT:List (List Nat×Nat×List Nat)) (S:Nat->Bool) (Pd:List Nat) (bl:Nat->Nat) (aP:Env) (H':Z) (G':aW) (a':Act) (w':World),
   Way C al pr ad K w G H a bT S Pd bl aP H' G' a' w'->(∀k,listed.getD k acJ=acI↔S k=acI\/k∈Pd)->listed.size=b.size ->
   (aa_ b.size).countP (λk=>!listed.getD k acJ)<=fuel->wpAny C.P .any b Q fuel listed a' w':=by
  have done:∀(listed:Array Bool),listed.size=b.size->acG .any b listed=[]->∀i,i<b.size->listed.getD i acJ=acI:=by
   intro listed X au i;induction i using Nat.strongRecOn with
   | _ i ah=>
    intro hi;cases d:listed.getD i acJ with
    |true=>rfl
    | false=>
     exfalso;have ag:i∈acG .any b listed:=by
      rw[mem_ready];have Y:i<listed.size:=by omega
      refine⟨?_,b[i],by simp[hi],λe l J=>?_⟩
      ·simpa[Y]using d
      . have:=(aS i b[i] (by simp[hi])).1 e l J;exact ah e.on this (by omega)
     rw[au]at ag;cases ag
  have fin:∀(listed:Array Bool)(bT:List (List Nat×Nat×List Nat)) (S:Nat->Bool) (Pd:List Nat) (bl:Nat->Nat) (aP:Env) (H':Z) (G':aW) (a':Act) (w':World),
    Way C al pr ad K w G H a bT S Pd bl aP H' G' a' w'->(∀k,listed.getD k acJ=acI↔S k=acI\/k∈Pd)->(∀i,i<b.size->listed.getD i acJ=acI)->Q .normal a' w':=by
   intro listed bT S Pd bl aP H' G' a' w' hw m L;obtain⟨aT,S',av,aw,H2,M,r1,aj,bd⟩:=hw.settle n _ _ _ _ _ _ _ rfl;have ax:av=[]:=by
    cases ax:av with
    |nil=>rfl
    | cons p r=>
     exfalso;have hp:p∈av:=by rw[ax];exact acs
     cases d:g_ aT with
     | none=>
      obtain⟨e0,e1,D,es,hl,hm,bN,hS,hf,aU,bO,ay,bP⟩:=r1.inv;cases aT with
      |cons q r=>cases d
      | nil=>
       simp only[jc]at ay;rw[abh]at ay;obtain⟨g1,g2,_⟩:=r1.sep p hp;obtain⟨t,op,hz,ak⟩:=tD g2;have bf:p<al.length:=(aal.1 hz).1;have bg:p∈D:=by simpa using ay p (ack.2 bf)
       obtain⟨o,v,g,u,_⟩:=hf p bg g1;rw[hz]at g;cases g;exact Ab ak u
     | some e=>
      obtain⟨g1,g2,_⟩:=Ae r1.inv d;have:=L e (by omega);rcases(aj e).2 ((m e).1 this)with h|h
      ·rw[g1]at h;cases h
      ·exact bd e h d
   subst ax;have bi:∀i,i<al.length->S' i=acI:=by
    intro i hi;rcases(aj i).2 ((m i).1 (L i (by omega)))with h|h
    ·exact h
    ·cases h
   have az:fa al [] aw=aw:=by apply nL (by simp[fa]);intro t _;rw[kP];rfl
   have hv:=r1.qI;rw[az]at hv;exact hQ aw H2 M a' w' (Pa r1.inv bi) r1.o7 r1.rel hv r1.defers r1.step r1.bh
  intro fuel;induction fuel with
  | zero=>
   intro listed bT S Pd bl aP H' G' a' w' hw m X aA;have L:∀i,i<b.size->listed.getD i acJ=acI:=by intro i hi;have A:=Nat.le_zero.1 aA;rw[List.countP_eq_zero]at A;simpa using A i (ack.2 hi)
   have aB:acG .any b listed=[]:=by
    apply List.eq_nil_iff_forall_not_mem.2;intro i hi;obtain⟨A,o,g,_⟩:=mem_ready.1 hi;have Y:i<b.size:=(aa5.1 g).1;have:=L i Y;have O:i<listed.size:=by omega
    simp[O]at A this;rw[A]at this;cases this
   exact⟨aB,fin listed bT S Pd bl aP H' G' a' w' hw m L⟩
  | succ fuel ah=>
   intro listed bj bk bm bl bn bo bp a' w' aV aX X aA;refine⟨λaB=>fin listed bj bk bm bl bn bo bp a' w' aV aX λi hi=>done listed X aB i hi,λi hi=>?_⟩;obtain⟨bT,S,Pd,aP,H',G',hw,aj,aY⟩:=aV.settle n _ _ _ _ _ _ _ rfl;have m:∀k,listed.getD k acJ=acI↔S k=acI\/k∈Pd:=λk=>(aX k).trans (aj k).symm;obtain⟨A,o,g,L⟩:=mem_ready.1 hi;have Y:i<b.size:=(aa5.1 g).1;have O:i<listed.size:=by omega
   have aC:listed.getD i acJ=acJ:=by simpa[O]using A
   have am:S i=acJ:=by
    cases d:S i with
    |false=>rfl
    |true=>have:=(m i).2 (.inl d);rw[aC]at this;cases this
   have R:i∉Pd:=λd=>by have:=(m i).2 (.inr d);rw[aC]at this;cases this
   obtain⟨ao,N,aZ,u,aD⟩:=bb i o (by simpa using g);have aa:ef al i=ao.dst:=by simp[ef,N]
   obtain⟨aU,bq⟩:=Pb n hw.inv;have br:∀k,listed.getD k acJ=acI->∀j∈cJ pr k,listed.getD j acJ=acI:=by
    intro k hk j ae;rw[m]at hk ⊢;rcases hk with hk|hk
    ·exact .inl (aU k hk j ae)
    ·exact(hw.sep k hk).2.2 j ae
   have aE:∀k∈cJ pr i,listed.getD k acJ=acI:=by
    intro k hk;obtain⟨e,l,J,aF⟩:=(aS i o g).2 k hk;have:=L e l J;rcases aF with rfl|aF
    ·exact this
    ·exact br e.on this k aF
   have a0:∀k,(listed.setIfInBounds i acI).getD k acJ=acI↔k=i\/listed.getD k acJ=acI:=by
    intro k;by_cases aG:k=i
    ·subst aG;simp[O]
    ·rw[getD_set_ne acJ (λe=>aG e.symm)];simp[aG]
   have a1:(aa_ b.size).countP (λk=>!(listed.setIfInBounds i acI).getD k acJ)<=fuel:=by
    refine Nat.lt_succ_iff.1 (xl (Pg (λx d=>?_) ⟨i,ack.2 Y,by rw[aC];rfl,by simp[O]⟩) aA);by_cases a2:x=i
    ·subst a2;simp[O]at d
    ·rw[getD_set_ne acJ (λe=>a2 e.symm)]at d;exact d
   by_cases a3:jb al i=acI/\g_ bT≠acK i
   ·
     obtain⟨B,bQ⟩:=a3;obtain⟨t,op,hz,ak⟩:=tD B;rw[N]at hz;cases hz;unfold wpOp;rw[g];dsimp only;have aH:o.guard=acL:=by
      cases aH:o.guard with
      |none=>rfl
      |some _=>rw[aH]at aD;simp[lD]at aD
     rw[ab (by simp[acx,aH])];refine .inl ?_;obtain ⟨an,cap,bs,hblk⟩:∃(an:Obj) (cap:Nat),(execOp a'.eval o).run C.P w' = .ok (.value (tO op w'.heap.size)) (w'.alloc an)/\∀(w2:World)(M:aW),GLe w' G' w2 M->w2.heap[w'.heap.size]?=acK an->o6 C.F w2 M op w'.heap.size cap:=by
      obtain⟨zero,rfl⟩:=ak;simp only[dO]at u;split at u
      . rename_i ty bt;split at u
        . rename_i inf bu;split at u
          . rename_i z bv;have bw:=mQ (C:=C) (w:=w') (G:=G') u;have bx:be C.F w' G' zero z.cells:=by simpa using bw
            refine⟨.cells z.cells ty,z.cells.size,?_,λw2 M n U=>⟨_,_,U,rfl,bx.mono n⟩⟩;have au:(abm ty acI (.tuple #[])).run C.P w' = .ok (.pointer (acK ⟨w'.heap.size,0,acL⟩)) (w'.alloc (.cells z.cells ty)):=by simp[abm,zeroValue,typeInfo,bu,bv,newVar,newRow]
            simp[execOp,bt,au,tO]
          ·cases u
        ·cases u
      ·cases u
     refine z8 bs ?_;have hp:=eb.alloc w' an;obtain⟨bz,E⟩:=hw.rel.OA hp;have bA:o.dst=acK t:=aZ;rw[bA];refine ah _ bT S (i::Pd) (λk=>if k=i then w'.heap.size else bl k) aP H' G' _ _ ⟨hw.inv,λp y=>?_,λp y=>?_,λp y q bB ap=>?_,hw.o7.step E,bz,?_,by rw[put_defers];exact hw.defers,hw.step.trans E,hw.bh.trans ((dU.put a' (acK t) _).mono λs hs=>EG N s (by simpa[eq_comm]using hs))⟩ ?_ (by simp[X]) a1
     . rcases aco.1 y with rfl|y
       . exact ⟨am,B,λk hk=>by
           rcases(m k).1 (aE k hk)with h|h
           ·exact .inl h
           ·exact .inr (acp _ h)⟩
       . obtain⟨g1,g2,g3⟩:=hw.sep p y;exact⟨g1,g2,λk hk=>(g3 k hk).imp id λh=>acp _ h⟩
     . rcases aco.1 y with rfl|y
       . rw [ab rfl];refine⟨t,op,cap,N,ak,λht=>?_,hblk _ _ E.toGLe hp.new,hw.step.size,λk hk=>aa6 ((hw.rel.obj k).lt hk),λj hf=>?_⟩
         . simp only[acw]at ht ⊢;rw[acz]at ht;simp[ht]
         . obtain⟨V,ac⟩:=hw.rel.e_ _ _ hf;have:=aa4 w' _ ac;simp at this
       . have T:p≠i:=λe=>R (e▸y);rw[af T];refine(hw.qH p y).step E (acK t) _ λs hs e=>?_;have bC:t=s:=aaC.inj e;subst bC;exact T (n.uniq p i t hs (by rw[aa]))
     . have a4:∀q∈Pd,bl q<w'.heap.size:=by
         intro q bD;obtain⟨_,_,_,_,A,_,bE,_⟩:=hw.qH q bD;exact EH A bE
       have a5:=aco.1 y;have a6:=aco.1 bB;by_cases h1:p=i<;>by_cases f:q=i
       ·rw[h1,f]
       . rw[ab h1,af f]at ap;have:=a4 q (a6.resolve_left f);omega
       . rw[af h1,ab f]at ap;have:=a4 p (a5.resolve_left h1);omega
       . rw[af h1,af f]at ap;exact hw.inj p (a5.resolve_left h1) q (a6.resolve_left f) ap
     . have hv:=hw.qI.mono E.toGLe;refine⟨by simpa[fa,acw]using hv.1,λj c V hc ac=>?_⟩;have bF:j<aP.length:=by
        have:=(aal.1 hc).1;simpa[fa]using this
       have W:c=(fa al (i::Pd) aP).getD j .bot:=by rw[abD,hc];rfl
       rw[kP]at W;by_cases aI:t=j
       . subst aI;have:(i::Pd).any (λq=>ef al q==acK t)=acI:=by simp[aa]
         rw[this]at W;simp only[bc]at W;subst W;exact .bot _
       . simp only[acw]at ac;rw[acA aI]at ac;have h1:(i::Pd).any (λq=>ef al q==acK j)=Pd.any (λq=>ef al q==acK j):=by
          rw[List.any_cons,aa];have:(acK t==acK j)=acJ:=by simpa using aI
          rw[this,acq]
         rw[h1,<-kP]at W;have bG:j<(fa al Pd aP).length:=by simpa[fa]using bF
         refine hv.2 j c V ?_ ac;rw[W,abD,abb bG];rfl
     . intro k;rw[a0 k,m k];simp only[aco];constructor
       . rintro(h|h|h)
         ·exact .inr (.inl h)
         ·exact .inl h
         ·exact .inr (.inr h)
       . rintro(h|h|h)
         ·exact .inr (.inl h)
         ·exact .inl h
         ·exact .inr (.inr h)
   . have B : jb al i=acJ\/g_ bT=acK i:=by
       by_cases h1:jb al i=acI
       . by_cases f:g_ bT=acK i
         ·exact .inr f
         ·exact absurd ⟨h1,f⟩ a3
       ·exact .inl (by simpa using h1)
     have a7:∀k∈cJ pr i,S k=acI:=by
      intro p hp;rcases(m p).1 (aE p hp)with h|h
      ·exact h
      . exfalso;obtain⟨g1,g2,_⟩:=hw.sep p h;rcases B with B|B
        . refine bq p g2 g1 (aY p h) i (by omega) am hp B λk hk=>?_;rcases(m k).1 (aE k hk)with I|I
          ·exact .inl I
          ·exact .inr ⟨(hw.sep k I).2.1,aY k I⟩
        . have:=(Ae hw.inv B).2.2 p hp g2;rw[g1]at this;cases this
     have aJ:=ED (tB C) n hw.inv N am a7 B;rw[tC]at aJ;have agree:∀t∈ke ao,aP.getD t .bot=(fa al Pd aP).getD t .bot:=by
      intro t ht;rw[kP];have : Pd.any (λp=>ef al p==acK t)=acJ:=by
       rw[acC];intro d;rw[acj]at d;obtain⟨p,hp,aK⟩:=d;have aL:ef al p=acK t:=by simpa using aK
       obtain⟨g1,g2,g3⟩:=hw.sep p hp;rcases n.reads i ao t p N ht aL with h|⟨_,h⟩
       ·have:=a7 p h;rw[g1]at this;cases this
       . rcases h with rfl|h
         ·exact R hp
         . rcases g3 i h with I|I
           ·rw[am]at I;cases I
           ·exact R I
      rw[this];rfl
     rw[Ex agree]at aJ;refine Pf hF g aZ u aD aJ hw.o7 hw.rel hw.qI ?_;intro v V H2 M w2 bH bI bJ bK E;refine ah _ _ (λk=>k==i||S k) Pd bl _ H2 M _ w2 ⟨bH,λp hp=>?_,λp hp=>?_,hw.inj,bI,bK,?_,by rw[put_defers];exact hw.defers,hw.step.trans E,hw.bh.trans ((dU.put a' ao.dst V).mono λs hs=>EG N s (by simpa[Option.mem_toList,eq_comm]using hs))⟩ ?_ (by simp[X]) a1
     . obtain⟨g1,g2,g3⟩:=hw.sep p hp;have T:p≠i:=λe=>R (e▸hp);exact⟨by simp[T,g1],g2,λk hk=>(g3 k hk).imp (λh=>by simp[h]) id⟩
     . have T:p≠i:=λe=>R (e▸hp);refine(hw.qH p hp).step E ao.dst V λs hs e=>?_;exact T (n.uniq p i s hs (by rw[aa,e]))
     . have hv :=hw.qI.mono E.toGLe;have a8:∀t,ao.dst=acK t->Pd.any (λp=>ef al p==acK t)=acJ:=by
        intro t ht;rw[acC];intro d;rw[acj]at d;obtain⟨p,hp,aK⟩:=d;have aL:ef al p=acK t:=by simpa using aK
        exact R ((n.uniq p i t aL (by rw[aa,ht]))▸hp)
       have bL : fa al Pd (cm aP ao.dst v)=cm (fa al Pd aP) ao.dst v:=by
        apply nL
        ·cases aM:ao.dst<;>simp[fa,cm]
        . intro s _;rw[kP];cases aM:ao.dst with
          |none=>simp only[cm];rw[kP]
          | some t=>
           simp only[cm];by_cases aN:t=s
           . subst aN;rw[a8 t aM];by_cases aq:t<aP.length
             . have aO:t<(fa al Pd aP).length:=by simpa[fa]using aq
               simp[abD,aq,aO]
             . have aO:¬t<(fa al Pd aP).length:=by simpa[fa]using aq
               rw[acH (aci aq),acH (aci aO),kP,a8 t aM]
           . have h1:(aP.set t v).getD s .bot=aP.getD s .bot:=by
               rw[abD,abe aN,abD]
             have f:((fa al Pd aP).set t v).getD s .bot=(fa al Pd aP).getD s .bot:=by rw[abD,abe aN,abD]
             rw[h1,f,kP]
       rw[bL];exact hv.cm ao.dst bJ
     . intro k;rw[a0 k,m k];simp only[aas,bZ];constructor
       . rintro(h|h|h)
         ·exact .inl (.inl h)
         ·exact .inl (.inr h)
         ·exact .inr h
       . rintro((h|h)|h)
         ·exact .inl h
         ·exact .inr (.inl h)
         ·exact .inr (.inr h)
 obtain⟨ez,aQ⟩:=Step.drawn (aa2 w.drawn) a_;refine main b.size (acE b.size acJ) bT (λ_=>acJ) [] (λ_=>0) env H G a _ ⟨O_ n U hc h,λp hp=>(by cases hp),λp hp=>(by cases hp),λp hp=>(by cases hp),hG.step aQ,ez,?_,ba,aQ,dU.refl _ _⟩ ?_ (by simp) ?_
 . have az:fa al [] env=env:=by
     apply nL (by simp[fa]);intro t _;rw[kP];rfl
   rw[az];exact he.mono aQ.toGLe
 . intro k;by_cases hk:k<b.size<;>simp[hk]
 ·exact sl (List.countP_le_length) (by simp)
theorem Pl(hF:gI C){b:Array Oper}{Q:Exit->Act->World->Prop}{K:Env->Z->Prop}{al:List cb}{pr:List (List Nat)}{bT:List (List Nat×Nat×List Nat)}{c:List Nat}{ch:Nat}
  (d:iI C b b.toList al=acI) (e:tK b pr=acI) (f:tG al pr bT c=acI) (hm:C.P.follows .mixedOrders=acI)
  (h:jO (ai C) al c bT env H K) (hG:c9 C w G H) (g:Rel C.F w G H) (he:be C.F w G env a.tmps) (i:a.defers=[])
  (hQ:∀aP H' G' a' w',K aP H'->c9 C w' G' H'->Rel C.F w' G' H'->be C.F w' G' aP a'.tmps->a'.defers=[]->Step w G H w' G' H'->dU (hd al) a a'->Q .normal a' w') :
  (Code.region ch b acI).wp C.P Q a w:=
 wp_region_any hm (EJ hF d e f hm h hG g he i hQ)
theorem Pm{o:Nat->cx}:∀{cells l:List I}{id:Nat},lh o cells=acK (l,id)->∃pre off len sz post cs,cells=pre ++ .row id off len sz::post/\l=pre ++ .aq .dead len ((cs.drop off).take (len*sz))::post/\o id = .row cs/\off+len*sz<=cs.length:=by
 intro cells;induction cells with
 |nil=>intro l id h;cases h
 | cons c r b=>
  intro l id h;unfold lh at h;split at h
  ·rename_i heq;cases heq
  . rename_i j off len sz d heq;cases heq;split at h
    . rename_i cs e;split at h
      . rename_i hle;cases h;exact⟨[],_,_,_,_,cs,rfl,rfl,e,hle⟩
      ·cases h
    ·cases h
  . rename_i c' d _ heq;cases heq;cases a:lh o r with
    |none=>rw[a]at h;cases h
    | some q=>obtain⟨k,m⟩:=q;rw[a]at h;cases h;obtain⟨pre,off,len,sz,post,cs,h1,f,g,i⟩:=b a;exact⟨c::pre,off,len,sz,post,cs,by rw[h1];rfl,by rw[f];rfl,g,i⟩
theorem Rel.Pn{H:Z}{id:Nat}{cs l:List I}(a:Rel F w G H)(b:H.o id = .row cs)(h:gy F w G id (.row l)):Rel F w G (H.set id (.row l)):=by
 have hl:∀i,((H.set id (.row l)).o i).live=acI->(H.o i).live=acI:=by
  intro i hi;simp only[Z.set]at hi;split at hi
  ·rename_i e;rw[e,b];rfl
  ·exact hi
 refine⟨a.n,λi hi=>?_,λi=>?_,λi j c hi d=>a.gz i j c (hl i hi) (hl j d),a.e_⟩
 . simp only[Z.set]at hi ⊢;split
   . rename_i e;have:=a.over i hi;rw[e,b]at this;cases this
   ·exact a.over i hi
 . simp only[Z.set];split
   ·rename_i e;rw[e];exact h
   ·exact a.obj i
theorem Po{x v:I}{X:Value}(f:Rel F w G H)(h:kG H x=acK (v,H'))(t:VR F w G x X):∃G',Rel F w G' H'/\Step w G H w G' H'/\VR F w G' v X:=by
 have key:∀(id:Nat)(cs:List I),H.o id = .row cs->∃G',Rel F w G' (H.set id .gone)/\Step w G H w G' (H.set id .gone) /\
   ∃Vs:Nat->Value,(∀(j:Nat)(c:I),cs[j]?=acK c->G'.fz (G.loc id) j/\w.cell? ⟨G.loc id,j,acL⟩=acK (Vs j))/\(∀(j:Nat)(c:I),cs[j]?=acK c->VR F w G' c (Vs j)):=by
  intro id cs r;have u:(H.o id).live=acI:=by rw[r];rfl
  have A:=f.hX u;have hk:=f.kill id (f.n▸A);have z:=f.obj id;rw[r]at z;have C:=z.tj;have D:GLe w G w (G.eA (G.loc id) 0 cs.length):=⟨hb _,λ_ _=>rfl,λ_ _=>rfl,λ_ _ hf=> .inl hf,λ_ _ _ _ hc=>hc⟩
  have L:∀j,((H.set id .gone).o j).live=acI->j≠id/\(H.o j).live=acI:=by
   intro j a;simp only[Z.set]at a;split at a
   ·cases a
   ·rename_i E;exact⟨E,a⟩
  refine⟨G.eA (G.loc id) 0 cs.length,⟨hk.1.n,hk.1.over,λj=>?_,hk.1.gz,λb o U=>?_⟩,?_,λj=>(w.cell? ⟨G.loc id,j,acL⟩).getD undef,λj c a=>?_,λj c a=>?_⟩
  . refine (hk.1.obj j).bh D (λhl=>hk.1.hX hl) (λ_=>rfl) λhl k hf=>?_;rcases hf with hf|⟨hf,_⟩
    ·exact hf
    . obtain⟨h1,s⟩:=L j hl;exact absurd hf (f.gz j id h1 s u)
  . rcases U with U|⟨rfl,_,B⟩
    ·exact f.e_ b o U
    . obtain⟨V,m,_⟩:=C o cs[o] (abb B);exact⟨V,by simpa using m⟩
  ·exact {D with size:=hb _,os:=rfl,tape:=rfl,output:=rfl,dr:=hb _,d_:=λ_ _ _=>rfl,owned:=λj hl _=>⟨j,(L j hl).2,rfl⟩,ff:=λb o hf=>hf.imp (λh=>h) λhf=> .inr ⟨id,u,hf.1.symm⟩}
  . obtain⟨V,m,_⟩:=C j c a;rw[aa8]at m;exact⟨.inr ⟨rfl,aaU _,(aal.1 a).1⟩,by dsimp only;rw[m];rfl⟩
  . obtain⟨V,m,p⟩:=C j c a;rw[aa8]at m;dsimp only;rw[m];exact p.mono D
 unfold kG at h;split at h
 . rename_i id o len sz;split at h
   . rename_i cs r;split at h
     . cases h;obtain⟨G',p,q,Vs,h1,s⟩:=key id cs r;refine⟨G',p,q,?_⟩;cases t with
       | row _ _ _ _ cap A hle hc=>
        have fV:∀(j:Nat)(c:I),((cs.drop o).take (len*sz))[j]?=acK c->cs[o+j]?=acK c:=by
         intro j c a;rw[aan]at a;split at a
         ·rw[aao]at a;exact a
         ·cases a
        exact .aq _ _ _ _ o cap (λj=>Vs (o+j)) trivial hle (λj c a=>h1 _ c (fV j c a)) λj c a=>s _ c (fV j c a)
     ·cases h
   ·cases h
 . rename_i id o;split at h
   . rename_i cs r;split at h
     . rename_i l g O;split at h
       ·cases h
       . rename_i E;cases h;obtain⟨pre,off,len,sz,post,cs',rfl,rfl,M,hle⟩:=Pm O;obtain⟨G',p,q,Vs,h1,s⟩:=key g cs' M;have u:(H.o g).live=acI:=by rw[M];rfl
         have P:=f.hX u;have Q:G'.loc g=G.loc g:=q.loc g (f.n▸P);have J:(H.set g .gone).o id = .row (pre ++ .row g off len sz::post):=by simp only[Z.set];rw[af (λe=>E e.symm)];exact r
         have z:=p.obj id;rw[J]at z;obtain⟨R,e,S,T,W,K⟩:=z;have Y:gy F w G' id (.row (pre ++ .aq .dead len ((cs'.drop off).take (len*sz))::post)):=by
          refine⟨R,e,S,T,W,λj c a=>?_⟩;rcases Nat.lt_trichotomy j pre.length with B|rfl|ah
          . rw[ab0 B]at a;exact K j c (by rw[ab0 B];exact a)
          . have aa:(pre++I.row g off len sz::post)[pre.length]?=acK (.row g off len sz):=by simp
            have hc:c = .aq .dead len ((cs'.drop off).take (len*sz)):=by
             have ab:(pre++I.aq .dead len ((cs'.drop off).take (len*sz))::post)[pre.length]?=acK (.aq .dead len ((cs'.drop off).take (len*sz))):=by simp
             rw[ab]at a;exact(aaC.inj a).symm
            subst hc;obtain⟨V,m,ac⟩:=K _ _ aa;refine⟨V,m,?_⟩;cases ac with
            | row _ _ _ _ cap A ad ai=>
             have fV:∀(j:Nat)(c:I),((cs'.drop off).take (len*sz))[j]?=acK c->cs'[off+j]?=acK c:=by
              intro j c a;rw[aan]at a;split at a
              ·rw[aao]at a;exact a
              ·cases a
             rw[Q];exact .aq _ _ _ _ off cap (λj=>Vs (off+j)) trivial ad (λj c a=>h1 _ c (fV j c a)) λj c a=>s _ c (fV j c a)
          . have e:∀y:I,(pre++y::post)[j]?=post[j-pre.length-1]?:=by
              intro y;rw[ab1 (by omega)];obtain⟨d,ag⟩:∃d,j-pre.length=d+1:=⟨j-pre.length-1,by omega⟩
              rw[ag];rfl
            rw[e]at a;exact K j c (by rw[e];exact a)
         have hl:∀i,(((H.set g .gone).set id (.row (pre ++ .aq .dead len ((cs'.drop off).take (len*sz))::post))).o i).live=acI->((H.set g .gone).o i).live=acI:=by
          intro i hi;by_cases N:i=id
          ·rw[N,J];rfl
          ·simp only[Z.set,af N]at hi ⊢;exact hi
         refine⟨G',p.Pn J Y,{q with owned:=λi hi U=>q.owned i (hl i hi) U},t.mono q.toGLe⟩
     . cases h;obtain⟨G',p,q,Vs,h1,s⟩:=key id cs r;refine⟨G',p,q,?_⟩;cases t with
       | ptr _ _ A=>exact .ae _ _ o (λj=>Vs (o+j)) (λj c a=>h1 _ c (by rw[aao]at a;exact a)) λj c a=>s _ c (by rw[aao]at a;exact a)
   ·cases h
 ·cases h;exact⟨G,f,Step.refl _ _ _,t⟩
 ·cases h;exact⟨G,f,Step.refl _ _ _,t⟩
 ·cases h;exact⟨G,f,Step.refl _ _ _,t⟩
 ·cases h
end
end Rb
