/- A part of the proof (part 1): see the last text. -/
import Derived.Tactics2
import Derived.Laws.AppendOwn
import Derived.LoopN
import Derived.Laws.Strings
import Derived.Lib.Strings
import Derived.Laws.IdiomStrings
import Derived.WideLaws
import Derived.Laws.StructEq
import Derived.LaidEql
set_option linter.unusedVariables false
set_option linter.unusedSimpArgs false
open Array renaming ext'→X6, getD_eq_getD_getElem?→XC, getElem?_append→WJ, getElem?_eq_getElem→Wi, getElem?_eq_some_iff→W3, getElem?_extract→Wl, getElem?_modify→W9, getElem?_push→W0, getElem?_setIfInBounds→WL, getElem?_toList→X5, range→Xm, size_append→XE
open BitVec renaming ofInt→KT
open Bool renaming and_eq_true→Wn, eq_iff_iff→YG, false_eq_true→Yf, false_or→YD, not_eq_true'→Yu, or_eq_false_iff→YL, or_eq_true→Wo
open ByteArray renaming emptyWithCapacity→XN, empty→XM, ext→Ws, getElem_eq_getElem_data→WC, mk→Wq, push→XL, size→Wr
open Classical renaming not_not→XG
open Go renaming sizeOf→Wm
open Go.Addr renaming add_lit→Xz
open Go.Builtin renaming append_→Xx, clear_→Yq, copy_→Ym, delete_→X2, firstCells→XF, lenOf→Xy, len_→WX, max2→WY, min2→WZ, zeroCells→XD
open Go.Calls renaming mono→Yz
open Go.Deferred renaming ofValue→Yy
open Go.Instr renaming alloc→Xn, box→Xl, buildSlice→Xq, build→Yt, checkKey→XR, extract→WH, fieldAt→WE, field→WA, fill→WV, findKey→XW, findNow→XT, indexAt→WM, index→WB, keyThatStays→X1, loadAt→Xd, lookup→XV, makeFunc→Yw, makeInterface→Yv, makeMap→XU, makeSlice→Xr, mapUpdate→XY, next→XP, range→XO, sameBits→XX, sameNow→XS, sliceAt→WQ, sliceBounds→WO, sliceBound→WN, slice→WR, storeAt→Xk, sureAddr→WG, typeAssert→Yn
open Go.IntKind renaming bits→Wv, i64→Xu, signed→Wu, wrap→Xv
open Go.Made renaming depth→Yr
open Go.Op renaming bytesLess→Wd, eqFields→Yj, equalIn→Ww, equal→Wx, intDiv→Wp, maxDepth→Yo, stringOp→Wt
open Go.Oper renaming wp→Ys
open Go.Result renaming andThen_ok→X8, andThen→Yg
open Go.Sem renaming run_bind→X7, run_pure→Ye, run→XQ
open Go.Utf8 renaming decode→Wg
open Go.Value renaming int→AV
open Go.World renaming block_lt_of_cell?→W2, cell?_of_block→W1, setRow→W8
open Int renaming eq_ofNat_of_zero_le→Xt, toNat_natCast→Xw
open List renaming all_eq_true→Xi, cons_append→Yi, flatten_cons→Xp, foldl_cons→WU, getD_eq_getElem?_getD→XH, getElem?_append_left→XZ, getElem?_append_right→X0, getElem?_append→WI, getElem?_drop→Wk, getElem?_eq_getElem→Xc, getElem?_eq_none→YC, getElem?_eq_some_iff→Wh, getElem?_eraseIdx→X4, getElem?_map→Xb, getElem?_set_ne→Xf, getElem?_set_self→Xe, getElem?_set→WK, getElem?_take_of_lt→Yl, getElem?_take→Wj, getElem?_toArray→Xg, getElem_mem→Xj, length_eq_zero_iff→XJ, length_eraseIdx→X3, length_set→YH, map_cons→XK, map_nil→YA, map→Yx, mem_append→YB, mem_cons_of_mem→YJ, mem_cons_self→YK, mem_cons→YI, mem_iff_getElem→Xh, mem_range→YF, range'→X_, range_eq_range'→Yd, range→Xa, replicate_succ→Xo, replicate→We, take_left→Yh
open Nat renaming add_assoc→WD, add_mul→WT, add_zero→WW, le_of_eq→W6, le_of_not_lt→YE, le_refl→hT, le_succ→W4, le_trans→At, lt_of_lt_of_le→AH, lt_or_ge→Gd, mul_le_mul_right→XA, ne_of_lt→W5, succ_mul→Yk, zero_add→W7, zero_le→WS
open Ne renaming symm→W_
open Option renaming getD_some→XI, map_some→Wz, some→Wy
open Prod renaming mk→Yp
open Std.Legacy.Range renaming forIn_eq_forIn_range'→X9, size→Yb, start→Ya, step→Yc
open UInt8 renaming ofNat→Wf
namespace Rb
universe u
variable{c:Prop}{d:Decidable c}{α:Sort u}{t e:α}
theorem aN(h:¬c:=by decide):@ite α c d t e=e:=if_neg h
theorem dW(h:c:=by decide):@ite α c d t e=t:=if_pos h
theorem bF(h:¬c:=by omega):@ite α c d t e=e:=if_neg h
theorem df(h:c:=by omega):@ite α c d t e=t:=if_pos h
theorem ch(h:c:=by simp only[decide_eq_true_eq];omega):@ite α c d t e=t:=if_pos h
theorem cZ(h:¬c:=by simp only[decide_eq_true_eq];omega):@ite α c d t e=e:=if_neg h
theorem iE(h:¬c:=by simp):@ite α c d t e=e:=if_neg h
theorem ki(h:c:=by simp):@ite α c d t e=t:=if_pos h
theorem jo(h:¬c:=by simp;omega):@ite α c d t e=e:=if_neg h
theorem oc(h:c:=by simp;omega):@ite α c d t e=t:=if_pos h
theorem ab{c:Prop}{d:Decidable c}(h:¬c){α:Sort u}{t e:α}:@ite α c d t e=e:=if_neg h
theorem aa{c:Prop}{d:Decidable c}(h:c){α:Sort u}{t e:α}:@ite α c d t e=t:=if_pos h
theorem fb(i:Nat):((i:Int)+1)=((i+1:Nat):Int):=by simp
theorem dh{p:Prop}[d:Decidable p]:(decide p=true)=p:=decide_eq_true_eq
theorem aY{α:Sort u}{x:Decidable True}(t e:α):ite True t e=t:=if_true t e
theorem cu{α:Sort u}{x:Decidable False}(t e:α):ite False t e=e:=if_false t e
theorem b9{α:Type u}[BEq α][LawfulBEq α]{a b:α}:a==b↔a=b:=beq_iff_eq
end Rb

namespace Rb
open Go
variable{w R w1 w2 w3:World}
inductive Tok where
 |nil|full|own (t:Nat)|dead
 deriving DecidableEq
inductive I where
 |bool (b:Bool)
 |int (k:IntKind) (n:Int)
 |str (s:List UInt8)
 |eY
 |ptr (id off:Nat)
 |ak (cells:List I)
 |av (tk:Tok) (len:Nat) (cells:List I)
 |row (id off len sz:Nat)
 |map (id:Nat)
 |fZ
 |fn (key:Nat) (b_:List I)
 |gy
 |iface (t:TypeId) (v:I)
 |gz
 |agg (cs:List I)
 |aM (vs:List I)
 |bot
 deriving Inhabited
def I.cells:I→List I
 | .agg cs=>cs
 |v=>[v]
def gA(a:Nat):Option Nat:=cond (Nat.ble 1048576 a) (some (a-1048576)) none
def I.scalar:I→Bool
 | .agg _ | .aM _ | .bot=>false
 |_=>true
inductive cN where
 |row (cs:List I)
 |tok (n sz:Nat)
 |map (es:List (I×I))
 |hB (s:List UInt8) (pos:Nat)
 |ha (T:TypeId) (used:Bool) (m2:Option (Nat×Nat))
 |m2 (U:TypeId) (bs:List UInt8)
 |gone
def cN.live:cN→Bool
 | .gone=>false
 |_=>true
structure Z where
 n:Nat
 o:Nat→cN
def Z.set(H:Z)(i:Nat)(x:cN):Z:={H with o:=λj=>if j=i then x else H.o j}
def Z.push(H:Z)(x:cN):Z:={n:=H.n+1,o:=λj=>if j=H.n then x else H.o j}
structure b4 where
 n:Nat
 loc:Nat→Nat
 cap:Nat→Nat
 fz:Nat→Nat→Prop
def pX(G:b4)(b o len cap:Nat):Tok→Prop
 | .nil=>False
 | .full=>cap=len
 | .own t=>t<G.n∧G.loc t=b∧o=0∧G.cap t=cap
 | .dead=>True
abbrev dk:=Nat→Option FuncId
inductive VR(F:dk)(w:World)(G:b4):I→Value→Prop where
 |bot (V:Value):VR F w G .bot V
 |bool (b:Bool):VR F w G (.bool b) (.bool b)
 |int (k:IntKind) (n:Int):VR F w G (.int k n) (.int k n)
 |str (s:List UInt8):VR F w G (.str s) (.string ⟨s.toArray⟩)
 |eY:VR F w G .eY (.pointer none)
 |ptr (id off:Nat) (h:id<G.n):VR F w G (.ptr id off) (.pointer (some ⟨G.loc id,off,none⟩))
 | ak (cells:List I) (b o:Nat) (Vs:Nat→Value)
   (h:∀(j:Nat)(c:I),cells[j]?=some c→G.fz b (o+j)∧w.cell? ⟨b,o+j,none⟩=some (Vs j))
   (hv:∀(j:Nat)(c:I),cells[j]?=some c→VR F w G c (Vs j)):VR F w G (.ak cells) (.pointer (some ⟨b,o,none⟩))
 |fA:VR F w G (.av .nil 0 []) (.slice none 0 0)
 |fB (a:Option Addr) (cap:Nat):VR F w G (.av .dead 0 []) (.slice a 0 cap)
 | av (tk:Tok) (len:Nat) (cells:List I) (b o cap:Nat) (Vs:Nat→Value) (ht:pX G b o len cap tk) (hle:len≤cap)
   (h:∀(j:Nat)(c:I),cells[j]?=some c→G.fz b (o+j)∧w.cell? ⟨b,o+j,none⟩=some (Vs j))
   (hv:∀(j:Nat)(c:I),cells[j]?=some c→VR F w G c (Vs j)):VR F w G (.av tk len cells) (.slice (some ⟨b,o,none⟩) len cap)
 |row (id off len sz cap:Nat) (h:id<G.n) (hle:len≤cap) (hc:off+cap*sz=G.cap id):VR F w G (.row id off len sz) (.slice (some ⟨G.loc id,off,none⟩) len cap)
 |map (id:Nat) (h:id<G.n):VR F w G (.map id) (.map (some (G.loc id)))
 |fZ:VR F w G .fZ (.map none)
 | fn (key:Nat) (b_:List I) (f:FuncId) (Vs:Array Value) (hk:gA key=none) (hf:F key=some f) (hl:b_.length=Vs.size)
   (hv:∀(j:Nat)(c:I)(V:Value),b_[j]?=some c→Vs[j]?=some V→VR F w G c V):VR F w G (.fn key b_) (.func (.func f) #[] Vs)
 | ls (key k:Nat) (b_:List I) (f:FuncId) (Vs:Array Value) (hk:gA key=some k) (hf:F k=some f) (hl:b_.length=Vs.size)
   (hv:∀(j:Nat)(c:I)(V:Value),b_[j]?=some c→Vs[j]?=some V→VR F w G c V):VR F w G (.fn key b_) (.func (.func f) Vs #[])
 |gy:VR F w G .gy .nilFunc
 |iface (t:TypeId) (v:I) (V:Value) (h:VR F w G v V):VR F w G (.iface t v) (.iface t V)
 |gz:VR F w G .gz .nilIface
 | agg (cs:List I) (Vs:Array Value) (hl:cs.length=Vs.size)
   (hv:∀(j:Nat)(c:I)(V:Value),cs[j]?=some c→Vs[j]?=some V→VR F w G c V):VR F w G (.agg cs) (.agg Vs)
 | aM (cs:List I) (Vs:Array Value) (hl:cs.length=Vs.size)
   (hv:∀(j:Nat)(c:I)(V:Value),cs[j]?=some c→Vs[j]?=some V→VR F w G c V):VR F w G (.aM cs) (.tuple Vs)
structure GLe(w:World)(G:b4)(R:World)(G':b4):Prop where
 n:G.n≤G'.n
 loc:∀i,i<G.n→G'.loc i=G.loc i
 cap:∀i,i<G.n→G'.cap i=G.cap i
 fz:∀b o,G.fz b o→G'.fz b o
 cell:∀b o V,G.fz b o→w.cell? ⟨b,o,none⟩=some V→R.cell? ⟨b,o,none⟩=some V
theorem GLe.refl(w:World)(G:b4):GLe w G w G:=⟨hT _,λ_ _=>rfl,λ_ _=>rfl,λ_ _ h=>h,λ_ _ _ _ h=>h⟩
theorem GLe.trans{c d e:b4}(h:GLe w1 c w2 d)(k:GLe w2 d w3 e):GLe w1 c w3 e:=
 ⟨At h.n k.n,λi hi=>(k.loc i (AH hi h.n)).trans (h.loc i hi),
   λi hi=>(k.cap i (AH hi h.n)).trans (h.cap i hi),
   λb o a=>k.fz b o (h.fz b o a),λb o V a hc=>k.cell b o V (h.fz b o a) (h.cell b o V a hc)⟩
theorem pX.mono{G G':b4}(a:GLe w G R G'){b o len cap:Nat}{tk:Tok}(h:pX G b o len cap tk):pX G' b o len cap tk:=by
 cases tk with
 |nil=>exact h
 |full=>exact h
 |dead=>exact h
 | own t=>obtain⟨c,d,e,f⟩:=h;exact⟨AH c a.n,(a.loc t c).trans d,e,(a.cap t c).trans f⟩
theorem VR.mono{F:dk}{G G':b4}(e:GLe w G R G'){c:I}{V:Value}(h:VR F w G c V):VR F R G' c V:=by
 induction h with
 |bot V=>exact .bot V
 |bool b=>exact .bool b
 |int k n=>exact .int k n
 |str s=>exact .str s
 |eY=>exact .eY
 |ptr id off h=>rw[←e.loc id h];exact .ptr id off (AH h e.n)
 |ak cells b o Vs h _ d=>exact .ak cells b o Vs (λj c g=>⟨e.fz _ _ (h j c g).1,e.cell _ _ _ (h j c g).1 (h j c g).2⟩) d
 |fA=>exact .fA
 |fB a cap=>exact .fB a cap
 |av tk len cells b o cap Vs ht hle h _ d=>exact .av tk len cells b o cap Vs (ht.mono e) hle (λj c g=>⟨e.fz _ _ (h j c g).1,e.cell _ _ _ (h j c g).1 (h j c g).2⟩) d
 | row id off len sz cap h hle hc=>rw[←e.loc id h];exact .row id off len sz cap (AH h e.n) hle (by rw[e.cap id h];exact hc)
 |map id h=>rw[←e.loc id h];exact .map id (AH h e.n)
 |fZ=>exact .fZ
 |fn key b_ f Vs hk hf hl _ d=>exact .fn key b_ f Vs hk hf hl d
 |ls key k b_ f Vs hk hf hl _ d=>exact .ls key k b_ f Vs hk hf hl d
 |gy=>exact .gy
 |iface t v V _ d=>exact .iface t v V d
 |gz=>exact .gz
 |agg cs Vs hl _ d=>exact .agg cs Vs hl d
 |aM cs Vs hl _ d=>exact .aM cs Vs hl d
def gB(F:dk)(w:World)(G:b4)(i:Nat):cN→Prop
 | .row cs=>∃C e,w.heap[G.loc i]?=some (.cells C e (0,0))∧C.size=G.cap i∧(∀j,¬G.fz (G.loc i) j) ∧
   ∀(j:Nat)(c:I),cs[j]?=some c→∃V,C[j]?=some V∧VR F w G c V
 | .tok k sz=>∃C e,w.heap[G.loc i]?=some (.cells C e (0,0))∧C.size=G.cap i*sz∧k≤C.size∧(∀j,k≤j→¬G.fz (G.loc i) j)
 | .map es=>∃(E:Array MapEntry) (clock:Nat),w.heap[G.loc i]?=some (.map E clock)∧E.size=es.length∧(∀j,¬G.fz (G.loc i) j) ∧
   ∀(j:Nat)(k v:I),es[j]?=some (k,v)→∃e,E[j]?=some e∧VR F w G k e.key∧VR F w G v e.val
 | .hB s pos=>w.heap[G.loc i]?=some (.stringIter ⟨s.toArray⟩ pos)∧∀j,¬G.fz (G.loc i) j
 | .ha T used m2=>∃v,w.heap[G.loc i]?=some (.cells #[.pointer (if used=true then some ⟨G.loc i,0,none⟩else none),v] T (0,0))∧(∀j,¬G.fz (G.loc i) j) ∧
   ((m2=none∧v = .slice none 0 0)∨∃j n,m2=some (j,n)∧j<G.n∧v = .slice (some ⟨G.loc j,0,none⟩) n (G.cap j))
 | .m2 U bs=>∃(C:Array Value) (z:Nat×Nat),w.heap[G.loc i]?=some (.cells C U z)∧C.size=G.cap i∧z.2≤bs.length∧bs.length≤G.cap i∧G.cap i≤maxLen∧(∀j,¬G.fz (G.loc i) j) ∧
   C.toList.take bs.length=bs.map λb=>AV .u8 b.toNat
 | .gone=>True
structure Rel(F:dk)(w:World)(G:b4)(H:Z):Prop where
 n:G.n=H.n
 over:∀i,H.n≤i→H.o i = .gone
 obj:∀i,gB F w G i (H.o i)
 gk:∀i j,i≠j→(H.o i).live=true→(H.o j).live=true→G.loc i≠G.loc j
 gN:∀b o,G.fz b o→∃V,w.cell? ⟨b,o,none⟩=some V
structure Step(w:World)(G:b4)(H:Z)(R:World)(G':b4)(H':Z):Prop extends GLe w G R G' where
 size:w.heap.size≤R.heap.size
 os:R.os=w.os
 tape:R.tape=w.tape
 output:R.output=w.output
 ep:∀k,k<w.heap.size→(∀i,(H.o i).live=true→G.loc i≠k)→R.heap[k]?=w.heap[k]?
 owned:∀i,(H'.o i).live=true→G'.loc i<w.heap.size→∃j,(H.o j).live=true∧G.loc j=G'.loc i
 gC:∀b o,G'.fz b o→G.fz b o∨w.heap.size≤b∨∃i,(H.o i).live=true∧G.loc i=b
theorem Step.refl(w:World)(G:b4)(H:Z):Step w G H w G H:={GLe.refl w G with size:=hT _,os:=rfl,tape:=rfl,output:=rfl,ep:=λ_ _ _=>rfl,owned:=λi h _=>⟨i,h,rfl⟩,gC:=λ_ _ h=> .inl h}
theorem Step.trans{d f g:b4}{l m n:Z}(h:Step w1 d l w2 f m)(k:Step w2 f m w3 g n):Step w1 d l w3 g n:=
 { h.toGLe.trans k.toGLe with
   size:=At h.size k.size
   os:=k.os.trans h.os
   tape:=k.tape.trans h.tape
   output:=k.output.trans h.output
   ep:=λb a p=>by rw[k.ep b (AH a h.size) λi hi he=>?_,h.ep b a p];subst he;obtain⟨j,c,e⟩:=h.owned i hi a;exact p j c e
   owned:=λi hi a=>by obtain⟨j,c,e⟩:=k.owned i hi (AH a h.size);rw[←e]at a ⊢;exact h.owned j c a
   gC :=λb o hf=>by
    rcases k.gC b o hf with hf|a|⟨i,hi,e⟩
    ·exact h.gC b o hf
    ·exact .inr (.inl (At h.size a))
    · rcases Gd b w1.heap.size with a|a
      · obtain⟨j,c,q⟩:=h.owned i hi (by rw[e];exact a);exact .inr (.inr ⟨j,c,q.trans e⟩)
      ·exact .inr (.inl a)}
def bo(F:dk)(w:World)(G:b4)(cs:List I)(Vs:Array Value):Prop:=cs.length=Vs.size∧∀(j:Nat)(c:I)(V:Value),cs[j]?=some c→Vs[j]?=some V→VR F w G c V
theorem bo.mono{F:dk}{G G':b4}(a:GLe w G R G'){cs:List I}{Vs:Array Value}(h:bo F w G cs Vs):bo F R G' cs Vs:=⟨h.1,λj c V hc b=>(h.2 j c V hc b).mono a⟩
abbrev D(z:Int):I:= .int .i64 z
abbrev J:I:= .int .i64 0
abbrev af(z:Int):I:= .int .u64 z
abbrev P:I:= .bool false
abbrev bd:I:= .bool true
abbrev ar:I:= .av .nil 0 []
end Rb

namespace Rb
open Go
variable{key k:Nat}{want:Bool}
def Do{α:Type}(x:Option α)(K:α→Prop):Prop:=∃a,x=some a∧K a
def m3(op:BinOp)(k:IntKind)(a b:Int):Option Int:=
 let x:=KT k.bits a;let y:=KT k.bits b
 match op with
 | .and=>some (k.wrap (x &&& y).toNat)
 | .or=>some (k.wrap (x ||| y).toNat)
 | .xor=>some (k.wrap (x ^^^ y).toNat)
 | .andNot=>some (k.wrap (x &&& ~~~y).toNat)
 |_=>none
def gO(op:BinOp)(k:IntKind)(a:Int)(c:IntKind)(b:Int):Option I:=
 match op with
 | .shl=>if b<0 then none else some (.int k (k.wrap (a*2^(min b.toNat k.bits))))
 | .shr=>if b<0 then none else some (.int k (a.fdiv (2^(min b.toNat k.bits))))
 | .add=>if k=c then some (.int k (k.wrap (a+b)))else none
 | .sub=>if k=c then some (.int k (k.wrap (a-b)))else none
 | .mul=>if k=c then some (.int k (k.wrap (a*b)))else none
 | .quo=>if k=c∧b≠0 then some (.int k (k.wrap (a.tdiv b)))else none
 | .rem=>if k=c∧b≠0 then some (.int k (a.tmod b))else none
 | .eql=>if k=c then some (.bool (a==b))else none
 | .neq=>if k=c then some (.bool (a != b))else none
 | .lss=>if k=c then some (.bool (decide (a<b)))else none
 | .leq=>if k=c then some (.bool (decide (a≤b)))else none
 | .gtr=>if k=c then some (.bool (decide (a>b)))else none
 | .geq=>if k=c then some (.bool (decide (a≥b)))else none
 |op=>if k=c then(m3 op k a b).map (.int k)else none
def CV(op:BinOp)(s t:List UInt8):Option I:=
 match op with
 | .add=>if s.length+t.length≤9223372036854775807 then some (.str (s++t))else none
 | .eql=>some (.bool (s==t))
 | .neq=>some (.bool !(s==t))
 | .lss=>some (.bool (Wd s t))
 | .leq=>some (.bool (Wd s t||s==t))
 | .gtr=>some (.bool !(Wd s t||s==t))
 | .geq=>some (.bool !(Wd s t))
 |_=>none
inductive NK where
 |p|s|m|f|i
 deriving DecidableEq
def I.isNil:NK→I→Option Bool
 | .p,.eY=>some true
 | .p,.ptr _ _ | .p,.ak _=>some false
 | .s,.av .nil _ _=>some true
 | .s,.row _ _ _ _ | .s,.av .full _ (_::_) | .s,.av (.own _) _ _ | .s,.av .dead (_+1) _=>some false
 | .m,.fZ=>some true
 | .m,.map _=>some false
 | .f,.gy=>some true
 | .f,.fn _ _=>some false
 | .i,.gz=>some true
 | .i,.iface _ _=>some false
 |_,_=>none
inductive FK where
 |n|b|t
 deriving DecidableEq
def dJ:List FK→List I→List I→Option Bool
 |[],[],[]=>some true
 | .n::ks,.int k a::r,.int c b::t=>if k=c then(dJ ks r t).map (λx=>a==b&&x)else none
 | .b::ks,.bool a::r,.bool b::t=>(dJ ks r t).map (λx=>a==b&&x)
 | .t::ks,.str a::r,.str b::t=>(dJ ks r t).map (λx=>a==b&&x)
 |_,_,_=>none
def N(op:BinOp)(x y:I):Option I:=
 match x,y with
 | .int k a,.int c b=>gO op k a c b
 | .str s,.str t=>CV op s t
 |_,_=>none
def j9(c:Bool)(x y:I):Option I:=
 match x,y with
 | .bool a,.bool b=>some (.bool (if c then !(a==b)else a==b))
 |_,_=>none
def pY(k:NK)(a:Bool)(x:I):Option I:=(x.isNil k).map λb=> .bool (if a then !b else b)
def ir(c:Bool)(ks:List FK)(x y:I):Option I:=
 match x,y with
 | .agg a,.agg b=>(dJ ks a b).map λr=> .bool (if c then !r else r)
 |_,_=>none
def cM(op:UnOp)(x:I):Option I:=
 match op,x with
 | .not,.bool b=>some (.bool !b)
 | .neg,.int k n=>some (.int k (k.wrap (0-n)))
 | .xor,.int k n=>(m3 .xor k (if k.signed then -1 else k.max) n).map (.int k)
 |_,_=>none
def gP(k:IntKind)(x:I):Option I:=
 match x with
 | .int _ n=>some (.int k (k.wrap n))
 |_=>none
def pZ(x:I):Option I:=
 match x with
 | .str s=>some (.str s)
 |_=>none
def aO(x:I):Option I:=
 match x with
 | .ptr i o=>some (.ptr i o)
 | .ak cs=>some (.ak cs)
 | .fn k cs=>some (.fn k cs)
 |_=>none
def bW(cs:List I)(o n:Nat)(agg:Bool):Option I:=if o+n≤cs.length then(if agg then some (.agg ((cs.drop o).take n))else cs[o]?)else none
def j_(a sz:Nat)(agg:Bool)(x:I):Option I:=
 match x with
 | .agg cs=>bW cs a sz agg
 |_=>none
def m4(len sz:Nat)(agg:Bool)(x i:I):Option I:=
 match x,i with
 | .agg cs,.int _ i=>if 0≤i∧i<len then bW cs (i.toNat*sz) sz agg else none
 |_,_=>none
def iZ(x i:I):Option I:=
 match x,i with
 | .str s,.int _ i=>if 0≤i then(s[i.toNat]?).map λb=> .int .u8 b.toNat else none
 |_,_=>none
def M(a:Nat)(x:I):Option I:=
 match x with
 | .ptr i o=>some (.ptr i (o+a))
 | .ak cs=>some (.ak (cs.drop a))
 |_=>none
def aU(a:Option Nat)(sz:Nat)(x i:I):Option I:=
 match i with
 | .int _ i=>
  match a,x with
  |none,.av _ len cells=>if 0≤i∧i<len then some (.ak (cells.drop (i.toNat*sz)))else none
  |none,.row id o len _=>if 0≤i∧i<len then some (.ptr id (o+i.toNat*sz))else none
  |some n,.ptr id o=>if 0≤i∧i<n then some (.ptr id (o+i.toNat*sz))else none
  |some n,.ak cells=>if 0≤i∧i<n then some (.ak (cells.drop (i.toNat*sz)))else none
  |_,_=>none
 |_=>none
def eJ(x:Option I)(d:Nat):Option Nat:=
 match x with
 |none=>some d
 |some (.int _ i)=>if 0≤i then some i.toNat else none
 |_=>none
def p0(x:I)(lo hi:Option I):Option I:=
 match x with
 | .str s=>
  match eJ hi s.length,eJ lo 0 with
  |some h,some l=>if l≤h∧h≤s.length then some (.str ((s.take h).drop l))else none
  |_,_=>none
 |_=>none
def c6(sz:Nat)(x:I)(lo hi mx:Option I):Option I:=
 match x with
 | .av tk len cells=>
  match eJ hi len,eJ lo 0,mx.map λm=>eJ (some m) 0 with
  | some h,some l,none=>
   if l≤h∧h≤len∧cells.length=len*sz then
    if l=0∧h=len then some (.av tk len cells)
    else some (.av (if l=0 then(match tk with | .own t=> .own t|_=> .dead)else .dead) (h-l) ((cells.take (h*sz)).drop (l*sz)))
   else none
  | some h,some l,some (some m)=>
   if l=h∧h=m∧m≤len then(match tk with | .nil=>some (.av .nil 0 [])|_=>some (.av .dead 0 []))
   else if l≤h∧h≤m∧m≤len∧cells.length=len*sz∧tk ≠ .nil∧l<m then some (.av (if m=h then .full else .dead) (h-l) ((cells.take (h*sz)).drop (l*sz)))else none
  |_,_,_=>none
 | .row id o len a=>
  match eJ hi len,eJ lo 0,mx with
  | some h,some l,none=>if l≤h∧h≤len∧a=sz then(if l=0∨l<h then some (.row id (o+l*sz) (h-l) sz)else some (.av .dead 0 []))else none
  |_,_,_=>none
 |_=>none
def L(v:I)(want:Bool)(A B:Prop):Prop:=
 match v with
 | .bool b=>if b=want then A else B
 |_=>False
def aQ(v:I)(want:Bool)(A B C:Prop):Prop:=
 match v with
 | .bool b=>if b=want then A else B
 | .aM []=>C
 |_=>False
def I.wanted(v:I)(want:Bool):Option Bool:=
 match v with
 | .bool b=>some (b==want)
 | .aM []=>some false
 |_=>none
theorem I.ys{v:I}(h:v.wanted want=some true):v = .bool want:=by
 unfold I.wanted at h;split at h
 ·simp at h;rw[h]
 ·cases h
 ·cases h
theorem I.CW{v:I}(h:v.wanted want=some false):v = .bool (!want)∨v = .aM []:=by
 unfold I.wanted at h;split at h
 · rename_i b;left;cases b<;>cases want<;>simp_all
 ·exact .inr rfl
 ·cases h
@[simp] theorem I.V1 (want:Bool):(I.bool want).wanted want=some true:=by simp[I.wanted]
@[simp] theorem I.V2 (want:Bool):(I.bool (!want)).wanted want=some false:=by cases want<;>rfl
@[simp] theorem I.V3 (want:Bool):(I.aM []).wanted want=some false:=rfl
def bI(i:Nat)(x:I):Option I:=
 match x with
 | .aM vs=>vs[i]?
 |_=>none
def setCells(cs:List I)(o:Nat):List I→List I
 |[]=>cs
 |v::r=>setCells (cs.set o v) (o+1) r
def I.known:I→Bool
 | .bot | .aM _=>false
 |_=>true
def jk(cs:List I):List (Nat×Nat×I)→Option (List I)
 |[]=>some cs
 |(off,sz,v)::r=>if v.known∧v.cells.length=sz∧off+sz≤cs.length then jk (setCells cs off v.cells) r else none
def ba(a:List I)(b:List (Nat×Nat×I)):Option I:=(jk a b).map .agg
def bj(str:Bool)(x:I):Option I:=
 match str,x with
 |true,.str s=>some (.int .i64 s.length)
 |false,.av _ len _=>some (.int .i64 len)
 |false,.row _ _ len _=>some (.int .i64 len)
 |_,_=>none
def yt(mx:Bool)(x y:I):Option I:=
 match x,y with
 | .int k a,.int _ b=>some (.int k (if mx then(if b>a then b else a)else(if b<a then b else a)))
 |_,_=>none
def p1(mx:Bool)(x:I):List I→Option I
 |[]=>some x
 |y::r=>match yt mx x y with|some z=>p1 mx z r|none=>none
def ka(mx:Bool)(xs:List I):Option I:=
 match xs with
 | .int k a::r=>p1 mx (.int k a) r
 |_=>none
def O(H:Z)(n:Nat)(a:Bool)(x:I):Option I:=
 match x with
 | .ptr id o=>match H.o id with | .row cs=>bW cs o n a|_=>none
 | .ak cs=>bW cs 0 n a
 |_=>none
def ax(H:Z)(n:Nat)(x v:I):Option Z:=
 match x with
 | .ptr id o=>
  match H.o id with
  | .row cs=>if v.known∧v.cells.length=n∧v.cells.all I.scalar∧o+n≤cs.length then some (H.set id (.row (setCells cs o v.cells)))else none
  |_=>none
 |_=>none
def aR(H:Z)(mu:Bool)(cells:List I):I×Z:=if mu then(.ptr H.n 0,H.push (.row cells))else(.ak cells,H)
def bg(H:Z)(mu:Bool)(n:Nat)(v:I):Option (I×Z):=if v.known∧v.cells.length=n then some (aR H mu v.cells)else none
def c9(H:Z)(mu:Bool)(sz len:Nat)(a:List I)(b:List (Nat×Nat×I)):Option (I×Z):=
 (jk (We len a).flatten b).map λcells=>if mu then(.row H.n 0 len sz,H.push (.row cells))else(.av .full len cells,H)
def hC(H:Z)(sz:Nat)(x:I):Option (Nat×List I):=
 match x with
 | .av _ len cells=>if cells.length=len*sz then some (len,cells)else none
 | .row id o len _=>match H.o id with | .row cs=>if o+len*sz≤cs.length then some (len,(cs.drop o).take (len*sz))else none|_=>none
 |_=>none
def cX(H:Z)(mu:Bool)(sz b:Nat)(x y:I):Option (I×Z):=
 match hC H sz y with
 |none=>none
 | some (m,news)=>
  if ¬news.all I.scalar then none else
  match x with
  | .av tk len cells=>
   if m=0 then some (.av tk len cells,H)
   else if ¬(cells.length=len*sz∧(len+m)*b≤140737488355328∧len+m≤9223372036854775807)then none
   else match tk,mu with
   | .nil,true | .full,true=>some (.row H.n 0 (len+m) sz,H.push (.row (cells++news)))
   | .nil,false | .full,false=>some (.av (.own H.n) (len+m) (cells++news),H.push (.tok ((len+m)*sz) sz))
   | .own t,_=>match H.o t with
    | .tok k a=>if k=len*sz∧a=sz then some (.av (.own H.n) (len+m) (cells++news),(H.set t .gone).push (.tok ((len+m)*sz) sz))else none
    |_=>none
   | .dead,_=>none
  | .row id o len a=>
   match H.o id with
   | .row cs=>
    if m=0 then some (.row id o len a,H)
    else if ¬(o=0∧a=sz∧(len+m)*b≤140737488355328∧len+m≤9223372036854775807)then none
    else if(len+m)*sz≤cs.length then some (.row id 0 (len+m) sz,H.set id (.row (setCells cs (len*sz) news)))
    else if cs.length=len*sz then some (.row H.n 0 (len+m) sz,(H.set id .gone).push (.row (cs++news)))
    else none
   |_=>none
  |_=>none
def byteCells(s:List UInt8):List I:=s.map λb=> .int .u8 b.toNat
def n5:List I→Option (List UInt8)
 |[]=>some []
 | .int .u8 n::r=>(n5 r).map λs=>Wf n.toNat::s
 |_=>none
def p2(x:I):Option I:=
 match x with
 | .str s=>some (.av .dead s.length (byteCells s))
 |_=>none
def abstr(H:Z)(x:I):Option I:=
 match hC H 1 x with
 |some (_,cells)=>(n5 cells).map .str
 |none=>none
def m5(H:Z)(x:I):Option (I×Z):=
 match x with
 | .str s=>some (.ptr H.n 0,H.push (.hB s 0))
 |_=>none
def kJ(H:Z)(x:I):Option (I×Z):=
 match x with
 | .ptr id 0=>
  match H.o id with
  | .hB s pos=>
   if pos<s.length then
    let d:=Wg ⟨s.toArray⟩ pos
    some (.aM [.bool true,.int .i64 pos,.int .i32 d.1],H.set id (.hB s (pos+d.2)))
   else some (.aM [.bool false],H)
  |_=>none
 |_=>none
def lu(H:Z)(mu:Bool)(sz b:Nat)(a:List I)(len cap:I):Option (I×Z):=
 match len,cap with
 | .int .i64 n,.int .i64 c=>
  if 0≤n∧n≤c∧b*c≤281474976710656∧c≤9223372036854775807∧a.length=sz then
   if mu then some (.row H.n 0 n.toNat sz,H.push (.row (We c.toNat a).flatten))
   else if n=c then some (.av .full n.toNat (We n.toNat a).flatten,H)else none
  else none
 |_,_=>none
def p3(H:Z)(sz:Nat)(x y:I):Option (I×Z):=
 match x,hC H sz y with
 | .row id o len _,some (m,news)=>
  match H.o id with
  | .row cs=>
   let n:=min m len
   if news.all I.scalar∧o+n*sz≤cs.length then some (.int .i64 n,H.set id (.row (setCells cs o (news.take (n*sz)))))else none
  |_=>none
 |_,_=>none
def n7(kk:FK):I→I→Option Bool
 | .int k a,.int c b=>if kk = .n∧k=c then some (a==b)else none
 | .str s,.str t=>if kk = .t then some (s==t)else none
 | .bool a,.bool b=>if kk = .b then some (a==b)else none
 |_,_=>none
def jl(kk:FK)(k:I):List (I×I)→Nat→Option (Option (Nat×I))
 |[],_=>some none
 | e::es,i=>
  match n7 kk k e.1 with
  |some true=>some (some (i,e.2))
  |some false=>jl kk k es (i+1)
  |none=>none
def plainKey(kk:FK):I→Bool
 | .int _ _=>kk == .n
 | .str _=>kk == .t
 | .bool _=>kk == .b
 |_=>false
def p4(a:Bool)(v:I)(b:Bool):I:=if a then .aM [v,.bool b]else v
def mc(H:Z)(kk:FK)(b:I)(a:Bool)(m k:I):Option I:=
 match m with
 | .fZ=>if plainKey kk k then some (p4 a b false)else none
 | .map id=>
  match H.o id with
  | .map es=>if plainKey kk k then(jl kk k es 0).map λr=>(match r with|some (_,v)=>p4 a v true|none=>p4 a b false)else none
  |_=>none
 |_=>none
def p5(H:Z)(kk:FK)(m k v:I):Option Z:=
 match m with
 | .map id=>
  match H.o id with
  | .map es=>if plainKey kk k∧v.known then(jl kk k es 0).map λr=>(match r with
      |some (i,_)=>H.set id (.map (es.set i (k,v)))
      |none=>H.set id (.map (es++[(k,v)])))else none
  |_=>none
 |_=>none
def p6(H:Z)(kk:FK)(m k:I):Option Z:=
 match m with
 | .map id=>
  match H.o id with
  | .map es=>if plainKey kk k then(jl kk k es 0).map λr=>(match r with
      |some (i,_)=>H.set id (.map (es.eraseIdx i))
      |none=>H)else none
  |_=>none
 |_=>none
def me(H:Z)(m:I):Option I:=
 match m with
 | .fZ=>some (.int .i64 0)
 | .map id=>match H.o id with | .map es=>some (.int .i64 es.length)|_=>none
 |_=>none
def jI(o:Nat→cN):List I→Option (List I×Nat)
 |[]=>none
 | .row id off len sz::r=>match o id with
  | .row cs=>if off+len*sz≤cs.length then some (.av .dead len ((cs.drop off).take (len*sz))::r,id)else none
  |_=>none
 |c::r=>(jI o r).map λq=>(c::q.1,q.2)
def mf(H:Z)(x:I):Option (I×Z):=
 match x with
 | .row id o len sz=>
  match H.o id with
  | .row cs=>if o+len*sz≤cs.length then some (.av .dead len ((cs.drop o).take (len*sz)),H.set id .gone)else none
  |_=>none
 | .ptr id o=>
  match H.o id with
  | .row cs=>match jI H.o cs with
   |some (l,a)=>if a=id then none else some (.ptr id o,(H.set a .gone).set id (.row l))
   |none=>some (.ak (cs.drop o),H.set id .gone)
  |_=>none
 | .av tk len cells=>some (.av tk len cells,H)
 | .ak cs=>some (.ak cs,H)
 | .agg cells=>match jI H.o cells with
  |some (l,id)=>some (.agg l,H.set id .gone)
  |none=>some (.agg cells,H)
 |_=>none
inductive bK where
 |t (n:Nat)
 |k (v:I)
abbrev Env:=List I
def bK.ev(a:Env):bK→I
 | .t n=>a.getD n .bot
 | .k v=>v
def sy(x:I):Option I:=
 match x with
 | .av .nil 0 []=>some (.int .i64 0)
 |_=>none
inductive Ext where
 |n8 (t:TypeId)
 |mg (neg:Bool)
 |clear (sz:Nat) (zero:List I)
 |grow (sz bytes:Nat) (zero:List I)
 |kb (T:TypeId)
 |stuck
def eR(H:Z)(e:Ext)(xs:List I):Option (I×Z):=
 match e,xs with
 | .n8 t,[.iface t' v]=>if t'=t then some (v,H)else none
 | .mg neg,[.ptr i o,.ptr j p]=>
  match H.o i,H.o j with
  | .row _,.row _=>if i=j then some (.bool (if neg then !(o==p)else o==p),H)else some (.bool neg,H)
  |_,_=>none
 | .clear sz zero,[.row id o len z]=>
  if len=0 then some (.aM [],H)else
  match H.o id with
  | .row cs=>if zero.all I.scalar∧zero.length=sz∧o+len*sz≤cs.length then some (.aM [],H.set id (.row (setCells cs o (We len zero).flatten)))else none
  |_=>none
 | .clear _ _,[.av _ 0 _]=>some (.aM [],H)
 | .grow sz bytes zero,[.av .nil 0 [],.int .i64 n]=>if 0<n∧n.toNat*bytes≤281474976710656∧n≤9223372036854775807∧zero.length=sz∧0<sz then some (.row H.n 0 n.toNat sz,H.push (.row (We n.toNat zero).flatten))else none
 | .kb T,[]=>some (.ptr H.n 0,H.push (.ha T false none))
 | .kb T,[.agg [.eY,.av .nil 0 []]]=>some (.ptr H.n 0,H.push (.ha T false none))
 |_,_=>none
def p7:List (TypeId×Nat×Option (Nat×Bool))→TypeId→Option (Nat×Option (Nat×Bool))
 |[],_=>none
 |(t',r)::l,t=>if t'=t then some r else p7 l t
def p8(H:Z)(m:Option (Nat×Bool))(v:I):Option I:=
 match m with
 |none=>some v
 |some (n,agg)=>O H n agg v
inductive ej where
 |mv (x:bK)
 |pick (c a b:bK)
 |bin (op:BinOp) (x y:bK)
 |beq (neg:Bool) (x y:bK)
 |jJ (k:NK) (neg:Bool) (x:bK)
 |i0 (neg:Bool) (ks:List FK) (x y:bK)
 |un (op:UnOp) (x:bK)
 |conv (k:IntKind) (x:bK)
 |same (x:bK)
 |kc (x:bK)
 |field (off sz:Nat) (agg:Bool) (x:bK)
 |idx (len sz:Nat) (agg:Bool) (x i:bK)
 |idxs (x i:bK)
 |kd (off:Nat) (x:bK)
 |jK (arr:Option Nat) (sz:Nat) (x i:bK)
 |slice (sz:Nat) (x:bK) (lo hi mx:Option bK)
 |ke (x:bK) (lo hi:Option bK)
 |hZ (t:TypeId) (x:bK)
 |hD (key:Nat) (b_:List bK)
 |extract (i:Nat) (x:bK)
 |build (zero:List I) (parts:List (Nat×Nat×bK))
 |len (str:Bool) (x:bK)
 |h0 (n:Nat)
 |h1 (mx:Bool) (xs:List bK)
 |load (n:Nat) (agg:Bool) (x:bK)
 |store (n:Nat) (x v:bK)
 |box (mu:Bool) (n:Nat) (x:bK)
 |alloc (mu:Bool) (zero:List I)
 |hE (mu:Bool) (sz len:Nat) (zero:List I) (parts:List (Nat×Nat×bK))
 |append (mu:Bool) (sz bytes:Nat) (x y:bK)
 |make (mu:Bool) (sz bytes:Nat) (zero:List I) (len cap:bK)
 |copy (sz:Nat) (x y:bK)
 |hF
 |lookup (kk:FK) (zero:I) (ok:Bool) (m k:bK)
 |h2 (kk:FK) (m k v:bK)
 |delete (kk:FK) (m k:bK)
 |iu (m:bK)
 |kf (x:bK)
 |iv (x:bK)
 |iw (x:bK)
 |iy (x:bK)
 |call (key:Nat) (args:List bK)
 |iz (f:bK) (args:List bK)
 |ext (e:Ext) (xs:List bK)
 |cap (x:bK)
 |inv (iA:List (TypeId×Nat×Option (Nat×Bool))) (x:bK) (args:List bK)
structure cf where
 dst:Option Nat
 op:ej
 guard:Option (Nat×Bool)
def eE(a:Env)(xs:List bK):List I:=xs.map (bK.ev a)
def gD(a:Env)(xs:List (Nat×Nat×bK)):List (Nat×Nat×I):=xs.map λp=>(p.1,p.2.1,p.2.2.ev a)
abbrev ad:=I→Z→Prop
abbrev ae:=Nat→List I→Z→ad→Prop
def aJ(x:Option (I×Z))(K:ad):Prop:=∃v H,x=some (v,H)∧K v H
def jL(key:Nat):Nat:=match gA key with|some k=>k|none=>key
def jM(key:Nat)(a b_:List I):List I:=match gA key with|some _=>b_++a|none=>a++b_
theorem yu(h:gA key=none):jL key=key:=by unfold jL;rw[h]
theorem Lp(h:gA key=some k):jL key=k:=by unfold jL;rw[h]
theorem yv(h:gA key=none)(a b_:List I):jM key a b_=a++b_:=by unfold jM;rw[h]
theorem Lq(h:gA key=some k)(args b_:List I):jM key args b_=b_++args:=by unfold jM;rw[h]
def ct(Φ:ae)(d:Env)(H:Z)(K:ad):ej→Prop
 | .mv x=>K (x.ev d) H
 | .pick c a b=>L (c.ev d) true (K (a.ev d) H) (K (b.ev d) H)
 | .bin op x y=>Do (N op (x.ev d) (y.ev d)) λv=>K v H
 | .beq neg x y=>Do (j9 neg (x.ev d) (y.ev d)) λv=>K v H
 | .jJ k neg x=>Do (pY k neg (x.ev d)) λv=>K v H
 | .i0 neg ks x y=>Do (ir neg ks (x.ev d) (y.ev d)) λv=>K v H
 | .un op x=>Do (cM op (x.ev d)) λv=>K v H
 | .conv k x=>Do (gP k (x.ev d)) λv=>K v H
 | .same x=>Do (pZ (x.ev d)) λv=>K v H
 | .kc x=>Do (aO (x.ev d)) λv=>K v H
 | .field off sz agg x=>Do (j_ off sz agg (x.ev d)) λv=>K v H
 | .idx len sz agg x i=>Do (m4 len sz agg (x.ev d) (i.ev d)) λv=>K v H
 | .idxs x i=>Do (iZ (x.ev d) (i.ev d)) λv=>K v H
 | .kd off x=>Do (M off (x.ev d)) λv=>K v H
 | .jK arr sz x i=>Do (aU arr sz (x.ev d) (i.ev d)) λv=>K v H
 | .slice sz x lo hi mx=>Do (c6 sz (x.ev d) (lo.map (bK.ev d)) (hi.map (bK.ev d)) (mx.map (bK.ev d))) λv=>K v H
 | .ke x lo hi=>Do (p0 (x.ev d) (lo.map (bK.ev d)) (hi.map (bK.ev d))) λv=>K v H
 | .hZ t x=>K (.iface t (x.ev d)) H
 | .hD key b_=>K (.fn key (eE d b_)) H
 | .extract i x=>Do (bI i (x.ev d)) λv=>K v H
 | .build zero parts=>Do (ba zero (gD d parts)) λv=>K v H
 | .len str x=>Do (bj str (x.ev d)) λv=>K v H
 | .h0 n=>K (.int .i64 n) H
 | .h1 mx xs=>Do (ka mx (eE d xs)) λv=>K v H
 | .load n agg x=>Do (O H n agg (x.ev d)) λv=>K v H
 | .store n x v=>Do (ax H n (x.ev d) (v.ev d)) λH=>K (.aM []) H
 | .box mu n x=>aJ (bg H mu n (x.ev d)) K
 | .alloc mu zero=>aJ (some (aR H mu zero)) K
 | .hE mu sz len zero parts=>aJ (c9 H mu sz len zero (gD d parts)) K
 | .append mu sz bytes x y=>aJ (cX H mu sz bytes (x.ev d) (y.ev d)) K
 | .make mu sz bytes zero len cap=>aJ (lu H mu sz bytes zero (len.ev d) (cap.ev d)) K
 | .copy sz x y=>aJ (p3 H sz (x.ev d) (y.ev d)) K
 | .hF=>K (.map H.n) (H.push (.map []))
 | .lookup kk zero ok m k=>Do (mc H kk zero ok (m.ev d) (k.ev d)) λv=>K v H
 | .h2 kk m k v=>Do (p5 H kk (m.ev d) (k.ev d) (v.ev d)) λH=>K (.aM []) H
 | .delete kk m k=>Do (p6 H kk (m.ev d) (k.ev d)) λH=>K (.aM []) H
 | .iu m=>Do (me H (m.ev d)) λv=>K v H
 | .kf x=>Do (p2 (x.ev d)) λv=>K v H
 | .iv x=>Do (abstr H (x.ev d)) λv=>K v H
 | .iw x=>aJ (m5 H (x.ev d)) K
 | .iy x=>aJ (kJ H (x.ev d)) K
 | .call key args=>Φ key (eE d args) H K
 | .iz f args=>∃key b_,f.ev d = .fn key b_∧Φ (jL key) (jM key (eE d args) b_) H K
 | .ext e xs=>aJ (eR H e (eE d xs)) K
 | .cap x=>Do (sy (x.ev d)) λv=>K v H
 | .inv iA x args=>∃t v r u,x.ev d = .iface t v∧p7 iA t=some r∧p8 H r.2 v=some u∧Φ r.1 (u::eE d args) H K
def cg(a:Env)(d:Option Nat)(v:I):Env:=
 match d with
 |some t=>a.set t v
 |none=>a
def iB(Φ:ae):List cf→Env→Z→(Env→Z→Prop)→Prop
 |[],env,H,K=>K env H
 | o :: r,env,H,K=>
  match o.guard with
  |none=>ct Φ env H (λv H'=>iB Φ r (cg env o.dst v) H' K) o.op
  | some (s,want)=>
   aQ (env.getD s .bot) want (ct Φ (env.set s (.bool want)) H (λv H'=>iB Φ r (cg (env.set s (.bool want)) o.dst v) H' K) o.op)
    (iB Φ r (cg (env.set s (.bool !want)) o.dst (.aM [])) H K) (iB Φ r (cg (env.set s (.aM [])) o.dst (.aM [])) H K)
def n9(a:Env)(H:Z)(o:cf):Prop:=
 match o.op with
 | .load n agg x=>O H n agg (x.ev a)=some (a.getD (o.dst.getD 0) .bot)
 | .lookup kk zero ok m k=>mc H kk zero ok (m.ev a) (k.ev a)=some (a.getD (o.dst.getD 0) .bot)
 | .iu m=>me H (m.ev a)=some (a.getD (o.dst.getD 0) .bot)
 | .iv x=>abstr H (x.ev a)=some (a.getD (o.dst.getD 0) .bot)
 |_=>True
def p9(a:Env)(H:Z)(o:cf):Prop:=
 match o.guard with
 |none=>n9 a H o
 |some (s,want)=>a.getD s .bot = .bool want→n9 a H o
def gE(ops:List cf)(a:Env)(H:Z)(X:Prop):List Nat→Prop
 |[]=>X
 |l::r=>(match ops[l]? with|some o=>p9 a H o|none=>True)∧gE ops a H X r
def jm(Φ:ae)(o:cf)(a:Env)(H:Z)(K:Env→Z→Prop):Prop:=
 match o.guard with
 |none=>ct Φ a H (λv H'=>K (cg a o.dst v) H') o.op
 | some (s,want)=>
  aQ (a.getD s .bot) want (ct Φ (a.set s (.bool want)) H (λv H'=>K (cg (a.set s (.bool want)) o.dst v) H') o.op)
   (K (cg (a.set s (.bool !want)) o.dst (.aM [])) H) (K (cg (a.set s (.aM [])) o.dst (.aM [])) H)
def kK(Φ:ae)(ops:List cf):List Nat→Env→Z→(Env→Z→Prop)→Prop
 |[],env,H,K=>K env H
 | i::r,env,H,K=>match ops[i]? with
  |some o=>jm Φ o env H λbm H'=>kK Φ ops r bm H' K
  |none=>False
def jn(Φ:ae)(ops:List cf)(a:List Nat):List (List Nat×Nat×List Nat)→Env→Z→(Env→Z→Prop)→Prop
 |[],env,H,K=>kK Φ ops a env H K
 | (d,e,st)::r,env,H,K=>kK Φ ops d env H λb H1=>match ops[e]? with
  |some o=>jm Φ o b H1 λf c=>gE ops b c (jn Φ ops a r f c K) st
  |none=>False
inductive fO where
 |skip
 |region (ops:List cf)
 |draw (ops:List cf) (pr:List (List Nat)) (bX:List (List Nat×Nat×List Nat)) (last:List Nat)
 |seq (a b:fO)
 |join (vs ks:List Nat) (a b:fO)
 |cond (x:bK) (a b:fO)
 |block (id:Nat) (a:fO)
 |loop (vs ks:List Nat) (a:fO)
 |exit (id:Nat)
 |ret
 |freeze (t:Nat) (a:fO)
 |i2 (vs ks:List Nat) (ops:List cf) (b:fO)
inductive kg where
 |normal
 |exit (id:Nat)
 |ret
def eZ(a:Env)(vs:List Nat):List I:=vs.map λt=>a.getD t .bot
def gQ(a:Env):List Nat→Env
 |[]=>a
 |t::r=>gQ (a.set t .bot) r
def i3(a:Env):List Nat→List I→Env
 |t::r,s=>i3 (a.set t (s.headD .bot)) r s.tail
 |[],_=>a
def sl(s:List I):Nat→I
 |0=>s.headD .bot
 |i+1=>sl s.tail i
def au{a:Type}(F:a→(a→Prop)→Prop)(s:a):Prop:=∀b:a→Prop,(∀s K,F s K→(∀t,K t→b t)→b s)→b s
theorem au.step{a:Type}{F:a→(a→Prop)→Prop}{s:a}(h:F s (au F)):au F s:=λc b=>b s _ h λ_ ht=>ht c b
def U(K:List I→Z→Prop)(a:List I)(H:Z):Prop:=K a H
def f_(Φ:ae):fO→Env→Z→(kg→Env→Z→Prop)→Prop
 | .skip,env,H,Q=>Q .normal env H
 | .region ops,env,H,Q=>iB Φ ops env H (Q .normal)
 | .draw ops _ bX last,env,H,Q=>jn Φ ops last bX env H (Q .normal)
 | .seq a b,env,H,Q=>f_ Φ a env H λe bm H'=>match e with
  | .normal=>f_ Φ b bm H' Q
  |e=>Q e bm H'
 | .join vs ks a b,env,H,Q=>f_ Φ a env H λe bm H'=>match e with
  | .normal=>U (λst c=>f_ Φ b (i3 (gQ env ks) vs st) c Q) (eZ bm vs) H'
  |e=>Q e bm H'
 | .cond x a b,env,H,Q=>L (x.ev env) true (f_ Φ a env H Q) (f_ Φ b env H Q)
 | .block id a,env,H,Q=>f_ Φ a env H λe bm H'=>match e with
  | .exit d=>if d=id then Q .normal bm H' else Q (.exit d) bm H'
  |e=>Q e bm H'
 | .loop vs ks a,env,H,Q=>
  au (λ(s:List I×Z) (K:List I×Z→Prop)=>
    f_ Φ a (i3 (gQ env ks) vs s.1) s.2 λe bm H'=>match e with
     | .normal=>K (eZ bm vs,H')
     |e=>Q e bm H') (eZ env vs,H)
 | .exit id,env,H,Q=>Q (.exit id) env H
 | .ret,env,H,Q=>Q .ret env H
 | .freeze t a,env,H,Q=>aJ (mf H (env.getD t .bot)) λv H'=>f_ Φ a (env.set t v) H' Q
 | .i2 vs ks ops b,env,H,Q=>iB Φ ops env H λbm H'=>U (λst c=>f_ Φ b (i3 (gQ env ks) vs st) c Q) (eZ bm vs) H'
inductive kL where
 |tmp (t:Nat)
 |cell (t n:Nat) (agg:Bool)
def lv(a:Env)(H:Z):List kL→(List I→Prop)→Prop
 |[],K=>K []
 | .tmp t::r,K=>lv a H r λvs=>K (a.getD t .bot::vs)
 | .cell t n agg::r,K=>Do (O H n agg (a.getD t .bot)) λv=>lv a H r λvs=>K (v::vs)
structure bw where
 ntmps:Nat
 results:List kL
 body:fO
def n_:List I→I
 |[v]=>v
 |vs=> .aM vs
def p_(Φ:ae)(f:bw)(a:List I)(H:Z)(Q:ad):Prop:=
 f_ Φ f.body (a++We (f.ntmps-a.length) .bot) H λe env H'=>match e with
  | .exit _=>False
  |_=>lv env H' f.results λvs=>Q (n_ vs) H'
end Rb

namespace Rb
open Go
variable{H:Z}{K:ad}{v:I}{want:Bool}{A B X:Prop}{env:Env}
def kM(Φ:ae):Prop:=∀(key:Nat)(args:List I)(H:Z)(Q:ad),Φ key args H Q→∃v H',Q v H'
theorem Do.nv{α:Type}{x:Option α}{K:α→Prop}(h:Do x K):∃a,K a:=by obtain⟨a,_,h⟩:=h;exact⟨a,h⟩
theorem aJ.nv{x:Option (I×Z)}(h:aJ x K):∃v H,K v H:=by obtain⟨a,H,_,h⟩:=h;exact⟨a,H,h⟩
theorem L.nv(a:A→X)(b:B→X)(h:L v want A B):X:=by
 unfold L at h;split at h
 · split at h
   ·exact a h
   ·exact b h
 ·exact h.elim
theorem aQ.nv{A B D X:Prop}(a:A→X)(b:B→X)(c:D→X)(h:aQ v want A B D):X:=by
 unfold aQ at h;split at h
 · split at h
   ·exact a h
   ·exact b h
 ·exact c h
 ·exact h.elim
section
variable{Φ:ae}
theorem sA(a:kM Φ){op:ej}(h:ct Φ env H K op):∃v H',K v H':=by
 cases op with
 |mv x=>exact⟨_,_,h⟩
 |pick c x y=>exact L.nv (λh=>⟨_,_,h⟩) (λh=>⟨_,_,h⟩) h
 |hZ t x=>exact⟨_,_,h⟩
 |hD key b_=>exact⟨_,_,h⟩
 |h0 n=>exact⟨_,_,h⟩
 |box mu n x=>exact aJ.nv h
 |alloc mu zero=>exact aJ.nv h
 |hE=>exact aJ.nv h
 |append=>exact aJ.nv h
 |make=>exact aJ.nv h
 |copy=>exact aJ.nv h
 |hF=>exact⟨_,_,h⟩
 |iw=>exact aJ.nv h
 |iy=>exact aJ.nv h
 |call key args=>exact a _ _ _ _ h
 |iz f args=>obtain⟨key,b_,d,b⟩:=h;exact a _ _ _ _ b
 |ext=>exact aJ.nv h
 |inv iA x args=>obtain⟨t,v,r,u,d,b,g,e⟩:=h;exact a _ _ _ _ e
 |store=>obtain⟨H',h⟩:=Do.nv h;exact⟨_,_,h⟩
 |h2=>obtain⟨H',h⟩:=Do.nv h;exact⟨_,_,h⟩
 |delete=>obtain⟨H',h⟩:=Do.nv h;exact⟨_,_,h⟩
 |_=>obtain⟨v,h⟩:=Do.nv h;exact⟨_,_,h⟩
theorem CX(a:kM Φ){o:cf}{K:Env→Z→Prop}(h:jm Φ o env H K):∃bm H',K bm H':=by
 unfold jm at h;split at h
 ·obtain⟨v,H',h⟩:=sA a h;exact⟨_,_,h⟩
 · refine aQ.nv (λh=>?_) (λh=>⟨_,_,h⟩) (λh=>⟨_,_,h⟩) h;obtain⟨v,H',h⟩:=sA a h;exact⟨_,_,h⟩
theorem oa(a:kM Φ):∀(l:List cf){env:Env}{H:Z}{K:Env→Z→Prop},iB Φ l env H K→∃bm H',K bm H'
 |[],_,_,_,h=>⟨_,_,h⟩
 | o :: r,env,H,K,h=>by
  unfold iB at h;split at h
  ·obtain⟨v,H',h⟩:=sA a h;exact oa a r h
  · refine aQ.nv (λh=>?_) (λh=>oa a r h) (λh=>oa a r h) h;obtain⟨v,H',h⟩:=sA a h;exact oa a r h
theorem yw(a:kM Φ){ops:List cf}:∀(l:List Nat){env:Env}{H:Z}{K:Env→Z→Prop},kK Φ ops l env H K→∃bm H',K bm H'
 |[],_,_,_,h=>⟨_,_,h⟩
 | i::r,env,H,K,h=>by
  unfold kK at h;split at h
  ·obtain⟨bm,H',h⟩:=CX a h;exact yw a r h
  ·exact h.elim
theorem CY{ops:List cf}{env:Env}{H:Z}{X:Prop}:∀(l:List Nat),gE ops env H X l→X
 |[],h=>h
 |_::r,h=>CY r h.2
theorem CZ(a:kM Φ){ops:List cf}{b:List Nat}:∀(l:List (List Nat×Nat×List Nat)) {env:Env} {H:Z} {K:Env→Z→Prop},jn Φ ops b l env H K→∃bm H',K bm H'
 |[],env,H,K,h=>yw a b h
 | (c,e,st)::r,env,H,K,h=>by
  unfold jn at h;obtain⟨d,H1,h⟩:=yw a c h;split at h
  ·obtain⟨f,g,h⟩:=CX a h;exact CZ a r (CY st h)
  ·exact h.elim
theorem Lr(j:kM Φ):∀(c:fO){env:Env}{H:Z}{Q:kg→Env→Z→Prop},f_ Φ c env H Q→∃e bm H',Q e bm H':=by
 intro c;induction c with
 |skip=>intro env H Q h;exact⟨_,_,_,h⟩
 |region ops=>intro env H Q h;obtain⟨e,H',h⟩:=oa j ops h;exact⟨_,_,_,h⟩
 |draw ops pr bX last=>intro env H Q h;obtain⟨e,H',h⟩:=CZ j bX h;exact⟨_,_,_,h⟩
 | seq a b f g=>
  intro env H Q h;obtain⟨e,bm,H',h⟩:=f h;cases e with
  |normal=>exact g h
  |exit i=>exact⟨_,_,_,h⟩
  |ret=>exact⟨_,_,_,h⟩
 | join vs ks a b f g=>
  intro env H Q h;obtain⟨e,bm,H',h⟩:=f h;cases e with
  |normal=>exact g h
  |exit i=>exact⟨_,_,_,h⟩
  |ret=>exact⟨_,_,_,h⟩
 |cond x a b f g=>intro env H Q h;exact L.nv (λh=>f h) (λh=>g h) h
 | block id a d=>
  intro env H Q h;obtain⟨e,bm,H',h⟩:=d h;cases e with
  |normal=>exact⟨_,_,_,h⟩
  | exit i=>
   dsimp only at h;split at h
   ·exact⟨_,_,_,h⟩
   ·exact⟨_,_,_,h⟩
  |ret=>exact⟨_,_,_,h⟩
 | loop vs ks a d=>
  intro env H Q h;refine h (λ_=>∃e bm H',Q e bm H') λs K hs k=>?_;obtain⟨e,bm,H',h⟩:=d hs;cases e with
  |normal=>exact k _ h
  |exit i=>exact⟨_,_,_,h⟩
  |ret=>exact⟨_,_,_,h⟩
 |exit id=>intro env H Q h;exact⟨_,_,_,h⟩
 |ret=>intro env H Q h;exact⟨_,_,_,h⟩
 |freeze t a d=>intro env H Q h;obtain⟨v,H',h⟩:=aJ.nv h;exact d h
 |i2 vs ks ops b d=>intro env H Q h;obtain⟨e,H',h⟩:=oa j ops h;exact d h
theorem sB{env:Env}{H:Z}:∀(l:List kL){K:List I→Prop},lv env H l K→∃vs,K vs
 |[],K,h=>⟨_,h⟩
 | .tmp t::r,K,h=>by obtain⟨vs,h⟩:=sB r h;exact⟨_,h⟩
 | .cell t n agg::r,K,h=>by obtain⟨v,h⟩:=Do.nv h;obtain⟨vs,h⟩:=sB r h;exact⟨_,h⟩
theorem C0(a:kM Φ){f:bw}{b:List I}{Q:ad}(h:p_ Φ f b H Q):∃v H',Q v H':=by
 obtain⟨e,bm,H',h⟩:=Lr a _ h;cases e with
 |normal=>obtain⟨vs,h⟩:=sB _ h;exact⟨_,_,h⟩
 |exit i=>exact h.elim
 |ret=>obtain⟨vs,h⟩:=sB _ h;exact⟨_,_,h⟩
end
end Rb

namespace Rb
open Go
variable{v x c y i:I}{t s:TypeId}{X V Y:Value}{cs:List I}{Vs:Array Value}{d:TypeDesc}{off sz o n:Nat}{k:IntKind}{b neg:Bool}{fields:Array Field}{f:Field}
section
variable{P:Program}{F:dk}{w:World}{G:b4}
@[simp] theorem V4 {α:Type} (a:α) (K:α→Prop):Do (some a) K=K a:=by simp[Do]
@[simp] theorem V5 {α:Type} (K:α→Prop):Do none K=False:=by simp[Do]
theorem VR.fC{n:Int}(h:VR F w G (.int k n) V):V = .int k n:=by cases h;rfl
theorem VR.iC(h:VR F w G (.bool b) V):V = .bool b:=by cases h;rfl
theorem VR.iD{s:List UInt8}(h:VR F w G (.str s) V):V = .string ⟨s.toArray⟩:=by cases h;rfl
theorem VR.m6(h:VR F w G (.agg cs) V):∃Vs,V = .agg Vs∧bo F w G cs Vs:=by cases h with|agg cs Vs hl hv=>exact⟨Vs,rfl,hl,hv⟩
theorem VR.C1(h:VR F w G (.aM cs) V):∃Vs,V = .tuple Vs∧bo F w G cs Vs:=by cases h with|aM cs Vs hl hv=>exact⟨Vs,rfl,hl,hv⟩
theorem VR.C2(h:VR F w G (.aM []) V):V = .tuple #[]:=by
 obtain⟨Vs,rfl,hs,_⟩:=h.C1;have:Vs.size=0:=by simpa using hs.symm
 rw[Array.size_eq_zero_iff.1 this]
theorem bo.agg(h:bo F w G cs Vs):VR F w G (.agg cs) (.agg Vs):= .agg cs Vs h.1 h.2
theorem bo.aM(h:bo F w G cs Vs):VR F w G (.aM cs) (.tuple Vs):= .aM cs Vs h.1 h.2
theorem bo.get(h:bo F w G cs Vs){j:Nat}(hc:cs[j]?=some c):∃V,Vs[j]?=some V∧VR F w G c V:=by have b:j<cs.length:=(Wh.1 hc).1;have a:j<Vs.size:=h.1▸b;exact⟨Vs[j],Wi a,h.2 j c _ hc (Wi a)⟩
theorem bo.m7{Vs:List Value}(hl:cs.length=Vs.length)(h:∀(j:Nat)(c:I)(V:Value),cs[j]?=some c→Vs[j]?=some V→VR F w G c V):bo F w G cs Vs.toArray:=⟨by simpa using hl,λj c V hc a=>h j c V hc (by simpa using a)⟩
theorem bo.cut(h:bo F w G cs Vs)(o n:Nat)(b:o+n≤cs.length):bo F w G ((cs.drop o).take n) (Vs.extract o (o+n)):=by
 have d:=h.1;refine⟨by simp;omega,λj c V hc a=>?_⟩;rw[Wj]at hc;split at hc
 · rename_i e;rw[Wk]at hc;rw[Wl]at a;split at a
   ·exact h.2 _ _ _ hc a
   ·cases a
 ·cases hc
def h3:TypeDesc→Bool
 | .struct _ | .array _ _=>true
 |_=>false
theorem yx{cs:Array Value}{off:Nat}{i:TypeInfo}(a:P.underlying t=some d)(b:h3 d=true)(hi:P.info? t=some i) :
  (part t cs off).run P w = .ok (.agg (cs.extract off (off+i.size))) w:=by
 cases d<;>simp[h3]at b<;>simp[part,isAgg,Wm,typeInfo,run_underlying a,hi]
theorem yy{cs:Array Value}(a:P.underlying t=some d)(b:h3 d=false)(c:cs[off]?=some V) :
  (part t cs off).run P w = .ok V w:=by
 cases d<;>simp[h3]at b<;>simp[part,isAgg,run_underlying a,c]
def h4(P:Program)(t:TypeId)(sz:Nat)(a:Bool):Bool:=
 match P.underlying t,P.info? t with
 |some d,some i=>h3 d==a&&i.size==sz&&(a||sz==1)
 |_,_=>false
theorem sC{a:Bool}(h:h4 P t sz a=true):∃d i,P.underlying t=some d∧P.info? t=some i∧h3 d=a∧i.size=sz∧(a=true∨sz=1):=by
 unfold h4 at h;split at h
 · rename_i d i b hi;simp only[Wn,b9,Wo]at h;exact⟨d,i,b,hi,h.1.1,h.1.2,h.2⟩
 ·cases h
theorem C3{agg:Bool}(ht:h4 P t sz agg=true)(h:bo F w G cs Vs)(hv:bW cs o sz agg=some v) :
  ∃V,(part t Vs o).run P w = .ok V w∧VR F w G v V:=by
 obtain⟨d,i,a,hi,b,hs,f⟩:=sC ht;unfold bW at hv;split at hv
 · rename_i hle;cases agg with
   | true=>simp at hv;subst hv;subst hs;exact⟨_,yx a b hi,(h.cut o _ hle).agg⟩
   | false=>simp at hv;obtain⟨V,c,e⟩:=h.get hv;exact⟨V,yy a b c,e⟩
 ·cases hv
theorem Ls{op:BinOp}{t:TypeId}(h:N op x y=some v)(d:VR F w G x X)(e:VR F w G y Y) :
  ∃V,(binOp op t X Y).run P w = .ok V w∧VR F w G v V:=by
 unfold N at h;split at h
 · rename_i k a g b;obtain rfl:=d.fC;obtain rfl:=e.fC;unfold gO at h;cases op<;>simp only[]at h
   case shl=>
    split at h
    ·cases h
    · rename_i c;cases h;refine⟨.int k (k.wrap (a*2^(min b.toNat k.bits))),?_,.int _ _⟩;simp[binOp,Op.shift,c]
   case shr=>
    split at h
    ·cases h
    · rename_i c;cases h;refine⟨.int k (a.fdiv (2^(min b.toNat k.bits))),?_,.int _ _⟩;simp[binOp,Op.shift,c]
   case quo=>
    split at h
    · rename_i c;cases h;obtain⟨rfl,c⟩:=c;refine⟨.int k (k.wrap (a.tdiv b)),?_,.int _ _⟩;simp[binOp,Wp,c]
    ·cases h
   case rem=>
    split at h
    · rename_i c;cases h;obtain⟨rfl,c⟩:=c;refine⟨.int k (a.tmod b),?_,.int _ _⟩;simp[binOp,Wp,c]
    ·cases h
   all_goals
    split at h
    · rename_i hk;subst hk;first
       | (have h:=show some (I.int k _)=some v from h
          cases h;refine⟨_,?_,.int _ _⟩;simp only[binOp,ne_eq,not_true_eq_false,cu];rfl)
       | (cases h
          refine⟨_,?_,.bool _⟩;simp only[binOp,ne_eq,not_true_eq_false,cu];rfl)
    ·cases h
 · rename_i s u;obtain rfl:=d.iD;obtain rfl:=e.iD;unfold CV at h;cases op<;>simp only[]at h
   case add=>
    split at h
    · rename_i hl;cases h;refine⟨_,?_,.str _⟩;have f:¬(9223372036854775807<(s.length:Int)+(u.length:Int)):=by omega
      have hs:(Wq s.toArray).size=s.length:=by simp[Wr]
      have hu:(Wq u.toArray).size=u.length:=by simp[Wr]
      have he:(Wq s.toArray++Wq u.toArray)=⟨(s++u).toArray⟩:=by apply Ws;simp
      simp[binOp,Wt,hs,hu,f,IntKind.max,Wu,Wv,he]
    ·cases h
   all_goals
    first
     |(cases h;exact⟨_,by simp[binOp,Wt],.bool _⟩)
     |cases h
 ·cases h
theorem C4(op:BinOp)(t:TypeId)(x y:Operand)(X Y:Value)(a:∀cs,X ≠ .agg cs)(b:X ≠ .nilIface):(eqGuard op t x y X Y).run P w = .ok () w:=by unfold eqGuard;cases op<;>simp;all_goals (cases X<;>simp_all)
theorem Lt(ht:P.underlying t=some .bool)(h:j9 neg x y=some v)(c:VR F w G x X)(d:VR F w G y Y) :
  ∃V,(binOp (if neg then .neq else .eql) t X Y).run P w = .ok V w∧VR F w G v V:=by
 unfold j9 at h;split at h
 · rename_i a b;obtain rfl:=c.iC;obtain rfl:=d.iC;cases h;have e:∀n,(Ww (n+1) t (.bool a) (.bool b)).run P w = .ok (a==b) w:=λn=>by
    unfold Ww;simp[run_underlying ht]
   have he:(Wx t (.bool a) (.bool b)).run P w = .ok (a==b) w:=e 9999;refine⟨_,?_,.bool _⟩;cases neg
   · show(do pure (.bool (←Wx t (.bool a) (.bool b))):Sem Value).run P w=_;simp[he]
   · show(do pure (.bool (!(←Wx t (.bool a) (.bool b)))):Sem Value).run P w=_;simp[he]
 ·cases h
def ob:TypeDesc→Option NK
 | .pointer _=>some .p
 | .slice _=>some .s
 | .map _ _=>some .m
 | .func _ _ _=>some .f
 | .interface _=>some .i
 |_=>none
def NK.nil:NK→Value
 | .p=> .pointer none
 | .s=> .slice none 0 0
 | .m=> .map none
 | .f=> .nilFunc
 | .i=> .nilIface
theorem Lu{k:NK}(a:P.underlying t=some d)(hk:ob d=some k)(h:x.isNil k=some b)(c:VR F w G x X) :
  (Wx t X k.nil).run P w = .ok b w:=by
 have key:∀n,(Ww (n+1) t X k.nil).run P w = .ok b w:=by
  intro n;unfold I.isNil at h;split at h<;>(try (cases h;done))<;>cases h;all_goals
   cases d<;>simp only[ob,Wy.injEq,reduceCtorEq]at hk;cases c<;>first|(unfold Ww;simp[NK.nil,run_underlying a];done)|contradiction
 exact key 9999
theorem Lv{k:NK}(g:P.underlying t=some d)(hk:ob d=some k)(h:pY k neg x=some v)(c:VR F w G x X) :
  ∃V,(binOp (if neg then .neq else .eql) t X k.nil).run P w = .ok V w∧VR F w G v V:=by
 unfold pY at h;cases a:x.isNil k with
 |none=>simp[a]at h
 | some b=>
  simp[a]at h;subst h;have e:=Lu (P:=P) g hk a c;have f:(neg=false→binOp .eql t X k.nil=(do pure (.bool (←Wx t X k.nil))))∧(neg=true→binOp .neq t X k.nil=(do pure (.bool (!(←Wx t X k.nil))))):=by unfold I.isNil at a;split at a<;>(try (cases a;done))<;>cases c<;>exact⟨λ_=>rfl,λ_=>rfl⟩
  refine⟨_,?_,.bool _⟩;cases neg
  · rw[iE,f.1 rfl];simp[e]
  · rw[aa rfl,f.2 rfl];simp[e]
theorem Lw{op:UnOp}(h:cM op x=some v)(a:VR F w G x X):∃V,(Op.unary op X).run P w = .ok V w∧VR F w G v V:=by
 unfold cM at h;split at h
 · obtain rfl:=a.iC;cases h;exact⟨_,rfl,.bool _⟩
 · obtain rfl:=a.fC;cases h;exact⟨_,rfl,.int _ _⟩
 · obtain rfl:=a.fC;simp only[m3,Wz,Wy.injEq]at h;subst h;exact⟨_,rfl,.int _ _⟩
 ·cases h
theorem Lx(hs:P.underlying s=some d)(ht:P.underlying t=some (.int k))(h:gP k x=some v)(a:VR F w G x X) :
  ∃V,(convert s t X).run P w = .ok V w∧VR F w G v V:=by
 unfold gP at h;split at h
 · obtain rfl:=a.fC;cases h;refine⟨_,?_,.int _ _⟩;simp[convert,run_underlying hs,run_underlying ht,Conv.intToInt]
 ·cases h
theorem Ly(hs:P.underlying s=some .string)(ht:P.underlying t=some .string)(h:pZ x=some v)(a:VR F w G x X) :
  ∃V,(convert s t X).run P w = .ok V w∧VR F w G v V:=by
 unfold pZ at h;split at h
 · obtain rfl:=a.iD;cases h;refine⟨_,?_,.str _⟩;simp[convert,run_underlying hs,run_underlying ht]
 ·cases h
theorem Lz(h:aO x=some v)(b:VR F w G x X):(∃a,X = .pointer (some a))∧VR F w G v X∨(∃f c Vs,X = .func (.func f) c Vs)∧VR F w G v X:=by
 unfold aO at h;split at h
 ·cases h;left;exact⟨by cases b;exact⟨_,rfl⟩,b⟩
 ·cases h;left;exact⟨by cases b;exact⟨_,rfl⟩,b⟩
 ·cases h;right;exact⟨by cases b<;>exact⟨_,_,_,rfl⟩,b⟩
 ·cases h
theorem LA{n off sz:Nat}{a:Bool}{x v:I}{X:Value}(ht:P.underlying t=some (.struct fields))(hf:fields[n]?=some f)(b:f.offset=off)
  (c:h4 P f.type sz a=true) (h:j_ off sz a x=some v) (d:VR F w G x X):∃V,(WA t X n).run P w = .ok V w∧VR F w G v V:=by
 unfold j_ at h;split at h
 · obtain⟨Vs,rfl,e⟩:=d.m6;subst b;obtain⟨V,g,hv⟩:=C3 (w:=w) c e h;exact⟨V,by simp[WA,run_underlying ht,hf,asAgg,g],hv⟩
 ·cases h
theorem LB{t e:TypeId}{len sz:Nat}{a:Bool}{X b:Value}(ht:P.underlying t=some (.array len e))(c:h4 P e sz a=true)(h:m4 len sz a x i=some v)
  (f:VR F w G x X) (hi:VR F w G i b):∃V,(WB t X b).run P w = .ok V w∧VR F w G v V:=by
 unfold m4 at h;split at h
 · obtain ⟨Vs,rfl,g⟩:=f.m6;obtain rfl:=hi.fC;split at h
   · rename_i j;obtain⟨V,k,hv⟩:=C3 (w:=w) c g h;obtain⟨d,inf,m,l,_,hs,_⟩:=sC c;subst hs;exact⟨V,by simp[WB,asIntOf,run_underlying ht,j,Wm,typeInfo,l,k],hv⟩
   ·cases h
 ·cases h
theorem LC{X a:Value}(ht:P.underlying t=some .string)(h:iZ x i=some v)
  (c:VR F w G x X) (hi:VR F w G i a):∃V,(WB t X a).run P w = .ok V w∧VR F w G v V:=by
 unfold iZ at h;split at h
 · rename_i s k i;obtain rfl:=c.iD;obtain rfl:=hi.fC;split at h
   · rename_i d;cases hs:s[i.toNat]? with
     |none=>simp[hs]at h
     | some b=>
      simp[hs]at h;subst h;have e:(Wq s.toArray)[i.toNat]?=some b:=by
       have f:=(Wh.1 hs).1;have he:=(Wh.1 hs).2;have g:i.toNat<(Wq s.toArray).size:=by simpa[Wr]using f
       rw[getElem?_pos (Wq s.toArray) i.toNat g];simp[WC,he]
      exact⟨_,by simp[WB,asIntOf,run_underlying ht,d,e],.int _ _⟩
   ·cases h
 ·cases h
theorem kN(b o n:Nat):(⟨b,o,none⟩:Addr).add n=⟨b,o+n,none⟩:=by
 unfold Addr.add;split
 ·rename_i h;subst h;rfl
 ·rfl
theorem yz{b o:Nat}(h:VR F w G (.ak cs) (.pointer (some ⟨b,o,none⟩)))(n:Nat):VR F w G (.ak (cs.drop n)) (.pointer (some ⟨b,o+n,none⟩)):=by
 cases h with
 | ak cs b o Vs h hv=>
  refine .ak _ _ _ (λj=>Vs (n+j)) (λj c a=>?_) (λj c a=>?_)
  · rw[Wk]at a;have:=h _ _ a;rw[←WD]at this;exact this
  · rw[Wk]at a;exact hv _ _ a
theorem LD{a:TypeInfo}{x v:I}{X:Value}(ht:P.underlying t=some (.struct fields))(hf:fields[n]?=some f)(d:f.offset=off)
  (e:P.info? f.type=some a) (g:a.size≠0) (h:M off x=some v) (c:VR F w G x X):∃V,(WE t X n).run P w = .ok V w∧VR F w G v V:=by
 subst d;have key:∀b o,X = .pointer (some ⟨b,o,none⟩)→(WE t X n).run P w = .ok (.pointer (some ⟨b,o+f.offset,none⟩)) w:=by intro b o i;subst i;simp[WE,run_underlying ht,hf,WG,fieldPlace,Wm,typeInfo,e,g,kN]
 unfold M at h;split at h
 · cases h;cases c with
   |ptr id off j=>exact⟨_,key _ _ rfl,.ptr _ _ j⟩
 · cases h;cases c with
   |ak _ b o Vs h hv=>exact⟨_,key _ _ rfl,yz (.ak _ b o Vs h hv) _⟩
 ·cases h
theorem yA{a:Bool}{A B:Prop}(h:L v a A B):∃b,v = .bool b∧if b=a then A else B:=by
 unfold L at h;split at h
 ·rename_i b;exact⟨b,rfl,h⟩
 ·exact h.elim
@[simp] theorem V6 (b want:Bool) (A B:Prop):L (.bool b) want A B=if b=want then A else B:=rfl
theorem LF{i:Nat}(h:bI i x=some v)(a:VR F w G x X):∃V,(WH X i).run P w = .ok V w∧VR F w G v V:=by
 unfold bI at h;split at h
 · obtain⟨Vs,rfl,b⟩:=a.C1;obtain⟨V,c,hv⟩:=b.get h;exact⟨V,by simp[WH,c],hv⟩
 ·cases h
theorem bo.app{cs d:List I}{Vs e:Array Value}(h:bo F w G cs Vs)(f:bo F w G d e):bo F w G (cs++d) (Vs++e):=by
 refine⟨by simp[h.1,f.1],λj c V hc a=>?_⟩;rw[WI]at hc;rw[WJ]at a;rw[h.1]at hc;split at hc
 · rename_i b;rw[aa b]at a;exact h.2 _ _ _ hc a
 · rename_i b;rw[ab b]at a;exact f.2 _ _ _ hc a
theorem bo.set(h:bo F w G cs Vs)(j:Nat)(hc:VR F w G c V):bo F w G (cs.set j c) (Vs.setIfInBounds j V):=by
 refine⟨by simp[h.1],λi d U a b=>?_⟩;rw[WK]at a;rw[WL]at b;by_cases e:j=i
 · subst e;rw[aa rfl]at a;rw[aa rfl]at b;split at a
   · rename_i f;rw[aa (h.1▸f)]at b;cases a;cases b;exact hc
   ·cases a
 · rw[ab e]at a b;exact h.2 _ _ _ a b
theorem bo.one(h:VR F w G c V):bo F w G [c] #[V]:=
 bo.m7 (Vs:=[V]) rfl λj d U a b=>by
  cases j with
  |zero=>simp at a b;subst a;subst b;exact h
  |succ j=>simp at a
theorem bo.nil:bo F w G [] #[]:=⟨rfl,λj c V hc _=>by simp at hc⟩
theorem VR.yB(hk:v.known=true)(h:VR F w G v V):bo F w G v.cells V.cells:=by
 cases v with
 | agg cs=>obtain⟨Vs,rfl,a⟩:=h.m6;exact a
 |aM _=>cases hk
 |bot=>cases hk
 | _=>
  have b:V.cells = #[V]:=by cases h<;>rfl
  rw[b];exact bo.one h
theorem VR.C5(hk:v.scalar=true)(h:VR F w G v V):V.oneCell'=true:=by cases v<;>simp[I.scalar]at hk<;>cases h<;>rfl
end
end Rb

namespace Rb
open Go
variable{x v:I}{X:Value}{t e:TypeId}{lo hi:Option I}{sz len cap l h:Nat}{inf:TypeInfo}
section
variable{P:Program}{F:dk}{w:World}{G:b4}
theorem VR.C6{cells:List I}{b o:Nat}{Vs:Nat→Value}
  (h:∀(j:Nat)(c:I),cells[j]?=some c→G.fz b (o+j)∧w.cell? ⟨b,o+j,none⟩=some (Vs j))
  (hv:∀(j:Nat)(c:I),cells[j]?=some c→VR F w G c (Vs j)) (n m:Nat) :
  (∀(j:Nat)(c:I),((cells.take m).drop n)[j]?=some c→G.fz b (o+n+j)∧w.cell? ⟨b,o+n+j,none⟩=some (Vs (n+j))) ∧
  (∀(j:Nat)(c:I),((cells.take m).drop n)[j]?=some c→VR F w G c (Vs (n+j))):=by
 have key:∀(j:Nat)(c:I),((cells.take m).drop n)[j]?=some c→cells[n+j]?=some c:=by
  intro j c a;rw[Wk,Wj]at a;split at a
  ·exact a
  ·cases a
 refine⟨λj c a=>?_,λj c a=>hv _ _ (key j c a)⟩;have:=h _ _ (key j c a);rw[←WD]at this;exact this
theorem LG{t e:TypeId}{f:Option Nat}{sz:Nat}{inf:TypeInfo}{x i v:I}{X g:Value}
  (ht:match f with|none=>P.underlying t=some (.slice e)|some n=>P.underlying t=some (.array n e))
  (hi:P.info? e=some inf) (hs:inf.size=sz) (h:aU f sz x i=some v) (c:VR F w G x X) (j:VR F w G i g) :
  ∃V,(WM t X g).run P w = .ok V w∧VR F w G v V:=by
 subst hs;unfold aU at h;split at h
 · rename_i k i;obtain rfl:=j.fC;split at h
   · rename_i tk len cells;simp only at ht;split at h
     · rename_i a;cases h;cases c with
       |fA=>simp at a;omega
       |fB=>simp at a;omega
       | av _ _ _ b o cap Vs l hle h hv=>refine⟨.pointer (some ⟨b,o+i.toNat*inf.size,none⟩),?_,yz (.ak _ b o Vs h hv) _⟩;simp[WM,asIntOf,run_underlying ht,a,Wm,typeInfo,hi,kN]
     ·cases h
   · rename_i id o len;simp only at ht;split at h
     · rename_i a;cases h;cases c with
       | row _ _ _ _ cap d hle hc=>refine⟨_,?_,.ptr _ _ d⟩;simp[WM,asIntOf,run_underlying ht,a,Wm,typeInfo,hi,kN]
     ·cases h
   · rename_i n id o;simp only at ht;split at h
     · rename_i a;cases h;cases c with
       | ptr _ _ d=>refine⟨_,?_,.ptr _ _ d⟩;simp[WM,asIntOf,run_underlying ht,a,Wm,typeInfo,hi,kN,WG]
     ·cases h
   · rename_i n cells;simp only at ht;split at h
     · rename_i a;cases h;cases c with
       | ak _ b o Vs h hv=>refine⟨.pointer (some ⟨b,o+i.toNat*inf.size,none⟩),?_,yz (.ak _ b o Vs h hv) _⟩;simp[WM,asIntOf,run_underlying ht,a,Wm,typeInfo,hi,kN,WG]
     ·cases h
   ·cases h
 ·cases h
theorem qa{n y:Nat}{a:BoundsCode}{d:Nat}(h:eJ (some x) d=some n)(b:VR F w G x X)(e:n≤y) :
  (WN X y a).run P w = .ok n w:=by
 cases x with
 | int k i=>
  obtain rfl:=b.fC;simp only[eJ]at h;split at h
  · rename_i c;cases h;have hle:0≤i∧i≤(y:Int):=⟨c,by omega⟩
    simp[WN,asIntOf,hle]
  ·cases h
 |_=>simp[eJ]at h
def kO(F:dk)(w:World)(G:b4):Option I→Option Value→Prop
 |none,none=>True
 |some x,some X=>VR F w G x X
 |_,_=>False
theorem yC{b:Bool}{a c:Option Value}(d:eJ hi len=some h)(hl:eJ lo 0=some l)(j:l≤h)(k:h≤len)(m:len≤cap)
  (e:kO F w G lo a) (f:kO F w G hi c):(WO b len cap a c none).run P w = .ok (l,h,cap) w:=by
 have g:(match c with|some v=>WN v cap (if b then .sliceAcap else .sliceAlen)|none=>pure len).run P w = .ok h w:=by
  cases hi with
  | none=>
   cases c with
   |none=>simp[eJ]at d;simp[d]
   |some _=>exact f.elim
  | some x=>
   cases c with
   |none=>exact f.elim
   |some X=>exact qa d f (At k m)
 have i:(match a with|some v=>WN v h .sliceB|none=>pure 0).run P w = .ok l w:=by
  cases lo with
  | none=>
   cases a with
   |none=>simp[eJ]at hl;simp[hl]
   |some _=>exact e.elim
  | some x=>
   cases a with
   |none=>exact e.elim
   |some X=>exact qa hl e j
 unfold WO;cases c<;>cases a<;>simp at g i ⊢ <;> simp[g,i]
theorem sD{b:Bool}{m:I}{a e:Option Value}{M:Value}{len cap l h d:Nat}(j:eJ (some m) 0=some d)(k:eJ hi len=some h)(n:hi≠none)(hl:eJ lo 0=some l)(o:l≤h)(p:h≤d)(q:d≤cap)
  (f:kO F w G lo a) (g:kO F w G hi e) (r:VR F w G m M):(WO b len cap a e (some M)).run P w = .ok (l,h,d) w:=by
 have em:∀c,(WN M cap c).run P w = .ok d w:=λc=>qa j r q;cases hi with
 |none=>exact absurd rfl n
 | some x=>
  cases e with
  |none=>exact g.elim
  | some X=>
   have s:∀c,(WN X d c).run P w = .ok h w:=λc=>qa k g p;have i:(match a with|some v=>WN v h .slice3C|none=>pure 0).run P w = .ok l w:=by
    cases lo with
    | none=>
     cases a with
     |none=>simp[eJ]at hl;simp[hl]
     |some _=>exact f.elim
    | some x=>
     cases a with
     |none=>exact f.elim
     |some X=>exact qa hl f o
   unfold WO;cases a<;>simp at i ⊢ <;> simp[em,s,i]
theorem C7(s:List UInt8):(Wq s.toArray).size=s.length:=by simp[Wr]
theorem LH{X:Value}{a c:Option Value}(ht:P.underlying t=some .string)(h:p0 x lo hi=some v)
  (f:VR F w G x X) (g:kO F w G lo a) (i:kO F w G hi c):∃V,(WQ t X a c none).run P w = .ok V w∧VR F w G v V:=by
 unfold p0 at h;split at h
 · rename_i s;obtain rfl:=f.iD;split at h
   · rename_i d l j hl;split at h
     · rename_i e;cases h;have k:=yC (P:=P) (b:=false) j hl e.1 e.2 (hT _) g i;have he:(Wq s.toArray).extract l d=⟨((s.take d).drop l).toArray⟩:=by
        rw[Lib.extract_eq];congr 1;simp[List.drop_take]
       refine⟨_,?_,.str _⟩;simp[WQ,WR,run_underlying ht,C7,k,he]
     ·cases h
   ·cases h
 ·cases h
theorem LJ{x v:I}{lo hi mx:Option I}{X:Value}{y z Mx:Option Value}(ht:P.underlying t=some (.slice e))(K:P.info? e=some inf)(hs:inf.size=sz)
  (hm:mx≠none→hi≠none) (h:c6 sz x lo hi mx=some v) (r:VR F w G x X) (n:kO F w G lo y) (p:kO F w G hi z) (k:kO F w G mx Mx) :
  ∃V,(WQ t X y z Mx).run P w = .ok V w∧VR F w G v V:=by
 subst hs;have run:∀(a:Option Addr)(len cap l h m:Nat),(WO true len cap y z Mx).run P w = .ok (l,h,m) w →
   (WQ t (.slice a len cap) y z Mx).run P w = .ok (.slice (if m=l then a else a.map (·.add (l*inf.size))) (h-l) (m-l)) w:=by
  intro a len cap l h m d;simp[WQ,WR,run_underlying ht,d,Wm,typeInfo,K]
 unfold c6 at h;split at h
 · rename_i tk len cells;split at h
   · rename_i f l g hl i;cases mx with
     |some m=>simp at i
     |none=>
     cases Mx with
     |some _=>exact k.elim
     |none=>
     split at h
     · rename_i d;have c:∀cap,len≤cap→_:=λcap hc=>yC (P:=P) (b:=true) g hl d.1 d.2.1 hc n p;split at h
       · rename_i he;cases h;obtain⟨rfl,rfl⟩:=he;cases r with
         |fA=>exact⟨_,run _ _ _ _ _ _ (c 0 (hT _)),by simpa using VR.fA⟩
         |fB a cap=>exact⟨_,run _ _ _ _ _ _ (c cap (WS _)),by simpa using VR.fB _ _⟩
         | av _ _ _ b o cap Vs q hle h hv=>refine⟨_,run _ _ _ _ _ _ (c cap hle),?_⟩;have:=VR.av (F:=F) tk f cells b o cap Vs q hle h hv;split<;>simpa[kN]using this
       · rename_i C;cases h;cases r with
         |fA=>exact absurd ⟨by omega,by omega⟩ C
         |fB a cap=>exact absurd ⟨by omega,by omega⟩ C
         | av _ _ _ b o cap Vs q hle h hv=>
          refine⟨_,run _ _ _ _ _ _ (c cap hle),?_⟩;by_cases A:cap=l
          · obtain rfl:f=cap:=by omega
            obtain rfl:f=len:=by omega
            obtain rfl:l=f:=by omega
            have s:¬l=0:=λe=>C ⟨e,rfl⟩;rw[ab s,aa rfl];have L:(cells.take (l*inf.size)).drop (l*inf.size)=[]:=by simp
            rw[L];simpa using VR.fB (some ⟨b,o,none⟩) 0
          · rw [ab A];have u:=VR.C6 (F:=F) h hv (l*inf.size) (f*inf.size);simp only[Wz,kN];refine .av _ _ _ b (o+l*inf.size) (cap-l) (λj=>Vs (l*inf.size+j)) ?_ (by omega) u.1 u.2;split
            · rename_i s;subst s;split
              · rename_i t;obtain⟨E,H,R,S⟩:=q;exact⟨E,H,by omega,by omega⟩
              ·trivial
            ·trivial
     ·cases h
   · rename_i f l m g hl i;cases mx with
     |none=>simp at i
     |some mv=>
     cases Mx with
     |none=>exact k.elim
     |some T=>
     simp at i;split at h
     · rename_i M;obtain⟨e1,N,U⟩:=M;subst e1;subst N;cases r with
       | fA=>have c:=sD (P:=P) (b:=true) (cap:=0) i g (hm (by simp)) hl (hT _) (hT _) (by omega) n p k;cases h;exact⟨_,run _ _ _ _ _ _ c,by simpa using VR.fA⟩
       | fB a cap=>have c:=sD (P:=P) (b:=true) (cap:=cap) i g (hm (by simp)) hl (hT _) (hT _) (by omega) n p k;cases h;exact⟨_,run _ _ _ _ _ _ c,by simpa using VR.fB _ _⟩
       | av _ _ _ b o cap Vs q hle W hv=>
        have c:=sD (P:=P) (b:=true) (cap:=cap) i g (hm (by simp)) hl (hT _) (hT _) (by omega) n p k;refine⟨_,run _ _ _ _ _ _ c,?_⟩;have O:v = .av .dead 0 []:=by
         cases tk with
         |nil=>exact q.elim
         |full=>cases h;rfl
         |dead=>cases h;rfl
         |own t=>cases h;rfl
        subst O;simpa using VR.fB _ _
     split at h
     · rename_i d;cases h;cases r with
       |fA=>exact absurd rfl d.2.2.2.2.1
       |fB a cap=>have E:=d.2.2.2.2.2;have H:=d.2.2.1;omega
       | av _ _ _ b o cap Vs q hle h hv=>
        obtain⟨D,B,Y,Z,ac,ad⟩:=d;have c:=sD (P:=P) (b:=true) (cap:=cap) i g (hm (by simp)) hl D B (by omega) n p k;refine⟨_,run _ _ _ _ _ _ c,?_⟩;rw[ab (show ¬m=l by omega)];have u:=VR.C6 (F:=F) h hv (l*inf.size) (f*inf.size);simp only[Wz,kN];refine .av _ _ _ b (o+l*inf.size) (m-l) (λj=>Vs (l*inf.size+j)) ?_ (Nat.sub_le_sub_right B l) u.1 u.2;split
        · rename_i e;show m-l=f-l;omega
        ·trivial
     ·cases h
   ·cases h
 · rename_i id o len ae;split at h
   · rename_i f l g hl;cases Mx with
     |some _=>exact k.elim
     |none=>
     split at h
     · rename_i d;obtain⟨D,B,rfl⟩:=d;cases r with
       | row _ _ _ _ cap J hle hc=>
        have c:=yC (P:=P) (b:=true) g hl D B hle n p;split at h
        · rename_i Q;cases h;refine⟨_,run _ _ _ _ _ _ c,?_⟩;by_cases A:cap=l
          · have s:l=0:=by omega
            subst s;rw[aa A];have:=VR.row (F:=F) (w:=w) (G:=G) id o (f-0) inf.size cap J (by omega) hc;simpa using this
          · rw[ab A];simp only[Wz,kN];refine .row id _ _ _ _ J (by omega) ?_;have:cap*inf.size=l*inf.size+(cap-l)*inf.size:=by rw[←WT];congr 1;omega
            omega
        · rename_i Q;cases h;refine⟨_,run _ _ _ _ _ _ c,?_⟩;have:f-l=0:=by omega
          rw[this];exact .fB _ _
     ·cases h
   ·cases h
 ·cases h
theorem LK{cs:List I}{Vs:Array Value}(h:bo F w G cs Vs)(a:Nat):∀(l:List I)(L:List Value)(k:Nat),l.length=L.length →
  (∀(j:Nat)(c:I)(V:Value),l[j]?=some c→L[j]?=some V→VR F w G c V) →
  bo F w G (setCells cs (a+k) l) ((L.zipIdx k).foldl (λcs (x:Value×Nat)=>cs.setIfInBounds (a+x.2) x.1) Vs):=by
 intro l;induction l generalizing cs Vs with
 | nil=>
  intro L k hl _;cases L with
  |nil=>simpa[setCells]using h
  |cons _ _=>cases hl
 | cons c l e=>
  intro L k hl b;cases L with
  |nil=>cases hl
  | cons V L=>simp only[setCells,List.zipIdx_cons,WU];rw[WD];exact e (h.set _ (b 0 c V rfl rfl)) L (k+1) (by simpa using hl) λj d U f g=>b (j+1) d U (by simpa using f) (by simpa using g)
theorem LL(l:List I):∀(cs:List I)(o:Nat),(setCells cs o l).length=cs.length:=by
 induction l with
 |nil=>intro cs o;rfl
 |cons c l a=>intro cs o;simp[setCells,a]
theorem C8{place:Nat→Option (Nat×Nat)}:∀(b:List (Nat×Nat×I)) (ps:List (Nat×Value)) (cs d:List I) (Vs:Array Value),bo F w G cs Vs→b.length=ps.length →
  (∀(j:Nat)(a:Nat×Nat×I)(p:Nat×Value),b[j]?=some a→ps[j]?=some p→place p.1=some (a.1,a.2.1)∧VR F w G a.2.2 p.2)→jk cs b=some d →
  ∃e,WV place Vs ps=some e∧bo F w G d e:=by
 intro b;induction b with
 | nil=>
  intro ps cs d Vs h hl _ hf;cases ps with
  |nil=>cases hf;exact⟨Vs,rfl,h⟩
  |cons _ _=>cases hl
 | cons a b k=>
  intro ps cs d Vs h hl f hf;cases ps with
  |nil=>cases hl
  | cons p ps=>
   obtain⟨off,sz,v⟩:=a;obtain⟨i,V⟩:=p;obtain⟨l,hv⟩:=f 0 _ _ rfl rfl;simp only[jk]at hf;split at hf
   · rename_i hk;obtain⟨m,n,z⟩:=hk;have hc:=hv.yB m;have g:=LK h off v.cells V.cells.toList 0 (by simpa using hc.1) λj c U o q=>hc.2 j c U o (by simpa using q);rw[WW]at g;obtain⟨e,r,s⟩:=k ps _ _ _ g (by simpa using hl) (λj a p t u=>f (j+1) a p (by simpa using t) (by simpa using u)) hf;refine⟨e,?_,s⟩;have y:V.cells.size=sz:=by rw[←hc.1];exact n
     have hle:¬(V.cells.size≠sz∨off+V.cells.size>Vs.size):=by rw[y,←h.1];omega
     simp only[WV,l];have A:V.cells.zipIdx.foldl (λcs (x:Value×Nat)=>cs.setIfInBounds (off+x.2) x.1) Vs=(V.cells.toList.zipIdx 0).foldl (λcs (x:Value×Nat)=>cs.setIfInBounds (off+x.2) x.1) Vs:=by rw[←Array.foldl_toList,Array.toList_zipIdx]
     rw[ab (by simpa using hle),←r];congr 1
   ·cases hf
theorem LM{d:TypeDesc}{ty:TypeId}{c:Bool}{x v:I}{X:Value}(a:P.underlying t=some d)
  (hk:if c then d = .string else ∃e,d = .slice e) (h:bj c x=some v) (b:VR F w G x X) :
  ∃V,(WX #[t] ty #[X]).run P w = .ok V w∧VR F w G v V:=by
 unfold bj at h;split at h
 · cases h;simp at hk;subst hk;obtain rfl:=b.iD;refine⟨_,?_,.int _ _⟩;simp[WX,run_underlying a,goInt,C7]
 · cases h;simp at hk;obtain⟨e,rfl⟩:=hk;cases b<;>exact⟨_,by simp[WX,run_underlying a,goInt],.int _ _⟩
 · cases h;simp at hk;obtain⟨e,rfl⟩:=hk;cases b;exact⟨_,by simp[WX,run_underlying a,goInt],.int _ _⟩
 ·cases h
theorem LN{mx:Bool}:∀(xs:List I)(Xs:List Value)(x v:I)(X:Value),p1 mx x xs=some v→VR F w G x X→xs.length=Xs.length →
  (∀(j:Nat)(c:I)(V:Value),xs[j]?=some c→Xs[j]?=some V→VR F w G c V) →
  ∃V,(Xs.foldlM (if mx then WY else WZ) X).run P w = .ok V w∧VR F w G v V:=by
 intro xs;induction xs with
 | nil=>
  intro Xs x v X h e hl _;cases Xs with
  |nil=>cases h;exact⟨X,rfl,e⟩
  |cons _ _=>cases hl
 | cons y xs i=>
  intro Xs x v X h e hl f;cases Xs with
  |nil=>cases hl
  | cons Y Xs=>
   have l:=f 0 y Y rfl rfl;simp only[p1]at h;split at h
   · rename_i z d;unfold yt at d;split at d
     · rename_i k a n b;obtain rfl:=e.fC;obtain rfl:=l.fC;cases d;obtain⟨V,g,hv⟩:=i Xs _ v _ h (.int _ _) (by simpa using hl) λj c U hc m=>f (j+1) c U (by simpa using hc) (by simpa using m);refine⟨V,?_,hv⟩;cases mx<;>simp[List.foldlM_cons,WY,WZ]at g ⊢ <;> exact g
     ·cases d
   ·cases h
end
end Rb

namespace Rb
open Go
variable{o:Obj}{i:Nat}{C:Array Value}{e:TypeId}{x:cN}
section
variable{P:Program}{F:dk}{w R:World}{G G':b4}{H H':Z}
structure du(w R:World)(o:Obj):Prop where
 heap:R.heap=w.heap.push o
 os:R.os=w.os
 tape:R.tape=w.tape
 output:R.output=w.output
theorem du.alloc(w:World)(o:Obj):du w (w.alloc o) o:=⟨rfl,rfl,rfl,rfl⟩
theorem du.drew(w:World)(o:Obj):du w (w.drew.alloc o) o:=⟨rfl,rfl,rfl,rfl⟩
theorem du.ep(h:du w R o){k:Nat}(hk:k<w.heap.size):R.heap[k]?=w.heap[k]?:=by rw[h.heap,W0,bF]
theorem du.new(h:du w R o):R.heap[w.heap.size]?=some o:=by rw[h.heap];simp
theorem du.size(h:du w R o):R.heap.size=w.heap.size+1:=by rw[h.heap];simp
theorem du.cell(h:du w R o){a:Addr}{V:Value}(hc:w.cell? a=some V):R.cell? a=some V:=by rw[W1 (w:=w) (h.ep (W2 w a hc))];exact hc
theorem gB.lt(h:gB F w G i x)(hl:x.live=true):G.loc i<w.heap.size:=by
 cases x with
 |gone=>cases hl
 |row cs=>obtain⟨C,e,hc,_⟩:=h;exact(W3.1 hc).1
 |tok n sz=>obtain⟨C,e,hc,_⟩:=h;exact(W3.1 hc).1
 |map es=>obtain⟨E,c,hc,_⟩:=h;exact(W3.1 hc).1
 |hB s pos=>exact(W3.1 h.1).1
 |ha T u b=>obtain⟨v,hc,_⟩:=h;exact(W3.1 hc).1
 |m2 U bs=>obtain⟨C,z,hc,_⟩:=h;exact(W3.1 hc).1
theorem Rel.h5(h:Rel F w G H)(hl:(H.o i).live=true):i<G.n:=by
 rw[h.n];rcases Gd i H.n with a|a
 ·exact a
 ·rw[h.over i a]at hl;cases hl
theorem gB.ca(h:gB F w G i x)(a:GLe w G R G')(hi:x.live=true→i<G.n)(l:x.live=true→R.heap[G.loc i]?=w.heap[G.loc i]?)
  (hf:x.live=true→∀j,G'.fz (G.loc i) j→G.fz (G.loc i) j):gB F R G' i x:=by
 cases x with
 |gone=>trivial
 | row cs=>
  obtain⟨C,e,hc,hs,f,hv⟩:=h;refine⟨C,e,?_,?_,?_,λj c d=>?_⟩
  ·rw[a.loc i (hi rfl),l rfl];exact hc
  ·rw[a.cap i (hi rfl)];exact hs
  ·rw[a.loc i (hi rfl)];exact λj d=>f j (hf rfl j d)
  ·obtain⟨V,p,q⟩:=hv j c d;exact⟨V,p,q.mono a⟩
 | tok n sz=>
  obtain⟨C,e,hc,hs,hk,f⟩:=h;refine⟨C,e,?_,?_,hk,?_⟩
  ·rw[a.loc i (hi rfl),l rfl];exact hc
  ·rw[a.cap i (hi rfl)];exact hs
  ·rw[a.loc i (hi rfl)];exact λj r d=>f j r (hf rfl j d)
 | map es=>
  obtain⟨E,t,hc,hs,f,hv⟩:=h;refine⟨E,t,?_,hs,?_,λj k v d=>?_⟩
  ·rw[a.loc i (hi rfl),l rfl];exact hc
  ·rw[a.loc i (hi rfl)];exact λj d=>f j (hf rfl j d)
  ·obtain⟨e,he,m,g⟩:=hv j k v d;exact⟨e,he,m.mono a,g.mono a⟩
 | hB s pos=>
  obtain⟨hc,f⟩:=h;refine⟨?_,?_⟩
  ·rw[a.loc i (hi rfl),l rfl];exact hc
  ·rw[a.loc i (hi rfl)];exact λj d=>f j (hf rfl j d)
 | ha T u b=>
  obtain⟨v,hc,f,hv⟩:=h;refine⟨v,?_,?_,?_⟩
  ·rw[a.loc i (hi rfl),l rfl];exact hc
  ·rw[a.loc i (hi rfl)];exact λj d=>f j (hf rfl j d)
  · rcases hv with hv|⟨j,n,m,g,o⟩
    ·exact .inl hv
    ·exact .inr ⟨j,n,m,AH g a.n,by rw[a.loc j g,a.cap j g];exact o⟩
 | m2 U bs=>
  obtain⟨C,z,hc,hs,m,g,o,f,y⟩:=h;refine⟨C,z,?_,?_,m,?_,?_,?_,y⟩
  ·rw[a.loc i (hi rfl),l rfl];exact hc
  ·rw[a.cap i (hi rfl)];exact hs
  ·rw[a.cap i (hi rfl)];exact g
  ·rw[a.cap i (hi rfl)];exact o
  ·rw[a.loc i (hi rfl)];exact λj d=>f j (hf rfl j d)
theorem Rel.kill(h:Rel F w G H)(i:Nat)(hi:i<H.n):Rel F w G (H.set i .gone)∧Step w G H w G (H.set i .gone):=by
 have b:∀j,((H.set i .gone).o j).live=true→(H.o j).live=true∧(H.set i .gone).o j=H.o j:=by
  intro j a;simp only[Z.set]at a ⊢;split at a
  ·cases a
  ·rename_i c;exact⟨a,ab c⟩
 refine⟨⟨h.n,λj a=>?_,λj=>?_,λj k d e f=>h.gk j k d (b j e).1 (b k f).1,h.gN⟩,?_⟩
 · simp only[Z.set]at a ⊢;split
   ·rfl
   ·exact h.over j a
 · simp only[Z.set];split
   ·trivial
   ·exact h.obj j
 ·exact {GLe.refl w G with size:=hT _,os:=rfl,tape:=rfl,output:=rfl,ep:=λ_ _ _=>rfl,owned:=λj a _=>⟨j,(b j a).1,rfl⟩,gC:=λ_ _ h=> .inl h}
def b4.dT(G:b4)(b lo hi:Nat):b4:={G with fz:=λx y=>G.fz x y∨(x=b∧lo≤y∧y<hi)}
def b4.more(G:b4)(b c:Nat):b4:={G with n:=G.n+1,loc:=λi=>if i=G.n then b else G.loc i,cap:=λi=>if i=G.n then c else G.cap i}
theorem GLe.dT(h:du w R o)(b lo hi:Nat):GLe w G R (G.dT b lo hi):=⟨hT _,λ_ _=>rfl,λ_ _=>rfl,λ_ _ hf=> .inl hf,λ_ _ _ _ hc=>h.cell hc⟩
theorem GLe.more(h:du w R o)(b c:Nat):GLe w G R (G.more b c):=⟨W4 _,λi hi=>ab (W5 hi),λi hi=>ab (W5 hi),λ_ _ hf=>hf,λ_ _ _ _ hc=>h.cell hc⟩
theorem GLe.yD(h:du w R o)(b lo hi a c:Nat):GLe w G R ((G.dT b lo hi).more a c):=⟨W4 _,λi hi=>ab (W5 hi),λi hi=>ab (W5 hi),λ_ _ hf=> .inl hf,λ_ _ _ _ hc=>h.cell hc⟩
theorem Rel.frozen(h:Rel F w G H)(a:du w R (.cells C e)) :
  Rel F R (G.dT w.heap.size 0 C.size) H∧Step w G H R (G.dT w.heap.size 0 C.size) H:=by
 have f:=GLe.dT (G:=G) a w.heap.size 0 C.size;have g:∀i,(H.o i).live=true→G.loc i≠w.heap.size:=λi hl=>W5 ((h.obj i).lt hl);refine⟨⟨h.n,h.over,λi=>(h.obj i).ca f (λhl=>h.h5 hl) (λhl=>a.ep ((h.obj i).lt hl)) λhl j c=>?_,h.gk,λb o d=>?_⟩,?_⟩
 · rcases c with c|⟨c,_⟩
   ·exact c
   ·exact absurd c (g i hl)
 · rcases d with d|⟨rfl,_,l⟩
   ·obtain⟨V,m⟩:=h.gN b o d;exact⟨V,a.cell m⟩
   ·exact⟨C[o],by rw[cell_of_row R _ o C e (0,0) a.new];exact Wi l⟩
 ·exact {f with size:=by rw[a.size];omega,os:=a.os,tape:=a.tape,output:=a.output,ep:=λk hk _=>a.ep hk,owned:=λi hl _=>⟨i,hl,rfl⟩,gC:=λb o hf=>hf.imp id λhf=> .inl (W6 hf.1.symm)}
theorem Rel.frozenAt(h:Rel F w G H)(a:du w R o)(n:Nat)(hc:∀j,j<n→∃V,R.cell? ⟨w.heap.size,j,none⟩=some V) :
  Rel F R (G.dT w.heap.size 0 n) H∧Step w G H R (G.dT w.heap.size 0 n) H:=by
 have e:=GLe.dT (G:=G) a w.heap.size 0 n;have f:∀i,(H.o i).live=true→G.loc i≠w.heap.size:=λi hl=>W5 ((h.obj i).lt hl);refine⟨⟨h.n,h.over,λi=>(h.obj i).ca e (λhl=>h.h5 hl) (λhl=>a.ep ((h.obj i).lt hl)) λhl j c=>?_,h.gk,λb o d=>?_⟩,?_⟩
 · rcases c with c|⟨c,_⟩
   ·exact c
   ·exact absurd c (f i hl)
 · rcases d with d|⟨rfl,_,g⟩
   ·obtain⟨V,l⟩:=h.gN b o d;exact⟨V,a.cell l⟩
   ·exact hc o g
 ·exact {e with size:=by rw[a.size];omega,os:=a.os,tape:=a.tape,output:=a.output,ep:=λk hk _=>a.ep hk,owned:=λi hl _=>⟨i,hl,rfl⟩,gC:=λb o hf=>hf.imp (λh=>h) λhf=> .inl (W6 hf.1.symm)}
theorem LO(b:du w R (.cells C e)){cs:List I}(hv:bo F w G cs C) :
  (∀(j:Nat)(c:I),cs[j]?=some c→(G.dT w.heap.size 0 C.size).fz w.heap.size (0+j)∧R.cell? ⟨w.heap.size,0+j,none⟩=some (C.getD j undef)) ∧
  (∀(j:Nat)(c:I),cs[j]?=some c→VR F R (G.dT w.heap.size 0 C.size) c (C.getD j undef)):=by
 have f:=GLe.dT (G:=G) b w.heap.size 0 C.size;have key:∀(j:Nat)(c:I),cs[j]?=some c→C[j]?=some (C.getD j undef)∧j<C.size:=by intro j c a;have d:j<C.size:=hv.1▸(Wh.1 a).1;exact⟨by simp[d],d⟩
 refine⟨λj c a=>?_,λj c a=>(hv.2 j c _ a (key j c a).1).mono f⟩;rw[W7];exact⟨.inr ⟨rfl,WS _,(key j c a).2⟩,by rw[cell_of_row R _ j C e (0,0) b.new];exact(key j c a).1⟩
theorem Rel.push(h:Rel F w G H)(a:du w R (.cells C e))(hi c:Nat)(E:hi≤C.size)(x:cN)
  (z:gB F R ((G.dT w.heap.size 0 hi).more w.heap.size c) H.n x) :
  Rel F R ((G.dT w.heap.size 0 hi).more w.heap.size c) (H.push x)∧Step w G H R ((G.dT w.heap.size 0 hi).more w.heap.size c) (H.push x):=by
 have v:=GLe.yD (G:=G) a w.heap.size 0 hi w.heap.size c;have A:=h.n;have s:∀i,(H.o i).live=true→G.loc i≠w.heap.size:=λi hl=>W5 ((h.obj i).lt hl);have l:∀i,i≠H.n→((G.dT w.heap.size 0 hi).more w.heap.size c).loc i=G.loc i:=λi hi=>ab (show ¬i=G.n by omega);have t:((G.dT w.heap.size 0 hi).more w.heap.size c).loc H.n=w.heap.size:=aa A.symm;have d:∀i,i≠H.n→(H.push x).o i=H.o i:=λi hi=>ab hi;refine⟨⟨by show G.n+1=H.n+1;omega,λi f=>?_,λi=>?_,λi j B q r=>?_,λb o u=>?_⟩,?_⟩
 · have y:H.n+1≤i:=f;rw[d i (by omega)];exact h.over i (by omega)
 · by_cases g:i=H.n
   · subst g;show gB F R _ H.n (if H.n=H.n then x else H.o H.n);rw[aa rfl];exact z
   · rw[d i g];refine(h.obj i).ca v (λhl=>h.h5 hl) (λhl=>a.ep ((h.obj i).lt hl)) λhl j m=>?_;rcases m with m|⟨m,_⟩
     ·exact m
     ·exact absurd m (s i hl)
 · by_cases f:i=H.n<;>by_cases p:j=H.n
   ·omega
   ·rw[f,t,l j p];rw[d j p]at r;exact(s j r).symm
   ·rw[p,t,l i f];rw[d i f]at q;exact s i q
   ·rw[l i f,l j p];rw[d i f]at q;rw[d j p]at r;exact h.gk i j B q r
 · rcases u with u|⟨rfl,_,I⟩
   ·obtain⟨V,D⟩:=h.gN b o u;exact⟨V,a.cell D⟩
   ·exact⟨C[o],by rw[cell_of_row R _ o C e (0,0) a.new];exact Wi (by omega)⟩
 · refine {v with size:=by rw[a.size];omega,os:=a.os,tape:=a.tape,output:=a.output,ep:=λk hk _=>a.ep hk,owned:=λi hl y=>?_,gC:=λb o hf=>hf.imp id λhf=> .inl (W6 hf.1.symm)};by_cases g:i=H.n
   ·rw[g,t]at y;omega
   · rw[d i g]at hl;exact⟨i,hl,(l i g).symm⟩
theorem Rel.sG(h:Rel F w G H)(a:du w R o)(c:Nat)(x:cN)(u:gB F R (G.more w.heap.size c) H.n x) :
  Rel F R (G.more w.heap.size c) (H.push x)∧Step w G H R (G.more w.heap.size c) (H.push x):=by
 have r:=GLe.more (G:=G) a w.heap.size c;have v:=h.n;have s:∀i,(H.o i).live=true→G.loc i≠w.heap.size:=λi hl=>W5 ((h.obj i).lt hl);have g:∀i,i≠H.n→(G.more w.heap.size c).loc i=G.loc i:=λi hi=>ab (show ¬i=G.n by omega);have q:(G.more w.heap.size c).loc H.n=w.heap.size:=aa v.symm;have d:∀i,i≠H.n→(H.push x).o i=H.o i:=λi hi=>ab hi;refine⟨⟨by show G.n+1=H.n+1;omega,λi e=>?_,λi=>?_,λi j y m p=>?_,λb o z=>?_⟩,?_⟩
 · have t:H.n+1≤i:=e;rw[d i (by omega)];exact h.over i (by omega)
 · by_cases f:i=H.n
   · subst f;show gB F R _ H.n (if H.n=H.n then x else H.o H.n);rw[aa rfl];exact u
   · rw[d i f];exact(h.obj i).ca r (λhl=>h.h5 hl) (λhl=>a.ep ((h.obj i).lt hl)) λ_ _ A=>A
 · by_cases e:i=H.n<;>by_cases l:j=H.n
   ·omega
   ·rw[e,q,g j l];rw[d j l]at p;exact(s j p).symm
   ·rw[l,q,g i e];rw[d i e]at m;exact s i m
   ·rw[g i e,g j l];rw[d i e]at m;rw[d j l]at p;exact h.gk i j y m p
 ·obtain⟨V,B⟩:=h.gN b o z;exact⟨V,a.cell B⟩
 · refine {r with size:=by rw[a.size];omega,os:=a.os,tape:=a.tape,output:=a.output,ep:=λk hk _=>a.ep hk,owned:=λi hl t=>?_,gC:=λ_ _ h=> .inl h};by_cases f:i=H.n
   ·rw[f,q]at t;omega
   · rw[d i f]at hl;exact⟨i,hl,(g i f).symm⟩
theorem Rel.LP(h:Rel F w G H)(a:du w R o):Rel F R G H∧Step w G H R G H:=by
 have c:GLe w G R G:=⟨hT _,λ_ _=>rfl,λ_ _=>rfl,λ_ _ hf=>hf,λ_ _ _ _ hc=>a.cell hc⟩
 refine⟨⟨h.n,h.over,λi=>(h.obj i).ca c (λhl=>h.h5 hl) (λhl=>a.ep ((h.obj i).lt hl)) λ_ _ d=>d,h.gk,λb o e=>?_⟩,?_⟩
 ·obtain⟨V,f⟩:=h.gN b o e;exact⟨V,a.cell f⟩
 ·exact {c with size:=by rw[a.size];omega,os:=a.os,tape:=a.tape,output:=a.output,ep:=λk hk _=>a.ep hk,owned:=λi hl _=>⟨i,hl,rfl⟩,gC:=λ_ _ h=> .inl h}
theorem Rel.yE(h:Rel F w G H){b c:Nat}(m:∀i,(H.o i).live=true→G.loc i≠b)(x:cN)(r:GLe w G w (G.more b c)→gB F w (G.more b c) H.n x) :
  GLe w G w (G.more b c)∧Rel F w (G.more b c) (H.push x):=by
 have l:GLe w G w (G.more b c):=⟨W4 _,λi hi=>ab (W5 hi),λi hi=>ab (W5 hi),λ_ _ hf=>hf,λ_ _ _ _ hc=>hc⟩
 have s:=h.n;have f:∀i,i≠H.n→(G.more b c).loc i=G.loc i:=λi hi=>ab (show ¬i=G.n by omega);have p:(G.more b c).loc H.n=b:=aa s.symm;have d:∀i,i≠H.n→(H.push x).o i=H.o i:=λi hi=>ab hi;refine⟨l,⟨by show G.n+1=H.n+1;omega,λi a=>?_,λi=>?_,λi j t g k=>?_,h.gN⟩⟩
 · have v:H.n+1≤i:=a;rw[d i (by omega)];exact h.over i (by omega)
 · by_cases q:i=H.n
   · subst q;show gB F w _ H.n (if H.n=H.n then x else H.o H.n);rw[aa rfl];exact r l
   · rw[d i q];exact(h.obj i).ca l (λhl=>h.h5 hl) (λ_=>rfl) λ_ _ u=>u
 · by_cases a:i=H.n<;>by_cases e:j=H.n
   ·omega
   ·rw[a,p,f j e];rw[d j e]at k;exact(m j k).symm
   ·rw[e,p,f i a];rw[d i a]at g;exact m i g
   ·rw[f i a,f j e];rw[d i a]at g;rw[d j e]at k;exact h.gk i j t g k
structure kh(w R:World)(g:Nat):Prop where
 size:R.heap.size=w.heap.size
 other:∀k,k≠g→R.heap[k]?=w.heap[k]?
 os:R.os=w.os
 tape:R.tape=w.tape
 output:R.output=w.output
theorem kh.setRow(w:World)(g:Nat)(C:Array Value):kh w (w.setRow g C) g:=⟨by simp[W8],λk hk=>by simp[W8,W9,W_ hk],rfl,rfl,rfl⟩
theorem Rel.write(h:Rel F w G H)(hl:(H.o i).live=true)(m:∀j,¬G.fz (G.loc i) j)(ht:kh w R (G.loc i))(x:cN)(z:x.live=true)(p:GLe w G R G→gB F R G i x) :
  Rel F R G (H.set i x)∧Step w G H R G (H.set i x):=by
 have d:GLe w G R G:=⟨hT _,λ_ _=>rfl,λ_ _=>rfl,λ_ _ hf=>hf,λb o V hf hc=>by have f:b≠G.loc i:=λe=>m o (e▸hf);rw[W1 (w:=w) (ht.other b f)];exact hc⟩
 have A:i<H.n:=h.n▸h.h5 hl;have g:∀j,j≠i→(H.set i x).o j=H.o j:=λj c=>ab c;have q:(H.set i x).o i=x:=aa rfl;refine⟨⟨h.n,λj c=>?_,λj=>?_,λj k r s t=>?_,λb o f=>?_⟩,?_⟩
 · have u:H.n≤j:=c;rw[g j (by omega)];exact h.over j u
 · by_cases a:j=i
   ·subst a;rw[q];exact p d
   · rw[g j a];exact(h.obj j).ca d (λhl=>h.h5 hl) (λl=>ht.other _ (h.gk j i a l hl)) λ_ _ hf=>hf
 · have key:∀j,((H.set i x).o j).live=true→(H.o j).live=true:=by
     intro j c;by_cases a:j=i
     ·subst a;exact hl
     ·rw[g j a]at c;exact c
   exact h.gk j k r (key j s) (key k t)
 · obtain⟨V,v⟩:=h.gN b o f;exact⟨V,d.cell b o V f v⟩
 · refine {d with size:=by rw[ht.size];exact hT _,os:=ht.os,tape:=ht.tape,output:=ht.output,ep:=λk _ y=>ht.other k (λe=>y i hl e.symm),owned:=λj l _=>?_,gC:=λ_ _ h=> .inl h};by_cases a:j=i
   ·subst a;exact⟨j,hl,rfl⟩
   ·rw[g j a]at l;exact⟨j,l,rfl⟩
end
end Rb

namespace Rb
open Go
variable{cs:List I}{o b n:Nat}{t:TypeId}{agg:Bool}{v x:I}{X:Value}
section
variable{P:Program}{F:dk}{w:World}{G:b4}{H:Z}
def hG(F:dk)(w:World)(G:b4)(H:Z)(v:I)(H':Z)(r:Result Value):Prop:=∃V R G',r = .ok V R∧VR F R G' v V∧Rel F R G' H'∧Step w G H R G' H'
def kP(F:dk)(w:World)(G:b4)(b o:Nat)(cs:List I):Prop:=∀(j:Nat)(c:I),cs[j]?=some c→∃V,w.cell? ⟨b,o+j,none⟩=some V∧VR F w G c V
theorem kP.m8(h:kP F w G b o cs):∃Vs:List Value,bo F w G cs Vs.toArray∧∀(j:Nat)(V:Value),Vs[j]?=some V→w.cell? ((⟨b,o,none⟩:Addr).add j)=some V:=by
 refine⟨(Xa cs.length).map λj=>(w.cell? ⟨b,o+j,none⟩).getD undef,bo.m7 (by simp) λj c V hc a=>?_,λj V a=>?_⟩
 · obtain⟨U,f,g⟩:=h j c hc;have e:=(Wh.1 hc).1;simp[e,f]at a;subst a;exact g
 · rw [kN];simp only[Xb]at a;cases d:(Xa cs.length)[j]? with
   |none=>simp[d]at a
   | some i=>
    have e:j<cs.length:=by have:=(Wh.1 d).1;simpa using this
    have:i=j:=by simp[e]at d;exact d.symm
    subst this;simp[d]at a;obtain⟨U,f,g⟩:=h i cs[i] (Xc e);rw[f]at a ⊢;simpa using a
theorem kP.cut(h:kP F w G b o cs)(n m:Nat):kP F w G b (o+n) ((cs.drop n).take m):=by
 intro j c a;rw[Wj]at a;split at a
 · rw[Wk]at a;obtain⟨V,d,e⟩:=h _ _ a;exact⟨V,by rw[WD];exact d,e⟩
 ·cases a
theorem C9{n o b a:Nat}(i:h4 P t n agg=true)(h:bW cs o n agg=some v)(hc:kP F w G b a cs) :
  ∃V,(loadVar t ⟨b,a+o,none⟩).run P w = .ok V w∧VR F w G v V:=by
 obtain⟨d,inf,c,hi,e,hs,m⟩:=sC i;unfold bW at h;split at h
 · rename_i hle;cases agg with
   | true=>
    simp at h;subst h;obtain⟨Vs,f,j⟩:=(hc.cut o n).m8;have hlen:Vs.length=n:=by have:=f.1;simp at this;omega
    have g:=run_loadCells_list (P:=P) w ⟨b,a+o,none⟩ Vs j;rw[hlen]at g;refine⟨_,?_,f.agg⟩;cases d<;>simp[h3]at e<;>simp[loadVar,isAgg,Wm,typeInfo,run_underlying c,hi,hs,g]
   | false=>simp at h;obtain⟨V,k,l⟩:=hc _ _ h;refine⟨V,?_,l⟩;cases d<;>simp[h3]at e<;>simp[loadVar,isAgg,run_underlying c,k]
 ·cases h
theorem gB.sH{i:Nat}(h:gB F w G i (.row cs)):kP F w G (G.loc i) 0 cs:=by obtain⟨C,e,hc,hs,f,hv⟩:=h;intro j c a;obtain⟨V,b,d⟩:=hv j c a;exact⟨V,by rw[W7,cell_of_row w _ j C e (0,0) hc];exact b,d⟩
theorem VR.LQ(h:VR F w G (.ak cs) (.pointer (some ⟨b,o,none⟩))):kP F w G b o cs:=by
 cases h with
 |ak _ b o Vs h hv=>exact λj c a=>⟨Vs j,(h j c a).2,hv j c a⟩
theorem VR.LS(h:VR F w G (.ak cs) X):∃b o,X = .pointer (some ⟨b,o,none⟩):=by
 cases h with
 |ak _ b o Vs h hv=>exact⟨b,o,rfl⟩
theorem yF(e:h4 P t n agg=true)(g:Rel F w G H)(h:O H n agg x=some v)(c:VR F w G x X) :
  ∃V,(Xd t X).run P w = .ok V w∧VR F w G v V:=by
 unfold O at h;split at h
 · rename_i id o;split at h
   · rename_i cs i;have f:=g.obj id;rw[i]at f;obtain⟨V,a,d⟩:=C9 e h f.sH;rw[W7]at a;cases c with
     |ptr _ _ j=>exact⟨V,by simp[Xd,WG,a],d⟩
   ·cases h
 · rename_i cs;obtain⟨b,o,rfl⟩:=c.LS;obtain⟨V,a,d⟩:=C9 e h c.LQ;exact⟨V,by simp[Xd,WG];simpa using a,d⟩
 ·cases h
theorem C_(l:List I):∀(cs:List I)(o j:Nat),o+l.length≤cs.length→(setCells cs o l)[j]?=if o≤j∧j<o+l.length then l[j-o]? else cs[j]?:=by
 induction l with
 |nil=>intro cs o j _;simp[setCells];intro b a;omega
 | cons c l d=>
  intro cs o j hl;simp only[List.length_cons]at hl;rw[setCells,d _ _ _ (by simp;omega)];by_cases b:j=o
  · subst b;rw[bF,ki,Xe (by omega)];simp
  · by_cases a:o+1≤j∧j<o+1+l.length
    · rw[aa a,oc];have:j-o=(j-(o+1))+1:=by omega
      rw[this];simp
    · rw[ab a,Xf (by omega),jo]
theorem yG(C:Array Value)(L:List Value)(o j:Nat)(h:o+L.length≤C.size) :
  (C.toList.take o++L++C.toList.drop (o+L.length)).toArray[j]?=if o≤j∧j<o+L.length then L[j-o]? else C[j]?:=by
 simp only[Xg];rw[List.append_assoc,WI];have b:(C.toList.take o).length=o:=by simp;omega
 rw[b];by_cases a:j<o
 ·rw[aa a,bF,Wj,aa a];simp
 · rw [ab a,WI];by_cases c:j<o+L.length
   ·rw[df,df]
   · rw[bF,bF,Wk];have:o+L.length+(j-o-L.length)=j:=by omega
     rw[this];simp
theorem sI{id o:Nat}{cs l:List I}{L:List Value}(g:Rel F w G H)(h:H.o id = .row cs)(hl:bo F w G l L.toArray)(q:o+l.length≤cs.length)(r:l.all I.scalar=true) :
  ∃R,(storeCells ⟨G.loc id,o,none⟩ L).run P w = .ok () R∧Rel F R G (H.set id (.row (setCells cs o l)))∧Step w G H R G (H.set id (.row (setCells cs o l))):=by
 have i:=g.obj id;rw[h]at i;obtain⟨C,e,hc,hs,k,hv⟩:=i;have x:cs.length≤C.size:=by
  rcases Gd C.size cs.length with d|s
  · obtain⟨V,b,_⟩:=hv C.size cs[C.size] (Xc d);simp at b
  ·exact s
 have y:l.length=L.length:=by simpa using hl.1
 have t:o+0+L.length≤C.size:=by omega
 have m:=run_storeCells_at P (G.loc id) o e L 0 C w hc t (λV b=>by
   obtain⟨j,a,rfl⟩:=Xh.1 b;have n:j<l.length:=by omega
   have f:=hl.2 j l[j] L[j] (Xc n) (by simp[a]);exact f.C5 (Xi.1 r _ (Xj n)))
 simp only[WW]at m;refine⟨_,m,?_⟩;have u:(H.o id).live=true:=by rw[h];rfl
 refine g.write u k (kh.setRow w _ _) _ rfl λp=>⟨_,e,setRow_heap w (G.loc id) C _ e (0,0) hc,?_,k,λj c a=>?_⟩
 ·rw[←hs];simp;omega
 · rw [C_ l cs o j q]at a;rw[yG C L o j (by omega)];split at a
   · rename_i v;rw[df];have d:j-o<L.length:=by omega
     exact⟨L[j-o],Xc d,(hl.2 (j-o) c L[j-o] a (by simp[d])).mono p⟩
   · rename_i v;rw[bF];obtain⟨V,b,f⟩:=hv j c a;exact⟨V,b,f.mono p⟩
theorem LU{X V:Value}{H':Z}(a:h4 P t n agg=true)(b:Rel F w G H)(h:ax H n x v=some H')(c:VR F w G x X)(hv:VR F w G v V) :
  ∃R,(Xk t X V).run P w = .ok () R∧Rel F R G H'∧Step w G H R G H':=by
 obtain⟨d,inf,m,hi,p,hs,q⟩:=sC a;unfold ax at h;split at h
 · rename_i id o;split at h
   · rename_i cs e;split at h
     · rename_i hk;obtain⟨f,r,g,s⟩:=hk;cases h;have hc:=hv.yB f;obtain⟨R,i,j⟩:=sI (P:=P) (o:=o) (l:=v.cells) (L:=V.cells.toList) b e (by simpa using hc) (by omega) g;cases c with
       | ptr _ _ u=>
        refine⟨R,?_,j⟩;have k:V.cells.size=inf.size:=by rw[←hc.1];omega
        simp[Xk,WG,storeVar,Wm,typeInfo,hi,k];exact i
     ·cases h
   ·cases h
 ·cases h
end
end Rb

namespace Rb
open Go
variable{t e:TypeId}{mu:Bool}{C:Array Value}{cs zero:List I}{inf:TypeInfo}{z X:Value}{H':Z}
section
variable{P:Program}{F:dk}{w R:World}{G:b4}{H:Z}
theorem Rel.od(h:Rel F w G H)(j:Nat):¬G.fz w.heap.size j:=λhf=>by obtain⟨V,a⟩:=h.gN _ _ hf;have:=W2 w _ a;simp at this
theorem sJ(d:Rel F w G H)(f:du w R (.cells C e))(hv:∀(j:Nat)(c:I),cs[j]?=some c→∃V,C[j]?=some V∧VR F w G c V) :
  ∃G',Rel F R G' (H.push (.row cs))∧Step w G H R G' (H.push (.row cs))∧H.n<G'.n∧G'.loc H.n=w.heap.size∧G'.cap H.n=C.size:=by
 have h:=d.n;have g:((G.dT w.heap.size 0 0).more w.heap.size C.size).loc H.n=w.heap.size:=aa h.symm;have i:((G.dT w.heap.size 0 0).more w.heap.size C.size).cap H.n=C.size:=aa h.symm;have b:=d.push f 0 C.size (WS _) (.row cs) ⟨C,e,by rw[g];exact f.new,i.symm,λj a=>by
   rw[g]at a;rcases a with a|⟨_,_,a⟩
   ·exact d.od j a
   ·omega,λj c a=>by
   obtain⟨V,k,b⟩:=hv j c a;exact⟨V,k,b.mono (GLe.yD f _ _ _ _ _)⟩⟩
 exact⟨_,b.1,b.2,by show H.n<G.n+1;omega,g,i⟩
theorem bo.part(h:bo F w G cs C):∀(j:Nat)(c:I),cs[j]?=some c→∃V,C[j]?=some V∧VR F w G c V:=λj c a=>h.get a
theorem yH(c:Rel F w G H)(a:du w R (.cells C e))(hv:bo F w G cs C) :
  ∃G',Rel F R G' H∧Step w G H R G' H∧VR F R G' (.ak cs) (.pointer (some ⟨w.heap.size,0,none⟩))∧∀len,VR F R G' (.av .full len cs) (.slice (some ⟨w.heap.size,0,none⟩) len len):=by
 have b:=c.frozen a;have hc:=LO (G:=G) a hv;exact⟨_,b.1,b.2,.ak _ _ _ _ hc.1 hc.2,λlen=> .av _ _ _ _ _ _ _ rfl (hT _) hc.1 hc.2⟩
theorem Da{e:TypeId}{mu:Bool}(c:Rel F w G H)(hv:bo F w G cs C) :
  hG F w G H (aR H mu cs).1 (aR H mu cs).2 (.ok (.pointer (some ⟨w.heap.size,0,none⟩)) (w.alloc (.cells C e))):=by
 unfold aR;cases mu with
 | true=>obtain⟨G',a,b,d,f,h⟩:=sJ c (du.alloc w (.cells C e)) hv.part;exact⟨_,_,G',rfl,by rw[←f];exact .ptr _ _ d,a,b⟩
 | false=>obtain⟨G',a,b,g,_⟩:=yH c (du.alloc w (.cells C e)) hv;exact⟨_,_,G',rfl,g,a,b⟩
theorem LV{t:TypeId}{n:Nat}{x v:I}(a:Rel F w G H)(h:bg H mu n x=some (v,H'))(b:VR F w G x X) :
  hG F w G H v H' ((Xl t X).run P w):=by
 unfold bg at h;split at h
 · rename_i hk;have c:=Da (e:=t) (mu:=mu) a (b.yB hk.1);have d:(Xl t X).run P w = .ok (.pointer (some ⟨w.heap.size,0,none⟩)) (w.alloc (.cells X.cells t)):=by
    simp[Xl,newVar,newRow]
   rw[d];have e:=Wy.inj h;rw[show v=(aR H mu x.cells).1 from(congrArg Prod.fst e).symm,show H'=(aR H mu x.cells).2 from(congrArg Prod.snd e).symm];exact c
 ·cases h
theorem range_zero:Xm 0 = #[]:=rfl
theorem LW{mu:Bool}(a:Rel F w G H)(hi:P.info? t=some inf)(b:inf.zero=some z)(hv:bo F w G zero z.cells) :
  hG F w G H (aR H mu zero).1 (aR H mu zero).2 ((Xn t true (.tuple #[])).run P w):=by
 have c:=Da (e:=t) (mu:=mu) a hv;have d:(Xn t true (.tuple #[])).run P w = .ok (.pointer (some ⟨w.heap.size,0,none⟩)) (w.alloc (.cells z.cells t)):=by simp[Xn,zeroValue,typeInfo,hi,b,newVar,newRow]
 rw[d];exact c
theorem LX(a:Rel F w G H)(hi:P.info? t=some inf)(e:inf.zero=some z)(hc:z.cells = #[.pointer none,.slice none 0 0]) :
  hG F w G H (.ptr H.n 0) (H.push (.ha t false none)) ((Xn t true (.tuple #[])).run P w):=by
 have b:(Xn t true (.tuple #[])).run P w = .ok (.pointer (some ⟨w.heap.size,0,none⟩)) (w.alloc (.cells #[.pointer none,.slice none 0 0] t)):=by simp[Xn,zeroValue,typeInfo,hi,e,newVar,newRow,hc]
 rw[b];have d:=du.alloc w (.cells #[.pointer none,.slice none 0 0] t);have f:=a.n;have c:(G.more w.heap.size 0).loc H.n=w.heap.size:=aa f.symm;obtain ⟨b,g⟩:=a.sG d 0 (.ha t false none) ⟨.slice none 0 0,by rw[c];exact d.new,λj hf=>by rw[c]at hf;exact a.od j hf,.inl ⟨rfl,rfl⟩⟩
 refine⟨_,_,_,rfl,?_,b,g⟩;have:=VR.ptr (F:=F) (w:=w.alloc (.cells #[.pointer none,.slice none 0 0] t)) (G:=G.more w.heap.size 0) H.n 0 (show H.n<G.n+1 by omega);rw[c]at this;exact this
theorem VR.LY(h:VR F w G (.agg [.eY,.av .nil 0 []]) X):X = .agg #[.pointer none,.slice none 0 0]:=by
 obtain⟨Vs,rfl,hs⟩:=h.m6;obtain⟨hl,hv⟩:=hs;have a:Vs.size=2:=hl.symm;have e0:=hv 0 _ Vs[0] rfl (by simp);have e1:=hv 1 _ Vs[1] rfl (by simp);have a0:Vs[0] = .pointer none:=by generalize Vs[0]=V at e0;cases e0;rfl
 have Y:Vs[1] = .slice none 0 0:=by
  generalize Vs[1]=V at e1;cases e1 with
  |fA=>rfl
  |av _ _ _ _ _ _ _ ht=>exact absurd ht (by simp[pX])
 congr 1;apply Array.ext
 ·exact a
 · intro i b c;have:i=0∨i=1:=by omega
   rcases this with rfl|rfl
   ·exact a0
   ·exact Y
theorem LZ{t:TypeId}(a:Rel F w G H)(e:VR F w G (.agg [.eY,.av .nil 0 []]) X) :
  hG F w G H (.ptr H.n 0) (H.push (.ha t false none)) ((Xl t X).run P w):=by
 have f:=e.LY;subst f;have b:(Xl t (.agg #[.pointer none,.slice none 0 0])).run P w = .ok (.pointer (some ⟨w.heap.size,0,none⟩)) (w.alloc (.cells #[.pointer none,.slice none 0 0] t)):=by simp[Xl,newVar,newRow,Value.cells]
 rw[b];have d:=du.alloc w (.cells #[.pointer none,.slice none 0 0] t);have g:=a.n;have c:(G.more w.heap.size 0).loc H.n=w.heap.size:=aa g.symm;obtain ⟨b,h⟩:=a.sG d 0 (.ha t false none) ⟨.slice none 0 0,by rw[c];exact d.new,λj hf=>by rw[c]at hf;exact a.od j hf,.inl ⟨rfl,rfl⟩⟩
 refine⟨_,_,_,rfl,?_,b,h⟩;have:=VR.ptr (F:=F) (w:=w.alloc (.cells #[.pointer none,.slice none 0 0] t)) (G:=G.more w.heap.size 0) H.n 0 (show H.n<G.n+1 by omega);rw[c]at this;exact this
theorem L0{α:Type}(l:List α):∀(n i:Nat),((We n l).flatten)[i]?=if i<n*l.length then l[i%l.length]? else none:=by
 intro n;induction n with
 |zero=>intro i;simp
 | succ n b=>
  intro i;rw[Xo,Xp,WI];by_cases h:i<l.length
  ·rw[aa h,aa (by rw[WT];omega),Nat.mod_eq_of_lt h]
  · rw [ab h,b];have e:i-l.length<n*l.length↔i<(n+1)*l.length:=by rw[WT];omega
    by_cases a:i<(n+1)*l.length
    · rw[aa a,aa (e.2 a)];congr 1;rw[Nat.mod_eq_sub_mod (by omega:i≥l.length)]
    ·rw[ab a,ab (λc=>a (e.1 c))]
theorem oe{Z:Array Value}(h:bo F w G zero Z)(n:Nat):bo F w G (We n zero).flatten ((Xm (n*zero.length)).map λi=>Z[i%Z.size]!):=by
 refine⟨by simp,λj c V hc a=>?_⟩;rw[L0]at hc;split at hc
 · rename_i d;simp only[Array.getElem?_map,Array.getElem?_range,d,aY,Wz,Wy.injEq]at a;obtain⟨U,b,e⟩:=h.get hc;rw[h.1]at b;have:Z[j%Z.size]! = U:=by
    rw[getElem!_def,b]
   rw[this]at a;subst a;exact e
 ·cases hc
theorem L1{t e:TypeId}{inf:TypeInfo}{mu:Bool}{sz len:Nat}{zero:List I}{z:Value}{b:List (Nat×Nat×I)}{ps:List (Nat×Value)}{v:I}{H':Z}(m:Rel F w G H)
  (ht:P.underlying t=some (.slice e)) (hi:P.info? e=some inf) (hs:inf.size=sz) (q:inf.zero=some z) (n:bo F w G zero z.cells) (o:zero.length=sz) (O:len*sz≤16777216)
  (hl:b.length=ps.length) (r:∀(j:Nat)(a:Nat×Nat×I)(p:Nat×Value),b[j]?=some a→ps[j]?=some p→(p.1*sz,sz)=(a.1,a.2.1)∧VR F w G a.2.2 p.2)
  (h:c9 H mu sz len zero b=some (v,H')):hG F w G H v H' ((Xq t len ps.toArray).run P w):=by
 unfold c9 at h;cases hf:jk (We len zero).flatten b with
 |none=>simp[hf]at h
 | some cells=>
  simp only[hf,Wz,Wy.injEq]at h;have s:=oe n len;obtain ⟨C,c,f⟩:=C8 (place:=λi=>some (i*sz,sz)) b ps _ _ _ s hl (λj a p u x=>by obtain⟨y,A⟩:=r j a p u x;exact⟨by rw[y],A⟩) hf
  have B:¬(16777216<len*inf.size):=by rw[hs];omega
  have D:(Xq t len ps.toArray).run P w = .ok (.slice (some ⟨w.heap.size,0,none⟩) len len) (w.alloc (.cells C e)):=by
   rw[o]at c;subst hs;by_cases g:len*inf.size=0
   · have E:WV (λi=>some (i*inf.size,inf.size)) #[] ps=some C:=by
       rw[g,range_zero]at c;simpa using c
     simp[Xq,run_underlying ht,Wm,typeInfo,hi,g,range_zero,E,newRow]
   ·simp[Xq,run_underlying ht,Wm,typeInfo,zeroValue,hi,q,g,B,c,newRow]
  rw[D];cases mu with
  | true=>
   simp at h;obtain⟨rfl,rfl⟩:=h;obtain⟨G',k,l,J,K,L⟩:=sJ m (du.alloc w (.cells C e)) f.part;refine⟨_,_,G',rfl,?_,k,l⟩;rw[←K];refine .row _ _ _ _ _ J (hT _) ?_;have:=oe n len;rw[L,←f.1];have hlen:∀(b:List (Nat×Nat×I)) (cs d:List I),jk cs b=some d→d.length=cs.length:=by
    intro b;induction b with
    |nil=>intro cs d h;cases h;rfl
    | cons a b M=>
     intro cs d h;simp only[jk]at h;split at h
     ·rw[M _ _ h,LL]
     ·cases h
   rw[hlen _ _ _ hf];simp[o]
  | false=>simp at h;obtain⟨rfl,rfl⟩:=h;obtain⟨G',k,l,_,N⟩:=yH m (du.alloc w (.cells C e)) f;exact⟨_,_,G',rfl,N len,k,l⟩
theorem L2{t e:TypeId}{inf:TypeInfo}{mu:Bool}{sz bytes:Nat}{zero:List I}{z:Value}{len cap v:I}{L d:Value}{H':Z}(f:Rel F w G H)
  (ht:P.underlying t=some (.slice e)) (hi:P.info? e=some inf) (hs:inf.size=sz) (r:inf.bytes=bytes) (s:inf.zero=some z) (u:bo F w G zero z.cells)
  (h:lu H mu sz bytes zero len cap=some (v,H')) (hl:VR F w G len L) (hc:VR F w G cap d):hG F w G H v H' ((Xr t L d).run P w):=by
 unfold lu at h;split at h
 · rename_i n c;obtain rfl:=hl.fC;obtain rfl:=hc.fC;split at h
   · rename_i hk;obtain⟨g,x,J,K,j⟩:=hk;obtain⟨n',rfl⟩:=Xt g;obtain⟨c',rfl⟩:=Xt (Int.le_trans g x);have y:n'≤c':=by omega
     have w1:Xu.wrap (n':Int)=n':=by simp[Xv,Wv,Wu];omega
     have w2:Xu.wrap (c':Int)=c':=by simp[Xv,Wv,Wu];omega
     have k:=oe u c';have l:¬(281474976710656<(inf.bytes:Int)*(c':Int)):=by rw[r];omega
     have m:¬((n':Int)<0):=by omega
     have o:¬((c':Int)<0):=by omega
     have p:¬(c'<n'):=by omega
     have A:(Xr t (.int .i64 n') (.int .i64 c')).run P w =
       .ok (.slice (some ⟨w.heap.size,0,none⟩) n' c') (w.alloc (.cells ((Xm (c'*zero.length)).map λi=>z.cells[i%z.cells.size]!) e)):=by
      rw[j];subst hs;by_cases q:c'*inf.size=0
      ·simp[Xr,run_underlying ht,asInt,asIntOf,typeInfo,Wm,hi,w1,w2,l,m,o,p,q,range_zero,newRow]
      ·simp[Xr,run_underlying ht,asInt,asIntOf,typeInfo,Wm,zeroValue,hi,s,w1,w2,l,m,o,p,q,newRow]
     rw[A];simp only[Xw]at h;cases mu with
     | true=>simp at h;obtain⟨rfl,rfl⟩:=h;obtain⟨G',a,b,B,C,D⟩:=sJ f (du.alloc w (.cells _ e)) k.part;refine⟨_,_,G',rfl,?_,a,b⟩;rw[←C];refine .row _ _ _ _ _ B y ?_;rw[D];simp[j]
     | false=>
      simp at h;obtain⟨M,rfl,rfl⟩:=h;obtain rfl:n'=c':=by omega
      obtain⟨G',a,b,_,E⟩:=yH f (du.alloc w (.cells _ e)) k;exact⟨_,_,G',rfl,E n',a,b⟩
   ·cases h
 ·cases h
end
end Rb

namespace Rb
open Go
variable{sz m:Nat}{L M:List Value}{e:TypeId}{cs news:List I}{y:I}{Y z:Value}{C:Array Value}
section
variable{P:Program}{F:dk}{w R:World}{G:b4}{H:Z}
theorem Rel.pass(h:Rel F w G H){i:Nat}(hl:(H.o i).live=true)(ht:kh w R (G.loc i))(lo hi:Nat)(s:GLe w G R ((G.dT (G.loc i) lo hi).more (G.loc i) (G.cap i)))(x:cN)
  (A:gB F R ((G.dT (G.loc i) lo hi).more (G.loc i) (G.cap i)) H.n x) (hf:∀o,lo≤o→o<hi→∃V,R.cell? ⟨G.loc i,o,none⟩=some V) :
  Rel F R ((G.dT (G.loc i) lo hi).more (G.loc i) (G.cap i)) ((H.set i .gone).push x)∧Step w G H R ((G.dT (G.loc i) lo hi).more (G.loc i) (G.cap i)) ((H.set i .gone).push x):=by
 have t:=h.n;have L:i<H.n:=h.n▸h.h5 hl;have l:∀j,j≠H.n→((G.dT (G.loc i) lo hi).more (G.loc i) (G.cap i)).loc j=G.loc j:=λj y=>ab (show ¬j=G.n by omega);have u:((G.dT (G.loc i) lo hi).more (G.loc i) (G.cap i)).loc H.n=G.loc i:=aa t.symm;have B:((H.set i .gone).push x).o H.n=x:=aa rfl;have z:((H.set i .gone).push x).o i = .gone:=by show(if i=H.n then x else(if i=i then cN.gone else H.o i)) = .gone;rw[bF,aa rfl]
 have v:∀j,j≠H.n→j≠i→((H.set i .gone).push x).o j=H.o j:=by intro j c a;show(if j=H.n then x else(if j=i then cN.gone else H.o j))=H.o j;rw[ab c,ab a]
 have m:∀j,j≠H.n→(((H.set i .gone).push x).o j).live=true→(H.o j).live=true∧j≠i:=by
  intro j c a;by_cases d:j=i
  ·rw[d,z]at a;cases a
  ·rw[v j c d]at a;exact⟨a,d⟩
 refine⟨⟨by show G.n+1=H.n+1;omega,λj y=>?_,λj=>?_,λj k C c a=>?_,λb o r=>?_⟩,?_⟩
 · have M:H.n+1≤j:=y;rw[v j (by omega) (by omega)];exact h.over j (by omega)
 · by_cases g:j=H.n
   ·subst g;rw[B];exact A
   · by_cases d:j=i
     ·rw[d,z];trivial
     · rw[v j g d];refine(h.obj j).ca s (λf=>h.h5 f) (λf=>ht.other _ (h.gk j i d f hl)) λf k hk=>?_;rcases hk with hk|⟨hk,_⟩
       ·exact hk
       ·exact absurd hk (h.gk j i d f hl)
 · by_cases p:j=H.n<;>by_cases q:k=H.n
   ·omega
   · obtain⟨D,E⟩:=m k q a;rw[p,u,l k q];exact(h.gk k i E D hl).symm
   · obtain⟨I,J⟩:=m j p c;rw[q,u,l j p];exact h.gk j i J I hl
   ·rw[l j p,l k q];exact h.gk j k C (m j p c).1 (m k q a).1
 · rcases r with r|⟨rfl,c,a⟩
   · obtain⟨V,K⟩:=h.gN b o r;exact⟨V,s.cell b o V r K⟩
   ·exact hf o c a
 · refine {s with size:=by rw[ht.size];exact hT _,os:=ht.os,tape:=ht.tape,output:=ht.output,ep:=λk _ t=>ht.other k (λe=>t i hl e.symm),owned:=λj f _=>?_,gC:=λb o hf=>hf.imp id λhf=> .inr ⟨i,hl,hf.1.symm⟩};by_cases g:j=H.n
   ·rw[g,u];exact⟨i,hl,rfl⟩
   ·exact⟨j,(m j g f).1,(l j g).symm⟩
theorem Db(t ty e f:TypeId)(i:TypeInfo)(ht:P.underlying t=some (.slice e))(hi:P.info? e=some i)
  (g b d:Nat) (cur:Array Value) (k:w.heap[g]?=some (.cells cur f (0,0)))
  (a:Addr) (m c:Nat) (news:List Value) (hl:news.length=m*i.size) (l:∀(j:Nat)(u:Value),news[j]?=some u→w.cell? (a.add j)=some u) (n:∀u∈news,u.oneCell'=true)
  (o:b+m≤d) (p:b*i.size+news.length≤cur.size) :
  (Xx #[t,t] ty #[.slice (some ⟨g,0,none⟩) b d,.slice (some a) m c]).run P w =
   .ok (.slice (some ⟨g,0,none⟩) (b+m) d) (w.setRow g (cur.toList.take (b*i.size)++news++cur.toList.drop (b*i.size+news.length)).toArray):=by
 have hf:=run_firstCells_some (P:=P) w i.size m a m c news hl l;have h:=run_storeCells_at P g (b*i.size) f news 0 cur w k (by simpa using p) n;simp only[WW]at h;simp[Xx,run_underlying ht,Wm,typeInfo,hi,Xy,o,hf,Xz,h]
theorem L3(t ty e:TypeId)(i:TypeInfo)(ht:P.underlying t=some (.slice e))(hi:P.info? e=some i)
  (g b d:Nat) (a:Addr) (m c:Nat) (news:List Value) (hl:news.length=m*i.size) (f:∀(j:Nat)(u:Value),news[j]?=some u→w.cell? (a.add j)=some u)
  (h:b+m≤d) (k:(storeCells ⟨g,b*i.size,none⟩ news).run P w = .ok () R) :
  (Xx #[t,t] ty #[.slice (some ⟨g,0,none⟩) b d,.slice (some a) m c]).run P w = .ok (.slice (some ⟨g,0,none⟩) (b+m) d) R:=by
 have hf:=run_firstCells_some (P:=P) w i.size m a m c news hl f;simp[Xx,run_underlying ht,Wm,typeInfo,hi,Xy,h,hf,Xz,k]
theorem yI(i:Rel F w G H)(h:hC H sz y=some (m,news))(d:VR F w G y Y) :
  news.length=m*sz∧∃e c,Y = .slice e m c∧(0<m→∃b o,e=some ⟨b,o,none⟩∧kP F w G b o news):=by
 unfold hC at h;split at h
 · rename_i tk len cells;split at h
   · rename_i hlen;cases h;refine⟨hlen,?_⟩;cases d with
     |fA=>exact⟨_,_,rfl,λh=>absurd h (by omega)⟩
     |fB a cap=>exact⟨_,_,rfl,λh=>absurd h (by omega)⟩
     |av _ _ _ b o cap Vs ht hle h hv=>exact⟨_,_,rfl,λ_=>⟨b,o,rfl,λj c f=>⟨Vs j,(h j c f).2,hv j c f⟩⟩⟩
   ·cases h
 · rename_i id o len l;split at h
   · rename_i cs k;split at h
     · rename_i hle;cases h;refine⟨by simp;omega,?_⟩;have g:=i.obj id;rw[k]at g;cases d with
       | row _ _ _ _ cap n p q=>refine⟨_,_,rfl,λ_=>⟨_,_,rfl,?_⟩⟩;have:=g.sH.cut o (m*sz);rw[W7]at this;exact this
     ·cases h
   ·cases h
 ·cases h
theorem Dc{l:List I}(hl:bo F w G l L.toArray)(b:l.all I.scalar=true):∀V∈L,V.oneCell'=true:=by
 intro V c;obtain⟨j,d,rfl⟩:=Xh.1 c;have a:j<l.length:=by have:=hl.1;simp at this;omega
 exact(hl.2 j l[j] L[j] (Xc a) (by simp[d])).C5 (Xi.1 b _ (Xj a))
theorem yJ{cap sz:Nat}(f:Rel F w G H)(b:du w R (.cells C e))(hv:∀(j:Nat)(c:I),cs[j]?=some c→∃V,C[j]?=some V∧VR F w G c V)
  (h:C.size=cap*sz) (len:Nat) (hlen:cs.length=len*sz) (hle:len≤cap) :
  ∃G',Rel F R G' (H.push (.tok (len*sz) sz))∧Step w G H R G' (H.push (.tok (len*sz) sz))∧VR F R G' (.av (.own H.n) len cs) (.slice (some ⟨w.heap.size,0,none⟩) len cap):=by
 have i:=f.n;have g:((G.dT w.heap.size 0 (len*sz)).more w.heap.size cap).loc H.n=w.heap.size:=aa i.symm;have k:((G.dT w.heap.size 0 (len*sz)).more w.heap.size cap).cap H.n=cap:=aa i.symm;have l:len*sz≤C.size:=by rw[h];exact XA _ hle
 have o:=GLe.yD (G:=G) b w.heap.size 0 (len*sz) w.heap.size cap;have d:=f.push b (len*sz) cap l (.tok (len*sz) sz) ⟨C,e,by rw[g];exact b.new,by rw[k];exact h,l,λj a hf=>by
   rw[g]at hf;rcases hf with hf|⟨_,_,hf⟩
   ·exact f.od j hf
   ·omega⟩
 have key:∀(j:Nat)(c:I),cs[j]?=some c→C[j]?=some (C.getD j undef)∧j<len*sz∧VR F w G c (C.getD j undef):=by
  intro j c a;obtain⟨V,m,d⟩:=hv j c a;have q:j<cs.length:=(Wh.1 a).1;have p:C.getD j undef=V:=by simp[XC,m]
  rw[p];exact⟨m,by omega,d⟩
 refine⟨_,d.1,d.2,.av _ _ _ _ _ _ (λj=>C.getD j undef) ⟨by show H.n<G.n+1;omega,g,rfl,k⟩ hle (λj c a=>?_) λj c a=>(key j c a).2.2.mono o⟩;rw[W7];exact⟨.inr ⟨rfl,WS _,(key j c a).2.1⟩,by rw[cell_of_row R _ j C e (0,0) b.new];exact(key j c a).1⟩
theorem sK{cap sz:Nat}(a:Rel F w G H)(b:du w R (.cells C e))(hv:∀(j:Nat)(c:I),cs[j]?=some c→∃V,C[j]?=some V∧VR F w G c V)
  (d:C.size=cap*sz) (len:Nat) (hle:len≤cap) :
  ∃G',Rel F R G' (H.push (.row cs))∧Step w G H R G' (H.push (.row cs))∧VR F R G' (.row H.n 0 len sz) (.slice (some ⟨w.heap.size,0,none⟩) len cap):=by
 obtain⟨G',f,g,h,i,k⟩:=sJ a b hv;refine⟨G',f,g,?_⟩;rw[←i];exact .row _ _ _ _ _ h hle (by rw[k,d];omega)
theorem og{Z:Array Value}(h:bo F w G cs L.toArray)(k:bo F w G news M.toArray) :
  ∀(j:Nat)(c:I),(cs++news)[j]?=some c→∃V,(L.toArray++M.toArray++Z)[j]?=some V∧VR F w G c V:=by
 intro j c b;obtain⟨V,a,d⟩:=(h.app k).get b;refine⟨V,?_,d⟩;rw[WJ,aa (W3.1 a).1];exact a
theorem oh{sz n m cap:Nat}(a:L.length=n*sz)(b:M.length=m*sz)(c:z.cells.size=sz)(d:n+m≤cap) :
  (L.toArray++M.toArray++XD z.cells (cap-(n+m))).size=cap*sz:=by
 simp only[XE,List.size_toArray,size_zeroCells,c,a,b,←WT];congr 1;omega
theorem L4{t e ty:TypeId}{d:TypeInfo}{mu:Bool}{sz bytes:Nat}{z:Value}{x y v:I}{X Y:Value}{H':Z}(f:Rel F w G H)
  (ht:P.underlying t=some (.slice e)) (hi:P.info? e=some d) (hs:d.size=sz) (W:d.bytes=bytes) (aq:d.zero=some z) (ac:z.cells.size=sz) (aM:0<sz)
  (h:cX H mu sz bytes x y=some (v,H')) (Q:VR F w G x X) (aN:VR F w G y Y):hG F w G H v H' ((Xx #[t,t] ty #[X,Y]).run P w):=by
 subst hs;subst W;unfold cX at h;split at h
 ·cases h
 · rename_i m news aO;obtain⟨aD,aE,c,rfl,aF⟩:=yI f aO aN;split at h
   ·cases h
   · rename_i ad;simp only[Bool.not_eq_true,Bool.not_eq_false]at ad;have ad:news.all I.scalar=true:=by simpa using ad
     have zero:∀(a:Option Addr)(len cap:Nat),len≤cap→m=0→(∀u,a=some u→u.spot=none∨True)→(Xx #[t,t] ty #[.slice a len cap,.slice aE m c]).run P w = .ok (.slice a len cap) w:=by intro a len cap hle hm _;subst hm;cases a<;>cases aE<;>simp[Xx,run_underlying ht,Wm,typeInfo,hi,Xy,XF,loadCells,loadCellsFrom,storeCells,hle]
     split at h
     · rename_i tk len cells;split at h
       · rename_i hm;cases h;cases Q with
         |fA=>rw[zero _ _ _ (hT _) hm (λ_ _=> .inr trivial)];exact⟨_,_,G,rfl,.fA,f,Step.refl _ _ _⟩
         |fB a cap=>rw[zero _ _ _ (WS _) hm (λ_ _=> .inr trivial)];exact⟨_,_,G,rfl,.fB _ _,f,Step.refl _ _ _⟩
         |av _ _ _ b o cap Vs A hle h hv=>rw[zero _ _ _ hle hm (λ_ _=> .inr trivial)];exact⟨_,_,G,rfl,.av _ _ _ _ _ _ Vs A hle h hv,f,Step.refl _ _ _⟩
       · rename_i hm;obtain⟨bs,os,rfl,ar⟩:=aF (by omega);obtain⟨M,r,S⟩:=ar.m8;have q:M.length=m*d.size:=by have:=r.1;simp at this;omega
         split at h
         ·cases h
         · rename_i hk;simp only[XG]at hk;obtain⟨au,am,aP⟩:=hk;have aG:∀(hlen:len=0),(Xx #[t,t] ty #[.slice none 0 0,.slice (some ⟨bs,os,none⟩) m c]).run P w =
             .ok (.slice (some ⟨w.heap.size,0,none⟩) (len+m) (grownCap w (len+m) 0 e)) (w.drew.alloc (.cells (([]:List Value).toArray++M.toArray++XD z.cells (grownCap w (len+m) 0 e-(len+m))) e)):=by
            intro hlen;subst hlen;have:=run_append_nil (P:=P) w t ty e d z ht hi aq ⟨bs,os,none⟩ m c M q S (by omega) (by omega) (by simp only[W7]at am;omega);simpa using this
           have aw:∀(b o cap:Nat)(L:List Value),L.length=len*d.size→(∀(j:Nat)(V:Value),L[j]?=some V→w.cell? ((⟨b,o,none⟩:Addr).add j)=some V)→cap<len+m →
             (Xx #[t,t] ty #[.slice (some ⟨b,o,none⟩) len cap,.slice (some ⟨bs,os,none⟩) m c]).run P w =
             .ok (.slice (some ⟨w.heap.size,0,none⟩) (len+m) (grownCap w (len+m) cap e)) (w.drew.alloc (.cells (L.toArray++M.toArray++XD z.cells (grownCap w (len+m) cap e-(len+m))) e)):=by
            intro b o cap L s B R;exact run_append_grow (P:=P) w t ty e d z ht hi aq ⟨b,o,none⟩ len cap L s B ⟨bs,os,none⟩ m c M q S R (by omega) (growslice_fits R am)
           have ax:(cells++news).length=(len+m)*d.size:=by rw[List.length_append,au,aD,WT]
           have ay:∀{b o:Nat}{Vs:Nat→Value},(∀(j:Nat)(c:I),cells[j]?=some c→G.fz b (o+j)∧w.cell? ⟨b,o+j,none⟩=some (Vs j))→(∀(j:Nat)(c:I),cells[j]?=some c→VR F w G c (Vs j)) →
             ∃L:List Value,bo F w G cells L.toArray∧L.length=len*d.size∧∀(j:Nat)(V:Value),L[j]?=some V→w.cell? ((⟨b,o,none⟩:Addr).add j)=some V:=by
            intro b o Vs D az;obtain⟨L,s,B⟩:=(show kP F w G b o cells from λj c g=>⟨Vs j,(D j c g).2,az j c g⟩).m8;exact⟨L,s,by have:=s.1;simp at this;omega,B⟩
           split at h
           ·
             cases h;cases Q with
             | fA=>rw[aG rfl];obtain⟨G',p,E,hv⟩:=sK f (du.drew w _) (og bo.nil r) (oh (n:=0) (by simp) q ac (grownCap_ge w _ _ _)) (0+m) (grownCap_ge w _ _ _);exact⟨_,_,G',rfl,hv,p,E⟩
             |av _ _ _ b o cap Vs A hle h hv=>exact A.elim
           ·
             cases h;cases Q with
             | av _ _ _ b o cap Vs A hle h hv=>obtain⟨L,s,J,B⟩:=ay h hv;rw[aw b o cap L J B (by have:cap=len:=A;omega)];obtain⟨G',p,E,hv⟩:=sK f (du.drew w _) (og s r) (oh J q ac (grownCap_ge w _ _ _)) (len+m) (grownCap_ge w _ _ _);exact⟨_,_,G',rfl,hv,p,E⟩
           ·
             cases h;cases Q with
             | fA=>rw[aG rfl];obtain⟨G',p,E,hv⟩:=yJ f (du.drew w _) (og bo.nil r) (oh (n:=0) (by simp) q ac (grownCap_ge w _ _ _)) (0+m) (by simpa using ax) (grownCap_ge w _ _ _);exact⟨_,_,G',rfl,hv,p,E⟩
             |av _ _ _ b o cap Vs A hle h hv=>exact A.elim
           ·
             cases h;cases Q with
             | av _ _ _ b o cap Vs A hle h hv=>obtain⟨L,s,J,B⟩:=ay h hv;rw[aw b o cap L J B (by have:cap=len:=A;omega)];obtain⟨G',p,E,hv⟩:=yJ f (du.drew w _) (og s r) (oh J q ac (grownCap_ge w _ _ _)) (len+m) ax (grownCap_ge w _ _ _);exact⟨_,_,G',rfl,hv,p,E⟩
           ·
             rename_i tid;split at h
             · rename_i k aQ aH;split at h
               · rename_i hk;obtain⟨rfl,rfl⟩:=hk;cases h;have aA:(H.o tid).live=true:=by rw[aH];rfl
                 have ag:=f.obj tid;rw[aH]at ag;obtain⟨C,N,T,ae,aW,aI⟩:=ag;cases Q with
                 | av _ _ _ b o cap Vs A hle h hv=>
                  obtain⟨aR,rfl,rfl,rfl⟩:=A;obtain⟨L,s,J,B⟩:=ay h hv;by_cases O:len+m≤G.cap tid
                  · have ah:len*d.size+M.length≤C.size:=by rw[q,ae,←WT];exact XA _ O
                    rw[Db t ty e N d ht hi (G.loc tid) len (G.cap tid) C T ⟨bs,os,none⟩ m c M q S (Dc r ad) O ah];have ai:=f.n;have aS:=yG C M (len*d.size);have an:=setRow_heap w (G.loc tid) C (C.toList.take (len*d.size)++M++C.toList.drop (len*d.size+M.length)).toArray N (0,0) T;have ao:∀j,(w.setRow (G.loc tid) (C.toList.take (len*d.size)++M++C.toList.drop (len*d.size+M.length)).toArray).cell? ⟨G.loc tid,j,none⟩=if len*d.size≤j∧j<len*d.size+M.length then M[j-len*d.size]? else C[j]?:=by intro j;rw[cell_of_row _ _ j _ N (0,0) an];exact aS j ah
                    have U:((G.dT (G.loc tid) (len*d.size) ((len+m)*d.size)).more (G.loc tid) (G.cap tid)).loc H.n=G.loc tid:=aa ai.symm;have R:((G.dT (G.loc tid) (len*d.size) ((len+m)*d.size)).more (G.loc tid) (G.cap tid)).cap H.n=G.cap tid:=aa ai.symm;have aX:(len+m)*d.size=len*d.size+M.length:=by rw[q,WT]
                    have af:GLe w G (w.setRow (G.loc tid) (C.toList.take (len*d.size)++M++C.toList.drop (len*d.size+M.length)).toArray) ((G.dT (G.loc tid) (len*d.size) ((len+m)*d.size)).more (G.loc tid) (G.cap tid)):=
                     ⟨W4 _,λi hi=>ab (W5 hi),λi hi=>ab (W5 hi),λ_ _ hf=> .inl hf,λb o V hf hc=>by
                       by_cases W:b=G.loc tid
                       · subst W;have aj:o<len*d.size:=by
                          rcases Gd o (len*d.size)with aB|aB
                          ·exact aB
                          ·exact absurd hf (aI o aB)
                         rw[ao,bF];rw[cell_of_row w _ o C N (0,0) T]at hc;exact hc
                       ·rw[W1 (w:=w) ((kh.setRow w _ _).other b W)];exact hc⟩
                    have ak:=f.pass aA (kh.setRow w _ _) (len*d.size) ((len+m)*d.size) af (.tok ((len+m)*d.size) d.size)
                     ⟨_,N,by rw[U];exact an,by rw[R,←ae];simp;omega,by simp;omega,λj g hf=>by
                       rw[U]at hf;rcases hf with hf|⟨_,_,hf⟩
                       ·exact aI j (by omega) hf
                       ·omega⟩
                     (λo D az=>⟨M[o-len*d.size],by rw[ao,df];exact Xc (by omega)⟩)
                    refine⟨_,_,_,rfl,?_,ak.1,ak.2⟩;have key:∀(j:Nat)(c:I),(cells++news)[j]?=some c→((G.dT (G.loc tid) (len*d.size) ((len+m)*d.size)).more (G.loc tid) (G.cap tid)).fz (G.loc tid) (0+j) ∧
                      ∃V,(w.setRow (G.loc tid) (C.toList.take (len*d.size)++M++C.toList.drop (len*d.size+M.length)).toArray).cell? ⟨G.loc tid,0+j,none⟩=some V∧VR F w G c V:=by
                     intro j c g;rw[WI]at g;rw[W7];split at g
                     · rename_i al;have D:=h j c g;rw[W7]at D;refine⟨.inl D.1,Vs j,?_,hv j c g⟩;rw[ao,bF];rw[cell_of_row w _ j C N (0,0) T]at D;exact D.2
                     · rename_i aC;obtain⟨V,K,p⟩:=r.get g;have al:=(Wh.1 g).1;refine⟨.inr ⟨rfl,by omega,by omega⟩,V,?_,p⟩;rw[ao,df,←au];simpa using K
                    refine .av _ _ _ (G.loc tid) 0 (G.cap tid) (λj=>((w.setRow (G.loc tid) (C.toList.take (len*d.size)++M++C.toList.drop (len*d.size+M.length)).toArray).cell? ⟨G.loc tid,0+j,none⟩).getD undef) ⟨by show H.n<G.n+1;omega,U,rfl,R⟩ O (λj c g=>?_) λj c g=>?_
                    · obtain⟨D,V,K,_⟩:=key j c g;exact⟨D,by rw[K];rfl⟩
                    · obtain⟨D,V,K,p⟩:=key j c g;rw[K];exact p.mono af
                  · rw[aw (G.loc tid) 0 (G.cap tid) L J B (by omega)];have hk:=f.kill tid (f.n▸aR);obtain⟨G',p,E,hv⟩:=yJ hk.1 (du.drew w _) (og s r) (oh J q ac (grownCap_ge w _ _ _)) (len+m) ax (grownCap_ge w _ _ _);exact⟨_,_,G',rfl,hv,p,hk.2.trans E⟩
               ·cases h
             ·cases h
           ·cases h
     · rename_i id o len aQ;split at h
       · rename_i cs aj;split at h
         · rename_i hm;cases h;cases Q with
           |row _ _ _ _ cap ap hle hc=>rw[zero _ _ _ hle hm (λ_ _=> .inr trivial)];exact⟨_,_,G,rfl,.row _ _ _ _ _ ap hle hc,f,Step.refl _ _ _⟩
         · rename_i hm;obtain⟨bs,os,rfl,ar⟩:=aF (by omega);obtain⟨M,r,S⟩:=ar.m8;have q:M.length=m*d.size:=by have:=r.1;simp at this;omega
           split at h
           ·cases h
           · rename_i hk;simp only[XG]at hk;obtain⟨rfl,rfl,am,aP⟩:=hk;have aA:(H.o id).live=true:=by rw[aj];rfl
             have ag:=f.obj id;rw[aj]at ag;obtain⟨C,N,T,ae,aJ,aK⟩:=ag;have au:cs.length≤C.size:=by
              rcases Gd C.size cs.length with al|aC
              · obtain⟨V,K,_⟩:=aK C.size cs[C.size] (Xc al);simp at K
              ·exact aC
             cases Q with
             | row _ _ _ _ cap ap hle hc=>
              rw[W7]at hc;split at h
              · rename_i aT;cases h;have O:len+m≤cap:=by
                 have:(len+m)*d.size≤cap*d.size:=by rw[hc,←ae];omega
                 exact Nat.le_of_mul_le_mul_right this aM
                obtain⟨w1,aU,aL⟩:=sI (P:=P) (o:=len*d.size) (l:=news) (L:=M) f aj r (by rw[aD,←WT];exact aT) ad;rw[L3 t ty e d ht hi (G.loc id) len cap ⟨bs,os,none⟩ m c M q S O aU];exact⟨_,_,G,rfl,.row _ _ _ _ _ ap O (by rw[W7];exact hc),aL.1,aL.2⟩
              · split at h
                · rename_i aY aZ;cases h;by_cases O:len+m≤cap
                  · have ah:len*d.size+M.length≤C.size:=by rw[q,ae,←hc,←WT];exact XA _ O
                    rw[Db t ty e N d ht hi (G.loc id) len cap C T ⟨bs,os,none⟩ m c M q S (Dc r ad) O ah];have ai:=f.n;have an:=setRow_heap w (G.loc id) C (C.toList.take (len*d.size)++M++C.toList.drop (len*d.size+M.length)).toArray N (0,0) T;have U:((G.dT (G.loc id) 0 0).more (G.loc id) (G.cap id)).loc H.n=G.loc id:=aa ai.symm;have R:((G.dT (G.loc id) 0 0).more (G.loc id) (G.cap id)).cap H.n=G.cap id:=aa ai.symm;have af:GLe w G (w.setRow (G.loc id) (C.toList.take (len*d.size)++M++C.toList.drop (len*d.size+M.length)).toArray) ((G.dT (G.loc id) 0 0).more (G.loc id) (G.cap id)):=
                     ⟨W4 _,λi hi=>ab (W5 hi),λi hi=>ab (W5 hi),λ_ _ hf=> .inl hf,λb o V hf hc=>by have W:b≠G.loc id:=λe=>aJ o (e▸hf);rw[W1 (w:=w) ((kh.setRow w _ _).other b W)];exact hc⟩
                    have ak:=f.pass aA (kh.setRow w _ _) 0 0 af (.row (cs++news))
                     ⟨_, N,by rw[U];exact an,by rw[R,←ae];simp;omega,λj hf=>by
                       rw[U]at hf;rcases hf with hf|⟨_,_,hf⟩
                       ·exact aJ j hf
                       ·omega,λj c g=>by
                       rw[yG C M (len*d.size) j ah];rw[WI]at g;split at g
                       · rename_i al;rw[bF];obtain⟨V,K,p⟩:=aK j c g;exact⟨V,K,p.mono af⟩
                       · rename_i aC;have al:=(Wh.1 g).1;rw[df,show j-len*d.size=j-cs.length by omega];obtain⟨V,K,p⟩:=r.get g;exact⟨V,by simpa using K,p.mono af⟩⟩
                     (λo D az=>by omega)
                    refine⟨_,_,_,rfl,?_,ak.1,ak.2⟩;have:=VR.row (F:=F) (w:=w.setRow (G.loc id) (C.toList.take (len*d.size)++M++C.toList.drop (len*d.size+M.length)).toArray) (G:=(G.dT (G.loc id) 0 0).more (G.loc id) (G.cap id)) H.n 0 (len+m) d.size cap (by show H.n<G.n+1;omega) O (by rw[R,W7];exact hc);rw[U]at this;exact this
                  · have aV:=(show gB F w G id (.row cs) by have:=f.obj id;rw[aj]at this;exact this).sH;obtain⟨L,s,B⟩:=aV.m8;have J:L.length=len*d.size:=by have:=s.1;simp at this;omega
                    rw[run_append_grow (P:=P) w t ty e d z ht hi aq ⟨G.loc id,0,none⟩ len cap L J B ⟨bs,os,none⟩ m c M q S (by omega) (by omega) (growslice_fits (by omega) am)];have hk:=f.kill id (f.n▸ap);obtain⟨G',p,E,hv⟩:=sK hk.1 (du.drew w _) (og s r) (oh J q ac (grownCap_ge w _ _ _)) (len+m) (grownCap_ge w _ _ _);exact⟨_,_,G',rfl,hv,p,hk.2.trans E⟩
                ·cases h
       ·cases h
     ·cases h
end
end Rb

namespace Rb
open Go
variable{x v:I}{X:Value}{src dst e t:TypeId}{H':Z}
section
variable{P:Program}{F:dk}{w:World}{G:b4}{H:Z}
theorem du.mark(w:World)(o:Obj):du w (w.drew.alloc o) o:=⟨rfl,rfl,rfl,rfl⟩
theorem L5{x v:I}{X:Value}(k:Rel F w G H)(hs:P.underlying src=some .string)(l:P.underlying dst=some (.slice e))(m:P.underlying e=some (.int .u8))
  (h:p2 x=some v) (n:VR F w G x X):hG F w G H v H ((convert src dst X).run P w):=by
 unfold p2 at h;split at h
 · rename_i s;cases h;obtain rfl:=n.iD;have d:=run_bytes_of_string (P:=P) w src dst e ⟨s.toArray⟩ hs l m;generalize o:grownCap w (Wr ⟨s.toArray⟩) 0 e=cap at d;have f:(Wq s.toArray).size=s.length:=by simp[Wr]
   rw[d,f];have hle:s.length≤cap:=by rw[←o,←f];exact grownCap_ge w _ 0 e
   have g:=du.mark w (.cells (bytesRow ⟨s.toArray⟩ cap) e ((bytesRow ⟨s.toArray⟩ cap).size,(bytesRow ⟨s.toArray⟩ cap).size+1));have i:∀j,j<s.length→(w.drew.alloc (.cells (bytesRow ⟨s.toArray⟩ cap) e ((bytesRow ⟨s.toArray⟩ cap).size,(bytesRow ⟨s.toArray⟩ cap).size+1))).cell? ⟨w.heap.size,j,none⟩=some (.int .u8 ((s.getD j 0).toNat:Nat)):=by intro j a;rw[cell_of_row _ _ j _ e _ g.new];simp[bytesRow,WJ,a,List.getD]
   obtain⟨p,q⟩:=k.frozenAt g s.length λj a=>⟨_,i j a⟩
   refine⟨_,_,_,rfl,?_,p,q⟩;refine .av .dead s.length (byteCells s) w.heap.size 0 cap (λj=> .int .u8 ((s.getD j 0).toNat:Nat)) trivial hle (λj c a=>?_) λj c a=>?_
   · have b:j<s.length:=by have:=(Wh.1 a).1;simpa[byteCells]using this
     rw[W7];exact⟨.inr ⟨rfl,WS _,b⟩,i j b⟩
   · have b:j<s.length:=by have:=(Wh.1 a).1;simpa[byteCells]using this
     simp[byteCells,b]at a;subst a;simp only[XH,Xc b,XI];exact .int _ _
 ·cases h
theorem L6:∀{cells:List I}{s:List UInt8}{Vs:List Value},n5 cells=some s→bo F w G cells Vs.toArray→∃a:List Int,Vs=a.map (AV .u8)∧s=a.map λn=>Wf n.toNat:=by
 intro cells;induction cells with
 | nil=>intro s Vs h hv;cases h;have:=hv.1;simp at this;have:Vs=[]:=XJ.1 (by omega);subst this;exact⟨[],rfl,rfl⟩
 | cons c cells b=>
  intro s Vs h hv;cases Vs with
  |nil=>have:=hv.1;simp at this
  | cons V Vs=>
   have e:VR F w G c V:=hv.2 0 c V rfl rfl;have f:bo F w G cells Vs.toArray:=bo.m7 (by have:=hv.1;simp at this ⊢;exact this) λj d U g i=>hv.2 (j+1) d U (by simpa using g) (by simpa using i);unfold n5 at h;split at h
   ·rename_i heq;cases heq
   · rename_i n r heq;cases heq;cases hc:n5 cells with
     |none=>simp[hc]at h
     | some A=>simp only[hc,Wz,Wy.injEq]at h;obtain⟨a,k,l⟩:=b hc f;obtain rfl:=e.fC;exact⟨n::a,by rw[k];rfl,by rw[←h,l];rfl⟩
   ·cases h
theorem foldl_push:∀(a:List Int)(r:ByteArray),a.foldl (λr n=>r.push (Wf n.toNat)) r=⟨r.data++(a.map λn=>Wf n.toNat).toArray⟩
 |[],r=>by simp
 | n::a,r=>by simp only[WU,XK];rw[foldl_push a];simp[XL]
theorem L7{x v:I}{X:Value}(k:Rel F w G H)(hs:P.underlying src=some (.slice e))(l:P.underlying e=some (.int .u8))(n:P.underlying dst=some .string)
  (h:abstr H x=some v) (p:VR F w G x X):∃V,(convert src dst X).run P w = .ok V w∧VR F w G v V:=by
 unfold abstr at h;split at h
 · rename_i m cells hc;cases f:n5 cells with
   |none=>simp[f]at h
   | some s=>
    simp only[f,Wz,Wy.injEq]at h;subst h;obtain⟨hlen,a,c,rfl,q⟩:=yI k hc p;rw[Nat.mul_one]at hlen;refine⟨_,?_,.str s⟩;rw[run_convert_bytes_string w src dst e a m c hs l n];by_cases hm:0<m
    · obtain⟨b,o,rfl,r⟩:=q hm;obtain⟨Vs,g,t⟩:=r.m8;obtain⟨i,rfl,rfl⟩:=L6 f g;have hl:i.length=m:=by have:=g.1;simp at this;omega
      have d:=run_loadCells_list (P:=P) w ⟨b,o,none⟩ _ t;rw[List.length_map,hl]at d;rw[run_bytesToString w ⟨b,o,none⟩ m c i d,foldl_push];simp[XM,XN];rfl
    · have u:m=0:=by omega
      subst u;have y:cells=[]:=XJ.1 hlen;subst y;cases f;cases a with
      |none=>rfl
      | some a=>have d:=run_loadCells_list (P:=P) w a [] (λj V z=>by simp at z);simp only[List.length_nil]at d;rw[run_bytesToString w a 0 c [] d];rfl
 ·cases h
theorem L8(a:Rel F w G H)(ht:P.underlying t=some .string)(h:m5 H x=some (v,H'))(d:VR F w G x X) :
  hG F w G H v H' ((XO t X).run P w):=by
 unfold m5 at h;split at h
 · rename_i s;cases h;obtain rfl:=d.iD;have e:(XO t (.string ⟨s.toArray⟩)).run P w = .ok (.pointer (some ⟨w.heap.size,0,none⟩)) (w.alloc (.stringIter ⟨s.toArray⟩ 0)):=by
    simp[XO,run_underlying ht]
   rw[e];have c:=du.alloc w (.stringIter ⟨s.toArray⟩ 0);have f:=a.n;have b:(G.more w.heap.size 0).loc H.n=w.heap.size:=aa f.symm;obtain ⟨g,i⟩:=a.sG c 0 (.hB s 0) ⟨by rw[b];exact c.new,λj hf=>by rw[b]at hf;exact a.od j hf⟩
   refine⟨_,_,_,rfl,?_,g,i⟩;have:=VR.ptr (F:=F) (w:=w.alloc (.stringIter ⟨s.toArray⟩ 0)) (G:=G.more w.heap.size 0) H.n 0 (show H.n<G.n+1 by omega);rw[b]at this;exact this
 ·cases h
theorem L9{t:TypeId}(b:Rel F w G H)(h:kJ H x=some (v,H'))(n:VR F w G x X) :
  hG F w G H v H' ((XP X true t).run P w):=by
 unfold kJ at h;split at h
 · rename_i id;split at h
   · rename_i s pos f;cases n with
     | ptr _ _ A=>
      have g:=b.obj id;rw[f]at g;obtain⟨d,i⟩:=g;have l:(Wq s.toArray).size=s.length:=by simp[Wr]
      have m:(getObj (G.loc id)).run P w = .ok (.stringIter ⟨s.toArray⟩ pos) w:=by simp[getObj,XQ,d]
      split at h
      · rename_i p;cases h;have q:(setObj (G.loc id) (.stringIter ⟨s.toArray⟩ (pos+(Wg ⟨s.toArray⟩ pos).2))).run P w = .ok () {w with heap:=w.heap.setIfInBounds (G.loc id) (.stringIter ⟨s.toArray⟩ (pos+(Wg ⟨s.toArray⟩ pos).2))}:=by
         simp[setObj,XQ,d]
        have e:(XP (.pointer (some ⟨G.loc id,0,none⟩)) true t).run P w = .ok (.tuple #[.bool true,.int .i64 pos,.int .i32 (Wg ⟨s.toArray⟩ pos).1]) {w with heap:=w.heap.setIfInBounds (G.loc id) (.stringIter ⟨s.toArray⟩ (pos+(Wg ⟨s.toArray⟩ pos).2))}:=by simp[XP,m,l,p,q,goInt]
        rw[e];have ht:kh w {w with heap:=w.heap.setIfInBounds (G.loc id) (.stringIter ⟨s.toArray⟩ (pos+(Wg ⟨s.toArray⟩ pos).2))} (G.loc id):=
         ⟨by simp,λk hk=>by simp[WL,W_ hk],rfl,rfl,rfl⟩
        have hl:(H.o id).live=true:=by rw[f];rfl
        have r:G.loc id<w.heap.size:=(W3.1 d).1;obtain⟨u,y⟩:=b.write hl i ht (.hB s (pos+(Wg ⟨s.toArray⟩ pos).2)) rfl λ_=>⟨by simp[r],i⟩
        refine⟨_,_,_,rfl,?_,u,y⟩;refine .aM _ _ rfl λj c V hc a=>?_
        match j with
        |0=>simp at hc a;subst hc;subst a;exact .bool _
        |1=>simp at hc a;subst hc;subst a;exact .int _ _
        |2=>simp at hc a;subst hc;subst a;exact .int _ _
        |j+3=>simp at hc
      · rename_i z;cases h;have e:(XP (.pointer (some ⟨G.loc id,0,none⟩)) true t).run P w = .ok (.tuple #[.bool false]) w:=by
         simp[XP,m,l,z]
        rw[e];refine⟨_,_,_,rfl,?_,b,Step.refl _ _ _⟩;refine .aM _ _ rfl λj c V hc a=>?_
        match j with
        |0=>simp at hc a;subst hc;subst a;exact .bool _
        |j+1=>simp at hc
   ·cases h
 ·cases h
end
end Rb

namespace Rb
open Go
variable{kk:FK}{kt t et ty:TypeId}{v m x y:I}{M X Y V:Value}{d:TypeDesc}{b ok:Bool}
def kQ(P:Program)(kt:TypeId)(kk:FK):Bool:=
 match P.underlying kt,kk with
 |some (.int _),.n|some .bool,.b|some .string,.t=>true
 |_,_=>false
section
variable{P:Program}{F:dk}{w:World}{G:b4}{H:Z}
theorem sL(h:kQ P kt kk=true):∃d,P.underlying kt=some d∧((kk = .n∧∃q,d = .int q)∨(kk = .b∧d = .bool)∨(kk = .t∧d = .string)):=by
 unfold kQ at h;split at h
 ·rename_i q a;exact⟨_,a,.inl ⟨rfl,q,rfl⟩⟩
 ·rename_i a;exact⟨_,a,.inr (.inl ⟨rfl,rfl⟩)⟩
 ·rename_i a;exact⟨_,a,.inr (.inr ⟨rfl,rfl⟩)⟩
 ·cases h
theorem m9(h:kQ P kt kk=true)(e:Bool)(K:Value)(n:Nat):(XR e (n+1) kt K).run P w = .ok () w:=by obtain⟨d,a,hk⟩:=sL h;rcases hk with⟨_,q,rfl⟩|⟨_,rfl⟩|⟨_,rfl⟩<;>simp[XR,run_underlying a]
theorem Dd(s t:Array UInt8):((⟨s⟩:ByteArray)==⟨t⟩)=(s==t):=rfl
theorem yK(hk:(kk = .n∧∃q,d = .int q)∨(kk = .b∧d = .bool)∨(kk = .t∧d = .string))(h:n7 kk x y=some b)(c:VR F w G x X)(e:VR F w G y Y) :
  XS d X Y=some b:=by
 unfold n7 at h;split at h
 · split at h
   · rename_i hc;obtain⟨rfl,rfl⟩:=hc;obtain rfl:=c.fC;obtain rfl:=e.fC;rcases hk with⟨_,q,rfl⟩|⟨a,_⟩|⟨a,_⟩
     ·simpa[XS]using h
     ·cases a
     ·cases a
   ·cases h
 · split at h
   · rename_i hc;subst hc;obtain rfl:=c.iD;obtain rfl:=e.iD;rcases hk with⟨a,_⟩|⟨a,_⟩|⟨_,rfl⟩
     ·cases a
     ·cases a
     · rename_i s t;simp only[XS];rw[←h];congr 1;rw[Dd];simp
   ·cases h
 · split at h
   · rename_i hc;subst hc;obtain rfl:=c.iC;obtain rfl:=e.iC;rcases hk with⟨a,_⟩|⟨_,rfl⟩|⟨a,_⟩
     ·cases a
     ·simpa[XS]using h
     ·cases a
   ·cases h
 ·cases h
theorem yL(hk:(kk = .n∧∃q,d = .int q)∨(kk = .b∧d = .bool)∨(kk = .t∧d = .string))(c:VR F w G x X) :
  ∀ (es:List (I×I)) (E:List MapEntry) (i:Nat) (r:Option (Nat×I)),es.length=E.length→(∀(j:Nat)(k v:I),es[j]?=some (k,v)→∃e,E[j]?=some e∧VR F w G k e.key∧VR F w G v e.val) →
   jl kk x es i=some r→(r=none∧XT d X E i=some none)∨∃j v V,r=some (i+j,v)∧XT d X E i=some (some (i+j,V))∧VR F w G v V∧j<es.length∧∃k e,es[j]?=some (k,v)∧E[j]?=some e∧n7 kk x k=some true∧VR F w G k e.key:=by
 intro es;induction es with
 | nil=>intro E i r hl _ h;have:E=[]:=XJ.1 hl.symm;subst this;cases h;exact .inl ⟨rfl,rfl⟩
 | cons p es m=>
  intro E i r hl f h;obtain⟨k,v⟩:=p;obtain⟨e,he,a,o⟩:=f 0 k v rfl;cases E with
  |nil=>simp at he
  | cons g E=>
   simp at he;subst he;simp only[jl]at h;split at h
   · rename_i heq;cases h;refine .inr ⟨0,v,g.val,rfl,?_,o,by simp,k,g,rfl,rfl,heq,a⟩;simp only[XT,yK hk heq c a];rfl
   · rename_i heq;have:=m E (i+1) r (by simpa using hl) (λj k v l=>by
       obtain⟨e,he,h⟩:=f (j+1) k v (by simpa using l);exact⟨e,by simpa using he,h⟩) h
     rcases this with⟨rfl,hf⟩|⟨j,s,V,rfl,hf,hv,l,u,y,g1,g2,g3,g4⟩
     · left;refine⟨rfl,?_⟩;simp only[XT,yK hk heq c a];exact hf
     · right;refine⟨j+1,s,V,by simp;omega,?_,hv,by simp;omega,u,y,by simpa using g1,by simpa using g2,g3,g4⟩;simp only[XT,yK hk heq c a];rw[hf];simp;omega
   ·cases h
theorem L_(a:Rel F w G H):hG F w G H (.map H.n) (H.push (.map [])) ((XU t none).run P w):=by
 have d:(XU t none).run P w = .ok (.map (some w.heap.size)) (w.alloc (.map #[] 0)):=rfl;rw[d];have c:=du.alloc w (.map #[] 0);have e:=a.n;have b:(G.more w.heap.size 0).loc H.n=w.heap.size:=aa e.symm;obtain ⟨f,g⟩:=a.sG c 0 (.map []) ⟨#[],0,by rw[b];exact c.new,rfl,λj hf=>by rw[b]at hf;exact a.od j hf,λj k v h=>by simp at h⟩
 refine⟨_,_,_,rfl,?_,f,g⟩;have:=VR.map (F:=F) (w:=w.alloc (.map #[] 0)) (G:=G.more w.heap.size 0) H.n (show H.n<G.n+1 by omega);rw[b]at this;exact this
theorem yM(hv:VR F w G v V):VR F w G (p4 ok v b) (if ok then .tuple #[V,.bool b]else V):=by
 unfold p4;cases ok with
 |false=>simpa using hv
 | true=>
  simp only[aY];refine .aM _ _ rfl λj c U hc a=>?_
  match j with
  |0=>simp at hc a;subst hc;subst a;exact hv
  |1=>simp at hc a;subst hc;subst a;exact .bool _
  |j+2=>simp at hc
theorem Ma{f:TypeInfo}{z:Value}{zero m k v:I}{ok:Bool}{M K:Value}(n:Rel F w G H)(ht:P.underlying t=some (.map kt et))(hk:kQ P kt kk=true)(hi:P.info? et=some f)(o:f.zero=some z)
  (g:VR F w G zero z) (h:mc H kk zero ok m k=some v) (hm:VR F w G m M) (p:VR F w G k K):∃V,(XV t M K ok).run P w = .ok V w∧VR F w G v V:=by
 obtain⟨d,a,q⟩:=sL hk;have b:(zeroValue et).run P w = .ok z w:=by simp[zeroValue,typeInfo,hi,o]
 unfold mc at h;split at h
 · split at h
   · cases h;obtain rfl:M = .map none:=by cases hm;rfl
     refine⟨_,?_,yM g⟩;simp[XV,run_underlying ht,run_underlying a,m9 hk,XW,XT,b]
   ·cases h
 · rename_i id;split at h
   · rename_i es s;split at h
     · have i:=n.obj id;rw[s]at i;obtain⟨E,clock,x,hs,A,hv⟩:=i;cases hm with
       | map _ B=>
        have l:=run_getObj_map (P:=P) w (G.loc id) E clock x;cases hf:jl kk k es 0 with
        |none=>simp[hf]at h
        | some r=>
         simp only[hf,Wz,Wy.injEq]at h;rcases yL q p es E.toList 0 r (by simp[hs]) (λj k v y=>by obtain⟨e,he,h⟩:=hv j k v y;exact⟨e,by simpa using he,h⟩) hf with⟨rfl,c⟩|⟨j,u,V,rfl,c,hu,_⟩
         · subst h;refine⟨_,?_,yM g⟩;simp[XV,run_underlying ht,run_underlying a,m9 hk,XW,c,b,l]
         · subst h;refine⟨_,?_,yM hu⟩;simp[XV,run_underlying ht,run_underlying a,m9 hk,XW,c,b,l]
     ·cases h
   ·cases h
 ·cases h
theorem Z.mh{H:Z}{i:Nat}{x:cN}(h:H.o i=x):H.set i x=H:=by
 cases H with
 | mk n o=>
  simp only[Z.set]at h ⊢;congr 1;funext j;split
  ·rename_i a;rw[a,←h]
  ·rfl
theorem sM(w:World)(b:Nat)(o:Obj):kh w {w with heap:=w.heap.setIfInBounds b o} b:=⟨by simp,λk hk=>by simp[WL,W_ hk],rfl,rfl,rfl⟩
theorem Mb(h:n7 kk x y=some true)(a:VR F w G x X)(b:VR F w G y Y):XX 10000 Y X=true:=by
 unfold n7 at h;split at h
 · split at h
   · rename_i hc;obtain⟨rfl,rfl⟩:=hc;obtain rfl:=a.fC;obtain rfl:=b.fC;simp at h;simp[XX,h]
   ·cases h
 · split at h
   · obtain rfl:=a.iD;obtain rfl:=b.iD;simp at h;simp[XX,h,Dd]
   ·cases h
 · split at h
   · obtain rfl:=a.iC;obtain rfl:=b.iC;simp at h;simp[XX,h]
   ·cases h
 ·cases h
theorem Mc{m k v:I}{M K V:Value}{H':Z}(g:Rel F w G H)(ht:P.underlying t=some (.map kt et))(hk:kQ P kt kk=true)
  (h:p5 H kk m k v=some H') (hm:VR F w G m M) (b:VR F w G k K) (z:VR F w G v V):∃R,(XY t M K V).run P w = .ok () R∧Rel F R G H'∧Step w G H R G H':=by
 obtain⟨d,A,O⟩:=sL hk;unfold p5 at h;split at h
 · rename_i id;split at h
   · rename_i es B;split at h
     · have C :=g.obj id;rw[B]at C;obtain⟨E,clock,l,hs,c,hv⟩:=C;have hl:(H.o id).live=true:=by rw[B];rfl
       have D:G.loc id<w.heap.size:=(W3.1 l).1;cases hm with
       | map _ W=>
        have J:=run_getObj_map (P:=P) w (G.loc id) E clock l;have L:∀o,(setObj (G.loc id) o).run P w = .ok () {w with heap:=w.heap.setIfInBounds (G.loc id) o}:=λo=>by simp[setObj,XQ,l]
        cases hf:jl kk k es 0 with
        |none=>simp[hf]at h
        | some r =>
         simp only[hf,Wz,Wy.injEq]at h;rcases yL O b es E.toList 0 r (by simp[hs]) (λj k v n=>by obtain⟨e,he,h⟩:=hv j k v n;exact⟨e,by simpa using he,h⟩) hf with⟨rfl,f⟩|⟨j,u,U,rfl,f,hu,n,X,e0,g1,g2,g3,g4⟩
         · subst h;refine⟨_,?_,g.write hl c (sM w _ (.map (E.push {key:=K,val:=V,born:=clock}) (clock+1))) _ rfl λa=>?_⟩
           ·simp[XY,run_underlying ht,run_underlying A,m9 hk,XW,f,J,L]
           · refine ⟨E.push {key:=K,val:=V,born:=clock},clock+1,by simp[D],by simp[hs],c,λi p q hi=>?_⟩;by_cases Q:i<es.length
             · rw[XZ Q]at hi;obtain⟨e,he,s,x⟩:=hv i p q hi;refine⟨e,?_,s.mono a,x.mono a⟩;rw[W0,bF];exact he
             · rw [X0 (by omega)]at hi;have S:i=es.length:=by
                have:=(Wh.1 hi).1;simp at this;omega
               subst S;simp at hi;obtain⟨rfl,rfl⟩:=hi;exact⟨{key:=K,val:=V,born:=clock},by rw[←hs];simp,b.mono a,z.mono a⟩
         · simp only[W7]at h f;subst h;have N:E[j]?=some e0:=by simpa using g2
           refine⟨_,?_,g.write hl c (sM w _ (.map (E.modify j λe=>{e with key:=K,val:=V}) clock)) _ rfl λa=>?_⟩
           · have T:(X1 e0.key K).run P w = .ok K w:=by
               simp[X1,Mb g3 b g4]
             simp[XY,run_underlying ht,run_underlying A,m9 hk,XW,f,J,N,T,L]
           · refine ⟨E.modify j λe=>{e with key:=K,val:=V},clock,by simp[D],by simp[hs],c,λi p q hi=>?_⟩;rw[WK]at hi;by_cases y:j=i
             · subst y;simp only[aY,n]at hi;cases hi;refine⟨{e0 with key:=K,val:=V},?_,b.mono a,z.mono a⟩;rw[W9,aa rfl,N];rfl
             · rw[ab y]at hi;obtain⟨e,he,s,x⟩:=hv i p q hi;refine⟨e,?_,s.mono a,x.mono a⟩;rw[W9,ab y];exact he
     ·cases h
   ·cases h
 ·cases h
theorem Md{t kt et t' ty:TypeId}{m k:I}{M K:Value}{H':Z}(n:Rel F w G H)(ht:P.underlying t=some (.map kt et))(hk:kQ P kt kk=true)
  (h:p6 H kk m k=some H') (hm:VR F w G m M) (N:VR F w G k K):∃R,(X2 #[t,t'] ty #[M,K]).run P w = .ok (.tuple #[]) R∧Rel F R G H'∧Step w G H R G H':=by
 obtain⟨d,B,O⟩:=sL hk;unfold p6 at h;split at h
 · rename_i id;split at h
   · rename_i es p;split at h
     · have C :=n.obj id;rw[p]at C;obtain⟨E,clock,q,hs,b,hv⟩:=C;have hl:(H.o id).live=true:=by rw[p];rfl
       have D:G.loc id<w.heap.size:=(W3.1 q).1;cases hm with
       | map _ W=>
        have J:=run_getObj_map (P:=P) w (G.loc id) E clock q;have L:∀o,(setObj (G.loc id) o).run P w = .ok () {w with heap:=w.heap.setIfInBounds (G.loc id) o}:=λo=>by simp[setObj,XQ,q]
        cases hf:jl kk k es 0 with
        |none=>simp[hf]at h
        | some r =>
         simp only[hf,Wz,Wy.injEq]at h;rcases yL O N es E.toList 0 r (by simp[hs]) (λj k v s=>by obtain⟨e,he,h⟩:=hv j k v s;exact⟨e,by simpa using he,h⟩) hf with⟨rfl,c⟩|⟨j,u,U,rfl,c,hu,s,X,e0,g1,g2,g3,g4⟩
         · subst h;have hw:=n.write hl b (sM w _ (.map E clock)) (.map es) rfl λa=>⟨E,clock,by simp[D],hs,b,λi f g hi=>by
             obtain⟨e,he,x,y⟩:=hv i f g hi;exact⟨e,he,x.mono a,y.mono a⟩⟩
           rw[Z.mh p]at hw;refine⟨_,?_,hw⟩;simp[X2,run_underlying ht,run_underlying B,m9 hk,XW,c,J,L]
         · simp only [W7]at h c;subst h;have Q:j<E.size:=by rw[hs];exact s
           refine⟨_,?_,n.write hl b (sM w _ (.map (E.eraseIdxIfInBounds j) clock)) _ rfl λa=>?_⟩
           ·simp[X2,run_underlying ht,run_underlying B,m9 hk,XW,c,J,L]
           · have he:(E.eraseIdxIfInBounds j).toList=E.toList.eraseIdx j:=by simp[Array.eraseIdxIfInBounds,Q]
             refine⟨E.eraseIdxIfInBounds j,clock,by simp[D],?_,b,λi f g hi=>?_⟩
             · rw[←Array.length_toList,he,X3,X3];simp[hs]
             · have S:∃l:Nat,es[l]?=some (f,g)∧(E.eraseIdxIfInBounds j)[i]?=E[l]?:=by
                 rw[X4]at hi;have z:(E.eraseIdxIfInBounds j)[i]?=(E.toList.eraseIdx j)[i]?:=by rw[←he,X5]
                 rw[z,X4];split at hi
                 ·rename_i A;exact⟨i,hi,by simp[A]⟩
                 ·rename_i A;exact⟨i+1,hi,by simp[A]⟩
               obtain⟨l,T,z⟩:=S;obtain⟨e,V,x,y⟩:=hv l f g T;exact⟨e,by rw[z];exact V,x.mono a,y.mono a⟩
     ·cases h
   ·cases h
 ·cases h
theorem Me(c:Rel F w G H)(ht:P.underlying t=some (.map kt et))(h:me H m=some v)(a:VR F w G m M):∃V,(WX #[t] ty #[M]).run P w = .ok V w∧VR F w G v V:=by
 unfold me at h;split at h
 · cases h;obtain rfl:M = .map none:=by cases a;rfl
   exact⟨goInt 0,by simp[WX,run_underlying ht],.int _ _⟩
 · rename_i id;split at h
   · rename_i es d;cases h;have b:=c.obj id;rw[d]at b;obtain⟨E,clock,e,hs,g,hv⟩:=b;cases a with
     | map _ i=>have f:=run_getObj_map (P:=P) w (G.loc id) E clock e;refine⟨goInt E.size,by simp[WX,run_underlying ht,f],?_⟩;rw[hs];exact .int _ _
   ·cases h
 ·cases h
end
end Rb

namespace Rb
open Go
variable{V:Value}{c:I}
structure Ctx where
 P:Program
 F:dk
 GT:Nat→Option (List I)
def oi:Value→I→Bool
 | .bool b,.bool a=>b==a
 | .int k n,.int c n'=>k==c&&n==n'
 | .string s,.str l=>s.data.toList==l
 | .pointer none,.eY | .map none,.fZ | .nilFunc,.gy | .nilIface,.gz=>true
 | .slice none 0 0,.av .nil 0 []=>true
 |_,_=>false
def gF:List Value→List I→Bool
 |[],[]=>true
 |V::Vs,c::cs=>oi V c&&gF Vs cs
 |_,_=>false
theorem Mf{z:Value}(h:gF z.cells.toList [.eY,.av .nil 0 []]=true):z.cells = #[.pointer none,.slice none 0 0]:=by
 generalize hl:z.cells.toList=l at h;have key:l=[.pointer none,.slice none 0 0]:=by
  match l,h with
  |[],h=>simp[gF]at h
  |[a],h=>simp[gF]at h
  |a::b::c::r,h=>simp[gF]at h
  | [a,b],h=>
   simp only[gF,Wn]at h;obtain⟨d,e,_⟩:=h;have f:a = .pointer none:=by unfold oi at d;split at d<;>simp_all
   have g:b = .slice none 0 0:=by unfold oi at e;split at e<;>simp_all
   rw[f,g]
 apply X6;rw[hl,key]
def sN(V:Value)(c:I):Bool:=
 match V,c with
 | .agg Vs,.agg cs=>gF Vs.toList cs
 | .tuple Vs,.aM cs=>gF Vs.toList cs
 |V,c=>oi V c
def mi:List I→List I→Bool
 |[],[]=>true
 | .int k a::r,.int c b::t=>k==c&&a==b&&mi r t
 | .bool a::r,.bool b::t=>a==b&&mi r t
 | .str a::r,.str b::t=>a==b&&mi r t
 |_,_=>false
def De(C:Ctx)(x:Operand)(y:bK):Bool:=
 match x,y with
 | .tmp t,.t t'=>t==t'
 | .const v,.k c=>sN v c
 | .global g,.k c=>match C.GT g,c with|some l,.ak a=>mi l a|_,_=>false
 | .func f,.k c=>match c with | .fn key []=>(gA key).isNone&&C.F key==some f|_=>false
 |_,_=>false
def Df:bK→Bool
 | .k .bot=>true
 |_=>false
def cy(C:Ctx)(x:Operand)(y:bK):Bool:=Df y||De C x y
def m_(C:Ctx)(x:Option Operand)(y:Option bK):Bool:=
 match x,y with
 |none,none=>true
 |some x,some y=>cy C x y
 |_,_=>false
def kj(C:Ctx):List Operand→List bK→Bool
 |[],[]=>true
 |x::xs,y::a=>cy C x y&&kj C xs a
 |_,_=>false
def oj(P:Program)(t:TypeId)(n:Nat):Option Field:=
 match P.underlying t with
 |some (.struct fs)=>fs[n]?
 |_=>none
def kR(P:Program)(t:TypeId):Option TypeId:=
 match P.underlying t with
 |some (.slice e)=>some e
 |_=>none
def sO(P:Program)(t:TypeId):Option (Nat×TypeId):=
 match P.underlying t with
 |some (.array n e)=>some (n,e)
 |_=>none
def na(P:Program)(t:TypeId)(sz:Nat):Bool:=
 match P.info? t with
 |some i=>i.size==sz
 |none=>false
def sP(P:Program)(t:TypeId)(sz bytes:Nat)(zero:List I):Bool:=
 match P.info? t with
 |some i=>i.size==sz&&i.bytes==bytes&&(match i.zero with|some z=>z.cells.size==sz&&gF z.cells.toList zero|none=>false)
 |none=>false
def nb(C:Ctx)(place:Nat→Option (Nat×Nat)):List (Nat×Operand)→List (Nat×Nat×bK)→Bool
 |[],[]=>true
 |(i,x)::r,(off,sz,y)::t=>place i==some (off,sz)&&cy C x y&&nb C place r t
 |_,_=>false
def placeOf(P:Program)(t:TypeId)(i:Nat):Option (Nat×Nat):=
 match P.underlying t with
 |some (.struct fs)=>match fs[i]? with|some f=>(P.info? f.type).map λinf=>(f.offset,inf.size)|none=>none
 |some (.array _ e)=>(P.info? e).map λinf=>(i*inf.size,inf.size)
 |_=>none
def yN(P:Program)(t:TypeId):Bool:=
 match P.underlying t with
 |some (.struct fs)=>fs.all λf=>(P.info? f.type).isSome
 |some (.array _ e)=>(P.info? e).isSome
 |_=>false
def jq(P:Program)(f:FuncId):Bool:=
 match P.funcs[f]? with
 | some fn => !(fn.name == "runtime.NumGoroutine") && fn.body.isSome
 |none=>false
def om(a:TypeId→Option (List FK)):List Field→Nat→Option (List FK)
 |[],_=>some []
 | f :: r, k => if f.offset = k ∧ f.name ≠ "_" then (match a f.type with | some l => (om a r (k + l.length)).map (l ++ ·) | none => none) else none
def kS(P:Program):Nat→TypeId→Option (List FK)
 |0,_=>none
 | d+1,t=>match P.underlying t,P.info? t with
  |some (.int _),_=>some [.n]
  |some .bool,_=>some [.b]
  |some .string,_=>some [.t]
  |some (.struct fs),some i=>if P.stoodInHeld t=true then none else(match om (kS P d) fs.toList 0 with|some l=>if i.size=l.length then some l else none|none=>none)
  |some (.array n e),some i=>(match kS P d e,P.info? e with|some l,some j=>if i.size=(We n l).flatten.length∧j.size=l.length then some (We n l).flatten else none|_,_=>none)
  |_,_=>none
def yO:TypeDesc→Bool
 | .interface _=>false
 |_=>true
def oo(C:Ctx)(o:Op)(e:Ext)(xs:List bK):Bool:=
 match e with
 | .stuck=>true
 | .kb T=>match o,xs with
  | .alloc t,[]=>t==T&&(match C.P.info? t with|some inf=>(match inf.zero with|some z=>gF z.cells.toList [.eY,.av .nil 0 []]|none=>false)|none=>false)
  | .box t a,[x]=>t==T&&cy C a x
  |_,_=>false
 | .n8 t=>match o,xs with
  | .typeAssert a _ t' ok,[x]=>t==t'&&!ok&&(match C.P.underlying t with|some d=>yO d|none=>false)&&cy C a x
  |_,_=>false
 | .mg neg=>match o,xs with
  | .binOp op t a b _,[x,y]=>op==(if neg then .neq else .eql)&&(match C.P.underlying t with|some (.pointer e)=>(match C.P.info? e with|some j=>j.size != 0|none=>false)|_=>false)&&cy C a x&&cy C b y
  |_,_=>false
 | .grow sz bytes zero=>match o,xs with
  | .call {callee:= .builtin .append,args,argTypes},[x,y]=>(match args.toList,argTypes.toList with
    |[a,b],[t,it]=>cy C a x&&cy C b y&&(match C.P.underlying it with|some (.int _)=>true|_=>false)&&(match kR C.P t with|some e=>(match C.P.info? e with|some inf=>inf.size==sz&&inf.bytes==bytes&&(match inf.zero with|some z=>gF z.cells.toList zero|none=>false)|none=>false)|none=>false)
    |_,_=>false)
  |_,_=>false
 | .clear sz zero=>match o,xs with
  | .call {callee:= .builtin .clear,args,argTypes},[x]=>(match args.toList,argTypes.toList with
    |[a],[t]=>cy C a x&&(match kR C.P t with|some e=>(match C.P.info? e with|some inf=>(match inf.zero with|some z=>z.cells.size==sz&&gF z.cells.toList zero|none=>false)|none=>false)|none=>false)
    |_,_=>false)
  |_,_=>false
def sQ(C:Ctx)(name:String)(t:TypeId)(a:Nat)(m:Option (Nat×Bool)):Bool:=
 match C.P.info? t with
 | some i=>(match i.methods.find? (·.name==name)with
   | some mt=>mt.path.toList.isEmpty&&(match mt.func,m,C.P.underlying t with
     |some (f,true),none,some (.pointer _)=>C.F a==some f&&jq C.P f
     |some (f,false),some (n,agg),some (.pointer e)=>C.F a==some f&&jq C.P f&&h4 C.P e n agg
     |_,_,_=>false)
   |none=>false)
 |none=>false
def sS(C:Ctx)(name:String):List (TypeId×Nat×Option (Nat×Bool))→Bool
 |[]=>true
 |(t,key,m)::r=>sQ C name t key m&&sS C name r
def c7(C:Ctx)(o:Op)(a:ej):Bool:=
 match a with
 | .mv x=>match o with | .move y | .assign y=>cy C y x|_=>false
 | .pick c x y=>match o with | .pick c' g h=>cy C c' c&&cy C g x&&cy C h y|_=>false
 | .bin op x y=>match o with | .binOp B _ g h _=>op==B&&cy C g x&&cy C h y|_=>false
 | .beq neg x y=>match o with
  | .binOp op t g h _=>op==(if neg then .neq else .eql)&&(match C.P.underlying t with|some .bool=>true|_=>false)&&cy C g x&&cy C h y
  |_=>false
 | .jJ k neg x=>match o with
  | .binOp op t g h _=>op==(if neg then .neq else .eql)&&(match C.P.underlying t with|some d=>ob d==some k|none=>false)&&cy C g x &&
    (match h with | .const v=>(match k,v with | .p,.pointer none | .s,.slice none 0 0 | .m,.map none | .f,.nilFunc | .i,.nilIface=>true|_,_=>false)|_=>false)
  |_=>false
 | .i0 neg ks x y=>match o with
  | .binOp op t g h _=>op==(if neg then .neq else .eql)&&(match C.P.underlying t with|some d=>h3 d|none=>false)&&kS C.P 9 t==some ks&&!C.P.eqGuardType C.P.depth t&&cy C g x&&cy C h y
  |_=>false
 | .un op x=>match o with | .unOp B _ g=>op==B&&cy C g x|_=>false
 | .conv k x=>match o with
  | .convert s d g=>(match C.P.underlying s,C.P.underlying d with|some _,some (.int j)=>k==j|_,_=>false)&&cy C g x
  |_=>false
 | .same x=>match o with
  | .convert s d g=>(match C.P.underlying s,C.P.underlying d with|some .string,some .string=>true|_,_=>false)&&cy C g x
  |_=>false
 | .kc x=>match o with | .nilCheck g=>cy C g x|_=>false
 | .field off sz agg x=>match o with
  | .field t g n=>(match oj C.P t n with|some f=>f.offset==off&&h4 C.P f.type sz agg|none=>false)&&cy C g x
  |_=>false
 | .idx len sz agg x i=>match o with
  | .index t g u=>(match sO C.P t with|some (n,e)=>n==len&&h4 C.P e sz agg|none=>false)&&cy C g x&&cy C u i
  |_=>false
 | .idxs x i=>match o with
  | .index t g u=>(match C.P.underlying t with|some .string=>true|_=>false)&&cy C g x&&cy C u i
  |_=>false
 | .kd off x=>match o with
  | .fieldAddr t g n=>(match oj C.P t n with|some f=>f.offset==off&&(match C.P.info? f.type with|some I=>I.size != 0|none=>false)|none=>false)&&cy C g x
  |_=>false
 | .jK arr sz x i=>match o with
  | .indexAddr t g u=>(match arr with
      |none=>(match kR C.P t with|some e=>na C.P e sz|none=>false)
      |some n=>(match sO C.P t with|some (n',e)=>n==n'&&na C.P e sz|none=>false))&&cy C g x&&cy C u i
  |_=>false
 | .slice sz x lo hi mx=>match o with
  | .slice t g D E G=>(match kR C.P t with|some e=>na C.P e sz|none=>false)&&cy C g x&&m_ C D lo&&m_ C E hi&&m_ C G mx&&(mx.isNone||hi.isSome)
  |_=>false
 | .ke x lo hi=>match o with
  | .slice t g D E G=>(match C.P.underlying t with|some .string=>true|_=>false)&&cy C g x&&m_ C D lo&&m_ C E hi&&G.isNone
  |_=>false
 | .hZ t x=>match o with
  | .makeInterface t' g=>t==t'&&(match C.P.underlying t with|some (.interface _)=>false|some _=>true|none=>false)&&cy C g x
  |_=>false
 | .hD key b_=>match o with
  | .makeFunc (.func f) first H=>match gA key with
   |none=>C.F key==some f&&first.size==0&&kj C H.toList b_
   |some k=>C.F k==some f&&H.size==0&&kj C first.toList b_
  |_=>false
 | .extract i x=>match o with | .extract g u=>i==u&&cy C g x|_=>false
 | .build zero parts=>match o with
  | .build t ps=>(match C.P.info? t with|some inf=>(match inf.zero with|some z=>gF z.cells.toList zero|none=>false)|none=>false)&&yN C.P t&&nb C (placeOf C.P t) ps.toList parts
  |_=>false
 | .len str x=>match o with
  | .call {callee:= .builtin .len,args,argTypes}=>(match args.toList,argTypes.toList with
      |[g],[t]=>cy C g x&&(match C.P.underlying t with|some .string=>str|some (.slice _)=>!str|_=>false)
      |_,_=>false)
  |_=>false
 | .cap x=>match o with
  | .call {callee:= .builtin .cap,args,argTypes}=>(match args.toList,argTypes.toList with
      |[g],[t]=>cy C g x&&(match C.P.underlying t with|some (.slice _)=>true|_=>false)
      |_,_=>false)
  |_=>false
 | .h0 n=>match o with
  | .call {callee:= .builtin .len,args,argTypes}=>(match args.toList,argTypes.toList with
      |[_],[t]=>(match C.P.underlying t with|some (.array n' _)=>n==n'|_=>false)
      |_,_=>false)
  |_=>false
 | .h1 mx xs=>match o with
  | .call {callee:= .builtin b,args,..}=>(match b with | .max=>mx | .min=>!mx|_=>false)&&kj C args.toList xs
  |_=>false
 | .load n agg x=>match o with | .load t g=>h4 C.P t n agg&&cy C g x|_=>false
 | .store n x v=>match o with | .store t g A=>(h4 C.P t n true||h4 C.P t n false)&&cy C g x&&cy C A v|_=>false
 | .box _ _ x=>match o with | .box _ g=>cy C g x|_=>false
 | .alloc _ zero=>match o with
  | .alloc t=>(match C.P.info? t with|some inf=>(match inf.zero with|some z=>gF z.cells.toList zero|none=>false)|none=>false)
  |_=>false
 | .hE _ sz len zero parts=>match o with
  | .buildSlice t J ps=>(match kR C.P t with
      |some e=>(match C.P.info? e with|some inf=>sP C.P e sz inf.bytes zero|none=>false)&&zero.length==sz&&len==J&&decide (len*sz≤16777216)&&nb C (λi=>some (i*sz,sz)) ps.toList parts
      |none=>false)
  |_=>false
 | .append _ sz bytes x y=>match o with
  | .call {callee:= .builtin .append,args,argTypes}=>(match args.toList,argTypes.toList with
      | [g, h], [t, t'] => t == t' && cy C g x && cy C h y && (match kR C.P t with
          |some e=>(match C.P.info? e with|some inf=>inf.size==sz&&inf.bytes==bytes&&(match inf.zero with|some z=>z.cells.size==sz|none=>false)&&decide (0<sz)|none=>false)
          |none=>false)
      |_,_=>false)
  |_=>false
 | .make _ sz bytes zero len cap=>match o with
  | .makeSlice t l c=>cy C l len&&cy C c cap&&(match kR C.P t with|some e=>sP C.P e sz bytes zero|none=>false)
  |_=>false
 | .call key args=>match o with
  | .call {callee:= .value (.func f),args:=w,..}=>C.F key==some f&&jq C.P f&&kj C w.toList args
  |_=>false
 | .iz f args=>match o with
  | .call {callee:= .value K,args:=w,..}=>cy C K f&&kj C w.toList args
  |_=>false
 | .kf x=>match o with
  | .convert s d g=>(match C.P.underlying s,C.P.underlying d with|some .string,some (.slice e)=>(match C.P.underlying e with|some (.int .u8)=>true|_=>false)|_,_=>false)&&cy C g x
  |_=>false
 | .iv x=>match o with
  | .convert s d g=>(match C.P.underlying s,C.P.underlying d with|some (.slice e),some .string=>(match C.P.underlying e with|some (.int .u8)=>true|_=>false)|_,_=>false)&&cy C g x
  |_=>false
 | .iw x=>match o with | .range t g=>(match C.P.underlying t with|some .string=>true|_=>false)&&cy C g x|_=>false
 | .iy x=>match o with | .next g true=>cy C g x|_=>false
 | .hF=>match o with | .makeMap _ r=>r.isNone|_=>false
 | .lookup kk zero ok m k=>match o with
  | .lookup t q j L=>ok==L&&(match C.P.underlying t with|some (.map kt et)=>kQ C.P kt kk&&(match C.P.info? et with|some inf=>(match inf.zero with|some z=>sN z zero|none=>false)|none=>false)|_=>false)&&cy C q m&&cy C j k
  |_=>false
 | .h2 kk m k v=>match o with
  | .mapUpdate t q j A | .insert t q j A=>(match C.P.underlying t with|some (.map kt _)=>kQ C.P kt kk|_=>false)&&cy C q m&&cy C j k&&cy C A v
  |_=>false
 | .delete kk m k=>match o with
  | .call {callee:= .builtin .delete,args,argTypes}=>(match args.toList,argTypes.toList with
      |[q,j],[t,_]=>cy C q m&&cy C j k&&(match C.P.underlying t with|some (.map kt _)=>kQ C.P kt kk|_=>false)
      |_,_=>false)
  |_=>false
 | .iu m=>match o with
  | .call {callee:= .builtin .len,args,argTypes}=>(match args.toList,argTypes.toList with
      |[q],[t]=>cy C q m&&(match C.P.underlying t with|some (.map _ _)=>true|_=>false)
      |_,_=>false)
  |_=>false
 | .ext e xs=>oo C o e xs
 | .inv iA x args=>match o with
  | .call {callee:= .invoke g name,args:=w,..}=>cy C g x&&kj C w.toList args&&sS C name iA
  |_=>false
 | .copy sz x y=>match o with
  | .call {callee:= .builtin .copy,args,argTypes}=>(match args.toList,argTypes.toList with
      |[g,h],[t,_]=>cy C g x&&cy C h y&&(match kR C.P t with|some e=>na C.P e sz|none=>false)
      |_,_=>false)
  |_=>false
def jr(C:Ctx)(w:World)(G:b4):Prop:=∀g l,C.GT g=some l→VR C.F w G (.ak l) (.pointer (some ⟨g,0,none⟩))
theorem jr.mono{C:Ctx}{w R:World}{G G':b4}(a:GLe w G R G')(h:jr C w G):jr C R G':=λg l hl=>(h g l hl).mono a
def eS(C:Ctx)(w:World)(G:b4)(H:Z):Prop:=jr C w G∧∀g l,C.GT g=some l→l≠[]→(∃cs t fr,w.heap[g]?=some (.cells cs t fr)∧cs.size=l.length)∧∀i,(H.o i).live=true→G.loc i≠g
theorem eS.step{C:Ctx}{w R:World}{G G':b4}{H H':Z}(h:eS C w G H)(a:Step w G H R G' H'):eS C R G' H':=by refine⟨h.1.mono a.toGLe,λg l hl f=>?_⟩;obtain⟨⟨cs,t,fr,b,hs⟩,c⟩:=h.2 g l hl f;have d:g<w.heap.size:=(W3.1 b).1;refine⟨⟨cs,t,fr,(a.ep g d c).trans b,hs⟩,λi hi e=>?_⟩;obtain⟨j,k,m⟩:=a.owned i hi (by rw[e];exact d);exact c j k (m.trans e)
theorem eS.yE{C:Ctx}{w:World}{G:b4}{H:Z}{x:cN}(h:eS C w G H){b c:Nat}(p:GLe w G w (G.more b c))(k:G.n=H.n)(q:∀j,¬G.fz b j):eS C w (G.more b c) (H.push x):=by
 refine⟨h.1.mono p,λg l hl a=>⟨(h.2 g l hl a).1,λi hi e=>?_⟩⟩;by_cases d:i=H.n
 · have s:(G.more b c).loc i=b:=aa (d.trans k.symm);have hv:=h.1 g l hl;generalize t:(Value.pointer (some ⟨g,0,none⟩))=X at hv;generalize f:I.ak l=Y at hv;cases hv with
   | ak cells A o Vs hc hv=>
    cases t;cases f;cases m:l with
    |nil=>exact a m
    | cons u r=>refine q 0 ?_;rw[←s,e];simpa using(hc 0 u (by rw[m];rfl)).1
   |bot=>cases f
   |_=>cases f
 · have v:(H.push x).o i=H.o i:=ab d;have y:(G.more b c).loc i=G.loc i:=ab (λz=>d (z.trans k));rw[v]at hi;rw[y]at e;exact(h.2 g l hl a).2 i hi e
theorem eS.mt{C:Ctx}{w:World}{G G':b4}{H H':Z}(h:eS C w G H)(a:jr C w G')(b:∀i,(H'.o i).live=true→False):eS C w G' H':=⟨a,λg l hl c=>⟨(h.2 g l hl c).1,λi hi=>(b i hi).elim⟩⟩
def aj(C:Ctx):ae:=λkey args H Q=>
 (∃v H',Q v H')∧∀f,C.F key=some f→∀(G:b4)(w:World)(Vs:Array Value),eS C w G H→Rel C.F w G H→bo C.F w G args Vs →
  Calls C.P f Vs w λe R=>∃V v H' G',e = .returned V∧Q v H'∧VR C.F R G' v V∧Rel C.F R G' H'∧Step w G H R G' H'
theorem yP(C:Ctx):kM (aj C):=λ_ _ _ _ h=>h.1
section
variable{C:Ctx}{w:World}{G:b4}{H:Z}{env:Env}{a:Act}
theorem Dg(h:oi V c=true):VR C.F w G c V:=by
 unfold oi at h;split at h
 ·simp at h;subst h;exact .bool _
 ·simp at h;obtain⟨rfl,rfl⟩:=h;exact .int _ _
 · rename_i s l;simp at h;subst h;have:s=⟨s.data.toList.toArray⟩:=(Lib.mk_data s).symm;rw[this];simpa using VR.str (F:=C.F) (w:=w) (G:=G) s.data.toList
 ·exact .eY
 ·exact .fZ
 ·exact .gy
 ·exact .gz
 ·exact .fA
 ·cases h
theorem kT:∀{Vs:List Value}{cs:List I},gF Vs cs=true→bo C.F w G cs Vs.toArray:=by
 intro Vs;induction Vs with
 |nil=>intro cs h;cases cs<;>simp[gF]at h;exact bo.nil
 | cons V Vs f=>
  intro cs h;cases cs with
  |nil=>simp[gF]at h
  | cons c cs=>
   simp[gF]at h;have e:=f h.2;refine bo.m7 (by have:=e.1;simp at this ⊢;exact this) λj d U a b=>?_;cases j with
   |zero=>simp at a b;subst a;subst b;exact Dg h.1
   |succ j=>exact e.2 j d U (by simpa using a) (by simpa using b)
theorem Dh(h:sN V c=true):VR C.F w G c V:=by
 unfold sN at h;split at h
 · rename_i Vs cs;have:=(kT (C:=C) (w:=w) (G:=G) h).agg;simpa using this
 · rename_i Vs cs;have:=(kT (C:=C) (w:=w) (G:=G) h).aM;simpa using this
 ·exact Dg h
theorem Mg:∀{l a:List I},mi l a=true→l=a:=by
 intro l;induction l with
 |nil=>intro a h;cases a<;>simp[mi]at h;rfl
 | cons c l b=>
  intro a h;cases a with
  |nil=>cases c<;>simp[mi]at h
  | cons d a=>
   cases c<;>cases d<;>simp[mi]at h
   ·rw[h.1,b h.2]
   ·rw[h.1.1,h.1.2,b h.2]
   ·rw[h.1,b h.2]
theorem sU{t:Nat}(b:bo C.F w G env a.tmps):VR C.F w G (env.getD t .bot) (a.tmps.getD t undef):=by
 rw[XH,XC];cases hc:env[t]? with
 |none=>exact .bot _
 | some c=>obtain⟨V,d,e⟩:=b.get hc;rw[d];exact e
theorem cA{x:Operand}{y:bK}(b:jr C w G)(d:bo C.F w G env a.tmps)(h:cy C x y=true):VR C.F w G (y.ev env) (a.eval x):=by
 unfold cy at h;rw[Wo]at h;rcases h with h|h
 · unfold Df at h;split at h
   ·exact .bot _
   ·cases h
 unfold De at h;split at h
 ·simp at h;subst h;exact sU d
 ·exact Dh h
 · split at h
   · rename_i l e hl;rw[←Mg h];exact b _ _ hl
   ·cases h
 · split at h
   · rename_i key;simp only[Wn,Option.isNone_iff_eq_none,b9]at h;exact .fn key [] _ #[] h.1 h.2 rfl (λj c V hc _=>by simp at hc)
   ·cases h
 ·cases h
theorem qb{x:Option Operand}{y:Option bK}(b:jr C w G)(c:bo C.F w G env a.tmps)(h:m_ C x y=true):kO C.F w G (y.map (bK.ev env)) (x.map a.eval):=by
 unfold m_ at h;split at h
 ·trivial
 ·exact cA b c h
 ·cases h
theorem nc(g:jr C w G)(i:bo C.F w G env a.tmps):∀{xs:List Operand}{b:List bK},kj C xs b=true→bo C.F w G (eE env b) (xs.map a.eval).toArray:=by
 intro xs;induction xs with
 |nil=>intro b h;cases b<;>simp[kj]at h;exact bo.nil
 | cons x xs k=>
  intro b h;cases b with
  |nil=>simp[kj]at h
  | cons y b=>
   simp[kj]at h;have f:=k h.2;refine bo.m7 (by have:=f.1;simp[eE]at this ⊢;exact this) λj d U c e=>?_;cases j with
   |zero=>simp[eE]at c e;subst c;subst e;exact cA g i h.1
   |succ j=>exact f.2 j d U (by simpa[eE]using c) (by simpa using e)
theorem Di(f:jr C w G)(g:bo C.F w G env a.tmps){place:Nat→Option (Nat×Nat)}:∀{xs:List (Nat×Operand)}{b:List (Nat×Nat×bK)},nb C place xs b=true →
  (gD env b).length=(xs.map λp=>(p.1,a.eval p.2)).length ∧
  ∀(j:Nat)(q:Nat×Nat×I)(p:Nat×Value),(gD env b)[j]?=some q→(xs.map λp=>(p.1,a.eval p.2))[j]?=some p→place p.1=some (q.1,q.2.1)∧VR C.F w G q.2.2 p.2:=by
 intro xs;induction xs with
 |nil=>intro b h;cases b<;>simp[nb]at h;exact⟨rfl,λj q p c=>by simp[gD]at c⟩
 | cons x xs k=>
  intro b h;obtain⟨i,x⟩:=x;cases b with
  |nil=>simp[nb]at h
  | cons y b=>
   obtain⟨off,sz,y⟩:=y;simp[nb]at h;obtain⟨e,l⟩:=k h.2;refine⟨by simp[gD]at e ⊢;exact e,λj q p c d=>?_⟩;cases j with
   |zero=>simp[gD]at c d;subst c;subst d;exact⟨h.1.1,cA f g h.1.2⟩
   |succ j=>exact l j q p (by simpa[gD]using c) (by simpa using d)
end
end Rb

namespace Rb
open Go
variable{v:I}{t e tp te:TypeId}{Xs:Array Value}{H':Z}{V z:Value}{inf j i:TypeInfo}{sz m:Nat}{D:TypeDesc}{k:IntKind}{zero:List I}{name:String}{R:World}{next:Act→World→Prop}
def Op.oq(m:Nat)(xs c:Array Value)(e:TypeId)(n:Nat):List Nat→Sem Bool
 |[]=>pure true
 | i::r=>do
  let a ←part e xs (i*n);let b ←part e c (i*n);let x ←Ww m e a b
  if(!x)=true then pure false else Op.oq m xs c e n r
theorem run_equalIn_array{P:Program}(w:World)(m:Nat)(t e:TypeId)(len:Nat)(i:TypeInfo)(xs c:Array Value)(ht:P.underlying t=some (.array len e))(hi:P.info? e=some i) :
  (Ww (m+1) t (.agg xs) (.agg c)).run P w=(Op.oq m xs c e i.size (Xa len)).run P w:=by
 have hs:(Wm e).run P w = .ok i.size w:=by simp[Wm,typeInfo,hi]
 simp only[Ww,X7,run_underlying ht,X8,hs];rw[X9];have d:X_ (Ya [:len]) (Yb [:len]) (Yc [:len])=Xa len:=by simp[Yb,Yd]
 rw[d];clear hs d;generalize Xa len=l;induction l generalizing w with
 |nil=>simp[Op.oq]
 | cons j r f=>
  simp only[List.forIn_cons,Op.oq,X7,Sem.run_ite];generalize (part e xs (j*i.size)).run P w=r1;cases r1 with
  | ok a w1=>
   simp only[X8];generalize (part e c (j*i.size)).run P w1=g;cases g with
   | ok b w2=>
    simp only[X8];generalize (Ww m e a b).run P w2=h;cases h with
    | ok x w3=>
     cases x
     ·simp only[X8,Bool.not_false,aY,Ye]
     · simp only[X8,Bool.not_true,Yf,cu,Ye];exact f w3
    |halt x w3=>simp[Yg]
   |halt x w2=>simp[Yg]
  |halt x w1=>simp[Yg]
theorem yQ:∀(a d:List FK)(xs l:List I)(b:Bool),dJ (a++d) xs l=some b →
  ∃f i g j b1 b2,xs=f++i∧l=g++j∧f.length=a.length∧g.length=a.length∧dJ a f g=some b1∧dJ d i j=some b2∧b=(b1&&b2):=by
 intro a;induction a with
 |nil=>intro d xs l b h;exact⟨[],xs,[],l,true,b,rfl,rfl,rfl,rfl,rfl,h,by simp⟩
 | cons k a s=>
  intro d xs l b h;have step:∀(x y:I)(r t:List I)(e q:Bool),dJ (a++d) r t=some e→(∀(z:Bool),dJ a (r.take a.length) (t.take a.length)=some z→dJ (k::a) (x::r.take a.length) (y::t.take a.length)=some (q&&z))→b=(q&&e) →
    ∃f i g j b1 b2,x::r=f++i∧y::t=g++j∧f.length=(k::a).length∧g.length=(k::a).length∧dJ (k::a) f g=some b1∧dJ d i j=some b2∧b=(b1&&b2):=by
   intro x y r t e q u o c;obtain⟨f,i,g,j,b1,b2,rfl,rfl,n,p,v,w,A⟩:=s d r t e u;rw[←n,Yh,n,←p,Yh]at o;exact⟨x::f,i,y::g,j,q&&b1,b2,rfl,rfl,by simp[n],by simp[p],o _ v,w,by rw[c,A,Bool.and_assoc]⟩
  cases k<;>cases xs<;>(try (simp[dJ]at h;done))<;>cases l<;>(try (simp[dJ]at h;done))<;>rename_i x r y t<;>cases x<;>(try (simp[dJ]at h;done))<;>cases y<;>(try (simp[dJ]at h;done))
  · simp only[Yi,dJ]at h;split at h
    · rename_i hk;subst hk;cases c:dJ (a++d) r t with
      |none=>simp[c]at h
      | some e=>simp[c]at h;exact step _ _ r t e _ c (λz m=>by simp only[dJ,aY,m,Wz]) h.symm
    ·cases h
  · simp only[Yi,dJ]at h;cases c:dJ (a++d) r t with
    |none=>simp[c]at h
    | some e=>simp[c]at h;exact step _ _ r t e _ c (λz m=>by simp only[dJ,m,Wz]) h.symm
  · simp only[Yi,dJ]at h;cases c:dJ (a++d) r t with
    |none=>simp[c]at h
    | some e=>simp[c]at h;exact step _ _ r t e _ c (λz m=>by simp only[dJ,m,Wz]) h.symm
theorem Dj:∀(ks:List FK)(xs a:List I)(b:Bool),dJ ks xs a=some b→xs.length=ks.length∧a.length=ks.length:=by intro ks xs a b h;obtain⟨i,c,j,d,b1,b2,rfl,rfl,e,f,_,g,_⟩:=yQ ks [] xs a b (by simpa using h);cases c<;>cases d<;>simp[dJ]at g;simp[e,f]
section
variable{P:Program}{F:dk}{w:World}{G:b4}
def hH(F:dk)(w:World)(G:b4)(Xs:Array Value)(o:Nat)(xs:List I):Prop:=∀(j:Nat)(c:I),xs[j]?=some c→∃V,Xs[o+j]?=some V∧VR F w G c V
theorem hH.left{o:Nat}{x y:List I}(h:hH F w G Xs o (x++y)):hH F w G Xs o x:=λj c a=>h j c (by rw[XZ (Wh.1 a).1];exact a)
theorem hH.right{o:Nat}{x y:List I}(h:hH F w G Xs o (x++y)):hH F w G Xs (o+x.length) y:=λj c a=>by have:=h (x.length+j) c (by rw[X0 (by omega)];simpa using a);rwa [←WD]at this
theorem hH.cut{o n:Nat}{x:List I}(h:hH F w G Xs o x)(d:n=x.length):hH F w G (Xs.extract o (o+n)) 0 x:=λj c a=>by obtain⟨V,b,hv⟩:=h j c a;have e:=(Wh.1 a).1;have f:=(W3.1 b).1;refine⟨V,?_,hv⟩;rw[W7,Wl,df];exact b
def qc(P:Program)(F:dk)(w:World)(G:b4)(m:Nat)(t:TypeId)(ks:List FK):Prop:=
 ∀ (Xs d:Array Value) (e f:Nat) (xs g:List I) (b:Bool),dJ ks xs g=some b→hH F w G Xs e xs→hH F w G d f g →
  ∃a c,(part t Xs e).run P w = .ok a w∧(part t d f).run P w = .ok c w∧(Ww m t a c).run P w = .ok b w
def sV(P:Program)(F:dk)(w:World)(G:b4)(m:Nat)(t:TypeId)(ks:List FK):Prop:=∀(Xs a:Array Value)(xs c:List I)(b:Bool),dJ ks xs c=some b→hH F w G Xs 0 xs→hH F w G a 0 c→(Ww m t (.agg Xs) (.agg a)).run P w = .ok b w
theorem Mh{g:TypeId→Option (List FK)}(s:∀t l,g t=some l→qc P F w G m t l){Xs h:Array Value}:∀(fs:List Field)(k:Nat)(ks:List FK)(xs e:List I)(b:Bool),om g fs k=some ks→dJ ks xs e=some b →
  hH F w G Xs k xs→hH F w G h k e→(Yj m Xs h fs).run P w = .ok b w:=by
 intro fs;induction fs with
 | nil=>intro k ks xs e b d he _ _;simp only[om,Wy.injEq]at d;subst d;cases xs<;>cases e<;>simp[dJ]at he;subst he;rfl
 | cons f fs u=>
  intro k ks xs e b d he j n;simp only[om]at d;split at d
  · rename_i v;obtain⟨x,y⟩:=v;split at d
    · rename_i l hl;cases i:om g fs (k+l.length)with
      |none=>simp[i]at d
      | some o=>
       simp only[i,Wz,Wy.injEq]at d;subst d;obtain⟨z,A,B,C,b1,b2,rfl,rfl,D,E,H,J,rfl⟩:=yQ l o xs e b he;obtain⟨a,c,p,hc,K⟩:=s _ _ hl Xs h k k z B b1 H j.left n.left;rw[←x]at p hc;have q:=j.right;have r:=n.right;rw[D]at q;rw[E]at r;simp only[Yj,y,ne_eq,not_false_eq_true,aY,X7,p,hc,K,X8];cases b1 with
       |false=>simp
       |true=>simp;exact u (k+l.length) o A C b2 i J q r
    ·cases d
  ·cases d
theorem Mi{l:List FK}(k:qc P F w G m e l){Xs f:Array Value}:∀(n s:Nat)(xs d:List I)(b:Bool),dJ (We n l).flatten xs d=some b →
  hH F w G Xs (s*l.length) xs→hH F w G f (s*l.length) d→(Op.oq m Xs f e l.length (X_ s n)).run P w = .ok b w:=by
 intro n;induction n with
 | zero=>intro s xs d b he _ _;cases xs<;>cases d<;>simp[dJ]at he;subst he;rfl
 | succ n o=>
  intro s xs d b he g h;rw[Xo,Xp]at he;obtain⟨p,q,r,t,b1,b2,rfl,rfl,u,v,x,y,rfl⟩:=yQ l _ xs d b he;obtain⟨a,c,z,hc,A⟩:=k Xs f _ _ p r b1 x g.left h.left;have i:=g.right;have j:=h.right;rw[u,←Yk]at i;rw[v,←Yk]at j;rw[List.range'_succ];simp only[Op.oq,X7,z,hc,A,X8];cases b1 with
  |false=>simp
  |true=>simp;exact o (s+1) q t b2 y i j
theorem Mj:∀(d:Nat)(t:TypeId)(ks:List FK),kS P d t=some ks→∀m,d≤m→qc P F w G m t ks∧(∀D,P.underlying t=some D→h3 D=true→sV P F w G m t ks):=by
 intro d;induction d with
 |zero=>intro t ks h;cases h
 | succ d z=>
  intro t ks h m hm;obtain⟨m,rfl⟩:∃N,m=N+1:=⟨m-1,by omega⟩
  have A:d≤m:=by omega
  have wrap:∀D (i:TypeInfo),P.underlying t=some D→h3 D=true→P.info? t=some i→i.size=ks.length→sV P F w G (m+1) t ks→qc P F w G (m+1) t ks∧(∀D,P.underlying t=some D→h3 D=true→sV P F w G (m+1) t ks):=by intro D i o p hi q B;refine⟨λXs r O Q xs c b he f g=>?_,λ_ _ _=>B⟩;obtain⟨C,E⟩:=Dj ks xs c b he;exact⟨_,_,yx o p hi,yx o p hi,B _ _ xs c b he (f.cut (by omega)) (g.cut (by omega))⟩
  have v:∀D,P.underlying t=some D→h3 D=false→∀k,ks=[k]→(∀x y b V U,dJ [k] [x] [y]=some b→VR F w G x V→VR F w G y U→(Ww (m+1) t V U).run P w = .ok b w)→qc P F w G (m+1) t ks∧(∀D,P.underlying t=some D→h3 D=true→sV P F w G (m+1) t ks):=by
   intro D o p k hk hs;subst hk;refine⟨λXs r O Q xs c b he f g=>?_,λW H I=>?_⟩
   · obtain ⟨C,E⟩:=Dj _ xs c b he
     match xs,c,C,E with
     | [x],[y],_,_=>obtain⟨V,J,hv⟩:=f 0 x rfl;obtain⟨U,K,hu⟩:=g 0 y rfl;rw[WW]at J K;exact⟨V,U,yy o p J,yy o p K,hs x y b V U he hv hu⟩
   ·rw[o]at H;cases H;rw[p]at I;cases I
  simp only[kS]at h;split at h
  · rename_i X a;cases h;refine v _ a rfl _ rfl λx y b V U he s u=>?_;cases x<;>cases y<;>simp only[dJ]at he<;>try (cases he;done)
    split at he
    · rename_i R;subst R;obtain rfl:=s.fC;obtain rfl:=u.fC;simp at he;rw[run_equalIn_int w m t _ _ _ _ a,he]
    ·cases he
  · rename_i a;cases h;refine v _ a rfl _ rfl λx y b V U he s u=>?_;cases x<;>cases y<;>simp only[dJ]at he<;>try (cases he;done)
    obtain rfl:=s.iC;obtain rfl:=u.iC;simp at he;rw[run_equalIn_bool' w m t _ _ a,he]
  · rename_i a;cases h;refine v _ a rfl _ rfl λx y b V U he s u=>?_;cases x<;>cases y<;>simp only[dJ]at he<;>try (cases he;done)
    obtain rfl:=s.iD;obtain rfl:=u.iD;simp at he;rw[run_equalIn_string w m t _ _ a];simp[he]
  · rename_i fs i a hi;split at h
    ·cases h
    · rename_i S;split at h
      · rename_i l hl;split at h
        · rename_i q;cases h;refine wrap _ i a rfl hi q λXs r xs c b he f g=>?_;have L:P.fieldsOf t=fs:=by simp[Program.fieldsOf,a]
          have M:=run_equalIn_struct (P:=P) w m t Xs r (by rw[L];exact a) (by simpa using S);rw[L]at M;rw[M];exact Mh (λt l hl=>(z t l hl m A).1) fs.toList 0 _ xs c b hl he f g
        ·cases h
      ·cases h
  · rename_i n e i a hi;split at h
    · rename_i l j hl T;split at h
      · rename_i q;cases h;refine wrap _ i a rfl hi q.1 λXs r xs c b he f g=>?_;rw[run_equalIn_array w m t e n j Xs r a T,q.2,Yd];exact Mi (z e l hl m A).1 n 0 xs c b he (by simpa using f) (by simpa using g)
      ·cases h
    ·cases h
  ·cases h
end
section
variable{P:Program}{F:dk}{w:World}{G:b4}{H:Z}
theorem bo.take{cs:List I}{L:List Value}(h:bo F w G cs L.toArray)(k:Nat):bo F w G (cs.take k) (L.take k).toArray:=by
 refine bo.m7 (by have:=h.1;simp at this;simp[this]) λj c V hc a=>?_;have b:j<k:=by have:=(Wh.1 hc).1;simp at this;omega
 rw[Yl b]at hc a;exact h.2 j c V hc (by simpa using a)
theorem Mk{t t2 e ty:TypeId}{x y v:I}{X Y:Value}{H':Z}(b:Rel F w G H)(ht:P.underlying t=some (.slice e))(hi:P.info? e=some inf)(hs:inf.size=sz)
  (h:p3 H sz x y=some (v,H')) (g:VR F w G x X) (i:VR F w G y Y):hG F w G H v H' ((Ym #[t,t2] ty #[X,Y]).run P w):=by
 subst hs;unfold p3 at h;split at h
 · rename_i id o len A m news k;obtain⟨l,d,c,rfl,n⟩:=yI b k i;split at h
   · rename_i cs p;dsimp only at h;split at h
     · rename_i hk;cases h;have q:∃L:List Value,bo F w G (news.take (min m len*inf.size)) L.toArray∧(XF inf.size (min m len) (.slice d m c)).run P w = .ok L.toArray w:=by
        rcases Nat.eq_zero_or_pos m with hm|hm
        · subst hm;have:news=[]:=by simpa using l
          subst this;refine⟨[],by simpa using bo.nil,?_⟩;cases d<;>simp[XF,loadCells,loadCellsFrom]
        · obtain ⟨bs,os,rfl,r⟩:=n hm;obtain⟨M,f,s⟩:=r.m8;have B:M.length=m*inf.size:=by have:=f.1;simp at this;omega
          refine⟨M.take (min m len*inf.size),f.take _,?_⟩;have hle:min m len*inf.size≤m*inf.size:=XA _ (Nat.min_le_left _ _);exact run_firstCells_some (P:=P) w inf.size (min m len) ⟨bs,os,none⟩ m c (M.take (min m len*inf.size)) (by rw[List.length_take,B];omega) λj u a=>by
           have C:j<min m len*inf.size:=by have:=(Wh.1 a).1;simp at this;omega
           rw[Yl C]at a;exact s j u a
       obtain⟨L,D,hf⟩:=q;have Q:(news.take (min m len*inf.size)).length≤min m len*inf.size:=by simp;omega
       obtain ⟨R,E,J,K⟩:=sI (P:=P) (o:=o) b p D (by omega) (by rw[Xi];intro z N;exact(Xi.1 hk.1) z (List.mem_of_mem_take N))
       cases g with
       | row _ _ _ _ cap S hle hc=>refine⟨.int .i64 ((min m len:Nat):Int),R,G,?_,.int _ _,J,K⟩;have O:Nat.min m len=min m len:=rfl;simp[Ym,run_underlying ht,Wm,typeInfo,hi,Xy,O,hf,E,goInt]
     ·cases h
   ·cases h
 ·cases h
end
section
variable{P:Program}{F:dk}{w:World}{G:b4}{H:Z}
theorem Ml{t a:TypeId}(ht:P.underlying t=some D)(b:yO D=true):(Yn (.iface t V) a t false).run P w = .ok V w:=by cases D<;>first|(simp[yO]at b;done)|simp[Yn,run_underlying ht]
theorem yR{c r:Bool}{a b:Addr}{p q:Operand}(f:P.underlying tp=some (.pointer te))(g:P.info? te=some j)(i:j.size≠0)(hs:(sameAddr a b).run P w = .ok r w) :
  (do eqGuard (if c then .neq else .eql) tp p q (.pointer (some a)) (.pointer (some b));binOp (if c then .neq else .eql) tp (.pointer (some a)) (.pointer (some b)):Sem Value).run P w = .ok (.bool (if c then !r else r)) w:=by
 have h:∀d:Nat,(Ww (d+1) tp (.pointer (some a)) (.pointer (some b))).run P w = .ok r w:=λd=>by simp[Ww,run_underlying f,Wm,typeInfo,g,i,hs]
 cases c
 · have e:binOp .eql tp (.pointer (some a)) (.pointer (some b))=(do pure (.bool (←Wx tp (.pointer (some a)) (.pointer (some b))))):=rfl;simp[eqGuard,e,Wx,Yo,h 9999]
 · have e:binOp .neq tp (.pointer (some a)) (.pointer (some b))=(do pure (.bool (!(←Wx tp (.pointer (some a)) (.pointer (some b)))))):=rfl;simp[eqGuard,e,Wx,Yo,h 9999]
theorem Mm{a:Bool}{x y v:I}{X Y:Value}{H':Z}{p q:Operand}(c:Rel F w G H)(d:P.underlying tp=some (.pointer te))(f:P.info? te=some j)(g:j.size≠0)
  (h:eR H (.mg a) [x,y]=some (v,H')) (z:VR F w G x X) (A:VR F w G y Y) :
  ∃V,(do eqGuard (if a then .neq else .eql) tp p q X Y;binOp (if a then .neq else .eql) tp X Y:Sem Value).run P w = .ok V w∧VR F w G v V∧H'=H:=by
 cases x<;>cases y<;>try (simp[eR]at h;done)
 rename_i i o k b;simp only[eR]at h;split at h
 · rename_i cs ds hi r;have s:=c.obj i;have t:=c.obj k;rw[hi]at s;rw[r]at t;obtain⟨C,e,hc,_⟩:=s;obtain⟨D,E,u,_⟩:=t;cases z with
   | ptr _ _ J=>
    cases A with
    | ptr _ _ K=>
     split at h
     · rename_i l;subst l;simp only[Wy.injEq,Yp.injEq]at h;obtain⟨rfl,rfl⟩:=h;by_cases m:o=b
       · subst m;refine⟨_,yR d f g (run_sameAddr_same (P:=P) w _),?_,rfl⟩;rw[beq_self_eq_true];cases a<;>exact VR.bool _
       · have n:(⟨G.loc i,o,none⟩:Addr)≠⟨G.loc i,b,none⟩:=λe=>m (by injection e);have B:(o==b)=false:=by simpa using m
         rw[B];refine⟨_,yR d f g (run_sameAddr_other w n hc u),?_,rfl⟩;cases a<;>exact VR.bool _
     · rename_i l;simp only[Wy.injEq,Yp.injEq]at h;obtain⟨rfl,rfl⟩:=h;have n:(⟨G.loc i,o,none⟩:Addr)≠⟨G.loc k,b,none⟩:=λe=>c.gk i k l (by rw[hi];rfl) (by rw[r];rfl) (by injection e);refine⟨_,yR d f g (run_sameAddr_other w n hc u),?_,rfl⟩;cases a<;>exact VR.bool _
 ·cases h
theorem Mn(w:World){t a ty e:TypeId}(ht:P.underlying t=some (.slice e))(c:P.underlying a=some (.int k))(hi:P.info? e=some i)(d:i.zero=some z)(hs:i.size≠0)
  (n:Nat) (f:0<n) (q:(n:Int)≤9223372036854775807) (r:n*i.bytes≤281474976710656) :
  (Xx #[t,a] ty #[.slice none 0 0,.int .i64 n]).run P w =
   .ok (.slice (some ⟨w.heap.size,0,none⟩) n (grownCap w n 0 e)) (w.drew.alloc (.cells (#[]++XD z.cells n++XD z.cells (grownCap w n 0 e-n)) e)):=by
 have b:n≠0:=by omega
 have g:¬(9223372036854775807<(n:Int)):=by omega
 have j:¬(281474976710656<Builtin.nextslicecap n 0*i.bytes):=by rw[nextslicecap_zero f];omega
 have hw:Xu.wrap (n:Int)=n:=by simp[Xv,Wv,Wu];omega
 have l:¬((n:Int)<0):=by omega
 have m:¬(281474976710656<(n:Int)*(i.bytes:Int)):=by
  have:((n*i.bytes:Nat):Int)≤281474976710656:=by omega
  rw[Int.natCast_mul]at this;omega
 have o:n*i.size≠0:=Nat.mul_ne_zero b hs;have p:Xu.max=9223372036854775807:=rfl;simp[Xx,run_underlying ht,run_underlying c,Wm,typeInfo,zeroValue,hi,d,asInt,asIntOf,hw,l,m,b,hs,g,j,p,Question.forced,XF,newRow,grownCap];intro h;exact absurd h o
theorem Mo{t d e ty:TypeId}{sz bytes:Nat}{x y v:I}{X Y:Value}{H':Z}(q:Rel F w G H)(ht:P.underlying t=some (.slice e))(r:P.underlying d=some (.int k))(hi:P.info? e=some inf)(hs:inf.size=sz)(s:inf.bytes=bytes)(u:inf.zero=some z)(f:bo F w G zero z.cells)
  (h:eR H (.grow sz bytes zero) [x,y]=some (v,H')) (A:VR F w G x X) (B:VR F w G y Y):hG F w G H v H' ((Xx #[t,d] ty #[X,Y]).run P w):=by
 subst hs s;cases x<;>try (simp[eR]at h;done)
 rename_i tk len cells;cases tk<;>cases len<;>cases cells<;>try (simp[eR]at h;done)
 cases y<;>try (simp[eR]at h;done)
 rename_i C n;cases C<;>try (simp[eR]at h;done)
 simp only[eR]at h;split at h
 · rename_i hk;obtain⟨D,g,E,J,S⟩:=hk;simp only[Wy.injEq,Yp.injEq]at h;obtain⟨rfl,rfl⟩:=h;obtain rfl:=B.fC;obtain⟨m,rfl⟩:=Xt (Int.le_of_lt D);simp only[Xw]at g ⊢;have i:zero.length=z.cells.size:=f.1;cases A with
   | fA=>
    rw[Mn w ht r hi u (by omega) m (by omega) E g];have K:=oe f m;have L:∀(j:Nat)(c:I),(We m zero).flatten[j]?=some c→∃V,(#[]++XD z.cells m++XD z.cells (grownCap w m 0 e-m))[j]?=some V∧VR F w G c V:=by intro j c M;obtain⟨V,l,a⟩:=K.get M;rw[i]at l;refine⟨V,?_,a⟩;have p:(XD z.cells m)[j]?=some V:=l;rw[Array.empty_append,WJ,aa (W3.1 p).1];exact p
    have N:=grownCap_ge w m 0 e;have O:(#[]++XD z.cells m++XD z.cells (grownCap w m 0 e-m)).size=grownCap w m 0 e*inf.size:=by simp only[XE,Array.size_empty,size_zeroCells,W7,←WT,←i,J];congr 1;omega
    obtain⟨G',a,Q,hv⟩:=sK q (du.drew w _) L O m N;exact⟨_,_,G',rfl,hv,a,Q⟩
   |av _ _ _ b o cap Vs R hle h hv=>exact R.elim
 ·cases h
theorem Mp{t e ty:TypeId}{sz:Nat}{x v:I}{X:Value}{H':Z}(d:Rel F w G H)(ht:P.underlying t=some (.slice e))(hi:P.info? e=some inf)(k:inf.zero=some z)(f:bo F w G zero z.cells)
  (h:eR H (.clear sz zero) [x]=some (v,H')) (g:VR F w G x X):hG F w G H v H' ((Yq #[t] ty #[X]).run P w):=by
 have nothing:∀(a:Option Addr)(cap:Nat),hG F w G H (.aM []) H ((Yq #[t] ty #[.slice a 0 cap]).run P w):=by intro a cap;refine⟨.tuple #[],w,G,?_,.aM [] #[] rfl (λj c V hc _=>by simp at hc),d,Step.refl _ _ _⟩;cases a<;>simp[Yq,run_underlying ht]
 cases x<;>try (simp[eR]at h;done)
 · rename_i tk len cells;cases len with
   |succ n=>simp[eR]at h
   | zero=>
    simp only[eR,Wy.injEq,Yp.injEq]at h;obtain⟨rfl,rfl⟩:=h;cases g with
    |fA=>exact nothing _ _
    |fB a cap=>exact nothing _ _
    |av _ _ _ b o cap Vs E hle h hv=>exact nothing _ _
 · rename_i id o len J;simp only[eR]at h;cases g with
   | row _ _ _ _ cap K hle hc=>
    split at h
    · rename_i hl;subst hl;simp only[Wy.injEq,Yp.injEq]at h;obtain⟨rfl,rfl⟩:=h;exact nothing _ _
    · rename_i hl;split at h
      · rename_i cs m;split at h
        · rename_i hk;obtain⟨p,q,r⟩:=hk;simp only[Wy.injEq,Yp.injEq]at h;obtain⟨rfl,rfl⟩:=h;have s:zero.length=z.cells.size:=f.1;have u:bo F w G (We len zero).flatten (XD z.cells len).toList.toArray:=by
           have:=oe f len;rw[s]at this;rw[Array.toArray_toList];exact this
          have y:(We len zero).flatten.length=len*zero.length:=by simp
          have A:(We len zero).flatten.all I.scalar=true:=by rw[Xi];intro c hc;rw[List.mem_flatten]at hc;obtain⟨l,hl,i⟩:=hc;rw[(List.mem_replicate.1 hl).2]at i;exact(Xi.1 p) c i
          obtain⟨R,B,C,D⟩:=sI (P:=P) (o:=o) d m u (by rw[y,q];exact r) A;refine⟨.tuple #[],R,G,?_,.aM [] #[] rfl (λj c V hc _=>by simp at hc),C,D⟩;obtain⟨n,rfl⟩:∃n,len=n+1:=⟨len-1,by omega⟩
          simp[Yq,run_underlying ht,zeroValue,typeInfo,hi,k,B]
        ·cases h
      ·cases h
end
theorem Dk{P:Program}{w:World}{n:Nat}{t f:Nat}{V U:Value}{a:Method}{pr:Bool}(hi:P.info? t=some i)(b:i.methods.find? (·.name==name)=some a)(c:a.path.toList=[])(hf:a.func=some (f,pr))
  (d:∀wr,(receiverAt t (.val V) pr wr).run P w = .ok U w):(method (n+1) t V name).run P w = .ok (f,U) w:=by
 have e:(typeInfo t).run P w = .ok i w:=by simp[typeInfo,hi]
 unfold method;simp only[X7,e,X8,b,c,follow,Ye,hf,d]
theorem Mq{C:Ctx}{w:World}{G:b4}{H:Z}{j:Nat}{m:Option (Nat×Bool)}{v u:I}(o:Rel C.F w G H)(h:sQ C name t j m=true)(d:VR C.F w G v V)(b:p8 H m v=some u) :
  ∃f U,C.F j=some f∧jq C.P f=true∧(method (C.P.types.size+Yr) t V name).run C.P w = .ok (f,U) w∧VR C.F w G u U:=by
 have p:C.P.types.size+Yr=(C.P.types.size+99)+1:=rfl;rw[p];unfold sQ at h;cases hi:C.P.info? t with
 |none=>rw[hi]at h;cases h
 | some i=>
  rw[hi]at h;dsimp only at h;cases hm:i.methods.find? (·.name==name)with
  |none=>rw[hm]at h;cases h
  | some mt=>
   rw[hm]at h;dsimp only at h;rw[Wn]at h;obtain⟨q,h⟩:=h;have k:mt.path.toList=[]:=by simpa using q
   cases c:mt.func with
   |none=>rw[c]at h;cases h
   | some r=>
    obtain⟨f,pr⟩:=r;rw[c]at h;cases ht:C.P.underlying t with
    |none=>rw[ht]at h;cases pr<;>cases m<;>cases h
    | some D=>
     rw[ht]at h;cases D<;>try (cases pr<;>cases m<;>cases h;done)
     rename_i e;have l:(underlying t).run C.P w = .ok (.pointer e) w:=run_underlying ht w;cases pr with
     | true=>
      cases m with
      |some _=>cases h
      | none=>simp only[Wn,b9]at h;simp only[p8,Wy.injEq]at b;subst b;refine⟨f,V,h.1,h.2,Dk hi hm k c λwr=>?_,d⟩;unfold receiverAt;simp only[X7,l,X8];rfl
     | false=>
      cases m with
      |none=>cases h
      | some s=>
       obtain⟨n,agg⟩:=s;simp only[Wn,b9]at h;obtain⟨⟨x,y⟩,z⟩:=h;simp only[p8]at b;obtain⟨U,g,A⟩:=yF (P:=C.P) z o b d;have B:∃a,V = .pointer (some a):=by unfold O at b;cases d<;>first|(simp at b;done)|exact⟨_,rfl⟩
       obtain⟨a,rfl⟩:=B;simp only[Xd,WG,X7,Ye,X8]at g;refine⟨f,U,x,y,Dk hi hm k c λwr=>?_,A⟩;unfold receiverAt;simp only[X7,l,X8,Place.get,Ye];cases wr with
       |none=>simp only[X7,Ye,X8,asAddr,g]
       | some nm=>
        have hs : (Builtin.ssaWrapNilChk_ #[t] t #[.pointer (some a), strVal "", strVal nm]).run C.P w = .ok (.pointer (some a)) w := rfl
        simp only[X7,hs,Ye,X8,asAddr,g]
theorem Dl{C:Ctx}{name:String}:∀{l:List (TypeId×Nat×Option (Nat×Bool))}{t:TypeId}{r:Nat×Option (Nat×Bool)},sS C name l=true→p7 l t=some r→sQ C name t r.1 r.2=true
 |[],_,_,_,h=>by cases h
 | (t',a)::l,t,r,hc,h=>by
  simp only[sS,Wn]at hc;simp only[p7]at h;split at h
  · rename_i e;cases h;rw[←e];exact hc.1
  ·exact Dl hc.2 h
def kU(C:Ctx):Prop:=∀key f,C.F key=some f→jq C.P f=true
def sW(C:Ctx)(w:World)(G:b4)(H:Z)(K:ad)(a:Act)(b:Option Tmp):Act→World→Prop:=λc R=>∃v H' G' V,c=a.put b V∧K v H'∧VR C.F R G' v V∧Rel C.F R G' H'∧Step w G H R G' H'
section
variable{C:Ctx}{w:World}{G:b4}{H:Z}{env:Env}{a:Act}{o:Oper}{K:ad}{Q:Exit→Act→World→Prop}
theorem sX(h:(execOp a.eval o).run C.P w = .ok (.value V) R)(b:next (a.put o.dst V) R):o.wp C.P a w next Q:=by unfold Ys;rw[h];exact b
theorem Dm(h:(execOp a.eval o).run C.P w = .ok .skip R)(b:next (a.put o.dst undef) R):o.wp C.P a w next Q:=by unfold Ys;rw[h];exact b
theorem ot:VR C.F w G (.aM []) undef:= .aM [] #[] rfl λj c V hc _=>by simp at hc
theorem wp_pure(b:Rel C.F w G H)(h:(execOp a.eval o).run C.P w = .ok (.value V) w)(hv:VR C.F w G v V)(c:K v H):o.wp C.P a w (sW C w G H K a o.dst) Q:=sX h ⟨v,H,G,V,rfl,c,hv,b,Step.refl _ _ _⟩
theorem i5{r:Result Value}(h:hG C.F w G H v H' r)(b:(execOp a.eval o).run C.P w=r.andThen λV R=> .ok (.value V) R)(c:K v H'):o.wp C.P a w (sW C w G H K a o.dst) Q:=by obtain⟨V,R,G',rfl,hv,d,e⟩:=h;exact sX b ⟨v,H',G',V,rfl,c,hv,d,e⟩
theorem sY{f:FuncId}{a:Array Value}(h:jq C.P f=true):(callFunc f a).run C.P w = .ok (.enter f a) w:=by
 unfold jq at h;split at h
 · rename_i fn hf;simp at h;obtain⟨d,e⟩:=h;cases b:fn.body with
   |none=>simp[b]at e
   |some c=>simp[callFunc,hf,d,b]
 ·cases h
theorem Mr{P:Program}{F:dk}{d:Bool}{ks:List FK}{x y v:I}{X Y:Value}{p q:Operand}(ht:P.underlying t=some D)(m:h3 D=true)(n:kS P 9 t=some ks)
  (i:P.eqGuardType P.depth t=false) (h:ir d ks x y=some v) (o:VR F w G x X) (r:VR F w G y Y) :
  ∃V,(do eqGuard (if d then .neq else .eql) t p q X Y;binOp (if d then .neq else .eql) t X Y:Sem Value).run P w = .ok V w∧VR F w G v V:=by
 unfold ir at h;split at h
 · rename_i xs k;obtain⟨Xs,rfl,s⟩:=o.m6;obtain⟨a,rfl,u⟩:=r.m6;cases e:dJ ks xs k with
   |none=>simp[e]at h
   | some b=>
    simp only[e,Wz,Wy.injEq]at h;subst h;have l:(Wx t (.agg Xs) (.agg a)).run P w = .ok b w:=
     (Mj (F:=F) (G:=G) 9 t ks n 10000 (by omega)).2 D ht m Xs a xs k b e (λj c f=>by rw[W7];exact s.get f) (λj c f=>by rw[W7];exact u.get f)
    refine⟨_,?_,.bool _⟩;cases d
    · have g:binOp .eql t (.agg Xs) (.agg a)=(do pure (.bool (←Wx t (.agg Xs) (.agg a)))):=rfl;simp[eqGuard,i,g,l]
    · have g:binOp .neq t (.agg Xs) (.agg a)=(do pure (.bool (!(←Wx t (.agg Xs) (.agg a))))):=rfl;simp[eqGuard,i,g,l]
 ·cases h
end
end Rb

namespace Rb
open Go
variable{P:Program}{t e:TypeId}{n sz:Nat}{zero:List I}{α:Type}
section
variable{C:Ctx}{w:World}{G:b4}{H:Z}{env:Env}{a:Act}{o:Oper}{K:ad}{Q:Exit→Act→World→Prop}
theorem ly(h:kR P t=some e):P.underlying t=some (.slice e):=by
 unfold kR at h;split at h
 ·rename_i a ht;cases h;exact ht
 ·cases h
theorem Dn(h:sO P t=some (n,e)):P.underlying t=some (.array n e):=by
 unfold sO at h;split at h
 ·rename_i a ht;cases h;exact ht
 ·cases h
theorem Dp{f:Field}(h:oj P t n=some f):∃fs,P.underlying t=some (.struct fs)∧fs[n]?=some f:=by
 unfold oj at h;split at h
 ·rename_i fs ht;exact⟨fs,ht,h⟩
 ·cases h
theorem yS(h:na P t sz=true):∃i,P.info? t=some i∧i.size=sz:=by
 unfold na at h;split at h
 ·rename_i i hi;simp at h;exact⟨i,hi,h⟩
 ·cases h
theorem yT{F:dk}{sz bytes:Nat}(h:sP P t sz bytes zero=true) :
  ∃i z,P.info? t=some i∧i.size=sz∧i.bytes=bytes∧i.zero=some z∧z.cells.size=sz∧gF z.cells.toList zero=true:=by
 unfold sP at h;split at h
 · rename_i i hi;simp only[Wn,b9]at h;obtain⟨⟨b,c⟩,a⟩:=h;split at a
   · rename_i z d;simp only[Wn,b9]at a;exact⟨i,z,hi,b,c,d,a.1,a.2⟩
   ·cases a
 ·cases h
theorem hb{l:Array α}{xs:List α}(h:l.toList=xs):l=xs.toArray:=by subst h;simp
theorem Ms{α β:Type}{g:α→Sem β}{h:α→β}:∀(l:List α),(∀x∈l,(g x).run P w = .ok (h x) w)→(l.mapM g).run P w = .ok (l.map h) w:=by
 intro l;induction l with
 |nil=>intro _;rfl
 | cons x l a=>intro hl;have b:=hl x (by simp);have c:=a (λy d=>hl y (by simp[d]));rw[List.mapM_cons];simp only[X7,b,c,X8,Ye,XK]
theorem Mt{o:TypeInfo}{z:Value}{a:List (Nat×Nat×I)}{ps:List (Nat×Value)}{v:I}(hi:C.P.info? t=some o)(r:o.zero=some z)(A:gF z.cells.toList zero=true)
  (hk:yN C.P t=true) (hl:a.length=ps.length) (B:∀(j:Nat)(q:Nat×Nat×I)(p:Nat×Value),a[j]?=some q→ps[j]?=some p→placeOf C.P t p.1=some (q.1,q.2.1)∧VR C.F w G q.2.2 p.2)
  (h:ba zero a=some v):∃V,(Yt t ps.toArray).run C.P w = .ok V w∧VR C.F w G v V:=by
 unfold ba at h;cases hf:jk zero a with
 |none=>simp[hf]at h
 | some cells=>
  simp[hf]at h;subst h;have D:=kT (C:=C) (w:=w) (G:=G) A;have E:bo C.F w G zero z.cells:=by simpa using D
  obtain⟨g,s,H⟩:=C8 (place:=placeOf C.P t) a ps _ _ _ E hl B hf;refine⟨.agg g,?_,H.agg⟩;unfold yN at hk;split at hk
  · rename_i fs ht;have J:∀(l:List Field),(∀f∈l,(C.P.info? f.type).isSome=true)→(l.mapM λf=>(do pure (f.offset,←Wm f.type):Sem (Nat×Nat))).run C.P w = .ok (l.map λf=>(f.offset,((C.P.info? f.type).map (·.size)).getD 0)) w:=by
     intro l hl;refine Ms l λf hf=>?_;have K:=hl f hf;cases b:C.P.info? f.type with
     |none=>simp[b]at K
     |some M=>simp[Wm,typeInfo,b]
    have u:∀f∈fs.toList,(C.P.info? f.type).isSome=true:=λf hf=>by rw[Array.all_eq_true_iff_forall_mem]at hk;exact hk f (by simpa using hf)
    have hm:=J fs.toList u;have k:∀i,((fs.toList.map λf=>(f.offset,((C.P.info? f.type).map (·.size)).getD 0)).toArray)[i]?=placeOf C.P t i:=by
     intro i;unfold placeOf;rw[ht];simp only[Xg,Xb,X5];cases b:fs[i]? with
     |none=>rfl
     | some f=>
      have:=u f (by simpa using Array.mem_of_getElem? b);cases y:C.P.info? f.type with
      |none=>simp[y]at this
      |some x=>simp[y]
    have c:WV (λi=>((fs.toList.map λf=>(f.offset,((C.P.info? f.type).map (·.size)).getD 0)).toArray)[i]?) z.cells ps=some g:=by rw[show(λi=>((fs.toList.map λf=>(f.offset,((C.P.info? f.type).map (·.size)).getD 0)).toArray)[i]?)=placeOf C.P t from funext k];exact s
    have L:(fs.mapM λf=>(do pure (f.offset,←Wm f.type):Sem (Nat×Nat))).run C.P w = .ok (fs.toList.map λf=>(f.offset,((C.P.info? f.type).map (·.size)).getD 0)).toArray w:=by
     have he:fs=fs.toList.toArray:=by simp
     rw[he,List.mapM_toArray];simp only[Sem.run_map,hm,X8]
    simp only[Yt,zeroValue,typeInfo,X7,run_program,X8,hi,r,run_underlying ht,L,Ye];simp at c;simp[c]
  · rename_i n e ht;cases m:C.P.info? e with
    |none=>simp[m]at hk
    | some d=>
     have k:(λi=>some (i*d.size,d.size))=placeOf C.P t:=by funext i;unfold placeOf;rw[ht];simp[m]
     have c:WV (λi=>some (i*d.size,d.size)) z.cells ps=some g:=by rw[k];exact s
     simp[Yt,zeroValue,typeInfo,Wm,hi,r,run_underlying ht,m,c]
  ·cases hk
theorem Dq(aX:kU C){ao:ej}(g:c7 C o.op ao=true)(aE:eS C w G H)(S:Rel C.F w G H)(L:bo C.F w G env a.tmps)(h:ct (aj C) env H K ao) :
  o.wp C.P a w (sW C w G H K a o.dst) Q:=by
 have M:=aE.1;cases ao with
 | mv x=>
  simp only[c7]at g;split at g
  · rename_i y B;exact wp_pure S (by simp[execOp,B]) (cA M L g) h
  · rename_i y B;exact wp_pure S (by simp[execOp,B]) (cA M L g) h
  ·cases g
 | pick c x y=>
  simp only[c7]at g;split at g
  · rename_i c' W ag B;simp only[Wn]at g;obtain⟨⟨A,E⟩,I⟩:=g;obtain⟨t,ht,h⟩:=yA h;have hc:=cA M L A;rw[ht]at hc;have aZ:=hc.iC;cases t with
    |true=>exact wp_pure S (V:=a.eval W) (by simp[execOp,B,aZ,asBool]) (cA M L E) (by simpa using h)
    |false=>exact wp_pure S (V:=a.eval ag) (by simp[execOp,B,aZ,asBool]) (cA M L I) (by simpa using h)
  ·cases g
 | bin op x y=>
  simp only[c7]at g;split at g
  · rename_i az t W ag aF B;simp only[Wn,b9]at g;obtain⟨⟨rfl,E⟩,I⟩:=g;obtain⟨v,hv,J⟩:=h;have ab:=cA M L E;have aA:=cA M L I;obtain⟨V,T,O⟩:=Ls (P:=C.P) (t:=t) hv ab aA;have Y:=C4 (P:=C.P) (w:=w) op t W ag (a.eval W) (a.eval ag)
     (λcs e=>by rw[e]at ab;generalize x.ev env=aJ at ab hv;cases ab<;>simp[N]at hv)
     (λe=>by rw[e]at ab;generalize x.ev env=aJ at ab hv;cases ab<;>simp[N]at hv)
    exact wp_pure S (by simp[execOp,B,Y,T]) O J
  ·cases g
 | beq neg x y=>
  simp only[c7]at g;split at g
  · rename_i az t W ag aF B;simp only[Wn,b9]at g;obtain⟨⟨⟨rfl,A⟩,E⟩,I⟩:=g;obtain⟨v,hv,J⟩:=h;have ab:=cA M L E;have aA:=cA M L I;split at A
    · rename_i ht;obtain⟨V,T,O⟩:=Lt (P:=C.P) (t:=t) ht hv ab aA;have Y:=C4 (P:=C.P) (w:=w) (if neg then .neq else .eql) t W ag (a.eval W) (a.eval ag)
       (λcs e=>by rw[e]at ab;generalize x.ev env=aJ at ab hv;cases ab<;>simp[j9]at hv)
       (λe=>by rw[e]at ab;generalize x.ev env=aJ at ab hv;cases ab<;>simp[j9]at hv)
      exact wp_pure S (by simp[execOp,B,Y,T]) O J
    ·cases A
  ·cases g
 | jJ k neg x=>
  simp only[c7]at g;split at g
  · rename_i az t W ag aF B;simp only[Wn,b9]at g;obtain⟨⟨⟨rfl,A⟩,E⟩,I⟩:=g;obtain⟨v,hv,J⟩:=h;have ab:=cA M L E;split at A
    · rename_i d ah;simp only[b9]at A;split at I
      · rename_i a1;have a2:a1=k.nil:=by
         split at I<;>first|rfl|cases I
        subst a2;obtain⟨V,T,O⟩:=Lv (P:=C.P) ah A hv ab;have Y:(eqGuard (if neg then .neq else .eql) t W (.const k.nil) (a.eval W) k.nil).run C.P w = .ok () w:=by unfold eqGuard;cases neg<;>cases k<;>cases bm:a.eval W<;>simp[NK.nil]
        have a3:a.eval (.const k.nil)=k.nil:=rfl;exact wp_pure S (by simp[execOp,B,a3,Y,T]) O J
      ·cases I
    ·cases A
  ·cases g
 | i0 neg ks x y=>
  simp only[c7]at g;split at g
  · rename_i az t W ag aF B;simp only[Wn,b9,Yu]at g;obtain⟨⟨⟨⟨⟨rfl,A⟩,E⟩,I⟩,ar⟩,ax⟩:=g;obtain⟨v,hv,J⟩:=h;split at A
    · rename_i D ht;obtain⟨V,T,O⟩:=Mr (P:=C.P) (p:=W) (q:=ag) ht A E I hv (cA M L ar) (cA M L ax);exact wp_pure S (by simp only[execOp,B,X7]at T ⊢;rw[T];rfl) O J
    ·cases A
  ·cases g
 | un op x=>
  simp only[c7]at g;split at g
  · rename_i az t W B;simp only[Wn,b9]at g;obtain⟨rfl,E⟩:=g;obtain⟨v,hv,J⟩:=h;obtain⟨V,T,O⟩:=Lw (P:=C.P) hv (cA M L E);exact wp_pure S (by simp[execOp,B,T]) O J
  ·cases g
 | conv k x=>
  simp only[c7]at g;split at g
  · rename_i s d W B;simp only[Wn]at g;obtain⟨A,E⟩:=g;obtain⟨v,hv,J⟩:=h;split at A
    · rename_i d1 ap hs ah;simp at A;subst A;obtain⟨V,T,O⟩:=Lx (P:=C.P) hs ah hv (cA M L E);exact wp_pure S (by simp[execOp,B,T]) O J
    ·cases A
  ·cases g
 | same x=>
  simp only[c7]at g;split at g
  · rename_i s d W B;simp only[Wn]at g;obtain⟨A,E⟩:=g;obtain⟨v,hv,J⟩:=h;split at A
    · rename_i hs ah;obtain⟨V,T,O⟩:=Ly (P:=C.P) hs ah hv (cA M L E);exact wp_pure S (by simp[execOp,B,T]) O J
    ·cases A
  ·cases g
 | kc x=>
  simp only[c7]at g;split at g
  · rename_i W B;obtain⟨v,hv,J⟩:=h;rcases Lz hv (cA M L g)with⟨⟨bn,ai⟩,O⟩|⟨⟨f,aG,Vs,ai⟩,O⟩
    ·exact wp_pure S (by simp[execOp,B,ai]) O J
    ·exact wp_pure S (by simp[execOp,B,ai]) O J
  ·cases g
 | field off sz agg x=>
  simp only[c7]at g;split at g
  · rename_i t W n B;simp only[Wn]at g;obtain⟨A,E⟩:=g;obtain⟨v,hv,J⟩:=h;split at A
    · rename_i f hf;simp only[Wn,b9]at A;obtain⟨fs,ht,aK⟩:=Dp hf;obtain⟨V,T,O⟩:=LA (P:=C.P) ht aK A.1 A.2 hv (cA M L E);exact wp_pure S (by simp[execOp,B,T]) O J
    ·cases A
  ·cases g
 | idx len sz agg x i=>
  simp only[c7]at g;split at g
  · rename_i t W aL B;simp only[Wn]at g;obtain⟨⟨A,E⟩,I⟩:=g;obtain⟨v,hv,J⟩:=h;split at A
    · rename_i n e a4;simp only[Wn,b9]at A;obtain⟨rfl,aM⟩:=A;obtain⟨V,T,O⟩:=LB (P:=C.P) (Dn a4) aM hv (cA M L E) (cA M L I);exact wp_pure S (by simp[execOp,B,T]) O J
    ·cases A
  ·cases g
 | idxs x i=>
  simp only[c7]at g;split at g
  · rename_i t W aL B;simp only[Wn]at g;obtain⟨⟨A,E⟩,I⟩:=g;obtain⟨v,hv,J⟩:=h;split at A
    · rename_i ht;obtain⟨V,T,O⟩:=LC (P:=C.P) ht hv (cA M L E) (cA M L I);exact wp_pure S (by simp[execOp,B,T]) O J
    ·cases A
  ·cases g
 | kd off x=>
  simp only[c7]at g;split at g
  · rename_i t W n B;simp only[Wn]at g;obtain⟨A,E⟩:=g;obtain⟨v,hv,J⟩:=h;split at A
    · rename_i f hf;simp only[Wn,b9]at A;obtain⟨rfl,A⟩:=A;obtain⟨fs,ht,aK⟩:=Dp hf;split at A
      · rename_i bp a5;obtain⟨V,T,O⟩:=LD (P:=C.P) ht aK rfl a5 (by simpa using A) hv (cA M L E);exact wp_pure S (by simp[execOp,B,T]) O J
      ·cases A
    ·cases A
  ·cases g
 | jK arr sz x i=>
  simp only[c7]at g;split at g
  · rename_i t W aL B;simp only[Wn]at g;obtain⟨⟨A,E⟩,I⟩:=g;obtain⟨v,hv,J⟩:=h;have key:∃e inf,(match arr with|none=>C.P.underlying t=some (.slice e)|some n=>C.P.underlying t=some (.array n e))∧C.P.info? e=some inf∧inf.size=sz:=by
     split at A
     · split at A
       · rename_i e ad;obtain⟨inf,hi,hs⟩:=yS A;exact⟨e,inf,ly ad,hi,hs⟩
       ·cases A
     · split at A
       · rename_i n' e ad;simp only[Wn,b9]at A;obtain⟨rfl,A⟩:=A;obtain⟨inf,hi,hs⟩:=yS A;exact⟨e,inf,Dn ad,hi,hs⟩
       ·cases A
    obtain⟨e,inf,ht,hi,hs⟩:=key;obtain⟨V,T,O⟩:=LG (P:=C.P) ht hi hs hv (cA M L E) (cA M L I);exact wp_pure S (by simp[execOp,B,T]) O J
  ·cases g
 | slice sz x lo hi mx=>
  simp only[c7]at g;split at g
  · rename_i t W a6 a7 a0 B;simp only[Wn]at g;obtain⟨⟨⟨⟨⟨A,E⟩,I⟩,ar⟩,ax⟩,a8⟩:=g;obtain⟨v,hv,J⟩:=h;split at A
    · rename_i e ad;obtain⟨inf,ac,hs⟩:=yS A;obtain⟨V,T,O⟩:=LJ (P:=C.P) (ly ad) ac hs (λhm=>by cases mx<;>cases hi<;>simp at a8 hm ⊢) hv (cA M L E) (qb M L I) (qb M L ar) (qb M L ax);exact wp_pure S (by simp[execOp,B,T]) O J
    ·cases A
  ·cases g
 | ke x lo hi=>
  simp only[c7]at g;split at g
  · rename_i t W a6 a7 a0 B;simp only[Wn]at g;obtain⟨⟨⟨⟨A,E⟩,I⟩,ar⟩,ax⟩:=g;obtain⟨v,hv,J⟩:=h;cases a0 with
    |some _=>simp at ax
    |none=>
    split at A
    · rename_i ht;obtain⟨V,T,O⟩:=LH (P:=C.P) ht hv (cA M L E) (qb M L I) (qb M L ar);exact wp_pure S (by simp[execOp,B,T]) O J
    ·cases A
  ·cases g
 | hZ t x=>
  simp only[c7]at g;split at g
  · rename_i t' W B;simp only[Wn,b9]at g;obtain⟨⟨rfl,A⟩,E⟩:=g;refine wp_pure S (V:= .iface t (a.eval W)) ?_ (.iface _ _ _ (cA M L E)) h;split at A
    ·cases A
    · rename_i d aN ah;have:(Yv t (a.eval W)).run C.P w = .ok (.iface t (a.eval W)) w:=by
       simp only[Yv,X7,run_underlying ah,X8];cases d<;>first|rfl|(exact absurd rfl (aN _))
      simp[execOp,B,this]
    ·cases A
  ·cases g
 | hD key b_=>
  simp only[c7]at g;split at g
  · rename_i f first aH B
    cases am:gA key with
    | none=>
     simp only[am,Wn,b9]at g;obtain⟨⟨A,E⟩,I⟩:=g;have aa:first = #[]:=by simpa using E
     subst aa;have hc:=nc M L I;refine wp_pure S (V:= .func (.func f) #[] (aH.map a.eval)) (by simp[execOp,B,Yw]) ?_ h;have hm:(Yx a.eval aH.toList).toArray=aH.map a.eval:=by apply X6;simp
     rw[hm]at hc;exact .fn key _ f _ am A hc.1 hc.2
    | some k=>
     simp only[am,Wn,b9]at g;obtain⟨⟨A,E⟩,I⟩:=g;have aa:aH = #[]:=by simpa using E
     subst aa;have hc:=nc M L I;refine wp_pure S (V:= .func (.func f) (first.map a.eval) #[]) (by simp[execOp,B,Yw]) ?_ h;have hm:(Yx a.eval first.toList).toArray=first.map a.eval:=by apply X6;simp
     rw[hm]at hc;exact .ls key k _ f _ am A hc.1 hc.2
  ·cases g
 | extract i x=>
  simp only[c7]at g;split at g
  · rename_i W aL B;simp only[Wn,b9]at g;obtain⟨rfl,E⟩:=g;obtain⟨v,hv,J⟩:=h;obtain⟨V,T,O⟩:=LF (P:=C.P) hv (cA M L E);exact wp_pure S (by simp[execOp,B,T]) O J
  ·cases g
 | build zero parts=>
  simp only[c7]at g;split at g
  · rename_i t ps B;simp only[Wn]at g;obtain⟨⟨A,E⟩,I⟩:=g;obtain⟨v,hv,J⟩:=h;split at A
    · rename_i inf ac;split at A
      · rename_i z aa;obtain⟨hl,aO⟩:=Di M L I;obtain⟨V,T,O⟩:=Mt ac aa A E hl aO hv;refine wp_pure S (V:=V) ?_ O J;have hm:(ps.map λ(x:Nat×Operand)=>(x.1,a.eval x.2))=(ps.toList.map λx=>(x.1,a.eval x.2)).toArray:=by apply X6;simp
        simp only[execOp,B,hm,X7,T,X8,Ye]
      ·cases A
    ·cases A
  ·cases g
 | len str x=>
  simp only[c7]at g;split at g
  · rename_i args argTypes B;split at g
    · rename_i W t Z ae;simp only[Wn]at g;obtain⟨A,E⟩:=g;obtain⟨v,hv,J⟩:=h;obtain rfl:=hb Z;obtain rfl:=hb ae;have key:∃d,C.P.underlying t=some d∧(if str then d = .string else ∃e,d = .slice e):=by
       split at E
       ·rename_i ht;exact⟨_,ht,by simp[E]⟩
       ·rename_i e ht;exact⟨_,ht,by simp at E;simp[E]⟩
       ·cases E
      obtain⟨d,ah,hk⟩:=key;obtain⟨V,T,O⟩:=LM (P:=C.P) (ty:=o.type) ah hk hv (cA M L A);exact wp_pure S (by simp[execOp,B,resolve,invoke,builtin,T]) O J
    ·cases g
  ·cases g
 | cap x =>
  simp only[c7]at g;split at g
  · rename_i args argTypes B;split at g
    · rename_i W t Z ae;simp only[Wn]at g;obtain⟨A,E⟩:=g;obtain⟨v,hv,J⟩:=h;obtain rfl:=hb Z;obtain rfl:=hb ae;split at E
      · rename_i e ht;have al:=cA M L A;generalize x.ev env=y at hv al;generalize ai:a.eval W=X at al;unfold sy at hv;split at hv
        · cases hv;cases al with
          |fA=>exact wp_pure S (by simp[execOp,B,resolve,invoke,builtin,ai,Builtin.cap_,run_underlying ht,goInt]) (.int _ _) J
          |av _ _ _ b bq cap Vs a9 hle h hv=>exact a9.elim
        ·cases hv
      ·cases E
    ·cases g
  ·cases g
 | h0 n=>
  simp only[c7]at g;split at g
  · rename_i args argTypes B;split at g
    · rename_i W t Z ae;obtain rfl:=hb Z;obtain rfl:=hb ae;split at g
      · rename_i n' e ht;simp at g;subst g;refine wp_pure S (V:= .int .i64 n) ?_ (.int _ _) h;simp[execOp,B,resolve,invoke,builtin,WX,run_underlying ht,goInt]
      ·cases g
    ·cases g
  ·cases g
 | h1 mx xs=>
  simp only[c7]at g;split at g
  · rename_i b args gl B;simp only[Wn]at g;obtain⟨A,E⟩:=g;obtain⟨v,hv,J⟩:=h;have hc:=nc M L E;unfold ka at hv;split at hv
    · rename_i k n r a_;rw[a_]at hc;have aN:∃X Xs,args.toList.map a.eval=X::Xs:=by
       cases hl:args.toList.map a.eval with
       |nil=>rw[hl]at hc;have:=hc.1;simp at this
       |cons X Xs=>exact⟨X,Xs,rfl⟩
      obtain⟨X,Xs,aI⟩:=aN;rw[aI]at hc;have ai:=hc.2 0 _ X rfl (by simp);obtain⟨V,T,O⟩:=LN (P:=C.P) r Xs _ v X hv ai (by have:=hc.1;simp at this;omega) λj c U aP aQ=>hc.2 (j+1) c U (by simpa using aP) (by simpa using aQ);refine wp_pure S (V:=V) ?_ O J;have hm:(args.map a.eval).toList=X::Xs:=by simpa using aI
      split at A
      · subst A;simp only[aY]at T;simp[execOp,B,resolve,invoke,builtin,Builtin.max_,aI,T]
      · simp at A;subst A;simp only[Yf,cu]at T;simp[execOp,B,resolve,invoke,builtin,Builtin.min_,aI,T]
      ·cases A
    ·cases hv
  ·cases g
 | load n agg x=>
  simp only[c7]at g;split at g
  · rename_i t W B;simp only[Wn]at g;obtain⟨v,hv,J⟩:=h;obtain⟨V,T,O⟩:=yF (P:=C.P) g.1 S hv (cA M L g.2);exact wp_pure S (by simp[execOp,B,T]) O J
  ·cases g
 | store n x v=>
  simp only[c7]at g;split at g
  · rename_i t W aw B;simp only[Wn,Wo]at g;obtain⟨⟨A,E⟩,I⟩:=g;obtain⟨H',hv,J⟩:=h;have key:∃agg,h4 C.P t n agg=true:=by rcases A with A|A<;>exact⟨_,A⟩
    obtain⟨agg,aM⟩:=key;obtain⟨R,T,O,an⟩:=LU (P:=C.P) aM S hv (cA M L E) (cA M L I);exact Dm (by simp[execOp,B,T]) ⟨_,H',G,undef,rfl,J,ot,O,an⟩
  ·cases g
 | box mu n x=>
  simp only[c7]at g;split at g
  · rename_i t W B;obtain⟨v,H',hv,J⟩:=h;have Y:=LV (P:=C.P) (t:=t) S hv (cA M L g);exact i5 Y (by simp[execOp,B]) J
  ·cases g
 | alloc mu zero=>
  simp only[c7]at g;split at g
  · rename_i t B;obtain⟨v,H',hv,J⟩:=h;split at g
    · rename_i inf ac;split at g
      · rename_i z aa;have aB:=kT (C:=C) (w:=w) (G:=G) g;have Y:=LW (P:=C.P) (t:=t) (mu:=mu) S ac aa (by simpa using aB);have e:=Wy.inj hv;rw[e]at Y;exact i5 Y (by simp[execOp,B]) J
      ·cases g
    ·cases g
  ·cases g
 | hE mu sz len zero parts=>
  simp only[c7]at g;split at g
  · rename_i t br ps B;obtain⟨v,H',hv,J⟩:=h;split at g
    · rename_i e ad;simp only[Wn,b9,dh]at g;obtain⟨⟨⟨⟨A,E⟩,rfl⟩,ar⟩,ax⟩:=g;split at A
      · rename_i bs bt;obtain⟨inf,z,ac,hs,am,aa,ba,aR⟩:=yT (F:=C.F) A;have aB:=kT (C:=C) (w:=w) (G:=G) aR;obtain⟨hl,aO⟩:=Di M L ax;have Y:=L1 (P:=C.P) S (ly ad) ac hs aa (by simpa using aB) E ar hl (λj q p bb bc=>by
          obtain⟨e1,bd⟩:=aO j q p bb bc;exact⟨Wy.inj e1,bd⟩) hv
        have hm:(ps.map λ(x:Nat×Operand)=>(x.1,a.eval x.2))=(ps.toList.map λx=>(x.1,a.eval x.2)).toArray:=by apply X6;simp
        exact i5 Y (by simp only[execOp,B,hm,X7,Ye]) J
      ·cases A
    ·cases g
  ·cases g
 | append mu sz bytes x y=>
  simp only[c7]at g;split at g
  · rename_i args argTypes B;split at g
    · rename_i W ag t t' Z ae;simp only[Wn,b9]at g;obtain⟨⟨⟨rfl,A⟩,E⟩,I⟩:=g;obtain⟨v,H',hv,J⟩:=h;obtain rfl:=hb Z;obtain rfl:=hb ae;split at I
      · rename_i e ad;split at I
        · rename_i inf ac;simp only[Wn,b9,dh]at I;obtain⟨⟨⟨hs,am⟩,aa⟩,be⟩:=I;split at aa
          · rename_i z bf;have Y:=L4 (P:=C.P) (ty:=o.type) S (ly ad) ac hs am bf (by simpa using aa) be hv (cA M L A) (cA M L E);exact i5 Y (by simp[execOp,B,resolve,invoke,builtin]) J
          ·cases aa
        ·cases I
      ·cases I
    ·cases g
  ·cases g
 | make mu sz bytes zero len cap=>
  simp only[c7]at g;split at g
  · rename_i t l c B;simp only[Wn]at g;obtain⟨⟨A,E⟩,I⟩:=g;obtain⟨v,H',hv,J⟩:=h;split at I
    · rename_i e ad;obtain⟨inf,z,ac,hs,am,aa,ba,aR⟩:=yT (F:=C.F) I;have aB:=kT (C:=C) (w:=w) (G:=G) aR;have Y:=L2 (P:=C.P) S (ly ad) ac hs am aa (by simpa using aB) hv (cA M L A) (cA M L E);exact i5 Y (by simp[execOp,B]) J
    ·cases I
  ·cases g
 | call key args=>
  simp only[c7]at g;split at g
  · rename_i f af gl B;simp only[Wn,b9]at g;obtain⟨⟨A,E⟩,I⟩:=g;have hc:=h.2 f A G w _ aE S (nc M L I);have hm:(af.toList.map a.eval).toArray=af.map a.eval:=by apply X6;simp
    rw[hm]at hc;have T:(execOp a.eval o).run C.P w = .ok (.enter f (af.map a.eval)) w:=by simp[execOp,B,resolve,Act.eval,Yy,invoke,sY E]
    unfold Ys;rw[T];refine Yz hc λe R aC=>?_;obtain⟨V,v,H',G',rfl,aD,hv,O,an⟩:=aC;exact⟨v,H',G',V,rfl,aD,hv,O,an⟩
  ·cases g
 | iz f args=>
  simp only[c7]at g;split at g
  · rename_i aS af gl B;simp only[Wn]at g;obtain⟨A,I⟩:=g;obtain⟨key,b_,hf,h⟩:=h;have aT:=cA M L A;rw[hf]at aT;have bg:(∃dY Vs,a.eval aS = .func (.func dY) #[] Vs∧gA key=none∧C.F key=some dY∧bo C.F w G b_ Vs)∨∃k dY Vs,a.eval aS = .func (.func dY) Vs #[]∧gA key=some k∧C.F k=some dY∧bo C.F w G b_ Vs:=by
     generalize a.eval aS=X at aT;cases aT with
     |fn _ _ dY Vs hk aU hl hv=>exact .inl ⟨dY,Vs,rfl,hk,aU,hl,hv⟩
     |ls _ k _ dY Vs hk aU hl hv=>exact .inr ⟨k,dY,Vs,rfl,hk,aU,hl,hv⟩
    have hm:(af.toList.map a.eval).toArray=af.map a.eval:=by apply X6;simp
    obtain ⟨dY,aG,au,Z,T⟩:∃dY aG,C.F (jL key)=some dY∧bo C.F w G (jM key (eE env args) b_) aG∧(execOp a.eval o).run C.P w = .ok (.enter dY aG) w:=by
     rcases bg with⟨dY,Vs,ai,hk,au,aV⟩|⟨k,dY,Vs,ai,hk,au,aV⟩
     · rw[yu hk,yv hk];have Z:=(nc M L I).app aV;rw[hm]at Z;refine⟨dY,af.map a.eval++Vs,au,Z,?_⟩;simp[execOp,B,resolve,ai,Yy,invoke,sY (aX key dY au)]
     · rw[Lp hk,Lq hk];have Z:=aV.app (nc M L I);rw[hm]at Z;refine⟨dY,Vs++af.map a.eval,au,Z,?_⟩;simp[execOp,B,resolve,ai,Yy,invoke,sY (aX _ dY au)]
    have hc:=h.2 dY au G w _ aE S Z;unfold Ys;rw[T];refine Yz hc λe R aC=>?_;obtain⟨V,v,H',G',rfl,aD,hv,O,an⟩:=aC;exact⟨v,H',G',V,rfl,aD,hv,O,an⟩
  ·cases g
 | ext e xs =>
  simp only[c7]at g;obtain⟨v,H',hv,J⟩:=h;cases e with
  |stuck=>simp[eR]at hv
  | n8 t=>
   simp only[oo]at g;split at g
   · rename_i W bu t' ok x B;simp only[Wn,b9,Yu]at g;obtain⟨⟨⟨rfl,rfl⟩,ak⟩,ab⟩:=g;have al:=cA M L ab;simp only[eE,XK,YA]at hv;generalize x.ev env=y at hv al;cases y<;>try (simp[eR]at hv;done)
     rename_i bv u;simp only[eR]at hv;split at hv
     · rename_i ht;subst ht;simp only[Wy.injEq,Yp.injEq]at hv;obtain⟨rfl,rfl⟩:=hv;generalize ai:a.eval W=X at al;cases al with
       | iface _ _ V A=>
        split at ak
        · rename_i d ah;exact wp_pure S (by simp[execOp,B,ai,Ml ah ak]) A J
        ·cases ak
     ·cases hv
   ·cases g
  | kb t0=>
   simp only[oo]at g;split at g
   · rename_i t B;simp only[Wn,b9]at g;obtain⟨rfl,ak⟩:=g;split at ak
     · rename_i inf ac;split at ak
       · rename_i z aa;simp only[eE,YA]at hv;simp only[eR,Wy.injEq,Yp.injEq]at hv;obtain⟨rfl,rfl⟩:=hv;have hc:z.cells = #[.pointer none,.slice none 0 0]:=Mf ak;have Y:=LX (P:=C.P) (t:=t) S ac aa hc;exact i5 Y (by simp[execOp,B]) J
       ·cases ak
     ·cases ak
   · rename_i t W x B;simp only[Wn,b9]at g;obtain⟨rfl,ab⟩:=g;have al:=cA M L ab;simp only[eE,XK,YA]at hv;generalize x.ev env=y at hv al;have aA:y = .agg [.eY,.av .nil 0 []]∧v = .ptr H.n 0∧H'=H.push (.ha t false none):=by
      unfold eR at hv;split at hv<;>simp_all
     obtain⟨rfl,rfl,rfl⟩:=aA;have Y:=LZ (P:=C.P) (t:=t) S al;exact i5 Y (by simp[execOp,B]) J
   ·cases g
  | mg neg=>
   simp only[oo]at g;split at g
   · rename_i az t W ag aF x y B;simp only[Wn,b9]at g;obtain⟨⟨⟨rfl,ak⟩,A⟩,E⟩:=g;split at ak
     · rename_i e ht;split at ak
       · rename_i j aP;simp only[eE,XK,YA]at hv;obtain⟨V,T,O,rfl⟩:=Mm (P:=C.P) (p:=W) (q:=ag) S ht aP (by simpa using ak) hv (cA M L A) (cA M L E);exact wp_pure S (by simp only[execOp,B,X7]at T ⊢;rw[T];rfl) O J
       ·cases ak
     ·cases ak
   ·cases g
  | grow sz bytes zero=>
   simp only[oo]at g;split at g
   · rename_i args argTypes x y B;split at g
     · rename_i W ag t it Z ae;simp only[Wn]at g;obtain⟨⟨⟨A,E⟩,hk⟩,I⟩:=g;obtain rfl:=hb Z;obtain rfl:=hb ae;split at hk
       · rename_i k hit;split at I
         · rename_i e ad;split at I
           · rename_i inf ac;simp only[Wn,b9]at I;obtain⟨⟨hs,am⟩,I⟩:=I;split at I
             · rename_i z aa;simp only[eE,XK,YA]at hv;have Y:=Mo (P:=C.P) (ty:=o.type) S (ly ad) hit ac hs am aa (by simpa using kT (C:=C) (w:=w) (G:=G) I) hv (cA M L A) (cA M L E);exact i5 Y (by simp[execOp,B,resolve,invoke,builtin]) J
             ·cases I
           ·cases I
         ·cases I
       ·cases hk
     ·cases g
   ·cases g
  | clear sz zero=>
   simp only[oo]at g;split at g
   · rename_i args argTypes x B;split at g
     · rename_i W t Z ae;simp only[Wn]at g;obtain⟨A,I⟩:=g;obtain rfl:=hb Z;obtain rfl:=hb ae;split at I
       · rename_i e ad;split at I
         · rename_i inf ac;split at I
           · rename_i z aa;simp only[Wn,b9]at I;simp only[eE,XK,YA]at hv;have Y:=Mp (P:=C.P) (ty:=o.type) S (ly ad) ac aa (by simpa using kT (C:=C) (w:=w) (G:=G) I.2) hv (cA M L A);exact i5 Y (by simp[execOp,B,resolve,invoke,builtin]) J
           ·cases I
         ·cases I
       ·cases I
     ·cases g
   ·cases g
 | inv iA x args=>
  simp only[c7]at g;split at g
  · rename_i W name af gl B;simp only[Wn]at g;obtain⟨⟨A,E⟩,I⟩:=g;obtain⟨t,v,r,u,ab,O,hu,h⟩:=h;have al:=cA M L A;rw[ab]at al;obtain ⟨V,ai,ay⟩:∃V,a.eval W = .iface t V∧VR C.F w G v V:=by
     generalize a.eval W=X at al;cases al with
     |iface _ _ V h=>exact⟨V,rfl,h⟩
    obtain⟨f,U,au,bh,T,aQ⟩:=Mq S (Dl I O) ay hu;have Z:=(bo.one aQ).app (nc M L E);have hm:(af.toList.map a.eval).toArray=af.map a.eval:=by apply X6;simp
    rw[hm]at Z;have hc:=h.2 f au G w _ aE S Z;have bi:(execOp a.eval o).run C.P w = .ok (.enter f (#[U]++af.map a.eval)) w:=by
     have bj:(#[Value.iface t V]++af.map a.eval)[0]?=some (.iface t V):=by simp[WJ]
     have bk:(af.map a.eval).extract 0 af.size=af.map a.eval:=by have:=Array.extract_size (xs:=af.map a.eval);rwa [Array.size_map]at this
     simp[execOp,B,resolve,ai,invoke,callMethod,bj,bk,T,sY bh]
    unfold Ys;rw[bi];refine Yz hc λe R aC=>?_;obtain⟨V,v,H',G',rfl,aD,hv,O,an⟩:=aC;exact⟨v,H',G',V,rfl,aD,hv,O,an⟩
  ·cases g
 | kf x=>
  simp only[c7]at g;split at g
  · rename_i s d W B;simp only[Wn]at g;obtain⟨A,E⟩:=g;obtain⟨v,hv,J⟩:=h;split at A
    · rename_i e hs ah;split at A
      · rename_i aW;have Y:=L5 (P:=C.P) S hs ah aW hv (cA M L E);exact i5 Y (by simp[execOp,B]) J
      ·cases A
    ·cases A
  ·cases g
 | iv x=>
  simp only[c7]at g;split at g
  · rename_i s d W B;simp only[Wn]at g;obtain⟨A,E⟩:=g;obtain⟨v,hv,J⟩:=h;split at A
    · rename_i e hs ah;split at A
      · rename_i aW;obtain⟨V,O,ay⟩:=L7 (P:=C.P) S hs aW ah hv (cA M L E);exact wp_pure S (by simp[execOp,B,O]) ay J
      ·cases A
    ·cases A
  ·cases g
 | iw x=>
  simp only[c7]at g;split at g
  · rename_i t W B;simp only[Wn]at g;obtain⟨A,E⟩:=g;obtain⟨v,H',hv,J⟩:=h;split at A
    · rename_i ht;have Y:=L8 (P:=C.P) S ht hv (cA M L E);exact i5 Y (by simp[execOp,B]) J
    ·cases A
  ·cases g
 | iy x=>
  simp only[c7]at g;split at g
  · rename_i W B;obtain⟨v,H',hv,J⟩:=h;have Y:=L9 (P:=C.P) (t:=o.type) S hv (cA M L g);exact i5 Y (by simp[execOp,B]) J
  ·cases g
 | copy sz x y=>
  simp only[c7]at g;split at g
  · rename_i args argTypes B;split at g
    · rename_i W ag t t' Z ae;simp only[Wn]at g;obtain⟨⟨A,E⟩,I⟩:=g;obtain⟨v,H',hv,J⟩:=h;obtain rfl:=hb Z;obtain rfl:=hb ae;split at I
      · rename_i e ad;unfold na at I;split at I
        · rename_i inf ac;have Y:=Mk (P:=C.P) (ty:=o.type) (t2:=t') S (ly ad) ac (by simpa using I) hv (cA M L A) (cA M L E);exact i5 Y (by simp[execOp,B,resolve,invoke,builtin]) J
        ·cases I
      ·cases I
    ·cases g
  ·cases g
 | hF=>
  simp only[c7]at g;split at g
  · rename_i t r B;have O:r=none:=by simpa using g
    subst O;have Y:=L_ (P:=C.P) (t:=t) S;exact i5 Y (by simp[execOp,B]) h
  ·cases g
 | lookup kk zero ok m k=>
  simp only[c7]at g;split at g
  · rename_i t aq ap bw B;simp only[Wn,b9]at g;obtain⟨⟨⟨rfl,A⟩,E⟩,I⟩:=g;obtain⟨v,hv,J⟩:=h;split at A
    · rename_i kt et ht;simp only[Wn]at A;obtain⟨hk,aa⟩:=A;split at aa
      · rename_i inf ac;split at aa
        · rename_i z bl;obtain⟨V,O,ay⟩:=Ma (P:=C.P) S ht hk ac bl (Dh aa) hv (cA M L E) (cA M L I);exact wp_pure S (by simp[execOp,B,O]) ay J
        ·cases aa
      ·cases aa
    ·cases A
  ·cases g
 | h2 kk m k v=>
  simp only[c7]at g;obtain⟨H',hv,J⟩:=h;have fin:∀(t:TypeId)(aq ap aw:Operand),(execOp a.eval o=(do XY t (a.eval aq) (a.eval ap) (a.eval aw);pure Next.skip))→(match C.P.underlying t with|some (.map kt _)=>kQ C.P kt kk|_=>false)&&cy C aq m&&cy C ap k&&cy C aw v→o.wp C.P a w (sW C w G H K a o.dst) Q:=by
   intro t aq ap aw hex hc;simp only[Wn]at hc;obtain⟨⟨⟨A,E⟩,I⟩,ar⟩:=hc;split at A
   · rename_i kt et ht;obtain⟨R,T,O,an⟩:=Mc (P:=C.P) S ht A hv (cA M L E) (cA M L I) (cA M L ar);exact Dm (by rw[hex];simp[T]) ⟨_,H',G,undef,rfl,J,ot,O,an⟩
   ·cases A
  split at g
  · rename_i t aq ap aw B;exact fin t aq ap aw (by simp only[execOp,B]) g
  · rename_i t aq ap aw B;exact fin t aq ap aw (by simp only[execOp,B]) g
  ·cases g
 | delete kk m k=>
  simp only[c7]at g;split at g
  · rename_i args argTypes B;split at g
    · rename_i aq ap t t' Z ae;simp only[Wn]at g;obtain⟨⟨A,E⟩,I⟩:=g;obtain⟨H',hv,J⟩:=h;obtain rfl:=hb Z;obtain rfl:=hb ae;split at I
      · rename_i kt et ht;obtain⟨R,T,O,an⟩:=Md (P:=C.P) (t':=t') (ty:=o.type) S ht I hv (cA M L A) (cA M L E);refine sX (V:= .tuple #[]) (by simp[execOp,B,resolve,invoke,builtin,T]) ⟨_,H',G,_,rfl,J,ot,O,an⟩
      ·cases I
    ·cases g
  ·cases g
 | iu m=>
  simp only[c7]at g;split at g
  · rename_i args argTypes B;split at g
    · rename_i aq t Z ae;simp only[Wn]at g;obtain⟨A,E⟩:=g;obtain⟨v,hv,J⟩:=h;obtain rfl:=hb Z;obtain rfl:=hb ae;split at E
      · rename_i kt et ht;obtain⟨V,T,ay⟩:=Me (P:=C.P) (ty:=o.type) S ht hv (cA M L A);exact wp_pure S (by simp[execOp,B,resolve,invoke,builtin,T]) ay J
      ·cases E
    ·cases g
  ·cases g
end
end Rb

namespace Rb
open Go
variable{H:Z}{op:ej}{Φ:ae}{K:ad}{v:I}
def bK.cQ:bK→List Nat
 | .t n=>[n]
 | .k _=>[]
def ou:Option bK→List Nat
 |some x=>x.cQ
 |none=>[]
def lz(xs:List bK):List Nat:=xs.flatMap bK.cQ
def qd(xs:List (Nat×Nat×bK)):List Nat:=xs.flatMap λp=>p.2.2.cQ
def cm:ej→List Nat
 | .mv  x=>(x.cQ)
 | .pick  c x y=>(c.cQ)++(x.cQ)++(y.cQ)
 | .bin _ x y=>(x.cQ)++(y.cQ)
 | .beq _ x y=>(x.cQ)++(y.cQ)
 | .jJ _ _ x=>(x.cQ)
 | .i0 _ _ x y=>(x.cQ)++(y.cQ)
 | .un _ x=>(x.cQ)
 | .conv _ x=>(x.cQ)
 | .same  x=>(x.cQ)
 | .kc  x=>(x.cQ)
 | .field _ _ _ x=>(x.cQ)
 | .idx _ _ _ x i=>(x.cQ)++(i.cQ)
 | .idxs  x i=>(x.cQ)++(i.cQ)
 | .kd _ x=>(x.cQ)
 | .jK _ _ x i=>(x.cQ)++(i.cQ)
 | .slice _ x lo hi mx=>(x.cQ)++(ou lo)++(ou hi)++(ou mx)
 | .ke  x lo hi=>(x.cQ)++(ou lo)++(ou hi)
 | .hZ _ x=>(x.cQ)
 | .hD _ b_=>(lz b_)
 | .extract _ x=>(x.cQ)
 | .build _ parts=>(qd parts)
 | .len _ x=>(x.cQ)
 | .h0 _  =>[]
 | .cap x=>x.cQ
 | .h1 _ xs=>(lz xs)
 | .load _ _ x=>(x.cQ)
 | .store _ x v=>(x.cQ)++(v.cQ)
 | .box _ _ x=>(x.cQ)
 | .alloc _ _  =>[]
 | .hE _ _ _ _ parts=>(qd parts)
 | .append _ _ _ x y=>(x.cQ)++(y.cQ)
 | .make _ _ _ _ len cap=>(len.cQ)++(cap.cQ)
 | .copy _ x y=>(x.cQ)++(y.cQ)
 | .hF   =>[]
 | .lookup _ _ _ m k=>(m.cQ)++(k.cQ)
 | .h2 _ m k v=>(m.cQ)++(k.cQ)++(v.cQ)
 | .delete _ m k=>(m.cQ)++(k.cQ)
 | .iu  m=>(m.cQ)
 | .kf x=>(x.cQ)
 | .iv x=>(x.cQ)
 | .iw x=>(x.cQ)
 | .iy x=>(x.cQ)
 | .call _ args=>(lz args)
 | .iz  f args=>(f.cQ)++(lz args)
 | .ext _ xs=>lz xs
 | .inv _ x args=>(x.cQ)++(lz args)
section
variable{env bm:Env}
theorem cS(x:bK)(h:∀t∈x.cQ,env.getD t .bot=bm.getD t .bot):x.ev env=x.ev bm:=by
 cases x with
 |t n=>exact h n (by simp[bK.cQ])
 |k v=>rfl
theorem qe(x:Option bK)(h:∀t∈ou x,env.getD t .bot=bm.getD t .bot):x.map (bK.ev env)=x.map (bK.ev bm):=by
 cases x with
 |none=>rfl
 |some x=>simp only[Wz];rw[cS x h]
theorem ov(xs:List bK)(h:∀t∈lz xs,env.getD t .bot=bm.getD t .bot):eE env xs=eE bm xs:=by
 induction xs with
 |nil=>rfl
 | cons x xs a=>simp only[eE,XK]at a ⊢;rw[cS x (λt ht=>h t (by simp[lz];left;exact ht)),a (λt ht=>h t (by simp[lz]at ht ⊢;right;exact ht))]
theorem Dr(xs:List (Nat×Nat×bK))(h:∀t∈qd xs,env.getD t .bot=bm.getD t .bot):gD env xs=gD bm xs:=by
 induction xs with
 |nil=>rfl
 | cons x xs a=>simp only[gD,XK]at a ⊢;rw[cS x.2.2 (λt ht=>h t (by simp[qd];left;exact ht)),a (λt ht=>h t (by simp[qd]at ht ⊢;right;exact ht))]
theorem yU(op:ej)(h:∀t∈cm op,env.getD t .bot=bm.getD t .bot):ct Φ env H K op=ct Φ bm H K op:=by
 cases op with
 |mv x=>simp only[ct];rw[cS x (λt ht=>h t (by simp only[cm,YB];simp[ht]))]
 |pick c x y=>simp only[ct];rw[cS c (λt ht=>h t (by simp only[cm,YB];simp[ht])),cS x (λt ht=>h t (by simp only[cm,YB];simp[ht])),cS y (λt ht=>h t (by simp only[cm,YB];simp[ht]))]
 |bin op x y=>simp only[ct];rw[cS x (λt ht=>h t (by simp only[cm,YB];simp[ht])),cS y (λt ht=>h t (by simp only[cm,YB];simp[ht]))]
 |beq neg x y=>simp only[ct];rw[cS x (λt ht=>h t (by simp only[cm,YB];simp[ht])),cS y (λt ht=>h t (by simp only[cm,YB];simp[ht]))]
 |jJ k neg x=>simp only[ct];rw[cS x (λt ht=>h t (by simp only[cm,YB];simp[ht]))]
 |i0 neg ks x y=>simp only[ct];rw[cS x (λt ht=>h t (by simp only[cm,YB];simp[ht])),cS y (λt ht=>h t (by simp only[cm,YB];simp[ht]))]
 |un op x=>simp only[ct];rw[cS x (λt ht=>h t (by simp only[cm,YB];simp[ht]))]
 |conv k x=>simp only[ct];rw[cS x (λt ht=>h t (by simp only[cm,YB];simp[ht]))]
 |same x=>simp only[ct];rw[cS x (λt ht=>h t (by simp only[cm,YB];simp[ht]))]
 |kc x=>simp only[ct];rw[cS x (λt ht=>h t (by simp only[cm,YB];simp[ht]))]
 |field off sz agg x=>simp only[ct];rw[cS x (λt ht=>h t (by simp only[cm,YB];simp[ht]))]
 |idx len sz agg x i=>simp only[ct];rw[cS x (λt ht=>h t (by simp only[cm,YB];simp[ht])),cS i (λt ht=>h t (by simp only[cm,YB];simp[ht]))]
 |idxs x i=>simp only[ct];rw[cS x (λt ht=>h t (by simp only[cm,YB];simp[ht])),cS i (λt ht=>h t (by simp only[cm,YB];simp[ht]))]
 |kd off x=>simp only[ct];rw[cS x (λt ht=>h t (by simp only[cm,YB];simp[ht]))]
 |jK arr sz x i=>simp only[ct];rw[cS x (λt ht=>h t (by simp only[cm,YB];simp[ht])),cS i (λt ht=>h t (by simp only[cm,YB];simp[ht]))]
 |slice sz x lo hi mx=>simp only[ct];rw[cS x (λt ht=>h t (by simp only[cm,YB];simp[ht])),qe lo (λt ht=>h t (by simp only[cm,YB];simp[ht])),qe hi (λt ht=>h t (by simp only[cm,YB];simp[ht])),qe mx (λt ht=>h t (by simp only[cm,YB];simp[ht]))]
 |ke x lo hi=>simp only[ct];rw[cS x (λt ht=>h t (by simp only[cm,YB];simp[ht])),qe lo (λt ht=>h t (by simp only[cm,YB];simp[ht])),qe hi (λt ht=>h t (by simp only[cm,YB];simp[ht]))]
 |hZ t x=>simp only[ct];rw[cS x (λt ht=>h t (by simp only[cm,YB];simp[ht]))]
 |hD key b_=>simp only[ct];rw[ov b_ (λt ht=>h t (by simp only[cm,YB];simp[ht]))]
 |extract i x=>simp only[ct];rw[cS x (λt ht=>h t (by simp only[cm,YB];simp[ht]))]
 |build zero parts=>simp only[ct];rw[Dr parts (λt ht=>h t (by simp only[cm,YB];simp[ht]))]
 |len str x=>simp only[ct];rw[cS x (λt ht=>h t (by simp only[cm,YB];simp[ht]))]
 |h0 n=>rfl
 |h1 mx xs=>simp only[ct];rw[ov xs (λt ht=>h t (by simp only[cm,YB];simp[ht]))]
 |load n agg x=>simp only[ct];rw[cS x (λt ht=>h t (by simp only[cm,YB];simp[ht]))]
 |store n x v=>simp only[ct];rw[cS x (λt ht=>h t (by simp only[cm,YB];simp[ht])),cS v (λt ht=>h t (by simp only[cm,YB];simp[ht]))]
 |box mu n x=>simp only[ct];rw[cS x (λt ht=>h t (by simp only[cm,YB];simp[ht]))]
 |alloc mu zero=>rfl
 |hE mu sz len zero parts=>simp only[ct];rw[Dr parts (λt ht=>h t (by simp only[cm,YB];simp[ht]))]
 |append mu sz bytes x y=>simp only[ct];rw[cS x (λt ht=>h t (by simp only[cm,YB];simp[ht])),cS y (λt ht=>h t (by simp only[cm,YB];simp[ht]))]
 |make mu sz bytes zero len cap=>simp only[ct];rw[cS len (λt ht=>h t (by simp only[cm,YB];simp[ht])),cS cap (λt ht=>h t (by simp only[cm,YB];simp[ht]))]
 |copy sz x y=>simp only[ct];rw[cS x (λt ht=>h t (by simp only[cm,YB];simp[ht])),cS y (λt ht=>h t (by simp only[cm,YB];simp[ht]))]
 |hF  =>rfl
 |lookup kk zero ok m k=>simp only[ct];rw[cS m (λt ht=>h t (by simp only[cm,YB];simp[ht])),cS k (λt ht=>h t (by simp only[cm,YB];simp[ht]))]
 |h2 kk m k v=>simp only[ct];rw[cS m (λt ht=>h t (by simp only[cm,YB];simp[ht])),cS k (λt ht=>h t (by simp only[cm,YB];simp[ht])),cS v (λt ht=>h t (by simp only[cm,YB];simp[ht]))]
 |delete kk m k=>simp only[ct];rw[cS m (λt ht=>h t (by simp only[cm,YB];simp[ht])),cS k (λt ht=>h t (by simp only[cm,YB];simp[ht]))]
 |iu m=>simp only[ct];rw[cS m (λt ht=>h t (by simp only[cm,YB];simp[ht]))]
 |kf x=>simp only[ct];rw[cS x (λt ht=>h t (by simp only[cm];simp[ht]))]
 |iv x=>simp only[ct];rw[cS x (λt ht=>h t (by simp only[cm];simp[ht]))]
 |iw x=>simp only[ct];rw[cS x (λt ht=>h t (by simp only[cm];simp[ht]))]
 |iy x=>simp only[ct];rw[cS x (λt ht=>h t (by simp only[cm];simp[ht]))]
 |call key args=>simp only[ct];rw[ov args (λt ht=>h t (by simp only[cm,YB];simp[ht]))]
 |iz f args=>simp only[ct];rw[cS f (λt ht=>h t (by simp only[cm,YB];simp[ht])),ov args (λt ht=>h t (by simp only[cm,YB];simp[ht]))]
 |cap x=>simp only[ct];rw[cS x (λt ht=>h t (by simp only[cm];simp[ht]))]
 |ext e xs=>simp only[ct];rw[ov xs (λt ht=>h t (by simp only[cm];simp[ht]))]
 |inv iA x args=>simp only[ct];rw[cS x (λt ht=>h t (by simp only[cm,YB];simp[ht])),ov args (λt ht=>h t (by simp only[cm,YB];simp[ht]))]
end
def fP:ej→Bool
 | .mv .. =>true
 | .pick .. =>true
 | .bin .. =>true
 | .beq .. =>true
 | .jJ .. =>true
 | .i0 .. =>true
 | .un .. =>true
 | .conv .. =>true
 | .same .. =>true
 | .kc .. =>true
 | .field .. =>true
 | .idx .. =>true
 | .idxs .. =>true
 | .kd .. =>true
 | .jK .. =>true
 | .slice .. =>true
 | .ke .. =>true
 | .hZ .. =>true
 | .hD .. =>true
 | .extract .. =>true
 | .build .. =>true
 | .len .. =>true
 | .h0 .. =>true
 | .cap .. =>true
 | .h1 .. =>true
 | .kf .. =>true
 | .box mu _ _=>!mu
 | .alloc mu _=>!mu
 | .hE mu _ _ _ _=>!mu
 |_=>false
def fk:ej→Bool
 | .load .. =>true
 | .lookup .. =>true
 | .iu .. =>true
 | .iv .. =>true
 |_=>false
def e7(env:Env)(H:Z):ej→Option I
 | .mv x=>some (x.ev env)
 | .pick c x y=>match c.ev env with | .bool b=>some (if b=true then x.ev env else y.ev env)|_=>none
 | .bin op x y=>N op (x.ev env) (y.ev env)
 | .beq neg x y=>j9 neg (x.ev env) (y.ev env)
 | .jJ k neg x=>pY k neg (x.ev env)
 | .i0 neg ks x y=>ir neg ks (x.ev env) (y.ev env)
 | .un op x=>cM op (x.ev env)
 | .conv k x=>gP k (x.ev env)
 | .same x=>pZ (x.ev env)
 | .kc x=>aO (x.ev env)
 | .field off sz agg x=>j_ off sz agg (x.ev env)
 | .idx len sz agg x i=>m4 len sz agg (x.ev env) (i.ev env)
 | .idxs x i=>iZ (x.ev env) (i.ev env)
 | .kd off x=>M off (x.ev env)
 | .jK arr sz x i=>aU arr sz (x.ev env) (i.ev env)
 | .slice sz x lo hi mx=>c6 sz (x.ev env) (lo.map (bK.ev env)) (hi.map (bK.ev env)) (mx.map (bK.ev env))
 | .ke x lo hi=>p0 (x.ev env) (lo.map (bK.ev env)) (hi.map (bK.ev env))
 | .hZ t x=>some (.iface t (x.ev env))
 | .hD key b_=>some (.fn key (eE env b_))
 | .extract i x=>bI i (x.ev env)
 | .build zero parts=>ba zero (gD env parts)
 | .len str x=>bj str (x.ev env)
 | .h0 n=>some (.int .i64 n)
 | .cap x=>sy (x.ev env)
 | .h1 mx xs=>ka mx (eE env xs)
 | .load n agg x=>O H n agg (x.ev env)
 | .lookup kk zero ok m k=>mc H kk zero ok (m.ev env) (k.ev env)
 | .iu m=>me H (m.ev env)
 | .kf x=>p2 (x.ev env)
 | .iv x=>abstr H (x.ev env)
 | .box mu n x=>if mu then none else(if(x.ev env).known∧(x.ev env).cells.length=n then some (.ak (x.ev env).cells)else none)
 | .alloc mu zero=>if mu then none else some (.ak zero)
 | .hE mu sz len zero parts=>if mu then none else(jk (We len zero).flatten (gD env parts)).map λcells=> .av .full len cells
 |_=>none
theorem sZ{env:Env}(d:fP op=true∨fk op=true)(h:ct Φ env H K op):∃v,e7 env H op=some v∧K v H:=by
 cases op with
 |mv x=>exact⟨_,rfl,h⟩
 | pick c x y=>
  obtain⟨b,e,h⟩:=yA h;refine⟨_,by simp only[e7];rw[e],?_⟩;cases b
  ·simpa using h
  ·simpa using h
 |hZ t x=>exact⟨_,rfl,h⟩
 |hD key b_=>exact⟨_,rfl,h⟩
 |h0 n=>exact⟨_,rfl,h⟩
 | box mu n x=>
  cases mu with
  |true=>simp[fP,fk]at d
  | false=>
   obtain⟨v,H',hv,a⟩:=h;simp only[bg,aR,Yf,cu]at hv;split at hv
   · rename_i hk;cases hv;exact⟨_,by simp only[e7,Yf,cu];rw[aa hk],a⟩
   ·cases hv
 | alloc mu zero=>
  cases mu with
  |true=>simp[fP,fk]at d
  | false=>obtain⟨v,H',hv,a⟩:=h;simp only[aR,Yf,cu]at hv;cases hv;exact⟨_,rfl,a⟩
 | hE mu sz len zero parts=>
  cases mu with
  |true=>simp[fP,fk]at d
  | false=>
   obtain⟨v,H',hv,a⟩:=h;simp only[c9,Yf,cu]at hv;cases hf:jk (We len zero).flatten (gD env parts)with
   |none=>simp[hf]at hv
   | some cells=>simp only[hf,Wz,Wy.injEq,Yp.injEq]at hv;obtain⟨rfl,rfl⟩:=hv;exact⟨_,by simp[e7,hf],a⟩
 |store|append|make|copy|hF|h2|delete|iw|iy|call|iz|ext|inv=>simp[fP,fk]at d
 |_=>obtain⟨v,hv,a⟩:=h;exact⟨v,hv,a⟩
theorem s3{env:Env}(h:e7 env H op=some v)(a:K v H):ct Φ env H K op:=by
 cases op with
 |mv x=>cases h;exact a
 | pick c x y=>
  simp only[e7]at h;simp only[ct];split at h
  · rename_i b d;rw[d];cases h;cases b
    ·simpa using a
    ·simpa using a
  ·cases h
 |hZ t x=>cases h;exact a
 |hD key b_=>cases h;exact a
 |h0 n=>cases h;exact a
 | box mu n x=>
  cases mu with
  |true=>simp[e7]at h
  | false=>
   simp only[e7,Yf,cu]at h;split at h
   · rename_i hk;cases h;exact⟨_,H,by simp[bg,aR,hk],a⟩
   ·cases h
 | alloc mu zero=>
  cases mu with
  |true=>simp[e7]at h
  | false=>simp only[e7,Yf,cu]at h;cases h;exact⟨_,H,by simp[aR],a⟩
 | hE mu sz len zero parts=>
  cases mu with
  |true=>simp[e7]at h
  | false=>
   simp only[e7,Yf,cu]at h;cases hf:jk (We len zero).flatten (gD env parts)with
   |none=>simp[hf]at h
   | some cells=>simp only[hf,Wz,Wy.injEq]at h;subst h;exact⟨_,H,by simp[c9,hf],a⟩
 |store|append|make|copy|hF|h2|delete|iw|iy|call|iz|ext|inv=>simp[e7]at h
 |_=>exact⟨v,h,a⟩
theorem Mu{env:Env}{H H':Z}(h:fP op=true):e7 env H op=e7 env H' op:=by cases op<;>first|rfl|(simp[fP]at h)
theorem Ds{env:Env}(hv:e7 env H op=some v):fP op=true∨fk op=true:=by
 cases op with
 | box mu n x=>cases mu with
  |true=>simp[e7]at hv
  |false=>left;rfl
 | alloc mu zero=>cases mu with
  |true=>simp[e7]at hv
  |false=>left;rfl
 | hE mu sz len zero parts=>cases mu with
  |true=>simp[e7]at hv
  |false=>left;rfl
 |load|lookup|iu|iv=>right;rfl
 |store|append|make|copy|hF|h2|delete|iw|iy|call|iz|ext|inv=>simp[e7]at hv
 |_=>left;rfl
theorem Mv{env bm:Env}(h:∀t∈cm op,env.getD t .bot=bm.getD t .bot):e7 env H op=e7 bm H op:=by
 cases hv:e7 env H op with
 | some v=>have a:ct (λ_ _ _ _=>False) env H (λu _=>u=v) op:=s3 hv rfl;rw[yU op h]at a;obtain⟨u,hu,rfl⟩:=sZ (Ds hv) a;exact hu.symm
 | none=>
  cases b:e7 bm H op with
  |none=>rfl
  | some v=>have a:ct (λ_ _ _ _=>False) bm H (λu _=>u=v) op:=s3 b rfl;rw[←yU op h]at a;obtain⟨u,hu,_⟩:=sZ (Ds b) a;rw[hv]at hu;cases hu
end Rb

namespace Rb
open Go
variable{env bm:Env}{H:Z}{o:cf}{K K':ad}{Φ:ae}{v:I}
def jN(Φ:ae):Prop:=∀key args H (Q a:ad),(∀v H,Q v H→a v H)→Φ key args H Q→Φ key args H a
theorem s4(C:Ctx):jN (aj C):=by intro key args H Q k a h;refine⟨h.1.imp λv h=>h.imp λH' h=>a _ _ h,λf hf G w Vs b c d=>?_⟩;refine Yz (h.2 f hf G w Vs b c d) λe R he=>?_;obtain⟨V,v,H',G',g,i,j⟩:=he;exact⟨V,v,H',G',g,a _ _ i,j⟩
theorem Do.mono{α:Type}{x:Option α}{K K':α→Prop}(b:∀a,K a→K' a)(h:Do x K):Do x K':=by obtain⟨a,c,h⟩:=h;exact⟨a,c,b a h⟩
theorem aJ.mono{x:Option (I×Z)}(b:∀v H,K v H→K' v H)(h:aJ x K):aJ x K':=by obtain⟨a,H,c,h⟩:=h;exact⟨a,H,c,b a H h⟩
theorem L.mono{b:Bool}{A B c d:Prop}(e:A→c)(f:B→d)(h:L v b A B):L v b c d:=by
 unfold L at *;split at h
 · split at h
   ·rename_i a;simp[a,e h]
   ·rename_i a;simp[a,f h]
 ·exact h.elim
theorem ow(b:jN Φ){op:ej}(a:∀v H,K v H→K' v H)(h:ct Φ env H K op):ct Φ env H K' op:=by
 cases op with
 |mv x=>exact a _ _ h
 |pick c x y=>exact L.mono (a _ _) (a _ _) h
 |hZ t x=>exact a _ _ h
 |hD key b_=>exact a _ _ h
 |h0 n=>exact a _ _ h
 |box mu n x=>exact aJ.mono a h
 |alloc mu zero=>exact aJ.mono a h
 |hE=>exact aJ.mono a h
 |append=>exact aJ.mono a h
 |make=>exact aJ.mono a h
 |copy=>exact aJ.mono a h
 |hF=>exact a _ _ h
 |iw=>exact aJ.mono a h
 |iy=>exact aJ.mono a h
 |call key args=>exact b _ _ _ _ _ a h
 |iz f args=>obtain⟨key,b_,d,e⟩:=h;exact⟨key,b_,d,b _ _ _ _ _ a e⟩
 |ext=>exact aJ.mono a h
 |inv iA x args=>obtain⟨t,v,r,u,d,e,g,i⟩:=h;exact⟨t,v,r,u,d,e,g,b _ _ _ _ _ a i⟩
 |store=>exact Do.mono (λH h=>a _ _ h) h
 |h2=>exact Do.mono (λH h=>a _ _ h) h
 |delete=>exact Do.mono (λH h=>a _ _ h) h
 |_=>exact Do.mono (λv h=>a _ _ h) h
def hd(o:cf):List Nat:=cm o.op++(match o.guard with|some (s,_)=>[s]|none=>[])
def iF(Φ:ae)(o:cf)(env:Env)(H:Z)(K:ad):Prop:=
 match o.guard with
 |none=>ct Φ env H K o.op
 |some (s,want)=>∃b,(env.getD s .bot).wanted want=some b∧if b=true then ct Φ env H K o.op else K (.aM []) H
theorem mh{s:Nat}(h:env.getD s .bot=v):env.set s v=env:=by
 apply List.ext_getElem?;intro i;rw[WK];split
 · rename_i hi;subst hi;split
   · rename_i hl;rw[XH,Xc hl]at h;rw[Xc hl,←h];rfl
   ·rename_i hl;rw[YC (by omega)]
 ·rfl
theorem s5{K:Env→Z→Prop}:jm Φ o env H K↔iF Φ o env H (λv H'=>K (cg env o.dst v) H'):=by
 unfold jm iF;cases d:o.guard with
 |none=>exact Iff.rfl
 | some g=>
  obtain⟨s,want⟩:=g;dsimp only;constructor
  · intro h;unfold aQ at h;split at h
    · rename_i b a;refine⟨b==want,by rw[a];rfl,?_⟩;by_cases c:b=want
      · subst c;rw[aa rfl]at h;rw[ki];rw[mh a]at h;exact h
      · rw[ab c]at h;rw[ab (by simpa using c)];have:b=!want:=by cases b<;>cases want<;>simp at c ⊢
        subst this;rw[mh a]at h;exact h
    · rename_i a;refine⟨false,by rw[a];rfl,?_⟩;rw[iE];rw[mh a]at h;exact h
    ·exact h.elim
  · rintro ⟨b,a,h⟩;unfold aQ;cases b with
    | true=>have hw:=I.ys a;rw[hw];dsimp only;rw[aa rfl]at h ⊢;rw[mh hw];exact h
    | false=>
     rw[iE]at h;rcases I.CW a with hw|hw
     · rw[hw];dsimp only;rw[ab (by cases want<;>simp),mh hw];exact h
     · rw[hw];dsimp only;rw[mh hw];exact h
def h6(o:cf)(env:Env)(H:Z)(v:I):Prop:=
 match o.guard with
 |none=>e7 env H o.op=some v
 |some (s,want)=>∃b,(env.getD s .bot).wanted want=some b∧if b=true then e7 env H o.op=some v else v = .aM []
theorem Dt(h:∀t∈hd o,env.getD t .bot=bm.getD t .bot):iF Φ o env H K↔iF Φ o bm H K:=by
 have a:=yU (Φ:=Φ) (H:=H) (K:=K) o.op (λt ht=>h t (by simp[hd,ht]));unfold iF;split
 ·rw[a]
 · rename_i s want b;rw[a,h s (by simp[hd,b])]
theorem ox(h:∀t∈hd o,env.getD t .bot=bm.getD t .bot):h6 o env H v↔h6 o bm H v:=by
 have a:=Mv (H:=H) (op:=o.op) (λt ht=>h t (by simp[hd,ht]));unfold h6;split
 ·rw[a]
 · rename_i s want b;rw[a,h s (by simp[hd,b])]
theorem Mw{H H':Z}(h:fP o.op=true):h6 o env H v↔h6 o env H' v:=by unfold h6;rw[Mu (H':=H') h]
theorem My(e:fP o.op=true∨fk o.op=true)(h:iF Φ o env H K):∃v,h6 o env H v∧K v H:=by
 unfold iF at h;unfold h6;split at h
 · rename_i g;obtain⟨v,a,c⟩:=sZ e h;exact⟨v,a,c⟩
 · rename_i s want g;obtain⟨b,f,h⟩:=h;split at h
   · rename_i d;obtain⟨v,a,c⟩:=sZ e h;exact⟨v,⟨b,f,by rw[aa d];exact a⟩,c⟩
   · rename_i d;exact⟨.aM [],⟨b,f,by rw[ab d]⟩,h⟩
theorem Mz(h:h6 o env H v)(a:K v H):iF Φ o env H K:=by
 unfold h6 at h;unfold iF;split
 · rename_i c;rw[c]at h;exact s3 h a
 · rename_i s want c;rw[c]at h;obtain⟨b,e,h⟩:=h;refine⟨b,e,?_⟩;split at h
   ·rename_i d;rw[aa d];exact s3 h a
   ·rename_i d;rw[ab d];subst h;exact a
theorem MA(d:jN Φ)(a:∀v H,K v H→K' v H)(h:iF Φ o env H K):iF Φ o env H K':=by
 unfold iF at *;split at h
 ·exact ow d a h
 · obtain⟨b,e,h⟩:=h;refine⟨b,e,?_⟩;split at h
   ·rename_i c;rw[aa c];exact ow d a h
   ·rename_i c;rw[ab c];exact a _ _ h
end Rb

namespace Rb
open Go
variable{i t sz bytes:Nat}{env a b:Env}{o:cf}{al:List cf}{zero:List I}{l c:bK}{op:ej}{es:List Nat}
def dx(ops:List cf)(k:Nat):Option Nat:=(ops[k]?).bind λo=>o.dst
def late(ops:List cf)(S:Nat→Bool)(t:Nat):Bool:=(Xa ops.length).any λk=>dx ops k==some t&&!S k
def ec(ops:List cf)(S:Nat→Bool)(e0 e1:Env):Env:=(Xa e1.length).map λt=>if late ops S t then e0.getD t .bot else e1.getD t .bot
def cn(pr:List (List Nat))(i:Nat):List Nat:=pr.getD i []
def nf(ops:List cf)(i:Nat):Bool:=
 match ops[i]? with
 |some ⟨some _,.alloc true _,none⟩=>true
 |some ⟨some _,.hF,none⟩=>true
 |_=>false
def yV(ops:List cf)(pr:List (List Nat))(i:Nat):Bool:=
 match ops[i]? with
 |some ⟨some _,.make true _ _ _ _ _,none⟩=>(cn pr i).all λk=>match ops[k]? with|some o=>fP o.op||fk o.op|none=>false
 |_=>false
def ga(ops:List cf)(pr:List (List Nat))(i:Nat):Bool:=nf ops i||yV ops pr i
def qf(ops:List cf)(i:Nat):Bool:=
 match ops[i]? with
 |some ⟨some _,.call _ _,none⟩=>true
 |some ⟨some _,.append _ _ _ _ _,none⟩=>true
 |_=>false
theorem MB(h:qf al i=true):∃t op,al[i]?=some ⟨some t,op,none⟩∧((∃k args,op = .call k args)∨∃mu sz bytes x y,op = .append mu sz bytes x y):=by
 unfold qf at h;split at h
 ·rename_i t k args heq;exact⟨_,_,heq,.inl ⟨_,_,rfl⟩⟩
 ·rename_i t mu sz bytes x y heq;exact⟨_,_,heq,.inr ⟨_,_,_,_,_,rfl⟩⟩
 ·cases h
def kV(op:ej):Prop:=(∃zero,op = .alloc true zero)∨op = .hF∨∃sz bytes zero l c,op = .make true sz bytes zero l c
theorem mj{pr:List (List Nat)}(h:ga al pr i=true):∃t op,al[i]?=some ⟨some t,op,none⟩∧kV op:=by
 unfold ga at h;rw[Wo]at h;rcases h with h|h
 · unfold nf at h;split at h
   ·rename_i t zero heq;exact⟨_,_,heq,.inl ⟨_,rfl⟩⟩
   ·rename_i t heq;exact⟨_,_,heq,.inr (.inl rfl)⟩
   ·cases h
 · unfold yV at h;split at h
   ·rename_i t sz bytes zero l c heq;exact⟨_,_,heq,.inr (.inr ⟨_,_,_,_,_,rfl⟩)⟩
   ·cases h
theorem Du{pr:List (List Nat)}(h:ga al pr i=true)(a:al[i]?=some ⟨some t,.make true sz bytes zero l c,none⟩) :
  ∀k∈cn pr i,∃o,al[k]?=some o∧(fP o.op=true∨fk o.op=true):=by
 intro k hk;unfold ga nf yV at h;rw[a]at h;simp only[YD]at h;rw[Xi]at h;have:=h k hk;split at this
 ·rename_i o heq;exact⟨o,heq,by simpa using this⟩
 ·cases this
theorem oy(h:kV op)(a:fP op=true∨fk op=true):False:=by rcases h with⟨zero,rfl⟩|rfl|⟨_,_,_,_,_,rfl⟩<;>rcases a with h|h<;>simp[fP,fk]at h
def oz(n:Nat)(ops:List cf)(pr:List (List Nat))(i:Nat):Bool:=
 match ops[i]? with
 |none=>false
 | some o=>
  (cn pr i).all (λj=>(cn pr j).all (cn pr i).contains)&&!(cn pr i).contains i &&
  (hd o).all (λt=>(Xa n).all λk=>!(dx ops k==some t)||(cn pr i).contains k||(!fk o.op&&(k==i||(cn pr k).contains i))) &&
  (Xa n).all (λk=>k==i||o.dst==none||!(dx ops k==o.dst))
def yW(ops:List cf)(pr:List (List Nat)):Bool:=(Xa ops.length).all (oz ops.length ops pr)
def i6(ops:List cf)(pr:List (List Nat))(es:List Nat):List Nat→List Nat→Bool
 |_,[]=>true
 |D,i::r=>decide (i<ops.length)&&!D.contains i&&(cn pr i).all D.contains&&es.all (cn pr i).contains&&(match ops[i]? with|some o=>fP o.op||fk o.op|none=>false)&&i6 ops pr es (i::D) r
def lA(ops:List cf)(pr:List (List Nat))(es D:List Nat)(e:Nat)(a:List Nat):Bool:=
 decide (e<ops.length)&&!D.contains e&&(cn pr e).all D.contains&&((ga ops pr e&&(nf ops e||es.all λx=>ga ops pr x||qf ops x))||es.all (cn pr e).contains) &&
 D.all λi=>(cn pr e).contains i||a.contains i||match ops[i]? with|some o=>!fk o.op|none=>false
def hg(last:List Nat):List (List Nat×Nat×List Nat)→List Nat
 |[]=>last
 |(a,_,_)::_=>a
def gm(ops:List cf)(pr:List (List Nat))(last:List Nat):List Nat→List Nat→List (List Nat×Nat×List Nat)→Bool
 |es,D,[]=>(Xa ops.length).all D.contains
 |es,D,(_,e,st)::r=>lA ops pr es D e st&&i6 ops pr (e::es) (e::D) (hg last r)&&gm ops pr last (e::es) ((hg last r).reverse++(e::D)) r
def gG:List (List Nat×Nat×List Nat)→Option Nat
 |[]=>none
 |(_,e,_)::_=>some e
def yX(ops:List cf)(pr:List (List Nat))(bX:List (List Nat×Nat×List Nat))(last:List Nat):Bool:=yW ops pr&&i6 ops pr [] [] (hg last bX)&&gm ops pr last [] ((hg last bX).reverse) bX
def ng(Φ:ae)(ops:List cf)(last:List Nat)(K:Env→Z→Prop):List (List Nat×Nat×List Nat)→Env→Z→Prop
 |[],env,H=>K env H
 | (_,e,st)::r,env,H=>match ops[e]? with
  |some o=>jm Φ o env H λb a=>gE ops env a (jn Φ ops last r b a K) st
  |none=>False
section
variable{Φ:ae}{ops:List cf}{pr:List (List Nat)}{last:List Nat}{K:Env→Z→Prop}{e0 e1:Env}{H:Z}{S S':Nat→Bool}
theorem yY(bX:List (List Nat×Nat×List Nat))(env:Env):jn Φ ops last bX env H K=kK Φ ops (hg last bX) env H (λbm H'=>ng Φ ops last K bX bm H'):=by
 cases bX with
 |nil=>simp only[jn,hg,ng]
 | cons p r=>obtain⟨a,e,st⟩:=p;exact rfl
theorem iG(h:e0.length=e1.length)(t:Nat):(ec ops S e0 e1).getD t .bot=if late ops S t then e0.getD t .bot else e1.getD t .bot:=by
 unfold ec;by_cases ht:t<e1.length
 ·simp[XH,ht]
 · have a:e1.getD t .bot = .bot:=by simp[XH,YC (YE ht)]
   have b:e0.getD t .bot = .bot:=by simp[XH,YC (h▸YE ht)]
   rw[a,b];simp[XH,ht]
theorem ml:(ec ops S e0 e1).length=e1.length:=by simp[ec]
theorem mm(hl:a.length=b.length)(h:∀t,t<a.length→a.getD t .bot=b.getD t .bot):a=b:=by apply List.ext_getElem hl;intro i c d;have:=h i c;simpa[XH,c,d]using this
theorem jO:late ops S t=true↔∃k,dx ops k=some t∧S k=false:=by
 unfold late;simp only[List.any_eq_true,YF,Wn,b9,Yu];constructor
 ·rintro⟨k,_,h⟩;exact⟨k,h⟩
 · rintro⟨k,a,b⟩;refine⟨k,?_,a,b⟩;unfold dx at a;rcases Gd k ops.length with h|h
   ·exact h
   ·simp[YC h]at a
structure Good(ops:List cf)(pr:List (List Nat)):Prop where
 trans:∀i,i<ops.length→∀j∈cn pr i,∀k∈cn pr j,k∈cn pr i
 Dv:∀i,i<ops.length→i∉cn pr i
 reads:∀i o t k,ops[i]?=some o→t∈hd o→dx ops k=some t→k∈cn pr i∨(fk o.op=false∧(k=i∨i∈cn pr k))
 uniq:∀i k t,dx ops i=some t→dx ops k=some t→i=k
theorem s6{k t:Nat}(h:dx ops k=some t):k<ops.length:=by
 unfold dx at h;rcases Gd k ops.length with a|a
 ·exact a
 ·simp[YC a]at h
theorem MC(h:yW ops pr=true):Good ops pr:=by
 have one:∀i,i<ops.length→oz ops.length ops pr i=true:=λi hi=>by unfold yW at h;rw[Xi]at h;exact h i (YF.2 hi)
 refine⟨λi hi j f k hk=>?_,λi hi=>?_,λi o t k d ht hk=>?_,λi k t hi hk=>?_⟩
 · have:=one i hi;unfold oz at this;split at this
   ·cases this
   · simp only[Wn]at this;have c:=this.1.1.1;rw[Xi]at c;have b:=c j f;rw[Xi]at b;simpa using b k hk
 · have:=one i hi;unfold oz at this;split at this
   ·cases this
   · simp only[Wn]at this;have:=this.1.1.2;simpa using this
 · have hi:i<ops.length:=by
     rcases Gd i ops.length with e|e
     ·exact e
     ·simp[YC e]at d
   have:=one i hi;unfold oz at this;rw[d]at this;simp only[Wn]at this;have c:=this.1.2;rw[Xi]at c;have b:=c t ht;rw[Xi]at b;have a:=b k (YF.2 (s6 hk));rw[hk]at a;simp at a;rcases a with a|⟨g,a⟩
   ·exact .inl a
   · refine .inr ⟨g,?_⟩;rcases a with a|a
     ·exact .inl a
     ·exact .inr a
 · have l:=s6 hi;have:=one i l;unfold oz at this;split at this
   ·cases this
   · rename_i o d;simp only[Wn]at this;have c:=this.2;rw[Xi]at c;have b:=c k (YF.2 (s6 hk));have m:o.dst=some t:=by simpa[dx,d]using hi
     rw[m,hk]at b;simp at b;exact b.symm
theorem qg(d:Good ops pr)(hl:e0.length=e1.length)(e:ops[i]?=some o)
  (f:∀k∈cn pr i,S k=true) (g:S i=false) (l:∀k,S k=true→∀j∈cn pr k,S j=true)
  (m:∀k∈cn pr i,S' k=true) (n:S' i=false) (p:∀k,S' k=true→∀j∈cn pr k,S' j=true) :
  ∀t∈hd o,(ec ops S e0 e1).getD t .bot=(ec ops S' e0 e1).getD t .bot:=by
 intro t ht;rw[iG hl,iG hl];have : late ops S t=late ops S' t:=by
  have key:∀{A B:Nat→Bool},(∀k∈cn pr i,A k=true)→B i=false→(∀k,B k=true→∀j∈cn pr k,B j=true)→late ops A t=true→late ops B t=true:=by
   intro A B Y b2 q h;obtain⟨k,hk,c⟩:=jO.1 h;refine jO.2 ⟨k,hk,?_⟩;rcases d.reads i o t k e ht hk with h|⟨_,h⟩
   ·rw[Y k h]at c;cases c
   · rcases h with rfl|h
     ·exact b2
     · cases a:B k with
       |false=>rfl
       |true=>have:=q k a i h;rw[b2]at this;cases this
  cases b:late ops S t with
  |true=>rw[key f n p b]
  | false=>
   cases a:late ops S' t with
   |false=>rfl
   |true=>rw[key m g l a]at b;cases b
 rw[this]
theorem qh(g:Good ops pr)(hl:e0.length=e1.length)(h:ops[i]?=some o){v:I}
  (hv:∀t,o.dst=some t→t<e1.length→e1.getD t .bot=v) :
  cg (ec ops S e0 e1) o.dst v=ec ops (λk=>k==i||S k) e0 e1:=by
 have c:dx ops i=o.dst:=by simp[dx,h]
 apply mm
 ·cases b:o.dst<;>simp[cg,ml]
 · intro t ht;rw[iG hl];cases b:o.dst with
   | none=>
    simp only[cg];rw[iG hl];have:late ops S t=late ops (λk=>k==i||S k) t:=by
     rw[YG,jO,jO];constructor
     · rintro⟨k,hk,a⟩;refine⟨k,hk,?_⟩;have:k≠i:=λe=>by subst e;rw[c,b]at hk;cases hk
       simp[this,a]
     · rintro⟨k,hk,a⟩;simp at a;exact⟨k,hk,a.2⟩
    rw[this]
   | some s=>
    simp only[cg];by_cases d:s=t
    · subst d;have f:s<(ec ops S e0 e1).length:=by
       rw[b]at ht;simpa[cg,YH]using ht
      have j:late ops (λk=>k==i||S k) s=false:=by
       cases l:late ops (λk=>k==i||S k) s with
       |false=>rfl
       | true=>obtain⟨k,hk,a⟩:=jO.1 l;have:=g.uniq i k s (by rw[c,b]) hk;subst this;simp at a
      rw[j];simp only[XH,Xe f,Yf,cu,XI];rw[←hv s b (by rw[ml]at f;exact f),XH]
    · have m:((ec ops S e0 e1).set s v).getD t .bot=(ec ops S e0 e1).getD t .bot:=by
        rw[XH,Xf d,XH]
      rw[m,iG hl];have:late ops S t=late ops (λk=>k==i||S k) t:=by
       rw[YG,jO,jO];constructor
       · rintro⟨k,hk,a⟩;refine⟨k,hk,?_⟩;have:k≠i:=λe=>by subst e;rw[c,b]at hk;cases hk;exact d rfl
         simp[this,a]
       · rintro⟨k,hk,a⟩;simp at a;exact⟨k,hk,a.2⟩
      rw[this]
theorem jP(hl:e0.length=e1.length)(g:Good ops pr)(c:ops[i]?=some o)(v:I)(hi:S i=false):ec ops S e0 (cg e1 o.dst v)=ec ops S e0 e1:=by
 have d:dx ops i=o.dst:=by simp[dx,c]
 have a:e0.length=(cg e1 o.dst v).length:=by cases b:o.dst<;>simp[cg,hl]
 apply mm
 ·rw[ml,ml,←hl,←a]
 · intro t _;rw[iG a,iG hl];cases f:late ops S t with
   |true=>rfl
   | false=>
    simp only[Yf,cu];cases b:o.dst with
    |none=>rfl
    | some s=>simp only[cg];rw[XH,Xf,XH];intro e;subst e;have:late ops S s=true:=jO.2 ⟨i,by rw[d,b],hi⟩;rw[f]at this;cases this
def qi(e:Env)(d:Option Nat)(v:I):Prop:=∀t,d=some t→t<e.length→e.getD t .bot=v
def Fact(ops:List cf)(pr:List (List Nat))(e0 e1:Env)(H:Z)(i:Nat):Prop:=∃o v,ops[i]?=some o∧(fP o.op=true∨fk o.op=true)∧h6 o (ec ops (λk=>(cn pr i).contains k) e0 e1) H v∧qi e1 o.dst v
structure Inv(Φ:ae)(ops:List cf)(pr:List (List Nat))(last:List Nat)(K:Env→Z→Prop)(bX:List (List Nat×Nat×List Nat))(S:Nat→Bool)(env:Env)(H:Z):Prop where
 ex:∃(e0 e1:Env) (D es:List Nat),
  e0.length=e1.length∧env=ec ops S e0 e1∧e1=ec ops D.contains e0 e1 ∧
  (∀i,S i=true→i∈D)∧(∀i,i∈D→S i=false→Fact ops pr e0 e1 H i) ∧
  (∀k,S k=true→∀j∈cn pr k,S j=true)∧(∀k∈D,∀j∈cn pr k,j∈D) ∧
  gm ops pr last es D bX=true∧ng Φ ops last K bX e1 H
theorem yZ(c:Good ops pr){es:List Nat}{u:Env→Z→Prop}:∀(a D:List Nat)(e1:Env),e0.length=e1.length→e1=ec ops D.contains e0 e1 →
  (∀i,S i=true→i∈D)→(∀i,i∈D→S i=false→Fact ops pr e0 e1 H i)→(∀k∈D,∀j∈cn pr k,j∈D)→i6 ops pr es D a=true→kK Φ ops a e1 H u →
  ∃ d,e0.length=d.length∧ec ops S e0 d=ec ops S e0 e1∧d=ec ops (a.reverse++D).contains e0 d∧(∀i,S i=true→i∈a.reverse++D) ∧
   (∀i,i∈a.reverse++D→S i=false→Fact ops pr e0 d H i)∧(∀k∈a.reverse++D,∀j∈cn pr k,j∈a.reverse++D)∧u d H:=by
 intro a;induction a with
 |nil=>intro D e1 hl hm m hf g _ h;exact⟨e1,hl,rfl,by simpa using hm,by simpa using m,by simpa using hf,by simpa using g,h⟩
 | cons i a F=>
  intro D e1 hl hm m hf g hc h;simp only[i6,Wn]at hc;obtain⟨⟨⟨⟨⟨hi,G⟩,w⟩,ab⟩,p⟩,I⟩:=hc;simp only[kK]at h;cases b:ops[i]? with
  |none=>rw[b]at h;exact h.elim
  | some o=>
   rw[b]at h p;dsimp only at h p;have x:fP o.op=true∨fk o.op=true:=by simpa using p
   have n:i∉D:=by simpa using G
   have y:∀k∈cn pr i,k∈D:=by rw[Xi]at w;intro k hk;simpa using w k hk
   have J:S i=false:=by
    cases hs:S i with
    |false=>rfl
    |true=>exact absurd (m i hs) n
   rw[s5]at h;obtain⟨v,hv,h⟩:=My x h;have K:dx ops i=o.dst:=by simp[dx,b]
   have q:e0.length=(cg e1 o.dst v).length:=by cases g:o.dst<;>simp[cg,hl]
   have z:qi (cg e1 o.dst v) o.dst v:=by intro t ht f;rw[ht]at f ⊢;simp only[cg]at f ⊢;rw[YH]at f;simp[XH,f]
   have L:∀k,D.contains k=true→∀j∈cn pr k,D.contains j=true:=λk hk j l=>by simpa using g k (by simpa using hk) j l
   have A:D.contains i=false:=by simpa using n
   have M:cg e1 o.dst v=ec ops (i::D).contains e0 (cg e1 o.dst v):=by have B:=qh (S:=D.contains) c q b z;rw[jP hl c b v A,←hm]at B;rw[B];congr 1
   have N:Fact ops pr e0 (cg e1 o.dst v) H i:=by
    refine⟨o,v,b,x,?_,z⟩;have C:(cn pr i).contains i=false:=by simpa using c.Dv i (by simpa using hi)
    rw[jP hl c b v C];rw[hm]at hv;refine(ox (qg c hl b ?_ ?_ ?_ ?_ ?_ ?_)).1 hv
    ·intro k hk;simpa using y k hk
    ·exact A
    ·exact L
    ·intro k hk;simpa using hk
    ·exact C
    ·intro k hk j l;simpa using c.trans i (by simpa using hi) k (by simpa using hk) j l
   have hold:∀k,k∈D→S k=false→Fact ops pr e0 (cg e1 o.dst v) H k:=by
    intro k hk r;obtain⟨ok,O,E,P,Q,R⟩:=hf k hk r;have T:(cn pr k).contains i=false:=by
     cases U:(cn pr k).contains i with
     |false=>rfl
     |true=>exact absurd (g k hk i (by simpa using U)) n
    refine⟨ok,O,E,P,by rw[jP hl c b v T];exact Q,?_⟩;intro t ht f;rw[←q,hl]at f;have:=R t ht f;rw[←this];cases V:o.dst with
    |none=>rfl
    | some s=>simp only[cg];rw[XH,Xf,XH];intro e;subst e;have:=c.uniq i k s (by rw[K,V]) (by simp[dx,E,ht]);subst this;exact n hk
   have W:ec ops S e0 (cg e1 o.dst v)=ec ops S e0 e1:=jP hl c b v J;have X:∀k,k∈i::D→S k=false→Fact ops pr e0 (cg e1 o.dst v) H k:=by
    intro k hk r;rcases YI.1 hk with rfl|hk
    ·exact N
    ·exact hold k hk r
   have Y:∀k∈i::D,∀j∈cn pr k,j∈i::D:=by
    intro k hk j l;rcases YI.1 hk with rfl|hk
    ·exact YJ _ (y j l)
    ·exact YJ _ (g k hk j l)
   obtain⟨d,g1,g2,g3,g4,g5,g6,g7⟩:=F (i::D) (cg e1 o.dst v) q M (λk hk=>YJ _ (m k hk)) X Y I h;have aa:(i::a).reverse++D=a.reverse++i::D:=by simp
   rw[aa];exact⟨d,g1,g2.trans W,g3,g4,g5,g6,g7⟩
theorem oA{X:Prop}:∀{a:List Nat},gE ops env H X a→X∧∀l∈a,∀o,ops[l]?=some o→p9 env H o:=by
 intro a;induction a with
 |nil=>intro h;exact⟨h,λl hl=>by cases hl⟩
 | cons l a d=>
  intro h;obtain⟨b,e⟩:=h;obtain⟨f,g⟩:=d e;refine⟨f,λk hk o c=>?_⟩;rcases YI.1 hk with rfl|hk
  ·rw[c]at b;exact b
  ·exact g k hk o c
theorem Dw(a:fk o.op=true)(h:n9 env H o):e7 env H o.op=some (env.getD (o.dst.getD 0) .bot):=by unfold n9 at h;cases b:o.op<;>rw[b]at a h<;>first|(simp[fk]at a;done)|exact h
theorem MD(b:Good ops pr){bX:List (List Nat×Nat×List Nat)}{env:Env}(hc:i6 ops pr [] [] (hg last bX)=true)(c:gm ops pr last [] ((hg last bX).reverse) bX=true)
  (h:jn Φ ops last bX env H K):Inv Φ ops pr last K bX (λ_=>false) env H:=by
 rw[yY]at h;have a:∀S,ec ops S env env=env:=λS=>mm ml λt _=>by rw[iG rfl];split<;>rfl
 obtain⟨d,g1,g2,g3,g4,g5,g6,g7⟩:=yZ (S:=λ_=>false) b (hg last bX) [] env rfl (a _).symm (λi hi=>by cases hi) (λi hi=>by cases hi) (λk hk=>by cases hk) hc h;refine⟨env,d,_,[],g1,?_,g3,g4,g5,λk hk=>(by cases hk),g6,by simpa using c,g7⟩;rw[g2,a]
theorem Dx(v:Good ops pr)(hi:i<ops.length):∀(bX:List (List Nat×Nat×List Nat)) (es D:List Nat),gm ops pr last es D bX=true→i∉D→ga ops pr i=false→∀e∈es,e∈cn pr i:=by
 intro bX;induction bX with
 | nil=>intro es D h d f;simp only[gm]at h;rw[Xi]at h;exact absurd (by simpa using h i (YF.2 hi)) d
 | cons p r n=>
  obtain⟨b,e,st⟩:=p;intro es D h d f;simp only[gm,Wn]at h;obtain⟨⟨g,o⟩,q⟩:=h;have s:∀(b:List Nat)(D:List Nat),i6 ops pr (e::es) D b=true→i∈b→∀a∈es,a∈cn pr i:=by
   intro b;induction b with
   |nil=>intro D _ h;cases h
   | cons k b t=>
    intro D hc hk a c;simp only[i6,Wn]at hc;obtain⟨⟨⟨⟨⟨_,_⟩,_⟩,j⟩,_⟩,u⟩:=hc;rcases YI.1 hk with rfl|hk
    · rw[Xi]at j;simpa using j a (YJ _ c)
    ·exact t _ u hk a c
  by_cases l:i=e
  · subst l;simp only[lA,Wn]at g;have:=g.1.2;rw[f,Bool.false_and,YD,Xi]at this;intro a c;simpa using this a c
  · by_cases m:i∈hg last r
    ·exact s _ _ o m
    · have:=n (e::es) _ q (by simp[l,m,d]) f;exact λa c=>this a (YJ _ c)
def i7(env:Env):ej→Option (Nat×Nat)
 | .make _ sz bytes zero l c=>match l.ev env,c.ev env with
  | .int .i64 n,.int .i64 m=>if 0≤n∧n≤m∧bytes*m≤281474976710656∧m≤9223372036854775807∧zero.length=sz then some (n.toNat,m.toNat)else none
  |_,_=>none
 |_=>some (0,0)
theorem Dy{a:ad}(h:ct Φ env H a (.make true sz bytes zero l c)) :
  ∃x,i7 env (.make true sz bytes zero l c)=some x∧a (.row H.n 0 x.1 sz) (H.push (.row (We x.2 zero).flatten)):=by
 obtain⟨v,H',he,b⟩:=h;unfold lu at he;simp only[i7];revert he;generalize l.ev env=L;generalize c.ev env=M;intro he;split at he
 · split at he
   · rename_i hc;simp only[aY,Wy.injEq,Yp.injEq]at he;obtain⟨rfl,rfl⟩:=he;first
      |(rw[aa hc];exact⟨_,rfl,b⟩)
      |(dsimp only;rw[aa hc];exact⟨_,rfl,b⟩)
   ·cases he
 ·cases he
theorem s7{env bm:Env}(h:∀t∈cm op,env.getD t .bot=bm.getD t .bot):i7 env op=i7 bm op:=by
 cases op<;>try rfl
 rename_i mu sz bytes zero l c;have a:=cS l λt ht=>h t (by simp[cm,ht]);have b:=cS c λt ht=>h t (by simp[cm,ht]);simp only[i7,a,b]
theorem ME{T:Nat→Bool}(c:e0.length=a.length)(d:e0.length=b.length)(i:∀k,S k=true→T k=true)(h:ec ops T e0 a=ec ops T e0 b):ec ops S e0 a=ec ops S e0 b:=by
 apply mm
 ·rw[ml,ml,←c,←d]
 · intro t _;rw[iG c,iG d];cases hs:late ops S t with
   |true=>rfl
   | false=>
    have ht:late ops T t=false:=by
     cases j:late ops T t with
     |false=>rfl
     | true=>
      obtain⟨k,hk,g⟩:=jO.1 j;have:late ops S t=true:=jO.2 ⟨k,hk,by
        cases l:S k with
        |false=>rfl
        |true=>rw[i k l]at g;cases g⟩
      rw[hs]at this;cases this
    have e:=iG (ops:=ops) (S:=T) c t;have f:=iG (ops:=ops) (S:=T) d t;rw[ht]at e f;simp only[Yf,cu]at e f ⊢;rw[←e,←f,h]
theorem Dz:∀(a D:List Nat),i6 ops pr es D a=true→i∈a→∃o,ops[i]?=some o∧(fP o.op=true∨fk o.op=true):=by
 intro a;induction a with
 |nil=>intro D _ h;cases h
 | cons k a c=>
  intro D hc hk;simp only[i6,Wn]at hc;obtain⟨⟨⟨⟨⟨_,_⟩,_⟩,_⟩,b⟩,d⟩:=hc;rcases YI.1 hk with rfl|hk
  · split at b
    ·rename_i o heq;exact⟨o,heq,by simpa using b⟩
    ·cases b
  ·exact c _ d hk
theorem ahead(c:ops[i]?=some o)(j:nf ops i=false)(k:¬(fP o.op=true∨fk o.op=true)):∀(bX:List (List Nat×Nat×List Nat)) (es D:List Nat),gm ops pr last es D bX=true→i∉D →
  (∀e∈es,ga ops pr e=true∨qf ops e=true)∨∀e∈es,e∈cn pr i:=by
 intro bX;induction bX with
 | nil=>intro es D h a;simp only[gm]at h;rw[Xi]at h;exact absurd (by simpa using h i (YF.2 (Wh.1 c).1)) a
 | cons p r l=>
  obtain⟨t,e,st⟩:=p;intro es D h a;simp only[gm,Wn]at h;obtain⟨⟨d,m⟩,n⟩:=h;by_cases f:i=e
  · subst f;simp only[lA,Wn]at d;have:=d.1.2;rw[j,YD,Wo,Wn,Xi,Xi]at this;rcases this with⟨_,h⟩|h
    ·exact .inl λe he=>by simpa using h e he
    ·exact .inr λe he=>by simpa using h e he
  · have q:i∉hg last r:=by
      intro hs;obtain⟨u,g,s⟩:=Dz _ _ m hs;rw[c]at g;cases g;exact k s
    rcases l (e::es) _ n (by simp[f,q,a])with h|h
    ·exact .inl λx b=>h x (YJ _ b)
    ·exact .inr λx b=>h x (YJ _ b)
theorem look(U:kM Φ)(n:Good ops pr)(m:ops[i]?=some ⟨some t,.make true sz bytes zero l c,none⟩):∀(bX:List (List Nat×Nat×List Nat)) (e1:Env) (H:Z) (D es:List Nat),
  e0.length=e1.length→e1=ec ops D.contains e0 e1→(∀k∈D,∀j∈cn pr k,j∈D)→gm ops pr last es D bX=true→ng Φ ops last K bX e1 H→i∉D→(∀k∈cn pr i,k∈D) →
  ∃x,i7 e1 (.make true sz bytes zero l c)=some x:=by
 have V:nf ops i=false:=by simp[nf,m]
 have J:¬(fP (ej.make true sz bytes zero l c)=true∨fk (ej.make true sz bytes zero l c)=true):=by simp[fP,fk]
 have W:=(Wh.1 m).1;intro bX;induction bX with
 | nil=>intro e1 H D es hl hm B hc _ o;simp only[gm]at hc;rw[Xi]at hc;exact absurd (by simpa using hc i (YF.2 W)) o
 | cons p r X=>
  obtain⟨aj,e,st⟩:=p;intro e1 H D es hl hm B hc g o q;have ak:=hc;simp only[gm,Wn]at hc;obtain⟨⟨b,d⟩,L⟩:=hc;simp only[lA,Wn]at b;obtain⟨⟨⟨⟨al,Y⟩,M⟩,am⟩,an⟩:=b;have N:e∉D:=by simpa using Y
  by_cases O:e=i
  · subst O;simp only[ng,m,jm]at g;obtain⟨x,C,_⟩:=Dy g;exact⟨x,C⟩
  · have aa:i∉hg last r:=by
      intro hs;obtain⟨ao,P,ab⟩:=Dz _ _ d hs;rw[m]at P;cases P;exact J ab
    have E:i∉(hg last r).reverse++(e::D):=by simp[aa,o,W_ O]
    have ac:ga ops pr e=true∨qf ops e=true:=by
     rcases ahead m V J r _ _ L E with h|h
     ·exact h e YK
     ·exact absurd (q e (h e YK)) N
    obtain ⟨te,f,u,ad⟩:∃te f,ops[e]?=some ⟨some te,f,none⟩∧(kV f∨(∃k args,f = .call k args)∨∃mu sz bytes x y,f = .append mu sz bytes x y):=by
     rcases ac with h|h
     ·obtain⟨te,f,b,d⟩:=mj h;exact⟨te,f,b,.inl d⟩
     ·obtain⟨te,f,b,d⟩:=MB h;exact⟨te,f,b,.inr d⟩
    simp only[ng,u,jm]at g;have hv:∃v a,jn Φ ops last r (cg e1 (some te) v) a K:=by
     rcases ad with(⟨z,rfl⟩|rfl|⟨_,_,_,_,_,rfl⟩)|⟨k,args,rfl⟩|⟨_,_,_,_,_,rfl⟩
     ·obtain⟨v,a,_,h⟩:=g;exact⟨v,a,(oA h).1⟩
     ·exact⟨_,_,(oA g).1⟩
     ·obtain⟨v,a,_,h⟩:=g;exact⟨v,a,(oA h).1⟩
     ·obtain⟨v,a,h⟩:=U _ _ _ _ g;exact⟨v,a,(oA h).1⟩
     ·obtain⟨v,a,_,h⟩:=g;exact⟨v,a,(oA h).1⟩
    obtain⟨v,a,Q⟩:=hv;rw[yY]at Q;have F:e0.length=(cg e1 (some te) v).length:=by simp[cg,hl]
    have R:D.contains e=false:=by simpa using N
    have ae:cg e1 (some te) v=ec ops (e::D).contains e0 (cg e1 (some te) v):=by
     have b:=qh (S:=D.contains) n F u (v:=v) (λs hs G=>by cases hs;simp only[cg]at G ⊢;rw[YH]at G;simp[XH,G])
     have d:=jP hl n u v R;dsimp only at b d;rw[d,←hm]at b;rw[b];congr 1
    have af:∀k∈e::D,∀j∈cn pr k,j∈e::D:=by
     intro k hk j w;rcases YI.1 hk with rfl|hk
     · rw[Xi]at M;exact YJ _ (by simpa using M j w)
     ·exact YJ _ (B k hk j w)
    obtain ⟨I,g1,g2,g3,g4,g5,g6,g7⟩:=yZ (S:=(e::D).contains) n (hg last r) (e::D) (cg e1 (some te) v) F ae (λk hk=>by simpa using hk) (λk hk hs=>by
      have:(e::D).contains k=true:=by simpa using hk
      rw[hs]at this;cases this) af d Q
    obtain ⟨x,C⟩:=X I a _ _ g1 g3 g6 L g7 E (λk hk=>by have:=q k hk;simp[this])
    refine⟨x,?_⟩;rw[←C];apply s7;intro s hs;have ag:s∈hd (⟨some t,.make true sz bytes zero l c,none⟩:cf):=by simp[hd,hs]
    have T:∀{A:List Nat},(∀k∈A,∀j∈cn pr k,j∈A)→∀k,A.contains k=true→∀j∈cn pr k,A.contains j=true:=by intro A ah k hk j w;simpa using ah k (by simpa using hk) j w
    have key:=qg (S:=D.contains) (S':=((hg last r).reverse++(e::D)).contains) (e1:=I) n g1 m (λk hk=>by simpa using q k hk) (by simpa using o) (T B)
     (λk hk=>by have:=q k hk;simp[this]) (by simpa using E) (T g6) s ag
    rw[←g3]at key;have ai:ec ops D.contains e0 I=ec ops D.contains e0 e1:=by rw[ME g1 F (λk hk=>by simp at hk;simp[hk]) g2];exact jP hl n u v R
    rw[ai,←hm]at key;exact key
theorem MF(q:kM Φ)(e:Good ops pr){bX:List (List Nat×Nat×List Nat)}(h:Inv Φ ops pr last K bX S env H)(d:ops[i]?=some ⟨some t,op,none⟩)(r:kV op)(f:S i=false)(a:(∃sz bytes zero l c,op = .make true sz bytes zero l c)→∀k∈cn pr i,S k=true) :
  ∃x,i7 env op=some x:=by
 rcases r with⟨zero,rfl⟩|rfl|⟨sz,bytes,zero,l,c,rfl⟩
 ·exact⟨_,rfl⟩
 ·exact⟨_,rfl⟩
 · obtain ⟨e0,e1,D,es,hl,hm,g,m,hf,u,n,w,y⟩:=h;have a:=a ⟨_,_,_,_,_,rfl⟩;have b:i∉D:=by
    intro b;obtain⟨o,v,p,z,_⟩:=hf i b f;rw[d]at p;cases p;exact oy (.inr (.inr ⟨_,_,_,_,_,rfl⟩)) z
   obtain⟨x,A⟩:=look q e d bX e1 H D es hl g n w y b (λk hk=>m k (a k hk));refine⟨x,?_⟩;rw[←A];apply s7;intro s hs;have B:s∈hd (⟨some t,.make true sz bytes zero l c,none⟩:cf):=by simp[hd,hs]
   have key:=qg (S:=S) (S':=D.contains) e hl d a f u (λk hk=>by simpa using m k (a k hk)) (by simpa using b) (λk hk j C=>by simpa using n k (by simpa using hk) j C) s B;rw[←hm,←g]at key;exact key
theorem DA(au:jN Φ)(a:Good ops pr){bX:List (List Nat×Nat×List Nat)}(h:Inv Φ ops pr last K bX S env H)(c:ops[i]?=some o)(L:S i=false)(z:∀k∈cn pr i,S k=true)
  (V:ga ops pr i=false∨gG bX=some i) :
  jm Φ o env H (λbm H'=>Inv Φ ops pr last K (if gG bX=some i then bX.tail else bX) (λk=>k==i||S k) bm H'):=by
 obtain⟨e0,e1,D,es,hl,hm,M,N,hf,W,E,l,O⟩:=h;have hi:i<ops.length:=(Wh.1 c).1;have av:(cn pr i).contains i=false:=by simpa using a.Dv i hi
 have ad:∀k,(k==i||S k)=true→∀j∈cn pr k,(j==i||S j)=true:=by
  intro k hk j d;simp only[Wo,b9]at hk ⊢;rcases hk with rfl|hk
  ·exact .inr (z j d)
  ·exact .inr (W k hk j d)
 rw[s5];by_cases x:i∈D
 · obtain ⟨aS,v,ae,aT,aw,ax⟩:=hf i x L;rw[c]at ae;cases ae;have ay:h6 o env H v:=by
    rw[hm];refine(ox (qg a hl c ?_ ?_ ?_ ?_ ?_ ?_)).1 aw
    ·intro k hk;simpa using hk
    ·exact av
    ·intro k hk j d;simpa using a.trans i hi k (by simpa using hk) j d
    ·exact z
    ·exact L
    ·exact W
   have az:gG bX≠some i:=by
    cases bX with
    |nil=>simp[gG]
    | cons p r=>
     obtain⟨n,e,st⟩:=p;simp only[gm,Wn]at l;have f:=l.1.1;simp only[lA,Wn]at f;have X:e∉D:=by simpa using f.1.1.1.2
     intro he;simp only[gG,Wy.injEq]at he;subst he;exact X x
   rw[ab az];refine Mz ay ⟨e0,e1,D,es,hl,?_,M,?_,?_,ad,E,l,O⟩
   ·rw[hm];exact qh a hl c ax
   · intro k hk;simp only[Wo,b9]at hk;rcases hk with rfl|hk
     ·exact x
     ·exact N k hk
   · intro k hk q;simp only[YL]at q;exact hf k hk q.2
 · cases bX with
   | nil=>simp only[gm]at l;rw[Xi]at l;exact absurd (by simpa using l i (YF.2 hi)) x
   | cons p r =>
    obtain⟨n,e,st⟩:=p;have aU:=l;simp only[gm,Wn]at l;obtain⟨⟨f,af⟩,ag⟩:=l;simp only[lA,Wn]at f;obtain⟨⟨⟨⟨aV,aA⟩,aW⟩,aX⟩,ah⟩:=f;have X:e∉D:=by simpa using aA
    have F : i=e:=by
     by_cases F:i=e
     ·exact F
     exfalso;have V:ga ops pr i=false:=by
      rcases V with h|h
      ·exact h
      · simp only[gG,Wy.injEq]at h;exact absurd h.symm F
     have aB:e∈cn pr i:=by
      by_cases ai:i∈hg last r
      · have aC:∀(n:List Nat)(D:List Nat),i6 ops pr (e::es) D n=true→i∈n→e∈cn pr i:=by
          intro n;induction n with
          |nil=>intro D _ h;cases h
          | cons k n aD=>
           intro D hc hk;simp only[i6,Wn]at hc;obtain⟨⟨⟨⟨⟨_,_⟩,_⟩,aj⟩,_⟩,aE⟩:=hc;rcases YI.1 hk with rfl|hk
           · rw[Xi]at aj;simpa using aj e YK
           ·exact aD _ aE hk
        exact aC _ _ af ai
      ·exact Dx a hi r (e::es) _ ag (by simp[F,ai,x]) V e YK
     exact X (N e (z e aB))
    subst F;rw[aa (show gG ((n,i,st)::r)=some i from rfl)];simp only[ng,c]at O;rw[s5]at O;have ak:∀k∈cn pr i,k∈D:=λk hk=>N k (z k hk);have al:D.contains i=false:=by simpa using x
    have aF:∀k,D.contains k=true→∀j∈cn pr k,D.contains j=true:=λk hk j d=>by simpa using E k (by simpa using hk) j d
    have aG:iF Φ o env H (λv H'=>gE ops e1 H' (jn Φ ops last r (cg e1 o.dst v) H' K) st):=by
     have agree:∀t∈hd o,e1.getD t .bot=env.getD t .bot:=by intro t ht;have:=qg (S:=D.contains) (S':=S) a hl c (λk hk=>by simpa using ak k hk) al aF z L W t ht;rw[←M,←hm]at this;exact this
     exact(Dt agree).1 O
    refine MA au ?_ aG;intro v H' hs;obtain⟨am,aH⟩:=oA hs;have aI:dx ops i=o.dst:=by simp[dx,c]
    have P:e0.length=(cg e1 o.dst v).length:=by cases aY:o.dst<;>simp[cg,hl]
    have an:qi (cg e1 o.dst v) o.dst v:=by intro t ht y;rw[ht]at y ⊢;simp only[cg]at y ⊢;rw[YH]at y;simp[XH,y]
    have aJ:cg e1 o.dst v=ec ops (i::D).contains e0 (cg e1 o.dst v):=by have f:=qh (S:=D.contains) a P c an;rw[jP hl a c v al,←M]at f;rw[f];congr 1
    have aK:cg env o.dst v=ec ops (λk=>k==i||S k) e0 (cg e1 o.dst v):=by have f:=qh (S:=S) a P c an;rw[jP hl a c v L,←hm]at f;exact f
    have aL:∀k,k∈i::D→(k==i||S k)=false→Fact ops pr e0 (cg e1 o.dst v) H' k:=by
     intro k hk q;simp only[YL,beq_eq_false_iff_ne]at q;obtain⟨ao,q⟩:=q;have Q:k∈D:=(YI.1 hk).resolve_left ao;obtain⟨ok,aN,w,G,m,ap⟩:=hf k Q q;have R:(cn pr k).contains i=false:=by
      cases Y:(cn pr k).contains i with
      |false=>rfl
      |true=>exact absurd (E k Q i (by simpa using Y)) x
     have T:∀u,qi e1 ok.dst u→qi (cg e1 o.dst v) ok.dst u:=by
      intro u hu t ht y;rw[←P,hl]at y;have:=hu t ht y;rw[←this];cases aO:o.dst with
      |none=>rfl
      | some s=>simp only[cg];rw[XH,Xf,XH];intro e;subst e;have:=a.uniq i k s (by rw[aI,aO]) (by simp[dx,w,ht]);exact ao this.symm
     by_cases aq:fP ok.op=true
     · refine⟨ok,aN,w,G,?_,T _ ap⟩;rw[jP hl a c v R];exact(Mw aq).1 m
     · have U:fk ok.op=true:=G.resolve_left aq;have aP:k∈st:=by
        rw[Xi]at ah;have:=ah k Q;rw[w]at this;simp[U]at this;rcases this with h|h
        ·exact absurd (z k h) (by rw[q];simp)
        ·exact h
       have B:=aH k aP ok w;have agree:∀t∈hd ok,(ec ops (λj=>(cn pr k).contains j) e0 e1).getD t .bot=e1.getD t .bot:=by
        intro t ht
        conv=>rhs;rw[M]
        rw[iG hl,iG hl];have C:∀(A:Nat→Bool),(∀j∈cn pr k,A j=true)→late ops A t=false:=by
         intro A C;cases Y:late ops A t with
         |false=>rfl
         | true=>
          obtain⟨j,d,ar⟩:=jO.1 Y;rcases a.reads k ok t j w ht d with h|⟨h,_⟩
          ·rw[C j h]at ar;cases ar
          ·rw[U]at h;cases h
        rw[C _ (λj d=>by simpa using d),C _ (λj d=>by simpa using E k Q j d)]
       rw[ox agree]at m;unfold p9 at B;unfold h6 at m;cases J:ok.guard with
       | none=>
        rw[J]at B;refine⟨ok,e1.getD (ok.dst.getD 0) .bot,w,G,?_,T _ ?_⟩
        · rw[jP hl a c v R];refine(ox agree).2 ?_;unfold h6;rw[J];exact Dw U B
        ·intro t ht _;rw[ht];rfl
       | some g=>
        obtain⟨s,want⟩:=g;rw[J]at B m;dsimp only at B m;obtain⟨b,Z,m⟩:=m;by_cases ac:b=true
        · subst ac;refine⟨ok,e1.getD (ok.dst.getD 0) .bot,w,G,?_,T _ ?_⟩
          · rw[jP hl a c v R];refine(ox agree).2 ?_;unfold h6;rw[J];exact⟨true,Z,by rw[aa rfl];exact Dw U (B (I.ys Z))⟩
          ·intro t ht _;rw[ht];rfl
        · rw[ab ac]at m;subst m;refine⟨ok,.aM [],w,G,?_,T _ ap⟩;rw[jP hl a c v R];refine(ox agree).2 ?_;unfold h6;rw[J];exact⟨b,Z,by rw[ab ac]⟩
    rw[yY]at am;have C:∀k,(k==i||S k)=true→k∈i::D:=by
     intro k hk;simp only[Wo,b9]at hk;rcases hk with rfl|hk
     ·exact YK
     ·exact YJ _ (N k hk)
    have aQ:∀k∈i::D,∀j∈cn pr k,j∈i::D:=by
     intro k hk j d;rcases YI.1 hk with rfl|hk
     ·exact YJ _ (ak j d)
     ·exact YJ _ (E k hk j d)
    obtain⟨aR,g1,g2,g3,g4,g5,g6,g7⟩:=yZ (S:=λk=>k==i||S k) a (hg last r) (i::D) (cg e1 o.dst v) P aJ C aL aQ af am;exact⟨e0,aR,_,i::es,g1,by rw[g2];exact aK,g3,g4,g5,ad,g6,ag,g7⟩
theorem MG{bX:List (List Nat×Nat×List Nat)}(h:Inv Φ ops pr last K bX S env H)(a:∀i,i<ops.length→S i=true):K env H:=by
 obtain⟨e0,e1,D,es,hl,hm,q,f,hf,s,u,b,g⟩:=h;cases bX with
 | nil=>
  have:env=e1:=by
   rw[hm];refine mm ml λt _=>?_;rw[iG hl];have:late ops S t=false:=by
    cases k:late ops S t with
    |false=>rfl
    | true=>obtain⟨j,l,c⟩:=jO.1 k;rw[a j (s6 l)]at c;cases c
   rw[this];rfl
  rw[this];exact g
 | cons p r=>
  obtain⟨v,e,st⟩:=p;simp only[gm,Wn]at b;obtain⟨⟨d,w⟩,x⟩:=b;simp only[lA,Wn]at d;obtain⟨⟨⟨⟨m,n⟩,y⟩,z⟩,A⟩:=d;have o:e∉D:=by simpa using n
  exact absurd (f e (a e (by simpa using m))) o
theorem MH(u:Good ops pr){bX:List (List Nat×Nat×List Nat)}(h:Inv Φ ops pr last K bX S env H) :
  (∀k,S k=true→∀j∈cn pr k,S j=true) ∧
  ∀p,ga ops pr p=true→S p=false→gG bX≠some p→∀i,i<ops.length→S i=false→p∈cn pr i→ga ops pr i=false→(∀k∈cn pr i,S k=true∨(ga ops pr k=true∧gG bX≠some k))→False:=by
 obtain⟨e0,e1,D,es,hl,hm,R,w,hf,x,y,a,T⟩:=h;refine⟨x,λp z A U i hi V f B C=>?_⟩;have c:p∉D:=by intro c;obtain⟨o,v,E,F,_⟩:=hf p c A;obtain⟨t',W,g,G⟩:=mj z;rw[E]at g;cases g;exact oy G F
 have d:i∉D:=λd=>c (y i d p f);cases bX with
 | nil=>simp only[gm]at a;rw[Xi]at a;exact absurd (by simpa using a i (YF.2 hi)) d
 | cons q r =>
  obtain⟨b,e,st⟩:=q;have X:=a;simp only[gm,Wn]at a;obtain⟨⟨l,I⟩,J⟩:=a;simp only[lA,Wn]at l;obtain⟨⟨⟨⟨Y,L⟩,m⟩,Z⟩,aa⟩:=l;have M:e∉D:=by simpa using L
  by_cases n:i=e
  · subst n;rw[Xi]at m;exact c (by simpa using m p f)
  · have N : e∈cn pr i:=by
      by_cases s:i∈hg last r
      · have O:∀(b:List Nat)(D:List Nat),i6 ops pr (e::es) D b=true→i∈b→e∈cn pr i:=by
          intro b;induction b with
          |nil=>intro D _ h;cases h
          | cons k b P=>
           intro D hc hk;simp only[i6,Wn]at hc;obtain⟨⟨⟨⟨⟨_,_⟩,_⟩,t⟩,_⟩,Q⟩:=hc;rcases YI.1 hk with rfl|hk
           · rw[Xi]at t;simpa using t e YK
           ·exact P _ Q hk
        exact O _ _ I s
      ·exact Dx u hi r (e::es) _ J (by simp[n,s,d]) B e YK
    rcases C e N with h|⟨_,h⟩
    ·exact M (w e h)
    ·exact h rfl
theorem y0{bX:List (List Nat×Nat×List Nat)}(h:Inv Φ ops pr last K bX S env H){e:Nat}(a:gG bX=some e) :
  S e=false∧e<ops.length∧∀k∈cn pr e,ga ops pr k=true→S k=true:=by
 obtain⟨e0,e1,D,es,hl,hm,w,i,hf,x,y,c,z⟩:=h;cases bX with
 |nil=>cases a
 | cons q r=>
  obtain⟨A,b,st⟩:=q;simp only[gG,Wy.injEq]at a;subst a;simp only[gm,Wn]at c;obtain⟨⟨d,B⟩,C⟩:=c;simp only[lA,Wn]at d;obtain⟨⟨⟨⟨j,l⟩,f⟩,E⟩,F⟩:=d;have m:b∉D:=by simpa using l
  refine⟨?_,by simpa using j,λk hk n=>?_⟩
  · cases hs:S b with
    |false=>rfl
    |true=>exact absurd (i b hs) m
  · cases hs:S k with
    |true=>rfl
    | false=>
     rw[Xi]at f;have p:k∈D:=by simpa using f k hk
     obtain⟨o,v,s,t,_⟩:=hf k p hs;obtain⟨t',G,g,u⟩:=mj n;rw[s]at g;cases g;exact(oy u t).elim
end
end Rb
