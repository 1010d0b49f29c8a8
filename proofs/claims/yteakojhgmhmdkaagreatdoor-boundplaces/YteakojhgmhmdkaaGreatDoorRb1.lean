/- A part of the proof (part 1): see the last text. -/
import Derived.Tactics2
import Derived.Laws.AppendOwn
import Derived.LoopN
import Derived.Laws.Strings
import Derived.Lib.Strings
import Derived.Laws.IdiomStrings
import Derived.WideLaws
import Derived.Laws.StructEq
import Derived.LaidEql
set_option linter.unusedVariables false
set_option linter.unusedSimpArgs false
open Array renaming ext'→ZF, getD_eq_getD_getElem?→Zb, getElem?_append→Yl, getElem?_eq_getElem→XW, getElem?_eq_some_iff→YF, getElem?_extract→XZ, getElem?_modify→YK, getElem?_push→YC, getElem?_setIfInBounds→Yn, getElem?_toList→ZE, range→YY, size_append→Zd
open BitVec renaming ofInt→TH
open Bool renaming and_eq_true→X1, eq_iff_iff→aaf, false_eq_true→ZP, false_or→aac, not_eq_true'→Z4, or_eq_false_iff→aak, or_eq_true→X2
open ByteArray renaming emptyWithCapacity→Zm, empty→Zl, ext→X6, getElem_eq_getElem_data→Yf, mk→X4, push→Zk, size→X5
open Classical renaming not_not→Zf
open Go renaming sizeOf→X0
open Go.Addr renaming add_lit→Y_
open Go.Builtin renaming append_→Y8, clear_→Z0, copy_→ZW, delete_→ZB, firstCells→Ze, lenOf→Y9, len_→Yy, max2→Yz, min2→YA, zeroCells→Zc
open Go.Calls renaming mono→Z9
open Go.Deferred renaming ofValue→Z8
open Go.Instr renaming alloc→YZ, box→YX, buildSlice→Y2, build→Z3, checkKey→Zq, extract→Yj, fieldAt→Yh, field→Yd, fill→Yw, findKey→Zv, findNow→Zs, indexAt→Yo, index→Ye, keyThatStays→ZA, loadAt→YP, lookup→Zu, makeFunc→Z6, makeInterface→Z5, makeMap→Zt, makeSlice→Y3, mapUpdate→Zx, next→Zo, range→Zn, sameBits→Zw, sameNow→Zr, sliceAt→Yr, sliceBounds→Yq, sliceBound→Yp, slice→Ys, storeAt→YW, sureAddr→Yi, typeAssert→ZX
open Go.IntKind renaming bits→X9, i64→Y5, signed→X8, wrap→Y6
open Go.Made renaming depth→Z1
open Go.Op renaming bytesLess→XR, eqFields→ZT, equalIn→X_, equal→Ya, intDiv→X3, maxDepth→ZY, stringOp→X7
open Go.Oper renaming wp→Z2
open Go.Result renaming andThen_ok→ZH, andThen→ZQ
open Go.Sem renaming run_bind→ZG, run_pure→ZO, run→Zp
open Go.Utf8 renaming decode→XU
open Go.Value renaming int→AV
open Go.World renaming block_lt_of_cell?→YE, cell?_of_block→YD, setRow→YJ
open Int renaming eq_ofNat_of_zero_le→Y4, toNat_natCast→Y7
open List renaming all_eq_true→YU, cons_append→ZS, flatten_cons→Y1, foldl_cons→Yv, getD_eq_getElem?_getD→Zg, getElem?_append_left→Zy, getElem?_append_right→Zz, getElem?_append→Yk, getElem?_drop→XY, getElem?_eq_getElem→YO, getElem?_eq_none→aab, getElem?_eq_some_iff→XV, getElem?_eraseIdx→ZD, getElem?_map→YN, getElem?_set_ne→YR, getElem?_set_self→YQ, getElem?_set→Ym, getElem?_take_of_lt→ZV, getElem?_take→XX, getElem?_toArray→YS, getElem_mem→YV, length_eq_zero_iff→Zi, length_eraseIdx→ZC, length_set→aag, map_cons→Zj, map_nil→Z_, map→Z7, mem_append→aaa, mem_cons_of_mem→aai, mem_cons_self→aaj, mem_cons→aah, mem_iff_getElem→YT, mem_range→aae, range'→ZJ, range_eq_range'→ZN, range→YM, replicate_succ→Y0, replicate→XS, take_left→ZR
open Nat renaming add_assoc→Yg, add_mul→Yu, add_zero→Yx, le_of_eq→YH, le_of_not_lt→aad, le_refl→sl, le_succ→YB, le_trans→xl, lt_of_lt_of_le→AH, lt_or_ge→KT, mul_le_mul_right→Za, ne_of_lt→YG, succ_mul→ZU, zero_add→YI, zero_le→Yt
open Ne renaming symm→YL
open Option renaming getD_some→Zh, map_some→Yc, some→Yb
open Prod renaming mk→ZZ
open Std.Legacy.Range renaming forIn_eq_forIn_range'→ZI, size→ZL, start→ZK, step→ZM
open UInt8 renaming ofNat→XT
namespace Rb
universe u
variable{c:Prop}{d:Decidable c}{α:Sort u}{t e:α}
theorem eM(h:¬c:=by decide):@ite α c d t e=e:=if_neg h
theorem kG(h:c:=by decide):@ite α c d t e=t:=if_pos h
theorem bw(h:¬c:=by omega):@ite α c d t e=e:=if_neg h
theorem cG(h:c:=by omega):@ite α c d t e=t:=if_pos h
theorem dW(h:c:=by simp only[decide_eq_true_eq];omega):@ite α c d t e=t:=if_pos h
theorem ee(h:¬c:=by simp only[decide_eq_true_eq];omega):@ite α c d t e=e:=if_neg h
theorem lV(h:¬c:=by simp):@ite α c d t e=e:=if_neg h
theorem qH(h:c:=by simp):@ite α c d t e=t:=if_pos h
theorem LS(h:¬c:=by simp;omega):@ite α c d t e=e:=if_neg h
theorem oL(h:c:=by simp;omega):@ite α c d t e=t:=if_pos h
theorem ab{c:Prop}{d:Decidable c}(h:¬c){α:Sort u}{t e:α}:@ite α c d t e=e:=if_neg h
theorem aa{c:Prop}{d:Decidable c}(h:c){α:Sort u}{t e:α}:@ite α c d t e=t:=if_pos h
theorem iS(i:Nat):((i:Int)+1)=((i+1:Nat):Int):=by simp
theorem dU{p:Prop}[d:Decidable p]:(decide p=true)=p:=decide_eq_true_eq
theorem a_{α:Sort u}{x:Decidable True}(t e:α):ite True t e=t:=if_true t e
theorem bR{α:Sort u}{x:Decidable False}(t e:α):ite False t e=e:=if_false t e
theorem bG{α:Type u}[BEq α][LawfulBEq α]{a b:α}:a==b↔a=b:=beq_iff_eq
end Rb

namespace Rb
open Go
variable{w w' w1 w2 w3:World}
inductive Tok where
 |nil|full|own (t:Nat)|dead
 deriving DecidableEq
inductive I where
 |bool (b:Bool)
 |int (k:IntKind) (n:Int)
 |str (s:List UInt8)
 |eJ
 |ptr (id off:Nat)
 |ae (cells:List I)
 |ak (tk:Tok) (len:Nat) (cells:List I)
 |row (id off len sz:Nat)
 |map (id:Nat)
 |fJ
 |fn (key:Nat) (bE:List I)
 |gu
 |iface (t:TypeId) (v:I)
 |gv
 |agg (cs:List I)
 |aq (vs:List I)
 |bot
 deriving Inhabited
def I.cells:I→List I
 | .agg cs=>cs
 |v=>[v]
def fS(key:Nat):Option Nat:=cond (Nat.ble 1048576 key) (some (key-1048576)) none
def I.scalar:I→Bool
 | .agg _ | .aq _ | .bot=>false
 |_=>true
inductive bM where
 |row (cs:List I)
 |tok (n sz:Nat)
 |map (es:List (I×I))
 |fU (s:List UInt8) (pos:Nat)
 |h4 (T:TypeId) (used:Bool) (kn:Option (Nat×Nat))
 |kn (U:TypeId) (bs:List UInt8)
 |gone
def bM.live:bM→Bool
 | .gone=>false
 |_=>true
structure Z where
 n:Nat
 o:Nat→bM
def Z.set(H:Z)(i:Nat)(x:bM):Z:={H with o:=λj=>if j=i then x else H.o j}
def Z.push(H:Z)(x:bM):Z:={n:=H.n+1,o:=λj=>if j=H.n then x else H.o j}
structure aH where
 n:Nat
 loc:Nat→Nat
 cap:Nat→Nat
 fz:Nat→Nat→Prop
def qu(G:aH)(b o a cap:Nat):Tok→Prop
 | .nil=>False
 | .full=>cap=a
 | .own t=>t<G.n∧G.loc t=b∧o=0∧G.cap t=cap
 | .dead=>True
abbrev cz:=Nat→Option FuncId
inductive VR(F:cz)(w:World)(G:aH):I→Value→Prop where
 |bot (V:Value):VR F w G .bot V
 |bool (b:Bool):VR F w G (.bool b) (.bool b)
 |int (k:IntKind) (n:Int):VR F w G (.int k n) (.int k n)
 |str (s:List UInt8):VR F w G (.str s) (.string ⟨s.toArray⟩)
 |eJ:VR F w G .eJ (.pointer none)
 |ptr (id off:Nat) (h:id<G.n):VR F w G (.ptr id off) (.pointer (some ⟨G.loc id,off,none⟩))
 | ae (cells:List I) (b o:Nat) (Vs:Nat→Value)
   (h:∀(j:Nat)(c:I),cells[j]?=some c→G.fz b (o+j)∧w.cell? ⟨b,o+j,none⟩=some (Vs j))
   (hv:∀(j:Nat)(c:I),cells[j]?=some c→VR F w G c (Vs j)):VR F w G (.ae cells) (.pointer (some ⟨b,o,none⟩))
 |e5:VR F w G (.ak .nil 0 []) (.slice none 0 0)
 |e6 (a:Option Addr) (cap:Nat):VR F w G (.ak .dead 0 []) (.slice a 0 cap)
 | ak (tk:Tok) (len:Nat) (cells:List I) (b o cap:Nat) (Vs:Nat→Value) (ht:qu G b o len cap tk) (hle:len≤cap)
   (h:∀(j:Nat)(c:I),cells[j]?=some c→G.fz b (o+j)∧w.cell? ⟨b,o+j,none⟩=some (Vs j))
   (hv:∀(j:Nat)(c:I),cells[j]?=some c→VR F w G c (Vs j)):VR F w G (.ak tk len cells) (.slice (some ⟨b,o,none⟩) len cap)
 |row (id off len sz cap:Nat) (h:id<G.n) (hle:len≤cap) (hc:off+cap*sz=G.cap id):VR F w G (.row id off len sz) (.slice (some ⟨G.loc id,off,none⟩) len cap)
 |map (id:Nat) (h:id<G.n):VR F w G (.map id) (.map (some (G.loc id)))
 |fJ:VR F w G .fJ (.map none)
 | fn (key:Nat) (bE:List I) (f:FuncId) (Vs:Array Value) (hk:fS key=none) (hf:F key=some f) (hl:bE.length=Vs.size)
   (hv:∀(j:Nat)(c:I)(V:Value),bE[j]?=some c→Vs[j]?=some V→VR F w G c V):VR F w G (.fn key bE) (.func (.func f) #[] Vs)
 | ko (key k:Nat) (bE:List I) (f:FuncId) (Vs:Array Value) (hk:fS key=some k) (hf:F k=some f) (hl:bE.length=Vs.size)
   (hv:∀(j:Nat)(c:I)(V:Value),bE[j]?=some c→Vs[j]?=some V→VR F w G c V):VR F w G (.fn key bE) (.func (.func f) Vs #[])
 |gu:VR F w G .gu .nilFunc
 |iface (t:TypeId) (v:I) (V:Value) (h:VR F w G v V):VR F w G (.iface t v) (.iface t V)
 |gv:VR F w G .gv .nilIface
 | agg (cs:List I) (Vs:Array Value) (hl:cs.length=Vs.size)
   (hv:∀(j:Nat)(c:I)(V:Value),cs[j]?=some c→Vs[j]?=some V→VR F w G c V):VR F w G (.agg cs) (.agg Vs)
 | aq (cs:List I) (Vs:Array Value) (hl:cs.length=Vs.size)
   (hv:∀(j:Nat)(c:I)(V:Value),cs[j]?=some c→Vs[j]?=some V→VR F w G c V):VR F w G (.aq cs) (.tuple Vs)
structure GLe(w:World)(G:aH)(w':World)(G':aH):Prop where
 n:G.n≤G'.n
 loc:∀i,i<G.n→G'.loc i=G.loc i
 cap:∀i,i<G.n→G'.cap i=G.cap i
 fz:∀b o,G.fz b o→G'.fz b o
 cell:∀b o V,G.fz b o→w.cell? ⟨b,o,none⟩=some V→w'.cell? ⟨b,o,none⟩=some V
theorem GLe.refl(w:World)(G:aH):GLe w G w G:=⟨sl _,λ_ _=>rfl,λ_ _=>rfl,λ_ _ h=>h,λ_ _ _ _ h=>h⟩
theorem GLe.trans{a c d:aH}(h:GLe w1 a w2 c)(k:GLe w2 c w3 d):GLe w1 a w3 d:=
 ⟨xl h.n k.n,λi hi=>(k.loc i (AH hi h.n)).trans (h.loc i hi),
   λi hi=>(k.cap i (AH hi h.n)).trans (h.cap i hi),
   λb o hb=>k.fz b o (h.fz b o hb),λb o V hb hc=>k.cell b o V (h.fz b o hb) (h.cell b o V hb hc)⟩
theorem qu.mono{G G':aH}(a:GLe w G w' G'){b o c cap:Nat}{tk:Tok}(h:qu G b o c cap tk):qu G' b o c cap tk:=by
 cases tk with
 |nil=>exact h
 |full=>exact h
 |dead=>exact h
 | own t=>obtain⟨h1,d,e,f⟩:=h;exact⟨AH h1 a.n,(a.loc t h1).trans d,e,(a.cap t h1).trans f⟩
theorem VR.mono{F:cz}{G G':aH}(e:GLe w G w' G'){c:I}{V:Value}(h:VR F w G c V):VR F w' G' c V:=by
 induction h with
 |bot V=>exact .bot V
 |bool b=>exact .bool b
 |int k n=>exact .int k n
 |str s=>exact .str s
 |eJ=>exact .eJ
 |ptr id off h=>rw[←e.loc id h];exact .ptr id off (AH h e.n)
 |ae cells b o Vs h _ d=>exact .ae cells b o Vs (λj c g=>⟨e.fz _ _ (h j c g).1,e.cell _ _ _ (h j c g).1 (h j c g).2⟩) d
 |e5=>exact .e5
 |e6 a cap=>exact .e6 a cap
 |ak tk len cells b o cap Vs ht hle h _ d=>exact .ak tk len cells b o cap Vs (ht.mono e) hle (λj c g=>⟨e.fz _ _ (h j c g).1,e.cell _ _ _ (h j c g).1 (h j c g).2⟩) d
 | row id off len sz cap h hle hc=>rw[←e.loc id h];exact .row id off len sz cap (AH h e.n) hle (by rw[e.cap id h];exact hc)
 |map id h=>rw[←e.loc id h];exact .map id (AH h e.n)
 |fJ=>exact .fJ
 |fn key bE f Vs hk hf hl _ d=>exact .fn key bE f Vs hk hf hl d
 |ko key k bE f Vs hk hf hl _ d=>exact .ko key k bE f Vs hk hf hl d
 |gu=>exact .gu
 |iface t v V _ d=>exact .iface t v V d
 |gv=>exact .gv
 |agg cs Vs hl _ d=>exact .agg cs Vs hl d
 |aq cs Vs hl _ d=>exact .aq cs Vs hl d
def eY(F:cz)(w:World)(G:aH)(i:Nat):bM→Prop
 | .row cs=>∃C e,w.heap[G.loc i]?=some (.cells C e (0,0))∧C.size=G.cap i∧(∀j,¬G.fz (G.loc i) j) ∧
   ∀(j:Nat)(c:I),cs[j]?=some c→∃V,C[j]?=some V∧VR F w G c V
 | .tok k sz=>∃C e,w.heap[G.loc i]?=some (.cells C e (0,0))∧C.size=G.cap i*sz∧k≤C.size∧(∀j,k≤j→¬G.fz (G.loc i) j)
 | .map es=>∃(E:Array MapEntry) (clock:Nat),w.heap[G.loc i]?=some (.map E clock)∧E.size=es.length∧(∀j,¬G.fz (G.loc i) j) ∧
   ∀(j:Nat)(k v:I),es[j]?=some (k,v)→∃e,E[j]?=some e∧VR F w G k e.key∧VR F w G v e.val
 | .fU s pos=>w.heap[G.loc i]?=some (.stringIter ⟨s.toArray⟩ pos)∧∀j,¬G.fz (G.loc i) j
 | .h4 T used kn=>∃v,w.heap[G.loc i]?=some (.cells #[.pointer (if used=true then some ⟨G.loc i,0,none⟩else none),v] T (0,0))∧(∀j,¬G.fz (G.loc i) j) ∧
   ((kn=none∧v = .slice none 0 0)∨∃j n,kn=some (j,n)∧j<G.n∧v = .slice (some ⟨G.loc j,0,none⟩) n (G.cap j))
 | .kn U bs=>∃(C:Array Value) (z:Nat×Nat),w.heap[G.loc i]?=some (.cells C U z)∧C.size=G.cap i∧z.2≤bs.length∧bs.length≤G.cap i∧G.cap i≤maxLen∧(∀j,¬G.fz (G.loc i) j) ∧
   C.toList.take bs.length=bs.map λb=>AV .u8 b.toNat
 | .gone=>True
structure Rel(F:cz)(w:World)(G:aH)(H:Z):Prop where
 n:G.n=H.n
 over:∀i,H.n≤i→H.o i = .gone
 obj:∀i,eY F w G i (H.o i)
 eZ:∀i j,i≠j→(H.o i).live=true→(H.o j).live=true→G.loc i≠G.loc j
 ea:∀b o,G.fz b o→∃V,w.cell? ⟨b,o,none⟩=some V
structure Step(w:World)(G:aH)(H:Z)(w':World)(G':aH)(H':Z):Prop extends GLe w G w' G' where
 size:w.heap.size≤w'.heap.size
 os:w'.os=w.os
 tape:w'.tape=w.tape
 output:w'.output=w.output
 dr:w.drawn≤w'.drawn
 c9:∀k,k<w.heap.size→(∀i,(H.o i).live=true→G.loc i≠k)→w'.heap[k]?=w.heap[k]?
 owned:∀i,(H'.o i).live=true→G'.loc i<w.heap.size→∃j,(H.o j).live=true∧G.loc j=G'.loc i
 ez:∀b o,G'.fz b o→G.fz b o∨w.heap.size≤b∨∃i,(H.o i).live=true∧G.loc i=b
theorem Step.refl(w:World)(G:aH)(H:Z):Step w G H w G H:={GLe.refl w G with size:=sl _,os:=rfl,tape:=rfl,output:=rfl,dr:=sl _,c9:=λ_ _ _=>rfl,owned:=λi h _=>⟨i,h,rfl⟩,ez:=λ_ _ h=> .inl h}
theorem Step.trans{c d f:aH}{g H2 l:Z}(h:Step w1 c g w2 d H2)(k:Step w2 d H2 w3 f l):Step w1 c g w3 f l:=
 { h.toGLe.trans k.toGLe with
   size:=xl h.size k.size
   os:=k.os.trans h.os
   tape:=k.tape.trans h.tape
   output:=k.output.trans h.output
   dr:=xl h.dr k.dr
   c9:=λb hb hn=>by rw[k.c9 b (AH hb h.size) λi hi he=>?_,h.c9 b hb hn];subst he;obtain⟨j,a,e⟩:=h.owned i hi hb;exact hn j a e
   owned:=λi hi hb=>by obtain⟨j,a,e⟩:=k.owned i hi (AH hb h.size);rw[←e]at hb ⊢;exact h.owned j a hb
   ez :=λb o hf=>by
    rcases k.ez b o hf with hf|hb|⟨i,hi,e⟩
    ·exact h.ez b o hf
    ·exact .inr (.inl (xl h.size hb))
    · rcases KT b w1.heap.size with hb|hb
      · obtain⟨j,a,m⟩:=h.owned i hi (by rw[e];exact hb);exact .inr (.inr ⟨j,a,m.trans e⟩)
      ·exact .inr (.inl hb)}
def aK(F:cz)(w:World)(G:aH)(cs:List I)(Vs:Array Value):Prop:=cs.length=Vs.size∧∀(j:Nat)(c:I)(V:Value),cs[j]?=some c→Vs[j]?=some V→VR F w G c V
theorem aK.mono{F:cz}{G G':aH}(a:GLe w G w' G'){cs:List I}{Vs:Array Value}(h:aK F w G cs Vs):aK F w' G' cs Vs:=⟨h.1,λj c V hc b=>(h.2 j c V hc b).mono a⟩
abbrev J(z:Int):I:= .int .i64 z
abbrev D:I:= .int .i64 0
abbrev bY(z:Int):I:= .int .u64 z
abbrev P:I:= .bool false
abbrev br:I:= .bool true
abbrev aS:I:= .ak .nil 0 []
end Rb

namespace Rb
open Go
variable{key k:Nat}{want:Bool}
def Do{α:Type}(x:Option α)(K:α→Prop):Prop:=∃a,x=some a∧K a
def kq(op:BinOp)(k:IntKind)(a b:Int):Option Int:=
 let x:=TH k.bits a;let y:=TH k.bits b
 match op with
 | .and=>some (k.wrap (x &&& y).toNat)
 | .or=>some (k.wrap (x ||| y).toNat)
 | .xor=>some (k.wrap (x ^^^ y).toNat)
 | .andNot=>some (k.wrap (x &&& ~~~y).toNat)
 |_=>none
def cc(op:BinOp)(k:IntKind)(a:Int)(k':IntKind)(b:Int):Option I:=
 match op with
 | .shl=>if b<0 then none else some (.int k (k.wrap (a*2^(min b.toNat k.bits))))
 | .shr=>if b<0 then none else some (.int k (a.fdiv (2^(min b.toNat k.bits))))
 | .add=>if k=k' then some (.int k (k.wrap (a+b)))else none
 | .sub=>if k=k' then some (.int k (k.wrap (a-b)))else none
 | .mul=>if k=k' then some (.int k (k.wrap (a*b)))else none
 | .quo=>if k=k'∧b≠0 then some (.int k (k.wrap (a.tdiv b)))else none
 | .rem=>if k=k'∧b≠0 then some (.int k (a.tmod b))else none
 | .eql=>if k=k' then some (.bool (a==b))else none
 | .neq=>if k=k' then some (.bool (a != b))else none
 | .lss=>if k=k' then some (.bool (decide (a<b)))else none
 | .leq=>if k=k' then some (.bool (decide (a≤b)))else none
 | .gtr=>if k=k' then some (.bool (decide (a>b)))else none
 | .geq=>if k=k' then some (.bool (decide (a≥b)))else none
 |op=>if k=k' then(kq op k a b).map (.int k)else none
def CB(op:BinOp)(s t:List UInt8):Option I:=
 match op with
 | .add=>if s.length+t.length≤9223372036854775807 then some (.str (s++t))else none
 | .eql=>some (.bool (s==t))
 | .neq=>some (.bool !(s==t))
 | .lss=>some (.bool (XR s t))
 | .leq=>some (.bool (XR s t||s==t))
 | .gtr=>some (.bool !(XR s t||s==t))
 | .geq=>some (.bool !(XR s t))
 |_=>none
inductive NK where
 |p|s|m|f|i
 deriving DecidableEq
def I.isNil:NK→I→Option Bool
 | .p,.eJ=>some true
 | .p,.ptr _ _ | .p,.ae _=>some false
 | .s,.ak .nil _ _=>some true
 | .s,.row _ _ _ _ | .s,.ak .full _ (_::_) | .s,.ak (.own _) _ _ | .s,.ak .dead (_+1) _=>some false
 | .m,.fJ=>some true
 | .m,.map _=>some false
 | .f,.gu=>some true
 | .f,.fn _ _=>some false
 | .i,.gv=>some true
 | .i,.iface _ _=>some false
 |_,_=>none
inductive FK where
 |n|b|t
 deriving DecidableEq
def dA:List FK→List I→List I→Option Bool
 |[],[],[]=>some true
 | .n::ks,.int k a::r,.int k' b::t=>if k=k' then(dA ks r t).map (λx=>a==b&&x)else none
 | .b::ks,.bool a::r,.bool b::t=>(dA ks r t).map (λx=>a==b&&x)
 | .t::ks,.str a::r,.str b::t=>(dA ks r t).map (λx=>a==b&&x)
 |_,_,_=>none
def M(op:BinOp)(x y:I):Option I:=
 match x,y with
 | .int k a,.int k' b=>cc op k a k' b
 | .str s,.str t=>CB op s t
 |_,_=>none
def kQ(c:Bool)(x y:I):Option I:=
 match x,y with
 | .bool a,.bool b=>some (.bool (if c then !(a==b)else a==b))
 |_,_=>none
def mA(k:NK)(a:Bool)(x:I):Option I:=(x.isNil k).map λb=> .bool (if a then !b else b)
def ja(c:Bool)(ks:List FK)(x y:I):Option I:=
 match x,y with
 | .agg a,.agg b=>(dA ks a b).map λr=> .bool (if c then !r else r)
 |_,_=>none
def cY(op:UnOp)(x:I):Option I:=
 match op,x with
 | .not,.bool b=>some (.bool !b)
 | .neg,.int k n=>some (.int k (k.wrap (0-n)))
 | .xor,.int k n=>(kq .xor k (if k.signed then -1 else k.max) n).map (.int k)
 |_,_=>none
def e7(k:IntKind)(x:I):Option I:=
 match x with
 | .int _ n=>some (.int k (k.wrap n))
 |_=>none
def oA(x:I):Option I:=
 match x with
 | .str s=>some (.str s)
 |_=>none
def aZ(x:I):Option I:=
 match x with
 | .ptr i o=>some (.ptr i o)
 | .ae cs=>some (.ae cs)
 | .fn k cs=>some (.fn k cs)
 |_=>none
def bU(cs:List I)(o n:Nat)(agg:Bool):Option I:=if o+n≤cs.length then(if agg then some (.agg ((cs.drop o).take n))else cs[o]?)else none
def nj(a sz:Nat)(agg:Bool)(x:I):Option I:=
 match x with
 | .agg cs=>bU cs a sz agg
 |_=>none
def lU(a sz:Nat)(agg:Bool)(x i:I):Option I:=
 match x,i with
 | .agg cs,.int _ i=>if 0≤i∧i<a then bU cs (i.toNat*sz) sz agg else none
 |_,_=>none
def jS(x i:I):Option I:=
 match x,i with
 | .str s,.int _ i=>if 0≤i then(s[i.toNat]?).map λb=> .int .u8 b.toNat else none
 |_,_=>none
def W(a:Nat)(x:I):Option I:=
 match x with
 | .ptr i o=>some (.ptr i (o+a))
 | .ae cs=>some (.ae (cs.drop a))
 |_=>none
def aP(a:Option Nat)(sz:Nat)(x i:I):Option I:=
 match i with
 | .int _ i=>
  match a,x with
  |none,.ak _ len cells=>if 0≤i∧i<len then some (.ae (cells.drop (i.toNat*sz)))else none
  |none,.row id o len _=>if 0≤i∧i<len then some (.ptr id (o+i.toNat*sz))else none
  |some n,.ptr id o=>if 0≤i∧i<n then some (.ptr id (o+i.toNat*sz))else none
  |some n,.ae cells=>if 0≤i∧i<n then some (.ae (cells.drop (i.toNat*sz)))else none
  |_,_=>none
 |_=>none
def eo(x:Option I)(d:Nat):Option Nat:=
 match x with
 |none=>some d
 |some (.int _ i)=>if 0≤i then some i.toNat else none
 |_=>none
def oB(x:I)(lo hi:Option I):Option I:=
 match x with
 | .str s=>
  match eo hi s.length,eo lo 0 with
  |some h,some l=>if l≤h∧h≤s.length then some (.str ((s.take h).drop l))else none
  |_,_=>none
 |_=>none
def du(sz:Nat)(x:I)(lo hi mx:Option I):Option I:=
 match x with
 | .ak tk len cells=>
  match eo hi len,eo lo 0,mx.map λm=>eo (some m) 0 with
  | some h,some l,none=>
   if l≤h∧h≤len∧cells.length=len*sz then
    if l=0∧h=len then some (.ak tk len cells)
    else some (.ak (if l=0 then(match tk with | .own t=> .own t|_=> .dead)else .dead) (h-l) ((cells.take (h*sz)).drop (l*sz)))
   else none
  | some h,some l,some (some m)=>
   if l=h∧h=m∧m≤len then(match tk with | .nil=>some (.ak .nil 0 [])|_=>some (.ak .dead 0 []))
   else if l≤h∧h≤m∧m≤len∧cells.length=len*sz∧tk ≠ .nil∧l<m then some (.ak (if m=h then .full else .dead) (h-l) ((cells.take (h*sz)).drop (l*sz)))else none
  |_,_,_=>none
 | .row id o len a=>
  match eo hi len,eo lo 0,mx with
  | some h,some l,none=>if l≤h∧h≤len∧a=sz then(if l=0∨l<h then some (.row id (o+l*sz) (h-l) sz)else some (.ak .dead 0 []))else none
  |_,_,_=>none
 |_=>none
def Gd(v:I)(want:Bool)(A B:Prop):Prop:=
 match v with
 | .bool b=>if b=want then A else B
 |_=>False
def aQ(v:I)(want:Bool)(A B C:Prop):Prop:=
 match v with
 | .bool b=>if b=want then A else B
 | .aq []=>C
 |_=>False
def I.wanted(v:I)(want:Bool):Option Bool:=
 match v with
 | .bool b=>some (b==want)
 | .aq []=>some false
 |_=>none
theorem I.x3{v:I}(h:v.wanted want=some true):v = .bool want:=by
 unfold I.wanted at h;split at h
 ·simp at h;rw[h]
 ·cases h
 ·cases h
theorem I.CC{v:I}(h:v.wanted want=some false):v = .bool (!want)∨v = .aq []:=by
 unfold I.wanted at h;split at h
 · rename_i b;left;cases b<;>cases want<;>simp_all
 ·exact .inr rfl
 ·cases h
@[simp] theorem I.Xk (want:Bool):(I.bool want).wanted want=some true:=by simp[I.wanted]
@[simp] theorem I.Xl (want:Bool):(I.bool (!want)).wanted want=some false:=by cases want<;>rfl
@[simp] theorem I.Xm (want:Bool):(I.aq []).wanted want=some false:=rfl
def bj(i:Nat)(x:I):Option I:=
 match x with
 | .aq vs=>vs[i]?
 |_=>none
def setCells(cs:List I)(o:Nat):List I→List I
 |[]=>cs
 |v::r=>setCells (cs.set o v) (o+1) r
def I.known:I→Bool
 | .bot | .aq _=>false
 |_=>true
def iD(cs:List I):List (Nat×Nat×I)→Option (List I)
 |[]=>some cs
 |(off,sz,v)::r=>if v.known∧v.cells.length=sz∧off+sz≤cs.length then iD (setCells cs off v.cells) r else none
def bo(a:List I)(b:List (Nat×Nat×I)):Option I:=(iD a b).map .agg
def bp(str:Bool)(x:I):Option I:=
 match str,x with
 |true,.str s=>some (.int .i64 s.length)
 |false,.ak _ len _=>some (.int .i64 len)
 |false,.row _ _ len _=>some (.int .i64 len)
 |_,_=>none
def qv(mx:Bool)(x y:I):Option I:=
 match x,y with
 | .int k a,.int _ b=>some (.int k (if mx then(if b>a then b else a)else(if b<a then b else a)))
 |_,_=>none
def nk(mx:Bool)(x:I):List I→Option I
 |[]=>some x
 |y::r=>match qv mx x y with|some z=>nk mx z r|none=>none
def fy(mx:Bool)(xs:List I):Option I:=
 match xs with
 | .int k a::r=>nk mx (.int k a) r
 |_=>none
def O(H:Z)(n:Nat)(a:Bool)(x:I):Option I:=
 match x with
 | .ptr id o=>match H.o id with | .row cs=>bU cs o n a|_=>none
 | .ae cs=>bU cs 0 n a
 |_=>none
def Y(H:Z)(n:Nat)(x v:I):Option Z:=
 match x with
 | .ptr id o=>
  match H.o id with
  | .row cs=>if v.known∧v.cells.length=n∧v.cells.all I.scalar∧o+n≤cs.length then some (H.set id (.row (setCells cs o v.cells)))else none
  |_=>none
 |_=>none
def aL(H:Z)(mu:Bool)(cells:List I):I×Z:=if mu then(.ptr H.n 0,H.push (.row cells))else(.ae cells,H)
def aO(H:Z)(mu:Bool)(n:Nat)(v:I):Option (I×Z):=if v.known∧v.cells.length=n then some (aL H mu v.cells)else none
def dk(H:Z)(mu:Bool)(sz a:Nat)(b:List I)(c:List (Nat×Nat×I)):Option (I×Z):=
 (iD (XS a b).flatten c).map λcells=>if mu then(.row H.n 0 a sz,H.push (.row cells))else(.ak .full a cells,H)
def fi(H:Z)(sz:Nat)(x:I):Option (Nat×List I):=
 match x with
 | .ak _ len cells=>if cells.length=len*sz then some (len,cells)else none
 | .row id o len _=>match H.o id with | .row cs=>if o+len*sz≤cs.length then some (len,(cs.drop o).take (len*sz))else none|_=>none
 |_=>none
def cr(H:Z)(mu:Bool)(sz b:Nat)(x y:I):Option (I×Z):=
 match fi H sz y with
 |none=>none
 | some (m,news)=>
  if ¬news.all I.scalar then none else
  match x with
  | .ak tk len cells=>
   if m=0 then some (.ak tk len cells,H)
   else if ¬(cells.length=len*sz∧(len+m)*b≤140737488355328∧len+m≤9223372036854775807)then none
   else match tk,mu with
   | .nil,true | .full,true=>some (.row H.n 0 (len+m) sz,H.push (.row (cells++news)))
   | .nil,false | .full,false=>some (.ak (.own H.n) (len+m) (cells++news),H.push (.tok ((len+m)*sz) sz))
   | .own t,_=>match H.o t with
    | .tok k a=>if k=len*sz∧a=sz then some (.ak (.own H.n) (len+m) (cells++news),(H.set t .gone).push (.tok ((len+m)*sz) sz))else none
    |_=>none
   | .dead,_=>none
  | .row id o len a=>
   match H.o id with
   | .row cs=>
    if m=0 then some (.row id o len a,H)
    else if ¬(o=0∧a=sz∧(len+m)*b≤140737488355328∧len+m≤9223372036854775807)then none
    else if(len+m)*sz≤cs.length then some (.row id 0 (len+m) sz,H.set id (.row (setCells cs (len*sz) news)))
    else if cs.length=len*sz then some (.row H.n 0 (len+m) sz,(H.set id .gone).push (.row (cs++news)))
    else none
   |_=>none
  |_=>none
def byteCells(s:List UInt8):List I:=s.map λb=> .int .u8 b.toNat
def oC:List I→Option (List UInt8)
 |[]=>some []
 | .int .u8 n::r=>(oC r).map λs=>XT n.toNat::s
 |_=>none
def oD(x:I):Option I:=
 match x with
 | .str s=>some (.ak .dead s.length (byteCells s))
 |_=>none
def abstr(H:Z)(x:I):Option I:=
 match fi H 1 x with
 |some (_,cells)=>(oC cells).map .str
 |none=>none
def nn(H:Z)(x:I):Option (I×Z):=
 match x with
 | .str s=>some (.ptr H.n 0,H.push (.fU s 0))
 |_=>none
def kR(H:Z)(x:I):Option (I×Z):=
 match x with
 | .ptr id 0=>
  match H.o id with
  | .fU s pos=>
   if pos<s.length then
    let d:=XU ⟨s.toArray⟩ pos
    some (.aq [.bool true,.int .i64 pos,.int .i32 d.1],H.set id (.fU s (pos+d.2)))
   else some (.aq [.bool false],H)
  |_=>none
 |_=>none
def kr(H:Z)(mu:Bool)(sz b:Nat)(a:List I)(d cap:I):Option (I×Z):=
 match d,cap with
 | .int .i64 n,.int .i64 c=>
  if 0≤n∧n≤c∧b*c≤281474976710656∧c≤9223372036854775807∧a.length=sz then
   if mu then some (.row H.n 0 n.toNat sz,H.push (.row (XS c.toNat a).flatten))
   else if n=c then some (.ak .full n.toNat (XS n.toNat a).flatten,H)else none
  else none
 |_,_=>none
def qw(H:Z)(sz:Nat)(x y:I):Option (I×Z):=
 match x,fi H sz y with
 | .row id o len _,some (m,news)=>
  match H.o id with
  | .row cs=>
   let n:=min m len
   if news.all I.scalar∧o+n*sz≤cs.length then some (.int .i64 n,H.set id (.row (setCells cs o (news.take (n*sz)))))else none
  |_=>none
 |_,_=>none
def oE(kk:FK):I→I→Option Bool
 | .int k a,.int k' b=>if kk = .n∧k=k' then some (a==b)else none
 | .str s,.str t=>if kk = .t then some (s==t)else none
 | .bool a,.bool b=>if kk = .b then some (a==b)else none
 |_,_=>none
def iE(kk:FK)(k:I):List (I×I)→Nat→Option (Option (Nat×I))
 |[],_=>some none
 | e::es,i=>
  match oE kk k e.1 with
  |some true=>some (some (i,e.2))
  |some false=>iE kk k es (i+1)
  |none=>none
def plainKey(kk:FK):I→Bool
 | .int _ _=>kk == .n
 | .str _=>kk == .t
 | .bool _=>kk == .b
 |_=>false
def qx(a:Bool)(v:I)(b:Bool):I:=if a then .aq [v,.bool b]else v
def kS(H:Z)(kk:FK)(b:I)(a:Bool)(m k:I):Option I:=
 match m with
 | .fJ=>if plainKey kk k then some (qx a b false)else none
 | .map id=>
  match H.o id with
  | .map es=>if plainKey kk k then(iE kk k es 0).map λr=>(match r with|some (_,v)=>qx a v true|none=>qx a b false)else none
  |_=>none
 |_=>none
def qy(H:Z)(kk:FK)(m k v:I):Option Z:=
 match m with
 | .map id=>
  match H.o id with
  | .map es=>if plainKey kk k∧v.known then(iE kk k es 0).map λr=>(match r with
      |some (i,_)=>H.set id (.map (es.set i (k,v)))
      |none=>H.set id (.map (es++[(k,v)])))else none
  |_=>none
 |_=>none
def qz(H:Z)(kk:FK)(m k:I):Option Z:=
 match m with
 | .map id=>
  match H.o id with
  | .map es=>if plainKey kk k then(iE kk k es 0).map λr=>(match r with
      |some (i,_)=>H.set id (.map (es.eraseIdx i))
      |none=>H)else none
  |_=>none
 |_=>none
def kT(H:Z)(m:I):Option I:=
 match m with
 | .fJ=>some (.int .i64 0)
 | .map id=>match H.o id with | .map es=>some (.int .i64 es.length)|_=>none
 |_=>none
def gP(o:Nat→bM):List I→Option (List I×Nat)
 |[]=>none
 | .row id off len sz::r=>match o id with
  | .row cs=>if off+len*sz≤cs.length then some (.ak .dead len ((cs.drop off).take (len*sz))::r,id)else none
  |_=>none
 |c::r=>(gP o r).map λq=>(c::q.1,q.2)
def jT(H:Z)(x:I):Option (I×Z):=
 match x with
 | .row id o len sz=>
  match H.o id with
  | .row cs=>if o+len*sz≤cs.length then some (.ak .dead len ((cs.drop o).take (len*sz)),H.set id .gone)else none
  |_=>none
 | .ptr id o=>
  match H.o id with
  | .row cs=>match gP H.o cs with
   |some (l,a)=>if a=id then none else some (.ptr id o,(H.set a .gone).set id (.row l))
   |none=>some (.ae (cs.drop o),H.set id .gone)
  |_=>none
 | .ak tk len cells=>some (.ak tk len cells,H)
 | .ae cs=>some (.ae cs,H)
 | .agg cells=>match gP H.o cells with
  |some (l,id)=>some (.agg l,H.set id .gone)
  |none=>some (.agg cells,H)
 |_=>none
inductive aW where
 |t (n:Nat)
 |k (v:I)
abbrev Env:=List I
def aW.ev(a:Env):aW→I
 | .t n=>a.getD n .bot
 | .k v=>v
def qA(x:I):Option I:=
 match x with
 | .ak .nil 0 []=>some (.int .i64 0)
 |_=>none
inductive Ext where
 |oF (t:TypeId)
 |mB (neg:Bool)
 |clear (sz:Nat) (zero:List I)
 |grow (sz bytes:Nat) (zero:List I)
 |ku (T:TypeId)
 |stuck
def eh(H:Z)(e:Ext)(xs:List I):Option (I×Z):=
 match e,xs with
 | .oF t,[.iface t' v]=>if t'=t then some (v,H)else none
 | .mB neg,[.ptr i o,.ptr j p]=>
  match H.o i,H.o j with
  | .row _,.row _=>if i=j then some (.bool (if neg then !(o==p)else o==p),H)else some (.bool neg,H)
  |_,_=>none
 | .clear sz zero,[.row id o len z]=>
  if len=0 then some (.aq [],H)else
  match H.o id with
  | .row cs=>if zero.all I.scalar∧zero.length=sz∧o+len*sz≤cs.length then some (.aq [],H.set id (.row (setCells cs o (XS len zero).flatten)))else none
  |_=>none
 | .clear _ _,[.ak _ 0 _]=>some (.aq [],H)
 | .grow sz bytes zero,[.ak .nil 0 [],.int .i64 n]=>if 0<n∧n.toNat*bytes≤281474976710656∧n≤9223372036854775807∧zero.length=sz∧0<sz then some (.row H.n 0 n.toNat sz,H.push (.row (XS n.toNat zero).flatten))else none
 | .ku T,[]=>some (.ptr H.n 0,H.push (.h4 T false none))
 | .ku T,[.agg [.eJ,.ak .nil 0 []]]=>some (.ptr H.n 0,H.push (.h4 T false none))
 |_,_=>none
def qB:List (TypeId×Nat×Option (Nat×Bool))→TypeId→Option (Nat×Option (Nat×Bool))
 |[],_=>none
 |(t',r)::l,t=>if t'=t then some r else qB l t
def qC(H:Z)(m:Option (Nat×Bool))(v:I):Option I:=
 match m with
 |none=>some v
 |some (n,agg)=>O H n agg v
inductive dQ where
 |mv (x:aW)
 |pick (c a b:aW)
 |bin (op:BinOp) (x y:aW)
 |beq (neg:Bool) (x y:aW)
 |jx (k:NK) (neg:Bool) (x:aW)
 |iF (neg:Bool) (ks:List FK) (x y:aW)
 |un (op:UnOp) (x:aW)
 |conv (k:IntKind) (x:aW)
 |same (x:aW)
 |jU (x:aW)
 |field (off sz:Nat) (agg:Bool) (x:aW)
 |idx (len sz:Nat) (agg:Bool) (x i:aW)
 |idxs (x i:aW)
 |gI (off:Nat) (x:aW)
 |fV (arr:Option Nat) (sz:Nat) (x i:aW)
 |slice (sz:Nat) (x:aW) (lo hi mx:Option aW)
 |jV (x:aW) (lo hi:Option aW)
 |hq (t:TypeId) (x:aW)
 |gQ (key:Nat) (bE:List aW)
 |extract (i:Nat) (x:aW)
 |build (zero:List I) (parts:List (Nat×Nat×aW))
 |len (str:Bool) (x:aW)
 |hr (n:Nat)
 |hx (mx:Bool) (xs:List aW)
 |load (n:Nat) (agg:Bool) (x:aW)
 |store (n:Nat) (x v:aW)
 |box (mu:Bool) (n:Nat) (x:aW)
 |alloc (mu:Bool) (zero:List I)
 |gJ (mu:Bool) (sz len:Nat) (zero:List I) (parts:List (Nat×Nat×aW))
 |append (mu:Bool) (sz bytes:Nat) (x y:aW)
 |make (mu:Bool) (sz bytes:Nat) (zero:List I) (len cap:aW)
 |copy (sz:Nat) (x y:aW)
 |gR
 |lookup (kk:FK) (zero:I) (ok:Bool) (m k:aW)
 |hy (kk:FK) (m k v:aW)
 |delete (kk:FK) (m k:aW)
 |hC (m:aW)
 |jW (x:aW)
 |hD (x:aW)
 |h5 (x:aW)
 |h6 (x:aW)
 |call (key:Nat) (args:List aW)
 |h7 (f:aW) (args:List aW)
 |ext (e:Ext) (xs:List aW)
 |cap (x:aW)
 |inv (hE:List (TypeId×Nat×Option (Nat×Bool))) (x:aW) (args:List aW)
structure bz where
 dst:Option Nat
 op:dQ
 guard:Option (Nat×Bool)
def eb(a:Env)(xs:List aW):List I:=xs.map (aW.ev a)
def fK(a:Env)(xs:List (Nat×Nat×aW)):List (Nat×Nat×I):=xs.map λp=>(p.1,p.2.1,p.2.2.ev a)
abbrev ad:=I→Z→Prop
abbrev ai:=Nat→List I→Z→ad→Prop
def ar(x:Option (I×Z))(K:ad):Prop:=∃v H,x=some (v,H)∧K v H
def iG(key:Nat):Nat:=match fS key with|some k=>k|none=>key
def iH(key:Nat)(args bE:List I):List I:=match fS key with|some _=>bE++args|none=>args++bE
theorem qD(h:fS key=none):iG key=key:=by unfold iG;rw[h]
theorem Lo(h:fS key=some k):iG key=k:=by unfold iG;rw[h]
theorem qE(h:fS key=none)(args bE:List I):iH key args bE=args++bE:=by unfold iH;rw[h]
theorem Lp(h:fS key=some k)(args bE:List I):iH key args bE=bE++args:=by unfold iH;rw[h]
def bX(Φ:ai)(d:Env)(H:Z)(K:ad):dQ→Prop
 | .mv x=>K (x.ev d) H
 | .pick c a b=>Gd (c.ev d) true (K (a.ev d) H) (K (b.ev d) H)
 | .bin op x y=>Do (M op (x.ev d) (y.ev d)) λv=>K v H
 | .beq neg x y=>Do (kQ neg (x.ev d) (y.ev d)) λv=>K v H
 | .jx k neg x=>Do (mA k neg (x.ev d)) λv=>K v H
 | .iF neg ks x y=>Do (ja neg ks (x.ev d) (y.ev d)) λv=>K v H
 | .un op x=>Do (cY op (x.ev d)) λv=>K v H
 | .conv k x=>Do (e7 k (x.ev d)) λv=>K v H
 | .same x=>Do (oA (x.ev d)) λv=>K v H
 | .jU x=>Do (aZ (x.ev d)) λv=>K v H
 | .field off sz agg x=>Do (nj off sz agg (x.ev d)) λv=>K v H
 | .idx len sz agg x i=>Do (lU len sz agg (x.ev d) (i.ev d)) λv=>K v H
 | .idxs x i=>Do (jS (x.ev d) (i.ev d)) λv=>K v H
 | .gI off x=>Do (W off (x.ev d)) λv=>K v H
 | .fV arr sz x i=>Do (aP arr sz (x.ev d) (i.ev d)) λv=>K v H
 | .slice sz x lo hi mx=>Do (du sz (x.ev d) (lo.map (aW.ev d)) (hi.map (aW.ev d)) (mx.map (aW.ev d))) λv=>K v H
 | .jV x lo hi=>Do (oB (x.ev d) (lo.map (aW.ev d)) (hi.map (aW.ev d))) λv=>K v H
 | .hq t x=>K (.iface t (x.ev d)) H
 | .gQ key bE=>K (.fn key (eb d bE)) H
 | .extract i x=>Do (bj i (x.ev d)) λv=>K v H
 | .build zero parts=>Do (bo zero (fK d parts)) λv=>K v H
 | .len str x=>Do (bp str (x.ev d)) λv=>K v H
 | .hr n=>K (.int .i64 n) H
 | .hx mx xs=>Do (fy mx (eb d xs)) λv=>K v H
 | .load n agg x=>Do (O H n agg (x.ev d)) λv=>K v H
 | .store n x v=>Do (Y H n (x.ev d) (v.ev d)) λH=>K (.aq []) H
 | .box mu n x=>ar (aO H mu n (x.ev d)) K
 | .alloc mu zero=>ar (some (aL H mu zero)) K
 | .gJ mu sz len zero parts=>ar (dk H mu sz len zero (fK d parts)) K
 | .append mu sz bytes x y=>ar (cr H mu sz bytes (x.ev d) (y.ev d)) K
 | .make mu sz bytes zero len cap=>ar (kr H mu sz bytes zero (len.ev d) (cap.ev d)) K
 | .copy sz x y=>ar (qw H sz (x.ev d) (y.ev d)) K
 | .gR=>K (.map H.n) (H.push (.map []))
 | .lookup kk zero ok m k=>Do (kS H kk zero ok (m.ev d) (k.ev d)) λv=>K v H
 | .hy kk m k v=>Do (qy H kk (m.ev d) (k.ev d) (v.ev d)) λH=>K (.aq []) H
 | .delete kk m k=>Do (qz H kk (m.ev d) (k.ev d)) λH=>K (.aq []) H
 | .hC m=>Do (kT H (m.ev d)) λv=>K v H
 | .jW x=>Do (oD (x.ev d)) λv=>K v H
 | .hD x=>Do (abstr H (x.ev d)) λv=>K v H
 | .h5 x=>ar (nn H (x.ev d)) K
 | .h6 x=>ar (kR H (x.ev d)) K
 | .call key args=>Φ key (eb d args) H K
 | .h7 f args=>∃key bE,f.ev d = .fn key bE∧Φ (iG key) (iH key (eb d args) bE) H K
 | .ext e xs=>ar (eh H e (eb d xs)) K
 | .cap x=>Do (qA (x.ev d)) λv=>K v H
 | .inv hE x args=>∃t v r u,x.ev d = .iface t v∧qB hE t=some r∧qC H r.2 v=some u∧Φ r.1 (u::eb d args) H K
def bQ(a:Env)(d:Option Nat)(v:I):Env:=
 match d with
 |some t=>a.set t v
 |none=>a
def h8(Φ:ai):List bz→Env→Z→(Env→Z→Prop)→Prop
 |[],env,H,K=>K env H
 | o :: r,env,H,K=>
  match o.guard with
  |none=>bX Φ env H (λv H'=>h8 Φ r (bQ env o.dst v) H' K) o.op
  | some (s,want)=>
   aQ (env.getD s .bot) want (bX Φ (env.set s (.bool want)) H (λv H'=>h8 Φ r (bQ (env.set s (.bool want)) o.dst v) H' K) o.op)
    (h8 Φ r (bQ (env.set s (.bool !want)) o.dst (.aq [])) H K) (h8 Φ r (bQ (env.set s (.aq [])) o.dst (.aq [])) H K)
def oG(a:Env)(H:Z)(o:bz):Prop:=
 match o.op with
 | .load n agg x=>O H n agg (x.ev a)=some (a.getD (o.dst.getD 0) .bot)
 | .lookup kk zero ok m k=>kS H kk zero ok (m.ev a) (k.ev a)=some (a.getD (o.dst.getD 0) .bot)
 | .hC m=>kT H (m.ev a)=some (a.getD (o.dst.getD 0) .bot)
 | .hD x=>abstr H (x.ev a)=some (a.getD (o.dst.getD 0) .bot)
 |_=>True
def qF(a:Env)(H:Z)(o:bz):Prop:=
 match o.guard with
 |none=>oG a H o
 |some (s,want)=>a.getD s .bot = .bool want→oG a H o
def fW(ops:List bz)(a:Env)(H:Z)(X:Prop):List Nat→Prop
 |[]=>X
 |l::r=>(match ops[l]? with|some o=>qF a H o|none=>True)∧fW ops a H X r
def jy(Φ:ai)(o:bz)(a:Env)(H:Z)(K:Env→Z→Prop):Prop:=
 match o.guard with
 |none=>bX Φ a H (λv H'=>K (bQ a o.dst v) H') o.op
 | some (s,want)=>
  aQ (a.getD s .bot) want (bX Φ (a.set s (.bool want)) H (λv H'=>K (bQ (a.set s (.bool want)) o.dst v) H') o.op)
   (K (bQ (a.set s (.bool !want)) o.dst (.aq [])) H) (K (bQ (a.set s (.aq [])) o.dst (.aq [])) H)
def kU(Φ:ai)(ops:List bz):List Nat→Env→Z→(Env→Z→Prop)→Prop
 |[],env,H,K=>K env H
 | i::r,env,H,K=>match ops[i]? with
  |some o=>jy Φ o env H λaA H'=>kU Φ ops r aA H' K
  |none=>False
def jb(Φ:ai)(ops:List bz)(a:List Nat):List (List Nat×Nat×List Nat)→Env→Z→(Env→Z→Prop)→Prop
 |[],env,H,K=>kU Φ ops a env H K
 | (c,e,st)::r,env,H,K=>kU Φ ops c env H λb H1=>match ops[e]? with
  |some o=>jy Φ o b H1 λd H2=>fW ops b H2 (jb Φ ops a r d H2 K) st
  |none=>False
inductive c6 where
 |skip
 |region (ops:List bz)
 |draw (ops:List bz) (pr:List (List Nat)) (bh:List (List Nat×Nat×List Nat)) (last:List Nat)
 |seq (a b:c6)
 |join (vs ks:List Nat) (a b:c6)
 |cond (x:aW) (a b:c6)
 |block (id:Nat) (a:c6)
 |loop (vs ks:List Nat) (a:c6)
 |exit (id:Nat)
 |ret
 |freeze (t:Nat) (a:c6)
 |gw (vs ks:List Nat) (ops:List bz) (b:c6)
inductive fj where
 |normal
 |exit (id:Nat)
 |ret
def ep(a:Env)(vs:List Nat):List I:=vs.map λt=>a.getD t .bot
def e2(a:Env):List Nat→Env
 |[]=>a
 |t::r=>e2 (a.set t .bot) r
def h_(a:Env):List Nat→List I→Env
 |t::r,s=>h_ (a.set t (s.headD .bot)) r s.tail
 |[],_=>a
def G(s:List I):Nat→I
 |0=>s.headD .bot
 |i+1=>G s.tail i
def aC{a:Type}(F:a→(a→Prop)→Prop)(s:a):Prop:=∀b:a→Prop,(∀s K,F s K→(∀t,K t→b t)→b s)→b s
theorem aC.step{a:Type}{F:a→(a→Prop)→Prop}{s:a}(h:F s (aC F)):aC F s:=λc b=>b s _ h λ_ ht=>ht c b
def N(K:List I→Z→Prop)(a:List I)(H:Z):Prop:=K a H
def cp(Φ:ai):c6→Env→Z→(fj→Env→Z→Prop)→Prop
 | .skip,env,H,Q=>Q .normal env H
 | .region ops,env,H,Q=>h8 Φ ops env H (Q .normal)
 | .draw ops _ bh last,env,H,Q=>jb Φ ops last bh env H (Q .normal)
 | .seq a b,env,H,Q=>cp Φ a env H λe aA H'=>match e with
  | .normal=>cp Φ b aA H' Q
  |e=>Q e aA H'
 | .join vs ks a b,env,H,Q=>cp Φ a env H λe aA H'=>match e with
  | .normal=>N (λst c=>cp Φ b (h_ (e2 env ks) vs st) c Q) (ep aA vs) H'
  |e=>Q e aA H'
 | .cond x a b,env,H,Q=>Gd (x.ev env) true (cp Φ a env H Q) (cp Φ b env H Q)
 | .block id a,env,H,Q=>cp Φ a env H λe aA H'=>match e with
  | .exit d=>if d=id then Q .normal aA H' else Q (.exit d) aA H'
  |e=>Q e aA H'
 | .loop vs ks a,env,H,Q=>
  aC (λ(s:List I×Z) (K:List I×Z→Prop)=>
    cp Φ a (h_ (e2 env ks) vs s.1) s.2 λe aA H'=>match e with
     | .normal=>K (ep aA vs,H')
     |e=>Q e aA H') (ep env vs,H)
 | .exit id,env,H,Q=>Q (.exit id) env H
 | .ret,env,H,Q=>Q .ret env H
 | .freeze t a,env,H,Q=>ar (jT H (env.getD t .bot)) λv H'=>cp Φ a (env.set t v) H' Q
 | .gw vs ks ops b,env,H,Q=>h8 Φ ops env H λaA H'=>N (λst c=>cp Φ b (h_ (e2 env ks) vs st) c Q) (ep aA vs) H'
inductive jz where
 |tmp (t:Nat)
 |cell (t n:Nat) (agg:Bool)
def kV(a:Env)(H:Z):List jz→(List I→Prop)→Prop
 |[],K=>K []
 | .tmp t::r,K=>kV a H r λvs=>K (a.getD t .bot::vs)
 | .cell t n agg::r,K=>Do (O H n agg (a.getD t .bot)) λv=>kV a H r λvs=>K (v::vs)
structure aY where
 ntmps:Nat
 results:List jz
 body:c6
def mC:List I→I
 |[v]=>v
 |vs=> .aq vs
def oH(Φ:ai)(f:aY)(args:List I)(H:Z)(Q:ad):Prop:=
 cp Φ f.body (args++XS (f.ntmps-args.length) .bot) H λe env H'=>match e with
  | .exit _=>False
  |_=>kV env H' f.results λvs=>Q (mC vs) H'
end Rb

namespace Rb
open Go
variable{H:Z}{K:ad}{v:I}{want:Bool}{A B X:Prop}{env:Env}
def kW(Φ:ai):Prop:=∀(key:Nat)(args:List I)(H:Z)(Q:ad),Φ key args H Q→∃v H',Q v H'
theorem Do.nv{α:Type}{x:Option α}{K:α→Prop}(h:Do x K):∃a,K a:=by obtain⟨a,_,h⟩:=h;exact⟨a,h⟩
theorem ar.nv{x:Option (I×Z)}(h:ar x K):∃v H,K v H:=by obtain⟨a,H,_,h⟩:=h;exact⟨a,H,h⟩
theorem Gd.nv(hA:A→X)(hB:B→X)(h:Gd v want A B):X:=by
 unfold Gd at h;split at h
 · split at h
   ·exact hA h
   ·exact hB h
 ·exact h.elim
theorem aQ.nv{A B D X:Prop}(hA:A→X)(hB:B→X)(a:D→X)(h:aQ v want A B D):X:=by
 unfold aQ at h;split at h
 · split at h
   ·exact hA h
   ·exact hB h
 ·exact a h
 ·exact h.elim
section
variable{Φ:ai}
theorem sS(a:kW Φ){op:dQ}(h:bX Φ env H K op):∃v H',K v H':=by
 cases op with
 |mv x=>exact⟨_,_,h⟩
 |pick c x y=>exact Gd.nv (λh=>⟨_,_,h⟩) (λh=>⟨_,_,h⟩) h
 |hq t x=>exact⟨_,_,h⟩
 |gQ key bE=>exact⟨_,_,h⟩
 |hr n=>exact⟨_,_,h⟩
 |box mu n x=>exact ar.nv h
 |alloc mu zero=>exact ar.nv h
 |gJ=>exact ar.nv h
 |append=>exact ar.nv h
 |make=>exact ar.nv h
 |copy=>exact ar.nv h
 |gR=>exact⟨_,_,h⟩
 |h5=>exact ar.nv h
 |h6=>exact ar.nv h
 |call key args=>exact a _ _ _ _ h
 |h7 f args=>obtain⟨key,bE,h1,b⟩:=h;exact a _ _ _ _ b
 |ext=>exact ar.nv h
 |inv hE x args=>obtain⟨t,v,r,u,h1,b,e,d⟩:=h;exact a _ _ _ _ d
 |store=>obtain⟨H',h⟩:=Do.nv h;exact⟨_,_,h⟩
 |hy=>obtain⟨H',h⟩:=Do.nv h;exact⟨_,_,h⟩
 |delete=>obtain⟨H',h⟩:=Do.nv h;exact⟨_,_,h⟩
 |_=>obtain⟨v,h⟩:=Do.nv h;exact⟨_,_,h⟩
theorem CE(a:kW Φ){o:bz}{K:Env→Z→Prop}(h:jy Φ o env H K):∃aA H',K aA H':=by
 unfold jy at h;split at h
 ·obtain⟨v,H',h⟩:=sS a h;exact⟨_,_,h⟩
 · refine aQ.nv (λh=>?_) (λh=>⟨_,_,h⟩) (λh=>⟨_,_,h⟩) h;obtain⟨v,H',h⟩:=sS a h;exact⟨_,_,h⟩
theorem oI(a:kW Φ):∀(l:List bz){env:Env}{H:Z}{K:Env→Z→Prop},h8 Φ l env H K→∃aA H',K aA H'
 |[],_,_,_,h=>⟨_,_,h⟩
 | o :: r,env,H,K,h=>by
  unfold h8 at h;split at h
  ·obtain⟨v,H',h⟩:=sS a h;exact oI a r h
  · refine aQ.nv (λh=>?_) (λh=>oI a r h) (λh=>oI a r h) h;obtain⟨v,H',h⟩:=sS a h;exact oI a r h
theorem x4(a:kW Φ){ops:List bz}:∀(l:List Nat){env:Env}{H:Z}{K:Env→Z→Prop},kU Φ ops l env H K→∃aA H',K aA H'
 |[],_,_,_,h=>⟨_,_,h⟩
 | i::r,env,H,K,h=>by
  unfold kU at h;split at h
  ·obtain⟨aA,H',h⟩:=CE a h;exact x4 a r h
  ·exact h.elim
theorem CG{ops:List bz}{env:Env}{H:Z}{X:Prop}:∀(l:List Nat),fW ops env H X l→X
 |[],h=>h
 |_::r,h=>CG r h.2
theorem CH(a:kW Φ){ops:List bz}{b:List Nat}:∀(l:List (List Nat×Nat×List Nat)) {env:Env} {H:Z} {K:Env→Z→Prop},jb Φ ops b l env H K→∃aA H',K aA H'
 |[],env,H,K,h=>x4 a b h
 | (c,e,st)::r,env,H,K,h=>by
  unfold jb at h;obtain⟨d,H1,h⟩:=x4 a c h;split at h
  ·obtain⟨f,H2,h⟩:=CE a h;exact CH a r (CG st h)
  ·exact h.elim
theorem Lq(j:kW Φ):∀(c:c6){env:Env}{H:Z}{Q:fj→Env→Z→Prop},cp Φ c env H Q→∃e aA H',Q e aA H':=by
 intro c;induction c with
 |skip=>intro env H Q h;exact⟨_,_,_,h⟩
 |region ops=>intro env H Q h;obtain⟨e,H',h⟩:=oI j ops h;exact⟨_,_,_,h⟩
 |draw ops pr bh last=>intro env H Q h;obtain⟨e,H',h⟩:=CH j bh h;exact⟨_,_,_,h⟩
 | seq a b f g=>
  intro env H Q h;obtain⟨e,aA,H',h⟩:=f h;cases e with
  |normal=>exact g h
  |exit i=>exact⟨_,_,_,h⟩
  |ret=>exact⟨_,_,_,h⟩
 | join vs ks a b f g=>
  intro env H Q h;obtain⟨e,aA,H',h⟩:=f h;cases e with
  |normal=>exact g h
  |exit i=>exact⟨_,_,_,h⟩
  |ret=>exact⟨_,_,_,h⟩
 |cond x a b f g=>intro env H Q h;exact Gd.nv (λh=>f h) (λh=>g h) h
 | block id a d=>
  intro env H Q h;obtain⟨e,aA,H',h⟩:=d h;cases e with
  |normal=>exact⟨_,_,_,h⟩
  | exit i=>
   dsimp only at h;split at h
   ·exact⟨_,_,_,h⟩
   ·exact⟨_,_,_,h⟩
  |ret=>exact⟨_,_,_,h⟩
 | loop vs ks a d=>
  intro env H Q h;refine h (λ_=>∃e aA H',Q e aA H') λs K hs k=>?_;obtain⟨e,aA,H',h⟩:=d hs;cases e with
  |normal=>exact k _ h
  |exit i=>exact⟨_,_,_,h⟩
  |ret=>exact⟨_,_,_,h⟩
 |exit id=>intro env H Q h;exact⟨_,_,_,h⟩
 |ret=>intro env H Q h;exact⟨_,_,_,h⟩
 |freeze t a d=>intro env H Q h;obtain⟨v,H',h⟩:=ar.nv h;exact d h
 |gw vs ks ops b d=>intro env H Q h;obtain⟨e,H',h⟩:=oI j ops h;exact d h
theorem sU{env:Env}{H:Z}:∀(l:List jz){K:List I→Prop},kV env H l K→∃vs,K vs
 |[],K,h=>⟨_,h⟩
 | .tmp t::r,K,h=>by obtain⟨vs,h⟩:=sU r h;exact⟨_,h⟩
 | .cell t n agg::r,K,h=>by obtain⟨v,h⟩:=Do.nv h;obtain⟨vs,h⟩:=sU r h;exact⟨_,h⟩
theorem CI(a:kW Φ){f:aY}{args:List I}{Q:ad}(h:oH Φ f args H Q):∃v H',Q v H':=by
 obtain⟨e,aA,H',h⟩:=Lq a _ h;cases e with
 |normal=>obtain⟨vs,h⟩:=sU _ h;exact⟨_,_,h⟩
 |exit i=>exact h.elim
 |ret=>obtain⟨vs,h⟩:=sU _ h;exact⟨_,_,h⟩
end
end Rb

namespace Rb
open Go
variable{v x c y i:I}{t s:TypeId}{X V Y:Value}{cs:List I}{Vs:Array Value}{d:TypeDesc}{off sz o n:Nat}{k:IntKind}{b neg:Bool}{fields:Array Field}{f:Field}
section
variable{P:Program}{F:cz}{w:World}{G:aH}
@[simp] theorem Xn {α:Type} (a:α) (K:α→Prop):Do (some a) K=K a:=by simp[Do]
@[simp] theorem Xo {α:Type} (K:α→Prop):Do none K=False:=by simp[Do]
theorem VR.e8{n:Int}(h:VR F w G (.int k n) V):V = .int k n:=by cases h;rfl
theorem VR.iI(h:VR F w G (.bool b) V):V = .bool b:=by cases h;rfl
theorem VR.iJ{s:List UInt8}(h:VR F w G (.str s) V):V = .string ⟨s.toArray⟩:=by cases h;rfl
theorem VR.np(h:VR F w G (.agg cs) V):∃Vs,V = .agg Vs∧aK F w G cs Vs:=by cases h with|agg cs Vs hl hv=>exact⟨Vs,rfl,hl,hv⟩
theorem VR.CJ(h:VR F w G (.aq cs) V):∃Vs,V = .tuple Vs∧aK F w G cs Vs:=by cases h with|aq cs Vs hl hv=>exact⟨Vs,rfl,hl,hv⟩
theorem VR.CK(h:VR F w G (.aq []) V):V = .tuple #[]:=by
 obtain⟨Vs,rfl,hs,_⟩:=h.CJ;have:Vs.size=0:=by simpa using hs.symm
 rw[Array.size_eq_zero_iff.1 this]
theorem aK.agg(h:aK F w G cs Vs):VR F w G (.agg cs) (.agg Vs):= .agg cs Vs h.1 h.2
theorem aK.aq(h:aK F w G cs Vs):VR F w G (.aq cs) (.tuple Vs):= .aq cs Vs h.1 h.2
theorem aK.get(h:aK F w G cs Vs){j:Nat}(hc:cs[j]?=some c):∃V,Vs[j]?=some V∧VR F w G c V:=by have b:j<cs.length:=(XV.1 hc).1;have a:j<Vs.size:=h.1▸b;exact⟨Vs[j],XW a,h.2 j c _ hc (XW a)⟩
theorem aK.nq{Vs:List Value}(hl:cs.length=Vs.length)(h:∀(j:Nat)(c:I)(V:Value),cs[j]?=some c→Vs[j]?=some V→VR F w G c V):aK F w G cs Vs.toArray:=⟨by simpa using hl,λj c V hc a=>h j c V hc (by simpa using a)⟩
theorem aK.cut(h:aK F w G cs Vs)(o n:Nat)(hn:o+n≤cs.length):aK F w G ((cs.drop o).take n) (Vs.extract o (o+n)):=by
 have h1:=h.1;refine⟨by simp;omega,λj c V hc a=>?_⟩;rw[XX]at hc;split at hc
 · rename_i b;rw[XY]at hc;rw[XZ]at a;split at a
   ·exact h.2 _ _ _ hc a
   ·cases a
 ·cases hc
def ia:TypeDesc→Bool
 | .struct _ | .array _ _=>true
 |_=>false
theorem x5{cs:Array Value}{off:Nat}{i:TypeInfo}(a:P.underlying t=some d)(ha:ia d=true)(hi:P.info? t=some i) :
  (part t cs off).run P w = .ok (.agg (cs.extract off (off+i.size))) w:=by
 cases d<;>simp[ia]at ha<;>simp[part,isAgg,X0,typeInfo,run_underlying a,hi]
theorem x6{cs:Array Value}(a:P.underlying t=some d)(ha:ia d=false)(b:cs[off]?=some V) :
  (part t cs off).run P w = .ok V w:=by
 cases d<;>simp[ia]at ha<;>simp[part,isAgg,run_underlying a,b]
def ib(P:Program)(t:TypeId)(sz:Nat)(a:Bool):Bool:=
 match P.underlying t,P.info? t with
 |some d,some i=>ia d==a&&i.size==sz&&(a||sz==1)
 |_,_=>false
theorem sV{a:Bool}(h:ib P t sz a=true):∃d i,P.underlying t=some d∧P.info? t=some i∧ia d=a∧i.size=sz∧(a=true∨sz=1):=by
 unfold ib at h;split at h
 · rename_i d i b hi;simp only[X1,bG,X2]at h;exact⟨d,i,b,hi,h.1.1,h.1.2,h.2⟩
 ·cases h
theorem CL{agg:Bool}(ht:ib P t sz agg=true)(h:aK F w G cs Vs)(hv:bU cs o sz agg=some v) :
  ∃V,(part t Vs o).run P w = .ok V w∧VR F w G v V:=by
 obtain⟨d,i,a,hi,ha,hs,e⟩:=sV ht;unfold bU at hv;split at hv
 · rename_i hle;cases agg with
   | true=>simp at hv;subst hv;subst hs;exact⟨_,x5 a ha hi,(h.cut o _ hle).agg⟩
   | false=>simp at hv;obtain⟨V,b,c⟩:=h.get hv;exact⟨V,x6 a ha b,c⟩
 ·cases hv
theorem Lr{op:BinOp}{t:TypeId}(h:M op x y=some v)(c:VR F w G x X)(d:VR F w G y Y) :
  ∃V,(binOp op t X Y).run P w = .ok V w∧VR F w G v V:=by
 unfold M at h;split at h
 · rename_i k a k' b;obtain rfl:=c.e8;obtain rfl:=d.e8;unfold cc at h;cases op<;>simp only[]at h
   case shl=>
    split at h
    ·cases h
    · rename_i hb;cases h;refine⟨.int k (k.wrap (a*2^(min b.toNat k.bits))),?_,.int _ _⟩;simp[binOp,Op.shift,hb]
   case shr=>
    split at h
    ·cases h
    · rename_i hb;cases h;refine⟨.int k (a.fdiv (2^(min b.toNat k.bits))),?_,.int _ _⟩;simp[binOp,Op.shift,hb]
   case quo=>
    split at h
    · rename_i hb;cases h;obtain⟨rfl,hb⟩:=hb;refine⟨.int k (k.wrap (a.tdiv b)),?_,.int _ _⟩;simp[binOp,X3,hb]
    ·cases h
   case rem=>
    split at h
    · rename_i hb;cases h;obtain⟨rfl,hb⟩:=hb;refine⟨.int k (a.tmod b),?_,.int _ _⟩;simp[binOp,X3,hb]
    ·cases h
   all_goals
    split at h
    · rename_i hk;subst hk;first
       | (have h:=show some (I.int k _)=some v from h
          cases h;refine⟨_,?_,.int _ _⟩;simp only[binOp,ne_eq,not_true_eq_false,bR];rfl)
       | (cases h
          refine⟨_,?_,.bool _⟩;simp only[binOp,ne_eq,not_true_eq_false,bR];rfl)
    ·cases h
 · rename_i s u;obtain rfl:=c.iJ;obtain rfl:=d.iJ;unfold CB at h;cases op<;>simp only[]at h
   case add=>
    split at h
    · rename_i hl;cases h;refine⟨_,?_,.str _⟩;have e:¬(9223372036854775807<(s.length:Int)+(u.length:Int)):=by omega
      have hs:(X4 s.toArray).size=s.length:=by simp[X5]
      have hu:(X4 u.toArray).size=u.length:=by simp[X5]
      have he:(X4 s.toArray++X4 u.toArray)=⟨(s++u).toArray⟩:=by apply X6;simp
      simp[binOp,X7,hs,hu,e,IntKind.max,X8,X9,he]
    ·cases h
   all_goals
    first
     |(cases h;exact⟨_,by simp[binOp,X7],.bool _⟩)
     |cases h
 ·cases h
theorem CM(op:BinOp)(t:TypeId)(x y:Operand)(X Y:Value)(a:∀cs,X ≠ .agg cs)(b:X ≠ .nilIface):(eqGuard op t x y X Y).run P w = .ok () w:=by unfold eqGuard;cases op<;>simp;all_goals (cases X<;>simp_all)
theorem Ls(ht:P.underlying t=some .bool)(h:kQ neg x y=some v)(c:VR F w G x X)(d:VR F w G y Y) :
  ∃V,(binOp (if neg then .neq else .eql) t X Y).run P w = .ok V w∧VR F w G v V:=by
 unfold kQ at h;split at h
 · rename_i a b;obtain rfl:=c.iI;obtain rfl:=d.iI;cases h;have e:∀n,(X_ (n+1) t (.bool a) (.bool b)).run P w = .ok (a==b) w:=λn=>by
    unfold X_;simp[run_underlying ht]
   have he:(Ya t (.bool a) (.bool b)).run P w = .ok (a==b) w:=e 9999;refine⟨_,?_,.bool _⟩;cases neg
   · show(do pure (.bool (←Ya t (.bool a) (.bool b))):Sem Value).run P w=_;simp[he]
   · show(do pure (.bool (!(←Ya t (.bool a) (.bool b)))):Sem Value).run P w=_;simp[he]
 ·cases h
def oJ:TypeDesc→Option NK
 | .pointer _=>some .p
 | .slice _=>some .s
 | .map _ _=>some .m
 | .func _ _ _=>some .f
 | .interface _=>some .i
 |_=>none
def NK.nil:NK→Value
 | .p=> .pointer none
 | .s=> .slice none 0 0
 | .m=> .map none
 | .f=> .nilFunc
 | .i=> .nilIface
theorem Lt{k:NK}(a:P.underlying t=some d)(c:oJ d=some k)(h:x.isNil k=some b)(e:VR F w G x X) :
  (Ya t X k.nil).run P w = .ok b w:=by
 have key:∀n,(X_ (n+1) t X k.nil).run P w = .ok b w:=by
  intro n;unfold I.isNil at h;split at h<;>(try (cases h;done))<;>cases h;all_goals
   cases d<;>simp only[oJ,Yb.injEq,reduceCtorEq]at c;cases e<;>first|(unfold X_;simp[NK.nil,run_underlying a];done)|contradiction
 exact key 9999
theorem Lu{k:NK}(f:P.underlying t=some d)(g:oJ d=some k)(h:mA k neg x=some v)(a:VR F w G x X) :
  ∃V,(binOp (if neg then .neq else .eql) t X k.nil).run P w = .ok V w∧VR F w G v V:=by
 unfold mA at h;cases hb:x.isNil k with
 |none=>simp[hb]at h
 | some b=>
  simp[hb]at h;subst h;have c:=Lt (P:=P) f g hb a;have e:(neg=false→binOp .eql t X k.nil=(do pure (.bool (←Ya t X k.nil))))∧(neg=true→binOp .neq t X k.nil=(do pure (.bool (!(←Ya t X k.nil))))):=by unfold I.isNil at hb;split at hb<;>(try (cases hb;done))<;>cases a<;>exact⟨λ_=>rfl,λ_=>rfl⟩
  refine⟨_,?_,.bool _⟩;cases neg
  · rw[lV,e.1 rfl];simp[c]
  · rw[aa rfl,e.2 rfl];simp[c]
theorem Lv{op:UnOp}(h:cY op x=some v)(a:VR F w G x X):∃V,(Op.unary op X).run P w = .ok V w∧VR F w G v V:=by
 unfold cY at h;split at h
 · obtain rfl:=a.iI;cases h;exact⟨_,rfl,.bool _⟩
 · obtain rfl:=a.e8;cases h;exact⟨_,rfl,.int _ _⟩
 · obtain rfl:=a.e8;simp only[kq,Yc,Yb.injEq]at h;subst h;exact⟨_,rfl,.int _ _⟩
 ·cases h
theorem Lw(hs:P.underlying s=some d)(ht:P.underlying t=some (.int k))(h:e7 k x=some v)(a:VR F w G x X) :
  ∃V,(convert s t X).run P w = .ok V w∧VR F w G v V:=by
 unfold e7 at h;split at h
 · obtain rfl:=a.e8;cases h;refine⟨_,?_,.int _ _⟩;simp[convert,run_underlying hs,run_underlying ht,Conv.intToInt]
 ·cases h
theorem Lx(hs:P.underlying s=some .string)(ht:P.underlying t=some .string)(h:oA x=some v)(a:VR F w G x X) :
  ∃V,(convert s t X).run P w = .ok V w∧VR F w G v V:=by
 unfold oA at h;split at h
 · obtain rfl:=a.iJ;cases h;refine⟨_,?_,.str _⟩;simp[convert,run_underlying hs,run_underlying ht]
 ·cases h
theorem Ly(h:aZ x=some v)(b:VR F w G x X):(∃a,X = .pointer (some a))∧VR F w G v X∨(∃f c Vs,X = .func (.func f) c Vs)∧VR F w G v X:=by
 unfold aZ at h;split at h
 ·cases h;left;exact⟨by cases b;exact⟨_,rfl⟩,b⟩
 ·cases h;left;exact⟨by cases b;exact⟨_,rfl⟩,b⟩
 ·cases h;right;exact⟨by cases b<;>exact⟨_,_,_,rfl⟩,b⟩
 ·cases h
theorem Lz{n off sz:Nat}{a:Bool}{x v:I}{X:Value}(ht:P.underlying t=some (.struct fields))(hf:fields[n]?=some f)(b:f.offset=off)
  (c:ib P f.type sz a=true) (h:nj off sz a x=some v) (d:VR F w G x X):∃V,(Yd t X n).run P w = .ok V w∧VR F w G v V:=by
 unfold nj at h;split at h
 · obtain⟨Vs,rfl,e⟩:=d.np;subst b;obtain⟨V,g,hv⟩:=CL (w:=w) c e h;exact⟨V,by simp[Yd,run_underlying ht,hf,asAgg,g],hv⟩
 ·cases h
theorem LA{t e:TypeId}{a sz:Nat}{b:Bool}{X c:Value}(ht:P.underlying t=some (.array a e))(f:ib P e sz b=true)(h:lU a sz b x i=some v)
  (g:VR F w G x X) (hi:VR F w G i c):∃V,(Ye t X c).run P w = .ok V w∧VR F w G v V:=by
 unfold lU at h;split at h
 · obtain ⟨Vs,rfl,j⟩:=g.np;obtain rfl:=hi.e8;split at h
   · rename_i hb;obtain⟨V,k,hv⟩:=CL (w:=w) f j h;obtain⟨d,inf,m,l,_,hs,_⟩:=sV f;subst hs;exact⟨V,by simp[Ye,asIntOf,run_underlying ht,hb,X0,typeInfo,l,k],hv⟩
   ·cases h
 ·cases h
theorem LB{X a:Value}(ht:P.underlying t=some .string)(h:jS x i=some v)
  (c:VR F w G x X) (hi:VR F w G i a):∃V,(Ye t X a).run P w = .ok V w∧VR F w G v V:=by
 unfold jS at h;split at h
 · rename_i s k i;obtain rfl:=c.iJ;obtain rfl:=hi.e8;split at h
   · rename_i hb;cases hs:s[i.toNat]? with
     |none=>simp[hs]at h
     | some b=>
      simp[hs]at h;subst h;have d:(X4 s.toArray)[i.toNat]?=some b:=by
       have e:=(XV.1 hs).1;have he:=(XV.1 hs).2;have f:i.toNat<(X4 s.toArray).size:=by simpa[X5]using e
       rw[getElem?_pos (X4 s.toArray) i.toNat f];simp[Yf,he]
      exact⟨_,by simp[Ye,asIntOf,run_underlying ht,hb,d],.int _ _⟩
   ·cases h
 ·cases h
theorem kX(b o n:Nat):(⟨b,o,none⟩:Addr).add n=⟨b,o+n,none⟩:=by
 unfold Addr.add;split
 ·rename_i h;subst h;rfl
 ·rfl
theorem x7{b o:Nat}(h:VR F w G (.ae cs) (.pointer (some ⟨b,o,none⟩)))(n:Nat):VR F w G (.ae (cs.drop n)) (.pointer (some ⟨b,o+n,none⟩)):=by
 cases h with
 | ae cs b o Vs h hv=>
  refine .ae _ _ _ (λj=>Vs (n+j)) (λj c a=>?_) (λj c a=>?_)
  · rw[XY]at a;have:=h _ _ a;rw[←Yg]at this;exact this
  · rw[XY]at a;exact hv _ _ a
theorem LC{a:TypeInfo}{x v:I}{X:Value}(ht:P.underlying t=some (.struct fields))(hf:fields[n]?=some f)(d:f.offset=off)
  (e:P.info? f.type=some a) (g:a.size≠0) (h:W off x=some v) (c:VR F w G x X):∃V,(Yh t X n).run P w = .ok V w∧VR F w G v V:=by
 subst d;have key:∀b o,X = .pointer (some ⟨b,o,none⟩)→(Yh t X n).run P w = .ok (.pointer (some ⟨b,o+f.offset,none⟩)) w:=by intro b o i;subst i;simp[Yh,run_underlying ht,hf,Yi,fieldPlace,X0,typeInfo,e,g,kX]
 unfold W at h;split at h
 · cases h;cases c with
   |ptr id off j=>exact⟨_,key _ _ rfl,.ptr _ _ j⟩
 · cases h;cases c with
   |ae _ b o Vs h hv=>exact⟨_,key _ _ rfl,x7 (.ae _ b o Vs h hv) _⟩
 ·cases h
theorem x8{a:Bool}{A B:Prop}(h:Gd v a A B):∃b,v = .bool b∧if b=a then A else B:=by
 unfold Gd at h;split at h
 ·rename_i b;exact⟨b,rfl,h⟩
 ·exact h.elim
@[simp] theorem Xp (b want:Bool) (A B:Prop):Gd (.bool b) want A B=if b=want then A else B:=rfl
theorem LF{i:Nat}(h:bj i x=some v)(a:VR F w G x X):∃V,(Yj X i).run P w = .ok V w∧VR F w G v V:=by
 unfold bj at h;split at h
 · obtain⟨Vs,rfl,b⟩:=a.CJ;obtain⟨V,c,hv⟩:=b.get h;exact⟨V,by simp[Yj,c],hv⟩
 ·cases h
theorem aK.app{cs cs':List I}{Vs d:Array Value}(h:aK F w G cs Vs)(e:aK F w G cs' d):aK F w G (cs++cs') (Vs++d):=by
 refine⟨by simp[h.1,e.1],λj c V hc a=>?_⟩;rw[Yk]at hc;rw[Yl]at a;rw[h.1]at hc;split at hc
 · rename_i b;rw[aa b]at a;exact h.2 _ _ _ hc a
 · rename_i b;rw[ab b]at a;exact e.2 _ _ _ hc a
theorem aK.set(h:aK F w G cs Vs)(j:Nat)(hc:VR F w G c V):aK F w G (cs.set j c) (Vs.setIfInBounds j V):=by
 refine⟨by simp[h.1],λi d U a b=>?_⟩;rw[Ym]at a;rw[Yn]at b;by_cases e:j=i
 · subst e;rw[aa rfl]at a;rw[aa rfl]at b;split at a
   · rename_i f;rw[aa (h.1▸f)]at b;cases a;cases b;exact hc
   ·cases a
 · rw[ab e]at a b;exact h.2 _ _ _ a b
theorem aK.one(h:VR F w G c V):aK F w G [c] #[V]:=
 aK.nq (Vs:=[V]) rfl λj d U a b=>by
  cases j with
  |zero=>simp at a b;subst a;subst b;exact h
  |succ j=>simp at a
theorem aK.nil:aK F w G [] #[]:=⟨rfl,λj c V hc _=>by simp at hc⟩
theorem VR.x9(a:v.known=true)(h:VR F w G v V):aK F w G v.cells V.cells:=by
 cases v with
 | agg cs=>obtain⟨Vs,rfl,b⟩:=h.np;exact b
 |aq _=>cases a
 |bot=>cases a
 | _=>
  have c:V.cells = #[V]:=by cases h<;>rfl
  rw[c];exact aK.one h
theorem VR.CN(a:v.scalar=true)(h:VR F w G v V):V.oneCell'=true:=by cases v<;>simp[I.scalar]at a<;>cases h<;>rfl
end
end Rb

namespace Rb
open Go
variable{x v:I}{X:Value}{t e:TypeId}{lo hi:Option I}{sz len cap l h:Nat}{inf:TypeInfo}
section
variable{P:Program}{F:cz}{w:World}{G:aH}
theorem VR.CO{cells:List I}{b o:Nat}{Vs:Nat→Value}
  (h:∀(j:Nat)(c:I),cells[j]?=some c→G.fz b (o+j)∧w.cell? ⟨b,o+j,none⟩=some (Vs j))
  (hv:∀(j:Nat)(c:I),cells[j]?=some c→VR F w G c (Vs j)) (n m:Nat) :
  (∀(j:Nat)(c:I),((cells.take m).drop n)[j]?=some c→G.fz b (o+n+j)∧w.cell? ⟨b,o+n+j,none⟩=some (Vs (n+j))) ∧
  (∀(j:Nat)(c:I),((cells.take m).drop n)[j]?=some c→VR F w G c (Vs (n+j))):=by
 have key:∀(j:Nat)(c:I),((cells.take m).drop n)[j]?=some c→cells[n+j]?=some c:=by
  intro j c a;rw[XY,XX]at a;split at a
  ·exact a
  ·cases a
 refine⟨λj c a=>?_,λj c a=>hv _ _ (key j c a)⟩;have:=h _ _ (key j c a);rw[←Yg]at this;exact this
theorem LG{t e:TypeId}{d:Option Nat}{sz:Nat}{inf:TypeInfo}{x i v:I}{X f:Value}
  (ht:match d with|none=>P.underlying t=some (.slice e)|some n=>P.underlying t=some (.array n e))
  (hi:P.info? e=some inf) (hs:inf.size=sz) (h:aP d sz x i=some v) (a:VR F w G x X) (g:VR F w G i f) :
  ∃V,(Yo t X f).run P w = .ok V w∧VR F w G v V:=by
 subst hs;unfold aP at h;split at h
 · rename_i k i;obtain rfl:=g.e8;split at h
   · rename_i tk len cells;simp only at ht;split at h
     · rename_i hb;cases h;cases a with
       |e5=>simp at hb;omega
       |e6=>simp at hb;omega
       | ak _ _ _ b o cap Vs j hle h hv=>refine⟨.pointer (some ⟨b,o+i.toNat*inf.size,none⟩),?_,x7 (.ae _ b o Vs h hv) _⟩;simp[Yo,asIntOf,run_underlying ht,hb,X0,typeInfo,hi,kX]
     ·cases h
   · rename_i id o len;simp only at ht;split at h
     · rename_i hb;cases h;cases a with
       | row _ _ _ _ cap c hle hc=>refine⟨_,?_,.ptr _ _ c⟩;simp[Yo,asIntOf,run_underlying ht,hb,X0,typeInfo,hi,kX]
     ·cases h
   · rename_i n id o;simp only at ht;split at h
     · rename_i hb;cases h;cases a with
       | ptr _ _ c=>refine⟨_,?_,.ptr _ _ c⟩;simp[Yo,asIntOf,run_underlying ht,hb,X0,typeInfo,hi,kX,Yi]
     ·cases h
   · rename_i n cells;simp only at ht;split at h
     · rename_i hb;cases h;cases a with
       | ae _ b o Vs h hv=>refine⟨.pointer (some ⟨b,o+i.toNat*inf.size,none⟩),?_,x7 (.ae _ b o Vs h hv) _⟩;simp[Yo,asIntOf,run_underlying ht,hb,X0,typeInfo,hi,kX,Yi]
     ·cases h
   ·cases h
 ·cases h
theorem qG{n y:Nat}{a:BoundsCode}{d:Nat}(h:eo (some x) d=some n)(b:VR F w G x X)(hn:n≤y) :
  (Yp X y a).run P w = .ok n w:=by
 cases x with
 | int k i=>
  obtain rfl:=b.e8;simp only[eo]at h;split at h
  · rename_i hp;cases h;have hle:0≤i∧i≤(y:Int):=⟨hp,by omega⟩
    simp[Yp,asIntOf,hle]
  ·cases h
 |_=>simp[eo]at h
def kY(F:cz)(w:World)(G:aH):Option I→Option Value→Prop
 |none,none=>True
 |some x,some X=>VR F w G x X
 |_,_=>False
theorem x_{b:Bool}{a c:Option Value}(d:eo hi len=some h)(hl:eo lo 0=some l)(j:l≤h)(k:h≤len)(m:len≤cap)
  (e:kY F w G lo a) (f:kY F w G hi c):(Yq b len cap a c none).run P w = .ok (l,h,cap) w:=by
 have g:(match c with|some v=>Yp v cap (if b then .sliceAcap else .sliceAlen)|none=>pure len).run P w = .ok h w:=by
  cases hi with
  | none=>
   cases c with
   |none=>simp[eo]at d;simp[d]
   |some _=>exact f.elim
  | some x=>
   cases c with
   |none=>exact f.elim
   |some X=>exact qG d f (xl k m)
 have i:(match a with|some v=>Yp v h .sliceB|none=>pure 0).run P w = .ok l w:=by
  cases lo with
  | none=>
   cases a with
   |none=>simp[eo]at hl;simp[hl]
   |some _=>exact e.elim
  | some x=>
   cases a with
   |none=>exact e.elim
   |some X=>exact qG hl e j
 unfold Yq;cases c<;>cases a<;>simp at g i ⊢ <;> simp[g,i]
theorem sW{b:Bool}{m:I}{a e:Option Value}{M:Value}{len cap l h d:Nat}(j:eo (some m) 0=some d)(k:eo hi len=some h)(n:hi≠none)(hl:eo lo 0=some l)(o:l≤h)(p:h≤d)(q:d≤cap)
  (f:kY F w G lo a) (g:kY F w G hi e) (r:VR F w G m M):(Yq b len cap a e (some M)).run P w = .ok (l,h,d) w:=by
 have em:∀c,(Yp M cap c).run P w = .ok d w:=λc=>qG j r q;cases hi with
 |none=>exact absurd rfl n
 | some x=>
  cases e with
  |none=>exact g.elim
  | some X=>
   have s:∀c,(Yp X d c).run P w = .ok h w:=λc=>qG k g p;have i:(match a with|some v=>Yp v h .slice3C|none=>pure 0).run P w = .ok l w:=by
    cases lo with
    | none=>
     cases a with
     |none=>simp[eo]at hl;simp[hl]
     |some _=>exact f.elim
    | some x=>
     cases a with
     |none=>exact f.elim
     |some X=>exact qG hl f o
   unfold Yq;cases a<;>simp at i ⊢ <;> simp[em,s,i]
theorem CP(s:List UInt8):(X4 s.toArray).size=s.length:=by simp[X5]
theorem LH{X:Value}{a c:Option Value}(ht:P.underlying t=some .string)(h:oB x lo hi=some v)
  (e:VR F w G x X) (f:kY F w G lo a) (g:kY F w G hi c):∃V,(Yr t X a c none).run P w = .ok V w∧VR F w G v V:=by
 unfold oB at h;split at h
 · rename_i s;obtain rfl:=e.iJ;split at h
   · rename_i d l i hl;split at h
     · rename_i hb;cases h;have j:=x_ (P:=P) (b:=false) i hl hb.1 hb.2 (sl _) f g;have he:(X4 s.toArray).extract l d=⟨((s.take d).drop l).toArray⟩:=by
        rw[Lib.extract_eq];congr 1;simp[List.drop_take]
       refine⟨_,?_,.str _⟩;simp[Yr,Ys,run_underlying ht,CP,j,he]
     ·cases h
   ·cases h
 ·cases h
theorem LI{x v:I}{lo hi mx:Option I}{X:Value}{u y Mx:Option Value}(ht:P.underlying t=some (.slice e))(H:P.info? e=some inf)(hs:inf.size=sz)
  (hm:mx≠none→hi≠none) (h:du sz x lo hi mx=some v) (q:VR F w G x X) (k:kY F w G lo u) (n:kY F w G hi y) (i:kY F w G mx Mx) :
  ∃V,(Yr t X u y Mx).run P w = .ok V w∧VR F w G v V:=by
 subst hs;have run:∀(a:Option Addr)(len cap l h m:Nat),(Yq true len cap u y Mx).run P w = .ok (l,h,m) w →
   (Yr t (.slice a len cap) u y Mx).run P w = .ok (.slice (if m=l then a else a.map (·.add (l*inf.size))) (h-l) (m-l)) w:=by
  intro a len cap l h m hb;simp[Yr,Ys,run_underlying ht,hb,X0,typeInfo,H]
 unfold du at h;split at h
 · rename_i tk len cells;split at h
   · rename_i d l f hl g;cases mx with
     |some m=>simp at g
     |none=>
     cases Mx with
     |some _=>exact i.elim
     |none=>
     split at h
     · rename_i hb;have c:∀cap,len≤cap→_:=λcap hc=>x_ (P:=P) (b:=true) f hl hb.1 hb.2.1 hc k n;split at h
       · rename_i he;cases h;obtain⟨rfl,rfl⟩:=he;cases q with
         |e5=>exact⟨_,run _ _ _ _ _ _ (c 0 (sl _)),by simpa using VR.e5⟩
         |e6 a cap=>exact⟨_,run _ _ _ _ _ _ (c cap (Yt _)),by simpa using VR.e6 _ _⟩
         | ak _ _ _ b o cap Vs p hle h hv=>refine⟨_,run _ _ _ _ _ _ (c cap hle),?_⟩;have:=VR.ak (F:=F) tk d cells b o cap Vs p hle h hv;split<;>simpa[kX]using this
       · rename_i B;cases h;cases q with
         |e5=>exact absurd ⟨by omega,by omega⟩ B
         |e6 a cap=>exact absurd ⟨by omega,by omega⟩ B
         | ak _ _ _ b o cap Vs p hle h hv=>
          refine⟨_,run _ _ _ _ _ _ (c cap hle),?_⟩;by_cases z:cap=l
          · obtain rfl:d=cap:=by omega
            obtain rfl:d=len:=by omega
            obtain rfl:l=d:=by omega
            have r:¬l=0:=λe=>B ⟨e,rfl⟩;rw[ab r,aa rfl];have J:(cells.take (l*inf.size)).drop (l*inf.size)=[]:=by simp
            rw[J];simpa using VR.e6 (some ⟨b,o,none⟩) 0
          · rw [ab z];have s:=VR.CO (F:=F) h hv (l*inf.size) (d*inf.size);simp only[Yc,kX];refine .ak _ _ _ b (o+l*inf.size) (cap-l) (λj=>Vs (l*inf.size+j)) ?_ (by omega) s.1 s.2;split
            · rename_i r;subst r;split
              · rename_i t;obtain⟨h1,D,O,Q⟩:=p;exact⟨h1,D,by omega,by omega⟩
              ·trivial
            ·trivial
     ·cases h
   · rename_i d l m f hl g;cases mx with
     |none=>simp at g
     |some mv=>
     cases Mx with
     |none=>exact i.elim
     |some R=>
     simp at g;split at h
     · rename_i K;obtain⟨e1,L,S⟩:=K;subst e1;subst L;cases q with
       | e5=>have c:=sW (P:=P) (b:=true) (cap:=0) g f (hm (by simp)) hl (sl _) (sl _) (by omega) k n i;cases h;exact⟨_,run _ _ _ _ _ _ c,by simpa using VR.e5⟩
       | e6 a cap=>have c:=sW (P:=P) (b:=true) (cap:=cap) g f (hm (by simp)) hl (sl _) (sl _) (by omega) k n i;cases h;exact⟨_,run _ _ _ _ _ _ c,by simpa using VR.e6 _ _⟩
       | ak _ _ _ b o cap Vs p hle T hv=>
        have c:=sW (P:=P) (b:=true) (cap:=cap) g f (hm (by simp)) hl (sl _) (sl _) (by omega) k n i;refine⟨_,run _ _ _ _ _ _ c,?_⟩;have M:v = .ak .dead 0 []:=by
         cases tk with
         |nil=>exact p.elim
         |full=>cases h;rfl
         |dead=>cases h;rfl
         |own t=>cases h;rfl
        subst M;simpa using VR.e6 _ _
     split at h
     · rename_i hb;cases h;cases q with
       |e5=>exact absurd rfl hb.2.2.2.2.1
       |e6 a cap=>have h1:=hb.2.2.2.2.2;have D:=hb.2.2.1;omega
       | ak _ _ _ b o cap Vs p hle h hv=>
        obtain⟨C,A,U,W,Y,Z⟩:=hb;have c:=sW (P:=P) (b:=true) (cap:=cap) g f (hm (by simp)) hl C A (by omega) k n i;refine⟨_,run _ _ _ _ _ _ c,?_⟩;rw[ab (show ¬m=l by omega)];have s:=VR.CO (F:=F) h hv (l*inf.size) (d*inf.size);simp only[Yc,kX];refine .ak _ _ _ b (o+l*inf.size) (m-l) (λj=>Vs (l*inf.size+j)) ?_ (Nat.sub_le_sub_right A l) s.1 s.2;split
        · rename_i e;show m-l=d-l;omega
        ·trivial
     ·cases h
   ·cases h
 · rename_i id o len ac;split at h
   · rename_i d l f hl;cases Mx with
     |some _=>exact i.elim
     |none=>
     split at h
     · rename_i hb;obtain⟨C,A,rfl⟩:=hb;cases q with
       | row _ _ _ _ cap E hle hc=>
        have c:=x_ (P:=P) (b:=true) f hl C A hle k n;split at h
        · rename_i N;cases h;refine⟨_,run _ _ _ _ _ _ c,?_⟩;by_cases z:cap=l
          · have r:l=0:=by omega
            subst r;rw[aa z];have:=VR.row (F:=F) (w:=w) (G:=G) id o (d-0) inf.size cap E (by omega) hc;simpa using this
          · rw[ab z];simp only[Yc,kX];refine .row id _ _ _ _ E (by omega) ?_;have:cap*inf.size=l*inf.size+(cap-l)*inf.size:=by rw[←Yu];congr 1;omega
            omega
        · rename_i N;cases h;refine⟨_,run _ _ _ _ _ _ c,?_⟩;have:d-l=0:=by omega
          rw[this];exact .e6 _ _
     ·cases h
   ·cases h
 ·cases h
theorem LJ{cs:List I}{Vs:Array Value}(h:aK F w G cs Vs)(a:Nat):∀(l:List I)(L:List Value)(k:Nat),l.length=L.length →
  (∀(j:Nat)(c:I)(V:Value),l[j]?=some c→L[j]?=some V→VR F w G c V) →
  aK F w G (setCells cs (a+k) l) ((L.zipIdx k).foldl (λcs (x:Value×Nat)=>cs.setIfInBounds (a+x.2) x.1) Vs):=by
 intro l;induction l generalizing cs Vs with
 | nil=>
  intro L k hl _;cases L with
  |nil=>simpa[setCells]using h
  |cons _ _=>cases hl
 | cons c l e=>
  intro L k hl b;cases L with
  |nil=>cases hl
  | cons V L=>simp only[setCells,List.zipIdx_cons,Yv];rw[Yg];exact e (h.set _ (b 0 c V rfl rfl)) L (k+1) (by simpa using hl) λj d U f g=>b (j+1) d U (by simpa using f) (by simpa using g)
theorem LK(l:List I):∀(cs:List I)(o:Nat),(setCells cs o l).length=cs.length:=by
 induction l with
 |nil=>intro cs o;rfl
 |cons c l a=>intro cs o;simp[setCells,a]
theorem CQ{place:Nat→Option (Nat×Nat)}:∀(b:List (Nat×Nat×I)) (ps:List (Nat×Value)) (cs cs':List I) (Vs:Array Value),aK F w G cs Vs→b.length=ps.length →
  (∀(j:Nat)(a:Nat×Nat×I)(p:Nat×Value),b[j]?=some a→ps[j]?=some p→place p.1=some (a.1,a.2.1)∧VR F w G a.2.2 p.2)→iD cs b=some cs' →
  ∃d,Yw place Vs ps=some d∧aK F w G cs' d:=by
 intro b;induction b with
 | nil=>
  intro ps cs cs' Vs h hl _ hf;cases ps with
  |nil=>cases hf;exact⟨Vs,rfl,h⟩
  |cons _ _=>cases hl
 | cons a b g=>
  intro ps cs cs' Vs h hl e hf;cases ps with
  |nil=>cases hl
  | cons p ps=>
   obtain⟨off,sz,v⟩:=a;obtain⟨i,V⟩:=p;obtain⟨hp,hv⟩:=e 0 _ _ rfl rfl;simp only[iD]at hf;split at hf
   · rename_i hk;obtain⟨k,l,t⟩:=hk;have hc:=hv.x9 k;have f:=LJ h off v.cells V.cells.toList 0 (by simpa using hc.1) λj c U m n=>hc.2 j c U m (by simpa using n);rw[Yx]at f;obtain⟨d,o,q⟩:=g ps _ _ _ f (by simpa using hl) (λj a p ha r=>e (j+1) a p (by simpa using ha) (by simpa using r)) hf;refine⟨d,?_,q⟩;have s:V.cells.size=sz:=by rw[←hc.1];exact l
     have hle:¬(V.cells.size≠sz∨off+V.cells.size>Vs.size):=by rw[s,←h.1];omega
     simp only[Yw,hp];have u:V.cells.zipIdx.foldl (λcs (x:Value×Nat)=>cs.setIfInBounds (off+x.2) x.1) Vs=(V.cells.toList.zipIdx 0).foldl (λcs (x:Value×Nat)=>cs.setIfInBounds (off+x.2) x.1) Vs:=by rw[←Array.foldl_toList,Array.toList_zipIdx]
     rw[ab (by simpa using hle),←o];congr 1
   ·cases hf
theorem LL{d:TypeDesc}{ty:TypeId}{c:Bool}{x v:I}{X:Value}(a:P.underlying t=some d)
  (hk:if c then d = .string else ∃e,d = .slice e) (h:bp c x=some v) (b:VR F w G x X) :
  ∃V,(Yy #[t] ty #[X]).run P w = .ok V w∧VR F w G v V:=by
 unfold bp at h;split at h
 · cases h;simp at hk;subst hk;obtain rfl:=b.iJ;refine⟨_,?_,.int _ _⟩;simp[Yy,run_underlying a,goInt,CP]
 · cases h;simp at hk;obtain⟨e,rfl⟩:=hk;cases b<;>exact⟨_,by simp[Yy,run_underlying a,goInt],.int _ _⟩
 · cases h;simp at hk;obtain⟨e,rfl⟩:=hk;cases b;exact⟨_,by simp[Yy,run_underlying a,goInt],.int _ _⟩
 ·cases h
theorem LM{mx:Bool}:∀(xs:List I)(Xs:List Value)(x v:I)(X:Value),nk mx x xs=some v→VR F w G x X→xs.length=Xs.length →
  (∀(j:Nat)(c:I)(V:Value),xs[j]?=some c→Xs[j]?=some V→VR F w G c V) →
  ∃V,(Xs.foldlM (if mx then Yz else YA) X).run P w = .ok V w∧VR F w G v V:=by
 intro xs;induction xs with
 | nil=>
  intro Xs x v X h d hl _;cases Xs with
  |nil=>cases h;exact⟨X,rfl,d⟩
  |cons _ _=>cases hl
 | cons y xs g=>
  intro Xs x v X h d hl e;cases Xs with
  |nil=>cases hl
  | cons Y Xs=>
   have i:=e 0 y Y rfl rfl;simp only[nk]at h;split at h
   · rename_i z hz;unfold qv at hz;split at hz
     · rename_i k a k' b;obtain rfl:=d.e8;obtain rfl:=i.e8;cases hz;obtain⟨V,f,hv⟩:=g Xs _ v _ h (.int _ _) (by simpa using hl) λj c U hc l=>e (j+1) c U (by simpa using hc) (by simpa using l);refine⟨V,?_,hv⟩;cases mx<;>simp[List.foldlM_cons,Yz,YA]at f ⊢ <;> exact f
     ·cases hz
   ·cases h
end
end Rb

namespace Rb
open Go
variable{o:Obj}{i:Nat}{C:Array Value}{e:TypeId}{x:bM}
section
variable{P:Program}{F:cz}{w w':World}{G G':aH}{H H':Z}
structure c0(w w':World)(o:Obj):Prop where
 heap:w'.heap=w.heap.push o
 os:w'.os=w.os
 tape:w'.tape=w.tape
 output:w'.output=w.output
 drawn:w.drawn≤w'.drawn
theorem c0.alloc(w:World)(o:Obj):c0 w (w.alloc o) o:=⟨rfl,rfl,rfl,rfl,sl _⟩
theorem c0.drew(w:World)(o:Obj):c0 w (w.drew.alloc o) o:=⟨rfl,rfl,rfl,rfl,YB _⟩
theorem c0.c9(h:c0 w w' o){k:Nat}(a:k<w.heap.size):w'.heap[k]?=w.heap[k]?:=by rw[h.heap,YC,bw]
theorem c0.new(h:c0 w w' o):w'.heap[w.heap.size]?=some o:=by rw[h.heap];simp
theorem c0.size(h:c0 w w' o):w'.heap.size=w.heap.size+1:=by rw[h.heap];simp
theorem c0.cell(h:c0 w w' o){a:Addr}{V:Value}(hc:w.cell? a=some V):w'.cell? a=some V:=by rw[YD (w:=w) (h.c9 (YE w a hc))];exact hc
theorem eY.lt(h:eY F w G i x)(hl:x.live=true):G.loc i<w.heap.size:=by
 cases x with
 |gone=>cases hl
 |row cs=>obtain⟨C,e,hc,_⟩:=h;exact(YF.1 hc).1
 |tok n sz=>obtain⟨C,e,hc,_⟩:=h;exact(YF.1 hc).1
 |map es=>obtain⟨E,c,hc,_⟩:=h;exact(YF.1 hc).1
 |fU s pos=>exact(YF.1 h.1).1
 |h4 T u b=>obtain⟨v,hc,_⟩:=h;exact(YF.1 hc).1
 |kn U bs=>obtain⟨C,z,hc,_⟩:=h;exact(YF.1 hc).1
theorem Rel.gx(h:Rel F w G H)(hl:(H.o i).live=true):i<G.n:=by
 rw[h.n];rcases KT i H.n with a|a
 ·exact a
 ·rw[h.over i a]at hl;cases hl
theorem eY.aJ(h:eY F w G i x)(a:GLe w G w' G')(hi:x.live=true→i<G.n)(hb:x.live=true→w'.heap[G.loc i]?=w.heap[G.loc i]?)
  (hf:x.live=true→∀j,G'.fz (G.loc i) j→G.fz (G.loc i) j):eY F w' G' i x:=by
 cases x with
 |gone=>trivial
 | row cs=>
  obtain⟨C,e,hc,hs,hz,hv⟩:=h;refine⟨C,e,?_,?_,?_,λj c d=>?_⟩
  ·rw[a.loc i (hi rfl),hb rfl];exact hc
  ·rw[a.cap i (hi rfl)];exact hs
  ·rw[a.loc i (hi rfl)];exact λj d=>hz j (hf rfl j d)
  ·obtain⟨V,l,m⟩:=hv j c d;exact⟨V,l,m.mono a⟩
 | tok n sz=>
  obtain⟨C,e,hc,hs,hk,hz⟩:=h;refine⟨C,e,?_,?_,hk,?_⟩
  ·rw[a.loc i (hi rfl),hb rfl];exact hc
  ·rw[a.cap i (hi rfl)];exact hs
  ·rw[a.loc i (hi rfl)];exact λj hn d=>hz j hn (hf rfl j d)
 | map es=>
  obtain⟨E,cl,hc,hs,hz,hv⟩:=h;refine⟨E,cl,?_,hs,?_,λj k v d=>?_⟩
  ·rw[a.loc i (hi rfl),hb rfl];exact hc
  ·rw[a.loc i (hi rfl)];exact λj d=>hz j (hf rfl j d)
  ·obtain⟨e,he,h1,f⟩:=hv j k v d;exact⟨e,he,h1.mono a,f.mono a⟩
 | fU s pos=>
  obtain⟨hc,hz⟩:=h;refine⟨?_,?_⟩
  ·rw[a.loc i (hi rfl),hb rfl];exact hc
  ·rw[a.loc i (hi rfl)];exact λj d=>hz j (hf rfl j d)
 | h4 T u b=>
  obtain⟨v,hc,hz,hv⟩:=h;refine⟨v,?_,?_,?_⟩
  ·rw[a.loc i (hi rfl),hb rfl];exact hc
  ·rw[a.loc i (hi rfl)];exact λj d=>hz j (hf rfl j d)
  · rcases hv with hv|⟨j,n,h1,f,g⟩
    ·exact .inl hv
    ·exact .inr ⟨j,n,h1,AH f a.n,by rw[a.loc j f,a.cap j f];exact g⟩
 | kn U bs=>
  obtain⟨C,z,hc,hs,h1,f,g,hz,o⟩:=h;refine⟨C,z,?_,?_,h1,?_,?_,?_,o⟩
  ·rw[a.loc i (hi rfl),hb rfl];exact hc
  ·rw[a.cap i (hi rfl)];exact hs
  ·rw[a.cap i (hi rfl)];exact f
  ·rw[a.cap i (hi rfl)];exact g
  ·rw[a.loc i (hi rfl)];exact λj d=>hz j (hf rfl j d)
theorem Rel.kill(h:Rel F w G H)(i:Nat)(hi:i<H.n):Rel F w G (H.set i .gone)∧Step w G H w G (H.set i .gone):=by
 have b:∀j,((H.set i .gone).o j).live=true→(H.o j).live=true∧(H.set i .gone).o j=H.o j:=by
  intro j a;simp only[Z.set]at a ⊢;split at a
  ·cases a
  ·rename_i c;exact⟨a,ab c⟩
 refine⟨⟨h.n,λj a=>?_,λj=>?_,λj k d h1 e=>h.eZ j k d (b j h1).1 (b k e).1,h.ea⟩,?_⟩
 · simp only[Z.set]at a ⊢;split
   ·rfl
   ·exact h.over j a
 · simp only[Z.set];split
   ·trivial
   ·exact h.obj j
 ·exact {GLe.refl w G with size:=sl _,os:=rfl,tape:=rfl,output:=rfl,dr:=sl _,c9:=λ_ _ _=>rfl,owned:=λj a _=>⟨j,(b j a).1,rfl⟩,ez:=λ_ _ h=> .inl h}
def aH.dR(G:aH)(b lo hi:Nat):aH:={G with fz:=λx y=>G.fz x y∨(x=b∧lo≤y∧y<hi)}
def aH.more(G:aH)(b c:Nat):aH:={G with n:=G.n+1,loc:=λi=>if i=G.n then b else G.loc i,cap:=λi=>if i=G.n then c else G.cap i}
theorem GLe.dR(h:c0 w w' o)(b lo hi:Nat):GLe w G w' (G.dR b lo hi):=⟨sl _,λ_ _=>rfl,λ_ _=>rfl,λ_ _ hf=> .inl hf,λ_ _ _ _ hc=>h.cell hc⟩
theorem GLe.more(h:c0 w w' o)(b c:Nat):GLe w G w' (G.more b c):=⟨YB _,λi hi=>ab (YG hi),λi hi=>ab (YG hi),λ_ _ hf=>hf,λ_ _ _ _ hc=>h.cell hc⟩
theorem GLe.ya(h:c0 w w' o)(b lo hi a c:Nat):GLe w G w' ((G.dR b lo hi).more a c):=⟨YB _,λi hi=>ab (YG hi),λi hi=>ab (YG hi),λ_ _ hf=> .inl hf,λ_ _ _ _ hc=>h.cell hc⟩
theorem Rel.frozen(h:Rel F w G H)(hp:c0 w w' (.cells C e)) :
  Rel F w' (G.dR w.heap.size 0 C.size) H∧Step w G H w' (G.dR w.heap.size 0 C.size) H:=by
 have c:=GLe.dR (G:=G) hp w.heap.size 0 C.size;have d:∀i,(H.o i).live=true→G.loc i≠w.heap.size:=λi hl=>YG ((h.obj i).lt hl);refine⟨⟨h.n,h.over,λi=>(h.obj i).aJ c (λhl=>h.gx hl) (λhl=>hp.c9 ((h.obj i).lt hl)) λhl j a=>?_,h.eZ,λb o hb=>?_⟩,?_⟩
 · rcases a with a|⟨a,_⟩
   ·exact a
   ·exact absurd a (d i hl)
 · rcases hb with hb|⟨rfl,_,f⟩
   ·obtain⟨V,g⟩:=h.ea b o hb;exact⟨V,hp.cell g⟩
   ·exact⟨C[o],by rw[cell_of_row w' _ o C e (0,0) hp.new];exact XW f⟩
 ·exact {c with size:=by rw[hp.size];omega,os:=hp.os,tape:=hp.tape,output:=hp.output,dr:=hp.drawn,c9:=λk hk _=>hp.c9 hk,owned:=λi hl _=>⟨i,hl,rfl⟩,ez:=λb o hf=>hf.imp id λhf=> .inl (YH hf.1.symm)}
theorem Rel.frozenAt(h:Rel F w G H)(hp:c0 w w' o)(n:Nat)(hc:∀j,j<n→∃V,w'.cell? ⟨w.heap.size,j,none⟩=some V) :
  Rel F w' (G.dR w.heap.size 0 n) H∧Step w G H w' (G.dR w.heap.size 0 n) H:=by
 have c:=GLe.dR (G:=G) hp w.heap.size 0 n;have d:∀i,(H.o i).live=true→G.loc i≠w.heap.size:=λi hl=>YG ((h.obj i).lt hl);refine⟨⟨h.n,h.over,λi=>(h.obj i).aJ c (λhl=>h.gx hl) (λhl=>hp.c9 ((h.obj i).lt hl)) λhl j a=>?_,h.eZ,λb o hb=>?_⟩,?_⟩
 · rcases a with a|⟨a,_⟩
   ·exact a
   ·exact absurd a (d i hl)
 · rcases hb with hb|⟨rfl,_,e⟩
   ·obtain⟨V,f⟩:=h.ea b o hb;exact⟨V,hp.cell f⟩
   ·exact hc o e
 ·exact {c with size:=by rw[hp.size];omega,os:=hp.os,tape:=hp.tape,output:=hp.output,dr:=hp.drawn,c9:=λk hk _=>hp.c9 hk,owned:=λi hl _=>⟨i,hl,rfl⟩,ez:=λb o hf=>hf.imp (λh=>h) λhf=> .inl (YH hf.1.symm)}
theorem LN(hp:c0 w w' (.cells C e)){cs:List I}(hv:aK F w G cs C) :
  (∀(j:Nat)(c:I),cs[j]?=some c→(G.dR w.heap.size 0 C.size).fz w.heap.size (0+j)∧w'.cell? ⟨w.heap.size,0+j,none⟩=some (C.getD j undef)) ∧
  (∀(j:Nat)(c:I),cs[j]?=some c→VR F w' (G.dR w.heap.size 0 C.size) c (C.getD j undef)):=by
 have d:=GLe.dR (G:=G) hp w.heap.size 0 C.size;have key:∀(j:Nat)(c:I),cs[j]?=some c→C[j]?=some (C.getD j undef)∧j<C.size:=by intro j c a;have b:j<C.size:=hv.1▸(XV.1 a).1;exact⟨by simp[b],b⟩
 refine⟨λj c a=>?_,λj c a=>(hv.2 j c _ a (key j c a).1).mono d⟩;rw[YI];exact⟨.inr ⟨rfl,Yt _,(key j c a).2⟩,by rw[cell_of_row w' _ j C e (0,0) hp.new];exact(key j c a).1⟩
theorem Rel.push(h:Rel F w G H)(hp:c0 w w' (.cells C e))(hi c:Nat)(z:hi≤C.size)(x:bM)
  (u:eY F w' ((G.dR w.heap.size 0 hi).more w.heap.size c) H.n x) :
  Rel F w' ((G.dR w.heap.size 0 hi).more w.heap.size c) (H.push x)∧Step w G H w' ((G.dR w.heap.size 0 hi).more w.heap.size c) (H.push x):=by
 have s:=GLe.ya (G:=G) hp w.heap.size 0 hi w.heap.size c;have hn:=h.n;have q:∀i,(H.o i).live=true→G.loc i≠w.heap.size:=λi hl=>YG ((h.obj i).lt hl);have g:∀i,i≠H.n→((G.dR w.heap.size 0 hi).more w.heap.size c).loc i=G.loc i:=λi hi=>ab (show ¬i=G.n by omega);have r:((G.dR w.heap.size 0 hi).more w.heap.size c).loc H.n=w.heap.size:=aa hn.symm;have a:∀i,i≠H.n→(H.push x).o i=H.o i:=λi hi=>ab hi;refine⟨⟨by show G.n+1=H.n+1;omega,λi d=>?_,λi=>?_,λi j v h1 p=>?_,λb o hb=>?_⟩,?_⟩
 · have t:H.n+1≤i:=d;rw[a i (by omega)];exact h.over i (by omega)
 · by_cases f:i=H.n
   · subst f;show eY F w' _ H.n (if H.n=H.n then x else H.o H.n);rw[aa rfl];exact u
   · rw[a i f];refine(h.obj i).aJ s (λhl=>h.gx hl) (λhl=>hp.c9 ((h.obj i).lt hl)) λhl j l=>?_;rcases l with l|⟨l,_⟩
     ·exact l
     ·exact absurd l (q i hl)
 · by_cases d:i=H.n<;>by_cases m:j=H.n
   ·omega
   ·rw[d,r,g j m];rw[a j m]at p;exact(q j p).symm
   ·rw[m,r,g i d];rw[a i d]at h1;exact q i h1
   ·rw[g i d,g j m];rw[a i d]at h1;rw[a j m]at p;exact h.eZ i j v h1 p
 · rcases hb with hb|⟨rfl,_,A⟩
   ·obtain⟨V,y⟩:=h.ea b o hb;exact⟨V,hp.cell y⟩
   ·exact⟨C[o],by rw[cell_of_row w' _ o C e (0,0) hp.new];exact XW (by omega)⟩
 · refine {s with size:=by rw[hp.size];omega,os:=hp.os,tape:=hp.tape,output:=hp.output,dr:=hp.drawn,c9:=λk hk _=>hp.c9 hk,owned:=λi hl t=>?_,ez:=λb o hf=>hf.imp id λhf=> .inl (YH hf.1.symm)};by_cases f:i=H.n
   ·rw[f,r]at t;omega
   · rw[a i f]at hl;exact⟨i,hl,(g i f).symm⟩
theorem Rel.sX(h:Rel F w G H)(hp:c0 w w' o)(c:Nat)(x:bM)(s:eY F w' (G.more w.heap.size c) H.n x) :
  Rel F w' (G.more w.heap.size c) (H.push x)∧Step w G H w' (G.more w.heap.size c) (H.push x):=by
 have p:=GLe.more (G:=G) hp w.heap.size c;have hn:=h.n;have q:∀i,(H.o i).live=true→G.loc i≠w.heap.size:=λi hl=>YG ((h.obj i).lt hl);have f:∀i,i≠H.n→(G.more w.heap.size c).loc i=G.loc i:=λi hi=>ab (show ¬i=G.n by omega);have m:(G.more w.heap.size c).loc H.n=w.heap.size:=aa hn.symm;have a:∀i,i≠H.n→(H.push x).o i=H.o i:=λi hi=>ab hi;refine⟨⟨by show G.n+1=H.n+1;omega,λi d=>?_,λi=>?_,λi j t h1 l=>?_,λb o hb=>?_⟩,?_⟩
 · have r:H.n+1≤i:=d;rw[a i (by omega)];exact h.over i (by omega)
 · by_cases e:i=H.n
   · subst e;show eY F w' _ H.n (if H.n=H.n then x else H.o H.n);rw[aa rfl];exact s
   · rw[a i e];exact(h.obj i).aJ p (λhl=>h.gx hl) (λhl=>hp.c9 ((h.obj i).lt hl)) λ_ _ u=>u
 · by_cases d:i=H.n<;>by_cases g:j=H.n
   ·omega
   ·rw[d,m,f j g];rw[a j g]at l;exact(q j l).symm
   ·rw[g,m,f i d];rw[a i d]at h1;exact q i h1
   ·rw[f i d,f j g];rw[a i d]at h1;rw[a j g]at l;exact h.eZ i j t h1 l
 ·obtain⟨V,v⟩:=h.ea b o hb;exact⟨V,hp.cell v⟩
 · refine {p with size:=by rw[hp.size];omega,os:=hp.os,tape:=hp.tape,output:=hp.output,dr:=hp.drawn,c9:=λk hk _=>hp.c9 hk,owned:=λi hl r=>?_,ez:=λ_ _ h=> .inl h};by_cases e:i=H.n
   ·rw[e,m]at r;omega
   · rw[a i e]at hl;exact⟨i,hl,(f i e).symm⟩
theorem Rel.LO(h:Rel F w G H)(hp:c0 w w' o):Rel F w' G H∧Step w G H w' G H:=by
 have a:GLe w G w' G:=⟨sl _,λ_ _=>rfl,λ_ _=>rfl,λ_ _ hf=>hf,λ_ _ _ _ hc=>hp.cell hc⟩
 refine⟨⟨h.n,h.over,λi=>(h.obj i).aJ a (λhl=>h.gx hl) (λhl=>hp.c9 ((h.obj i).lt hl)) λ_ _ c=>c,h.eZ,λb o hb=>?_⟩,?_⟩
 ·obtain⟨V,d⟩:=h.ea b o hb;exact⟨V,hp.cell d⟩
 ·exact {a with size:=by rw[hp.size];omega,os:=hp.os,tape:=hp.tape,output:=hp.output,dr:=hp.drawn,c9:=λk hk _=>hp.c9 hk,owned:=λi hl _=>⟨i,hl,rfl⟩,ez:=λ_ _ h=> .inl h}
theorem Rel.oK(h:Rel F w G H){b c:Nat}(hb:∀i,(H.o i).live=true→G.loc i≠b)(x:bM)(p:GLe w G w (G.more b c)→eY F w (G.more b c) H.n x) :
  GLe w G w (G.more b c)∧Rel F w (G.more b c) (H.push x):=by
 have k:GLe w G w (G.more b c):=⟨YB _,λi hi=>ab (YG hi),λi hi=>ab (YG hi),λ_ _ hf=>hf,λ_ _ _ _ hc=>hc⟩
 have hn:=h.n;have f:∀i,i≠H.n→(G.more b c).loc i=G.loc i:=λi hi=>ab (show ¬i=G.n by omega);have l:(G.more b c).loc H.n=b:=aa hn.symm;have d:∀i,i≠H.n→(H.push x).o i=H.o i:=λi hi=>ab hi;refine⟨k,⟨by show G.n+1=H.n+1;omega,λi a=>?_,λi=>?_,λi j q h1 g=>?_,h.ea⟩⟩
 · have s:H.n+1≤i:=a;rw[d i (by omega)];exact h.over i (by omega)
 · by_cases m:i=H.n
   · subst m;show eY F w _ H.n (if H.n=H.n then x else H.o H.n);rw[aa rfl];exact p k
   · rw[d i m];exact(h.obj i).aJ k (λhl=>h.gx hl) (λ_=>rfl) λ_ _ r=>r
 · by_cases a:i=H.n<;>by_cases e:j=H.n
   ·omega
   ·rw[a,l,f j e];rw[d j e]at g;exact(hb j g).symm
   ·rw[e,l,f i a];rw[d i a]at h1;exact hb i h1
   ·rw[f i a,f j e];rw[d i a]at h1;rw[d j e]at g;exact h.eZ i j q h1 g
structure jX(w w':World)(g:Nat):Prop where
 size:w'.heap.size=w.heap.size
 other:∀k,k≠g→w'.heap[k]?=w.heap[k]?
 os:w'.os=w.os
 tape:w'.tape=w.tape
 output:w'.output=w.output
 drawn:w.drawn≤w'.drawn
theorem jX.setRow(w:World)(g:Nat)(C:Array Value):jX w (w.setRow g C) g:=⟨by simp[YJ],λk hk=>by simp[YJ,YK,YL hk],rfl,rfl,rfl,sl _⟩
theorem Rel.write(h:Rel F w G H)(hl:(H.o i).live=true)(l:∀j,¬G.fz (G.loc i) j)(ht:jX w w' (G.loc i))(x:bM)(u:x.live=true)(m:GLe w G w' G→eY F w' G i x) :
  Rel F w' G (H.set i x)∧Step w G H w' G (H.set i x):=by
 have d:GLe w G w' G:=⟨sl _,λ_ _=>rfl,λ_ _=>rfl,λ_ _ hf=>hf,λb o V hf hc=>by have hb:b≠G.loc i:=λe=>l o (e▸hf);rw[YD (w:=w) (ht.other b hb)];exact hc⟩
 have v:i<H.n:=h.n▸h.gx hl;have f:∀j,j≠i→(H.set i x).o j=H.o j:=λj c=>ab c;have p:(H.set i x).o i=x:=aa rfl;refine⟨⟨h.n,λj c=>?_,λj=>?_,λj k q h1 r=>?_,λb o hb=>?_⟩,?_⟩
 · have s:H.n≤j:=c;rw[f j (by omega)];exact h.over j s
 · by_cases a:j=i
   ·subst a;rw[p];exact m d
   · rw[f j a];exact(h.obj j).aJ d (λhl=>h.gx hl) (λg=>ht.other _ (h.eZ j i a g hl)) λ_ _ hf=>hf
 · have key:∀j,((H.set i x).o j).live=true→(H.o j).live=true:=by
     intro j c;by_cases a:j=i
     ·subst a;exact hl
     ·rw[f j a]at c;exact c
   exact h.eZ j k q (key j h1) (key k r)
 · obtain⟨V,t⟩:=h.ea b o hb;exact⟨V,d.cell b o V hb t⟩
 · refine {d with size:=by rw[ht.size];exact sl _,os:=ht.os,tape:=ht.tape,output:=ht.output,dr:=ht.drawn,c9:=λk _ hn=>ht.other k (λe=>hn i hl e.symm),owned:=λj g _=>?_,ez:=λ_ _ h=> .inl h};by_cases a:j=i
   ·subst a;exact⟨j,hl,rfl⟩
   ·rw[f j a]at g;exact⟨j,g,rfl⟩
end
end Rb

namespace Rb
open Go
variable{cs:List I}{o b n:Nat}{t:TypeId}{agg:Bool}{v x:I}{X:Value}
section
variable{P:Program}{F:cz}{w:World}{G:aH}{H:Z}
def hI(F:cz)(w:World)(G:aH)(H:Z)(v:I)(H':Z)(r:Result Value):Prop:=∃V w' G',r = .ok V w'∧VR F w' G' v V∧Rel F w' G' H'∧Step w G H w' G' H'
def kZ(F:cz)(w:World)(G:aH)(b o:Nat)(cs:List I):Prop:=∀(j:Nat)(c:I),cs[j]?=some c→∃V,w.cell? ⟨b,o+j,none⟩=some V∧VR F w G c V
theorem kZ.kv(h:kZ F w G b o cs):∃Vs:List Value,aK F w G cs Vs.toArray∧∀(j:Nat)(V:Value),Vs[j]?=some V→w.cell? ((⟨b,o,none⟩:Addr).add j)=some V:=by
 refine⟨(YM cs.length).map λj=>(w.cell? ⟨b,o+j,none⟩).getD undef,aK.nq (by simp) λj c V hc a=>?_,λj V a=>?_⟩
 · obtain⟨U,f,g⟩:=h j c hc;have e:=(XV.1 hc).1;simp[e,f]at a;subst a;exact g
 · rw [kX];simp only[YN]at a;cases d:(YM cs.length)[j]? with
   |none=>simp[d]at a
   | some i=>
    have e:j<cs.length:=by have:=(XV.1 d).1;simpa using this
    have:i=j:=by simp[e]at d;exact d.symm
    subst this;simp[d]at a;obtain⟨U,f,g⟩:=h i cs[i] (YO e);rw[f]at a ⊢;simpa using a
theorem kZ.cut(h:kZ F w G b o cs)(n m:Nat):kZ F w G b (o+n) ((cs.drop n).take m):=by
 intro j c a;rw[XX]at a;split at a
 · rw[XY]at a;obtain⟨V,d,e⟩:=h _ _ a;exact⟨V,by rw[Yg];exact d,e⟩
 ·cases a
theorem CS{n o b a:Nat}(g:ib P t n agg=true)(h:bU cs o n agg=some v)(hc:kZ F w G b a cs) :
  ∃V,(loadVar t ⟨b,a+o,none⟩).run P w = .ok V w∧VR F w G v V:=by
 obtain⟨d,inf,c,hi,ha,hs,l⟩:=sV g;unfold bU at h;split at h
 · rename_i hle;cases agg with
   | true=>
    simp at h;subst h;obtain⟨Vs,e,i⟩:=(hc.cut o n).kv;have hlen:Vs.length=n:=by have:=e.1;simp at this;omega
    have f:=run_loadCells_list (P:=P) w ⟨b,a+o,none⟩ Vs i;rw[hlen]at f;refine⟨_,?_,e.agg⟩;cases d<;>simp[ia]at ha<;>simp[loadVar,isAgg,X0,typeInfo,run_underlying c,hi,hs,f]
   | false=>simp at h;obtain⟨V,j,k⟩:=hc _ _ h;refine⟨V,?_,k⟩;cases d<;>simp[ia]at ha<;>simp[loadVar,isAgg,run_underlying c,j]
 ·cases h
theorem eY.sY{i:Nat}(h:eY F w G i (.row cs)):kZ F w G (G.loc i) 0 cs:=by obtain⟨C,e,hc,hs,hz,hv⟩:=h;intro j c a;obtain⟨V,b,d⟩:=hv j c a;exact⟨V,by rw[YI,cell_of_row w _ j C e (0,0) hc];exact b,d⟩
theorem VR.LP(h:VR F w G (.ae cs) (.pointer (some ⟨b,o,none⟩))):kZ F w G b o cs:=by
 cases h with
 |ae _ b o Vs h hv=>exact λj c a=>⟨Vs j,(h j c a).2,hv j c a⟩
theorem VR.LQ(h:VR F w G (.ae cs) X):∃b o,X = .pointer (some ⟨b,o,none⟩):=by
 cases h with
 |ae _ b o Vs h hv=>exact⟨b,o,rfl⟩
theorem yb(e:ib P t n agg=true)(g:Rel F w G H)(h:O H n agg x=some v)(c:VR F w G x X) :
  ∃V,(YP t X).run P w = .ok V w∧VR F w G v V:=by
 unfold O at h;split at h
 · rename_i id o;split at h
   · rename_i cs i;have f:=g.obj id;rw[i]at f;obtain⟨V,a,d⟩:=CS e h f.sY;rw[YI]at a;cases c with
     |ptr _ _ j=>exact⟨V,by simp[YP,Yi,a],d⟩
   ·cases h
 · rename_i cs;obtain⟨b,o,rfl⟩:=c.LQ;obtain⟨V,a,d⟩:=CS e h c.LP;exact⟨V,by simp[YP,Yi];simpa using a,d⟩
 ·cases h
theorem CT(l:List I):∀(cs:List I)(o j:Nat),o+l.length≤cs.length→(setCells cs o l)[j]?=if o≤j∧j<o+l.length then l[j-o]? else cs[j]?:=by
 induction l with
 |nil=>intro cs o j _;simp[setCells];intro h1 a;omega
 | cons c l b=>
  intro cs o j hl;simp only[List.length_cons]at hl;rw[setCells,b _ _ _ (by simp;omega)];by_cases h1:j=o
  · subst h1;rw[bw,qH,YQ (by omega)];simp
  · by_cases a:o+1≤j∧j<o+1+l.length
    · rw[aa a,oL];have:j-o=(j-(o+1))+1:=by omega
      rw[this];simp
    · rw[ab a,YR (by omega),LS]
theorem yc(C:Array Value)(L:List Value)(o j:Nat)(h:o+L.length≤C.size) :
  (C.toList.take o++L++C.toList.drop (o+L.length)).toArray[j]?=if o≤j∧j<o+L.length then L[j-o]? else C[j]?:=by
 simp only[YS];rw[List.append_assoc,Yk];have a:(C.toList.take o).length=o:=by simp;omega
 rw[a];by_cases h1:j<o
 ·rw[aa h1,bw,XX,aa h1];simp
 · rw [ab h1,Yk];by_cases b:j<o+L.length
   ·rw[cG,cG]
   · rw[bw,bw,XY];have:o+L.length+(j-o-L.length)=j:=by omega
     rw[this];simp
theorem sZ{id o:Nat}{cs l:List I}{L:List Value}(g:Rel F w G H)(h:H.o id = .row cs)(hl:aK F w G l L.toArray)(p:o+l.length≤cs.length)(q:l.all I.scalar=true) :
  ∃w',(storeCells ⟨G.loc id,o,none⟩ L).run P w = .ok () w'∧Rel F w' G (H.set id (.row (setCells cs o l)))∧Step w G H w' G (H.set id (.row (setCells cs o l))):=by
 have i:=g.obj id;rw[h]at i;obtain⟨C,e,hc,hs,hz,hv⟩:=i;have v:cs.length≤C.size:=by
  rcases KT C.size cs.length with d|r
  · obtain⟨V,b,_⟩:=hv C.size cs[C.size] (YO d);simp at b
  ·exact r
 have x:l.length=L.length:=by simpa using hl.1
 have s:o+0+L.length≤C.size:=by omega
 have k:=run_storeCells_at P (G.loc id) o e L 0 C w hc s (λV b=>by
   obtain⟨j,a,rfl⟩:=YT.1 b;have m:j<l.length:=by omega
   have f:=hl.2 j l[j] L[j] (YO m) (by simp[a]);exact f.CN (YU.1 q _ (YV m)))
 simp only[Yx]at k;refine⟨_,k,?_⟩;have t:(H.o id).live=true:=by rw[h];rfl
 refine g.write t hz (jX.setRow w _ _) _ rfl λn=>⟨_,e,setRow_heap w (G.loc id) C _ e (0,0) hc,?_,hz,λj c a=>?_⟩
 ·rw[←hs];simp;omega
 · rw [CT l cs o j p]at a;rw[yc C L o j (by omega)];split at a
   · rename_i u;rw[cG];have d:j-o<L.length:=by omega
     exact⟨L[j-o],YO d,(hl.2 (j-o) c L[j-o] a (by simp[d])).mono n⟩
   · rename_i u;rw[bw];obtain⟨V,b,f⟩:=hv j c a;exact⟨V,b,f.mono n⟩
theorem LU{X V:Value}{H':Z}(a:ib P t n agg=true)(b:Rel F w G H)(h:Y H n x v=some H')(c:VR F w G x X)(hv:VR F w G v V) :
  ∃w',(YW t X V).run P w = .ok () w'∧Rel F w' G H'∧Step w G H w' G H':=by
 obtain⟨d,inf,m,hi,ha,hs,p⟩:=sV a;unfold Y at h;split at h
 · rename_i id o;split at h
   · rename_i cs e;split at h
     · rename_i hk;obtain⟨f,q,g,r⟩:=hk;cases h;have hc:=hv.x9 f;obtain⟨w',i,j⟩:=sZ (P:=P) (o:=o) (l:=v.cells) (L:=V.cells.toList) b e (by simpa using hc) (by omega) g;cases c with
       | ptr _ _ s=>
        refine⟨w',?_,j⟩;have k:V.cells.size=inf.size:=by rw[←hc.1];omega
        simp[YW,Yi,storeVar,X0,typeInfo,hi,k];exact i
     ·cases h
   ·cases h
 ·cases h
end
end Rb

namespace Rb
open Go
variable{t e:TypeId}{mu:Bool}{C:Array Value}{cs zero:List I}{inf:TypeInfo}{z X:Value}{H':Z}
section
variable{P:Program}{F:cz}{w w':World}{G:aH}{H:Z}
theorem Rel.oM(h:Rel F w G H)(j:Nat):¬G.fz w.heap.size j:=λhf=>by obtain⟨V,a⟩:=h.ea _ _ hf;have:=YE w _ a;simp at this
theorem s3(d:Rel F w G H)(hp:c0 w w' (.cells C e))(hv:∀(j:Nat)(c:I),cs[j]?=some c→∃V,C[j]?=some V∧VR F w G c V) :
  ∃G',Rel F w' G' (H.push (.row cs))∧Step w G H w' G' (H.push (.row cs))∧H.n<G'.n∧G'.loc H.n=w.heap.size∧G'.cap H.n=C.size:=by
 have hn:=d.n;have f:((G.dR w.heap.size 0 0).more w.heap.size C.size).loc H.n=w.heap.size:=aa hn.symm;have g:((G.dR w.heap.size 0 0).more w.heap.size C.size).cap H.n=C.size:=aa hn.symm;have b:=d.push hp 0 C.size (Yt _) (.row cs) ⟨C,e,by rw[f];exact hp.new,g.symm,λj a=>by
   rw[f]at a;rcases a with a|⟨_,_,a⟩
   ·exact d.oM j a
   ·omega,λj c a=>by
   obtain⟨V,h,b⟩:=hv j c a;exact⟨V,h,b.mono (GLe.ya hp _ _ _ _ _)⟩⟩
 exact⟨_,b.1,b.2,by show H.n<G.n+1;omega,f,g⟩
theorem aK.part(h:aK F w G cs C):∀(j:Nat)(c:I),cs[j]?=some c→∃V,C[j]?=some V∧VR F w G c V:=λj c a=>h.get a
theorem yd(b:Rel F w G H)(hp:c0 w w' (.cells C e))(hv:aK F w G cs C) :
  ∃G',Rel F w' G' H∧Step w G H w' G' H∧VR F w' G' (.ae cs) (.pointer (some ⟨w.heap.size,0,none⟩))∧∀len,VR F w' G' (.ak .full len cs) (.slice (some ⟨w.heap.size,0,none⟩) len len):=by
 have a:=b.frozen hp;have hc:=LN (G:=G) hp hv;exact⟨_,a.1,a.2,.ae _ _ _ _ hc.1 hc.2,λlen=> .ak _ _ _ _ _ _ _ rfl (sl _) hc.1 hc.2⟩
theorem CU{e:TypeId}{mu:Bool}(c:Rel F w G H)(hv:aK F w G cs C) :
  hI F w G H (aL H mu cs).1 (aL H mu cs).2 (.ok (.pointer (some ⟨w.heap.size,0,none⟩)) (w.alloc (.cells C e))):=by
 unfold aL;cases mu with
 | true=>obtain⟨G',a,b,hn,d,f⟩:=s3 c (c0.alloc w (.cells C e)) hv.part;exact⟨_,_,G',rfl,by rw[←d];exact .ptr _ _ hn,a,b⟩
 | false=>obtain⟨G',a,b,hp,_⟩:=yd c (c0.alloc w (.cells C e)) hv;exact⟨_,_,G',rfl,hp,a,b⟩
theorem LV{t:TypeId}{n:Nat}{x v:I}(a:Rel F w G H)(h:aO H mu n x=some (v,H'))(b:VR F w G x X) :
  hI F w G H v H' ((YX t X).run P w):=by
 unfold aO at h;split at h
 · rename_i hk;have c:=CU (e:=t) (mu:=mu) a (b.x9 hk.1);have d:(YX t X).run P w = .ok (.pointer (some ⟨w.heap.size,0,none⟩)) (w.alloc (.cells X.cells t)):=by
    simp[YX,newVar,newRow]
   rw[d];have e:=Yb.inj h;rw[show v=(aL H mu x.cells).1 from(congrArg Prod.fst e).symm,show H'=(aL H mu x.cells).2 from(congrArg Prod.snd e).symm];exact c
 ·cases h
theorem range_zero:YY 0 = #[]:=rfl
theorem LW{mu:Bool}(a:Rel F w G H)(hi:P.info? t=some inf)(hz:inf.zero=some z)(hv:aK F w G zero z.cells) :
  hI F w G H (aL H mu zero).1 (aL H mu zero).2 ((YZ t true (.tuple #[])).run P w):=by
 have b:=CU (e:=t) (mu:=mu) a hv;have c:(YZ t true (.tuple #[])).run P w = .ok (.pointer (some ⟨w.heap.size,0,none⟩)) (w.alloc (.cells z.cells t)):=by simp[YZ,zeroValue,typeInfo,hi,hz,newVar,newRow]
 rw[c];exact b
theorem LX(a:Rel F w G H)(hi:P.info? t=some inf)(hz:inf.zero=some z)(hc:z.cells = #[.pointer none,.slice none 0 0]) :
  hI F w G H (.ptr H.n 0) (H.push (.h4 t false none)) ((YZ t true (.tuple #[])).run P w):=by
 have b:(YZ t true (.tuple #[])).run P w = .ok (.pointer (some ⟨w.heap.size,0,none⟩)) (w.alloc (.cells #[.pointer none,.slice none 0 0] t)):=by simp[YZ,zeroValue,typeInfo,hi,hz,newVar,newRow,hc]
 rw[b];have hp:=c0.alloc w (.cells #[.pointer none,.slice none 0 0] t);have hn:=a.n;have c:(G.more w.heap.size 0).loc H.n=w.heap.size:=aa hn.symm;obtain ⟨b,d⟩:=a.sX hp 0 (.h4 t false none) ⟨.slice none 0 0,by rw[c];exact hp.new,λj hf=>by rw[c]at hf;exact a.oM j hf,.inl ⟨rfl,rfl⟩⟩
 refine⟨_,_,_,rfl,?_,b,d⟩;have:=VR.ptr (F:=F) (w:=w.alloc (.cells #[.pointer none,.slice none 0 0] t)) (G:=G.more w.heap.size 0) H.n 0 (show H.n<G.n+1 by omega);rw[c]at this;exact this
theorem VR.LY(h:VR F w G (.agg [.eJ,.ak .nil 0 []]) X):X = .agg #[.pointer none,.slice none 0 0]:=by
 obtain⟨Vs,rfl,hs⟩:=h.np;obtain⟨hl,hv⟩:=hs;have a:Vs.size=2:=hl.symm;have e0:=hv 0 _ Vs[0] rfl (by simp);have e1:=hv 1 _ Vs[1] rfl (by simp);have a0:Vs[0] = .pointer none:=by generalize Vs[0]=V at e0;cases e0;rfl
 have a1:Vs[1] = .slice none 0 0:=by
  generalize Vs[1]=V at e1;cases e1 with
  |e5=>rfl
  |ak _ _ _ _ _ _ _ ht=>exact absurd ht (by simp[qu])
 congr 1;apply Array.ext
 ·exact a
 · intro i h1 b;have:i=0∨i=1:=by omega
   rcases this with rfl|rfl
   ·exact a0
   ·exact a1
theorem LZ{t:TypeId}(a:Rel F w G H)(d:VR F w G (.agg [.eJ,.ak .nil 0 []]) X) :
  hI F w G H (.ptr H.n 0) (H.push (.h4 t false none)) ((YX t X).run P w):=by
 have e:=d.LY;subst e;have b:(YX t (.agg #[.pointer none,.slice none 0 0])).run P w = .ok (.pointer (some ⟨w.heap.size,0,none⟩)) (w.alloc (.cells #[.pointer none,.slice none 0 0] t)):=by simp[YX,newVar,newRow,Value.cells]
 rw[b];have hp:=c0.alloc w (.cells #[.pointer none,.slice none 0 0] t);have hn:=a.n;have c:(G.more w.heap.size 0).loc H.n=w.heap.size:=aa hn.symm;obtain ⟨b,f⟩:=a.sX hp 0 (.h4 t false none) ⟨.slice none 0 0,by rw[c];exact hp.new,λj hf=>by rw[c]at hf;exact a.oM j hf,.inl ⟨rfl,rfl⟩⟩
 refine⟨_,_,_,rfl,?_,b,f⟩;have:=VR.ptr (F:=F) (w:=w.alloc (.cells #[.pointer none,.slice none 0 0] t)) (G:=G.more w.heap.size 0) H.n 0 (show H.n<G.n+1 by omega);rw[c]at this;exact this
theorem L0{α:Type}(l:List α):∀(n i:Nat),((XS n l).flatten)[i]?=if i<n*l.length then l[i%l.length]? else none:=by
 intro n;induction n with
 |zero=>intro i;simp
 | succ n b=>
  intro i;rw[Y0,Y1,Yk];by_cases h:i<l.length
  ·rw[aa h,aa (by rw[Yu];omega),Nat.mod_eq_of_lt h]
  · rw [ab h,b];have e:i-l.length<n*l.length↔i<(n+1)*l.length:=by rw[Yu];omega
    by_cases a:i<(n+1)*l.length
    · rw[aa a,aa (e.2 a)];congr 1;rw[Nat.mod_eq_sub_mod (by omega:i≥l.length)]
    ·rw[ab a,ab (λc=>a (e.1 c))]
theorem oN{Z:Array Value}(h:aK F w G zero Z)(n:Nat):aK F w G (XS n zero).flatten ((YY (n*zero.length)).map λi=>Z[i%Z.size]!):=by
 refine⟨by simp,λj c V hc a=>?_⟩;rw[L0]at hc;split at hc
 · rename_i d;simp only[Array.getElem?_map,Array.getElem?_range,d,a_,Yc,Yb.injEq]at a;obtain⟨U,b,e⟩:=h.get hc;rw[h.1]at b;have:Z[j%Z.size]! = U:=by
    rw[getElem!_def,b]
   rw[this]at a;subst a;exact e
 ·cases hc
theorem L1{t e:TypeId}{inf:TypeInfo}{mu:Bool}{sz b:Nat}{zero:List I}{z:Value}{c:List (Nat×Nat×I)}{ps:List (Nat×Value)}{v:I}{H':Z}(m:Rel F w G H)
  (ht:P.underlying t=some (.slice e)) (hi:P.info? e=some inf) (hs:inf.size=sz) (hz:inf.zero=some z) (n:aK F w G zero z.cells) (o:zero.length=sz) (J:b*sz≤16777216)
  (hl:c.length=ps.length) (q:∀(j:Nat)(a:Nat×Nat×I)(p:Nat×Value),c[j]?=some a→ps[j]?=some p→(p.1*sz,sz)=(a.1,a.2.1)∧VR F w G a.2.2 p.2)
  (h:dk H mu sz b zero c=some (v,H')):hI F w G H v H' ((Y2 t b ps.toArray).run P w):=by
 unfold dk at h;cases hf:iD (XS b zero).flatten c with
 |none=>simp[hf]at h
 | some cells=>
  simp only[hf,Yc,Yb.injEq]at h;have r:=oN n b;obtain ⟨C,d,f⟩:=CQ (place:=λi=>some (i*sz,sz)) c ps _ _ _ r hl (λj a p ha hp=>by obtain⟨h1,s⟩:=q j a p ha hp;exact⟨by rw[h1],s⟩) hf
  have u:¬(16777216<b*inf.size):=by rw[hs];omega
  have x:(Y2 t b ps.toArray).run P w = .ok (.slice (some ⟨w.heap.size,0,none⟩) b b) (w.alloc (.cells C e)):=by
   rw[o]at d;subst hs;by_cases g:b*inf.size=0
   · have y:Yw (λi=>some (i*inf.size,inf.size)) #[] ps=some C:=by
       rw[g,range_zero]at d;simpa using d
     simp[Y2,run_underlying ht,X0,typeInfo,hi,g,range_zero,y,newRow]
   ·simp[Y2,run_underlying ht,X0,typeInfo,zeroValue,hi,hz,g,u,d,newRow]
  rw[x];cases mu with
  | true=>
   simp at h;obtain⟨rfl,rfl⟩:=h;obtain⟨G',k,l,hn,A,B⟩:=s3 m (c0.alloc w (.cells C e)) f.part;refine⟨_,_,G',rfl,?_,k,l⟩;rw[←A];refine .row _ _ _ _ _ hn (sl _) ?_;have:=oN n b;rw[B,←f.1];have hlen:∀(c:List (Nat×Nat×I)) (cs cs':List I),iD cs c=some cs'→cs'.length=cs.length:=by
    intro c;induction c with
    |nil=>intro cs cs' h;cases h;rfl
    | cons a c D=>
     intro cs cs' h;simp only[iD]at h;split at h
     ·rw[D _ _ h,LK]
     ·cases h
   rw[hlen _ _ _ hf];simp[o]
  | false=>simp at h;obtain⟨rfl,rfl⟩:=h;obtain⟨G',k,l,_,E⟩:=yd m (c0.alloc w (.cells C e)) f;exact⟨_,_,G',rfl,E b,k,l⟩
theorem L2{t e:TypeId}{inf:TypeInfo}{mu:Bool}{sz bytes:Nat}{zero:List I}{z:Value}{d cap v:I}{L f:Value}{H':Z}(g:Rel F w G H)
  (ht:P.underlying t=some (.slice e)) (hi:P.info? e=some inf) (hs:inf.size=sz) (hb:inf.bytes=bytes) (hz:inf.zero=some z) (s:aK F w G zero z.cells)
  (h:kr H mu sz bytes zero d cap=some (v,H')) (hl:VR F w G d L) (hc:VR F w G cap f):hI F w G H v H' ((Y3 t L f).run P w):=by
 unfold kr at h;split at h
 · rename_i n c;obtain rfl:=hl.e8;obtain rfl:=hc.e8;split at h
   · rename_i hk;obtain⟨j,u,D,E,k⟩:=hk;obtain⟨n',rfl⟩:=Y4 j;obtain⟨c',rfl⟩:=Y4 (Int.le_trans j u);have x:n'≤c':=by omega
     have w1:Y5.wrap (n':Int)=n':=by simp[Y6,X9,X8];omega
     have w2:Y5.wrap (c':Int)=c':=by simp[Y6,X9,X8];omega
     have l:=oN s c';have m:¬(281474976710656<(inf.bytes:Int)*(c':Int)):=by rw[hb];omega
     have o:¬((n':Int)<0):=by omega
     have p:¬((c':Int)<0):=by omega
     have q:¬(c'<n'):=by omega
     have y:(Y3 t (.int .i64 n') (.int .i64 c')).run P w =
       .ok (.slice (some ⟨w.heap.size,0,none⟩) n' c') (w.alloc (.cells ((YY (c'*zero.length)).map λi=>z.cells[i%z.cells.size]!) e)):=by
      rw[k];subst hs;by_cases r:c'*inf.size=0
      ·simp[Y3,run_underlying ht,asInt,asIntOf,typeInfo,X0,hi,w1,w2,m,o,p,q,r,range_zero,newRow]
      ·simp[Y3,run_underlying ht,asInt,asIntOf,typeInfo,X0,zeroValue,hi,hz,w1,w2,m,o,p,q,r,newRow]
     rw[y];simp only[Y7]at h;cases mu with
     | true=>simp at h;obtain⟨rfl,rfl⟩:=h;obtain⟨G',a,b,hn,A,B⟩:=s3 g (c0.alloc w (.cells _ e)) l.part;refine⟨_,_,G',rfl,?_,a,b⟩;rw[←A];refine .row _ _ _ _ _ hn x ?_;rw[B];simp[k]
     | false=>
      simp at h;obtain⟨J,rfl,rfl⟩:=h;obtain rfl:n'=c':=by omega
      obtain⟨G',a,b,_,C⟩:=yd g (c0.alloc w (.cells _ e)) l;exact⟨_,_,G',rfl,C n',a,b⟩
   ·cases h
 ·cases h
end
end Rb

namespace Rb
open Go
variable{sz m:Nat}{L M:List Value}{e:TypeId}{cs news:List I}{y:I}{Y z:Value}{C:Array Value}
section
variable{P:Program}{F:cz}{w w':World}{G:aH}{H:Z}
theorem Rel.pass(h:Rel F w G H){i:Nat}(hl:(H.o i).live=true)(ht:jX w w' (G.loc i))(lo hi:Nat)(q:GLe w G w' ((G.dR (G.loc i) lo hi).more (G.loc i) (G.cap i)))(x:bM)
  (v:eY F w' ((G.dR (G.loc i) lo hi).more (G.loc i) (G.cap i)) H.n x) (hf:∀o,lo≤o→o<hi→∃V,w'.cell? ⟨G.loc i,o,none⟩=some V) :
  Rel F w' ((G.dR (G.loc i) lo hi).more (G.loc i) (G.cap i)) ((H.set i .gone).push x)∧Step w G H w' ((G.dR (G.loc i) lo hi).more (G.loc i) (G.cap i)) ((H.set i .gone).push x):=by
 have hn:=h.n;have I:i<H.n:=h.n▸h.gx hl;have g:∀j,j≠H.n→((G.dR (G.loc i) lo hi).more (G.loc i) (G.cap i)).loc j=G.loc j:=λj t=>ab (show ¬j=G.n by omega);have r:((G.dR (G.loc i) lo hi).more (G.loc i) (G.cap i)).loc H.n=G.loc i:=aa hn.symm;have y:((H.set i .gone).push x).o H.n=x:=aa rfl;have u:((H.set i .gone).push x).o i = .gone:=by show(if i=H.n then x else(if i=i then bM.gone else H.o i)) = .gone;rw[bw,aa rfl]
 have s:∀j,j≠H.n→j≠i→((H.set i .gone).push x).o j=H.o j:=by intro j h1 a;show(if j=H.n then x else(if j=i then bM.gone else H.o j))=H.o j;rw[ab h1,ab a]
 have l:∀j,j≠H.n→(((H.set i .gone).push x).o j).live=true→(H.o j).live=true∧j≠i:=by
  intro j h1 a;by_cases c:j=i
  ·rw[c,u]at a;cases a
  ·rw[s j h1 c]at a;exact⟨a,c⟩
 refine⟨⟨by show G.n+1=H.n+1;omega,λj t=>?_,λj=>?_,λj k z h1 a=>?_,λb o hb=>?_⟩,?_⟩
 · have J:H.n+1≤j:=t;rw[s j (by omega) (by omega)];exact h.over j (by omega)
 · by_cases f:j=H.n
   ·subst f;rw[y];exact v
   · by_cases c:j=i
     ·rw[c,u];trivial
     · rw[s j f c];refine(h.obj j).aJ q (λd=>h.gx d) (λd=>ht.other _ (h.eZ j i c d hl)) λd k hk=>?_;rcases hk with hk|⟨hk,_⟩
       ·exact hk
       ·exact absurd hk (h.eZ j i c d hl)
 · by_cases m:j=H.n<;>by_cases p:k=H.n
   ·omega
   · obtain⟨A,B⟩:=l k p a;rw[m,r,g k p];exact(h.eZ k i B A hl).symm
   · obtain⟨C,D⟩:=l j m h1;rw[p,r,g j m];exact h.eZ j i D C hl
   ·rw[g j m,g k p];exact h.eZ j k z (l j m h1).1 (l k p a).1
 · rcases hb with hb|⟨rfl,h1,a⟩
   · obtain⟨V,E⟩:=h.ea b o hb;exact⟨V,q.cell b o V hb E⟩
   ·exact hf o h1 a
 · refine {q with size:=by rw[ht.size];exact sl _,os:=ht.os,tape:=ht.tape,output:=ht.output,dr:=ht.drawn,c9:=λk _ hn=>ht.other k (λe=>hn i hl e.symm),owned:=λj d _=>?_,ez:=λb o hf=>hf.imp id λhf=> .inr ⟨i,hl,hf.1.symm⟩};by_cases f:j=H.n
   ·rw[f,r];exact⟨i,hl,rfl⟩
   ·exact⟨j,(l j f d).1,(g j f).symm⟩
theorem CV(t ty e f:TypeId)(i:TypeInfo)(ht:P.underlying t=some (.slice e))(hi:P.info? e=some i)
  (g b d:Nat) (cur:Array Value) (k:w.heap[g]?=some (.cells cur f (0,0)))
  (a:Addr) (m c:Nat) (news:List Value) (hl:news.length=m*i.size) (l:∀(j:Nat)(u:Value),news[j]?=some u→w.cell? (a.add j)=some u) (h1:∀u∈news,u.oneCell'=true)
  (n:b+m≤d) (o:b*i.size+news.length≤cur.size) :
  (Y8 #[t,t] ty #[.slice (some ⟨g,0,none⟩) b d,.slice (some a) m c]).run P w =
   .ok (.slice (some ⟨g,0,none⟩) (b+m) d) (w.setRow g (cur.toList.take (b*i.size)++news++cur.toList.drop (b*i.size+news.length)).toArray):=by
 have hf:=run_firstCells_some (P:=P) w i.size m a m c news hl l;have h:=run_storeCells_at P g (b*i.size) f news 0 cur w k (by simpa using o) h1;simp only[Yx]at h;simp[Y8,run_underlying ht,X0,typeInfo,hi,Y9,n,hf,Y_,h]
theorem L3(t ty e:TypeId)(i:TypeInfo)(ht:P.underlying t=some (.slice e))(hi:P.info? e=some i)
  (g b d:Nat) (a:Addr) (m c:Nat) (news:List Value) (hl:news.length=m*i.size) (f:∀(j:Nat)(u:Value),news[j]?=some u→w.cell? (a.add j)=some u)
  (h:b+m≤d) (k:(storeCells ⟨g,b*i.size,none⟩ news).run P w = .ok () w') :
  (Y8 #[t,t] ty #[.slice (some ⟨g,0,none⟩) b d,.slice (some a) m c]).run P w = .ok (.slice (some ⟨g,0,none⟩) (b+m) d) w':=by
 have hf:=run_firstCells_some (P:=P) w i.size m a m c news hl f;simp[Y8,run_underlying ht,X0,typeInfo,hi,Y9,h,hf,Y_,k]
theorem ye(i:Rel F w G H)(h:fi H sz y=some (m,news))(d:VR F w G y Y) :
  news.length=m*sz∧∃e c,Y = .slice e m c∧(0<m→∃b o,e=some ⟨b,o,none⟩∧kZ F w G b o news):=by
 unfold fi at h;split at h
 · rename_i tk len cells;split at h
   · rename_i hlen;cases h;refine⟨hlen,?_⟩;cases d with
     |e5=>exact⟨_,_,rfl,λh=>absurd h (by omega)⟩
     |e6 a cap=>exact⟨_,_,rfl,λh=>absurd h (by omega)⟩
     |ak _ _ _ b o cap Vs ht hle h hv=>exact⟨_,_,rfl,λ_=>⟨b,o,rfl,λj c f=>⟨Vs j,(h j c f).2,hv j c f⟩⟩⟩
   ·cases h
 · rename_i id o len l;split at h
   · rename_i cs k;split at h
     · rename_i hle;cases h;refine⟨by simp;omega,?_⟩;have g:=i.obj id;rw[k]at g;cases d with
       | row _ _ _ _ cap n p q=>refine⟨_,_,rfl,λ_=>⟨_,_,rfl,?_⟩⟩;have:=g.sY.cut o (m*sz);rw[YI]at this;exact this
     ·cases h
   ·cases h
 ·cases h
theorem CW{l:List I}(hl:aK F w G l L.toArray)(b:l.all I.scalar=true):∀V∈L,V.oneCell'=true:=by
 intro V c;obtain⟨j,d,rfl⟩:=YT.1 c;have a:j<l.length:=by have:=hl.1;simp at this;omega
 exact(hl.2 j l[j] L[j] (YO a) (by simp[d])).CN (YU.1 b _ (YV a))
theorem yf{cap sz:Nat}(d:Rel F w G H)(hp:c0 w w' (.cells C e))(hv:∀(j:Nat)(c:I),cs[j]?=some c→∃V,C[j]?=some V∧VR F w G c V)
  (g:C.size=cap*sz) (len:Nat) (hlen:cs.length=len*sz) (hle:len≤cap) :
  ∃G',Rel F w' G' (H.push (.tok (len*sz) sz))∧Step w G H w' G' (H.push (.tok (len*sz) sz))∧VR F w' G' (.ak (.own H.n) len cs) (.slice (some ⟨w.heap.size,0,none⟩) len cap):=by
 have hn:=d.n;have f:((G.dR w.heap.size 0 (len*sz)).more w.heap.size cap).loc H.n=w.heap.size:=aa hn.symm;have h:((G.dR w.heap.size 0 (len*sz)).more w.heap.size cap).cap H.n=cap:=aa hn.symm;have i:len*sz≤C.size:=by rw[g];exact Za _ hle
 have l:=GLe.ya (G:=G) hp w.heap.size 0 (len*sz) w.heap.size cap;have b:=d.push hp (len*sz) cap i (.tok (len*sz) sz) ⟨C,e,by rw[f];exact hp.new,by rw[h];exact g,i,λj a hf=>by
   rw[f]at hf;rcases hf with hf|⟨_,_,hf⟩
   ·exact d.oM j hf
   ·omega⟩
 have key:∀(j:Nat)(c:I),cs[j]?=some c→C[j]?=some (C.getD j undef)∧j<len*sz∧VR F w G c (C.getD j undef):=by
  intro j c a;obtain⟨V,k,b⟩:=hv j c a;have o:j<cs.length:=(XV.1 a).1;have m:C.getD j undef=V:=by simp[Zb,k]
  rw[m];exact⟨k,by omega,b⟩
 refine⟨_,b.1,b.2,.ak _ _ _ _ _ _ (λj=>C.getD j undef) ⟨by show H.n<G.n+1;omega,f,rfl,h⟩ hle (λj c a=>?_) λj c a=>(key j c a).2.2.mono l⟩;rw[YI];exact⟨.inr ⟨rfl,Yt _,(key j c a).2.1⟩,by rw[cell_of_row w' _ j C e (0,0) hp.new];exact(key j c a).1⟩
theorem s4{cap sz:Nat}(a:Rel F w G H)(hp:c0 w w' (.cells C e))(hv:∀(j:Nat)(c:I),cs[j]?=some c→∃V,C[j]?=some V∧VR F w G c V)
  (b:C.size=cap*sz) (len:Nat) (hle:len≤cap) :
  ∃G',Rel F w' G' (H.push (.row cs))∧Step w G H w' G' (H.push (.row cs))∧VR F w' G' (.row H.n 0 len sz) (.slice (some ⟨w.heap.size,0,none⟩) len cap):=by
 obtain⟨G',d,f,hn,g,h⟩:=s3 a hp hv;refine⟨G',d,f,?_⟩;rw[←g];exact .row _ _ _ _ _ hn hle (by rw[h,b];omega)
theorem oO{Z:Array Value}(h:aK F w G cs L.toArray)(k:aK F w G news M.toArray) :
  ∀(j:Nat)(c:I),(cs++news)[j]?=some c→∃V,(L.toArray++M.toArray++Z)[j]?=some V∧VR F w G c V:=by
 intro j c b;obtain⟨V,a,d⟩:=(h.app k).get b;refine⟨V,?_,d⟩;rw[Yl,aa (YF.1 a).1];exact a
theorem oP{sz n m cap:Nat}(a:L.length=n*sz)(b:M.length=m*sz)(hz:z.cells.size=sz)(c:n+m≤cap) :
  (L.toArray++M.toArray++Zc z.cells (cap-(n+m))).size=cap*sz:=by
 simp only[Zd,List.size_toArray,size_zeroCells,hz,a,b,←Yu];congr 1;omega
theorem L4{t e ty:TypeId}{d:TypeInfo}{mu:Bool}{sz bytes:Nat}{z:Value}{x y v:I}{X Y:Value}{H':Z}(f:Rel F w G H)
  (ht:P.underlying t=some (.slice e)) (hi:P.info? e=some d) (hs:d.size=sz) (hb:d.bytes=bytes) (hz:d.zero=some z) (U:z.cells.size=sz) (aH:0<sz)
  (h:cr H mu sz bytes x y=some (v,H')) (O:VR F w G x X) (aI:VR F w G y Y):hI F w G H v H' ((Y8 #[t,t] ty #[X,Y]).run P w):=by
 subst hs;subst hb;unfold cr at h;split at h
 ·cases h
 · rename_i m news aJ;obtain⟨az,aA,c,rfl,aB⟩:=ye f aJ aI;split at h
   ·cases h
   · rename_i W;simp only[Bool.not_eq_true,Bool.not_eq_false]at W;have W:news.all I.scalar=true:=by simpa using W
     have zero:∀(a:Option Addr)(len cap:Nat),len≤cap→m=0→(∀u,a=some u→u.spot=none∨True)→(Y8 #[t,t] ty #[.slice a len cap,.slice aA m c]).run P w = .ok (.slice a len cap) w:=by intro a len cap hle hm _;subst hm;cases a<;>cases aA<;>simp[Y8,run_underlying ht,X0,typeInfo,hi,Y9,Ze,loadCells,loadCellsFrom,storeCells,hle]
     split at h
     · rename_i tk len cells;split at h
       · rename_i hm;cases h;cases O with
         |e5=>rw[zero _ _ _ (sl _) hm (λ_ _=> .inr trivial)];exact⟨_,_,G,rfl,.e5,f,Step.refl _ _ _⟩
         |e6 a cap=>rw[zero _ _ _ (Yt _) hm (λ_ _=> .inr trivial)];exact⟨_,_,G,rfl,.e6 _ _,f,Step.refl _ _ _⟩
         |ak _ _ _ b o cap Vs A hle h hv=>rw[zero _ _ _ hle hm (λ_ _=> .inr trivial)];exact⟨_,_,G,rfl,.ak _ _ _ _ _ _ Vs A hle h hv,f,Step.refl _ _ _⟩
       · rename_i hm;obtain⟨bs,os,rfl,ao⟩:=aB (by omega);obtain⟨M,r,R⟩:=ao.kv;have q:M.length=m*d.size:=by have:=r.1;simp at this;omega
         split at h
         ·cases h
         · rename_i hk;simp only[Zf]at hk;obtain⟨ap,aj,aL⟩:=hk;have aC:∀(hlen:len=0),(Y8 #[t,t] ty #[.slice none 0 0,.slice (some ⟨bs,os,none⟩) m c]).run P w =
             .ok (.slice (some ⟨w.heap.size,0,none⟩) (len+m) (grownCap w (len+m) 0 e)) (w.drew.alloc (.cells (([]:List Value).toArray++M.toArray++Zc z.cells (grownCap w (len+m) 0 e-(len+m))) e)):=by
            intro hlen;subst hlen;have:=run_append_nil (P:=P) w t ty e d z ht hi hz ⟨bs,os,none⟩ m c M q R (by omega) (by omega) (by simp only[YI]at aj;omega);simpa using this
           have aq:∀(b o cap:Nat)(L:List Value),L.length=len*d.size→(∀(j:Nat)(V:Value),L[j]?=some V→w.cell? ((⟨b,o,none⟩:Addr).add j)=some V)→cap<len+m →
             (Y8 #[t,t] ty #[.slice (some ⟨b,o,none⟩) len cap,.slice (some ⟨bs,os,none⟩) m c]).run P w =
             .ok (.slice (some ⟨w.heap.size,0,none⟩) (len+m) (grownCap w (len+m) cap e)) (w.drew.alloc (.cells (L.toArray++M.toArray++Zc z.cells (grownCap w (len+m) cap e-(len+m))) e)):=by
            intro b o cap L s B Q;exact run_append_grow (P:=P) w t ty e d z ht hi hz ⟨b,o,none⟩ len cap L s B ⟨bs,os,none⟩ m c M q R Q (by omega) (growslice_fits Q aj)
           have ar:(cells++news).length=(len+m)*d.size:=by rw[List.length_append,ap,az,Yu]
           have au:∀{b o:Nat}{Vs:Nat→Value},(∀(j:Nat)(c:I),cells[j]?=some c→G.fz b (o+j)∧w.cell? ⟨b,o+j,none⟩=some (Vs j))→(∀(j:Nat)(c:I),cells[j]?=some c→VR F w G c (Vs j)) →
             ∃L:List Value,aK F w G cells L.toArray∧L.length=len*d.size∧∀(j:Nat)(V:Value),L[j]?=some V→w.cell? ((⟨b,o,none⟩:Addr).add j)=some V:=by
            intro b o Vs h1 av;obtain⟨L,s,B⟩:=(show kZ F w G b o cells from λj c g=>⟨Vs j,(h1 j c g).2,av j c g⟩).kv;exact⟨L,s,by have:=s.1;simp at this;omega,B⟩
           split at h
           ·
             cases h;cases O with
             | e5=>rw[aC rfl];obtain⟨G',p,D,hv⟩:=s4 f (c0.drew w _) (oO aK.nil r) (oP (n:=0) (by simp) q U (grownCap_ge w _ _ _)) (0+m) (grownCap_ge w _ _ _);exact⟨_,_,G',rfl,hv,p,D⟩
             |ak _ _ _ b o cap Vs A hle h hv=>exact A.elim
           ·
             cases h;cases O with
             | ak _ _ _ b o cap Vs A hle h hv=>obtain⟨L,s,E,B⟩:=au h hv;rw[aq b o cap L E B (by have:cap=len:=A;omega)];obtain⟨G',p,D,hv⟩:=s4 f (c0.drew w _) (oO s r) (oP E q U (grownCap_ge w _ _ _)) (len+m) (grownCap_ge w _ _ _);exact⟨_,_,G',rfl,hv,p,D⟩
           ·
             cases h;cases O with
             | e5=>rw[aC rfl];obtain⟨G',p,D,hv⟩:=yf f (c0.drew w _) (oO aK.nil r) (oP (n:=0) (by simp) q U (grownCap_ge w _ _ _)) (0+m) (by simpa using ar) (grownCap_ge w _ _ _);exact⟨_,_,G',rfl,hv,p,D⟩
             |ak _ _ _ b o cap Vs A hle h hv=>exact A.elim
           ·
             cases h;cases O with
             | ak _ _ _ b o cap Vs A hle h hv=>obtain⟨L,s,E,B⟩:=au h hv;rw[aq b o cap L E B (by have:cap=len:=A;omega)];obtain⟨G',p,D,hv⟩:=yf f (c0.drew w _) (oO s r) (oP E q U (grownCap_ge w _ _ _)) (len+m) ar (grownCap_ge w _ _ _);exact⟨_,_,G',rfl,hv,p,D⟩
           ·
             rename_i tid;split at h
             · rename_i k aM aD;split at h
               · rename_i hk;obtain⟨rfl,rfl⟩:=hk;cases h;have aw:(H.o tid).live=true:=by rw[aD];rfl
                 have ae:=f.obj tid;rw[aD]at ae;obtain⟨C,K,S,ac,aS,aE⟩:=ae;cases O with
                 | ak _ _ _ b o cap Vs A hle h hv=>
                  obtain⟨aN,rfl,rfl,rfl⟩:=A;obtain⟨L,s,E,B⟩:=au h hv;by_cases N:len+m≤G.cap tid
                  · have af:len*d.size+M.length≤C.size:=by rw[q,ac,←Yu];exact Za _ N
                    rw[CV t ty e K d ht hi (G.loc tid) len (G.cap tid) C S ⟨bs,os,none⟩ m c M q R (CW r W) N af];have hn:=f.n;have aO:=yc C M (len*d.size);have al:=setRow_heap w (G.loc tid) C (C.toList.take (len*d.size)++M++C.toList.drop (len*d.size+M.length)).toArray K (0,0) S;have am:∀j,(w.setRow (G.loc tid) (C.toList.take (len*d.size)++M++C.toList.drop (len*d.size+M.length)).toArray).cell? ⟨G.loc tid,j,none⟩=if len*d.size≤j∧j<len*d.size+M.length then M[j-len*d.size]? else C[j]?:=by intro j;rw[cell_of_row _ _ j _ K (0,0) al];exact aO j af
                    have T:((G.dR (G.loc tid) (len*d.size) ((len+m)*d.size)).more (G.loc tid) (G.cap tid)).loc H.n=G.loc tid:=aa hn.symm;have Q:((G.dR (G.loc tid) (len*d.size) ((len+m)*d.size)).more (G.loc tid) (G.cap tid)).cap H.n=G.cap tid:=aa hn.symm;have aT:(len+m)*d.size=len*d.size+M.length:=by rw[q,Yu]
                    have ad:GLe w G (w.setRow (G.loc tid) (C.toList.take (len*d.size)++M++C.toList.drop (len*d.size+M.length)).toArray) ((G.dR (G.loc tid) (len*d.size) ((len+m)*d.size)).more (G.loc tid) (G.cap tid)):=
                     ⟨YB _,λi hi=>ab (YG hi),λi hi=>ab (YG hi),λ_ _ hf=> .inl hf,λb o V hf hc=>by
                       by_cases hb:b=G.loc tid
                       · subst hb;have ag:o<len*d.size:=by
                          rcases KT o (len*d.size)with ax|ax
                          ·exact ax
                          ·exact absurd hf (aE o ax)
                         rw[am,bw];rw[cell_of_row w _ o C K (0,0) S]at hc;exact hc
                       ·rw[YD (w:=w) ((jX.setRow w _ _).other b hb)];exact hc⟩
                    have ah:=f.pass aw (jX.setRow w _ _) (len*d.size) ((len+m)*d.size) ad (.tok ((len+m)*d.size) d.size)
                     ⟨_,K,by rw[T];exact al,by rw[Q,←ac];simp;omega,by simp;omega,λj g hf=>by
                       rw[T]at hf;rcases hf with hf|⟨_,_,hf⟩
                       ·exact aE j (by omega) hf
                       ·omega⟩
                     (λo h1 av=>⟨M[o-len*d.size],by rw[am,cG];exact YO (by omega)⟩)
                    refine⟨_,_,_,rfl,?_,ah.1,ah.2⟩;have key:∀(j:Nat)(c:I),(cells++news)[j]?=some c→((G.dR (G.loc tid) (len*d.size) ((len+m)*d.size)).more (G.loc tid) (G.cap tid)).fz (G.loc tid) (0+j) ∧
                      ∃V,(w.setRow (G.loc tid) (C.toList.take (len*d.size)++M++C.toList.drop (len*d.size+M.length)).toArray).cell? ⟨G.loc tid,0+j,none⟩=some V∧VR F w G c V:=by
                     intro j c g;rw[Yk]at g;rw[YI];split at g
                     · rename_i ai;have h1:=h j c g;rw[YI]at h1;refine⟨.inl h1.1,Vs j,?_,hv j c g⟩;rw[am,bw];rw[cell_of_row w _ j C K (0,0) S]at h1;exact h1.2
                     · rename_i ay;obtain⟨V,J,p⟩:=r.get g;have ai:=(XV.1 g).1;refine⟨.inr ⟨rfl,by omega,by omega⟩,V,?_,p⟩;rw[am,cG,←ap];simpa using J
                    refine .ak _ _ _ (G.loc tid) 0 (G.cap tid) (λj=>((w.setRow (G.loc tid) (C.toList.take (len*d.size)++M++C.toList.drop (len*d.size+M.length)).toArray).cell? ⟨G.loc tid,0+j,none⟩).getD undef) ⟨by show H.n<G.n+1;omega,T,rfl,Q⟩ N (λj c g=>?_) λj c g=>?_
                    · obtain⟨h1,V,J,_⟩:=key j c g;exact⟨h1,by rw[J];rfl⟩
                    · obtain⟨h1,V,J,p⟩:=key j c g;rw[J];exact p.mono ad
                  · rw[aq (G.loc tid) 0 (G.cap tid) L E B (by omega)];have hk:=f.kill tid (f.n▸aN);obtain⟨G',p,D,hv⟩:=yf hk.1 (c0.drew w _) (oO s r) (oP E q U (grownCap_ge w _ _ _)) (len+m) ar (grownCap_ge w _ _ _);exact⟨_,_,G',rfl,hv,p,hk.2.trans D⟩
               ·cases h
             ·cases h
           ·cases h
     · rename_i id o len aM;split at h
       · rename_i cs ag;split at h
         · rename_i hm;cases h;cases O with
           |row _ _ _ _ cap an hle hc=>rw[zero _ _ _ hle hm (λ_ _=> .inr trivial)];exact⟨_,_,G,rfl,.row _ _ _ _ _ an hle hc,f,Step.refl _ _ _⟩
         · rename_i hm;obtain⟨bs,os,rfl,ao⟩:=aB (by omega);obtain⟨M,r,R⟩:=ao.kv;have q:M.length=m*d.size:=by have:=r.1;simp at this;omega
           split at h
           ·cases h
           · rename_i hk;simp only[Zf]at hk;obtain⟨rfl,rfl,aj,aL⟩:=hk;have aw:(H.o id).live=true:=by rw[ag];rfl
             have ae:=f.obj id;rw[ag]at ae;obtain⟨C,K,S,ac,aF,aG⟩:=ae;have ap:cs.length≤C.size:=by
              rcases KT C.size cs.length with ai|ay
              · obtain⟨V,J,_⟩:=aG C.size cs[C.size] (YO ai);simp at J
              ·exact ay
             cases O with
             | row _ _ _ _ cap an hle hc=>
              rw[YI]at hc;split at h
              · rename_i aP;cases h;have N:len+m≤cap:=by
                 have:(len+m)*d.size≤cap*d.size:=by rw[hc,←ac];omega
                 exact Nat.le_of_mul_le_mul_right this aH
                obtain⟨w1,aQ,dC⟩:=sZ (P:=P) (o:=len*d.size) (l:=news) (L:=M) f ag r (by rw[az,←Yu];exact aP) W;rw[L3 t ty e d ht hi (G.loc id) len cap ⟨bs,os,none⟩ m c M q R N aQ];exact⟨_,_,G,rfl,.row _ _ _ _ _ an N (by rw[YI];exact hc),dC.1,dC.2⟩
              · split at h
                · rename_i aU aV;cases h;by_cases N:len+m≤cap
                  · have af:len*d.size+M.length≤C.size:=by rw[q,ac,←hc,←Yu];exact Za _ N
                    rw[CV t ty e K d ht hi (G.loc id) len cap C S ⟨bs,os,none⟩ m c M q R (CW r W) N af];have hn:=f.n;have al:=setRow_heap w (G.loc id) C (C.toList.take (len*d.size)++M++C.toList.drop (len*d.size+M.length)).toArray K (0,0) S;have T:((G.dR (G.loc id) 0 0).more (G.loc id) (G.cap id)).loc H.n=G.loc id:=aa hn.symm;have Q:((G.dR (G.loc id) 0 0).more (G.loc id) (G.cap id)).cap H.n=G.cap id:=aa hn.symm;have ad:GLe w G (w.setRow (G.loc id) (C.toList.take (len*d.size)++M++C.toList.drop (len*d.size+M.length)).toArray) ((G.dR (G.loc id) 0 0).more (G.loc id) (G.cap id)):=
                     ⟨YB _,λi hi=>ab (YG hi),λi hi=>ab (YG hi),λ_ _ hf=> .inl hf,λb o V hf hc=>by have hb:b≠G.loc id:=λe=>aF o (e▸hf);rw[YD (w:=w) ((jX.setRow w _ _).other b hb)];exact hc⟩
                    have ah:=f.pass aw (jX.setRow w _ _) 0 0 ad (.row (cs++news))
                     ⟨_, K,by rw[T];exact al,by rw[Q,←ac];simp;omega,λj hf=>by
                       rw[T]at hf;rcases hf with hf|⟨_,_,hf⟩
                       ·exact aF j hf
                       ·omega,λj c g=>by
                       rw[yc C M (len*d.size) j af];rw[Yk]at g;split at g
                       · rename_i ai;rw[bw];obtain⟨V,J,p⟩:=aG j c g;exact⟨V,J,p.mono ad⟩
                       · rename_i ay;have ai:=(XV.1 g).1;rw[cG,show j-len*d.size=j-cs.length by omega];obtain⟨V,J,p⟩:=r.get g;exact⟨V,by simpa using J,p.mono ad⟩⟩
                     (λo h1 av=>by omega)
                    refine⟨_,_,_,rfl,?_,ah.1,ah.2⟩;have:=VR.row (F:=F) (w:=w.setRow (G.loc id) (C.toList.take (len*d.size)++M++C.toList.drop (len*d.size+M.length)).toArray) (G:=(G.dR (G.loc id) 0 0).more (G.loc id) (G.cap id)) H.n 0 (len+m) d.size cap (by show H.n<G.n+1;omega) N (by rw[Q,YI];exact hc);rw[T]at this;exact this
                  · have aR:=(show eY F w G id (.row cs) by have:=f.obj id;rw[ag]at this;exact this).sY;obtain⟨L,s,B⟩:=aR.kv;have E:L.length=len*d.size:=by have:=s.1;simp at this;omega
                    rw[run_append_grow (P:=P) w t ty e d z ht hi hz ⟨G.loc id,0,none⟩ len cap L E B ⟨bs,os,none⟩ m c M q R (by omega) (by omega) (growslice_fits (by omega) aj)];have hk:=f.kill id (f.n▸an);obtain⟨G',p,D,hv⟩:=s4 hk.1 (c0.drew w _) (oO s r) (oP E q U (grownCap_ge w _ _ _)) (len+m) (grownCap_ge w _ _ _);exact⟨_,_,G',rfl,hv,p,hk.2.trans D⟩
                ·cases h
       ·cases h
     ·cases h
end
end Rb

namespace Rb
open Go
variable{x v:I}{X:Value}{src dst e t:TypeId}{H':Z}
section
variable{P:Program}{F:cz}{w:World}{G:aH}{H:Z}
theorem c0.mark(w:World)(o:Obj):c0 w (w.drew.alloc o) o:=⟨rfl,rfl,rfl,rfl,YB _⟩
theorem L5{x v:I}{X:Value}(i:Rel F w G H)(hs:P.underlying src=some .string)(k:P.underlying dst=some (.slice e))(l:P.underlying e=some (.int .u8))
  (h:oD x=some v) (m:VR F w G x X):hI F w G H v H ((convert src dst X).run P w):=by
 unfold oD at h;split at h
 · rename_i s;cases h;obtain rfl:=m.iJ;have d:=run_bytes_of_string (P:=P) w src dst e ⟨s.toArray⟩ hs k l;generalize n:grownCap w (X5 ⟨s.toArray⟩) 0 e=cap at d;have f:(X4 s.toArray).size=s.length:=by simp[X5]
   rw[d,f];have hle:s.length≤cap:=by rw[←n,←f];exact grownCap_ge w _ 0 e
   have hp:=c0.mark w (.cells (bytesRow ⟨s.toArray⟩ cap) e ((bytesRow ⟨s.toArray⟩ cap).size,(bytesRow ⟨s.toArray⟩ cap).size+1));have g:∀j,j<s.length→(w.drew.alloc (.cells (bytesRow ⟨s.toArray⟩ cap) e ((bytesRow ⟨s.toArray⟩ cap).size,(bytesRow ⟨s.toArray⟩ cap).size+1))).cell? ⟨w.heap.size,j,none⟩=some (.int .u8 ((s.getD j 0).toNat:Nat)):=by intro j a;rw[cell_of_row _ _ j _ e _ hp.new];simp[bytesRow,Yl,a,List.getD]
   obtain⟨o,p⟩:=i.frozenAt hp s.length λj a=>⟨_,g j a⟩
   refine⟨_,_,_,rfl,?_,o,p⟩;refine .ak .dead s.length (byteCells s) w.heap.size 0 cap (λj=> .int .u8 ((s.getD j 0).toNat:Nat)) trivial hle (λj c a=>?_) λj c a=>?_
   · have b:j<s.length:=by have:=(XV.1 a).1;simpa[byteCells]using this
     rw[YI];exact⟨.inr ⟨rfl,Yt _,b⟩,g j b⟩
   · have b:j<s.length:=by have:=(XV.1 a).1;simpa[byteCells]using this
     simp[byteCells,b]at a;subst a;simp only[Zg,YO b,Zh];exact .int _ _
 ·cases h
theorem L6:∀{cells:List I}{s:List UInt8}{Vs:List Value},oC cells=some s→aK F w G cells Vs.toArray→∃a:List Int,Vs=a.map (AV .u8)∧s=a.map λn=>XT n.toNat:=by
 intro cells;induction cells with
 | nil=>intro s Vs h hv;cases h;have:=hv.1;simp at this;have:Vs=[]:=Zi.1 (by omega);subst this;exact⟨[],rfl,rfl⟩
 | cons c cells b=>
  intro s Vs h hv;cases Vs with
  |nil=>have:=hv.1;simp at this
  | cons V Vs=>
   have e:VR F w G c V:=hv.2 0 c V rfl rfl;have f:aK F w G cells Vs.toArray:=aK.nq (by have:=hv.1;simp at this ⊢;exact this) λj d U g i=>hv.2 (j+1) d U (by simpa using g) (by simpa using i);unfold oC at h;split at h
   ·rename_i heq;cases heq
   · rename_i n r heq;cases heq;cases hc:oC cells with
     |none=>simp[hc]at h
     | some s'=>simp only[hc,Yc,Yb.injEq]at h;obtain⟨a,h1,k⟩:=b hc f;obtain rfl:=e.e8;exact⟨n::a,by rw[h1];rfl,by rw[←h,k];rfl⟩
   ·cases h
theorem foldl_push:∀(a:List Int)(r:ByteArray),a.foldl (λr n=>r.push (XT n.toNat)) r=⟨r.data++(a.map λn=>XT n.toNat).toArray⟩
 |[],r=>by simp
 | n::a,r=>by simp only[Yv,Zj];rw[foldl_push a];simp[Zk]
theorem L7{x v:I}{X:Value}(i:Rel F w G H)(hs:P.underlying src=some (.slice e))(k:P.underlying e=some (.int .u8))(l:P.underlying dst=some .string)
  (h:abstr H x=some v) (n:VR F w G x X):∃V,(convert src dst X).run P w = .ok V w∧VR F w G v V:=by
 unfold abstr at h;split at h
 · rename_i m cells hc;cases hb:oC cells with
   |none=>simp[hb]at h
   | some s=>
    simp only[hb,Yc,Yb.injEq]at h;subst h;obtain⟨hlen,a,c,rfl,p⟩:=ye i hc n;rw[Nat.mul_one]at hlen;refine⟨_,?_,.str s⟩;rw[run_convert_bytes_string w src dst e a m c hs k l];by_cases hm:0<m
    · obtain⟨b,o,rfl,q⟩:=p hm;obtain⟨Vs,f,r⟩:=q.kv;obtain⟨g,rfl,rfl⟩:=L6 hb f;have hl:g.length=m:=by have:=f.1;simp at this;omega
      have d:=run_loadCells_list (P:=P) w ⟨b,o,none⟩ _ r;rw[List.length_map,hl]at d;rw[run_bytesToString w ⟨b,o,none⟩ m c g d,foldl_push];simp[Zl,Zm];rfl
    · have t:m=0:=by omega
      subst t;have u:cells=[]:=Zi.1 hlen;subst u;cases hb;cases a with
      |none=>rfl
      | some a=>have d:=run_loadCells_list (P:=P) w a [] (λj V y=>by simp at y);simp only[List.length_nil]at d;rw[run_bytesToString w a 0 c [] d];rfl
 ·cases h
theorem L8(a:Rel F w G H)(ht:P.underlying t=some .string)(h:nn H x=some (v,H'))(c:VR F w G x X) :
  hI F w G H v H' ((Zn t X).run P w):=by
 unfold nn at h;split at h
 · rename_i s;cases h;obtain rfl:=c.iJ;have d:(Zn t (.string ⟨s.toArray⟩)).run P w = .ok (.pointer (some ⟨w.heap.size,0,none⟩)) (w.alloc (.stringIter ⟨s.toArray⟩ 0)):=by
    simp[Zn,run_underlying ht]
   rw[d];have hp:=c0.alloc w (.stringIter ⟨s.toArray⟩ 0);have hn:=a.n;have b:(G.more w.heap.size 0).loc H.n=w.heap.size:=aa hn.symm;obtain ⟨e,f⟩:=a.sX hp 0 (.fU s 0) ⟨by rw[b];exact hp.new,λj hf=>by rw[b]at hf;exact a.oM j hf⟩
   refine⟨_,_,_,rfl,?_,e,f⟩;have:=VR.ptr (F:=F) (w:=w.alloc (.stringIter ⟨s.toArray⟩ 0)) (G:=G.more w.heap.size 0) H.n 0 (show H.n<G.n+1 by omega);rw[b]at this;exact this
 ·cases h
theorem L9{t:TypeId}(b:Rel F w G H)(h:kR H x=some (v,H'))(l:VR F w G x X) :
  hI F w G H v H' ((Zo X true t).run P w):=by
 unfold kR at h;split at h
 · rename_i id;split at h
   · rename_i s pos e;cases l with
     | ptr _ _ y=>
      have f:=b.obj id;rw[e]at f;obtain⟨hb,hz⟩:=f;have g:(X4 s.toArray).size=s.length:=by simp[X5]
      have i:(getObj (G.loc id)).run P w = .ok (.stringIter ⟨s.toArray⟩ pos) w:=by simp[getObj,Zp,hb]
      split at h
      · rename_i m;cases h;have n:(setObj (G.loc id) (.stringIter ⟨s.toArray⟩ (pos+(XU ⟨s.toArray⟩ pos).2))).run P w = .ok () {w with heap:=w.heap.setIfInBounds (G.loc id) (.stringIter ⟨s.toArray⟩ (pos+(XU ⟨s.toArray⟩ pos).2))}:=by
         simp[setObj,Zp,hb]
        have d:(Zo (.pointer (some ⟨G.loc id,0,none⟩)) true t).run P w = .ok (.tuple #[.bool true,.int .i64 pos,.int .i32 (XU ⟨s.toArray⟩ pos).1]) {w with heap:=w.heap.setIfInBounds (G.loc id) (.stringIter ⟨s.toArray⟩ (pos+(XU ⟨s.toArray⟩ pos).2))}:=by simp[Zo,i,g,m,n,goInt]
        rw[d];have ht:jX w {w with heap:=w.heap.setIfInBounds (G.loc id) (.stringIter ⟨s.toArray⟩ (pos+(XU ⟨s.toArray⟩ pos).2))} (G.loc id):=
         ⟨by simp,λk hk=>by simp[Yn,YL hk],rfl,rfl,rfl,sl _⟩
        have hl:(H.o id).live=true:=by rw[e];rfl
        have p:G.loc id<w.heap.size:=(YF.1 hb).1;obtain⟨q,r⟩:=b.write hl hz ht (.fU s (pos+(XU ⟨s.toArray⟩ pos).2)) rfl λ_=>⟨by simp[p],hz⟩
        refine⟨_,_,_,rfl,?_,q,r⟩;refine .aq _ _ rfl λj c V hc a=>?_
        match j with
        |0=>simp at hc a;subst hc;subst a;exact .bool _
        |1=>simp at hc a;subst hc;subst a;exact .int _ _
        |2=>simp at hc a;subst hc;subst a;exact .int _ _
        |j+3=>simp at hc
      · rename_i u;cases h;have d:(Zo (.pointer (some ⟨G.loc id,0,none⟩)) true t).run P w = .ok (.tuple #[.bool false]) w:=by
         simp[Zo,i,g,u]
        rw[d];refine⟨_,_,_,rfl,?_,b,Step.refl _ _ _⟩;refine .aq _ _ rfl λj c V hc a=>?_
        match j with
        |0=>simp at hc a;subst hc;subst a;exact .bool _
        |j+1=>simp at hc
   ·cases h
 ·cases h
end
end Rb

namespace Rb
open Go
variable{kk:FK}{kt t et ty:TypeId}{v m x y:I}{M X Y V:Value}{d:TypeDesc}{b ok:Bool}
def k0(P:Program)(kt:TypeId)(kk:FK):Bool:=
 match P.underlying kt,kk with
 |some (.int _),.n|some .bool,.b|some .string,.t=>true
 |_,_=>false
section
variable{P:Program}{F:cz}{w:World}{G:aH}{H:Z}
theorem s5(h:k0 P kt kk=true):∃d,P.underlying kt=some d∧((kk = .n∧∃q,d = .int q)∨(kk = .b∧d = .bool)∨(kk = .t∧d = .string)):=by
 unfold k0 at h;split at h
 ·rename_i q a;exact⟨_,a,.inl ⟨rfl,q,rfl⟩⟩
 ·rename_i a;exact⟨_,a,.inr (.inl ⟨rfl,rfl⟩)⟩
 ·rename_i a;exact⟨_,a,.inr (.inr ⟨rfl,rfl⟩)⟩
 ·cases h
theorem nr(h:k0 P kt kk=true)(e:Bool)(K:Value)(n:Nat):(Zq e (n+1) kt K).run P w = .ok () w:=by obtain⟨d,a,hk⟩:=s5 h;rcases hk with⟨_,q,rfl⟩|⟨_,rfl⟩|⟨_,rfl⟩<;>simp[Zq,run_underlying a]
theorem CX(s t:Array UInt8):((⟨s⟩:ByteArray)==⟨t⟩)=(s==t):=rfl
theorem yg(c:(kk = .n∧∃q,d = .int q)∨(kk = .b∧d = .bool)∨(kk = .t∧d = .string))(h:oE kk x y=some b)(e:VR F w G x X)(f:VR F w G y Y) :
  Zr d X Y=some b:=by
 unfold oE at h;split at h
 · split at h
   · rename_i hc;obtain⟨rfl,rfl⟩:=hc;obtain rfl:=e.e8;obtain rfl:=f.e8;rcases c with⟨_,q,rfl⟩|⟨a,_⟩|⟨a,_⟩
     ·simpa[Zr]using h
     ·cases a
     ·cases a
   ·cases h
 · split at h
   · rename_i hc;subst hc;obtain rfl:=e.iJ;obtain rfl:=f.iJ;rcases c with⟨a,_⟩|⟨a,_⟩|⟨_,rfl⟩
     ·cases a
     ·cases a
     · rename_i s t;simp only[Zr];rw[←h];congr 1;rw[CX];simp
   ·cases h
 · split at h
   · rename_i hc;subst hc;obtain rfl:=e.iI;obtain rfl:=f.iI;rcases c with⟨a,_⟩|⟨_,rfl⟩|⟨a,_⟩
     ·cases a
     ·simpa[Zr]using h
     ·cases a
   ·cases h
 ·cases h
theorem yh(a:(kk = .n∧∃q,d = .int q)∨(kk = .b∧d = .bool)∨(kk = .t∧d = .string))(c:VR F w G x X) :
  ∀ (es:List (I×I)) (E:List MapEntry) (i:Nat) (r:Option (Nat×I)),es.length=E.length→(∀(j:Nat)(k v:I),es[j]?=some (k,v)→∃e,E[j]?=some e∧VR F w G k e.key∧VR F w G v e.val) →
   iE kk x es i=some r→(r=none∧Zs d X E i=some none)∨∃j v V,r=some (i+j,v)∧Zs d X E i=some (some (i+j,V))∧VR F w G v V∧j<es.length∧∃k e,es[j]?=some (k,v)∧E[j]?=some e∧oE kk x k=some true∧VR F w G k e.key:=by
 intro es;induction es with
 | nil=>intro E i r hl _ h;have:E=[]:=Zi.1 hl.symm;subst this;cases h;exact .inl ⟨rfl,rfl⟩
 | cons p es m=>
  intro E i r hl f h;obtain⟨k,v⟩:=p;obtain⟨e,he,h1,o⟩:=f 0 k v rfl;cases E with
  |nil=>simp at he
  | cons g E=>
   simp at he;subst he;simp only[iE]at h;split at h
   · rename_i heq;cases h;refine .inr ⟨0,v,g.val,rfl,?_,o,by simp,k,g,rfl,rfl,heq,h1⟩;simp only[Zs,yg a heq c h1];rfl
   · rename_i heq;have:=m E (i+1) r (by simpa using hl) (λj k v l=>by
       obtain⟨e,he,h⟩:=f (j+1) k v (by simpa using l);exact⟨e,by simpa using he,h⟩) h
     rcases this with⟨rfl,hf⟩|⟨j,s,V,rfl,hf,hv,l,k',u,g1,g2,g3,g4⟩
     · left;refine⟨rfl,?_⟩;simp only[Zs,yg a heq c h1];exact hf
     · right;refine⟨j+1,s,V,by simp;omega,?_,hv,by simp;omega,k',u,by simpa using g1,by simpa using g2,g3,g4⟩;simp only[Zs,yg a heq c h1];rw[hf];simp;omega
   ·cases h
theorem L_(a:Rel F w G H):hI F w G H (.map H.n) (H.push (.map [])) ((Zt t none).run P w):=by
 have c:(Zt t none).run P w = .ok (.map (some w.heap.size)) (w.alloc (.map #[] 0)):=rfl;rw[c];have hp:=c0.alloc w (.map #[] 0);have hn:=a.n;have b:(G.more w.heap.size 0).loc H.n=w.heap.size:=aa hn.symm;obtain ⟨d,e⟩:=a.sX hp 0 (.map []) ⟨#[],0,by rw[b];exact hp.new,rfl,λj hf=>by rw[b]at hf;exact a.oM j hf,λj k v f=>by simp at f⟩
 refine⟨_,_,_,rfl,?_,d,e⟩;have:=VR.map (F:=F) (w:=w.alloc (.map #[] 0)) (G:=G.more w.heap.size 0) H.n (show H.n<G.n+1 by omega);rw[b]at this;exact this
theorem yi(hv:VR F w G v V):VR F w G (qx ok v b) (if ok then .tuple #[V,.bool b]else V):=by
 unfold qx;cases ok with
 |false=>simpa using hv
 | true=>
  simp only[a_];refine .aq _ _ rfl λj c U hc a=>?_
  match j with
  |0=>simp at hc a;subst hc;subst a;exact hv
  |1=>simp at hc a;subst hc;subst a;exact .bool _
  |j+2=>simp at hc
theorem Ma{f:TypeInfo}{z:Value}{zero m k v:I}{ok:Bool}{M K:Value}(n:Rel F w G H)(ht:P.underlying t=some (.map kt et))(a:k0 P kt kk=true)(hi:P.info? et=some f)(hz:f.zero=some z)
  (g:VR F w G zero z) (h:kS H kk zero ok m k=some v) (hm:VR F w G m M) (o:VR F w G k K):∃V,(Zu t M K ok).run P w = .ok V w∧VR F w G v V:=by
 obtain⟨d,b,p⟩:=s5 a;have c:(zeroValue et).run P w = .ok z w:=by simp[zeroValue,typeInfo,hi,hz]
 unfold kS at h;split at h
 · split at h
   · cases h;obtain rfl:M = .map none:=by cases hm;rfl
     refine⟨_,?_,yi g⟩;simp[Zu,run_underlying ht,run_underlying b,nr a,Zv,Zs,c]
   ·cases h
 · rename_i id;split at h
   · rename_i es q;split at h
     · have i:=n.obj id;rw[q]at i;obtain⟨E,clock,hb,hs,x,hv⟩:=i;cases hm with
       | map _ y=>
        have l:=run_getObj_map (P:=P) w (G.loc id) E clock hb;cases hf:iE kk k es 0 with
        |none=>simp[hf]at h
        | some r=>
         simp only[hf,Yc,Yb.injEq]at h;rcases yh p o es E.toList 0 r (by simp[hs]) (λj k v s=>by obtain⟨e,he,h⟩:=hv j k v s;exact⟨e,by simpa using he,h⟩) hf with⟨rfl,hn⟩|⟨j,u,V,rfl,hn,hu,_⟩
         · subst h;refine⟨_,?_,yi g⟩;simp[Zu,run_underlying ht,run_underlying b,nr a,Zv,hn,c,l]
         · subst h;refine⟨_,?_,yi hu⟩;simp[Zu,run_underlying ht,run_underlying b,nr a,Zv,hn,c,l]
     ·cases h
   ·cases h
 ·cases h
theorem Z.mD{H:Z}{i:Nat}{x:bM}(h:H.o i=x):H.set i x=H:=by
 cases H with
 | mk n o=>
  simp only[Z.set]at h ⊢;congr 1;funext j;split
  ·rename_i a;rw[a,←h]
  ·rfl
theorem s6(w:World)(b:Nat)(o:Obj):jX w {w with heap:=w.heap.setIfInBounds b o} b:=⟨by simp,λk hk=>by simp[Yn,YL hk],rfl,rfl,rfl,sl _⟩
theorem Mb(h:oE kk x y=some true)(a:VR F w G x X)(b:VR F w G y Y):Zw 10000 Y X=true:=by
 unfold oE at h;split at h
 · split at h
   · rename_i hc;obtain⟨rfl,rfl⟩:=hc;obtain rfl:=a.e8;obtain rfl:=b.e8;simp at h;simp[Zw,h]
   ·cases h
 · split at h
   · obtain rfl:=a.iJ;obtain rfl:=b.iJ;simp at h;simp[Zw,h,CX]
   ·cases h
 · split at h
   · obtain rfl:=a.iI;obtain rfl:=b.iI;simp at h;simp[Zw,h]
   ·cases h
 ·cases h
theorem Mc{m k v:I}{M K V:Value}{H':Z}(f:Rel F w G H)(ht:P.underlying t=some (.map kt et))(g:k0 P kt kk=true)
  (h:qy H kk m k v=some H') (hm:VR F w G m M) (b:VR F w G k K) (x:VR F w G v V):∃w',(Zx t M K V).run P w = .ok () w'∧Rel F w' G H'∧Step w G H w' G H':=by
 obtain⟨d,y,L⟩:=s5 g;unfold qy at h;split at h
 · rename_i id;split at h
   · rename_i es z;split at h
     · have A :=f.obj id;rw[z]at A;obtain⟨E,clock,hb,hs,c,hv⟩:=A;have hl:(H.o id).live=true:=by rw[z];rfl
       have B:G.loc id<w.heap.size:=(YF.1 hb).1;cases hm with
       | map _ R=>
        have C:=run_getObj_map (P:=P) w (G.loc id) E clock hb;have D:∀o,(setObj (G.loc id) o).run P w = .ok () {w with heap:=w.heap.setIfInBounds (G.loc id) o}:=λo=>by simp[setObj,Zp,hb]
        cases hf:iE kk k es 0 with
        |none=>simp[hf]at h
        | some r =>
         simp only[hf,Yc,Yb.injEq]at h;rcases yh L b es E.toList 0 r (by simp[hs]) (λj k v l=>by obtain⟨e,he,h⟩:=hv j k v l;exact⟨e,by simpa using he,h⟩) hf with⟨rfl,hn⟩|⟨j,u,U,rfl,hn,hu,l,S,e0,g1,g2,g3,g4⟩
         · subst h;refine⟨_,?_,f.write hl c (s6 w _ (.map (E.push {key:=K,val:=V,born:=clock}) (clock+1))) _ rfl λa=>?_⟩
           ·simp[Zx,run_underlying ht,run_underlying y,nr g,Zv,hn,C,D]
           · refine ⟨E.push {key:=K,val:=V,born:=clock},clock+1,by simp[B],by simp[hs],c,λi k' n hi=>?_⟩;by_cases N:i<es.length
             · rw[Zy N]at hi;obtain⟨e,he,p,q⟩:=hv i k' n hi;refine⟨e,?_,p.mono a,q.mono a⟩;rw[YC,bw];exact he
             · rw [Zz (by omega)]at hi;have O:i=es.length:=by
                have:=(XV.1 hi).1;simp at this;omega
               subst O;simp at hi;obtain⟨rfl,rfl⟩:=hi;exact⟨{key:=K,val:=V,born:=clock},by rw[←hs];simp,b.mono a,x.mono a⟩
         · simp only[YI]at h hn;subst h;have J:E[j]?=some e0:=by simpa using g2
           refine⟨_,?_,f.write hl c (s6 w _ (.map (E.modify j λe=>{e with key:=K,val:=V}) clock)) _ rfl λa=>?_⟩
           · have Q:(ZA e0.key K).run P w = .ok K w:=by
               simp[ZA,Mb g3 b g4]
             simp[Zx,run_underlying ht,run_underlying y,nr g,Zv,hn,C,J,Q,D]
           · refine ⟨E.modify j λe=>{e with key:=K,val:=V},clock,by simp[B],by simp[hs],c,λi k' n hi=>?_⟩;rw[Ym]at hi;by_cases s:j=i
             · subst s;simp only[a_,l]at hi;cases hi;refine⟨{e0 with key:=K,val:=V},?_,b.mono a,x.mono a⟩;rw[YK,aa rfl,J];rfl
             · rw[ab s]at hi;obtain⟨e,he,p,q⟩:=hv i k' n hi;refine⟨e,?_,p.mono a,q.mono a⟩;rw[YK,ab s];exact he
     ·cases h
   ·cases h
 ·cases h
theorem Md{t kt et t' ty:TypeId}{m k:I}{M K:Value}{H':Z}(f:Rel F w G H)(ht:P.underlying t=some (.map kt et))(g:k0 P kt kk=true)
  (h:qz H kk m k=some H') (hm:VR F w G m M) (D:VR F w G k K):∃w',(ZB #[t,t'] ty #[M,K]).run P w = .ok (.tuple #[]) w'∧Rel F w' G H'∧Step w G H w' G H':=by
 obtain⟨d,y,J⟩:=s5 g;unfold qz at h;split at h
 · rename_i id;split at h
   · rename_i es l;split at h
     · have z :=f.obj id;rw[l]at z;obtain⟨E,clock,hb,hs,b,hv⟩:=z;have hl:(H.o id).live=true:=by rw[l];rfl
       have A:G.loc id<w.heap.size:=(YF.1 hb).1;cases hm with
       | map _ Q=>
        have B:=run_getObj_map (P:=P) w (G.loc id) E clock hb;have C:∀o,(setObj (G.loc id) o).run P w = .ok () {w with heap:=w.heap.setIfInBounds (G.loc id) o}:=λo=>by simp[setObj,Zp,hb]
        cases hf:iE kk k es 0 with
        |none=>simp[hf]at h
        | some r =>
         simp only[hf,Yc,Yb.injEq]at h;rcases yh J D es E.toList 0 r (by simp[hs]) (λj k v n=>by obtain⟨e,he,h⟩:=hv j k v n;exact⟨e,by simpa using he,h⟩) hf with⟨rfl,hn⟩|⟨j,u,U,rfl,hn,hu,n,R,e0,g1,g2,g3,g4⟩
         · subst h;have hw:=f.write hl b (s6 w _ (.map E clock)) (.map es) rfl λa=>⟨E,clock,by simp[A],hs,b,λi k' c hi=>by
             obtain⟨e,he,p,q⟩:=hv i k' c hi;exact⟨e,he,p.mono a,q.mono a⟩⟩
           rw[Z.mD l]at hw;refine⟨_,?_,hw⟩;simp[ZB,run_underlying ht,run_underlying y,nr g,Zv,hn,B,C]
         · simp only [YI]at h hn;subst h;have L:j<E.size:=by rw[hs];exact n
           refine⟨_,?_,f.write hl b (s6 w _ (.map (E.eraseIdxIfInBounds j) clock)) _ rfl λa=>?_⟩
           ·simp[ZB,run_underlying ht,run_underlying y,nr g,Zv,hn,B,C]
           · have he:(E.eraseIdxIfInBounds j).toList=E.toList.eraseIdx j:=by simp[Array.eraseIdxIfInBounds,L]
             refine⟨E.eraseIdxIfInBounds j,clock,by simp[A],?_,b,λi k' c hi=>?_⟩
             · rw[←Array.length_toList,he,ZC,ZC];simp[hs]
             · have N:∃i2:Nat,es[i2]?=some (k',c)∧(E.eraseIdxIfInBounds j)[i]?=E[i2]?:=by
                 rw[ZD]at hi;have s:(E.eraseIdxIfInBounds j)[i]?=(E.toList.eraseIdx j)[i]?:=by rw[←he,ZE]
                 rw[s,ZD];split at hi
                 ·rename_i x;exact⟨i,hi,by simp[x]⟩
                 ·rename_i x;exact⟨i+1,hi,by simp[x]⟩
               obtain⟨i2,h1,s⟩:=N;obtain⟨e,O,p,q⟩:=hv i2 k' c h1;exact⟨e,by rw[s];exact O,p.mono a,q.mono a⟩
     ·cases h
   ·cases h
 ·cases h
theorem Me(c:Rel F w G H)(ht:P.underlying t=some (.map kt et))(h:kT H m=some v)(a:VR F w G m M):∃V,(Yy #[t] ty #[M]).run P w = .ok V w∧VR F w G v V:=by
 unfold kT at h;split at h
 · cases h;obtain rfl:M = .map none:=by cases a;rfl
   exact⟨goInt 0,by simp[Yy,run_underlying ht],.int _ _⟩
 · rename_i id;split at h
   · rename_i es d;cases h;have b:=c.obj id;rw[d]at b;obtain⟨E,clock,hb,hs,f,hv⟩:=b;cases a with
     | map _ g=>have e:=run_getObj_map (P:=P) w (G.loc id) E clock hb;refine⟨goInt E.size,by simp[Yy,run_underlying ht,e],?_⟩;rw[hs];exact .int _ _
   ·cases h
 ·cases h
end
end Rb

namespace Rb
open Go
variable{V:Value}{c:I}
structure Ctx where
 P:Program
 F:cz
 GT:Nat→Option (List I)
def oQ:Value→I→Bool
 | .bool b,.bool a=>b==a
 | .int k n,.int k' n'=>k==k'&&n==n'
 | .string s,.str l=>s.data.toList==l
 | .pointer none,.eJ | .map none,.fJ | .nilFunc,.gu | .nilIface,.gv=>true
 | .slice none 0 0,.ak .nil 0 []=>true
 |_,_=>false
def gy:List Value→List I→Bool
 |[],[]=>true
 |V::Vs,c::cs=>oQ V c&&gy Vs cs
 |_,_=>false
theorem Mf{z:Value}(h:gy z.cells.toList [.eJ,.ak .nil 0 []]=true):z.cells = #[.pointer none,.slice none 0 0]:=by
 generalize hl:z.cells.toList=l at h;have key:l=[.pointer none,.slice none 0 0]:=by
  match l,h with
  |[],h=>simp[gy]at h
  |[a],h=>simp[gy]at h
  |a::b::c::r,h=>simp[gy]at h
  | [a,b],h=>
   simp only[gy,X1]at h;obtain⟨h1,d,_⟩:=h;have e:a = .pointer none:=by unfold oQ at h1;split at h1<;>simp_all
   have f:b = .slice none 0 0:=by unfold oQ at d;split at d<;>simp_all
   rw[e,f]
 apply ZF;rw[hl,key]
def s7(V:Value)(c:I):Bool:=
 match V,c with
 | .agg Vs,.agg cs=>gy Vs.toList cs
 | .tuple Vs,.aq cs=>gy Vs.toList cs
 |V,c=>oQ V c
def mE:List I→List I→Bool
 |[],[]=>true
 | .int k a::r,.int k' b::t=>k==k'&&a==b&&mE r t
 | .bool a::r,.bool b::t=>a==b&&mE r t
 | .str a::r,.str b::t=>a==b&&mE r t
 |_,_=>false
def CY(C:Ctx)(x:Operand)(y:aW):Bool:=
 match x,y with
 | .tmp t,.t t'=>t==t'
 | .const v,.k c=>s7 v c
 | .global g,.k c=>match C.GT g,c with|some l,.ae l'=>mE l l'|_,_=>false
 | .func f,.k c=>match c with | .fn key []=>(fS key).isNone&&C.F key==some f|_=>false
 |_,_=>false
def CZ:aW→Bool
 | .k .bot=>true
 |_=>false
def b6(C:Ctx)(x:Operand)(y:aW):Bool:=CZ y||CY C x y
def ns(C:Ctx)(x:Option Operand)(y:Option aW):Bool:=
 match x,y with
 |none,none=>true
 |some x,some y=>b6 C x y
 |_,_=>false
def kx(C:Ctx):List Operand→List aW→Bool
 |[],[]=>true
 |x::xs,y::a=>b6 C x y&&kx C xs a
 |_,_=>false
def oR(P:Program)(t:TypeId)(n:Nat):Option Field:=
 match P.underlying t with
 |some (.struct fs)=>fs[n]?
 |_=>none
def k3(P:Program)(t:TypeId):Option TypeId:=
 match P.underlying t with
 |some (.slice e)=>some e
 |_=>none
def s8(P:Program)(t:TypeId):Option (Nat×TypeId):=
 match P.underlying t with
 |some (.array n e)=>some (n,e)
 |_=>none
def nt(P:Program)(t:TypeId)(sz:Nat):Bool:=
 match P.info? t with
 |some i=>i.size==sz
 |none=>false
def s9(P:Program)(t:TypeId)(sz bytes:Nat)(zero:List I):Bool:=
 match P.info? t with
 |some i=>i.size==sz&&i.bytes==bytes&&(match i.zero with|some z=>z.cells.size==sz&&gy z.cells.toList zero|none=>false)
 |none=>false
def nu(C:Ctx)(place:Nat→Option (Nat×Nat)):List (Nat×Operand)→List (Nat×Nat×aW)→Bool
 |[],[]=>true
 |(i,x)::r,(off,sz,y)::t=>place i==some (off,sz)&&b6 C x y&&nu C place r t
 |_,_=>false
def placeOf(P:Program)(t:TypeId)(i:Nat):Option (Nat×Nat):=
 match P.underlying t with
 |some (.struct fs)=>match fs[i]? with|some f=>(P.info? f.type).map λinf=>(f.offset,inf.size)|none=>none
 |some (.array _ e)=>(P.info? e).map λinf=>(i*inf.size,inf.size)
 |_=>none
def yj(P:Program)(t:TypeId):Bool:=
 match P.underlying t with
 |some (.struct fs)=>fs.all λf=>(P.info? f.type).isSome
 |some (.array _ e)=>(P.info? e).isSome
 |_=>false
def jA(P:Program)(f:FuncId):Bool:=
 match P.funcs[f]? with
 | some fn => !(fn.name == "runtime.NumGoroutine") && fn.body.isSome
 |none=>false
def oS(a:TypeId→Option (List FK)):List Field→Nat→Option (List FK)
 |[],_=>some []
 | f :: r, k => if f.offset = k ∧ f.name ≠ "_" then (match a f.type with | some l => (oS a r (k + l.length)).map (l ++ ·) | none => none) else none
def k4(P:Program):Nat→TypeId→Option (List FK)
 |0,_=>none
 | d+1,t=>match P.underlying t,P.info? t with
  |some (.int _),_=>some [.n]
  |some .bool,_=>some [.b]
  |some .string,_=>some [.t]
  |some (.struct fs),some i=>if P.stoodInHeld t=true then none else(match oS (k4 P d) fs.toList 0 with|some l=>if i.size=l.length then some l else none|none=>none)
  |some (.array n e),some i=>(match k4 P d e,P.info? e with|some l,some j=>if i.size=(XS n l).flatten.length∧j.size=l.length then some (XS n l).flatten else none|_,_=>none)
  |_,_=>none
def yk:TypeDesc→Bool
 | .interface _=>false
 |_=>true
def oT(C:Ctx)(o:Op)(e:Ext)(xs:List aW):Bool:=
 match e with
 | .stuck=>true
 | .ku T=>match o,xs with
  | .alloc t,[]=>t==T&&(match C.P.info? t with|some inf=>(match inf.zero with|some z=>gy z.cells.toList [.eJ,.ak .nil 0 []]|none=>false)|none=>false)
  | .box t a,[x]=>t==T&&b6 C a x
  |_,_=>false
 | .oF t=>match o,xs with
  | .typeAssert a _ t' ok,[x]=>t==t'&&!ok&&(match C.P.underlying t with|some d=>yk d|none=>false)&&b6 C a x
  |_,_=>false
 | .mB neg=>match o,xs with
  | .binOp op t a b _,[x,y]=>op==(if neg then .neq else .eql)&&(match C.P.underlying t with|some (.pointer e)=>(match C.P.info? e with|some j=>j.size != 0|none=>false)|_=>false)&&b6 C a x&&b6 C b y
  |_,_=>false
 | .grow sz bytes zero=>match o,xs with
  | .call {callee:= .builtin .append,args,argTypes},[x,y]=>(match args.toList,argTypes.toList with
    |[a,b],[t,it]=>b6 C a x&&b6 C b y&&(match C.P.underlying it with|some (.int _)=>true|_=>false)&&(match k3 C.P t with|some e=>(match C.P.info? e with|some inf=>inf.size==sz&&inf.bytes==bytes&&(match inf.zero with|some z=>gy z.cells.toList zero|none=>false)|none=>false)|none=>false)
    |_,_=>false)
  |_,_=>false
 | .clear sz zero=>match o,xs with
  | .call {callee:= .builtin .clear,args,argTypes},[x]=>(match args.toList,argTypes.toList with
    |[a],[t]=>b6 C a x&&(match k3 C.P t with|some e=>(match C.P.info? e with|some inf=>(match inf.zero with|some z=>z.cells.size==sz&&gy z.cells.toList zero|none=>false)|none=>false)|none=>false)
    |_,_=>false)
  |_,_=>false
def s_(C:Ctx)(name:String)(t:TypeId)(key:Nat)(m:Option (Nat×Bool)):Bool:=
 match C.P.info? t with
 | some i=>(match i.methods.find? (·.name==name)with
   | some mt=>mt.path.toList.isEmpty&&(match mt.func,m,C.P.underlying t with
     |some (f,true),none,some (.pointer _)=>C.F key==some f&&jA C.P f
     |some (f,false),some (n,agg),some (.pointer e)=>C.F key==some f&&jA C.P f&&ib C.P e n agg
     |_,_,_=>false)
   |none=>false)
 |none=>false
def ta(C:Ctx)(a:String):List (TypeId×Nat×Option (Nat×Bool))→Bool
 |[]=>true
 |(t,key,m)::r=>s_ C a t key m&&ta C a r
def cw(C:Ctx)(o:Op)(a:dQ):Bool:=
 match a with
 | .mv x=>match o with | .move y | .assign y=>b6 C y x|_=>false
 | .pick c x y=>match o with | .pick c' g h=>b6 C c' c&&b6 C g x&&b6 C h y|_=>false
 | .bin op x y=>match o with | .binOp A _ g h _=>op==A&&b6 C g x&&b6 C h y|_=>false
 | .beq neg x y=>match o with
  | .binOp op t g h _=>op==(if neg then .neq else .eql)&&(match C.P.underlying t with|some .bool=>true|_=>false)&&b6 C g x&&b6 C h y
  |_=>false
 | .jx k neg x=>match o with
  | .binOp op t g h _=>op==(if neg then .neq else .eql)&&(match C.P.underlying t with|some d=>oJ d==some k|none=>false)&&b6 C g x &&
    (match h with | .const v=>(match k,v with | .p,.pointer none | .s,.slice none 0 0 | .m,.map none | .f,.nilFunc | .i,.nilIface=>true|_,_=>false)|_=>false)
  |_=>false
 | .iF neg ks x y=>match o with
  | .binOp op t g h _=>op==(if neg then .neq else .eql)&&(match C.P.underlying t with|some d=>ia d|none=>false)&&k4 C.P 9 t==some ks&&!C.P.eqGuardType C.P.depth t&&b6 C g x&&b6 C h y
  |_=>false
 | .un op x=>match o with | .unOp A _ g=>op==A&&b6 C g x|_=>false
 | .conv k x=>match o with
  | .convert s d g=>(match C.P.underlying s,C.P.underlying d with|some _,some (.int k')=>k==k'|_,_=>false)&&b6 C g x
  |_=>false
 | .same x=>match o with
  | .convert s d g=>(match C.P.underlying s,C.P.underlying d with|some .string,some .string=>true|_,_=>false)&&b6 C g x
  |_=>false
 | .jU x=>match o with | .nilCheck g=>b6 C g x|_=>false
 | .field off sz agg x=>match o with
  | .field t g n=>(match oR C.P t n with|some f=>f.offset==off&&ib C.P f.type sz agg|none=>false)&&b6 C g x
  |_=>false
 | .idx len sz agg x i=>match o with
  | .index t g q=>(match s8 C.P t with|some (n,e)=>n==len&&ib C.P e sz agg|none=>false)&&b6 C g x&&b6 C q i
  |_=>false
 | .idxs x i=>match o with
  | .index t g q=>(match C.P.underlying t with|some .string=>true|_=>false)&&b6 C g x&&b6 C q i
  |_=>false
 | .gI off x=>match o with
  | .fieldAddr t g n=>(match oR C.P t n with|some f=>f.offset==off&&(match C.P.info? f.type with|some H=>H.size != 0|none=>false)|none=>false)&&b6 C g x
  |_=>false
 | .fV arr sz x i=>match o with
  | .indexAddr t g q=>(match arr with
      |none=>(match k3 C.P t with|some e=>nt C.P e sz|none=>false)
      |some n=>(match s8 C.P t with|some (n',e)=>n==n'&&nt C.P e sz|none=>false))&&b6 C g x&&b6 C q i
  |_=>false
 | .slice sz x lo hi mx=>match o with
  | .slice t g B D E=>(match k3 C.P t with|some e=>nt C.P e sz|none=>false)&&b6 C g x&&ns C B lo&&ns C D hi&&ns C E mx&&(mx.isNone||hi.isSome)
  |_=>false
 | .jV x lo hi=>match o with
  | .slice t g B D E=>(match C.P.underlying t with|some .string=>true|_=>false)&&b6 C g x&&ns C B lo&&ns C D hi&&E.isNone
  |_=>false
 | .hq t x=>match o with
  | .makeInterface t' g=>t==t'&&(match C.P.underlying t with|some (.interface _)=>false|some _=>true|none=>false)&&b6 C g x
  |_=>false
 | .gQ key bE=>match o with
  | .makeFunc (.func f) first G=>match fS key with
   |none=>C.F key==some f&&first.size==0&&kx C G.toList bE
   |some k=>C.F k==some f&&G.size==0&&kx C first.toList bE
  |_=>false
 | .extract i x=>match o with | .extract g q=>i==q&&b6 C g x|_=>false
 | .build zero parts=>match o with
  | .build t ps=>(match C.P.info? t with|some inf=>(match inf.zero with|some z=>gy z.cells.toList zero|none=>false)|none=>false)&&yj C.P t&&nu C (placeOf C.P t) ps.toList parts
  |_=>false
 | .len str x=>match o with
  | .call {callee:= .builtin .len,args,argTypes}=>(match args.toList,argTypes.toList with
      |[g],[t]=>b6 C g x&&(match C.P.underlying t with|some .string=>str|some (.slice _)=>!str|_=>false)
      |_,_=>false)
  |_=>false
 | .cap x=>match o with
  | .call {callee:= .builtin .cap,args,argTypes}=>(match args.toList,argTypes.toList with
      |[g],[t]=>b6 C g x&&(match C.P.underlying t with|some (.slice _)=>true|_=>false)
      |_,_=>false)
  |_=>false
 | .hr n=>match o with
  | .call {callee:= .builtin .len,args,argTypes}=>(match args.toList,argTypes.toList with
      |[_],[t]=>(match C.P.underlying t with|some (.array n' _)=>n==n'|_=>false)
      |_,_=>false)
  |_=>false
 | .hx mx xs=>match o with
  | .call {callee:= .builtin b,args,..}=>(match b with | .max=>mx | .min=>!mx|_=>false)&&kx C args.toList xs
  |_=>false
 | .load n agg x=>match o with | .load t g=>ib C.P t n agg&&b6 C g x|_=>false
 | .store n x v=>match o with | .store t g w=>(ib C.P t n true||ib C.P t n false)&&b6 C g x&&b6 C w v|_=>false
 | .box _ _ x=>match o with | .box _ g=>b6 C g x|_=>false
 | .alloc _ zero=>match o with
  | .alloc t=>(match C.P.info? t with|some inf=>(match inf.zero with|some z=>gy z.cells.toList zero|none=>false)|none=>false)
  |_=>false
 | .gJ _ sz len zero parts=>match o with
  | .buildSlice t I ps=>(match k3 C.P t with
      |some e=>(match C.P.info? e with|some inf=>s9 C.P e sz inf.bytes zero|none=>false)&&zero.length==sz&&len==I&&decide (len*sz≤16777216)&&nu C (λi=>some (i*sz,sz)) ps.toList parts
      |none=>false)
  |_=>false
 | .append _ sz bytes x y=>match o with
  | .call {callee:= .builtin .append,args,argTypes}=>(match args.toList,argTypes.toList with
      | [g, h], [t, t'] => t == t' && b6 C g x && b6 C h y && (match k3 C.P t with
          |some e=>(match C.P.info? e with|some inf=>inf.size==sz&&inf.bytes==bytes&&(match inf.zero with|some z=>z.cells.size==sz|none=>false)&&decide (0<sz)|none=>false)
          |none=>false)
      |_,_=>false)
  |_=>false
 | .make _ sz bytes zero len cap=>match o with
  | .makeSlice t l c=>b6 C l len&&b6 C c cap&&(match k3 C.P t with|some e=>s9 C.P e sz bytes zero|none=>false)
  |_=>false
 | .call key args=>match o with
  | .call {callee:= .value (.func f),args:=u,..}=>C.F key==some f&&jA C.P f&&kx C u.toList args
  |_=>false
 | .h7 f args=>match o with
  | .call {callee:= .value J,args:=u,..}=>b6 C J f&&kx C u.toList args
  |_=>false
 | .jW x=>match o with
  | .convert s d g=>(match C.P.underlying s,C.P.underlying d with|some .string,some (.slice e)=>(match C.P.underlying e with|some (.int .u8)=>true|_=>false)|_,_=>false)&&b6 C g x
  |_=>false
 | .hD x=>match o with
  | .convert s d g=>(match C.P.underlying s,C.P.underlying d with|some (.slice e),some .string=>(match C.P.underlying e with|some (.int .u8)=>true|_=>false)|_,_=>false)&&b6 C g x
  |_=>false
 | .h5 x=>match o with | .range t g=>(match C.P.underlying t with|some .string=>true|_=>false)&&b6 C g x|_=>false
 | .h6 x=>match o with | .next g true=>b6 C g x|_=>false
 | .gR=>match o with | .makeMap _ r=>r.isNone|_=>false
 | .lookup kk zero ok m k=>match o with
  | .lookup t j k' K=>ok==K&&(match C.P.underlying t with|some (.map kt et)=>k0 C.P kt kk&&(match C.P.info? et with|some inf=>(match inf.zero with|some z=>s7 z zero|none=>false)|none=>false)|_=>false)&&b6 C j m&&b6 C k' k
  |_=>false
 | .hy kk m k v=>match o with
  | .mapUpdate t j k' w | .insert t j k' w=>(match C.P.underlying t with|some (.map kt _)=>k0 C.P kt kk|_=>false)&&b6 C j m&&b6 C k' k&&b6 C w v
  |_=>false
 | .delete kk m k=>match o with
  | .call {callee:= .builtin .delete,args,argTypes}=>(match args.toList,argTypes.toList with
      |[j,k'],[t,_]=>b6 C j m&&b6 C k' k&&(match C.P.underlying t with|some (.map kt _)=>k0 C.P kt kk|_=>false)
      |_,_=>false)
  |_=>false
 | .hC m=>match o with
  | .call {callee:= .builtin .len,args,argTypes}=>(match args.toList,argTypes.toList with
      |[j],[t]=>b6 C j m&&(match C.P.underlying t with|some (.map _ _)=>true|_=>false)
      |_,_=>false)
  |_=>false
 | .ext e xs=>oT C o e xs
 | .inv hE x args=>match o with
  | .call {callee:= .invoke g name,args:=u,..}=>b6 C g x&&kx C u.toList args&&ta C name hE
  |_=>false
 | .copy sz x y=>match o with
  | .call {callee:= .builtin .copy,args,argTypes}=>(match args.toList,argTypes.toList with
      |[g,h],[t,_]=>b6 C g x&&b6 C h y&&(match k3 C.P t with|some e=>nt C.P e sz|none=>false)
      |_,_=>false)
  |_=>false
def jc(C:Ctx)(w:World)(G:aH):Prop:=∀g l,C.GT g=some l→VR C.F w G (.ae l) (.pointer (some ⟨g,0,none⟩))
theorem jc.mono{C:Ctx}{w w':World}{G G':aH}(a:GLe w G w' G')(h:jc C w G):jc C w' G':=λg l hl=>(h g l hl).mono a
def ct(C:Ctx)(w:World)(G:aH)(H:Z):Prop:=jc C w G∧∀g l,C.GT g=some l→l≠[]→(∃cs t fr,w.heap[g]?=some (.cells cs t fr)∧cs.size=l.length)∧∀i,(H.o i).live=true→G.loc i≠g
theorem ct.step{C:Ctx}{w w':World}{G G':aH}{H H':Z}(h:ct C w G H)(a:Step w G H w' G' H'):ct C w' G' H':=by refine⟨h.1.mono a.toGLe,λg l hl f=>?_⟩;obtain⟨⟨cs,t,fr,b,hs⟩,c⟩:=h.2 g l hl f;have d:g<w.heap.size:=(YF.1 b).1;refine⟨⟨cs,t,fr,(a.c9 g d c).trans b,hs⟩,λi hi e=>?_⟩;obtain⟨j,k,m⟩:=a.owned i hi (by rw[e];exact d);exact c j k (m.trans e)
theorem ct.oK{C:Ctx}{w:World}{G:aH}{H:Z}{x:bM}(h:ct C w G H){b c:Nat}(k:GLe w G w (G.more b c))(hn:G.n=H.n)(m:∀j,¬G.fz b j):ct C w (G.more b c) (H.push x):=by
 refine⟨h.1.mono k,λg l hl a=>⟨(h.2 g l hl a).1,λi hi e=>?_⟩⟩;by_cases d:i=H.n
 · have hb:(G.more b c).loc i=b:=aa (d.trans hn.symm);have hv:=h.1 g l hl;generalize p:(Value.pointer (some ⟨g,0,none⟩))=X at hv;generalize hY:I.ae l=Y at hv;cases hv with
   | ae cells u o Vs hc hv=>
    cases p;cases hY;cases f:l with
    |nil=>exact a f
    | cons q r=>refine m 0 ?_;rw[←hb,e];simpa using(hc 0 q (by rw[f];rfl)).1
   |bot=>cases hY
   |_=>cases hY
 · have h1:(H.push x).o i=H.o i:=ab d;have s:(G.more b c).loc i=G.loc i:=ab (λt=>d (t.trans hn));rw[h1]at hi;rw[s]at e;exact(h.2 g l hl a).2 i hi e
theorem ct.mt{C:Ctx}{w:World}{G G':aH}{H H':Z}(h:ct C w G H)(a:jc C w G')(b:∀i,(H'.o i).live=true→False):ct C w G' H':=⟨a,λg l hl c=>⟨(h.2 g l hl c).1,λi hi=>(b i hi).elim⟩⟩
def af(C:Ctx):ai:=λkey args H Q=>
 (∃v H',Q v H')∧∀f,C.F key=some f→∀(G:aH)(w:World)(Vs:Array Value),ct C w G H→Rel C.F w G H→aK C.F w G args Vs →
  Calls C.P f Vs w λe w'=>∃V v H' G',e = .returned V∧Q v H'∧VR C.F w' G' v V∧Rel C.F w' G' H'∧Step w G H w' G' H'
theorem yl(C:Ctx):kW (af C):=λ_ _ _ _ h=>h.1
section
variable{C:Ctx}{w:World}{G:aH}{H:Z}{env:Env}{a:Act}
theorem C0(h:oQ V c=true):VR C.F w G c V:=by
 unfold oQ at h;split at h
 ·simp at h;subst h;exact .bool _
 ·simp at h;obtain⟨rfl,rfl⟩:=h;exact .int _ _
 · rename_i s l;simp at h;subst h;have:s=⟨s.data.toList.toArray⟩:=(Lib.mk_data s).symm;rw[this];simpa using VR.str (F:=C.F) (w:=w) (G:=G) s.data.toList
 ·exact .eJ
 ·exact .fJ
 ·exact .gu
 ·exact .gv
 ·exact .e5
 ·cases h
theorem k5:∀{Vs:List Value}{cs:List I},gy Vs cs=true→aK C.F w G cs Vs.toArray:=by
 intro Vs;induction Vs with
 |nil=>intro cs h;cases cs<;>simp[gy]at h;exact aK.nil
 | cons V Vs f=>
  intro cs h;cases cs with
  |nil=>simp[gy]at h
  | cons c cs=>
   simp[gy]at h;have e:=f h.2;refine aK.nq (by have:=e.1;simp at this ⊢;exact this) λj d U a b=>?_;cases j with
   |zero=>simp at a b;subst a;subst b;exact C0 h.1
   |succ j=>exact e.2 j d U (by simpa using a) (by simpa using b)
theorem C1(h:s7 V c=true):VR C.F w G c V:=by
 unfold s7 at h;split at h
 · rename_i Vs cs;have:=(k5 (C:=C) (w:=w) (G:=G) h).agg;simpa using this
 · rename_i Vs cs;have:=(k5 (C:=C) (w:=w) (G:=G) h).aq;simpa using this
 ·exact C0 h
theorem Mg:∀{l l':List I},mE l l'=true→l=l':=by
 intro l;induction l with
 |nil=>intro l' h;cases l'<;>simp[mE]at h;rfl
 | cons c l a=>
  intro l' h;cases l' with
  |nil=>cases c<;>simp[mE]at h
  | cons d l'=>
   cases c<;>cases d<;>simp[mE]at h
   ·rw[h.1,a h.2]
   ·rw[h.1.1,h.1.2,a h.2]
   ·rw[h.1,a h.2]
theorem k6{t:Nat}(b:aK C.F w G env a.tmps):VR C.F w G (env.getD t .bot) (a.tmps.getD t undef):=by
 rw[Zg,Zb];cases hc:env[t]? with
 |none=>exact .bot _
 | some c=>obtain⟨V,d,e⟩:=b.get hc;rw[d];exact e
theorem b9{x:Operand}{y:aW}(hG:jc C w G)(b:aK C.F w G env a.tmps)(h:b6 C x y=true):VR C.F w G (y.ev env) (a.eval x):=by
 unfold b6 at h;rw[X2]at h;rcases h with h|h
 · unfold CZ at h;split at h
   ·exact .bot _
   ·cases h
 unfold CY at h;split at h
 ·simp at h;subst h;exact k6 b
 ·exact C1 h
 · split at h
   · rename_i l l' hl;rw[←Mg h];exact hG _ _ hl
   ·cases h
 · split at h
   · rename_i key;simp only[X1,Option.isNone_iff_eq_none,bG]at h;exact .fn key [] _ #[] h.1 h.2 rfl (λj c V hc _=>by simp at hc)
   ·cases h
 ·cases h
theorem qI{x:Option Operand}{y:Option aW}(hG:jc C w G)(b:aK C.F w G env a.tmps)(h:ns C x y=true):kY C.F w G (y.map (aW.ev env)) (x.map a.eval):=by
 unfold ns at h;split at h
 ·trivial
 ·exact b9 hG b h
 ·cases h
theorem nw(hG:jc C w G)(g:aK C.F w G env a.tmps):∀{xs:List Operand}{b:List aW},kx C xs b=true→aK C.F w G (eb env b) (xs.map a.eval).toArray:=by
 intro xs;induction xs with
 |nil=>intro b h;cases b<;>simp[kx]at h;exact aK.nil
 | cons x xs i=>
  intro b h;cases b with
  |nil=>simp[kx]at h
  | cons y b=>
   simp[kx]at h;have f:=i h.2;refine aK.nq (by have:=f.1;simp[eb]at this ⊢;exact this) λj d U c e=>?_;cases j with
   |zero=>simp[eb]at c e;subst c;subst e;exact b9 hG g h.1
   |succ j=>exact f.2 j d U (by simpa[eb]using c) (by simpa using e)
theorem C2(hG:jc C w G)(d:aK C.F w G env a.tmps){place:Nat→Option (Nat×Nat)}:∀{xs:List (Nat×Operand)}{b:List (Nat×Nat×aW)},nu C place xs b=true →
  (fK env b).length=(xs.map λp=>(p.1,a.eval p.2)).length ∧
  ∀(j:Nat)(q:Nat×Nat×I)(p:Nat×Value),(fK env b)[j]?=some q→(xs.map λp=>(p.1,a.eval p.2))[j]?=some p→place p.1=some (q.1,q.2.1)∧VR C.F w G q.2.2 p.2:=by
 intro xs;induction xs with
 |nil=>intro b h;cases b<;>simp[nu]at h;exact⟨rfl,λj q p c=>by simp[fK]at c⟩
 | cons x xs e=>
  intro b h;obtain⟨i,x⟩:=x;cases b with
  |nil=>simp[nu]at h
  | cons y b=>
   obtain⟨off,sz,y⟩:=y;simp[nu]at h;obtain⟨h1,f⟩:=e h.2;refine⟨by simp[fK]at h1 ⊢;exact h1,λj q p c hp=>?_⟩;cases j with
   |zero=>simp[fK]at c hp;subst c;subst hp;exact⟨h.1.1,b9 hG d h.1.2⟩
   |succ j=>exact f j q p (by simpa[fK]using c) (by simpa using hp)
end
end Rb

namespace Rb
open Go
variable{v:I}{t e tp te:TypeId}{Xs:Array Value}{H':Z}{V z:Value}{inf j i:TypeInfo}{sz m:Nat}{D:TypeDesc}{k:IntKind}{zero:List I}{name:String}{w':World}{next:Act→World→Prop}
def Op.oU(m:Nat)(xs c:Array Value)(e:TypeId)(n:Nat):List Nat→Sem Bool
 |[]=>pure true
 | i::r=>do
  let a ←part e xs (i*n);let b ←part e c (i*n);let x ←X_ m e a b
  if(!x)=true then pure false else Op.oU m xs c e n r
theorem run_equalIn_array{P:Program}(w:World)(m:Nat)(t e:TypeId)(len:Nat)(i:TypeInfo)(xs c:Array Value)(ht:P.underlying t=some (.array len e))(hi:P.info? e=some i) :
  (X_ (m+1) t (.agg xs) (.agg c)).run P w=(Op.oU m xs c e i.size (YM len)).run P w:=by
 have hs:(X0 e).run P w = .ok i.size w:=by simp[X0,typeInfo,hi]
 simp only[X_,ZG,run_underlying ht,ZH,hs];rw[ZI];have d:ZJ (ZK [:len]) (ZL [:len]) (ZM [:len])=YM len:=by simp[ZL,ZN]
 rw[d];clear hs d;generalize YM len=l;induction l generalizing w with
 |nil=>simp[Op.oU]
 | cons j r f=>
  simp only[List.forIn_cons,Op.oU,ZG,Sem.run_ite];generalize (part e xs (j*i.size)).run P w=r1;cases r1 with
  | ok a w1=>
   simp only[ZH];generalize (part e c (j*i.size)).run P w1=g;cases g with
   | ok b w2=>
    simp only[ZH];generalize (X_ m e a b).run P w2=h;cases h with
    | ok x w3=>
     cases x
     ·simp only[ZH,Bool.not_false,a_,ZO]
     · simp only[ZH,Bool.not_true,ZP,bR,ZO];exact f w3
    |halt x w3=>simp[ZQ]
   |halt x w2=>simp[ZQ]
  |halt x w1=>simp[ZQ]
theorem ym:∀(k1 k2:List FK)(xs g:List I)(b:Bool),dA (k1++k2) xs g=some b →
  ∃c e d f b1 b2,xs=c++e∧g=d++f∧c.length=k1.length∧d.length=k1.length∧dA k1 c d=some b1∧dA k2 e f=some b2∧b=(b1&&b2):=by
 intro k1;induction k1 with
 |nil=>intro k2 xs g b h;exact⟨[],xs,[],g,true,b,rfl,rfl,rfl,rfl,rfl,h,by simp⟩
 | cons k k1 m=>
  intro k2 xs g b h;have step:∀(x y:I)(r t:List I)(a q:Bool),dA (k1++k2) r t=some a→(∀(z:Bool),dA k1 (r.take k1.length) (t.take k1.length)=some z→dA (k::k1) (x::r.take k1.length) (y::t.take k1.length)=some (q&&z))→b=(q&&a) →
    ∃c e d f b1 b2,x::r=c++e∧y::t=d++f∧c.length=(k::k1).length∧d.length=(k::k1).length∧dA (k::k1) c d=some b1∧dA k2 e f=some b2∧b=(b1&&b2):=by
   intro x y r t a q n j hb;obtain⟨c,e,d,f,b1,b2,rfl,rfl,i,l,h1,o,p⟩:=m k2 r t a n;rw[←i,ZR,i,←l,ZR]at j;exact⟨x::c,e,y::d,f,q&&b1,b2,rfl,rfl,by simp[i],by simp[l],j _ h1,o,by rw[hb,p,Bool.and_assoc]⟩
  cases k<;>cases xs<;>(try (simp[dA]at h;done))<;>cases g<;>(try (simp[dA]at h;done))<;>rename_i x r y t<;>cases x<;>(try (simp[dA]at h;done))<;>cases y<;>(try (simp[dA]at h;done))
  · simp only[ZS,dA]at h;split at h
    · rename_i hk;subst hk;cases hb:dA (k1++k2) r t with
      |none=>simp[hb]at h
      | some a=>simp[hb]at h;exact step _ _ r t a _ hb (λz hz=>by simp only[dA,a_,hz,Yc]) h.symm
    ·cases h
  · simp only[ZS,dA]at h;cases hb:dA (k1++k2) r t with
    |none=>simp[hb]at h
    | some a=>simp[hb]at h;exact step _ _ r t a _ hb (λz hz=>by simp only[dA,hz,Yc]) h.symm
  · simp only[ZS,dA]at h;cases hb:dA (k1++k2) r t with
    |none=>simp[hb]at h
    | some a=>simp[hb]at h;exact step _ _ r t a _ hb (λz hz=>by simp only[dA,hz,Yc]) h.symm
theorem C3:∀(ks:List FK)(xs a:List I)(b:Bool),dA ks xs a=some b→xs.length=ks.length∧a.length=ks.length:=by intro ks xs a b h;obtain⟨g,c,i,d,b1,b2,rfl,rfl,h1,e,_,f,_⟩:=ym ks [] xs a b (by simpa using h);cases c<;>cases d<;>simp[dA]at f;simp[h1,e]
section
variable{P:Program}{F:cz}{w:World}{G:aH}
def hJ(F:cz)(w:World)(G:aH)(Xs:Array Value)(o:Nat)(xs:List I):Prop:=∀(j:Nat)(c:I),xs[j]?=some c→∃V,Xs[o+j]?=some V∧VR F w G c V
theorem hJ.left{o:Nat}{x y:List I}(h:hJ F w G Xs o (x++y)):hJ F w G Xs o x:=λj c a=>h j c (by rw[Zy (XV.1 a).1];exact a)
theorem hJ.right{o:Nat}{x y:List I}(h:hJ F w G Xs o (x++y)):hJ F w G Xs (o+x.length) y:=λj c a=>by have:=h (x.length+j) c (by rw[Zz (by omega)];simpa using a);rwa [←Yg]at this
theorem hJ.cut{o n:Nat}{x:List I}(h:hJ F w G Xs o x)(hn:n=x.length):hJ F w G (Xs.extract o (o+n)) 0 x:=λj c a=>by obtain⟨V,b,hv⟩:=h j c a;have d:=(XV.1 a).1;have e:=(YF.1 b).1;refine⟨V,?_,hv⟩;rw[YI,XZ,cG];exact b
def qJ(P:Program)(F:cz)(w:World)(G:aH)(m:Nat)(t:TypeId)(ks:List FK):Prop:=
 ∀ (Xs d:Array Value) (e f:Nat) (xs g:List I) (b:Bool),dA ks xs g=some b→hJ F w G Xs e xs→hJ F w G d f g →
  ∃a c,(part t Xs e).run P w = .ok a w∧(part t d f).run P w = .ok c w∧(X_ m t a c).run P w = .ok b w
def tc(P:Program)(F:cz)(w:World)(G:aH)(m:Nat)(t:TypeId)(ks:List FK):Prop:=∀(Xs a:Array Value)(xs c:List I)(b:Bool),dA ks xs c=some b→hJ F w G Xs 0 xs→hJ F w G a 0 c→(X_ m t (.agg Xs) (.agg a)).run P w = .ok b w
theorem Mh{g:TypeId→Option (List FK)}(q:∀t l,g t=some l→qJ P F w G m t l){Xs h:Array Value}:∀(fs:List Field)(k:Nat)(ks:List FK)(xs e:List I)(b:Bool),oS g fs k=some ks→dA ks xs e=some b →
  hJ F w G Xs k xs→hJ F w G h k e→(ZT m Xs h fs).run P w = .ok b w:=by
 intro fs;induction fs with
 | nil=>intro k ks xs e b d he _ _;simp only[oS,Yb.injEq]at d;subst d;cases xs<;>cases e<;>simp[dA]at he;subst he;rfl
 | cons f fs r=>
  intro k ks xs e b d he j hY;simp only[oS]at d;split at d
  · rename_i s;obtain⟨u,v⟩:=s;split at d
    · rename_i l hl;cases i:oS g fs (k+l.length)with
      |none=>simp[i]at d
      | some n=>
       simp only[i,Yc,Yb.injEq]at d;subst d;obtain⟨x,y,z,A,b1,b2,rfl,rfl,B,C,h1,D,rfl⟩:=ym l n xs e b he;obtain⟨a,c,ha,hc,E⟩:=q _ _ hl Xs h k k x z b1 h1 j.left hY.left;rw[←u]at ha hc;have o:=j.right;have p:=hY.right;rw[B]at o;rw[C]at p;simp only[ZT,v,ne_eq,not_false_eq_true,a_,ZG,ha,hc,E,ZH];cases b1 with
       |false=>simp
       |true=>simp;exact r (k+l.length) n y A b2 i D o p
    ·cases d
  ·cases d
theorem Mi{l:List FK}(hp:qJ P F w G m e l){Xs f:Array Value}:∀(n s:Nat)(xs d:List I)(b:Bool),dA (XS n l).flatten xs d=some b →
  hJ F w G Xs (s*l.length) xs→hJ F w G f (s*l.length) d→(Op.oU m Xs f e l.length (ZJ s n)).run P w = .ok b w:=by
 intro n;induction n with
 | zero=>intro s xs d b he _ _;cases xs<;>cases d<;>simp[dA]at he;subst he;rfl
 | succ n j=>
  intro s xs d b he g hY;rw[Y0,Y1]at he;obtain⟨k,o,p,q,b1,b2,rfl,rfl,r,t,h1,u,rfl⟩:=ym l _ xs d b he;obtain⟨a,c,ha,hc,v⟩:=hp Xs f _ _ k p b1 h1 g.left hY.left;have h:=g.right;have i:=hY.right;rw[r,←ZU]at h;rw[t,←ZU]at i;rw[List.range'_succ];simp only[Op.oU,ZG,ha,hc,v,ZH];cases b1 with
  |false=>simp
  |true=>simp;exact j (s+1) o q b2 u h i
theorem Mj:∀(d:Nat)(t:TypeId)(ks:List FK),k4 P d t=some ks→∀m,d≤m→qJ P F w G m t ks∧(∀D,P.underlying t=some D→ia D=true→tc P F w G m t ks):=by
 intro d;induction d with
 |zero=>intro t ks h;cases h
 | succ d v=>
  intro t ks h m hm;obtain⟨m,rfl⟩:∃K,m=K+1:=⟨m-1,by omega⟩
  have z:d≤m:=by omega
  have wrap:∀D (i:TypeInfo),P.underlying t=some D→ia D=true→P.info? t=some i→i.size=ks.length→tc P F w G (m+1) t ks→qJ P F w G (m+1) t ks∧(∀D,P.underlying t=some D→ia D=true→tc P F w G (m+1) t ks):=by intro D i g o hi p ha;refine⟨λXs q L M xs c b he f hY=>?_,λ_ _ _=>ha⟩;obtain⟨A,B⟩:=C3 ks xs c b he;exact⟨_,_,x5 g o hi,x5 g o hi,ha _ _ xs c b he (f.cut (by omega)) (hY.cut (by omega))⟩
  have u:∀D,P.underlying t=some D→ia D=false→∀k,ks=[k]→(∀x y b V U,dA [k] [x] [y]=some b→VR F w G x V→VR F w G y U→(X_ (m+1) t V U).run P w = .ok b w)→qJ P F w G (m+1) t ks∧(∀D,P.underlying t=some D→ia D=true→tc P F w G (m+1) t ks):=by
   intro D g o k hk hs;subst hk;refine⟨λXs q L M xs c b he f hY=>?_,λR C E=>?_⟩
   · obtain ⟨A,B⟩:=C3 _ xs c b he
     match xs,c,A,B with
     | [x],[y],_,_=>obtain⟨V,H,hv⟩:=f 0 x rfl;obtain⟨U,I,hu⟩:=hY 0 y rfl;rw[Yx]at H I;exact⟨V,U,x6 g o H,x6 g o I,hs x y b V U he hv hu⟩
   ·rw[g]at C;cases C;rw[o]at E;cases E
  simp only[k4]at h;split at h
  · rename_i S a;cases h;refine u _ a rfl _ rfl λx y b V U he r s=>?_;cases x<;>cases y<;>simp only[dA]at he<;>try (cases he;done)
    split at he
    · rename_i N;subst N;obtain rfl:=r.e8;obtain rfl:=s.e8;simp at he;rw[run_equalIn_int w m t _ _ _ _ a,he]
    ·cases he
  · rename_i a;cases h;refine u _ a rfl _ rfl λx y b V U he r s=>?_;cases x<;>cases y<;>simp only[dA]at he<;>try (cases he;done)
    obtain rfl:=r.iI;obtain rfl:=s.iI;simp at he;rw[run_equalIn_bool' w m t _ _ a,he]
  · rename_i a;cases h;refine u _ a rfl _ rfl λx y b V U he r s=>?_;cases x<;>cases y<;>simp only[dA]at he<;>try (cases he;done)
    obtain rfl:=r.iJ;obtain rfl:=s.iJ;simp at he;rw[run_equalIn_string w m t _ _ a];simp[he]
  · rename_i fs i a hi;split at h
    ·cases h
    · rename_i O;split at h
      · rename_i l hl;split at h
        · rename_i p;cases h;refine wrap _ i a rfl hi p λXs q xs c b he f hY=>?_;have J:P.fieldsOf t=fs:=by simp[Program.fieldsOf,a]
          have h1:=run_equalIn_struct (P:=P) w m t Xs q (by rw[J];exact a) (by simpa using O);rw[J]at h1;rw[h1];exact Mh (λt l hl=>(v t l hl m z).1) fs.toList 0 _ xs c b hl he f hY
        ·cases h
      ·cases h
  · rename_i n e i a hi;split at h
    · rename_i l j hl Q;split at h
      · rename_i p;cases h;refine wrap _ i a rfl hi p.1 λXs q xs c b he f hY=>?_;rw[run_equalIn_array w m t e n j Xs q a Q,p.2,ZN];exact Mi (v e l hl m z).1 n 0 xs c b he (by simpa using f) (by simpa using hY)
      ·cases h
    ·cases h
  ·cases h
end
section
variable{P:Program}{F:cz}{w:World}{G:aH}{H:Z}
theorem aK.take{cs:List I}{L:List Value}(h:aK F w G cs L.toArray)(k:Nat):aK F w G (cs.take k) (L.take k).toArray:=by
 refine aK.nq (by have:=h.1;simp at this;simp[this]) λj c V hc a=>?_;have b:j<k:=by have:=(XV.1 hc).1;simp at this;omega
 rw[ZV b]at hc a;exact h.2 j c V hc (by simpa using a)
theorem Ml{t t2 e ty:TypeId}{x y v:I}{X Y:Value}{H':Z}(b:Rel F w G H)(ht:P.underlying t=some (.slice e))(hi:P.info? e=some inf)(hs:inf.size=sz)
  (h:qw H sz x y=some (v,H')) (g:VR F w G x X) (i:VR F w G y Y):hI F w G H v H' ((ZW #[t,t2] ty #[X,Y]).run P w):=by
 subst hs;unfold qw at h;split at h
 · rename_i id o len s' m news k;obtain⟨l,d,c,rfl,n⟩:=ye b k i;split at h
   · rename_i cs p;dsimp only at h;split at h
     · rename_i hk;cases h;have q:∃L:List Value,aK F w G (news.take (min m len*inf.size)) L.toArray∧(Ze inf.size (min m len) (.slice d m c)).run P w = .ok L.toArray w:=by
        rcases Nat.eq_zero_or_pos m with hm|hm
        · subst hm;have:news=[]:=by simpa using l
          subst this;refine⟨[],by simpa using aK.nil,?_⟩;cases d<;>simp[Ze,loadCells,loadCellsFrom]
        · obtain ⟨bs,os,rfl,r⟩:=n hm;obtain⟨M,f,s⟩:=r.kv;have A:M.length=m*inf.size:=by have:=f.1;simp at this;omega
          refine⟨M.take (min m len*inf.size),f.take _,?_⟩;have hle:min m len*inf.size≤m*inf.size:=Za _ (Nat.min_le_left _ _);exact run_firstCells_some (P:=P) w inf.size (min m len) ⟨bs,os,none⟩ m c (M.take (min m len*inf.size)) (by rw[List.length_take,A];omega) λj u a=>by
           have B:j<min m len*inf.size:=by have:=(XV.1 a).1;simp at this;omega
           rw[ZV B]at a;exact s j u a
       obtain⟨L,C,hf⟩:=q;have N:(news.take (min m len*inf.size)).length≤min m len*inf.size:=by simp;omega
       obtain ⟨w',D,E,J⟩:=sZ (P:=P) (o:=o) b p C (by omega) (by rw[YU];intro z hz;exact(YU.1 hk.1) z (List.mem_of_mem_take hz))
       cases g with
       | row _ _ _ _ cap O hle hc=>refine⟨.int .i64 ((min m len:Nat):Int),w',G,?_,.int _ _,E,J⟩;have K:Nat.min m len=min m len:=rfl;simp[ZW,run_underlying ht,X0,typeInfo,hi,Y9,K,hf,D,goInt]
     ·cases h
   ·cases h
 ·cases h
end
section
variable{P:Program}{F:cz}{w:World}{G:aH}{H:Z}
theorem Mm{t a:TypeId}(ht:P.underlying t=some D)(b:yk D=true):(ZX (.iface t V) a t false).run P w = .ok V w:=by cases D<;>first|(simp[yk]at b;done)|simp[ZX,run_underlying ht]
theorem yn{c r:Bool}{a b:Addr}{p q:Operand}(hp:P.underlying tp=some (.pointer te))(f:P.info? te=some j)(g:j.size≠0)(hs:(sameAddr a b).run P w = .ok r w) :
  (do eqGuard (if c then .neq else .eql) tp p q (.pointer (some a)) (.pointer (some b));binOp (if c then .neq else .eql) tp (.pointer (some a)) (.pointer (some b)):Sem Value).run P w = .ok (.bool (if c then !r else r)) w:=by
 have h:∀d:Nat,(X_ (d+1) tp (.pointer (some a)) (.pointer (some b))).run P w = .ok r w:=λd=>by simp[X_,run_underlying hp,X0,typeInfo,f,g,hs]
 cases c
 · have e:binOp .eql tp (.pointer (some a)) (.pointer (some b))=(do pure (.bool (←Ya tp (.pointer (some a)) (.pointer (some b))))):=rfl;simp[eqGuard,e,Ya,ZY,h 9999]
 · have e:binOp .neq tp (.pointer (some a)) (.pointer (some b))=(do pure (.bool (!(←Ya tp (.pointer (some a)) (.pointer (some b)))))):=rfl;simp[eqGuard,e,Ya,ZY,h 9999]
theorem Mn{a:Bool}{x y v:I}{X Y:Value}{H':Z}{p q:Operand}(c:Rel F w G H)(hp:P.underlying tp=some (.pointer te))(d:P.info? te=some j)(f:j.size≠0)
  (h:eh H (.mB a) [x,y]=some (v,H')) (u:VR F w G x X) (z:VR F w G y Y) :
  ∃V,(do eqGuard (if a then .neq else .eql) tp p q X Y;binOp (if a then .neq else .eql) tp X Y:Sem Value).run P w = .ok V w∧VR F w G v V∧H'=H:=by
 cases x<;>cases y<;>try (simp[eh]at h;done)
 rename_i i o g b;simp only[eh]at h;split at h
 · rename_i cs ds hi n;have r:=c.obj i;have s:=c.obj g;rw[hi]at r;rw[n]at s;obtain⟨C,e,hc,_⟩:=r;obtain⟨D,A,t,_⟩:=s;cases u with
   | ptr _ _ B=>
    cases z with
    | ptr _ _ E=>
     split at h
     · rename_i k;subst k;simp only[Yb.injEq,ZZ.injEq]at h;obtain⟨rfl,rfl⟩:=h;by_cases l:o=b
       · subst l;refine⟨_,yn hp d f (run_sameAddr_same (P:=P) w _),?_,rfl⟩;rw[beq_self_eq_true];cases a<;>exact VR.bool _
       · have m:(⟨G.loc i,o,none⟩:Addr)≠⟨G.loc i,b,none⟩:=λe=>l (by injection e);have hb:(o==b)=false:=by simpa using l
         rw[hb];refine⟨_,yn hp d f (run_sameAddr_other w m hc t),?_,rfl⟩;cases a<;>exact VR.bool _
     · rename_i k;simp only[Yb.injEq,ZZ.injEq]at h;obtain⟨rfl,rfl⟩:=h;have m:(⟨G.loc i,o,none⟩:Addr)≠⟨G.loc g,b,none⟩:=λe=>c.eZ i g k (by rw[hi];rfl) (by rw[n];rfl) (by injection e);refine⟨_,yn hp d f (run_sameAddr_other w m hc t),?_,rfl⟩;cases a<;>exact VR.bool _
 ·cases h
theorem Mo(w:World){t a ty e:TypeId}(ht:P.underlying t=some (.slice e))(b:P.underlying a=some (.int k))(hi:P.info? e=some i)(hz:i.zero=some z)(hs:i.size≠0)
  (n:Nat) (c:0<n) (m:(n:Int)≤9223372036854775807) (o:n*i.bytes≤281474976710656) :
  (Y8 #[t,a] ty #[.slice none 0 0,.int .i64 n]).run P w =
   .ok (.slice (some ⟨w.heap.size,0,none⟩) n (grownCap w n 0 e)) (w.drew.alloc (.cells (#[]++Zc z.cells n++Zc z.cells (grownCap w n 0 e-n)) e)):=by
 have hn:n≠0:=by omega
 have d:¬(9223372036854775807<(n:Int)):=by omega
 have f:¬(281474976710656<Builtin.nextslicecap n 0*i.bytes):=by rw[nextslicecap_zero c];omega
 have hw:Y5.wrap (n:Int)=n:=by simp[Y6,X9,X8];omega
 have g:¬((n:Int)<0):=by omega
 have j:¬(281474976710656<(n:Int)*(i.bytes:Int)):=by
  have:((n*i.bytes:Nat):Int)≤281474976710656:=by omega
  rw[Int.natCast_mul]at this;omega
 have l:n*i.size≠0:=Nat.mul_ne_zero hn hs;have hb:Y5.max=9223372036854775807:=rfl;simp[Y8,run_underlying ht,run_underlying b,X0,typeInfo,zeroValue,hi,hz,asInt,asIntOf,hw,g,j,hn,hs,d,f,hb,Question.forced,Ze,newRow,grownCap];intro h;exact absurd h l
theorem Mp{t d e ty:TypeId}{sz bytes:Nat}{x y v:I}{X Y:Value}{H':Z}(q:Rel F w G H)(ht:P.underlying t=some (.slice e))(r:P.underlying d=some (.int k))(hi:P.info? e=some inf)(hs:inf.size=sz)(hb:inf.bytes=bytes)(hz:inf.zero=some z)(f:aK F w G zero z.cells)
  (h:eh H (.grow sz bytes zero) [x,y]=some (v,H')) (s:VR F w G x X) (u:VR F w G y Y):hI F w G H v H' ((Y8 #[t,d] ty #[X,Y]).run P w):=by
 subst hs hb;cases x<;>try (simp[eh]at h;done)
 rename_i tk len cells;cases tk<;>cases len<;>cases cells<;>try (simp[eh]at h;done)
 cases y<;>try (simp[eh]at h;done)
 rename_i k' n;cases k'<;>try (simp[eh]at h;done)
 simp only[eh]at h;split at h
 · rename_i hk;obtain⟨A,g,B,C,O⟩:=hk;simp only[Yb.injEq,ZZ.injEq]at h;obtain⟨rfl,rfl⟩:=h;obtain rfl:=u.e8;obtain⟨m,rfl⟩:=Y4 (Int.le_of_lt A);simp only[Y7]at g ⊢;have i:zero.length=z.cells.size:=f.1;cases s with
   | e5=>
    rw[Mo w ht r hi hz (by omega) m (by omega) B g];have D:=oN f m;have E:∀(j:Nat)(c:I),(XS m zero).flatten[j]?=some c→∃V,(#[]++Zc z.cells m++Zc z.cells (grownCap w m 0 e-m))[j]?=some V∧VR F w G c V:=by intro j c J;obtain⟨V,l,a⟩:=D.get J;rw[i]at l;refine⟨V,?_,a⟩;have p:(Zc z.cells m)[j]?=some V:=l;rw[Array.empty_append,Yl,aa (YF.1 p).1];exact p
    have K:=grownCap_ge w m 0 e;have L:(#[]++Zc z.cells m++Zc z.cells (grownCap w m 0 e-m)).size=grownCap w m 0 e*inf.size:=by simp only[Zd,Array.size_empty,size_zeroCells,YI,←Yu,←i,C];congr 1;omega
    obtain⟨G',a,M,hv⟩:=s4 q (c0.drew w _) E L m K;exact⟨_,_,G',rfl,hv,a,M⟩
   |ak _ _ _ b o cap Vs N hle h hv=>exact N.elim
 ·cases h
theorem Mq{t e ty:TypeId}{sz:Nat}{x v:I}{X:Value}{H':Z}(d:Rel F w G H)(ht:P.underlying t=some (.slice e))(hi:P.info? e=some inf)(hz:inf.zero=some z)(f:aK F w G zero z.cells)
  (h:eh H (.clear sz zero) [x]=some (v,H')) (g:VR F w G x X):hI F w G H v H' ((Z0 #[t] ty #[X]).run P w):=by
 have nothing:∀(a:Option Addr)(cap:Nat),hI F w G H (.aq []) H ((Z0 #[t] ty #[.slice a 0 cap]).run P w):=by intro a cap;refine⟨.tuple #[],w,G,?_,.aq [] #[] rfl (λj c V hc _=>by simp at hc),d,Step.refl _ _ _⟩;cases a<;>simp[Z0,run_underlying ht]
 cases x<;>try (simp[eh]at h;done)
 · rename_i tk len cells;cases len with
   |succ n=>simp[eh]at h
   | zero=>
    simp only[eh,Yb.injEq,ZZ.injEq]at h;obtain⟨rfl,rfl⟩:=h;cases g with
    |e5=>exact nothing _ _
    |e6 a cap=>exact nothing _ _
    |ak _ _ _ b o cap Vs D hle h hv=>exact nothing _ _
 · rename_i id o len E;simp only[eh]at h;cases g with
   | row _ _ _ _ cap J hle hc=>
    split at h
    · rename_i hl;subst hl;simp only[Yb.injEq,ZZ.injEq]at h;obtain⟨rfl,rfl⟩:=h;exact nothing _ _
    · rename_i hl;split at h
      · rename_i cs k;split at h
        · rename_i hk;obtain⟨m,p,q⟩:=hk;simp only[Yb.injEq,ZZ.injEq]at h;obtain⟨rfl,rfl⟩:=h;have r:zero.length=z.cells.size:=f.1;have s:aK F w G (XS len zero).flatten (Zc z.cells len).toList.toArray:=by
           have:=oN f len;rw[r]at this;rw[Array.toArray_toList];exact this
          have u:(XS len zero).flatten.length=len*zero.length:=by simp
          have y:(XS len zero).flatten.all I.scalar=true:=by rw[YU];intro c hc;rw[List.mem_flatten]at hc;obtain⟨l,hl,i⟩:=hc;rw[(List.mem_replicate.1 hl).2]at i;exact(YU.1 m) c i
          obtain⟨w',A,B,C⟩:=sZ (P:=P) (o:=o) d k s (by rw[u,p];exact q) y;refine⟨.tuple #[],w',G,?_,.aq [] #[] rfl (λj c V hc _=>by simp at hc),B,C⟩;obtain⟨n,rfl⟩:∃n,len=n+1:=⟨len-1,by omega⟩
          simp[Z0,run_underlying ht,zeroValue,typeInfo,hi,hz,A]
        ·cases h
      ·cases h
end
theorem C4{P:Program}{w:World}{n:Nat}{t f:Nat}{V U:Value}{a:Method}{pr:Bool}(hi:P.info? t=some i)(b:i.methods.find? (·.name==name)=some a)(hp:a.path.toList=[])(hf:a.func=some (f,pr))
  (c:∀wr,(receiverAt t (.val V) pr wr).run P w = .ok U w):(method (n+1) t V name).run P w = .ok (f,U) w:=by
 have d:(typeInfo t).run P w = .ok i w:=by simp[typeInfo,hi]
 unfold method;simp only[ZG,d,ZH,b,hp,follow,ZO,hf,c]
theorem Mr{C:Ctx}{w:World}{G:aH}{H:Z}{key:Nat}{m:Option (Nat×Bool)}{v u:I}(l:Rel C.F w G H)(h:s_ C name t key m=true)(d:VR C.F w G v V)(b:qC H m v=some u) :
  ∃f U,C.F key=some f∧jA C.P f=true∧(method (C.P.types.size+Z1) t V name).run C.P w = .ok (f,U) w∧VR C.F w G u U:=by
 have o:C.P.types.size+Z1=(C.P.types.size+99)+1:=rfl;rw[o];unfold s_ at h;cases hi:C.P.info? t with
 |none=>rw[hi]at h;cases h
 | some i=>
  rw[hi]at h;dsimp only at h;cases hm:i.methods.find? (·.name==name)with
  |none=>rw[hm]at h;cases h
  | some mt=>
   rw[hm]at h;dsimp only at h;rw[X1]at h;obtain⟨hp,h⟩:=h;have j:mt.path.toList=[]:=by simpa using hp
   cases c:mt.func with
   |none=>rw[c]at h;cases h
   | some p=>
    obtain⟨f,pr⟩:=p;rw[c]at h;cases ht:C.P.underlying t with
    |none=>rw[ht]at h;cases pr<;>cases m<;>cases h
    | some D=>
     rw[ht]at h;cases D<;>try (cases pr<;>cases m<;>cases h;done)
     rename_i e;have k:(underlying t).run C.P w = .ok (.pointer e) w:=run_underlying ht w;cases pr with
     | true=>
      cases m with
      |some _=>cases h
      | none=>simp only[X1,bG]at h;simp only[qC,Yb.injEq]at b;subst b;refine⟨f,V,h.1,h.2,C4 hi hm j c λwr=>?_,d⟩;unfold receiverAt;simp only[ZG,k,ZH];rfl
     | false=>
      cases m with
      |none=>cases h
      | some q=>
       obtain⟨n,agg⟩:=q;simp only[X1,bG]at h;obtain⟨⟨h1,r⟩,s⟩:=h;simp only[qC]at b;obtain⟨U,g,x⟩:=yb (P:=C.P) s l b d;have y:∃a,V = .pointer (some a):=by unfold O at b;cases d<;>first|(simp at b;done)|exact⟨_,rfl⟩
       obtain⟨a,rfl⟩:=y;simp only[YP,Yi,ZG,ZO,ZH]at g;refine⟨f,U,h1,r,C4 hi hm j c λwr=>?_,x⟩;unfold receiverAt;simp only[ZG,k,ZH,Place.get,ZO];cases wr with
       |none=>simp only[ZG,ZO,ZH,asAddr,g]
       | some nm=>
        have hs : (Builtin.ssaWrapNilChk_ #[t] t #[.pointer (some a), strVal "", strVal nm]).run C.P w = .ok (.pointer (some a)) w := rfl
        simp only[ZG,hs,ZO,ZH,asAddr,g]
theorem C5{C:Ctx}{name:String}:∀{l:List (TypeId×Nat×Option (Nat×Bool))}{t:TypeId}{r:Nat×Option (Nat×Bool)},ta C name l=true→qB l t=some r→s_ C name t r.1 r.2=true
 |[],_,_,_,h=>by cases h
 | (t',a)::l,t,r,hc,h=>by
  simp only[ta,X1]at hc;simp only[qB]at h;split at h
  · rename_i e;cases h;rw[←e];exact hc.1
  ·exact C5 hc.2 h
def fM(C:Ctx):Prop:=∀key f,C.F key=some f→jA C.P f=true
def td(C:Ctx)(w:World)(G:aH)(H:Z)(K:ad)(a:Act)(b:Option Tmp):Act→World→Prop:=λa' w'=>∃v H' G' V,a'=a.put b V∧K v H'∧VR C.F w' G' v V∧Rel C.F w' G' H'∧Step w G H w' G' H'
section
variable{C:Ctx}{w:World}{G:aH}{H:Z}{env:Env}{a:Act}{o:Oper}{K:ad}{Q:Exit→Act→World→Prop}
theorem tf(h:(execOp a.eval o).run C.P w = .ok (.value V) w')(hn:next (a.put o.dst V) w'):o.wp C.P a w next Q:=by unfold Z2;rw[h];exact hn
theorem C6(h:(execOp a.eval o).run C.P w = .ok .skip w')(hn:next (a.put o.dst undef) w'):o.wp C.P a w next Q:=by unfold Z2;rw[h];exact hn
theorem oV:VR C.F w G (.aq []) undef:= .aq [] #[] rfl λj c V hc _=>by simp at hc
theorem wp_pure(b:Rel C.F w G H)(h:(execOp a.eval o).run C.P w = .ok (.value V) w)(hv:VR C.F w G v V)(c:K v H):o.wp C.P a w (td C w G H K a o.dst) Q:=tf h ⟨v,H,G,V,rfl,c,hv,b,Step.refl _ _ _⟩
theorem jd{r:Result Value}(h:hI C.F w G H v H' r)(b:(execOp a.eval o).run C.P w=r.andThen λV w'=> .ok (.value V) w')(c:K v H'):o.wp C.P a w (td C w G H K a o.dst) Q:=by obtain⟨V,w',G',rfl,hv,d,e⟩:=h;exact tf b ⟨v,H',G',V,rfl,c,hv,d,e⟩
theorem tg{f:FuncId}{args:Array Value}(h:jA C.P f=true):(callFunc f args).run C.P w = .ok (.enter f args) w:=by
 unfold jA at h;split at h
 · rename_i fn hf;simp at h;obtain⟨h1,a⟩:=h;cases hb:fn.body with
   |none=>simp[hb]at a
   |some c=>simp[callFunc,hf,h1,hb]
 ·cases h
theorem Ms{P:Program}{F:cz}{d:Bool}{ks:List FK}{x y v:I}{X Y:Value}{p q:Operand}(ht:P.underlying t=some D)(l:ia D=true)(hp:k4 P 9 t=some ks)
  (g:P.eqGuardType P.depth t=false) (h:ja d ks x y=some v) (m:VR F w G x X) (n:VR F w G y Y) :
  ∃V,(do eqGuard (if d then .neq else .eql) t p q X Y;binOp (if d then .neq else .eql) t X Y:Sem Value).run P w = .ok V w∧VR F w G v V:=by
 unfold ja at h;split at h
 · rename_i xs i;obtain⟨Xs,rfl,o⟩:=m.np;obtain⟨a,rfl,r⟩:=n.np;cases hb:dA ks xs i with
   |none=>simp[hb]at h
   | some b=>
    simp only[hb,Yc,Yb.injEq]at h;subst h;have k:(Ya t (.agg Xs) (.agg a)).run P w = .ok b w:=
     (Mj (F:=F) (G:=G) 9 t ks hp 10000 (by omega)).2 D ht l Xs a xs i b hb (λj c e=>by rw[YI];exact o.get e) (λj c e=>by rw[YI];exact r.get e)
    refine⟨_,?_,.bool _⟩;cases d
    · have f:binOp .eql t (.agg Xs) (.agg a)=(do pure (.bool (←Ya t (.agg Xs) (.agg a)))):=rfl;simp[eqGuard,g,f,k]
    · have f:binOp .neq t (.agg Xs) (.agg a)=(do pure (.bool (!(←Ya t (.agg Xs) (.agg a))))):=rfl;simp[eqGuard,g,f,k]
 ·cases h
end
end Rb

namespace Rb
open Go
variable{P:Program}{t e:TypeId}{n sz:Nat}{zero:List I}{α:Type}
section
variable{C:Ctx}{w:World}{G:aH}{H:Z}{env:Env}{a:Act}{o:Oper}{K:ad}{Q:Exit→Act→World→Prop}
theorem lW(h:k3 P t=some e):P.underlying t=some (.slice e):=by
 unfold k3 at h;split at h
 ·rename_i a ht;cases h;exact ht
 ·cases h
theorem C7(h:s8 P t=some (n,e)):P.underlying t=some (.array n e):=by
 unfold s8 at h;split at h
 ·rename_i a ht;cases h;exact ht
 ·cases h
theorem C8{f:Field}(h:oR P t n=some f):∃fs,P.underlying t=some (.struct fs)∧fs[n]?=some f:=by
 unfold oR at h;split at h
 ·rename_i fs ht;exact⟨fs,ht,h⟩
 ·cases h
theorem yo(h:nt P t sz=true):∃i,P.info? t=some i∧i.size=sz:=by
 unfold nt at h;split at h
 ·rename_i i hi;simp at h;exact⟨i,hi,h⟩
 ·cases h
theorem yp{F:cz}{sz bytes:Nat}(h:s9 P t sz bytes zero=true) :
  ∃i z,P.info? t=some i∧i.size=sz∧i.bytes=bytes∧i.zero=some z∧z.cells.size=sz∧gy z.cells.toList zero=true:=by
 unfold s9 at h;split at h
 · rename_i i hi;simp only[X1,bG]at h;obtain⟨⟨h1,b⟩,a⟩:=h;split at a
   · rename_i z hz;simp only[X1,bG]at a;exact⟨i,z,hi,h1,b,hz,a.1,a.2⟩
   ·cases a
 ·cases h
theorem gS{l:Array α}{xs:List α}(h:l.toList=xs):l=xs.toArray:=by subst h;simp
theorem Mt{α β:Type}{g:α→Sem β}{h:α→β}:∀(l:List α),(∀x∈l,(g x).run P w = .ok (h x) w)→(l.mapM g).run P w = .ok (l.map h) w:=by
 intro l;induction l with
 |nil=>intro _;rfl
 | cons x l a=>intro hl;have h1:=hl x (by simp);have b:=a (λy c=>hl y (by simp[c]));rw[List.mapM_cons];simp only[ZG,h1,b,ZH,ZO,Zj]
theorem Mu{o:TypeInfo}{z:Value}{a:List (Nat×Nat×I)}{ps:List (Nat×Value)}{v:I}(hi:C.P.info? t=some o)(hz:o.zero=some z)(y:gy z.cells.toList zero=true)
  (hk:yj C.P t=true) (hl:a.length=ps.length) (A:∀(j:Nat)(q:Nat×Nat×I)(p:Nat×Value),a[j]?=some q→ps[j]?=some p→placeOf C.P t p.1=some (q.1,q.2.1)∧VR C.F w G q.2.2 p.2)
  (h:bo zero a=some v):∃V,(Z3 t ps.toArray).run C.P w = .ok V w∧VR C.F w G v V:=by
 unfold bo at h;cases hf:iD zero a with
 |none=>simp[hf]at h
 | some cells=>
  simp[hf]at h;subst h;have B:=k5 (C:=C) (w:=w) (G:=G) y;have D:aK C.F w G zero z.cells:=by simpa using B
  obtain⟨g,r,E⟩:=CQ (place:=placeOf C.P t) a ps _ _ _ D hl A hf;refine⟨.agg g,?_,E.agg⟩;unfold yj at hk;split at hk
  · rename_i fs ht;have H:∀(l:List Field),(∀f∈l,(C.P.info? f.type).isSome=true)→(l.mapM λf=>(do pure (f.offset,←X0 f.type):Sem (Nat×Nat))).run C.P w = .ok (l.map λf=>(f.offset,((C.P.info? f.type).map (·.size)).getD 0)) w:=by
     intro l hl;refine Mt l λf hf=>?_;have J:=hl f hf;cases b:C.P.info? f.type with
     |none=>simp[b]at J
     |some L=>simp[X0,typeInfo,b]
    have s:∀f∈fs.toList,(C.P.info? f.type).isSome=true:=λf hf=>by rw[Array.all_eq_true_iff_forall_mem]at hk;exact hk f (by simpa using hf)
    have hm:=H fs.toList s;have k:∀i,((fs.toList.map λf=>(f.offset,((C.P.info? f.type).map (·.size)).getD 0)).toArray)[i]?=placeOf C.P t i:=by
     intro i;unfold placeOf;rw[ht];simp only[YS,YN,ZE];cases b:fs[i]? with
     |none=>rfl
     | some f=>
      have:=s f (by simpa using Array.mem_of_getElem? b);cases u:C.P.info? f.type with
      |none=>simp[u]at this
      |some x=>simp[u]
    have c:Yw (λi=>((fs.toList.map λf=>(f.offset,((C.P.info? f.type).map (·.size)).getD 0)).toArray)[i]?) z.cells ps=some g:=by rw[show(λi=>((fs.toList.map λf=>(f.offset,((C.P.info? f.type).map (·.size)).getD 0)).toArray)[i]?)=placeOf C.P t from funext k];exact r
    have K:(fs.mapM λf=>(do pure (f.offset,←X0 f.type):Sem (Nat×Nat))).run C.P w = .ok (fs.toList.map λf=>(f.offset,((C.P.info? f.type).map (·.size)).getD 0)).toArray w:=by
     have he:fs=fs.toList.toArray:=by simp
     rw[he,List.mapM_toArray];simp only[Sem.run_map,hm,ZH]
    simp only[Z3,zeroValue,typeInfo,ZG,run_program,ZH,hi,hz,run_underlying ht,K,ZO];simp at c;simp[c]
  · rename_i n e ht;cases m:C.P.info? e with
    |none=>simp[m]at hk
    | some d=>
     have k:(λi=>some (i*d.size,d.size))=placeOf C.P t:=by funext i;unfold placeOf;rw[ht];simp[m]
     have c:Yw (λi=>some (i*d.size,d.size)) z.cells ps=some g:=by rw[k];exact r
     simp[Z3,zeroValue,typeInfo,X0,hi,hz,run_underlying ht,m,c]
  ·cases hk
theorem C9(hF:fM C){ao:dQ}(g:cw C o.op ao=true)(ax:ct C w G H)(N:Rel C.F w G H)(J:aK C.F w G env a.tmps)(h:bX (af C) env H K ao) :
  o.wp C.P a w (td C w G H K a o.dst) Q:=by
 have hG:=ax.1;cases ao with
 | mv x=>
  simp only[cw]at g;split at g
  · rename_i y A;exact wp_pure N (by simp[execOp,A]) (b9 hG J g) h
  · rename_i y A;exact wp_pure N (by simp[execOp,A]) (b9 hG J g) h
  ·cases g
 | pick c x y=>
  simp only[cw]at g;split at g
  · rename_i c' R ac A;simp only[X1]at g;obtain⟨⟨h1,B⟩,E⟩:=g;obtain⟨t,ht,h⟩:=x8 h;have hc:=b9 hG J h1;rw[ht]at hc;have aR:=hc.iI;cases t with
    |true=>exact wp_pure N (V:=a.eval R) (by simp[execOp,A,aR,asBool]) (b9 hG J B) (by simpa using h)
    |false=>exact wp_pure N (V:=a.eval ac) (by simp[execOp,A,aR,asBool]) (b9 hG J E) (by simpa using h)
  ·cases g
 | bin op x y=>
  simp only[cw]at g;split at g
  · rename_i ar t R ac ay A;simp only[X1,bG]at g;obtain⟨⟨rfl,B⟩,E⟩:=g;obtain⟨v,hv,I⟩:=h;have W:=b9 hG J B;have au:=b9 hG J E;obtain⟨V,O,L⟩:=Lr (P:=C.P) (t:=t) hv W au;have S:=CM (P:=C.P) (w:=w) op t R ac (a.eval R) (a.eval ac)
     (λcs e=>by rw[e]at W;generalize x.ev env=aC at W hv;cases W<;>simp[M]at hv)
     (λe=>by rw[e]at W;generalize x.ev env=aC at W hv;cases W<;>simp[M]at hv)
    exact wp_pure N (by simp[execOp,A,S,O]) L I
  ·cases g
 | beq neg x y=>
  simp only[cw]at g;split at g
  · rename_i ar t R ac ay A;simp only[X1,bG]at g;obtain⟨⟨⟨rfl,h1⟩,B⟩,E⟩:=g;obtain⟨v,hv,I⟩:=h;have W:=b9 hG J B;have au:=b9 hG J E;split at h1
    · rename_i ht;obtain⟨V,O,L⟩:=Ls (P:=C.P) (t:=t) ht hv W au;have S:=CM (P:=C.P) (w:=w) (if neg then .neq else .eql) t R ac (a.eval R) (a.eval ac)
       (λcs e=>by rw[e]at W;generalize x.ev env=aC at W hv;cases W<;>simp[kQ]at hv)
       (λe=>by rw[e]at W;generalize x.ev env=aC at W hv;cases W<;>simp[kQ]at hv)
      exact wp_pure N (by simp[execOp,A,S,O]) L I
    ·cases h1
  ·cases g
 | jx k neg x=>
  simp only[cw]at g;split at g
  · rename_i ar t R ac ay A;simp only[X1,bG]at g;obtain⟨⟨⟨rfl,h1⟩,B⟩,E⟩:=g;obtain⟨v,hv,I⟩:=h;have W:=b9 hG J B;split at h1
    · rename_i d ad;simp only[bG]at h1;split at E
      · rename_i aT;have aU:aT=k.nil:=by
         split at E<;>first|rfl|cases E
        subst aU;obtain⟨V,O,L⟩:=Lu (P:=C.P) ad h1 hv W;have S:(eqGuard (if neg then .neq else .eql) t R (.const k.nil) (a.eval R) k.nil).run C.P w = .ok () w:=by unfold eqGuard;cases neg<;>cases k<;>cases bd:a.eval R<;>simp[NK.nil]
        have aV:a.eval (.const k.nil)=k.nil:=rfl;exact wp_pure N (by simp[execOp,A,aV,S,O]) L I
      ·cases E
    ·cases h1
  ·cases g
 | iF neg ks x y=>
  simp only[cw]at g;split at g
  · rename_i ar t R ac ay A;simp only[X1,bG,Z4]at g;obtain⟨⟨⟨⟨⟨rfl,h1⟩,B⟩,E⟩,al⟩,ap⟩:=g;obtain⟨v,hv,I⟩:=h;split at h1
    · rename_i D ht;obtain⟨V,O,L⟩:=Ms (P:=C.P) (p:=R) (q:=ac) ht h1 B E hv (b9 hG J al) (b9 hG J ap);exact wp_pure N (by simp only[execOp,A,ZG]at O ⊢;rw[O];rfl) L I
    ·cases h1
  ·cases g
 | un op x=>
  simp only[cw]at g;split at g
  · rename_i ar t R A;simp only[X1,bG]at g;obtain⟨rfl,B⟩:=g;obtain⟨v,hv,I⟩:=h;obtain⟨V,O,L⟩:=Lv (P:=C.P) hv (b9 hG J B);exact wp_pure N (by simp[execOp,A,O]) L I
  ·cases g
 | conv k x=>
  simp only[cw]at g;split at g
  · rename_i s d R A;simp only[X1]at g;obtain⟨h1,B⟩:=g;obtain⟨v,hv,I⟩:=h;split at h1
    · rename_i d1 k' hs ad;simp at h1;subst h1;obtain⟨V,O,L⟩:=Lw (P:=C.P) hs ad hv (b9 hG J B);exact wp_pure N (by simp[execOp,A,O]) L I
    ·cases h1
  ·cases g
 | same x=>
  simp only[cw]at g;split at g
  · rename_i s d R A;simp only[X1]at g;obtain⟨h1,B⟩:=g;obtain⟨v,hv,I⟩:=h;split at h1
    · rename_i hs ad;obtain⟨V,O,L⟩:=Lx (P:=C.P) hs ad hv (b9 hG J B);exact wp_pure N (by simp[execOp,A,O]) L I
    ·cases h1
  ·cases g
 | jU x=>
  simp only[cw]at g;split at g
  · rename_i R A;obtain⟨v,hv,I⟩:=h;rcases Ly hv (b9 hG J g)with⟨⟨be,ae⟩,L⟩|⟨⟨f,az,Vs,ae⟩,L⟩
    ·exact wp_pure N (by simp[execOp,A,ae]) L I
    ·exact wp_pure N (by simp[execOp,A,ae]) L I
  ·cases g
 | field off sz agg x=>
  simp only[cw]at g;split at g
  · rename_i t R n A;simp only[X1]at g;obtain⟨h1,B⟩:=g;obtain⟨v,hv,I⟩:=h;split at h1
    · rename_i f hf;simp only[X1,bG]at h1;obtain⟨fs,ht,aD⟩:=C8 hf;obtain⟨V,O,L⟩:=Lz (P:=C.P) ht aD h1.1 h1.2 hv (b9 hG J B);exact wp_pure N (by simp[execOp,A,O]) L I
    ·cases h1
  ·cases g
 | idx len sz agg x i=>
  simp only[cw]at g;split at g
  · rename_i t R aE A;simp only[X1]at g;obtain⟨⟨h1,B⟩,E⟩:=g;obtain⟨v,hv,I⟩:=h;split at h1
    · rename_i n e hn;simp only[X1,bG]at h1;obtain⟨rfl,aF⟩:=h1;obtain⟨V,O,L⟩:=LA (P:=C.P) (C7 hn) aF hv (b9 hG J B) (b9 hG J E);exact wp_pure N (by simp[execOp,A,O]) L I
    ·cases h1
  ·cases g
 | idxs x i=>
  simp only[cw]at g;split at g
  · rename_i t R aE A;simp only[X1]at g;obtain⟨⟨h1,B⟩,E⟩:=g;obtain⟨v,hv,I⟩:=h;split at h1
    · rename_i ht;obtain⟨V,O,L⟩:=LB (P:=C.P) ht hv (b9 hG J B) (b9 hG J E);exact wp_pure N (by simp[execOp,A,O]) L I
    ·cases h1
  ·cases g
 | gI off x=>
  simp only[cw]at g;split at g
  · rename_i t R n A;simp only[X1]at g;obtain⟨h1,B⟩:=g;obtain⟨v,hv,I⟩:=h;split at h1
    · rename_i f hf;simp only[X1,bG]at h1;obtain⟨rfl,h1⟩:=h1;obtain⟨fs,ht,aD⟩:=C8 hf;split at h1
      · rename_i bf aW;obtain⟨V,O,L⟩:=LC (P:=C.P) ht aD rfl aW (by simpa using h1) hv (b9 hG J B);exact wp_pure N (by simp[execOp,A,O]) L I
      ·cases h1
    ·cases h1
  ·cases g
 | fV arr sz x i=>
  simp only[cw]at g;split at g
  · rename_i t R aE A;simp only[X1]at g;obtain⟨⟨h1,B⟩,E⟩:=g;obtain⟨v,hv,I⟩:=h;have key:∃e inf,(match arr with|none=>C.P.underlying t=some (.slice e)|some n=>C.P.underlying t=some (.array n e))∧C.P.info? e=some inf∧inf.size=sz:=by
     split at h1
     · split at h1
       · rename_i e Z;obtain⟨inf,hi,hs⟩:=yo h1;exact⟨e,inf,lW Z,hi,hs⟩
       ·cases h1
     · split at h1
       · rename_i n' e Z;simp only[X1,bG]at h1;obtain⟨rfl,h1⟩:=h1;obtain⟨inf,hi,hs⟩:=yo h1;exact⟨e,inf,C7 Z,hi,hs⟩
       ·cases h1
    obtain⟨e,inf,ht,hi,hs⟩:=key;obtain⟨V,O,L⟩:=LG (P:=C.P) ht hi hs hv (b9 hG J B) (b9 hG J E);exact wp_pure N (by simp[execOp,A,O]) L I
  ·cases g
 | slice sz x lo hi mx=>
  simp only[cw]at g;split at g
  · rename_i t R aX aY aS A;simp only[X1]at g;obtain⟨⟨⟨⟨⟨h1,B⟩,E⟩,al⟩,ap⟩,aZ⟩:=g;obtain⟨v,hv,I⟩:=h;split at h1
    · rename_i e Z;obtain⟨inf,Y,hs⟩:=yo h1;obtain⟨V,O,L⟩:=LI (P:=C.P) (lW Z) Y hs (λhm=>by cases mx<;>cases hi<;>simp at aZ hm ⊢) hv (b9 hG J B) (qI hG J E) (qI hG J al) (qI hG J ap);exact wp_pure N (by simp[execOp,A,O]) L I
    ·cases h1
  ·cases g
 | jV x lo hi=>
  simp only[cw]at g;split at g
  · rename_i t R aX aY aS A;simp only[X1]at g;obtain⟨⟨⟨⟨h1,B⟩,E⟩,al⟩,ap⟩:=g;obtain⟨v,hv,I⟩:=h;cases aS with
    |some _=>simp at ap
    |none=>
    split at h1
    · rename_i ht;obtain⟨V,O,L⟩:=LH (P:=C.P) ht hv (b9 hG J B) (qI hG J E) (qI hG J al);exact wp_pure N (by simp[execOp,A,O]) L I
    ·cases h1
  ·cases g
 | hq t x=>
  simp only[cw]at g;split at g
  · rename_i t' R A;simp only[X1,bG]at g;obtain⟨⟨rfl,h1⟩,B⟩:=g;refine wp_pure N (V:= .iface t (a.eval R)) ?_ (.iface _ _ _ (b9 hG J B)) h;split at h1
    ·cases h1
    · rename_i d aG ad;have:(Z5 t (a.eval R)).run C.P w = .ok (.iface t (a.eval R)) w:=by
       simp only[Z5,ZG,run_underlying ad,ZH];cases d<;>first|rfl|(exact absurd rfl (aG _))
      simp[execOp,A,this]
    ·cases h1
  ·cases g
 | gQ key bE=>
  simp only[cw]at g;split at g
  · rename_i f first aA A
    cases hb:fS key with
    | none=>
     simp only[hb,X1,bG]at g;obtain⟨⟨h1,B⟩,E⟩:=g;have hz:first = #[]:=by simpa using B
     subst hz;have hc:=nw hG J E;refine wp_pure N (V:= .func (.func f) #[] (aA.map a.eval)) (by simp[execOp,A,Z6]) ?_ h;have hm:(Z7 a.eval aA.toList).toArray=aA.map a.eval:=by apply ZF;simp
     rw[hm]at hc;exact .fn key _ f _ hb h1 hc.1 hc.2
    | some k=>
     simp only[hb,X1,bG]at g;obtain⟨⟨h1,B⟩,E⟩:=g;have hz:aA = #[]:=by simpa using B
     subst hz;have hc:=nw hG J E;refine wp_pure N (V:= .func (.func f) (first.map a.eval) #[]) (by simp[execOp,A,Z6]) ?_ h;have hm:(Z7 a.eval first.toList).toArray=first.map a.eval:=by apply ZF;simp
     rw[hm]at hc;exact .ko key k _ f _ hb h1 hc.1 hc.2
  ·cases g
 | extract i x=>
  simp only[cw]at g;split at g
  · rename_i R aE A;simp only[X1,bG]at g;obtain⟨rfl,B⟩:=g;obtain⟨v,hv,I⟩:=h;obtain⟨V,O,L⟩:=LF (P:=C.P) hv (b9 hG J B);exact wp_pure N (by simp[execOp,A,O]) L I
  ·cases g
 | build zero parts=>
  simp only[cw]at g;split at g
  · rename_i t ps A;simp only[X1]at g;obtain⟨⟨h1,B⟩,E⟩:=g;obtain⟨v,hv,I⟩:=h;split at h1
    · rename_i inf Y;split at h1
      · rename_i z hz;obtain⟨hl,aH⟩:=C2 hG J E;obtain⟨V,O,L⟩:=Mu Y hz h1 B hl aH hv;refine wp_pure N (V:=V) ?_ L I;have hm:(ps.map λ(x:Nat×Operand)=>(x.1,a.eval x.2))=(ps.toList.map λx=>(x.1,a.eval x.2)).toArray:=by apply ZF;simp
        simp only[execOp,A,hm,ZG,O,ZH,ZO]
      ·cases h1
    ·cases h1
  ·cases g
 | len str x=>
  simp only[cw]at g;split at g
  · rename_i args argTypes A;split at g
    · rename_i R t T aa;simp only[X1]at g;obtain⟨h1,B⟩:=g;obtain⟨v,hv,I⟩:=h;obtain rfl:=gS T;obtain rfl:=gS aa;have key:∃d,C.P.underlying t=some d∧(if str then d = .string else ∃e,d = .slice e):=by
       split at B
       ·rename_i ht;exact⟨_,ht,by simp[B]⟩
       ·rename_i e ht;exact⟨_,ht,by simp at B;simp[B]⟩
       ·cases B
      obtain⟨d,ad,hk⟩:=key;obtain⟨V,O,L⟩:=LL (P:=C.P) (ty:=o.type) ad hk hv (b9 hG J h1);exact wp_pure N (by simp[execOp,A,resolve,invoke,builtin,O]) L I
    ·cases g
  ·cases g
 | cap x =>
  simp only[cw]at g;split at g
  · rename_i args argTypes A;split at g
    · rename_i R t T aa;simp only[X1]at g;obtain⟨h1,B⟩:=g;obtain⟨v,hv,I⟩:=h;obtain rfl:=gS T;obtain rfl:=gS aa;split at B
      · rename_i e ht;have ah:=b9 hG J h1;generalize x.ev env=y at hv ah;generalize ae:a.eval R=X at ah;unfold qA at hv;split at hv
        · cases hv;cases ah with
          |e5=>exact wp_pure N (by simp[execOp,A,resolve,invoke,builtin,ae,Builtin.cap_,run_underlying ht,goInt]) (.int _ _) I
          |ak _ _ _ b bg cap Vs a0 hle h hv=>exact a0.elim
        ·cases hv
      ·cases B
    ·cases g
  ·cases g
 | hr n=>
  simp only[cw]at g;split at g
  · rename_i args argTypes A;split at g
    · rename_i R t T aa;obtain rfl:=gS T;obtain rfl:=gS aa;split at g
      · rename_i n' e ht;simp at g;subst g;refine wp_pure N (V:= .int .i64 n) ?_ (.int _ _) h;simp[execOp,A,resolve,invoke,builtin,Yy,run_underlying ht,goInt]
      ·cases g
    ·cases g
  ·cases g
 | hx mx xs=>
  simp only[cw]at g;split at g
  · rename_i b args fX A;simp only[X1]at g;obtain⟨h1,B⟩:=g;obtain⟨v,hv,I⟩:=h;have hc:=nw hG J B;unfold fy at hv;split at hv
    · rename_i k n r a1;rw[a1]at hc;have aG:∃X Xs,args.toList.map a.eval=X::Xs:=by
       cases hl:args.toList.map a.eval with
       |nil=>rw[hl]at hc;have:=hc.1;simp at this
       |cons X Xs=>exact⟨X,Xs,rfl⟩
      obtain⟨X,Xs,aB⟩:=aG;rw[aB]at hc;have ae:=hc.2 0 _ X rfl (by simp);obtain⟨V,O,L⟩:=LM (P:=C.P) r Xs _ v X hv ae (by have:=hc.1;simp at this;omega) λj c U aI aJ=>hc.2 (j+1) c U (by simpa using aI) (by simpa using aJ);refine wp_pure N (V:=V) ?_ L I;have hm:(args.map a.eval).toList=X::Xs:=by simpa using aB
      split at h1
      · subst h1;simp only[a_]at O;simp[execOp,A,resolve,invoke,builtin,Builtin.max_,aB,O]
      · simp at h1;subst h1;simp only[ZP,bR]at O;simp[execOp,A,resolve,invoke,builtin,Builtin.min_,aB,O]
      ·cases h1
    ·cases hv
  ·cases g
 | load n agg x=>
  simp only[cw]at g;split at g
  · rename_i t R A;simp only[X1]at g;obtain⟨v,hv,I⟩:=h;obtain⟨V,O,L⟩:=yb (P:=C.P) g.1 N hv (b9 hG J g.2);exact wp_pure N (by simp[execOp,A,O]) L I
  ·cases g
 | store n x v=>
  simp only[cw]at g;split at g
  · rename_i t R an A;simp only[X1,X2]at g;obtain⟨⟨h1,B⟩,E⟩:=g;obtain⟨H',hv,I⟩:=h;have key:∃agg,ib C.P t n agg=true:=by rcases h1 with h1|h1<;>exact⟨_,h1⟩
    obtain⟨agg,aF⟩:=key;obtain⟨w',O,L,ai⟩:=LU (P:=C.P) aF N hv (b9 hG J B) (b9 hG J E);exact C6 (by simp[execOp,A,O]) ⟨_,H',G,undef,rfl,I,oV,L,ai⟩
  ·cases g
 | box mu n x=>
  simp only[cw]at g;split at g
  · rename_i t R A;obtain⟨v,H',hv,I⟩:=h;have S:=LV (P:=C.P) (t:=t) N hv (b9 hG J g);exact jd S (by simp[execOp,A]) I
  ·cases g
 | alloc mu zero=>
  simp only[cw]at g;split at g
  · rename_i t A;obtain⟨v,H',hv,I⟩:=h;split at g
    · rename_i inf Y;split at g
      · rename_i z hz;have av:=k5 (C:=C) (w:=w) (G:=G) g;have S:=LW (P:=C.P) (t:=t) (mu:=mu) N Y hz (by simpa using av);have e:=Yb.inj hv;rw[e]at S;exact jd S (by simp[execOp,A]) I
      ·cases g
    ·cases g
  ·cases g
 | gJ mu sz len zero parts=>
  simp only[cw]at g;split at g
  · rename_i t bh ps A;obtain⟨v,H',hv,I⟩:=h;split at g
    · rename_i e Z;simp only[X1,bG,dU]at g;obtain⟨⟨⟨⟨h1,B⟩,rfl⟩,al⟩,ap⟩:=g;split at h1
      · rename_i bi bj;obtain⟨inf,z,Y,hs,hb,hz,a2,aL⟩:=yp (F:=C.F) h1;have av:=k5 (C:=C) (w:=w) (G:=G) aL;obtain⟨hl,aH⟩:=C2 hG J ap;have S:=L1 (P:=C.P) N (lW Z) Y hs hz (by simpa using av) B al hl (λj q p a3 hp=>by
          obtain⟨e1,a4⟩:=aH j q p a3 hp;exact⟨Yb.inj e1,a4⟩) hv
        have hm:(ps.map λ(x:Nat×Operand)=>(x.1,a.eval x.2))=(ps.toList.map λx=>(x.1,a.eval x.2)).toArray:=by apply ZF;simp
        exact jd S (by simp only[execOp,A,hm,ZG,ZO]) I
      ·cases h1
    ·cases g
  ·cases g
 | append mu sz bytes x y=>
  simp only[cw]at g;split at g
  · rename_i args argTypes A;split at g
    · rename_i R ac t t' T aa;simp only[X1,bG]at g;obtain⟨⟨⟨rfl,h1⟩,B⟩,E⟩:=g;obtain⟨v,H',hv,I⟩:=h;obtain rfl:=gS T;obtain rfl:=gS aa;split at E
      · rename_i e Z;split at E
        · rename_i inf Y;simp only[X1,bG,dU]at E;obtain⟨⟨⟨hs,hb⟩,hz⟩,a5⟩:=E;split at hz
          · rename_i z a6;have S:=L4 (P:=C.P) (ty:=o.type) N (lW Z) Y hs hb a6 (by simpa using hz) a5 hv (b9 hG J h1) (b9 hG J B);exact jd S (by simp[execOp,A,resolve,invoke,builtin]) I
          ·cases hz
        ·cases E
      ·cases E
    ·cases g
  ·cases g
 | make mu sz bytes zero len cap=>
  simp only[cw]at g;split at g
  · rename_i t l c A;simp only[X1]at g;obtain⟨⟨h1,B⟩,E⟩:=g;obtain⟨v,H',hv,I⟩:=h;split at E
    · rename_i e Z;obtain⟨inf,z,Y,hs,hb,hz,a2,aL⟩:=yp (F:=C.F) E;have av:=k5 (C:=C) (w:=w) (G:=G) aL;have S:=L2 (P:=C.P) N (lW Z) Y hs hb hz (by simpa using av) hv (b9 hG J h1) (b9 hG J B);exact jd S (by simp[execOp,A]) I
    ·cases E
  ·cases g
 | call key args=>
  simp only[cw]at g;split at g
  · rename_i f ab fX A;simp only[X1,bG]at g;obtain⟨⟨h1,B⟩,E⟩:=g;have hc:=h.2 f h1 G w _ ax N (nw hG J E);have hm:(ab.toList.map a.eval).toArray=ab.map a.eval:=by apply ZF;simp
    rw[hm]at hc;have O:(execOp a.eval o).run C.P w = .ok (.enter f (ab.map a.eval)) w:=by simp[execOp,A,resolve,Act.eval,Z8,invoke,tg B]
    unfold Z2;rw[O];refine Z9 hc λe w' aw=>?_;obtain⟨V,v,H',G',rfl,hQ,hv,L,ai⟩:=aw;exact⟨v,H',G',V,rfl,hQ,hv,L,ai⟩
  ·cases g
 | h7 f args=>
  simp only[cw]at g;split at g
  · rename_i aM ab fX A;simp only[X1]at g;obtain⟨h1,E⟩:=g;obtain⟨key,bE,hf,h⟩:=h;have aN:=b9 hG J h1;rw[hf]at aN;have a7:(∃dS Vs,a.eval aM = .func (.func dS) #[] Vs∧fS key=none∧C.F key=some dS∧aK C.F w G bE Vs)∨∃k dS Vs,a.eval aM = .func (.func dS) Vs #[]∧fS key=some k∧C.F k=some dS∧aK C.F w G bE Vs:=by
     generalize a.eval aM=X at aN;cases aN with
     |fn _ _ dS Vs hk aO hl hv=>exact .inl ⟨dS,Vs,rfl,hk,aO,hl,hv⟩
     |ko _ k _ dS Vs hk aO hl hv=>exact .inr ⟨k,dS,Vs,rfl,hk,aO,hl,hv⟩
    have hm:(ab.toList.map a.eval).toArray=ab.map a.eval:=by apply ZF;simp
    obtain ⟨dS,az,am,T,O⟩:∃dS az,C.F (iG key)=some dS∧aK C.F w G (iH key (eb env args) bE) az∧(execOp a.eval o).run C.P w = .ok (.enter dS az) w:=by
     rcases a7 with⟨dS,Vs,ae,hk,am,aP⟩|⟨k,dS,Vs,ae,hk,am,aP⟩
     · rw[qD hk,qE hk];have T:=(nw hG J E).app aP;rw[hm]at T;refine⟨dS,ab.map a.eval++Vs,am,T,?_⟩;simp[execOp,A,resolve,ae,Z8,invoke,tg (hF key dS am)]
     · rw[Lo hk,Lp hk];have T:=aP.app (nw hG J E);rw[hm]at T;refine⟨dS,Vs++ab.map a.eval,am,T,?_⟩;simp[execOp,A,resolve,ae,Z8,invoke,tg (hF _ dS am)]
    have hc:=h.2 dS am G w _ ax N T;unfold Z2;rw[O];refine Z9 hc λe w' aw=>?_;obtain⟨V,v,H',G',rfl,hQ,hv,L,ai⟩:=aw;exact⟨v,H',G',V,rfl,hQ,hv,L,ai⟩
  ·cases g
 | ext e xs =>
  simp only[cw]at g;obtain⟨v,H',hv,I⟩:=h;cases e with
  |stuck=>simp[eh]at hv
  | oF t=>
   simp only[oT]at g;split at g
   · rename_i R bk t' ok x A;simp only[X1,bG,Z4]at g;obtain⟨⟨⟨rfl,rfl⟩,ag⟩,W⟩:=g;have ah:=b9 hG J W;simp only[eb,Zj,Z_]at hv;generalize x.ev env=y at hv ah;cases y<;>try (simp[eh]at hv;done)
     rename_i bl u;simp only[eh]at hv;split at hv
     · rename_i ht;subst ht;simp only[Yb.injEq,ZZ.injEq]at hv;obtain⟨rfl,rfl⟩:=hv;generalize ae:a.eval R=X at ah;cases ah with
       | iface _ _ V h1=>
        split at ag
        · rename_i d ad;exact wp_pure N (by simp[execOp,A,ae,Mm ad ag]) h1 I
        ·cases ag
     ·cases hv
   ·cases g
  | ku t0=>
   simp only[oT]at g;split at g
   · rename_i t A;simp only[X1,bG]at g;obtain⟨rfl,ag⟩:=g;split at ag
     · rename_i inf Y;split at ag
       · rename_i z hz;simp only[eb,Z_]at hv;simp only[eh,Yb.injEq,ZZ.injEq]at hv;obtain⟨rfl,rfl⟩:=hv;have hc:z.cells = #[.pointer none,.slice none 0 0]:=Mf ag;have S:=LX (P:=C.P) (t:=t) N Y hz hc;exact jd S (by simp[execOp,A]) I
       ·cases ag
     ·cases ag
   · rename_i t R x A;simp only[X1,bG]at g;obtain⟨rfl,W⟩:=g;have ah:=b9 hG J W;simp only[eb,Zj,Z_]at hv;generalize x.ev env=y at hv ah;have au:y = .agg [.eJ,.ak .nil 0 []]∧v = .ptr H.n 0∧H'=H.push (.h4 t false none):=by
      unfold eh at hv;split at hv<;>simp_all
     obtain⟨rfl,rfl,rfl⟩:=au;have S:=LZ (P:=C.P) (t:=t) N ah;exact jd S (by simp[execOp,A]) I
   ·cases g
  | mB neg=>
   simp only[oT]at g;split at g
   · rename_i ar t R ac ay x y A;simp only[X1,bG]at g;obtain⟨⟨⟨rfl,ag⟩,h1⟩,B⟩:=g;split at ag
     · rename_i e ht;split at ag
       · rename_i j aI;simp only[eb,Zj,Z_]at hv;obtain⟨V,O,L,rfl⟩:=Mn (P:=C.P) (p:=R) (q:=ac) N ht aI (by simpa using ag) hv (b9 hG J h1) (b9 hG J B);exact wp_pure N (by simp only[execOp,A,ZG]at O ⊢;rw[O];rfl) L I
       ·cases ag
     ·cases ag
   ·cases g
  | grow sz bytes zero=>
   simp only[oT]at g;split at g
   · rename_i args argTypes x y A;split at g
     · rename_i R ac t it T aa;simp only[X1]at g;obtain⟨⟨⟨h1,B⟩,hk⟩,E⟩:=g;obtain rfl:=gS T;obtain rfl:=gS aa;split at hk
       · rename_i k hit;split at E
         · rename_i e Z;split at E
           · rename_i inf Y;simp only[X1,bG]at E;obtain⟨⟨hs,hb⟩,E⟩:=E;split at E
             · rename_i z hz;simp only[eb,Zj,Z_]at hv;have S:=Mp (P:=C.P) (ty:=o.type) N (lW Z) hit Y hs hb hz (by simpa using k5 (C:=C) (w:=w) (G:=G) E) hv (b9 hG J h1) (b9 hG J B);exact jd S (by simp[execOp,A,resolve,invoke,builtin]) I
             ·cases E
           ·cases E
         ·cases E
       ·cases hk
     ·cases g
   ·cases g
  | clear sz zero=>
   simp only[oT]at g;split at g
   · rename_i args argTypes x A;split at g
     · rename_i R t T aa;simp only[X1]at g;obtain⟨h1,E⟩:=g;obtain rfl:=gS T;obtain rfl:=gS aa;split at E
       · rename_i e Z;split at E
         · rename_i inf Y;split at E
           · rename_i z hz;simp only[X1,bG]at E;simp only[eb,Zj,Z_]at hv;have S:=Mq (P:=C.P) (ty:=o.type) N (lW Z) Y hz (by simpa using k5 (C:=C) (w:=w) (G:=G) E.2) hv (b9 hG J h1);exact jd S (by simp[execOp,A,resolve,invoke,builtin]) I
           ·cases E
         ·cases E
       ·cases E
     ·cases g
   ·cases g
 | inv hE x args=>
  simp only[cw]at g;split at g
  · rename_i R name ab fX A;simp only[X1]at g;obtain⟨⟨h1,B⟩,E⟩:=g;obtain⟨t,v,r,u,W,L,hu,h⟩:=h;have ah:=b9 hG J h1;rw[W]at ah;obtain ⟨V,ae,aq⟩:∃V,a.eval R = .iface t V∧VR C.F w G v V:=by
     generalize a.eval R=X at ah;cases ah with
     |iface _ _ V h=>exact⟨V,rfl,h⟩
    obtain⟨f,U,am,a8,O,aJ⟩:=Mr N (C5 E L) aq hu;have T:=(aK.one aJ).app (nw hG J B);have hm:(ab.toList.map a.eval).toArray=ab.map a.eval:=by apply ZF;simp
    rw[hm]at T;have hc:=h.2 f am G w _ ax N T;have a9:(execOp a.eval o).run C.P w = .ok (.enter f (#[U]++ab.map a.eval)) w:=by
     have ba:(#[Value.iface t V]++ab.map a.eval)[0]?=some (.iface t V):=by simp[Yl]
     have bb:(ab.map a.eval).extract 0 ab.size=ab.map a.eval:=by have:=Array.extract_size (xs:=ab.map a.eval);rwa [Array.size_map]at this
     simp[execOp,A,resolve,ae,invoke,callMethod,ba,bb,O,tg a8]
    unfold Z2;rw[a9];refine Z9 hc λe w' aw=>?_;obtain⟨V,v,H',G',rfl,hQ,hv,L,ai⟩:=aw;exact⟨v,H',G',V,rfl,hQ,hv,L,ai⟩
  ·cases g
 | jW x=>
  simp only[cw]at g;split at g
  · rename_i s d R A;simp only[X1]at g;obtain⟨h1,B⟩:=g;obtain⟨v,hv,I⟩:=h;split at h1
    · rename_i e hs ad;split at h1
      · rename_i aQ;have S:=L5 (P:=C.P) N hs ad aQ hv (b9 hG J B);exact jd S (by simp[execOp,A]) I
      ·cases h1
    ·cases h1
  ·cases g
 | hD x=>
  simp only[cw]at g;split at g
  · rename_i s d R A;simp only[X1]at g;obtain⟨h1,B⟩:=g;obtain⟨v,hv,I⟩:=h;split at h1
    · rename_i e hs ad;split at h1
      · rename_i aQ;obtain⟨V,L,aq⟩:=L7 (P:=C.P) N hs aQ ad hv (b9 hG J B);exact wp_pure N (by simp[execOp,A,L]) aq I
      ·cases h1
    ·cases h1
  ·cases g
 | h5 x=>
  simp only[cw]at g;split at g
  · rename_i t R A;simp only[X1]at g;obtain⟨h1,B⟩:=g;obtain⟨v,H',hv,I⟩:=h;split at h1
    · rename_i ht;have S:=L8 (P:=C.P) N ht hv (b9 hG J B);exact jd S (by simp[execOp,A]) I
    ·cases h1
  ·cases g
 | h6 x=>
  simp only[cw]at g;split at g
  · rename_i R A;obtain⟨v,H',hv,I⟩:=h;have S:=L9 (P:=C.P) (t:=o.type) N hv (b9 hG J g);exact jd S (by simp[execOp,A]) I
  ·cases g
 | copy sz x y=>
  simp only[cw]at g;split at g
  · rename_i args argTypes A;split at g
    · rename_i R ac t t' T aa;simp only[X1]at g;obtain⟨⟨h1,B⟩,E⟩:=g;obtain⟨v,H',hv,I⟩:=h;obtain rfl:=gS T;obtain rfl:=gS aa;split at E
      · rename_i e Z;unfold nt at E;split at E
        · rename_i inf Y;have S:=Ml (P:=C.P) (ty:=o.type) (t2:=t') N (lW Z) Y (by simpa using E) hv (b9 hG J h1) (b9 hG J B);exact jd S (by simp[execOp,A,resolve,invoke,builtin]) I
        ·cases E
      ·cases E
    ·cases g
  ·cases g
 | gR=>
  simp only[cw]at g;split at g
  · rename_i t r A;have L:r=none:=by simpa using g
    subst L;have S:=L_ (P:=C.P) (t:=t) N;exact jd S (by simp[execOp,A]) h
  ·cases g
 | lookup kk zero ok m k=>
  simp only[cw]at g;split at g
  · rename_i t aj k' bm A;simp only[X1,bG]at g;obtain⟨⟨⟨rfl,h1⟩,B⟩,E⟩:=g;obtain⟨v,hv,I⟩:=h;split at h1
    · rename_i kt et ht;simp only[X1]at h1;obtain⟨hk,hz⟩:=h1;split at hz
      · rename_i inf Y;split at hz
        · rename_i z bc;obtain⟨V,L,aq⟩:=Ma (P:=C.P) N ht hk Y bc (C1 hz) hv (b9 hG J B) (b9 hG J E);exact wp_pure N (by simp[execOp,A,L]) aq I
        ·cases hz
      ·cases hz
    ·cases h1
  ·cases g
 | hy kk m k v=>
  simp only[cw]at g;obtain⟨H',hv,I⟩:=h;have fin:∀(t:TypeId)(aj k' an:Operand),(execOp a.eval o=(do Zx t (a.eval aj) (a.eval k') (a.eval an);pure Next.skip))→(match C.P.underlying t with|some (.map kt _)=>k0 C.P kt kk|_=>false)&&b6 C aj m&&b6 C k' k&&b6 C an v→o.wp C.P a w (td C w G H K a o.dst) Q:=by
   intro t aj k' an hex hc;simp only[X1]at hc;obtain⟨⟨⟨h1,B⟩,E⟩,al⟩:=hc;split at h1
   · rename_i kt et ht;obtain⟨w',O,L,ai⟩:=Mc (P:=C.P) N ht h1 hv (b9 hG J B) (b9 hG J E) (b9 hG J al);exact C6 (by rw[hex];simp[O]) ⟨_,H',G,undef,rfl,I,oV,L,ai⟩
   ·cases h1
  split at g
  · rename_i t aj k' an A;exact fin t aj k' an (by simp only[execOp,A]) g
  · rename_i t aj k' an A;exact fin t aj k' an (by simp only[execOp,A]) g
  ·cases g
 | delete kk m k=>
  simp only[cw]at g;split at g
  · rename_i args argTypes A;split at g
    · rename_i aj k' t t' T aa;simp only[X1]at g;obtain⟨⟨h1,B⟩,E⟩:=g;obtain⟨H',hv,I⟩:=h;obtain rfl:=gS T;obtain rfl:=gS aa;split at E
      · rename_i kt et ht;obtain⟨w',O,L,ai⟩:=Md (P:=C.P) (t':=t') (ty:=o.type) N ht E hv (b9 hG J h1) (b9 hG J B);refine tf (V:= .tuple #[]) (by simp[execOp,A,resolve,invoke,builtin,O]) ⟨_,H',G,_,rfl,I,oV,L,ai⟩
      ·cases E
    ·cases g
  ·cases g
 | hC m=>
  simp only[cw]at g;split at g
  · rename_i args argTypes A;split at g
    · rename_i aj t T aa;simp only[X1]at g;obtain⟨h1,B⟩:=g;obtain⟨v,hv,I⟩:=h;obtain rfl:=gS T;obtain rfl:=gS aa;split at B
      · rename_i kt et ht;obtain⟨V,O,aq⟩:=Me (P:=C.P) (ty:=o.type) N ht hv (b9 hG J h1);exact wp_pure N (by simp[execOp,A,resolve,invoke,builtin,O]) aq I
      ·cases B
    ·cases g
  ·cases g
end
end Rb

namespace Rb
open Go
variable{H:Z}{op:dQ}{Φ:ai}{K:ad}{v:I}
def aW.ck:aW→List Nat
 | .t n=>[n]
 | .k _=>[]
def oW:Option aW→List Nat
 |some x=>x.ck
 |none=>[]
def lX(xs:List aW):List Nat:=xs.flatMap aW.ck
def qK(xs:List (Nat×Nat×aW)):List Nat:=xs.flatMap λp=>p.2.2.ck
def bT:dQ→List Nat
 | .mv  x=>(x.ck)
 | .pick  c x y=>(c.ck)++(x.ck)++(y.ck)
 | .bin _ x y=>(x.ck)++(y.ck)
 | .beq _ x y=>(x.ck)++(y.ck)
 | .jx _ _ x=>(x.ck)
 | .iF _ _ x y=>(x.ck)++(y.ck)
 | .un _ x=>(x.ck)
 | .conv _ x=>(x.ck)
 | .same  x=>(x.ck)
 | .jU  x=>(x.ck)
 | .field _ _ _ x=>(x.ck)
 | .idx _ _ _ x i=>(x.ck)++(i.ck)
 | .idxs  x i=>(x.ck)++(i.ck)
 | .gI _ x=>(x.ck)
 | .fV _ _ x i=>(x.ck)++(i.ck)
 | .slice _ x lo hi mx=>(x.ck)++(oW lo)++(oW hi)++(oW mx)
 | .jV  x lo hi=>(x.ck)++(oW lo)++(oW hi)
 | .hq _ x=>(x.ck)
 | .gQ _ bE=>(lX bE)
 | .extract _ x=>(x.ck)
 | .build _ parts=>(qK parts)
 | .len _ x=>(x.ck)
 | .hr _  =>[]
 | .cap x=>x.ck
 | .hx _ xs=>(lX xs)
 | .load _ _ x=>(x.ck)
 | .store _ x v=>(x.ck)++(v.ck)
 | .box _ _ x=>(x.ck)
 | .alloc _ _  =>[]
 | .gJ _ _ _ _ parts=>(qK parts)
 | .append _ _ _ x y=>(x.ck)++(y.ck)
 | .make _ _ _ _ len cap=>(len.ck)++(cap.ck)
 | .copy _ x y=>(x.ck)++(y.ck)
 | .gR   =>[]
 | .lookup _ _ _ m k=>(m.ck)++(k.ck)
 | .hy _ m k v=>(m.ck)++(k.ck)++(v.ck)
 | .delete _ m k=>(m.ck)++(k.ck)
 | .hC  m=>(m.ck)
 | .jW x=>(x.ck)
 | .hD x=>(x.ck)
 | .h5 x=>(x.ck)
 | .h6 x=>(x.ck)
 | .call _ args=>(lX args)
 | .h7  f args=>(f.ck)++(lX args)
 | .ext _ xs=>lX xs
 | .inv _ x args=>(x.ck)++(lX args)
section
variable{env aA:Env}
theorem cm(x:aW)(h:∀t∈x.ck,env.getD t .bot=aA.getD t .bot):x.ev env=x.ev aA:=by
 cases x with
 |t n=>exact h n (by simp[aW.ck])
 |k v=>rfl
theorem qL(x:Option aW)(h:∀t∈oW x,env.getD t .bot=aA.getD t .bot):x.map (aW.ev env)=x.map (aW.ev aA):=by
 cases x with
 |none=>rfl
 |some x=>simp only[Yc];rw[cm x h]
theorem oX(xs:List aW)(h:∀t∈lX xs,env.getD t .bot=aA.getD t .bot):eb env xs=eb aA xs:=by
 induction xs with
 |nil=>rfl
 | cons x xs a=>simp only[eb,Zj]at a ⊢;rw[cm x (λt ht=>h t (by simp[lX];left;exact ht)),a (λt ht=>h t (by simp[lX]at ht ⊢;right;exact ht))]
theorem C_(xs:List (Nat×Nat×aW))(h:∀t∈qK xs,env.getD t .bot=aA.getD t .bot):fK env xs=fK aA xs:=by
 induction xs with
 |nil=>rfl
 | cons x xs a=>simp only[fK,Zj]at a ⊢;rw[cm x.2.2 (λt ht=>h t (by simp[qK];left;exact ht)),a (λt ht=>h t (by simp[qK]at ht ⊢;right;exact ht))]
theorem yq(op:dQ)(h:∀t∈bT op,env.getD t .bot=aA.getD t .bot):bX Φ env H K op=bX Φ aA H K op:=by
 cases op with
 |mv x=>simp only[bX];rw[cm x (λt ht=>h t (by simp only[bT,aaa];simp[ht]))]
 |pick c x y=>simp only[bX];rw[cm c (λt ht=>h t (by simp only[bT,aaa];simp[ht])),cm x (λt ht=>h t (by simp only[bT,aaa];simp[ht])),cm y (λt ht=>h t (by simp only[bT,aaa];simp[ht]))]
 |bin op x y=>simp only[bX];rw[cm x (λt ht=>h t (by simp only[bT,aaa];simp[ht])),cm y (λt ht=>h t (by simp only[bT,aaa];simp[ht]))]
 |beq neg x y=>simp only[bX];rw[cm x (λt ht=>h t (by simp only[bT,aaa];simp[ht])),cm y (λt ht=>h t (by simp only[bT,aaa];simp[ht]))]
 |jx k neg x=>simp only[bX];rw[cm x (λt ht=>h t (by simp only[bT,aaa];simp[ht]))]
 |iF neg ks x y=>simp only[bX];rw[cm x (λt ht=>h t (by simp only[bT,aaa];simp[ht])),cm y (λt ht=>h t (by simp only[bT,aaa];simp[ht]))]
 |un op x=>simp only[bX];rw[cm x (λt ht=>h t (by simp only[bT,aaa];simp[ht]))]
 |conv k x=>simp only[bX];rw[cm x (λt ht=>h t (by simp only[bT,aaa];simp[ht]))]
 |same x=>simp only[bX];rw[cm x (λt ht=>h t (by simp only[bT,aaa];simp[ht]))]
 |jU x=>simp only[bX];rw[cm x (λt ht=>h t (by simp only[bT,aaa];simp[ht]))]
 |field off sz agg x=>simp only[bX];rw[cm x (λt ht=>h t (by simp only[bT,aaa];simp[ht]))]
 |idx len sz agg x i=>simp only[bX];rw[cm x (λt ht=>h t (by simp only[bT,aaa];simp[ht])),cm i (λt ht=>h t (by simp only[bT,aaa];simp[ht]))]
 |idxs x i=>simp only[bX];rw[cm x (λt ht=>h t (by simp only[bT,aaa];simp[ht])),cm i (λt ht=>h t (by simp only[bT,aaa];simp[ht]))]
 |gI off x=>simp only[bX];rw[cm x (λt ht=>h t (by simp only[bT,aaa];simp[ht]))]
 |fV arr sz x i=>simp only[bX];rw[cm x (λt ht=>h t (by simp only[bT,aaa];simp[ht])),cm i (λt ht=>h t (by simp only[bT,aaa];simp[ht]))]
 |slice sz x lo hi mx=>simp only[bX];rw[cm x (λt ht=>h t (by simp only[bT,aaa];simp[ht])),qL lo (λt ht=>h t (by simp only[bT,aaa];simp[ht])),qL hi (λt ht=>h t (by simp only[bT,aaa];simp[ht])),qL mx (λt ht=>h t (by simp only[bT,aaa];simp[ht]))]
 |jV x lo hi=>simp only[bX];rw[cm x (λt ht=>h t (by simp only[bT,aaa];simp[ht])),qL lo (λt ht=>h t (by simp only[bT,aaa];simp[ht])),qL hi (λt ht=>h t (by simp only[bT,aaa];simp[ht]))]
 |hq t x=>simp only[bX];rw[cm x (λt ht=>h t (by simp only[bT,aaa];simp[ht]))]
 |gQ key bE=>simp only[bX];rw[oX bE (λt ht=>h t (by simp only[bT,aaa];simp[ht]))]
 |extract i x=>simp only[bX];rw[cm x (λt ht=>h t (by simp only[bT,aaa];simp[ht]))]
 |build zero parts=>simp only[bX];rw[C_ parts (λt ht=>h t (by simp only[bT,aaa];simp[ht]))]
 |len str x=>simp only[bX];rw[cm x (λt ht=>h t (by simp only[bT,aaa];simp[ht]))]
 |hr n=>rfl
 |hx mx xs=>simp only[bX];rw[oX xs (λt ht=>h t (by simp only[bT,aaa];simp[ht]))]
 |load n agg x=>simp only[bX];rw[cm x (λt ht=>h t (by simp only[bT,aaa];simp[ht]))]
 |store n x v=>simp only[bX];rw[cm x (λt ht=>h t (by simp only[bT,aaa];simp[ht])),cm v (λt ht=>h t (by simp only[bT,aaa];simp[ht]))]
 |box mu n x=>simp only[bX];rw[cm x (λt ht=>h t (by simp only[bT,aaa];simp[ht]))]
 |alloc mu zero=>rfl
 |gJ mu sz len zero parts=>simp only[bX];rw[C_ parts (λt ht=>h t (by simp only[bT,aaa];simp[ht]))]
 |append mu sz bytes x y=>simp only[bX];rw[cm x (λt ht=>h t (by simp only[bT,aaa];simp[ht])),cm y (λt ht=>h t (by simp only[bT,aaa];simp[ht]))]
 |make mu sz bytes zero len cap=>simp only[bX];rw[cm len (λt ht=>h t (by simp only[bT,aaa];simp[ht])),cm cap (λt ht=>h t (by simp only[bT,aaa];simp[ht]))]
 |copy sz x y=>simp only[bX];rw[cm x (λt ht=>h t (by simp only[bT,aaa];simp[ht])),cm y (λt ht=>h t (by simp only[bT,aaa];simp[ht]))]
 |gR  =>rfl
 |lookup kk zero ok m k=>simp only[bX];rw[cm m (λt ht=>h t (by simp only[bT,aaa];simp[ht])),cm k (λt ht=>h t (by simp only[bT,aaa];simp[ht]))]
 |hy kk m k v=>simp only[bX];rw[cm m (λt ht=>h t (by simp only[bT,aaa];simp[ht])),cm k (λt ht=>h t (by simp only[bT,aaa];simp[ht])),cm v (λt ht=>h t (by simp only[bT,aaa];simp[ht]))]
 |delete kk m k=>simp only[bX];rw[cm m (λt ht=>h t (by simp only[bT,aaa];simp[ht])),cm k (λt ht=>h t (by simp only[bT,aaa];simp[ht]))]
 |hC m=>simp only[bX];rw[cm m (λt ht=>h t (by simp only[bT,aaa];simp[ht]))]
 |jW x=>simp only[bX];rw[cm x (λt ht=>h t (by simp only[bT];simp[ht]))]
 |hD x=>simp only[bX];rw[cm x (λt ht=>h t (by simp only[bT];simp[ht]))]
 |h5 x=>simp only[bX];rw[cm x (λt ht=>h t (by simp only[bT];simp[ht]))]
 |h6 x=>simp only[bX];rw[cm x (λt ht=>h t (by simp only[bT];simp[ht]))]
 |call key args=>simp only[bX];rw[oX args (λt ht=>h t (by simp only[bT,aaa];simp[ht]))]
 |h7 f args=>simp only[bX];rw[cm f (λt ht=>h t (by simp only[bT,aaa];simp[ht])),oX args (λt ht=>h t (by simp only[bT,aaa];simp[ht]))]
 |cap x=>simp only[bX];rw[cm x (λt ht=>h t (by simp only[bT];simp[ht]))]
 |ext e xs=>simp only[bX];rw[oX xs (λt ht=>h t (by simp only[bT];simp[ht]))]
 |inv hE x args=>simp only[bX];rw[cm x (λt ht=>h t (by simp only[bT,aaa];simp[ht])),oX args (λt ht=>h t (by simp only[bT,aaa];simp[ht]))]
end
def fB:dQ→Bool
 | .mv .. =>true
 | .pick .. =>true
 | .bin .. =>true
 | .beq .. =>true
 | .jx .. =>true
 | .iF .. =>true
 | .un .. =>true
 | .conv .. =>true
 | .same .. =>true
 | .jU .. =>true
 | .field .. =>true
 | .idx .. =>true
 | .idxs .. =>true
 | .gI .. =>true
 | .fV .. =>true
 | .slice .. =>true
 | .jV .. =>true
 | .hq .. =>true
 | .gQ .. =>true
 | .extract .. =>true
 | .build .. =>true
 | .len .. =>true
 | .hr .. =>true
 | .cap .. =>true
 | .hx .. =>true
 | .jW .. =>true
 | .box mu _ _=>!mu
 | .alloc mu _=>!mu
 | .gJ mu _ _ _ _=>!mu
 |_=>false
def e9:dQ→Bool
 | .load .. =>true
 | .lookup .. =>true
 | .hC .. =>true
 | .hD .. =>true
 |_=>false
def eP(env:Env)(H:Z):dQ→Option I
 | .mv x=>some (x.ev env)
 | .pick c x y=>match c.ev env with | .bool b=>some (if b=true then x.ev env else y.ev env)|_=>none
 | .bin op x y=>M op (x.ev env) (y.ev env)
 | .beq neg x y=>kQ neg (x.ev env) (y.ev env)
 | .jx k neg x=>mA k neg (x.ev env)
 | .iF neg ks x y=>ja neg ks (x.ev env) (y.ev env)
 | .un op x=>cY op (x.ev env)
 | .conv k x=>e7 k (x.ev env)
 | .same x=>oA (x.ev env)
 | .jU x=>aZ (x.ev env)
 | .field off sz agg x=>nj off sz agg (x.ev env)
 | .idx len sz agg x i=>lU len sz agg (x.ev env) (i.ev env)
 | .idxs x i=>jS (x.ev env) (i.ev env)
 | .gI off x=>W off (x.ev env)
 | .fV arr sz x i=>aP arr sz (x.ev env) (i.ev env)
 | .slice sz x lo hi mx=>du sz (x.ev env) (lo.map (aW.ev env)) (hi.map (aW.ev env)) (mx.map (aW.ev env))
 | .jV x lo hi=>oB (x.ev env) (lo.map (aW.ev env)) (hi.map (aW.ev env))
 | .hq t x=>some (.iface t (x.ev env))
 | .gQ key bE=>some (.fn key (eb env bE))
 | .extract i x=>bj i (x.ev env)
 | .build zero parts=>bo zero (fK env parts)
 | .len str x=>bp str (x.ev env)
 | .hr n=>some (.int .i64 n)
 | .cap x=>qA (x.ev env)
 | .hx mx xs=>fy mx (eb env xs)
 | .load n agg x=>O H n agg (x.ev env)
 | .lookup kk zero ok m k=>kS H kk zero ok (m.ev env) (k.ev env)
 | .hC m=>kT H (m.ev env)
 | .jW x=>oD (x.ev env)
 | .hD x=>abstr H (x.ev env)
 | .box mu n x=>if mu then none else(if(x.ev env).known∧(x.ev env).cells.length=n then some (.ae (x.ev env).cells)else none)
 | .alloc mu zero=>if mu then none else some (.ae zero)
 | .gJ mu sz len zero parts=>if mu then none else(iD (XS len zero).flatten (fK env parts)).map λcells=> .ak .full len cells
 |_=>none
theorem th{env:Env}(hp:fB op=true∨e9 op=true)(h:bX Φ env H K op):∃v,eP env H op=some v∧K v H:=by
 cases op with
 |mv x=>exact⟨_,rfl,h⟩
 | pick c x y=>
  obtain⟨b,hb,h⟩:=x8 h;refine⟨_,by simp only[eP];rw[hb],?_⟩;cases b
  ·simpa using h
  ·simpa using h
 |hq t x=>exact⟨_,rfl,h⟩
 |gQ key bE=>exact⟨_,rfl,h⟩
 |hr n=>exact⟨_,rfl,h⟩
 | box mu n x=>
  cases mu with
  |true=>simp[fB,e9]at hp
  | false=>
   obtain⟨v,H',hv,a⟩:=h;simp only[aO,aL,ZP,bR]at hv;split at hv
   · rename_i hk;cases hv;exact⟨_,by simp only[eP,ZP,bR];rw[aa hk],a⟩
   ·cases hv
 | alloc mu zero=>
  cases mu with
  |true=>simp[fB,e9]at hp
  | false=>obtain⟨v,H',hv,a⟩:=h;simp only[aL,ZP,bR]at hv;cases hv;exact⟨_,rfl,a⟩
 | gJ mu sz len zero parts=>
  cases mu with
  |true=>simp[fB,e9]at hp
  | false=>
   obtain⟨v,H',hv,a⟩:=h;simp only[dk,ZP,bR]at hv;cases hf:iD (XS len zero).flatten (fK env parts)with
   |none=>simp[hf]at hv
   | some cells=>simp only[hf,Yc,Yb.injEq,ZZ.injEq]at hv;obtain⟨rfl,rfl⟩:=hv;exact⟨_,by simp[eP,hf],a⟩
 |store|append|make|copy|gR|hy|delete|h5|h6|call|h7|ext|inv=>simp[fB,e9]at hp
 |_=>obtain⟨v,hv,a⟩:=h;exact⟨v,hv,a⟩
theorem tj{env:Env}(h:eP env H op=some v)(a:K v H):bX Φ env H K op:=by
 cases op with
 |mv x=>cases h;exact a
 | pick c x y=>
  simp only[eP]at h;simp only[bX];split at h
  · rename_i b hb;rw[hb];cases h;cases b
    ·simpa using a
    ·simpa using a
  ·cases h
 |hq t x=>cases h;exact a
 |gQ key bE=>cases h;exact a
 |hr n=>cases h;exact a
 | box mu n x=>
  cases mu with
  |true=>simp[eP]at h
  | false=>
   simp only[eP,ZP,bR]at h;split at h
   · rename_i hk;cases h;exact⟨_,H,by simp[aO,aL,hk],a⟩
   ·cases h
 | alloc mu zero=>
  cases mu with
  |true=>simp[eP]at h
  | false=>simp only[eP,ZP,bR]at h;cases h;exact⟨_,H,by simp[aL],a⟩
 | gJ mu sz len zero parts=>
  cases mu with
  |true=>simp[eP]at h
  | false=>
   simp only[eP,ZP,bR]at h;cases hf:iD (XS len zero).flatten (fK env parts)with
   |none=>simp[hf]at h
   | some cells=>simp only[hf,Yc,Yb.injEq]at h;subst h;exact⟨_,H,by simp[dk,hf],a⟩
 |store|append|make|copy|gR|hy|delete|h5|h6|call|h7|ext|inv=>simp[eP]at h
 |_=>exact⟨v,h,a⟩
theorem Mv{env:Env}{H H':Z}(h:fB op=true):eP env H op=eP env H' op:=by cases op<;>first|rfl|(simp[fB]at h)
theorem Da{env:Env}(hv:eP env H op=some v):fB op=true∨e9 op=true:=by
 cases op with
 | box mu n x=>cases mu with
  |true=>simp[eP]at hv
  |false=>left;rfl
 | alloc mu zero=>cases mu with
  |true=>simp[eP]at hv
  |false=>left;rfl
 | gJ mu sz len zero parts=>cases mu with
  |true=>simp[eP]at hv
  |false=>left;rfl
 |load|lookup|hC|hD=>right;rfl
 |store|append|make|copy|gR|hy|delete|h5|h6|call|h7|ext|inv=>simp[eP]at hv
 |_=>left;rfl
theorem Mw{env aA:Env}(h:∀t∈bT op,env.getD t .bot=aA.getD t .bot):eP env H op=eP aA H op:=by
 cases hv:eP env H op with
 | some v=>have h1:bX (λ_ _ _ _=>False) env H (λu _=>u=v) op:=tj hv rfl;rw[yq op h]at h1;obtain⟨u,hu,rfl⟩:=th (Da hv) h1;exact hu.symm
 | none=>
  cases a:eP aA H op with
  |none=>rfl
  | some v=>have h1:bX (λ_ _ _ _=>False) aA H (λu _=>u=v) op:=tj a rfl;rw[←yq op h]at h1;obtain⟨u,hu,_⟩:=th (Da a) h1;rw[hv]at hu;cases hu
end Rb

namespace Rb
open Go
variable{env aA:Env}{H:Z}{o:bz}{K K':ad}{Φ:ai}{v:I}
def je(Φ:ai):Prop:=∀key args H (Q a:ad),(∀v H,Q v H→a v H)→Φ key args H Q→Φ key args H a
theorem tm(C:Ctx):je (af C):=by intro key args H Q g hQ h;refine⟨h.1.imp λv h=>h.imp λH' h=>hQ _ _ h,λf hf G w Vs hG a b=>?_⟩;refine Z9 (h.2 f hf G w Vs hG a b) λe w' he=>?_;obtain⟨V,v,H',G',h1,c,d⟩:=he;exact⟨V,v,H',G',h1,hQ _ _ c,d⟩
theorem Do.mono{α:Type}{x:Option α}{K K':α→Prop}(b:∀a,K a→K' a)(h:Do x K):Do x K':=by obtain⟨a,ha,h⟩:=h;exact⟨a,ha,b a h⟩
theorem ar.mono{x:Option (I×Z)}(b:∀v H,K v H→K' v H)(h:ar x K):ar x K':=by obtain⟨a,H,ha,h⟩:=h;exact⟨a,H,ha,b a H h⟩
theorem Gd.mono{b:Bool}{A B c d:Prop}(hA:A→c)(hB:B→d)(h:Gd v b A B):Gd v b c d:=by
 unfold Gd at *;split at h
 · split at h
   ·rename_i a;simp[a,hA h]
   ·rename_i a;simp[a,hB h]
 ·exact h.elim
theorem oY(b:je Φ){op:dQ}(a:∀v H,K v H→K' v H)(h:bX Φ env H K op):bX Φ env H K' op:=by
 cases op with
 |mv x=>exact a _ _ h
 |pick c x y=>exact Gd.mono (a _ _) (a _ _) h
 |hq t x=>exact a _ _ h
 |gQ key bE=>exact a _ _ h
 |hr n=>exact a _ _ h
 |box mu n x=>exact ar.mono a h
 |alloc mu zero=>exact ar.mono a h
 |gJ=>exact ar.mono a h
 |append=>exact ar.mono a h
 |make=>exact ar.mono a h
 |copy=>exact ar.mono a h
 |gR=>exact a _ _ h
 |h5=>exact ar.mono a h
 |h6=>exact ar.mono a h
 |call key args=>exact b _ _ _ _ _ a h
 |h7 f args=>obtain⟨key,bE,h1,d⟩:=h;exact⟨key,bE,h1,b _ _ _ _ _ a d⟩
 |ext=>exact ar.mono a h
 |inv hE x args=>obtain⟨t,v,r,u,h1,d,e,g⟩:=h;exact⟨t,v,r,u,h1,d,e,b _ _ _ _ _ a g⟩
 |store=>exact Do.mono (λH h=>a _ _ h) h
 |hy=>exact Do.mono (λH h=>a _ _ h) h
 |delete=>exact Do.mono (λH h=>a _ _ h) h
 |_=>exact Do.mono (λv h=>a _ _ h) h
def gT(o:bz):List Nat:=bT o.op++(match o.guard with|some (s,_)=>[s]|none=>[])
def iK(Φ:ai)(o:bz)(env:Env)(H:Z)(K:ad):Prop:=
 match o.guard with
 |none=>bX Φ env H K o.op
 |some (s,want)=>∃b,(env.getD s .bot).wanted want=some b∧if b=true then bX Φ env H K o.op else K (.aq []) H
theorem mD{s:Nat}(h:env.getD s .bot=v):env.set s v=env:=by
 apply List.ext_getElem?;intro i;rw[Ym];split
 · rename_i hi;subst hi;split
   · rename_i hl;rw[Zg,YO hl]at h;rw[YO hl,←h];rfl
   ·rename_i hl;rw[aab (by omega)]
 ·rfl
theorem tn{K:Env→Z→Prop}:jy Φ o env H K↔iK Φ o env H (λv H'=>K (bQ env o.dst v) H'):=by
 unfold jy iK;cases c:o.guard with
 |none=>exact Iff.rfl
 | some g=>
  obtain⟨s,want⟩:=g;dsimp only;constructor
  · intro h;unfold aQ at h;split at h
    · rename_i b hb;refine⟨b==want,by rw[hb];rfl,?_⟩;by_cases a:b=want
      · subst a;rw[aa rfl]at h;rw[qH];rw[mD hb]at h;exact h
      · rw[ab a]at h;rw[ab (by simpa using a)];have:b=!want:=by cases b<;>cases want<;>simp at a ⊢
        subst this;rw[mD hb]at h;exact h
    · rename_i hb;refine⟨false,by rw[hb];rfl,?_⟩;rw[lV];rw[mD hb]at h;exact h
    ·exact h.elim
  · rintro ⟨b,hb,h⟩;unfold aQ;cases b with
    | true=>have hw:=I.x3 hb;rw[hw];dsimp only;rw[aa rfl]at h ⊢;rw[mD hw];exact h
    | false=>
     rw[lV]at h;rcases I.CC hb with hw|hw
     · rw[hw];dsimp only;rw[ab (by cases want<;>simp),mD hw];exact h
     · rw[hw];dsimp only;rw[mD hw];exact h
def ic(o:bz)(env:Env)(H:Z)(v:I):Prop:=
 match o.guard with
 |none=>eP env H o.op=some v
 |some (s,want)=>∃b,(env.getD s .bot).wanted want=some b∧if b=true then eP env H o.op=some v else v = .aq []
theorem Db(h:∀t∈gT o,env.getD t .bot=aA.getD t .bot):iK Φ o env H K↔iK Φ o aA H K:=by
 have h1:=yq (Φ:=Φ) (H:=H) (K:=K) o.op (λt ht=>h t (by simp[gT,ht]));unfold iK;split
 ·rw[h1]
 · rename_i s want a;rw[h1,h s (by simp[gT,a])]
theorem oZ(h:∀t∈gT o,env.getD t .bot=aA.getD t .bot):ic o env H v↔ic o aA H v:=by
 have h1:=Mw (H:=H) (op:=o.op) (λt ht=>h t (by simp[gT,ht]));unfold ic;split
 ·rw[h1]
 · rename_i s want a;rw[h1,h s (by simp[gT,a])]
theorem My{H H':Z}(h:fB o.op=true):ic o env H v↔ic o env H' v:=by unfold ic;rw[Mv (H':=H') h]
theorem Mz(hp:fB o.op=true∨e9 o.op=true)(h:iK Φ o env H K):∃v,ic o env H v∧K v H:=by
 unfold iK at h;unfold ic;split at h
 · rename_i d;obtain⟨v,h1,a⟩:=th hp h;exact⟨v,h1,a⟩
 · rename_i s want d;obtain⟨b,hb,h⟩:=h;split at h
   · rename_i c;obtain⟨v,h1,a⟩:=th hp h;exact⟨v,⟨b,hb,by rw[aa c];exact h1⟩,a⟩
   · rename_i c;exact⟨.aq [],⟨b,hb,by rw[ab c]⟩,h⟩
theorem MA(h:ic o env H v)(a:K v H):iK Φ o env H K:=by
 unfold ic at h;unfold iK;split
 · rename_i c;rw[c]at h;exact tj h a
 · rename_i s want c;rw[c]at h;obtain⟨b,hb,h⟩:=h;refine⟨b,hb,?_⟩;split at h
   ·rename_i d;rw[aa d];exact tj h a
   ·rename_i d;rw[ab d];subst h;exact a
theorem MB(d:je Φ)(a:∀v H,K v H→K' v H)(h:iK Φ o env H K):iK Φ o env H K':=by
 unfold iK at *;split at h
 ·exact oY d a h
 · obtain⟨b,hb,h⟩:=h;refine⟨b,hb,?_⟩;split at h
   ·rename_i c;rw[aa c];exact oY d a h
   ·rename_i c;rw[ab c];exact a _ _ h
end Rb

namespace Rb
open Go
variable{i t sz bytes:Nat}{env a b:Env}{o:bz}{al:List bz}{zero:List I}{l c:aW}{op:dQ}{es:List Nat}
def c7(ops:List bz)(k:Nat):Option Nat:=(ops[k]?).bind λo=>o.dst
def late(ops:List bz)(S:Nat→Bool)(t:Nat):Bool:=(YM ops.length).any λk=>c7 ops k==some t&&!S k
def dV(ops:List bz)(S:Nat→Bool)(e0 e1:Env):Env:=(YM e1.length).map λt=>if late ops S t then e0.getD t .bot else e1.getD t .bot
def bV(pr:List (List Nat))(i:Nat):List Nat:=pr.getD i []
def ny(ops:List bz)(i:Nat):Bool:=
 match ops[i]? with
 |some ⟨some _,.alloc true _,none⟩=>true
 |some ⟨some _,.gR,none⟩=>true
 |_=>false
def yr(ops:List bz)(pr:List (List Nat))(i:Nat):Bool:=
 match ops[i]? with
 |some ⟨some _,.make true _ _ _ _ _,none⟩=>(bV pr i).all λk=>match ops[k]? with|some o=>fB o.op||e9 o.op|none=>false
 |_=>false
def fN(ops:List bz)(pr:List (List Nat))(i:Nat):Bool:=ny ops i||yr ops pr i
def qM(ops:List bz)(i:Nat):Bool:=
 match ops[i]? with
 |some ⟨some _,.call _ _,none⟩=>true
 |some ⟨some _,.append _ _ _ _ _,none⟩=>true
 |_=>false
theorem MC(h:qM al i=true):∃t op,al[i]?=some ⟨some t,op,none⟩∧((∃k args,op = .call k args)∨∃mu sz bytes x y,op = .append mu sz bytes x y):=by
 unfold qM at h;split at h
 ·rename_i t k args heq;exact⟨_,_,heq,.inl ⟨_,_,rfl⟩⟩
 ·rename_i t mu sz bytes x y heq;exact⟨_,_,heq,.inr ⟨_,_,_,_,_,rfl⟩⟩
 ·cases h
def k7(op:dQ):Prop:=(∃zero,op = .alloc true zero)∨op = .gR∨∃sz bytes zero l c,op = .make true sz bytes zero l c
theorem mF{pr:List (List Nat)}(h:fN al pr i=true):∃t op,al[i]?=some ⟨some t,op,none⟩∧k7 op:=by
 unfold fN at h;rw[X2]at h;rcases h with h|h
 · unfold ny at h;split at h
   ·rename_i t zero heq;exact⟨_,_,heq,.inl ⟨_,rfl⟩⟩
   ·rename_i t heq;exact⟨_,_,heq,.inr (.inl rfl)⟩
   ·cases h
 · unfold yr at h;split at h
   ·rename_i t sz bytes zero l c heq;exact⟨_,_,heq,.inr (.inr ⟨_,_,_,_,_,rfl⟩)⟩
   ·cases h
theorem Dc{pr:List (List Nat)}(h:fN al pr i=true)(a:al[i]?=some ⟨some t,.make true sz bytes zero l c,none⟩) :
  ∀k∈bV pr i,∃o,al[k]?=some o∧(fB o.op=true∨e9 o.op=true):=by
 intro k hk;unfold fN ny yr at h;rw[a]at h;simp only[aac]at h;rw[YU]at h;have:=h k hk;split at this
 ·rename_i o heq;exact⟨o,heq,by simpa using this⟩
 ·cases this
theorem o0(h:k7 op)(a:fB op=true∨e9 op=true):False:=by rcases h with⟨zero,rfl⟩|rfl|⟨_,_,_,_,_,rfl⟩<;>rcases a with h|h<;>simp[fB,e9]at h
def o3(n:Nat)(ops:List bz)(pr:List (List Nat))(i:Nat):Bool:=
 match ops[i]? with
 |none=>false
 | some o=>
  (bV pr i).all (λj=>(bV pr j).all (bV pr i).contains)&&!(bV pr i).contains i &&
  (gT o).all (λt=>(YM n).all λk=>!(c7 ops k==some t)||(bV pr i).contains k||(!e9 o.op&&(k==i||(bV pr k).contains i))) &&
  (YM n).all (λk=>k==i||o.dst==none||!(c7 ops k==o.dst))
def ys(ops:List bz)(pr:List (List Nat)):Bool:=(YM ops.length).all (o3 ops.length ops pr)
def jf(ops:List bz)(pr:List (List Nat))(es:List Nat):List Nat→List Nat→Bool
 |_,[]=>true
 |D,i::r=>decide (i<ops.length)&&!D.contains i&&(bV pr i).all D.contains&&es.all (bV pr i).contains&&(match ops[i]? with|some o=>fB o.op||e9 o.op|none=>false)&&jf ops pr es (i::D) r
def lY(ops:List bz)(pr:List (List Nat))(es D:List Nat)(e:Nat)(a:List Nat):Bool:=
 decide (e<ops.length)&&!D.contains e&&(bV pr e).all D.contains&&((fN ops pr e&&(ny ops e||es.all λx=>fN ops pr x||qM ops x))||es.all (bV pr e).contains) &&
 D.all λi=>(bV pr e).contains i||a.contains i||match ops[i]? with|some o=>!e9 o.op|none=>false
def gU(last:List Nat):List (List Nat×Nat×List Nat)→List Nat
 |[]=>last
 |(a,_,_)::_=>a
def fY(ops:List bz)(pr:List (List Nat))(last:List Nat):List Nat→List Nat→List (List Nat×Nat×List Nat)→Bool
 |es,D,[]=>(YM ops.length).all D.contains
 |es,D,(_,e,st)::r=>lY ops pr es D e st&&jf ops pr (e::es) (e::D) (gU last r)&&fY ops pr last (e::es) ((gU last r).reverse++(e::D)) r
def hK:List (List Nat×Nat×List Nat)→Option Nat
 |[]=>none
 |(_,e,_)::_=>some e
def tq(ops:List bz)(pr:List (List Nat))(bh:List (List Nat×Nat×List Nat))(last:List Nat):Bool:=ys ops pr&&jf ops pr [] [] (gU last bh)&&fY ops pr last [] ((gU last bh).reverse) bh
def nz(Φ:ai)(ops:List bz)(last:List Nat)(K:Env→Z→Prop):List (List Nat×Nat×List Nat)→Env→Z→Prop
 |[],env,H=>K env H
 | (_,e,st)::r,env,H=>match ops[e]? with
  |some o=>jy Φ o env H λa H2=>fW ops env H2 (jb Φ ops last r a H2 K) st
  |none=>False
section
variable{Φ:ai}{ops:List bz}{pr:List (List Nat)}{last:List Nat}{K:Env→Z→Prop}{e0 e1:Env}{H:Z}{S S':Nat→Bool}
theorem yt(bh:List (List Nat×Nat×List Nat))(env:Env):jb Φ ops last bh env H K=kU Φ ops (gU last bh) env H (λaA H'=>nz Φ ops last K bh aA H'):=by
 cases bh with
 |nil=>simp only[jb,gU,nz]
 | cons p r=>obtain⟨a,e,st⟩:=p;exact rfl
theorem iL(h:e0.length=e1.length)(t:Nat):(dV ops S e0 e1).getD t .bot=if late ops S t then e0.getD t .bot else e1.getD t .bot:=by
 unfold dV;by_cases ht:t<e1.length
 ·simp[Zg,ht]
 · have h1:e1.getD t .bot = .bot:=by simp[Zg,aab (aad ht)]
   have a:e0.getD t .bot = .bot:=by simp[Zg,aab (h▸aad ht)]
   rw[h1,a];simp[Zg,ht]
theorem mG:(dV ops S e0 e1).length=e1.length:=by simp[dV]
theorem mH(hl:a.length=b.length)(h:∀t,t<a.length→a.getD t .bot=b.getD t .bot):a=b:=by apply List.ext_getElem hl;intro i h1 c;have:=h i h1;simpa[Zg,h1,c]using this
theorem jY:late ops S t=true↔∃k,c7 ops k=some t∧S k=false:=by
 unfold late;simp only[List.any_eq_true,aae,X1,bG,Z4];constructor
 ·rintro⟨k,_,h⟩;exact⟨k,h⟩
 · rintro⟨k,h1,a⟩;refine⟨k,?_,h1,a⟩;unfold c7 at h1;rcases KT k ops.length with h|h
   ·exact h
   ·simp[aab h]at h1
structure Good(ops:List bz)(pr:List (List Nat)):Prop where
 trans:∀i,i<ops.length→∀j∈bV pr i,∀k∈bV pr j,k∈bV pr i
 Dd:∀i,i<ops.length→i∉bV pr i
 reads:∀i o t k,ops[i]?=some o→t∈gT o→c7 ops k=some t→k∈bV pr i∨(e9 o.op=false∧(k=i∨i∈bV pr k))
 uniq:∀i k t,c7 ops i=some t→c7 ops k=some t→i=k
theorem tr{k t:Nat}(h:c7 ops k=some t):k<ops.length:=by
 unfold c7 at h;rcases KT k ops.length with a|a
 ·exact a
 ·simp[aab a]at h
theorem MD(h:ys ops pr=true):Good ops pr:=by
 have one:∀i,i<ops.length→o3 ops.length ops pr i=true:=λi hi=>by unfold ys at h;rw[YU]at h;exact h i (aae.2 hi)
 refine⟨λi hi j f k hk=>?_,λi hi=>?_,λi o t k d ht hk=>?_,λi k t hi hk=>?_⟩
 · have:=one i hi;unfold o3 at this;split at this
   ·cases this
   · simp only[X1]at this;have c:=this.1.1.1;rw[YU]at c;have b:=c j f;rw[YU]at b;simpa using b k hk
 · have:=one i hi;unfold o3 at this;split at this
   ·cases this
   · simp only[X1]at this;have:=this.1.1.2;simpa using this
 · have hi:i<ops.length:=by
     rcases KT i ops.length with e|e
     ·exact e
     ·simp[aab e]at d
   have:=one i hi;unfold o3 at this;rw[d]at this;simp only[X1]at this;have c:=this.1.2;rw[YU]at c;have b:=c t ht;rw[YU]at b;have a:=b k (aae.2 (tr hk));rw[hk]at a;simp at a;rcases a with a|⟨g,a⟩
   ·exact .inl a
   · refine .inr ⟨g,?_⟩;rcases a with a|a
     ·exact .inl a
     ·exact .inr a
 · have l:=tr hi;have:=one i l;unfold o3 at this;split at this
   ·cases this
   · rename_i o d;simp only[X1]at this;have c:=this.2;rw[YU]at c;have b:=c k (aae.2 (tr hk));have m:o.dst=some t:=by simpa[c7,d]using hi
     rw[m,hk]at b;simp at b;exact b.symm
theorem qN(a:Good ops pr)(hl:e0.length=e1.length)(b:ops[i]?=some o)
  (h1:∀k∈bV pr i,S k=true) (c:S i=false) (d:∀k,S k=true→∀j∈bV pr k,S j=true)
  (e:∀k∈bV pr i,S' k=true) (f:S' i=false) (g:∀k,S' k=true→∀j∈bV pr k,S' j=true) :
  ∀t∈gT o,(dV ops S e0 e1).getD t .bot=(dV ops S' e0 e1).getD t .bot:=by
 intro t ht;rw[iL hl,iL hl];have : late ops S t=late ops S' t:=by
  have key:∀{A B:Nat→Bool},(∀k∈bV pr i,A k=true)→B i=false→(∀k,B k=true→∀j∈bV pr k,B j=true)→late ops A t=true→late ops B t=true:=by
   intro A B a1 b2 bd h;obtain⟨k,hk,hn⟩:=jY.1 h;refine jY.2 ⟨k,hk,?_⟩;rcases a.reads i o t k b ht hk with h|⟨_,h⟩
   ·rw[a1 k h]at hn;cases hn
   · rcases h with rfl|h
     ·exact b2
     · cases hb:B k with
       |false=>rfl
       |true=>have:=bd k hb i h;rw[b2]at this;cases this
  cases ha:late ops S t with
  |true=>rw[key h1 f g ha]
  | false=>
   cases hb:late ops S' t with
   |false=>rfl
   |true=>rw[key e c d hb]at ha;cases ha
 rw[this]
theorem qO(f:Good ops pr)(hl:e0.length=e1.length)(g:ops[i]?=some o){v:I}
  (hv:∀t,o.dst=some t→t<e1.length→e1.getD t .bot=v) :
  bQ (dV ops S e0 e1) o.dst v=dV ops (λk=>k==i||S k) e0 e1:=by
 have b:c7 ops i=o.dst:=by simp[c7,g]
 apply mH
 ·cases a:o.dst<;>simp[bQ,mG]
 · intro t ht;rw[iL hl];cases a:o.dst with
   | none=>
    simp only[bQ];rw[iL hl];have:late ops S t=late ops (λk=>k==i||S k) t:=by
     rw[aaf,jY,jY];constructor
     · rintro⟨k,hk,hn⟩;refine⟨k,hk,?_⟩;have:k≠i:=λe=>by subst e;rw[b,a]at hk;cases hk
       simp[this,hn]
     · rintro⟨k,hk,hn⟩;simp at hn;exact⟨k,hk,hn.2⟩
    rw[this]
   | some s=>
    simp only[bQ];by_cases c:s=t
    · subst c;have d:s<(dV ops S e0 e1).length:=by
       rw[a]at ht;simpa[bQ,aag]using ht
      have h:late ops (λk=>k==i||S k) s=false:=by
       cases j:late ops (λk=>k==i||S k) s with
       |false=>rfl
       | true=>obtain⟨k,hk,hn⟩:=jY.1 j;have:=f.uniq i k s (by rw[b,a]) hk;subst this;simp at hn
      rw[h];simp only[Zg,YQ d,ZP,bR,Zh];rw[←hv s a (by rw[mG]at d;exact d),Zg]
    · have h1:((dV ops S e0 e1).set s v).getD t .bot=(dV ops S e0 e1).getD t .bot:=by
        rw[Zg,YR c,Zg]
      rw[h1,iL hl];have:late ops S t=late ops (λk=>k==i||S k) t:=by
       rw[aaf,jY,jY];constructor
       · rintro⟨k,hk,hn⟩;refine⟨k,hk,?_⟩;have:k≠i:=λe=>by subst e;rw[b,a]at hk;cases hk;exact c rfl
         simp[this,hn]
       · rintro⟨k,hk,hn⟩;simp at hn;exact⟨k,hk,hn.2⟩
      rw[this]
theorem jZ(hl:e0.length=e1.length)(g:Good ops pr)(c:ops[i]?=some o)(v:I)(hi:S i=false):dV ops S e0 (bQ e1 o.dst v)=dV ops S e0 e1:=by
 have d:c7 ops i=o.dst:=by simp[c7,c]
 have a:e0.length=(bQ e1 o.dst v).length:=by cases b:o.dst<;>simp[bQ,hl]
 apply mH
 ·rw[mG,mG,←hl,←a]
 · intro t _;rw[iL a,iL hl];cases f:late ops S t with
   |true=>rfl
   | false=>
    simp only[ZP,bR];cases b:o.dst with
    |none=>rfl
    | some s=>simp only[bQ];rw[Zg,YR,Zg];intro e;subst e;have:late ops S s=true:=jY.2 ⟨i,by rw[d,b],hi⟩;rw[f]at this;cases this
def Holds(e:Env)(d:Option Nat)(v:I):Prop:=∀t,d=some t→t<e.length→e.getD t .bot=v
def Fact(ops:List bz)(pr:List (List Nat))(e0 e1:Env)(H:Z)(i:Nat):Prop:=∃o v,ops[i]?=some o∧(fB o.op=true∨e9 o.op=true)∧ic o (dV ops (λk=>(bV pr i).contains k) e0 e1) H v∧Holds e1 o.dst v
structure Inv(Φ:ai)(ops:List bz)(pr:List (List Nat))(last:List Nat)(K:Env→Z→Prop)(bh:List (List Nat×Nat×List Nat))(S:Nat→Bool)(env:Env)(H:Z):Prop where
 ex:∃(e0 e1:Env) (D es:List Nat),
  e0.length=e1.length∧env=dV ops S e0 e1∧e1=dV ops D.contains e0 e1 ∧
  (∀i,S i=true→i∈D)∧(∀i,i∈D→S i=false→Fact ops pr e0 e1 H i) ∧
  (∀k,S k=true→∀j∈bV pr k,S j=true)∧(∀k∈D,∀j∈bV pr k,j∈D) ∧
  fY ops pr last es D bh=true∧nz Φ ops last K bh e1 H
theorem yu(c:Good ops pr){es:List Nat}{r:Env→Z→Prop}:∀(a D:List Nat)(e1:Env),e0.length=e1.length→e1=dV ops D.contains e0 e1 →
  (∀i,S i=true→i∈D)→(∀i,i∈D→S i=false→Fact ops pr e0 e1 H i)→(∀k∈D,∀j∈bV pr k,j∈D)→jf ops pr es D a=true→kU Φ ops a e1 H r →
  ∃ d,e0.length=d.length∧dV ops S e0 d=dV ops S e0 e1∧d=dV ops (a.reverse++D).contains e0 d∧(∀i,S i=true→i∈a.reverse++D) ∧
   (∀i,i∈a.reverse++D→S i=false→Fact ops pr e0 d H i)∧(∀k∈a.reverse++D,∀j∈bV pr k,j∈a.reverse++D)∧r d H:=by
 intro a;induction a with
 |nil=>intro D e1 hl hm hS hf g _ h;exact⟨e1,hl,rfl,by simpa using hm,by simpa using hS,by simpa using hf,by simpa using g,h⟩
 | cons i a C=>
  intro D e1 hl hm hS hf g hc h;simp only[jf,X1]at hc;obtain⟨⟨⟨⟨⟨hi,E⟩,u⟩,W⟩,n⟩,F⟩:=hc;simp only[kU]at h;cases b:ops[i]? with
  |none=>rw[b]at h;exact h.elim
  | some o=>
   rw[b]at h n;dsimp only at h n;have w:fB o.op=true∨e9 o.op=true:=by simpa using n
   have m:i∉D:=by simpa using E
   have x:∀k∈bV pr i,k∈D:=by rw[YU]at u;intro k hk;simpa using u k hk
   have G:S i=false:=by
    cases hs:S i with
    |false=>rfl
    |true=>exact absurd (hS i hs) m
   rw[tn]at h;obtain⟨v,hv,h⟩:=Mz w h;have I:c7 ops i=o.dst:=by simp[c7,b]
   have p:e0.length=(bQ e1 o.dst v).length:=by cases g:o.dst<;>simp[bQ,hl]
   have y:Holds (bQ e1 o.dst v) o.dst v:=by intro t ht f;rw[ht]at f ⊢;simp only[bQ]at f ⊢;rw[aag]at f;simp[Zg,f]
   have J:∀k,D.contains k=true→∀j∈bV pr k,D.contains j=true:=λk hk j l=>by simpa using g k (by simpa using hk) j l
   have z:D.contains i=false:=by simpa using m
   have K:bQ e1 o.dst v=dV ops (i::D).contains e0 (bQ e1 o.dst v):=by have h1:=qO (S:=D.contains) c p b y;rw[jZ hl c b v z,←hm]at h1;rw[h1];congr 1
   have L:Fact ops pr e0 (bQ e1 o.dst v) H i:=by
    refine⟨o,v,b,w,?_,y⟩;have A:(bV pr i).contains i=false:=by simpa using c.Dd i (by simpa using hi)
    rw[jZ hl c b v A];rw[hm]at hv;refine(oZ (qN c hl b ?_ ?_ ?_ ?_ ?_ ?_)).1 hv
    ·intro k hk;simpa using x k hk
    ·exact z
    ·exact J
    ·intro k hk;simpa using hk
    ·exact A
    ·intro k hk j l;simpa using c.trans i (by simpa using hi) k (by simpa using hk) j l
   have hold:∀k,k∈D→S k=false→Fact ops pr e0 (bQ e1 o.dst v) H k:=by
    intro k hk q;obtain⟨ok,M,B,N,O,P⟩:=hf k hk q;have Q:(bV pr k).contains i=false:=by
     cases R:(bV pr k).contains i with
     |false=>rfl
     |true=>exact absurd (g k hk i (by simpa using R)) m
    refine⟨ok,M,B,N,by rw[jZ hl c b v Q];exact O,?_⟩;intro t ht f;rw[←p,hl]at f;have:=P t ht f;rw[←this];cases T:o.dst with
    |none=>rfl
    | some s=>simp only[bQ];rw[Zg,YR,Zg];intro e;subst e;have:=c.uniq i k s (by rw[I,T]) (by simp[c7,B,ht]);subst this;exact m hk
   have U:dV ops S e0 (bQ e1 o.dst v)=dV ops S e0 e1:=jZ hl c b v G;have hA:∀k,k∈i::D→S k=false→Fact ops pr e0 (bQ e1 o.dst v) H k:=by
    intro k hk q;rcases aah.1 hk with rfl|hk
    ·exact L
    ·exact hold k hk q
   have hB:∀k∈i::D,∀j∈bV pr k,j∈i::D:=by
    intro k hk j l;rcases aah.1 hk with rfl|hk
    ·exact aai _ (x j l)
    ·exact aai _ (g k hk j l)
   obtain⟨d,g1,g2,g3,g4,g5,g6,g7⟩:=C (i::D) (bQ e1 o.dst v) p K (λk hk=>aai _ (hS k hk)) hA hB F h;have V:(i::a).reverse++D=a.reverse++i::D:=by simp
   rw[V];exact⟨d,g1,g2.trans U,g3,g4,g5,g6,g7⟩
theorem o4{X:Prop}:∀{a:List Nat},fW ops env H X a→X∧∀l∈a,∀o,ops[l]?=some o→qF env H o:=by
 intro a;induction a with
 |nil=>intro h;exact⟨h,λl hl=>by cases hl⟩
 | cons l a c=>
  intro h;obtain⟨h1,d⟩:=h;obtain⟨e,f⟩:=c d;refine⟨e,λk hk o b=>?_⟩;rcases aah.1 hk with rfl|hk
  ·rw[b]at h1;exact h1
  ·exact f k hk o b
theorem De(a:e9 o.op=true)(h:oG env H o):eP env H o.op=some (env.getD (o.dst.getD 0) .bot):=by unfold oG at h;cases b:o.op<;>rw[b]at a h<;>first|(simp[e9]at a;done)|exact h
theorem ME(b:Good ops pr){bh:List (List Nat×Nat×List Nat)}{env:Env}(hc:jf ops pr [] [] (gU last bh)=true)(c:fY ops pr last [] ((gU last bh).reverse) bh=true)
  (h:jb Φ ops last bh env H K):Inv Φ ops pr last K bh (λ_=>false) env H:=by
 rw[yt]at h;have a:∀S,dV ops S env env=env:=λS=>mH mG λt _=>by rw[iL rfl];split<;>rfl
 obtain⟨d,g1,g2,g3,g4,g5,g6,g7⟩:=yu (S:=λ_=>false) b (gU last bh) [] env rfl (a _).symm (λi hi=>by cases hi) (λi hi=>by cases hi) (λk hk=>by cases hk) hc h;refine⟨env,d,_,[],g1,?_,g3,g4,g5,λk hk=>(by cases hk),g6,by simpa using c,g7⟩;rw[g2,a]
theorem Df(t:Good ops pr)(hi:i<ops.length):∀(bh:List (List Nat×Nat×List Nat)) (es D:List Nat),fY ops pr last es D bh=true→i∉D→fN ops pr i=false→∀e∈es,e∈bV pr i:=by
 intro bh;induction bh with
 | nil=>intro es D h hn d;simp only[fY]at h;rw[YU]at h;exact absurd (by simpa using h i (aae.2 hi)) hn
 | cons p r l=>
  obtain⟨b,e,st⟩:=p;intro es D h hn d;simp only[fY,X1]at h;obtain⟨⟨h1,m⟩,n⟩:=h;have o:∀(b:List Nat)(D:List Nat),jf ops pr (e::es) D b=true→i∈b→∀a∈es,a∈bV pr i:=by
   intro b;induction b with
   |nil=>intro D _ h;cases h
   | cons k b q=>
    intro D hc hk a c;simp only[jf,X1]at hc;obtain⟨⟨⟨⟨⟨_,_⟩,_⟩,f⟩,_⟩,s⟩:=hc;rcases aah.1 hk with rfl|hk
    · rw[YU]at f;simpa using f a (aai _ c)
    ·exact q _ s hk a c
  by_cases g:i=e
  · subst g;simp only[lY,X1]at h1;have:=h1.1.2;rw[d,Bool.false_and,aac,YU]at this;intro a c;simpa using this a c
  · by_cases j:i∈gU last r
    ·exact o _ _ m j
    · have:=l (e::es) _ n (by simp[g,j,hn]) d;exact λa c=>this a (aai _ c)
def jg(env:Env):dQ→Option (Nat×Nat)
 | .make _ sz bytes zero l c=>match l.ev env,c.ev env with
  | .int .i64 n,.int .i64 m=>if 0≤n∧n≤m∧bytes*m≤281474976710656∧m≤9223372036854775807∧zero.length=sz then some (n.toNat,m.toNat)else none
  |_,_=>none
 |_=>some (0,0)
theorem Dg{a:ad}(h:bX Φ env H a (.make true sz bytes zero l c)) :
  ∃x,jg env (.make true sz bytes zero l c)=some x∧a (.row H.n 0 x.1 sz) (H.push (.row (XS x.2 zero).flatten)):=by
 obtain⟨v,H',he,b⟩:=h;unfold kr at he;simp only[jg];revert he;generalize l.ev env=L;generalize c.ev env=M;intro he;split at he
 · split at he
   · rename_i hc;simp only[a_,Yb.injEq,ZZ.injEq]at he;obtain⟨rfl,rfl⟩:=he;first
      |(rw[aa hc];exact⟨_,rfl,b⟩)
      |(dsimp only;rw[aa hc];exact⟨_,rfl,b⟩)
   ·cases he
 ·cases he
theorem tt{env aA:Env}(h:∀t∈bT op,env.getD t .bot=aA.getD t .bot):jg env op=jg aA op:=by
 cases op<;>try rfl
 rename_i mu sz bytes zero l c;have h1:=cm l λt ht=>h t (by simp[bT,ht]);have a:=cm c λt ht=>h t (by simp[bT,ht]);simp only[jg,h1,a]
theorem MF{T:Nat→Bool}(ha:e0.length=a.length)(hb:e0.length=b.length)(d:∀k,S k=true→T k=true)(h:dV ops T e0 a=dV ops T e0 b):dV ops S e0 a=dV ops S e0 b:=by
 apply mH
 ·rw[mG,mG,←ha,←hb]
 · intro t _;rw[iL ha,iL hb];cases hs:late ops S t with
   |true=>rfl
   | false=>
    have ht:late ops T t=false:=by
     cases e:late ops T t with
     |false=>rfl
     | true=>
      obtain⟨k,hk,hn⟩:=jY.1 e;have:late ops S t=true:=jY.2 ⟨k,hk,by
        cases f:S k with
        |false=>rfl
        |true=>rw[d k f]at hn;cases hn⟩
      rw[hs]at this;cases this
    have h1:=iL (ops:=ops) (S:=T) ha t;have c:=iL (ops:=ops) (S:=T) hb t;rw[ht]at h1 c;simp only[ZP,bR]at h1 c ⊢;rw[←h1,←c,h]
theorem Dh:∀(a D:List Nat),jf ops pr es D a=true→i∈a→∃o,ops[i]?=some o∧(fB o.op=true∨e9 o.op=true):=by
 intro a;induction a with
 |nil=>intro D _ h;cases h
 | cons k a c=>
  intro D hc hk;simp only[jf,X1]at hc;obtain⟨⟨⟨⟨⟨_,_⟩,_⟩,_⟩,b⟩,d⟩:=hc;rcases aah.1 hk with rfl|hk
  · split at b
    ·rename_i o heq;exact⟨o,heq,by simpa using b⟩
    ·cases b
  ·exact c _ d hk
theorem ahead(b:ops[i]?=some o)(f:ny ops i=false)(g:¬(fB o.op=true∨e9 o.op=true)):∀(bh:List (List Nat×Nat×List Nat)) (es D:List Nat),fY ops pr last es D bh=true→i∉D →
  (∀e∈es,fN ops pr e=true∨qM ops e=true)∨∀e∈es,e∈bV pr i:=by
 intro bh;induction bh with
 | nil=>intro es D h hn;simp only[fY]at h;rw[YU]at h;exact absurd (by simpa using h i (aae.2 (XV.1 b).1)) hn
 | cons p r j=>
  obtain⟨q,e,st⟩:=p;intro es D h hn;simp only[fY,X1]at h;obtain⟨⟨h1,k⟩,l⟩:=h;by_cases c:i=e
  · subst c;simp only[lY,X1]at h1;have:=h1.1.2;rw[f,aac,X2,X1,YU,YU]at this;rcases this with⟨_,h⟩|h
    ·exact .inl λe he=>by simpa using h e he
    ·exact .inr λe he=>by simpa using h e he
  · have m:i∉gU last r:=by
      intro hs;obtain⟨s,d,n⟩:=Dh _ _ k hs;rw[b]at d;cases d;exact g n
    rcases j (e::es) _ l (by simp[c,m,hn])with h|h
    ·exact .inl λx a=>h x (aai _ a)
    ·exact .inr λx a=>h x (aai _ a)
theorem look(P:kW Φ)(g:Good ops pr)(f:ops[i]?=some ⟨some t,.make true sz bytes zero l c,none⟩):∀(bh:List (List Nat×Nat×List Nat)) (e1:Env) (H:Z) (D es:List Nat),
  e0.length=e1.length→e1=dV ops D.contains e0 e1→(∀k∈D,∀j∈bV pr k,j∈D)→fY ops pr last es D bh=true→nz Φ ops last K bh e1 H→i∉D→(∀k∈bV pr i,k∈D) →
  ∃x,jg e1 (.make true sz bytes zero l c)=some x:=by
 have Q:ny ops i=false:=by simp[ny,f]
 have F:¬(fB (dQ.make true sz bytes zero l c)=true∨e9 (dQ.make true sz bytes zero l c)=true):=by simp[fB,e9]
 have R:=(XV.1 f).1;intro bh;induction bh with
 | nil=>intro e1 H D es hl hm q hc _ hn;simp only[fY]at hc;rw[YU]at hc;exact absurd (by simpa using hc i (aae.2 R)) hn
 | cons p r T=>
  obtain⟨ad,e,st⟩:=p;intro e1 H D es hl hm q hc d hn m;have ae:=hc;simp only[fY,X1]at hc;obtain⟨⟨h1,a⟩,G⟩:=hc;simp only[lY,X1]at h1;obtain⟨⟨⟨⟨af,U⟩,I⟩,ag⟩,ah⟩:=h1;have J:e∉D:=by simpa using U
  by_cases L:e=i
  · subst L;simp only[nz,f,jy]at d;obtain⟨x,u,_⟩:=Dg d;exact⟨x,u⟩
  · have V:i∉gU last r:=by
      intro hs;obtain⟨ai,M,W⟩:=Dh _ _ a hs;rw[f]at M;cases M;exact F W
    have w:i∉(gU last r).reverse++(e::D):=by simp[V,hn,YL L]
    have X:fN ops pr e=true∨qM ops e=true:=by
     rcases ahead f Q F r _ _ G w with h|h
     ·exact h e aaj
     ·exact absurd (m e (h e aaj)) J
    obtain ⟨te,b,n,Y⟩:∃te b,ops[e]?=some ⟨some te,b,none⟩∧(k7 b∨(∃k args,b = .call k args)∨∃mu sz bytes x y,b = .append mu sz bytes x y):=by
     rcases X with h|h
     ·obtain⟨te,b,h1,a⟩:=mF h;exact⟨te,b,h1,.inl a⟩
     ·obtain⟨te,b,h1,a⟩:=MC h;exact⟨te,b,h1,.inr a⟩
    simp only[nz,n,jy]at d;have hv:∃v H2,jb Φ ops last r (bQ e1 (some te) v) H2 K:=by
     rcases Y with(⟨z,rfl⟩|rfl|⟨_,_,_,_,_,rfl⟩)|⟨k,args,rfl⟩|⟨_,_,_,_,_,rfl⟩
     ·obtain⟨v,H2,_,h⟩:=d;exact⟨v,H2,(o4 h).1⟩
     ·exact⟨_,_,(o4 d).1⟩
     ·obtain⟨v,H2,_,h⟩:=d;exact⟨v,H2,(o4 h).1⟩
     ·obtain⟨v,H2,h⟩:=P _ _ _ _ d;exact⟨v,H2,(o4 h).1⟩
     ·obtain⟨v,H2,_,h⟩:=d;exact⟨v,H2,(o4 h).1⟩
    obtain⟨v,H2,N⟩:=hv;rw[yt]at N;have B:e0.length=(bQ e1 (some te) v).length:=by simp[bQ,hl]
    have O:D.contains e=false:=by simpa using J
    have aa:bQ e1 (some te) v=dV ops (e::D).contains e0 (bQ e1 (some te) v):=by
     have h1:=qO (S:=D.contains) g B n (v:=v) (λs hs C=>by cases hs;simp only[bQ]at C ⊢;rw[aag]at C;simp[Zg,C])
     have a:=jZ hl g n v O;dsimp only at h1 a;rw[a,←hm]at h1;rw[h1];congr 1
    have hB:∀k∈e::D,∀j∈bV pr k,j∈e::D:=by
     intro k hk j o;rcases aah.1 hk with rfl|hk
     · rw[YU]at I;exact aai _ (by simpa using I j o)
     ·exact aai _ (q k hk j o)
    obtain ⟨E,g1,g2,g3,g4,g5,g6,g7⟩:=yu (S:=(e::D).contains) g (gU last r) (e::D) (bQ e1 (some te) v) B aa (λk hk=>by simpa using hk) (λk hk hs=>by
      have:(e::D).contains k=true:=by simpa using hk
      rw[hs]at this;cases this) hB a N
    obtain ⟨x,u⟩:=T E H2 _ _ g1 g3 g6 G g7 w (λk hk=>by have:=m k hk;simp[this])
    refine⟨x,?_⟩;rw[←u];apply tt;intro s hs;have ab:s∈gT (⟨some t,.make true sz bytes zero l c,none⟩:bz):=by simp[gT,hs]
    have cl:∀{A:List Nat},(∀k∈A,∀j∈bV pr k,j∈A)→∀k,A.contains k=true→∀j∈bV pr k,A.contains j=true:=by intro A hA k hk j o;simpa using hA k (by simpa using hk) j o
    have key:=qN (S:=D.contains) (S':=((gU last r).reverse++(e::D)).contains) (e1:=E) g g1 f (λk hk=>by simpa using m k hk) (by simpa using hn) (cl q)
     (λk hk=>by have:=m k hk;simp[this]) (by simpa using w) (cl g6) s ab
    rw[←g3]at key;have ac:dV ops D.contains e0 E=dV ops D.contains e0 e1:=by rw[MF g1 B (λk hk=>by simp at hk;simp[hk]) g2];exact jZ hl g n v O
    rw[ac,←hm]at key;exact key
theorem MG(p:kW Φ)(e:Good ops pr){bh:List (List Nat×Nat×List Nat)}(h:Inv Φ ops pr last K bh S env H)(d:ops[i]?=some ⟨some t,op,none⟩)(q:k7 op)(f:S i=false)(a:(∃sz bytes zero l c,op = .make true sz bytes zero l c)→∀k∈bV pr i,S k=true) :
  ∃x,jg env op=some x:=by
 rcases q with⟨zero,rfl⟩|rfl|⟨sz,bytes,zero,l,c,rfl⟩
 ·exact⟨_,rfl⟩
 ·exact⟨_,rfl⟩
 · obtain ⟨e0,e1,D,es,hl,hm,g,hS,hf,r,m,u,w⟩:=h;have a:=a ⟨_,_,_,_,_,rfl⟩;have b:i∉D:=by
    intro b;obtain⟨o,v,n,y,_⟩:=hf i b f;rw[d]at n;cases n;exact o0 (.inr (.inr ⟨_,_,_,_,_,rfl⟩)) y
   obtain⟨x,z⟩:=look p e d bh e1 H D es hl g m u w b (λk hk=>hS k (a k hk));refine⟨x,?_⟩;rw[←z];apply tt;intro s hs;have A:s∈gT (⟨some t,.make true sz bytes zero l c,none⟩:bz):=by simp[gT,hs]
   have key:=qN (S:=S) (S':=D.contains) e hl d a f r (λk hk=>by simpa using hS k (a k hk)) (by simpa using b) (λk hk j B=>by simpa using m k (by simpa using hk) j B) s A;rw[←hm,←g]at key;exact key
theorem Di(an:je Φ)(a:Good ops pr){bh:List (List Nat×Nat×List Nat)}(h:Inv Φ ops pr last K bh S env H)(c:ops[i]?=some o)(G:S i=false)(y:∀k∈bV pr i,S k=true)
  (R:fN ops pr i=false∨hK bh=some i) :
  jy Φ o env H (λaA H'=>Inv Φ ops pr last K (if hK bh=some i then bh.tail else bh) (λk=>k==i||S k) aA H'):=by
 obtain⟨e0,e1,D,es,hl,hm,J,hS,hf,T,B,f,L⟩:=h;have hi:i<ops.length:=(XV.1 c).1;have ao:(bV pr i).contains i=false:=by simpa using a.Dd i hi
 have X:∀k,(k==i||S k)=true→∀j∈bV pr k,(j==i||S j)=true:=by
  intro k hk j d;simp only[X2,bG]at hk ⊢;rcases hk with rfl|hk
  ·exact .inr (y j d)
  ·exact .inr (T k hk j d)
 rw[tn];by_cases w:i∈D
 · obtain ⟨aN,v,Y,aO,ap,ar⟩:=hf i w G;rw[c]at Y;cases Y;have au:ic o env H v:=by
    rw[hm];refine(oZ (qN a hl c ?_ ?_ ?_ ?_ ?_ ?_)).1 ap
    ·intro k hk;simpa using hk
    ·exact ao
    ·intro k hk j d;simpa using a.trans i hi k (by simpa using hk) j d
    ·exact y
    ·exact G
    ·exact T
   have av:hK bh≠some i:=by
    cases bh with
    |nil=>simp[hK]
    | cons p r=>
     obtain⟨m,e,st⟩:=p;simp only[fY,X1]at f;have h1:=f.1.1;simp only[lY,X1]at h1;have U:e∉D:=by simpa using h1.1.1.1.2
     intro he;simp only[hK,Yb.injEq]at he;subst he;exact U w
   rw[ab av];refine MA au ⟨e0,e1,D,es,hl,?_,J,?_,?_,X,B,f,L⟩
   ·rw[hm];exact qO a hl c ar
   · intro k hk;simp only[X2,bG]at hk;rcases hk with rfl|hk
     ·exact w
     ·exact hS k hk
   · intro k hk n;simp only[aak]at n;exact hf k hk n.2
 · cases bh with
   | nil=>simp only[fY]at f;rw[YU]at f;exact absurd (by simpa using f i (aae.2 hi)) w
   | cons p r =>
    obtain⟨m,e,st⟩:=p;have aP:=f;simp only[fY,X1]at f;obtain⟨⟨h1,Z⟩,ac⟩:=f;simp only[lY,X1]at h1;obtain⟨⟨⟨⟨aQ,aw⟩,aR⟩,aS⟩,ad⟩:=h1;have U:e∉D:=by simpa using aw
    have C : i=e:=by
     by_cases C:i=e
     ·exact C
     exfalso;have R:fN ops pr i=false:=by
      rcases R with h|h
      ·exact h
      · simp only[hK,Yb.injEq]at h;exact absurd h.symm C
     have ax:e∈bV pr i:=by
      by_cases ae:i∈gU last r
      · have ay:∀(m:List Nat)(D:List Nat),jf ops pr (e::es) D m=true→i∈m→e∈bV pr i:=by
          intro m;induction m with
          |nil=>intro D _ h;cases h
          | cons k m az=>
           intro D hc hk;simp only[jf,X1]at hc;obtain⟨⟨⟨⟨⟨_,_⟩,_⟩,af⟩,_⟩,aB⟩:=hc;rcases aah.1 hk with rfl|hk
           · rw[YU]at af;simpa using af e aaj
           ·exact az _ aB hk
        exact ay _ _ Z ae
      ·exact Df a hi r (e::es) _ ac (by simp[C,ae,w]) R e aaj
     exact U (hS e (y e ax))
    subst C;rw[aa (show hK ((m,i,st)::r)=some i from rfl)];simp only[nz,c]at L;rw[tn]at L;have ag:∀k∈bV pr i,k∈D:=λk hk=>hS k (y k hk);have ah:D.contains i=false:=by simpa using w
    have aC:∀k,D.contains k=true→∀j∈bV pr k,D.contains j=true:=λk hk j d=>by simpa using B k (by simpa using hk) j d
    have aD:iK Φ o env H (λv H'=>fW ops e1 H' (jb Φ ops last r (bQ e1 o.dst v) H' K) st):=by
     have agree:∀t∈gT o,e1.getD t .bot=env.getD t .bot:=by intro t ht;have:=qN (S:=D.contains) (S':=S) a hl c (λk hk=>by simpa using ag k hk) ah aC y G T t ht;rw[←J,←hm]at this;exact this
     exact(Db agree).1 L
    refine MB an ?_ aD;intro v H' hs;obtain⟨ai,aE⟩:=o4 hs;have aF:c7 ops i=o.dst:=by simp[c7,c]
    have M:e0.length=(bQ e1 o.dst v).length:=by cases aT:o.dst<;>simp[bQ,hl]
    have aj:Holds (bQ e1 o.dst v) o.dst v:=by intro t ht x;rw[ht]at x ⊢;simp only[bQ]at x ⊢;rw[aag]at x;simp[Zg,x]
    have aG:bQ e1 o.dst v=dV ops (i::D).contains e0 (bQ e1 o.dst v):=by have h1:=qO (S:=D.contains) a M c aj;rw[jZ hl a c v ah,←J]at h1;rw[h1];congr 1
    have aH:bQ env o.dst v=dV ops (λk=>k==i||S k) e0 (bQ e1 o.dst v):=by have h1:=qO (S:=S) a M c aj;rw[jZ hl a c v G,←hm]at h1;exact h1
    have aI:∀k,k∈i::D→(k==i||S k)=false→Fact ops pr e0 (bQ e1 o.dst v) H' k:=by
     intro k hk n;simp only[aak,beq_eq_false_iff_ne]at n;obtain⟨ak,n⟩:=n;have N:k∈D:=(aah.1 hk).resolve_left ak;obtain⟨ok,aJ,q,E,l,al⟩:=hf k N n;have O:(bV pr k).contains i=false:=by
      cases V:(bV pr k).contains i with
      |false=>rfl
      |true=>exact absurd (B k N i (by simpa using V)) w
     have P:∀u,Holds e1 ok.dst u→Holds (bQ e1 o.dst v) ok.dst u:=by
      intro u hu t ht x;rw[←M,hl]at x;have:=hu t ht x;rw[←this];cases aK:o.dst with
      |none=>rfl
      | some s=>simp only[bQ];rw[Zg,YR,Zg];intro e;subst e;have:=a.uniq i k s (by rw[aF,aK]) (by simp[c7,q,ht]);exact ak this.symm
     by_cases am:fB ok.op=true
     · refine⟨ok,aJ,q,E,?_,P _ al⟩;rw[jZ hl a c v O];exact(My am).1 l
     · have Q:e9 ok.op=true:=E.resolve_left am;have aL:k∈st:=by
        rw[YU]at ad;have:=ad k N;rw[q]at this;simp[Q]at this;rcases this with h|h
        ·exact absurd (y k h) (by rw[n];simp)
        ·exact h
       have z:=aE k aL ok q;have agree:∀t∈gT ok,(dV ops (λj=>(bV pr k).contains j) e0 e1).getD t .bot=e1.getD t .bot:=by
        intro t ht
        conv=>rhs;rw[J]
        rw[iL hl,iL hl];have hA:∀(A:Nat→Bool),(∀j∈bV pr k,A j=true)→late ops A t=false:=by
         intro A hA;cases V:late ops A t with
         |false=>rfl
         | true=>
          obtain⟨j,d,hn⟩:=jY.1 V;rcases a.reads k ok t j q ht d with h|⟨h,_⟩
          ·rw[hA j h]at hn;cases hn
          ·rw[Q]at h;cases h
        rw[hA _ (λj d=>by simpa using d),hA _ (λj d=>by simpa using B k N j d)]
       rw[oZ agree]at l;unfold qF at z;unfold ic at l;cases F:ok.guard with
       | none=>
        rw[F]at z;refine⟨ok,e1.getD (ok.dst.getD 0) .bot,q,E,?_,P _ ?_⟩
        · rw[jZ hl a c v O];refine(oZ agree).2 ?_;unfold ic;rw[F];exact De Q z
        ·intro t ht _;rw[ht];rfl
       | some g=>
        obtain⟨s,want⟩:=g;rw[F]at z l;dsimp only at z l;obtain⟨b,hb,l⟩:=l;by_cases W:b=true
        · subst W;refine⟨ok,e1.getD (ok.dst.getD 0) .bot,q,E,?_,P _ ?_⟩
          · rw[jZ hl a c v O];refine(oZ agree).2 ?_;unfold ic;rw[F];exact⟨true,hb,by rw[aa rfl];exact De Q (z (I.x3 hb))⟩
          ·intro t ht _;rw[ht];rfl
        · rw[ab W]at l;subst l;refine⟨ok,.aq [],q,E,?_,P _ al⟩;rw[jZ hl a c v O];refine(oZ agree).2 ?_;unfold ic;rw[F];exact⟨b,hb,by rw[ab W]⟩
    rw[yt]at ai;have hA:∀k,(k==i||S k)=true→k∈i::D:=by
     intro k hk;simp only[X2,bG]at hk;rcases hk with rfl|hk
     ·exact aaj
     ·exact aai _ (hS k hk)
    have hB:∀k∈i::D,∀j∈bV pr k,j∈i::D:=by
     intro k hk j d;rcases aah.1 hk with rfl|hk
     ·exact aai _ (ag j d)
     ·exact aai _ (B k hk j d)
    obtain⟨aM,g1,g2,g3,g4,g5,g6,g7⟩:=yu (S:=λk=>k==i||S k) a (gU last r) (i::D) (bQ e1 o.dst v) M aG hA aI hB Z ai;exact⟨e0,aM,_,i::es,g1,by rw[g2];exact aH,g3,g4,g5,X,g6,ac,g7⟩
theorem MH{bh:List (List Nat×Nat×List Nat)}(h:Inv Φ ops pr last K bh S env H)(a:∀i,i<ops.length→S i=true):K env H:=by
 obtain⟨e0,e1,D,es,hl,hm,m,hS,hf,n,o,b,c⟩:=h;cases bh with
 | nil=>
  have:env=e1:=by
   rw[hm];refine mH mG λt _=>?_;rw[iL hl];have:late ops S t=false:=by
    cases d:late ops S t with
    |false=>rfl
    | true=>obtain⟨j,f,hn⟩:=jY.1 d;rw[a j (tr f)]at hn;cases hn
   rw[this];rfl
  rw[this];exact c
 | cons p r=>
  obtain⟨q,e,st⟩:=p;simp only[fY,X1]at b;obtain⟨⟨h1,s⟩,u⟩:=b;simp only[lY,X1]at h1;obtain⟨⟨⟨⟨g,k⟩,v⟩,w⟩,x⟩:=h1;have l:e∉D:=by simpa using k
  exact absurd (hS e (a e (by simpa using g))) l
theorem MI(t:Good ops pr){bh:List (List Nat×Nat×List Nat)}(h:Inv Φ ops pr last K bh S env H) :
  (∀k,S k=true→∀j∈bV pr k,S j=true) ∧
  ∀p,fN ops pr p=true→S p=false→hK bh≠some p→∀i,i<ops.length→S i=false→p∈bV pr i→fN ops pr i=false→(∀k∈bV pr i,S k=true∨(fN ops pr k=true∧hK bh≠some k))→False:=by
 obtain⟨e0,e1,D,es,hl,hm,O,hS,hf,u,w,a,P⟩:=h;refine⟨u,λp hp x Q i hi R f y z=>?_⟩;have c:p∉D:=by intro c;obtain⟨o,v,A,B,_⟩:=hf p c x;obtain⟨t',T,g,C⟩:=mF hp;rw[A]at g;cases g;exact o0 C B
 have d:i∉D:=λd=>c (w i d p f);cases bh with
 | nil=>simp only[fY]at a;rw[YU]at a;exact absurd (by simpa using a i (aae.2 hi)) d
 | cons q r =>
  obtain⟨b,e,st⟩:=q;have U:=a;simp only[fY,X1]at a;obtain⟨⟨h1,E⟩,F⟩:=a;simp only[lY,X1]at h1;obtain⟨⟨⟨⟨V,G⟩,l⟩,W⟩,X⟩:=h1;have I:e∉D:=by simpa using G
  by_cases m:i=e
  · subst m;rw[YU]at l;exact c (by simpa using l p f)
  · have J : e∈bV pr i:=by
      by_cases n:i∈gU last r
      · have L:∀(b:List Nat)(D:List Nat),jf ops pr (e::es) D b=true→i∈b→e∈bV pr i:=by
          intro b;induction b with
          |nil=>intro D _ h;cases h
          | cons k b M=>
           intro D hc hk;simp only[jf,X1]at hc;obtain⟨⟨⟨⟨⟨_,_⟩,_⟩,s⟩,_⟩,N⟩:=hc;rcases aah.1 hk with rfl|hk
           · rw[YU]at s;simpa using s e aaj
           ·exact M _ N hk
        exact L _ _ E n
      ·exact Df t hi r (e::es) _ F (by simp[m,n,d]) y e aaj
    rcases z e J with h|⟨_,h⟩
    ·exact I (hS e h)
    ·exact h rfl
theorem yv{bh:List (List Nat×Nat×List Nat)}(h:Inv Φ ops pr last K bh S env H){e:Nat}(a:hK bh=some e) :
  S e=false∧e<ops.length∧∀k∈bV pr e,fN ops pr k=true→S k=true:=by
 obtain⟨e0,e1,D,es,hl,hm,t,hS,hf,u,w,c,x⟩:=h;cases bh with
 |nil=>cases a
 | cons q r=>
  obtain⟨y,b,st⟩:=q;simp only[hK,Yb.injEq]at a;subst a;simp only[fY,X1]at c;obtain⟨⟨h1,z⟩,A⟩:=c;simp only[lY,X1]at h1;obtain⟨⟨⟨⟨g,i⟩,d⟩,B⟩,C⟩:=h1;have j:b∉D:=by simpa using i
  refine⟨?_,by simpa using g,λk hk l=>?_⟩
  · cases hs:S b with
    |false=>rfl
    |true=>exact absurd (hS b hs) j
  · cases hs:S k with
    |true=>rfl
    | false=>
     rw[YU]at d;have m:k∈D:=by simpa using d k hk
     obtain⟨o,v,n,p,_⟩:=hf k m hs;obtain⟨t',E,f,s⟩:=mF l;rw[n]at f;cases f;exact(o0 s p).elim
end
end Rb
