/- A part of the proof (part 2): see the last text. -/
import Derived.Test.YtggbkidckoecfaaGreatDoorRb1
import Derived.Orders
import Derived.Carry
import Derived.OpenVars
import Derived.OpenShut
import Derived.ProofKit
import Derived.ChangeOld
import Derived.KernelRfl
set_option linter.unusedVariables false
set_option linter.unusedSimpArgs false
open Array renaming getElem?_eq_some_iff→W3, getElem?_setIfInBounds_ne→YS, range→Xm, replicate→Y0, size_setIfInBounds→YR
open Bool renaming and_eq_true→Wn, eq_false_iff→YV, eq_iff_iff→YG, or_eq_true→Wo, xor→Y_
open Go renaming sizeOf→Wm
open Go.Act renaming put→YO
open Go.Calls renaming mono→Yz
open Go.DataW renaming TrodAll→Y5
open Go.Edge renaming on→YN
open Go.Instr renaming alloc→Xn, loadAt→Xd, makeSlice→Xr, sureAddr→WG
open Go.IntKind renaming bits→Wv, i64→Xu, signed→Wu, wrap→Xv
open Go.Region renaming binds→YM, ready→YY, wanted→YP
open Go.Result renaming andThen_ok→X8
open Go.Sem renaming run_bind→X7, run_pure→Ye
open Go.World renaming block_lt_of_cell?→W2, cell?_of_block→W1
open Int renaming eq_ofNat_of_zero_le→Xt
open List renaming all_cons→Y6, all_eq_true→Xi, any_eq_true→YW, cons_append→Yi, countP_cons→YQ, getD_eq_getElem?_getD→XH, getElem?_append_left→XZ, getElem?_append_right→X0, getElem?_drop→Wk, getElem?_eq_getElem→Xc, getElem?_eq_none→YC, getElem?_eq_some_iff→Wh, getElem?_map→Xb, getElem?_replicate→Y3, getElem?_set_ne→Xf, getElem?_set_self→Xe, getElem?_set→WK, getElem?_take→Wj, length_map→YU, lookup_cons→Y4, mapM_cons→Y2, map_map→Zc, mem_cons_of_mem→YJ, mem_cons_self→YK, mem_cons→YI, mem_filter→YT, mem_map→YX, mem_of_getElem?→Y7, mem_range→YF, range→Xa, replicate→We, set_eq_of_length_le→YZ
open Nat renaming beq→Y8, ble→Zd, blt→Zb, eq_of_beq_eq_true→Zf, le_of_ble_eq_true→Ze, le_of_not_lt→YE, le_refl→hT, lt_succ_self→Y9, lt_trichotomy→Y1, zero_add→W7
open Option renaming map→Za, some→Wy
namespace Rb
open Go
variable{F:dk}{x:Nat×Nat}{Q:Exit→Act→World→Prop}{w0 R:World}{i b cap sz bytes:Nat}{op:ej}{az:List Nat}{v:I}{G0 G':b4}{al:List cf}{P:Program}{cs zero:List I}{ao:cf}{H':Z}
def kW(ops:Array Oper)(x:Option (Nat×Bool))(y:Option (Nat×Bool)):Bool:=
 match x,y with
 |none,none=>true
 |some (j,want),some (s,a)=>want==a&&((ops[j]?).bind (·.dst))==some s
 |_,_=>false
def iH(C:Ctx)(ops:Array Oper):List Oper→List cf→Bool
 |[],[]=>true
 |o::r,a::s=>o.dst==a.dst&&c7 C o.op a.op&&kW ops o.guard a.guard&&iH C ops r s
 |_,_=>false
def hI:List cf→List Nat
 |[]=>[]
 |o::r=>o.dst.toList++(match o.guard with|some (s,_)=>[s]|none=>[])++hI r
def eK:fO→List Nat
 | .region ops=>hI ops
 | .draw ops _ _ _=>hI ops
 | .seq a b=>eK a++eK b
 | .join _ _ a b=>eK a++eK b
 | .cond _ a b=>eK a++eK b
 | .block _ a=>eK a
 | .loop _ _ a=>eK a
 | .freeze t a=>t::eK a
 | .i2 _ _ ops b=>hI ops++eK b
 |_=>[]
def y1(ops:Array Oper)(pr:List (List Nat)):Bool:=(Xa ops.size).all λi=>match ops[i]? with
 | some o=>
  let es:=(o.after.toList.filter (YM .any)).map YN
  es.all (λj=>decide (j<i))&&(cn pr i).all λj=>es.contains j||es.any λk=>(cn pr k).contains j
 |none=>false
def s8(ks vs:List Nat)(az:List Nat):Bool:=az.all λt=>ks.contains t||vs.contains t
def qj(C:Ctx)(ops:Array Oper):List Oper→fO→Bool
 |l,.region al=>iH C ops l al
 |l,.i2 vs ks al b=>iH C ops (l.take al.length) al&&s8 ks vs (hI al)&&qj C ops (l.drop al.length) b
 |_,_=>false
def ed(C:Ctx):Code→fO→Bool
 | .skip,.skip=>true
 | .region _ ops false,.region al=>iH C ops ops.toList al
 | .region _ ops true,.draw al pr bX last=>iH C ops ops.toList al&&y1 ops pr&&yX al pr bX last&&C.P.follows .mixedOrders
 | .seq a b,.seq x y=>ed C a x&&ed C b y
 | .seq a b,.join vs ks x y=>ed C a x&&ed C b y&&s8 ks vs (eK x)
 | .cond c a b,.cond x p q=>cy C c x&&ed C a p&&ed C b q
 | .block id a,.block d x=>id==d&&ed C a x
 | .loop a,.loop vs ks x=>ed C a x&&s8 ks vs (eK x)
 | .exit id,.exit d=>id==d
 | .ret,.ret=>true
 | .region _ ops false,.i2 vs ks al b=>qj C ops ops.toList (.i2 vs ks al b)
 |c,.freeze t x=>ed C c x
 |_,_=>false
def ee(az:List Nat)(a b:Act):Prop:=b.tmps.size=a.tmps.size∧∀t,t∉az→b.tmps[t]?=a.tmps[t]?
theorem ee.refl(az:List Nat)(a:Act):ee az a a:=⟨rfl,λ_ _=>rfl⟩
theorem ee.trans{a b c:Act}(h:ee az a b)(k:ee az b c):ee az a c:=⟨k.1.trans h.1,λt ht=>(k.2 t ht).trans (h.2 t ht)⟩
theorem ee.mono{az bs:List Nat}{a b:Act}(h:ee az a b)(hs:∀t,t∈az→t∈bs):ee bs a b:=⟨h.1,λt ht=>h.2 t λc=>ht (hs t c)⟩
theorem ee.put(a:Act)(d:Option Tmp)(V:Value):ee d.toList a (a.put d V):=by
 cases d with
 |none=>exact ee.refl _ _
 | some d=>refine⟨by simp[YO],λt ht=>?_⟩;simp only[Option.toList_some,List.mem_singleton]at ht;simp only[YO];rw[Array.getElem?_setIfInBounds,ab (λe=>ht e.symm)]
section
variable{C:Ctx}{w:World}{G:b4}{H:Z}{env:Env}{a:Act}
theorem bo.cg(h:bo C.F w G env a.tmps)(d:Option Tmp){V:Value}(hv:VR C.F w G v V):bo C.F w G (Rb.cg env d v) (a.put d V).tmps:=by
 cases d with
 |none=>exact h
 |some d=>exact h.set d hv
theorem bo.same{Vs:Array Value}(h:bo F w G cs Vs){t:Nat}(hv:cs[t]?=some v):bo F w G (cs.set t v) Vs:=by
 refine⟨by simp[h.1],λj c V hc a=>?_⟩;by_cases b:t=j
 · subst b;rw[Xe (Wh.1 hv).1]at hc;cases hc;exact h.2 t v V hv a
 · rw[Xf b]at hc;exact h.2 j c V hc a
theorem Oper.DB{o:Oper}{g i:Act→World→Prop}(h:o.wp P a w g Q)(b:∀a w,g a w→i a w):o.wp P a w i Q:=by
 unfold Oper.wp at h ⊢;cases j:(execOp a.eval o).run P w with
 | halt k R=>rw[j]at h;cases k<;>first|exact h|exact h.elim
 | ok x R=>
  rw[j]at h;cases x with
  |value v=>exact b _ _ h
  |skip=>exact b _ _ h
  |defer d=>exact b _ _ h
  | enter f args=>
   refine Yz h λe l he=>?_;cases e with
   |returned v=>exact b _ _ he
   |panicked c=>exact he
   |outgrown=>exact he
  |row r args=>exact Rows.mono h λv l hv=>b _ _ hv
  |_=>exact h.elim
theorem put_defers(d:Option Tmp)(V:Value):(a.put d V).defers=a.defers:=by cases d<;>rfl
theorem MI{ops:Array Oper}{rest:List Oper}{o:Oper}(b:o.guard=none)(h:o.wp P a w (wpList P ops Q rest) Q):wpList P ops Q (o::rest) a w:=by unfold wpList;rw[aa (by simp[YP,b])];exact .inl h
theorem DC(U:kU C){ops:Array Oper}{Q:Exit→Act→World→Prop}{K:Env→Z→Prop}{w0:World}{G0:b4}{H0:Z}{a0:Act}{az:List Nat}{rest:List Oper} :
  ∀ (l:List Oper) (al:List cf) (env:Env) (H:Z) (G:b4) (w:World) (a:Act),iH C ops l al=true→iB (aj C) al env H K→eS C w G H→Rel C.F w G H→bo C.F w G env a.tmps→a.defers=[] →
   Step w0 G0 H0 w G H→ee az a0 a→(∀t,t∈hI al→t∈az) →
   (∀bm H' G' n R,K bm H'→eS C R G' H'→Rel C.F R G' H'→bo C.F R G' bm n.tmps→n.defers=[]→Step w0 G0 H0 R G' H'→ee az a0 n→wpList C.P ops Q rest n R) →
   wpList C.P ops Q (l++rest) a w:=by
 intro l;induction l with
 | nil=>
  intro al env H G w a p h i q he r u hk _ x;cases al with
  |nil=>exact x env H G a w h i q he r u hk
  |cons _ _=>simp[iH]at p
 | cons o l D=>
  intro al env H G w a p h i q he r u hk N x;cases al with
  |nil=>simp[iH]at p
  | cons ao al=>
   simp only[iH,Wn,b9]at p;obtain⟨⟨⟨z,W⟩,e⟩,E⟩:=p;have I:∀t,t∈hI al→t∈az:=λt ht=>N t (by simp[hI,ht]);have J:∀t,t∈o.dst.toList→t∈az:=λt ht=>N t (by rw[z]at ht;simp[hI];left;simpa using ht);have step:∀(A:Env)(Y:Act),Y=a→bo C.F w G A a.tmps→ct (aj C) A H (λv H'=>iB (aj C) al (cg A ao.dst v) H' K) ao.op→o.wp C.P a w (wpList C.P ops Q (l++rest)) Q:=by intro A Y _ O X;refine Oper.DB (Dq U W i q O X) λn R ac=>?_;obtain⟨v,H',G',V,rfl,S,hv,y,hs⟩:=ac;rw[←z]at S;exact D al _ H' G' R _ E S (i.step hs) y ((O.mono hs.toGLe).cg o.dst hv) (by rw[put_defers];exact r) (u.trans hs) (hk.trans ((ee.put a o.dst V).mono J)) I x
   cases k:o.guard with
   | none=>
    rw[k]at e;have f:ao.guard=none:=by
     cases f:ao.guard with
     |none=>rfl
     |some _=>rw[f]at e;simp[kW]at e
    simp only[iB,f]at h;exact MI k (step env a rfl he h)
   | some g=>
    obtain⟨j,want⟩:=g;rw[k]at e;cases f:ao.guard with
    |none=>rw[f]at e;simp[kW]at e
    | some g'=>
     obtain⟨s,ae⟩:=g';rw[f]at e;simp only[kW,Wn,b9]at e;obtain⟨rfl,hs⟩:=e;simp only[iB,f]at h;have get:∀c,env.getD s .bot=c→c ≠ .bot→env[s]?=some c:=by
      intro c d hc;rw[XH]at d;cases T:env[s]? with
      |none=>rw[T]at d;exact absurd d.symm hc
      |some c=>rw[T]at d;simp at d;rw[d]
     unfold aQ at h;split at h
     · rename_i b d;have m:=get _ d (by simp);obtain⟨V,L,y⟩:=he.get m;obtain rfl:=y.iC;have B:yielded ops a.tmps j=some b:=by simp[yielded,hs,L]
       by_cases M:b=want
       · subst M;rw[aa rfl]at h;rw[Yi];unfold wpList;rw[aa (by simp[YP,k,B])];exact .inl (step _ a rfl (he.same m) h)
       · rw[ab M]at h;have ad:b=!want:=by cases b<;>cases want<;>simp at M ⊢
         subst ad;rw[Yi];unfold wpList;rw[ab (by simp[YP,k,B])];rw[←z]at h;exact D al _ H G w _ E h i q ((he.same m).cg o.dst ot) (by rw[put_defers];exact r) u (hk.trans ((ee.put a o.dst undef).mono J)) I x
     · rename_i d;have m:=get _ d (by simp);obtain⟨V,L,y⟩:=he.get m;obtain rfl:=y.C2;have B:yielded ops a.tmps j=none:=by simp[yielded,hs,L]
       rw[Yi];unfold wpList;rw[ab (by simp[YP,k,B])];rw[←z]at h;exact D al _ H G w _ E h i q ((he.same m).cg o.dst ot) (by rw[put_defers];exact r) u (hk.trans ((ee.put a o.dst undef).mono J)) I x
     ·exact h.elim
theorem DD(c:kU C){ops:Array Oper}{Q:Exit→Act→World→Prop}{K:Env→Z→Prop}{w0:World}{G0:b4}{H0:Z}{a0:Act}{az:List Nat}
  (l:List Oper) (al:List cf) (env:Env) (H:Z) (G:b4) (w:World) (a:Act) (d:iH C ops l al=true) (h:iB (aj C) al env H K) (e:eS C w G H) (f:Rel C.F w G H) (he:bo C.F w G env a.tmps) (g:a.defers=[])
   (i:Step w0 G0 H0 w G H) (hk:ee az a0 a) (j:∀t,t∈hI al→t∈az)
   (k:∀bm H' G' b R,K bm H'→eS C R G' H'→Rel C.F R G' H'→bo C.F R G' bm b.tmps→b.defers=[]→Step w0 G0 H0 R G' H'→ee az a0 b→Q .normal b R) :
   wpList C.P ops Q l a w:=by
 have:=DC (rest:=[]) c l al env H G w a d h e f he g i hk j k;rwa [List.append_nil]at this
theorem MJ{ops:Array Oper}:∀{l:List Oper}{al:List cf},iH C ops l al=true→l.length=al.length∧∀(i:Nat)(o:Oper),l[i]?=some o→∃ao,al[i]?=some ao∧o.dst=ao.dst∧c7 C o.op ao.op=true∧kW ops o.guard ao.guard=true:=by
 intro l;induction l with
 |nil=>intro al h;cases al<;>simp[iH]at h ⊢
 | cons o l b=>
  intro al h;cases al with
  |nil=>simp[iH]at h
  | cons ao al=>
   simp only[iH,Wn,b9]at h;obtain⟨⟨⟨c,d⟩,e⟩,f⟩:=h;obtain⟨g,j⟩:=b f;refine⟨by simp[g],λi k a=>?_⟩;cases i with
   |zero=>simp at a;subst a;exact⟨ao,rfl,c,d,e⟩
   |succ i=>exact j i k (by simpa using a)
theorem DE:∀{al:List cf}{i:Nat},al[i]?=some ao→∀t,ao.dst=some t→t∈hI al:=by
 intro al;induction al with
 |nil=>intro i h;simp at h
 | cons x al a=>
  intro i h t ht;cases i with
  |zero=>simp at h;subst h;simp[hI,ht]
  |succ i=>simp only[hI,List.mem_append];exact .inr (a (by simpa using h) t ht)
theorem MK(A:kU C){ops:Array Oper}{Q:Exit→Act→World→Prop}{N:Act→World→Prop}{q:ad}{o:Oper}(B:ops[i]?=some o)(u:o.dst=ao.dst)(D:c7 C o.op ao.op=true)
  (d:kW ops o.guard ao.guard=true) (h:iF (aj C) ao env H q) (r:eS C w G H) (x:Rel C.F w G H) (he:bo C.F w G env a.tmps)
  (y:∀v V H' G' R,q v H'→eS C R G' H'→VR C.F R G' v V→Rel C.F R G' H'→Step w G H R G' H'→N (a.put ao.dst V) R):wpOp C.P ops Q i N a w:=by
 unfold wpOp;rw[B];dsimp only;have step:ct (aj C) env H q ao.op→o.wp C.P a w N Q:=by intro E;refine Oper.DB (Dq A D r x he E) λL R J=>?_;obtain⟨v,H',G',V,rfl,K,hv,f,hs⟩:=J;rw[u];exact y v V H' G' R K (r.step hs) hv f hs
 unfold iF at h;cases l:o.guard with
 | none=>
  rw[l]at d;have k:ao.guard=none:=by
   cases k:ao.guard with
   |none=>rfl
   |some _=>rw[k]at d;simp[kW]at d
  rw[k]at h;rw[aa (by simp[YP,l])];exact .inl (step h)
 | some g=>
  obtain⟨j,want⟩:=g;rw[l]at d;cases k:ao.guard with
  |none=>rw[k]at d;simp[kW]at d
  | some g'=>
   obtain⟨s,M⟩:=g';rw[k]at d;simp only[kW,Wn,b9]at d;obtain⟨rfl,hs⟩:=d;rw[k]at h;dsimp only at h;obtain⟨b,e,h⟩:=h;have get:∀c,env.getD s .bot=c→c ≠ .bot→env[s]?=some c:=by
    intro c e hc;rw[XH]at e;cases z:env[s]? with
    |none=>rw[z]at e;exact absurd e.symm hc
    |some c=>rw[z]at e;simp at e;rw[e]
   cases b with
   | true=>
    have m:=get _ (I.ys e) (by simp);obtain⟨V,n,f⟩:=he.get m;obtain rfl:=f.iC;have p:yielded ops a.tmps j=some want:=by simp[yielded,hs,n]
    rw[aa rfl]at h;rw[aa (by simp[YP,l,p])];exact .inl (step h)
   | false=>
    rw[iE]at h;have hw:YP o (yielded ops a.tmps)=false:=by
     rcases I.CW e with t|t
     · have m:=get _ t (by simp);obtain⟨V,n,f⟩:=he.get m;obtain rfl:=f.iC;have p:yielded ops a.tmps j=some (!want):=by simp[yielded,hs,n]
       simp[YP,l,p]
     · have m:=get _ t (by simp);obtain⟨V,n,f⟩:=he.get m;obtain rfl:=f.C2;have p:yielded ops a.tmps j=none:=by simp[yielded,hs,n]
       simp[YP,l,p]
    rw[ab (by simp[hw]),u];exact y _ _ H G w h r ot x (Step.refl _ _ _)
theorem ML{p a:Nat→Bool}:∀{l:List Nat},(∀x,a x=true→p x=true)→(∃x∈l,p x=true∧a x=false)→l.countP a<l.countP p:=by
 have le:∀{l:List Nat},(∀x,a x=true→p x=true)→l.countP a≤l.countP p:=λ{l} h=>List.countP_mono_left λx _=>h x;intro l;induction l with
 |nil=>rintro _ ⟨x,b,_⟩;cases b
 | cons y l f=>
  intro h ⟨x,b,d,e⟩;rw[YQ,YQ];rcases YI.1 b with rfl|b
  · rw[d,e];have:=le (l:=l) h;simp;omega
  · have:=f h ⟨x,b,d,e⟩;by_cases c:a y=true
    ·rw[c,h y c];omega
    · simp at c;rw[c];simp;omega
theorem Step.drawn{w:World}{G:b4}{H:Z}(n:Nat)(h:Rel F w G H):Rel F {w with drawn:=n} G H∧Step w G H {w with drawn:=n} G H:=by
 have a:GLe w G {w with drawn:=n} G:=⟨hT _,λ_ _=>rfl,λ_ _=>rfl,λ_ _ h=>h,λ_ _ _ _ h=>h⟩
 exact ⟨⟨h.n,h.over,λj=>(h.obj j).ca a (λhl=>h.h5 hl) (λ_=>rfl) λhl k hf=>hf,h.gk,h.gN⟩,
   {a with size:=hT _,os:=rfl,tape:=rfl,output:=rfl,ep:=λ_ _ _=>rfl,owned:=λi hi _=>⟨i,hi,rfl⟩,gC:=λ_ _ h=> .inl h}⟩
def eL(al:List cf)(Pd:List Nat)(env:Env):Env:=(Xa env.length).map λj=>if Pd.any (λp=>dx al p==some j)then .bot else env.getD j .bot
theorem jQ(al:List cf)(Pd:List Nat)(env:Env)(t:Nat):(eL al Pd env).getD t .bot=if Pd.any (λp=>dx al p==some t)then .bot else env.getD t .bot:=by
 unfold eL;by_cases ht:t<env.length
 ·simp[XH,ht]
 · have a:env.getD t .bot = .bot:=by simp[XH,YC (YE ht)]
   rw[a];simp[XH,ht]
def qk:ej→Nat×Nat→cN
 | .alloc _ zero,_=> .row zero
 | .make _ _ _ zero _ _,x=> .row (We x.2 zero).flatten
 |_,_=> .map []
def ql:ej→Nat×Nat→Nat→I
 | .alloc _ _,_,i=> .ptr i 0
 | .make _ sz _ _ _ _,x,i=> .row i 0 x.1 sz
 |_,_,i=> .map i
def nh:ej→Nat×Nat→Nat→Value
 | .alloc _ _,_,b=> .pointer (some ⟨b,0,none⟩)
 | .make _ _ _ _ _ _,x,b=> .slice (some ⟨b,0,none⟩) x.1 x.2
 |_,_,b=> .map (some b)
def mn(F:dk)(w:World)(G:b4):ej→Nat×Nat→Nat→Nat→Prop
 | .alloc _ zero,_,b,cap=>∃(a:Array Value) (e:TypeId),w.heap[b]?=some (.cells a e (0,0))∧a.size=cap∧bo F w G zero a
 | .make _ sz _ zero _ _,x,b,cap=>(∃(a:Array Value) (e:TypeId),w.heap[b]?=some (.cells a e (0,0))∧a.size=cap∧bo F w G (We x.2 zero).flatten a)∧x.1≤x.2∧x.2*sz=cap
 |_,_,b,_=>∃clock:Nat,w.heap[b]?=some (.map #[] clock)
theorem DF(a:kV op)(h:mn F w G op x b cap):b<w.heap.size:=by
 rcases a with⟨zero,rfl⟩|rfl|⟨_,_,_,_,_,rfl⟩
 ·obtain⟨_,_,h,_⟩:=h;exact(W3.1 h).1
 ·obtain⟨_,h⟩:=h;exact(W3.1 h).1
 ·obtain⟨⟨_,_,h,_⟩,_⟩:=h;exact(W3.1 h).1
theorem DG(k:kV op)(h:mn F w G op x b cap)(j:GLe w G R G')(a:R.heap[b]?=w.heap[b]?):mn F R G' op x b cap:=by
 rcases k with⟨zero,rfl⟩|rfl|⟨_,_,_,_,_,rfl⟩
 ·obtain⟨d,e,f,g,i⟩:=h;exact⟨d,e,a.trans f,g,i.mono j⟩
 ·obtain⟨c,h⟩:=h;exact⟨c,a.trans h⟩
 ·obtain⟨⟨d,e,f,g,i⟩,l⟩:=h;exact⟨⟨d,e,a.trans f,g,i.mono j⟩,l⟩
theorem MM(p:kV op)(h:mn F w G op x b cap)(o:GLe w G w G')(hl:G'.loc i=b)(hc:G'.cap i=cap)(hf:∀j,¬G'.fz b j):gB F w G' i (qk op x):=by
 rcases p with⟨zero,rfl⟩|rfl|⟨_,_,_,_,_,rfl⟩
 · obtain ⟨d,e,f,g,l⟩:=h;exact ⟨d,e,by rw[hl];exact f,by rw[hc];exact g,λj=>by rw[hl];exact hf j,λj c a=>by obtain⟨V,m,n⟩:=l.get a;exact⟨V,m,n.mono o⟩⟩
 · obtain⟨c,h⟩:=h;exact⟨#[],c,by rw[hl];exact h,rfl,λj=>by rw[hl];exact hf j,λj k v a=>by simp at a⟩
 · obtain ⟨⟨d,e,f,g,l⟩,_⟩:=h;exact ⟨d,e,by rw[hl];exact f,by rw[hc];exact g,λj=>by rw[hl];exact hf j,λj c a=>by obtain⟨V,m,n⟩:=l.get a;exact⟨V,m,n.mono o⟩⟩
theorem MN(a:kV op)(h:mn F w0 G0 op x b cap)(hi:i<G.n)(hl:G.loc i=b)(hc:G.cap i=cap):VR F w G (ql op x i) (nh op x b):=by
 subst hl hc;rcases a with⟨zero,rfl⟩|rfl|⟨_,_,_,_,_,rfl⟩
 ·exact .ptr i 0 hi
 ·exact .map i hi
 · obtain⟨_,c,d⟩:=h;exact .row _ _ _ _ _ hi c (by rw[W7];exact d)
theorem MO{Φ:ae}{env:Env}{K:ad}(b:kV op)(c:i7 env op=some x)(h:ct Φ env H K op):K (ql op x H.n) (H.push (qk op x)):=by
 rcases b with⟨zero,rfl⟩|rfl|⟨_,_,_,_,_,rfl⟩
 · simp only[ct,aJ,aR,aY,Wy.injEq,Prod.mk.injEq]at h;obtain⟨v,H',⟨rfl,rfl⟩,h⟩:=h;exact h
 ·exact h
 · obtain⟨y,a,h⟩:=Dy h;rw[c]at a;cases a;exact h
theorem MP{F:dk}{t e:TypeId}{a:TypeInfo}{z:Value}(ht:P.underlying t=some (.slice e))(hi:P.info? e=some a)(hs:a.size=sz)(h:a.bytes=bytes)(j:a.zero=some z)
  {n' c':Nat} (l:n'≤c') (m:(bytes:Int)*(c':Int)≤281474976710656) (n:(c':Int)≤9223372036854775807) (k:zero.length=sz) :
  (Xr t (.int .i64 n') (.int .i64 c')).run P w = .ok (.slice (some ⟨w.heap.size,0,none⟩) n' c') (w.alloc (.cells ((Xm (c'*zero.length)).map λi=>z.cells[i%z.cells.size]!) e)):=by
 have w1:Xu.wrap (n':Int)=n':=by simp[Xv,Wv,Wu];omega
 have w2:Xu.wrap (c':Int)=c':=by simp[Xv,Wv,Wu];omega
 have b:¬(281474976710656<(a.bytes:Int)*(c':Int)):=by rw[h];omega
 have c:¬((n':Int)<0):=by omega
 have d:¬((c':Int)<0):=by omega
 have f:¬(c'<n'):=by omega
 rw[k];subst hs;by_cases g:c'*a.size=0
 ·simp[Xr,run_underlying ht,asInt,asIntOf,typeInfo,Wm,hi,w1,w2,b,c,d,f,g,range_zero,newRow]
 ·simp[Xr,run_underlying ht,asInt,asIntOf,typeInfo,Wm,zeroValue,hi,j,w1,w2,b,c,d,f,g,newRow]
theorem MQ{o:Oper}{l c:bK}(j:jr C w G)(k:bo C.F w G env a.tmps)(d:c7 C o.op (.make true sz bytes zero l c)=true)(b:i7 env (.make true sz bytes zero l c)=some x) :
  ∃(p:Obj) (cap:Nat),(execOp a.eval o).run C.P w = .ok (.value (nh (.make true sz bytes zero l c) x w.heap.size)) (w.alloc p)∧∀(w2:World)(f:b4),GLe w G w2 f→w2.heap[w.heap.size]?=some p→mn C.F w2 f (.make true sz bytes zero l c) x w.heap.size cap:=by
 simp only[c7]at d;split at d
 · rename_i t ol T v;simp only[Wn]at d;obtain⟨⟨y,A⟩,g⟩:=d;split at g
   · rename_i e B;obtain⟨inf,z,D,hs,h,E,U,H⟩:=yT (F:=C.F) g;have I:=kT (C:=C) (w:=w) (G:=G) H;have J:bo C.F w G zero z.cells:=by simpa using I
     have q:=cA j k y;have r:=cA j k A;simp only[i7]at b;split at b
     · rename_i n m e1 K;split at b
       · rename_i hc;obtain⟨s,L,M,N,u⟩:=hc;cases b;rw[e1]at q;rw[K]at r;have O:=q.fC;have Q:=r.fC;obtain⟨n',rfl⟩:=Xt s;obtain⟨c',rfl⟩:=Xt (Int.le_trans s L);have R:=MP (P:=C.P) (w:=w) (F:=C.F) (ly B) D hs h E (n':=n') (c':=c') (by omega) M N u;refine⟨.cells ((Xm (c'*zero.length)).map λi=>z.cells[i%z.cells.size]!) e,c'*sz,?_,λw2 f S h=>⟨⟨_,_,h,?_,?_⟩,by simp;omega,by simp⟩⟩
         · simp only[execOp,v,O,Q];simp[R,nh]
         ·simp[u]
         · simp only[Int.toNat_natCast];exact(oe J c').mono S
       ·cases b
     ·cases b
   ·cases g
 ·cases d
def s9(C:Ctx)(al:List cf)(w0 w:World)(G:b4)(H:Z)(a:Act)(i b:Nat)(x:Nat×Nat):Prop:=
 ∃ (t:Nat) (op:ej) (cap:Nat),al[i]?=some ⟨some t,op,none⟩∧kV op∧(t<a.tmps.size→a.tmps[t]?=some (nh op x b))∧mn C.F w G op x b cap ∧
  w0.heap.size≤b∧(∀k,(H.o k).live=true→G.loc k≠b)∧∀j,¬G.fz b j
theorem s9.step(h:s9 C al w0 w G H a i b x)(hs:Step w G H R G' H')(d:Option Tmp)(V:Value)(p:∀t,dx al i=some t→d≠some t):s9 C al w0 R G' H' (a.put d V) i b x:=by
 obtain⟨t,op,cap,l,c,m,n,q,f,r⟩:=h;have o:b<w.heap.size:=DF c n;refine⟨t,op,cap,l,c,λht=>?_,DG c n hs.toGLe (hs.ep b o f),q,λk hk e=>?_,λj hf=>?_⟩
 · cases g:d with
   |none=>rw[g]at ht;exact m ht
   | some s=>rw[g]at ht;have u:s≠t:=λe=>p t (by simp[dx,l]) (by rw[g,e]);simp only[YO]at ht ⊢;rw[YR]at ht;rw[YS u];exact m ht
 · obtain⟨j,v,y⟩:=hs.owned k hk (by rw[e];exact o);exact f j v (y.trans e)
 · rcases hs.gC b j hf with hf|z|⟨k,hk,e⟩
   ·exact r j hf
   ·omega
   ·exact f k hk e
structure Way(C:Ctx)(al:List cf)(pr:List (List Nat))(last:List Nat)(K:Env→Z→Prop)(w0:World)(G0:b4)(H0:Z)(a0:Act)
  (bX:List (List Nat×Nat×List Nat)) (S:Nat→Bool) (Pd:List Nat) (bl:Nat→Nat) (ag:Nat→Nat×Nat) (env:Env) (H:Z) (G:b4) (a:Act) (w:World):Prop where
 inv:Inv (aj C) al pr last K bX S env H
 sep:∀p∈Pd,S p=false∧ga al pr p=true∧∀k∈cn pr p,S k=true∨k∈Pd
 qm:∀p∈Pd,s9 C al w0 w G H a p (bl p) (ag p)
 args:∀p∈Pd,∀t op,al[p]?=some ⟨some t,op,none⟩→i7 env op=some (ag p)
 inj:∀p∈Pd,∀q∈Pd,bl p=bl q→p=q
 ni:eS C w G H
 rel:Rel C.F w G H
 oB:bo C.F w G (eL al Pd env) a.tmps
 defers:a.defers=[]
 step:Step w0 G0 H0 w G H
 ca:ee (hI al) a0 a
theorem DH{pr:List (List Nat)}(j:Good al pr){q i t':Nat}{a:ej}{o:cf}{v:I}(b:al[q]?=some ⟨some t',a,none⟩)(c:ga al pr q=true)(k:al[i]?=some o)
  (hi:i∉cn pr q∨ga al pr i=true) (l:i≠q) (m:q∉cn pr i):i7 (cg env o.dst v) a=i7 env a:=by
 apply s7;intro s hs;cases n:o.dst with
 |none=>rfl
 | some d =>
  simp only[cg];by_cases e:d=s
  · subst e;exfalso;have p:dx al i=some d:=by simp[dx,k,n]
    rcases j.reads q _ d i b (by simp[hd,hs]) p with h|⟨_,h⟩
    · rcases hi with hi|hi
      ·exact hi h
      · obtain ⟨t2,x,r,t⟩:=mj hi;obtain⟨t3,y,f,u⟩:=mj c;rw[b]at f;cases f;rcases u with⟨zero,rfl⟩|rfl|⟨_,_,_,_,_,rfl⟩
        ·simp[cm]at hs
        ·simp[cm]at hs
        · obtain⟨z,g,w⟩:=Du c b i h;rw[r]at g;cases g;exact oy t w
    · rcases h with h|h
      ·exact l h
      ·exact m h
  ·rw[XH,Xf e,XH]
theorem Way.settle{pr:List (List Nat)}{D:List Nat}{K:Env→Z→Prop}{w0:World}{G0:b4}{H0:Z}{a0:Act}(E:Good al pr){bl:Nat→Nat}{ag:Nat→Nat×Nat} :
  ∀ (n:Nat) (bX:List (List Nat×Nat×List Nat)) (S:Nat→Bool) (Pd:List Nat) (env:Env) (H:Z) (G:b4),bX.length=n→Way C al pr D K w0 G0 H0 a0 bX S Pd bl ag env H G a w →
   ∃y S' s bm H' G',Way C al pr D K w0 G0 H0 a0 y S' s bl ag bm H' G' a w∧(∀k,(S' k=true∨k∈s)↔(S k=true∨k∈Pd))∧∀p∈s,gG y≠some p:=by
 intro n;induction n with
 | zero=>intro bX S Pd env H G F hw;have:bX=[]:=List.length_eq_zero_iff.1 F;subst this;exact⟨[],S,Pd,env,H,G,hw,λk=>Iff.rfl,λp f h=>by cases h⟩
 | succ n ah =>
  intro bX S Pd env H G F hw;by_cases Q:∃p∈Pd,gG bX=some p
  · obtain ⟨p, f,I⟩:=Q;obtain⟨ai,aj,ak⟩:=hw.sep p f;obtain⟨_,aJ,am⟩:=y0 hw.inv I;have R:∀k∈cn pr p,S k=true:=by
     intro k hk;rcases ak k hk with h|h
     ·exact h
     ·exact am k hk (hw.sep k h).2.1
    obtain⟨t,op,cap,z,J,an,T,aK,ao,U⟩:=hw.qm p f;have L:=DA (s4 C) E hw.inv z ai R (.inr I);rw[aa I]at L;simp only[jm]at L;have hinv:=MO J (hw.args p f t op z) L;have A:=hw.rel.n;obtain⟨m,ap⟩:=hw.rel.yE (b:=bl p) (c:=cap) ao (qk op (ag p)) (λm=>MM J T m (aa A.symm) (aa A.symm) U);have W:∀i,i≠H.n→(G.more (bl p) cap).loc i=G.loc i:=λi hi=>ab (show ¬i=G.n by omega);have M:(G.more (bl p) cap).loc H.n=bl p:=aa A.symm;have X:∀i,i≠H.n→(H.push (qk op (ag p))).o i=H.o i:=λi hi=>ab hi;have Y:dx al p=some t:=by simp[dx,z]
    have hlen:(eL al Pd env).length=env.length:=by simp[eL]
    have aq : Way C al pr D K w0 G0 H0 a0 bX.tail (λk=>k==p||S k) (Pd.filter (λq=>!(q==p))) bl ag (cg env (some t) (ql op (ag p) H.n)) (H.push (qk op (ag p))) (G.more (bl p) cap) a w:=by
     refine⟨hinv,λq d=>?_,λq d=>?_,λq d t' N ac=>?_,λq d ar au h=>?_,hw.ni.yE m hw.rel.n U,ap,?_,hw.defers,?_,hw.ca⟩
     · obtain ⟨d,u⟩:=YT.1 d;have v:q≠p:=by simpa using u
       obtain⟨g1,g2,g3⟩:=hw.sep q d;refine⟨by simp[v,g1],g2,λk hk=>?_⟩;rcases g3 k hk with h|h
       ·left;simp[h]
       · by_cases x:k=p
         ·left;simp[x]
         ·right;exact YT.2 ⟨h,by simp[x]⟩
     · obtain ⟨d,u⟩:=YT.1 d;have v:q≠p:=by simpa using u
       obtain⟨t',N,av,aw,ad,ax,ay,az,aA,aB⟩:=hw.qm q d;refine⟨t',N,av,aw,ad,ax,DG ad ay m rfl,az,λk hk e=>?_,λj hf=>aB j hf⟩;by_cases g:k=H.n
       · subst g;rw[M]at e;exact v (hw.inj q d p f e.symm)
       · rw[W k g]at e;rw[X k g]at hk;exact aA k hk e
     · obtain ⟨d,u⟩:=YT.1 d;have v:q≠p:=by simpa using u
       rw[←hw.args q d t' N ac];exact DH E ac (hw.sep q d).2.1 z (.inr aj) (λe=>v e.symm) λh=>by have:=R q h;rw[(hw.sep q d).1]at this;cases this
     ·exact hw.inj q (YT.1 d).1 ar (YT.1 au).1 h
     · have hv :=hw.oB.mono m;refine⟨by simp only[eL,cg,YU,List.length_range,List.length_set];rw[←hv.1,hlen],λj c V hc B=>?_⟩;have ae:j<env.length:=by
        have:=(Wh.1 hc).1;simpa[eL,cg]using this
       have r:c=(eL al (Pd.filter (λq=>!(q==p))) (cg env (some t) (ql op (ag p) H.n))).getD j .bot:=by rw[XH,hc];rfl
       rw[jQ]at r;by_cases O:j=t
       · subst O;have aC:(Pd.filter (λq=>!(q==p))).any (λq=>dx al q==some j)=false:=by
          rw[YV];intro af;rw[YW]at af;obtain⟨q,d,l⟩:=af;have aD:dx al q=some j:=by simpa using l
          have:=E.uniq q p j aD Y;subst this;simp at d
         rw[aC]at r;simp only[Bool.false_eq_true,cu,cg,XH,Xe ae,Option.getD_some]at r;subst r;have aE:j<a.tmps.size:=(W3.1 B).1;rw[an aE]at B;cases B;exact MN J T (show H.n<G.n+1 by omega) M (aa A.symm)
       · have hold:(eL al Pd env).getD j .bot=if(Pd.filter (λq=>!(q==p))).any (λq=>dx al q==some j)then .bot else env.getD j .bot:=by
           rw[jQ];have : Pd.any (λq=>dx al q==some j)=(Pd.filter (λq=>!(q==p))).any (λq=>dx al q==some j):=by
            rw[YG,YW,YW];constructor
            · rintro⟨q,d,l⟩;refine⟨q,YT.2 ⟨d,?_⟩,l⟩;have:q≠p:=by
               rintro rfl;rw[Y]at l;exact O (by simpa using l:t=j).symm
              simp[this]
            · rintro⟨q,d,l⟩;exact⟨q,(YT.1 d).1,l⟩
           rw[this]
         have aF:(cg env (some t) (ql op (ag p) H.n)).getD j .bot=env.getD j .bot:=by simp only[cg];rw[XH,Xf (λe=>O e.symm),XH]
         rw[aF,←hold]at r;have aG:j<(eL al Pd env).length:=by rw[hlen];exact ae
         refine hv.2 j c V ?_ B;rw[r,XH,Xc aG];rfl
     · have hs:=hw.step;refine {hs.toGLe.trans m with size:=hs.size,os:=hs.os,tape:=hs.tape,output:=hs.output,ep:=hs.ep,owned:=λk hk P=>?_,gC:=λb o hf=>hs.gC b o hf};by_cases g:k=H.n
       · subst g;rw[M]at P;omega
       · rw[W k g]at P ⊢;rw[X k g]at hk;exact hs.owned k hk P
    obtain⟨y,S',s,bm,H',G',r1,aH,aI⟩:=ah bX.tail _ _ _ _ _ (by simp[F]) aq;refine⟨y,S',s,bm,H',G',r1,λk=>(aH k).trans ?_,aI⟩;simp only[Wo,b9,YT,Bool.not_eq_true',beq_eq_false_iff_ne];constructor
    · rintro((rfl|h)|⟨h,_⟩)
      ·exact .inr f
      ·exact .inl h
      ·exact .inr h
    · rintro (h|h)
      ·exact .inl (.inr h)
      · by_cases x:k=p
        ·exact .inl (.inl x)
        ·exact .inr ⟨h,x⟩
  ·exact⟨bX,S,Pd,env,H,G,hw,λk=>Iff.rfl,λp f h=>Q ⟨p,f,h⟩⟩
theorem MR(bk:kU C){ops:Array Oper}{Q:Exit→Act→World→Prop}{K:Env→Z→Prop}{al:List cf}{pr:List (List Nat)}{bX:List (List Nat×Nat×List Nat)}{aw:List Nat}{cb:Nat}
  (bn:iH C ops ops.toList al=true) (aF:y1 ops pr=true) (a2:yX al pr bX aw=true) (hm:C.P.follows .mixedOrders=true)
  (h:jn (aj C) al aw bX env H K) (bp:eS C w G H) (bq:Rel C.F w G H) (he:bo C.F w G env a.tmps) (br:a.defers=[])
  (bs:∀bm H' G' f R,K bm H'→eS C R G' H'→Rel C.F R G' H'→bo C.F R G' bm f.tmps→f.defers=[]→Step w G H R G' H'→ee (hI al) a f→Q .normal f R) :
  (Code.region cb ops true).wp C.P Q a w:=by
 obtain⟨hlen,bt⟩:=MJ bn;have b_:ops.size=al.length:=by simpa using hlen
 simp only[yX,Wn]at a2;obtain⟨⟨bu,W⟩,hc⟩:=a2;have u:=MC bu;have a3:∀(i:Nat)(o:Oper),ops[i]?=some o→(∀e∈o.after,YM .any e=true→e.on<i)∧∀j∈cn pr i,∃e∈o.after,YM .any e=true∧(e.on=j∨j∈cn pr e.on):=by
  intro i o E;have hi:i<ops.size:=(W3.1 E).1;unfold y1 at aF;rw[Xi]at aF;have:=aF i (YF.2 hi);rw[E]at this;simp only[Wn]at this;obtain⟨m,A⟩:=this;rw[Xi]at m A;refine⟨λe I W=>?_,λj ax=>?_⟩
  · have:=m e.on (YX.2 ⟨e,YT.2 ⟨by simpa using I,W⟩,rfl⟩);simpa using this
  · have:=A j ax;rw[Wo,YW]at this;rcases this with h|⟨k,hk,h⟩
    · have ay:j∈(o.after.toList.filter (YM .any)).map YN:=by simpa[List.contains_iff_mem]using h
      obtain⟨e,I,rfl⟩:=YX.1 ay;obtain⟨I,X⟩:=YT.1 I;exact⟨e,by simpa using I,X,.inl rfl⟩
    · obtain⟨e,I,rfl⟩:=YX.1 hk;obtain⟨I,X⟩:=YT.1 I;exact⟨e,by simpa using I,X,.inr (by simpa using h)⟩
 refine wp_region_any hm ?_;have main : ∀ (fuel:Nat) (listed:Array Bool) (bX:List (List Nat×Nat×List Nat)) (S:Nat→Bool) (Pd:List Nat) (bl:Nat→Nat) (ag:Nat→Nat×Nat) (bm:Env) (H':Z) (G':b4) (f:Act) (R:World),
   Way C al pr aw K w G H a bX S Pd bl ag bm H' G' f R→(∀k,listed.getD k false=true↔S k=true∨k∈Pd)→listed.size=ops.size →
   (Xa ops.size).countP (λk=>!listed.getD k false)≤fuel→wpAny C.P .any ops Q fuel listed f R:=by
  have done:∀(listed:Array Bool),listed.size=ops.size→YY .any ops listed=[]→∀i,i<ops.size→listed.getD i false=true:=by
   intro listed am Y i;induction i using Nat.strongRecOn with
   | _ i az=>
    intro hi;cases d:listed.getD i false with
    |true=>rfl
    | false=>
     exfalso;have ay:i∈YY .any ops listed:=by
      rw[mem_ready];have an:i<listed.size:=by omega
      refine⟨?_,ops[i],by simp[hi],λe I X=>?_⟩
      ·simpa[an]using d
      · have:=(a3 i ops[i] (by simp[hi])).1 e I X;exact az e.on this (by omega)
     rw[Y]at ay;cases ay
  have fin:∀(listed:Array Bool)(bX:List (List Nat×Nat×List Nat)) (S:Nat→Bool) (Pd:List Nat) (bl:Nat→Nat) (ag:Nat→Nat×Nat) (bm:Env) (H':Z) (G':b4) (f:Act) (R:World),
    Way C al pr aw K w G H a bX S Pd bl ag bm H' G' f R→(∀k,listed.getD k false=true↔S k=true∨k∈Pd)→(∀i,i<ops.size→listed.getD i false=true)→Q .normal f R:=by
   intro listed bX S Pd bl ag bm H' G' f R hw B ac;obtain⟨a4,S',aG,aH,aI,U,r1,aA,bv⟩:=hw.settle u _ _ _ _ _ _ _ rfl;have aJ:aG=[]:=by
    cases aJ:aG with
    |nil=>rfl
    | cons p r=>
     exfalso;have b:p∈aG:=by rw[aJ];exact YK
     cases d:gG a4 with
     | none=>
      obtain⟨e0,e1,D,es,hl,hm,cc,cd,hf,a5,ce,aK,ch⟩:=r1.inv;cases a4 with
      |cons q r=>cases d
      | nil=>
       simp only[gm]at aK;rw[Xi]at aK;obtain⟨g1,g2,_⟩:=r1.sep p b;obtain⟨t,op,ap,ae⟩:=mj g2;have bw:p<al.length:=(Wh.1 ap).1;have bx:p∈D:=by simpa using aK p (YF.2 bw)
       obtain⟨o,v,E,n,_⟩:=hf p bx g1;rw[ap]at E;cases E;exact oy ae n
     | some e=>
      obtain⟨g1,g2,_⟩:=y0 r1.inv d;have:=ac e (by omega);rcases(aA e).2 ((B e).1 this)with h|h
      ·rw[g1]at h;cases h
      ·exact bv e h d
   subst aJ;have bz:∀i,i<al.length→S' i=true:=by
    intro i hi;rcases(aA i).2 ((B i).1 (ac i (by omega)))with h|h
    ·exact h
    ·cases h
   have aL:eL al [] aH=aH:=by apply mm (by simp[eL]);intro t _;rw[jQ];rfl
   have hv:=r1.oB;rw[aL]at hv;exact bs aH aI U f R (MG r1.inv bz) r1.ni r1.rel hv r1.defers r1.step r1.ca
  intro fuel;induction fuel with
  | zero=>
   intro listed bX S Pd bl ag bm H' G' f R hw B am aM;have ac:∀i,i<ops.size→listed.getD i false=true:=by intro i hi;have O:=Nat.le_zero.1 aM;rw[List.countP_eq_zero]at O;simpa using O i (YF.2 hi)
   have aN:YY .any ops listed=[]:=by
    apply List.eq_nil_iff_forall_not_mem.2;intro i hi;obtain⟨O,o,E,_⟩:=mem_ready.1 hi;have an:i<ops.size:=(W3.1 E).1;have:=ac i an;have af:i<listed.size:=by omega
    simp[af]at O this;rw[O]at this;cases this
   exact⟨aN,fin listed bX S Pd bl ag bm H' G' f R hw B ac⟩
  | succ fuel az=>
   intro listed bA bB bC bl ag bD bE bF f R a6 a7 am aM;refine⟨λaN=>fin listed bA bB bC bl ag bD bE bF f R a6 a7 λi hi=>done listed am aN i hi,λi hi=>?_⟩;obtain⟨bX,S,Pd,bm,H',G',hw,aA,a8⟩:=a6.settle u _ _ _ _ _ _ _ rfl;have B:∀k,listed.getD k false=true↔S k=true∨k∈Pd:=λk=>(a7 k).trans (aA k).symm;obtain⟨O,o,E,ac⟩:=mem_ready.1 hi;have an:i<ops.size:=(W3.1 E).1;have af:i<listed.size:=by omega
   have aO:listed.getD i false=false:=by simpa[af]using O
   have ad:S i=false:=by
    cases d:S i with
    |false=>rfl
    |true=>have:=(B i).2 (.inl d);rw[aO]at this;cases this
   have L:i∉Pd:=λd=>by have:=(B i).2 (.inr d);rw[aO]at this;cases this
   obtain⟨ao,J,a9,n,aP⟩:=bt i o (by simpa using E);have aq:dx al i=ao.dst:=by simp[dx,J]
   obtain⟨a5,bG⟩:=MH u hw.inv;have bH:∀k,listed.getD k false=true→∀j∈cn pr k,listed.getD j false=true:=by
    intro k hk j ax;rw[B]at hk ⊢;rcases hk with hk|hk
    ·exact .inl (a5 k hk j ax)
    ·exact(hw.sep k hk).2.2 j ax
   have aB:∀k∈cn pr i,listed.getD k false=true:=by
    intro k hk;obtain⟨e,I,X,aQ⟩:=(a3 i o E).2 k hk;have:=ac e I X;rcases aQ with rfl|aQ
    ·exact this
    ·exact bH e.on this k aQ
   have a_:∀k,(listed.setIfInBounds i true).getD k false=true↔k=i∨listed.getD k false=true:=by
    intro k;by_cases aR:k=i
    ·subst aR;simp[af]
    ·rw[getD_set_ne false (λe=>aR e.symm)];simp[aR]
   have ba:(Xa ops.size).countP (λk=>!(listed.setIfInBounds i true).getD k false)≤fuel:=by
    refine Nat.lt_succ_iff.1 (Nat.lt_of_lt_of_le (ML (λx d=>?_) ⟨i,YF.2 an,by rw[aO];rfl,by simp[af]⟩) aM);by_cases bb:x=i
    ·subst bb;simp[af]at d
    ·rw[getD_set_ne false (λe=>bb e.symm)]at d;exact d
   by_cases bc:ga al pr i=true∧gG bX≠some i
   ·
     obtain⟨N,ci⟩:=bc;obtain⟨t,op,ap,ae⟩:=mj N;rw[J]at ap;cases ap;unfold wpOp;rw[E];dsimp only;have aS:o.guard=none:=by
      cases aS:o.guard with
      |none=>rfl
      |some _=>rw[aS]at aP;simp[kW]at aP
     rw[aa (by simp[YP,aS])];refine .inl ?_;have ah:(∃sz bytes zero l c,op = .make true sz bytes zero l c)→∀k∈cn pr i,S k=true:=by
      rintro⟨sz,bytes,zero,l,c,rfl⟩ k hk;rcases(B k).1 (aB k hk)with h|h
      ·exact h
      · obtain⟨cj,bd,bI⟩:=Du N J k hk;obtain⟨t2,ck,bJ,bK⟩:=mj (hw.sep k h).2.1;rw[bJ]at bd;cases bd;exact(oy bK bI).elim
     obtain⟨x,be⟩:=MF (yP C) u hw.inv J ae ad ah;have d:i7 (eL al Pd bm) op=some x:=by
      rw[←be];apply s7;intro s hs;rw[jQ];have : Pd.any (λp=>dx al p==some s)=false:=by
       rw[YV];intro bf;rw[YW]at bf;obtain⟨p,b,ar⟩:=bf;have au:dx al p=some s:=by simpa using ar
       obtain⟨g1,g2,g3⟩:=hw.sep p b;have bL:∃sz bytes zero l c,op = .make true sz bytes zero l c:=by
        rcases ae with⟨zero,rfl⟩|rfl|h
        ·simp[cm]at hs
        ·simp[cm]at hs
        ·exact h
       rcases u.reads i _ s p J (by simp[hd,hs]) au with h|⟨_,h⟩
       ·have:=ah bL p h;rw[g1]at this;cases this
       · rcases h with rfl|h
         ·exact L b
         · rcases g3 i h with g|g
           ·rw[ad]at g;cases g
           ·exact L g
      rw[this];rfl
     have bM:=hw.oB;obtain ⟨aC,cap,bN,bO⟩:∃(aC:Obj) (cap:Nat),(execOp f.eval o).run C.P R = .ok (.value (nh op x R.heap.size)) (R.alloc aC)∧∀(w2:World)(U:b4),GLe R G' w2 U→w2.heap[R.heap.size]?=some aC→mn C.F w2 U op x R.heap.size cap:=by
      rcases ae with⟨zero,rfl⟩|rfl|⟨sz,bytes,zero,ol,cl,rfl⟩
      · simp only [c7]at n;split at n
        · rename_i ty aT;split at n
          · rename_i inf bP;split at n
            · rename_i z bQ;have bR:=kT (C:=C) (w:=R) (G:=G') n;have bS:bo C.F R G' zero z.cells:=by simpa using bR
              refine⟨.cells z.cells ty,z.cells.size,?_,λw2 U u W=>⟨_,_,W,rfl,bS.mono u⟩⟩;have Y:(Xn ty true (.tuple #[])).run C.P R = .ok (.pointer (some ⟨R.heap.size,0,none⟩)) (R.alloc (.cells z.cells ty)):=by simp[Xn,zeroValue,typeInfo,bP,bQ,newVar,newRow]
              simp[execOp,aT,Y,nh]
            ·cases n
          ·cases n
        ·cases n
      · simp only[c7]at n;split at n
        · rename_i ty r aT;have Y:r=none:=by simpa using n
          subst Y;refine⟨.map #[] 0,0,?_,λw2 U u W=>⟨_,W⟩⟩;have Y:(Instr.makeMap ty none).run C.P R = .ok (.map (some R.heap.size)) (R.alloc (.map #[] 0)):=rfl;simp[execOp,aT,Y,nh]
        ·cases n
      ·exact MQ hw.ni.1 bM n d
     refine sX bN ?_;have b:=du.alloc R aC;obtain⟨bT,T⟩:=hw.rel.LP b;have bU:o.dst=some t:=a9;rw[bU];refine az _ bX S (i::Pd) (λk=>if k=i then R.heap.size else bl k) (λk=>if k=i then x else ag k) bm H' G' _ _ ⟨hw.inv,λp y=>?_,λp y=>?_,λp y t' aU ai=>?_,λp y q bV aD=>?_,hw.ni.step T,bT,?_,by rw[put_defers];exact hw.defers,hw.step.trans T,hw.ca.trans ((ee.put f (some t) _).mono λs hs=>DE J s (by simpa[eq_comm]using hs))⟩ ?_ (by simp[am]) ba
     · rcases YI.1 y with rfl|y
       · exact ⟨ad,N,λk hk=>by
           rcases(B k).1 (aB k hk)with h|h
           ·exact .inl h
           ·exact .inr (YJ _ h)⟩
       · obtain⟨g1,g2,g3⟩:=hw.sep p y;exact⟨g1,g2,λk hk=>(g3 k hk).imp id λh=>YJ _ h⟩
     · rcases YI.1 y with rfl|y
       · rw [aa rfl,aa rfl];refine⟨t,op,cap,J,ae,λht=>?_,bO _ _ T.toGLe b.new,hw.step.size,λk hk=>Nat.ne_of_lt ((hw.rel.obj k).lt hk),λj hf=>?_⟩
         · simp only[YO]at ht ⊢;rw[YR]at ht;simp[ht]
         · obtain⟨V,av⟩:=hw.rel.gN _ _ hf;have:=W2 R _ av;simp at this
       · have M:p≠i:=λe=>L (e▸y);rw[ab M,ab M];refine(hw.qm p y).step T (some t) _ λs hs e=>?_;have bW:t=s:=Wy.inj e;subst bW;exact M (u.uniq p i t hs (by rw[aq]))
     · rcases YI.1 y with rfl|y
       · rw[aa rfl];rw[J]at ai;cases ai;exact be
       · have M:p≠i:=λe=>L (e▸y);rw[ab M];exact hw.args p y t' aU ai
     · have bg:∀q∈Pd,bl q<R.heap.size:=by
         intro q bY;obtain⟨_,_,_,_,O,_,bZ,_⟩:=hw.qm q bY;exact DF O bZ
       have bh:=YI.1 y;have bi:=YI.1 bV;by_cases m:p=i<;>by_cases A:q=i
       ·rw[m,A]
       · rw[aa m,ab A]at aD;have:=bg q (bi.resolve_left A);omega
       · rw[ab m,aa A]at aD;have:=bg p (bh.resolve_left m);omega
       · rw[ab m,ab A]at aD;exact hw.inj p (bh.resolve_left m) q (bi.resolve_left A) aD
     · have hv:=hw.oB.mono T.toGLe;refine⟨by simpa[eL,YO]using hv.1,λj c V hc av=>?_⟩;have b0:j<bm.length:=by
        have:=(Wh.1 hc).1;simpa[eL]using this
       have ak:c=(eL al (i::Pd) bm).getD j .bot:=by rw[XH,hc];rfl
       rw[jQ]at ak;by_cases aV:t=j
       · subst aV;have:(i::Pd).any (λq=>dx al q==some t)=true:=by simp[aq]
         rw[this]at ak;simp only[aY]at ak;subst ak;exact .bot _
       · simp only[YO]at av;rw[YS aV]at av;have m:(i::Pd).any (λq=>dx al q==some j)=Pd.any (λq=>dx al q==some j):=by
          rw[List.any_cons,aq];have:(some t==some j)=false:=by simpa using aV
          rw[this,Bool.false_or]
         rw[m,←jQ]at ak;have b1:j<(eL al Pd bm).length:=by simpa[eL]using b0
         refine hv.2 j c V ?_ av;rw[ak,XH,Xc b1];rfl
     · intro k;rw[a_ k,B k];simp only[YI];constructor
       · rintro(h|h|h)
         ·exact .inr (.inl h)
         ·exact .inl h
         ·exact .inr (.inr h)
       · rintro(h|h|h)
         ·exact .inr (.inl h)
         ·exact .inl h
         ·exact .inr (.inr h)
   · have N : ga al pr i=false∨gG bX=some i:=by
       by_cases m:ga al pr i=true
       · by_cases A:gG bX=some i
         ·exact .inr A
         ·exact absurd ⟨m,A⟩ bc
       ·exact .inl (by simpa using m)
     have ah:∀k∈cn pr i,S k=true:=by
      intro p b;rcases(B p).1 (aB p b)with h|h
      ·exact h
      · exfalso;obtain⟨g1,g2,_⟩:=hw.sep p h;rcases N with N|N
        · refine bG p g2 g1 (a8 p h) i (by omega) ad b N λk hk=>?_;rcases(B k).1 (aB k hk)with g|g
          ·exact .inl g
          ·exact .inr ⟨(hw.sep k g).2.1,a8 k g⟩
        · have:=(y0 hw.inv N).2.2 p b g2;rw[g1]at this;cases this
     have aW:=DA (s4 C) u hw.inv J ad ah N;rw[s5]at aW;have agree:∀t∈hd ao,bm.getD t .bot=(eL al Pd bm).getD t .bot:=by
      intro t ht;rw[jQ];have : Pd.any (λp=>dx al p==some t)=false:=by
       rw[YV];intro d;rw[YW]at d;obtain⟨p,b,ar⟩:=d;have au:dx al p=some t:=by simpa using ar
       obtain⟨g1,g2,g3⟩:=hw.sep p b;rcases u.reads i ao t p J ht au with h|⟨_,h⟩
       ·have:=ah p h;rw[g1]at this;cases this
       · rcases h with rfl|h
         ·exact L b
         · rcases g3 i h with g|g
           ·rw[ad]at g;cases g
           ·exact L g
      rw[this];rfl
     rw[Dt agree]at aW;refine MK bk E a9 n aP aW hw.ni hw.rel hw.oB ?_;intro v V aI U w2 b2 b3 b5 b6 T;refine az _ _ (λk=>k==i||S k) Pd bl ag _ aI U _ w2 ⟨b2,λp b=>?_,λp b=>?_,λp b t' aU ai=>?_,hw.inj,b3,b6,?_,by rw[put_defers];exact hw.defers,hw.step.trans T,hw.ca.trans ((ee.put f ao.dst V).mono λs hs=>DE J s (by simpa[Option.mem_toList,eq_comm]using hs))⟩ ?_ (by simp[am]) ba
     · obtain⟨g1,g2,g3⟩:=hw.sep p b;have M:p≠i:=λe=>L (e▸b);exact⟨by simp[M,g1],g2,λk hk=>(g3 k hk).imp (λh=>by simp[h]) id⟩
     · have M:p≠i:=λe=>L (e▸b);refine(hw.qm p b).step T ao.dst V λs hs e=>?_;exact M (u.uniq p i s hs (by rw[aq,e]))
     · have M:i≠p:=λe=>L (e▸b);rw[←hw.args p b t' aU ai];exact DH u ai (hw.sep p b).2.1 J (.inl λh=>by
         rcases(hw.sep p b).2.2 i h with g|g
         ·rw[ad]at g;cases g
         ·exact L g) M λh=>by
         have:=ah p h;rw[(hw.sep p b).1]at this;cases this
     · have hv :=hw.oB.mono T.toGLe;have bj:∀t,ao.dst=some t→Pd.any (λp=>dx al p==some t)=false:=by
        intro t ht;rw[YV];intro d;rw[YW]at d;obtain⟨p,b,ar⟩:=d;have au:dx al p=some t:=by simpa using ar
        exact L ((u.uniq p i t au (by rw[aq,ht]))▸b)
       have b7 : eL al Pd (cg bm ao.dst v)=cg (eL al Pd bm) ao.dst v:=by
        apply mm
        ·cases aX:ao.dst<;>simp[eL,cg]
        · intro s _;rw[jQ];cases aX:ao.dst with
          |none=>simp only[cg];rw[jQ]
          | some t=>
           simp only[cg];by_cases aZ:t=s
           · subst aZ;rw[bj t aX];by_cases aE:t<bm.length
             · have a0:t<(eL al Pd bm).length:=by simpa[eL]using aE
               simp[XH,aE,a0]
             · have a0:¬t<(eL al Pd bm).length:=by simpa[eL]using aE
               rw[YZ (YE aE),YZ (YE a0),jQ,bj t aX]
           · have m:(bm.set t v).getD s .bot=bm.getD s .bot:=by
               rw[XH,Xf aZ,XH]
             have A:((eL al Pd bm).set t v).getD s .bot=(eL al Pd bm).getD s .bot:=by rw[XH,Xf aZ,XH]
             rw[m,A,jQ]
       rw[b7];exact hv.cg ao.dst b5
     · intro k;rw[a_ k,B k];simp only[Wo,b9];constructor
       · rintro(h|h|h)
         ·exact .inl (.inl h)
         ·exact .inl (.inr h)
         ·exact .inr h
       · rintro((h|h)|h)
         ·exact .inl h
         ·exact .inr (.inl h)
         ·exact .inr (.inr h)
 obtain⟨b8,a1⟩:=Step.drawn (w.drawn+1) bq;refine main ops.size (Y0 ops.size false) bX (λ_=>false) [] (λ_=>0) (λ_=>(0,0)) env H G a _ ⟨MD u W hc h,λp b=>(by cases b),λp b=>(by cases b),λp b=>(by cases b),λp b=>(by cases b),bp.step a1,b8,?_,br,a1,ee.refl _ _⟩ ?_ (by simp) ?_
 · have aL:eL al [] env=env:=by
     apply mm (by simp[eL]);intro t _;rw[jQ];rfl
   rw[aL];exact he.mono a1.toGLe
 · intro k;by_cases hk:k<ops.size<;>simp[hk]
 ·exact Nat.le_trans (List.countP_le_length) (by simp)
theorem DI{o:Nat→cN}:∀{cells l:List I}{id:Nat},jI o cells=some (l,id)→∃pre off len sz post cs,cells=pre ++ .row id off len sz::post∧l=pre ++ .av .dead len ((cs.drop off).take (len*sz))::post∧o id = .row cs∧off+len*sz≤cs.length:=by
 intro cells;induction cells with
 |nil=>intro l id h;cases h
 | cons c r b=>
  intro l id h;unfold jI at h;split at h
  ·rename_i heq;cases heq
  · rename_i k off len sz d heq;cases heq;split at h
    · rename_i cs e;split at h
      · rename_i hle;cases h;exact⟨[],_,_,_,_,cs,rfl,rfl,e,hle⟩
      ·cases h
    ·cases h
  · rename_i c' d _ heq;cases heq;cases a:jI o r with
    |none=>rw[a]at h;cases h
    | some q=>obtain⟨m,n⟩:=q;rw[a]at h;cases h;obtain⟨pre,off,len,sz,post,cs,f,g,i,j⟩:=b a;exact⟨c::pre,off,len,sz,post,cs,by rw[f];rfl,by rw[g];rfl,i,j⟩
theorem Rel.MS{H:Z}{id:Nat}{cs l:List I}(a:Rel F w G H)(b:H.o id = .row cs)(h:gB F w G id (.row l)):Rel F w G (H.set id (.row l)):=by
 have hl:∀i,((H.set id (.row l)).o i).live=true→(H.o i).live=true:=by
  intro i hi;simp only[Z.set]at hi;split at hi
  ·rename_i e;rw[e,b];rfl
  ·exact hi
 refine⟨a.n,λi hi=>?_,λi=>?_,λi j c hi d=>a.gk i j c (hl i hi) (hl j d),a.gN⟩
 · simp only[Z.set]at hi ⊢;split
   · rename_i e;have:=a.over i hi;rw[e,b]at this;cases this
   ·exact a.over i hi
 · simp only[Z.set];split
   ·rename_i e;rw[e];exact h
   ·exact a.obj i
theorem MT{x v:I}{X:Value}(m:Rel F w G H)(h:mf H x=some (v,H'))(z:VR F w G x X):∃G',Rel F w G' H'∧Step w G H w G' H'∧VR F w G' v X:=by
 have key:∀(id:Nat)(cs:List I),H.o id = .row cs→∃G',Rel F w G' (H.set id .gone)∧Step w G H w G' (H.set id .gone) ∧
   ∃Vs:Nat→Value,(∀(j:Nat)(c:I),cs[j]?=some c→G'.fz (G.loc id) j∧w.cell? ⟨G.loc id,j,none⟩=some (Vs j))∧(∀(j:Nat)(c:I),cs[j]?=some c→VR F w G' c (Vs j)):=by
  intro id cs r;have B:(H.o id).live=true:=by rw[r];rfl
  have C:=m.h5 B;have hk:=m.kill id (m.n▸C);have D:=m.obj id;rw[r]at D;have K:=D.sH;have L:GLe w G w (G.dT (G.loc id) 0 cs.length):=⟨hT _,λ_ _=>rfl,λ_ _=>rfl,λ_ _ hf=> .inl hf,λ_ _ _ _ hc=>hc⟩
  have W:∀j,((H.set id .gone).o j).live=true→j≠id∧(H.o j).live=true:=by
   intro j a;simp only[Z.set]at a;split at a
   ·cases a
   ·rename_i M;exact⟨M,a⟩
  refine⟨G.dT (G.loc id) 0 cs.length,⟨hk.1.n,hk.1.over,λj=>?_,hk.1.gk,λb o E=>?_⟩,?_,λj=>(w.cell? ⟨G.loc id,j,none⟩).getD undef,λj c a=>?_,λj c a=>?_⟩
  · refine (hk.1.obj j).ca L (λhl=>hk.1.h5 hl) (λ_=>rfl) λhl k hf=>?_;rcases hf with hf|⟨hf,_⟩
    ·exact hf
    · obtain⟨s,t⟩:=W j hl;exact absurd hf (m.gk j id s t B)
  · rcases E with E|⟨rfl,_,A⟩
    ·exact m.gN b o E
    · obtain⟨V,f,_⟩:=K o cs[o] (Xc A);exact⟨V,by simpa using f⟩
  ·exact {L with size:=hT _,os:=rfl,tape:=rfl,output:=rfl,ep:=λ_ _ _=>rfl,owned:=λj hl _=>⟨j,(W j hl).2,rfl⟩,gC:=λb o hf=>hf.imp (λh=>h) λhf=> .inr ⟨id,B,hf.1.symm⟩}
  · obtain⟨V,f,_⟩:=K j c a;rw[W7]at f;exact⟨.inr ⟨rfl,Nat.zero_le _,(Wh.1 a).1⟩,by dsimp only;rw[f];rfl⟩
  · obtain⟨V,f,q⟩:=K j c a;rw[W7]at f;dsimp only;rw[f];exact q.mono L
 unfold mf at h;split at h
 · rename_i id o len sz;split at h
   · rename_i cs r;split at h
     · cases h;obtain⟨G',q,g,Vs,s,t⟩:=key id cs r;refine⟨G',q,g,?_⟩;cases z with
       | row _ _ _ _ cap C hle hc=>
        have eZ:∀(j:Nat)(c:I),((cs.drop o).take (len*sz))[j]?=some c→cs[o+j]?=some c:=by
         intro j c a;rw[Wj]at a;split at a
         ·rw[Wk]at a;exact a
         ·cases a
        exact .av _ _ _ _ o cap (λj=>Vs (o+j)) trivial hle (λj c a=>s _ c (eZ j c a)) λj c a=>t _ c (eZ j c a)
     ·cases h
   ·cases h
 · rename_i id o;split at h
   · rename_i cs r;split at h
     · rename_i l p N;split at h
       ·cases h
       · rename_i M;cases h;obtain⟨pre,off,len,sz,post,u,rfl,rfl,Y,hle⟩:=DI N;obtain⟨G',q,g,Vs,s,t⟩:=key p u Y;have B:(H.o p).live=true:=by rw[Y];rfl
         have ac:=m.h5 B;have ad:G'.loc p=G.loc p:=g.loc p (m.n▸ac);have O:(H.set p .gone).o id = .row (pre ++ .row p off len sz::post):=by simp only[Z.set];rw[ab (λe=>M e.symm)];exact r
         have D:=q.obj id;rw[O]at D;obtain⟨ae,e,af,ag,ah,P⟩:=D;have ai:gB F w G' id (.row (pre ++ .av .dead len ((u.drop off).take (len*sz))::post)):=by
          refine⟨ae,e,af,ag,ah,λj c a=>?_⟩;rcases Y1 j pre.length with A|rfl|aj
          · rw[XZ A]at a;exact P j c (by rw[XZ A];exact a)
          · have Q:(pre++I.row p off len sz::post)[pre.length]?=some (.row p off len sz):=by simp
            have hc:c = .av .dead len ((u.drop off).take (len*sz)):=by
             have R:(pre++I.av .dead len ((u.drop off).take (len*sz))::post)[pre.length]?=some (.av .dead len ((u.drop off).take (len*sz))):=by simp
             rw[R]at a;exact(Wy.inj a).symm
            subst hc;obtain⟨V,f,S⟩:=P _ _ Q;refine⟨V,f,?_⟩;cases S with
            | row _ _ _ _ cap C T al=>
             have eZ:∀(j:Nat)(c:I),((u.drop off).take (len*sz))[j]?=some c→u[off+j]?=some c:=by
              intro j c a;rw[Wj]at a;split at a
              ·rw[Wk]at a;exact a
              ·cases a
             rw[ad];exact .av _ _ _ _ off cap (λj=>Vs (off+j)) trivial T (λj c a=>s _ c (eZ j c a)) λj c a=>t _ c (eZ j c a)
          · have e:∀y:I,(pre++y::post)[j]?=post[j-pre.length-1]?:=by
              intro y;rw[X0 (by omega)];obtain⟨d,U⟩:∃d,j-pre.length=d+1:=⟨j-pre.length-1,by omega⟩
              rw[U];rfl
            rw[e]at a;exact P j c (by rw[e];exact a)
         have hl:∀i,(((H.set p .gone).set id (.row (pre ++ .av .dead len ((u.drop off).take (len*sz))::post))).o i).live=true→((H.set p .gone).o i).live=true:=by
          intro i hi;by_cases aa:i=id
          ·rw[aa,O];rfl
          ·simp only[Z.set,ab aa]at hi ⊢;exact hi
         refine⟨G',q.MS O ai,{g with owned:=λi hi E=>g.owned i (hl i hi) E},z.mono g.toGLe⟩
     · cases h;obtain⟨G',q,g,Vs,s,t⟩:=key id cs r;refine⟨G',q,g,?_⟩;cases z with
       | ptr _ _ C=>exact .ak _ _ o (λj=>Vs (o+j)) (λj c a=>s _ c (by rw[Wk]at a;exact a)) λj c a=>t _ c (by rw[Wk]at a;exact a)
   ·cases h
 ·cases h;exact⟨G,m,Step.refl _ _ _,z⟩
 ·cases h;exact⟨G,m,Step.refl _ _ _,z⟩
 · rename_i cells;split at h
   · rename_i l id N;cases h;obtain⟨pre,off,len,sz,post,cs,rfl,rfl,r,hle⟩:=DI N;obtain⟨G',q,g,Vs,s,t⟩:=key id cs r;refine⟨G',q,g,?_⟩;obtain⟨Xs,rfl,J⟩:=z.m6;refine .agg _ _ (by have:=J.1;simp at this ⊢;omega) λj c V a f=>?_;rcases Y1 j pre.length with A|rfl|aj
     · rw[XZ A]at a;exact(J.2 j c V (by rw[XZ A];exact a) f).mono g.toGLe
     · have Q:(pre++I.row id off len sz::post)[pre.length]?=some (.row id off len sz):=by simp
       have hc:c = .av .dead len ((cs.drop off).take (len*sz)):=by
        have R:(pre++I.av .dead len ((cs.drop off).take (len*sz))::post)[pre.length]?=some (.av .dead len ((cs.drop off).take (len*sz))):=by simp
        rw[R]at a;exact(Wy.inj a).symm
       subst hc;have S:=J.2 _ _ V Q f;cases S with
       | row _ _ _ _ cap C T al=>
        have eZ:∀(j:Nat)(c:I),((cs.drop off).take (len*sz))[j]?=some c→cs[off+j]?=some c:=by
         intro j c a;rw[Wj]at a;split at a
         ·rw[Wk]at a;exact a
         ·cases a
        exact .av _ _ _ _ off cap (λj=>Vs (off+j)) trivial T (λj c a=>s _ c (eZ j c a)) λj c a=>t _ c (eZ j c a)
     · have e:∀y:I,(pre++y::post)[j]?=post[j-pre.length-1]?:=by
         intro y;rw[X0 (by omega)];obtain⟨d,U⟩:∃d,j-pre.length=d+1:=⟨j-pre.length-1,by omega⟩
         rw[U];rfl
       rw[e]at a;exact(J.2 j c V (by rw[e];exact a) f).mono g.toGLe
   ·cases h;exact⟨G,m,Step.refl _ _ _,z⟩
 ·cases h
end
end Rb

namespace Rb
open Go
variable{F:dk}{Vs:Array Value}
section
variable{C:Ctx}{w:World}{G:b4}{H:Z}{env:Env}{a:Act}
theorem s_(h:bo F w G env Vs)(vs:List Nat):∀(j:Nat)(c:I),(eZ env vs)[j]?=some c→∃t V,vs[j]?=some t∧(Vs[t]?=some V∧VR F w G c V∨c = .bot):=by
 intro j c a;simp only[eZ,Xb]at a;cases hv:vs[j]? with
 |none=>simp[hv]at a
 | some t=>
  simp[hv]at a;subst a;cases he:env[t]? with
  |none=>exact⟨t,undef,rfl,.inr (by simp)⟩
  | some c=>obtain⟨V,b,d⟩:=h.get he;exact⟨t,V,rfl,.inl ⟨b,by simpa[he]using d⟩⟩
theorem MU:∀(ks:List Nat){env:Env}{Vs:Array Value},bo F w G env Vs→bo F w G (gQ env ks) Vs:=by
 intro ks;induction ks with
 |nil=>intro env Vs h;exact h
 | cons t ks b=>
  intro env Vs h;refine b ⟨by simp[h.1],λj c V hc d=>?_⟩;by_cases a:t=j
  · subst a;rw[WK]at hc;simp only[aY]at hc;split at hc
    ·cases hc;exact .bot _
    ·cases hc
  · rw[Xf a]at hc;exact h.2 j c V hc d
theorem MV:∀(ks:List Nat)(env:Env),(gQ env ks).length=env.length:=by
 intro ks;induction ks with
 |nil=>intro env;rfl
 |cons t ks a=>intro env;rw[gQ,a];simp
theorem MW:∀(ks:List Nat)(env:Env)(t:Nat),t∈ks→∀c,(gQ env ks)[t]?=some c→c = .bot:=by
 intro ks;induction ks with
 |nil=>intro env t ht;cases ht
 | cons s ks a=>
  intro env t ht c hc;by_cases h:t∈ks
  ·exact a _ t h c hc
  · have f:t=s:=by rcases YI.1 ht with b|b;exact b;exact absurd b h
    subst f;have key:∀(ks:List Nat)(env:Env),t∉ks→(gQ env ks)[t]?=env[t]?:=by
     intro ks;induction ks with
     |nil=>intro env _;rfl
     | cons u ks a=>intro env d;rw[gQ,a _ (λh=>d (YJ _ h)),Xf (λe=>d (by rw[e];exact YK))]
    rw[gQ,key ks _ h,WK]at hc;simp only[aY]at hc;split at hc
    ·cases hc;rfl
    ·cases hc
theorem ta{ks vs az:List Nat}{Vs b:Array Value}(h:bo F w G env Vs)(hc:s8 ks vs az=true)(hs:b.size=Vs.size)(hk:∀t,t∉az→b[t]?=Vs[t]?)(a:List I)
  (k:∀(j:Nat)(c:I),a[j]?=some c→∃t V,vs[j]?=some t∧(b[t]?=some V∧VR F w G c V∨c = .bot)) (hl:a.length=vs.length):bo F w G (i3 (gQ env ks) vs a) b:=by
 have p:∀(vs:List Nat)(a:List I)(env:Env),env.length=b.size→a.length=vs.length →
   (∀(j:Nat)(c:I),a[j]?=some c→∃t V,vs[j]?=some t∧(b[t]?=some V∧VR F w G c V∨c = .bot)) →
   (∀(j:Nat)(c:I)(V:Value),env[j]?=some c→b[j]?=some V→j∈vs∨VR F w G c V)→bo F w G (i3 env vs a) b:=by
  intro vs;induction vs with
  |nil=>intro a env hle _ _ h;exact⟨hle,λj c V hc f=>(h j c V hc f).resolve_left (by simp)⟩
  | cons t vs q=>
   intro a env hle hl k h;cases a with
   |nil=>simp at hl
   | cons d a=>
    rw[i3];refine q a _ (by simp[hle]) (by simpa using hl) (λj c e=>by obtain⟨t',V,l,i⟩:=k (j+1) c (by simpa using e);exact⟨t',V,by simpa using l,i⟩) λj c V hc f=>?_
    by_cases e:t=j
    · subst e;rw[WK]at hc;simp only[aY]at hc;split at hc
      · cases hc;obtain⟨t',r,l,i⟩:=k 0 d rfl;simp at l;subst l;rcases i with⟨n,i⟩|rfl
        ·rw[f]at n;cases n;exact .inr i
        ·exact .inr (.bot _)
      ·cases hc
    · rw [Xf e]at hc;rcases h j c V hc f with g|g
      · rcases YI.1 g with g|g
        ·exact absurd g.symm e
        ·exact .inl g
      ·exact .inr g
 refine p vs a _ (by rw[MV,h.1,hs]) hl k λj c V o f=>?_;by_cases e:j∈az
 · have:=Xi.1 hc j e;simp at this;rcases this with m|m
   ·rw[MW ks env j m c o];exact .inr (.bot _)
   ·exact .inl m
 · rw[hk j e]at f;exact .inr ((MU ks h).2 j c V o f)
theorem tc(env:Env)(vs:List Nat):(eZ env vs).length=vs.length:=by simp[eZ]
def h7:kg→Exit→Prop
 | .normal,.normal=>True
 | .exit i,.exit j=>i=j
 | .ret,.ret=>True
 |_,_=>False
theorem MX(n:kU C){ops:Array Oper}{Q:Exit→Act→World→Prop}{w0:World}{G0:b4}{H0:Z}{a0:Act}{az:List Nat} :
  ∀ (b:fO) (l:List Oper) (env:Env) (H:Z) (G:b4) (w:World) (a:Act) (K:kg→Env→Z→Prop),qj C ops l b=true→f_ (aj C) b env H K→eS C w G H→Rel C.F w G H→bo C.F w G env a.tmps→a.defers=[] →
   Step w0 G0 H0 w G H→ee az a0 a→(∀t,t∈eK b→t∈az) →
   (∀bm H' G' c R,K .normal bm H'→eS C R G' H'→Rel C.F R G' H'→bo C.F R G' bm c.tmps→c.defers=[]→Step w0 G0 H0 R G' H'→ee az a0 c→Q .normal c R) →
   wpList C.P ops Q l a w:=by
 intro b;induction b with
 | region al=>intro l env H G w a K d h f g he i j hk e k;exact DD n l al env H G w a d h f g he i j hk e k
 | i2 vs ks al b p=>intro l env H G w a K d h f g he i j hk e k;simp only[qj,Wn]at d;obtain⟨⟨q,r⟩,s⟩:=d;rw[←List.take_append_drop al.length l];simp only[f_]at h;refine DC (w0:=w) (G0:=G) (H0:=H) (a0:=a) (az:=hI al) n (l.take al.length) al env H G w a q h f g he i (Step.refl _ _ _) (ee.refl _ _) (λ_ ht=>ht) ?_;intro bm H' G' c R u v x y z o m;have A:=ta (he.mono o.toGLe) r m.1 m.2 (eZ bm vs) (s_ y vs) (tc _ _);exact p (l.drop al.length) _ H' G' R c K s u v x A z (j.trans o) (hk.trans (m.mono λt ht=>e t (by simp[eK,ht]))) (λt ht=>e t (by simp[eK,ht])) k
 |_=>intro l env H G w a K d;simp[qj]at d
theorem MY(au:kU C) :
  ∀ (ac:fO) (c:Code) (env:Env) (H:Z) (G:b4) (w:World) (a:Act) (K:kg→Env→Z→Prop) (Q:Exit→Act→World→Prop),ed C c ac=true→f_ (aj C) ac env H K →
   eS C w G H→Rel C.F w G H→bo C.F w G env a.tmps→a.defers=[] →
   (∀B ex bm H' G' f R,h7 B ex→K B bm H'→eS C R G' H'→Rel C.F R G' H'→bo C.F R G' bm f.tmps→f.defers=[]→Step w G H R G' H'→ee (eK ac) a f→Q ex f R) →
   c.wp C.P Q a w:=by
 intro ac;induction ac with
 | skip=>intro c env H G w a K Q d h n o he r g;cases c<;>simp[ed]at d;exact wp_skip (g .normal .normal env H G a w trivial h n o he r (Step.refl _ _ _) (ee.refl _ _))
 | region al=>
  intro c env H G w a K Q d h n o he r g;cases c with
  | region id ops draw=>
   cases draw with
   |true=>simp[ed]at d
   | false=>
    simp only[ed]at d;refine wp_region_list ?_;exact DD (az:=hI al) (a0:=a) (w0:=w) (G0:=G) (H0:=H) (Q:=Q) (K:=K .normal) au ops.toList al env H G w a d h n o he r (Step.refl _ _ _) (ee.refl _ _) (λ_ ht=>ht)
     (λbm H' G' f R A D z E J m u=>g .normal .normal bm H' G' f R trivial A D z E J m u)
  |_=>simp[ed]at d
 | i2 vs ks al b _=>
  intro c env H G w a K Q d h n o he r g;cases c with
  | region id ops draw=>
   cases draw with
   |true=>simp[ed]at d
   | false=>
    simp only[ed]at d;refine wp_region_list ?_;exact MX (az:=eK (.i2 vs ks al b)) (a0:=a) (w0:=w) (G0:=G) (H0:=H) (Q:=Q) (K:=K) au (.i2 vs ks al b) ops.toList env H G w a d h n o he r (Step.refl _ _ _) (ee.refl _ _) (λ_ ht=>ht)
     (λbm H' G' f R A D z E J m u=>g .normal .normal bm H' G' f R trivial A D z E J m u)
  |_=>simp[ed]at d
 | draw al pr bX last=>
  intro c env H G w a K Q d h n o he r g;cases c with
  | region id ops draw=>
   cases draw with
   |false=>simp[ed]at d
   | true=>simp only[ed,Wn]at d;obtain⟨⟨⟨O,S⟩,T⟩,U⟩:=d;exact MR au O S T U h n o he r λbm H' G' f R A D z E J m u=>g .normal .normal bm H' G' f R trivial A D z E J m u
  |_=>simp[ed]at d
 | seq x y av aw=>
  intro c env H G w a K Q d h n o he r g;cases c with
  | seq p q=>
   simp only[ed,Wn]at d;refine wp_seq ?_;refine av p env H G w a _ _ d.1 h n o he r ?_;intro B ex bm H' G' f R hex A D z E J m u;cases B with
   | normal=>cases ex<;>simp only[h7]at hex;refine aw q bm H' G' R f K Q d.2 A D z E J ?_;intro B ex W ak X a2 w2 hex ad ae af L ag ah ai;exact g B ex W ak X a2 w2 hex ad ae af L ag (m.trans ah) ((u.mono λt ht=>by simp[eK,ht]).trans (ai.mono λt ht=>by simp[eK,ht]))
   | exit i=>cases ex<;>simp only[h7]at hex;exact g (.exit i) (.exit _) bm H' G' f R hex A D z E J m (u.mono λt ht=>by simp[eK,ht])
   | ret=>cases ex<;>simp only[h7]at hex;exact g .ret .ret bm H' G' f R trivial A D z E J m (u.mono λt ht=>by simp[eK,ht])
  |_=>simp[ed]at d
 | join vs ks x y av aw=>
  intro c env H G w a K Q d h n o he r g;cases c with
  | seq p q=>
   simp only[ed,Wn]at d;obtain⟨⟨ax,ay⟩,ar⟩:=d;refine wp_seq ?_;refine av p env H G w a _ _ ax h n o he r ?_;intro B ex bm H' G' f R hex A D z E J m u;cases B with
   | normal=>cases ex<;>simp only[h7]at hex;have aH:=ta (he.mono m.toGLe) ar u.1 u.2 (eZ bm vs) (s_ E vs) (tc _ _);refine aw q _ H' G' R f K Q ay A D z aH J ?_;intro B ex W ak X a2 w2 hex ad ae af L ag ah ai;exact g B ex W ak X a2 w2 hex ad ae af L ag (m.trans ah) ((u.mono λt ht=>by simp[eK,ht]).trans (ai.mono λt ht=>by simp[eK,ht]))
   | exit i=>cases ex<;>simp only[h7]at hex;exact g (.exit i) (.exit _) bm H' G' f R hex A D z E J m (u.mono λt ht=>by simp[eK,ht])
   | ret=>cases ex<;>simp only[h7]at hex;exact g .ret .ret bm H' G' f R trivial A D z E J m (u.mono λt ht=>by simp[eK,ht])
  |_=>simp[ed]at d
 | cond x p q aI aJ=>
  intro c env H G w a K Q d h n o he r g;cases c with
  | cond c' aK aL=>
   simp only[ed,Wn]at d;obtain⟨⟨ax,ay⟩,aM⟩:=d;obtain⟨t,ht,h⟩:=yA h;have aC:=cA n.1 he ax;rw[ht]at aC;refine wp_cond (t:=t) aC.iC ?_;cases t with
   | true=>rw[aa rfl]at h ⊢;exact aI aK env H G w a K Q ay h n o he r λB ex bm H' G' f R O S T U am an ao ap=>g B ex bm H' G' f R O S T U am an ao (ap.mono λt ht=>by simp[eK,ht])
   | false=>rw[iE]at h ⊢;exact aJ aL env H G w a K Q aM h n o he r λB ex bm H' G' f R O S T U am an ao ap=>g B ex bm H' G' f R O S T U am an ao (ap.mono λt ht=>by simp[eK,ht])
  |_=>simp[ed]at d
 | block id x aq=>
  intro c env H G w a K Q d h n o he r g;cases c with
  | block aX p=>
   simp only[ed,Wn,b9]at d;obtain⟨rfl,hc⟩:=d;refine wp_block ?_;refine aq p env H G w a _ _ hc h n o he r ?_;intro B ex bm H' G' f R hex A D z E J m u;cases B with
   | normal=>cases ex<;>simp only[h7]at hex;exact g .normal .normal bm H' G' f R trivial A D z E J m u
   | exit i=>
    cases ex with
    | exit j=>
     simp only[h7]at hex;subst hex;dsimp only at A;simp only[Exit.inBlock];split
     · rename_i aA;rw[aa aA]at A;exact g .normal .normal bm H' G' f R trivial A D z E J m u
     · rename_i aA;rw[ab aA]at A;exact g (.exit i) (.exit i) bm H' G' f R rfl A D z E J m u
    |_=>simp only[h7]at hex
   | ret=>cases ex<;>simp only[h7]at hex;exact g .ret .ret bm H' G' f R trivial A D z E J m u
  |_=>simp[ed]at d
 | loop vs ks x aq=>
  intro c env H G w a K Q d h n o he r g;cases c with
  | loop p=>
   simp only[ed,Wn]at d;obtain⟨hc,ar⟩:=d;let aN:List I×Z→Prop:=λs=>∀G' R f,eS C R G' s.2→Rel C.F R G' s.2→bo C.F R G' (i3 (gQ env ks) vs s.1) f.tmps→f.defers=[]→Step w G H R G' s.2→ee (eK x) a f →
    ∀(b:Frame)(k:List Item)(cs:List Frame),∃e a2 w2,Q e a2 w2∧Arrives C.P (lone (b.at f (.code p :: .inLoop p::k)) cs R) b k cs e a2 w2
   have aO:=h aN λs K' aP aQ=>by
    intro G' R f D z E J m u b k cs;have aR:p.wp C.P (λex a2 w2=>match ex with
        | .normal=>∀(b:Frame)(k:List Item)(cs:List Frame),∃e a3 w3,Q e a3 w3∧Arrives C.P (lone (b.at a2 (.code p :: .inLoop p::k)) cs w2) b k cs e a3 w3
        |e=>Q e a2 w2) f R:=by
      refine aq p _ _ G' R f _ _ hc aP D z E J ?_;intro B ex W ak X a2 w2 hex ad ae af L ag ah ai;cases B with
      | normal=>cases ex<;>simp only[h7]at hex;have aB:=u.trans ai;have aD:=m.trans ah;exact aQ _ ad X w2 a2 ae af (ta (he.mono aD.toGLe) ar aB.1 aB.2 (eZ W vs) (s_ L vs) (tc _ _)) ag aD aB
      | exit i=>
       cases ex with
       |exit j=>exact g (.exit i) (.exit j) W ak X a2 w2 hex ad ae af L ag (m.trans ah) (u.trans ai)
       |_=>simp only[h7]at hex
      | ret=>
       cases ex with
       |ret=>exact g .ret .ret W ak X a2 w2 hex ad ae af L ag (m.trans ah) (u.trans ai)
       |_=>simp only[h7]at hex
    obtain⟨e,Y,w1,M,N⟩:=aR b (.inLoop p::k) cs;cases e with
    | normal=>obtain⟨aS,a2,w2,aT,aU⟩:=M b k cs;exact⟨aS,a2,w2,aT,.of_steps (Steps.trans N (.one step_inLoop)) aU⟩
    |exit id=>exact⟨_,Y,w1,M,.pass (x:= .inLoop p) rfl (λ_ _=> .inl (by simp)) N⟩
    |goto l=>exact⟨_,Y,w1,M,.pass (x:= .inLoop p) rfl (λ_ _=> .inl (by simp)) N⟩
    |ret=>exact⟨_,Y,w1,M,.pass (x:= .inLoop p) rfl (λ_ _=> .inl (by simp)) N⟩
    |panic aZ=>exact⟨_,Y,w1,M,.pass (x:= .inLoop p) rfl (λ_ _=> .inl (by simp)) N⟩
    |outgrown=>exact⟨_,Y,w1,M,.pass (x:= .inLoop p) rfl (λ_ _=> .inl (by simp)) N⟩
   intro b k cs;have aV:=aO G w a n o (ta he ar rfl (λ_ _=>rfl) (eZ env vs) (s_ he vs) (tc _ _)) r (Step.refl _ _ _) (ee.refl _ _) b k cs;obtain⟨e,f,R,M,N⟩:=aV;exact⟨e,f,R,M,.of_steps (.one step_loop) N⟩
  |_=>simp[ed]at d
 | exit id=>intro c env H G w a K Q d h n o he r g;cases c<;>simp[ed]at d;subst d;exact wp_exit (g (.exit _) (.exit _) env H G a w rfl h n o he r (Step.refl _ _ _) (ee.refl _ _))
 | ret=>intro c env H G w a K Q d h n o he r g;cases c<;>simp[ed]at d;exact wp_ret (g .ret .ret env H G a w trivial h n o he r (Step.refl _ _ _) (ee.refl _ _))
 | freeze t x aq=>
  intro c env H G w a K Q d h n o he r g;have aW:ed C c x=true:=by cases c<;>simpa[ed]using d
  obtain⟨v,H',hv,h⟩:=h;obtain⟨G',z,m,aE⟩:=MT o hv (sU he);have L:bo C.F w G' (env.set t v) a.tmps:=by
   refine⟨by simp[he.1],λj c V hc aF=>?_⟩;by_cases aG:t=j
   · subst aG;rw[WK]at hc;simp only[aY]at hc;split at hc
     · cases hc;rw[Array.getD_eq_getD_getElem?,aF]at aE;exact aE
     ·cases hc
   · rw[Xf aG]at hc;exact(he.2 j c V hc aF).mono m.toGLe
  exact aq c _ H' G' w a K Q aW h (n.step m) z L r λB ex bm H' G' f R O S T U am an ao ap=>g B ex bm H' G' f R O S T U am an (m.trans ao) (ap.mono λt ht=>by simp[eK,ht])
def kl(P:Program):List ResultVar→List kL→Bool
 |[],[]=>true
 | .tmp t::r,.tmp t'::s=>t==t'&&kl P r s
 | .cell t ty::r,.cell t' n agg::s=>t==t'&&h4 P ty n agg&&kl P r s
 |_,_=>false
def oC(C:Ctx)(f:FuncId)(a:bw):Bool:=
 match C.P.funcs[f]? with
 |some fn=>fn.ntmps==a.ntmps&&kl C.P fn.results.toList a.results&&(match fn.body with|some c=>ed C c a.body|none=>false)
 |none=>false
def td(b:Array Value):ResultVar→Sem Value
 | .tmp t=>pure (b.getD t undef)
 | .cell a t=>do loadVar t (←asAddr (b.getD a undef))
theorem MZ(a:Func)(b:Array Value):results a b=(do
    let vs ←a.results.mapM (td b)
    pure (if h:vs.size=1 then vs[0]else .tuple vs)):=by
  unfold results;congr 1
theorem M0(u:Rel C.F w G H)(q:bo C.F w G env a.tmps):∀(rs:List ResultVar)(b:List kL)(K:List I→Prop),kl C.P rs b=true→lv env H b K →
  ∃vs Vs,K vs∧bo C.F w G vs (List.toArray Vs)∧(rs.mapM (td a.tmps)).run C.P w = .ok Vs w:=by
 intro rs;induction rs with
 | nil=>intro b K hc h;cases b<;>simp[kl]at hc;exact⟨[],[],h,bo.nil,rfl⟩
 | cons r rs s=>
  intro b K hc h;have cons:∀{v:I}{V:Value}{vs:List I}{Vs:List Value},VR C.F w G v V→bo C.F w G vs Vs.toArray→bo C.F w G (v::vs) (V::Vs).toArray:=by
   intro v V vs Vs hv e;refine bo.m7 (by have:=e.1;simp at this ⊢;exact this) λj c U g i=>?_;cases j with
   |zero=>simp at g i;subst g;subst i;exact hv
   |succ j=>exact e.2 j c U (by simpa using g) (by simpa using i)
  cases r with
  | tmp t=>
   cases b with
   |nil=>simp[kl]at hc
   | cons k b=>
    cases k with
    | tmp t'=>simp only[kl,Wn,b9]at hc;obtain⟨rfl,hc⟩:=hc;obtain⟨vs,Vs,l,e,m⟩:=s b _ hc h;refine⟨_,_::Vs,l,cons (sU q) e,?_⟩;rw[Y2];simp only[td,X7,Ye,X8,m]
    |cell _ _ _=>simp[kl]at hc
  | cell t ty=>
   cases b with
   |nil=>simp[kl]at hc
   | cons k b=>
    cases k with
    |tmp _=>simp[kl]at hc
    | cell t' n agg=>
     simp only[kl,Wn,b9]at hc;obtain⟨⟨rfl,x⟩,hc⟩:=hc;obtain⟨v,hv,h⟩:=h;obtain⟨vs,Vs,l,e,m⟩:=s b _ hc h;have d:=sU (t:=t) q;obtain⟨V,f,y⟩:=yF (P:=C.P) x u hv d;refine⟨_,V::Vs,l,cons y e,?_⟩;have z:(do loadVar ty (←asAddr (a.tmps.getD t undef)):Sem Value).run C.P w = .ok V w:=by
      unfold O at hv;split at hv
      · rename_i id o p;rw[p]at d;generalize a.tmps.getD t undef=X at d f;cases d;simpa[Xd,WG,asAddr]using f
      · rename_i cs p;rw[p]at d;generalize a.tmps.getD t undef=X at d f;cases d;simpa[Xd,WG,asAddr]using f
      ·cases hv
     rw[Y2];have A:(td a.tmps (.cell t ty)).run C.P w = .ok V w:=z;simp only[X7,A,X8,m,Ye]
theorem DJ(x:kU C){f:FuncId}{a:bw}(d:oC C f a=true){g:List I}{Q:ad}(h:p_ (aj C) a g H Q)(y:eS C w G H)(z:Rel C.F w G H)(r:bo C.F w G g Vs) :
  Calls C.P f Vs w λe R=>∃V v H' G',e = .returned V∧Q v H'∧VR C.F R G' v V∧Rel C.F R G' H'∧Step w G H R G' H':=by
 unfold oC at d;split at d
 · rename_i fn A;simp only[Wn,b9]at d;obtain⟨⟨B,D⟩,l⟩:=d;split at l
   · rename_i c E;refine calls_of_wp A E ?_;have he:bo C.F w G (g++We (a.ntmps-g.length) .bot) (Vs++Y0 (fn.ntmps-Vs.size) undef):=by
      refine r.app ⟨by simp[r.1,B],λj c V hc U=>?_⟩;rw[Y3]at hc;split at hc
      ·cases hc;exact .bot _
      ·cases hc
     refine MY x a.body c _ H G w ⟨_,[]⟩ _ _ l h y z he rfl ?_;intro J ex bm H' G' s R hex m W t K L M X;have fin:lv bm H' a.results (λvs=>Q (n_ vs) H')→s.defers=[]∧∃v,(results fn s.tmps).run C.P R = .ok v R∧∃V u n o,(Ending.returned v) = .returned V∧Q u n∧VR C.F R o u V∧Rel C.F R o n∧Step w G H R o n:=by
      intro N;obtain⟨vs,b,O,k,S⟩:=M0 t K fn.results.toList a.results _ D N;refine⟨L,if h:b.toArray.size=1 then b.toArray[0]else .tuple b.toArray,?_,_,_,_,_,rfl,O,?_,t,M⟩
      · rw[MZ];have he:fn.results=fn.results.toList.toArray:=by simp
        rw[he,List.mapM_toArray];simp only[X7,Sem.run_map,S,X8,Ye]
      · split
        · rename_i p;have hl:b.length=1:=by simpa using p
          have q:vs.length=1:=by have:=k.1;simp at this;omega
          match vs,b,q,hl with
          |[v],[V],_,_=>simpa[n_]using k.2 0 v V rfl rfl
        · rename_i p;have hl:b.length≠1:=by simpa using p
          have q:vs.length≠1:=by have:=k.1;simp at this;omega
          have T:n_ vs = .aM vs:=by
           match vs,q with
           |[],_=>rfl
           |_::_::_,_=>rfl
          rw[T];exact k.aM
     cases J with
     |normal=>cases ex<;>simp only[h7]at hex;exact fin m
     |exit i=>exact m.elim
     |ret=>cases ex<;>simp only[h7]at hex;exact fin m
   ·cases l
 ·cases d
end
end Rb

namespace Rb
open Go
abbrev iI:=List (Nat×bw)
def iI.get(T:iI)(k:Nat):Option bw:=T.lookup k
def oD(Φ:ae)(T:iI):Prop:=∀k f,T.get k=some f→∀args H Q,p_ Φ f args H Q→Φ k args H Q
def tf(C:Ctx):iI→Bool
 |[]=>true
 |(k,f)::T=>(match C.F k with|some dY=>oC C dY f|none=>true)&&tf C T
theorem M1{T:iI}{k:Nat}{f:bw}(h:T.lookup k=some f):(k,f)∈T:=by
 induction T with
 |nil=>cases h
 | cons p T a=>
  obtain⟨b,d⟩:=p;rw[Y4]at h;split at h
  · rename_i hk;have c:k=b:=by simpa using hk
    cases h;rw[c];exact YK
  ·exact YJ _ (a h)
theorem M2{C:Ctx}:∀{T:iI},tf C T=true→∀k f,(k,f)∈T→∀dY,C.F k=some dY→oC C dY f=true:=by
 intro T;induction T with
 |nil=>intro _ k f h;cases h
 | cons p T a=>
  obtain⟨b,c⟩:=p;intro h k f hm dY hf;simp only[tf,Wn]at h;rcases YI.1 hm with he|hm
  · cases he;have:=h.1;rw[hf]at this;exact this
  ·exact a h.2 k f hm dY hf
theorem M3{C:Ctx}(a:kU C){T:iI}(h:tf C T=true):oD (aj C) T:=by intro k f hk args H Q hs;refine⟨C0 (yP C) hs,λdY b G w Vs c d e=>?_⟩;exact DJ a (M2 h k f (M1 hk) dY b) hs c d e
mutual
def I.same:I→I→Bool
 | .bool a,.bool b=>a==b
 | .int k a,.int f b=>k==f&&a==b
 | .str a,.str b=>a==b
 | .eY,.eY=>true
 | .ptr i o,.ptr g h=>i==g&&o==h
 | .ak cs,.ak e=>I.gE cs e
 | .av tk len cs,.av j l e=>tk==j&&len==l&&I.gE cs e
 | .row a b c d,.row m n c' p=>a==m&&b==n&&c==c'&&d==p
 | .map i,.map g=>i==g
 | .fZ,.fZ=>true
 | .fn k cs,.fn f e=>k==f&&I.gE cs e
 | .gy,.gy=>true
 | .iface t v,.iface t' q=>t==t'&&I.same v q
 | .gz,.gz=>true
 | .agg cs,.agg e=>I.gE cs e
 | .aM cs,.aM e=>I.gE cs e
 | .bot,.bot=>true
 |_,_=>false
def I.gE:List I→List I→Bool
 |[],[]=>true
 |c::r,d::t=>I.same c d&&I.gE r t
 |_,_=>false
end
mutual
theorem I.tg:(x y:I)→I.same x y=true→x=y
 | .bool a,.bool b,h=>by simp[I.same]at h;rw[h]
 | .int k a,.int g b,h=>by simp[I.same]at h;rw[h.1,h.2]
 | .str a,.str b,h=>by simp[I.same]at h;rw[h]
 | .eY,.eY,h=>rfl
 | .ptr i o,.ptr j m,h=>by simp[I.same]at h;rw[h.1,h.2]
 | .ak cs,.ak e,h=>by simp only[I.same]at h;rw[I.nj cs e h]
 | .av tk len cs,.av n p e,h=>by simp only[I.same,Wn,b9]at h;rw[h.1.1,h.1.2,I.nj cs e h.2]
 | .row a b c d,.row q s c' u,h=>by simp[I.same]at h;rw[h.1.1.1,h.1.1.2,h.1.2,h.2]
 | .map i,.map j,h=>by simp[I.same]at h;rw[h]
 | .fZ,.fZ,h=>rfl
 | .fn k cs,.fn g e,h=>by simp only[I.same,Wn,b9]at h;rw[h.1,I.nj cs e h.2]
 | .gy,.gy,h=>rfl
 | .iface t v,.iface t' l,h=>by simp only[I.same,Wn,b9]at h;rw[h.1,I.tg v l h.2]
 | .gz,.gz,h=>rfl
 | .agg cs,.agg e,h=>by simp only[I.same]at h;rw[I.nj cs e h]
 | .aM cs,.aM e,h=>by simp only[I.same]at h;rw[I.nj cs e h]
 | .bot,.bot,h=>rfl
theorem I.nj:(xs f:List I)→I.gE xs f=true→xs=f
 |[],[],h=>rfl
 | c::r,d::t,h=>by simp only[I.gE,Wn]at h;rw[I.tg c d h.1,I.nj r t h.2]
end
end Rb

namespace Rb
open Go Go.RowKit
variable{w:World}{fz:Nat→Nat→Prop}
def Z.mt:Z:={n:=0,o:=λ_=> .gone}
def b4.mt(fz:Nat→Nat→Prop):b4:={n:=0,loc:=λ_=>0,cap:=λ_=>0,fz:=fz}
theorem Rel.mt{F:dk}(h:∀b o,fz b o→∃V,w.cell? ⟨b,o,none⟩=some V):Rel F w (b4.mt fz) Z.mt:=⟨rfl,λ_ _=>rfl,λ_=>trivial,λ_ _ _ h _=>(by cases h),h⟩
theorem Step.below{w R:World}{G':b4}{H':Z}(h:Step w (b4.mt fz) Z.mt R G' H'):Below w.heap.size w R:=⟨h.os,h.tape,h.output,h.size,λk hk=>h.ep k hk λi hl=>by cases hl⟩
section
variable{H:Type}{enc:TypeId×Value→H}{P:Program}
def th(P:Program)(ts:List TypeId):Bool:=ts.all λt=>P.readableRec t&&decide (t<P.types.size)
theorem DK(hl:laidOutB P=true){W a:World}(c:Below W.heap.size W a) :
  ∀{ts:List TypeId}{vs:List Value}{ds:List (DataW H)}{ps:List MemPlace},th P ts=true→Y5 enc P W 0 (λ_=>true) true ts vs ds ps→Y5 enc P a 0 (λb=>decide (b<W.heap.size)) true ts vs ds ps
 |[],[],[],_,_,h=>h
 | t::ts,v::vs,d::ds,ps,ht,h=>by have e:=h.lt;obtain⟨p,q,f,g,rfl⟩:=h;simp only[th,Y6,Wn,dh]at ht;exact⟨p,q,Below.trod hl ht.1.1 ht.1.2 f c (λx i=>e x (by simp[i])),DK hl c (by simpa[th]using ht.2) g,rfl⟩
 |[],[],_::_,_,_,h=>h.elim
 |[],_::_,_,_,_,h=>by cases ‹List (DataW H)› <;> exact h.elim
 |_::_,[],_,_,_,h=>by cases ‹List (DataW H)› <;> exact h.elim
 |_::_,_::_,[],_,_,h=>h.elim
theorem M4{f:Func}{s:ChangeSpec}{e:Bool}{W g:World}{args:Array Value}{a b:List (DataW H)}{j:List MemPlace}{bt:TypeId}
  (i:DataW.Whole enc P f.params.toList s.vars e W args.toList a b j) (hl:laidOutB P=true) (ht:th P f.params.toList=true) (hv:varsRowed P s.vars=true)
  (k:f.resultTypes = #[bt]) (l:P.underlying bt=some .bool) (c:s.fn H (a++b)={results:=[.lit (.bool true)],args:=a,vars:=b}) (d:Below W.heap.size W g) :
  s.post enc P f e true false false W args (.bool true) g:=by
 have m:=i;obtain⟨p,q,n,o,rfl,r,t⟩:=i;refine⟨a,b,p++q,[],p,q,m,?_,?_,?_,d.frame _,λh=>by cases h⟩
 · rw[c,k];exact⟨[],[],shut_bool l _,rfl,rfl⟩
 · rw[c];exact DK hl d ht n
 · rw[c];exact d.trodVars hl hv o
end
end Rb

namespace Rb
open Go
theorem aj.run{C:Ctx}{a:Nat}{f:FuncId}{b:List I}{H:Z}{Q:ad}(h:aj C a b H Q)(hf:C.F a=some f){G:b4}{w:World}{Vs:Array Value}(c:eS C w G H)(d:Rel C.F w G H)(g:bo C.F w G b Vs) :
  Calls C.P f Vs w λe R=>∃V v H' G',e = .returned V∧Q v H'∧VR C.F R G' v V∧Rel C.F R G' H'∧Step w G H R G' H':=h.2 f hf G w Vs c d g
end Rb

namespace Rb
open Go
theorem oD.app{Φ:ae}{T U:iI}(W:oD Φ T)(a:oD Φ U):oD Φ (T++U):=by
 intro k f h args H Q hs;have key:∀(T:iI),(T++U).lookup k=some f→T.lookup k=some f∨U.lookup k=some f:=by
  intro T;induction T with
  |nil=>intro h;exact .inr h
  | cons p T b=>
   intro h;obtain⟨c,d⟩:=p;rw[Yi,Y4]at h;rw[Y4];split at h
   ·exact .inl h
   ·exact b h
 rcases key T h with h|h
 ·exact W k f h args H Q hs
 ·exact a k f h args H Q hs
mutual
def I.flat:I→Bool
 | .bool _ | .int _ _ | .str _ | .eY | .fZ | .gy | .gz=>true
 | .av .nil 0 []=>true
 | .agg cs=>I.qn cs
 | .aM cs=>I.qn cs
 |_=>false
def I.qn:List I→Bool
 |[]=>true
 |c::r=>I.flat c&&I.qn r
end
theorem y2:∀{cs:List I},I.qn cs=true→∀(j:Nat)(c:I),cs[j]?=some c→c.flat=true
 |[],_,j,c,h=>by simp at h
 | d::r,hf,j,c,h=>by
  simp only[I.qn,Wn]at hf;cases j with
  |zero=>simp at h;subst h;exact hf.1
  |succ j=>exact y2 hf.2 j c (by simpa using h)
theorem y5{F:dk}{w R:World}{G G':b4}{c:I}{V:Value}(hf:c.flat=true)(h:VR F w G c V):VR F R G' c V:=by
 induction h with
 |bot=>simp[I.flat]at hf
 |bool b=>exact .bool b
 |int k n=>exact .int k n
 |str s=>exact .str s
 |eY=>exact .eY
 |ptr=>simp[I.flat]at hf
 |ak=>simp[I.flat]at hf
 |fA=>exact .fA
 |fB=>simp[I.flat]at hf
 | av tk len cells b o cap Vs ht=>unfold I.flat at hf;split at hf<;>simp_all;exact ht.elim
 |row=>simp[I.flat]at hf
 |map=>simp[I.flat]at hf
 |fZ=>exact .fZ
 |fn=>simp[I.flat]at hf
 |ls=>simp[I.flat]at hf
 |gy=>exact .gy
 |iface=>simp[I.flat]at hf
 |gz=>exact .gz
 |agg cs Vs hl hv a=>exact .agg cs Vs hl λj c V hc d=>a j c V hc d (y2 (by simpa[I.flat]using hf) j c hc)
 |aM cs Vs hl hv a=>exact .aM cs Vs hl λj c V hc d=>a j c V hc d (y2 (by simpa[I.flat]using hf) j c hc)
theorem aj.frame{C:Ctx}{x:Nat}{p:List I}{Q:ad}(h:aj C x p Z.mt Q)(y:p.all I.flat=true)(aw:∀g l,C.GT g=some l→l.all I.flat=true)(H:Z)(K:ad)(z:∀v H',Q v H'→v.flat=true∧K v H):aj C x p H K:=by
 refine⟨by obtain⟨v,H',E⟩:=h.1;exact⟨v,H,(z v H' E).2⟩,λf hf G w Vs A a B=>?_⟩;have J:Rel C.F w (b4.mt G.fz) Z.mt:=Rel.mt a.gN;have L:bo C.F w (b4.mt G.fz) p Vs:=⟨B.1,λj c V hc r=>by rw[Xi]at y;exact y5 (y c (Y7 hc)) (B.2 j c V hc r)⟩
 have M:jr C w (b4.mt G.fz):=by
  intro g l d;have s:=A.1 g l d;have D:=aw g l d;rw[Xi]at D;generalize N:(Value.pointer (some ⟨g,0,none⟩))=X at s;generalize t:I.ak l=Y at s;cases s with
  | ak cells b o Vs h hv=>cases N;cases t;exact .ak _ _ _ Vs h λj c q=>y5 (D c (Y7 q)) (hv j c q)
  |bot=>cases t
  |_=>cases t
 · refine Yz (h.2 f hf _ w Vs (A.mt M λi hi=>by cases hi) J L) λe R he=>?_;obtain⟨V,v,H',G',rfl,O,hv,T,m⟩:=he;obtain⟨P,S⟩:=z v H' O;have u:=m.below;have d:GLe w G R G:=⟨hT _,λ_ _=>rfl,λ_ _=>rfl,λ_ _ h=>h,λb o V hf hc=>by
     rw[W1 (w:=w) (u.block b (W2 w _ hc))];exact hc⟩
   refine⟨V,v,H,G,rfl,S,y5 P hv,⟨a.n,a.over,λj=>(a.obj j).ca d (λhl=>a.h5 hl) (λhl=>u.block _ ((a.obj j).lt hl)) λ_ _ q=>q,a.gk,λb o hf=>?_⟩,?_⟩
   · obtain⟨V,r⟩:=a.gN b o hf;exact⟨V,d.cell b o V hf r⟩
   ·exact {d with size:=m.size,os:=m.os,tape:=m.tape,output:=m.output,ep:=λk hk _=>u.block k hk,owned:=λi hi _=>⟨i,hi,rfl⟩,gC:=λ_ _ h=> .inl h}
def DL:List I:=(Xa 256).map λi=> .int .u8 (if i=9∨i=10∨i=11∨i=12∨i=13∨i=32 then 1 else 0)
def qo:List Int:=[0,1,56,2,57,49,28,3,61,58,42,50,38,29,17,4,62,47,59,36,45,43,51,22,53,39,33,30,24,18,12,5,63,55,48,27,60,41,37,16,46,35,44,21,52,32,23,11,54,26,40,15,34,20,31,10,25,14,19,9,13,8,7,6]
def DM:List I:=qo.map (I.int .u8)
end Rb

namespace Rb
open Go
inductive TT where
 |leaf
 |node (x:cN) (l r:TT)
def TT.get:TT→Nat→cN
 | .leaf,_=> .gone
 | .node x l r,i=>bif Y8 i 0 then x else bif Y8 (i%2) 1 then l.get (i/2)else r.get (i/2-1)
def TT.km(x:cN):Nat→TT→Nat→TT
 |0,t,_=>t
 | f+1,t,i=>match t with
  | .leaf=>bif Y8 i 0 then .node x .leaf .leaf else bif Y8 (i%2) 1 then .node .gone (TT.km x f .leaf (i/2)) .leaf else .node .gone .leaf (TT.km x f .leaf (i/2-1))
  | .node a l r=>bif Y8 i 0 then .node x l r else bif Y8 (i%2) 1 then .node a (TT.km x f l (i/2)) r else .node a l (TT.km x f r (i/2-1))
theorem TT.DN(i:Nat):TT.get .leaf i = .gone:=rfl
theorem TT.nk(x:cN)(l r:TT)(i:Nat):(TT.node x l r).get i=if i=0 then x else if i%2=1 then l.get (i/2)else r.get (i/2-1):=by
 have c:∀a b:Nat,Y8 a b=decide (a=b):=λa b=>by rw[YG];simp
 simp only[TT.get,c,cond_eq_ite,dh]
theorem TT.DO(x:cN):∀(f:Nat)(t:TT)(i j:Nat),i<f→(TT.km x f t i).get j=if j=i then x else t.get j:=by
 intro f;induction f with
 |zero=>intro t i j h;omega
 | succ f g=>
  intro t i j h;have k:∀a b:Nat,Y8 a b=decide (a=b):=λa b=>by rw[YG];simp
  have key : ∀(a:cN)(l r:TT),(if i=0 then TT.node x l r else if i%2=1 then .node a (TT.km x f l (i/2)) r else .node a l (TT.km x f r (i/2-1))).get j=if j=i then x else(TT.node a l r).get j:=by
   intro a l r;by_cases hi:i=0
   · subst hi;rw[aa rfl,TT.nk,TT.nk];by_cases c:j=0
     ·simp[c]
     ·simp[c]
   · rw [ab hi];by_cases m:i%2=1
     · rw [aa m,TT.nk,TT.nk];rw[g _ _ _ (by omega)];by_cases c:j=0
       ·rw[aa c,aa c,bF]
       · rw [ab c,ab c];by_cases d:j%2=1
         · rw[aa d,aa d];by_cases e:j=i
           ·rw[aa e,aa (by rw[e])]
           ·rw[ab e,bF]
         ·rw[ab d,ab d,bF]
     · rw [ab m,TT.nk,TT.nk];rw[g _ _ _ (by omega)];by_cases c:j=0
       ·rw[aa c,aa c,bF]
       · rw [ab c,ab c];by_cases d:j%2=1
         ·rw[aa d,aa d,bF]
         · rw[ab d,ab d];by_cases e:j=i
           ·rw[aa e,aa (by rw[e])]
           ·rw[ab e,bF]
  cases t with
  | leaf=>simp only[TT.km,k,cond_eq_ite,dh];rw[key .gone .leaf .leaf,TT.nk,TT.DN];simp only[TT.DN,ite_self]
  | node a l r=>simp only[TT.km,k,cond_eq_ite,dh];exact key a l r
structure TH where
 n:Nat
 t:TT
def TH.ah(T:TH):Z:=⟨T.n,λi=>T.t.get i⟩
def TH.set(T:TH)(i:Nat)(x:cN):TH:=match T with|⟨n,t⟩=>⟨n,TT.km x (i+1) t i⟩
def TH.push(T:TH)(x:cN):TH:=match T with|⟨n,t⟩=>⟨n+1,TT.km x (n+1) t n⟩
def TH.mt:TH:=⟨0,.leaf⟩
@[simp] theorem TH.V7 (T:TH):T.ah.n=T.n:=rfl
@[simp] theorem TH.V8 (T:TH) (i:Nat) (x:cN):(T.set i x).ah=T.ah.set i x:=by simp only[TH.ah,TH.set,Z.set];congr 1;funext j;exact TT.DO x _ _ _ _ (Y9 _)
@[simp] theorem TH.M5 (T:TH) (x:cN):(T.push x).ah=T.ah.push x:=by simp only[TH.ah,TH.push,Z.push];congr 1;funext j;exact TT.DO x _ _ _ _ (Y9 _)
@[simp] theorem TH.M6:TH.mt.ah=Z.mt:=by simp only[TH.ah,TH.mt,Z.mt];congr 1
abbrev kn:=I→TH→Bool
abbrev eT:=Nat→List I→TH→kn→Bool
def eF{α:Type}(x:Option α)(K:α→Bool):Bool:=
 match x with
 |some a=>K a
 |none=>false
def ko(x:Option (I×TH))(K:kn):Bool:=
 match x with
 |some (v,T)=>K v T
 |none=>false
def tj(v:I)(a:Bool)(A B:Bool):Bool:=
 match v with
 | .bool b=>bif Y_ b a then B else A
 |_=>false
def y7(T:TH)(n:Nat)(x v:I):Option TH:=
 match x with
 | .ptr id o=>
  match T.t.get id with
  | .row cs=>if v.known∧v.cells.length=n∧v.cells.all I.scalar∧o+n≤cs.length then some (T.set id (.row (setCells cs o v.cells)))else none
  |_=>none
 |_=>none
def qp(T:TH)(mu:Bool)(cells:List I):I×TH:=if mu then(.ptr T.n 0,T.push (.row cells))else(.ak cells,T)
def y8(T:TH)(mu:Bool)(n:Nat)(v:I):Option (I×TH):=if v.known∧v.cells.length=n then some (qp T mu v.cells)else none
def y9(T:TH)(mu:Bool)(sz len:Nat)(a:List I)(b:List (Nat×Nat×I)):Option (I×TH):=
 (jk (We len a).flatten b).map λcells=>if mu then(.row T.n 0 len sz,T.push (.row cells))else(.av .full len cells,T)
def y_(T:TH)(mu:Bool)(sz b:Nat)(x y:I):Option (I×TH):=
 match hC T.ah sz y with
 |none=>none
 | some (m,news)=>
  if ¬news.all I.scalar then none else
  match x with
  | .av tk len cells=>
   if m=0 then some (.av tk len cells,T)
   else if ¬(cells.length=len*sz∧(len+m)*b≤140737488355328∧len+m≤9223372036854775807)then none
   else match tk,mu with
   | .nil,true | .full,true=>some (.row T.n 0 (len+m) sz,T.push (.row (cells++news)))
   | .nil,false | .full,false=>some (.av (.own T.n) (len+m) (cells++news),T.push (.tok ((len+m)*sz) sz))
   | .own t,_=>match T.t.get t with
    | .tok k a=>if k=len*sz∧a=sz then some (.av (.own T.n) (len+m) (cells++news),(T.set t .gone).push (.tok ((len+m)*sz) sz))else none
    |_=>none
   | .dead,_=>none
  | .row id o len a=>
   match T.t.get id with
   | .row cs=>
    if m=0 then some (.row id o len a,T)
    else if ¬(o=0∧a=sz∧(len+m)*b≤140737488355328∧len+m≤9223372036854775807)then none
    else if(len+m)*sz≤cs.length then some (.row id 0 (len+m) sz,T.set id (.row (setCells cs (len*sz) news)))
    else if cs.length=len*sz then some (.row T.n 0 (len+m) sz,(T.set id .gone).push (.row (cs++news)))
    else none
   |_=>none
  |_=>none
def za(T:TH)(x:I):Option (I×TH):=
 match x with
 | .str s=>some (.ptr T.n 0,T.push (.hB s 0))
 |_=>none
def zb(T:TH)(x:I):Option (I×TH):=
 match x with
 | .ptr id 0=>
  match T.t.get id with
  | .hB s pos=>
   if pos<s.length then
    let d:=Utf8.decode ⟨s.toArray⟩ pos
    some (.aM [.bool true,.int .i64 pos,.int .i32 d.1],T.set id (.hB s (pos+d.2)))
   else some (.aM [.bool false],T)
  |_=>none
 |_=>none
def tl(T:TH)(mu:Bool)(sz b:Nat)(a:List I)(len cap:I):Option (I×TH):=
 match len,cap with
 | .int .i64 n,.int .i64 c=>
  if 0≤n∧n≤c∧b*c≤281474976710656∧c≤9223372036854775807∧a.length=sz then
   if mu then some (.row T.n 0 n.toNat sz,T.push (.row (We c.toNat a).flatten))
   else if n=c then some (.av .full n.toNat (We n.toNat a).flatten,T)else none
  else none
 |_,_=>none
def zc(T:TH)(sz:Nat)(x y:I):Option (I×TH):=
 match x,hC T.ah sz y with
 | .row id o len _,some (m,news)=>
  match T.t.get id with
  | .row cs=>
   let n:=min m len
   if news.all I.scalar∧o+n*sz≤cs.length then some (.int .i64 n,T.set id (.row (setCells cs o (news.take (n*sz)))))else none
  |_=>none
 |_,_=>none
def zd(T:TH)(kk:FK)(m k v:I):Option TH:=
 match m with
 | .map id=>
  match T.t.get id with
  | .map es=>if plainKey kk k∧v.known then(jl kk k es 0).map λr=>(match r with
      |some (i,_)=>T.set id (.map (es.set i (k,v)))
      |none=>T.set id (.map (es++[(k,v)])))else none
  |_=>none
 |_=>none
def ze(T:TH)(kk:FK)(m k:I):Option TH:=
 match m with
 | .map id=>
  match T.t.get id with
  | .map es=>if plainKey kk k then(jl kk k es 0).map λr=>(match r with
      |some (i,_)=>T.set id (.map (es.eraseIdx i))
      |none=>T)else none
  |_=>none
 |_=>none
def qq(T:TH)(x:I):Option (I×TH):=
 match x with
 | .row id o len sz=>
  match T.t.get id with
  | .row cs=>if o+len*sz≤cs.length then some (.av .dead len ((cs.drop o).take (len*sz)),T.set id .gone)else none
  |_=>none
 | .ptr id o=>
  match T.t.get id with
  | .row cs=>match jI (λi=>T.t.get i) cs with
   |some (l,a)=>if a=id then none else some (.ptr id o,(T.set a .gone).set id (.row l))
   |none=>some (.ak (cs.drop o),T.set id .gone)
  |_=>none
 | .av tk len cells=>some (.av tk len cells,T)
 | .ak cs=>some (.ak cs,T)
 | .agg cells=>match jI (λi=>T.t.get i) cells with
  |some (l,id)=>some (.agg l,T.set id .gone)
  |none=>some (.agg cells,T)
 |_=>none
def text(T:TH)(e:Ext)(xs:List I):Option (I×TH):=
 match e,xs with
 | .n8 t,[.iface t' v]=>if t'=t then some (v,T)else none
 | .mg neg,[.ptr i o,.ptr j p]=>
  match T.t.get i,T.t.get j with
  | .row _,.row _=>if i=j then some (.bool (if neg then !(o==p)else o==p),T)else some (.bool neg,T)
  |_,_=>none
 | .clear sz zero,[.row id o len z]=>
  if len=0 then some (.aM [],T)else
  match T.t.get id with
  | .row cs=>if zero.all I.scalar∧zero.length=sz∧o+len*sz≤cs.length then some (.aM [],T.set id (.row (setCells cs o (We len zero).flatten)))else none
  |_=>none
 | .clear _ _,[.av _ 0 _]=>some (.aM [],T)
 | .grow sz bytes zero,[.av .nil 0 [],.int .i64 n]=>if 0<n∧n.toNat*bytes≤281474976710656∧n≤9223372036854775807∧zero.length=sz∧0<sz then some (.row T.n 0 n.toNat sz,T.push (.row (We n.toNat zero).flatten))else none
 | .kb t,[]=>some (.ptr T.n 0,T.push (.ha t false none))
 | .kb t,[.agg [.eY,.av .nil 0 []]]=>some (.ptr T.n 0,T.push (.ha t false none))
 |_,_=>none
def vh(r:I×TH):I×Z:=(r.1,r.2.ah)
theorem M7(T:TH)(e:Ext)(xs:List I):(text T e xs).map vh=eR T.ah e xs:=by
 have a:∀i,T.ah.o i=T.t.get i:=λ_=>rfl;cases e with
 |stuck=>cases xs<;>rfl
 | n8 t=>
  cases xs with
  |nil=>rfl
  | cons x r=>
   cases r with
   |cons y r=>cases x<;>rfl
   | nil=>
    cases x<;>try rfl
    simp only[text,eR];split<;>rfl
 | mg neg=>
  cases xs with
  |nil=>rfl
  | cons x r=>
   cases r with
   |nil=>cases x<;>rfl
   | cons y r=>
    cases r with
    |cons z r=>cases x<;>cases y<;>rfl
    | nil=>
     cases x<;>cases y<;>try rfl
     simp only[text,eR,a];rename_i i o j p;cases T.t.get i<;>cases T.t.get j<;>try rfl
     dsimp only;split<;>rfl
 | kb t=>
  cases xs with
  |nil=>simp[text,eR,vh]
  | cons x r=>
   by_cases b:x = .agg [.eY,.av .nil 0 []]∧r=[]
   · obtain⟨rfl,rfl⟩:=b;simp[text,eR,vh]
   · have c:text T (.kb t) (x::r)=none:=by
       unfold text;split<;>first|rfl|(exfalso;simp_all;done)|simp_all
     have d:eR T.ah (.kb t) (x::r)=none:=by unfold eR;split<;>first|rfl|(exfalso;simp_all;done)|simp_all
     rw[c,d];rfl
 | grow sz bytes zero=>
  cases xs with
  |nil=>rfl
  | cons x r=>
   cases r with
   | nil=>
    cases x<;>try rfl
    rename_i tk len cells;cases tk<;>cases len<;>cases cells<;>rfl
   | cons y r=>
    cases r with
    | cons z r=>
     cases x<;>try rfl
     rename_i tk len cells;cases tk<;>cases len<;>cases cells<;>try rfl
     cases y<;>try rfl
     rename_i k n;cases k<;>rfl
    | nil=>
     cases x<;>try rfl
     rename_i tk len cells;cases tk<;>cases len<;>cases cells<;>try rfl
     cases y<;>try rfl
     rename_i k n;cases k<;>try rfl
     simp only[text,eR];split
     ·simp[vh]
     ·rfl
 | clear sz zero=>
  cases xs with
  |nil=>rfl
  | cons x r=>
   cases r with
   | cons y r=>
    cases x<;>try rfl
    rename_i tk len cells;cases len<;>rfl
   | nil =>
    cases x<;>try rfl
    · rename_i tk len cells;cases len<;>rfl
    · rename_i id o len z;simp only[text,eR,a];split
      ·rfl
      · cases T.t.get id<;>try rfl
        dsimp only;split
        ·simp[vh]
        ·rfl
theorem M8(T:TH)(n:Nat)(x v:I):(y7 T n x v).map TH.ah=ax T.ah n x v:=by
 unfold y7 ax;cases x<;>try rfl
 dsimp only;show _=match T.t.get _ with | .row cs=>_|_=>_
 split
 ·split<;>simp
 ·rfl
theorem DP(T:TH)(mu:Bool)(cells:List I):vh (qp T mu cells)=aR T.ah mu cells:=by unfold qp aR vh;split<;>simp
theorem M9(T:TH)(mu:Bool)(n:Nat)(v:I):(y8 T mu n v).map vh=bg T.ah mu n v:=by
 unfold y8 bg;split
 ·simp[DP]
 ·rfl
theorem M_(T:TH)(mu:Bool)(sz len:Nat)(a:List I)(parts:List (Nat×Nat×I)):(y9 T mu sz len a parts).map vh=c9 T.ah mu sz len a parts:=by unfold y9 c9;rw[Option.map_map];congr 1;funext cells;simp only[Function.comp,vh];split<;>simp
theorem Na(T:TH)(mu:Bool)(sz a:Nat)(x y:I):(y_ T mu sz a x y).map vh=cX T.ah mu sz a x y:=by
 unfold y_ cX;have b:∀i,T.ah.o i=T.t.get i:=λ_=>rfl;simp only[b];cases c:hC T.ah sz y with
 |none=>rfl
 | some p =>
  obtain⟨m,news⟩:=p;dsimp only;by_cases hs:news.all I.scalar=true
  · simp only [hs,not_true_eq_false,cu];cases x<;>try rfl
    · rename_i tk len cells;dsimp only;by_cases hm:m=0
      ·simp only[aa hm];rfl
      · simp only[ab hm];by_cases hc:¬(cells.length=len*sz∧(len+m)*a≤140737488355328∧len+m≤9223372036854775807)
        ·simp only[aa hc];rfl
        · simp only[ab hc];cases tk<;>cases mu<;>try (simp[vh];done)
          all_goals
           rename_i t;dsimp only;cases ht:T.t.get t<;>try rfl
           dsimp only;split<;>simp[vh]
    · rename_i id o len d;dsimp only;cases ht:T.t.get id<;>try rfl
      dsimp only;split
      ·rfl
      · split
        ·rfl
        · split
          ·simp[vh]
          ·split<;>simp[vh]
  ·simp only[hs,not_false_eq_true,aY];rfl
theorem Nb(T:TH)(x:I):(za T x).map vh=m5 T.ah x:=by unfold za m5;cases x<;>simp[vh]
theorem Nc(T:TH)(x:I):(zb T x).map vh=kJ T.ah x:=by
 have a:∀i,T.ah.o i=T.t.get i:=λ_=>rfl;cases x<;>try rfl
 rename_i id off;cases off with
 |succ k=>rfl
 | zero=>
  simp only[zb,kJ,a];cases ht:T.t.get id<;>try rfl
  dsimp only;split<;>simp[vh]
theorem Nd(T:TH)(mu:Bool)(sz a:Nat)(b:List I)(len cap:I):(tl T mu sz a b len cap).map vh=lu T.ah mu sz a b len cap:=by
 have go:∀n c:Int,(tl T mu sz a b (.int .i64 n) (.int .i64 c)).map vh=lu T.ah mu sz a b (.int .i64 n) (.int .i64 c):=by
  intro n c;simp only[tl,lu];by_cases h:0≤n∧n≤c∧a*c≤281474976710656∧c≤9223372036854775807∧b.length=sz
  · simp only[aa h];by_cases hm:mu=true
    ·simp only[aa hm];simp[vh]
    · simp only[ab hm];by_cases d:n=c
      ·simp only[aa d];rfl
      ·simp only[ab d];rfl
  ·simp only[ab h];rfl
 cases len<;>try rfl
 rename_i k n;cases k<;>try rfl
 cases cap<;>try rfl
 rename_i k c;cases k<;>try rfl
 exact go n c
theorem Nf(T:TH)(sz:Nat)(x y:I):(zc T sz x y).map vh=p3 T.ah sz x y:=by
 have a:∀i,T.ah.o i=T.t.get i:=λ_=>rfl;unfold zc p3;cases b:hC T.ah sz y with
 |none=>cases x<;>rfl
 | some p=>
  cases x<;>try rfl
  rename_i id o len c;simp only[a];cases ht:T.t.get id<;>try rfl
  dsimp only;split<;>simp[vh]
theorem Ng(T:TH)(kk:FK)(m k v:I):(zd T kk m k v).map TH.ah=p5 T.ah kk m k v:=by
 have a:∀i,T.ah.o i=T.t.get i:=λ_=>rfl;cases m<;>try rfl
 rename_i id;simp only[zd,p5,a];cases ht:T.t.get id<;>try rfl
 rename_i es;dsimp only;by_cases h:plainKey kk k∧v.known
 · simp only[aa h];cases hf:jl kk k es 0 with
   |none=>rfl
   |some r=>cases r<;>simp
 ·simp only[ab h];rfl
theorem Nh(T:TH)(kk:FK)(m k:I):(ze T kk m k).map TH.ah=p6 T.ah kk m k:=by
 have a:∀i,T.ah.o i=T.t.get i:=λ_=>rfl;cases m<;>try rfl
 rename_i id;simp only[ze,p6,a];cases ht:T.t.get id<;>try rfl
 rename_i es;dsimp only;by_cases h:plainKey kk k
 · simp only[aa h];cases hf:jl kk k es 0 with
   |none=>rfl
   |some r=>cases r<;>simp
 ·simp only[ab h];rfl
theorem Ni(T:TH)(x:I):(qq T x).map vh=mf T.ah x:=by
 have b:∀i,T.ah.o i=T.t.get i:=λ_=>rfl;cases x<;>try rfl
 · rename_i id o;simp only[qq,mf,b];cases ht:T.t.get id<;>try rfl
   rename_i cs;dsimp only;show Za vh (match jI T.ah.o cs with
     |some (l,a)=>if a=id then none else some (.ptr id o,(T.set a .gone).set id (.row l))
     |none=>some (.ak (cs.drop o),T.set id .gone))=_
   cases jI T.ah.o cs with
   |none=>simp[vh]
   | some q=>
    obtain⟨l,a⟩:=q;dsimp only;by_cases e:a=id
    ·rw[aa e,aa e];rfl
    ·rw[ab e,ab e];simp[vh]
 · rename_i id o len sz;simp only[qq,mf,b];cases ht:T.t.get id<;>try rfl
   dsimp only;split<;>simp[vh]
 · rename_i cells;simp only[qq,mf];show Za vh (match jI T.ah.o cells with|some (l,id)=>some (.agg l,T.set id .gone)|none=>some (.agg cells,T))=_;cases jI T.ah.o cells with
   |none=>rfl
   |some q=>simp[vh]
end Rb

namespace Rb
open Go
variable{n:Nat}{env:Env}{Φ:ae}{H:Z}{ops:List cf}{o:cf}
noncomputable section
abbrev EV:=List (Nat×I)
def eU(E:EV)(t:Nat):I:=List.rec (motive:=λ_=>I) .bot (λp _ a=>cond (Y8 p.1 t) p.2 a) E
def fm(n:Nat)(E:EV)(t:Nat)(v:I):EV:=cond (Zb t n) ((t,v)::E) E
def gn(n:Nat)(E:EV)(d:Option Nat)(v:I):EV:=
 match d with
 |some t=>fm n E t v
 |none=>E
theorem Nj(a b:Nat):Y8 a b=decide (a=b):=by rw[YG];simp
theorem Nk(a b:Nat):Zb a b=decide (a<b):=by rw[YG];simp[Zb];omega
theorem DQ(t:Nat)(v:I)(E:EV)(i:Nat):eU ((t,v)::E) i=if t=i then v else eU E i:=by show cond (Y8 t i) v (eU E i)=_;rw[Nj,cond_eq_ite];simp
def ez(n:Nat)(E:EV)(env:Env):Prop:=env.length=n∧∀i,eU E i=env.getD i .bot
theorem ez.set{E:EV}(h:ez n E env)(t:Nat)(v:I):ez n (fm n E t v) (env.set t v):=by
 refine⟨by simp[h.1],λi=>?_⟩;unfold fm;rw[Nk,cond_eq_ite];by_cases ht:t<n
 · rw[aa (by simpa using ht),DQ,XH,WK];by_cases e:t=i
   ·rw[aa e,aa e,aa (by rw[h.1];exact ht)];rfl
   ·rw[ab e,ab e,←XH];exact h.2 i
 · rw[ab (by simpa using ht),YZ (by rw[h.1];omega)];exact h.2 i
theorem ez.cg{E:EV}(h:ez n E env)(d:Option Nat)(v:I):ez n (gn n E d v) (Rb.cg env d v):=by
 cases d with
 |none=>exact h
 |some t=>exact h.set t v
def nl:List I→Nat→EV
 |[],_=>[]
 |a::r,i=>(i,a)::nl r (i+1)
theorem DS:∀(b:List I)(i j:Nat),eU (nl b i) j=if j<i then .bot else b.getD (j-i) .bot
 |[],i,j=>by simp[nl,eU]
 | a :: r,i,j=>by
  rw[nl,DQ,DS r (i+1) j];by_cases h:i=j
  ·subst h;simp
  · rw[ab h];by_cases c:j<i
    ·rw[df,aa c]
    ·rw[bF,ab c,show j-i=(j-(i+1))+1 by omega];simp
def bK.sub(E:EV):bK→bK
 | .t n=> .k (eU E n)
 | .k v=> .k v
theorem zf{E:EV}(h:ez n E env)(x:bK):(x.sub E).ev []=x.ev env:=by
 cases x with
 |t i=>exact h.2 i
 |k v=>rfl
def ej.sub(E:EV):ej→ej
 | .mv x=> .mv (x.sub E)
 | .pick c a b=> .pick (c.sub E) (a.sub E) (b.sub E)
 | .bin op x y=> .bin op (x.sub E) (y.sub E)
 | .beq neg x y=> .beq neg (x.sub E) (y.sub E)
 | .jJ k neg x=> .jJ k neg (x.sub E)
 | .i0 neg ks x y=> .i0 neg ks (x.sub E) (y.sub E)
 | .un op x=> .un op (x.sub E)
 | .conv k x=> .conv k (x.sub E)
 | .same x=> .same (x.sub E)
 | .kc x=> .kc (x.sub E)
 | .field off sz agg x=> .field off sz agg (x.sub E)
 | .idx l sz agg x i=> .idx l sz agg (x.sub E) (i.sub E)
 | .idxs x i=> .idxs (x.sub E) (i.sub E)
 | .kd off x=> .kd off (x.sub E)
 | .jK arr sz x i=> .jK arr sz (x.sub E) (i.sub E)
 | .slice sz x lo hi mx=> .slice sz (x.sub E) (lo.map (bK.sub E)) (hi.map (bK.sub E)) (mx.map (bK.sub E))
 | .ke x lo hi=> .ke (x.sub E) (lo.map (bK.sub E)) (hi.map (bK.sub E))
 | .hZ t x=> .hZ t (x.sub E)
 | .hD key b_=> .hD key (b_.map (bK.sub E))
 | .extract i x=> .extract i (x.sub E)
 | .build zero parts=> .build zero (parts.map λp=>(p.1,p.2.1,p.2.2.sub E))
 | .len str x=> .len str (x.sub E)
 | .h0 n=> .h0 n
 | .cap x=> .cap (x.sub E)
 | .h1 mx xs=> .h1 mx (xs.map (bK.sub E))
 | .load n agg x=> .load n agg (x.sub E)
 | .store n x v=> .store n (x.sub E) (v.sub E)
 | .box mu n x=> .box mu n (x.sub E)
 | .alloc mu zero=> .alloc mu zero
 | .hE mu sz l zero parts=> .hE mu sz l zero (parts.map λp=>(p.1,p.2.1,p.2.2.sub E))
 | .append mu sz bytes x y=> .append mu sz bytes (x.sub E) (y.sub E)
 | .make mu sz bytes zero l c=> .make mu sz bytes zero (l.sub E) (c.sub E)
 | .copy sz x y=> .copy sz (x.sub E) (y.sub E)
 | .hF=> .hF
 | .lookup kk zero ok m k=> .lookup kk zero ok (m.sub E) (k.sub E)
 | .h2 kk m k v=> .h2 kk (m.sub E) (k.sub E) (v.sub E)
 | .delete kk m k=> .delete kk (m.sub E) (k.sub E)
 | .iu m=> .iu (m.sub E)
 | .kf x=> .kf (x.sub E)
 | .iv x=> .iv (x.sub E)
 | .iw x=> .iw (x.sub E)
 | .iy x=> .iy (x.sub E)
 | .call key args=> .call key (args.map (bK.sub E))
 | .iz f args=> .iz (f.sub E) (args.map (bK.sub E))
 | .ext e xs=> .ext e (xs.map (bK.sub E))
 | .inv iA x args=> .inv iA (x.sub E) (args.map (bK.sub E))
theorem tm{E:EV}(h:ez n E env){K:ad}(op:ej):ct Φ [] H K (op.sub E)=ct Φ env H K op:=by
 have a:=zf h;have hl:∀xs:List bK,eE [] (xs.map (bK.sub E))=eE env xs:=λxs=>by simp only[eE,Zc];congr 1;funext x;exact a x
 have b:∀xs:List (Nat×Nat×bK),gD [] (xs.map λp=>(p.1,p.2.1,p.2.2.sub E))=gD env xs:=λxs=>by simp only[gD,Zc];congr 1;funext x;simp[a]
 have c:∀x:Option bK,(x.map (bK.sub E)).map (bK.ev [])=x.map (bK.ev env):=λx=>by cases x<;>simp[a]
 cases op<;>simp only[ej.sub,ct,a,hl,b,c]
abbrev jR:=EV→Z→Prop
def jS(Φ:ae)(n:Nat):List cf→EV→Z→jR→Prop
 |[],E,H,K=>K E H
 | o :: r,E,H,K=>
  match o.guard with
  |none=>ct Φ [] H (λv H'=>jS Φ n r (gn n E o.dst v) H' K) (o.op.sub E)
  | some (s,want)=>
   aQ (eU E s) want (ct Φ [] H (λv H'=>jS Φ n r (gn n (fm n E s (.bool want)) o.dst v) H' K) (o.op.sub (fm n E s (.bool want))))
    (jS Φ n r (gn n (fm n E s (.bool !want)) o.dst (.aM [])) H K) (jS Φ n r (gn n (fm n E s (.aM [])) o.dst (.aM [])) H K)
theorem aQ.imp{v:I}{b:Bool}{A B C c d e:Prop}(f:A→c)(g:B→d)(i:C→e)(h:aQ v b A B C):aQ v b c d e:=by
 unfold aQ at *;split at h
 · split at h
   ·rename_i a;simp[a,f h]
   ·rename_i a;simp[a,g h]
 ·exact i h
 ·exact h.elim
theorem DT(d:jN Φ):∀{l:List cf}{E:EV}{env:Env}{H:Z}{K:jR}{Q:Env→Z→Prop},ez n E env→jS Φ n l E H K→(∀e bm H',ez n e bm→K e H'→Q bm H')→iB Φ l env H Q:=by
 intro l;induction l with
 |nil=>intro E env H K Q a h b;exact b _ _ _ a h
 | cons o r c=>
  intro E env H K Q a h b;simp only[jS]at h;simp only[iB];cases f:o.guard with
  | none=>rw[f]at h;dsimp only at h ⊢;rw[tm a]at h;exact ow d (λv H' h=>c (a.cg _ _) h b) h
  | some g=>obtain⟨s,want⟩:=g;rw[f]at h;dsimp only at h ⊢;rw[a.2 s,tm (a.set s _)]at h;exact aQ.imp (ow d λv H' h=>c ((a.set _ _).cg _ _) h b) (λh=>c ((a.set _ _).cg _ _) h b) (λh=>c ((a.set _ _).cg _ _) h b) h
def oE(Φ:ae)(n:Nat)(o:cf)(E:EV)(H:Z)(K:jR):Prop:=
 match o.guard with
 |none=>ct Φ [] H (λv H'=>K (gn n E o.dst v) H') (o.op.sub E)
 | some (s,want)=>
  aQ (eU E s) want (ct Φ [] H (λv H'=>K (gn n (fm n E s (.bool want)) o.dst v) H') (o.op.sub (fm n E s (.bool want))))
   (K (gn n (fm n E s (.bool !want)) o.dst (.aM [])) H) (K (gn n (fm n E s (.aM [])) o.dst (.aM [])) H)
theorem DU(c:jN Φ){E:EV}{K:jR}{Q:Env→Z→Prop}(a:ez n E env)(h:oE Φ n o E H K)(b:∀d bm H',ez n d bm→K d H'→Q bm H'):jm Φ o env H Q:=by
 unfold oE at h;unfold jm;cases e:o.guard with
 | none=>rw[e]at h;dsimp only at h ⊢;rw[tm a]at h;exact ow c (λv H' h=>b _ _ _ (a.cg _ _) h) h
 | some g=>obtain⟨s,want⟩:=g;rw[e]at h;dsimp only at h ⊢;rw[a.2 s,tm (a.set s _)]at h;exact aQ.imp (ow c λv H' h=>b _ _ _ ((a.set _ _).cg _ _) h) (λh=>b _ _ _ ((a.set _ _).cg _ _) h) (λh=>b _ _ _ ((a.set _ _).cg _ _) h) h
def mo(Φ:ae)(n:Nat)(ops:List cf):List Nat→EV→Z→jR→Prop
 |[],E,H,K=>K E H
 | i::r,E,H,K=>match ops[i]? with
  |some o=>oE Φ n o E H λa H'=>mo Φ n ops r a H' K
  |none=>False
theorem DV(d:jN Φ):∀{l:List Nat}{E:EV}{env:Env}{H:Z}{K:jR}{Q:Env→Z→Prop},ez n E env→mo Φ n ops l E H K→(∀a bm H',ez n a bm→K a H'→Q bm H')→kK Φ ops l env H Q:=by
 intro l;induction l with
 |nil=>intro E env H K Q b h c;exact c _ _ _ b h
 | cons i r e=>
  intro E env H K Q b h c;simp only[mo]at h;simp only[kK];split at h
  · rename_i o f;rw[f];exact DU d b h λa bm H' g j=>e g j c
  ·exact h.elim
def oF(E:EV)(H:Z)(o:cf):Prop:=
 match o.op with
 | .load n agg x=>O H n agg ((x.sub E).ev [])=some (eU E (o.dst.getD 0))
 | .lookup kk zero ok m k=>mc H kk zero ok ((m.sub E).ev []) ((k.sub E).ev [])=some (eU E (o.dst.getD 0))
 | .iu m=>me H ((m.sub E).ev [])=some (eU E (o.dst.getD 0))
 | .iv x=>abstr H ((x.sub E).ev [])=some (eU E (o.dst.getD 0))
 |_=>True
def qs(E:EV)(H:Z)(o:cf):Prop:=
 match o.guard with
 |none=>oF E H o
 |some (s,want)=>eU E s = .bool want→oF E H o
theorem Nl{E:EV}(a:ez n E env)(h:qs E H o):p9 env H o:=by
 have b:=zf a;have fin:oF E H o→n9 env H o:=by unfold oF n9;intro h;cases d:o.op<;>rw[d]at h<;>dsimp only at h ⊢ <;> (try rw[b]at h)<;>(try rw[b]at h)<;>(try rw[a.2]at h)<;>exact h
 unfold qs at h;unfold p9;cases c:o.guard with
 |none=>rw[c]at h;exact fin h
 | some g=>obtain⟨s,want⟩:=g;rw[c]at h;dsimp only at h ⊢;rw[a.2]at h;exact λhs=>fin (h hs)
def tn(ops:List cf)(E:EV)(H:Z)(X:Prop):List Nat→Prop
 |[]=>X
 |l::r=>(match ops[l]? with|some o=>qs E H o|none=>True)∧tn ops E H X r
theorem Nn{E:EV}(b:ez n E env){X Y:Prop}(c:X→Y):∀{l:List Nat},tn ops E H X l→gE ops env H Y l:=by
 intro l;induction l with
 |nil=>intro h;exact c h
 | cons i r d=>
  intro h;refine⟨?_,d h.2⟩;have a:=h.1;cases e:ops[i]? with
  |none=>trivial
  |some o=>rw[e]at a;exact Nl b a
def oG(Φ:ae)(n:Nat)(ops:List cf)(a:List Nat):List (List Nat×Nat×List Nat)→EV→Z→jR→Prop
 |[],E,H,K=>mo Φ n ops a E H K
 | (d,e,st)::r,E,H,K=>mo Φ n ops d E H λb H1=>match ops[e]? with
  |some o=>oE Φ n o b H1 λf c=>tn ops b c (oG Φ n ops a r f c K) st
  |none=>False
theorem Np(b:jN Φ){f:List Nat}:∀{bX:List (List Nat×Nat×List Nat)}{E:EV}{env:Env}{H:Z}{K:jR}{Q:Env→Z→Prop},ez n E env→oG Φ n ops f bX E H K→(∀g bm H',ez n g bm→K g H'→Q bm H')→jn Φ ops f bX env H Q:=by
 intro bX;induction bX with
 |nil=>intro E env H K Q c h d;exact DV b c h d
 | cons p r k=>
  obtain⟨q,e,st⟩:=p;intro E env H K Q c h d;simp only[oG]at h;simp only[jn];refine DV b c h λs e1 H1 i a=>?_;cases j:ops[e]? with
  |none=>rw[j]at a;exact a.elim
  | some o=>rw[j]at a;exact DU b i a λt u v l m=>Nn i (λh=>k l h d) m
def iJ(E:EV)(vs:List Nat):List I:=vs.map λt=>eU E t
def jT(n:Nat)(E:EV):List Nat→EV
 |[]=>E
 |t::r=>jT n (fm n E t .bot) r
def jU(n:Nat)(E:EV):List Nat→List I→EV
 |t::r,s=>jU n (fm n E t (s.headD .bot)) r s.tail
 |[],_=>E
theorem ez.eZ{E:EV}(h:ez n E env)(vs:List Nat):iJ E vs=Rb.eZ env vs:=by simp only[iJ,Rb.eZ];congr 1;funext t;exact h.2 t
theorem ez.gQ{n:Nat}:∀(ks:List Nat){E:EV}{env:Env},ez n E env→ez n (jT n E ks) (Rb.gQ env ks)
 |[],_,_,h=>h
 |t::r,_,_,h=>ez.gQ r (h.set t _)
theorem ez.i3{n:Nat}:∀(vs:List Nat)(a:List I){E:EV}{env:Env},ez n E env→ez n (jU n E vs a) (Rb.i3 env vs a)
 |[],_,_,_,h=>h
 |t::r,a,_,_,h=>ez.i3 r a.tail (h.set t _)
def fa(Φ:ae)(n:Nat):fO→EV→Z→(kg→EV→Z→Prop)→Prop
 | .skip,E,H,Q=>Q .normal E H
 | .region ops,E,H,Q=>jS Φ n ops E H (Q .normal)
 | .draw ops _ bX last,E,H,Q=>oG Φ n ops last bX E H (Q .normal)
 | .seq a b,E,H,Q=>fa Φ n a E H λe c H'=>match e with
  | .normal=>fa Φ n b c H' Q
  |e=>Q e c H'
 | .join vs ks a b,E,H,Q=>fa Φ n a E H λe c H'=>match e with
  | .normal=>U (λst d=>fa Φ n b (jU n (jT n E ks) vs st) d Q) (iJ c vs) H'
  |e=>Q e c H'
 | .cond x a b,E,H,Q=>L ((x.sub E).ev []) true (fa Φ n a E H Q) (fa Φ n b E H Q)
 | .block id a,E,H,Q=>fa Φ n a E H λe c H'=>match e with
  | .exit f=>if f=id then Q .normal c H' else Q (.exit f) c H'
  |e=>Q e c H'
 | .loop vs ks a,E,H,Q=>
  au (λ(s:List I×Z) (K:List I×Z→Prop)=>
    fa Φ n a (jU n (jT n E ks) vs s.1) s.2 λe c H'=>match e with
     | .normal=>K (iJ c vs,H')
     |e=>Q e c H') (iJ E vs,H)
 | .exit id,E,H,Q=>Q (.exit id) E H
 | .ret,E,H,Q=>Q .ret E H
 | .freeze t a,E,H,Q=>aJ (mf H (eU E t)) λv H'=>fa Φ n a (fm n E t v) H' Q
 | .i2 vs ks ops b,E,H,Q=>jS Φ n ops E H λc H'=>U (λst d=>fa Φ n b (jU n (jT n E ks) vs st) d Q) (iJ c vs) H'
theorem au.imp{a:Type}{F b:a→(a→Prop)→Prop}(c:∀s K,F s K→b s K){s:a}(h:au F s):au b s:=λd e=>h d λs K hs f=>e s K (c s K hs) f
theorem Nq(p:jN Φ):∀{c:fO}{E:EV}{env:Env}{H:Z}{K:kg→EV→Z→Prop}{Q:kg→Env→Z→Prop},ez n E env→fa Φ n c E H K→(∀x j bm H',ez n j bm→K x j H'→Q x bm H')→f_ Φ c env H Q:=by
 intro c;induction c with
 |skip=>intro E env H K Q d h e;exact e _ _ _ _ d h
 |region ops=>intro E env H K Q d h e;exact DT p d h λ_ _ _ d h=>e _ _ _ _ d h
 |draw ops pr bX last=>intro E env H K Q d h e;exact Np p d h λ_ _ _ d h=>e _ _ _ _ d h
 | seq a b l m=>
  intro E env H K Q d h e;simp only[fa]at h;simp only[f_];refine l d h λx j o H' g f=>?_;cases x with
  |normal=>exact m g f e
  |exit i=>exact e _ _ _ _ g f
  |ret=>exact e _ _ _ _ g f
 | join vs ks a b l m=>
  intro E env H K Q d h e;simp only[fa]at h;simp only[f_];refine l d h λx j o H' g f=>?_;cases x with
  | normal=>dsimp only at f ⊢;rw[g.eZ vs]at f;exact m ((d.gQ ks).i3 vs _) f e
  |exit i=>exact e _ _ _ _ g f
  |ret=>exact e _ _ _ _ g f
 | cond x a b l m=>intro E env H K Q d h e;simp only[fa,zf d]at h;exact L.mono (λh=>l d h e) (λh=>m d h e) h
 | block id a k=>
  intro E env H K Q d h e;simp only[fa]at h;simp only[f_];refine k d h λx j o H' g f=>?_;cases x with
  |normal=>exact e _ _ _ _ g f
  | exit i=>
   dsimp only at f ⊢;split
   ·rename_i hi;rw[aa hi]at f;exact e _ _ _ _ g f
   ·rename_i hi;rw[ab hi]at f;exact e _ _ _ _ g f
  |ret=>exact e _ _ _ _ g f
 | loop vs ks a k=>
  intro E env H K Q d h e;simp only[fa]at h;simp only[f_];rw[d.eZ vs]at h;refine au.imp (λs K' hs=>k ((d.gQ ks).i3 vs s.1) hs λx j o H' g f=>?_) h;cases x with
  |normal=>dsimp only at f ⊢;rw[←g.eZ vs];exact f
  |exit i=>exact e _ _ _ _ g f
  |ret=>exact e _ _ _ _ g f
 |exit id=>intro E env H K Q d h e;exact e _ _ _ _ d h
 |ret=>intro E env H K Q d h e;exact e _ _ _ _ d h
 | freeze t a k=>intro E env H K Q d h e;simp only[fa]at h;simp only[f_];rw[d.2 t]at h;exact aJ.mono (λv H' f=>k (d.set t v) f e) h
 | i2 vs ks ops b k=>intro E env H K Q d h e;simp only[fa]at h;simp only[f_];refine DT p d h λj o H' g f=>?_;rw[g.eZ vs]at f;exact k ((d.gQ ks).i3 vs _) f e
def nn(E:EV)(H:Z):List kL→(List I→Prop)→Prop
 |[],K=>K []
 | .tmp t::r,K=>nn E H r λvs=>K (eU E t::vs)
 | .cell t n agg::r,K=>Do (O H n agg (eU E t)) λv=>nn E H r λvs=>K (v::vs)
theorem DW{E:EV}(a:ez n E env):∀{rs:List kL}{K:List I→Prop},nn E H rs K=lv env H rs K:=by
 intro rs;induction rs with
 |nil=>intro K;rfl
 | cons r rs b=>
  intro K;cases r with
  |tmp t=>simp only[nn,lv,b,a.2]
  |cell t n agg=>simp only[nn,lv,b,a.2]
def zg(Φ:ae)(f:bw)(a:List I)(H:Z)(Q:ad):Prop:=
 fa Φ f.ntmps f.body (nl a 0) H λe E H'=>match e with
  | .exit _=>False
  |_=>nn E H' f.results λvs=>Q (n_ vs) H'
def zh(Φ:ae)(f:bw)(a:List I)(H:Z)(Q:ad):Prop:=a.length≤f.ntmps∧zg Φ f a H Q
theorem DX(d:jN Φ){f:bw}{b:List I}{Q:ad}(h:zh Φ f b H Q):p_ Φ f b H Q:=by
 have e:ez f.ntmps (nl b 0) (b++We (f.ntmps-b.length) .bot):=by
  refine⟨by simp;have:=h.1;omega,λi=>?_⟩;rw[DS];simp only[Nat.not_lt_zero,cu,Nat.sub_zero];simp only[XH];by_cases hi:i<b.length
  ·rw[XZ hi]
  · rw[X0 (by omega),YC (by omega),Y3];split<;>rfl
 refine Nq d e h.2 λx g j H' c a=>?_;cases x with
 |normal=>dsimp only at a ⊢;rw[DW c]at a;exact a
 |exit i=>exact a
 |ret=>dsimp only at a ⊢;rw[DW c]at a;exact a
end
end Rb

namespace Rb
open Go
variable{Φ:ae}{B:eT}{T:TH}{n fuel:Nat}{E:EV}{K:kn}{Q:ad}{P:Prop}{o:cf}{ops:List cf}{v:I}{want:Bool}
def DY(Φ:eT)(f:I)(a:List I)(T:TH)(K:kn):Bool:=
 match f with
 | .fn key b_=>Φ (jL key) (jM key a b_) T K
 |_=>false
def DZ(Φ:eT)(iA:List (TypeId×Nat×Option (Nat×Bool)))(x:I)(a:List I)(T:TH)(K:kn):Bool:=
 match x with
 | .iface t v=>(match p7 iA t with
   | some r=>(match p8 T.ah r.2 v with
     |some u=>Φ r.1 (u::a) T K
     |none=>false)
   |none=>false)
 |_=>false
def np(Φ:eT)(d:Env)(T:TH)(K:kn):ej→Bool
 | .mv x=>K (x.ev d) T
 | .pick c a b=>tj (c.ev d) true (K (a.ev d) T) (K (b.ev d) T)
 | .bin op x y=>eF (N op (x.ev d) (y.ev d)) λv=>K v T
 | .beq neg x y=>eF (j9 neg (x.ev d) (y.ev d)) λv=>K v T
 | .jJ k neg x=>eF (pY k neg (x.ev d)) λv=>K v T
 | .i0 neg ks x y=>eF (ir neg ks (x.ev d) (y.ev d)) λv=>K v T
 | .un op x=>eF (cM op (x.ev d)) λv=>K v T
 | .conv k x=>eF (gP k (x.ev d)) λv=>K v T
 | .same x=>eF (pZ (x.ev d)) λv=>K v T
 | .kc x=>eF (aO (x.ev d)) λv=>K v T
 | .field off sz agg x=>eF (j_ off sz agg (x.ev d)) λv=>K v T
 | .idx len sz agg x i=>eF (m4 len sz agg (x.ev d) (i.ev d)) λv=>K v T
 | .idxs x i=>eF (iZ (x.ev d) (i.ev d)) λv=>K v T
 | .kd off x=>eF (M off (x.ev d)) λv=>K v T
 | .jK arr sz x i=>eF (aU arr sz (x.ev d) (i.ev d)) λv=>K v T
 | .slice sz x lo hi mx=>eF (c6 sz (x.ev d) (lo.map (bK.ev d)) (hi.map (bK.ev d)) (mx.map (bK.ev d))) λv=>K v T
 | .ke x lo hi=>eF (p0 (x.ev d) (lo.map (bK.ev d)) (hi.map (bK.ev d))) λv=>K v T
 | .hZ t x=>K (.iface t (x.ev d)) T
 | .hD key b_=>K (.fn key (eE d b_)) T
 | .extract i x=>eF (bI i (x.ev d)) λv=>K v T
 | .build zero parts=>eF (ba zero (gD d parts)) λv=>K v T
 | .len str x=>eF (bj str (x.ev d)) λv=>K v T
 | .h0 n=>K (.int .i64 n) T
 | .cap x=>eF (sy (x.ev d)) λv=>K v T
 | .h1 mx xs=>eF (ka mx (eE d xs)) λv=>K v T
 | .load n agg x=>eF (O T.ah n agg (x.ev d)) λv=>K v T
 | .store n x v=>eF (y7 T n (x.ev d) (v.ev d)) λT=>K (.aM []) T
 | .box mu n x=>ko (y8 T mu n (x.ev d)) K
 | .alloc mu zero=>ko (some (qp T mu zero)) K
 | .hE mu sz len zero parts=>ko (y9 T mu sz len zero (gD d parts)) K
 | .append mu sz bytes x y=>ko (y_ T mu sz bytes (x.ev d) (y.ev d)) K
 | .make mu sz bytes zero len cap=>ko (tl T mu sz bytes zero (len.ev d) (cap.ev d)) K
 | .copy sz x y=>ko (zc T sz (x.ev d) (y.ev d)) K
 | .hF=>K (.map T.n) (T.push (.map []))
 | .lookup kk zero ok m k=>eF (mc T.ah kk zero ok (m.ev d) (k.ev d)) λv=>K v T
 | .h2 kk m k v=>eF (zd T kk (m.ev d) (k.ev d) (v.ev d)) λT=>K (.aM []) T
 | .delete kk m k=>eF (ze T kk (m.ev d) (k.ev d)) λT=>K (.aM []) T
 | .iu m=>eF (me T.ah (m.ev d)) λv=>K v T
 | .kf x=>eF (p2 (x.ev d)) λv=>K v T
 | .iv x=>eF (abstr T.ah (x.ev d)) λv=>K v T
 | .iw x=>ko (za T (x.ev d)) K
 | .iy x=>ko (zb T (x.ev d)) K
 | .call key args=>Φ key (eE d args) T K
 | .iz f args=>DY Φ (f.ev d) (eE d args) T K
 | .ext e xs=>ko (text T e (eE d xs)) K
 | .inv iA x args=>DZ Φ iA (x.ev d) (eE d args) T K
def fo(Φ:ae)(B:eT):Prop:=∀k args T (K:kn),B k args T K=true→∀Q:ad,(∀v a,K v a=true→Q v a.ah)→Φ k args T.ah Q
theorem D0{α:Type}{x:Option α}{K:α→Bool}{P:α→Prop}(h:eF x K=true)(b:∀a,K a=true→P a):Do x P:=by
 cases x with
 |none=>cases h
 |some a=>exact⟨a,rfl,b a h⟩
theorem kX{x:Option (I×TH)}{y:Option (I×Z)}(c:x.map vh=y)(h:ko x K=true)(d:∀v b,K v b=true→Q v b.ah):aJ y Q:=by
 cases x with
 |none=>cases h
 |some a=>subst c;exact⟨a.1,a.2.ah,rfl,d _ _ h⟩
theorem zi{x:Option TH}{y:Option Z}{K:TH→Bool}{P:Z→Prop}(c:x.map TH.ah=y)(h:eF x K=true)(d:∀b,K b=true→P b.ah):Do y P:=by
 cases x with
 |none=>cases h
 |some a=>subst c;exact⟨a.ah,rfl,d _ h⟩
theorem D1{A B:Bool}{P Q:Prop}(h:tj v want A B=true)(a:A=true→P)(c:B=true→Q):L v want P Q:=by
 cases v<;>first|cases h|skip
 rename_i b;simp only[tj]at h;unfold L;dsimp only;split
 ·rename_i e;subst e;simp at h;exact a h
 · rename_i e;have:(b ^^ want)=true:=by cases b<;>cases want<;>simp_all
   rw[this]at h;exact c h
theorem tq(b:fo Φ B){c:Env}{op:ej}(h:np B c T K op=true)(a:∀v d,K v d=true→Q v d.ah):ct Φ c T.ah Q op:=by
 cases op with
 |mv=>exact a _ _ h
 |pick=>exact D1 h (a _ _) (a _ _)
 |hZ=>exact a _ _ h
 |hD=>exact a _ _ h
 |h0=>exact a _ _ h
 |store=>exact zi (M8 _ _ _ _) h λ_ h=>a _ _ h
 |h2=>exact zi (Ng _ _ _ _ _) h λ_ h=>a _ _ h
 |delete=>exact zi (Nh _ _ _ _) h λ_ h=>a _ _ h
 |box=>exact kX (M9 _ _ _ _) h a
 |alloc mu zero=>exact kX (x:=some (qp T mu zero)) (by simp only[Option.map_some,DP]) h a
 |hE=>exact kX (M_ _ _ _ _ _ _) h a
 |append=>exact kX (Na _ _ _ _ _ _) h a
 |make=>exact kX (Nd _ _ _ _ _ _ _) h a
 |copy=>exact kX (Nf _ _ _ _) h a
 |hF=>have:=a _ _ h;rw[TH.M5]at this;exact this
 |iw=>exact kX (Nb _ _) h a
 |iy=>exact kX (Nc _ _) h a
 |call key args=>exact b _ _ _ _ h _ a
 | iz f args=>
  simp only[np,DY]at h;split at h
  · rename_i key b_ hf;exact⟨key,b_,hf,b _ _ _ _ h _ a⟩
  ·cases h
 |ext=>exact kX (M7 _ _ _) h a
 | inv iA x args=>
  simp only[np,DZ]at h;split at h
  · rename_i t v e;split at h
    · rename_i r g;split at h
      · rename_i u hu;exact⟨t,v,r,u,e,g,hu,b _ _ _ _ h _ a⟩
      ·cases h
    ·cases h
  ·cases h
 |_=>exact D0 h λ_ h=>a _ _ h
def tr(v:I)(want:Bool)(A B C:Bool):Bool:=
 match v with
 | .bool b=>bif Y_ b want then B else A
 | .aM []=>C
 |_=>false
theorem D2{A B C:Bool}{P Q R:Prop}(h:tr v want A B C=true)(a:A=true→P)(c:B=true→Q)(d:C=true→R):aQ v want P Q R:=by
 unfold tr at h;unfold aQ;split at h
 · rename_i b;dsimp only;split
   ·rename_i e;subst e;simp at h;exact a h
   · rename_i e;have:(b ^^ want)=true:=by cases b<;>cases want<;>simp_all
     rw[this]at h;exact c h
 ·exact d h
 ·cases h
noncomputable section
def mq(Φ:eT)(n:Nat):List cf→EV→TH→(EV→TH→Bool)→Bool
 |[],E,T,K=>K E T
 | o :: r,E,T,K=>
  match o.guard with
  |none=>np Φ [] T (λv a=>mq Φ n r (gn n E o.dst v) a K) (o.op.sub E)
  | some (s,want)=>
   tr (eU E s) want (np Φ [] T (λv a=>mq Φ n r (gn n (fm n E s (.bool want)) o.dst v) a K) (o.op.sub (fm n E s (.bool want))))
    (mq Φ n r (gn n (fm n E s (.bool !want)) o.dst (.aM [])) T K) (mq Φ n r (gn n (fm n E s (.aM [])) o.dst (.aM [])) T K)
theorem D3(f:fo Φ B):∀{l:List cf}{E:EV}{T:TH}{K:EV→TH→Bool}{Q:jR},mq B n l E T K=true→(∀e b,K e b=true→Q e b.ah)→jS Φ n l E T.ah Q:=by
 intro l;induction l with
 |nil=>intro E T K Q h a;exact a _ _ h
 | cons o r c=>
  intro E T K Q h a;simp only[mq]at h;simp only[jS];cases i:o.guard with
  | none=>rw[i]at h;exact tq f h (Q:=λv H'=>jS Φ n r (gn n E o.dst v) H' Q) λv b d=>c d a
  | some g=>obtain⟨s,want⟩:=g;rw[i]at h;exact D2 h (λh=>tq f h (Q:=λv H'=>jS Φ n r (gn n (fm n E s (.bool want)) o.dst v) H' Q) λv b d=>c d a) (λh=>c h a) λh=>c h a
def tt(Φ:eT)(n:Nat)(o:cf)(E:EV)(T:TH)(K:EV→TH→Bool):Bool:=
 match o.guard with
 |none=>np Φ [] T (λv a=>K (gn n E o.dst v) a) (o.op.sub E)
 | some (s,want)=>
  tr (eU E s) want (np Φ [] T (λv a=>K (gn n (fm n E s (.bool want)) o.dst v) a) (o.op.sub (fm n E s (.bool want))))
   (K (gn n (fm n E s (.bool !want)) o.dst (.aM [])) T) (K (gn n (fm n E s (.aM [])) o.dst (.aM [])) T)
theorem D4(d:fo Φ B){K:EV→TH→Bool}{Q:jR}(h:tt B n o E T K=true)(a:∀e b,K e b=true→Q e b.ah):oE Φ n o E T.ah Q:=by
 unfold tt at h;unfold oE;cases f:o.guard with
 | none=>rw[f]at h;exact tq d h (Q:=λv H'=>Q (gn n E o.dst v) H') λv b c=>a _ _ c
 | some g=>obtain⟨s,want⟩:=g;rw[f]at h;exact D2 h (λh=>tq d h (Q:=λv H'=>Q (gn n (fm n E s (.bool want)) o.dst v) H') λv b c=>a _ _ c) (λh=>a _ _ h) λh=>a _ _ h
def qt(Φ:eT)(n:Nat)(ops:List cf):List Nat→EV→TH→(EV→TH→Bool)→Bool
 |[],E,T,K=>K E T
 | i::r,E,T,K=>match ops[i]? with
  |some o=>tt Φ n o E T λa b=>qt Φ n ops r a b K
  |none=>false
theorem D5(d:fo Φ B):∀{l:List Nat}{E:EV}{T:TH}{K:EV→TH→Bool}{Q:jR},qt B n ops l E T K=true→(∀e a,K e a=true→Q e a.ah)→mo Φ n ops l E T.ah Q:=by
 intro l;induction l with
 |nil=>intro E T K Q h b;exact b _ _ h
 | cons i r f=>
  intro E T K Q h b;simp only[qt]at h;simp only[mo];cases c:ops[i]? with
  |none=>rw[c]at h;cases h
  | some o=>rw[c]at h;exact D4 d h (Q:=λe H'=>mo Φ n ops r e H' Q) λe a g=>f g b
def oH(x:Option I)(d:I):Bool:=
 match x with
 |some v=>v.same d
 |none=>false
def D6(g:I)(want:Bool)(X:Bool):Bool:=
 match g with
 | .bool b=>bif Y_ b want then true else X
 |_=>true
def tv(T:TH)(E:EV)(o:cf):Bool:=
 match o.op with
 | .load n agg x=>oH (O T.ah n agg ((x.sub E).ev [])) (eU E (o.dst.getD 0))
 | .lookup kk zero ok m k=>oH (mc T.ah kk zero ok ((m.sub E).ev []) ((k.sub E).ev [])) (eU E (o.dst.getD 0))
 | .iu m=>oH (me T.ah ((m.sub E).ev [])) (eU E (o.dst.getD 0))
 | .iv x=>oH (abstr T.ah ((x.sub E).ev [])) (eU E (o.dst.getD 0))
 |_=>true
theorem Nr{x:Option I}{d:I}(h:oH x d=true):x=some d:=by
 unfold oH at h;split at h
 ·rw[I.tg _ _ h]
 ·cases h
theorem D7(h:tv T E o=true):oF E T.ah o:=by unfold tv at h;unfold oF;cases a:o.op<;>rw[a]at h<;>first|trivial|exact Nr h
def zj(T:TH)(E:EV)(o:cf):Bool:=
 match o.guard with
 |none=>tv T E o
 |some (s,want)=>D6 (eU E s) want (tv T E o)
theorem Ns(h:zj T E o=true):qs E T.ah o:=by
 unfold zj at h;unfold qs;cases a:o.guard with
 |none=>rw[a]at h;exact D7 h
 | some g=>obtain⟨s,want⟩:=g;rw[a]at h;dsimp only at h ⊢;intro hs;rw[hs]at h;simp only[D6,Bool.xor_self,cond_false]at h;exact D7 h
def tw(ops:List cf)(E:EV)(T:TH)(X:Bool):List Nat→Bool
 |[]=>X
 |l::r=>(match ops[l]? with|some o=>zj T E o|none=>true)&&tw ops E T X r
theorem Nt{X:Bool}(b:X=true→P):∀{l:List Nat},tw ops E T X l=true→tn ops E T.ah P l:=by
 intro l;induction l with
 |nil=>intro h;exact b h
 | cons i r c=>
  intro h;simp only[tw,Wn]at h;refine⟨?_,c h.2⟩;have a:=h.1;cases d:ops[i]? with
  |none=>trivial
  |some o=>rw[d]at a;exact Ns a
def tx(Φ:eT)(n:Nat)(ops:List cf)(a:List Nat):List (List Nat×Nat×List Nat)→EV→TH→(EV→TH→Bool)→Bool
 |[],E,T,K=>qt Φ n ops a E T K
 | (d,e,st)::r,E,T,K=>qt Φ n ops d E T λb f=>match ops[e]? with
  |some o=>tt Φ n o b f λg c=>tw ops b c (tx Φ n ops a r g c K) st
  |none=>false
theorem Nu(b:fo Φ B){d:List Nat}:∀{bX:List (List Nat×Nat×List Nat)}{E:EV}{T:TH}{K:EV→TH→Bool}{Q:jR},tx B n ops d bX E T K=true→(∀e f,K e f=true→Q e f.ah)→oG Φ n ops d bX E T.ah Q:=by
 intro bX;induction bX with
 |nil=>intro E T K Q h c;exact D5 b h c
 | cons p r i=>
  obtain⟨k,e,st⟩:=p;intro E T K Q h c;simp only[tx]at h;simp only[oG];refine D5 b h λe1 l a=>?_;cases g:ops[e]? with
  |none=>rw[g]at a;cases a
  | some o=>rw[g]at a;exact D4 b a λm q j=>Nt (λh=>i h c) j
def zk{a:Type}(F:a→(a→Bool)→Bool)(n:Nat):a→Bool:=Nat.rec (motive:=λ_=>a→Bool) (λ_=>false) (λ_ b s=>F s b) n
def D8(K:List I→TH→Bool)(a:List I)(T:TH):Bool:=K a T
def hh(Φ:eT)(fuel:Nat)(n:Nat):fO→EV→TH→(kg→EV→TH→Bool)→Bool
 | .skip,E,T,Q=>Q .normal E T
 | .region ops,E,T,Q=>mq Φ n ops E T (Q .normal)
 | .draw ops _ bX last,E,T,Q=>tx Φ n ops last bX E T (Q .normal)
 | .seq a b,E,T,Q=>hh Φ fuel n a E T λe d c=>match e with
  | .normal=>hh Φ fuel n b d c Q
  |e=>Q e d c
 | .join vs ks a b,E,T,Q=>hh Φ fuel n a E T λe d c=>match e with
  | .normal=>D8 (λst f=>hh Φ fuel n b (jU n (jT n E ks) vs st) f Q) (iJ d vs) c
  |e=>Q e d c
 | .cond x a b,E,T,Q=>tj ((x.sub E).ev []) true (hh Φ fuel n a E T Q) (hh Φ fuel n b E T Q)
 | .block id a,E,T,Q=>hh Φ fuel n a E T λe d c=>match e with
  | .exit g=>if g=id then Q .normal d c else Q (.exit g) d c
  |e=>Q e d c
 | .loop vs ks a,E,T,Q=>
  zk (λ(s:List I×TH) (K:List I×TH→Bool)=>
    hh Φ fuel n a (jU n (jT n E ks) vs s.1) s.2 λe d c=>match e with
     | .normal=>K (iJ d vs,c)
     |e=>Q e d c) fuel (iJ E vs,T)
 | .exit id,E,T,Q=>Q (.exit id) E T
 | .ret,E,T,Q=>Q .ret E T
 | .freeze t a,E,T,Q=>ko (qq T (eU E t)) λv c=>hh Φ fuel n a (fm n E t v) c Q
 | .i2 vs ks ops b,E,T,Q=>mq Φ n ops E T λd c=>D8 (λst f=>hh Φ fuel n b (jU n (jT n E ks) vs st) f Q) (iJ d vs) c
theorem Nv(p:fo Φ B):∀{c:fO}{E:EV}{T:TH}{K:kg→EV→TH→Bool}{Q:kg→EV→Z→Prop},hh B fuel n c E T K=true→(∀x e g,K x e g=true→Q x e g.ah)→fa Φ n c E T.ah Q:=by
 intro c;induction c with
 |skip=>intro E T K Q h d;exact d _ _ _ h
 |region ops=>intro E T K Q h d;exact D3 p h λ_ _ h=>d _ _ _ h
 |draw ops pr bX last=>intro E T K Q h d;exact Nu p h λ_ _ h=>d _ _ _ h
 | seq a b l o=>
  intro E T K Q h d;simp only[hh]at h;simp only[fa];refine l h λx e g f=>?_;cases x with
  |normal=>exact o f d
  |exit i=>exact d _ _ _ f
  |ret=>exact d _ _ _ f
 | join vs ks a b l o=>
  intro E T K Q h d;simp only[hh]at h;simp only[fa];refine l h λx e g f=>?_;cases x with
  |normal=>exact o f d
  |exit i=>exact d _ _ _ f
  |ret=>exact d _ _ _ f
 | cond x a b l o=>intro E T K Q h d;exact D1 h (λh=>l h d) λh=>o h d
 | block id a k=>
  intro E T K Q h d;simp only[hh]at h;simp only[fa];refine k h λx e g f=>?_;cases x with
  |normal=>exact d _ _ _ f
  | exit i=>
   dsimp only at f ⊢;split
   ·rename_i hi;rw[aa hi]at f;exact d _ _ _ f
   ·rename_i hi;rw[ab hi]at f;exact d _ _ _ f
  |ret=>exact d _ _ _ f
 | loop vs ks a k=>
  intro E T K Q h d;simp only[hh]at h;simp only[fa];have main : ∀(m:Nat)(s:List I×TH),zk (λ(s:List I×TH) (K':List I×TH→Bool)=>
        hh B fuel n a (jU n (jT n E ks) vs s.1) s.2 λe j g=>match e with
         | .normal=>K' (iJ j vs,g)
         |e=>K e j g) m s=true →
      au (λ(s:List I×Z) (K:List I×Z→Prop)=>
        fa Φ n a (jU n (jT n E ks) vs s.1) s.2 λe j H'=>match e with
         | .normal=>K (iJ j vs,H')
         |e=>Q e j H') (s.1,s.2.ah):=by
    intro m;induction m with
    |zero=>intro s h;cases h
    | succ m q=>
     intro s h;refine au.step ?_;refine k (K:=λe j g=>match e with
         | .normal=>zk (λ(s:List I×TH) (K':List I×TH→Bool)=>
           hh B fuel n a (jU n (jT n E ks) vs s.1) s.2 λe j g=>match e with
            | .normal=>K' (iJ j vs,g)
            |e=>K e j g) m (iJ j vs,g)
         |e=>K e j g) h λx e g f=>?_
     cases x with
     |normal=>exact q _ f
     |exit i=>exact d _ _ _ f
     |ret=>exact d _ _ _ f
  exact main fuel _ h
 |exit id=>intro E T K Q h d;exact d _ _ _ h
 |ret=>intro E T K Q h d;exact d _ _ _ h
 | freeze t a k=>intro E T K Q h d;exact kX (Ni _ _) h λv g f=>k f d
 | i2 vs ks ops b k=>intro E T K Q h d;exact D3 p h (Q:=λj H'=>U (λst r=>fa Φ n b (jU n (jT n E ks) vs st) r Q) (iJ j vs) H') λe g f=>k f d
def tz(E:EV)(T:TH):List kL→(List I→Bool)→Bool
 |[],K=>K []
 | .tmp t::r,K=>tz E T r λvs=>K (eU E t::vs)
 | .cell t n agg::r,K=>eF (O T.ah n agg (eU E t)) λv=>tz E T r λvs=>K (v::vs)
theorem D9:∀{rs:List kL}{K:List I→Bool}{P:List I→Prop},tz E T rs K=true→(∀vs,K vs=true→P vs)→nn E T.ah rs P:=by
 intro rs;induction rs with
 |nil=>intro K P h a;exact a _ h
 | cons r rs b=>
  intro K P h a;cases r with
  |tmp t=>exact b (K:=λvs=>K (eU E t::vs)) h λvs h=>a _ h
  |cell t n agg=>exact D0 h λv h=>b (K:=λvs=>K (v::vs)) h λvs h=>a _ h
def tA(Φ:eT)(fuel:Nat)(f:bw)(b:List I)(T:TH)(Q:kn):Bool:=
 hh Φ fuel f.ntmps f.body (nl b 0) T λe E a=>match e with
  | .exit _=>false
  |_=>tz E a f.results λvs=>Q (n_ vs) a
def tB(Φ:eT)(fuel:Nat)(f:bw)(a:List I)(T:TH)(Q:kn):Bool:=and (Zd a.length f.ntmps) (tA Φ fuel f a T Q)
theorem D_(g:fo Φ B){f:bw}{c:List I}(h:tB B fuel f c T K=true)(d:∀v a,K v a=true→Q v a.ah):zh Φ f c T.ah Q:=by
 simp only[tB,tA,Wn]at h;refine⟨Ze h.1,Nv g h.2 λx e a b=>?_⟩;cases x with
 |normal=>exact D9 b λvs h=>d _ _ h
 |exit i=>cases b
 |ret=>exact D9 b λvs h=>d _ _ h
end
end Rb

namespace Rb
open Go
variable{Φ:ae}{T:iI}{k:Nat}{f:bw}{args:List I}{H:Z}{Q:ad}
structure Cl(Φ:ae)(T:iI):Prop where
 mono:jN Φ
 run:∀k f,T.get k=some f→∀args H Q,zh Φ f args H Q→Φ k args H Q
theorem Cl.of(a:jN Φ)(h:oD Φ T):Cl Φ T:=⟨a,λk f hk args H Q hs=>h k f hk args H Q (DX a hs)⟩
theorem Cl.app{T U:iI}(W:Cl Φ T)(a:Cl Φ U):Cl Φ (T++U):=by
 refine⟨W.mono,λk f h args H Q hs=>?_⟩;have key:∀(T:iI),(T++U).lookup k=some f→T.lookup k=some f∨U.lookup k=some f:=by
  intro T;induction T with
  |nil=>intro h;exact .inr h
  | cons p T b=>
   intro h;obtain⟨c,d⟩:=p;rw[Yi,Y4]at h;rw[Y4];split at h
   ·exact .inl h
   ·exact b h
 rcases key T h with h|h
 ·exact W.run k f h args H Q hs
 ·exact a.run k f h args H Q hs
theorem Cl.call(W:Cl Φ T)(hk:T.get k=some f)(a:Zd args.length f.ntmps=true)(h:zg Φ f args H Q):Φ k args H Q:=W.run k f hk args H Q ⟨Ze a,h⟩
abbrev a:=List I→Z→Prop
abbrev ST:=List I×Z
abbrev LT:=ST→Prop
abbrev BT:=ST→LT→Prop
theorem Cl.c(W:Cl Φ T){k:Nat}{P:Prop}(h:P)(e:zg Φ f args H Q=P:=by kernel_rfl)(hk:T.get k=some f:=by kernel_rfl)(a:Zd args.length f.ntmps=true:=by kernel_rfl):Φ k args H Q:=W.call hk a (e.mpr h)
end Rb

namespace Rb
open Go
variable{Φ:ae}{B:eT}{key k:Nat}{Q:ad}{T0:iI}
def Tok.free:Tok→Bool
 | .own _=>false
 |_=>true
mutual
def I.b6:I→Bool
 | .bool _ | .int _ _ | .str _ | .eY | .fZ | .gy | .gz=>true
 | .ak cs=>I.cv cs
 | .av tk _ cs=>tk.free&&I.cv cs
 | .fn _ cs=>I.cv cs
 | .iface _ v=>I.b6 v
 | .agg cs=>I.cv cs
 | .aM cs=>I.cv cs
 |_=>false
def I.cv:List I→Bool
 |[]=>true
 |c::r=>I.b6 c&&I.cv r
end
theorem qu:∀{cs:List I},I.cv cs=cs.all I.b6
 |[]=>rfl
 |c::r=>by simp only[I.cv,Y6,qu (cs:=r)]
theorem nq{cs:List I}(h:I.cv cs=true)(j:Nat)(c:I)(hc:cs[j]?=some c):c.b6=true:=by rw[qu,Xi]at h;exact h c (Y7 hc)
theorem zl{F:dk}{w R:World}{G G':b4}(l:∀b o,G.fz b o→G'.fz b o)(hc:∀b o V,G.fz b o→w.cell? ⟨b,o,none⟩=some V→R.cell? ⟨b,o,none⟩=some V){c:I}{V:Value}(hf:c.b6=true)(h:VR F w G c V):VR F R G' c V:=by
 induction h with
 |bot=>simp[I.b6]at hf
 |bool b=>exact .bool b
 |int k n=>exact .int k n
 |str s=>exact .str s
 |eY=>exact .eY
 |ptr=>simp[I.b6]at hf
 | ak cells b o Vs h hv d=>simp only[I.b6]at hf;exact .ak cells b o Vs (λj c e=>⟨l _ _ (h j c e).1,hc _ _ _ (h j c e).1 (h j c e).2⟩) λj c e=>d j c e (nq hf j c e)
 |fA=>exact .fA
 |fB a cap=>exact .fB a cap
 | av tk len cells b o cap Vs ht hle h hv d=>
  simp only[I.b6,Wn]at hf;refine .av tk len cells b o cap Vs ?_ hle (λj c e=>⟨l _ _ (h j c e).1,hc _ _ _ (h j c e).1 (h j c e).2⟩) λj c e=>d j c e (nq hf.2 j c e);cases tk with
  |own t=>simp[Tok.free]at hf
  |nil=>exact ht
  |full=>exact ht
  |dead=>exact ht
 |row=>simp[I.b6]at hf
 |map=>simp[I.b6]at hf
 |fZ=>exact .fZ
 | fn key b_ f Vs hk i hl hv d=>simp only[I.b6]at hf;exact .fn key b_ f Vs hk i hl λj c V hc g=>d j c V hc g (nq hf j c hc)
 | ls key k b_ f Vs hk i hl hv d=>simp only[I.b6]at hf;exact .ls key k b_ f Vs hk i hl λj c V hc g=>d j c V hc g (nq hf j c hc)
 |gy=>exact .gy
 |iface t v V h d=>exact .iface t v V (d (by simpa[I.b6]using hf))
 |gz=>exact .gz
 | agg cs Vs hl hv d=>simp only[I.b6]at hf;exact .agg cs Vs hl λj c V hc g=>d j c V hc g (nq hf j c hc)
 | aM cs Vs hl hv d=>simp only[I.b6]at hf;exact .aM cs Vs hl λj c V hc g=>d j c V hc g (nq hf j c hc)
def cY(C:Ctx):Prop:=∀g l,C.GT g=some l→I.cv l=true
theorem aj.Ea{C:Ctx}(aw:cY C){q:List I}(h:aj C key q Z.mt Q)(B:I.cv q=true)(H:Z)(K:ad)(u:∀v H',Q v H'→v.b6=true∧K v H):aj C key q H K:=by
 refine⟨by obtain⟨v,H',D⟩:=h.1;exact⟨v,H,(u v H' D).2⟩,λf hf G w Vs x a y=>?_⟩;have E:Rel C.F w (b4.mt G.fz) Z.mt:=Rel.mt a.gN;have J:bo C.F w (b4.mt G.fz) q Vs:=⟨y.1,λj c V hc r=>zl (G:=G) (G':=b4.mt G.fz) (w:=w) (λ_ _ h=>h) (λ_ _ _ _ h=>h) (nq B j c hc) (y.2 j c V hc r)⟩
 have L:jr C w (b4.mt G.fz):=λg l m=>zl (G:=G) (G':=b4.mt G.fz) (w:=w) (λ_ _ h=>h) (λ_ _ _ _ h=>h) (by simp only[I.b6];exact aw g l m) (x.1 g l m);refine Yz (h.2 f hf _ w Vs (x.mt L λi hi=>by cases hi) E J) λe R he=>?_;obtain⟨V,v,H',G',rfl,M,hv,N,d⟩:=he;obtain⟨O,P⟩:=u v H' M;have s:=d.below;have z:∀b o,G'.fz b o→G.fz b o∨w.heap.size≤b:=by
  intro b o S;rcases d.gC b o S with h|h|⟨i,hi,_⟩
  ·exact .inl h
  ·exact .inr h
  ·cases hi
 let t:b4:={G with fz:=λb o=>G.fz b o∨G'.fz b o}
 have A:∀b o V,G.fz b o→w.cell? ⟨b,o,none⟩=some V→R.cell? ⟨b,o,none⟩=some V:=λb o V hf hc=>by rw[W1 (w:=w) (s.block b (W2 w _ hc))];exact hc
 have m:GLe w G R t:=⟨hT _,λ_ _=>rfl,λ_ _=>rfl,λ_ _ h=> .inl h,A⟩
 refine⟨V,v,H,t,rfl,P,zl (G:=G') (G':=t) (w:=R) (λ_ _ h=>Or.inr h) (λ_ _ _ _ h=>h) O hv,⟨a.n,a.over,λj=>(a.obj j).ca m (λhl=>a.h5 hl) (λhl=>s.block _ ((a.obj j).lt hl)) λhl o p=>?_,a.gk,λb o hf=>?_⟩,?_⟩
 · rcases p with p|p
   ·exact p
   · rcases z _ _ p with h|h
     ·exact h
     ·exact absurd ((a.obj j).lt hl) (by omega)
 · rcases hf with hf|hf
   · obtain⟨V,r⟩:=a.gN b o hf;exact⟨V,A b o V hf r⟩
   ·exact N.gN b o hf
 · exact {m with
     size:=d.size,os:=d.os,tape:=d.tape,output:=d.output,ep:=λk hk _=>s.block k hk,owned:=λi hi _=>⟨i,hi,rfl⟩
     gC:=λb o hf=>by
      rcases hf with hf|hf
      ·exact .inl hf
      · rcases z b o hf with h|h
        ·exact .inl h
        ·exact .inr (.inl h)}
abbrev oI:=Nat→List I→Option I
def hj(Φ:ae)(M:oI):Prop:=∀k args v,M k args=some v→∀(H:Z)(Q:ad),Q v H→Φ k args H Q
noncomputable section
def zm(M:oI)(a:eT→eT)(d:Nat):eT:=Nat.rec (motive:=λ_=>eT) (λ_ _ _ _=>false) (λ_ b k args T Q=>match M k args with
  |some v=>Q v T
  |none=>a b k args T Q) d
def zn(Φ:ae)(a:eT→eT):Prop:=∀B,fo Φ B→fo Φ (a B)
theorem Nw{M:oI}{a:eT→eT}(c:hj Φ M)(e:zn Φ a):∀d,fo Φ (zm M a d):=by
 intro d;induction d with
 |zero=>intro k args T K h;cases h
 | succ d f=>
  intro k args T K h Q b;change (match M k args with
    |some v=>K v T
    |none=>a (zm M a d) k args T K)=true at h
  split at h
  · rename_i v hv;exact c k args v hv _ _ (b _ _ h)
  ·exact e _ f k args T K h Q b
theorem Nx(b:fo Φ B){a:List I}{K:I→Bool}(h:B k a TH.mt (λv _=>K v)=true):Φ k a Z.mt (λv _=>K v=true):=by have:=b k a TH.mt _ h (λv _=>K v=true) (λv c h=>h);rwa [TH.M6]at this
theorem fo.fn(W:Cl Φ T0)(c:fo Φ B){fuel:Nat}{f:bw}{a:List I}(hk:T0.get k=some f)(d:Zd a.length f.ntmps=true){T:TH}{K:kn}(h:tA B fuel f a T K=true)(e:∀v b,K v b=true→Q v b.ah):Φ k a T.ah Q:=W.run k f hk a T.ah Q (D_ c (fuel:=fuel) (by simp only[tB,d,h,Bool.and_self]) e)
theorem fo.node{F G:eT}(m:Nat)(d:fo Φ F)(e:fo Φ G):fo Φ (λk a T K=>cond (Zb k m) (F k a T K) (G k a T K)):=by
 intro k a T K h Q b;dsimp only at h;cases c:Zb k m with
 |true=>rw[c]at h;exact d k a T K h Q b
 |false=>rw[c]at h;exact e k a T K h Q b
theorem fo.leaf(W:Cl Φ T0)(d:fo Φ B){n m:Nat}{b:bw}(hk:T0.get key=some b){F:List I→TH→kn→Bool}(e:Zd m b.ntmps=true)
  (f:∀a T K,F a T K=true→a.length=m∧tA B n b a T K=true):fo Φ (λk a T K=>cond (Y8 k key) (F a T K) false):=by
 intro k a T K h Q g;dsimp only at h;cases c:Y8 k key with
 |false=>rw[c]at h;cases h
 | true=>rw[c]at h;obtain rfl:=Zf c;obtain⟨i,j⟩:=f a T K h;exact fo.fn W d (fuel:=n) hk (by rw[i];exact e) j g
end
end Rb

namespace Rb
open Go
structure Hint where
 dY:Nat
 jt:List Nat
 loops:List (List Nat)
 fz:Option Nat
 gl:List TypeId:=[]
 kY:List (Nat×List Nat):=[]
def jV(t:Nat):List Nat→Bool
 |[]=>false
 |s::r=>cond (Y8 t s) true (jV t r)
def Eb:List Nat→List Nat→Bool
 |[],_=>true
 |t::r,l=>cond (jV t l) (Eb r l) false
def zo(t:Nat)(l:List Nat):List Nat:=cond (jV t l) l (t::l)
def Ec:List Nat→List Nat→List Nat
 |[],l=>l
 |t::r,l=>Ec r (zo t l)
def zp:List Nat→List Nat→List Nat
 |[],_=>[]
 |t::r,l=>cond (jV t l) (zp r l) (zo t (zp r l))
def tC:Value→I
 | .bool b=> .bool b
 | .int k n=> .int k n
 | .string s=> .str s.data.toList
 | .pointer none=> .eY
 | .map none=> .fZ
 | .nilFunc=> .gy
 | .nilIface=> .gz
 | .slice none _ _=> .av .nil 0 []
 |_=> .bot
def Ed:Value→I
 | .agg Vs=> .agg (Vs.toList.map tC)
 | .tuple Vs=> .aM (Vs.toList.map tC)
 |V=>tC V
def zq:bK:= .k .bot
def gH:ej:= .ext .stuck []
def cd(C:Ctx):Operand→bK
 | .tmp t=> .t t
 | .const v=> .k (Ed v)
 | .global g=>match C.GT g with|some l=> .k (.ak l)|none=>zq
 | .func f=>cond (jq C.P f) (.k (.fn f [])) zq
def Ee (fs : List Field) : Bool := match fs with | [a, b] => a.name == "addr" && b.name == "buf" | _ => false
def Ef(P:Program)(t:TypeId):Bool:=
 match P.underlying t with
 |some (.struct fs)=>Ee fs.toList||(match fs.toList with|[f]=>(match P.underlying f.type with|some (.struct gs)=>Ee gs.toList|_=>false)|_=>false)
 |_=>false
def Eg:Operand→Bool
 | .const v=>(match v with | .pointer none | .slice none 0 0 | .map none | .nilFunc | .nilIface=>true|_=>false)
 |_=>false
def hn(P:Program)(t:TypeId):Nat:=match P.info? t with|some i=>i.size|none=>0
def zr(P:Program)(t:TypeId):Nat:=match P.info? t with|some i=>i.bytes|none=>0
def Eh(P:Program)(t:TypeId):Value:=match P.info? t with|some i=>(match i.zero with|some z=>z|none=> .nilIface)|none=> .nilIface
def oJ(P:Program)(t:TypeId):List I:=(Eh P t).cells.toList.map tC
def qv(P:Program)(t:TypeId):Bool:=match P.underlying t with|some d=>h3 d|none=>false
def h8(P:Program)(t:TypeId):TypeId:=match P.underlying t with|some (.slice e)=>e|some (.array _ e)=>e|some (.map _ e)=>e|_=>0
def tD(P:Program)(t:TypeId):FK:=match P.underlying t with
 |some (.map kt _)=>(match P.underlying kt with|some .bool=> .b|some .string=> .t|_=> .n)
 |_=> .n
def oK(C:Ctx)(name:String):List TypeId→List (TypeId×Nat×Option (Nat×Bool))
 |[]=>[]
 | t :: r=>(match C.P.info? t with
   | some i=>(match i.methods.find? (·.name==name)with
     | some mt=>(match mt.func,C.P.underlying t with
       |some (f,true),some (.pointer _)=>(t,f,none)::oK C name r
       |some (f,false),some (.pointer e)=>(t,f,some (hn C.P e,qv C.P e))::oK C name r
       |_,_=>oK C name r)
     |none=>oK C name r)
   |none=>oK C name r)
def Ny(P:Program)(t:TypeId):Bool:=match P.underlying t with|some (.int _)=>true|_=>false
def Nz(C:Ctx)(gl:List TypeId)(mu:Bool)(c:Call):ej:=
 match c.callee with
 | .value (.func f)=>cond (jq C.P f) (.call f (c.args.toList.map (cd C))) gH
 | .value f=> .iz (cd C f) (c.args.toList.map (cd C))
 | .builtin b=>
  match c.args.toList.map (cd C),c.argTypes.toList with
  | [x],[t]=>(match b with
    | .len=>(match C.P.underlying t with|some .string=> .len true x|some (.slice _)=> .len false x|some (.array n _)=> .h0 n|some (.map _ _)=> .iu x|_=>gH)
    | .cap=> .cap x
    | .max=> .h1 true [x]
    | .min=> .h1 false [x]
    | .clear=> .ext (.clear (hn C.P (h8 C.P t)) (oJ C.P (h8 C.P t))) [x]
    |_=>gH)
  | [x,y],t::_=>(match b with
    | .append=>cond (Ny C.P (c.argTypes.toList.tail.headD 0)) (.ext (.grow (hn C.P (h8 C.P t)) (zr C.P (h8 C.P t)) (oJ C.P (h8 C.P t))) [x,y]) <| .append mu (hn C.P (h8 C.P t)) (zr C.P (h8 C.P t)) x y
    | .delete=> .delete (tD C.P t) x y
    | .copy=> .copy (hn C.P (h8 C.P t)) x y
    | .max=> .h1 true [x,y]
    | .min=> .h1 false [x,y]
    |_=>gH)
  | xs,_=>(match b with
    | .max=> .h1 true xs
    | .min=> .h1 false xs
    |_=>gH)
 | .invoke x name=> .inv (oK C name gl) (cd C x) (c.args.toList.map (cd C))
def NA(C:Ctx)(gl:List TypeId)(mu:Bool):Op→ej
 | .move x=> .mv (cd C x)
 | .assign x=> .mv (cd C x)
 | .pick c a b=> .pick (cd C c) (cd C a) (cd C b)
 | .binOp op t x y _=>
  match op,C.P.underlying t with
  | .eql,some d=>(match ob d,d with
    |some k,_=>cond (Eg y) (.jJ k false (cd C x)) (match k with | .p=> .ext (.mg false) [cd C x,cd C y]|_=>gH)
    |none,.bool=> .beq false (cd C x) (cd C y)
    |none,.array _ _=>(match kS C.P 9 t with|some l=> .i0 false l (cd C x) (cd C y)|none=>gH)
    |none,.struct _=>(match kS C.P 9 t with|some l=> .i0 false l (cd C x) (cd C y)|none=>gH)
    |none,_=> .bin op (cd C x) (cd C y))
  | .neq,some d=>(match ob d,d with
    |some k,_=>cond (Eg y) (.jJ k true (cd C x)) (match k with | .p=> .ext (.mg true) [cd C x,cd C y]|_=>gH)
    |none,.bool=> .beq true (cd C x) (cd C y)
    |none,.array _ _=>(match kS C.P 9 t with|some l=> .i0 true l (cd C x) (cd C y)|none=>gH)
    |none,.struct _=>(match kS C.P 9 t with|some l=> .i0 true l (cd C x) (cd C y)|none=>gH)
    |none,_=> .bin op (cd C x) (cd C y))
  |op,_=> .bin op (cd C x) (cd C y)
 | .unOp op _ x=> .un op (cd C x)
 | .convert s d x=>
  match C.P.underlying s,C.P.underlying d with
  |some .string,some .string=> .same (cd C x)
  |some .string,some (.slice _)=> .kf (cd C x)
  |some (.slice _),some .string=> .iv (cd C x)
  |_,some (.int k)=> .conv k (cd C x)
  |_,_=>gH
 | .nilCheck x=> .kc (cd C x)
 | .field t x n=>(match oj C.P t n with|some f=> .field f.offset (hn C.P f.type) (qv C.P f.type) (cd C x)|none=>gH)
 | .fieldAddr t x n=>(match oj C.P t n with|some f=> .kd f.offset (cd C x)|none=>gH)
 | .index t x i=>(match C.P.underlying t with
   |some .string=> .idxs (cd C x) (cd C i)
   |some (.array n e)=> .idx n (hn C.P e) (qv C.P e) (cd C x) (cd C i)
   |_=>gH)
 | .indexAddr t x i=>(match C.P.underlying t with
   |some (.slice e)=> .jK none (hn C.P e) (cd C x) (cd C i)
   |some (.array n e)=> .jK (some n) (hn C.P e) (cd C x) (cd C i)
   |_=>gH)
 | .slice t x lo hi mx=>(match C.P.underlying t with
   |some .string=> .ke (cd C x) (lo.map (cd C)) (hi.map (cd C))
   |some (.slice e)=> .slice (hn C.P e) (cd C x) (lo.map (cd C)) (hi.map (cd C)) (mx.map (cd C))
   |_=>gH)
 | .makeInterface t x=> .hZ t (cd C x)
 | .makeFunc (.func f) first b_=>cond (jq C.P f) (match first.toList with
   |[]=> .hD f (b_.toList.map (cd C))
   |l=> .hD (f+1048576) (l.map (cd C))) gH
 | .extract x i=> .extract i (cd C x)
 | .build t ps=> .build (oJ C.P t) (ps.toList.map λp=>match placeOf C.P t p.1 with|some (o,s)=>(o,s,cd C p.2)|none=>(0,0,zq))
 | .buildSlice t len ps=> .hE mu (hn C.P (h8 C.P t)) len (oJ C.P (h8 C.P t)) (ps.toList.map λp=>(p.1*hn C.P (h8 C.P t),hn C.P (h8 C.P t),cd C p.2))
 | .load t x=> .load (hn C.P t) (qv C.P t) (cd C x)
 | .store t x v=> .store (hn C.P t) (cd C x) (cd C v)
 | .box t x=>cond (Ef C.P t) (.ext (.kb t) [cd C x]) (.box mu (hn C.P t) (cd C x))
 | .alloc t=>cond (Ef C.P t) (.ext (.kb t) []) (.alloc mu (oJ C.P t))
 | .makeSlice t l c=> .make mu (hn C.P (h8 C.P t)) (zr C.P (h8 C.P t)) (oJ C.P (h8 C.P t)) (cd C l) (cd C c)
 | .range _ x=> .iw (cd C x)
 | .next x true=> .iy (cd C x)
 | .makeMap _ _=> .hF
 | .lookup t m k ok=> .lookup (tD C.P t) (Ed (Eh C.P (h8 C.P t))) ok (cd C m) (cd C k)
 | .mapUpdate t m k v=> .h2 (tD C.P t) (cd C m) (cd C k) (cd C v)
 | .insert t m k v=> .h2 (tD C.P t) (cd C m) (cd C k) (cd C v)
 | .typeAssert x _ t ok=>cond ok gH (.ext (.n8 t) [cd C x])
 | .call c=>Nz C gl mu c
 |_=>gH
def Ei:List Oper→Nat→Option Nat
 |[],_=>none
 |o::r,i=>match i with|0=>o.dst|i+1=>Ei r i
def zs(C:Ctx)(gl:List TypeId)(jt:List Nat)(a:List Oper):List Oper→List cf
 |[]=>[]
 |o::r=>⟨o.dst,NA C gl (match o.dst with|some d=>jV d jt|none=>false) o.op,match o.guard with|some (j,want)=>(match Ei a j with|some s=>some (s,want)|none=>none)|none=>none⟩::zs C gl jt a r
def zt:List Edge→List Nat
 |[]=>[]
 |e::r=>cond (YM .any e) (zo e.on (zt r)) (zt r)
def Ej:List (List Nat)→Nat→List Nat
 |[],_=>[]
 |l::r,i=>match i with|0=>l|i+1=>Ej r i
def Ek:List (List Nat)→List Nat→List Nat→List Nat
 |pr,acc,[]=>acc
 |pr,acc,e::r=>Ek pr (Ec (Ej pr e) acc) r
def El:List (List Nat)→List Oper→List (List Nat)
 |pr,[]=>pr
 |pr,o::r=>let es:=zt o.after.toList;El (pr++[Ek pr es es]) r
structure DR where
 i:Nat
 pr:List Nat
 k:Nat
 al:Bool
def Em(ops:List cf)(pr:List (List Nat)):Nat→List cf→List (List Nat)→List DR
 |i,o::r,p::q=>⟨i,p,cond (fP o.op) 2 (cond (fk o.op) 1 0),ga ops pr i⟩::Em ops pr (i+1) r q
 |_,_,_=>[]
def oL:List DR→List Nat→List Nat→List Nat×List Nat
 |[],done,out=>(done,out.reverse)
 |d::r,done,out=>cond (Y8 d.k 0) (oL r done out) (cond (jV d.i done) (oL r done out) (cond (Eb d.pr done) (oL r (d.i::done) (d.i::out)) (oL r done out)))
def qw:List DR→List Nat→List Nat→List DR
 |[],_,_=>[]
 |d::r,pr,seq=>cond d.al (cond (jV d.i pr) (cond (jV d.i seq) (qw r pr seq) (d::qw r pr seq)) (qw r pr seq)) (qw r pr seq)
def tG(b:List DR):List DR→List Nat→List DR
 |[],seq=>b.filter λd=>d.al&&!jV d.i seq
 |d::r,seq=>cond (Y8 d.k 0) (cond d.al (tG b r seq) (let a:=qw b d.pr seq;a++d::tG b r (d.i::(a.map DR.i++seq)))) (tG b r seq)
def qx:List DR→List Nat→List Nat→List Nat
 |[],_,_=>[]
 |d::r,done,pr=>cond (Y8 d.k 1) (cond (jV d.i done) (cond (jV d.i pr) (qx r done pr) (d.i::qx r done pr)) (qx r done pr)) (qx r done pr)
def En(a:List DR):List DR→List Nat→List (List Nat×Nat×List Nat)×List Nat
 |[],done=>([],(oL a done []).2)
 |e::r,done=>let s:=oL a done [];let q:=En a r (e.i::s.1);((s.2,e.i,qx a s.1 e.pr)::q.1,q.2)
def NB(ops:List Oper)(al:List cf):fO:=
 let pr:=El [] ops;let ds:=Em al pr 0 al pr;let p:=En ds (tG ds ds []) []
 .draw al pr p.1 p.2
def NC(t:Nat)(o:cf):Bool:=match o.op with | .mv (.t s)=>Y8 s t|_=>false
def isDst(l:List Nat)(o:cf):Bool:=match o.dst with|some d=>jV d l|none=>false
def zu:List (Nat×List Nat)→Nat→List Nat
 |[],_=>[]
 |(i,l)::r,id=>cond (Y8 i id) l (zu r id)
def zv:List Nat→fO→fO
 |[],c=>c
 |t::r,c=> .freeze t (zv r c)
def nr(C:Ctx)(gl:List TypeId)(jt:List Nat)(fz:Option Nat)(kY:List (Nat×List Nat))(d:List Nat):Code→List (List Nat)→fO×List (List Nat)
 | .skip,h=>(.skip,h)
 | .region id ops false,h=>
  let al:=zs C gl jt ops.toList ops.toList
  (zv (zu kY id) (match fz with
    |none=> .region al
    |some t=>cond (al.any (NC t)&&al.any (isDst d)) (.freeze t (.region al)) (.region al)),h)
 | .region id ops true,h=>(zv (zu kY id) (NB ops.toList (zs C gl jt ops.toList ops.toList)),h)
 | .seq a b,h=>let p:=nr C gl jt fz kY d a h;let q:=nr C gl jt fz kY d b p.2;(.seq p.1 q.1,q.2)
 | .cond c a b,h=>let p:=nr C gl jt fz kY d a h;let q:=nr C gl jt fz kY d b p.2;(.cond (cd C c) p.1 q.1,q.2)
 | .block id a,h=>let p:=nr C gl jt fz kY d a h;(.block id p.1,p.2)
 | .loop a,h=>let p:=nr C gl jt fz kY d a h.tail;(.loop (h.headD []) (zp (eK p.1) (h.headD [])) p.1,p.2)
 | .exit id,h=>(.exit id,h)
 | .ret,h=>(.ret,h)
 |_,h=>(.exit 0,h)
def zw:List ResultVar→List Nat
 |[]=>[]
 | .tmp t::r=>t::zw r
 | .cell t _::r=>t::zw r
def zx(P:Program):List ResultVar→List kL
 |[]=>[]
 | .tmp t::r=> .tmp t::zx P r
 | .cell t ty::r=> .cell t (hn P ty) (qv P ty)::zx P r
def bD(C:Ctx)(h:Hint):bw:=
 match C.P.funcs[h.dY]? with
 |some fn=>⟨fn.ntmps,zx C.P fn.results.toList,match fn.body with|some c=>(nr C h.gl h.jt h.fz h.kY (zw fn.results.toList) c h.loops).1|none=> .skip⟩
 |none=>⟨0,[],.exit 0⟩
def lB(P:Program)(a:Nat→Option (List I)):Ctx:=⟨P,λk=>cond (jq P k) (some k) none,a⟩
theorem Eo(P:Program)(b:Nat→Option (List I)):kU (lB P b):=by
 intro key f hf;simp only[lB]at hf;cases a:jq P key with
 |true=>rw[a]at hf;simp only[cond_true,Wy.injEq]at hf;subst hf;exact a
 |false=>rw[a]at hf;cases hf
def iK(C:Ctx):List Hint→Bool
 |[]=>true
 |h::r=>and (oC C h.dY (bD C h)) (iK C r)
theorem Ep{C:Ctx}:∀{L:List Hint},iK C L=true→∀h,h∈L→oC C h.dY (bD C h)=true
 |[],_,h,hm=>by cases hm
 | p::r,hc,h,hm=>by
  simp only[iK,Wn]at hc;rcases YI.1 hm with rfl|hm
  ·exact hc.1
  ·exact Ep hc.2 h hm
theorem qy{C:Ctx}:∀{L M:List Hint},iK C L=true→iK C M=true→iK C (L++M)=true
 |[],_,_,h=>h
 | p::r,M,hc,h=>by simp only[iK,Wn]at hc;simp only[Yi,iK,Wn];exact⟨hc.1,qy hc.2 h⟩
end Rb

namespace Rb
open Go
noncomputable section
abbrev tH:=bw
def tI(a:Nat→Option tH)(B:eT):eT:=λk args T Q=>match a k with
 |some c=>tB B 4096 c args T Q
 |none=>false
def qz(C:Ctx)(fuel:Nat):List Hint→Nat→Option tH
 |[],_=>none
 |h::r,k=>cond (Y8 h.dY k) (some (bD C h)) (qz C fuel r k)
theorem Er{C:Ctx}{fuel:Nat}:∀{L:List Hint}{k:Nat}{c:tH},qz C fuel L k=some c→∃h,h∈L∧h.dY=k∧c=bD C h
 |[],_,_,h=>by cases h
 | p::r,k,c,h=>by
  unfold qz at h;cases a:Y8 p.dY k with
  | true=>rw[a]at h;simp only[cond_true,Wy.injEq]at h;exact⟨p,YK,Zf a,h.symm⟩
  | false=>rw[a]at h;obtain⟨f,hf,hc⟩:=Er (L:=r) h;exact⟨f,YJ _ hf,hc⟩
theorem ND{P:Program}{a:Nat→Option (List I)}{L:List Hint}(d:iK (lB P a) L=true)(fuel:Nat):zn (aj (lB P a)) (tI (qz (lB P a) fuel L)):=by
 intro B e k args T K h Q g;unfold tI at h;split at h
 · rename_i c hc;obtain⟨hi,hm,hk,rfl⟩:=Er hc;have hs:p_ (aj (lB P a)) (bD (lB P a) hi) args T.ah Q:=DX (s4 _) (D_ e h g);refine⟨C0 (yP _) hs,λf hf G w Vs i j l=>?_⟩;have m:f=k:=by
    simp only[lB]at hf;cases b:jq P k with
    |true=>rw[b]at hf;simpa using hf.symm
    |false=>rw[b]at hf;cases hf
   subst m;exact DJ (Eo P a) (by rw[←hk];exact Ep d _ hm) hs i j l
 ·cases h
end
end Rb

namespace Rb
open Go
noncomputable section
def forced(b:Bool):Bool:=Bool.rec (motive:=λ_=>Bool) false true b
theorem NF(b:Bool):forced b=b:=by cases b<;>rfl
theorem dF{b:Bool}(h:forced b=true):b=true:=by rwa [NF]at h
def gI:List (Nat×List I×I)→oI
 |[],_,_=>none
 |e::r,k,args=>cond (Y8 e.1 k) (cond (I.gE e.2.1 args) (some e.2.2) (gI r k args)) (gI r k args)
theorem zy{Φ:ae}:hj Φ (gI []):=λ_ _ _ h=>by cases h
end
end Rb

namespace Rb
open Go
variable{C:Ctx}{key:Nat}{H:Z}{Q:ad}
mutual
def I.fQ:I→I
 | .ak cs=> .ak (I.fS cs)
 | .av _ len cs=> .av .dead len (I.fS cs)
 | .fn k cs=> .fn k (I.fS cs)
 | .iface t v=> .iface t (I.fQ v)
 | .agg cs=> .agg (I.fS cs)
 | .aM cs=> .aM (I.fS cs)
 |v=>v
def I.fS:List I→List I
 |[]=>[]
 |c::r=>I.fQ c::I.fS r
end
theorem oM:∀cs:List I,I.fS cs=cs.map I.fQ
 |[]=>rfl
 |c::r=>by rw[I.fS,oM r];rfl
theorem lC{cs:List I}{j:Nat}{c:I}(h:(I.fS cs)[j]?=some c):∃d,cs[j]?=some d∧c=d.fQ:=by
 rw[oM,Xb]at h;cases hc:cs[j]? with
 |none=>rw[hc]at h;cases h
 |some d=>rw[hc]at h;simp at h;exact⟨d,rfl,h.symm⟩
theorem qA(cs:List I):(I.fS cs).length=cs.length:=by rw[oM,YU]
theorem VR.fQ{F:dk}{w:World}{G:b4}{c:I}{V:Value}(h:VR F w G c V):VR F w G c.fQ V:=by
 induction h with
 |bot V=>exact .bot V
 |bool b=>exact .bool b
 |int k n=>exact .int k n
 |str s=>exact .str s
 |eY=>exact .eY
 |ptr id off h=>exact .ptr id off h
 | ak cells b o Vs h _ g=>
  refine .ak _ b o Vs (λj c i=>?_) λj c i=>?_
  ·obtain⟨d,e,rfl⟩:=lC i;exact h j d e
  ·obtain⟨d,e,rfl⟩:=lC i;exact g j d e
 |fA=>exact .fB none 0
 |fB a cap=>exact .fB a cap
 | av tk len cells b o cap Vs ht hle h _ g=>
  refine .av .dead len _ b o cap Vs trivial hle (λj c i=>?_) λj c i=>?_
  ·obtain⟨d,e,rfl⟩:=lC i;exact h j d e
  ·obtain⟨d,e,rfl⟩:=lC i;exact g j d e
 |row id off len sz cap h hle hc=>exact .row id off len sz cap h hle hc
 |map id h=>exact .map id h
 |fZ=>exact .fZ
 | fn key b_ f Vs hk hf hl _ g=>refine .fn key _ f Vs hk hf (by rw[qA];exact hl) λj c V hc l=>?_;obtain⟨d,e,rfl⟩:=lC hc;exact g j d V e l
 | ls key k b_ f Vs hk hf hl _ g=>refine .ls key k _ f Vs hk hf (by rw[qA];exact hl) λj c V hc l=>?_;obtain⟨d,e,rfl⟩:=lC hc;exact g j d V e l
 |gy=>exact .gy
 |iface t v V _ g=>exact .iface t _ V g
 |gz=>exact .gz
 | agg cs Vs hl _ g=>refine .agg _ Vs (by rw[qA];exact hl) λj c V hc l=>?_;obtain⟨d,e,rfl⟩:=lC hc;exact g j d V e l
 | aM cs Vs hl _ g=>refine .aM _ Vs (by rw[qA];exact hl) λj c V hc l=>?_;obtain⟨d,e,rfl⟩:=lC hc;exact g j d V e l
theorem aj.fQ{a:List I}(h:aj C key a H (λv H'=>Q v.fQ H')):aj C key a H Q:=by refine⟨by obtain⟨v,H',b⟩:=h.1;exact⟨_,_,b⟩,λf hf G w Vs c d g=>?_⟩;refine Yz (h.2 f hf G w Vs c d g) λe R he=>?_;obtain⟨V,v,H',G',e1,i,hv,r⟩:=he;exact⟨V,v.fQ,H',G',e1,i,hv.fQ,r⟩
theorem aj.NG{a:List I}(h:aj C key (I.fS a) H Q):aj C key a H Q:=by refine⟨h.1,λf hf G w Vs e g b=>?_⟩;refine h.2 f hf G w Vs e g ⟨by rw[qA];exact b.1,λj c V hc i=>?_⟩;obtain⟨d,k,rfl⟩:=lC hc;exact(b.2 j d V k i).fQ
end Rb

namespace Rb
open Go
variable{C:Ctx}{B:eT}
noncomputable section
def qB:List (List I×I)→List I→Option I
 |[],_=>none
 |e::r,a=>cond (I.gE e.1 a) (some e.2) (qB r a)
def oN(k:Nat):List (Nat×List I×I)→List (List I×I)
 |[]=>[]
 |e::r=>cond (Y8 e.1 k) ((e.2.1,e.2.2)::oN k r) (oN k r)
theorem Es(k:Nat)(a:List I):∀L:List (Nat×List I×I),qB (oN k L) a=gI L k a
 |[]=>rfl
 | e::r=>by
  have b:=Es k a r;unfold oN gI;cases Y8 e.1 k with
  |false=>exact b
  | true=>
   simp only[cond_true,qB];cases I.gE e.2.1 a with
   |false=>exact b
   |true=>rfl
def zz(L:List (Nat×List I×I)):oI:=λk args=>match oN k L with
 |[]=>none
 |l=>qB l (I.fS args)
theorem NH{L:List (Nat×List I×I)}(h:hj (aj C) (gI L)):hj (aj C) (zz L):=by
 intro k args v hm H Q a;have:qB (oN k L) (I.fS args)=some v:=by
  unfold zz at hm;split at hm
  ·cases hm
  ·exact hm
 rw[Es]at this;exact aj.NG (h k _ v this H Q a)
theorem NI(aw:cY C)(b:fo (aj C) B){k:Nat}{a:List I}{v:I}(c:I.cv a=true)(hv:v.b6=true)(h:B k a TH.mt (λu _=>u.fQ.same v)=true)(H:Z)(Q:ad)(d:Q v H):aj C k a H Q:=aj.Ea aw (aj.fQ (Q:=λu _=>u.same v=true) (Nx b (K:=λu=>u.fQ.same v) h)) c H Q λu _ hu=>by rw[I.tg _ _ hu];exact⟨hv,d⟩
def zA(B:eT)(e:Nat×List I×I):Bool:=and (I.cv e.2.1) (and e.2.2.b6 (B e.1 e.2.1 TH.mt (λu _=>u.fQ.same e.2.2)))
def kZ(B:eT):List (Nat×List I×I)→Bool
 |[]=>true
 |e::r=>and (zA B e) (kZ B r)
theorem NJ(aw:cY C)(f:fo (aj C) B){e:Nat×List I×I}{L:List (Nat×List I×I)}(h:zA B e=true)(c:hj (aj C) (gI L)):hj (aj C) (gI (e::L)):=by
 obtain⟨d,a0,v0⟩:=e;simp only[zA,Wn]at h;obtain⟨g,i,j⟩:=h;intro k args v hm H Q a;unfold gI at hm;dsimp only at hm;cases b:Y8 d k with
 |false=>rw[b]at hm;exact c k args v hm H Q a
 | true=>
  rw[b]at hm;obtain rfl:=Zf b;cases hs:I.gE a0 args with
  |false=>rw[hs]at hm;exact c d args v hm H Q a
  | true=>rw[hs]at hm;simp only[cond_true,Wy.injEq]at hm;subst hm;obtain rfl:=I.nj _ _ hs;exact NI aw f g i j H Q a
theorem mr{C:Ctx}(aw:cY C){B:eT}(a:fo (aj C) B){L:List (Nat×List I×I)}(b:hj (aj C) (gI L)):∀{N:List (Nat×List I×I)},kZ B N=true→hj (aj C) (gI (N++L))
 |[],_=>b
 | e::N,h=>by simp only[kZ,Wn]at h;exact NJ aw a h.1 (mr aw a b h.2)
end
end Rb

namespace Rb
open Go
def qC:List Int:=[1,10,100,1000,10000,100000,1000000,10000000,100000000,1000000000,10000000000,100000000000,1000000000000,10000000000000,100000000000000,1000000000000000,10000000000000000,100000000000000000,1000000000000000000,10000000000000000000]
def Et:List I:=qC.map (I.int .u64)
end Rb
