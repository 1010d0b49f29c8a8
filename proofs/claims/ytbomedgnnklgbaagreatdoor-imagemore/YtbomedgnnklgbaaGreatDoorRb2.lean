/- A part of the proof (part 2): see the last text. -/
import Derived.Test.YtbomedgnnklgbaaGreatDoorRb1
import Derived.Orders
import Derived.Carry
import Derived.OpenVars
import Derived.OpenShut
import Derived.ProofKit
import Derived.ChangeOld
import Derived.KernelRfl
set_option linter.unusedVariables false
set_option linter.unusedSimpArgs false
open Array renaming getElem?_eq_some_iff→aaH, getElem?_setIfInBounds_ne→acx, range→aa0, replicate→acD, size_setIfInBounds→acw
open BitVec renaming ofInt→VR
open Bool renaming and_eq_true→Z3, and_self→ac0, eq_false_iff→acA, eq_iff_iff→acj, false_eq_true→abS, or_eq_true→Z4, rec→adi, true_and→adj, xor→acQ
open Go renaming sizeOf→Z2
open Go.Act renaming put→acs
open Go.Calls renaming mono→acb
open Go.DataW renaming TrodAll→acL
open Go.Edge renaming on→acr
open Go.Instr renaming alloc→aa1, loadAt→aaR, makeSlice→aa5, sureAddr→aak
open Go.IntKind renaming bits→aaa, i64→aa7, signed→Z_, wrap→aa8
open Go.Region renaming binds→acq, ready→acF, wanted→acu
open Go.Region.Mode renaming any→acC
open Go.Result renaming andThen_ok→abK
open Go.Sem renaming run_bind→abJ, run_pure→abR
open Go.World renaming block_lt_of_cell?→aaG, cell?_of_block→aaF
open Int renaming eq_ofNat_of_zero_le→aa6, natCast_nonneg→ade, ofNat_lt→adf, ofNat→ac3
open List renaming all_cons→acM, all_eq_true→aaW, any_eq_true→acB, cons_append→abV, countP_cons→acv, drop_succ_cons→ac2, getD_eq_getElem?_getD→abi, getElem?_append_left→abB, getElem?_append_right→abC, getElem?_drop→Z0, getElem?_eq_getElem→aaQ, getElem?_eq_none→acf, getElem?_eq_some_iff→ZX, getElem?_map→aaP, getElem?_replicate→acJ, getElem?_set_ne→aaT, getElem?_set_self→aaS, getElem?_set→aao, getElem?_take→ZZ, length_map→acz, lookup_cons→acK, mapM_cons→acI, map_cons→abl, map_map→acU, mem_cons_of_mem→acn, mem_cons_self→aco, mem_cons→acm, mem_filter→acy, mem_map→acE, mem_of_getElem?→acN, mem_range→aci, range→aaO, rec→acS, replicate→ZU, set_eq_of_length_le→acG
open Nat renaming add→ac4, beq→acO, ble→acY, blt→acT, div→ac7, eq_of_beq_eq_true→ac1, land→ac9, le_of_ble_eq_true→acZ, le_of_not_lt→ach, le_refl→np, lor→ac_, lt_of_le_of_lt→adb, lt_succ_self→acP, lt_trichotomy→acH, mod→ac8, mul→ac6, not_lt_zero→acV, rec→acX, sub_zero→acW, sub→ac5, succ→adg, xor→ada, zero_add→aaK
open Option renaming map_some→aae, map→acR, some→aad
open Prod renaming rec→adh
namespace Rb
open Go
variable{F:cJ}{Q:Exit→Act→World→Prop}{x:Nat×Nat}{w0 w':World}{i b cap sz bytes:Nat}{op:dj}{al:List br}{az:List Nat}{v:I}{G0 G':bj}{P:Program}{cs zero:List I}{ao:br}{H':AH}
def kL(ops:Array Oper)(x:Option (Nat×Bool))(y:Option (Nat×Bool)):Bool:=
 match x,y with
 |none,none=>true
 |some (j,want),some (s,a)=>want==a&&((ops[j]?).bind (·.dst))==some s
 |_,_=>false
def hF(C:Ctx)(ops:Array Oper):List Oper→List br→Bool
 |[],[]=>true
 |o::r,a::s=>o.dst==a.dst&&cx C o.op a.op&&kL ops o.guard a.guard&&hF C ops r s
 |_,_=>false
def gx:List br→List Nat
 |[]=>[]
 |o::r=>o.dst.toList++(match o.guard with|some (s,_)=>[s]|none=>[])++gx r
def eb:eE→List Nat
 | .region ops=>gx ops
 | .draw ops _ _ _=>gx ops
 | .seq a b=>eb a++eb b
 | .join _ _ a b=>eb a++eb b
 | .cond _ a b=>eb a++eb b
 | .block _ a=>eb a
 | .loop _ _ a=>eb a
 | .freeze t a=>t::eb a
 | .gW _ _ ops b=>gx ops++eb b
 |_=>[]
def s7(ops:Array Oper)(pr:List (List Nat)):Bool:=(aaO ops.size).all λi=>match ops[i]? with
 | some o=>
  let es:=(o.after.toList.filter (acq .any)).map acr
  es.all (λj=>decide (j<i))&&(bY pr i).all λj=>es.contains j||es.any λk=>(bY pr k).contains j
 |none=>false
def s8(ks vs:List Nat)(az:List Nat):Bool:=az.all λt=>ks.contains t||vs.contains t
def qi(C:Ctx)(ops:Array Oper):List Oper→eE→Bool
 |l,.region al=>hF C ops l al
 |l,.gW vs ks al b=>hF C ops (l.take al.length) al&&s8 ks vs (gx al)&&qi C ops (l.drop al.length) b
 |_,_=>false
def dG(C:Ctx):Code→eE→Bool
 | .skip,.skip=>true
 | .region _ ops false,.region al=>hF C ops ops.toList al
 | .region _ ops true,.draw al pr a_ last=>hF C ops ops.toList al&&s7 ops pr&&s4 al pr a_ last&&C.P.follows .mixedOrders
 | .seq a b,.seq x y=>dG C a x&&dG C b y
 | .seq a b,.join vs ks x y=>dG C a x&&dG C b y&&s8 ks vs (eb x)
 | .cond c a b,.cond x p q=>b_ C c x&&dG C a p&&dG C b q
 | .block id a,.block d x=>id==d&&dG C a x
 | .loop a,.loop vs ks x=>dG C a x&&s8 ks vs (eb x)
 | .exit id,.exit d=>id==d
 | .ret,.ret=>true
 | .region _ ops false,.gW vs ks al b=>qi C ops ops.toList (.gW vs ks al b)
 |c,.freeze t x=>dG C c x
 |_,_=>false
def dA(az:List Nat)(a b:Act):Prop:=b.tmps.size=a.tmps.size∧∀t,t∉az→b.tmps[t]?=a.tmps[t]?
theorem dA.refl(az:List Nat)(a:Act):dA az a a:=⟨rfl,λ_ _=>rfl⟩
theorem dA.trans{a b c:Act}(h:dA az a b)(k:dA az b c):dA az a c:=⟨k.1.trans h.1,λt ht=>(k.2 t ht).trans (h.2 t ht)⟩
theorem dA.mono{az bs:List Nat}{a b:Act}(h:dA az a b)(hs:∀t,t∈az→t∈bs):dA bs a b:=⟨h.1,λt ht=>h.2 t λc=>ht (hs t c)⟩
theorem dA.put(a:Act)(d:Option Tmp)(V:Value):dA d.toList a (a.put d V):=by
 cases d with
 |none=>exact dA.refl _ _
 | some d=>refine⟨by simp[acs],λt ht=>?_⟩;simp only[Option.toList_some,List.mem_singleton]at ht;simp only[acs];rw[Array.getElem?_setIfInBounds,ak (λe=>ht e.symm)]
section
variable{C:Ctx}{w:World}{G:bj}{H:AH}{env:Env}{a:Act}
theorem aP.bI(h:aP C.F w G env a.tmps)(d:Option Tmp){V:Value}(hv:R C.F w G v V):aP C.F w G (Rb.bI env d v) (a.put d V).tmps:=by
 cases d with
 |none=>exact h
 |some d=>exact h.set d hv
theorem aP.same{Vs:Array Value}(h:aP F w G cs Vs){t:Nat}(hv:cs[t]?=some v):aP F w G (cs.set t v) Vs:=by
 refine⟨by simp[h.1],λj c V hc a=>?_⟩;by_cases b:t=j
 · subst b;rw[aaS (ZX.1 hv).1]at hc;cases hc;exact h.2 t v V hv a
 · rw[aaT b]at hc;exact h.2 j c V hc a
theorem Oper.DG{o:Oper}{n1 n2:Act→World→Prop}(h:o.wp P a w n1 Q)(b:∀a w,n1 a w→n2 a w):o.wp P a w n2 Q:=by
 unfold Oper.wp at h ⊢;cases g:(execOp a.eval o).run P w with
 | halt i w'=>rw[g]at h;cases i<;>first|exact h|exact h.elim
 | ok x w'=>
  rw[g]at h;cases x with
  |value v=>exact b _ _ h
  |skip=>exact b _ _ h
  |defer d=>exact b _ _ h
  | enter f args=>
   refine acb h λe j he=>?_;cases e with
   |returned v=>exact b _ _ he
   |panicked c=>exact he
   |outgrown=>exact he
  |row r args=>exact Rows.mono h λv j hv=>b _ _ hv
  |_=>exact h.elim
theorem put_defers(d:Option Tmp)(V:Value):(a.put d V).defers=a.defers:=by cases d<;>rfl
theorem NW{ops:Array Oper}{rest:List Oper}{o:Oper}(b:o.guard=none)(h:o.wp P a w (wpList P ops Q rest) Q):wpList P ops Q (o::rest) a w:=by unfold wpList;rw[af (by simp[acu,b])];exact .inl h
theorem DH(U:jt C){N:List Deferred}{ops:Array Oper}{Q:Exit→Act→World→Prop}{K:Env→AH→Prop}{w0:World}{G0:bj}{H0:AH}{a0:Act}{az:List Nat}{rest:List Oper} :
  ∀ (l:List Oper) (al:List br) (env:Env) (H:AH) (G:bj) (w:World) (a:Act),hF C ops l al=true→fM (b7 C) al env H K→dN C w G H→Rel C.F w G H→aP C.F w G env a.tmps→a.defers=N →
   Step w0 G0 H0 w G H→dA az a0 a→(∀t,t∈gx al→t∈az) →
   (∀aJ H' G' n w',K aJ H'→dN C w' G' H'→Rel C.F w' G' H'→aP C.F w' G' aJ n.tmps→n.defers=N→Step w0 G0 H0 w' G' H'→dA az a0 n→wpList C.P ops Q rest n w') →
   wpList C.P ops Q (l++rest) a w:=by
 intro l;induction l with
 | nil=>
  intro al env H G w a p h i q he r u hk _ x;cases al with
  |nil=>exact x env H G a w h i q he r u hk
  |cons _ _=>simp[hF]at p
 | cons o l D=>
  intro al env H G w a p h i q he r u hk O x;cases al with
  |nil=>simp[hF]at p
  | cons ao al=>
   simp only[hF,Z3,bK]at p;obtain⟨⟨⟨z,X⟩,e⟩,E⟩:=p;have I:∀t,t∈gx al→t∈az:=λt ht=>O t (by simp[gx,ht]);have J:∀t,t∈o.dst.toList→t∈az:=λt ht=>O t (by rw[z]at ht;simp[gx];left;simpa using ht);have step:∀(A:Env)(W:Act),W=a→aP C.F w G A a.tmps→b4 (b7 C) A H (λv H'=>fM (b7 C) al (bI A ao.dst v) H' K) ao.op→o.wp C.P a w (wpList C.P ops Q (l++rest)) Q:=by intro A W _ R Y;refine Oper.DG (Dv U X i q R Y) λn w' Z=>?_;obtain⟨v,H',G',V,rfl,S,hv,y,hs⟩:=Z;rw[←z]at S;exact D al _ H' G' w' _ E S (i.step hs) y ((R.mono hs.toGLe).bI o.dst hv) (by rw[put_defers];exact r) (u.trans hs) (hk.trans ((dA.put a o.dst V).mono J)) I x
   cases k:o.guard with
   | none=>
    rw[k]at e;have f:ao.guard=none:=by
     cases f:ao.guard with
     |none=>rfl
     |some _=>rw[f]at e;simp[kL]at e
    simp only[fM,f]at h;exact NW k (step env a rfl he h)
   | some g=>
    obtain⟨j,want⟩:=g;rw[k]at e;cases f:ao.guard with
    |none=>rw[f]at e;simp[kL]at e
    | some g'=>
     obtain⟨s,ab⟩:=g';rw[f]at e;simp only[kL,Z3,bK]at e;obtain⟨rfl,hs⟩:=e;simp only[fM,f]at h;have get:∀c,env.getD s .bot=c→c ≠ .bot→env[s]?=some c:=by
      intro c d hc;rw[abi]at d;cases T:env[s]? with
      |none=>rw[T]at d;exact absurd d.symm hc
      |some c=>rw[T]at d;simp at d;rw[d]
     unfold aM at h;split at h
     · rename_i b d;have m:=get _ d (by simp);obtain⟨V,L,y⟩:=he.get m;obtain rfl:=y.h6;have B:yielded ops a.tmps j=some b:=by simp[yielded,hs,L]
       by_cases M:b=want
       · subst M;rw[af rfl]at h;rw[abV];unfold wpList;rw[af (by simp[acu,k,B])];exact .inl (step _ a rfl (he.same m) h)
       · rw[ak M]at h;have aa:b=!want:=by cases b<;>cases want<;>simp at M ⊢
         subst aa;rw[abV];unfold wpList;rw[ak (by simp[acu,k,B])];rw[←z]at h;exact D al _ H G w _ E h i q ((he.same m).bI o.dst oE) (by rw[put_defers];exact r) u (hk.trans ((dA.put a o.dst undef).mono J)) I x
     · rename_i d;have m:=get _ d (by simp);obtain⟨V,L,y⟩:=he.get m;obtain rfl:=y.C8;have B:yielded ops a.tmps j=none:=by simp[yielded,hs,L]
       rw[abV];unfold wpList;rw[ak (by simp[acu,k,B])];rw[←z]at h;exact D al _ H G w _ E h i q ((he.same m).bI o.dst oE) (by rw[put_defers];exact r) u (hk.trans ((dA.put a o.dst undef).mono J)) I x
     ·exact h.elim
theorem DI(d:jt C){c:List Deferred}{ops:Array Oper}{Q:Exit→Act→World→Prop}{K:Env→AH→Prop}{w0:World}{G0:bj}{H0:AH}{a0:Act}{az:List Nat}
  (l:List Oper) (al:List br) (env:Env) (H:AH) (G:bj) (w:World) (a:Act) (e:hF C ops l al=true) (h:fM (b7 C) al env H K) (f:dN C w G H) (g:Rel C.F w G H) (he:aP C.F w G env a.tmps) (i:a.defers=c)
   (j:Step w0 G0 H0 w G H) (hk:dA az a0 a) (k:∀t,t∈gx al→t∈az)
   (m:∀aJ H' G' b w',K aJ H'→dN C w' G' H'→Rel C.F w' G' H'→aP C.F w' G' aJ b.tmps→b.defers=c→Step w0 G0 H0 w' G' H'→dA az a0 b→Q .normal b w') :
   wpList C.P ops Q l a w:=by
 have:=DH (rest:=[]) d l al env H G w a e h f g he i j hk k m;rwa [List.append_nil]at this
theorem NX{ops:Array Oper}:∀{l:List Oper}{al:List br},hF C ops l al=true→l.length=al.length∧∀(i:Nat)(o:Oper),l[i]?=some o→∃ao,al[i]?=some ao∧o.dst=ao.dst∧cx C o.op ao.op=true∧kL ops o.guard ao.guard=true:=by
 intro l;induction l with
 |nil=>intro al h;cases al<;>simp[hF]at h ⊢
 | cons o l b=>
  intro al h;cases al with
  |nil=>simp[hF]at h
  | cons ao al=>
   simp only[hF,Z3,bK]at h;obtain⟨⟨⟨c,d⟩,e⟩,f⟩:=h;obtain⟨h1,g⟩:=b f;refine⟨by simp[h1],λi j a=>?_⟩;cases i with
   |zero=>simp at a;subst a;exact⟨ao,rfl,c,d,e⟩
   |succ i=>exact g i j (by simpa using a)
theorem DJ:∀{al:List br}{i:Nat},al[i]?=some ao→∀t,ao.dst=some t→t∈gx al:=by
 intro al;induction al with
 |nil=>intro i h;simp at h
 | cons x al a=>
  intro i h t ht;cases i with
  |zero=>simp at h;subst h;simp[gx,ht]
  |succ i=>simp only[gx,List.mem_append];exact .inr (a (by simpa using h) t ht)
theorem NY(A:jt C){ops:Array Oper}{Q:Exit→Act→World→Prop}{N:Act→World→Prop}{q:ad}{o:Oper}(B:ops[i]?=some o)(u:o.dst=ao.dst)(D:cx C o.op ao.op=true)
  (d:kL ops o.guard ao.guard=true) (h:h9 (b7 C) ao env H q) (r:dN C w G H) (x:Rel C.F w G H) (he:aP C.F w G env a.tmps)
  (y:∀v V H' G' w',q v H'→dN C w' G' H'→R C.F w' G' v V→Rel C.F w' G' H'→Step w G H w' G' H'→N (a.put ao.dst V) w'):wpOp C.P ops Q i N a w:=by
 unfold wpOp;rw[B];dsimp only;have step:b4 (b7 C) env H q ao.op→o.wp C.P a w N Q:=by intro E;refine Oper.DG (Dv A D r x he E) λL w' J=>?_;obtain⟨v,H',G',V,rfl,K,hv,f,hs⟩:=J;rw[u];exact y v V H' G' w' K (r.step hs) hv f hs
 unfold h9 at h;cases l:o.guard with
 | none=>
  rw[l]at d;have k:ao.guard=none:=by
   cases k:ao.guard with
   |none=>rfl
   |some _=>rw[k]at d;simp[kL]at d
  rw[k]at h;rw[af (by simp[acu,l])];exact .inl (step h)
 | some g=>
  obtain⟨j,want⟩:=g;rw[l]at d;cases k:ao.guard with
  |none=>rw[k]at d;simp[kL]at d
  | some g'=>
   obtain⟨s,M⟩:=g';rw[k]at d;simp only[kL,Z3,bK]at d;obtain⟨rfl,hs⟩:=d;rw[k]at h;dsimp only at h;obtain⟨b,e,h⟩:=h;have get:∀c,env.getD s .bot=c→c ≠ .bot→env[s]?=some c:=by
    intro c e hc;rw[abi]at e;cases z:env[s]? with
    |none=>rw[z]at e;exact absurd e.symm hc
    |some c=>rw[z]at e;simp at e;rw[e]
   cases b with
   | true=>
    have m:=get _ (I.ye e) (by simp);obtain⟨V,n,f⟩:=he.get m;obtain rfl:=f.h6;have p:yielded ops a.tmps j=some want:=by simp[yielded,hs,n]
    rw[af rfl]at h;rw[af (by simp[acu,l,p])];exact .inl (step h)
   | false=>
    rw[jq]at h;have hw:acu o (yielded ops a.tmps)=false:=by
     rcases I.C2 e with t|t
     · have m:=get _ t (by simp);obtain⟨V,n,f⟩:=he.get m;obtain rfl:=f.h6;have p:yielded ops a.tmps j=some (!want):=by simp[yielded,hs,n]
       simp[acu,l,p]
     · have m:=get _ t (by simp);obtain⟨V,n,f⟩:=he.get m;obtain rfl:=f.C8;have p:yielded ops a.tmps j=none:=by simp[yielded,hs,n]
       simp[acu,l,p]
    rw[ak (by simp[hw]),u];exact y _ _ H G w h r oE x (Step.refl _ _ _)
theorem NZ{p a:Nat→Bool}:∀{l:List Nat},(∀x,a x=true→p x=true)→(∃x∈l,p x=true∧a x=false)→l.countP a<l.countP p:=by
 have le:∀{l:List Nat},(∀x,a x=true→p x=true)→l.countP a≤l.countP p:=λ{l} h=>List.countP_mono_left λx _=>h x;intro l;induction l with
 |nil=>rintro _ ⟨x,b,_⟩;cases b
 | cons y l e=>
  intro h ⟨x,b,h1,d⟩;rw[acv,acv];rcases acm.1 b with rfl|b
  · rw[h1,d];have:=le (l:=l) h;simp;omega
  · have:=e h ⟨x,b,h1,d⟩;by_cases c:a y=true
    ·rw[c,h y c];omega
    · simp at c;rw[c];simp;omega
theorem Step.drawn{w:World}{G:bj}{H:AH}{n:Nat}(b:w.drawn≤n)(h:Rel F w G H):Rel F {w with drawn:=n} G H∧Step w G H {w with drawn:=n} G H:=by
 have a:GLe w G {w with drawn:=n} G:=⟨np _,λ_ _=>rfl,λ_ _=>rfl,λ_ _ h=>h,λ_ _ _ _ h=>h⟩
 exact ⟨⟨h.n,h.over,λj=>(h.obj j).aO a (λhl=>h.gX hl) (λ_=>rfl) λhl k hf=>hf,h.eZ,h.e2⟩,
   {a with size:=np _,os:=rfl,tape:=rfl,output:=rfl,dr:=b,dE:=λ_ _ _=>rfl,owned:=λi hi _=>⟨i,hi,rfl⟩,e3:=λ_ _ h=> .inl h}⟩
def ec(al:List br)(Pd:List Nat)(env:Env):Env:=(aaO env.length).map λj=>if Pd.any (λp=>cP al p==some j)then .bot else env.getD j .bot
theorem jw(al:List br)(Pd:List Nat)(env:Env)(t:Nat):(ec al Pd env).getD t .bot=if Pd.any (λp=>cP al p==some t)then .bot else env.getD t .bot:=by
 unfold ec;by_cases ht:t<env.length
 ·simp[abi,ht]
 · have h1:env.getD t .bot = .bot:=by simp[abi,acf (ach ht)]
   rw[h1];simp[abi,ht]
def qj:dj→Nat×Nat→bS
 | .alloc _ zero,_=> .row zero
 | .make _ _ _ zero _ _,x=> .row (ZU x.2 zero).flatten
 |_,_=> .map []
def qk:dj→Nat×Nat→Nat→I
 | .alloc _ _,_,i=> .ptr i 0
 | .make _ sz _ _ _ _,x,i=> .row i 0 x.1 sz
 |_,_,i=> .map i
def nj:dj→Nat×Nat→Nat→Value
 | .alloc _ _,_,b=> .pointer (some ⟨b,0,none⟩)
 | .make _ _ _ _ _ _,x,b=> .slice (some ⟨b,0,none⟩) x.1 x.2
 |_,_,b=> .map (some b)
def mn(F:cJ)(w:World)(G:bj):dj→Nat×Nat→Nat→Nat→Prop
 | .alloc _ zero,_,b,cap=>∃(a:Array Value) (e:TypeId),w.heap[b]?=some (.cells a e (0,0))∧a.size=cap∧aP F w G zero a
 | .make _ sz _ zero _ _,x,b,cap=>(∃(a:Array Value) (e:TypeId),w.heap[b]?=some (.cells a e (0,0))∧a.size=cap∧aP F w G (ZU x.2 zero).flatten a)∧x.1≤x.2∧x.2*sz=cap
 |_,_,b,_=>∃clock:Nat,w.heap[b]?=some (.map #[] clock)
theorem DK(a:kK op)(h:mn F w G op x b cap):b<w.heap.size:=by
 rcases a with⟨zero,rfl⟩|rfl|⟨_,_,_,_,_,rfl⟩
 ·obtain⟨_,_,h,_⟩:=h;exact(aaH.1 h).1
 ·obtain⟨_,h⟩:=h;exact(aaH.1 h).1
 ·obtain⟨⟨_,_,h,_⟩,_⟩:=h;exact(aaH.1 h).1
theorem DL(j:kK op)(h:mn F w G op x b cap)(i:GLe w G w' G')(a:w'.heap[b]?=w.heap[b]?):mn F w' G' op x b cap:=by
 rcases j with⟨zero,rfl⟩|rfl|⟨_,_,_,_,_,rfl⟩
 ·obtain⟨d,e,h1,f,g⟩:=h;exact⟨d,e,a.trans h1,f,g.mono i⟩
 ·obtain⟨c,h⟩:=h;exact⟨c,a.trans h⟩
 ·obtain⟨⟨d,e,h1,f,g⟩,k⟩:=h;exact⟨⟨d,e,a.trans h1,f,g.mono i⟩,k⟩
theorem N0(o:kK op)(h:mn F w G op x b cap)(n:GLe w G w G')(hl:G'.loc i=b)(hc:G'.cap i=cap)(hf:∀j,¬G'.fz b j):fa F w G' i (qj op x):=by
 rcases o with⟨zero,rfl⟩|rfl|⟨_,_,_,_,_,rfl⟩
 · obtain ⟨d,e,h1,f,g⟩:=h;exact ⟨d,e,by rw[hl];exact h1,by rw[hc];exact f,λj=>by rw[hl];exact hf j,λj c a=>by obtain⟨V,l,m⟩:=g.get a;exact⟨V,l,m.mono n⟩⟩
 · obtain⟨c,h⟩:=h;exact⟨#[],c,by rw[hl];exact h,rfl,λj=>by rw[hl];exact hf j,λj k v a=>by simp at a⟩
 · obtain ⟨⟨d,e,h1,f,g⟩,_⟩:=h;exact ⟨d,e,by rw[hl];exact h1,by rw[hc];exact f,λj=>by rw[hl];exact hf j,λj c a=>by obtain⟨V,l,m⟩:=g.get a;exact⟨V,l,m.mono n⟩⟩
theorem N1(a:kK op)(h:mn F w0 G0 op x b cap)(hi:i<G.n)(hl:G.loc i=b)(hc:G.cap i=cap):R F w G (qk op x i) (nj op x b):=by
 subst hl hc;rcases a with⟨zero,rfl⟩|rfl|⟨_,_,_,_,_,rfl⟩
 ·exact .ptr i 0 hi
 ·exact .map i hi
 · obtain⟨_,h1,c⟩:=h;exact .row _ _ _ _ _ hi h1 (by rw[aaK];exact c)
theorem N2{Φ:ae}{env:Env}{K:ad}(b:kK op)(c:iz env op=some x)(h:b4 Φ env H K op):K (qk op x H.n) (H.push (qj op x)):=by
 rcases b with⟨zero,rfl⟩|rfl|⟨_,_,_,_,_,rfl⟩
 · simp only[b4,au,aK,aR,aad.injEq,Prod.mk.injEq]at h;obtain⟨v,H',⟨rfl,rfl⟩,h⟩:=h;exact h
 ·exact h
 · obtain⟨y,a,h⟩:=DD h;rw[c]at a;cases a;exact h
theorem N3{F:cJ}{t e:TypeId}{a:TypeInfo}{z:Value}(ht:P.underlying t=some (.slice e))(hi:P.info? e=some a)(hs:a.size=sz)(h:a.bytes=bytes)(j:a.zero=some z)
  {n' c':Nat} (l:n'≤c') (m:(bytes:Int)*(c':Int)≤281474976710656) (n:(c':Int)≤9223372036854775807) (k:zero.length=sz) :
  (aa5 t (.int .i64 n') (.int .i64 c')).run P w = .ok (.slice (some ⟨w.heap.size,0,none⟩) n' c') (w.alloc (.cells ((aa0 (c'*zero.length)).map λi=>z.cells[i%z.cells.size]!) e)):=by
 have w1:aa7.wrap (n':Int)=n':=by simp[aa8,aaa,Z_];omega
 have w2:aa7.wrap (c':Int)=c':=by simp[aa8,aaa,Z_];omega
 have b:¬(281474976710656<(a.bytes:Int)*(c':Int)):=by rw[h];omega
 have c:¬((n':Int)<0):=by omega
 have d:¬((c':Int)<0):=by omega
 have f:¬(c'<n'):=by omega
 rw[k];subst hs;by_cases g:c'*a.size=0
 ·simp[aa5,run_underlying ht,asInt,asIntOf,typeInfo,Z2,hi,w1,w2,b,c,d,f,g,range_zero,newRow]
 ·simp[aa5,run_underlying ht,asInt,asIntOf,typeInfo,Z2,zeroValue,hi,j,w1,w2,b,c,d,f,g,newRow]
theorem N4{o:Oper}{l c:aT}(j:iv C w G)(k:aP C.F w G env a.tmps)(d:cx C o.op (.make true sz bytes zero l c)=true)(b:iz env (.make true sz bytes zero l c)=some x) :
  ∃(p:Obj) (cap:Nat),(execOp a.eval o).run C.P w = .ok (.value (nj (.make true sz bytes zero l c) x w.heap.size)) (w.alloc p)∧∀(w2:World)(f:bj),GLe w G w2 f→w2.heap[w.heap.size]?=some p→mn C.F w2 f (.make true sz bytes zero l c) x w.heap.size cap:=by
 simp only[cx]at d;split at d
 · rename_i t ol Q v;simp only[Z3]at d;obtain⟨⟨h1,y⟩,g⟩:=d;split at g
   · rename_i e A;obtain⟨inf,z,B,hs,h,D,R,E⟩:=yE (F:=C.F) g;have H:=kJ (C:=C) (w:=w) (G:=G) E;have I:aP C.F w G zero z.cells:=by simpa using H
     have q:=cb j k h1;have r:=cb j k y;simp only[iz]at b;split at b
     · rename_i n m e1 J;split at b
       · rename_i hc;obtain⟨s,k1,k2,K,u⟩:=hc;cases b;rw[e1]at q;rw[J]at r;have L:=q.eK;have M:=r.eK;obtain⟨n',rfl⟩:=aa6 s;obtain⟨c',rfl⟩:=aa6 (Int.le_trans s k1);have N:=N3 (P:=C.P) (w:=w) (F:=C.F) (ly A) B hs h D (n':=n') (c':=c') (by omega) k2 K u;refine⟨.cells ((aa0 (c'*zero.length)).map λi=>z.cells[i%z.cells.size]!) e,c'*sz,?_,λw2 f O h=>⟨⟨_,_,h,?_,?_⟩,by simp;omega,by simp⟩⟩
         · simp only[execOp,v,L,M];simp[N,nj]
         ·simp[u]
         · simp only[Int.toNat_natCast];exact(ow I c').mono O
       ·cases b
     ·cases b
   ·cases g
 ·cases d
def s9(C:Ctx)(al:List br)(w0 w:World)(G:bj)(H:AH)(a:Act)(i b:Nat)(x:Nat×Nat):Prop:=
 ∃ (t:Nat) (op:dj) (cap:Nat),al[i]?=some ⟨some t,op,none⟩∧kK op∧(t<a.tmps.size→a.tmps[t]?=some (nj op x b))∧mn C.F w G op x b cap ∧
  w0.heap.size≤b∧(∀k,(H.o k).live=true→G.loc k≠b)∧∀j,¬G.fz b j
theorem s9.step(h:s9 C al w0 w G H a i b x)(hs:Step w G H w' G' H')(d:Option Tmp)(V:Value)(o:∀t,cP al i=some t→d≠some t):s9 C al w0 w' G' H' (a.put d V) i b x:=by
 obtain⟨t,op,cap,h1,c,l,m,p,f,q⟩:=h;have n:b<w.heap.size:=DK c m;refine⟨t,op,cap,h1,c,λht=>?_,DL c m hs.toGLe (hs.dE b n f),p,λk hk e=>?_,λj hf=>?_⟩
 · cases g:d with
   |none=>rw[g]at ht;exact l ht
   | some r=>rw[g]at ht;have s:r≠t:=λe=>o t (by simp[cP,h1]) (by rw[g,e]);simp only[acs]at ht ⊢;rw[acw]at ht;rw[acx s];exact l ht
 · obtain⟨j,u,v⟩:=hs.owned k hk (by rw[e];exact n);exact f j u (v.trans e)
 · rcases hs.e3 b j hf with hf|y|⟨k,hk,e⟩
   ·exact q j hf
   ·omega
   ·exact f k hk e
structure Way(C:Ctx)(al:List br)(pr:List (List Nat))(last:List Nat)(K:Env→AH→Prop)(w0:World)(G0:bj)(H0:AH)(a0:Act)
  (a_:List (List Nat×Nat×List Nat)) (S:Nat→Bool) (Pd:List Nat) (bl:Nat→Nat) (ag:Nat→Nat×Nat) (env:Env) (H:AH) (G:bj) (a:Act) (w:World):Prop where
 inv:Inv (b7 C) al pr last K a_ S env H
 sep:∀p∈Pd,S p=false∧fe al pr p=true∧∀k∈bY pr p,S k=true∨k∈Pd
 ql:∀p∈Pd,s9 C al w0 w G H a p (bl p) (ag p)
 args:∀p∈Pd,∀t op,al[p]?=some ⟨some t,op,none⟩→iz env op=some (ag p)
 inj:∀p∈Pd,∀q∈Pd,bl p=bl q→p=q
 nk:dN C w G H
 rel:Rel C.F w G H
 oM:aP C.F w G (ec al Pd env) a.tmps
 defers:a.defers=[]
 step:Step w0 G0 H0 w G H
 aO:dA (gx al) a0 a
theorem DM{pr:List (List Nat)}(j:Good al pr){q i t':Nat}{a:dj}{o:br}{v:I}(b:al[q]?=some ⟨some t',a,none⟩)(c:fe al pr q=true)(k:al[i]?=some o)
  (hi:i∉bY pr q∨fe al pr i=true) (l:i≠q) (m:q∉bY pr i):iz (bI env o.dst v) a=iz env a:=by
 apply s6;intro s hs;cases n:o.dst with
 |none=>rfl
 | some d =>
  simp only[bI];by_cases e:d=s
  · subst e;exfalso;have p:cP al i=some d:=by simp[cP,k,n]
    rcases j.reads q _ d i b (by simp[gv,hs]) p with h|⟨_,h⟩
    · rcases hi with hi|hi
      ·exact hi h
      · obtain ⟨t2,x,r,t⟩:=mj hi;obtain⟨t3,y,f,u⟩:=mj c;rw[b]at f;cases f;rcases u with⟨zero,rfl⟩|rfl|⟨_,_,_,_,_,rfl⟩
        ·simp[bW]at hs
        ·simp[bW]at hs
        · obtain⟨z,g,w⟩:=Dz c b i h;rw[r]at g;cases g;exact oJ t w
    · rcases h with h|h
      ·exact l h
      ·exact m h
  ·rw[abi,aaT e,abi]
theorem Way.settle{pr:List (List Nat)}{B:List Nat}{K:Env→AH→Prop}{w0:World}{G0:bj}{H0:AH}{a0:Act}(D:Good al pr){bl:Nat→Nat}{ag:Nat→Nat×Nat} :
  ∀ (n:Nat) (a_:List (List Nat×Nat×List Nat)) (S:Nat→Bool) (Pd:List Nat) (env:Env) (H:AH) (G:bj),a_.length=n→Way C al pr B K w0 G0 H0 a0 a_ S Pd bl ag env H G a w →
   ∃y S' s aJ H' G',Way C al pr B K w0 G0 H0 a0 y S' s bl ag aJ H' G' a w∧(∀k,(S' k=true∨k∈s)↔(S k=true∨k∈Pd))∧∀p∈s,g_ y≠some p:=by
 intro n;induction n with
 | zero=>intro a_ S Pd env H G E hw;have:a_=[]:=List.length_eq_zero_iff.1 E;subst this;exact⟨[],S,Pd,env,H,G,hw,λk=>Iff.rfl,λp f h=>by cases h⟩
 | succ n ac =>
  intro a_ S Pd env H G E hw;by_cases P:∃p∈Pd,g_ a_=some p
  · obtain ⟨p, f,F⟩:=P;obtain⟨ad,ae,ah⟩:=hw.sep p f;obtain⟨_,aF,ai⟩:=yK hw.inv F;have Q:∀k∈bY pr p,S k=true:=by
     intro k hk;rcases ah k hk with h|h
     ·exact h
     ·exact ai k hk (hw.sep k h).2.1
    obtain⟨t,op,cap,h1,I,aj,R,aG,am,T⟩:=hw.ql p f;have J:=DF (mi C) D hw.inv h1 ad Q (.inr F);rw[af F]at J;simp only[hz]at J;have hinv:=N2 I (hw.args p f t op h1) J;have z:=hw.rel.n;obtain⟨m,an⟩:=hw.rel.yp (b:=bl p) (c:=cap) am (qj op (ag p)) (λm=>N0 I R m (af z.symm) (af z.symm) T);have U:∀i,i≠H.n→(G.more (bl p) cap).loc i=G.loc i:=λi hi=>ak (show ¬i=G.n by omega);have L:(G.more (bl p) cap).loc H.n=bl p:=af z.symm;have W:∀i,i≠H.n→(H.push (qj op (ag p))).o i=H.o i:=λi hi=>ak hi;have X:cP al p=some t:=by simp[cP,h1]
    have hlen:(ec al Pd env).length=env.length:=by simp[ec]
    have ao : Way C al pr B K w0 G0 H0 a0 a_.tail (λk=>k==p||S k) (Pd.filter (λq=>!(q==p))) bl ag (bI env (some t) (qk op (ag p) H.n)) (H.push (qj op (ag p))) (G.more (bl p) cap) a w:=by
     refine⟨hinv,λq d=>?_,λq d=>?_,λq d t' M Y=>?_,λq d ap aq h=>?_,hw.nk.yp m hw.rel.n T,an,?_,hw.defers,?_,hw.aO⟩
     · obtain ⟨d,u⟩:=acy.1 d;have v:q≠p:=by simpa using u
       obtain⟨g1,g2,g3⟩:=hw.sep q d;refine⟨by simp[v,g1],g2,λk hk=>?_⟩;rcases g3 k hk with h|h
       ·left;simp[h]
       · by_cases x:k=p
         ·left;simp[x]
         ·right;exact acy.2 ⟨h,by simp[x]⟩
     · obtain ⟨d,u⟩:=acy.1 d;have v:q≠p:=by simpa using u
       obtain⟨t',M,ar,k1,Z,k2,au,av,aw,ax⟩:=hw.ql q d;refine⟨t',M,ar,k1,Z,k2,DL Z au m rfl,av,λk hk e=>?_,λj hf=>ax j hf⟩;by_cases g:k=H.n
       · subst g;rw[L]at e;exact v (hw.inj q d p f e.symm)
       · rw[U k g]at e;rw[W k g]at hk;exact aw k hk e
     · obtain ⟨d,u⟩:=acy.1 d;have v:q≠p:=by simpa using u
       rw[←hw.args q d t' M Y];exact DM D Y (hw.sep q d).2.1 h1 (.inr ae) (λe=>v e.symm) λh=>by have:=Q q h;rw[(hw.sep q d).1]at this;cases this
     ·exact hw.inj q (acy.1 d).1 ap (acy.1 aq).1 h
     · have hv :=hw.oM.mono m;refine⟨by simp only[ec,bI,acz,List.length_range,List.length_set];rw[←hv.1,hlen],λj c V hc A=>?_⟩;have aa:j<env.length:=by
        have:=(ZX.1 hc).1;simpa[ec,bI]using this
       have r:c=(ec al (Pd.filter (λq=>!(q==p))) (bI env (some t) (qk op (ag p) H.n))).getD j .bot:=by rw[abi,hc];rfl
       rw[jw]at r;by_cases N:j=t
       · subst N;have ay:(Pd.filter (λq=>!(q==p))).any (λq=>cP al q==some j)=false:=by
          rw[acA];intro ab;rw[acB]at ab;obtain⟨q,d,l⟩:=ab;have az:cP al q=some j:=by simpa using l
          have:=D.uniq q p j az X;subst this;simp at d
         rw[ay]at r;simp only[abS,bz,bI,abi,aaS aa,Option.getD_some]at r;subst r;have aA:j<a.tmps.size:=(aaH.1 A).1;rw[aj aA]at A;cases A;exact N1 I R (show H.n<G.n+1 by omega) L (af z.symm)
       · have hold:(ec al Pd env).getD j .bot=if(Pd.filter (λq=>!(q==p))).any (λq=>cP al q==some j)then .bot else env.getD j .bot:=by
           rw[jw];have : Pd.any (λq=>cP al q==some j)=(Pd.filter (λq=>!(q==p))).any (λq=>cP al q==some j):=by
            rw[acj,acB,acB];constructor
            · rintro⟨q,d,l⟩;refine⟨q,acy.2 ⟨d,?_⟩,l⟩;have:q≠p:=by
               rintro rfl;rw[X]at l;exact N (by simpa using l:t=j).symm
              simp[this]
            · rintro⟨q,d,l⟩;exact⟨q,(acy.1 d).1,l⟩
           rw[this]
         have aB:(bI env (some t) (qk op (ag p) H.n)).getD j .bot=env.getD j .bot:=by simp only[bI];rw[abi,aaT (λe=>N e.symm),abi]
         rw[aB,←hold]at r;have aC:j<(ec al Pd env).length:=by rw[hlen];exact aa
         refine hv.2 j c V ?_ A;rw[r,abi,aaQ aC];rfl
     · have hs:=hw.step;refine {hs.toGLe.trans m with size:=hs.size,os:=hs.os,tape:=hs.tape,output:=hs.output,dr:=hs.dr,dE:=hs.dE,owned:=λk hk O=>?_,e3:=λb o hf=>hs.e3 b o hf};by_cases g:k=H.n
       · subst g;rw[L]at O;omega
       · rw[U k g]at O ⊢;rw[W k g]at hk;exact hs.owned k hk O
    obtain⟨y,S',s,aJ,H',G',r1,aD,aE⟩:=ac a_.tail _ _ _ _ _ (by simp[E]) ao;refine⟨y,S',s,aJ,H',G',r1,λk=>(aD k).trans ?_,aE⟩;simp only[Z4,bK,acy,Bool.not_eq_true',beq_eq_false_iff_ne];constructor
    · rintro((rfl|h)|⟨h,_⟩)
      ·exact .inr f
      ·exact .inl h
      ·exact .inr h
    · rintro (h|h)
      ·exact .inl (.inr h)
      · by_cases x:k=p
        ·exact .inl (.inl x)
        ·exact .inr ⟨h,x⟩
  ·exact⟨a_,S,Pd,env,H,G,hw,λk=>Iff.rfl,λp f h=>P ⟨p,f,h⟩⟩
theorem N5(bi:jt C){ops:Array Oper}{Q:Exit→Act→World→Prop}{K:Env→AH→Prop}{al:List br}{pr:List (List Nat)}{a_:List (List Nat×Nat×List Nat)}{ap:List Nat}
  (bk:hF C ops ops.toList al=true) (aA:s7 ops pr=true) (aZ:s4 al pr a_ ap=true) (hm:C.P.follows .mixedOrders=true)
  (h:gq (b7 C) al ap a_ env H K) (bm:dN C w G H) (bn:Rel C.F w G H) (he:aP C.F w G env a.tmps) (bo:a.defers=[])
  (bp:∀aJ H' G' f w',K aJ H'→dN C w' G' H'→Rel C.F w' G' H'→aP C.F w' G' aJ f.tmps→f.defers=[]→Step w G H w' G' H'→dA (gx al) a f→Q .normal f w') :
  wpAny C.P acC ops Q ops.size (acD ops.size false) a {w with drawn:=w.drawn+1}:=by
 obtain⟨hlen,bq⟩:=NX bk;have b9:ops.size=al.length:=by simpa using hlen
 simp only[s4,Z3]at aZ;obtain⟨⟨bs,R⟩,hc⟩:=aZ;have n:=NQ bs;have a0:∀(i:Nat)(o:Oper),ops[i]?=some o→(∀e∈o.after,acq .any e=true→e.on<i)∧∀j∈bY pr i,∃e∈o.after,acq .any e=true∧(e.on=j∨j∈bY pr e.on):=by
  intro i o A;have hi:i<ops.size:=(aaH.1 A).1;unfold s7 at aA;rw[aaW]at aA;have:=aA i (aci.2 hi);rw[A]at this;simp only[Z3]at this;obtain⟨h1,y⟩:=this;rw[aaW]at h1 y;refine⟨λe B R=>?_,λj aq=>?_⟩
  · have:=h1 e.on (acE.2 ⟨e,acy.2 ⟨by simpa using B,R⟩,rfl⟩);simpa using this
  · have:=y j aq;rw[Z4,acB]at this;rcases this with h|⟨k,hk,h⟩
    · have ar:j∈(o.after.toList.filter (acq .any)).map acr:=by simpa[List.contains_iff_mem]using h
      obtain⟨e,B,rfl⟩:=acE.1 ar;obtain⟨B,T⟩:=acy.1 B;exact⟨e,by simpa using B,T,.inl rfl⟩
    · obtain⟨e,B,rfl⟩:=acE.1 hk;obtain⟨B,T⟩:=acy.1 B;exact⟨e,by simpa using B,T,.inr (by simpa using h)⟩
 have main : ∀ (fuel:Nat) (listed:Array Bool) (a_:List (List Nat×Nat×List Nat)) (S:Nat→Bool) (Pd:List Nat) (bl:Nat→Nat) (ag:Nat→Nat×Nat) (aJ:Env) (H':AH) (G':bj) (f:Act) (w':World),
   Way C al pr ap K w G H a a_ S Pd bl ag aJ H' G' f w'→(∀k,listed.getD k false=true↔S k=true∨k∈Pd)→listed.size=ops.size →
   (aaO ops.size).countP (λk=>!listed.getD k false)≤fuel→wpAny C.P .any ops Q fuel listed f w':=by
  have done:∀(listed:Array Bool),listed.size=ops.size→acF .any ops listed=[]→∀i,i<ops.size→listed.getD i false=true:=by
   intro listed ad U i;induction i using Nat.strongRecOn with
   | _ i au=>
    intro hi;cases d:listed.getD i false with
    |true=>rfl
    | false=>
     exfalso;have ar:i∈acF .any ops listed:=by
      rw[mem_ready];have ae:i<listed.size:=by omega
      refine⟨?_,ops[i],by simp[hi],λe B T=>?_⟩
      ·simpa[ae]using d
      · have:=(a0 i ops[i] (by simp[hi])).1 e B T;exact au e.on this (by omega)
     rw[U]at ar;cases ar
  have fin:∀(listed:Array Bool)(a_:List (List Nat×Nat×List Nat)) (S:Nat→Bool) (Pd:List Nat) (bl:Nat→Nat) (ag:Nat→Nat×Nat) (aJ:Env) (H':AH) (G':bj) (f:Act) (w':World),
    Way C al pr ap K w G H a a_ S Pd bl ag aJ H' G' f w'→(∀k,listed.getD k false=true↔S k=true∨k∈Pd)→(∀i,i<ops.size→listed.getD i false=true)→Q .normal f w':=by
   intro listed a_ S Pd bl ag aJ H' G' f w' hw hL W;obtain⟨a1,S',aB,aC,H2,O,r1,av,bt⟩:=hw.settle n _ _ _ _ _ _ _ rfl;have aD:aB=[]:=by
    cases aD:aB with
    |nil=>rfl
    | cons p r=>
     exfalso;have b:p∈aB:=by rw[aD];exact aco
     cases d:g_ a1 with
     | none=>
      obtain⟨e0,e1,D,es,hl,hm,b_,hS,hf,a2,ca,aE,cb⟩:=r1.inv;cases a1 with
      |cons q r=>cases d
      | nil=>
       simp only[fk]at aE;rw[aaW]at aE;obtain⟨g1,g2,_⟩:=r1.sep p b;obtain⟨t,op,ah,Y⟩:=mj g2;have bu:p<al.length:=(ZX.1 ah).1;have bv:p∈D:=by simpa using aE p (aci.2 bu)
       obtain⟨o,v,A,m,_⟩:=hf p bv g1;rw[ah]at A;cases A;exact oJ Y m
     | some e=>
      obtain⟨g1,g2,_⟩:=yK r1.inv d;have:=W e (by omega);rcases(av e).2 ((hL e).1 this)with h|h
      ·rw[g1]at h;cases h
      ·exact bt e h d
   subst aD;have bw:∀i,i<al.length→S' i=true:=by
    intro i hi;rcases(av i).2 ((hL i).1 (W i (by omega)))with h|h
    ·exact h
    ·cases h
   have aF:ec al [] aC=aC:=by apply mm (by simp[ec]);intro t _;rw[jw];rfl
   have hv:=r1.oM;rw[aF]at hv;exact bp aC H2 O f w' (NU r1.inv bw) r1.nk r1.rel hv r1.defers r1.step r1.aO
  intro fuel;induction fuel with
  | zero=>
   intro listed a_ S Pd bl ag aJ H' G' f w' hw hL ad aG;have W:∀i,i<ops.size→listed.getD i false=true:=by intro i hi;have M:=Nat.le_zero.1 aG;rw[List.countP_eq_zero]at M;simpa using M i (aci.2 hi)
   have aH:acF .any ops listed=[]:=by
    apply List.eq_nil_iff_forall_not_mem.2;intro i hi;obtain⟨M,o,A,_⟩:=mem_ready.1 hi;have ae:i<ops.size:=(aaH.1 A).1;have:=W i ae;have Z:i<listed.size:=by omega
    simp[Z]at M this;rw[M]at this;cases this
   exact⟨aH,fin listed a_ S Pd bl ag aJ H' G' f w' hw hL W⟩
  | succ fuel au=>
   intro listed bx bz bA bl ag bB bC bD f w' a3 a4 ad aG;refine⟨λaH=>fin listed bx bz bA bl ag bB bC bD f w' a3 a4 λi hi=>done listed ad aH i hi,λi hi=>?_⟩;obtain⟨a_,S,Pd,aJ,H',G',hw,av,a5⟩:=a3.settle n _ _ _ _ _ _ _ rfl;have hL:∀k,listed.getD k false=true↔S k=true∨k∈Pd:=λk=>(a4 k).trans (av k).symm;obtain⟨M,o,A,W⟩:=mem_ready.1 hi;have ae:i<ops.size:=(aaH.1 A).1;have Z:i<listed.size:=by omega
   have aI:listed.getD i false=false:=by simpa[Z]using M
   have X:S i=false:=by
    cases d:S i with
    |false=>rfl
    |true=>have:=(hL i).2 (.inl d);rw[aI]at this;cases this
   have I:i∉Pd:=λd=>by have:=(hL i).2 (.inr d);rw[aI]at this;cases this
   obtain⟨ao,E,a6,m,aK⟩:=bq i o (by simpa using A);have ai:cP al i=ao.dst:=by simp[cP,E]
   obtain⟨a2,bE⟩:=NV n hw.inv;have bF:∀k,listed.getD k false=true→∀j∈bY pr k,listed.getD j false=true:=by
    intro k hk j aq;rw[hL]at hk ⊢;rcases hk with hk|hk
    ·exact .inl (a2 k hk j aq)
    ·exact(hw.sep k hk).2.2 j aq
   have aw:∀k∈bY pr i,listed.getD k false=true:=by
    intro k hk;obtain⟨e,B,T,aL⟩:=(a0 i o A).2 k hk;have:=W e B T;rcases aL with rfl|aL
    ·exact this
    ·exact bF e.on this k aL
   have a7:∀k,(listed.setIfInBounds i true).getD k false=true↔k=i∨listed.getD k false=true:=by
    intro k;by_cases aM:k=i
    ·subst aM;simp[Z]
    ·rw[getD_set_ne false (λe=>aM e.symm)];simp[aM]
   have a8:(aaO ops.size).countP (λk=>!(listed.setIfInBounds i true).getD k false)≤fuel:=by
    refine Nat.lt_succ_iff.1 (Nat.lt_of_lt_of_le (NZ (λx d=>?_) ⟨i,aci.2 ae,by rw[aI];rfl,by simp[Z]⟩) aG);by_cases a9:x=i
    ·subst a9;simp[Z]at d
    ·rw[getD_set_ne false (λe=>a9 e.symm)]at d;exact d
   by_cases ba:fe al pr i=true∧g_ a_≠some i
   ·
     obtain⟨L,cc⟩:=ba;obtain⟨t,op,ah,Y⟩:=mj L;rw[E]at ah;cases ah;unfold wpOp;rw[A];dsimp only;have aN:o.guard=none:=by
      cases aN:o.guard with
      |none=>rfl
      |some _=>rw[aN]at aK;simp[kL]at aK
     rw[af (by simp[acu,aN])];refine .inl ?_;have aa:(∃sz bytes zero l c,op = .make true sz bytes zero l c)→∀k∈bY pr i,S k=true:=by
      rintro⟨sz,bytes,zero,l,c,rfl⟩ k hk;rcases(hL k).1 (aw k hk)with h|h
      ·exact h
      · obtain⟨cd,bb,bG⟩:=Dz L E k hk;obtain⟨t2,ce,bH,bJ⟩:=mj (hw.sep k h).2.1;rw[bH]at bb;cases bb;exact(oJ bJ bG).elim
     obtain⟨x,bc⟩:=NT (yA C) n hw.inv E Y X aa;have d:iz (ec al Pd aJ) op=some x:=by
      rw[←bc];apply s6;intro s hs;rw[jw];have : Pd.any (λp=>cP al p==some s)=false:=by
       rw[acA];intro bd;rw[acB]at bd;obtain⟨p,b,aj⟩:=bd;have am:cP al p=some s:=by simpa using aj
       obtain⟨g1,g2,g3⟩:=hw.sep p b;have bL:∃sz bytes zero l c,op = .make true sz bytes zero l c:=by
        rcases Y with⟨zero,rfl⟩|rfl|h
        ·simp[bW]at hs
        ·simp[bW]at hs
        ·exact h
       rcases n.reads i _ s p E (by simp[gv,hs]) am with h|⟨_,h⟩
       ·have:=aa bL p h;rw[g1]at this;cases this
       · rcases h with rfl|h
         ·exact I b
         · rcases g3 i h with g|g
           ·rw[X]at g;cases g
           ·exact I g
      rw[this];rfl
     have bM:=hw.oM;obtain ⟨ax,cap,bN,hblk⟩:∃(ax:Obj) (cap:Nat),(execOp f.eval o).run C.P w' = .ok (.value (nj op x w'.heap.size)) (w'.alloc ax)∧∀(w2:World)(O:bj),GLe w' G' w2 O→w2.heap[w'.heap.size]?=some ax→mn C.F w2 O op x w'.heap.size cap:=by
      rcases Y with⟨zero,rfl⟩|rfl|⟨sz,bytes,zero,ol,cf,rfl⟩
      · simp only [cx]at m;split at m
        · rename_i ty aQ;split at m
          · rename_i inf bO;split at m
            · rename_i z bP;have bQ:=kJ (C:=C) (w:=w') (G:=G') m;have bR:aP C.F w' G' zero z.cells:=by simpa using bQ
              refine⟨.cells z.cells ty,z.cells.size,?_,λw2 O n R=>⟨_,_,R,rfl,bR.mono n⟩⟩;have U:(aa1 ty true (.tuple #[])).run C.P w' = .ok (.pointer (some ⟨w'.heap.size,0,none⟩)) (w'.alloc (.cells z.cells ty)):=by simp[aa1,zeroValue,typeInfo,bO,bP,newVar,newRow]
              simp[execOp,aQ,U,nj]
            ·cases m
          ·cases m
        ·cases m
      · simp only[cx]at m;split at m
        · rename_i ty r aQ;have U:r=none:=by simpa using m
          subst U;refine⟨.map #[] 0,0,?_,λw2 O n R=>⟨_,R⟩⟩;have U:(Instr.makeMap ty none).run C.P w' = .ok (.map (some w'.heap.size)) (w'.alloc (.map #[] 0)):=rfl;simp[execOp,aQ,U,nj]
        ·cases m
      ·exact N4 hw.nk.1 bM m d
     refine sW bN ?_;have b:=cK.alloc w' ax;obtain⟨bS,N⟩:=hw.rel.M1 b;have bT:o.dst=some t:=a6;rw[bT];refine au _ a_ S (i::Pd) (λk=>if k=i then w'.heap.size else bl k) (λk=>if k=i then x else ag k) aJ H' G' _ _ ⟨hw.inv,λp u=>?_,λp u=>?_,λp u t' aS ab=>?_,λp u q bU ay=>?_,hw.nk.step N,bS,?_,by rw[put_defers];exact hw.defers,hw.step.trans N,hw.aO.trans ((dA.put f (some t) _).mono λs hs=>DJ E s (by simpa[eq_comm]using hs))⟩ ?_ (by simp[ad]) a8
     · rcases acm.1 u with rfl|u
       · exact ⟨X,L,λk hk=>by
           rcases(hL k).1 (aw k hk)with h|h
           ·exact .inl h
           ·exact .inr (acn _ h)⟩
       · obtain⟨g1,g2,g3⟩:=hw.sep p u;exact⟨g1,g2,λk hk=>(g3 k hk).imp id λh=>acn _ h⟩
     · rcases acm.1 u with rfl|u
       · rw [af rfl,af rfl];refine⟨t,op,cap,E,Y,λht=>?_,hblk _ _ N.toGLe b.new,hw.step.size,λk hk=>Nat.ne_of_lt ((hw.rel.obj k).lt hk),λj hf=>?_⟩
         · simp only[acs]at ht ⊢;rw[acw]at ht;simp[ht]
         · obtain⟨V,an⟩:=hw.rel.e2 _ _ hf;have:=aaG w' _ an;simp at this
       · have J:p≠i:=λe=>I (e▸u);rw[ak J,ak J];refine(hw.ql p u).step N (some t) _ λs hs e=>?_;have bV:t=s:=aad.inj e;subst bV;exact J (n.uniq p i t hs (by rw[ai]))
     · rcases acm.1 u with rfl|u
       · rw[af rfl];rw[E]at ab;cases ab;exact bc
       · have J:p≠i:=λe=>I (e▸u);rw[ak J];exact hw.args p u t' aS ab
     · have be:∀q∈Pd,bl q<w'.heap.size:=by
         intro q bX;obtain⟨_,_,_,_,M,_,bZ,_⟩:=hw.ql q bX;exact DK M bZ
       have bf:=acm.1 u;have bg:=acm.1 bU;by_cases h1:p=i<;>by_cases y:q=i
       ·rw[h1,y]
       · rw[af h1,ak y]at ay;have:=be q (bg.resolve_left y);omega
       · rw[ak h1,af y]at ay;have:=be p (bf.resolve_left h1);omega
       · rw[ak h1,ak y]at ay;exact hw.inj p (bf.resolve_left h1) q (bg.resolve_left y) ay
     · have hv:=hw.oM.mono N.toGLe;refine⟨by simpa[ec,acs]using hv.1,λj c V hc an=>?_⟩;have b0:j<aJ.length:=by
        have:=(ZX.1 hc).1;simpa[ec]using this
       have ac:c=(ec al (i::Pd) aJ).getD j .bot:=by rw[abi,hc];rfl
       rw[jw]at ac;by_cases aT:t=j
       · subst aT;have:(i::Pd).any (λq=>cP al q==some t)=true:=by simp[ai]
         rw[this]at ac;simp only[aR]at ac;subst ac;exact .bot _
       · simp only[acs]at an;rw[acx aT]at an;have h1:(i::Pd).any (λq=>cP al q==some j)=Pd.any (λq=>cP al q==some j):=by
          rw[List.any_cons,ai];have:(some t==some j)=false:=by simpa using aT
          rw[this,Bool.false_or]
         rw[h1,←jw]at ac;have b1:j<(ec al Pd aJ).length:=by simpa[ec]using b0
         refine hv.2 j c V ?_ an;rw[ac,abi,aaQ b1];rfl
     · intro k;rw[a7 k,hL k];simp only[acm];constructor
       · rintro(h|h|h)
         ·exact .inr (.inl h)
         ·exact .inl h
         ·exact .inr (.inr h)
       · rintro(h|h|h)
         ·exact .inr (.inl h)
         ·exact .inl h
         ·exact .inr (.inr h)
   · have L : fe al pr i=false∨g_ a_=some i:=by
       by_cases h1:fe al pr i=true
       · by_cases y:g_ a_=some i
         ·exact .inr y
         ·exact absurd ⟨h1,y⟩ ba
       ·exact .inl (by simpa using h1)
     have aa:∀k∈bY pr i,S k=true:=by
      intro p b;rcases(hL p).1 (aw p b)with h|h
      ·exact h
      · exfalso;obtain⟨g1,g2,_⟩:=hw.sep p h;rcases L with L|L
        · refine bE p g2 g1 (a5 p h) i (by omega) X b L λk hk=>?_;rcases(hL k).1 (aw k hk)with g|g
          ·exact .inl g
          ·exact .inr ⟨(hw.sep k g).2.1,a5 k g⟩
        · have:=(yK hw.inv L).2.2 p b g2;rw[g1]at this;cases this
     have aU:=DF (mi C) n hw.inv E X aa L;rw[s3]at aU;have agree:∀t∈gv ao,aJ.getD t .bot=(ec al Pd aJ).getD t .bot:=by
      intro t ht;rw[jw];have : Pd.any (λp=>cP al p==some t)=false:=by
       rw[acA];intro d;rw[acB]at d;obtain⟨p,b,aj⟩:=d;have am:cP al p=some t:=by simpa using aj
       obtain⟨g1,g2,g3⟩:=hw.sep p b;rcases n.reads i ao t p E ht am with h|⟨_,h⟩
       ·have:=aa p h;rw[g1]at this;cases this
       · rcases h with rfl|h
         ·exact I b
         · rcases g3 i h with g|g
           ·rw[X]at g;cases g
           ·exact I g
      rw[this];rfl
     rw[Dy agree]at aU;refine NY bi A a6 m aK aU hw.nk hw.rel hw.oM ?_;intro v V H2 O w2 b2 b3 b4 b5 N;refine au _ _ (λk=>k==i||S k) Pd bl ag _ H2 O _ w2 ⟨b2,λp b=>?_,λp b=>?_,λp b t' aS ab=>?_,hw.inj,b3,b5,?_,by rw[put_defers];exact hw.defers,hw.step.trans N,hw.aO.trans ((dA.put f ao.dst V).mono λs hs=>DJ E s (by simpa[Option.mem_toList,eq_comm]using hs))⟩ ?_ (by simp[ad]) a8
     · obtain⟨g1,g2,g3⟩:=hw.sep p b;have J:p≠i:=λe=>I (e▸b);exact⟨by simp[J,g1],g2,λk hk=>(g3 k hk).imp (λh=>by simp[h]) id⟩
     · have J:p≠i:=λe=>I (e▸b);refine(hw.ql p b).step N ao.dst V λs hs e=>?_;exact J (n.uniq p i s hs (by rw[ai,e]))
     · have J:i≠p:=λe=>I (e▸b);rw[←hw.args p b t' aS ab];exact DM n ab (hw.sep p b).2.1 E (.inl λh=>by
         rcases(hw.sep p b).2.2 i h with g|g
         ·rw[X]at g;cases g
         ·exact I g) J λh=>by
         have:=aa p h;rw[(hw.sep p b).1]at this;cases this
     · have hv :=hw.oM.mono N.toGLe;have bh:∀t,ao.dst=some t→Pd.any (λp=>cP al p==some t)=false:=by
        intro t ht;rw[acA];intro d;rw[acB]at d;obtain⟨p,b,aj⟩:=d;have am:cP al p=some t:=by simpa using aj
        exact I ((n.uniq p i t am (by rw[ai,ht]))▸b)
       have b6 : ec al Pd (bI aJ ao.dst v)=bI (ec al Pd aJ) ao.dst v:=by
        apply mm
        ·cases aV:ao.dst<;>simp[ec,bI]
        · intro s _;rw[jw];cases aV:ao.dst with
          |none=>simp only[bI];rw[jw]
          | some t=>
           simp only[bI];by_cases aW:t=s
           · subst aW;rw[bh t aV];by_cases az:t<aJ.length
             · have aX:t<(ec al Pd aJ).length:=by simpa[ec]using az
               simp[abi,az,aX]
             · have aX:¬t<(ec al Pd aJ).length:=by simpa[ec]using az
               rw[acG (ach az),acG (ach aX),jw,bh t aV]
           · have h1:(aJ.set t v).getD s .bot=aJ.getD s .bot:=by
               rw[abi,aaT aW,abi]
             have y:((ec al Pd aJ).set t v).getD s .bot=(ec al Pd aJ).getD s .bot:=by rw[abi,aaT aW,abi]
             rw[h1,y,jw]
       rw[b6];exact hv.bI ao.dst b4
     · intro k;rw[a7 k,hL k];simp only[Z4,bK];constructor
       · rintro(h|h|h)
         ·exact .inl (.inl h)
         ·exact .inl (.inr h)
         ·exact .inr h
       · rintro((h|h)|h)
         ·exact .inl h
         ·exact .inr (.inl h)
         ·exact .inr (.inr h)
 obtain⟨b8,aY⟩:=Step.drawn (Nat.le_succ w.drawn) bn;refine main ops.size (acD ops.size false) a_ (λ_=>false) [] (λ_=>0) (λ_=>(0,0)) env H G a _ ⟨NR n R hc h,λp b=>(by cases b),λp b=>(by cases b),λp b=>(by cases b),λp b=>(by cases b),bm.step aY,b8,?_,bo,aY,dA.refl _ _⟩ ?_ (by simp) ?_
 · have aF:ec al [] env=env:=by
     apply mm (by simp[ec]);intro t _;rw[jw];rfl
   rw[aF];exact he.mono aY.toGLe
 · intro k;by_cases hk:k<ops.size<;>simp[hk]
 ·exact Nat.le_trans (List.countP_le_length) (by simp)
theorem N6(d:jt C){ops:Array Oper}{Q:Exit→Act→World→Prop}{K:Env→AH→Prop}{al:List br}{pr:List (List Nat)}{a_:List (List Nat×Nat×List Nat)}{c:List Nat}{ct:Nat}
  (e:hF C ops ops.toList al=true) (f:s7 ops pr=true) (g:s4 al pr a_ c=true) (hm:C.P.follows .mixedOrders=true)
  (h:gq (b7 C) al c a_ env H K) (i:dN C w G H) (j:Rel C.F w G H) (he:aP C.F w G env a.tmps) (k:a.defers=[])
  (l:∀aJ H' G' b w',K aJ H'→dN C w' G' H'→Rel C.F w' G' H'→aP C.F w' G' aJ b.tmps→b.defers=[]→Step w G H w' G' H'→dA (gx al) a b→Q .normal b w') :
  (Code.region ct ops true).wp C.P Q a w:=
 wp_region_any hm (N5 d e f g hm h i j he k l)
theorem DN{o:Nat→bS}:∀{cells l:List I}{id:Nat},ew o cells=some (l,id)→∃pre off len sz post cs,cells=pre ++ .row id off len sz::post∧l=pre ++ .ab .dead len ((cs.drop off).take (len*sz))::post∧o id = .row cs∧off+len*sz≤cs.length:=by
 intro cells;induction cells with
 |nil=>intro l id h;cases h
 | cons c r b=>
  intro l id h;unfold ew at h;split at h
  ·rename_i heq;cases heq
  · rename_i j off len sz d heq;cases heq;split at h
    · rename_i cs e;split at h
      · rename_i hle;cases h;exact⟨[],_,_,_,_,cs,rfl,rfl,e,hle⟩
      ·cases h
    ·cases h
  · rename_i c' d _ heq;cases heq;cases a:ew o r with
    |none=>rw[a]at h;cases h
    | some q=>obtain⟨k,m⟩:=q;rw[a]at h;cases h;obtain⟨pre,off,len,sz,post,cs,h1,f,g,i⟩:=b a;exact⟨c::pre,off,len,sz,post,cs,by rw[h1];rfl,by rw[f];rfl,g,i⟩
theorem Rel.N7{H:AH}{id:Nat}{cs l:List I}(a:Rel F w G H)(b:H.o id = .row cs)(h:fa F w G id (.row l)):Rel F w G (H.set id (.row l)):=by
 have hl:∀i,((H.set id (.row l)).o i).live=true→(H.o i).live=true:=by
  intro i hi;simp only[AH.set]at hi;split at hi
  ·rename_i e;rw[e,b];rfl
  ·exact hi
 refine⟨a.n,λi hi=>?_,λi=>?_,λi j c hi d=>a.eZ i j c (hl i hi) (hl j d),a.e2⟩
 · simp only[AH.set]at hi ⊢;split
   · rename_i e;have:=a.over i hi;rw[e,b]at this;cases this
   ·exact a.over i hi
 · simp only[AH.set];split
   ·rename_i e;rw[e];exact h
   ·exact a.obj i
theorem N8{x v:I}{X:Value}(m:Rel F w G H)(h:fb H x=some (v,H'))(u:R F w G x X):∃G',Rel F w G' H'∧Step w G H w G' H'∧R F w G' v X:=by
 have key:∀(id:Nat)(cs:List I),H.o id = .row cs→∃G',Rel F w G' (H.set id .gone)∧Step w G H w G' (H.set id .gone) ∧
   ∃Vs:Nat→Value,(∀(j:Nat)(c:I),cs[j]?=some c→G'.fz (G.loc id) j∧w.cell? ⟨G.loc id,j,none⟩=some (Vs j))∧(∀(j:Nat)(c:I),cs[j]?=some c→R F w G' c (Vs j)):=by
  intro id cs r;have A:(H.o id).live=true:=by rw[r];rfl
  have B:=m.gX A;have hk:=m.kill id (m.n▸B);have C:=m.obj id;rw[r]at C;have J:=C.sD;have K:GLe w G w (G.dv (G.loc id) 0 cs.length):=⟨np _,λ_ _=>rfl,λ_ _=>rfl,λ_ _ hf=> .inl hf,λ_ _ _ _ hc=>hc⟩
  have W:∀j,((H.set id .gone).o j).live=true→j≠id∧(H.o j).live=true:=by
   intro j a;simp only[AH.set]at a;split at a
   ·cases a
   ·rename_i L;exact⟨L,a⟩
  refine⟨G.dv (G.loc id) 0 cs.length,⟨hk.1.n,hk.1.over,λj=>?_,hk.1.eZ,λb o D=>?_⟩,?_,λj=>(w.cell? ⟨G.loc id,j,none⟩).getD undef,λj c a=>?_,λj c a=>?_⟩
  · refine (hk.1.obj j).aO K (λhl=>hk.1.gX hl) (λ_=>rfl) λhl k hf=>?_;rcases hf with hf|⟨hf,_⟩
    ·exact hf
    · obtain⟨h1,s⟩:=W j hl;exact absurd hf (m.eZ j id h1 s A)
  · rcases D with D|⟨rfl,_,z⟩
    ·exact m.e2 b o D
    · obtain⟨V,f,_⟩:=J o cs[o] (aaQ z);exact⟨V,by simpa using f⟩
  ·exact {K with size:=np _,os:=rfl,tape:=rfl,output:=rfl,dr:=np _,dE:=λ_ _ _=>rfl,owned:=λj hl _=>⟨j,(W j hl).2,rfl⟩,e3:=λb o hf=>hf.imp (λh=>h) λhf=> .inr ⟨id,A,hf.1.symm⟩}
  · obtain⟨V,f,_⟩:=J j c a;rw[aaK]at f;exact⟨.inr ⟨rfl,Nat.zero_le _,(ZX.1 a).1⟩,by dsimp only;rw[f];rfl⟩
  · obtain⟨V,f,q⟩:=J j c a;rw[aaK]at f;dsimp only;rw[f];exact q.mono K
 unfold fb at h;split at h
 · rename_i id o len sz;split at h
   · rename_i cs r;split at h
     · cases h;obtain⟨G',q,g,Vs,h1,s⟩:=key id cs r;refine⟨G',q,g,?_⟩;cases u with
       | row _ _ _ _ cap B hle hc=>
        have du:∀(j:Nat)(c:I),((cs.drop o).take (len*sz))[j]?=some c→cs[o+j]?=some c:=by
         intro j c a;rw[ZZ]at a;split at a
         ·rw[Z0]at a;exact a
         ·cases a
        exact .ab _ _ _ _ o cap (λj=>Vs (o+j)) trivial hle (λj c a=>h1 _ c (du j c a)) λj c a=>s _ c (du j c a)
     ·cases h
   ·cases h
 · rename_i id o;split at h
   · rename_i cs r;split at h
     · rename_i l p M;split at h
       ·cases h
       · rename_i L;cases h;obtain⟨pre,off,len,sz,post,t,rfl,rfl,Y,hle⟩:=DN M;obtain⟨G',q,g,Vs,h1,s⟩:=key p t Y;have A:(H.o p).live=true:=by rw[Y];rfl
         have aa:=m.gX A;have ac:G'.loc p=G.loc p:=g.loc p (m.n▸aa);have N:(H.set p .gone).o id = .row (pre ++ .row p off len sz::post):=by simp only[AH.set];rw[ak (λe=>L e.symm)];exact r
         have C:=q.obj id;rw[N]at C;obtain⟨ad,e,ae,af,ag,O⟩:=C;have ah:fa F w G' id (.row (pre ++ .ab .dead len ((t.drop off).take (len*sz))::post)):=by
          refine⟨ad,e,ae,af,ag,λj c a=>?_⟩;rcases acH j pre.length with z|rfl|ai
          · rw[abB z]at a;exact O j c (by rw[abB z];exact a)
          · have P:(pre++I.row p off len sz::post)[pre.length]?=some (.row p off len sz):=by simp
            have hc:c = .ab .dead len ((t.drop off).take (len*sz)):=by
             have Q:(pre++I.ab .dead len ((t.drop off).take (len*sz))::post)[pre.length]?=some (.ab .dead len ((t.drop off).take (len*sz))):=by simp
             rw[Q]at a;exact(aad.inj a).symm
            subst hc;obtain⟨V,f,S⟩:=O _ _ P;refine⟨V,f,?_⟩;cases S with
            | row _ _ _ _ cap B T al=>
             have du:∀(j:Nat)(c:I),((t.drop off).take (len*sz))[j]?=some c→t[off+j]?=some c:=by
              intro j c a;rw[ZZ]at a;split at a
              ·rw[Z0]at a;exact a
              ·cases a
             rw[ac];exact .ab _ _ _ _ off cap (λj=>Vs (off+j)) trivial T (λj c a=>h1 _ c (du j c a)) λj c a=>s _ c (du j c a)
          · have e:∀y:I,(pre++y::post)[j]?=post[j-pre.length-1]?:=by
              intro y;rw[abC (by omega)];obtain⟨d,U⟩:∃d,j-pre.length=d+1:=⟨j-pre.length-1,by omega⟩
              rw[U];rfl
            rw[e]at a;exact O j c (by rw[e];exact a)
         have hl:∀i,(((H.set p .gone).set id (.row (pre ++ .ab .dead len ((t.drop off).take (len*sz))::post))).o i).live=true→((H.set p .gone).o i).live=true:=by
          intro i hi;by_cases Z:i=id
          ·rw[Z,N];rfl
          ·simp only[AH.set,ak Z]at hi ⊢;exact hi
         refine⟨G',q.N7 N ah,{g with owned:=λi hi D=>g.owned i (hl i hi) D},u.mono g.toGLe⟩
     · cases h;obtain⟨G',q,g,Vs,h1,s⟩:=key id cs r;refine⟨G',q,g,?_⟩;cases u with
       | ptr _ _ B=>exact .aj _ _ o (λj=>Vs (o+j)) (λj c a=>h1 _ c (by rw[Z0]at a;exact a)) λj c a=>s _ c (by rw[Z0]at a;exact a)
   ·cases h
 ·cases h;exact⟨G,m,Step.refl _ _ _,u⟩
 ·cases h;exact⟨G,m,Step.refl _ _ _,u⟩
 · rename_i cells;split at h
   · rename_i l id M;cases h;obtain⟨pre,off,len,sz,post,cs,rfl,rfl,r,hle⟩:=DN M;obtain⟨G',q,g,Vs,h1,s⟩:=key id cs r;refine⟨G',q,g,?_⟩;obtain⟨Xs,rfl,E⟩:=u.mX;refine .agg _ _ (by have:=E.1;simp at this ⊢;omega) λj c V a f=>?_;rcases acH j pre.length with z|rfl|ai
     · rw[abB z]at a;exact(E.2 j c V (by rw[abB z];exact a) f).mono g.toGLe
     · have P:(pre++I.row id off len sz::post)[pre.length]?=some (.row id off len sz):=by simp
       have hc:c = .ab .dead len ((cs.drop off).take (len*sz)):=by
        have Q:(pre++I.ab .dead len ((cs.drop off).take (len*sz))::post)[pre.length]?=some (.ab .dead len ((cs.drop off).take (len*sz))):=by simp
        rw[Q]at a;exact(aad.inj a).symm
       subst hc;have S:=E.2 _ _ V P f;cases S with
       | row _ _ _ _ cap B T al=>
        have du:∀(j:Nat)(c:I),((cs.drop off).take (len*sz))[j]?=some c→cs[off+j]?=some c:=by
         intro j c a;rw[ZZ]at a;split at a
         ·rw[Z0]at a;exact a
         ·cases a
        exact .ab _ _ _ _ off cap (λj=>Vs (off+j)) trivial T (λj c a=>h1 _ c (du j c a)) λj c a=>s _ c (du j c a)
     · have e:∀y:I,(pre++y::post)[j]?=post[j-pre.length-1]?:=by
         intro y;rw[abC (by omega)];obtain⟨d,U⟩:∃d,j-pre.length=d+1:=⟨j-pre.length-1,by omega⟩
         rw[U];rfl
       rw[e]at a;exact(E.2 j c V (by rw[e];exact a) f).mono g.toGLe
   ·cases h;exact⟨G,m,Step.refl _ _ _,u⟩
 ·cases h
end
end Rb

namespace Rb
open Go
variable{F:cJ}{Vs:Array Value}
section
variable{C:Ctx}{w:World}{G:bj}{H:AH}{env:Env}{a:Act}
theorem s_(h:aP F w G env Vs)(vs:List Nat):∀(j:Nat)(c:I),(du env vs)[j]?=some c→∃t V,vs[j]?=some t∧(Vs[t]?=some V∧R F w G c V∨c = .bot):=by
 intro j c a;simp only[du,aaP]at a;cases hv:vs[j]? with
 |none=>simp[hv]at a
 | some t=>
  simp[hv]at a;subst a;cases he:env[t]? with
  |none=>exact⟨t,undef,rfl,.inr (by simp)⟩
  | some c=>obtain⟨V,b,d⟩:=h.get he;exact⟨t,V,rfl,.inl ⟨b,by simpa[he]using d⟩⟩
theorem N9:∀(ks:List Nat){env:Env}{Vs:Array Value},aP F w G env Vs→aP F w G (dW env ks) Vs:=by
 intro ks;induction ks with
 |nil=>intro env Vs h;exact h
 | cons t ks b=>
  intro env Vs h;refine b ⟨by simp[h.1],λj c V hc d=>?_⟩;by_cases a:t=j
  · subst a;rw[aao]at hc;simp only[aR]at hc;split at hc
    ·cases hc;exact .bot _
    ·cases hc
  · rw[aaT a]at hc;exact h.2 j c V hc d
theorem N_:∀(ks:List Nat)(env:Env),(dW env ks).length=env.length:=by
 intro ks;induction ks with
 |nil=>intro env;rfl
 |cons t ks a=>intro env;rw[dW,a];simp
theorem Oa:∀(ks:List Nat)(env:Env)(t:Nat),t∈ks→∀c,(dW env ks)[t]?=some c→c = .bot:=by
 intro ks;induction ks with
 |nil=>intro env t ht;cases ht
 | cons s ks a=>
  intro env t ht c hc;by_cases h:t∈ks
  ·exact a _ t h c hc
  · have f:t=s:=by rcases acm.1 ht with b|b;exact b;exact absurd b h
    subst f;have key:∀(ks:List Nat)(env:Env),t∉ks→(dW env ks)[t]?=env[t]?:=by
     intro ks;induction ks with
     |nil=>intro env _;rfl
     | cons u ks a=>intro env d;rw[dW,a _ (λh=>d (acn _ h)),aaT (λe=>d (by rw[e];exact aco))]
    rw[dW,key ks _ h,aao]at hc;simp only[aR]at hc;split at hc
    ·cases hc;rfl
    ·cases hc
theorem ta{ks vs az:List Nat}{Vs b:Array Value}(h:aP F w G env Vs)(hc:s8 ks vs az=true)(hs:b.size=Vs.size)(o:∀t,t∉az→b[t]?=Vs[t]?)(a:List I)
  (k:∀(j:Nat)(c:I),a[j]?=some c→∃t V,vs[j]?=some t∧(b[t]?=some V∧R F w G c V∨c = .bot)) (hl:a.length=vs.length):aP F w G (fi (dW env ks) vs a) b:=by
 have p:∀(vs:List Nat)(a:List I)(env:Env),env.length=b.size→a.length=vs.length →
   (∀(j:Nat)(c:I),a[j]?=some c→∃t V,vs[j]?=some t∧(b[t]?=some V∧R F w G c V∨c = .bot)) →
   (∀(j:Nat)(c:I)(V:Value),env[j]?=some c→b[j]?=some V→j∈vs∨R F w G c V)→aP F w G (fi env vs a) b:=by
  intro vs;induction vs with
  |nil=>intro a env hle _ _ h;exact⟨hle,λj c V hc f=>(h j c V hc f).resolve_left (by simp)⟩
  | cons t vs q=>
   intro a env hle hl k h;cases a with
   |nil=>simp at hl
   | cons d a=>
    rw[fi];refine q a _ (by simp[hle]) (by simpa using hl) (λj c e=>by obtain⟨t',V,l,i⟩:=k (j+1) c (by simpa using e);exact⟨t',V,by simpa using l,i⟩) λj c V hc f=>?_
    by_cases e:t=j
    · subst e;rw[aao]at hc;simp only[aR]at hc;split at hc
      · cases hc;obtain⟨t',r,l,i⟩:=k 0 d rfl;simp at l;subst l;rcases i with⟨m,i⟩|rfl
        ·rw[f]at m;cases m;exact .inr i
        ·exact .inr (.bot _)
      ·cases hc
    · rw [aaT e]at hc;rcases h j c V hc f with g|g
      · rcases acm.1 g with g|g
        ·exact absurd g.symm e
        ·exact .inl g
      ·exact .inr g
 refine p vs a _ (by rw[N_,h.1,hs]) hl k λj c V n f=>?_;by_cases e:j∈az
 · have:=aaW.1 hc j e;simp at this;rcases this with h1|h1
   ·rw[Oa ks env j h1 c n];exact .inr (.bot _)
   ·exact .inl h1
 · rw[o j e]at f;exact .inr ((N9 ks h).2 j c V n f)
theorem tc(env:Env)(vs:List Nat):(du env vs).length=vs.length:=by simp[du]
def hG:ea→Exit→Prop
 | .normal,.normal=>True
 | .exit i,.exit j=>i=j
 | .ret,.ret=>True
 |_,_=>False
theorem Ob(n:jt C){ops:Array Oper}{Q:Exit→Act→World→Prop}{w0:World}{G0:bj}{H0:AH}{a0:Act}{az:List Nat} :
  ∀ (b:eE) (l:List Oper) (env:Env) (H:AH) (G:bj) (w:World) (a:Act) (K:ea→Env→AH→Prop),qi C ops l b=true→dy (b7 C) b env H K→dN C w G H→Rel C.F w G H→aP C.F w G env a.tmps→a.defers=[] →
   Step w0 G0 H0 w G H→dA az a0 a→(∀t,t∈eb b→t∈az) →
   (∀aJ H' G' c w',K .normal aJ H'→dN C w' G' H'→Rel C.F w' G' H'→aP C.F w' G' aJ c.tmps→c.defers=[]→Step w0 G0 H0 w' G' H'→dA az a0 c→Q .normal c w') →
   wpList C.P ops Q l a w:=by
 intro b;induction b with
 | region al=>intro l env H G w a K d h f g he i j hk e k;exact DI n l al env H G w a d h f g he i j hk e k
 | gW vs ks al b p=>intro l env H G w a K d h f g he i j hk e k;simp only[qi,Z3]at d;obtain⟨⟨h1,q⟩,r⟩:=d;rw[←List.take_append_drop al.length l];simp only[dy]at h;refine DH (w0:=w) (G0:=G) (H0:=H) (a0:=a) (az:=gx al) n (l.take al.length) al env H G w a h1 h f g he i (Step.refl _ _ _) (dA.refl _ _) (λ_ ht=>ht) ?_;intro aJ H' G' c w' s u v x y o m;have z:=ta (he.mono o.toGLe) q m.1 m.2 (du aJ vs) (s_ x vs) (tc _ _);exact p (l.drop al.length) _ H' G' w' c K r s u v z y (j.trans o) (hk.trans (m.mono λt ht=>e t (by simp[eb,ht]))) (λt ht=>e t (by simp[eb,ht])) k
 |_=>intro l env H G w a K d;simp[qi]at d
theorem Oc(an:jt C) :
  ∀ (ac:eE) (c:Code) (env:Env) (H:AH) (G:bj) (w:World) (a:Act) (K:ea→Env→AH→Prop) (Q:Exit→Act→World→Prop),dG C c ac=true→dy (b7 C) ac env H K →
   dN C w G H→Rel C.F w G H→aP C.F w G env a.tmps→a.defers=[] →
   (∀B ex aJ H' G' f w',hG B ex→K B aJ H'→dN C w' G' H'→Rel C.F w' G' H'→aP C.F w' G' aJ f.tmps→f.defers=[]→Step w G H w' G' H'→dA (eb ac) a f→Q ex f w') →
   c.wp C.P Q a w:=by
 intro ac;induction ac with
 | skip=>intro c env H G w a K Q d h n o he r g;cases c<;>simp[dG]at d;exact wp_skip (g .normal .normal env H G a w trivial h n o he r (Step.refl _ _ _) (dA.refl _ _))
 | region al=>
  intro c env H G w a K Q d h n o he r g;cases c with
  | region id ops draw=>
   cases draw with
   |true=>simp[dG]at d
   | false=>
    simp only[dG]at d;refine wp_region_list ?_;exact DI (az:=gx al) (a0:=a) (w0:=w) (G0:=G) (H0:=H) (Q:=Q) (K:=K .normal) an ops.toList al env H G w a d h n o he r (Step.refl _ _ _) (dA.refl _ _) (λ_ ht=>ht)
     (λaJ H' G' f w' A D z E J m u=>g .normal .normal aJ H' G' f w' trivial A D z E J m u)
  |_=>simp[dG]at d
 | gW vs ks al b _=>
  intro c env H G w a K Q d h n o he r g;cases c with
  | region id ops draw=>
   cases draw with
   |true=>simp[dG]at d
   | false=>
    simp only[dG]at d;refine wp_region_list ?_;exact Ob (az:=eb (.gW vs ks al b)) (a0:=a) (w0:=w) (G0:=G) (H0:=H) (Q:=Q) (K:=K) an (.gW vs ks al b) ops.toList env H G w a d h n o he r (Step.refl _ _ _) (dA.refl _ _) (λ_ ht=>ht)
     (λaJ H' G' f w' A D z E J m u=>g .normal .normal aJ H' G' f w' trivial A D z E J m u)
  |_=>simp[dG]at d
 | draw al pr a_ last=>
  intro c env H G w a K Q d h n o he r g;cases c with
  | region id ops draw=>
   cases draw with
   |false=>simp[dG]at d
   | true=>simp only[dG,Z3]at d;obtain⟨⟨⟨h1,O⟩,R⟩,S⟩:=d;exact N6 an h1 O R S h n o he r λaJ H' G' f w' A D z E J m u=>g .normal .normal aJ H' G' f w' trivial A D z E J m u
  |_=>simp[dG]at d
 | seq x y ao ap=>
  intro c env H G w a K Q d h n o he r g;cases c with
  | seq p q=>
   simp only[dG,Z3]at d;refine wp_seq ?_;refine ao p env H G w a _ _ d.1 h n o he r ?_;intro B ex aJ H' G' f w' hex A D z E J m u;cases B with
   | normal=>cases ex<;>simp only[hG]at hex;refine ap q aJ H' G' w' f K Q d.2 A D z E J ?_;intro B ex T H2 U a2 w2 hex X Y Z L aa ab ad;exact g B ex T H2 U a2 w2 hex X Y Z L aa (m.trans ab) ((u.mono λt ht=>by simp[eb,ht]).trans (ad.mono λt ht=>by simp[eb,ht]))
   | exit i=>cases ex<;>simp only[hG]at hex;exact g (.exit i) (.exit _) aJ H' G' f w' hex A D z E J m (u.mono λt ht=>by simp[eb,ht])
   | ret=>cases ex<;>simp only[hG]at hex;exact g .ret .ret aJ H' G' f w' trivial A D z E J m (u.mono λt ht=>by simp[eb,ht])
  |_=>simp[dG]at d
 | join vs ks x y ao ap=>
  intro c env H G w a K Q d h n o he r g;cases c with
  | seq p q=>
   simp only[dG,Z3]at d;obtain⟨⟨aq,ar⟩,am⟩:=d;refine wp_seq ?_;refine ao p env H G w a _ _ aq h n o he r ?_;intro B ex aJ H' G' f w' hex A D z E J m u;cases B with
   | normal=>cases ex<;>simp only[hG]at hex;have aC:=ta (he.mono m.toGLe) am u.1 u.2 (du aJ vs) (s_ E vs) (tc _ _);refine ap q _ H' G' w' f K Q ar A D z aC J ?_;intro B ex T H2 U a2 w2 hex X Y Z L aa ab ad;exact g B ex T H2 U a2 w2 hex X Y Z L aa (m.trans ab) ((u.mono λt ht=>by simp[eb,ht]).trans (ad.mono λt ht=>by simp[eb,ht]))
   | exit i=>cases ex<;>simp only[hG]at hex;exact g (.exit i) (.exit _) aJ H' G' f w' hex A D z E J m (u.mono λt ht=>by simp[eb,ht])
   | ret=>cases ex<;>simp only[hG]at hex;exact g .ret .ret aJ H' G' f w' trivial A D z E J m (u.mono λt ht=>by simp[eb,ht])
  |_=>simp[dG]at d
 | cond x p q aD aE=>
  intro c env H G w a K Q d h n o he r g;cases c with
  | cond c' aF aG=>
   simp only[dG,Z3]at d;obtain⟨⟨aq,ar⟩,aH⟩:=d;obtain⟨t,ht,h⟩:=yl h;have aw:=cb n.1 he aq;rw[ht]at aw;refine wp_cond (t:=t) aw.h6 ?_;cases t with
   | true=>rw[af rfl]at h ⊢;exact aD aF env H G w a K Q ar h n o he r λB ex aJ H' G' f w' h1 O R S ae ag ah ai=>g B ex aJ H' G' f w' h1 O R S ae ag ah (ai.mono λt ht=>by simp[eb,ht])
   | false=>rw[jq]at h ⊢;exact aE aG env H G w a K Q aH h n o he r λB ex aJ H' G' f w' h1 O R S ae ag ah ai=>g B ex aJ H' G' f w' h1 O R S ae ag ah (ai.mono λt ht=>by simp[eb,ht])
  |_=>simp[dG]at d
 | block id x aj=>
  intro c env H G w a K Q d h n o he r g;cases c with
  | block aV p=>
   simp only[dG,Z3,bK]at d;obtain⟨rfl,hc⟩:=d;refine wp_block ?_;refine aj p env H G w a _ _ hc h n o he r ?_;intro B ex aJ H' G' f w' hex A D z E J m u;cases B with
   | normal=>cases ex<;>simp only[hG]at hex;exact g .normal .normal aJ H' G' f w' trivial A D z E J m u
   | exit i=>
    cases ex with
    | exit j=>
     simp only[hG]at hex;subst hex;dsimp only at A;simp only[Exit.inBlock];split
     · rename_i au;rw[af au]at A;exact g .normal .normal aJ H' G' f w' trivial A D z E J m u
     · rename_i au;rw[ak au]at A;exact g (.exit i) (.exit i) aJ H' G' f w' rfl A D z E J m u
    |_=>simp only[hG]at hex
   | ret=>cases ex<;>simp only[hG]at hex;exact g .ret .ret aJ H' G' f w' trivial A D z E J m u
  |_=>simp[dG]at d
 | loop vs ks x aj=>
  intro c env H G w a K Q d h n o he r g;cases c with
  | loop p=>
   simp only[dG,Z3]at d;obtain⟨hc,am⟩:=d;let aI:List I×AH→Prop:=λs=>∀G' w' f,dN C w' G' s.2→Rel C.F w' G' s.2→aP C.F w' G' (fi (dW env ks) vs s.1) f.tmps→f.defers=[]→Step w G H w' G' s.2→dA (eb x) a f →
    ∀(b:Frame)(k:List Item)(cs:List Frame),∃e a2 w2,Q e a2 w2∧Arrives C.P (lone (b.at f (.code p :: .inLoop p::k)) cs w') b k cs e a2 w2
   have aK:=h aI λs K' aL aM=>by
    intro G' w' f D z E J m u b k cs;have aN:p.wp C.P (λex a2 w2=>match ex with
        | .normal=>∀(b:Frame)(k:List Item)(cs:List Frame),∃e a3 w3,Q e a3 w3∧Arrives C.P (lone (b.at a2 (.code p :: .inLoop p::k)) cs w2) b k cs e a3 w3
        |e=>Q e a2 w2) f w':=by
      refine aj p _ _ G' w' f _ _ hc aL D z E J ?_;intro B ex T H2 U a2 w2 hex X Y Z L aa ab ad;cases B with
      | normal=>cases ex<;>simp only[hG]at hex;have av:=u.trans ad;have ax:=m.trans ab;exact aM _ X U w2 a2 Y Z (ta (he.mono ax.toGLe) am av.1 av.2 (du T vs) (s_ L vs) (tc _ _)) aa ax av
      | exit i=>
       cases ex with
       |exit j=>exact g (.exit i) (.exit j) T H2 U a2 w2 hex X Y Z L aa (m.trans ab) (u.trans ad)
       |_=>simp only[hG]at hex
      | ret=>
       cases ex with
       |ret=>exact g .ret .ret T H2 U a2 w2 hex X Y Z L aa (m.trans ab) (u.trans ad)
       |_=>simp only[hG]at hex
    obtain⟨e,W,w1,M,N⟩:=aN b (.inLoop p::k) cs;cases e with
    | normal=>obtain⟨aO,a2,w2,aQ,aS⟩:=M b k cs;exact⟨aO,a2,w2,aQ,.of_steps (Steps.trans N (.one step_inLoop)) aS⟩
    |exit id=>exact⟨_,W,w1,M,.pass (x:= .inLoop p) rfl (λ_ _=> .inl (by simp)) N⟩
    |goto l=>exact⟨_,W,w1,M,.pass (x:= .inLoop p) rfl (λ_ _=> .inl (by simp)) N⟩
    |ret=>exact⟨_,W,w1,M,.pass (x:= .inLoop p) rfl (λ_ _=> .inl (by simp)) N⟩
    |panic aW=>exact⟨_,W,w1,M,.pass (x:= .inLoop p) rfl (λ_ _=> .inl (by simp)) N⟩
    |outgrown=>exact⟨_,W,w1,M,.pass (x:= .inLoop p) rfl (λ_ _=> .inl (by simp)) N⟩
   intro b k cs;have aT:=aK G w a n o (ta he am rfl (λ_ _=>rfl) (du env vs) (s_ he vs) (tc _ _)) r (Step.refl _ _ _) (dA.refl _ _) b k cs;obtain⟨e,f,w',M,N⟩:=aT;exact⟨e,f,w',M,.of_steps (.one step_loop) N⟩
  |_=>simp[dG]at d
 | exit id=>intro c env H G w a K Q d h n o he r g;cases c<;>simp[dG]at d;subst d;exact wp_exit (g (.exit _) (.exit _) env H G a w rfl h n o he r (Step.refl _ _ _) (dA.refl _ _))
 | ret=>intro c env H G w a K Q d h n o he r g;cases c<;>simp[dG]at d;exact wp_ret (g .ret .ret env H G a w trivial h n o he r (Step.refl _ _ _) (dA.refl _ _))
 | freeze t x aj=>
  intro c env H G w a K Q d h n o he r g;have aU:dG C c x=true:=by cases c<;>simpa[dG]using d
  obtain⟨v,H',hv,h⟩:=h;obtain⟨G',z,m,ay⟩:=N8 o hv (sQ he);have L:aP C.F w G' (env.set t v) a.tmps:=by
   refine⟨by simp[he.1],λj c V hc aA=>?_⟩;by_cases aB:t=j
   · subst aB;rw[aao]at hc;simp only[aR]at hc;split at hc
     · cases hc;rw[Array.getD_eq_getD_getElem?,aA]at ay;exact ay
     ·cases hc
   · rw[aaT aB]at hc;exact(he.2 j c V hc aA).mono m.toGLe
  exact aj c _ H' G' w a K Q aU h (n.step m) z L r λB ex aJ H' G' f w' h1 O R S ae ag ah ai=>g B ex aJ H' G' f w' h1 O R S ae ag (m.trans ah) (ai.mono λt ht=>by simp[eb,ht])
def jX(P:Program):List ResultVar→List iu→Bool
 |[],[]=>true
 | .tmp t::r,.tmp t'::s=>t==t'&&jX P r s
 | .cell t ty::r,.cell t' n agg::s=>t==t'&&hC P ty n agg&&jX P r s
 |_,_=>false
def oN(C:Ctx)(f:FuncId)(a:aF):Bool:=
 match C.P.funcs[f]? with
 |some fn=>fn.ntmps==a.ntmps&&jX C.P fn.results.toList a.results&&(match fn.body with|some c=>dG C c a.body|none=>false)
 |none=>false
def td(b:Array Value):ResultVar→Sem Value
 | .tmp t=>pure (b.getD t undef)
 | .cell a t=>do loadVar t (←asAddr (b.getD a undef))
theorem Od(a:Func)(b:Array Value):results a b=(do
    let vs ←a.results.mapM (td b)
    pure (if h:vs.size=1 then vs[0]else .tuple vs)):=by
  unfold results;congr 1
theorem Oe(u:Rel C.F w G H)(q:aP C.F w G env a.tmps):∀(rs:List ResultVar)(b:List iu)(K:List I→Prop),jX C.P rs b=true→jo env H b K →
  ∃vs Vs,K vs∧aP C.F w G vs (List.toArray Vs)∧(rs.mapM (td a.tmps)).run C.P w = .ok Vs w:=by
 intro rs;induction rs with
 | nil=>intro b K hc h;cases b<;>simp[jX]at hc;exact⟨[],[],h,aP.nil,rfl⟩
 | cons r rs s=>
  intro b K hc h;have cons:∀{v:I}{V:Value}{vs:List I}{Vs:List Value},R C.F w G v V→aP C.F w G vs Vs.toArray→aP C.F w G (v::vs) (V::Vs).toArray:=by
   intro v V vs Vs hv e;refine aP.mY (by have:=e.1;simp at this ⊢;exact this) λj c U g i=>?_;cases j with
   |zero=>simp at g i;subst g;subst i;exact hv
   |succ j=>exact e.2 j c U (by simpa using g) (by simpa using i)
  cases r with
  | tmp t=>
   cases b with
   |nil=>simp[jX]at hc
   | cons k b=>
    cases k with
    | tmp t'=>simp only[jX,Z3,bK]at hc;obtain⟨rfl,hc⟩:=hc;obtain⟨vs,Vs,l,e,m⟩:=s b _ hc h;refine⟨_,_::Vs,l,cons (sQ q) e,?_⟩;rw[acI];simp only[td,abJ,abR,abK,m]
    |cell _ _ _=>simp[jX]at hc
  | cell t ty=>
   cases b with
   |nil=>simp[jX]at hc
   | cons k b=>
    cases k with
    |tmp _=>simp[jX]at hc
    | cell t' n agg=>
     simp only[jX,Z3,bK]at hc;obtain⟨⟨rfl,x⟩,hc⟩:=hc;obtain⟨v,hv,h⟩:=h;obtain⟨vs,Vs,l,e,m⟩:=s b _ hc h;have d:=sQ (t:=t) q;obtain⟨V,f,y⟩:=yq (P:=C.P) x u hv d;refine⟨_,V::Vs,l,cons y e,?_⟩;have z:(do loadVar ty (←asAddr (a.tmps.getD t undef)):Sem Value).run C.P w = .ok V w:=by
      unfold Z at hv;split at hv
      · rename_i id o p;rw[p]at d;generalize a.tmps.getD t undef=X at d f;cases d;simpa[aaR,aak,asAddr]using f
      · rename_i cs p;rw[p]at d;generalize a.tmps.getD t undef=X at d f;cases d;simpa[aaR,aak,asAddr]using f
      ·cases hv
     rw[acI];have A:(td a.tmps (.cell t ty)).run C.P w = .ok V w:=z;simp only[abJ,A,abK,m,abR]
theorem DO(t:jt C){f:FuncId}{a:aF}(d:oN C f a=true){args:List I}{Q:ad}(h:mW (b7 C) a args H Q)(u:dN C w G H)(x:Rel C.F w G H)(p:aP C.F w G args Vs) :
  Calls C.P f Vs w λe w'=>∃V v H' G',e = .returned V∧Q v H'∧R C.F w' G' v V∧Rel C.F w' G' H'∧Step w G H w' G' H':=by
 unfold oN at d;split at d
 · rename_i fn y;simp only[Z3,bK]at d;obtain⟨⟨z,A⟩,k⟩:=d;split at k
   · rename_i c B;refine calls_of_wp y B ?_;have he:aP C.F w G (args++ZU (a.ntmps-args.length) .bot) (Vs++acD (fn.ntmps-Vs.size) undef):=by
      refine p.app ⟨by simp[p.1,z],λj c V hc S=>?_⟩;rw[acJ]at hc;split at hc
      ·cases hc;exact .bot _
      ·cases hc
     refine Oc t a.body c _ H G w ⟨_,[]⟩ _ _ k h u x he rfl ?_;intro D ex aJ H' G' q w' hex l T r E J K U;have fin:jo aJ H' a.results (λvs=>Q (jU vs) H')→q.defers=[]∧∃v,(results fn q.tmps).run C.P w' = .ok v w'∧∃V s m n,(Ending.returned v) = .returned V∧Q s m∧R C.F w' n s V∧Rel C.F w' n m∧Step w G H w' n m:=by
      intro L;obtain⟨vs,b,M,g,N⟩:=Oe r E fn.results.toList a.results _ A L;refine⟨J,if h:b.toArray.size=1 then b.toArray[0]else .tuple b.toArray,?_,_,_,_,_,rfl,M,?_,r,K⟩
      · rw[Od];have he:fn.results=fn.results.toList.toArray:=by simp
        rw[he,List.mapM_toArray];simp only[abJ,Sem.run_map,N,abK,abR]
      · split
        · rename_i h1;have hl:b.length=1:=by simpa using h1
          have o:vs.length=1:=by have:=g.1;simp at this;omega
          match vs,b,o,hl with
          |[v],[V],_,_=>simpa[jU]using g.2 0 v V rfl rfl
        · rename_i h1;have hl:b.length≠1:=by simpa using h1
          have o:vs.length≠1:=by have:=g.1;simp at this;omega
          have O:jU vs = .ar vs:=by
           match vs,o with
           |[],_=>rfl
           |_::_::_,_=>rfl
          rw[O];exact g.ar
     cases D with
     |normal=>cases ex<;>simp only[hG]at hex;exact fin l
     |exit i=>exact l.elim
     |ret=>cases ex<;>simp only[hG]at hex;exact fin l
   ·cases k
 ·cases d
end
end Rb

namespace Rb
open Go
abbrev ha:=List (Nat×aF)
def ha.get(T:ha)(k:Nat):Option aF:=T.lookup k
def nn(Φ:ae)(T:ha):Prop:=∀k f,T.get k=some f→∀args H Q,mW Φ f args H Q→Φ k args H Q
def jY(C:Ctx):ha→Bool
 |[]=>true
 |(k,f)::T=>(match C.F k with|some dz=>oN C dz f|none=>true)&&jY C T
theorem Of{T:ha}{k:Nat}{f:aF}(h:T.lookup k=some f):(k,f)∈T:=by
 induction T with
 |nil=>cases h
 | cons p T a=>
  obtain⟨k',c⟩:=p;rw[acK]at h;split at h
  · rename_i hk;have b:k=k':=by simpa using hk
    cases h;rw[b];exact aco
  ·exact acn _ (a h)
theorem Og{C:Ctx}:∀{T:ha},jY C T=true→∀k f,(k,f)∈T→∀dz,C.F k=some dz→oN C dz f=true:=by
 intro T;induction T with
 |nil=>intro _ k f h;cases h
 | cons p T a=>
  obtain⟨k',b⟩:=p;intro h k f hm dz hf;simp only[jY,Z3]at h;rcases acm.1 hm with he|hm
  · cases he;have:=h.1;rw[hf]at this;exact this
  ·exact a h.2 k f hm dz hf
theorem Oh{C:Ctx}(a:jt C){T:ha}(h:jY C T=true):nn (b7 C) T:=by intro k f hk args H Q hs;refine⟨C6 (yA C) hs,λdz b G w Vs c d e=>?_⟩;exact DO a (Og h k f (Of hk) dz b) hs c d e
mutual
def I.same:I→I→Bool
 | .bool a,.bool b=>a==b
 | .int k a,.int k' b=>k==k'&&a==b
 | .str a,.str b=>a==b
 | .dx,.dx=>true
 | .ptr i o,.ptr f g=>i==f&&o==g
 | .aj cs,.aj e=>I.e4 cs e
 | .ab tk len cs,.ab h j e=>tk==h&&len==j&&I.e4 cs e
 | .row a b c d,.row l m c' n=>a==l&&b==m&&c==c'&&d==n
 | .map i,.map f=>i==f
 | .eO,.eO=>true
 | .fn k cs,.fn k' e=>k==k'&&I.e4 cs e
 | .fB,.fB=>true
 | .iface t v,.iface t' p=>t==t'&&I.same v p
 | .fC,.fC=>true
 | .agg cs,.agg e=>I.e4 cs e
 | .ar cs,.ar e=>I.e4 cs e
 | .bot,.bot=>true
 |_,_=>false
def I.e4:List I→List I→Bool
 |[],[]=>true
 |c::r,d::t=>I.same c d&&I.e4 r t
 |_,_=>false
end
mutual
theorem I.tf:(x y:I)→I.same x y=true→x=y
 | .bool a,.bool b,h=>by simp[I.same]at h;rw[h]
 | .int k a,.int k' b,h=>by simp[I.same]at h;rw[h.1,h.2]
 | .str a,.str b,h=>by simp[I.same]at h;rw[h]
 | .dx,.dx,h=>rfl
 | .ptr i o,.ptr g l,h=>by simp[I.same]at h;rw[h.1,h.2]
 | .aj cs,.aj e,h=>by simp only[I.same]at h;rw[I.nq cs e h]
 | .ab tk len cs,.ab m n e,h=>by simp only[I.same,Z3,bK]at h;rw[h.1.1,h.1.2,I.nq cs e h.2]
 | .row a b c d,.row p q c' s,h=>by simp[I.same]at h;rw[h.1.1.1,h.1.1.2,h.1.2,h.2]
 | .map i,.map g,h=>by simp[I.same]at h;rw[h]
 | .eO,.eO,h=>rfl
 | .fn k cs,.fn k' e,h=>by simp only[I.same,Z3,bK]at h;rw[h.1,I.nq cs e h.2]
 | .fB,.fB,h=>rfl
 | .iface t v,.iface t' j,h=>by simp only[I.same,Z3,bK]at h;rw[h.1,I.tf v j h.2]
 | .fC,.fC,h=>rfl
 | .agg cs,.agg e,h=>by simp only[I.same]at h;rw[I.nq cs e h]
 | .ar cs,.ar e,h=>by simp only[I.same]at h;rw[I.nq cs e h]
 | .bot,.bot,h=>rfl
theorem I.nq:(xs f:List I)→I.e4 xs f=true→xs=f
 |[],[],h=>rfl
 | c::r,d::t,h=>by simp only[I.e4,Z3]at h;rw[I.tf c d h.1,I.nq r t h.2]
end
inductive DP where
 |normal
 |exit (id:Nat)
 |ret
 deriving DecidableEq
def DP.to:DP→ea
 | .normal=> .normal
 | .exit i=> .exit i
 | .ret=> .ret
end Rb

namespace Rb
open Go Go.RowKit
variable{w:World}{fz:Nat→Nat→Prop}
def AH.mt:AH:={n:=0,o:=λ_=> .gone}
def bj.mt(fz:Nat→Nat→Prop):bj:={n:=0,loc:=λ_=>0,cap:=λ_=>0,fz:=fz}
theorem Rel.mt{F:cJ}(h:∀b o,fz b o→∃V,w.cell? ⟨b,o,none⟩=some V):Rel F w (bj.mt fz) AH.mt:=⟨rfl,λ_ _=>rfl,λ_=>trivial,λ_ _ _ h _=>(by cases h),h⟩
theorem Step.below{w w':World}{G':bj}{H':AH}(h:Step w (bj.mt fz) AH.mt w' G' H'):Below w.heap.size w w':=⟨h.os,h.tape,h.output,h.size,λk hk=>h.dE k hk λi hl=>by cases hl⟩
section
variable{H:Type}{enc:TypeId×Value→H}{P:Program}
def tg(P:Program)(ts:List TypeId):Bool:=ts.all λt=>P.readableRec t&&decide (t<P.types.size)
theorem DQ(hl:laidOutB P=true){W c:World}(e:Below W.heap.size W c) :
  ∀{ts:List TypeId}{vs:List Value}{ds:List (DataW H)}{a:List MemPlace},tg P ts=true→acL enc P W 0 (λ_=>true) true ts vs ds a→acL enc P c 0 (λb=>decide (b<W.heap.size)) true ts vs ds a
 |[],[],[],_,_,h=>h
 | t::ts,v::vs,d::ds,a,ht,h=>by have f:=h.lt;obtain⟨p,q,h1,g,rfl⟩:=h;simp only[tg,acM,Z3,dO]at ht;exact⟨p,q,Below.trod hl ht.1.1 ht.1.2 h1 e (λx i=>f x (by simp[i])),DQ hl e (by simpa[tg]using ht.2) g,rfl⟩
 |[],[],_::_,_,_,h=>h.elim
 |[],_::_,_,_,_,h=>by cases ‹List (DataW H)› <;> exact h.elim
 |_::_,[],_,_,_,h=>by cases ‹List (DataW H)› <;> exact h.elim
 |_::_,_::_,[],_,_,h=>h.elim
theorem Oi{f:Func}{s:ChangeSpec}{e:Bool}{W g:World}{args:Array Value}{a b:List (DataW H)}{j:List MemPlace}{bt:TypeId}
  (i:DataW.Whole enc P f.params.toList s.vars e W args.toList a b j) (hl:laidOutB P=true) (ht:tg P f.params.toList=true) (hv:varsRowed P s.vars=true)
  (k:f.resultTypes = #[bt]) (l:P.underlying bt=some .bool) (c:s.fn H (a++b)={results:=[.lit (.bool true)],args:=a,vars:=b}) (d:Below W.heap.size W g) :
  s.post enc P f e true false false W args (.bool true) g:=by
 have m:=i;obtain⟨p,q,n,o,rfl,r,t⟩:=i;refine⟨a,b,p++q,[],p,q,m,?_,?_,?_,d.frame _,λh=>by cases h⟩
 · rw[c,k];exact⟨[],[],shut_bool l _,rfl,rfl⟩
 · rw[c];exact DQ hl d ht n
 · rw[c];exact d.trodVars hl hv o
end
end Rb

namespace Rb
open Go
theorem b7.run{C:Ctx}{key:Nat}{f:FuncId}{args:List I}{H:AH}{Q:ad}(h:b7 C key args H Q)(hf:C.F key=some f){G:bj}{w:World}{Vs:Array Value}(a:dN C w G H)(b:Rel C.F w G H)(c:aP C.F w G args Vs) :
  Calls C.P f Vs w λe w'=>∃V v H' G',e = .returned V∧Q v H'∧R C.F w' G' v V∧Rel C.F w' G' H'∧Step w G H w' G' H':=h.2 f hf G w Vs a b c
end Rb

namespace Rb
open Go
theorem nn.app{Φ:ae}{T U:ha}(hT:nn Φ T)(a:nn Φ U):nn Φ (T++U):=by
 intro k f h args H Q hs;have key:∀(T:ha),(T++U).lookup k=some f→T.lookup k=some f∨U.lookup k=some f:=by
  intro T;induction T with
  |nil=>intro h;exact .inr h
  | cons p T b=>
   intro h;obtain⟨k',c⟩:=p;rw[abV,acK]at h;rw[acK];split at h
   ·exact .inl h
   ·exact b h
 rcases key T h with h|h
 ·exact hT k f h args H Q hs
 ·exact a k f h args H Q hs
mutual
def I.flat:I→Bool
 | .bool _ | .int _ _ | .str _ | .dx | .eO | .fB | .fC=>true
 | .ab .nil 0 []=>true
 | .agg cs=>I.qm cs
 | .ar cs=>I.qm cs
 |_=>false
def I.qm:List I→Bool
 |[]=>true
 |c::r=>I.flat c&&I.qm r
end
theorem yL:∀{cs:List I},I.qm cs=true→∀(j:Nat)(c:I),cs[j]?=some c→c.flat=true
 |[],_,j,c,h=>by simp at h
 | d::r,hf,j,c,h=>by
  simp only[I.qm,Z3]at hf;cases j with
  |zero=>simp at h;subst h;exact hf.1
  |succ j=>exact yL hf.2 j c (by simpa using h)
theorem yM{F:cJ}{w w':World}{G G':bj}{c:I}{V:Value}(hf:c.flat=true)(h:R F w G c V):R F w' G' c V:=by
 induction h with
 |bot=>simp[I.flat]at hf
 |bool b=>exact .bool b
 |int k n=>exact .int k n
 |str s=>exact .str s
 |dx=>exact .dx
 |ptr=>simp[I.flat]at hf
 |aj=>simp[I.flat]at hf
 |eI=>exact .eI
 |eJ=>simp[I.flat]at hf
 | ab tk len cells b o cap Vs ht=>unfold I.flat at hf;split at hf<;>simp_all;exact ht.elim
 |row=>simp[I.flat]at hf
 |map=>simp[I.flat]at hf
 |eO=>exact .eO
 |fn=>simp[I.flat]at hf
 |kr=>simp[I.flat]at hf
 |fB=>exact .fB
 |iface=>simp[I.flat]at hf
 |fC=>exact .fC
 |agg cs Vs hl hv a=>exact .agg cs Vs hl λj c V hc d=>a j c V hc d (yL (by simpa[I.flat]using hf) j c hc)
 |ar cs Vs hl hv a=>exact .ar cs Vs hl λj c V hc d=>a j c V hc d (yL (by simpa[I.flat]using hf) j c hc)
theorem b7.frame{C:Ctx}{key:Nat}{args:List I}{Q:ad}(h:b7 C key args AH.mt Q)(t:args.all I.flat=true)(aq:∀g l,C.GT g=some l→l.all I.flat=true)(H:AH)(K:ad)(u:∀v H',Q v H'→v.flat=true∧K v H):b7 C key args H K:=by
 refine⟨by obtain⟨v,H',A⟩:=h.1;exact⟨v,H,(u v H' A).2⟩,λf hf G w Vs x a y=>?_⟩;have B:Rel C.F w (bj.mt G.fz) AH.mt:=Rel.mt a.e2;have D:aP C.F w (bj.mt G.fz) args Vs:=⟨y.1,λj c V hc q=>by rw[aaW]at t;exact yM (t c (acN hc)) (y.2 j c V hc q)⟩
 have E:iv C w (bj.mt G.fz):=by
  intro g l d;have h1:=x.1 g l d;have z:=aq g l d;rw[aaW]at z;generalize J:(Value.pointer (some ⟨g,0,none⟩))=X at h1;generalize r:I.aj l=Y at h1;cases h1 with
  | aj cells b o Vs h hv=>cases J;cases r;exact .aj _ _ _ Vs h λj c p=>yM (z c (acN p)) (hv j c p)
  |bot=>cases r
  |_=>cases r
 · refine acb (h.2 f hf _ w Vs (x.mt E λi hi=>by cases hi) B D) λe w' he=>?_;obtain⟨V,v,H',G',rfl,L,hv,O,m⟩:=he;obtain⟨M,N⟩:=u v H' L;have s:=m.below;have d:GLe w G w' G:=⟨np _,λ_ _=>rfl,λ_ _=>rfl,λ_ _ h=>h,λb o V hf hc=>by
     rw[aaF (w:=w) (s.block b (aaG w _ hc))];exact hc⟩
   refine⟨V,v,H,G,rfl,N,yM M hv,⟨a.n,a.over,λj=>(a.obj j).aO d (λhl=>a.gX hl) (λhl=>s.block _ ((a.obj j).lt hl)) λ_ _ p=>p,a.eZ,λb o hf=>?_⟩,?_⟩
   · obtain⟨V,q⟩:=a.e2 b o hf;exact⟨V,d.cell b o V hf q⟩
   ·exact {d with size:=m.size,os:=m.os,tape:=m.tape,output:=m.output,dr:=m.dr,dE:=λk hk _=>s.block k hk,owned:=λi hi _=>⟨i,hi,rfl⟩,e3:=λ_ _ h=> .inl h}
def DS:List I:=(aaO 256).map λi=> .int .u8 (if i=9∨i=10∨i=11∨i=12∨i=13∨i=32 then 1 else 0)
def qn:List Int:=[0,1,56,2,57,49,28,3,61,58,42,50,38,29,17,4,62,47,59,36,45,43,51,22,53,39,33,30,24,18,12,5,63,55,48,27,60,41,37,16,46,35,44,21,52,32,23,11,54,26,40,15,34,20,31,10,25,14,19,9,13,8,7,6]
def DT:List I:=qn.map (I.int .u8)
end Rb

namespace Rb
open Go
inductive TT where
 |leaf
 |node (x:bS) (l r:TT)
def TT.get:TT→Nat→bS
 | .leaf,_=> .gone
 | .node x l r,i=>bif acO i 0 then x else bif acO (i%2) 1 then l.get (i/2)else r.get (i/2-1)
def TT.iA(x:bS):Nat→TT→Nat→TT
 |0,t,_=>t
 | f+1,t,i=>match t with
  | .leaf=>bif acO i 0 then .node x .leaf .leaf else bif acO (i%2) 1 then .node .gone (TT.iA x f .leaf (i/2)) .leaf else .node .gone .leaf (TT.iA x f .leaf (i/2-1))
  | .node a l r=>bif acO i 0 then .node x l r else bif acO (i%2) 1 then .node a (TT.iA x f l (i/2)) r else .node a l (TT.iA x f r (i/2-1))
theorem TT.DU(i:Nat):TT.get .leaf i = .gone:=rfl
theorem TT.nr(x:bS)(l r:TT)(i:Nat):(TT.node x l r).get i=if i=0 then x else if i%2=1 then l.get (i/2)else r.get (i/2-1):=by
 have c:∀a b:Nat,acO a b=decide (a=b):=λa b=>by rw[acj];simp
 simp only[TT.get,c,cond_eq_ite,dO]
theorem TT.DV(x:bS):∀(f:Nat)(t:TT)(i j:Nat),i<f→(TT.iA x f t i).get j=if j=i then x else t.get j:=by
 intro f;induction f with
 |zero=>intro t i j h;omega
 | succ f g=>
  intro t i j h;have k:∀a b:Nat,acO a b=decide (a=b):=λa b=>by rw[acj];simp
  have key : ∀(a:bS)(l r:TT),(if i=0 then TT.node x l r else if i%2=1 then .node a (TT.iA x f l (i/2)) r else .node a l (TT.iA x f r (i/2-1))).get j=if j=i then x else(TT.node a l r).get j:=by
   intro a l r;by_cases hi:i=0
   · subst hi;rw[af rfl,TT.nr,TT.nr];by_cases c:j=0
     ·simp[c]
     ·simp[c]
   · rw [ak hi];by_cases m:i%2=1
     · rw [af m,TT.nr,TT.nr];rw[g _ _ _ (by omega)];by_cases c:j=0
       ·rw[af c,af c,bM]
       · rw [ak c,ak c];by_cases d:j%2=1
         · rw[af d,af d];by_cases e:j=i
           ·rw[af e,af (by rw[e])]
           ·rw[ak e,bM]
         ·rw[ak d,ak d,bM]
     · rw [ak m,TT.nr,TT.nr];rw[g _ _ _ (by omega)];by_cases c:j=0
       ·rw[af c,af c,bM]
       · rw [ak c,ak c];by_cases d:j%2=1
         ·rw[af d,af d,bM]
         · rw[ak d,ak d];by_cases e:j=i
           ·rw[af e,af (by rw[e])]
           ·rw[ak e,bM]
  cases t with
  | leaf=>simp only[TT.iA,k,cond_eq_ite,dO];rw[key .gone .leaf .leaf,TT.nr,TT.DU];simp only[TT.DU,ite_self]
  | node a l r=>simp only[TT.iA,k,cond_eq_ite,dO];exact key a l r
structure S where
 n:Nat
 t:TT
def S.ah(T:S):AH:=⟨T.n,λi=>T.t.get i⟩
def S.set(T:S)(i:Nat)(x:bS):S:=match T with|⟨n,t⟩=>⟨n,TT.iA x (i+1) t i⟩
def S.push(T:S)(x:bS):S:=match T with|⟨n,t⟩=>⟨n+1,TT.iA x (n+1) t n⟩
def S.mt:S:=⟨0,.leaf⟩
@[simp] theorem S.Zw (T:S):T.ah.n=T.n:=rfl
@[simp] theorem S.Zx (T:S) (i:Nat) (x:bS):(T.set i x).ah=T.ah.set i x:=by simp only[S.ah,S.set,AH.set];congr 1;funext j;exact TT.DV x _ _ _ _ (acP _)
@[simp] theorem S.Oj (T:S) (x:bS):(T.push x).ah=T.ah.push x:=by simp only[S.ah,S.push,AH.push];congr 1;funext j;exact TT.DV x _ _ _ _ (acP _)
@[simp] theorem S.Ol:S.mt.ah=AH.mt:=by simp only[S.ah,S.mt,AH.mt];congr 1
abbrev fm:=I→S→Bool
abbrev db:=Nat→List I→S→fm→Bool
def dk{α:Type}(x:Option α)(K:α→Bool):Bool:=
 match x with
 |some a=>K a
 |none=>false
def hb(x:Option (I×S))(K:fm):Bool:=
 match x with
 |some (v,T)=>K v T
 |none=>false
def oO(v:I)(a:Bool)(A B:Bool):Bool:=
 match v with
 | .bool b=>bif acQ b a then B else A
 |_=>false
def qo(T:S)(n:Nat)(x v:I):Option S:=
 match x with
 | .ptr id o=>
  match T.t.get id with
  | .row cs=>if v.known∧v.cells.length=n∧v.cells.all I.scalar∧o+n≤cs.length then some (T.set id (.row (setCells cs o v.cells)))else none
  |_=>none
 |_=>none
def oP(T:S)(mu:Bool)(cells:List I):I×S:=if mu then(.ptr T.n 0,T.push (.row cells))else(.aj cells,T)
def qp(T:S)(mu:Bool)(n:Nat)(v:I):Option (I×S):=if v.known∧v.cells.length=n then some (oP T mu v.cells)else none
def qq(T:S)(mu:Bool)(sz len:Nat)(a:List I)(b:List (Nat×Nat×I)):Option (I×S):=
 (fZ (ZU len a).flatten b).map λcells=>if mu then(.row T.n 0 len sz,T.push (.row cells))else(.ab .full len cells,T)
def qs(T:S)(mu:Bool)(sz bytes:Nat)(x y:I):Option (I×S):=
 match dQ T.ah sz y with
 |none=>none
 | some (m,news)=>
  if ¬news.all I.scalar then none else
  match x with
  | .ab tk len cells=>
   if m=0 then some (.ab tk len cells,T)
   else if ¬(cells.length=len*sz∧(len+m)*bytes≤140737488355328∧len+m≤9223372036854775807)then none
   else match tk,mu with
   | .nil,true | .full,true=>some (.row T.n 0 (len+m) sz,T.push (.row (cells++news)))
   | .nil,false | .full,false=>some (.ab (.own T.n) (len+m) (cells++news),T.push (.tok ((len+m)*sz) sz))
   | .own t,_=>match T.t.get t with
    | .tok k a=>if k=len*sz∧a=sz then some (.ab (.own T.n) (len+m) (cells++news),(T.set t .gone).push (.tok ((len+m)*sz) sz))else none
    |_=>none
   | .dead,_=>none
  | .row id o len a=>
   match T.t.get id with
   | .row cs=>
    if m=0 then some (.row id o len a,T)
    else if ¬(o=0∧a=sz∧(len+m)*bytes≤140737488355328∧len+m≤9223372036854775807)then none
    else if(len+m)*sz≤cs.length then some (.row id 0 (len+m) sz,T.set id (.row (setCells cs (len*sz) news)))
    else if cs.length=len*sz then some (.row T.n 0 (len+m) sz,(T.set id .gone).push (.row (cs++news)))
    else none
   |_=>none
  |_=>none
def th(T:S)(x:I):Option (I×S):=
 match x with
 | .str s=>some (.ptr T.n 0,T.push (.fG s 0))
 |_=>none
def tj(T:S)(x:I):Option (I×S):=
 match x with
 | .ptr id 0=>
  match T.t.get id with
  | .fG s pos=>
   if pos<s.length then
    let d:=Utf8.decode ⟨s.toArray⟩ pos
    some (.ar [.bool true,.int .i64 pos,.int .i32 d.1],T.set id (.fG s (pos+d.2)))
   else some (.ar [.bool false],T)
  |_=>none
 |_=>none
def oQ(T:S)(mu:Bool)(sz bytes:Nat)(a:List I)(len cap:I):Option (I×S):=
 match len,cap with
 | .int .i64 n,.int .i64 c=>
  if 0≤n∧n≤c∧bytes*c≤281474976710656∧c≤9223372036854775807∧a.length=sz then
   if mu then some (.row T.n 0 n.toNat sz,T.push (.row (ZU c.toNat a).flatten))
   else if n=c then some (.ab .full n.toNat (ZU n.toNat a).flatten,T)else none
  else none
 |_,_=>none
def qt(T:S)(sz:Nat)(x y:I):Option (I×S):=
 match x,dQ T.ah sz y with
 | .row id o len _,some (m,news)=>
  match T.t.get id with
  | .row cs=>
   let n:=min m len
   if news.all I.scalar∧o+n*sz≤cs.length then some (.int .i64 n,T.set id (.row (setCells cs o (news.take (n*sz)))))else none
  |_=>none
 |_,_=>none
def qu(T:S)(kk:FK)(m k v:I):Option S:=
 match m with
 | .map id=>
  match T.t.get id with
  | .map es=>if plainKey kk k∧v.known then(fH kk k es 0).map λr=>(match r with
      |some (i,_)=>T.set id (.map (es.set i (k,v)))
      |none=>T.set id (.map (es++[(k,v)])))else none
  |_=>none
 |_=>none
def tl(T:S)(kk:FK)(m k:I):Option S:=
 match m with
 | .map id=>
  match T.t.get id with
  | .map es=>if plainKey kk k then(fH kk k es 0).map λr=>(match r with
      |some (i,_)=>T.set id (.map (es.eraseIdx i))
      |none=>T)else none
  |_=>none
 |_=>none
def ns(T:S)(x:I):Option (I×S):=
 match x with
 | .row id o len sz=>
  match T.t.get id with
  | .row cs=>if o+len*sz≤cs.length then some (.ab .dead len ((cs.drop o).take (len*sz)),T.set id .gone)else none
  |_=>none
 | .ptr id o=>
  match T.t.get id with
  | .row cs=>match ew (λi=>T.t.get i) cs with
   |some (l,a)=>if a=id then none else some (.ptr id o,(T.set a .gone).set id (.row l))
   |none=>some (.aj (cs.drop o),T.set id .gone)
  |_=>none
 | .ab tk len cells=>some (.ab tk len cells,T)
 | .aj cs=>some (.aj cs,T)
 | .agg cells=>match ew (λi=>T.t.get i) cells with
  |some (l,id)=>some (.agg l,T.set id .gone)
  |none=>some (.agg cells,T)
 |_=>none
def text(T:S)(e:Ext)(xs:List I):Option (I×S):=
 match e,xs with
 | .kB t,[.iface t' v]=>if t'=t then some (v,T)else none
 | .mf neg,[.ptr i o,.ptr j p]=>
  match T.t.get i,T.t.get j with
  | .row _,.row _=>if i=j then some (.bool (if neg then !(o==p)else o==p),T)else some (.bool neg,T)
  |_,_=>none
 | .clear sz zero,[.row id o len z]=>
  if len=0 then some (.ar [],T)else
  match T.t.get id with
  | .row cs=>if zero.all I.scalar∧zero.length=sz∧o+len*sz≤cs.length then some (.ar [],T.set id (.row (setCells cs o (ZU len zero).flatten)))else none
  |_=>none
 | .clear _ _,[.ab _ 0 _]=>some (.ar [],T)
 | .grow sz bytes zero,[.ab .nil 0 [],.int .i64 n]=>if 0<n∧n.toNat*bytes≤281474976710656∧n≤9223372036854775807∧zero.length=sz∧0<sz then some (.row T.n 0 n.toNat sz,T.push (.row (ZU n.toNat zero).flatten))else none
 | .jT t,[]=>some (.ptr T.n 0,T.push (.gN t false none))
 | .jT t,[.agg [.dx,.ab .nil 0 []]]=>some (.ptr T.n 0,T.push (.gN t false none))
 |_,_=>none
def vh(r:I×S):I×AH:=(r.1,r.2.ah)
theorem Om(T:S)(e:Ext)(xs:List I):(text T e xs).map vh=c7 T.ah e xs:=by
 have a:∀i,T.ah.o i=T.t.get i:=λ_=>rfl;cases e with
 |stuck=>cases xs<;>rfl
 | kB t=>
  cases xs with
  |nil=>rfl
  | cons x r=>
   cases r with
   |cons y r=>cases x<;>rfl
   | nil=>
    cases x<;>try rfl
    simp only[text,c7];split<;>rfl
 | mf neg=>
  cases xs with
  |nil=>rfl
  | cons x r=>
   cases r with
   |nil=>cases x<;>rfl
   | cons y r=>
    cases r with
    |cons z r=>cases x<;>cases y<;>rfl
    | nil=>
     cases x<;>cases y<;>try rfl
     simp only[text,c7,a];rename_i i o j p;cases T.t.get i<;>cases T.t.get j<;>try rfl
     dsimp only;split<;>rfl
 | jT t=>
  cases xs with
  |nil=>simp[text,c7,vh]
  | cons x r=>
   by_cases b:x = .agg [.dx,.ab .nil 0 []]∧r=[]
   · obtain⟨rfl,rfl⟩:=b;simp[text,c7,vh]
   · have h1:text T (.jT t) (x::r)=none:=by
       unfold text;split<;>first|rfl|(exfalso;simp_all;done)|simp_all
     have c:c7 T.ah (.jT t) (x::r)=none:=by unfold c7;split<;>first|rfl|(exfalso;simp_all;done)|simp_all
     rw[h1,c];rfl
 | grow sz bytes zero=>
  cases xs with
  |nil=>rfl
  | cons x r=>
   cases r with
   | nil=>
    cases x<;>try rfl
    rename_i tk len cells;cases tk<;>cases len<;>cases cells<;>rfl
   | cons y r=>
    cases r with
    | cons z r=>
     cases x<;>try rfl
     rename_i tk len cells;cases tk<;>cases len<;>cases cells<;>try rfl
     cases y<;>try rfl
     rename_i k n;cases k<;>rfl
    | nil=>
     cases x<;>try rfl
     rename_i tk len cells;cases tk<;>cases len<;>cases cells<;>try rfl
     cases y<;>try rfl
     rename_i k n;cases k<;>try rfl
     simp only[text,c7];split
     ·simp[vh]
     ·rfl
 | clear sz zero=>
  cases xs with
  |nil=>rfl
  | cons x r=>
   cases r with
   | cons y r=>
    cases x<;>try rfl
    rename_i tk len cells;cases len<;>rfl
   | nil =>
    cases x<;>try rfl
    · rename_i tk len cells;cases len<;>rfl
    · rename_i id o len z;simp only[text,c7,a];split
      ·rfl
      · cases T.t.get id<;>try rfl
        dsimp only;split
        ·simp[vh]
        ·rfl
theorem On(T:S)(n:Nat)(x v:I):(qo T n x v).map S.ah=Y T.ah n x v:=by
 unfold qo Y;cases x<;>try rfl
 dsimp only;show _=match T.t.get _ with | .row cs=>_|_=>_
 split
 ·split<;>simp
 ·rfl
theorem DW(T:S)(mu:Bool)(cells:List I):vh (oP T mu cells)=aK T.ah mu cells:=by unfold oP aK vh;split<;>simp
theorem Oo(T:S)(mu:Bool)(n:Nat)(v:I):(qp T mu n v).map vh=aL T.ah mu n v:=by
 unfold qp aL;split
 ·simp[DW]
 ·rfl
theorem Oq(T:S)(mu:Bool)(sz len:Nat)(a:List I)(parts:List (Nat×Nat×I)):(qq T mu sz len a parts).map vh=b8 T.ah mu sz len a parts:=by unfold qq b8;rw[Option.map_map];congr 1;funext cells;simp only[Function.comp,vh];split<;>simp
theorem Ot(T:S)(mu:Bool)(sz bytes:Nat)(x y:I):(qs T mu sz bytes x y).map vh=bH T.ah mu sz bytes x y:=by
 unfold qs bH;have a:∀i,T.ah.o i=T.t.get i:=λ_=>rfl;simp only[a];cases b:dQ T.ah sz y with
 |none=>rfl
 | some p =>
  obtain⟨m,news⟩:=p;dsimp only;by_cases hs:news.all I.scalar=true
  · simp only [hs,not_true_eq_false,bz];cases x<;>try rfl
    · rename_i tk len cells;dsimp only;by_cases hm:m=0
      ·simp only[af hm];rfl
      · simp only[ak hm];by_cases hc:¬(cells.length=len*sz∧(len+m)*bytes≤140737488355328∧len+m≤9223372036854775807)
        ·simp only[af hc];rfl
        · simp only[ak hc];cases tk<;>cases mu<;>try (simp[vh];done)
          all_goals
           rename_i t;dsimp only;cases ht:T.t.get t<;>try rfl
           dsimp only;split<;>simp[vh]
    · rename_i id o len c;dsimp only;cases ht:T.t.get id<;>try rfl
      dsimp only;split
      ·rfl
      · split
        ·rfl
        · split
          ·simp[vh]
          ·split<;>simp[vh]
  ·simp only[hs,not_false_eq_true,aR];rfl
theorem Ou(T:S)(x:I):(th T x).map vh=mU T.ah x:=by unfold th mU;cases x<;>simp[vh]
theorem Ov(T:S)(x:I):(tj T x).map vh=ky T.ah x:=by
 have a:∀i,T.ah.o i=T.t.get i:=λ_=>rfl;cases x<;>try rfl
 rename_i id off;cases off with
 |succ k=>rfl
 | zero=>
  simp only[tj,ky,a];cases ht:T.t.get id<;>try rfl
  dsimp only;split<;>simp[vh]
theorem Ow(T:S)(mu:Bool)(sz bytes:Nat)(a:List I)(len cap:I):(oQ T mu sz bytes a len cap).map vh=ir T.ah mu sz bytes a len cap:=by
 have go:∀n c:Int,(oQ T mu sz bytes a (.int .i64 n) (.int .i64 c)).map vh=ir T.ah mu sz bytes a (.int .i64 n) (.int .i64 c):=by
  intro n c;simp only[oQ,ir];by_cases h:0≤n∧n≤c∧bytes*c≤281474976710656∧c≤9223372036854775807∧a.length=sz
  · simp only[af h];by_cases hm:mu=true
    ·simp only[af hm];simp[vh]
    · simp only[ak hm];by_cases b:n=c
      ·simp only[af b];rfl
      ·simp only[ak b];rfl
  ·simp only[ak h];rfl
 cases len<;>try rfl
 rename_i k n;cases k<;>try rfl
 cases cap<;>try rfl
 rename_i k c;cases k<;>try rfl
 exact go n c
theorem Ox(T:S)(sz:Nat)(x y:I):(qt T sz x y).map vh=p8 T.ah sz x y:=by
 have a:∀i,T.ah.o i=T.t.get i:=λ_=>rfl;unfold qt p8;cases b:dQ T.ah sz y with
 |none=>cases x<;>rfl
 | some p=>
  cases x<;>try rfl
  rename_i id o len c;simp only[a];cases ht:T.t.get id<;>try rfl
  dsimp only;split<;>simp[vh]
theorem Oy(T:S)(kk:FK)(m k v:I):(qu T kk m k v).map S.ah=jj T.ah kk m k v:=by
 have a:∀i,T.ah.o i=T.t.get i:=λ_=>rfl;cases m<;>try rfl
 rename_i id;simp only[qu,jj,a];cases ht:T.t.get id<;>try rfl
 rename_i es;dsimp only;by_cases h:plainKey kk k∧v.known
 · simp only[af h];cases hf:fH kk k es 0 with
   |none=>rfl
   |some r=>cases r<;>simp
 ·simp only[ak h];rfl
theorem Oz(T:S)(kk:FK)(m k:I):(tl T kk m k).map S.ah=p9 T.ah kk m k:=by
 have a:∀i,T.ah.o i=T.t.get i:=λ_=>rfl;cases m<;>try rfl
 rename_i id;simp only[tl,p9,a];cases ht:T.t.get id<;>try rfl
 rename_i es;dsimp only;by_cases h:plainKey kk k
 · simp only[af h];cases hf:fH kk k es 0 with
   |none=>rfl
   |some r=>cases r<;>simp
 ·simp only[ak h];rfl
theorem DX(T:S)(x:I):(ns T x).map vh=fb T.ah x:=by
 have b:∀i,T.ah.o i=T.t.get i:=λ_=>rfl;cases x<;>try rfl
 · rename_i id o;simp only[ns,fb,b];cases ht:T.t.get id<;>try rfl
   rename_i cs;dsimp only;show acR vh (match ew T.ah.o cs with
     |some (l,a)=>if a=id then none else some (.ptr id o,(T.set a .gone).set id (.row l))
     |none=>some (.aj (cs.drop o),T.set id .gone))=_
   cases ew T.ah.o cs with
   |none=>simp[vh]
   | some q=>
    obtain⟨l,a⟩:=q;dsimp only;by_cases e:a=id
    ·rw[af e,af e];rfl
    ·rw[ak e,ak e];simp[vh]
 · rename_i id o len sz;simp only[ns,fb,b];cases ht:T.t.get id<;>try rfl
   dsimp only;split<;>simp[vh]
 · rename_i cells;simp only[ns,fb];show acR vh (match ew T.ah.o cells with|some (l,id)=>some (.agg l,T.set id .gone)|none=>some (.agg cells,T))=_;cases ew T.ah.o cells with
   |none=>rfl
   |some q=>simp[vh]
end Rb

namespace Rb
open Go
variable{n:Nat}{env:Env}{Φ:ae}{H:AH}{ops:List br}{o:br}
noncomputable section
abbrev EV:=List (Nat×I)
def dm(E:EV)(t:Nat):I:=acS (motive:=λ_=>I) .bot (λp _ a=>cond (acO p.1 t) p.2 a) E
def ez(n:Nat)(E:EV)(t:Nat)(v:I):EV:=cond (acT t n) ((t,v)::E) E
def eM(n:Nat)(E:EV)(d:Option Nat)(v:I):EV:=
 match d with
 |some t=>ez n E t v
 |none=>E
theorem OA(a b:Nat):acO a b=decide (a=b):=by rw[acj];simp
theorem OB(a b:Nat):acT a b=decide (a<b):=by rw[acj];simp[acT];omega
theorem tm(t:Nat)(v:I)(E:EV)(i:Nat):dm ((t,v)::E) i=if t=i then v else dm E i:=by show cond (acO t i) v (dm E i)=_;rw[OA,cond_eq_ite];simp
def c0(n:Nat)(E:EV)(env:Env):Prop:=env.length=n∧∀i,dm E i=env.getD i .bot
theorem c0.set{E:EV}(h:c0 n E env)(t:Nat)(v:I):c0 n (ez n E t v) (env.set t v):=by
 refine⟨by simp[h.1],λi=>?_⟩;unfold ez;rw[OB,cond_eq_ite];by_cases ht:t<n
 · rw[af (by simpa using ht),tm,abi,aao];by_cases e:t=i
   ·rw[af e,af e,af (by rw[h.1];exact ht)];rfl
   ·rw[ak e,ak e,←abi];exact h.2 i
 · rw[ak (by simpa using ht),acG (by rw[h.1];omega)];exact h.2 i
theorem c0.bI{E:EV}(h:c0 n E env)(d:Option Nat)(v:I):c0 n (eM n E d v) (Rb.bI env d v):=by
 cases d with
 |none=>exact h
 |some t=>exact h.set t v
def lB:List I→Nat→EV
 |[],_=>[]
 |a::r,i=>(i,a)::lB r (i+1)
theorem yN:∀(args:List I)(i j:Nat),dm (lB args i) j=if j<i then .bot else args.getD (j-i) .bot
 |[],i,j=>by simp[lB,dm]
 | a :: r,i,j=>by
  rw[lB,tm,yN r (i+1) j];by_cases h:i=j
  ·subst h;simp
  · rw[ak h];by_cases b:j<i
    ·rw[cj,af b]
    ·rw[bM,ak b,show j-i=(j-(i+1))+1 by omega];simp
def aT.sub(E:EV):aT→aT
 | .t n=> .k (dm E n)
 | .k v=> .k v
theorem tn{E:EV}(h:c0 n E env)(x:aT):(x.sub E).ev []=x.ev env:=by
 cases x with
 |t i=>exact h.2 i
 |k v=>rfl
def dj.sub(E:EV):dj→dj
 | .mv x=> .mv (x.sub E)
 | .pick c a b=> .pick (c.sub E) (a.sub E) (b.sub E)
 | .bin op x y=> .bin op (x.sub E) (y.sub E)
 | .beq neg x y=> .beq neg (x.sub E) (y.sub E)
 | .iP k neg x=> .iP k neg (x.sub E)
 | .h5 neg ks x y=> .h5 neg ks (x.sub E) (y.sub E)
 | .un op x=> .un op (x.sub E)
 | .conv k x=> .conv k (x.sub E)
 | .same x=> .same (x.sub E)
 | .jk x=> .jk (x.sub E)
 | .field off sz agg x=> .field off sz agg (x.sub E)
 | .idx l sz agg x i=> .idx l sz agg (x.sub E) (i.sub E)
 | .idxs x i=> .idxs (x.sub E) (i.sub E)
 | .jl off x=> .jl off (x.sub E)
 | .iQ arr sz x i=> .iQ arr sz (x.sub E) (i.sub E)
 | .slice sz x lo hi mx=> .slice sz (x.sub E) (lo.map (aT.sub E)) (hi.map (aT.sub E)) (mx.map (aT.sub E))
 | .jm x lo hi=> .jm (x.sub E) (lo.map (aT.sub E)) (hi.map (aT.sub E))
 | .gO t x=> .gO t (x.sub E)
 | .gl key bE=> .gl key (bE.map (aT.sub E))
 | .extract i x=> .extract i (x.sub E)
 | .build zero parts=> .build zero (parts.map λp=>(p.1,p.2.1,p.2.2.sub E))
 | .len str x=> .len str (x.sub E)
 | .gP n=> .gP n
 | .cap x=> .cap (x.sub E)
 | .gQ mx xs=> .gQ mx (xs.map (aT.sub E))
 | .load n agg x=> .load n agg (x.sub E)
 | .store n x v=> .store n (x.sub E) (v.sub E)
 | .box mu n x=> .box mu n (x.sub E)
 | .alloc mu zero=> .alloc mu zero
 | .gm mu sz l zero parts=> .gm mu sz l zero (parts.map λp=>(p.1,p.2.1,p.2.2.sub E))
 | .append mu sz bytes x y=> .append mu sz bytes (x.sub E) (y.sub E)
 | .make mu sz bytes zero l c=> .make mu sz bytes zero (l.sub E) (c.sub E)
 | .copy sz x y=> .copy sz (x.sub E) (y.sub E)
 | .gn=> .gn
 | .lookup kk zero ok m k=> .lookup kk zero ok (m.sub E) (k.sub E)
 | .gR kk m k v=> .gR kk (m.sub E) (k.sub E) (v.sub E)
 | .delete kk m k=> .delete kk (m.sub E) (k.sub E)
 | .gS m=> .gS (m.sub E)
 | .jn x=> .jn (x.sub E)
 | .gT x=> .gT (x.sub E)
 | .hx x=> .hx (x.sub E)
 | .hy x=> .hy (x.sub E)
 | .call key args=> .call key (args.map (aT.sub E))
 | .gU f args=> .gU (f.sub E) (args.map (aT.sub E))
 | .ext e xs=> .ext e (xs.map (aT.sub E))
 | .inv gV x args=> .inv gV (x.sub E) (args.map (aT.sub E))
theorem tq{E:EV}(h:c0 n E env){K:ad}(op:dj):b4 Φ [] H K (op.sub E)=b4 Φ env H K op:=by
 have h1:=tn h;have hl:∀xs:List aT,dM [] (xs.map (aT.sub E))=dM env xs:=λxs=>by simp only[dM,acU];congr 1;funext x;exact h1 x
 have a:∀xs:List (Nat×Nat×aT),fc [] (xs.map λp=>(p.1,p.2.1,p.2.2.sub E))=fc env xs:=λxs=>by simp only[fc,acU];congr 1;funext x;simp[h1]
 have b:∀x:Option aT,(x.map (aT.sub E)).map (aT.ev [])=x.map (aT.ev env):=λx=>by cases x<;>simp[h1]
 cases op<;>simp only[dj.sub,b4,h1,hl,a,b]
abbrev jx:=EV→AH→Prop
def jy(Φ:ae)(n:Nat):List br→EV→AH→jx→Prop
 |[],E,H,K=>K E H
 | o :: r,E,H,K=>
  match o.guard with
  |none=>b4 Φ [] H (λv H'=>jy Φ n r (eM n E o.dst v) H' K) (o.op.sub E)
  | some (s,want)=>
   aM (dm E s) want (b4 Φ [] H (λv H'=>jy Φ n r (eM n (ez n E s (.bool want)) o.dst v) H' K) (o.op.sub (ez n E s (.bool want))))
    (jy Φ n r (eM n (ez n E s (.bool !want)) o.dst (.ar [])) H K) (jy Φ n r (eM n (ez n E s (.ar [])) o.dst (.ar [])) H K)
theorem aM.imp{v:I}{b:Bool}{A B C c d e:Prop}(f:A→c)(hB:B→d)(g:C→e)(h:aM v b A B C):aM v b c d e:=by
 unfold aM at *;split at h
 · split at h
   ·rename_i a;simp[a,f h]
   ·rename_i a;simp[a,hB h]
 ·exact g h
 ·exact h.elim
theorem yO(bQ:h8 Φ):∀{l:List br}{E:EV}{env:Env}{H:AH}{K:jx}{Q:Env→AH→Prop},c0 n E env→jy Φ n l E H K→(∀d aJ H',c0 n d aJ→K d H'→Q aJ H')→fM Φ l env H Q:=by
 intro l;induction l with
 |nil=>intro E env H K Q a h b;exact b _ _ _ a h
 | cons o r c=>
  intro E env H K Q a h b;simp only[jy]at h;simp only[fM];cases e:o.guard with
  | none=>rw[e]at h;dsimp only at h ⊢;rw[tq a]at h;exact oH bQ (λv H' h=>c (a.bI _ _) h b) h
  | some g=>obtain⟨s,want⟩:=g;rw[e]at h;dsimp only at h ⊢;rw[a.2 s,tq (a.set s _)]at h;exact aM.imp (oH bQ λv H' h=>c ((a.set _ _).bI _ _) h b) (λh=>c ((a.set _ _).bI _ _) h b) (λh=>c ((a.set _ _).bI _ _) h b) h
def oR(Φ:ae)(n:Nat)(o:br)(E:EV)(H:AH)(K:jx):Prop:=
 match o.guard with
 |none=>b4 Φ [] H (λv H'=>K (eM n E o.dst v) H') (o.op.sub E)
 | some (s,want)=>
  aM (dm E s) want (b4 Φ [] H (λv H'=>K (eM n (ez n E s (.bool want)) o.dst v) H') (o.op.sub (ez n E s (.bool want))))
   (K (eM n (ez n E s (.bool !want)) o.dst (.ar [])) H) (K (eM n (ez n E s (.ar [])) o.dst (.ar [])) H)
theorem DY(bQ:h8 Φ){E:EV}{K:jx}{Q:Env→AH→Prop}(a:c0 n E env)(h:oR Φ n o E H K)(b:∀c aJ H',c0 n c aJ→K c H'→Q aJ H'):hz Φ o env H Q:=by
 unfold oR at h;unfold hz;cases d:o.guard with
 | none=>rw[d]at h;dsimp only at h ⊢;rw[tq a]at h;exact oH bQ (λv H' h=>b _ _ _ (a.bI _ _) h) h
 | some g=>obtain⟨s,want⟩:=g;rw[d]at h;dsimp only at h ⊢;rw[a.2 s,tq (a.set s _)]at h;exact aM.imp (oH bQ λv H' h=>b _ _ _ ((a.set _ _).bI _ _) h) (λh=>b _ _ _ ((a.set _ _).bI _ _) h) (λh=>b _ _ _ ((a.set _ _).bI _ _) h) h
def mo(Φ:ae)(n:Nat)(ops:List br):List Nat→EV→AH→jx→Prop
 |[],E,H,K=>K E H
 | i::r,E,H,K=>match ops[i]? with
  |some o=>oR Φ n o E H λa H'=>mo Φ n ops r a H' K
  |none=>False
theorem DZ(bQ:h8 Φ):∀{l:List Nat}{E:EV}{env:Env}{H:AH}{K:jx}{Q:Env→AH→Prop},c0 n E env→mo Φ n ops l E H K→(∀a aJ H',c0 n a aJ→K a H'→Q aJ H')→iR Φ ops l env H Q:=by
 intro l;induction l with
 |nil=>intro E env H K Q b h c;exact c _ _ _ b h
 | cons i r d=>
  intro E env H K Q b h c;simp only[mo]at h;simp only[iR];split at h
  · rename_i o e;rw[e];exact DY bQ b h λa aJ H' f g=>d f g c
  ·exact h.elim
def oS(E:EV)(H:AH)(o:br):Prop:=
 match o.op with
 | .load n agg x=>Z H n agg ((x.sub E).ev [])=some (dm E (o.dst.getD 0))
 | .lookup kk zero ok m k=>f_ H kk zero ok ((m.sub E).ev []) ((k.sub E).ev [])=some (dm E (o.dst.getD 0))
 | .gS m=>kz H ((m.sub E).ev [])=some (dm E (o.dst.getD 0))
 | .gT x=>abstr H ((x.sub E).ev [])=some (dm E (o.dst.getD 0))
 |_=>True
def qv(E:EV)(H:AH)(o:br):Prop:=
 match o.guard with
 |none=>oS E H o
 |some (s,want)=>dm E s = .bool want→oS E H o
theorem OC{E:EV}(a:c0 n E env)(h:qv E H o):p_ env H o:=by
 have h1:=tn a;have fin:oS E H o→oj env H o:=by unfold oS oj;intro h;cases c:o.op<;>rw[c]at h<;>dsimp only at h ⊢ <;> (try rw[h1]at h)<;>(try rw[h1]at h)<;>(try rw[a.2]at h)<;>exact h
 unfold qv at h;unfold p_;cases b:o.guard with
 |none=>rw[b]at h;exact fin h
 | some g=>obtain⟨s,want⟩:=g;rw[b]at h;dsimp only at h ⊢;rw[a.2]at h;exact λhs=>fin (h hs)
def tt(ops:List br)(E:EV)(H:AH)(X:Prop):List Nat→Prop
 |[]=>X
 |l::r=>(match ops[l]? with|some o=>qv E H o|none=>True)∧tt ops E H X r
theorem OD{E:EV}(a:c0 n E env){X Y:Prop}(b:X→Y):∀{l:List Nat},tt ops E H X l→e4 ops env H Y l:=by
 intro l;induction l with
 |nil=>intro h;exact b h
 | cons i r c=>
  intro h;refine⟨?_,c h.2⟩;have h1:=h.1;cases d:ops[i]? with
  |none=>trivial
  |some o=>rw[d]at h1;exact OC a h1
def oT(Φ:ae)(n:Nat)(ops:List br)(a:List Nat):List (List Nat×Nat×List Nat)→EV→AH→jx→Prop
 |[],E,H,K=>mo Φ n ops a E H K
 | (c,e,st)::r,E,H,K=>mo Φ n ops c E H λb H1=>match ops[e]? with
  |some o=>oR Φ n o b H1 λd H2=>tt ops b H2 (oT Φ n ops a r d H2 K) st
  |none=>False
theorem D0(bQ:h8 Φ){c:List Nat}:∀{a_:List (List Nat×Nat×List Nat)}{E:EV}{env:Env}{H:AH}{K:jx}{Q:Env→AH→Prop},c0 n E env→oT Φ n ops c a_ E H K→(∀d aJ H',c0 n d aJ→K d H'→Q aJ H')→gq Φ ops c a_ env H Q:=by
 intro a_;induction a_ with
 |nil=>intro E env H K Q a h b;exact DZ bQ a h b
 | cons p r i=>
  obtain⟨l,e,st⟩:=p;intro E env H K Q a h b;simp only[oT]at h;simp only[gq];refine DZ bQ a h λm e1 H1 f h1=>?_;cases g:ops[e]? with
  |none=>rw[g]at h1;exact h1.elim
  | some o=>rw[g]at h1;exact DY bQ f h1 λq s H2 j k=>OD f (λh=>i j h b) k
def hd(E:EV)(vs:List Nat):List I:=vs.map λt=>dm E t
def jz(n:Nat)(E:EV):List Nat→EV
 |[]=>E
 |t::r=>jz n (ez n E t .bot) r
def ia(n:Nat)(E:EV):List Nat→List I→EV
 |t::r,s=>ia n (ez n E t (s.headD .bot)) r s.tail
 |[],_=>E
theorem c0.du{E:EV}(h:c0 n E env)(vs:List Nat):hd E vs=Rb.du env vs:=by simp only[hd,Rb.du];congr 1;funext t;exact h.2 t
theorem c0.dW{n:Nat}:∀(ks:List Nat){E:EV}{env:Env},c0 n E env→c0 n (jz n E ks) (Rb.dW env ks)
 |[],_,_,h=>h
 |t::r,_,_,h=>c0.dW r (h.set t _)
theorem c0.fi{n:Nat}:∀(vs:List Nat)(a:List I){E:EV}{env:Env},c0 n E env→c0 n (ia n E vs a) (Rb.fi env vs a)
 |[],_,_,_,h=>h
 |t::r,a,_,_,h=>c0.fi r a.tail (h.set t _)
def eG(Φ:ae)(n:Nat):eE→EV→AH→(ea→EV→AH→Prop)→Prop
 | .skip,E,H,Q=>Q .normal E H
 | .region ops,E,H,Q=>jy Φ n ops E H (Q .normal)
 | .draw ops _ a_ last,E,H,Q=>oT Φ n ops last a_ E H (Q .normal)
 | .seq a b,E,H,Q=>eG Φ n a E H λe c H'=>match e with
  | .normal=>eG Φ n b c H' Q
  |e=>Q e c H'
 | .join vs ks a b,E,H,Q=>eG Φ n a E H λe c H'=>match e with
  | .normal=>G (λst d=>eG Φ n b (ia n (jz n E ks) vs st) d Q) (hd c vs) H'
  |e=>Q e c H'
 | .cond x a b,E,H,Q=>Gd ((x.sub E).ev []) true (eG Φ n a E H Q) (eG Φ n b E H Q)
 | .block id a,E,H,Q=>eG Φ n a E H λe c H'=>match e with
  | .exit f=>if f=id then Q .normal c H' else Q (.exit f) c H'
  |e=>Q e c H'
 | .loop vs ks a,E,H,Q=>
  av (λ(s:List I×AH) (K:List I×AH→Prop)=>
    eG Φ n a (ia n (jz n E ks) vs s.1) s.2 λe c H'=>match e with
     | .normal=>K (hd c vs,H')
     |e=>Q e c H') (hd E vs,H)
 | .exit id,E,H,Q=>Q (.exit id) E H
 | .ret,E,H,Q=>Q .ret E H
 | .freeze t a,E,H,Q=>au (fb H (dm E t)) λv H'=>eG Φ n a (ez n E t v) H' Q
 | .gW vs ks ops b,E,H,Q=>jy Φ n ops E H λc H'=>G (λst d=>eG Φ n b (ia n (jz n E ks) vs st) d Q) (hd c vs) H'
theorem av.imp{a:Type}{F b:a→(a→Prop)→Prop}(c:∀s K,F s K→b s K){s:a}(h:av F s):av b s:=λd e=>h d λs K hs f=>e s K (c s K hs) f
theorem OE(bQ:h8 Φ):∀{c:eE}{E:EV}{env:Env}{H:AH}{K:ea→EV→AH→Prop}{Q:ea→Env→AH→Prop},c0 n E env→eG Φ n c E H K→(∀x j aJ H',c0 n j aJ→K x j H'→Q x aJ H')→dy Φ c env H Q:=by
 intro c;induction c with
 |skip=>intro E env H K Q d h e;exact e _ _ _ _ d h
 |region ops=>intro E env H K Q d h e;exact yO bQ d h λ_ _ _ d h=>e _ _ _ _ d h
 |draw ops pr a_ last=>intro E env H K Q d h e;exact D0 bQ d h λ_ _ _ d h=>e _ _ _ _ d h
 | seq a b l m=>
  intro E env H K Q d h e;simp only[eG]at h;simp only[dy];refine l d h λx j o H' g f=>?_;cases x with
  |normal=>exact m g f e
  |exit i=>exact e _ _ _ _ g f
  |ret=>exact e _ _ _ _ g f
 | join vs ks a b l m=>
  intro E env H K Q d h e;simp only[eG]at h;simp only[dy];refine l d h λx j o H' g f=>?_;cases x with
  | normal=>dsimp only at f ⊢;rw[g.du vs]at f;exact m ((d.dW ks).fi vs _) f e
  |exit i=>exact e _ _ _ _ g f
  |ret=>exact e _ _ _ _ g f
 | cond x a b l m=>intro E env H K Q d h e;simp only[eG,tn d]at h;exact Gd.mono (λh=>l d h e) (λh=>m d h e) h
 | block id a k=>
  intro E env H K Q d h e;simp only[eG]at h;simp only[dy];refine k d h λx j o H' g f=>?_;cases x with
  |normal=>exact e _ _ _ _ g f
  | exit i=>
   dsimp only at f ⊢;split
   ·rename_i hi;rw[af hi]at f;exact e _ _ _ _ g f
   ·rename_i hi;rw[ak hi]at f;exact e _ _ _ _ g f
  |ret=>exact e _ _ _ _ g f
 | loop vs ks a k=>
  intro E env H K Q d h e;simp only[eG]at h;simp only[dy];rw[d.du vs]at h;refine av.imp (λs K' hs=>k ((d.dW ks).fi vs s.1) hs λx j o H' g f=>?_) h;cases x with
  |normal=>dsimp only at f ⊢;rw[←g.du vs];exact f
  |exit i=>exact e _ _ _ _ g f
  |ret=>exact e _ _ _ _ g f
 |exit id=>intro E env H K Q d h e;exact e _ _ _ _ d h
 |ret=>intro E env H K Q d h e;exact e _ _ _ _ d h
 | freeze t a k=>intro E env H K Q d h e;simp only[eG]at h;simp only[dy];rw[d.2 t]at h;exact au.mono (λv H' f=>k (d.set t v) f e) h
 | gW vs ks ops b k=>intro E env H K Q d h e;simp only[eG]at h;simp only[dy];refine yO bQ d h λj o H' g f=>?_;rw[g.du vs]at f;exact k ((d.dW ks).fi vs _) f e
def nt(E:EV)(H:AH):List iu→(List I→Prop)→Prop
 |[],K=>K []
 | .tmp t::r,K=>nt E H r λvs=>K (dm E t::vs)
 | .cell t n agg::r,K=>Do (Z H n agg (dm E t)) λv=>nt E H r λvs=>K (v::vs)
theorem yP{E:EV}(a:c0 n E env):∀{rs:List iu}{K:List I→Prop},nt E H rs K=jo env H rs K:=by
 intro rs;induction rs with
 |nil=>intro K;rfl
 | cons r rs b=>
  intro K;cases r with
  |tmp t=>simp only[nt,jo,b,a.2]
  |cell t n agg=>simp only[nt,jo,b,a.2]
def yQ(Φ:ae)(f:aF)(args:List I)(H:AH)(Q:ad):Prop:=
 eG Φ f.ntmps f.body (lB args 0) H λe E H'=>match e with
  | .exit _=>False
  |_=>nt E H' f.results λvs=>Q (jU vs) H'
def yR(Φ:ae)(f:aF)(args:List I)(H:AH)(Q:ad):Prop:=args.length≤f.ntmps∧yQ Φ f args H Q
theorem OG(bQ:h8 Φ){f:aF}{args:List I}{Q:ad}(h:yR Φ f args H Q):mW Φ f args H Q:=by
 have c:c0 f.ntmps (lB args 0) (args++ZU (f.ntmps-args.length) .bot):=by
  refine⟨by simp;have:=h.1;omega,λi=>?_⟩;rw[yN];simp only[acV,bz,acW];simp only[abi];by_cases hi:i<args.length
  ·rw[abB hi]
  · rw[abC (by omega),acf (by omega),acJ];split<;>rfl
 refine OE bQ c h.2 λx d e H' b a=>?_;cases x with
 |normal=>dsimp only at a ⊢;rw[yP b]at a;exact a
 |exit i=>exact a
 |ret=>dsimp only at a ⊢;rw[yP b]at a;exact a
end
end Rb

namespace Rb
open Go
variable{Φ:ae}{B:db}{T:S}{n fuel:Nat}{E:EV}{K:fm}{Q:ad}{P:Prop}{o:br}{ops:List br}{v:I}{want:Bool}
def yS(Φ:db)(f:I)(args:List I)(T:S)(K:fm):Bool:=
 match f with
 | .fn key bE=>Φ (fJ key) (fK key args bE) T K
 |_=>false
def yT(Φ:db)(gV:List (TypeId×Nat×Option (Nat×Bool)))(x:I)(args:List I)(T:S)(K:fm):Bool:=
 match x with
 | .iface t v=>(match fI gV t with
   | some r=>(match h4 T.ah r.2 v with
     |some u=>Φ r.1 (u::args) T K
     |none=>false)
   |none=>false)
 |_=>false
def lC(Φ:db)(d:Env)(T:S)(K:fm):dj→Bool
 | .mv x=>K (x.ev d) T
 | .pick c a b=>oO (c.ev d) true (K (a.ev d) T) (K (b.ev d) T)
 | .bin op x y=>dk (M op (x.ev d) (y.ev d)) λv=>K v T
 | .beq neg x y=>dk (ku neg (x.ev d) (y.ev d)) λv=>K v T
 | .iP k neg x=>dk (h3 k neg (x.ev d)) λv=>K v T
 | .h5 neg ks x y=>dk (iO neg ks (x.ev d) (y.ev d)) λv=>K v T
 | .un op x=>dk (cO op (x.ev d)) λv=>K v T
 | .conv k x=>dk (dK k (x.ev d)) λv=>K v T
 | .same x=>dk (og (x.ev d)) λv=>K v T
 | .jk x=>dk (aD (x.ev d)) λv=>K v T
 | .field off sz agg x=>dk (jS off sz agg (x.ev d)) λv=>K v T
 | .idx len sz agg x i=>dk (kv len sz agg (x.ev d) (i.ev d)) λv=>K v T
 | .idxs x i=>dk (ji (x.ev d) (i.ev d)) λv=>K v T
 | .jl off x=>dk (aa off (x.ev d)) λv=>K v T
 | .iQ arr sz x i=>dk (aG arr sz (x.ev d) (i.ev d)) λv=>K v T
 | .slice sz x lo hi mx=>dk (c9 sz (x.ev d) (lo.map (aT.ev d)) (hi.map (aT.ev d)) (mx.map (aT.ev d))) λv=>K v T
 | .jm x lo hi=>dk (oh (x.ev d) (lo.map (aT.ev d)) (hi.map (aT.ev d))) λv=>K v T
 | .gO t x=>K (.iface t (x.ev d)) T
 | .gl key bE=>K (.fn key (dM d bE)) T
 | .extract i x=>dk (aY i (x.ev d)) λv=>K v T
 | .build zero parts=>dk (aB zero (fc d parts)) λv=>K v T
 | .len str x=>dk (aU str (x.ev d)) λv=>K v T
 | .gP n=>K (.int .i64 n) T
 | .cap x=>dk (kA (x.ev d)) λv=>K v T
 | .gQ mx xs=>dk (eP mx (dM d xs)) λv=>K v T
 | .load n agg x=>dk (Z T.ah n agg (x.ev d)) λv=>K v T
 | .store n x v=>dk (qo T n (x.ev d) (v.ev d)) λT=>K (.ar []) T
 | .box mu n x=>hb (qp T mu n (x.ev d)) K
 | .alloc mu zero=>hb (some (oP T mu zero)) K
 | .gm mu sz len zero parts=>hb (qq T mu sz len zero (fc d parts)) K
 | .append mu sz bytes x y=>hb (qs T mu sz bytes (x.ev d) (y.ev d)) K
 | .make mu sz bytes zero len cap=>hb (oQ T mu sz bytes zero (len.ev d) (cap.ev d)) K
 | .copy sz x y=>hb (qt T sz (x.ev d) (y.ev d)) K
 | .gn=>K (.map T.n) (T.push (.map []))
 | .lookup kk zero ok m k=>dk (f_ T.ah kk zero ok (m.ev d) (k.ev d)) λv=>K v T
 | .gR kk m k v=>dk (qu T kk (m.ev d) (k.ev d) (v.ev d)) λT=>K (.ar []) T
 | .delete kk m k=>dk (tl T kk (m.ev d) (k.ev d)) λT=>K (.ar []) T
 | .gS m=>dk (kz T.ah (m.ev d)) λv=>K v T
 | .jn x=>dk (me (x.ev d)) λv=>K v T
 | .gT x=>dk (abstr T.ah (x.ev d)) λv=>K v T
 | .hx x=>hb (th T (x.ev d)) K
 | .hy x=>hb (tj T (x.ev d)) K
 | .call key args=>Φ key (dM d args) T K
 | .gU f args=>yS Φ (f.ev d) (dM d args) T K
 | .ext e xs=>hb (text T e (dM d xs)) K
 | .inv gV x args=>yT Φ gV (x.ev d) (dM d args) T K
def eA(Φ:ae)(B:db):Prop:=∀k args T (K:fm),B k args T K=true→∀Q:ad,(∀v a,K v a=true→Q v a.ah)→Φ k args T.ah Q
theorem D1{α:Type}{x:Option α}{K:α→Bool}{P:α→Prop}(h:dk x K=true)(b:∀a,K a=true→P a):Do x P:=by
 cases x with
 |none=>cases h
 |some a=>exact⟨a,rfl,b a h⟩
theorem jZ{x:Option (I×S)}{y:Option (I×AH)}(c:x.map vh=y)(h:hb x K=true)(d:∀v b,K v b=true→Q v b.ah):au y Q:=by
 cases x with
 |none=>cases h
 |some a=>subst c;exact⟨a.1,a.2.ah,rfl,d _ _ h⟩
theorem yU{x:Option S}{y:Option AH}{K:S→Bool}{P:AH→Prop}(c:x.map S.ah=y)(h:dk x K=true)(d:∀b,K b=true→P b.ah):Do y P:=by
 cases x with
 |none=>cases h
 |some a=>subst c;exact⟨a.ah,rfl,d _ h⟩
theorem yV{A B:Bool}{P Q:Prop}(h:oO v want A B=true)(a:A=true→P)(hB:B=true→Q):Gd v want P Q:=by
 cases v<;>first|cases h|skip
 rename_i b;simp only[oO]at h;unfold Gd;dsimp only;split
 ·rename_i e;subst e;simp at h;exact a h
 · rename_i e;have:(b ^^ want)=true:=by cases b<;>cases want<;>simp_all
   rw[this]at h;exact hB h
theorem tv(hB:eA Φ B){b:Env}{op:dj}(h:lC B b T K op=true)(a:∀v c,K v c=true→Q v c.ah):b4 Φ b T.ah Q op:=by
 cases op with
 |mv=>exact a _ _ h
 |pick=>exact yV h (a _ _) (a _ _)
 |gO=>exact a _ _ h
 |gl=>exact a _ _ h
 |gP=>exact a _ _ h
 |store=>exact yU (On _ _ _ _) h λ_ h=>a _ _ h
 |gR=>exact yU (Oy _ _ _ _ _) h λ_ h=>a _ _ h
 |delete=>exact yU (Oz _ _ _ _) h λ_ h=>a _ _ h
 |box=>exact jZ (Oo _ _ _ _) h a
 |alloc mu zero=>exact jZ (x:=some (oP T mu zero)) (by simp only[aae,DW]) h a
 |gm=>exact jZ (Oq _ _ _ _ _ _) h a
 |append=>exact jZ (Ot _ _ _ _ _ _) h a
 |make=>exact jZ (Ow _ _ _ _ _ _ _) h a
 |copy=>exact jZ (Ox _ _ _ _) h a
 |gn=>have:=a _ _ h;rw[S.Oj]at this;exact this
 |hx=>exact jZ (Ou _ _) h a
 |hy=>exact jZ (Ov _ _) h a
 |call key args=>exact hB _ _ _ _ h _ a
 | gU f args=>
  simp only[lC,yS]at h;split at h
  · rename_i key bE hf;exact⟨key,bE,hf,hB _ _ _ _ h _ a⟩
  ·cases h
 |ext=>exact jZ (Om _ _ _) h a
 | inv gV x args=>
  simp only[lC,yT]at h;split at h
  · rename_i t v d;split at h
    · rename_i r e;split at h
      · rename_i u hu;exact⟨t,v,r,u,d,e,hu,hB _ _ _ _ h _ a⟩
      ·cases h
    ·cases h
  ·cases h
 |_=>exact D1 h λ_ h=>a _ _ h
def qw(v:I)(want:Bool)(A B C:Bool):Bool:=
 match v with
 | .bool b=>bif acQ b want then B else A
 | .ar []=>C
 |_=>false
theorem D2{A B C:Bool}{P Q R:Prop}(h:qw v want A B C=true)(a:A=true→P)(hB:B=true→Q)(c:C=true→R):aM v want P Q R:=by
 unfold qw at h;unfold aM;split at h
 · rename_i b;dsimp only;split
   ·rename_i e;subst e;simp at h;exact a h
   · rename_i e;have:(b ^^ want)=true:=by cases b<;>cases want<;>simp_all
     rw[this]at h;exact hB h
 ·exact c h
 ·cases h
noncomputable section
def kM(Φ:db)(n:Nat):List br→EV→S→(EV→S→Bool)→Bool
 |[],E,T,K=>K E T
 | o :: r,E,T,K=>
  match o.guard with
  |none=>lC Φ [] T (λv a=>kM Φ n r (eM n E o.dst v) a K) (o.op.sub E)
  | some (s,want)=>
   qw (dm E s) want (lC Φ [] T (λv a=>kM Φ n r (eM n (ez n E s (.bool want)) o.dst v) a K) (o.op.sub (ez n E s (.bool want))))
    (kM Φ n r (eM n (ez n E s (.bool !want)) o.dst (.ar [])) T K) (kM Φ n r (eM n (ez n E s (.ar [])) o.dst (.ar [])) T K)
theorem yW(hB:eA Φ B):∀{l:List br}{E:EV}{T:S}{K:EV→S→Bool}{Q:jx},kM B n l E T K=true→(∀e b,K e b=true→Q e b.ah)→jy Φ n l E T.ah Q:=by
 intro l;induction l with
 |nil=>intro E T K Q h a;exact a _ _ h
 | cons o r c=>
  intro E T K Q h a;simp only[kM]at h;simp only[jy];cases f:o.guard with
  | none=>rw[f]at h;exact tv hB h (Q:=λv H'=>jy Φ n r (eM n E o.dst v) H' Q) λv b d=>c d a
  | some g=>obtain⟨s,want⟩:=g;rw[f]at h;exact D2 h (λh=>tv hB h (Q:=λv H'=>jy Φ n r (eM n (ez n E s (.bool want)) o.dst v) H' Q) λv b d=>c d a) (λh=>c h a) λh=>c h a
def nu(Φ:db)(n:Nat)(o:br)(E:EV)(T:S)(K:EV→S→Bool):Bool:=
 match o.guard with
 |none=>lC Φ [] T (λv a=>K (eM n E o.dst v) a) (o.op.sub E)
 | some (s,want)=>
  qw (dm E s) want (lC Φ [] T (λv a=>K (eM n (ez n E s (.bool want)) o.dst v) a) (o.op.sub (ez n E s (.bool want))))
   (K (eM n (ez n E s (.bool !want)) o.dst (.ar [])) T) (K (eM n (ez n E s (.ar [])) o.dst (.ar [])) T)
theorem D3(hB:eA Φ B){K:EV→S→Bool}{Q:jx}(h:nu B n o E T K=true)(a:∀e b,K e b=true→Q e b.ah):oR Φ n o E T.ah Q:=by
 unfold nu at h;unfold oR;cases d:o.guard with
 | none=>rw[d]at h;exact tv hB h (Q:=λv H'=>Q (eM n E o.dst v) H') λv b c=>a _ _ c
 | some g=>obtain⟨s,want⟩:=g;rw[d]at h;exact D2 h (λh=>tv hB h (Q:=λv H'=>Q (eM n (ez n E s (.bool want)) o.dst v) H') λv b c=>a _ _ c) (λh=>a _ _ h) λh=>a _ _ h
def nw(Φ:db)(n:Nat)(ops:List br):List Nat→EV→S→(EV→S→Bool)→Bool
 |[],E,T,K=>K E T
 | i::r,E,T,K=>match ops[i]? with
  |some o=>nu Φ n o E T λa b=>nw Φ n ops r a b K
  |none=>false
theorem D4(hB:eA Φ B):∀{l:List Nat}{E:EV}{T:S}{K:EV→S→Bool}{Q:jx},nw B n ops l E T K=true→(∀e a,K e a=true→Q e a.ah)→mo Φ n ops l E T.ah Q:=by
 intro l;induction l with
 |nil=>intro E T K Q h b;exact b _ _ h
 | cons i r d=>
  intro E T K Q h b;simp only[nw]at h;simp only[mo];cases c:ops[i]? with
  |none=>rw[c]at h;cases h
  | some o=>rw[c]at h;exact D3 hB h (Q:=λe H'=>mo Φ n ops r e H' Q) λe a f=>d f b
def kO(x:Option I)(d:I):Bool:=
 match x with
 |some v=>v.same d
 |none=>false
def yX(g:I)(want:Bool)(X:Bool):Bool:=
 match g with
 | .bool b=>bif acQ b want then true else X
 |_=>true
def oU(T:S)(E:EV)(o:br):Bool:=
 match o.op with
 | .load n agg x=>kO (Z T.ah n agg ((x.sub E).ev [])) (dm E (o.dst.getD 0))
 | .lookup kk zero ok m k=>kO (f_ T.ah kk zero ok ((m.sub E).ev []) ((k.sub E).ev [])) (dm E (o.dst.getD 0))
 | .gS m=>kO (kz T.ah ((m.sub E).ev [])) (dm E (o.dst.getD 0))
 | .gT x=>kO (abstr T.ah ((x.sub E).ev [])) (dm E (o.dst.getD 0))
 |_=>true
theorem OH{x:Option I}{d:I}(h:kO x d=true):x=some d:=by
 unfold kO at h;split at h
 ·rw[I.tf _ _ h]
 ·cases h
theorem D5(h:oU T E o=true):oS E T.ah o:=by unfold oU at h;unfold oS;cases a:o.op<;>rw[a]at h<;>first|trivial|exact OH h
def tw(T:S)(E:EV)(o:br):Bool:=
 match o.guard with
 |none=>oU T E o
 |some (s,want)=>yX (dm E s) want (oU T E o)
theorem OI(h:tw T E o=true):qv E T.ah o:=by
 unfold tw at h;unfold qv;cases a:o.guard with
 |none=>rw[a]at h;exact D5 h
 | some g=>obtain⟨s,want⟩:=g;rw[a]at h;dsimp only at h ⊢;intro hs;rw[hs]at h;simp only[yX,Bool.xor_self,cond_false]at h;exact D5 h
def oV(ops:List br)(E:EV)(T:S)(X:Bool):List Nat→Bool
 |[]=>X
 |l::r=>(match ops[l]? with|some o=>tw T E o|none=>true)&&oV ops E T X r
theorem OJ{X:Bool}(a:X=true→P):∀{l:List Nat},oV ops E T X l=true→tt ops E T.ah P l:=by
 intro l;induction l with
 |nil=>intro h;exact a h
 | cons i r b=>
  intro h;simp only[oV,Z3]at h;refine⟨?_,b h.2⟩;have h1:=h.1;cases c:ops[i]? with
  |none=>trivial
  |some o=>rw[c]at h1;exact OI h1
def oW(Φ:db)(n:Nat)(ops:List br)(a:List Nat):List (List Nat×Nat×List Nat)→EV→S→(EV→S→Bool)→Bool
 |[],E,T,K=>nw Φ n ops a E T K
 | (d,e,st)::r,E,T,K=>nw Φ n ops d E T λb f=>match ops[e]? with
  |some o=>nu Φ n o b f λg c=>oV ops b c (oW Φ n ops a r g c K) st
  |none=>false
theorem D6(hB:eA Φ B){b:List Nat}:∀{a_:List (List Nat×Nat×List Nat)}{E:EV}{T:S}{K:EV→S→Bool}{Q:jx},oW B n ops b a_ E T K=true→(∀e c,K e c=true→Q e c.ah)→oT Φ n ops b a_ E T.ah Q:=by
 intro a_;induction a_ with
 |nil=>intro E T K Q h a;exact D4 hB h a
 | cons p r f=>
  obtain⟨i,e,st⟩:=p;intro E T K Q h a;simp only[oW]at h;simp only[oT];refine D4 hB h λe1 j h1=>?_;cases d:ops[e]? with
  |none=>rw[d]at h1;cases h1
  | some o=>rw[d]at h1;exact D3 hB h1 λk l g=>OJ (λh=>f h a) g
def yY{a:Type}(F:a→(a→Bool)→Bool)(n:Nat):a→Bool:=acX (motive:=λ_=>a→Bool) (λ_=>false) (λ_ b s=>F s b) n
def D7(K:List I→S→Bool)(a:List I)(T:S):Bool:=K a T
def gy(Φ:db)(fuel:Nat)(n:Nat):eE→EV→S→(ea→EV→S→Bool)→Bool
 | .skip,E,T,Q=>Q .normal E T
 | .region ops,E,T,Q=>kM Φ n ops E T (Q .normal)
 | .draw ops _ a_ last,E,T,Q=>oW Φ n ops last a_ E T (Q .normal)
 | .seq a b,E,T,Q=>gy Φ fuel n a E T λe d c=>match e with
  | .normal=>gy Φ fuel n b d c Q
  |e=>Q e d c
 | .join vs ks a b,E,T,Q=>gy Φ fuel n a E T λe d c=>match e with
  | .normal=>D7 (λst f=>gy Φ fuel n b (ia n (jz n E ks) vs st) f Q) (hd d vs) c
  |e=>Q e d c
 | .cond x a b,E,T,Q=>oO ((x.sub E).ev []) true (gy Φ fuel n a E T Q) (gy Φ fuel n b E T Q)
 | .block id a,E,T,Q=>gy Φ fuel n a E T λe d c=>match e with
  | .exit g=>if g=id then Q .normal d c else Q (.exit g) d c
  |e=>Q e d c
 | .loop vs ks a,E,T,Q=>
  yY (λ(s:List I×S) (K:List I×S→Bool)=>
    gy Φ fuel n a (ia n (jz n E ks) vs s.1) s.2 λe d c=>match e with
     | .normal=>K (hd d vs,c)
     |e=>Q e d c) fuel (hd E vs,T)
 | .exit id,E,T,Q=>Q (.exit id) E T
 | .ret,E,T,Q=>Q .ret E T
 | .freeze t a,E,T,Q=>hb (ns T (dm E t)) λv c=>gy Φ fuel n a (ez n E t v) c Q
 | .gW vs ks ops b,E,T,Q=>kM Φ n ops E T λd c=>D7 (λst f=>gy Φ fuel n b (ia n (jz n E ks) vs st) f Q) (hd d vs) c
theorem OK(hB:eA Φ B):∀{c:eE}{E:EV}{T:S}{K:ea→EV→S→Bool}{Q:ea→EV→AH→Prop},gy B fuel n c E T K=true→(∀x e g,K x e g=true→Q x e g.ah)→eG Φ n c E T.ah Q:=by
 intro c;induction c with
 |skip=>intro E T K Q h d;exact d _ _ _ h
 |region ops=>intro E T K Q h d;exact yW hB h λ_ _ h=>d _ _ _ h
 |draw ops pr a_ last=>intro E T K Q h d;exact D6 hB h λ_ _ h=>d _ _ _ h
 | seq a b l o=>
  intro E T K Q h d;simp only[gy]at h;simp only[eG];refine l h λx e g f=>?_;cases x with
  |normal=>exact o f d
  |exit i=>exact d _ _ _ f
  |ret=>exact d _ _ _ f
 | join vs ks a b l o=>
  intro E T K Q h d;simp only[gy]at h;simp only[eG];refine l h λx e g f=>?_;cases x with
  |normal=>exact o f d
  |exit i=>exact d _ _ _ f
  |ret=>exact d _ _ _ f
 | cond x a b l o=>intro E T K Q h d;exact yV h (λh=>l h d) λh=>o h d
 | block id a k=>
  intro E T K Q h d;simp only[gy]at h;simp only[eG];refine k h λx e g f=>?_;cases x with
  |normal=>exact d _ _ _ f
  | exit i=>
   dsimp only at f ⊢;split
   ·rename_i hi;rw[af hi]at f;exact d _ _ _ f
   ·rename_i hi;rw[ak hi]at f;exact d _ _ _ f
  |ret=>exact d _ _ _ f
 | loop vs ks a k=>
  intro E T K Q h d;simp only[gy]at h;simp only[eG];have main : ∀(m:Nat)(s:List I×S),yY (λ(s:List I×S) (K':List I×S→Bool)=>
        gy B fuel n a (ia n (jz n E ks) vs s.1) s.2 λe j g=>match e with
         | .normal=>K' (hd j vs,g)
         |e=>K e j g) m s=true →
      av (λ(s:List I×AH) (K:List I×AH→Prop)=>
        eG Φ n a (ia n (jz n E ks) vs s.1) s.2 λe j H'=>match e with
         | .normal=>K (hd j vs,H')
         |e=>Q e j H') (s.1,s.2.ah):=by
    intro m;induction m with
    |zero=>intro s h;cases h
    | succ m p=>
     intro s h;refine av.step ?_;refine k (K:=λe j g=>match e with
         | .normal=>yY (λ(s:List I×S) (K':List I×S→Bool)=>
           gy B fuel n a (ia n (jz n E ks) vs s.1) s.2 λe j g=>match e with
            | .normal=>K' (hd j vs,g)
            |e=>K e j g) m (hd j vs,g)
         |e=>K e j g) h λx e g f=>?_
     cases x with
     |normal=>exact p _ f
     |exit i=>exact d _ _ _ f
     |ret=>exact d _ _ _ f
  exact main fuel _ h
 |exit id=>intro E T K Q h d;exact d _ _ _ h
 |ret=>intro E T K Q h d;exact d _ _ _ h
 | freeze t a k=>intro E T K Q h d;exact jZ (DX _ _) h λv g f=>k f d
 | gW vs ks ops b k=>intro E T K Q h d;exact yW hB h (Q:=λj H'=>G (λst q=>eG Φ n b (ia n (jz n E ks) vs st) q Q) (hd j vs) H') λe g f=>k f d
def oX(E:EV)(T:S):List iu→(List I→Bool)→Bool
 |[],K=>K []
 | .tmp t::r,K=>oX E T r λvs=>K (dm E t::vs)
 | .cell t n agg::r,K=>dk (Z T.ah n agg (dm E t)) λv=>oX E T r λvs=>K (v::vs)
theorem yZ:∀{rs:List iu}{K:List I→Bool}{P:List I→Prop},oX E T rs K=true→(∀vs,K vs=true→P vs)→nt E T.ah rs P:=by
 intro rs;induction rs with
 |nil=>intro K P h a;exact a _ h
 | cons r rs b=>
  intro K P h a;cases r with
  |tmp t=>exact b (K:=λvs=>K (dm E t::vs)) h λvs h=>a _ h
  |cell t n agg=>exact D1 h λv h=>b (K:=λvs=>K (v::vs)) h λvs h=>a _ h
def tx(Φ:db)(fuel:Nat)(f:aF)(args:List I)(T:S)(Q:fm):Bool:=
 gy Φ fuel f.ntmps f.body (lB args 0) T λe E a=>match e with
  | .exit _=>false
  |_=>oX E a f.results λvs=>Q (jU vs) a
def y0(Φ:db)(fuel:Nat)(f:aF)(args:List I)(T:S)(Q:fm):Bool:=and (acY args.length f.ntmps) (tx Φ fuel f args T Q)
theorem OL(hB:eA Φ B){f:aF}{args:List I}(h:y0 B fuel f args T K=true)(c:∀v a,K v a=true→Q v a.ah):yR Φ f args T.ah Q:=by
 simp only[y0,tx,Z3]at h;refine⟨acZ h.1,OK hB h.2 λx e a b=>?_⟩;cases x with
 |normal=>exact yZ b λvs h=>c _ _ h
 |exit i=>cases b
 |ret=>exact yZ b λvs h=>c _ _ h
end
end Rb

namespace Rb
open Go
variable{Φ:ae}{T:ha}{k:Nat}{f:aF}{args:List I}{H:AH}{Q:ad}
structure Cl(Φ:ae)(T:ha):Prop where
 mono:h8 Φ
 run:∀k f,T.get k=some f→∀args H Q,yR Φ f args H Q→Φ k args H Q
theorem Cl.of(a:h8 Φ)(h:nn Φ T):Cl Φ T:=⟨a,λk f hk args H Q hs=>h k f hk args H Q (OG a hs)⟩
theorem Cl.app{T U:ha}(hT:Cl Φ T)(a:Cl Φ U):Cl Φ (T++U):=by
 refine⟨hT.mono,λk f h args H Q hs=>?_⟩;have key:∀(T:ha),(T++U).lookup k=some f→T.lookup k=some f∨U.lookup k=some f:=by
  intro T;induction T with
  |nil=>intro h;exact .inr h
  | cons p T b=>
   intro h;obtain⟨k',c⟩:=p;rw[abV,acK]at h;rw[acK];split at h
   ·exact .inl h
   ·exact b h
 rcases key T h with h|h
 ·exact hT.run k f h args H Q hs
 ·exact a.run k f h args H Q hs
theorem Cl.call(hT:Cl Φ T)(a:T.get k=some f)(b:acY args.length f.ntmps=true)(h:yQ Φ f args H Q):Φ k args H Q:=hT.run k f a args H Q ⟨acZ b,h⟩
abbrev a:=List I→AH→Prop
abbrev ST:=List I×AH
abbrev LT:=ST→Prop
abbrev BT:=ST→LT→Prop
theorem Cl.c(hT:Cl Φ T){k:Nat}{P:Prop}(h:P)(e:yQ Φ f args H Q=P:=by kernel_rfl)(hk:T.get k=some f:=by kernel_rfl)(a:acY args.length f.ntmps=true:=by kernel_rfl):Φ k args H Q:=hT.call hk a (e.mpr h)
end Rb

namespace Rb
open Go
variable{Φ:ae}{B:db}{key k:Nat}{Q:ad}{T0:ha}
def Tok.free:Tok→Bool
 | .own _=>false
 |_=>true
mutual
def I.bh:I→Bool
 | .bool _ | .int _ _ | .str _ | .dx | .eO | .fB | .fC=>true
 | .aj cs=>I.bF cs
 | .ab tk _ cs=>tk.free&&I.bF cs
 | .fn _ cs=>I.bF cs
 | .iface _ v=>I.bh v
 | .agg cs=>I.bF cs
 | .ar cs=>I.bF cs
 |_=>false
def I.bF:List I→Bool
 |[]=>true
 |c::r=>I.bh c&&I.bF r
end
theorem kP:∀{cs:List I},I.bF cs=cs.all I.bh
 |[]=>rfl
 |c::r=>by simp only[I.bF,acM,kP (cs:=r)]
theorem mq{cs:List I}(h:I.bF cs=true)(j:Nat)(c:I)(hc:cs[j]?=some c):c.bh=true:=by rw[kP,aaW]at h;exact h c (acN hc)
theorem oY{F:cJ}{w w':World}{G G':bj}(l:∀b o,G.fz b o→G'.fz b o)(hc:∀b o V,G.fz b o→w.cell? ⟨b,o,none⟩=some V→w'.cell? ⟨b,o,none⟩=some V){c:I}{V:Value}(hf:c.bh=true)(h:R F w G c V):R F w' G' c V:=by
 induction h with
 |bot=>simp[I.bh]at hf
 |bool b=>exact .bool b
 |int k n=>exact .int k n
 |str s=>exact .str s
 |dx=>exact .dx
 |ptr=>simp[I.bh]at hf
 | aj cells b o Vs h hv d=>simp only[I.bh]at hf;exact .aj cells b o Vs (λj c e=>⟨l _ _ (h j c e).1,hc _ _ _ (h j c e).1 (h j c e).2⟩) λj c e=>d j c e (mq hf j c e)
 |eI=>exact .eI
 |eJ a cap=>exact .eJ a cap
 | ab tk len cells b o cap Vs ht hle h hv d=>
  simp only[I.bh,Z3]at hf;refine .ab tk len cells b o cap Vs ?_ hle (λj c e=>⟨l _ _ (h j c e).1,hc _ _ _ (h j c e).1 (h j c e).2⟩) λj c e=>d j c e (mq hf.2 j c e);cases tk with
  |own t=>simp[Tok.free]at hf
  |nil=>exact ht
  |full=>exact ht
  |dead=>exact ht
 |row=>simp[I.bh]at hf
 |map=>simp[I.bh]at hf
 |eO=>exact .eO
 | fn key bE f Vs hk i hl hv d=>simp only[I.bh]at hf;exact .fn key bE f Vs hk i hl λj c V hc g=>d j c V hc g (mq hf j c hc)
 | kr key k bE f Vs hk i hl hv d=>simp only[I.bh]at hf;exact .kr key k bE f Vs hk i hl λj c V hc g=>d j c V hc g (mq hf j c hc)
 |fB=>exact .fB
 |iface t v V h d=>exact .iface t v V (d (by simpa[I.bh]using hf))
 |fC=>exact .fC
 | agg cs Vs hl hv d=>simp only[I.bh]at hf;exact .agg cs Vs hl λj c V hc g=>d j c V hc g (mq hf j c hc)
 | ar cs Vs hl hv d=>simp only[I.bh]at hf;exact .ar cs Vs hl λj c V hc g=>d j c V hc g (mq hf j c hc)
def bT(C:Ctx):Prop:=∀g l,C.GT g=some l→I.bF l=true
theorem b7.tz{C:Ctx}(aq:bT C){args:List I}(h:b7 C key args AH.mt Q)(A:I.bF args=true)(H:AH)(K:ad)(t:∀v H',Q v H'→v.bh=true∧K v H):b7 C key args H K:=by
 refine⟨by obtain⟨v,H',B⟩:=h.1;exact⟨v,H,(t v H' B).2⟩,λf hf G w Vs u a x=>?_⟩;have D:Rel C.F w (bj.mt G.fz) AH.mt:=Rel.mt a.e2;have E:aP C.F w (bj.mt G.fz) args Vs:=⟨x.1,λj c V hc q=>oY (G:=G) (G':=bj.mt G.fz) (w:=w) (λ_ _ h=>h) (λ_ _ _ _ h=>h) (mq A j c hc) (x.2 j c V hc q)⟩
 have J:iv C w (bj.mt G.fz):=λg l m=>oY (G:=G) (G':=bj.mt G.fz) (w:=w) (λ_ _ h=>h) (λ_ _ _ _ h=>h) (by simp only[I.bh];exact aq g l m) (u.1 g l m);refine acb (h.2 f hf _ w Vs (u.mt J λi hi=>by cases hi) D E) λe w' he=>?_;obtain⟨V,v,H',G',rfl,L,hv,M,d⟩:=he;obtain⟨N,O⟩:=t v H' L;have r:=d.below;have y:∀b o,G'.fz b o→G.fz b o∨w.heap.size≤b:=by
  intro b o P;rcases d.e3 b o P with h|h|⟨i,hi,_⟩
  ·exact .inl h
  ·exact .inr h
  ·cases hi
 let s:bj:={G with fz:=λb o=>G.fz b o∨G'.fz b o}
 have z:∀b o V,G.fz b o→w.cell? ⟨b,o,none⟩=some V→w'.cell? ⟨b,o,none⟩=some V:=λb o V hf hc=>by rw[aaF (w:=w) (r.block b (aaG w _ hc))];exact hc
 have m:GLe w G w' s:=⟨np _,λ_ _=>rfl,λ_ _=>rfl,λ_ _ h=> .inl h,z⟩
 refine⟨V,v,H,s,rfl,O,oY (G:=G') (G':=s) (w:=w') (λ_ _ h=>Or.inr h) (λ_ _ _ _ h=>h) N hv,⟨a.n,a.over,λj=>(a.obj j).aO m (λhl=>a.gX hl) (λhl=>r.block _ ((a.obj j).lt hl)) λhl o p=>?_,a.eZ,λb o hf=>?_⟩,?_⟩
 · rcases p with p|p
   ·exact p
   · rcases y _ _ p with h|h
     ·exact h
     ·exact absurd ((a.obj j).lt hl) (by omega)
 · rcases hf with hf|hf
   · obtain⟨V,q⟩:=a.e2 b o hf;exact⟨V,z b o V hf q⟩
   ·exact M.e2 b o hf
 · exact {m with
     size:=d.size,os:=d.os,tape:=d.tape,output:=d.output,dr:=d.dr,dE:=λk hk _=>r.block k hk,owned:=λi hi _=>⟨i,hi,rfl⟩
     e3:=λb o hf=>by
      rcases hf with hf|hf
      ·exact .inl hf
      · rcases y b o hf with h|h
        ·exact .inl h
        ·exact .inr (.inl h)}
abbrev oZ:=Nat→List I→Option I
def gz(Φ:ae)(M:oZ):Prop:=∀k args v,M k args=some v→∀(H:AH)(Q:ad),Q v H→Φ k args H Q
noncomputable section
def y1(M:oZ)(a:db→db)(d:Nat):db:=acX (motive:=λ_=>db) (λ_ _ _ _=>false) (λ_ b k args T Q=>match M k args with
  |some v=>Q v T
  |none=>a b k args T Q) d
def y2(Φ:ae)(a:db→db):Prop:=∀B,eA Φ B→eA Φ (a B)
theorem OM{M:oZ}{a:db→db}(c:gz Φ M)(e:y2 Φ a):∀d,eA Φ (y1 M a d):=by
 intro d;induction d with
 |zero=>intro k args T K h;cases h
 | succ d f=>
  intro k args T K h Q b;change (match M k args with
    |some v=>K v T
    |none=>a (y1 M a d) k args T K)=true at h
  split at h
  · rename_i v hv;exact c k args v hv _ _ (b _ _ h)
  ·exact e _ f k args T K h Q b
theorem ON(hB:eA Φ B){args:List I}{K:I→Bool}(h:B k args S.mt (λv _=>K v)=true):Φ k args AH.mt (λv _=>K v=true):=by have:=hB k args S.mt _ h (λv _=>K v=true) (λv a h=>h);rwa [S.Ol]at this
theorem eA.fn(hT:Cl Φ T0)(hB:eA Φ B){fuel:Nat}{f:aF}{args:List I}(b:T0.get k=some f)(c:acY args.length f.ntmps=true){T:S}{K:fm}(h:tx B fuel f args T K=true)(d:∀v a,K v a=true→Q v a.ah):Φ k args T.ah Q:=hT.run k f b args T.ah Q (OL hB (fuel:=fuel) (by simp only[y0,c,h,ac0]) d)
theorem eA.node{F G:db}(m:Nat)(d:eA Φ F)(e:eA Φ G):eA Φ (λk a T K=>cond (acT k m) (F k a T K) (G k a T K)):=by
 intro k a T K h Q b;dsimp only at h;cases c:acT k m with
 |true=>rw[c]at h;exact d k a T K h Q b
 |false=>rw[c]at h;exact e k a T K h Q b
theorem eA.leaf(hT:Cl Φ T0)(hB:eA Φ B){n m:Nat}{b:aF}(d:T0.get key=some b){F:List I→S→fm→Bool}(e:acY m b.ntmps=true)
  (f:∀a T K,F a T K=true→a.length=m∧tx B n b a T K=true):eA Φ (λk a T K=>cond (acO k key) (F a T K) false):=by
 intro k a T K h Q g;dsimp only at h;cases c:acO k key with
 |false=>rw[c]at h;cases h
 | true=>rw[c]at h;obtain rfl:=ac1 c;obtain⟨h1,i⟩:=f a T K h;exact eA.fn hT hB (fuel:=n) d (by rw[h1];exact e) i g
end
end Rb

namespace Rb
open Go
structure Hint where
 dz:Nat
 iT:List Nat
 loops:List (List Nat)
 fz:Option Nat
 fj:List TypeId:=[]
 kQ:List (Nat×List Nat):=[]
def gA(t:Nat):List Nat→Bool
 |[]=>false
 |s::r=>cond (acO t s) true (gA t r)
def D8:List Nat→List Nat→Bool
 |[],_=>true
 |t::r,l=>cond (gA t l) (D8 r l) false
def y5(t:Nat)(l:List Nat):List Nat:=cond (gA t l) l (t::l)
def D9:List Nat→List Nat→List Nat
 |[],l=>l
 |t::r,l=>D9 r (y5 t l)
def y7:List Nat→List Nat→List Nat
 |[],_=>[]
 |t::r,l=>cond (gA t l) (y7 r l) (y5 t (y7 r l))
def tA:Value→I
 | .bool b=> .bool b
 | .int k n=> .int k n
 | .string s=> .str s.data.toList
 | .pointer none=> .dx
 | .map none=> .eO
 | .nilFunc=> .fB
 | .nilIface=> .fC
 | .slice none _ _=> .ab .nil 0 []
 |_=> .bot
def D_:Value→I
 | .agg Vs=> .agg (Vs.toList.map tA)
 | .tuple Vs=> .ar (Vs.toList.map tA)
 |V=>tA V
def y8:aT:= .k .bot
def fO:dj:= .ext .stuck []
def bL(C:Ctx):Operand→aT
 | .tmp t=> .t t
 | .const v=> .k (D_ v)
 | .global g=>match C.GT g with|some l=> .k (.aj l)|none=>y8
 | .func f=>cond (iS C.P f) (.k (.fn f [])) y8
def Ea (fs : List Field) : Bool := match fs with | [a, b] => a.name == "addr" && b.name == "buf" | _ => false
def Eb(P:Program)(t:TypeId):Bool:=
 match P.underlying t with
 |some (.struct fs)=>Ea fs.toList||(match fs.toList with|[f]=>(match P.underlying f.type with|some (.struct gs)=>Ea gs.toList|_=>false)|_=>false)
 |_=>false
def Ec:Operand→Bool
 | .const v=>(match v with | .pointer none | .slice none 0 0 | .map none | .nilFunc | .nilIface=>true|_=>false)
 |_=>false
def gB(P:Program)(t:TypeId):Nat:=match P.info? t with|some i=>i.size|none=>0
def y9(P:Program)(t:TypeId):Nat:=match P.info? t with|some i=>i.bytes|none=>0
def Ed(P:Program)(t:TypeId):Value:=match P.info? t with|some i=>(match i.zero with|some z=>z|none=> .nilIface)|none=> .nilIface
def o0(P:Program)(t:TypeId):List I:=(Ed P t).cells.toList.map tA
def qx(P:Program)(t:TypeId):Bool:=match P.underlying t with|some d=>hA d|none=>false
def hI(P:Program)(t:TypeId):TypeId:=match P.underlying t with|some (.slice e)=>e|some (.array _ e)=>e|some (.map _ e)=>e|_=>0
def tB(P:Program)(t:TypeId):FK:=match P.underlying t with
 |some (.map kt _)=>(match P.underlying kt with|some .bool=> .b|some .string=> .t|_=> .n)
 |_=> .n
def j0(C:Ctx)(name:String):List TypeId→List (TypeId×Nat×Option (Nat×Bool))
 |[]=>[]
 | t :: r=>(match C.P.info? t with
   | some i=>(match i.methods.find? (·.name==name)with
     | some mt=>(match mt.func,C.P.underlying t with
       |some (f,true),some (.pointer _)=>(t,f,none)::j0 C name r
       |some (f,false),some (.pointer e)=>(t,f,some (gB C.P e,qx C.P e))::j0 C name r
       |_,_=>j0 C name r)
     |none=>j0 C name r)
   |none=>j0 C name r)
def OO(P:Program)(t:TypeId):Bool:=match P.underlying t with|some (.int _)=>true|_=>false
def OP(C:Ctx)(fj:List TypeId)(mu:Bool)(c:Call):dj:=
 match c.callee with
 | .value (.func f)=>cond (iS C.P f) (.call f (c.args.toList.map (bL C))) fO
 | .value f=> .gU (bL C f) (c.args.toList.map (bL C))
 | .builtin b=>
  match c.args.toList.map (bL C),c.argTypes.toList with
  | [x],[t]=>(match b with
    | .len=>(match C.P.underlying t with|some .string=> .len true x|some (.slice _)=> .len false x|some (.array n _)=> .gP n|some (.map _ _)=> .gS x|_=>fO)
    | .cap=> .cap x
    | .max=> .gQ true [x]
    | .min=> .gQ false [x]
    | .clear=> .ext (.clear (gB C.P (hI C.P t)) (o0 C.P (hI C.P t))) [x]
    |_=>fO)
  | [x,y],t::_=>(match b with
    | .append=>cond (OO C.P (c.argTypes.toList.tail.headD 0)) (.ext (.grow (gB C.P (hI C.P t)) (y9 C.P (hI C.P t)) (o0 C.P (hI C.P t))) [x,y]) <| .append mu (gB C.P (hI C.P t)) (y9 C.P (hI C.P t)) x y
    | .delete=> .delete (tB C.P t) x y
    | .copy=> .copy (gB C.P (hI C.P t)) x y
    | .max=> .gQ true [x,y]
    | .min=> .gQ false [x,y]
    |_=>fO)
  | xs,_=>(match b with
    | .max=> .gQ true xs
    | .min=> .gQ false xs
    |_=>fO)
 | .invoke x name=> .inv (j0 C name fj) (bL C x) (c.args.toList.map (bL C))
def OQ(C:Ctx)(fj:List TypeId)(mu:Bool):Op→dj
 | .move x=> .mv (bL C x)
 | .assign x=> .mv (bL C x)
 | .pick c a b=> .pick (bL C c) (bL C a) (bL C b)
 | .binOp op t x y _=>
  match op,C.P.underlying t with
  | .eql,some d=>(match oo d,d with
    |some k,_=>cond (Ec y) (.iP k false (bL C x)) (match k with | .p=> .ext (.mf false) [bL C x,bL C y]|_=>fO)
    |none,.bool=> .beq false (bL C x) (bL C y)
    |none,.array _ _=>(match kI C.P 9 t with|some l=> .h5 false l (bL C x) (bL C y)|none=>fO)
    |none,.struct _=>(match kI C.P 9 t with|some l=> .h5 false l (bL C x) (bL C y)|none=>fO)
    |none,_=> .bin op (bL C x) (bL C y))
  | .neq,some d=>(match oo d,d with
    |some k,_=>cond (Ec y) (.iP k true (bL C x)) (match k with | .p=> .ext (.mf true) [bL C x,bL C y]|_=>fO)
    |none,.bool=> .beq true (bL C x) (bL C y)
    |none,.array _ _=>(match kI C.P 9 t with|some l=> .h5 true l (bL C x) (bL C y)|none=>fO)
    |none,.struct _=>(match kI C.P 9 t with|some l=> .h5 true l (bL C x) (bL C y)|none=>fO)
    |none,_=> .bin op (bL C x) (bL C y))
  |op,_=> .bin op (bL C x) (bL C y)
 | .unOp op _ x=> .un op (bL C x)
 | .convert s d x=>
  match C.P.underlying s,C.P.underlying d with
  |some .string,some .string=> .same (bL C x)
  |some .string,some (.slice _)=> .jn (bL C x)
  |some (.slice _),some .string=> .gT (bL C x)
  |_,some (.int k)=> .conv k (bL C x)
  |_,_=>fO
 | .nilCheck x=> .jk (bL C x)
 | .field t x n=>(match oA C.P t n with|some f=> .field f.offset (gB C.P f.type) (qx C.P f.type) (bL C x)|none=>fO)
 | .fieldAddr t x n=>(match oA C.P t n with|some f=> .jl f.offset (bL C x)|none=>fO)
 | .index t x i=>(match C.P.underlying t with
   |some .string=> .idxs (bL C x) (bL C i)
   |some (.array n e)=> .idx n (gB C.P e) (qx C.P e) (bL C x) (bL C i)
   |_=>fO)
 | .indexAddr t x i=>(match C.P.underlying t with
   |some (.slice e)=> .iQ none (gB C.P e) (bL C x) (bL C i)
   |some (.array n e)=> .iQ (some n) (gB C.P e) (bL C x) (bL C i)
   |_=>fO)
 | .slice t x lo hi mx=>(match C.P.underlying t with
   |some .string=> .jm (bL C x) (lo.map (bL C)) (hi.map (bL C))
   |some (.slice e)=> .slice (gB C.P e) (bL C x) (lo.map (bL C)) (hi.map (bL C)) (mx.map (bL C))
   |_=>fO)
 | .makeInterface t x=> .gO t (bL C x)
 | .makeFunc (.func f) first bE=>cond (iS C.P f) (match first.toList with
   |[]=> .gl f (bE.toList.map (bL C))
   |l=> .gl (f+1048576) (l.map (bL C))) fO
 | .extract x i=> .extract i (bL C x)
 | .build t g=> .build (o0 C.P t) (g.toList.map λp=>match placeOf C.P t p.1 with|some (o,s)=>(o,s,bL C p.2)|none=>(0,0,y8))
 | .buildSlice t len g=> .gm mu (gB C.P (hI C.P t)) len (o0 C.P (hI C.P t)) (g.toList.map λp=>(p.1*gB C.P (hI C.P t),gB C.P (hI C.P t),bL C p.2))
 | .load t x=> .load (gB C.P t) (qx C.P t) (bL C x)
 | .store t x v=> .store (gB C.P t) (bL C x) (bL C v)
 | .box t x=>cond (Eb C.P t) (.ext (.jT t) [bL C x]) (.box mu (gB C.P t) (bL C x))
 | .alloc t=>cond (Eb C.P t) (.ext (.jT t) []) (.alloc mu (o0 C.P t))
 | .makeSlice t l c=> .make mu (gB C.P (hI C.P t)) (y9 C.P (hI C.P t)) (o0 C.P (hI C.P t)) (bL C l) (bL C c)
 | .range _ x=> .hx (bL C x)
 | .next x true=> .hy (bL C x)
 | .makeMap _ _=> .gn
 | .lookup t m k ok=> .lookup (tB C.P t) (D_ (Ed C.P (hI C.P t))) ok (bL C m) (bL C k)
 | .mapUpdate t m k v=> .gR (tB C.P t) (bL C m) (bL C k) (bL C v)
 | .insert t m k v=> .gR (tB C.P t) (bL C m) (bL C k) (bL C v)
 | .typeAssert x _ t ok=>cond ok fO (.ext (.kB t) [bL C x])
 | .call c=>OP C fj mu c
 |_=>fO
def Ee:List Oper→Nat→Option Nat
 |[],_=>none
 |o::r,i=>match i with|0=>o.dst|i+1=>Ee r i
def y_(C:Ctx)(fj:List TypeId)(iT:List Nat)(a:List Oper):List Oper→List br
 |[]=>[]
 |o::r=>⟨o.dst,OQ C fj (match o.dst with|some d=>gA d iT|none=>false) o.op,match o.guard with|some (j,want)=>(match Ee a j with|some s=>some (s,want)|none=>none)|none=>none⟩::y_ C fj iT a r
def za:List Edge→List Nat
 |[]=>[]
 |e::r=>cond (acq .any e) (y5 e.on (za r)) (za r)
def Ef:List (List Nat)→Nat→List Nat
 |[],_=>[]
 |l::r,i=>match i with|0=>l|i+1=>Ef r i
def Eg:List (List Nat)→List Nat→List Nat→List Nat
 |pr,acc,[]=>acc
 |pr,acc,e::r=>Eg pr (D9 (Ef pr e) acc) r
def Eh:List (List Nat)→List Oper→List (List Nat)
 |pr,[]=>pr
 |pr,o::r=>let es:=za o.after.toList;Eh (pr++[Eg pr es es]) r
structure DR where
 i:Nat
 pr:List Nat
 k:Nat
 al:Bool
def Ei(ops:List br)(pr:List (List Nat)):Nat→List br→List (List Nat)→List DR
 |i,o::r,p::q=>⟨i,p,cond (e6 o.op) 2 (cond (eL o.op) 1 0),fe ops pr i⟩::Ei ops pr (i+1) r q
 |_,_,_=>[]
def o3:List DR→List Nat→List Nat→List Nat×List Nat
 |[],done,out=>(done,out.reverse)
 |d::r,done,out=>cond (acO d.k 0) (o3 r done out) (cond (gA d.i done) (o3 r done out) (cond (D8 d.pr done) (o3 r (d.i::done) (d.i::out)) (o3 r done out)))
def qy:List DR→List Nat→List Nat→List DR
 |[],_,_=>[]
 |d::r,pr,seq=>cond d.al (cond (gA d.i pr) (cond (gA d.i seq) (qy r pr seq) (d::qy r pr seq)) (qy r pr seq)) (qy r pr seq)
def tC(b:List DR):List DR→List Nat→List DR
 |[],seq=>b.filter λd=>d.al&&!gA d.i seq
 |d::r,seq=>cond (acO d.k 0) (cond d.al (tC b r seq) (let a:=qy b d.pr seq;a++d::tC b r (d.i::(a.map DR.i++seq)))) (tC b r seq)
def qz:List DR→List Nat→List Nat→List Nat
 |[],_,_=>[]
 |d::r,done,pr=>cond (acO d.k 1) (cond (gA d.i done) (cond (gA d.i pr) (qz r done pr) (d.i::qz r done pr)) (qz r done pr)) (qz r done pr)
def Ej(a:List DR):List DR→List Nat→List (List Nat×Nat×List Nat)×List Nat
 |[],done=>([],(o3 a done []).2)
 |e::r,done=>let s:=o3 a done [];let q:=Ej a r (e.i::s.1);((s.2,e.i,qz a s.1 e.pr)::q.1,q.2)
def OR(ops:List Oper)(al:List br):eE:=
 let pr:=Eh [] ops;let ds:=Ei al pr 0 al pr;let p:=Ej ds (tC ds ds []) []
 .draw al pr p.1 p.2
def OS(t:Nat)(o:br):Bool:=match o.op with | .mv (.t s)=>acO s t|_=>false
def isDst(l:List Nat)(o:br):Bool:=match o.dst with|some d=>gA d l|none=>false
def zb:List (Nat×List Nat)→Nat→List Nat
 |[],_=>[]
 |(i,l)::r,id=>cond (acO i id) l (zb r id)
def zc:List Nat→eE→eE
 |[],c=>c
 |t::r,c=> .freeze t (zc r c)
def ny(C:Ctx)(fj:List TypeId)(iT:List Nat)(fz:Option Nat)(kQ:List (Nat×List Nat))(d:List Nat):Code→List (List Nat)→eE×List (List Nat)
 | .skip,h=>(.skip,h)
 | .region id ops false,h=>
  let al:=y_ C fj iT ops.toList ops.toList
  (zc (zb kQ id) (match fz with
    |none=> .region al
    |some t=>cond (al.any (OS t)&&al.any (isDst d)) (.freeze t (.region al)) (.region al)),h)
 | .region id ops true,h=>(zc (zb kQ id) (OR ops.toList (y_ C fj iT ops.toList ops.toList)),h)
 | .seq a b,h=>let p:=ny C fj iT fz kQ d a h;let q:=ny C fj iT fz kQ d b p.2;(.seq p.1 q.1,q.2)
 | .cond c a b,h=>let p:=ny C fj iT fz kQ d a h;let q:=ny C fj iT fz kQ d b p.2;(.cond (bL C c) p.1 q.1,q.2)
 | .block id a,h=>let p:=ny C fj iT fz kQ d a h;(.block id p.1,p.2)
 | .loop a,h=>let p:=ny C fj iT fz kQ d a h.tail;(.loop (h.headD []) (y7 (eb p.1) (h.headD [])) p.1,p.2)
 | .exit id,h=>(.exit id,h)
 | .ret,h=>(.ret,h)
 |_,h=>(.exit 0,h)
def zd:List ResultVar→List Nat
 |[]=>[]
 | .tmp t::r=>t::zd r
 | .cell t _::r=>t::zd r
def ze(P:Program):List ResultVar→List iu
 |[]=>[]
 | .tmp t::r=> .tmp t::ze P r
 | .cell t ty::r=> .cell t (gB P ty) (qx P ty)::ze P r
def A(C:Ctx)(h:Hint):aF:=
 match C.P.funcs[h.dz]? with
 |some fn=>⟨fn.ntmps,ze C.P fn.results.toList,match fn.body with|some c=>(ny C h.fj h.iT h.fz h.kQ (zd fn.results.toList) c h.loops).1|none=> .skip⟩
 |none=>⟨0,[],.exit 0⟩
def lD(P:Program)(a:Nat→Option (List I)):Ctx:=⟨P,λk=>cond (iS P k) (some k) none,a⟩
theorem Ek(P:Program)(b:Nat→Option (List I)):jt (lD P b):=by
 intro key f hf;simp only[lD]at hf;cases a:iS P key with
 |true=>rw[a]at hf;simp only[cond_true,aad.injEq]at hf;subst hf;exact a
 |false=>rw[a]at hf;cases hf
def hg(C:Ctx):List Hint→Bool
 |[]=>true
 |h::r=>and (oN C h.dz (A C h)) (hg C r)
theorem Em{C:Ctx}:∀{L:List Hint},hg C L=true→∀h,h∈L→oN C h.dz (A C h)=true
 |[],_,h,hm=>by cases hm
 | p::r,hc,h,hm=>by
  simp only[hg,Z3]at hc;rcases acm.1 hm with rfl|hm
  ·exact hc.1
  ·exact Em hc.2 h hm
theorem nz{C:Ctx}:∀{L M:List Hint},hg C L=true→hg C M=true→hg C (L++M)=true
 |[],_,_,h=>h
 | p::r,M,hc,h=>by simp only[hg,Z3]at hc;simp only[abV,hg,Z3];exact⟨hc.1,nz hc.2 h⟩
end Rb

namespace Rb
open Go
noncomputable section
theorem nb(a b:Nat):acO a b=decide (a=b):=by rw[acj];simp
theorem nl(a b:Nat):acT a b=decide (a<b):=by rw[acj];simp[acT];omega
theorem ne'(a b:Nat):acY a b=decide (a≤b):=by rw[acj];simp
def mr{α β:Type}(f:α→β)(a:α):β:=f a
def zf{α:Type}(l:List α):Nat→Option α:=acS (motive:=λ_=>Nat→Option α) (λ_=>none) (λx _ a n=>acX (motive:=λ_=>Option α) (some x) (λm _=>mr a m) n) l
theorem zg{α:Type}:∀(l:List α)(n:Nat),zf l n=l[n]?
 |[],n=>by cases n<;>rfl
 |x::r,0=>rfl
 |x::r,n+1=>by rw[List.getElem?_cons_succ,←zg r n];rfl
def tD{α:Type}(n:Nat):List α→List α:=acX (motive:=λ_=>List α→List α) (λl=>l) (λ_ a l=>acS (motive:=λ_=>List α) [] (λ_ t _=>mr a t) l) n
theorem qA{α:Type}:∀(n:Nat)(l:List α),tD n l=l.drop n
 |0,l=>rfl
 |n+1,[]=>rfl
 |n+1,x::r=>by rw[ac2,←qA n r];rfl
def zh{α:Type}(n:Nat):List α→Bool:=acX (motive:=λ_=>List α→Bool) (λ_=>true) (λ_ a l=>acS (motive:=λ_=>Bool) false (λ_ t _=>mr a t) l) n
theorem zi{α:Type}:∀(n:Nat)(l:List α),zh n l=decide (n≤l.length)
 |0,l=>by simp;rfl
 |n+1,[]=>by simp;rfl
 |n+1,x::r=>by rw[List.length_cons,show decide (n+1≤r.length+1)=decide (n≤r.length) by simp,←zi n r];rfl
def kN:IntKind→Nat
 | .i8=>0 | .i16=>1 | .i32=>2 | .i64=>3 | .u8=>4 | .u16=>5 | .u32=>6 | .u64=>7
def zj(k k':IntKind):Bool:=acO (kN k) (kN k')
theorem OT{k k':IntKind}(h:zj k k'=true):k=k':=by revert h;cases k<;>cases k'<;>decide
def lim:IntKind→Nat
 | .i8=>128 | .i16=>32768 | .i32=>2147483648 | .i64=>9223372036854775808 | .u8=>256 | .u16=>65536 | .u32=>4294967296 | .u64=>18446744073709551616
theorem o4{k:IntKind}{m:Nat}(h:m<lim k):k.wrap (ac3 m)=ac3 m:=by have hm:(ac3 m)=(m:Int):=rfl;rw[hm];cases k<;>simp only[lim]at h<;>simp only[aa8,aaa,Z_]<;>simp<;>omega
def asNat(v:I)(d:Option I)(f:IntKind→Nat→Option I):Option I:=
 match v with
 | .int k n=>(match n with | .ofNat m=>f k m | .negSucc _=>d)
 |_=>d
theorem o5{v:I}{d:Option I}{f:IntKind→Nat→Option I}(h:∀k m,v = .int k (.ofNat m)→f k m=d):asNat v d f=d:=by
 unfold asNat;split
 · split
   ·exact h _ _ rfl
   ·rfl
 ·rfl
def ib(g:IntKind→Nat→Nat→Option I→Option I)(s:Option I)(x y:I):Option I:=asNat x s λk a=>asNat y s λk' b=>cond (zj k k') (g k a b s) s
theorem OU{g:IntKind→Nat→Nat→Option I→Option I}{op:BinOp}(c:∀k a b,g k a b (cg op k (.ofNat a) k (.ofNat b))=cg op k (.ofNat a) k (.ofNat b))(x y:I):ib g (M op x y) x y=M op x y:=by
 refine o5 λk a d=>o5 λk' b e=>?_;subst d e;cases h:zj k k' with
 |false=>rfl
 | true=>obtain rfl:=OT h;exact c k a b
def zk(k:IntKind)(a b:Nat)(s:Option I):Option I:=cond (acT (ac4 a b) (lim k)) (some (.int k (.ofNat (ac4 a b)))) s
def zl(k:IntKind)(a b:Nat)(s:Option I):Option I:=cond (and (acY b a) (acT a (lim k))) (some (.int k (.ofNat (ac5 a b)))) s
def zm(k:IntKind)(a b:Nat)(s:Option I):Option I:=cond (acT (ac6 a b) (lim k)) (some (.int k (.ofNat (ac6 a b)))) s
def zn(k:IntKind)(a b:Nat)(s:Option I):Option I:=some (.bool (acT a b))
def zo(k:IntKind)(a b:Nat)(s:Option I):Option I:=some (.bool (acY a b))
def zp(k:IntKind)(a b:Nat)(s:Option I):Option I:=some (.bool (acT b a))
def zq(k:IntKind)(a b:Nat)(s:Option I):Option I:=some (.bool (acY b a))
def zr(k:IntKind)(a b:Nat)(s:Option I):Option I:=some (.bool (acO a b))
def zt(k:IntKind)(a b:Nat)(s:Option I):Option I:=some (.bool (not (acO a b)))
def zu(k:IntKind)(a b:Nat)(s:Option I):Option I:=cond (and (acT 0 b) (acT a (lim k))) (some (.int k (.ofNat (ac7 a b)))) s
def zv(k:IntKind)(a b:Nat)(s:Option I):Option I:=cond (acT 0 b) (some (.int k (.ofNat (ac8 a b)))) s
def zw(k:IntKind)(a b:Nat)(s:Option I):Option I:=cond (and (acT a (lim k)) (acT b (lim k))) (some (.int k (.ofNat (ac9 a b)))) s
def zx(k:IntKind)(a b:Nat)(s:Option I):Option I:=cond (and (acT a (lim k)) (acT b (lim k))) (some (.int k (.ofNat (ac_ a b)))) s
def zy(k:IntKind)(a b:Nat)(s:Option I):Option I:=cond (and (acT a (lim k)) (acT b (lim k))) (some (.int k (.ofNat (ada a b)))) s
theorem OW(k:IntKind)(a b:Nat):zk k a b (cg .add k (.ofNat a) k (.ofNat b))=cg .add k (.ofNat a) k (.ofNat b):=by
 unfold zk;rw[nl];by_cases h:ac4 a b<lim k
 · simp only[h,decide_true,cond_true,cg,aR];rw[show(ac3 a+ac3 b)=ac3 (ac4 a b)from rfl,o4 h]
 ·simp only[h,decide_false,cond_false]
theorem OX(k:IntKind)(a b:Nat):zm k a b (cg .mul k (.ofNat a) k (.ofNat b))=cg .mul k (.ofNat a) k (.ofNat b):=by
 unfold zm;rw[nl];by_cases h:ac6 a b<lim k
 · simp only[h,decide_true,cond_true,cg,aR];rw[show(ac3 a*ac3 b)=ac3 (ac6 a b)from rfl,o4 h]
 ·simp only[h,decide_false,cond_false]
theorem OY(k:IntKind)(a b:Nat):zl k a b (cg .sub k (.ofNat a) k (.ofNat b))=cg .sub k (.ofNat a) k (.ofNat b):=by
 unfold zl;rw[nl,ne'];by_cases h:b≤a∧a<lim k
 · simp only[h.1,h.2,decide_true,ac0,cond_true,cg,aR];have:(ac3 a-ac3 b)=ac3 (ac5 a b):=by
    show(a:Int)-(b:Int)=((a-b:Nat):Int);omega
   rw[this,o4 (show ac5 a b<lim k from adb (Nat.sub_le _ _) h.2)]
 · have:(decide (b≤a)&&decide (a<lim k))=false:=by
     rw[acA];intro c;simp at c;exact h c
   simp only[this,cond_false]
theorem OZ(k:IntKind)(a b:Nat):zn k a b (cg .lss k (.ofNat a) k (.ofNat b))=cg .lss k (.ofNat a) k (.ofNat b):=by simp only[zn,cg,aR,nl];congr 2;simp
theorem O0(k:IntKind)(a b:Nat):zo k a b (cg .leq k (.ofNat a) k (.ofNat b))=cg .leq k (.ofNat a) k (.ofNat b):=by simp only[zo,cg,aR,ne'];congr 2;simp
theorem O1(k:IntKind)(a b:Nat):zp k a b (cg .gtr k (.ofNat a) k (.ofNat b))=cg .gtr k (.ofNat a) k (.ofNat b):=by simp only[zp,cg,aR,nl];congr 2;simp
theorem O2(k:IntKind)(a b:Nat):zq k a b (cg .geq k (.ofNat a) k (.ofNat b))=cg .geq k (.ofNat a) k (.ofNat b):=by simp only[zq,cg,aR,ne'];congr 2;simp
theorem En(a b:Nat):(ac3 a==ac3 b)=decide (a=b):=by rw[acj];simp;omega
theorem O3(k:IntKind)(a b:Nat):zr k a b (cg .eql k (.ofNat a) k (.ofNat b))=cg .eql k (.ofNat a) k (.ofNat b):=by simp only[zr,cg,aR,nb,En]
theorem O4(k:IntKind)(a b:Nat):zt k a b (cg .neq k (.ofNat a) k (.ofNat b))=cg .neq k (.ofNat a) k (.ofNat b):=by simp only[zt,cg,aR,nb,bne,En]
theorem O5(k:IntKind)(a b:Nat):zv k a b (cg .rem k (.ofNat a) k (.ofNat b))=cg .rem k (.ofNat a) k (.ofNat b):=by
 unfold zv;rw[nl];by_cases h:0<b
 · have c:(ac3 b)≠0:=by simp;omega
   simp only[h,decide_true,cond_true,cg,af (show True∧ac3 b≠0 from⟨trivial,c⟩)];rfl
 ·simp only[h,decide_false,cond_false]
theorem O6(k:IntKind)(a b:Nat):zu k a b (cg .quo k (.ofNat a) k (.ofNat b))=cg .quo k (.ofNat a) k (.ofNat b):=by
 unfold zu;rw[nl,nl];by_cases h:0<b∧a<lim k
 · have d:(ac3 b)≠0:=by have:=h.1;simp;omega
   simp only[h.1,h.2,decide_true,ac0,cond_true,cg,af (show True∧ac3 b≠0 from⟨trivial,d⟩)];rw[show(ac3 a).tdiv (ac3 b)=ac3 (ac7 a b)from rfl,o4 (show ac7 a b<lim k from adb (Nat.div_le_self _ _) h.2)]
 · have:(decide (0<b)&&decide (a<lim k))=false:=by
     rw[acA];intro c;simp at c;exact h c
   simp only[this,cond_false]
theorem O7(k:IntKind):lim k≤2^k.bits:=by cases k<;>decide
theorem Eo(k:IntKind):∃n,lim k=2^n:=by
 cases k
 ·exact⟨7,rfl⟩
 ·exact⟨15,rfl⟩
 ·exact⟨31,rfl⟩
 ·exact⟨63,rfl⟩
 ·exact⟨8,rfl⟩
 ·exact⟨16,rfl⟩
 ·exact⟨32,rfl⟩
 ·exact⟨64,rfl⟩
theorem zz{op:BinOp}{f:Nat→Nat→Nat}(k:IntKind)(a b:Nat)(c:a<lim k)(d:b<lim k)(hf:f a b<lim k)
  (h:jh op k (.ofNat a) (.ofNat b)=some (k.wrap (((f (VR k.bits (.ofNat a)).toNat (VR k.bits (.ofNat b)).toNat):Nat):Int))):jh op k (.ofNat a) (.ofNat b)=some (.ofNat (f a b)):=by
 have g:=O7 k;have e:∀n:Nat,n<lim k→(VR k.bits (.ofNat n)).toNat=n:=λn i=>by
  have:VR k.bits (.ofNat n)=BitVec.ofNat k.bits n:=by simp
  rw[this,BitVec.toNat_ofNat,Nat.mod_eq_of_lt (by omega)]
 rw[h,e a c,e b d];exact congrArg some (o4 hf)
theorem O8(k:IntKind)(a b:Nat):zw k a b (cg .and k (.ofNat a) k (.ofNat b))=cg .and k (.ofNat a) k (.ofNat b):=by
 unfold zw;rw[nl,nl];by_cases h:a<lim k∧b<lim k
 · simp only[h.1,h.2,decide_true,ac0,cond_true,cg,aR];rw[zz (op:= .and) (f:=ac9) k a b h.1 h.2 (adb Nat.and_le_left h.1) (by simp only[jh,BitVec.toNat_and];rfl)];rfl
 · have:(decide (a<lim k)&&decide (b<lim k))=false:=by
     rw[acA];intro c;simp at c;exact h c
   simp only[this,cond_false]
theorem O9(k:IntKind)(a b:Nat):zx k a b (cg .or k (.ofNat a) k (.ofNat b))=cg .or k (.ofNat a) k (.ofNat b):=by
 unfold zx;rw[nl,nl];by_cases h:a<lim k∧b<lim k
 · simp only[h.1,h.2,decide_true,ac0,cond_true,cg,aR];have hl:ac_ a b<lim k:=by
    obtain⟨n,d⟩:=Eo k;rw[d]at h ⊢;exact Nat.or_lt_two_pow h.1 h.2
   rw[zz (op:= .or) (f:=ac_) k a b h.1 h.2 hl (by simp only[jh,BitVec.toNat_or];rfl)];rfl
 · have:(decide (a<lim k)&&decide (b<lim k))=false:=by
     rw[acA];intro c;simp at c;exact h c
   simp only[this,cond_false]
theorem O_(k:IntKind)(a b:Nat):zy k a b (cg .xor k (.ofNat a) k (.ofNat b))=cg .xor k (.ofNat a) k (.ofNat b):=by
 unfold zy;rw[nl,nl];by_cases h:a<lim k∧b<lim k
 · simp only[h.1,h.2,decide_true,ac0,cond_true,cg,aR];have hl:ada a b<lim k:=by
    obtain⟨n,d⟩:=Eo k;rw[d]at h ⊢;exact Nat.xor_lt_two_pow h.1 h.2
   rw[zz (op:= .xor) (f:=ada) k a b h.1 h.2 hl (by simp only[jh,BitVec.toNat_xor];rfl)];rfl
 · have:(decide (a<lim k)&&decide (b<lim k))=false:=by
     rw[acA];intro c;simp at c;exact h c
   simp only[this,cond_false]
structure Pa where
 f:I→I→Option I
def Ep:BinOp→Pa
 | .add=>⟨λx y=>ib zk (M .add x y) x y⟩
 | .sub=>⟨λx y=>ib zl (M .sub x y) x y⟩
 | .mul=>⟨λx y=>ib zm (M .mul x y) x y⟩
 | .quo=>⟨λx y=>ib zu (M .quo x y) x y⟩
 | .rem=>⟨λx y=>ib zv (M .rem x y) x y⟩
 | .and=>⟨λx y=>ib zw (M .and x y) x y⟩
 | .or=>⟨λx y=>ib zx (M .or x y) x y⟩
 | .xor=>⟨λx y=>ib zy (M .xor x y) x y⟩
 | .lss=>⟨λx y=>ib zn (M .lss x y) x y⟩
 | .leq=>⟨λx y=>ib zo (M .leq x y) x y⟩
 | .gtr=>⟨λx y=>ib zp (M .gtr x y) x y⟩
 | .geq=>⟨λx y=>ib zq (M .geq x y) x y⟩
 | .eql=>⟨λx y=>ib zr (M .eql x y) x y⟩
 | .neq=>⟨λx y=>ib zt (M .neq x y) x y⟩
 | .shl=>⟨λx y=>M .shl x y⟩
 | .shr=>⟨λx y=>M .shr x y⟩
 | .andNot=>⟨λx y=>M .andNot x y⟩
theorem Pb(op:BinOp)(x y:I):(Ep op).f x y=M op x y:=by cases op<;>first|rfl|exact OU (by first|exact OW|exact OY|exact OX|exact O6|exact O5|exact O8|exact O9|exact O_|exact OZ|exact O0|exact O1|exact O2|exact O3|exact O4) x y
def Er(k:IntKind)(x:I):Option I:=asNat x (dK k x) λ_ m=>cond (acT m (lim k)) (some (.int k (.ofNat m))) (dK k x)
theorem Pc(k:IntKind)(x:I):Er k x=dK k x:=by
 refine o5 λk' m a=>?_;subst a;rw[nl];by_cases h:m<lim k
 · simp only[h,decide_true,cond_true,dK];rw[o4 h]
 ·simp only[h,decide_false,cond_false]
def o6(cs:List I)(o n:Nat)(agg:Bool):Option I:=cond agg (cond (zh (ac4 o n) cs) (some (.agg ((tD o cs).take n))) none) (cond (acO n 1) (zf cs o) (bw cs o n false))
theorem tG(cs:List I)(o n:Nat)(agg:Bool):o6 cs o n agg=bw cs o n agg:=by
 unfold o6 bw;cases agg with
 | true=>
  rw[zi,qA];by_cases h:o+n≤cs.length
  ·rw[af h];simp[show ac4 o n=o+n from rfl,h]
  ·rw[ak h];simp[show ac4 o n=o+n from rfl,h]
 | false=>
  rw[nb,zg];by_cases h1:n=1
  · subst h1;simp only[decide_true,cond_true,cond_false,abS,bz];by_cases h:o+1≤cs.length
    ·rw[af h]
    ·rw[ak h,acf (by omega)]
  ·simp only[h1,decide_false,cond_false]
def zA(a sz:Nat)(agg:Bool)(x:I):Option I:=
 match x with
 | .agg cs=>o6 cs a sz agg
 |_=>none
theorem Pe(a sz:Nat)(b:Bool)(x:I):zA a sz b x=jS a sz b x:=by unfold zA jS;cases x<;>first|rfl|exact tG _ _ _ _
def Es(len sz:Nat)(agg:Bool)(x i:I):Option I:=asNat i (kv len sz agg x i) λk m=>match x with
 | .agg cs=>cond (acT m len) (o6 cs (ac6 m sz) sz agg) none
 |_=>kv len sz agg x i
theorem Pf(len sz:Nat)(a:Bool)(x i:I):Es len sz a x i=kv len sz a x i:=by
 refine o5 λk m hi=>?_;subst hi;cases x<;>first|rfl|skip
 rename_i cs;dsimp only;rw[nl,tG];simp only[kv];by_cases h:m<len
 ·rw[af ⟨ade _,by exact adf.2 h⟩];simp only[h,decide_true,cond_true];rfl
 ·rw[ak (λb=>h (adf.1 b.2))];simp only[h,decide_false,cond_false]
def Et(x i:I):Option I:=asNat i (ji x i) λ_ m=>match x with
 | .str s=>(match zf s m with|some b=>some (.int .u8 (.ofNat b.toNat))|none=>none)
 |_=>ji x i
theorem Pg(x i:I):Et x i=ji x i:=by
 refine o5 λk m hi=>?_;subst hi;cases x<;>first|rfl|skip
 rename_i s;dsimp only;rw[zg];simp only[ji];rw[af (show 0≤ac3 m from ade _)];show _=acR _ s[m]?;cases s[m]?<;>rfl
def kR(a:Option Nat)(sz:Nat)(x i:I):Option I:=asNat i (aG a sz x i) λ_ m=>match a,x with
 |none,.ab _ len cells=>cond (acT m len) (some (.aj (tD (ac6 m sz) cells))) none
 |none,.row id o len _=>cond (acT m len) (some (.ptr id (ac4 o (ac6 m sz)))) none
 |some n,.ptr id o=>cond (acT m n) (some (.ptr id (ac4 o (ac6 m sz)))) none
 |some n,.aj cells=>cond (acT m n) (some (.aj (tD (ac6 m sz) cells))) none
 |_,_=>aG a sz x i
theorem Ph(a:Option Nat)(sz:Nat)(x i:I):kR a sz x i=aG a sz x i:=by
 refine o5 λk m hi=>?_;subst hi;have key:∀(n:Nat)(v:I),cond (acT m n) (some v) none=if 0≤(ac3 m)∧(ac3 m)<(n:Int)then some v else none:=by
  intro n v;rw[nl];by_cases h:m<n
  ·rw[af ⟨ade _,adf.2 h⟩];simp only[h,decide_true,cond_true]
  ·rw[ak (λb=>h (adf.1 b.2))];simp only[h,decide_false,cond_false]
 cases a<;>cases x<;>first
  |rfl
  |(dsimp only;rw[key];simp only[qA];rfl)
  |(dsimp only;rw[key];rfl)
def qB(T:S)(n:Nat)(a:Bool)(x:I):Option I:=
 match x with
 | .ptr id o=>(match T.t.get id with | .row cs=>o6 cs o n a|_=>none)
 | .aj cs=>o6 cs 0 n a
 |_=>none
theorem zB(T:S)(n:Nat)(a:Bool)(x:I):qB T n a x=Z T.ah n a x:=by
 unfold qB Z;cases x<;>first|rfl|skip
 · dsimp only;show _=match T.t.get _ with | .row cs=>_|_=>_
   split<;>first|rfl|exact tG _ _ _ _
 ·exact tG _ _ _ _
end
end Rb

namespace Rb
open Go
variable{Φ:ae}{B:db}
noncomputable section
def iU(m:Nat)(K:Nat→Bool):Bool:=acX (motive:=λ_=>Bool) (K 0) (λp _=>K (adg p)) m
theorem tH(m:Nat)(K:Nat→Bool):iU m K=K m:=by cases m<;>rfl
def kS{α:Type}(l:List α):(List α→Bool)→Bool:=acS (motive:=λ_=>(List α→Bool)→Bool) (λK=>K []) (λx _ a K=>mr a λr=>mr K (x::r)) l
theorem tI{α:Type}:∀(l:List α)(K:List α→Bool),kS l K=K l
 |[],K=>rfl
 |x::r,K=>by show kS r (λr=>K (x::r))=_;rw[tI r]
def tJ{α:Type}(n:Nat):List α→(List α→Bool)→Bool:=acX (motive:=λ_=>List α→(List α→Bool)→Bool) (λl K=>K l) (λ_ a l K=>acS (motive:=λ_=>Bool) (K []) (λ_ t _=>mr (a t) K) l) n
theorem tK{α:Type}:∀(n:Nat)(l:List α)(K:List α→Bool),tJ n l K=K (l.drop n)
 |0,l,K=>rfl
 |n+1,[],K=>rfl
 |n+1,x::r,K=>by rw[ac2,←tK n r K];rfl
def fv(v:I)(K:I→Bool):Bool:=
 match v with
 | .int k n=>(match n with | .ofNat m=>iU m λm=>K (.int k (.ofNat m)) | .negSucc m=>iU m λm=>K (.int k (.negSucc m)))
 | .bool b=>(match b with|true=>K (.bool true)|false=>K (.bool false))
 | .str s=>kS s λs=>K (.str s)
 | .ptr i o=>iU i λi=>iU o λo=>K (.ptr i o)
 | .row i o l z=>iU i λi=>iU o λo=>iU l λl=>K (.row i o l z)
 | .ab tk l cs=>iU l λl=>kS cs λcs=>K (.ab tk l cs)
 | .aj cs=>kS cs λcs=>K (.aj cs)
 | .agg cs=>kS cs λcs=>K (.agg cs)
 | .ar cs=>kS cs λcs=>K (.ar cs)
 |v=>K v
theorem Eu(v:I)(K:I→Bool):fv v K=K v:=by unfold fv;split<;>(try split)<;>simp only[tH,tI]
def eB(x:Option I)(K:I→Bool):Bool:=match x with|some v=>fv v K|none=>false
theorem o7(x:Option I)(K:I→Bool):eB x K=dk x K:=by
 cases x with
 |none=>rfl
 |some v=>exact Eu v K
def qC(x:Option I)(K:I→Bool):Bool:=match x with|some v=>K v|none=>false
theorem Ev(x:Option I)(K:I→Bool):qC x K=dk x K:=by cases x<;>rfl
def kT(E:EV)(t:Nat)(K:I→Bool):Bool:=acS (motive:=λ_=>Bool) (K .bot) (λp _ a=>adh (motive:=λ_=>Bool) (λs v=>adi (motive:=λ_=>Bool) a (K v) (acO s t)) p) E
theorem mw:∀(E:EV)(t:Nat)(K:I→Bool),kT E t K=K (dm E t)
 |[],t,K=>rfl
 | (s,v)::E,t,K=>by show adi (motive:=λ_=>Bool) (kT E t K) (K v) (acO s t)=K (cond (acO s t) v (dm E t));rw[mw E t K];cases acO s t<;>rfl
def aT.val(E:EV):aT→I
 | .t n=>dm E n
 | .k v=>v
def Ew(E:EV):Option aT→Option I
 |none=>none
 |some x=>some (x.val E)
def jV(E:EV):List aT→List I
 |[]=>[]
 |x::r=>x.val E::jV E r
def zC(E:EV):List (Nat×Nat×aT)→List (Nat×Nat×I)
 |[]=>[]
 |(a,b,x)::r=>(a,b,x.val E)::zC E r
theorem o8(E:EV)(x:aT):(x.sub E).ev []=x.val E:=by cases x<;>rfl
theorem Ex(E:EV):∀xs:List aT,dM [] (xs.map (aT.sub E))=jV E xs
 |[]=>rfl
 | x::r=>by have:=Ex E r;simp only[dM,abl]at this ⊢;rw[this,o8];rfl
theorem Ey(E:EV):∀xs:List (Nat×Nat×aT),fc [] (xs.map λp=>(p.1,p.2.1,p.2.2.sub E))=zC E xs
 |[]=>rfl
 | (a,b,x)::r=>by have:=Ey E r;simp only[fc,abl]at this ⊢;rw[this,o8];rfl
theorem Pj(E:EV)(x:Option aT):(x.map (aT.sub E)).map (aT.ev [])=Ew E x:=by
 cases x with
 |none=>rfl
 |some x=>exact congrArg some (o8 E x)
def cv(x:aT)(E:EV)(K:I→Bool):Bool:=match x with | .t n=>kT E n K | .k v=>K v
theorem o9(x:aT)(E:EV)(K:I→Bool):cv x E K=K (x.val E):=by
 cases x with
 |t n=>exact mw E n K
 |k v=>rfl
def lG(E:EV):List aT→(List I→Bool)→Bool
 |[],K=>K []
 |x::r,K=>cv x E λv=>lG E r λvs=>K (v::vs)
theorem Ez(E:EV):∀(xs:List aT)(K:List I→Bool),lG E xs K=K (jV E xs)
 |[],K=>rfl
 |x::r,K=>by rw[lG,o9,Ez E r];rfl
def qD(E:EV):List (Nat×Nat×aT)→(List (Nat×Nat×I)→Bool)→Bool
 |[],K=>K []
 |(a,b,x)::r,K=>cv x E λv=>qD E r λvs=>K ((a,b,v)::vs)
theorem EA(E:EV):∀(xs:List (Nat×Nat×aT)) (K:List (Nat×Nat×I)→Bool),qD E xs K=K (zC E xs)
 |[],K=>rfl
 |(a,b,x)::r,K=>by rw[qD,o9,EA E r];rfl
def o_(E:EV)(x:Option aT)(K:Option I→Bool):Bool:=match x with|none=>K none|some x=>cv x E λv=>K (some v)
theorem Pk(E:EV)(x:Option aT)(K:Option I→Bool):o_ E x K=K (Ew E x):=by
 cases x with
 |none=>rfl
 |some x=>exact o9 x E _
def nA(x:bS)(f:Nat):TT→Nat→(TT→Bool)→Bool:=
 acX (motive:=λ_=>TT→Nat→(TT→Bool)→Bool) (λt _ K=>K t)
  (λ_ b t i K=>TT.casesOn (motive:=λ_=>Bool) t
    (cond (acO i 0) (K (.node x .leaf .leaf)) (cond (acO (ac8 i 2) 1) (b .leaf (ac7 i 2) λl=>K (.node .gone l .leaf)) (b .leaf (ac5 (ac7 i 2) 1) λr=>K (.node .gone .leaf r))))
    (λa l r=>cond (acO i 0) (K (.node x l r)) (cond (acO (ac8 i 2) 1) (b l (ac7 i 2) λl=>K (.node a l r)) (b r (ac5 (ac7 i 2) 1) λr=>K (.node a l r))))) f
theorem EB(x:bS):∀(f:Nat)(t:TT)(i:Nat)(K:TT→Bool),nA x f t i K=K (TT.iA x f t i):=by
 intro f;induction f with
 |zero=>intro t i K;cases t<;>rfl
 | succ f b=>
  intro t i K;cases t with
  | leaf=>show cond (acO i 0) (K (.node x .leaf .leaf)) (cond (acO (i%2) 1) (nA x f .leaf (i/2) λl=>K (.node .gone l .leaf)) (nA x f .leaf (i/2-1) λr=>K (.node .gone .leaf r)))=_;rw[b,b,TT.iA];cases acO i 0<;>cases acO (i%2) 1<;>rfl
  | node a l r=>show cond (acO i 0) (K (.node x l r)) (cond (acO (i%2) 1) (nA x f l (i/2) λl=>K (.node a l r)) (nA x f r (i/2-1) λr=>K (.node a l r)))=_;rw[b,b,TT.iA];cases acO i 0<;>cases acO (i%2) 1<;>rfl
def pa(T:S)(i:Nat)(x:bS)(K:S→Bool):Bool:=match T with|⟨n,t⟩=>nA x (adg i) t i λt=>K ⟨n,t⟩
theorem Pm(T:S)(i:Nat)(x:bS)(K:S→Bool):pa T i x K=K (T.set i x):=by obtain⟨n,t⟩:=T;exact EB x (i+1) t i λt=>K ⟨n,t⟩
def tM(T:S)(x:bS)(K:S→Bool):Bool:=match T with|⟨n,t⟩=>nA x (adg n) t n λt=>iU (adg n) λm=>K ⟨m,t⟩
theorem Pn(T:S)(x:bS)(K:S→Bool):tM T x K=K (T.push x):=by obtain⟨n,t⟩:=T;simp only[tM,EB,tH];rfl
def pb(x:bS)(K:bS→Bool):Bool:=
 match x with
 | .row cs=>kS cs λcs=>K (.row cs)
 | .map es=>kS es λes=>K (.map es)
 | .tok a b=>iU a λa=>K (.tok a b)
 | .fG s p=>iU p λp=>K (.fG s p)
 | .gN T u b=>K (.gN T u b)
 | .kq U bs=>K (.kq U bs)
 | .gone=>K .gone
theorem Po(x:bS)(K:bS→Bool):pb x K=K x:=by cases x<;>simp only[pb,tI,tH]
def zD(n:Nat):I→List I→(List I→Bool)→Bool:=acX (motive:=λ_=>I→List I→(List I→Bool)→Bool) (λv l K=>acS (motive:=λ_=>Bool) (K []) (λ_ t _=>K (v::t)) l) (λ_ a v l K=>acS (motive:=λ_=>Bool) (K []) (λx t _=>mr (a v t) λr=>mr K (x::r)) l) n
theorem EC:∀(n:Nat)(v:I)(l:List I)(K:List I→Bool),zD n v l K=K (l.set n v)
 |0,v,[],K=>rfl
 |0,v,x::t,K=>rfl
 |n+1,v,[],K=>rfl
 | n+1,v,x::t,K=>by show zD n v t (λr=>K (x::r))=_;rw[EC n v t];rfl
def tN(o:Nat):List I→List I→(List I→Bool)→Bool
 |[],cs,K=>K cs
 |v::r,cs,K=>zD o v cs λcs=>tN (adg o) r cs K
theorem ED:∀(o:Nat)(l cs:List I)(K:List I→Bool),tN o l cs K=K (setCells cs o l)
 |_,[],cs,K=>rfl
 |o,v::r,cs,K=>by rw[tN,EC,ED (adg o) r];rfl
inductive e7 where
 |wr (v:I) (i:Nat) (cs:List I) (o:Nat) (news:List I)
 |aO (v:I)
 |set (v:I) (i:Nat) (x:bS)
 |push (v:I) (x:bS)
 |gp (v:I) (i:Nat) (x:bS)
 |gs (v:I) (i j:Nat) (x:bS)
def e7.app(T:S):e7→I×S
 | .wr v i cs o news=>(v,T.set i (.row (setCells cs o news)))
 | .aO v=>(v,T)
 | .set v i x=>(v,T.set i x)
 | .push v x=>(v,T.push x)
 | .gp v i x=>(v,(T.set i .gone).push x)
 | .gs v i j x=>(v,(T.set i .gone).set j x)
def jA(T:S)(r:Option e7)(K:fm):Bool:=
 match r with
 |none=>false
 | some e=>(match e with
   | .wr v i cs o news=>fv v λv=>kS news λnews=>tN o news cs λcs=>pa T i (.row cs) (K v)
   | .aO v=>fv v λv=>K v T
   | .set v i x=>fv v λv=>pb x λx=>pa T i x (K v)
   | .push v x=>fv v λv=>pb x λx=>tM T x (K v)
   | .gp v i x=>fv v λv=>pb x λx=>pa T i .gone λT=>tM T x (K v)
   | .gs v i j x=>fv v λv=>pb x λx=>pa T i .gone λT=>pa T j x (K v))
theorem EE(T:S)(r:Option e7)(K:fm):jA T r K=hb (r.map (e7.app T)) K:=by
 cases r with
 |none=>rfl
 |some e=>cases e<;>simp only[jA,Eu,Po,Pm,Pn,tI,ED,aae,e7.app,hb]
def zE(T:S)(n:Nat)(x v:I):Option e7:=
 match x with
 | .ptr id o=>
  match T.t.get id with
  | .row cs=>cond (and v.known (and (acO v.cells.length n) (and (v.cells.all I.scalar) (zh (ac4 o n) cs)))) (some (.wr (.ar []) id cs o v.cells)) none
  |_=>none
 |_=>none
theorem Pp(T:S)(n:Nat)(x v:I):(zE T n x v).map (e7.app T)=(qo T n x v).map λT=>(.ar [],T):=by
 cases x with
 | ptr id o=>
  simp only[zE,qo];cases hc:T.t.get id with
  | row cs=>
   dsimp only;rw[zi,nb];by_cases h:v.known=true∧v.cells.length=n∧v.cells.all I.scalar=true∧o+n≤cs.length
   · rw [af h];have:(v.known&&(decide (v.cells.length=n)&&(v.cells.all I.scalar&&decide (ac4 o n≤cs.length))))=true:=by
      simp only[h.1,h.2.1,h.2.2.1,decide_true,adj,dO];exact h.2.2.2
     rw[this];rfl
   · rw [ak h];have:(v.known&&(decide (v.cells.length=n)&&(v.cells.all I.scalar&&decide (ac4 o n≤cs.length))))=false:=by
      rw[acA];intro a;simp only[Z3,dO]at a;exact h a
     rw[this];rfl
  |_=>rfl
 |_=>rfl
def zF(T:S)(mu:Bool)(cells:List I):e7:=cond mu (.push (.ptr T.n 0) (.row cells)) (.aO (.aj cells))
theorem EF(T:S)(mu:Bool)(cells:List I):(zF T mu cells).app T=oP T mu cells:=by cases mu<;>rfl
def zG(T:S)(mu:Bool)(n:Nat)(v:I):Option e7:=if v.known∧v.cells.length=n then some (zF T mu v.cells)else none
theorem Pr(T:S)(mu:Bool)(n:Nat)(v:I):(zG T mu n v).map (e7.app T)=qp T mu n v:=by
 unfold zG qp;split
 ·exact congrArg some (EF _ _ _)
 ·rfl
def zH(T:S)(mu:Bool)(sz len:Nat)(a:List I)(b:List (Nat×Nat×I)):Option e7:=
 match fZ (ZU len a).flatten b with
 |some cells=>some (cond mu (.push (.row T.n 0 len sz) (.row cells)) (.aO (.ab .full len cells)))
 |none=>none
theorem Ps(T:S)(mu:Bool)(sz len:Nat)(a:List I)(parts:List (Nat×Nat×I)):(zH T mu sz len a parts).map (e7.app T)=qq T mu sz len a parts:=by
 unfold zH qq;cases fZ (ZU len a).flatten parts with
 |none=>rfl
 |some cells=>cases mu<;>rfl
def zJ(T:S)(mu:Bool)(sz bytes:Nat)(x y:I):Option e7:=
 match dQ T.ah sz y with
 |none=>none
 | some (m,news)=>
  if ¬news.all I.scalar then none else
  match x with
  | .ab tk len cells=>
   if m=0 then some (.aO (.ab tk len cells))
   else if ¬(cells.length=len*sz∧(len+m)*bytes≤140737488355328∧len+m≤9223372036854775807)then none
   else match tk,mu with
   | .nil,true | .full,true=>some (.push (.row T.n 0 (len+m) sz) (.row (cells++news)))
   | .nil,false | .full,false=>some (.push (.ab (.own T.n) (len+m) (cells++news)) (.tok ((len+m)*sz) sz))
   | .own t,_=>match T.t.get t with
    | .tok k a=>if k=len*sz∧a=sz then some (.gp (.ab (.own T.n) (len+m) (cells++news)) t (.tok ((len+m)*sz) sz))else none
    |_=>none
   | .dead,_=>none
  | .row id o len a=>
   match T.t.get id with
   | .row cs=>
    if m=0 then some (.aO (.row id o len a))
    else if ¬(o=0∧a=sz∧(len+m)*bytes≤140737488355328∧len+m≤9223372036854775807)then none
    else if(len+m)*sz≤cs.length then some (.wr (.row id 0 (len+m) sz) id cs (len*sz) news)
    else if cs.length=len*sz then some (.gp (.row T.n 0 (len+m) sz) id (.row (cs++news)))
    else none
   |_=>none
  |_=>none
theorem Pu(T:S)(mu:Bool)(sz bytes:Nat)(x y:I):(zJ T mu sz bytes x y).map (e7.app T)=qs T mu sz bytes x y:=by
 unfold zJ qs;cases dQ T.ah sz y with
 |none=>rfl
 | some p =>
  obtain⟨m,news⟩:=p;dsimp only;split
  ·rfl
  · cases x <;> try rfl
    · rename_i tk len cells;dsimp only;split
      ·rfl
      · split
        ·rfl
        · cases tk<;>cases mu<;>try rfl
          all_goals
           rename_i t;dsimp only;generalize T.t.get t=o;cases o<;>try rfl
           dsimp only;split<;>rfl
    · rename_i id o len a;dsimp only;generalize T.t.get id=o;cases o<;>try rfl
      dsimp only;split
      ·rfl
      · split
        ·rfl
        · split
          ·rfl
          ·split<;>rfl
def zK(T:S)(mu:Bool)(sz bytes:Nat)(a:List I)(len cap:I):Option e7:=
 match len,cap with
 | .int .i64 n,.int .i64 c=>
  if 0≤n∧n≤c∧bytes*c≤281474976710656∧c≤9223372036854775807∧a.length=sz then
   if mu then some (.push (.row T.n 0 n.toNat sz) (.row (ZU c.toNat a).flatten))
   else if n=c then some (.aO (.ab .full n.toNat (ZU n.toNat a).flatten))else none
  else none
 |_,_=>none
theorem Pw(T:S)(mu:Bool)(sz bytes:Nat)(a:List I)(len cap:I):(zK T mu sz bytes a len cap).map (e7.app T)=oQ T mu sz bytes a len cap:=by
 unfold zK oQ;cases len<;>try rfl
 rename_i k n;cases k<;>try rfl
 cases cap<;>try rfl
 rename_i k c;cases k<;>try rfl
 dsimp only;split
 · split
   ·rfl
   ·split<;>rfl
 ·rfl
def zL(T:S)(sz:Nat)(x y:I):Option e7:=
 match x,dQ T.ah sz y with
 | .row id o len _,some (m,news)=>
  match T.t.get id with
  | .row cs=>
   let n:=min m len
   if news.all I.scalar∧o+n*sz≤cs.length then some (.wr (.int .i64 n) id cs o (news.take (n*sz)))else none
  |_=>none
 |_,_=>none
theorem Px(T:S)(sz:Nat)(x y:I):(zL T sz x y).map (e7.app T)=qt T sz x y:=by
 unfold zL qt;cases x<;>try rfl
 rename_i id o len z;cases dQ T.ah sz y with
 |none=>rfl
 | some p=>
  obtain⟨m,news⟩:=p;dsimp only;generalize T.t.get id=q;cases q<;>try rfl
  dsimp only;split<;>rfl
def zM(T:S)(kk:FK)(m k v:I):Option e7:=
 match m with
 | .map id=>
  match T.t.get id with
  | .map es=>if plainKey kk k∧v.known then(match fH kk k es 0 with
      |some (some (i,_))=>some (.set (.ar []) id (.map (es.set i (k,v))))
      |some none=>some (.set (.ar []) id (.map (es++[(k,v)])))
      |none=>none)else none
  |_=>none
 |_=>none
theorem Py(T:S)(kk:FK)(m k v:I):(zM T kk m k v).map (e7.app T)=(qu T kk m k v).map λT=>(.ar [],T):=by
 unfold zM qu;cases m<;>try rfl
 rename_i id;dsimp only;generalize T.t.get id=q;cases q<;>try rfl
 rename_i es;dsimp only;split
 · cases fH kk k es 0 with
   |none=>rfl
   | some r=>
    cases r with
    |none=>rfl
    |some p=>rfl
 ·rfl
def zN(T:S)(x:I):Option e7:=
 match x with
 | .row id o len sz=>
  match T.t.get id with
  | .row cs=>if o+len*sz≤cs.length then some (.set (.ab .dead len ((cs.drop o).take (len*sz))) id .gone)else none
  |_=>none
 | .ptr id o=>
  match T.t.get id with
  | .row cs=>match ew (λi=>T.t.get i) cs with
   |some (l,a)=>if a=id then none else some (.gs (.ptr id o) a id (.row l))
   |none=>some (.set (.aj (cs.drop o)) id .gone)
  |_=>none
 | .ab tk len cells=>some (.aO (.ab tk len cells))
 | .aj cs=>some (.aO (.aj cs))
 | .agg cells=>match ew (λi=>T.t.get i) cells with
  |some (l,id)=>some (.set (.agg l) id .gone)
  |none=>some (.aO (.agg cells))
 |_=>none
theorem Pz(T:S)(x:I):(zN T x).map (e7.app T)=ns T x:=by
 unfold zN ns;cases x<;>try rfl
 · rename_i id o;dsimp only;generalize T.t.get id=q;cases q<;>try rfl
   rename_i cs;dsimp only;cases ew (λi=>T.t.get i) cs with
   |none=>rfl
   | some q=>
    obtain⟨l,a⟩:=q;dsimp only;by_cases e:a=id
    ·rw[af e,af e];rfl
    ·rw[ak e,ak e];rfl
 · rename_i id o len sz;dsimp only;generalize T.t.get id=q;cases q<;>try rfl
   dsimp only;split<;>rfl
 · rename_i cs;dsimp only;cases ew (λi=>T.t.get i) cs with
   |none=>rfl
   |some q=>rfl
structure PA where
 f:db→EV→S→fm→Bool
structure PB where
 f:EV→I→(EV→Bool)→Bool
structure tO where
 f:db→EV→S→(EV→S→Bool)→Bool
structure PC where
 f:db→EV→S→(EV→S→Bool)→(ea→EV→S→Bool)→Bool
structure PD where
 f:EV→List I→(EV→Bool)→Bool
structure EG where
 f:EV→S→Bool→Bool
structure PE where
 f:EV→S→(List I→Bool)→Bool
structure qE where
 f:db→List I→S→fm→Bool
def pd(a:Bool)(x:Option I)(K:I→Bool):Bool:=cond a (eB x K) (qC x K)
theorem EH(a:Bool)(x:Option I)(K:I→Bool):pd a x K=dk x K:=by cases a<;>simp only[pd,cond_true,cond_false,o7,Ev]
def tP(a:Option Nat)(sz:Nat)(x i:I)(K:I→Bool):Bool:=
 match x with
 | .ab _ len cells=>(match i with
   | .int _ n=>(match n with
     | .ofNat m=>(match a with|none=>cond (acT m len) (tJ (ac6 m sz) cells λr=>K (.aj r)) false|some _=>eB (kR a sz x i) K)
     |_=>eB (kR a sz x i) K)
   |_=>eB (kR a sz x i) K)
 | .aj cells=>(match i with
   | .int _ n=>(match n with
     | .ofNat m=>(match a with|some l=>cond (acT m l) (tJ (ac6 m sz) cells λr=>K (.aj r)) false|none=>eB (kR a sz x i) K)
     |_=>eB (kR a sz x i) K)
   |_=>eB (kR a sz x i) K)
 |_=>eB (kR a sz x i) K
theorem PF(a:Option Nat)(sz:Nat)(x i:I)(K:I→Bool):tP a sz x i K=dk (aG a sz x i) K:=by
 rw[←Ph,←o7];cases x<;>try rfl
 · rename_i cells;cases i<;>try rfl
   rename_i k n;cases n<;>try rfl
   rename_i m;cases a<;>try rfl
   rename_i l;rw[o7];simp only[tP,kR,asNat,tK,qA];cases acT m l<;>rfl
 · rename_i tk len cells;cases i<;>try rfl
   rename_i k n;cases n<;>try rfl
   rename_i m;cases a<;>try rfl
   rw[o7];simp only[tP,kR,asNat,tK,qA];cases acT m len<;>rfl
def zO(a:Nat)(x:I)(K:I→Bool):Bool:=
 match x with
 | .ptr i o=>iU (ac4 o a) λo=>K (.ptr i o)
 | .aj cs=>tJ a cs λr=>K (.aj r)
 |_=>eB (aa a x) K
theorem PG(a:Nat)(x:I)(K:I→Bool):zO a x K=dk (aa a x) K:=by
 unfold zO;split
 ·rw[tH];rfl
 ·rw[tK];rfl
 ·exact o7 _ _
def tQ:dj→PA
 | .mv x=>⟨λ_ E T K=>cv x E λv=>K v T⟩
 | .pick c a b=>⟨λ_ E T K=>cv c E λc=>oO c true (cv a E λv=>K v T) (cv b E λv=>K v T)⟩
 | .bin op x y=>⟨λ_ E T K=>cv x E λx=>cv y E λy=>eB ((Ep op).f x y) λv=>K v T⟩
 | .beq neg x y=>⟨λ_ E T K=>cv x E λx=>cv y E λy=>eB (ku neg x y) λv=>K v T⟩
 | .iP k neg x=>⟨λ_ E T K=>cv x E λx=>eB (h3 k neg x) λv=>K v T⟩
 | .h5 neg ks x y=>⟨λ_ E T K=>cv x E λx=>cv y E λy=>eB (iO neg ks x y) λv=>K v T⟩
 | .un op x=>⟨λ_ E T K=>cv x E λx=>eB (cO op x) λv=>K v T⟩
 | .conv k x=>⟨λ_ E T K=>cv x E λx=>eB (Er k x) λv=>K v T⟩
 | .same x=>⟨λ_ E T K=>cv x E λx=>qC (og x) λv=>K v T⟩
 | .jk x=>⟨λ_ E T K=>cv x E λx=>qC (aD x) λv=>K v T⟩
 | .field off sz agg x=>⟨λ_ E T K=>cv x E λx=>pd agg (zA off sz agg x) λv=>K v T⟩
 | .idx len sz agg x i=>⟨λ_ E T K=>cv x E λx=>cv i E λi=>pd agg (Es len sz agg x i) λv=>K v T⟩
 | .idxs x i=>⟨λ_ E T K=>cv x E λx=>cv i E λi=>eB (Et x i) λv=>K v T⟩
 | .jl off x=>⟨λ_ E T K=>cv x E λx=>zO off x λv=>K v T⟩
 | .iQ arr sz x i=>⟨λ_ E T K=>cv x E λx=>cv i E λi=>tP arr sz x i λv=>K v T⟩
 | .slice sz x lo hi mx=>⟨λ_ E T K=>cv x E λx=>o_ E lo λlo=>o_ E hi λhi=>o_ E mx λmx=>eB (c9 sz x lo hi mx) λv=>K v T⟩
 | .jm x lo hi=>⟨λ_ E T K=>cv x E λx=>o_ E lo λlo=>o_ E hi λhi=>eB (oh x lo hi) λv=>K v T⟩
 | .gO t x=>⟨λ_ E T K=>cv x E λv=>K (.iface t v) T⟩
 | .gl key bE=>⟨λ_ E T K=>lG E bE λvs=>K (.fn key vs) T⟩
 | .extract i x=>⟨λ_ E T K=>cv x E λx=>qC (aY i x) λv=>K v T⟩
 | .build zero parts=>⟨λ_ E T K=>qD E parts λd=>eB (aB zero d) λv=>K v T⟩
 | .len str x=>⟨λ_ E T K=>cv x E λx=>eB (aU str x) λv=>K v T⟩
 | .gP n=>⟨λ_ E T K=>K (.int .i64 n) T⟩
 | .cap x=>⟨λ_ E T K=>cv x E λx=>eB (kA x) λv=>K v T⟩
 | .gQ mx xs=>⟨λ_ E T K=>lG E xs λvs=>eB (eP mx vs) λv=>K v T⟩
 | .load n agg x=>⟨λ_ E T K=>cv x E λx=>pd agg (qB T n agg x) λv=>K v T⟩
 | .store n x v=>⟨λ_ E T K=>cv x E λx=>cv v E λv=>jA T (zE T n x v) K⟩
 | .box mu n x=>⟨λ_ E T K=>cv x E λx=>jA T (zG T mu n x) K⟩
 | .alloc mu zero=>⟨λ_ E T K=>jA T (some (zF T mu zero)) K⟩
 | .gm mu sz len zero parts=>⟨λ_ E T K=>qD E parts λd=>jA T (zH T mu sz len zero d) K⟩
 | .append mu sz bytes x y=>⟨λ_ E T K=>cv x E λx=>cv y E λy=>jA T (zJ T mu sz bytes x y) K⟩
 | .make mu sz bytes zero len cap=>⟨λ_ E T K=>cv len E λl=>cv cap E λc=>jA T (zK T mu sz bytes zero l c) K⟩
 | .copy sz x y=>⟨λ_ E T K=>cv x E λx=>cv y E λy=>jA T (zL T sz x y) K⟩
 | .gn=>⟨λ_ E T K=>jA T (some (.push (.map T.n) (.map []))) K⟩
 | .lookup kk zero ok m k=>⟨λ_ E T K=>cv m E λm=>cv k E λk=>eB (f_ T.ah kk zero ok m k) λv=>K v T⟩
 | .gR kk m k v=>⟨λ_ E T K=>cv m E λm=>cv k E λk=>cv v E λv=>jA T (zM T kk m k v) K⟩
 | .delete kk m k=>⟨λ_ E T K=>dk (tl T kk (m.val E) (k.val E)) λT=>K (.ar []) T⟩
 | .gS m=>⟨λ_ E T K=>cv m E λm=>eB (kz T.ah m) λv=>K v T⟩
 | .jn x=>⟨λ_ E T K=>cv x E λx=>eB (me x) λv=>K v T⟩
 | .gT x=>⟨λ_ E T K=>cv x E λx=>eB (abstr T.ah x) λv=>K v T⟩
 | .hx x=>⟨λ_ E T K=>hb (th T (x.val E)) K⟩
 | .hy x=>⟨λ_ E T K=>hb (tj T (x.val E)) K⟩
 | .call key args=>⟨λB E T K=>lG E args λvs=>B key vs T K⟩
 | .gU f args=>⟨λB E T K=>cv f E λf=>lG E args λvs=>yS B f vs T K⟩
 | .ext e xs=>⟨λ_ E T K=>lG E xs λvs=>hb (text T e vs) K⟩
 | .inv gV x args=>⟨λB E T K=>cv x E λx=>lG E args λvs=>yT B gV x vs T K⟩
theorem PH(x:Option S)(K:fm):hb (x.map λT=>(.ar [],T)) K=dk x λT=>K (.ar []) T:=by cases x<;>rfl
theorem EI(B:db)(E:EV)(T:S)(K:fm)(op:dj):(tQ op).f B E T K=lC B [] T K (op.sub E):=by cases op<;>simp only[tQ,dj.sub,lC,o8,Ex,Ey,Pj,o9,Ez,EA,Pk,o7,Ev,EH,PF,PG,Pb,Pc,Pe,Pf,Pg,zB,EE,Pp,Pr,Ps,Pu,Pw,Px,Py,PH,aae,EF]<;>rfl
def kU(n:Nat):Option Nat→PB
 |none=>⟨λE _ K=>K E⟩
 |some d=>cond (acT d n) ⟨λE v K=>K ((d,v)::E)⟩ ⟨λE _ K=>K E⟩
theorem zP(n:Nat)(d:Option Nat)(E:EV)(v:I)(K:EV→Bool):(kU n d).f E v K=K (eM n E d v):=by
 cases d with
 |none=>rfl
 | some d=>simp only[kU,eM,ez];cases acT d n<;>rfl
def qF(n:Nat)(o:br):tO:=
 match o.guard with
 |none=>⟨λB E T K=>(tQ o.op).f B E T λv a=>(kU n o.dst).f E v λE=>K E a⟩
 | some (s,want)=>⟨λB E T K=>kT E s λg=>
     qw g want ((kU n (some s)).f E (.bool want) λE=>(tQ o.op).f B E T λv a=>(kU n o.dst).f E v λE=>K E a)
      ((kU n (some s)).f E (.bool !want) λE=>(kU n o.dst).f E (.ar []) λE=>K E T) ((kU n (some s)).f E (.ar []) λE=>(kU n o.dst).f E (.ar []) λE=>K E T)⟩
theorem zQ(n:Nat)(o:br)(B:db)(E:EV)(T:S)(K:EV→S→Bool):(qF n o).f B E T K=nu B n o E T K:=by
 unfold qF nu;cases a:o.guard with
 |none=>simp only[EI,zP]
 |some g=>simp only[EI,zP,eM,mw]
def qG(n:Nat):List br→tO
 |[]=>⟨λ_ E T K=>K E T⟩
 |o::r=>⟨λB E T K=>(qF n o).f B E T λa b=>(qG n r).f B a b K⟩
theorem PI(n:Nat):∀(l:List br)(B:db)(E:EV)(T:S)(K:EV→S→Bool),(qG n l).f B E T K=kM B n l E T K:=by
 intro l;induction l with
 |nil=>intro B E T K;rfl
 | cons o r a=>intro B E T K;simp only[qG,zQ,kM,nu,a]
def pe(n:Nat)(ops:List br):List Nat→tO
 |[]=>⟨λ_ E T K=>K E T⟩
 | i::r=>match ops[i]? with
  |some o=>⟨λB E T K=>(qF n o).f B E T λa b=>(pe n ops r).f B a b K⟩
  |none=>⟨λ_ _ _ _=>false⟩
theorem zR(n:Nat)(ops:List br):∀(l:List Nat)(B:db)(E:EV)(T:S)(K:EV→S→Bool),(pe n ops l).f B E T K=nw B n ops l E T K:=by
 intro l;induction l with
 |nil=>intro B E T K;rfl
 | cons i r a=>
  intro B E T K;simp only[pe,nw];cases ops[i]? with
  |none=>rfl
  |some o=>simp only[zQ,a]
def tS(o:br):EG:=
 match o.op with
 | .load n agg x=>⟨λE T X=>cv x E λx=>kT E (o.dst.getD 0) λd=>and (kO (qB T n agg x) d) X⟩
 | .lookup kk zero ok m k=>⟨λE T X=>and (kO (f_ T.ah kk zero ok (m.val E) (k.val E)) (dm E (o.dst.getD 0))) X⟩
 | .gS m=>⟨λE T X=>and (kO (kz T.ah (m.val E)) (dm E (o.dst.getD 0))) X⟩
 | .gT x=>⟨λE T X=>and (kO (abstr T.ah (x.val E)) (dm E (o.dst.getD 0))) X⟩
 |_=>⟨λ_ _ X=>X⟩
theorem EJ(o:br)(E:EV)(T:S)(X:Bool):(tS o).f E T X=(oU T E o&&X):=by unfold tS oU;cases o.op<;>simp only[o8,adj,o9,mw,zB]<;>rfl
def pf(ops:List br):List Nat→EG
 |[]=>⟨λ_ _ X=>X⟩
 | l :: r=>match ops[l]? with
  | some o=>(match o.guard with
    |none=>⟨λE T X=>(tS o).f E T ((pf ops r).f E T X)⟩
    |some (s,want)=>⟨λE T X=>and (kT E s λg=>yX g want ((tS o).f E T true)) ((pf ops r).f E T X)⟩)
  |none=>⟨λE T X=>(pf ops r).f E T X⟩
theorem PJ(ops:List br):∀(l:List Nat)(E:EV)(T:S)(X:Bool),(pf ops l).f E T X=oV ops E T X l:=by
 intro l;induction l with
 |nil=>intro E T X;rfl
 | cons i r a=>
  intro E T X;simp only[pf,oV];cases ops[i]? with
  |none=>simp only[a,adj]
  | some o=>
   simp only[tw];cases o.guard with
   |none=>simp only[a,EJ]
   |some g=>simp only[a,EJ,Bool.and_true,mw]
def tU(n:Nat)(ops:List br)(a:List Nat):List (List Nat×Nat×List Nat)→tO
 |[]=>pe n ops a
 | (b,e,st)::r=>match ops[e]? with
  |some o=>⟨λB E T K=>(pe n ops b).f B E T λc g=>(qF n o).f B c g λh d=>(pf ops st).f c d ((tU n ops a r).f B h d K)⟩
  |none=>⟨λB E T K=>(pe n ops b).f B E T λ_ _=>false⟩
theorem PK(n:Nat)(ops:List br)(a:List Nat):∀(l:List (List Nat×Nat×List Nat)) (B:db) (E:EV) (T:S) (K:EV→S→Bool),(tU n ops a l).f B E T K=oW B n ops a l E T K:=by
 intro l;induction l with
 |nil=>intro B E T K;exact zR _ _ _ _ _ _ _
 | cons p r b=>
  obtain⟨c,e,st⟩:=p;intro B E T K;simp only[tU,oW];cases ops[e]? with
  |none=>simp only[zR]
  |some o=>simp only[zR,zQ,PJ,b]
def pg(n:Nat):List Nat→PD
 |[]=>⟨λE _ K=>K E⟩
 |t::r=>cond (acT t n) ⟨λE s K=>acS (motive:=λ_=>Bool) ((pg n r).f ((t,.bot)::E) [] K) (λv q _=>(pg n r).f ((t,v)::E) q K) s⟩ ⟨λE s K=>(pg n r).f E s.tail K⟩
theorem PM(n:Nat):∀(l:List Nat)(E:EV)(s:List I)(K:EV→Bool),(pg n l).f E s K=K (ia n E l s):=by
 intro l;induction l with
 |nil=>intro E s K;cases s<;>rfl
 | cons t r a=>
  intro E s K;simp only[pg,ia,ez];cases acT t n with
  |true=>cases s<;>simp only[cond_true,a,List.headD_nil,List.headD_cons,List.tail_nil,List.tail_cons]
  |false=>simp only[cond_false,a]
def qH(E:EV):List Nat→(List I→Bool)→Bool
 |[],K=>K []
 |t::r,K=>kT E t λv=>qH E r λvs=>K (v::vs)
theorem EK(E:EV):∀(l:List Nat)(K:List I→Bool),qH E l K=K (hd E l)
 |[],K=>rfl
 |t::r,K=>by rw[qH,mw,EK E r];rfl
def lH(ks:List Nat):EV→EV
 |[]=>[]
 |(t,v)::E=>cond (gA t ks) (lH ks E) ((t,v)::lH ks E)
def tV(ks:List Nat)(E:EV):(EV→Bool)→Bool:=acS (motive:=λ_=>(EV→Bool)→Bool) (λK=>K []) (λp _ a K=>adh (motive:=λ_=>Bool) (λt v=>cond (gA t ks) (a K) (a λE=>K ((t,v)::E))) p) E
theorem zS(ks:List Nat):∀(E:EV)(K:EV→Bool),tV ks E K=K (lH ks E)
 |[],K=>rfl
 | (t,v)::E,K=>by show cond (gA t ks) (tV ks E K) (tV ks E λE=>K ((t,v)::E))=_;rw[zS ks E,zS ks E,lH];cases gA t ks<;>rfl
theorem EL:∀(t:Nat)(l:List Nat),gA t l=decide (t∈l)
 |t,[]=>rfl
 | t,s::r=>by
  rw[gA,nb,EL t r];by_cases h:t=s
  ·simp[h]
  ·simp[h]
theorem zT(ks:List Nat):∀(E:EV)(i:Nat),dm (lH ks E) i=if i∈ks then .bot else dm E i
 |[],i=>by simp[lH,dm]
 | (t,v)::E,i=>by
  rw[lH,EL,tm];by_cases h:t∈ks
  · simp only[h,decide_true,cond_true,zT ks E i];by_cases hi:i∈ks
    ·rw[af hi,af hi]
    ·rw[ak hi,ak hi,ak (show ¬t=i from λe=>hi (e▸h))]
  · simp only[h,decide_false,cond_false,tm,zT ks E i];by_cases e:t=i
    ·subst e;rw[af rfl,ak h,af rfl]
    ·rw[ak e,ak e]
theorem EM:∀(ks:List Nat)(a:Env)(i:Nat),(Rb.dW a ks).getD i .bot=if i∈ks then .bot else a.getD i .bot
 |[],a,i=>by simp[Rb.dW]
 | t :: r,a,i=>by
  rw[Rb.dW,EM r];by_cases b:i∈r
  ·rw[af b,af (acn _ b)]
  · rw [ak b];by_cases e:t=i
    · subst e;rw[af aco,abi,aao];simp only[aR];split<;>rfl
    ·rw[ak (by simp only[acm,not_or];exact⟨λh=>e h.symm,b⟩),abi,aaT e,←abi]
theorem EN:∀(ks:List Nat)(a:Env),(Rb.dW a ks).length=a.length
 |[],a=>rfl
 |t::r,a=>by rw[Rb.dW,EN r];simp
theorem c0.aO{n:Nat}{E:EV}{a:Env}(h:c0 n E a)(ks:List Nat):c0 n (lH ks E) (Rb.dW a ks):=⟨by rw[EN];exact h.1,λi=>by rw[zT,EM,h.2 i]⟩
def EO(id:Nat)(N:EV→S→Bool)(X:ea→EV→S→Bool):ea→EV→S→Bool
 | .exit a,E,T=>cond (acO a id) (N E T) (X (.exit a) E T)
 |e,E,T=>X e E T
def EP(F:List I→S→(List I→S→Bool)→Bool)(n:Nat):List I→S→Bool:=acX (motive:=λ_=>List I→S→Bool) (λ_ _=>false) (λ_ a s T=>F s T a) n
def hJ(fuel n:Nat):eE→PC
 | .skip=>⟨λ_ E T N _=>N E T⟩
 | .region ops=>⟨λB E T N _=>(qG n ops).f B E T N⟩
 | .draw ops _ a_ last=>⟨λB E T N _=>(tU n ops last a_).f B E T N⟩
 | .seq a b=>⟨λB E T N X=>(hJ fuel n a).f B E T (λE T=>(hJ fuel n b).f B E T N X) X⟩
 | .cond x a b=>⟨λB E T N X=>cv x E λx=>oO x true ((hJ fuel n a).f B E T N X) ((hJ fuel n b).f B E T N X)⟩
 | .block id a=>⟨λB E T N X=>(hJ fuel n a).f B E T N (EO id N X)⟩
 | .loop vs ks a=>⟨λB E T N X=>tV ks E λd=>qH E vs λs=>EP (λs T K=>(pg n vs).f d s λE=>(hJ fuel n a).f B E T (λe c=>qH e vs λs=>K s c) X) fuel s T⟩
 | .exit id=>⟨λ_ E T _ X=>X (.exit id) E T⟩
 | .ret=>⟨λ_ E T _ X=>X .ret E T⟩
 | .freeze t a=>⟨λB E T N X=>kT E t λv=>jA T (zN T v) λv c=>(kU n (some t)).f E v λE=>(hJ fuel n a).f B E c N X⟩
 | .join vs ks a b=>⟨λ_ _ _ _ _=>false⟩
 | .gW vs ks ops b=>⟨λ_ _ _ _ _=>false⟩
theorem PN(hB:eA Φ B)(bQ:h8 Φ)(fuel n:Nat):∀(c:eE){E:EV}{q:Env}{T:S}{N:EV→S→Bool}{X:ea→EV→S→Bool}{Q:ea→Env→AH→Prop},c0 n E q→(hJ fuel n c).f B E T N X=true →
  (∀p aJ d,c0 n p aJ→N p d=true→Q .normal aJ d.ah)→(∀x p aJ d,x ≠ .normal→c0 n p aJ→X x p d=true→Q x aJ d.ah)→dy Φ c q T.ah Q:=by
 have qI:∀(l:List br){E:EV}{q:Env}{T:S}{N:EV→S→Bool}{Q:Env→AH→Prop},c0 n E q→(qG n l).f B E T N=true→(∀p aJ d,c0 n p aJ→N p d=true→Q aJ d.ah)→fM Φ l q T.ah Q:=by intro l E q T N Q g h o;rw[PI]at h;refine yO bQ g (yW (Q:=λp H'=>∃d,H'=d.ah∧N p d=true) hB h λe d h=>⟨d,rfl,h⟩) λp aJ H' r j=>?_;obtain⟨d,rfl,j⟩:=j;exact o _ _ _ r j
 intro c;induction c with
 |skip=>intro E q T N X Q g h o k;exact o _ _ _ g h
 |region ops=>intro E q T N X Q g h o k;exact qI ops g h o
 | draw ops pr a_ last=>intro E q T N X Q g h o k;simp only[hJ,PK]at h;refine D0 bQ g (D6 (Q:=λp H'=>∃d,H'=d.ah∧N p d=true) hB h λe d h=>⟨d,rfl,h⟩) λp aJ H' r j=>?_;obtain⟨d,rfl,j⟩:=j;exact o _ _ _ r j
 | seq a b y z=>
  intro E q T N X Q g h o k;simp only[hJ]at h;simp only[dy];refine y g h (λp aJ d r j=>z r j o k) λx p aJ d u r j=>?_;cases x with
  |normal=>exact absurd rfl u
  |exit i=>exact k _ _ _ _ u r j
  |ret=>exact k _ _ _ _ u r j
 |join vs ks a b y z=>intro E q T N X Q g h o k;cases h
 | cond x a b y z=>intro E q T N X Q g h o k;simp only[hJ,o9]at h;rw[←o8,tn g]at h;exact yV h (λh=>y g h o k) λh=>z g h o k
 | block id a w=>
  intro E q T N X Q g h o k;simp only[hJ]at h;simp only[dy];refine w g h o λx p aJ d u r j=>?_;cases x with
  |normal=>exact absurd rfl u
  | exit i=>
   simp only[EO,nb]at j;dsimp only;by_cases hi:i=id
   ·rw[af hi];simp only[hi,decide_true,cond_true]at j;exact o _ _ _ r j
   ·rw[ak hi];simp only[hi,decide_false,cond_false]at j;exact k _ _ _ _ u r j
  |ret=>exact k _ _ _ _ u r j
 | loop vs ks a w=>
  intro E q T N X Q g h o k;simp only[hJ,zS,EK,PM]at h;simp only[dy];have main:∀(m:Nat)(s:List I)(T:S),EP (λs T K=>(hJ fuel n a).f B (ia n (lH ks E) vs s) T (λp d=>K (hd p vs) d) X) m s T=true →
    av (λ(s:List I×AH) (K:List I×AH→Prop)=>
      dy Φ a (fi (dW q ks) vs s.1) s.2 λe aJ H'=>match e with
       | .normal=>K (du aJ vs,H')
       |e=>Q e aJ H') (s,T.ah):=by
   intro m;induction m with
   |zero=>intro s T h;cases h
   | succ m A=>
    intro s T h;refine av.step ?_;refine w ((g.aO ks).fi vs s) h (λp aJ d r j=>?_) λx p aJ d u r j=>?_
    · dsimp only;rw[←r.du vs];exact A _ _ j
    · cases x with
      |normal=>exact absurd rfl u
      |exit i=>exact k _ _ _ _ u r j
      |ret=>exact k _ _ _ _ u r j
  rw[←g.du vs];exact main fuel _ _ h
 |exit id=>intro E q T N X Q g h o k;exact k _ _ _ _ (by intro h;cases h) g h
 |ret=>intro E q T N X Q g h o k;exact k _ _ _ _ (by intro h;cases h) g h
 | freeze t a w=>intro E q T N X Q g h o k;simp only[hJ,mw,EE,Pz,zP,eM]at h;simp only[dy];rw[g.2 t]at h;exact jZ (DX _ _) h λv d j=>w (g.set t v) j o k
 |gW vs ks ops b w=>intro E q T N X Q g h o k;cases h
def nC:List iu→PE
 |[]=>⟨λ_ _ K=>K []⟩
 | .tmp t::r=>⟨λE T K=>kT E t λv=>(nC r).f E T λvs=>K (v::vs)⟩
 | .cell t n agg::r=>⟨λE T K=>kT E t λx=>pd agg (qB T n agg x) λv=>(nC r).f E T λvs=>K (v::vs)⟩
theorem PO:∀(rs:List iu)(E:EV)(T:S)(K:List I→Bool),(nC rs).f E T K=oX E T rs K:=by
 intro rs;induction rs with
 |nil=>intros;rfl
 |cons r rs a=>intro E T K;cases r<;>simp only[nC,oX,a,mw,EH,zB]
def tW(vs:List I)(Q:fm)(T:S):Bool:=
 match vs with
 |[v]=>Q v T
 |vs=>Q (.ar vs) T
theorem PQ(vs:List I)(Q:fm)(T:S):tW vs Q T=Q (jU vs) T:=by
 cases vs with
 |nil=>rfl
 |cons v r=>cases r<;>rfl
def PR(rs:List iu)(Q:fm):ea→EV→S→Bool
 | .exit _,_,_=>false
 |_,E,T=>(nC rs).f E T λvs=>tW vs Q T
def initK:List I→Nat→(EV→Bool)→Bool
 |[],_,K=>K []
 |a::r,i,K=>initK r (adg i) λE=>K ((i,a)::E)
theorem ER:∀(l:List I)(i:Nat)(K:EV→Bool),initK l i K=K (lB l i)
 |[],_,_=>rfl
 |a::r,i,K=>by rw[initK,ER r];rfl
def tX(fuel:Nat)(f:aF):qE:=⟨λB args T Q=>and (acY args.length f.ntmps) (initK args 0 λE=>(hJ fuel f.ntmps f.body).f B E T (λE T=>(nC f.results).f E T λvs=>tW vs Q T) (PR f.results Q))⟩
theorem PS(hB:eA Φ B)(bQ:h8 Φ){fuel:Nat}{f:aF}{args:List I}{T:S}{K:fm}(h:(tX fuel f).f B args T K=true){Q:ad}(e:∀v a,K v a=true→Q v a.ah):mW Φ f args T.ah Q:=by
 simp only[tX,Z3,ER]at h;have hle:=acZ h.1;have g:c0 f.ntmps (lB args 0) (args++ZU (f.ntmps-args.length) .bot):=by
  refine⟨by simp;omega,λi=>?_⟩;rw[yN];simp only[acV,bz,acW];simp only[abi];by_cases hi:i<args.length
  ·rw[abB hi]
  · rw[abC (by omega),acf (by omega),acJ];split<;>rfl
 have fin:∀(b:EV)(aJ:Env)(a:S),c0 f.ntmps b aJ→(nC f.results).f b a (λvs=>tW vs K a)=true→jo aJ a.ah f.results λvs=>Q (jU vs) a.ah:=by intro b aJ a d c;rw[PO]at c;rw[←yP d];exact yZ c λvs h=>e _ _ (by rwa [PQ]at h)
 refine PN hB bQ fuel _ f.body g h.2 (λb aJ a d c=>fin b aJ a d c) λx b aJ a j d c=>?_;cases x with
 |normal=>exact absurd rfl j
 |exit i=>cases c
 |ret=>exact fin b aJ a d c
def tY(a:Nat→Option qE)(B:db):db:=λk args T Q=>match a k with
 |some c=>c.f B args T Q
 |none=>false
def qJ(C:Ctx)(fuel:Nat):List Hint→Nat→Option qE
 |[],_=>none
 |h::r,k=>cond (acO h.dz k) (some (tX fuel (A C h))) (qJ C fuel r k)
theorem ET{C:Ctx}{fuel:Nat}:∀{L:List Hint}{k:Nat}{c:qE},qJ C fuel L k=some c→∃h,h∈L∧h.dz=k∧c=tX fuel (A C h)
 |[],_,_,h=>by cases h
 | p::r,k,c,h=>by
  unfold qJ at h;cases a:acO p.dz k with
  | true=>rw[a]at h;simp only[cond_true,aad.injEq]at h;exact⟨p,aco,ac1 a,h.symm⟩
  | false=>rw[a]at h;obtain⟨f,hf,hc⟩:=ET (L:=r) h;exact⟨f,acn _ hf,hc⟩
theorem PT{P:Program}{a:Nat→Option (List I)}{L:List Hint}(hL:hg (lD P a) L=true)(fuel:Nat):y2 (b7 (lD P a)) (tY (qJ (lD P a) fuel L)):=by
 intro B hB k args T K h Q d;unfold tY at h;split at h
 · rename_i c hc;obtain⟨hi,hm,hk,rfl⟩:=ET hc;have hs:mW (b7 (lD P a)) (A (lD P a) hi) args T.ah Q:=PS hB (mi _) h d;refine⟨C6 (yA _) hs,λf hf G w Vs e g i=>?_⟩;have j:f=k:=by
    simp only[lD]at hf;cases b:iS P k with
    |true=>rw[b]at hf;simpa using hf.symm
    |false=>rw[b]at hf;cases hf
   subst j;exact DO (Ek P a) (by rw[←hk];exact Em hL _ hm) hs e g i
 ·cases h
end
end Rb

namespace Rb
open Go
noncomputable section
def forced(b:Bool):Bool:=adi (motive:=λ_=>Bool) false true b
theorem PU(b:Bool):forced b=b:=by cases b<;>rfl
theorem c4{b:Bool}(h:forced b=true):b=true:=by rwa [PU]at h
def fP:List (Nat×List I×I)→oZ
 |[],_,_=>none
 |e::r,k,args=>cond (acO e.1 k) (cond (I.e4 e.2.1 args) (some e.2.2) (fP r k args)) (fP r k args)
theorem qK{Φ:ae}:gz Φ (fP []):=λ_ _ _ h=>by cases h
end
end Rb

namespace Rb
open Go
variable{C:Ctx}{key:Nat}{H:AH}{Q:ad}
mutual
def I.cB:I→I
 | .aj cs=> .aj (I.ch cs)
 | .ab _ len cs=> .ab .dead len (I.ch cs)
 | .fn k cs=> .fn k (I.ch cs)
 | .iface t v=> .iface t (I.cB v)
 | .agg cs=> .agg (I.ch cs)
 | .ar cs=> .ar (I.ch cs)
 |v=>v
def I.ch:List I→List I
 |[]=>[]
 |c::r=>I.cB c::I.ch r
end
theorem my:∀cs:List I,I.ch cs=cs.map I.cB
 |[]=>rfl
 |c::r=>by rw[I.ch,my r];rfl
theorem lI{cs:List I}{j:Nat}{c:I}(h:(I.ch cs)[j]?=some c):∃d,cs[j]?=some d∧c=d.cB:=by
 rw[my,aaP]at h;cases hc:cs[j]? with
 |none=>rw[hc]at h;cases h
 |some d=>rw[hc]at h;simp at h;exact⟨d,rfl,h.symm⟩
theorem qL(cs:List I):(I.ch cs).length=cs.length:=by rw[my,acz]
theorem R.cB{F:cJ}{w:World}{G:bj}{c:I}{V:Value}(h:R F w G c V):R F w G c.cB V:=by
 induction h with
 |bot V=>exact .bot V
 |bool b=>exact .bool b
 |int k n=>exact .int k n
 |str s=>exact .str s
 |dx=>exact .dx
 |ptr id off h=>exact .ptr id off h
 | aj cells b o Vs h _ g=>
  refine .aj _ b o Vs (λj c i=>?_) λj c i=>?_
  ·obtain⟨d,e,rfl⟩:=lI i;exact h j d e
  ·obtain⟨d,e,rfl⟩:=lI i;exact g j d e
 |eI=>exact .eJ none 0
 |eJ a cap=>exact .eJ a cap
 | ab tk len cells b o cap Vs ht hle h _ g=>
  refine .ab .dead len _ b o cap Vs trivial hle (λj c i=>?_) λj c i=>?_
  ·obtain⟨d,e,rfl⟩:=lI i;exact h j d e
  ·obtain⟨d,e,rfl⟩:=lI i;exact g j d e
 |row id off len sz cap h hle hc=>exact .row id off len sz cap h hle hc
 |map id h=>exact .map id h
 |eO=>exact .eO
 | fn key bE f Vs hk hf hl _ g=>refine .fn key _ f Vs hk hf (by rw[qL];exact hl) λj c V hc l=>?_;obtain⟨d,e,rfl⟩:=lI hc;exact g j d V e l
 | kr key k bE f Vs hk hf hl _ g=>refine .kr key k _ f Vs hk hf (by rw[qL];exact hl) λj c V hc l=>?_;obtain⟨d,e,rfl⟩:=lI hc;exact g j d V e l
 |fB=>exact .fB
 |iface t v V _ g=>exact .iface t _ V g
 |fC=>exact .fC
 | agg cs Vs hl _ g=>refine .agg _ Vs (by rw[qL];exact hl) λj c V hc l=>?_;obtain⟨d,e,rfl⟩:=lI hc;exact g j d V e l
 | ar cs Vs hl _ g=>refine .ar _ Vs (by rw[qL];exact hl) λj c V hc l=>?_;obtain⟨d,e,rfl⟩:=lI hc;exact g j d V e l
theorem b7.cB{args:List I}(h:b7 C key args H (λv H'=>Q v.cB H')):b7 C key args H Q:=by refine⟨by obtain⟨v,H',a⟩:=h.1;exact⟨_,_,a⟩,λf hf G w Vs b c d=>?_⟩;refine acb (h.2 f hf G w Vs b c d) λe w' he=>?_;obtain⟨V,v,H',G',e1,g,hv,r⟩:=he;exact⟨V,v.cB,H',G',e1,g,hv.cB,r⟩
theorem b7.tZ{args:List I}(h:b7 C key (I.ch args) H Q):b7 C key args H Q:=by refine⟨h.1,λf hf G w Vs b e a=>?_⟩;refine h.2 f hf G w Vs b e ⟨by rw[qL];exact a.1,λj c V hc g=>?_⟩;obtain⟨d,i,rfl⟩:=lI hc;exact(a.2 j d V i g).cB
end Rb

namespace Rb
open Go
variable{C:Ctx}{B:db}
noncomputable section
def qM:List (List I×I)→List I→Option I
 |[],_=>none
 |e::r,a=>cond (I.e4 e.1 a) (some e.2) (qM r a)
def ph(k:Nat):List (Nat×List I×I)→List (List I×I)
 |[]=>[]
 |e::r=>cond (acO e.1 k) ((e.2.1,e.2.2)::ph k r) (ph k r)
theorem EW(k:Nat)(args:List I):∀L:List (Nat×List I×I),qM (ph k L) args=fP L k args
 |[]=>rfl
 | e::r=>by
  have a:=EW k args r;unfold ph fP;cases acO e.1 k with
  |false=>exact a
  | true=>
   simp only[cond_true,qM];cases I.e4 e.2.1 args with
   |false=>exact a
   |true=>rfl
def zU(L:List (Nat×List I×I)):oZ:=λk args=>match ph k L with
 |[]=>none
 |l=>qM l (I.ch args)
theorem PV{L:List (Nat×List I×I)}(h:gz (b7 C) (fP L)):gz (b7 C) (zU L):=by
 intro k args v hm H Q a;have:qM (ph k L) (I.ch args)=some v:=by
  unfold zU at hm;split at hm
  ·cases hm
  ·exact hm
 rw[EW]at this;exact b7.tZ (h k _ v this H Q a)
theorem PW(aq:bT C)(hB:eA (b7 C) B){k:Nat}{args:List I}{v:I}(a:I.bF args=true)(hv:v.bh=true)(h:B k args S.mt (λu _=>u.cB.same v)=true)(H:AH)(Q:ad)(b:Q v H):b7 C k args H Q:=b7.tz aq (b7.cB (Q:=λu _=>u.same v=true) (ON hB (K:=λu=>u.cB.same v) h)) a H Q λu _ hu=>by rw[I.tf _ _ hu];exact⟨hv,b⟩
def zV(B:db)(e:Nat×List I×I):Bool:=and (I.bF e.2.1) (and e.2.2.bh (B e.1 e.2.1 S.mt (λu _=>u.cB.same e.2.2)))
def kV(B:db):List (Nat×List I×I)→Bool
 |[]=>true
 |e::r=>and (zV B e) (kV B r)
theorem PX(aq:bT C)(hB:eA (b7 C) B){e:Nat×List I×I}{L:List (Nat×List I×I)}(h:zV B e=true)(hL:gz (b7 C) (fP L)):gz (b7 C) (fP (e::L)):=by
 obtain⟨c,a0,v0⟩:=e;simp only[zV,Z3]at h;obtain⟨h1,d,f⟩:=h;intro k args v hm H Q a;unfold fP at hm;dsimp only at hm;cases b:acO c k with
 |false=>rw[b]at hm;exact hL k args v hm H Q a
 | true=>
  rw[b]at hm;obtain rfl:=ac1 b;cases hs:I.e4 a0 args with
  |false=>rw[hs]at hm;exact hL c args v hm H Q a
  | true=>rw[hs]at hm;simp only[cond_true,aad.injEq]at hm;subst hm;obtain rfl:=I.nq _ _ hs;exact PW aq hB h1 d f H Q a
theorem mz{C:Ctx}(aq:bT C){B:db}(hB:eA (b7 C) B){L:List (Nat×List I×I)}(hL:gz (b7 C) (fP L)):∀{N:List (Nat×List I×I)},kV B N=true→gz (b7 C) (fP (N++L))
 |[],_=>hL
 | e::N,h=>by simp only[kV,Z3]at h;exact PX aq hB h.1 (mz aq hB hL h.2)
end
end Rb

namespace Rb
open Go
def qN:List Int:=[1,10,100,1000,10000,100000,1000000,10000000,100000000,1000000000,10000000000,100000000000,1000000000000,10000000000000,100000000000000,1000000000000000,10000000000000000,100000000000000000,1000000000000000000,10000000000000000000]
def EY:List I:=qN.map (I.int .u64)
end Rb
