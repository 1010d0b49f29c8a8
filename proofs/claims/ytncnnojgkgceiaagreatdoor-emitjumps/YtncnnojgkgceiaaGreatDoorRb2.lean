/- A part of the proof (part 2): see the last text. -/
import Derived.Test.YtncnnojgkgceiaaGreatDoorRb1
import Derived.Orders
import Derived.Carry
import Derived.OpenVars
import Derived.OpenShut
import Derived.ProofKit
import Derived.ChangeOld
import Derived.KernelRfl
set_option linter.unusedVariables false
set_option linter.unusedSimpArgs false
open Array renaming getElem?_eq_some_iff→abd, getElem?_setIfInBounds_ne→ac4, range→abx, replicate→ac_, size_setIfInBounds→ac3
open BitVec renaming ofInt→KT
open Bool renaming and_eq_true→aaz, and_self→ady, eq_false_iff→ac7, eq_iff_iff→acS, false_eq_true→acq, or_eq_true→aaA, rec→adP, true_and→adQ, xor→ado
open Go.Act renaming put→ac0
open Go.Calls renaming mono→acL
open Go.DataW renaming TrodAll→adj
open Go.Edge renaming on→acZ
open Go.Instr renaming alloc→aby, loadAt→abn, makeSlice→abC, sureAddr→aaR
open Go.IntKind renaming bits→aaH, i64→abE, signed→aaG, wrap→abF
open Go.Region renaming binds→acY, ready→adb, wanted→ac1
open Go.Region.Mode renaming any→ac9
open Go.Result renaming andThen_ok→ach
open Go.Sem renaming run_bind→acg, run_pure→acp
open Go.World renaming block_lt_of_cell?→abc, cell?_of_block→abb
open Int renaming eq_ofNat_of_zero_le→abD, natCast_nonneg→adL, ofNat_lt→adM, ofNat→adB
open List renaming all_cons→adk, all_eq_true→abt, any_eq_true→ac8, cons_append→acu, countP_cons→ac2, drop_succ_cons→adA, getD_eq_getElem?_getD→abQ, getElem?_append_left→ab8, getElem?_append_right→ab9, getElem?_drop→aaw, getElem?_eq_getElem→abm, getElem?_eq_none→acO, getElem?_eq_some_iff→aat, getElem?_map→abl, getElem?_replicate→adh, getElem?_set_ne→abp, getElem?_set_self→abo, getElem?_set→aaV, getElem?_take→aav, length_map→ac6, lookup_cons→adi, mapM_cons→adg, map_cons→abT, map_map→ads, mem_cons_of_mem→acV, mem_cons_self→acW, mem_cons→acU, mem_filter→ac5, mem_map→ada, mem_of_getElem?→adl, mem_range→acR, range→abk, rec→adq, replicate→VR, set_eq_of_length_le→ade
open Nat renaming add→adC, beq→adm, ble→adw, blt→adr, div→adF, eq_of_beq_eq_true→adz, land→adH, le_of_ble_eq_true→adx, le_of_not_lt→acQ, le_refl→hT, lor→adI, lt_of_le_of_lt→adK, lt_succ_self→adn, lt_trichotomy→adf, mod→adG, mul→adE, not_lt_zero→adt, rec→adv, sub_zero→adu, sub→adD, succ→adN, xor→adJ, zero_add→abg
open Option renaming map_some→aaL, map→adp, some→aaK
open Prod renaming rec→adO
namespace Rb
open Go
variable{F:cJ}{Q:Exit→Act→World→Prop}{x:Nat×Nat}{w0 w':World}{i b cap sz bytes:Nat}{op:dh}{al:List bA}{az:List Nat}{v:J}{G0 G':bn}{P:Program}{cs zero:List J}{ao:bA}{H':AH}
def kP(ops:Array Oper)(x:Option (Nat×Bool))(y:Option (Nat×Bool)):Bool:=
 match x,y with
 |none,none=>true
 |some (j,want),some (s,a)=>want==a&&((ops[j]?).bind (·.dst))==some s
 |_,_=>false
def hD(C:Ctx)(ops:Array Oper):List Oper→List bA→Bool
 |[],[]=>true
 |o::r,a::s=>o.dst==a.dst&&cw C o.op a.op&&kP ops o.guard a.guard&&hD C ops r s
 |_,_=>false
def gu:List bA→List Nat
 |[]=>[]
 |o::r=>o.dst.toList++(match o.guard with|some (s,_)=>[s]|none=>[])++gu r
def dW:eF→List Nat
 | .region ops=>gu ops
 | .draw ops _ _ _=>gu ops
 | .seq a b=>dW a++dW b
 | .join _ _ a b=>dW a++dW b
 | .cond _ a b=>dW a++dW b
 | .block _ a=>dW a
 | .loop _ _ a=>dW a
 | .freeze t a=>t::dW a
 | .hx _ _ ops b=>gu ops++dW b
 |_=>[]
def tn(ops:Array Oper)(pr:List (List Nat)):Bool:=(abk ops.size).all λi=>match ops[i]? with
 | some o=>
  let es:=(o.after.toList.filter (acY .any)).map acZ
  es.all (λj=>decide (j<i))&&(bW pr i).all λj=>es.contains j||es.any λk=>(bW pr k).contains j
 |none=>false
def tq(ks vs:List Nat)(az:List Nat):Bool:=az.all λt=>ks.contains t||vs.contains t
def qt(C:Ctx)(ops:Array Oper):List Oper→eF→Bool
 |l,.region al=>hD C ops l al
 |l,.hx vs ks al b=>hD C ops (l.take al.length) al&&tq ks vs (gu al)&&qt C ops (l.drop al.length) b
 |_,_=>false
def dx(C:Ctx):Code→eF→Bool
 | .skip,.skip=>true
 | .region _ ops false,.region al=>hD C ops ops.toList al
 | .region _ ops true,.draw al pr bf last=>hD C ops ops.toList al&&tn ops pr&&tj al pr bf last&&C.P.follows .mixedOrders
 | .seq a b,.seq x y=>dx C a x&&dx C b y
 | .seq a b,.join vs ks x y=>dx C a x&&dx C b y&&tq ks vs (dW x)
 | .cond c a b,.cond x p q=>b9 C c x&&dx C a p&&dx C b q
 | .block id a,.block d x=>id==d&&dx C a x
 | .loop a,.loop vs ks x=>dx C a x&&tq ks vs (dW x)
 | .exit id,.exit d=>id==d
 | .ret,.ret=>true
 | .region _ ops false,.hx vs ks al b=>qt C ops ops.toList (.hx vs ks al b)
 |c,.freeze t x=>dx C c x
 |_,_=>false
def dt(az:List Nat)(a b:Act):Prop:=b.tmps.size=a.tmps.size∧∀t,t∉az→b.tmps[t]?=a.tmps[t]?
theorem dt.refl(az:List Nat)(a:Act):dt az a a:=⟨rfl,λ_ _=>rfl⟩
theorem dt.trans{a b c:Act}(h:dt az a b)(k:dt az b c):dt az a c:=⟨k.1.trans h.1,λt ht=>(k.2 t ht).trans (h.2 t ht)⟩
theorem dt.mono{az bs:List Nat}{a b:Act}(h:dt az a b)(hs:∀t,t∈az→t∈bs):dt bs a b:=⟨h.1,λt ht=>h.2 t λc=>ht (hs t c)⟩
theorem dt.put(a:Act)(d:Option Tmp)(V:Value):dt d.toList a (a.put d V):=by
 cases d with
 |none=>exact dt.refl _ _
 | some d=>refine⟨by simp[ac0],λt ht=>?_⟩;simp only[Option.toList_some,List.mem_singleton]at ht;simp only[ac0];rw[Array.getElem?_setIfInBounds,ai (λe=>ht e.symm)]
section
variable{C:Ctx}{w:World}{G:bn}{H:AH}{env:Env}{a:Act}
theorem aR.bP(h:aR C.F w G env a.tmps)(d:Option Tmp){V:Value}(hv:R C.F w G v V):aR C.F w G (Rb.bP env d v) (a.put d V).tmps:=by
 cases d with
 |none=>exact h
 |some d=>exact h.set d hv
theorem aR.same{Vs:Array Value}(h:aR F w G cs Vs){t:Nat}(hv:cs[t]?=some v):aR F w G (cs.set t v) Vs:=by
 refine⟨by simp[h.1],λj c V hc a=>?_⟩;by_cases b:t=j
 · subst b;rw[abo (aat.1 hv).1]at hc;cases hc;exact h.2 t v V hv a
 · rw[abp b]at hc;exact h.2 j c V hc a
theorem Oper.DW{o:Oper}{n1 n2:Act→World→Prop}(h:o.wp P a w n1 Q)(b:∀a w,n1 a w→n2 a w):o.wp P a w n2 Q:=by
 unfold Oper.wp at h ⊢;cases g:(execOp a.eval o).run P w with
 | halt i w'=>rw[g]at h;cases i<;>first|exact h|exact h.elim
 | ok x w'=>
  rw[g]at h;cases x with
  |value v=>exact b _ _ h
  |skip=>exact b _ _ h
  |defer d=>exact b _ _ h
  | enter f args=>
   refine acL h λe j he=>?_;cases e with
   |returned v=>exact b _ _ he
   |panicked c=>exact he
   |outgrown=>exact he
  |row r args=>exact Rows.mono h λv j hv=>b _ _ hv
  |_=>exact h.elim
theorem put_defers(d:Option Tmp)(V:Value):(a.put d V).defers=a.defers:=by cases d<;>rfl
theorem Oc{ops:Array Oper}{rest:List Oper}{o:Oper}(b:o.guard=none)(h:o.wp P a w (wpList P ops Q rest) Q):wpList P ops Q (o::rest) a w:=by unfold wpList;rw[af (by simp[ac1,b])];exact .inl h
theorem DX(U:j2 C){N:List Deferred}{ops:Array Oper}{Q:Exit→Act→World→Prop}{K:Env→AH→Prop}{w0:World}{G0:bn}{H0:AH}{a0:Act}{az:List Nat}{rest:List Oper} :
  ∀ (l:List Oper) (al:List bA) (env:Env) (H:AH) (G:bn) (w:World) (a:Act),hD C ops l al=true→hr (ae C) al env H K→dE C w G H→Rel C.F w G H→aR C.F w G env a.tmps→a.defers=N →
   Step w0 G0 H0 w G H→dt az a0 a→(∀t,t∈gu al→t∈az) →
   (∀aI H' G' n w',K aI H'→dE C w' G' H'→Rel C.F w' G' H'→aR C.F w' G' aI n.tmps→n.defers=N→Step w0 G0 H0 w' G' H'→dt az a0 n→wpList C.P ops Q rest n w') →
   wpList C.P ops Q (l++rest) a w:=by
 intro l;induction l with
 | nil=>
  intro al env H G w a p h i q he r u hk _ x;cases al with
  |nil=>exact x env H G a w h i q he r u hk
  |cons _ _=>simp[hD]at p
 | cons o l D=>
  intro al env H G w a p h i q he r u hk O x;cases al with
  |nil=>simp[hD]at p
  | cons ao al=>
   simp only[hD,aaz,bq]at p;obtain⟨⟨⟨z,W⟩,e⟩,E⟩:=p;have I:∀t,t∈gu al→t∈az:=λt ht=>O t (by simp[gu,ht]);have J:∀t,t∈o.dst.toList→t∈az:=λt ht=>O t (by rw[z]at ht;simp[gu];left;simpa using ht);have step:∀(A:Env)(Y:Act),Y=a→aR C.F w G A a.tmps→b4 (ae C) A H (λv H'=>hr (ae C) al (bP A ao.dst v) H' K) ao.op→o.wp C.P a w (wpList C.P ops Q (l++rest)) Q:=by intro A Y _ R X;refine Oper.DW (DK U W i q R X) λn w' Z=>?_;obtain⟨v,H',G',V,rfl,S,hv,y,hs⟩:=Z;rw[←z]at S;exact D al _ H' G' w' _ E S (i.step hs) y ((R.mono hs.toGLe).bP o.dst hv) (by rw[put_defers];exact r) (u.trans hs) (hk.trans ((dt.put a o.dst V).mono J)) I x
   cases k:o.guard with
   | none=>
    rw[k]at e;have f:ao.guard=none:=by
     cases f:ao.guard with
     |none=>rfl
     |some _=>rw[f]at e;simp[kP]at e
    simp only[hr,f]at h;exact Oc k (step env a rfl he h)
   | some g=>
    obtain⟨j,want⟩:=g;rw[k]at e;cases f:ao.guard with
    |none=>rw[f]at e;simp[kP]at e
    | some g'=>
     obtain⟨s,ab⟩:=g';rw[f]at e;simp only[kP,aaz,bq]at e;obtain⟨rfl,hs⟩:=e;simp only[hr,f]at h;have get:∀c,env.getD s .bot=c→c ≠ .bot→env[s]?=some c:=by
      intro c d hc;rw[abQ]at d;cases T:env[s]? with
      |none=>rw[T]at d;exact absurd d.symm hc
      |some c=>rw[T]at d;simp at d;rw[d]
     unfold aN at h;split at h
     · rename_i b d;have m:=get _ d (by simp);obtain⟨V,L,y⟩:=he.get m;obtain rfl:=y.h5;have B:yielded ops a.tmps j=some b:=by simp[yielded,hs,L]
       by_cases M:b=want
       · subst M;rw[af rfl]at h;rw[acu];unfold wpList;rw[af (by simp[ac1,k,B])];exact .inl (step _ a rfl (he.same m) h)
       · rw[ai M]at h;have aa:b=!want:=by cases b<;>cases want<;>simp at M ⊢
         subst aa;rw[acu];unfold wpList;rw[ai (by simp[ac1,k,B])];rw[←z]at h;exact D al _ H G w _ E h i q ((he.same m).bP o.dst oK) (by rw[put_defers];exact r) u (hk.trans ((dt.put a o.dst undef).mono J)) I x
     · rename_i d;have m:=get _ d (by simp);obtain⟨V,L,y⟩:=he.get m;obtain rfl:=y.Dm;have B:yielded ops a.tmps j=none:=by simp[yielded,hs,L]
       rw[acu];unfold wpList;rw[ai (by simp[ac1,k,B])];rw[←z]at h;exact D al _ H G w _ E h i q ((he.same m).bP o.dst oK) (by rw[put_defers];exact r) u (hk.trans ((dt.put a o.dst undef).mono J)) I x
     ·exact h.elim
theorem DY(d:j2 C){c:List Deferred}{ops:Array Oper}{Q:Exit→Act→World→Prop}{K:Env→AH→Prop}{w0:World}{G0:bn}{H0:AH}{a0:Act}{az:List Nat}
  (l:List Oper) (al:List bA) (env:Env) (H:AH) (G:bn) (w:World) (a:Act) (e:hD C ops l al=true) (h:hr (ae C) al env H K) (f:dE C w G H) (g:Rel C.F w G H) (he:aR C.F w G env a.tmps) (i:a.defers=c)
   (j:Step w0 G0 H0 w G H) (hk:dt az a0 a) (k:∀t,t∈gu al→t∈az)
   (m:∀aI H' G' b w',K aI H'→dE C w' G' H'→Rel C.F w' G' H'→aR C.F w' G' aI b.tmps→b.defers=c→Step w0 G0 H0 w' G' H'→dt az a0 b→Q .normal b w') :
   wpList C.P ops Q l a w:=by
 have:=DX (rest:=[]) d l al env H G w a e h f g he i j hk k m;rwa [List.append_nil]at this
theorem Od{ops:Array Oper}:∀{l:List Oper}{al:List bA},hD C ops l al=true→l.length=al.length∧∀(i:Nat)(o:Oper),l[i]?=some o→∃ao,al[i]?=some ao∧o.dst=ao.dst∧cw C o.op ao.op=true∧kP ops o.guard ao.guard=true:=by
 intro l;induction l with
 |nil=>intro al h;cases al<;>simp[hD]at h ⊢
 | cons o l b=>
  intro al h;cases al with
  |nil=>simp[hD]at h
  | cons ao al=>
   simp only[hD,aaz,bq]at h;obtain⟨⟨⟨c,d⟩,e⟩,f⟩:=h;obtain⟨h1,g⟩:=b f;refine⟨by simp[h1],λi j a=>?_⟩;cases i with
   |zero=>simp at a;subst a;exact⟨ao,rfl,c,d,e⟩
   |succ i=>exact g i j (by simpa using a)
theorem DZ:∀{al:List bA}{i:Nat},al[i]?=some ao→∀t,ao.dst=some t→t∈gu al:=by
 intro al;induction al with
 |nil=>intro i h;simp at h
 | cons x al a=>
  intro i h t ht;cases i with
  |zero=>simp at h;subst h;simp[gu,ht]
  |succ i=>simp only[gu,List.mem_append];exact .inr (a (by simpa using h) t ht)
theorem Oe(A:j2 C){ops:Array Oper}{Q:Exit→Act→World→Prop}{N:Act→World→Prop}{q:ab}{o:Oper}(B:ops[i]?=some o)(u:o.dst=ao.dst)(D:cw C o.op ao.op=true)
  (d:kP ops o.guard ao.guard=true) (h:h6 (ae C) ao env H q) (r:dE C w G H) (x:Rel C.F w G H) (he:aR C.F w G env a.tmps)
  (y:∀v V H' G' w',q v H'→dE C w' G' H'→R C.F w' G' v V→Rel C.F w' G' H'→Step w G H w' G' H'→N (a.put ao.dst V) w'):wpOp C.P ops Q i N a w:=by
 unfold wpOp;rw[B];dsimp only;have step:b4 (ae C) env H q ao.op→o.wp C.P a w N Q:=by intro E;refine Oper.DW (DK A D r x he E) λL w' I=>?_;obtain⟨v,H',G',V,rfl,K,hv,f,hs⟩:=I;rw[u];exact y v V H' G' w' K (r.step hs) hv f hs
 unfold h6 at h;cases l:o.guard with
 | none=>
  rw[l]at d;have k:ao.guard=none:=by
   cases k:ao.guard with
   |none=>rfl
   |some _=>rw[k]at d;simp[kP]at d
  rw[k]at h;rw[af (by simp[ac1,l])];exact .inl (step h)
 | some g=>
  obtain⟨j,want⟩:=g;rw[l]at d;cases k:ao.guard with
  |none=>rw[k]at d;simp[kP]at d
  | some g'=>
   obtain⟨s,M⟩:=g';rw[k]at d;simp only[kP,aaz,bq]at d;obtain⟨rfl,hs⟩:=d;rw[k]at h;dsimp only at h;obtain⟨b,e,h⟩:=h;have get:∀c,env.getD s .bot=c→c ≠ .bot→env[s]?=some c:=by
    intro c e hc;rw[abQ]at e;cases z:env[s]? with
    |none=>rw[z]at e;exact absurd e.symm hc
    |some c=>rw[z]at e;simp at e;rw[e]
   cases b with
   | true=>
    have m:=get _ (J.yy e) (by simp);obtain⟨V,n,f⟩:=he.get m;obtain rfl:=f.h5;have p:yielded ops a.tmps j=some want:=by simp[yielded,hs,n]
    rw[af rfl]at h;rw[af (by simp[ac1,l,p])];exact .inl (step h)
   | false=>
    rw[jt]at h;have hw:ac1 o (yielded ops a.tmps)=false:=by
     rcases J.Dg e with t|t
     · have m:=get _ t (by simp);obtain⟨V,n,f⟩:=he.get m;obtain rfl:=f.h5;have p:yielded ops a.tmps j=some (!want):=by simp[yielded,hs,n]
       simp[ac1,l,p]
     · have m:=get _ t (by simp);obtain⟨V,n,f⟩:=he.get m;obtain rfl:=f.Dm;have p:yielded ops a.tmps j=none:=by simp[yielded,hs,n]
       simp[ac1,l,p]
    rw[ai (by simp[hw]),u];exact y _ _ H G w h r oK x (Step.refl _ _ _)
theorem Of{p a:Nat→Bool}:∀{l:List Nat},(∀x,a x=true→p x=true)→(∃x∈l,p x=true∧a x=false)→l.countP a<l.countP p:=by
 have le:∀{l:List Nat},(∀x,a x=true→p x=true)→l.countP a≤l.countP p:=λ{l} h=>List.countP_mono_left λx _=>h x;intro l;induction l with
 |nil=>rintro _ ⟨x,b,_⟩;cases b
 | cons y l e=>
  intro h ⟨x,b,h1,d⟩;rw[ac2,ac2];rcases acU.1 b with rfl|b
  · rw[h1,d];have:=le (l:=l) h;simp;omega
  · have:=e h ⟨x,b,h1,d⟩;by_cases c:a y=true
    ·rw[c,h y c];omega
    · simp at c;rw[c];simp;omega
theorem Step.drawn{w:World}{G:bn}{H:AH}{n:Nat}(b:w.drawn≤n)(h:Rel F w G H):Rel F {w with drawn:=n} G H∧Step w G H {w with drawn:=n} G H:=by
 have a:GLe w G {w with drawn:=n} G:=⟨hT _,λ_ _=>rfl,λ_ _=>rfl,λ_ _ h=>h,λ_ _ _ _ h=>h⟩
 exact ⟨⟨h.n,h.over,λj=>(h.obj j).aO a (λhl=>h.gS hl) (λ_=>rfl) λhl k hf=>hf,h.eW,h.eX⟩,
   {a with size:=hT _,os:=rfl,tape:=rfl,output:=rfl,dr:=b,dv:=λ_ _ _=>rfl,owned:=λi hi _=>⟨i,hi,rfl⟩,eY:=λ_ _ h=> .inl h}⟩
def dX(al:List bA)(Pd:List Nat)(env:Env):Env:=(abk env.length).map λj=>if Pd.any (λp=>cP al p==some j)then .bot else env.getD j .bot
theorem jx(al:List bA)(Pd:List Nat)(env:Env)(t:Nat):(dX al Pd env).getD t .bot=if Pd.any (λp=>cP al p==some t)then .bot else env.getD t .bot:=by
 unfold dX;by_cases ht:t<env.length
 ·simp[abQ,ht]
 · have h1:env.getD t .bot = .bot:=by simp[abQ,acO (acQ ht)]
   rw[h1];simp[abQ,ht]
def qu:dh→Nat×Nat→bS
 | .alloc _ zero,_=> .row zero
 | .make _ _ _ zero _ _,x=> .row (VR x.2 zero).flatten
 |_,_=> .map []
def qv:dh→Nat×Nat→Nat→J
 | .alloc _ _,_,i=> .ptr i 0
 | .make _ sz _ _ _ _,x,i=> .row i 0 x.1 sz
 |_,_,i=> .map i
def nk:dh→Nat×Nat→Nat→Value
 | .alloc _ _,_,b=> .pointer (some ⟨b,0,none⟩)
 | .make _ _ _ _ _ _,x,b=> .slice (some ⟨b,0,none⟩) x.1 x.2
 |_,_,b=> .map (some b)
def mq(F:cJ)(w:World)(G:bn):dh→Nat×Nat→Nat→Nat→Prop
 | .alloc _ zero,_,b,cap=>∃(a:Array Value) (e:TypeId),w.heap[b]?=some (.cells a e (0,0))∧a.size=cap∧aR F w G zero a
 | .make _ sz _ zero _ _,x,b,cap=>(∃(a:Array Value) (e:TypeId),w.heap[b]?=some (.cells a e (0,0))∧a.size=cap∧aR F w G (VR x.2 zero).flatten a)∧x.1≤x.2∧x.2*sz=cap
 |_,_,b,_=>∃clock:Nat,w.heap[b]?=some (.map #[] clock)
theorem D0(a:kO op)(h:mq F w G op x b cap):b<w.heap.size:=by
 rcases a with⟨zero,rfl⟩|rfl|⟨_,_,_,_,_,rfl⟩
 ·obtain⟨_,_,h,_⟩:=h;exact(abd.1 h).1
 ·obtain⟨_,h⟩:=h;exact(abd.1 h).1
 ·obtain⟨⟨_,_,h,_⟩,_⟩:=h;exact(abd.1 h).1
theorem D1(j:kO op)(h:mq F w G op x b cap)(i:GLe w G w' G')(a:w'.heap[b]?=w.heap[b]?):mq F w' G' op x b cap:=by
 rcases j with⟨zero,rfl⟩|rfl|⟨_,_,_,_,_,rfl⟩
 ·obtain⟨d,e,h1,f,g⟩:=h;exact⟨d,e,a.trans h1,f,g.mono i⟩
 ·obtain⟨c,h⟩:=h;exact⟨c,a.trans h⟩
 ·obtain⟨⟨d,e,h1,f,g⟩,k⟩:=h;exact⟨⟨d,e,a.trans h1,f,g.mono i⟩,k⟩
theorem Og(o:kO op)(h:mq F w G op x b cap)(n:GLe w G w G')(hl:G'.loc i=b)(hc:G'.cap i=cap)(hf:∀j,¬G'.fz b j):e8 F w G' i (qu op x):=by
 rcases o with⟨zero,rfl⟩|rfl|⟨_,_,_,_,_,rfl⟩
 · obtain ⟨d,e,h1,f,g⟩:=h;exact ⟨d,e,by rw[hl];exact h1,by rw[hc];exact f,λj=>by rw[hl];exact hf j,λj c a=>by obtain⟨V,l,m⟩:=g.get a;exact⟨V,l,m.mono n⟩⟩
 · obtain⟨c,h⟩:=h;exact⟨#[],c,by rw[hl];exact h,rfl,λj=>by rw[hl];exact hf j,λj k v a=>by simp at a⟩
 · obtain ⟨⟨d,e,h1,f,g⟩,_⟩:=h;exact ⟨d,e,by rw[hl];exact h1,by rw[hc];exact f,λj=>by rw[hl];exact hf j,λj c a=>by obtain⟨V,l,m⟩:=g.get a;exact⟨V,l,m.mono n⟩⟩
theorem Oh(a:kO op)(h:mq F w0 G0 op x b cap)(hi:i<G.n)(hl:G.loc i=b)(hc:G.cap i=cap):R F w G (qv op x i) (nk op x b):=by
 subst hl hc;rcases a with⟨zero,rfl⟩|rfl|⟨_,_,_,_,_,rfl⟩
 ·exact .ptr i 0 hi
 ·exact .map i hi
 · obtain⟨_,h1,c⟩:=h;exact .row _ _ _ _ _ hi h1 (by rw[abg];exact c)
theorem Oi{Φ:ad}{env:Env}{K:ab}(b:kO op)(c:iz env op=some x)(h:b4 Φ env H K op):K (qv op x H.n) (H.push (qu op x)):=by
 rcases b with⟨zero,rfl⟩|rfl|⟨_,_,_,_,_,rfl⟩
 · simp only[b4,aw,aQ,aT,aaK.injEq,Prod.mk.injEq]at h;obtain⟨v,H',⟨rfl,rfl⟩,h⟩:=h;exact h
 ·exact h
 · obtain⟨y,a,h⟩:=DT h;rw[c]at a;cases a;exact h
theorem Oj{F:cJ}{t e:TypeId}{a:TypeInfo}{z:Value}(ht:P.underlying t=some (.slice e))(hi:P.info? e=some a)(hs:a.size=sz)(h:a.bytes=bytes)(j:a.zero=some z)
  {n' c':Nat} (l:n'≤c') (m:(bytes:Int)*(c':Int)≤281474976710656) (n:(c':Int)≤9223372036854775807) (k:zero.length=sz) :
  (abC t (.int .i64 n') (.int .i64 c')).run P w = .ok (.slice (some ⟨w.heap.size,0,none⟩) n' c') (w.alloc (.cells ((abx (c'*zero.length)).map λi=>z.cells[i%z.cells.size]!) e)):=by
 have w1:abE.wrap (n':Int)=n':=by simp[abF,aaH,aaG];omega
 have w2:abE.wrap (c':Int)=c':=by simp[abF,aaH,aaG];omega
 have b:¬(281474976710656<(a.bytes:Int)*(c':Int)):=by rw[h];omega
 have c:¬((n':Int)<0):=by omega
 have d:¬((c':Int)<0):=by omega
 have f:¬(c'<n'):=by omega
 rw[k];subst hs;by_cases g:c'*a.size=0
 ·simp[abC,run_underlying ht,asInt,asIntOf,typeInfo,Go.sizeOf,hi,w1,w2,b,c,d,f,g,range_zero,newRow]
 ·simp[abC,run_underlying ht,asInt,asIntOf,typeInfo,Go.sizeOf,zeroValue,hi,j,w1,w2,b,c,d,f,g,newRow]
theorem Ol{o:Oper}{l c:aS}(j:iu C w G)(k:aR C.F w G env a.tmps)(d:cw C o.op (.make true sz bytes zero l c)=true)(b:iz env (.make true sz bytes zero l c)=some x) :
  ∃(p:Obj) (cap:Nat),(execOp a.eval o).run C.P w = .ok (.value (nk (.make true sz bytes zero l c) x w.heap.size)) (w.alloc p)∧∀(w2:World)(f:bn),GLe w G w2 f→w2.heap[w.heap.size]?=some p→mq C.F w2 f (.make true sz bytes zero l c) x w.heap.size cap:=by
 simp only[cw]at d;split at d
 · rename_i t ol Q v;simp only[aaz]at d;obtain⟨⟨h1,y⟩,g⟩:=d;split at g
   · rename_i e A;obtain⟨inf,z,B,hs,h,D,R,E⟩:=yY (F:=C.F) g;have H:=kM (C:=C) (w:=w) (G:=G) E;have I:aR C.F w G zero z.cells:=by simpa using H
     have q:=ca j k h1;have r:=ca j k y;simp only[iz]at b;split at b
     · rename_i n m e1 J;split at b
       · rename_i hc;obtain⟨s,k1,k2,K,u⟩:=hc;cases b;rw[e1]at q;rw[J]at r;have L:=q.eM;have M:=r.eM;obtain⟨n',rfl⟩:=abD s;obtain⟨c',rfl⟩:=abD (Int.le_trans s k1);have N:=Oj (P:=C.P) (w:=w) (F:=C.F) (lz A) B hs h D (n':=n') (c':=c') (by omega) k2 K u;refine⟨.cells ((abx (c'*zero.length)).map λi=>z.cells[i%z.cells.size]!) e,c'*sz,?_,λw2 f O h=>⟨⟨_,_,h,?_,?_⟩,by simp;omega,by simp⟩⟩
         · simp only[execOp,v,L,M];simp[N,nk]
         ·simp[u]
         · simp only[Int.toNat_natCast];exact(oC I c').mono O
       ·cases b
     ·cases b
   ·cases g
 ·cases d
def tt(C:Ctx)(al:List bA)(w0 w:World)(G:bn)(H:AH)(a:Act)(i b:Nat)(x:Nat×Nat):Prop:=
 ∃ (t:Nat) (op:dh) (cap:Nat),al[i]?=some ⟨some t,op,none⟩∧kO op∧(t<a.tmps.size→a.tmps[t]?=some (nk op x b))∧mq C.F w G op x b cap ∧
  w0.heap.size≤b∧(∀k,(H.o k).live=true→G.loc k≠b)∧∀j,¬G.fz b j
theorem tt.step(h:tt C al w0 w G H a i b x)(hs:Step w G H w' G' H')(d:Option Tmp)(V:Value)(o:∀t,cP al i=some t→d≠some t):tt C al w0 w' G' H' (a.put d V) i b x:=by
 obtain⟨t,op,cap,h1,c,l,m,p,f,q⟩:=h;have n:b<w.heap.size:=D0 c m;refine⟨t,op,cap,h1,c,λht=>?_,D1 c m hs.toGLe (hs.dv b n f),p,λk hk e=>?_,λj hf=>?_⟩
 · cases g:d with
   |none=>rw[g]at ht;exact l ht
   | some r=>rw[g]at ht;have s:r≠t:=λe=>o t (by simp[cP,h1]) (by rw[g,e]);simp only[ac0]at ht ⊢;rw[ac3]at ht;rw[ac4 s];exact l ht
 · obtain⟨j,u,v⟩:=hs.owned k hk (by rw[e];exact n);exact f j u (v.trans e)
 · rcases hs.eY b j hf with hf|y|⟨k,hk,e⟩
   ·exact q j hf
   ·omega
   ·exact f k hk e
structure Way(C:Ctx)(al:List bA)(pr:List (List Nat))(last:List Nat)(K:Env→AH→Prop)(w0:World)(G0:bn)(H0:AH)(a0:Act)
  (bf:List (List Nat×Nat×List Nat)) (S:Nat→Bool) (Pd:List Nat) (bl:Nat→Nat) (ag:Nat→Nat×Nat) (env:Env) (H:AH) (G:bn) (a:Act) (w:World):Prop where
 inv:Inv (ae C) al pr last K bf S env H
 sep:∀p∈Pd,S p=false∧fa al pr p=true∧∀k∈bW pr p,S k=true∨k∈Pd
 qw:∀p∈Pd,tt C al w0 w G H a p (bl p) (ag p)
 args:∀p∈Pd,∀t op,al[p]?=some ⟨some t,op,none⟩→iz env op=some (ag p)
 inj:∀p∈Pd,∀q∈Pd,bl p=bl q→p=q
 nn:dE C w G H
 rel:Rel C.F w G H
 oS:aR C.F w G (dX al Pd env) a.tmps
 defers:a.defers=[]
 step:Step w0 G0 H0 w G H
 aO:dt (gu al) a0 a
theorem D2{pr:List (List Nat)}(j:Good al pr){q i t':Nat}{a:dh}{o:bA}{v:J}(b:al[q]?=some ⟨some t',a,none⟩)(c:fa al pr q=true)(k:al[i]?=some o)
  (hi:i∉bW pr q∨fa al pr i=true) (l:i≠q) (m:q∉bW pr i):iz (bP env o.dst v) a=iz env a:=by
 apply tm;intro s hs;cases n:o.dst with
 |none=>rfl
 | some d =>
  simp only[bP];by_cases e:d=s
  · subst e;exfalso;have p:cP al i=some d:=by simp[cP,k,n]
    rcases j.reads q _ d i b (by simp[gn,hs]) p with h|⟨_,h⟩
    · rcases hi with hi|hi
      ·exact hi h
      · obtain ⟨t2,x,r,t⟩:=mm hi;obtain⟨t3,y,f,u⟩:=mm c;rw[b]at f;cases f;rcases u with⟨zero,rfl⟩|rfl|⟨_,_,_,_,_,rfl⟩
        ·simp[bU]at hs
        ·simp[bU]at hs
        · obtain⟨z,g,w⟩:=DO c b i h;rw[r]at g;cases g;exact oP t w
    · rcases h with h|h
      ·exact l h
      ·exact m h
  ·rw[abQ,abp e,abQ]
theorem Way.settle{pr:List (List Nat)}{B:List Nat}{K:Env→AH→Prop}{w0:World}{G0:bn}{H0:AH}{a0:Act}(D:Good al pr){bl:Nat→Nat}{ag:Nat→Nat×Nat} :
  ∀ (n:Nat) (bf:List (List Nat×Nat×List Nat)) (S:Nat→Bool) (Pd:List Nat) (env:Env) (H:AH) (G:bn),bf.length=n→Way C al pr B K w0 G0 H0 a0 bf S Pd bl ag env H G a w →
   ∃y S' s aI H' G',Way C al pr B K w0 G0 H0 a0 y S' s bl ag aI H' G' a w∧(∀k,(S' k=true∨k∈s)↔(S k=true∨k∈Pd))∧∀p∈s,gV y≠some p:=by
 intro n;induction n with
 | zero=>intro bf S Pd env H G E hw;have:bf=[]:=List.length_eq_zero_iff.1 E;subst this;exact⟨[],S,Pd,env,H,G,hw,λk=>Iff.rfl,λp f h=>by cases h⟩
 | succ n ac =>
  intro bf S Pd env H G E hw;by_cases P:∃p∈Pd,gV bf=some p
  · obtain ⟨p, f,F⟩:=P;obtain⟨ad,ae,ah⟩:=hw.sep p f;obtain⟨_,aF,aj⟩:=y7 hw.inv F;have Q:∀k∈bW pr p,S k=true:=by
     intro k hk;rcases ah k hk with h|h
     ·exact h
     ·exact aj k hk (hw.sep k h).2.1
    obtain⟨t,op,cap,h1,I,ak,R,aG,am,T⟩:=hw.qw p f;have J:=DV (tg C) D hw.inv h1 ad Q (.inr F);rw[af F]at J;simp only[iS]at J;have hinv:=Oi I (hw.args p f t op h1) J;have z:=hw.rel.n;obtain⟨m,an⟩:=hw.rel.yJ (b:=bl p) (c:=cap) am (qu op (ag p)) (λm=>Og I R m (af z.symm) (af z.symm) T);have U:∀i,i≠H.n→(G.more (bl p) cap).loc i=G.loc i:=λi hi=>ai (show ¬i=G.n by omega);have L:(G.more (bl p) cap).loc H.n=bl p:=af z.symm;have W:∀i,i≠H.n→(H.push (qu op (ag p))).o i=H.o i:=λi hi=>ai hi;have X:cP al p=some t:=by simp[cP,h1]
    have hlen:(dX al Pd env).length=env.length:=by simp[dX]
    have ao : Way C al pr B K w0 G0 H0 a0 bf.tail (λk=>k==p||S k) (Pd.filter (λq=>!(q==p))) bl ag (bP env (some t) (qv op (ag p) H.n)) (H.push (qu op (ag p))) (G.more (bl p) cap) a w:=by
     refine⟨hinv,λq d=>?_,λq d=>?_,λq d t' M Y=>?_,λq d ap aq h=>?_,hw.nn.yJ m hw.rel.n T,an,?_,hw.defers,?_,hw.aO⟩
     · obtain ⟨d,u⟩:=ac5.1 d;have v:q≠p:=by simpa using u
       obtain⟨g1,g2,g3⟩:=hw.sep q d;refine⟨by simp[v,g1],g2,λk hk=>?_⟩;rcases g3 k hk with h|h
       ·left;simp[h]
       · by_cases x:k=p
         ·left;simp[x]
         ·right;exact ac5.2 ⟨h,by simp[x]⟩
     · obtain ⟨d,u⟩:=ac5.1 d;have v:q≠p:=by simpa using u
       obtain⟨t',M,ar,k1,Z,k2,au,av,aw,ax⟩:=hw.qw q d;refine⟨t',M,ar,k1,Z,k2,D1 Z au m rfl,av,λk hk e=>?_,λj hf=>ax j hf⟩;by_cases g:k=H.n
       · subst g;rw[L]at e;exact v (hw.inj q d p f e.symm)
       · rw[U k g]at e;rw[W k g]at hk;exact aw k hk e
     · obtain ⟨d,u⟩:=ac5.1 d;have v:q≠p:=by simpa using u
       rw[←hw.args q d t' M Y];exact D2 D Y (hw.sep q d).2.1 h1 (.inr ae) (λe=>v e.symm) λh=>by have:=Q q h;rw[(hw.sep q d).1]at this;cases this
     ·exact hw.inj q (ac5.1 d).1 ap (ac5.1 aq).1 h
     · have hv :=hw.oS.mono m;refine⟨by simp only[dX,bP,ac6,List.length_range,List.length_set];rw[←hv.1,hlen],λj c V hc A=>?_⟩;have aa:j<env.length:=by
        have:=(aat.1 hc).1;simpa[dX,bP]using this
       have r:c=(dX al (Pd.filter (λq=>!(q==p))) (bP env (some t) (qv op (ag p) H.n))).getD j .bot:=by rw[abQ,hc];rfl
       rw[jx]at r;by_cases N:j=t
       · subst N;have ay:(Pd.filter (λq=>!(q==p))).any (λq=>cP al q==some j)=false:=by
          rw[ac7];intro ab;rw[ac8]at ab;obtain⟨q,d,l⟩:=ab;have az:cP al q=some j:=by simpa using l
          have:=D.uniq q p j az X;subst this;simp at d
         rw[ay]at r;simp only[acq,bz,bP,abQ,abo aa,Option.getD_some]at r;subst r;have aA:j<a.tmps.size:=(abd.1 A).1;rw[ak aA]at A;cases A;exact Oh I R (show H.n<G.n+1 by omega) L (af z.symm)
       · have hold:(dX al Pd env).getD j .bot=if(Pd.filter (λq=>!(q==p))).any (λq=>cP al q==some j)then .bot else env.getD j .bot:=by
           rw[jx];have : Pd.any (λq=>cP al q==some j)=(Pd.filter (λq=>!(q==p))).any (λq=>cP al q==some j):=by
            rw[acS,ac8,ac8];constructor
            · rintro⟨q,d,l⟩;refine⟨q,ac5.2 ⟨d,?_⟩,l⟩;have:q≠p:=by
               rintro rfl;rw[X]at l;exact N (by simpa using l:t=j).symm
              simp[this]
            · rintro⟨q,d,l⟩;exact⟨q,(ac5.1 d).1,l⟩
           rw[this]
         have aB:(bP env (some t) (qv op (ag p) H.n)).getD j .bot=env.getD j .bot:=by simp only[bP];rw[abQ,abp (λe=>N e.symm),abQ]
         rw[aB,←hold]at r;have aC:j<(dX al Pd env).length:=by rw[hlen];exact aa
         refine hv.2 j c V ?_ A;rw[r,abQ,abm aC];rfl
     · have hs:=hw.step;refine {hs.toGLe.trans m with size:=hs.size,os:=hs.os,tape:=hs.tape,output:=hs.output,dr:=hs.dr,dv:=hs.dv,owned:=λk hk O=>?_,eY:=λb o hf=>hs.eY b o hf};by_cases g:k=H.n
       · subst g;rw[L]at O;omega
       · rw[U k g]at O ⊢;rw[W k g]at hk;exact hs.owned k hk O
    obtain⟨y,S',s,aI,H',G',r1,aD,aE⟩:=ac bf.tail _ _ _ _ _ (by simp[E]) ao;refine⟨y,S',s,aI,H',G',r1,λk=>(aD k).trans ?_,aE⟩;simp only[aaA,bq,ac5,Bool.not_eq_true',beq_eq_false_iff_ne];constructor
    · rintro((rfl|h)|⟨h,_⟩)
      ·exact .inr f
      ·exact .inl h
      ·exact .inr h
    · rintro (h|h)
      ·exact .inl (.inr h)
      · by_cases x:k=p
        ·exact .inl (.inl x)
        ·exact .inr ⟨h,x⟩
  ·exact⟨bf,S,Pd,env,H,G,hw,λk=>Iff.rfl,λp f h=>P ⟨p,f,h⟩⟩
theorem Om(bj:j2 C){ops:Array Oper}{Q:Exit→Act→World→Prop}{K:Env→AH→Prop}{al:List bA}{pr:List (List Nat)}{bf:List (List Nat×Nat×List Nat)}{aq:List Nat}
  (bk:hD C ops ops.toList al=true) (aB:tn ops pr=true) (a0:tj al pr bf aq=true) (hm:C.P.follows .mixedOrders=true)
  (h:iq (ae C) al aq bf env H K) (bm:dE C w G H) (bo:Rel C.F w G H) (he:aR C.F w G env a.tmps) (bp:a.defers=[])
  (br:∀aI H' G' f w',K aI H'→dE C w' G' H'→Rel C.F w' G' H'→aR C.F w' G' aI f.tmps→f.defers=[]→Step w G H w' G' H'→dt (gu al) a f→Q .normal f w') :
  wpAny C.P ac9 ops Q ops.size (ac_ ops.size false) a {w with drawn:=w.drawn+1}:=by
 obtain⟨hlen,bs⟩:=Od bk;have b9:ops.size=al.length:=by simpa using hlen
 simp only[tj,aaz]at a0;obtain⟨⟨bt,R⟩,hc⟩:=a0;have n:=N7 bt;have a1:∀(i:Nat)(o:Oper),ops[i]?=some o→(∀e∈o.after,acY .any e=true→e.on<i)∧∀j∈bW pr i,∃e∈o.after,acY .any e=true∧(e.on=j∨j∈bW pr e.on):=by
  intro i o A;have hi:i<ops.size:=(abd.1 A).1;unfold tn at aB;rw[abt]at aB;have:=aB i (acR.2 hi);rw[A]at this;simp only[aaz]at this;obtain⟨h1,y⟩:=this;rw[abt]at h1 y;refine⟨λe B R=>?_,λj ar=>?_⟩
  · have:=h1 e.on (ada.2 ⟨e,ac5.2 ⟨by simpa using B,R⟩,rfl⟩);simpa using this
  · have:=y j ar;rw[aaA,ac8]at this;rcases this with h|⟨k,hk,h⟩
    · have au:j∈(o.after.toList.filter (acY .any)).map acZ:=by simpa[List.contains_iff_mem]using h
      obtain⟨e,B,rfl⟩:=ada.1 au;obtain⟨B,T⟩:=ac5.1 B;exact⟨e,by simpa using B,T,.inl rfl⟩
    · obtain⟨e,B,rfl⟩:=ada.1 hk;obtain⟨B,T⟩:=ac5.1 B;exact⟨e,by simpa using B,T,.inr (by simpa using h)⟩
 have main : ∀ (fuel:Nat) (listed:Array Bool) (bf:List (List Nat×Nat×List Nat)) (S:Nat→Bool) (Pd:List Nat) (bl:Nat→Nat) (ag:Nat→Nat×Nat) (aI:Env) (H':AH) (G':bn) (f:Act) (w':World),
   Way C al pr aq K w G H a bf S Pd bl ag aI H' G' f w'→(∀k,listed.getD k false=true↔S k=true∨k∈Pd)→listed.size=ops.size →
   (abk ops.size).countP (λk=>!listed.getD k false)≤fuel→wpAny C.P .any ops Q fuel listed f w':=by
  have done:∀(listed:Array Bool),listed.size=ops.size→adb .any ops listed=[]→∀i,i<ops.size→listed.getD i false=true:=by
   intro listed ad U i;induction i using Nat.strongRecOn with
   | _ i av=>
    intro hi;cases d:listed.getD i false with
    |true=>rfl
    | false=>
     exfalso;have au:i∈adb .any ops listed:=by
      rw[mem_ready];have ah:i<listed.size:=by omega
      refine⟨?_,ops[i],by simp[hi],λe B T=>?_⟩
      ·simpa[ah]using d
      · have:=(a1 i ops[i] (by simp[hi])).1 e B T;exact av e.on this (by omega)
     rw[U]at au;cases au
  have fin:∀(listed:Array Bool)(bf:List (List Nat×Nat×List Nat)) (S:Nat→Bool) (Pd:List Nat) (bl:Nat→Nat) (ag:Nat→Nat×Nat) (aI:Env) (H':AH) (G':bn) (f:Act) (w':World),
    Way C al pr aq K w G H a bf S Pd bl ag aI H' G' f w'→(∀k,listed.getD k false=true↔S k=true∨k∈Pd)→(∀i,i<ops.size→listed.getD i false=true)→Q .normal f w':=by
   intro listed bf S Pd bl ag aI H' G' f w' hw hL W;obtain⟨a2,S',aC,aD,H2,O,r1,aw,bu⟩:=hw.settle n _ _ _ _ _ _ _ rfl;have aE:aC=[]:=by
    cases aE:aC with
    |nil=>rfl
    | cons p r=>
     exfalso;have b:p∈aC:=by rw[aE];exact acW
     cases d:gV a2 with
     | none=>
      obtain⟨e0,e1,D,es,hl,hm,b_,hS,hf,a3,ca,aF,cb⟩:=r1.inv;cases a2 with
      |cons q r=>cases d
      | nil=>
       simp only[fh]at aF;rw[abt]at aF;obtain⟨g1,g2,_⟩:=r1.sep p b;obtain⟨t,op,aj,Y⟩:=mm g2;have bv:p<al.length:=(aat.1 aj).1;have bw:p∈D:=by simpa using aF p (acR.2 bv)
       obtain⟨o,v,A,m,_⟩:=hf p bw g1;rw[aj]at A;cases A;exact oP Y m
     | some e=>
      obtain⟨g1,g2,_⟩:=y7 r1.inv d;have:=W e (by omega);rcases(aw e).2 ((hL e).1 this)with h|h
      ·rw[g1]at h;cases h
      ·exact bu e h d
   subst aE;have bx:∀i,i<al.length→S' i=true:=by
    intro i hi;rcases(aw i).2 ((hL i).1 (W i (by omega)))with h|h
    ·exact h
    ·cases h
   have aG:dX al [] aD=aD:=by apply mo (by simp[dX]);intro t _;rw[jx];rfl
   have hv:=r1.oS;rw[aG]at hv;exact br aD H2 O f w' (Oa r1.inv bx) r1.nn r1.rel hv r1.defers r1.step r1.aO
  intro fuel;induction fuel with
  | zero=>
   intro listed bf S Pd bl ag aI H' G' f w' hw hL ad aH;have W:∀i,i<ops.size→listed.getD i false=true:=by intro i hi;have M:=Nat.le_zero.1 aH;rw[List.countP_eq_zero]at M;simpa using M i (acR.2 hi)
   have aJ:adb .any ops listed=[]:=by
    apply List.eq_nil_iff_forall_not_mem.2;intro i hi;obtain⟨M,o,A,_⟩:=mem_ready.1 hi;have ah:i<ops.size:=(abd.1 A).1;have:=W i ah;have Z:i<listed.size:=by omega
    simp[Z]at M this;rw[M]at this;cases this
   exact⟨aJ,fin listed bf S Pd bl ag aI H' G' f w' hw hL W⟩
  | succ fuel av=>
   intro listed bz bB bC bl ag bD bE bF f w' a4 a5 ad aH;refine⟨λaJ=>fin listed bz bB bC bl ag bD bE bF f w' a4 a5 λi hi=>done listed ad aJ i hi,λi hi=>?_⟩;obtain⟨bf,S,Pd,aI,H',G',hw,aw,a6⟩:=a4.settle n _ _ _ _ _ _ _ rfl;have hL:∀k,listed.getD k false=true↔S k=true∨k∈Pd:=λk=>(a5 k).trans (aw k).symm;obtain⟨M,o,A,W⟩:=mem_ready.1 hi;have ah:i<ops.size:=(abd.1 A).1;have Z:i<listed.size:=by omega
   have aK:listed.getD i false=false:=by simpa[Z]using M
   have X:S i=false:=by
    cases d:S i with
    |false=>rfl
    |true=>have:=(hL i).2 (.inl d);rw[aK]at this;cases this
   have I:i∉Pd:=λd=>by have:=(hL i).2 (.inr d);rw[aK]at this;cases this
   obtain⟨ao,E,a7,m,aL⟩:=bs i o (by simpa using A);have ak:cP al i=ao.dst:=by simp[cP,E]
   obtain⟨a3,bG⟩:=Ob n hw.inv;have bH:∀k,listed.getD k false=true→∀j∈bW pr k,listed.getD j false=true:=by
    intro k hk j ar;rw[hL]at hk ⊢;rcases hk with hk|hk
    ·exact .inl (a3 k hk j ar)
    ·exact(hw.sep k hk).2.2 j ar
   have ax:∀k∈bW pr i,listed.getD k false=true:=by
    intro k hk;obtain⟨e,B,T,aM⟩:=(a1 i o A).2 k hk;have:=W e B T;rcases aM with rfl|aM
    ·exact this
    ·exact bH e.on this k aM
   have a8:∀k,(listed.setIfInBounds i true).getD k false=true↔k=i∨listed.getD k false=true:=by
    intro k;by_cases aN:k=i
    ·subst aN;simp[Z]
    ·rw[getD_set_ne false (λe=>aN e.symm)];simp[aN]
   have a9:(abk ops.size).countP (λk=>!(listed.setIfInBounds i true).getD k false)≤fuel:=by
    refine Nat.lt_succ_iff.1 (Nat.lt_of_lt_of_le (Of (λx d=>?_) ⟨i,acR.2 ah,by rw[aK];rfl,by simp[Z]⟩) aH);by_cases a_:x=i
    ·subst a_;simp[Z]at d
    ·rw[getD_set_ne false (λe=>a_ e.symm)]at d;exact d
   by_cases ba:fa al pr i=true∧gV bf≠some i
   ·
     obtain⟨L,cc⟩:=ba;obtain⟨t,op,aj,Y⟩:=mm L;rw[E]at aj;cases aj;unfold wpOp;rw[A];dsimp only;have aP:o.guard=none:=by
      cases aP:o.guard with
      |none=>rfl
      |some _=>rw[aP]at aL;simp[kP]at aL
     rw[af (by simp[ac1,aP])];refine .inl ?_;have aa:(∃sz bytes zero l c,op = .make true sz bytes zero l c)→∀k∈bW pr i,S k=true:=by
      rintro⟨sz,bytes,zero,l,c,rfl⟩ k hk;rcases(hL k).1 (ax k hk)with h|h
      ·exact h
      · obtain⟨cd,bb,bI⟩:=DO L E k hk;obtain⟨t2,ce,bJ,bK⟩:=mm (hw.sep k h).2.1;rw[bJ]at bb;cases bb;exact(oP bK bI).elim
     obtain⟨x,bc⟩:=N_ (yU C) n hw.inv E Y X aa;have d:iz (dX al Pd aI) op=some x:=by
      rw[←bc];apply tm;intro s hs;rw[jx];have : Pd.any (λp=>cP al p==some s)=false:=by
       rw[ac7];intro bd;rw[ac8]at bd;obtain⟨p,b,am⟩:=bd;have an:cP al p=some s:=by simpa using am
       obtain⟨g1,g2,g3⟩:=hw.sep p b;have bL:∃sz bytes zero l c,op = .make true sz bytes zero l c:=by
        rcases Y with⟨zero,rfl⟩|rfl|h
        ·simp[bU]at hs
        ·simp[bU]at hs
        ·exact h
       rcases n.reads i _ s p E (by simp[gn,hs]) an with h|⟨_,h⟩
       ·have:=aa bL p h;rw[g1]at this;cases this
       · rcases h with rfl|h
         ·exact I b
         · rcases g3 i h with g|g
           ·rw[X]at g;cases g
           ·exact I g
      rw[this];rfl
     have bM:=hw.oS;obtain ⟨ay,cap,bN,hblk⟩:∃(ay:Obj) (cap:Nat),(execOp f.eval o).run C.P w' = .ok (.value (nk op x w'.heap.size)) (w'.alloc ay)∧∀(w2:World)(O:bn),GLe w' G' w2 O→w2.heap[w'.heap.size]?=some ay→mq C.F w2 O op x w'.heap.size cap:=by
      rcases Y with⟨zero,rfl⟩|rfl|⟨sz,bytes,zero,ol,cf,rfl⟩
      · simp only [cw]at m;split at m
        · rename_i ty aQ;split at m
          · rename_i inf bO;split at m
            · rename_i z bQ;have bR:=kM (C:=C) (w:=w') (G:=G') m;have bS:aR C.F w' G' zero z.cells:=by simpa using bR
              refine⟨.cells z.cells ty,z.cells.size,?_,λw2 O n R=>⟨_,_,R,rfl,bS.mono n⟩⟩;have U:(aby ty true (.tuple #[])).run C.P w' = .ok (.pointer (some ⟨w'.heap.size,0,none⟩)) (w'.alloc (.cells z.cells ty)):=by simp[aby,zeroValue,typeInfo,bO,bQ,newVar,newRow]
              simp[execOp,aQ,U,nk]
            ·cases m
          ·cases m
        ·cases m
      · simp only[cw]at m;split at m
        · rename_i ty r aQ;have U:r=none:=by simpa using m
          subst U;refine⟨.map #[] 0,0,?_,λw2 O n R=>⟨_,R⟩⟩;have U:(Instr.makeMap ty none).run C.P w' = .ok (.map (some w'.heap.size)) (w'.alloc (.map #[] 0)):=rfl;simp[execOp,aQ,U,nk]
        ·cases m
      ·exact Ol hw.nn.1 bM m d
     refine ta bN ?_;have b:=cK.alloc w' ay;obtain⟨bT,N⟩:=hw.rel.Ni b;have bV:o.dst=some t:=a7;rw[bV];refine av _ bf S (i::Pd) (λk=>if k=i then w'.heap.size else bl k) (λk=>if k=i then x else ag k) aI H' G' _ _ ⟨hw.inv,λp u=>?_,λp u=>?_,λp u t' aS ab=>?_,λp u q bX az=>?_,hw.nn.step N,bT,?_,by rw[put_defers];exact hw.defers,hw.step.trans N,hw.aO.trans ((dt.put f (some t) _).mono λs hs=>DZ E s (by simpa[eq_comm]using hs))⟩ ?_ (by simp[ad]) a9
     · rcases acU.1 u with rfl|u
       · exact ⟨X,L,λk hk=>by
           rcases(hL k).1 (ax k hk)with h|h
           ·exact .inl h
           ·exact .inr (acV _ h)⟩
       · obtain⟨g1,g2,g3⟩:=hw.sep p u;exact⟨g1,g2,λk hk=>(g3 k hk).imp id λh=>acV _ h⟩
     · rcases acU.1 u with rfl|u
       · rw [af rfl,af rfl];refine⟨t,op,cap,E,Y,λht=>?_,hblk _ _ N.toGLe b.new,hw.step.size,λk hk=>Nat.ne_of_lt ((hw.rel.obj k).lt hk),λj hf=>?_⟩
         · simp only[ac0]at ht ⊢;rw[ac3]at ht;simp[ht]
         · obtain⟨V,ap⟩:=hw.rel.eX _ _ hf;have:=abc w' _ ap;simp at this
       · have J:p≠i:=λe=>I (e▸u);rw[ai J,ai J];refine(hw.qw p u).step N (some t) _ λs hs e=>?_;have bY:t=s:=aaK.inj e;subst bY;exact J (n.uniq p i t hs (by rw[ak]))
     · rcases acU.1 u with rfl|u
       · rw[af rfl];rw[E]at ab;cases ab;exact bc
       · have J:p≠i:=λe=>I (e▸u);rw[ai J];exact hw.args p u t' aS ab
     · have be:∀q∈Pd,bl q<w'.heap.size:=by
         intro q bZ;obtain⟨_,_,_,_,M,_,b0,_⟩:=hw.qw q bZ;exact D0 M b0
       have bg:=acU.1 u;have bh:=acU.1 bX;by_cases h1:p=i<;>by_cases y:q=i
       ·rw[h1,y]
       · rw[af h1,ai y]at az;have:=be q (bh.resolve_left y);omega
       · rw[ai h1,af y]at az;have:=be p (bg.resolve_left h1);omega
       · rw[ai h1,ai y]at az;exact hw.inj p (bg.resolve_left h1) q (bh.resolve_left y) az
     · have hv:=hw.oS.mono N.toGLe;refine⟨by simpa[dX,ac0]using hv.1,λj c V hc ap=>?_⟩;have b1:j<aI.length:=by
        have:=(aat.1 hc).1;simpa[dX]using this
       have ac:c=(dX al (i::Pd) aI).getD j .bot:=by rw[abQ,hc];rfl
       rw[jx]at ac;by_cases aU:t=j
       · subst aU;have:(i::Pd).any (λq=>cP al q==some t)=true:=by simp[ak]
         rw[this]at ac;simp only[aT]at ac;subst ac;exact .bot _
       · simp only[ac0]at ap;rw[ac4 aU]at ap;have h1:(i::Pd).any (λq=>cP al q==some j)=Pd.any (λq=>cP al q==some j):=by
          rw[List.any_cons,ak];have:(some t==some j)=false:=by simpa using aU
          rw[this,Bool.false_or]
         rw[h1,←jx]at ac;have b2:j<(dX al Pd aI).length:=by simpa[dX]using b1
         refine hv.2 j c V ?_ ap;rw[ac,abQ,abm b2];rfl
     · intro k;rw[a8 k,hL k];simp only[acU];constructor
       · rintro(h|h|h)
         ·exact .inr (.inl h)
         ·exact .inl h
         ·exact .inr (.inr h)
       · rintro(h|h|h)
         ·exact .inr (.inl h)
         ·exact .inl h
         ·exact .inr (.inr h)
   · have L : fa al pr i=false∨gV bf=some i:=by
       by_cases h1:fa al pr i=true
       · by_cases y:gV bf=some i
         ·exact .inr y
         ·exact absurd ⟨h1,y⟩ ba
       ·exact .inl (by simpa using h1)
     have aa:∀k∈bW pr i,S k=true:=by
      intro p b;rcases(hL p).1 (ax p b)with h|h
      ·exact h
      · exfalso;obtain⟨g1,g2,_⟩:=hw.sep p h;rcases L with L|L
        · refine bG p g2 g1 (a6 p h) i (by omega) X b L λk hk=>?_;rcases(hL k).1 (ax k hk)with g|g
          ·exact .inl g
          ·exact .inr ⟨(hw.sep k g).2.1,a6 k g⟩
        · have:=(y7 hw.inv L).2.2 p b g2;rw[g1]at this;cases this
     have aV:=DV (tg C) n hw.inv E X aa L;rw[th]at aV;have agree:∀t∈gn ao,aI.getD t .bot=(dX al Pd aI).getD t .bot:=by
      intro t ht;rw[jx];have : Pd.any (λp=>cP al p==some t)=false:=by
       rw[ac7];intro d;rw[ac8]at d;obtain⟨p,b,am⟩:=d;have an:cP al p=some t:=by simpa using am
       obtain⟨g1,g2,g3⟩:=hw.sep p b;rcases n.reads i ao t p E ht an with h|⟨_,h⟩
       ·have:=aa p h;rw[g1]at this;cases this
       · rcases h with rfl|h
         ·exact I b
         · rcases g3 i h with g|g
           ·rw[X]at g;cases g
           ·exact I g
      rw[this];rfl
     rw[DN agree]at aV;refine Oe bj A a7 m aL aV hw.nn hw.rel hw.oS ?_;intro v V H2 O w2 b3 b4 b5 b6 N;refine av _ _ (λk=>k==i||S k) Pd bl ag _ H2 O _ w2 ⟨b3,λp b=>?_,λp b=>?_,λp b t' aS ab=>?_,hw.inj,b4,b6,?_,by rw[put_defers];exact hw.defers,hw.step.trans N,hw.aO.trans ((dt.put f ao.dst V).mono λs hs=>DZ E s (by simpa[Option.mem_toList,eq_comm]using hs))⟩ ?_ (by simp[ad]) a9
     · obtain⟨g1,g2,g3⟩:=hw.sep p b;have J:p≠i:=λe=>I (e▸b);exact⟨by simp[J,g1],g2,λk hk=>(g3 k hk).imp (λh=>by simp[h]) id⟩
     · have J:p≠i:=λe=>I (e▸b);refine(hw.qw p b).step N ao.dst V λs hs e=>?_;exact J (n.uniq p i s hs (by rw[ak,e]))
     · have J:i≠p:=λe=>I (e▸b);rw[←hw.args p b t' aS ab];exact D2 n ab (hw.sep p b).2.1 E (.inl λh=>by
         rcases(hw.sep p b).2.2 i h with g|g
         ·rw[X]at g;cases g
         ·exact I g) J λh=>by
         have:=aa p h;rw[(hw.sep p b).1]at this;cases this
     · have hv :=hw.oS.mono N.toGLe;have bi:∀t,ao.dst=some t→Pd.any (λp=>cP al p==some t)=false:=by
        intro t ht;rw[ac7];intro d;rw[ac8]at d;obtain⟨p,b,am⟩:=d;have an:cP al p=some t:=by simpa using am
        exact I ((n.uniq p i t an (by rw[ak,ht]))▸b)
       have b7 : dX al Pd (bP aI ao.dst v)=bP (dX al Pd aI) ao.dst v:=by
        apply mo
        ·cases aW:ao.dst<;>simp[dX,bP]
        · intro s _;rw[jx];cases aW:ao.dst with
          |none=>simp only[bP];rw[jx]
          | some t=>
           simp only[bP];by_cases aX:t=s
           · subst aX;rw[bi t aW];by_cases aA:t<aI.length
             · have aY:t<(dX al Pd aI).length:=by simpa[dX]using aA
               simp[abQ,aA,aY]
             · have aY:¬t<(dX al Pd aI).length:=by simpa[dX]using aA
               rw[ade (acQ aA),ade (acQ aY),jx,bi t aW]
           · have h1:(aI.set t v).getD s .bot=aI.getD s .bot:=by
               rw[abQ,abp aX,abQ]
             have y:((dX al Pd aI).set t v).getD s .bot=(dX al Pd aI).getD s .bot:=by rw[abQ,abp aX,abQ]
             rw[h1,y,jx]
       rw[b7];exact hv.bP ao.dst b5
     · intro k;rw[a8 k,hL k];simp only[aaA,bq];constructor
       · rintro(h|h|h)
         ·exact .inl (.inl h)
         ·exact .inl (.inr h)
         ·exact .inr h
       · rintro((h|h)|h)
         ·exact .inl h
         ·exact .inr (.inl h)
         ·exact .inr (.inr h)
 obtain⟨b8,aZ⟩:=Step.drawn (Nat.le_succ w.drawn) bo;refine main ops.size (ac_ ops.size false) bf (λ_=>false) [] (λ_=>0) (λ_=>(0,0)) env H G a _ ⟨N8 n R hc h,λp b=>(by cases b),λp b=>(by cases b),λp b=>(by cases b),λp b=>(by cases b),bm.step aZ,b8,?_,bp,aZ,dt.refl _ _⟩ ?_ (by simp) ?_
 · have aG:dX al [] env=env:=by
     apply mo (by simp[dX]);intro t _;rw[jx];rfl
   rw[aG];exact he.mono aZ.toGLe
 · intro k;by_cases hk:k<ops.size<;>simp[hk]
 ·exact Nat.le_trans (List.countP_le_length) (by simp)
theorem On(d:j2 C){ops:Array Oper}{Q:Exit→Act→World→Prop}{K:Env→AH→Prop}{al:List bA}{pr:List (List Nat)}{bf:List (List Nat×Nat×List Nat)}{c:List Nat}{cn:Nat}
  (e:hD C ops ops.toList al=true) (f:tn ops pr=true) (g:tj al pr bf c=true) (hm:C.P.follows .mixedOrders=true)
  (h:iq (ae C) al c bf env H K) (i:dE C w G H) (j:Rel C.F w G H) (he:aR C.F w G env a.tmps) (k:a.defers=[])
  (l:∀aI H' G' b w',K aI H'→dE C w' G' H'→Rel C.F w' G' H'→aR C.F w' G' aI b.tmps→b.defers=[]→Step w G H w' G' H'→dt (gu al) a b→Q .normal b w') :
  (Code.region cn ops true).wp C.P Q a w:=
 wp_region_any hm (Om d e f g hm h i j he k l)
theorem D3{o:Nat→bS}:∀{cells l:List J}{id:Nat},hn o cells=some (l,id)→∃pre off len sz post cs,cells=pre ++ .row id off len sz::post∧l=pre ++ .ax .dead len ((cs.drop off).take (len*sz))::post∧o id = .row cs∧off+len*sz≤cs.length:=by
 intro cells;induction cells with
 |nil=>intro l id h;cases h
 | cons c r b=>
  intro l id h;unfold hn at h;split at h
  ·rename_i heq;cases heq
  · rename_i j off len sz d heq;cases heq;split at h
    · rename_i cs e;split at h
      · rename_i hle;cases h;exact⟨[],_,_,_,_,cs,rfl,rfl,e,hle⟩
      ·cases h
    ·cases h
  · rename_i c' d _ heq;cases heq;cases a:hn o r with
    |none=>rw[a]at h;cases h
    | some q=>obtain⟨k,m⟩:=q;rw[a]at h;cases h;obtain⟨pre,off,len,sz,post,cs,h1,f,g,i⟩:=b a;exact⟨c::pre,off,len,sz,post,cs,by rw[h1];rfl,by rw[f];rfl,g,i⟩
theorem Rel.Oo{H:AH}{id:Nat}{cs l:List J}(a:Rel F w G H)(b:H.o id = .row cs)(h:e8 F w G id (.row l)):Rel F w G (H.set id (.row l)):=by
 have hl:∀i,((H.set id (.row l)).o i).live=true→(H.o i).live=true:=by
  intro i hi;simp only[AH.set]at hi;split at hi
  ·rename_i e;rw[e,b];rfl
  ·exact hi
 refine⟨a.n,λi hi=>?_,λi=>?_,λi j c hi d=>a.eW i j c (hl i hi) (hl j d),a.eX⟩
 · simp only[AH.set]at hi ⊢;split
   · rename_i e;have:=a.over i hi;rw[e,b]at this;cases this
   ·exact a.over i hi
 · simp only[AH.set];split
   ·rename_i e;rw[e];exact h
   ·exact a.obj i
theorem Oq{x v:J}{X:Value}(m:Rel F w G H)(h:mg H x=some (v,H'))(u:R F w G x X):∃G',Rel F w G' H'∧Step w G H w G' H'∧R F w G' v X:=by
 have key:∀(id:Nat)(cs:List J),H.o id = .row cs→∃G',Rel F w G' (H.set id .gone)∧Step w G H w G' (H.set id .gone) ∧
   ∃Vs:Nat→Value,(∀(j:Nat)(c:J),cs[j]?=some c→G'.fz (G.loc id) j∧w.cell? ⟨G.loc id,j,none⟩=some (Vs j))∧(∀(j:Nat)(c:J),cs[j]?=some c→R F w G' c (Vs j)):=by
  intro id cs r;have A:(H.o id).live=true:=by rw[r];rfl
  have B:=m.gS A;have hk:=m.kill id (m.n▸B);have C:=m.obj id;rw[r]at C;have I:=C.sS;have K:GLe w G w (G.di (G.loc id) 0 cs.length):=⟨hT _,λ_ _=>rfl,λ_ _=>rfl,λ_ _ hf=> .inl hf,λ_ _ _ _ hc=>hc⟩
  have W:∀j,((H.set id .gone).o j).live=true→j≠id∧(H.o j).live=true:=by
   intro j a;simp only[AH.set]at a;split at a
   ·cases a
   ·rename_i L;exact⟨L,a⟩
  refine⟨G.di (G.loc id) 0 cs.length,⟨hk.1.n,hk.1.over,λj=>?_,hk.1.eW,λb o D=>?_⟩,?_,λj=>(w.cell? ⟨G.loc id,j,none⟩).getD undef,λj c a=>?_,λj c a=>?_⟩
  · refine (hk.1.obj j).aO K (λhl=>hk.1.gS hl) (λ_=>rfl) λhl k hf=>?_;rcases hf with hf|⟨hf,_⟩
    ·exact hf
    · obtain⟨h1,s⟩:=W j hl;exact absurd hf (m.eW j id h1 s A)
  · rcases D with D|⟨rfl,_,z⟩
    ·exact m.eX b o D
    · obtain⟨V,f,_⟩:=I o cs[o] (abm z);exact⟨V,by simpa using f⟩
  ·exact {K with size:=hT _,os:=rfl,tape:=rfl,output:=rfl,dr:=hT _,dv:=λ_ _ _=>rfl,owned:=λj hl _=>⟨j,(W j hl).2,rfl⟩,eY:=λb o hf=>hf.imp (λh=>h) λhf=> .inr ⟨id,A,hf.1.symm⟩}
  · obtain⟨V,f,_⟩:=I j c a;rw[abg]at f;exact⟨.inr ⟨rfl,Nat.zero_le _,(aat.1 a).1⟩,by dsimp only;rw[f];rfl⟩
  · obtain⟨V,f,q⟩:=I j c a;rw[abg]at f;dsimp only;rw[f];exact q.mono K
 unfold mg at h;split at h
 · rename_i id o len sz;split at h
   · rename_i cs r;split at h
     · cases h;obtain⟨G',q,g,Vs,h1,s⟩:=key id cs r;refine⟨G',q,g,?_⟩;cases u with
       | row _ _ _ _ cap B hle hc=>
        have dS:∀(j:Nat)(c:J),((cs.drop o).take (len*sz))[j]?=some c→cs[o+j]?=some c:=by
         intro j c a;rw[aav]at a;split at a
         ·rw[aaw]at a;exact a
         ·cases a
        exact .ax _ _ _ _ o cap (λj=>Vs (o+j)) trivial hle (λj c a=>h1 _ c (dS j c a)) λj c a=>s _ c (dS j c a)
     ·cases h
   ·cases h
 · rename_i id o;split at h
   · rename_i cs r;split at h
     · rename_i l p M;split at h
       ·cases h
       · rename_i L;cases h;obtain⟨pre,off,len,sz,post,t,rfl,rfl,Y,hle⟩:=D3 M;obtain⟨G',q,g,Vs,h1,s⟩:=key p t Y;have A:(H.o p).live=true:=by rw[Y];rfl
         have aa:=m.gS A;have ab:G'.loc p=G.loc p:=g.loc p (m.n▸aa);have N:(H.set p .gone).o id = .row (pre ++ .row p off len sz::post):=by simp only[AH.set];rw[ai (λe=>L e.symm)];exact r
         have C:=q.obj id;rw[N]at C;obtain⟨ac,e,ad,ae,af,O⟩:=C;have ag:e8 F w G' id (.row (pre ++ .ax .dead len ((t.drop off).take (len*sz))::post)):=by
          refine⟨ac,e,ad,ae,af,λj c a=>?_⟩;rcases adf j pre.length with z|rfl|ah
          · rw[ab8 z]at a;exact O j c (by rw[ab8 z];exact a)
          · have P:(pre++J.row p off len sz::post)[pre.length]?=some (.row p off len sz):=by simp
            have hc:c = .ax .dead len ((t.drop off).take (len*sz)):=by
             have Q:(pre++J.ax .dead len ((t.drop off).take (len*sz))::post)[pre.length]?=some (.ax .dead len ((t.drop off).take (len*sz))):=by simp
             rw[Q]at a;exact(aaK.inj a).symm
            subst hc;obtain⟨V,f,S⟩:=O _ _ P;refine⟨V,f,?_⟩;cases S with
            | row _ _ _ _ cap B T aj=>
             have dS:∀(j:Nat)(c:J),((t.drop off).take (len*sz))[j]?=some c→t[off+j]?=some c:=by
              intro j c a;rw[aav]at a;split at a
              ·rw[aaw]at a;exact a
              ·cases a
             rw[ab];exact .ax _ _ _ _ off cap (λj=>Vs (off+j)) trivial T (λj c a=>h1 _ c (dS j c a)) λj c a=>s _ c (dS j c a)
          · have e:∀y:J,(pre++y::post)[j]?=post[j-pre.length-1]?:=by
              intro y;rw[ab9 (by omega)];obtain⟨d,U⟩:∃d,j-pre.length=d+1:=⟨j-pre.length-1,by omega⟩
              rw[U];rfl
            rw[e]at a;exact O j c (by rw[e];exact a)
         have hl:∀i,(((H.set p .gone).set id (.row (pre ++ .ax .dead len ((t.drop off).take (len*sz))::post))).o i).live=true→((H.set p .gone).o i).live=true:=by
          intro i hi;by_cases Z:i=id
          ·rw[Z,N];rfl
          ·simp only[AH.set,ai Z]at hi ⊢;exact hi
         refine⟨G',q.Oo N ag,{g with owned:=λi hi D=>g.owned i (hl i hi) D},u.mono g.toGLe⟩
     · cases h;obtain⟨G',q,g,Vs,h1,s⟩:=key id cs r;refine⟨G',q,g,?_⟩;cases u with
       | ptr _ _ B=>exact .ak _ _ o (λj=>Vs (o+j)) (λj c a=>h1 _ c (by rw[aaw]at a;exact a)) λj c a=>s _ c (by rw[aaw]at a;exact a)
   ·cases h
 ·cases h;exact⟨G,m,Step.refl _ _ _,u⟩
 ·cases h;exact⟨G,m,Step.refl _ _ _,u⟩
 · rename_i cells;split at h
   · rename_i l id M;cases h;obtain⟨pre,off,len,sz,post,cs,rfl,rfl,r,hle⟩:=D3 M;obtain⟨G',q,g,Vs,h1,s⟩:=key id cs r;refine⟨G',q,g,?_⟩;obtain⟨Xs,rfl,E⟩:=u.mY;refine .agg _ _ (by have:=E.1;simp at this ⊢;omega) λj c V a f=>?_;rcases adf j pre.length with z|rfl|ah
     · rw[ab8 z]at a;exact(E.2 j c V (by rw[ab8 z];exact a) f).mono g.toGLe
     · have P:(pre++J.row id off len sz::post)[pre.length]?=some (.row id off len sz):=by simp
       have hc:c = .ax .dead len ((cs.drop off).take (len*sz)):=by
        have Q:(pre++J.ax .dead len ((cs.drop off).take (len*sz))::post)[pre.length]?=some (.ax .dead len ((cs.drop off).take (len*sz))):=by simp
        rw[Q]at a;exact(aaK.inj a).symm
       subst hc;have S:=E.2 _ _ V P f;cases S with
       | row _ _ _ _ cap B T aj=>
        have dS:∀(j:Nat)(c:J),((cs.drop off).take (len*sz))[j]?=some c→cs[off+j]?=some c:=by
         intro j c a;rw[aav]at a;split at a
         ·rw[aaw]at a;exact a
         ·cases a
        exact .ax _ _ _ _ off cap (λj=>Vs (off+j)) trivial T (λj c a=>h1 _ c (dS j c a)) λj c a=>s _ c (dS j c a)
     · have e:∀y:J,(pre++y::post)[j]?=post[j-pre.length-1]?:=by
         intro y;rw[ab9 (by omega)];obtain⟨d,U⟩:∃d,j-pre.length=d+1:=⟨j-pre.length-1,by omega⟩
         rw[U];rfl
       rw[e]at a;exact(E.2 j c V (by rw[e];exact a) f).mono g.toGLe
   ·cases h;exact⟨G,m,Step.refl _ _ _,u⟩
 ·cases h
end
end Rb

namespace Rb
open Go
variable{F:cJ}{Vs:Array Value}
section
variable{C:Ctx}{w:World}{G:bn}{H:AH}{env:Env}{a:Act}
theorem tv(h:aR F w G env Vs)(vs:List Nat):∀(j:Nat)(c:J),(dS env vs)[j]?=some c→∃t V,vs[j]?=some t∧(Vs[t]?=some V∧R F w G c V∨c = .bot):=by
 intro j c a;simp only[dS,abl]at a;cases hv:vs[j]? with
 |none=>simp[hv]at a
 | some t=>
  simp[hv]at a;subst a;cases he:env[t]? with
  |none=>exact⟨t,undef,rfl,.inr (by simp)⟩
  | some c=>obtain⟨V,b,d⟩:=h.get he;exact⟨t,V,rfl,.inl ⟨b,by simpa[he]using d⟩⟩
theorem Ot:∀(ks:List Nat){env:Env}{Vs:Array Value},aR F w G env Vs→aR F w G (eB env ks) Vs:=by
 intro ks;induction ks with
 |nil=>intro env Vs h;exact h
 | cons t ks b=>
  intro env Vs h;refine b ⟨by simp[h.1],λj c V hc d=>?_⟩;by_cases a:t=j
  · subst a;rw[aaV]at hc;simp only[aT]at hc;split at hc
    ·cases hc;exact .bot _
    ·cases hc
  · rw[abp a]at hc;exact h.2 j c V hc d
theorem Ou:∀(ks:List Nat)(env:Env),(eB env ks).length=env.length:=by
 intro ks;induction ks with
 |nil=>intro env;rfl
 |cons t ks a=>intro env;rw[eB,a];simp
theorem Ov:∀(ks:List Nat)(env:Env)(t:Nat),t∈ks→∀c,(eB env ks)[t]?=some c→c = .bot:=by
 intro ks;induction ks with
 |nil=>intro env t ht;cases ht
 | cons s ks a=>
  intro env t ht c hc;by_cases h:t∈ks
  ·exact a _ t h c hc
  · have f:t=s:=by rcases acU.1 ht with b|b;exact b;exact absurd b h
    subst f;have key:∀(ks:List Nat)(env:Env),t∉ks→(eB env ks)[t]?=env[t]?:=by
     intro ks;induction ks with
     |nil=>intro env _;rfl
     | cons u ks a=>intro env d;rw[eB,a _ (λh=>d (acV _ h)),abp (λe=>d (by rw[e];exact acW))]
    rw[eB,key ks _ h,aaV]at hc;simp only[aT]at hc;split at hc
    ·cases hc;rfl
    ·cases hc
theorem tw{ks vs az:List Nat}{Vs b:Array Value}(h:aR F w G env Vs)(hc:tq ks vs az=true)(hs:b.size=Vs.size)(o:∀t,t∉az→b[t]?=Vs[t]?)(a:List J)
  (k:∀(j:Nat)(c:J),a[j]?=some c→∃t V,vs[j]?=some t∧(b[t]?=some V∧R F w G c V∨c = .bot)) (hl:a.length=vs.length):aR F w G (hy (eB env ks) vs a) b:=by
 have p:∀(vs:List Nat)(a:List J)(env:Env),env.length=b.size→a.length=vs.length →
   (∀(j:Nat)(c:J),a[j]?=some c→∃t V,vs[j]?=some t∧(b[t]?=some V∧R F w G c V∨c = .bot)) →
   (∀(j:Nat)(c:J)(V:Value),env[j]?=some c→b[j]?=some V→j∈vs∨R F w G c V)→aR F w G (hy env vs a) b:=by
  intro vs;induction vs with
  |nil=>intro a env hle _ _ h;exact⟨hle,λj c V hc f=>(h j c V hc f).resolve_left (by simp)⟩
  | cons t vs q=>
   intro a env hle hl k h;cases a with
   |nil=>simp at hl
   | cons d a=>
    rw[hy];refine q a _ (by simp[hle]) (by simpa using hl) (λj c e=>by obtain⟨t',V,l,i⟩:=k (j+1) c (by simpa using e);exact⟨t',V,by simpa using l,i⟩) λj c V hc f=>?_
    by_cases e:t=j
    · subst e;rw[aaV]at hc;simp only[aT]at hc;split at hc
      · cases hc;obtain⟨t',r,l,i⟩:=k 0 d rfl;simp at l;subst l;rcases i with⟨m,i⟩|rfl
        ·rw[f]at m;cases m;exact .inr i
        ·exact .inr (.bot _)
      ·cases hc
    · rw [abp e]at hc;rcases h j c V hc f with g|g
      · rcases acU.1 g with g|g
        ·exact absurd g.symm e
        ·exact .inl g
      ·exact .inr g
 refine p vs a _ (by rw[Ou,h.1,hs]) hl k λj c V n f=>?_;by_cases e:j∈az
 · have:=abt.1 hc j e;simp at this;rcases this with h1|h1
   ·rw[Ov ks env j h1 c n];exact .inr (.bot _)
   ·exact .inl h1
 · rw[o j e]at f;exact .inr ((Ot ks h).2 j c V n f)
theorem tx(env:Env)(vs:List Nat):(dS env vs).length=vs.length:=by simp[dS]
def hE:gR→Exit→Prop
 | .normal,.normal=>True
 | .exit i,.exit j=>i=j
 | .ret,.ret=>True
 |_,_=>False
theorem Ow(n:j2 C){ops:Array Oper}{Q:Exit→Act→World→Prop}{w0:World}{G0:bn}{H0:AH}{a0:Act}{az:List Nat} :
  ∀ (b:eF) (l:List Oper) (env:Env) (H:AH) (G:bn) (w:World) (a:Act) (K:gR→Env→AH→Prop),qt C ops l b=true→eg (ae C) b env H K→dE C w G H→Rel C.F w G H→aR C.F w G env a.tmps→a.defers=[] →
   Step w0 G0 H0 w G H→dt az a0 a→(∀t,t∈dW b→t∈az) →
   (∀aI H' G' c w',K .normal aI H'→dE C w' G' H'→Rel C.F w' G' H'→aR C.F w' G' aI c.tmps→c.defers=[]→Step w0 G0 H0 w' G' H'→dt az a0 c→Q .normal c w') →
   wpList C.P ops Q l a w:=by
 intro b;induction b with
 | region al=>intro l env H G w a K d h f g he i j hk e k;exact DY n l al env H G w a d h f g he i j hk e k
 | hx vs ks al b p=>intro l env H G w a K d h f g he i j hk e k;simp only[qt,aaz]at d;obtain⟨⟨h1,q⟩,r⟩:=d;rw[←List.take_append_drop al.length l];simp only[eg]at h;refine DX (w0:=w) (G0:=G) (H0:=H) (a0:=a) (az:=gu al) n (l.take al.length) al env H G w a h1 h f g he i (Step.refl _ _ _) (dt.refl _ _) (λ_ ht=>ht) ?_;intro aI H' G' c w' s u v x y o m;have z:=tw (he.mono o.toGLe) q m.1 m.2 (dS aI vs) (tv x vs) (tx _ _);exact p (l.drop al.length) _ H' G' w' c K r s u v z y (j.trans o) (hk.trans (m.mono λt ht=>e t (by simp[dW,ht]))) (λt ht=>e t (by simp[dW,ht])) k
 |_=>intro l env H G w a K d;simp[qt]at d
theorem Ox(ao:j2 C) :
  ∀ (ac:eF) (c:Code) (env:Env) (H:AH) (G:bn) (w:World) (a:Act) (K:gR→Env→AH→Prop) (Q:Exit→Act→World→Prop),dx C c ac=true→eg (ae C) ac env H K →
   dE C w G H→Rel C.F w G H→aR C.F w G env a.tmps→a.defers=[] →
   (∀B ex aI H' G' f w',hE B ex→K B aI H'→dE C w' G' H'→Rel C.F w' G' H'→aR C.F w' G' aI f.tmps→f.defers=[]→Step w G H w' G' H'→dt (dW ac) a f→Q ex f w') →
   c.wp C.P Q a w:=by
 intro ac;induction ac with
 | skip=>intro c env H G w a K Q d h n o he r g;cases c<;>simp[dx]at d;exact wp_skip (g .normal .normal env H G a w trivial h n o he r (Step.refl _ _ _) (dt.refl _ _))
 | region al=>
  intro c env H G w a K Q d h n o he r g;cases c with
  | region id ops draw=>
   cases draw with
   |true=>simp[dx]at d
   | false=>
    simp only[dx]at d;refine wp_region_list ?_;exact DY (az:=gu al) (a0:=a) (w0:=w) (G0:=G) (H0:=H) (Q:=Q) (K:=K .normal) ao ops.toList al env H G w a d h n o he r (Step.refl _ _ _) (dt.refl _ _) (λ_ ht=>ht)
     (λaI H' G' f w' A D z E I m u=>g .normal .normal aI H' G' f w' trivial A D z E I m u)
  |_=>simp[dx]at d
 | hx vs ks al b _=>
  intro c env H G w a K Q d h n o he r g;cases c with
  | region id ops draw=>
   cases draw with
   |true=>simp[dx]at d
   | false=>
    simp only[dx]at d;refine wp_region_list ?_;exact Ow (az:=dW (.hx vs ks al b)) (a0:=a) (w0:=w) (G0:=G) (H0:=H) (Q:=Q) (K:=K) ao (.hx vs ks al b) ops.toList env H G w a d h n o he r (Step.refl _ _ _) (dt.refl _ _) (λ_ ht=>ht)
     (λaI H' G' f w' A D z E I m u=>g .normal .normal aI H' G' f w' trivial A D z E I m u)
  |_=>simp[dx]at d
 | draw al pr bf last=>
  intro c env H G w a K Q d h n o he r g;cases c with
  | region id ops draw=>
   cases draw with
   |false=>simp[dx]at d
   | true=>simp only[dx,aaz]at d;obtain⟨⟨⟨h1,O⟩,R⟩,S⟩:=d;exact On ao h1 O R S h n o he r λaI H' G' f w' A D z E I m u=>g .normal .normal aI H' G' f w' trivial A D z E I m u
  |_=>simp[dx]at d
 | seq x y ap aq=>
  intro c env H G w a K Q d h n o he r g;cases c with
  | seq p q=>
   simp only[dx,aaz]at d;refine wp_seq ?_;refine ap p env H G w a _ _ d.1 h n o he r ?_;intro B ex aI H' G' f w' hex A D z E I m u;cases B with
   | normal=>cases ex<;>simp only[hE]at hex;refine aq q aI H' G' w' f K Q d.2 A D z E I ?_;intro B ex T H2 U a2 w2 hex W X Z L aa ab ad;exact g B ex T H2 U a2 w2 hex W X Z L aa (m.trans ab) ((u.mono λt ht=>by simp[dW,ht]).trans (ad.mono λt ht=>by simp[dW,ht]))
   | exit i=>cases ex<;>simp only[hE]at hex;exact g (.exit i) (.exit _) aI H' G' f w' hex A D z E I m (u.mono λt ht=>by simp[dW,ht])
   | ret=>cases ex<;>simp only[hE]at hex;exact g .ret .ret aI H' G' f w' trivial A D z E I m (u.mono λt ht=>by simp[dW,ht])
  |_=>simp[dx]at d
 | join vs ks x y ap aq=>
  intro c env H G w a K Q d h n o he r g;cases c with
  | seq p q=>
   simp only[dx,aaz]at d;obtain⟨⟨ar,au⟩,an⟩:=d;refine wp_seq ?_;refine ap p env H G w a _ _ ar h n o he r ?_;intro B ex aI H' G' f w' hex A D z E I m u;cases B with
   | normal=>cases ex<;>simp only[hE]at hex;have aD:=tw (he.mono m.toGLe) an u.1 u.2 (dS aI vs) (tv E vs) (tx _ _);refine aq q _ H' G' w' f K Q au A D z aD I ?_;intro B ex T H2 U a2 w2 hex W X Z L aa ab ad;exact g B ex T H2 U a2 w2 hex W X Z L aa (m.trans ab) ((u.mono λt ht=>by simp[dW,ht]).trans (ad.mono λt ht=>by simp[dW,ht]))
   | exit i=>cases ex<;>simp only[hE]at hex;exact g (.exit i) (.exit _) aI H' G' f w' hex A D z E I m (u.mono λt ht=>by simp[dW,ht])
   | ret=>cases ex<;>simp only[hE]at hex;exact g .ret .ret aI H' G' f w' trivial A D z E I m (u.mono λt ht=>by simp[dW,ht])
  |_=>simp[dx]at d
 | cond x p q aE aF=>
  intro c env H G w a K Q d h n o he r g;cases c with
  | cond c' aG aH=>
   simp only[dx,aaz]at d;obtain⟨⟨ar,au⟩,aJ⟩:=d;obtain⟨t,ht,h⟩:=yF h;have ax:=ca n.1 he ar;rw[ht]at ax;refine wp_cond (t:=t) ax.h5 ?_;cases t with
   | true=>rw[af rfl]at h ⊢;exact aE aG env H G w a K Q au h n o he r λB ex aI H' G' f w' h1 O R S ag ah aj ak=>g B ex aI H' G' f w' h1 O R S ag ah aj (ak.mono λt ht=>by simp[dW,ht])
   | false=>rw[jt]at h ⊢;exact aF aH env H G w a K Q aJ h n o he r λB ex aI H' G' f w' h1 O R S ag ah aj ak=>g B ex aI H' G' f w' h1 O R S ag ah aj (ak.mono λt ht=>by simp[dW,ht])
  |_=>simp[dx]at d
 | block id x am=>
  intro c env H G w a K Q d h n o he r g;cases c with
  | block aW p=>
   simp only[dx,aaz,bq]at d;obtain⟨rfl,hc⟩:=d;refine wp_block ?_;refine am p env H G w a _ _ hc h n o he r ?_;intro B ex aI H' G' f w' hex A D z E I m u;cases B with
   | normal=>cases ex<;>simp only[hE]at hex;exact g .normal .normal aI H' G' f w' trivial A D z E I m u
   | exit i=>
    cases ex with
    | exit j=>
     simp only[hE]at hex;subst hex;dsimp only at A;simp only[Exit.inBlock];split
     · rename_i av;rw[af av]at A;exact g .normal .normal aI H' G' f w' trivial A D z E I m u
     · rename_i av;rw[ai av]at A;exact g (.exit i) (.exit i) aI H' G' f w' rfl A D z E I m u
    |_=>simp only[hE]at hex
   | ret=>cases ex<;>simp only[hE]at hex;exact g .ret .ret aI H' G' f w' trivial A D z E I m u
  |_=>simp[dx]at d
 | loop vs ks x am=>
  intro c env H G w a K Q d h n o he r g;cases c with
  | loop p=>
   simp only[dx,aaz]at d;obtain⟨hc,an⟩:=d;let aK:List J×AH→Prop:=λs=>∀G' w' f,dE C w' G' s.2→Rel C.F w' G' s.2→aR C.F w' G' (hy (eB env ks) vs s.1) f.tmps→f.defers=[]→Step w G H w' G' s.2→dt (dW x) a f →
    ∀(b:Frame)(k:List Item)(cs:List Frame),∃e a2 w2,Q e a2 w2∧Arrives C.P (lone (b.at f (.code p :: .inLoop p::k)) cs w') b k cs e a2 w2
   have aL:=h aK λs K' aM aN=>by
    intro G' w' f D z E I m u b k cs;have aO:p.wp C.P (λex a2 w2=>match ex with
        | .normal=>∀(b:Frame)(k:List Item)(cs:List Frame),∃e a3 w3,Q e a3 w3∧Arrives C.P (lone (b.at a2 (.code p :: .inLoop p::k)) cs w2) b k cs e a3 w3
        |e=>Q e a2 w2) f w':=by
      refine am p _ _ G' w' f _ _ hc aM D z E I ?_;intro B ex T H2 U a2 w2 hex W X Z L aa ab ad;cases B with
      | normal=>cases ex<;>simp only[hE]at hex;have aw:=u.trans ad;have ay:=m.trans ab;exact aN _ W U w2 a2 X Z (tw (he.mono ay.toGLe) an aw.1 aw.2 (dS T vs) (tv L vs) (tx _ _)) aa ay aw
      | exit i=>
       cases ex with
       |exit j=>exact g (.exit i) (.exit j) T H2 U a2 w2 hex W X Z L aa (m.trans ab) (u.trans ad)
       |_=>simp only[hE]at hex
      | ret=>
       cases ex with
       |ret=>exact g .ret .ret T H2 U a2 w2 hex W X Z L aa (m.trans ab) (u.trans ad)
       |_=>simp only[hE]at hex
    obtain⟨e,Y,w1,M,N⟩:=aO b (.inLoop p::k) cs;cases e with
    | normal=>obtain⟨aP,a2,w2,aQ,aS⟩:=M b k cs;exact⟨aP,a2,w2,aQ,.of_steps (Steps.trans N (.one step_inLoop)) aS⟩
    |exit id=>exact⟨_,Y,w1,M,.pass (x:= .inLoop p) rfl (λ_ _=> .inl (by simp)) N⟩
    |goto l=>exact⟨_,Y,w1,M,.pass (x:= .inLoop p) rfl (λ_ _=> .inl (by simp)) N⟩
    |ret=>exact⟨_,Y,w1,M,.pass (x:= .inLoop p) rfl (λ_ _=> .inl (by simp)) N⟩
    |panic aX=>exact⟨_,Y,w1,M,.pass (x:= .inLoop p) rfl (λ_ _=> .inl (by simp)) N⟩
    |outgrown=>exact⟨_,Y,w1,M,.pass (x:= .inLoop p) rfl (λ_ _=> .inl (by simp)) N⟩
   intro b k cs;have aU:=aL G w a n o (tw he an rfl (λ_ _=>rfl) (dS env vs) (tv he vs) (tx _ _)) r (Step.refl _ _ _) (dt.refl _ _) b k cs;obtain⟨e,f,w',M,N⟩:=aU;exact⟨e,f,w',M,.of_steps (.one step_loop) N⟩
  |_=>simp[dx]at d
 | exit id=>intro c env H G w a K Q d h n o he r g;cases c<;>simp[dx]at d;subst d;exact wp_exit (g (.exit _) (.exit _) env H G a w rfl h n o he r (Step.refl _ _ _) (dt.refl _ _))
 | ret=>intro c env H G w a K Q d h n o he r g;cases c<;>simp[dx]at d;exact wp_ret (g .ret .ret env H G a w trivial h n o he r (Step.refl _ _ _) (dt.refl _ _))
 | freeze t x am=>
  intro c env H G w a K Q d h n o he r g;have aV:dx C c x=true:=by cases c<;>simpa[dx]using d
  obtain⟨v,H',hv,h⟩:=h;obtain⟨G',z,m,aA⟩:=Oq o hv (s8 he);have L:aR C.F w G' (env.set t v) a.tmps:=by
   refine⟨by simp[he.1],λj c V hc aB=>?_⟩;by_cases aC:t=j
   · subst aC;rw[aaV]at hc;simp only[aT]at hc;split at hc
     · cases hc;rw[Array.getD_eq_getD_getElem?,aB]at aA;exact aA
     ·cases hc
   · rw[abp aC]at hc;exact(he.2 j c V hc aB).mono m.toGLe
  exact am c _ H' G' w a K Q aV h (n.step m) z L r λB ex aI H' G' f w' h1 O R S ag ah aj ak=>g B ex aI H' G' f w' h1 O R S ag ah (m.trans aj) (ak.mono λt ht=>by simp[dW,ht])
def j3(P:Program):List ResultVar→List iT→Bool
 |[],[]=>true
 | .tmp t::r,.tmp t'::s=>t==t'&&j3 P r s
 | .cell t ty::r,.cell t' n agg::s=>t==t'&&hA P ty n agg&&j3 P r s
 |_,_=>false
def oT(C:Ctx)(f:FuncId)(a:aF):Bool:=
 match C.P.funcs[f]? with
 |some fn=>fn.ntmps==a.ntmps&&j3 C.P fn.results.toList a.results&&(match fn.body with|some c=>dx C c a.body|none=>false)
 |none=>false
def tz(b:Array Value):ResultVar→Sem Value
 | .tmp t=>pure (b.getD t undef)
 | .cell a t=>do loadVar t (←asAddr (b.getD a undef))
theorem Oy(a:Func)(b:Array Value):results a b=(do
    let vs ←a.results.mapM (tz b)
    pure (if h:vs.size=1 then vs[0]else .tuple vs)):=by
  unfold results;congr 1
theorem Oz(u:Rel C.F w G H)(q:aR C.F w G env a.tmps):∀(rs:List ResultVar)(b:List iT)(K:List J→Prop),j3 C.P rs b=true→kE env H b K →
  ∃vs Vs,K vs∧aR C.F w G vs (List.toArray Vs)∧(rs.mapM (tz a.tmps)).run C.P w = .ok Vs w:=by
 intro rs;induction rs with
 | nil=>intro b K hc h;cases b<;>simp[j3]at hc;exact⟨[],[],h,aR.nil,rfl⟩
 | cons r rs s=>
  intro b K hc h;have cons:∀{v:J}{V:Value}{vs:List J}{Vs:List Value},R C.F w G v V→aR C.F w G vs Vs.toArray→aR C.F w G (v::vs) (V::Vs).toArray:=by
   intro v V vs Vs hv e;refine aR.mZ (by have:=e.1;simp at this ⊢;exact this) λj c U g i=>?_;cases j with
   |zero=>simp at g i;subst g;subst i;exact hv
   |succ j=>exact e.2 j c U (by simpa using g) (by simpa using i)
  cases r with
  | tmp t=>
   cases b with
   |nil=>simp[j3]at hc
   | cons k b=>
    cases k with
    | tmp t'=>simp only[j3,aaz,bq]at hc;obtain⟨rfl,hc⟩:=hc;obtain⟨vs,Vs,l,e,m⟩:=s b _ hc h;refine⟨_,_::Vs,l,cons (s8 q) e,?_⟩;rw[adg];simp only[tz,acg,acp,ach,m]
    |cell _ _ _=>simp[j3]at hc
  | cell t ty=>
   cases b with
   |nil=>simp[j3]at hc
   | cons k b=>
    cases k with
    |tmp _=>simp[j3]at hc
    | cell t' n agg=>
     simp only[j3,aaz,bq]at hc;obtain⟨⟨rfl,x⟩,hc⟩:=hc;obtain⟨v,hv,h⟩:=h;obtain⟨vs,Vs,l,e,m⟩:=s b _ hc h;have d:=s8 (t:=t) q;obtain⟨V,f,y⟩:=yK (P:=C.P) x u hv d;refine⟨_,V::Vs,l,cons y e,?_⟩;have z:(do loadVar ty (←asAddr (a.tmps.getD t undef)):Sem Value).run C.P w = .ok V w:=by
      unfold W at hv;split at hv
      · rename_i id o p;rw[p]at d;generalize a.tmps.getD t undef=X at d f;cases d;simpa[abn,aaR,asAddr]using f
      · rename_i cs p;rw[p]at d;generalize a.tmps.getD t undef=X at d f;cases d;simpa[abn,aaR,asAddr]using f
      ·cases hv
     rw[adg];have A:(tz a.tmps (.cell t ty)).run C.P w = .ok V w:=z;simp only[acg,A,ach,m,acp]
theorem D4(t:j2 C){f:FuncId}{a:aF}(d:oT C f a=true){args:List J}{Q:ab}(h:ox (ae C) a args H Q)(u:dE C w G H)(x:Rel C.F w G H)(p:aR C.F w G args Vs) :
  Calls C.P f Vs w λe w'=>∃V v H' G',e = .returned V∧Q v H'∧R C.F w' G' v V∧Rel C.F w' G' H'∧Step w G H w' G' H':=by
 unfold oT at d;split at d
 · rename_i fn y;simp only[aaz,bq]at d;obtain⟨⟨z,A⟩,k⟩:=d;split at k
   · rename_i c B;refine calls_of_wp y B ?_;have he:aR C.F w G (args++VR (a.ntmps-args.length) .bot) (Vs++ac_ (fn.ntmps-Vs.size) undef):=by
      refine p.app ⟨by simp[p.1,z],λj c V hc S=>?_⟩;rw[adh]at hc;split at hc
      ·cases hc;exact .bot _
      ·cases hc
     refine Ox t a.body c _ H G w ⟨_,[]⟩ _ _ k h u x he rfl ?_;intro D ex aI H' G' q w' hex l T r E I K U;have fin:kE aI H' a.results (λvs=>Q (mi vs) H')→q.defers=[]∧∃v,(results fn q.tmps).run C.P w' = .ok v w'∧∃V s m n,(Ending.returned v) = .returned V∧Q s m∧R C.F w' n s V∧Rel C.F w' n m∧Step w G H w' n m:=by
      intro L;obtain⟨vs,b,M,g,N⟩:=Oz r E fn.results.toList a.results _ A L;refine⟨I,if h:b.toArray.size=1 then b.toArray[0]else .tuple b.toArray,?_,_,_,_,_,rfl,M,?_,r,K⟩
      · rw[Oy];have he:fn.results=fn.results.toList.toArray:=by simp
        rw[he,List.mapM_toArray];simp only[acg,Sem.run_map,N,ach,acp]
      · split
        · rename_i h1;have hl:b.length=1:=by simpa using h1
          have o:vs.length=1:=by have:=g.1;simp at this;omega
          match vs,b,o,hl with
          |[v],[V],_,_=>simpa[mi]using g.2 0 v V rfl rfl
        · rename_i h1;have hl:b.length≠1:=by simpa using h1
          have o:vs.length≠1:=by have:=g.1;simp at this;omega
          have O:mi vs = .ar vs:=by
           match vs,o with
           |[],_=>rfl
           |_::_::_,_=>rfl
          rw[O];exact g.ar
     cases D with
     |normal=>cases ex<;>simp only[hE]at hex;exact fin l
     |exit i=>exact l.elim
     |ret=>cases ex<;>simp only[hE]at hex;exact fin l
   ·cases k
 ·cases d
end
end Rb

namespace Rb
open Go
abbrev h8:=List (Nat×aF)
def h8.get(T:h8)(k:Nat):Option aF:=T.lookup k
def oU(Φ:ad)(T:h8):Prop:=∀k f,T.get k=some f→∀args H Q,ox Φ f args H Q→Φ k args H Q
def tA(C:Ctx):h8→Bool
 |[]=>true
 |(k,f)::T=>(match C.F k with|some dq=>oT C dq f|none=>true)&&tA C T
theorem OA{T:h8}{k:Nat}{f:aF}(h:T.lookup k=some f):(k,f)∈T:=by
 induction T with
 |nil=>cases h
 | cons p T a=>
  obtain⟨k',c⟩:=p;rw[adi]at h;split at h
  · rename_i hk;have b:k=k':=by simpa using hk
    cases h;rw[b];exact acW
  ·exact acV _ (a h)
theorem OB{C:Ctx}:∀{T:h8},tA C T=true→∀k f,(k,f)∈T→∀dq,C.F k=some dq→oT C dq f=true:=by
 intro T;induction T with
 |nil=>intro _ k f h;cases h
 | cons p T a=>
  obtain⟨k',b⟩:=p;intro h k f hm dq hf;simp only[tA,aaz]at h;rcases acU.1 hm with he|hm
  · cases he;have:=h.1;rw[hf]at this;exact this
  ·exact a h.2 k f hm dq hf
theorem OC{C:Ctx}(a:j2 C){T:h8}(h:tA C T=true):oU (ae C) T:=by intro k f hk args H Q hs;refine⟨Dk (yU C) hs,λdq b G w Vs c d e=>?_⟩;exact D4 a (OB h k f (OA hk) dq b) hs c d e
mutual
def J.same:J→J→Bool
 | .bool a,.bool b=>a==b
 | .int k a,.int k' b=>k==k'&&a==b
 | .str a,.str b=>a==b
 | .dm,.dm=>true
 | .ptr i o,.ptr f g=>i==f&&o==g
 | .ak cs,.ak e=>J.fK cs e
 | .ax tk len cs,.ax h j e=>tk==h&&len==j&&J.fK cs e
 | .row a b c d,.row l m c' n=>a==l&&b==m&&c==c'&&d==n
 | .map i,.map f=>i==f
 | .eK,.eK=>true
 | .fn k cs,.fn k' e=>k==k'&&J.fK cs e
 | .fA,.fA=>true
 | .iface t v,.iface t' p=>t==t'&&J.same v p
 | .fB,.fB=>true
 | .agg cs,.agg e=>J.fK cs e
 | .ar cs,.ar e=>J.fK cs e
 | .bot,.bot=>true
 |_,_=>false
def J.fK:List J→List J→Bool
 |[],[]=>true
 |c::r,d::t=>J.same c d&&J.fK r t
 |_,_=>false
end
mutual
theorem J.tB:(x y:J)→J.same x y=true→x=y
 | .bool a,.bool b,h=>by simp[J.same]at h;rw[h]
 | .int k a,.int k' b,h=>by simp[J.same]at h;rw[h.1,h.2]
 | .str a,.str b,h=>by simp[J.same]at h;rw[h]
 | .dm,.dm,h=>rfl
 | .ptr i o,.ptr g l,h=>by simp[J.same]at h;rw[h.1,h.2]
 | .ak cs,.ak e,h=>by simp only[J.same]at h;rw[J.nq cs e h]
 | .ax tk len cs,.ax m n e,h=>by simp only[J.same,aaz,bq]at h;rw[h.1.1,h.1.2,J.nq cs e h.2]
 | .row a b c d,.row p q c' s,h=>by simp[J.same]at h;rw[h.1.1.1,h.1.1.2,h.1.2,h.2]
 | .map i,.map g,h=>by simp[J.same]at h;rw[h]
 | .eK,.eK,h=>rfl
 | .fn k cs,.fn k' e,h=>by simp only[J.same,aaz,bq]at h;rw[h.1,J.nq cs e h.2]
 | .fA,.fA,h=>rfl
 | .iface t v,.iface t' j,h=>by simp only[J.same,aaz,bq]at h;rw[h.1,J.tB v j h.2]
 | .fB,.fB,h=>rfl
 | .agg cs,.agg e,h=>by simp only[J.same]at h;rw[J.nq cs e h]
 | .ar cs,.ar e,h=>by simp only[J.same]at h;rw[J.nq cs e h]
 | .bot,.bot,h=>rfl
theorem J.nq:(xs f:List J)→J.fK xs f=true→xs=f
 |[],[],h=>rfl
 | c::r,d::t,h=>by simp only[J.fK,aaz]at h;rw[J.tB c d h.1,J.nq r t h.2]
end
end Rb

namespace Rb
open Go Go.RowKit
variable{w:World}{fz:Nat→Nat→Prop}
def AH.mt:AH:={n:=0,o:=λ_=> .gone}
def bn.mt(fz:Nat→Nat→Prop):bn:={n:=0,loc:=λ_=>0,cap:=λ_=>0,fz:=fz}
theorem Rel.mt{F:cJ}(h:∀b o,fz b o→∃V,w.cell? ⟨b,o,none⟩=some V):Rel F w (bn.mt fz) AH.mt:=⟨rfl,λ_ _=>rfl,λ_=>trivial,λ_ _ _ h _=>(by cases h),h⟩
theorem Step.below{w w':World}{G':bn}{H':AH}(h:Step w (bn.mt fz) AH.mt w' G' H'):Below w.heap.size w w':=⟨h.os,h.tape,h.output,h.size,λk hk=>h.dv k hk λi hl=>by cases hl⟩
section
variable{H:Type}{enc:TypeId×Value→H}{P:Program}
def tC(P:Program)(ts:List TypeId):Bool:=ts.all λt=>P.readableRec t&&decide (t<P.types.size)
theorem D5(hl:laidOutB P=true){W c:World}(e:Below W.heap.size W c) :
  ∀{ts:List TypeId}{vs:List Value}{ds:List (DataW H)}{a:List MemPlace},tC P ts=true→adj enc P W 0 (λ_=>true) true ts vs ds a→adj enc P c 0 (λb=>decide (b<W.heap.size)) true ts vs ds a
 |[],[],[],_,_,h=>h
 | t::ts,v::vs,d::ds,a,ht,h=>by have f:=h.lt;obtain⟨p,q,h1,g,rfl⟩:=h;simp only[tC,adk,aaz,dM]at ht;exact⟨p,q,Below.trod hl ht.1.1 ht.1.2 h1 e (λx i=>f x (by simp[i])),D5 hl e (by simpa[tC]using ht.2) g,rfl⟩
 |[],[],_::_,_,_,h=>h.elim
 |[],_::_,_,_,_,h=>by cases ‹List (DataW H)› <;> exact h.elim
 |_::_,[],_,_,_,h=>by cases ‹List (DataW H)› <;> exact h.elim
 |_::_,_::_,[],_,_,h=>h.elim
theorem OD{f:Func}{s:ChangeSpec}{e:Bool}{W g:World}{args:Array Value}{a b:List (DataW H)}{j:List MemPlace}{bt:TypeId}
  (i:DataW.Whole enc P f.params.toList s.vars e W args.toList a b j) (hl:laidOutB P=true) (ht:tC P f.params.toList=true) (hv:varsRowed P s.vars=true)
  (k:f.resultTypes = #[bt]) (l:P.underlying bt=some .bool) (c:s.fn H (a++b)={results:=[.lit (.bool true)],args:=a,vars:=b}) (d:Below W.heap.size W g) :
  s.post enc P f e true false false W args (.bool true) g:=by
 have m:=i;obtain⟨p,q,n,o,rfl,r,t⟩:=i;refine⟨a,b,p++q,[],p,q,m,?_,?_,?_,d.frame _,λh=>by cases h⟩
 · rw[c,k];exact⟨[],[],shut_bool l _,rfl,rfl⟩
 · rw[c];exact D5 hl d ht n
 · rw[c];exact d.trodVars hl hv o
end
end Rb

namespace Rb
open Go
theorem ae.run{C:Ctx}{key:Nat}{f:FuncId}{args:List J}{H:AH}{Q:ab}(h:ae C key args H Q)(hf:C.F key=some f){G:bn}{w:World}{Vs:Array Value}(a:dE C w G H)(b:Rel C.F w G H)(c:aR C.F w G args Vs) :
  Calls C.P f Vs w λe w'=>∃V v H' G',e = .returned V∧Q v H'∧R C.F w' G' v V∧Rel C.F w' G' H'∧Step w G H w' G' H':=h.2 f hf G w Vs a b c
end Rb

namespace Rb
open Go
theorem oU.app{Φ:ad}{T U:h8}(Z:oU Φ T)(a:oU Φ U):oU Φ (T++U):=by
 intro k f h args H Q hs;have key:∀(T:h8),(T++U).lookup k=some f→T.lookup k=some f∨U.lookup k=some f:=by
  intro T;induction T with
  |nil=>intro h;exact .inr h
  | cons p T b=>
   intro h;obtain⟨k',c⟩:=p;rw[acu,adi]at h;rw[adi];split at h
   ·exact .inl h
   ·exact b h
 rcases key T h with h|h
 ·exact Z k f h args H Q hs
 ·exact a k f h args H Q hs
mutual
def J.flat:J→Bool
 | .bool _ | .int _ _ | .str _ | .dm | .eK | .fA | .fB=>true
 | .ax .nil 0 []=>true
 | .agg cs=>J.qx cs
 | .ar cs=>J.qx cs
 |_=>false
def J.qx:List J→Bool
 |[]=>true
 |c::r=>J.flat c&&J.qx r
end
theorem y8:∀{cs:List J},J.qx cs=true→∀(j:Nat)(c:J),cs[j]?=some c→c.flat=true
 |[],_,j,c,h=>by simp at h
 | d::r,hf,j,c,h=>by
  simp only[J.qx,aaz]at hf;cases j with
  |zero=>simp at h;subst h;exact hf.1
  |succ j=>exact y8 hf.2 j c (by simpa using h)
theorem y9{F:cJ}{w w':World}{G G':bn}{c:J}{V:Value}(hf:c.flat=true)(h:R F w G c V):R F w' G' c V:=by
 induction h with
 |bot=>simp[J.flat]at hf
 |bool b=>exact .bool b
 |int k n=>exact .int k n
 |str s=>exact .str s
 |dm=>exact .dm
 |ptr=>simp[J.flat]at hf
 |ak=>simp[J.flat]at hf
 |eD=>exact .eD
 |eE=>simp[J.flat]at hf
 | ax tk len cells b o cap Vs ht=>unfold J.flat at hf;split at hf<;>simp_all;exact ht.elim
 |row=>simp[J.flat]at hf
 |map=>simp[J.flat]at hf
 |eK=>exact .eK
 |fn=>simp[J.flat]at hf
 |kr=>simp[J.flat]at hf
 |fA=>exact .fA
 |iface=>simp[J.flat]at hf
 |fB=>exact .fB
 |agg cs Vs hl hv a=>exact .agg cs Vs hl λj c V hc d=>a j c V hc d (y8 (by simpa[J.flat]using hf) j c hc)
 |ar cs Vs hl hv a=>exact .ar cs Vs hl λj c V hc d=>a j c V hc d (y8 (by simpa[J.flat]using hf) j c hc)
theorem ae.frame{C:Ctx}{key:Nat}{args:List J}{Q:ab}(h:ae C key args AH.mt Q)(t:args.all J.flat=true)(aj:∀g l,C.GT g=some l→l.all J.flat=true)(H:AH)(K:ab)(u:∀v H',Q v H'→v.flat=true∧K v H):ae C key args H K:=by
 refine⟨by obtain⟨v,H',A⟩:=h.1;exact⟨v,H,(u v H' A).2⟩,λf hf G w Vs x a y=>?_⟩;have B:Rel C.F w (bn.mt G.fz) AH.mt:=Rel.mt a.eX;have D:aR C.F w (bn.mt G.fz) args Vs:=⟨y.1,λj c V hc q=>by rw[abt]at t;exact y9 (t c (adl hc)) (y.2 j c V hc q)⟩
 have E:iu C w (bn.mt G.fz):=by
  intro g l d;have h1:=x.1 g l d;have z:=aj g l d;rw[abt]at z;generalize I:(Value.pointer (some ⟨g,0,none⟩))=X at h1;generalize r:J.ak l=Y at h1;cases h1 with
  | ak cells b o Vs h hv=>cases I;cases r;exact .ak _ _ _ Vs h λj c p=>y9 (z c (adl p)) (hv j c p)
  |bot=>cases r
  |_=>cases r
 · refine acL (h.2 f hf _ w Vs (x.mt E λi hi=>by cases hi) B D) λe w' he=>?_;obtain⟨V,v,H',G',rfl,L,hv,O,m⟩:=he;obtain⟨M,N⟩:=u v H' L;have s:=m.below;have d:GLe w G w' G:=⟨hT _,λ_ _=>rfl,λ_ _=>rfl,λ_ _ h=>h,λb o V hf hc=>by
     rw[abb (w:=w) (s.block b (abc w _ hc))];exact hc⟩
   refine⟨V,v,H,G,rfl,N,y9 M hv,⟨a.n,a.over,λj=>(a.obj j).aO d (λhl=>a.gS hl) (λhl=>s.block _ ((a.obj j).lt hl)) λ_ _ p=>p,a.eW,λb o hf=>?_⟩,?_⟩
   · obtain⟨V,q⟩:=a.eX b o hf;exact⟨V,d.cell b o V hf q⟩
   ·exact {d with size:=m.size,os:=m.os,tape:=m.tape,output:=m.output,dr:=m.dr,dv:=λk hk _=>s.block k hk,owned:=λi hi _=>⟨i,hi,rfl⟩,eY:=λ_ _ h=> .inl h}
def D6:List J:=(abk 256).map λi=> .int .u8 (if i=9∨i=10∨i=11∨i=12∨i=13∨i=32 then 1 else 0)
end Rb

namespace Rb
open Go
inductive TT where
 |leaf
 |node (x:bS) (l r:TT)
def TT.get:TT→Nat→bS
 | .leaf,_=> .gone
 | .node x l r,i=>bif adm i 0 then x else bif adm (i%2) 1 then l.get (i/2)else r.get (i/2-1)
def TT.iA(x:bS):Nat→TT→Nat→TT
 |0,t,_=>t
 | f+1,t,i=>match t with
  | .leaf=>bif adm i 0 then .node x .leaf .leaf else bif adm (i%2) 1 then .node .gone (TT.iA x f .leaf (i/2)) .leaf else .node .gone .leaf (TT.iA x f .leaf (i/2-1))
  | .node a l r=>bif adm i 0 then .node x l r else bif adm (i%2) 1 then .node a (TT.iA x f l (i/2)) r else .node a l (TT.iA x f r (i/2-1))
theorem TT.D7(i:Nat):TT.get .leaf i = .gone:=rfl
theorem TT.nr(x:bS)(l r:TT)(i:Nat):(TT.node x l r).get i=if i=0 then x else if i%2=1 then l.get (i/2)else r.get (i/2-1):=by
 have c:∀a b:Nat,adm a b=decide (a=b):=λa b=>by rw[acS];simp
 simp only[TT.get,c,cond_eq_ite,dM]
theorem TT.D8(x:bS):∀(f:Nat)(t:TT)(i j:Nat),i<f→(TT.iA x f t i).get j=if j=i then x else t.get j:=by
 intro f;induction f with
 |zero=>intro t i j h;omega
 | succ f g=>
  intro t i j h;have k:∀a b:Nat,adm a b=decide (a=b):=λa b=>by rw[acS];simp
  have key : ∀(a:bS)(l r:TT),(if i=0 then TT.node x l r else if i%2=1 then .node a (TT.iA x f l (i/2)) r else .node a l (TT.iA x f r (i/2-1))).get j=if j=i then x else(TT.node a l r).get j:=by
   intro a l r;by_cases hi:i=0
   · subst hi;rw[af rfl,TT.nr,TT.nr];by_cases c:j=0
     ·simp[c]
     ·simp[c]
   · rw [ai hi];by_cases m:i%2=1
     · rw [af m,TT.nr,TT.nr];rw[g _ _ _ (by omega)];by_cases c:j=0
       ·rw[af c,af c,bO]
       · rw [ai c,ai c];by_cases d:j%2=1
         · rw[af d,af d];by_cases e:j=i
           ·rw[af e,af (by rw[e])]
           ·rw[ai e,bO]
         ·rw[ai d,ai d,bO]
     · rw [ai m,TT.nr,TT.nr];rw[g _ _ _ (by omega)];by_cases c:j=0
       ·rw[af c,af c,bO]
       · rw [ai c,ai c];by_cases d:j%2=1
         ·rw[af d,af d,bO]
         · rw[ai d,ai d];by_cases e:j=i
           ·rw[af e,af (by rw[e])]
           ·rw[ai e,bO]
  cases t with
  | leaf=>simp only[TT.iA,k,cond_eq_ite,dM];rw[key .gone .leaf .leaf,TT.nr,TT.D7];simp only[TT.D7,ite_self]
  | node a l r=>simp only[TT.iA,k,cond_eq_ite,dM];exact key a l r
structure S where
 n:Nat
 t:TT
def S.ah(T:S):AH:=⟨T.n,λi=>T.t.get i⟩
def S.set(T:S)(i:Nat)(x:bS):S:=match T with|⟨n,t⟩=>⟨n,TT.iA x (i+1) t i⟩
def S.push(T:S)(x:bS):S:=match T with|⟨n,t⟩=>⟨n+1,TT.iA x (n+1) t n⟩
def S.mt:S:=⟨0,.leaf⟩
@[simp] theorem S.Z5 (T:S):T.ah.n=T.n:=rfl
@[simp] theorem S.Z6 (T:S) (i:Nat) (x:bS):(T.set i x).ah=T.ah.set i x:=by simp only[S.ah,S.set,AH.set];congr 1;funext j;exact TT.D8 x _ _ _ _ (adn _)
@[simp] theorem S.OE (T:S) (x:bS):(T.push x).ah=T.ah.push x:=by simp only[S.ah,S.push,AH.push];congr 1;funext j;exact TT.D8 x _ _ _ _ (adn _)
@[simp] theorem S.OG:S.mt.ah=AH.mt:=by simp only[S.ah,S.mt,AH.mt];congr 1
abbrev fi:=J→S→Bool
abbrev c7:=Nat→List J→S→fi→Bool
def dc{α:Type}(x:Option α)(K:α→Bool):Bool:=
 match x with
 |some a=>K a
 |none=>false
def gW(x:Option (J×S))(K:fi):Bool:=
 match x with
 |some (v,T)=>K v T
 |none=>false
def oV(v:J)(a:Bool)(A B:Bool):Bool:=
 match v with
 | .bool b=>bif ado b a then B else A
 |_=>false
def qy(T:S)(n:Nat)(x v:J):Option S:=
 match x with
 | .ptr id o=>
  match T.t.get id with
  | .row cs=>if v.known∧v.cells.length=n∧v.cells.all J.scalar∧o+n≤cs.length then some (T.set id (.row (setCells cs o v.cells)))else none
  |_=>none
 |_=>none
def oW(T:S)(mu:Bool)(cells:List J):J×S:=if mu then(.ptr T.n 0,T.push (.row cells))else(.ak cells,T)
def qz(T:S)(mu:Bool)(n:Nat)(v:J):Option (J×S):=if v.known∧v.cells.length=n then some (oW T mu v.cells)else none
def qA(T:S)(mu:Bool)(sz a:Nat)(b:List J)(c:List (Nat×Nat×J)):Option (J×S):=
 (fW (VR a b).flatten c).map λcells=>if mu then(.row T.n 0 a sz,T.push (.row cells))else(.ax .full a cells,T)
def qB(T:S)(mu:Bool)(sz bytes:Nat)(x y:J):Option (J×S):=
 match ef T.ah sz y with
 |none=>none
 | some (m,news)=>
  if ¬news.all J.scalar then none else
  match x with
  | .ax tk len cells=>
   if m=0 then some (.ax tk len cells,T)
   else if ¬(cells.length=len*sz∧(len+m)*bytes≤140737488355328∧len+m≤9223372036854775807)then none
   else match tk,mu with
   | .nil,true | .full,true=>some (.row T.n 0 (len+m) sz,T.push (.row (cells++news)))
   | .nil,false | .full,false=>some (.ax (.own T.n) (len+m) (cells++news),T.push (.tok ((len+m)*sz) sz))
   | .own t,_=>match T.t.get t with
    | .tok k a=>if k=len*sz∧a=sz then some (.ax (.own T.n) (len+m) (cells++news),(T.set t .gone).push (.tok ((len+m)*sz) sz))else none
    |_=>none
   | .dead,_=>none
  | .row id o len a=>
   match T.t.get id with
   | .row cs=>
    if m=0 then some (.row id o len a,T)
    else if ¬(o=0∧a=sz∧(len+m)*bytes≤140737488355328∧len+m≤9223372036854775807)then none
    else if(len+m)*sz≤cs.length then some (.row id 0 (len+m) sz,T.set id (.row (setCells cs (len*sz) news)))
    else if cs.length=len*sz then some (.row T.n 0 (len+m) sz,(T.set id .gone).push (.row (cs++news)))
    else none
   |_=>none
  |_=>none
def tD(T:S)(x:J):Option (J×S):=
 match x with
 | .str s=>some (.ptr T.n 0,T.push (.fD s 0))
 |_=>none
def tG(T:S)(x:J):Option (J×S):=
 match x with
 | .ptr id 0=>
  match T.t.get id with
  | .fD s pos=>
   if pos<s.length then
    let d:=Utf8.decode ⟨s.toArray⟩ pos
    some (.ar [.bool true,.int .i64 pos,.int .i32 d.1],T.set id (.fD s (pos+d.2)))
   else some (.ar [.bool false],T)
  |_=>none
 |_=>none
def oX(T:S)(mu:Bool)(sz bytes:Nat)(a:List J)(b cap:J):Option (J×S):=
 match b,cap with
 | .int .i64 n,.int .i64 c=>
  if 0≤n∧n≤c∧bytes*c≤281474976710656∧c≤9223372036854775807∧a.length=sz then
   if mu then some (.row T.n 0 n.toNat sz,T.push (.row (VR c.toNat a).flatten))
   else if n=c then some (.ax .full n.toNat (VR n.toNat a).flatten,T)else none
  else none
 |_,_=>none
def qC(T:S)(sz:Nat)(x y:J):Option (J×S):=
 match x,ef T.ah sz y with
 | .row id o len _,some (m,news)=>
  match T.t.get id with
  | .row cs=>
   let n:=min m len
   if news.all J.scalar∧o+n*sz≤cs.length then some (.int .i64 n,T.set id (.row (setCells cs o (news.take (n*sz)))))else none
  |_=>none
 |_,_=>none
def qD(T:S)(kk:FK)(m k v:J):Option S:=
 match m with
 | .map id=>
  match T.t.get id with
  | .map es=>if plainKey kk k∧v.known then(fG kk k es 0).map λr=>(match r with
      |some (i,_)=>T.set id (.map (es.set i (k,v)))
      |none=>T.set id (.map (es++[(k,v)])))else none
  |_=>none
 |_=>none
def tH(T:S)(kk:FK)(m k:J):Option S:=
 match m with
 | .map id=>
  match T.t.get id with
  | .map es=>if plainKey kk k then(fG kk k es 0).map λr=>(match r with
      |some (i,_)=>T.set id (.map (es.eraseIdx i))
      |none=>T)else none
  |_=>none
 |_=>none
def ns(T:S)(x:J):Option (J×S):=
 match x with
 | .row id o len sz=>
  match T.t.get id with
  | .row cs=>if o+len*sz≤cs.length then some (.ax .dead len ((cs.drop o).take (len*sz)),T.set id .gone)else none
  |_=>none
 | .ptr id o=>
  match T.t.get id with
  | .row cs=>match hn (λi=>T.t.get i) cs with
   |some (l,a)=>if a=id then none else some (.ptr id o,(T.set a .gone).set id (.row l))
   |none=>some (.ak (cs.drop o),T.set id .gone)
  |_=>none
 | .ax tk len cells=>some (.ax tk len cells,T)
 | .ak cs=>some (.ak cs,T)
 | .agg cells=>match hn (λi=>T.t.get i) cells with
  |some (l,id)=>some (.agg l,T.set id .gone)
  |none=>some (.agg cells,T)
 |_=>none
def text(T:S)(e:Ext)(xs:List J):Option (J×S):=
 match e,xs with
 | .kC t,[.iface t' v]=>if t'=t then some (v,T)else none
 | .mh neg,[.ptr i o,.ptr j p]=>
  match T.t.get i,T.t.get j with
  | .row _,.row _=>if i=j then some (.bool (if neg then !(o==p)else o==p),T)else some (.bool neg,T)
  |_,_=>none
 | .clear sz zero,[.row id o len z]=>
  if len=0 then some (.ar [],T)else
  match T.t.get id with
  | .row cs=>if zero.all J.scalar∧zero.length=sz∧o+len*sz≤cs.length then some (.ar [],T.set id (.row (setCells cs o (VR len zero).flatten)))else none
  |_=>none
 | .clear _ _,[.ax _ 0 _]=>some (.ar [],T)
 | .grow sz bytes zero,[.ax .nil 0 [],.int .i64 n]=>if 0<n∧n.toNat*bytes≤281474976710656∧n≤9223372036854775807∧zero.length=sz∧0<sz then some (.row T.n 0 n.toNat sz,T.push (.row (VR n.toNat zero).flatten))else none
 | .jZ t,[]=>some (.ptr T.n 0,T.push (.h0 t false none))
 | .jZ t,[.agg [.dm,.ax .nil 0 []]]=>some (.ptr T.n 0,T.push (.h0 t false none))
 |_,_=>none
def vh(r:J×S):J×AH:=(r.1,r.2.ah)
theorem OH(T:S)(e:Ext)(xs:List J):(text T e xs).map vh=c4 T.ah e xs:=by
 have a:∀i,T.ah.o i=T.t.get i:=λ_=>rfl;cases e with
 |stuck=>cases xs<;>rfl
 | kC t=>
  cases xs with
  |nil=>rfl
  | cons x r=>
   cases r with
   |cons y r=>cases x<;>rfl
   | nil=>
    cases x<;>try rfl
    simp only[text,c4];split<;>rfl
 | mh neg=>
  cases xs with
  |nil=>rfl
  | cons x r=>
   cases r with
   |nil=>cases x<;>rfl
   | cons y r=>
    cases r with
    |cons z r=>cases x<;>cases y<;>rfl
    | nil=>
     cases x<;>cases y<;>try rfl
     simp only[text,c4,a];rename_i i o j p;cases T.t.get i<;>cases T.t.get j<;>try rfl
     dsimp only;split<;>rfl
 | jZ t=>
  cases xs with
  |nil=>simp[text,c4,vh]
  | cons x r=>
   by_cases b:x = .agg [.dm,.ax .nil 0 []]∧r=[]
   · obtain⟨rfl,rfl⟩:=b;simp[text,c4,vh]
   · have h1:text T (.jZ t) (x::r)=none:=by
       unfold text;split<;>first|rfl|(exfalso;simp_all;done)|simp_all
     have c:c4 T.ah (.jZ t) (x::r)=none:=by unfold c4;split<;>first|rfl|(exfalso;simp_all;done)|simp_all
     rw[h1,c];rfl
 | grow sz bytes zero=>
  cases xs with
  |nil=>rfl
  | cons x r=>
   cases r with
   | nil=>
    cases x<;>try rfl
    rename_i tk len cells;cases tk<;>cases len<;>cases cells<;>rfl
   | cons y r=>
    cases r with
    | cons z r=>
     cases x<;>try rfl
     rename_i tk len cells;cases tk<;>cases len<;>cases cells<;>try rfl
     cases y<;>try rfl
     rename_i k n;cases k<;>rfl
    | nil=>
     cases x<;>try rfl
     rename_i tk len cells;cases tk<;>cases len<;>cases cells<;>try rfl
     cases y<;>try rfl
     rename_i k n;cases k<;>try rfl
     simp only[text,c4];split
     ·simp[vh]
     ·rfl
 | clear sz zero=>
  cases xs with
  |nil=>rfl
  | cons x r=>
   cases r with
   | cons y r=>
    cases x<;>try rfl
    rename_i tk len cells;cases len<;>rfl
   | nil =>
    cases x<;>try rfl
    · rename_i tk len cells;cases len<;>rfl
    · rename_i id o len z;simp only[text,c4,a];split
      ·rfl
      · cases T.t.get id<;>try rfl
        dsimp only;split
        ·simp[vh]
        ·rfl
theorem OI(T:S)(n:Nat)(x v:J):(qy T n x v).map S.ah=au T.ah n x v:=by
 unfold qy au;cases x<;>try rfl
 dsimp only;show _=match T.t.get _ with | .row cs=>_|_=>_
 split
 ·split<;>simp
 ·rfl
theorem D9(T:S)(mu:Bool)(cells:List J):vh (oW T mu cells)=aQ T.ah mu cells:=by unfold oW aQ vh;split<;>simp
theorem OJ(T:S)(mu:Bool)(n:Nat)(v:J):(qz T mu n v).map vh=aM T.ah mu n v:=by
 unfold qz aM;split
 ·simp[D9]
 ·rfl
theorem OK(T:S)(mu:Bool)(sz a:Nat)(b:List J)(parts:List (Nat×Nat×J)):(qA T mu sz a b parts).map vh=cb T.ah mu sz a b parts:=by unfold qA cb;rw[Option.map_map];congr 1;funext cells;simp only[Function.comp,vh];split<;>simp
theorem OL(T:S)(mu:Bool)(sz bytes:Nat)(x y:J):(qB T mu sz bytes x y).map vh=bR T.ah mu sz bytes x y:=by
 unfold qB bR;have a:∀i,T.ah.o i=T.t.get i:=λ_=>rfl;simp only[a];cases b:ef T.ah sz y with
 |none=>rfl
 | some p =>
  obtain⟨m,news⟩:=p;dsimp only;by_cases hs:news.all J.scalar=true
  · simp only [hs,not_true_eq_false,bz];cases x<;>try rfl
    · rename_i tk len cells;dsimp only;by_cases hm:m=0
      ·simp only[af hm];rfl
      · simp only[ai hm];by_cases hc:¬(cells.length=len*sz∧(len+m)*bytes≤140737488355328∧len+m≤9223372036854775807)
        ·simp only[af hc];rfl
        · simp only[ai hc];cases tk<;>cases mu<;>try (simp[vh];done)
          all_goals
           rename_i t;dsimp only;cases ht:T.t.get t<;>try rfl
           dsimp only;split<;>simp[vh]
    · rename_i id o len c;dsimp only;cases ht:T.t.get id<;>try rfl
      dsimp only;split
      ·rfl
      · split
        ·rfl
        · split
          ·simp[vh]
          ·split<;>simp[vh]
  ·simp only[hs,not_false_eq_true,aT];rfl
theorem OM(T:S)(x:J):(tD T x).map vh=mW T.ah x:=by unfold tD mW;cases x<;>simp[vh]
theorem ON(T:S)(x:J):(tG T x).map vh=ky T.ah x:=by
 have a:∀i,T.ah.o i=T.t.get i:=λ_=>rfl;cases x<;>try rfl
 rename_i id off;cases off with
 |succ k=>rfl
 | zero=>
  simp only[tG,ky,a];cases ht:T.t.get id<;>try rfl
  dsimp only;split<;>simp[vh]
theorem OO(T:S)(mu:Bool)(sz bytes:Nat)(a:List J)(b cap:J):(oX T mu sz bytes a b cap).map vh=kz T.ah mu sz bytes a b cap:=by
 have go:∀n c:Int,(oX T mu sz bytes a (.int .i64 n) (.int .i64 c)).map vh=kz T.ah mu sz bytes a (.int .i64 n) (.int .i64 c):=by
  intro n c;simp only[oX,kz];by_cases h:0≤n∧n≤c∧bytes*c≤281474976710656∧c≤9223372036854775807∧a.length=sz
  · simp only[af h];by_cases hm:mu=true
    ·simp only[af hm];simp[vh]
    · simp only[ai hm];by_cases d:n=c
      ·simp only[af d];rfl
      ·simp only[ai d];rfl
  ·simp only[ai h];rfl
 cases b<;>try rfl
 rename_i k n;cases k<;>try rfl
 cases cap<;>try rfl
 rename_i k c;cases k<;>try rfl
 exact go n c
theorem OP(T:S)(sz:Nat)(x y:J):(qC T sz x y).map vh=qh T.ah sz x y:=by
 have a:∀i,T.ah.o i=T.t.get i:=λ_=>rfl;unfold qC qh;cases b:ef T.ah sz y with
 |none=>cases x<;>rfl
 | some p=>
  cases x<;>try rfl
  rename_i id o len c;simp only[a];cases ht:T.t.get id<;>try rfl
  dsimp only;split<;>simp[vh]
theorem OQ(T:S)(kk:FK)(m k v:J):(qD T kk m k v).map S.ah=jm T.ah kk m k v:=by
 have a:∀i,T.ah.o i=T.t.get i:=λ_=>rfl;cases m<;>try rfl
 rename_i id;simp only[qD,jm,a];cases ht:T.t.get id<;>try rfl
 rename_i es;dsimp only;by_cases h:plainKey kk k∧v.known
 · simp only[af h];cases hf:fG kk k es 0 with
   |none=>rfl
   |some r=>cases r<;>simp
 ·simp only[ai h];rfl
theorem OR(T:S)(kk:FK)(m k:J):(tH T kk m k).map S.ah=qi T.ah kk m k:=by
 have a:∀i,T.ah.o i=T.t.get i:=λ_=>rfl;cases m<;>try rfl
 rename_i id;simp only[tH,qi,a];cases ht:T.t.get id<;>try rfl
 rename_i es;dsimp only;by_cases h:plainKey kk k
 · simp only[af h];cases hf:fG kk k es 0 with
   |none=>rfl
   |some r=>cases r<;>simp
 ·simp only[ai h];rfl
theorem D_(T:S)(x:J):(ns T x).map vh=mg T.ah x:=by
 have b:∀i,T.ah.o i=T.t.get i:=λ_=>rfl;cases x<;>try rfl
 · rename_i id o;simp only[ns,mg,b];cases ht:T.t.get id<;>try rfl
   rename_i cs;dsimp only;show adp vh (match hn T.ah.o cs with
     |some (l,a)=>if a=id then none else some (.ptr id o,(T.set a .gone).set id (.row l))
     |none=>some (.ak (cs.drop o),T.set id .gone))=_
   cases hn T.ah.o cs with
   |none=>simp[vh]
   | some q=>
    obtain⟨l,a⟩:=q;dsimp only;by_cases e:a=id
    ·rw[af e,af e];rfl
    ·rw[ai e,ai e];simp[vh]
 · rename_i id o len sz;simp only[ns,mg,b];cases ht:T.t.get id<;>try rfl
   dsimp only;split<;>simp[vh]
 · rename_i cells;simp only[ns,mg];show adp vh (match hn T.ah.o cells with|some (l,id)=>some (.agg l,T.set id .gone)|none=>some (.agg cells,T))=_;cases hn T.ah.o cells with
   |none=>rfl
   |some q=>simp[vh]
end Rb

namespace Rb
open Go
variable{n:Nat}{env:Env}{Φ:ad}{H:AH}{ops:List bA}{o:bA}
noncomputable section
abbrev EV:=List (Nat×J)
def dd(E:EV)(t:Nat):J:=adq (motive:=λ_=>J) .bot (λp _ a=>cond (adm p.1 t) p.2 a) E
def ep(n:Nat)(E:EV)(t:Nat)(v:J):EV:=cond (adr t n) ((t,v)::E) E
def eH(n:Nat)(E:EV)(d:Option Nat)(v:J):EV:=
 match d with
 |some t=>ep n E t v
 |none=>E
theorem OS(a b:Nat):adm a b=decide (a=b):=by rw[acS];simp
theorem OT(a b:Nat):adr a b=decide (a<b):=by rw[acS];simp[adr];omega
theorem tI(t:Nat)(v:J)(E:EV)(i:Nat):dd ((t,v)::E) i=if t=i then v else dd E i:=by show cond (adm t i) v (dd E i)=_;rw[OS,cond_eq_ite];simp
def cY(n:Nat)(E:EV)(env:Env):Prop:=env.length=n∧∀i,dd E i=env.getD i .bot
theorem cY.set{E:EV}(h:cY n E env)(t:Nat)(v:J):cY n (ep n E t v) (env.set t v):=by
 refine⟨by simp[h.1],λi=>?_⟩;unfold ep;rw[OT,cond_eq_ite];by_cases ht:t<n
 · rw[af (by simpa using ht),tI,abQ,aaV];by_cases e:t=i
   ·rw[af e,af e,af (by rw[h.1];exact ht)];rfl
   ·rw[ai e,ai e,←abQ];exact h.2 i
 · rw[ai (by simpa using ht),ade (by rw[h.1];omega)];exact h.2 i
theorem cY.bP{E:EV}(h:cY n E env)(d:Option Nat)(v:J):cY n (eH n E d v) (Rb.bP env d v):=by
 cases d with
 |none=>exact h
 |some t=>exact h.set t v
def lC:List J→Nat→EV
 |[],_=>[]
 |a::r,i=>(i,a)::lC r (i+1)
theorem y_:∀(args:List J)(i j:Nat),dd (lC args i) j=if j<i then .bot else args.getD (j-i) .bot
 |[],i,j=>by simp[lC,dd]
 | a :: r,i,j=>by
  rw[lC,tI,y_ r (i+1) j];by_cases h:i=j
  ·subst h;simp
  · rw[ai h];by_cases b:j<i
    ·rw[cA,af b]
    ·rw[bO,ai b,show j-i=(j-(i+1))+1 by omega];simp
def aS.sub(E:EV):aS→aS
 | .t n=> .k (dd E n)
 | .k v=> .k v
theorem tJ{E:EV}(h:cY n E env)(x:aS):(x.sub E).ev []=x.ev env:=by
 cases x with
 |t i=>exact h.2 i
 |k v=>rfl
def dh.sub(E:EV):dh→dh
 | .mv x=> .mv (x.sub E)
 | .pick c a b=> .pick (c.sub E) (a.sub E) (b.sub E)
 | .bin op x y=> .bin op (x.sub E) (y.sub E)
 | .beq neg x y=> .beq neg (x.sub E) (y.sub E)
 | .iQ k neg x=> .iQ k neg (x.sub E)
 | .h4 neg ks x y=> .h4 neg ks (x.sub E) (y.sub E)
 | .un op x=> .un op (x.sub E)
 | .conv k x=> .conv k (x.sub E)
 | .same x=> .same (x.sub E)
 | .jn x=> .jn (x.sub E)
 | .field off sz agg x=> .field off sz agg (x.sub E)
 | .idx l sz agg x i=> .idx l sz agg (x.sub E) (i.sub E)
 | .idxs x i=> .idxs (x.sub E) (i.sub E)
 | .jo off x=> .jo off (x.sub E)
 | .iR arr sz x i=> .iR arr sz (x.sub E) (i.sub E)
 | .slice sz x lo hi mx=> .slice sz (x.sub E) (lo.map (aS.sub E)) (hi.map (aS.sub E)) (mx.map (aS.sub E))
 | .jq x lo hi=> .jq (x.sub E) (lo.map (aS.sub E)) (hi.map (aS.sub E))
 | .gK t x=> .gK t (x.sub E)
 | .gj key bH=> .gj key (bH.map (aS.sub E))
 | .extract i x=> .extract i (x.sub E)
 | .build zero parts=> .build zero (parts.map λp=>(p.1,p.2.1,p.2.2.sub E))
 | .len str x=> .len str (x.sub E)
 | .gL n=> .gL n
 | .cap x=> .cap (x.sub E)
 | .gM mx xs=> .gM mx (xs.map (aS.sub E))
 | .load n agg x=> .load n agg (x.sub E)
 | .store n x v=> .store n (x.sub E) (v.sub E)
 | .box mu n x=> .box mu n (x.sub E)
 | .alloc mu zero=> .alloc mu zero
 | .gk mu sz l zero parts=> .gk mu sz l zero (parts.map λp=>(p.1,p.2.1,p.2.2.sub E))
 | .append mu sz bytes x y=> .append mu sz bytes (x.sub E) (y.sub E)
 | .make mu sz bytes zero l c=> .make mu sz bytes zero (l.sub E) (c.sub E)
 | .copy sz x y=> .copy sz (x.sub E) (y.sub E)
 | .gl=> .gl
 | .lookup kk zero ok m k=> .lookup kk zero ok (m.sub E) (k.sub E)
 | .gN kk m k v=> .gN kk (m.sub E) (k.sub E) (v.sub E)
 | .delete kk m k=> .delete kk (m.sub E) (k.sub E)
 | .gO m=> .gO (m.sub E)
 | .jr x=> .jr (x.sub E)
 | .gP x=> .gP (x.sub E)
 | .ho x=> .ho (x.sub E)
 | .hp x=> .hp (x.sub E)
 | .call key args=> .call key (args.map (aS.sub E))
 | .hq f args=> .hq (f.sub E) (args.map (aS.sub E))
 | .ext e xs=> .ext e (xs.map (aS.sub E))
 | .inv gQ x args=> .inv gQ (x.sub E) (args.map (aS.sub E))
theorem tK{E:EV}(h:cY n E env){K:ab}(op:dh):b4 Φ [] H K (op.sub E)=b4 Φ env H K op:=by
 have h1:=tJ h;have hl:∀xs:List aS,dD [] (xs.map (aS.sub E))=dD env xs:=λxs=>by simp only[dD,ads];congr 1;funext x;exact h1 x
 have a:∀xs:List (Nat×Nat×aS),e9 [] (xs.map λp=>(p.1,p.2.1,p.2.2.sub E))=e9 env xs:=λxs=>by simp only[e9,ads];congr 1;funext x;simp[h1]
 have b:∀x:Option aS,(x.map (aS.sub E)).map (aS.ev [])=x.map (aS.ev env):=λx=>by cases x<;>simp[h1]
 cases op<;>simp only[dh.sub,b4,h1,hl,a,b]
abbrev jy:=EV→AH→Prop
def jz(Φ:ad)(n:Nat):List bA→EV→AH→jy→Prop
 |[],E,H,K=>K E H
 | o :: r,E,H,K=>
  match o.guard with
  |none=>b4 Φ [] H (λv H'=>jz Φ n r (eH n E o.dst v) H' K) (o.op.sub E)
  | some (s,want)=>
   aN (dd E s) want (b4 Φ [] H (λv H'=>jz Φ n r (eH n (ep n E s (.bool want)) o.dst v) H' K) (o.op.sub (ep n E s (.bool want))))
    (jz Φ n r (eH n (ep n E s (.bool !want)) o.dst (.ar [])) H K) (jz Φ n r (eH n (ep n E s (.ar [])) o.dst (.ar [])) H K)
theorem aN.imp{v:J}{b:Bool}{A B C c d e:Prop}(f:A→c)(hB:B→d)(g:C→e)(h:aN v b A B C):aN v b c d e:=by
 unfold aN at *;split at h
 · split at h
   ·rename_i a;simp[a,f h]
   ·rename_i a;simp[a,hB h]
 ·exact g h
 ·exact h.elim
theorem za(d:iw Φ):∀{l:List bA}{E:EV}{env:Env}{H:AH}{K:jy}{Q:Env→AH→Prop},cY n E env→jz Φ n l E H K→(∀e aI H',cY n e aI→K e H'→Q aI H')→hr Φ l env H Q:=by
 intro l;induction l with
 |nil=>intro E env H K Q a h b;exact b _ _ _ a h
 | cons o r c=>
  intro E env H K Q a h b;simp only[jz]at h;simp only[hr];cases f:o.guard with
  | none=>rw[f]at h;dsimp only at h ⊢;rw[tK a]at h;exact oN d (λv H' h=>c (a.bP _ _) h b) h
  | some g=>obtain⟨s,want⟩:=g;rw[f]at h;dsimp only at h ⊢;rw[a.2 s,tK (a.set s _)]at h;exact aN.imp (oN d λv H' h=>c ((a.set _ _).bP _ _) h b) (λh=>c ((a.set _ _).bP _ _) h b) (λh=>c ((a.set _ _).bP _ _) h b) h
def oY(Φ:ad)(n:Nat)(o:bA)(E:EV)(H:AH)(K:jy):Prop:=
 match o.guard with
 |none=>b4 Φ [] H (λv H'=>K (eH n E o.dst v) H') (o.op.sub E)
 | some (s,want)=>
  aN (dd E s) want (b4 Φ [] H (λv H'=>K (eH n (ep n E s (.bool want)) o.dst v) H') (o.op.sub (ep n E s (.bool want))))
   (K (eH n (ep n E s (.bool !want)) o.dst (.ar [])) H) (K (eH n (ep n E s (.ar [])) o.dst (.ar [])) H)
theorem Ea(c:iw Φ){E:EV}{K:jy}{Q:Env→AH→Prop}(a:cY n E env)(h:oY Φ n o E H K)(b:∀d aI H',cY n d aI→K d H'→Q aI H'):iS Φ o env H Q:=by
 unfold oY at h;unfold iS;cases e:o.guard with
 | none=>rw[e]at h;dsimp only at h ⊢;rw[tK a]at h;exact oN c (λv H' h=>b _ _ _ (a.bP _ _) h) h
 | some g=>obtain⟨s,want⟩:=g;rw[e]at h;dsimp only at h ⊢;rw[a.2 s,tK (a.set s _)]at h;exact aN.imp (oN c λv H' h=>b _ _ _ ((a.set _ _).bP _ _) h) (λh=>b _ _ _ ((a.set _ _).bP _ _) h) (λh=>b _ _ _ ((a.set _ _).bP _ _) h) h
def mr(Φ:ad)(n:Nat)(ops:List bA):List Nat→EV→AH→jy→Prop
 |[],E,H,K=>K E H
 | i::r,E,H,K=>match ops[i]? with
  |some o=>oY Φ n o E H λa H'=>mr Φ n ops r a H' K
  |none=>False
theorem Eb(d:iw Φ):∀{l:List Nat}{E:EV}{env:Env}{H:AH}{K:jy}{Q:Env→AH→Prop},cY n E env→mr Φ n ops l E H K→(∀a aI H',cY n a aI→K a H'→Q aI H')→kD Φ ops l env H Q:=by
 intro l;induction l with
 |nil=>intro E env H K Q b h c;exact c _ _ _ b h
 | cons i r e=>
  intro E env H K Q b h c;simp only[mr]at h;simp only[kD];split at h
  · rename_i o f;rw[f];exact Ea d b h λa aI H' g j=>e g j c
  ·exact h.elim
def oZ(E:EV)(H:AH)(o:bA):Prop:=
 match o.op with
 | .load n agg x=>W H n agg ((x.sub E).ev [])=some (dd E (o.dst.getD 0))
 | .lookup kk zero ok m k=>fX H kk zero ok ((m.sub E).ev []) ((k.sub E).ev [])=some (dd E (o.dst.getD 0))
 | .gO m=>kA H ((m.sub E).ev [])=some (dd E (o.dst.getD 0))
 | .gP x=>abstr H ((x.sub E).ev [])=some (dd E (o.dst.getD 0))
 |_=>True
def qE(E:EV)(H:AH)(o:bA):Prop:=
 match o.guard with
 |none=>oZ E H o
 |some (s,want)=>dd E s = .bool want→oZ E H o
theorem OU{E:EV}(a:cY n E env)(h:qE E H o):qj env H o:=by
 have h1:=tJ a;have fin:oZ E H o→ow env H o:=by unfold oZ ow;intro h;cases c:o.op<;>rw[c]at h<;>dsimp only at h ⊢ <;> (try rw[h1]at h)<;>(try rw[h1]at h)<;>(try rw[a.2]at h)<;>exact h
 unfold qE at h;unfold qj;cases b:o.guard with
 |none=>rw[b]at h;exact fin h
 | some g=>obtain⟨s,want⟩:=g;rw[b]at h;dsimp only at h ⊢;rw[a.2]at h;exact λhs=>fin (h hs)
def tM(ops:List bA)(E:EV)(H:AH)(X:Prop):List Nat→Prop
 |[]=>X
 |l::r=>(match ops[l]? with|some o=>qE E H o|none=>True)∧tM ops E H X r
theorem OW{E:EV}(a:cY n E env){X Y:Prop}(b:X→Y):∀{l:List Nat},tM ops E H X l→fK ops env H Y l:=by
 intro l;induction l with
 |nil=>intro h;exact b h
 | cons i r c=>
  intro h;refine⟨?_,c h.2⟩;have h1:=h.1;cases d:ops[i]? with
  |none=>trivial
  |some o=>rw[d]at h1;exact OU a h1
def o0(Φ:ad)(n:Nat)(ops:List bA)(a:List Nat):List (List Nat×Nat×List Nat)→EV→AH→jy→Prop
 |[],E,H,K=>mr Φ n ops a E H K
 | (c,e,st)::r,E,H,K=>mr Φ n ops c E H λb H1=>match ops[e]? with
  |some o=>oY Φ n o b H1 λd H2=>tM ops b H2 (o0 Φ n ops a r d H2 K) st
  |none=>False
theorem Ec(a:iw Φ){d:List Nat}:∀{bf:List (List Nat×Nat×List Nat)}{E:EV}{env:Env}{H:AH}{K:jy}{Q:Env→AH→Prop},cY n E env→o0 Φ n ops d bf E H K→(∀f aI H',cY n f aI→K f H'→Q aI H')→iq Φ ops d bf env H Q:=by
 intro bf;induction bf with
 |nil=>intro E env H K Q b h c;exact Eb a b h c
 | cons p r j=>
  obtain⟨m,e,st⟩:=p;intro E env H K Q b h c;simp only[o0]at h;simp only[iq];refine Eb a b h λq e1 H1 g h1=>?_;cases i:ops[e]? with
  |none=>rw[i]at h1;exact h1.elim
  | some o=>rw[i]at h1;exact Ea a g h1 λs t H2 k l=>OW g (λh=>j k h c) l
def gX(E:EV)(vs:List Nat):List J:=vs.map λt=>dd E t
def jA(n:Nat)(E:EV):List Nat→EV
 |[]=>E
 |t::r=>jA n (ep n E t .bot) r
def h9(n:Nat)(E:EV):List Nat→List J→EV
 |t::r,s=>h9 n (ep n E t (s.headD .bot)) r s.tail
 |[],_=>E
theorem cY.dS{E:EV}(h:cY n E env)(vs:List Nat):gX E vs=Rb.dS env vs:=by simp only[gX,Rb.dS];congr 1;funext t;exact h.2 t
theorem cY.eB{n:Nat}:∀(ks:List Nat){E:EV}{env:Env},cY n E env→cY n (jA n E ks) (Rb.eB env ks)
 |[],_,_,h=>h
 |t::r,_,_,h=>cY.eB r (h.set t _)
theorem cY.hy{n:Nat}:∀(vs:List Nat)(a:List J){E:EV}{env:Env},cY n E env→cY n (h9 n E vs a) (Rb.hy env vs a)
 |[],_,_,_,h=>h
 |t::r,a,_,_,h=>cY.hy r a.tail (h.set t _)
def eC(Φ:ad)(n:Nat):eF→EV→AH→(gR→EV→AH→Prop)→Prop
 | .skip,E,H,Q=>Q .normal E H
 | .region ops,E,H,Q=>jz Φ n ops E H (Q .normal)
 | .draw ops _ bf last,E,H,Q=>o0 Φ n ops last bf E H (Q .normal)
 | .seq a b,E,H,Q=>eC Φ n a E H λe c H'=>match e with
  | .normal=>eC Φ n b c H' Q
  |e=>Q e c H'
 | .join vs ks a b,E,H,Q=>eC Φ n a E H λe c H'=>match e with
  | .normal=>G (λst d=>eC Φ n b (h9 n (jA n E ks) vs st) d Q) (gX c vs) H'
  |e=>Q e c H'
 | .cond x a b,E,H,Q=>L ((x.sub E).ev []) true (eC Φ n a E H Q) (eC Φ n b E H Q)
 | .block id a,E,H,Q=>eC Φ n a E H λe c H'=>match e with
  | .exit f=>if f=id then Q .normal c H' else Q (.exit f) c H'
  |e=>Q e c H'
 | .loop vs ks a,E,H,Q=>
  av (λ(s:List J×AH) (K:List J×AH→Prop)=>
    eC Φ n a (h9 n (jA n E ks) vs s.1) s.2 λe c H'=>match e with
     | .normal=>K (gX c vs,H')
     |e=>Q e c H') (gX E vs,H)
 | .exit id,E,H,Q=>Q (.exit id) E H
 | .ret,E,H,Q=>Q .ret E H
 | .freeze t a,E,H,Q=>aw (mg H (dd E t)) λv H'=>eC Φ n a (ep n E t v) H' Q
 | .hx vs ks ops b,E,H,Q=>jz Φ n ops E H λc H'=>G (λst d=>eC Φ n b (h9 n (jA n E ks) vs st) d Q) (gX c vs) H'
theorem av.imp{a:Type}{F b:a→(a→Prop)→Prop}(c:∀s K,F s K→b s K){s:a}(h:av F s):av b s:=λd e=>h d λs K hs f=>e s K (c s K hs) f
theorem OX(p:iw Φ):∀{c:eF}{E:EV}{env:Env}{H:AH}{K:gR→EV→AH→Prop}{Q:gR→Env→AH→Prop},cY n E env→eC Φ n c E H K→(∀x j aI H',cY n j aI→K x j H'→Q x aI H')→eg Φ c env H Q:=by
 intro c;induction c with
 |skip=>intro E env H K Q d h e;exact e _ _ _ _ d h
 |region ops=>intro E env H K Q d h e;exact za p d h λ_ _ _ d h=>e _ _ _ _ d h
 |draw ops pr bf last=>intro E env H K Q d h e;exact Ec p d h λ_ _ _ d h=>e _ _ _ _ d h
 | seq a b l m=>
  intro E env H K Q d h e;simp only[eC]at h;simp only[eg];refine l d h λx j o H' g f=>?_;cases x with
  |normal=>exact m g f e
  |exit i=>exact e _ _ _ _ g f
  |ret=>exact e _ _ _ _ g f
 | join vs ks a b l m=>
  intro E env H K Q d h e;simp only[eC]at h;simp only[eg];refine l d h λx j o H' g f=>?_;cases x with
  | normal=>dsimp only at f ⊢;rw[g.dS vs]at f;exact m ((d.eB ks).hy vs _) f e
  |exit i=>exact e _ _ _ _ g f
  |ret=>exact e _ _ _ _ g f
 | cond x a b l m=>intro E env H K Q d h e;simp only[eC,tJ d]at h;exact L.mono (λh=>l d h e) (λh=>m d h e) h
 | block id a k=>
  intro E env H K Q d h e;simp only[eC]at h;simp only[eg];refine k d h λx j o H' g f=>?_;cases x with
  |normal=>exact e _ _ _ _ g f
  | exit i=>
   dsimp only at f ⊢;split
   ·rename_i hi;rw[af hi]at f;exact e _ _ _ _ g f
   ·rename_i hi;rw[ai hi]at f;exact e _ _ _ _ g f
  |ret=>exact e _ _ _ _ g f
 | loop vs ks a k=>
  intro E env H K Q d h e;simp only[eC]at h;simp only[eg];rw[d.dS vs]at h;refine av.imp (λs K' hs=>k ((d.eB ks).hy vs s.1) hs λx j o H' g f=>?_) h;cases x with
  |normal=>dsimp only at f ⊢;rw[←g.dS vs];exact f
  |exit i=>exact e _ _ _ _ g f
  |ret=>exact e _ _ _ _ g f
 |exit id=>intro E env H K Q d h e;exact e _ _ _ _ d h
 |ret=>intro E env H K Q d h e;exact e _ _ _ _ d h
 | freeze t a k=>intro E env H K Q d h e;simp only[eC]at h;simp only[eg];rw[d.2 t]at h;exact aw.mono (λv H' f=>k (d.set t v) f e) h
 | hx vs ks ops b k=>intro E env H K Q d h e;simp only[eC]at h;simp only[eg];refine za p d h λj o H' g f=>?_;rw[g.dS vs]at f;exact k ((d.eB ks).hy vs _) f e
def nt(E:EV)(H:AH):List iT→(List J→Prop)→Prop
 |[],K=>K []
 | .tmp t::r,K=>nt E H r λvs=>K (dd E t::vs)
 | .cell t n agg::r,K=>Do (W H n agg (dd E t)) λv=>nt E H r λvs=>K (v::vs)
theorem zb{E:EV}(a:cY n E env):∀{rs:List iT}{K:List J→Prop},nt E H rs K=kE env H rs K:=by
 intro rs;induction rs with
 |nil=>intro K;rfl
 | cons r rs b=>
  intro K;cases r with
  |tmp t=>simp only[nt,kE,b,a.2]
  |cell t n agg=>simp only[nt,kE,b,a.2]
def zc(Φ:ad)(f:aF)(args:List J)(H:AH)(Q:ab):Prop:=
 eC Φ f.ntmps f.body (lC args 0) H λe E H'=>match e with
  | .exit _=>False
  |_=>nt E H' f.results λvs=>Q (mi vs) H'
def zd(Φ:ad)(f:aF)(args:List J)(H:AH)(Q:ab):Prop:=args.length≤f.ntmps∧zc Φ f args H Q
theorem OY(c:iw Φ){f:aF}{args:List J}{Q:ab}(h:zd Φ f args H Q):ox Φ f args H Q:=by
 have d:cY f.ntmps (lC args 0) (args++VR (f.ntmps-args.length) .bot):=by
  refine⟨by simp;have:=h.1;omega,λi=>?_⟩;rw[y_];simp only[adt,bz,adu];simp only[abQ];by_cases hi:i<args.length
  ·rw[ab8 hi]
  · rw[ab9 (by omega),acO (by omega),adh];split<;>rfl
 refine OX c d h.2 λx e g H' b a=>?_;cases x with
 |normal=>dsimp only at a ⊢;rw[zb b]at a;exact a
 |exit i=>exact a
 |ret=>dsimp only at a ⊢;rw[zb b]at a;exact a
end
end Rb

namespace Rb
open Go
variable{Φ:ad}{B:c7}{T:S}{n fuel:Nat}{E:EV}{K:fi}{Q:ab}{P:Prop}{o:bA}{ops:List bA}{v:J}{want:Bool}
def ze(Φ:c7)(f:J)(args:List J)(T:S)(K:fi):Bool:=
 match f with
 | .fn key bH=>Φ (fI key) (fJ key args bH) T K
 |_=>false
def zf(Φ:c7)(gQ:List (TypeId×Nat×Option (Nat×Bool)))(x:J)(args:List J)(T:S)(K:fi):Bool:=
 match x with
 | .iface t v=>(match fH gQ t with
   | some r=>(match h3 T.ah r.2 v with
     |some u=>Φ r.1 (u::args) T K
     |none=>false)
   |none=>false)
 |_=>false
def lD(Φ:c7)(d:Env)(T:S)(K:fi):dh→Bool
 | .mv x=>K (x.ev d) T
 | .pick c a b=>oV (c.ev d) true (K (a.ev d) T) (K (b.ev d) T)
 | .bin op x y=>dc (M op (x.ev d) (y.ev d)) λv=>K v T
 | .beq neg x y=>dc (ku neg (x.ev d) (y.ev d)) λv=>K v T
 | .iQ k neg x=>dc (h2 k neg (x.ev d)) λv=>K v T
 | .h4 neg ks x y=>dc (jk neg ks (x.ev d) (y.ev d)) λv=>K v T
 | .un op x=>dc (cC op (x.ev d)) λv=>K v T
 | .conv k x=>dc (db k (x.ev d)) λv=>K v T
 | .same x=>dc (oq (x.ev d)) λv=>K v T
 | .jn x=>dc (aC (x.ev d)) λv=>K v T
 | .field off sz agg x=>dc (ly off sz agg (x.ev d)) λv=>K v T
 | .idx len sz agg x i=>dc (kv len sz agg (x.ev d) (i.ev d)) λv=>K v T
 | .idxs x i=>dc (jl (x.ev d) (i.ev d)) λv=>K v T
 | .jo off x=>dc (aa off (x.ev d)) λv=>K v T
 | .iR arr sz x i=>dc (aL arr sz (x.ev d) (i.ev d)) λv=>K v T
 | .slice sz x lo hi mx=>dc (c6 sz (x.ev d) (lo.map (aS.ev d)) (hi.map (aS.ev d)) (mx.map (aS.ev d))) λv=>K v T
 | .jq x lo hi=>dc (ot (x.ev d) (lo.map (aS.ev d)) (hi.map (aS.ev d))) λv=>K v T
 | .gK t x=>K (.iface t (x.ev d)) T
 | .gj key bH=>K (.fn key (dD d bH)) T
 | .extract i x=>dc (bo i (x.ev d)) λv=>K v T
 | .build zero parts=>dc (aD zero (e9 d parts)) λv=>K v T
 | .len str x=>dc (aY str (x.ev d)) λv=>K v T
 | .gL n=>K (.int .i64 n) T
 | .cap x=>dc (kB (x.ev d)) λv=>K v T
 | .gM mx xs=>dc (eL mx (dD d xs)) λv=>K v T
 | .load n agg x=>dc (W T.ah n agg (x.ev d)) λv=>K v T
 | .store n x v=>dc (qy T n (x.ev d) (v.ev d)) λT=>K (.ar []) T
 | .box mu n x=>gW (qz T mu n (x.ev d)) K
 | .alloc mu zero=>gW (some (oW T mu zero)) K
 | .gk mu sz len zero parts=>gW (qA T mu sz len zero (e9 d parts)) K
 | .append mu sz bytes x y=>gW (qB T mu sz bytes (x.ev d) (y.ev d)) K
 | .make mu sz bytes zero len cap=>gW (oX T mu sz bytes zero (len.ev d) (cap.ev d)) K
 | .copy sz x y=>gW (qC T sz (x.ev d) (y.ev d)) K
 | .gl=>K (.map T.n) (T.push (.map []))
 | .lookup kk zero ok m k=>dc (fX T.ah kk zero ok (m.ev d) (k.ev d)) λv=>K v T
 | .gN kk m k v=>dc (qD T kk (m.ev d) (k.ev d) (v.ev d)) λT=>K (.ar []) T
 | .delete kk m k=>dc (tH T kk (m.ev d) (k.ev d)) λT=>K (.ar []) T
 | .gO m=>dc (kA T.ah (m.ev d)) λv=>K v T
 | .jr x=>dc (mf (x.ev d)) λv=>K v T
 | .gP x=>dc (abstr T.ah (x.ev d)) λv=>K v T
 | .ho x=>gW (tD T (x.ev d)) K
 | .hp x=>gW (tG T (x.ev d)) K
 | .call key args=>Φ key (dD d args) T K
 | .hq f args=>ze Φ (f.ev d) (dD d args) T K
 | .ext e xs=>gW (text T e (dD d xs)) K
 | .inv gQ x args=>zf Φ gQ (x.ev d) (dD d args) T K
def er(Φ:ad)(B:c7):Prop:=∀k args T (K:fi),B k args T K=true→∀Q:ab,(∀v a,K v a=true→Q v a.ah)→Φ k args T.ah Q
theorem Ed{α:Type}{x:Option α}{K:α→Bool}{P:α→Prop}(h:dc x K=true)(b:∀a,K a=true→P a):Do x P:=by
 cases x with
 |none=>cases h
 |some a=>exact⟨a,rfl,b a h⟩
theorem j4{x:Option (J×S)}{y:Option (J×AH)}(c:x.map vh=y)(h:gW x K=true)(d:∀v b,K v b=true→Q v b.ah):aw y Q:=by
 cases x with
 |none=>cases h
 |some a=>subst c;exact⟨a.1,a.2.ah,rfl,d _ _ h⟩
theorem zg{x:Option S}{y:Option AH}{K:S→Bool}{P:AH→Prop}(c:x.map S.ah=y)(h:dc x K=true)(d:∀b,K b=true→P b.ah):Do y P:=by
 cases x with
 |none=>cases h
 |some a=>subst c;exact⟨a.ah,rfl,d _ h⟩
theorem zh{A B:Bool}{P Q:Prop}(h:oV v want A B=true)(a:A=true→P)(hB:B=true→Q):L v want P Q:=by
 cases v<;>first|cases h|skip
 rename_i b;simp only[oV]at h;unfold L;dsimp only;split
 ·rename_i e;subst e;simp at h;exact a h
 · rename_i e;have:(b ^^ want)=true:=by cases b<;>cases want<;>simp_all
   rw[this]at h;exact hB h
theorem tN(hB:er Φ B){b:Env}{op:dh}(h:lD B b T K op=true)(a:∀v c,K v c=true→Q v c.ah):b4 Φ b T.ah Q op:=by
 cases op with
 |mv=>exact a _ _ h
 |pick=>exact zh h (a _ _) (a _ _)
 |gK=>exact a _ _ h
 |gj=>exact a _ _ h
 |gL=>exact a _ _ h
 |store=>exact zg (OI _ _ _ _) h λ_ h=>a _ _ h
 |gN=>exact zg (OQ _ _ _ _ _) h λ_ h=>a _ _ h
 |delete=>exact zg (OR _ _ _ _) h λ_ h=>a _ _ h
 |box=>exact j4 (OJ _ _ _ _) h a
 |alloc mu zero=>exact j4 (x:=some (oW T mu zero)) (by simp only[aaL,D9]) h a
 |gk=>exact j4 (OK _ _ _ _ _ _) h a
 |append=>exact j4 (OL _ _ _ _ _ _) h a
 |make=>exact j4 (OO _ _ _ _ _ _ _) h a
 |copy=>exact j4 (OP _ _ _ _) h a
 |gl=>have:=a _ _ h;rw[S.OE]at this;exact this
 |ho=>exact j4 (OM _ _) h a
 |hp=>exact j4 (ON _ _) h a
 |call key args=>exact hB _ _ _ _ h _ a
 | hq f args=>
  simp only[lD,ze]at h;split at h
  · rename_i key bH hf;exact⟨key,bH,hf,hB _ _ _ _ h _ a⟩
  ·cases h
 |ext=>exact j4 (OH _ _ _) h a
 | inv gQ x args=>
  simp only[lD,zf]at h;split at h
  · rename_i t v d;split at h
    · rename_i r e;split at h
      · rename_i u hu;exact⟨t,v,r,u,d,e,hu,hB _ _ _ _ h _ a⟩
      ·cases h
    ·cases h
  ·cases h
 |_=>exact Ed h λ_ h=>a _ _ h
def qF(v:J)(want:Bool)(A B C:Bool):Bool:=
 match v with
 | .bool b=>bif ado b want then B else A
 | .ar []=>C
 |_=>false
theorem Ee{A B C:Bool}{P Q R:Prop}(h:qF v want A B C=true)(a:A=true→P)(hB:B=true→Q)(c:C=true→R):aN v want P Q R:=by
 unfold qF at h;unfold aN;split at h
 · rename_i b;dsimp only;split
   ·rename_i e;subst e;simp at h;exact a h
   · rename_i e;have:(b ^^ want)=true:=by cases b<;>cases want<;>simp_all
     rw[this]at h;exact hB h
 ·exact c h
 ·cases h
noncomputable section
def kQ(Φ:c7)(n:Nat):List bA→EV→S→(EV→S→Bool)→Bool
 |[],E,T,K=>K E T
 | o :: r,E,T,K=>
  match o.guard with
  |none=>lD Φ [] T (λv a=>kQ Φ n r (eH n E o.dst v) a K) (o.op.sub E)
  | some (s,want)=>
   qF (dd E s) want (lD Φ [] T (λv a=>kQ Φ n r (eH n (ep n E s (.bool want)) o.dst v) a K) (o.op.sub (ep n E s (.bool want))))
    (kQ Φ n r (eH n (ep n E s (.bool !want)) o.dst (.ar [])) T K) (kQ Φ n r (eH n (ep n E s (.ar [])) o.dst (.ar [])) T K)
theorem zi(hB:er Φ B):∀{l:List bA}{E:EV}{T:S}{K:EV→S→Bool}{Q:jy},kQ B n l E T K=true→(∀e b,K e b=true→Q e b.ah)→jz Φ n l E T.ah Q:=by
 intro l;induction l with
 |nil=>intro E T K Q h a;exact a _ _ h
 | cons o r c=>
  intro E T K Q h a;simp only[kQ]at h;simp only[jz];cases f:o.guard with
  | none=>rw[f]at h;exact tN hB h (Q:=λv H'=>jz Φ n r (eH n E o.dst v) H' Q) λv b d=>c d a
  | some g=>obtain⟨s,want⟩:=g;rw[f]at h;exact Ee h (λh=>tN hB h (Q:=λv H'=>jz Φ n r (eH n (ep n E s (.bool want)) o.dst v) H' Q) λv b d=>c d a) (λh=>c h a) λh=>c h a
def nu(Φ:c7)(n:Nat)(o:bA)(E:EV)(T:S)(K:EV→S→Bool):Bool:=
 match o.guard with
 |none=>lD Φ [] T (λv a=>K (eH n E o.dst v) a) (o.op.sub E)
 | some (s,want)=>
  qF (dd E s) want (lD Φ [] T (λv a=>K (eH n (ep n E s (.bool want)) o.dst v) a) (o.op.sub (ep n E s (.bool want))))
   (K (eH n (ep n E s (.bool !want)) o.dst (.ar [])) T) (K (eH n (ep n E s (.ar [])) o.dst (.ar [])) T)
theorem Ef(hB:er Φ B){K:EV→S→Bool}{Q:jy}(h:nu B n o E T K=true)(a:∀e b,K e b=true→Q e b.ah):oY Φ n o E T.ah Q:=by
 unfold nu at h;unfold oY;cases d:o.guard with
 | none=>rw[d]at h;exact tN hB h (Q:=λv H'=>Q (eH n E o.dst v) H') λv b c=>a _ _ c
 | some g=>obtain⟨s,want⟩:=g;rw[d]at h;exact Ee h (λh=>tN hB h (Q:=λv H'=>Q (eH n (ep n E s (.bool want)) o.dst v) H') λv b c=>a _ _ c) (λh=>a _ _ h) λh=>a _ _ h
def nw(Φ:c7)(n:Nat)(ops:List bA):List Nat→EV→S→(EV→S→Bool)→Bool
 |[],E,T,K=>K E T
 | i::r,E,T,K=>match ops[i]? with
  |some o=>nu Φ n o E T λa b=>nw Φ n ops r a b K
  |none=>false
theorem Eg(hB:er Φ B):∀{l:List Nat}{E:EV}{T:S}{K:EV→S→Bool}{Q:jy},nw B n ops l E T K=true→(∀e a,K e a=true→Q e a.ah)→mr Φ n ops l E T.ah Q:=by
 intro l;induction l with
 |nil=>intro E T K Q h b;exact b _ _ h
 | cons i r d=>
  intro E T K Q h b;simp only[nw]at h;simp only[mr];cases c:ops[i]? with
  |none=>rw[c]at h;cases h
  | some o=>rw[c]at h;exact Ef hB h (Q:=λe H'=>mr Φ n ops r e H' Q) λe a f=>d f b
def kR(x:Option J)(d:J):Bool:=
 match x with
 |some v=>v.same d
 |none=>false
def zj(g:J)(want:Bool)(X:Bool):Bool:=
 match g with
 | .bool b=>bif ado b want then true else X
 |_=>true
def o3(T:S)(E:EV)(o:bA):Bool:=
 match o.op with
 | .load n agg x=>kR (W T.ah n agg ((x.sub E).ev [])) (dd E (o.dst.getD 0))
 | .lookup kk zero ok m k=>kR (fX T.ah kk zero ok ((m.sub E).ev []) ((k.sub E).ev [])) (dd E (o.dst.getD 0))
 | .gO m=>kR (kA T.ah ((m.sub E).ev [])) (dd E (o.dst.getD 0))
 | .gP x=>kR (abstr T.ah ((x.sub E).ev [])) (dd E (o.dst.getD 0))
 |_=>true
theorem OZ{x:Option J}{d:J}(h:kR x d=true):x=some d:=by
 unfold kR at h;split at h
 ·rw[J.tB _ _ h]
 ·cases h
theorem Eh(h:o3 T E o=true):oZ E T.ah o:=by unfold o3 at h;unfold oZ;cases a:o.op<;>rw[a]at h<;>first|trivial|exact OZ h
def tO(T:S)(E:EV)(o:bA):Bool:=
 match o.guard with
 |none=>o3 T E o
 |some (s,want)=>zj (dd E s) want (o3 T E o)
theorem O0(h:tO T E o=true):qE E T.ah o:=by
 unfold tO at h;unfold qE;cases a:o.guard with
 |none=>rw[a]at h;exact Eh h
 | some g=>obtain⟨s,want⟩:=g;rw[a]at h;dsimp only at h ⊢;intro hs;rw[hs]at h;simp only[zj,Bool.xor_self,cond_false]at h;exact Eh h
def o4(ops:List bA)(E:EV)(T:S)(X:Bool):List Nat→Bool
 |[]=>X
 |l::r=>(match ops[l]? with|some o=>tO T E o|none=>true)&&o4 ops E T X r
theorem O1{X:Bool}(a:X=true→P):∀{l:List Nat},o4 ops E T X l=true→tM ops E T.ah P l:=by
 intro l;induction l with
 |nil=>intro h;exact a h
 | cons i r b=>
  intro h;simp only[o4,aaz]at h;refine⟨?_,b h.2⟩;have h1:=h.1;cases c:ops[i]? with
  |none=>trivial
  |some o=>rw[c]at h1;exact O0 h1
def o5(Φ:c7)(n:Nat)(ops:List bA)(a:List Nat):List (List Nat×Nat×List Nat)→EV→S→(EV→S→Bool)→Bool
 |[],E,T,K=>nw Φ n ops a E T K
 | (d,e,st)::r,E,T,K=>nw Φ n ops d E T λb f=>match ops[e]? with
  |some o=>nu Φ n o b f λg c=>o4 ops b c (o5 Φ n ops a r g c K) st
  |none=>false
theorem Ei(hB:er Φ B){b:List Nat}:∀{bf:List (List Nat×Nat×List Nat)}{E:EV}{T:S}{K:EV→S→Bool}{Q:jy},o5 B n ops b bf E T K=true→(∀e c,K e c=true→Q e c.ah)→o0 Φ n ops b bf E T.ah Q:=by
 intro bf;induction bf with
 |nil=>intro E T K Q h a;exact Eg hB h a
 | cons p r f=>
  obtain⟨i,e,st⟩:=p;intro E T K Q h a;simp only[o5]at h;simp only[o0];refine Eg hB h λe1 j h1=>?_;cases d:ops[e]? with
  |none=>rw[d]at h1;cases h1
  | some o=>rw[d]at h1;exact Ef hB h1 λk l g=>O1 (λh=>f h a) g
def zk{a:Type}(F:a→(a→Bool)→Bool)(n:Nat):a→Bool:=adv (motive:=λ_=>a→Bool) (λ_=>false) (λ_ b s=>F s b) n
def Ej(K:List J→S→Bool)(a:List J)(T:S):Bool:=K a T
def gv(Φ:c7)(fuel:Nat)(n:Nat):eF→EV→S→(gR→EV→S→Bool)→Bool
 | .skip,E,T,Q=>Q .normal E T
 | .region ops,E,T,Q=>kQ Φ n ops E T (Q .normal)
 | .draw ops _ bf last,E,T,Q=>o5 Φ n ops last bf E T (Q .normal)
 | .seq a b,E,T,Q=>gv Φ fuel n a E T λe d c=>match e with
  | .normal=>gv Φ fuel n b d c Q
  |e=>Q e d c
 | .join vs ks a b,E,T,Q=>gv Φ fuel n a E T λe d c=>match e with
  | .normal=>Ej (λst f=>gv Φ fuel n b (h9 n (jA n E ks) vs st) f Q) (gX d vs) c
  |e=>Q e d c
 | .cond x a b,E,T,Q=>oV ((x.sub E).ev []) true (gv Φ fuel n a E T Q) (gv Φ fuel n b E T Q)
 | .block id a,E,T,Q=>gv Φ fuel n a E T λe d c=>match e with
  | .exit g=>if g=id then Q .normal d c else Q (.exit g) d c
  |e=>Q e d c
 | .loop vs ks a,E,T,Q=>
  zk (λ(s:List J×S) (K:List J×S→Bool)=>
    gv Φ fuel n a (h9 n (jA n E ks) vs s.1) s.2 λe d c=>match e with
     | .normal=>K (gX d vs,c)
     |e=>Q e d c) fuel (gX E vs,T)
 | .exit id,E,T,Q=>Q (.exit id) E T
 | .ret,E,T,Q=>Q .ret E T
 | .freeze t a,E,T,Q=>gW (ns T (dd E t)) λv c=>gv Φ fuel n a (ep n E t v) c Q
 | .hx vs ks ops b,E,T,Q=>kQ Φ n ops E T λd c=>Ej (λst f=>gv Φ fuel n b (h9 n (jA n E ks) vs st) f Q) (gX d vs) c
theorem O2(hB:er Φ B):∀{c:eF}{E:EV}{T:S}{K:gR→EV→S→Bool}{Q:gR→EV→AH→Prop},gv B fuel n c E T K=true→(∀x e g,K x e g=true→Q x e g.ah)→eC Φ n c E T.ah Q:=by
 intro c;induction c with
 |skip=>intro E T K Q h d;exact d _ _ _ h
 |region ops=>intro E T K Q h d;exact zi hB h λ_ _ h=>d _ _ _ h
 |draw ops pr bf last=>intro E T K Q h d;exact Ei hB h λ_ _ h=>d _ _ _ h
 | seq a b l o=>
  intro E T K Q h d;simp only[gv]at h;simp only[eC];refine l h λx e g f=>?_;cases x with
  |normal=>exact o f d
  |exit i=>exact d _ _ _ f
  |ret=>exact d _ _ _ f
 | join vs ks a b l o=>
  intro E T K Q h d;simp only[gv]at h;simp only[eC];refine l h λx e g f=>?_;cases x with
  |normal=>exact o f d
  |exit i=>exact d _ _ _ f
  |ret=>exact d _ _ _ f
 | cond x a b l o=>intro E T K Q h d;exact zh h (λh=>l h d) λh=>o h d
 | block id a k=>
  intro E T K Q h d;simp only[gv]at h;simp only[eC];refine k h λx e g f=>?_;cases x with
  |normal=>exact d _ _ _ f
  | exit i=>
   dsimp only at f ⊢;split
   ·rename_i hi;rw[af hi]at f;exact d _ _ _ f
   ·rename_i hi;rw[ai hi]at f;exact d _ _ _ f
  |ret=>exact d _ _ _ f
 | loop vs ks a k=>
  intro E T K Q h d;simp only[gv]at h;simp only[eC];have main : ∀(m:Nat)(s:List J×S),zk (λ(s:List J×S) (K':List J×S→Bool)=>
        gv B fuel n a (h9 n (jA n E ks) vs s.1) s.2 λe j g=>match e with
         | .normal=>K' (gX j vs,g)
         |e=>K e j g) m s=true →
      av (λ(s:List J×AH) (K:List J×AH→Prop)=>
        eC Φ n a (h9 n (jA n E ks) vs s.1) s.2 λe j H'=>match e with
         | .normal=>K (gX j vs,H')
         |e=>Q e j H') (s.1,s.2.ah):=by
    intro m;induction m with
    |zero=>intro s h;cases h
    | succ m p=>
     intro s h;refine av.step ?_;refine k (K:=λe j g=>match e with
         | .normal=>zk (λ(s:List J×S) (K':List J×S→Bool)=>
           gv B fuel n a (h9 n (jA n E ks) vs s.1) s.2 λe j g=>match e with
            | .normal=>K' (gX j vs,g)
            |e=>K e j g) m (gX j vs,g)
         |e=>K e j g) h λx e g f=>?_
     cases x with
     |normal=>exact p _ f
     |exit i=>exact d _ _ _ f
     |ret=>exact d _ _ _ f
  exact main fuel _ h
 |exit id=>intro E T K Q h d;exact d _ _ _ h
 |ret=>intro E T K Q h d;exact d _ _ _ h
 | freeze t a k=>intro E T K Q h d;exact j4 (D_ _ _) h λv g f=>k f d
 | hx vs ks ops b k=>intro E T K Q h d;exact zi hB h (Q:=λj H'=>G (λst q=>eC Φ n b (h9 n (jA n E ks) vs st) q Q) (gX j vs) H') λe g f=>k f d
def o6(E:EV)(T:S):List iT→(List J→Bool)→Bool
 |[],K=>K []
 | .tmp t::r,K=>o6 E T r λvs=>K (dd E t::vs)
 | .cell t n agg::r,K=>dc (W T.ah n agg (dd E t)) λv=>o6 E T r λvs=>K (v::vs)
theorem zl:∀{rs:List iT}{K:List J→Bool}{P:List J→Prop},o6 E T rs K=true→(∀vs,K vs=true→P vs)→nt E T.ah rs P:=by
 intro rs;induction rs with
 |nil=>intro K P h a;exact a _ h
 | cons r rs b=>
  intro K P h a;cases r with
  |tmp t=>exact b (K:=λvs=>K (dd E t::vs)) h λvs h=>a _ h
  |cell t n agg=>exact Ed h λv h=>b (K:=λvs=>K (v::vs)) h λvs h=>a _ h
def tP(Φ:c7)(fuel:Nat)(f:aF)(args:List J)(T:S)(Q:fi):Bool:=
 gv Φ fuel f.ntmps f.body (lC args 0) T λe E a=>match e with
  | .exit _=>false
  |_=>o6 E a f.results λvs=>Q (mi vs) a
def zm(Φ:c7)(fuel:Nat)(f:aF)(args:List J)(T:S)(Q:fi):Bool:=and (adw args.length f.ntmps) (tP Φ fuel f args T Q)
theorem O3(hB:er Φ B){f:aF}{args:List J}(h:zm B fuel f args T K=true)(c:∀v a,K v a=true→Q v a.ah):zd Φ f args T.ah Q:=by
 simp only[zm,tP,aaz]at h;refine⟨adx h.1,O2 hB h.2 λx e a b=>?_⟩;cases x with
 |normal=>exact zl b λvs h=>c _ _ h
 |exit i=>cases b
 |ret=>exact zl b λvs h=>c _ _ h
end
end Rb

namespace Rb
open Go
variable{Φ:ad}{T:h8}{k:Nat}{f:aF}{args:List J}{H:AH}{Q:ab}
structure Cl(Φ:ad)(T:h8):Prop where
 mono:iw Φ
 run:∀k f,T.get k=some f→∀args H Q,zd Φ f args H Q→Φ k args H Q
theorem Cl.of(a:iw Φ)(h:oU Φ T):Cl Φ T:=⟨a,λk f hk args H Q hs=>h k f hk args H Q (OY a hs)⟩
theorem Cl.app{T U:h8}(Z:Cl Φ T)(a:Cl Φ U):Cl Φ (T++U):=by
 refine⟨Z.mono,λk f h args H Q hs=>?_⟩;have key:∀(T:h8),(T++U).lookup k=some f→T.lookup k=some f∨U.lookup k=some f:=by
  intro T;induction T with
  |nil=>intro h;exact .inr h
  | cons p T b=>
   intro h;obtain⟨k',c⟩:=p;rw[acu,adi]at h;rw[adi];split at h
   ·exact .inl h
   ·exact b h
 rcases key T h with h|h
 ·exact Z.run k f h args H Q hs
 ·exact a.run k f h args H Q hs
theorem Cl.call(Z:Cl Φ T)(a:T.get k=some f)(b:adw args.length f.ntmps=true)(h:zc Φ f args H Q):Φ k args H Q:=Z.run k f a args H Q ⟨adx b,h⟩
abbrev a:=List J→AH→Prop
abbrev ST:=List J×AH
abbrev LT:=ST→Prop
abbrev BT:=ST→LT→Prop
theorem Cl.c(Z:Cl Φ T){k:Nat}{P:Prop}(h:P)(e:zc Φ f args H Q=P:=by kernel_rfl)(hk:T.get k=some f:=by kernel_rfl)(a:adw args.length f.ntmps=true:=by kernel_rfl):Φ k args H Q:=Z.call hk a (e.mpr h)
end Rb

namespace Rb
open Go
variable{Φ:ad}{B:c7}{key k:Nat}{Q:ab}{T0:h8}
def Tok.free:Tok→Bool
 | .own _=>false
 |_=>true
mutual
def J.bI:J→Bool
 | .bool _ | .int _ _ | .str _ | .dm | .eK | .fA | .fB=>true
 | .ak cs=>J.b7 cs
 | .ax tk _ cs=>tk.free&&J.b7 cs
 | .fn _ cs=>J.b7 cs
 | .iface _ v=>J.bI v
 | .agg cs=>J.b7 cs
 | .ar cs=>J.b7 cs
 |_=>false
def J.b7:List J→Bool
 |[]=>true
 |c::r=>J.bI c&&J.b7 r
end
theorem ny:∀{cs:List J},J.b7 cs=cs.all J.bI
 |[]=>rfl
 |c::r=>by simp only[J.b7,adk,ny (cs:=r)]
theorem mw{cs:List J}(h:J.b7 cs=true)(j:Nat)(c:J)(hc:cs[j]?=some c):c.bI=true:=by rw[ny,abt]at h;exact h c (adl hc)
theorem o7{F:cJ}{w w':World}{G G':bn}(l:∀b o,G.fz b o→G'.fz b o)(hc:∀b o V,G.fz b o→w.cell? ⟨b,o,none⟩=some V→w'.cell? ⟨b,o,none⟩=some V){c:J}{V:Value}(hf:c.bI=true)(h:R F w G c V):R F w' G' c V:=by
 induction h with
 |bot=>simp[J.bI]at hf
 |bool b=>exact .bool b
 |int k n=>exact .int k n
 |str s=>exact .str s
 |dm=>exact .dm
 |ptr=>simp[J.bI]at hf
 | ak cells b o Vs h hv d=>simp only[J.bI]at hf;exact .ak cells b o Vs (λj c e=>⟨l _ _ (h j c e).1,hc _ _ _ (h j c e).1 (h j c e).2⟩) λj c e=>d j c e (mw hf j c e)
 |eD=>exact .eD
 |eE a cap=>exact .eE a cap
 | ax tk len cells b o cap Vs ht hle h hv d=>
  simp only[J.bI,aaz]at hf;refine .ax tk len cells b o cap Vs ?_ hle (λj c e=>⟨l _ _ (h j c e).1,hc _ _ _ (h j c e).1 (h j c e).2⟩) λj c e=>d j c e (mw hf.2 j c e);cases tk with
  |own t=>simp[Tok.free]at hf
  |nil=>exact ht
  |full=>exact ht
  |dead=>exact ht
 |row=>simp[J.bI]at hf
 |map=>simp[J.bI]at hf
 |eK=>exact .eK
 | fn key bH f Vs hk i hl hv d=>simp only[J.bI]at hf;exact .fn key bH f Vs hk i hl λj c V hc g=>d j c V hc g (mw hf j c hc)
 | kr key k bH f Vs hk i hl hv d=>simp only[J.bI]at hf;exact .kr key k bH f Vs hk i hl λj c V hc g=>d j c V hc g (mw hf j c hc)
 |fA=>exact .fA
 |iface t v V h d=>exact .iface t v V (d (by simpa[J.bI]using hf))
 |fB=>exact .fB
 | agg cs Vs hl hv d=>simp only[J.bI]at hf;exact .agg cs Vs hl λj c V hc g=>d j c V hc g (mw hf j c hc)
 | ar cs Vs hl hv d=>simp only[J.bI]at hf;exact .ar cs Vs hl λj c V hc g=>d j c V hc g (mw hf j c hc)
def bX(C:Ctx):Prop:=∀g l,C.GT g=some l→J.b7 l=true
theorem ae.Ek{C:Ctx}(aj:bX C){args:List J}(h:ae C key args AH.mt Q)(A:J.b7 args=true)(H:AH)(K:ab)(t:∀v H',Q v H'→v.bI=true∧K v H):ae C key args H K:=by
 refine⟨by obtain⟨v,H',B⟩:=h.1;exact⟨v,H,(t v H' B).2⟩,λf hf G w Vs u a x=>?_⟩;have D:Rel C.F w (bn.mt G.fz) AH.mt:=Rel.mt a.eX;have E:aR C.F w (bn.mt G.fz) args Vs:=⟨x.1,λj c V hc q=>o7 (G:=G) (G':=bn.mt G.fz) (w:=w) (λ_ _ h=>h) (λ_ _ _ _ h=>h) (mw A j c hc) (x.2 j c V hc q)⟩
 have I:iu C w (bn.mt G.fz):=λg l m=>o7 (G:=G) (G':=bn.mt G.fz) (w:=w) (λ_ _ h=>h) (λ_ _ _ _ h=>h) (by simp only[J.bI];exact aj g l m) (u.1 g l m);refine acL (h.2 f hf _ w Vs (u.mt I λi hi=>by cases hi) D E) λe w' he=>?_;obtain⟨V,v,H',G',rfl,L,hv,M,d⟩:=he;obtain⟨N,O⟩:=t v H' L;have r:=d.below;have y:∀b o,G'.fz b o→G.fz b o∨w.heap.size≤b:=by
  intro b o P;rcases d.eY b o P with h|h|⟨i,hi,_⟩
  ·exact .inl h
  ·exact .inr h
  ·cases hi
 let s:bn:={G with fz:=λb o=>G.fz b o∨G'.fz b o}
 have z:∀b o V,G.fz b o→w.cell? ⟨b,o,none⟩=some V→w'.cell? ⟨b,o,none⟩=some V:=λb o V hf hc=>by rw[abb (w:=w) (r.block b (abc w _ hc))];exact hc
 have m:GLe w G w' s:=⟨hT _,λ_ _=>rfl,λ_ _=>rfl,λ_ _ h=> .inl h,z⟩
 refine⟨V,v,H,s,rfl,O,o7 (G:=G') (G':=s) (w:=w') (λ_ _ h=>Or.inr h) (λ_ _ _ _ h=>h) N hv,⟨a.n,a.over,λj=>(a.obj j).aO m (λhl=>a.gS hl) (λhl=>r.block _ ((a.obj j).lt hl)) λhl o p=>?_,a.eW,λb o hf=>?_⟩,?_⟩
 · rcases p with p|p
   ·exact p
   · rcases y _ _ p with h|h
     ·exact h
     ·exact absurd ((a.obj j).lt hl) (by omega)
 · rcases hf with hf|hf
   · obtain⟨V,q⟩:=a.eX b o hf;exact⟨V,z b o V hf q⟩
   ·exact M.eX b o hf
 · exact {m with
     size:=d.size,os:=d.os,tape:=d.tape,output:=d.output,dr:=d.dr,dv:=λk hk _=>r.block k hk,owned:=λi hi _=>⟨i,hi,rfl⟩
     eY:=λb o hf=>by
      rcases hf with hf|hf
      ·exact .inl hf
      · rcases y b o hf with h|h
        ·exact .inl h
        ·exact .inr (.inl h)}
abbrev qG:=Nat→List J→Option J
def j5(Φ:ad)(M:qG):Prop:=∀k args v,M k args=some v→∀(H:AH)(Q:ab),Q v H→Φ k args H Q
noncomputable section
def zn(M:qG)(a:c7→c7)(d:Nat):c7:=adv (motive:=λ_=>c7) (λ_ _ _ _=>false) (λ_ b k args T Q=>match M k args with
  |some v=>Q v T
  |none=>a b k args T Q) d
def zo(Φ:ad)(a:c7→c7):Prop:=∀B,er Φ B→er Φ (a B)
theorem O4{M:qG}{a:c7→c7}(c:j5 Φ M)(e:zo Φ a):∀d,er Φ (zn M a d):=by
 intro d;induction d with
 |zero=>intro k args T K h;cases h
 | succ d f=>
  intro k args T K h Q b;change (match M k args with
    |some v=>K v T
    |none=>a (zn M a d) k args T K)=true at h
  split at h
  · rename_i v hv;exact c k args v hv _ _ (b _ _ h)
  ·exact e _ f k args T K h Q b
theorem O5(hB:er Φ B){args:List J}{K:J→Bool}(h:B k args S.mt (λv _=>K v)=true):Φ k args AH.mt (λv _=>K v=true):=by have:=hB k args S.mt _ h (λv _=>K v=true) (λv a h=>h);rwa [S.OG]at this
theorem er.fn(Z:Cl Φ T0)(hB:er Φ B){fuel:Nat}{f:aF}{args:List J}(b:T0.get k=some f)(c:adw args.length f.ntmps=true){T:S}{K:fi}(h:tP B fuel f args T K=true)(d:∀v a,K v a=true→Q v a.ah):Φ k args T.ah Q:=Z.run k f b args T.ah Q (O3 hB (fuel:=fuel) (by simp only[zm,c,h,ady]) d)
theorem er.node{F G:c7}(m:Nat)(d:er Φ F)(e:er Φ G):er Φ (λk a T K=>cond (adr k m) (F k a T K) (G k a T K)):=by
 intro k a T K h Q b;dsimp only at h;cases c:adr k m with
 |true=>rw[c]at h;exact d k a T K h Q b
 |false=>rw[c]at h;exact e k a T K h Q b
theorem er.leaf(Z:Cl Φ T0)(hB:er Φ B){n m:Nat}{b:aF}(d:T0.get key=some b){F:List J→S→fi→Bool}(e:adw m b.ntmps=true)
  (f:∀a T K,F a T K=true→a.length=m∧tP B n b a T K=true):er Φ (λk a T K=>cond (adm k key) (F a T K) false):=by
 intro k a T K h Q g;dsimp only at h;cases c:adm k key with
 |false=>rw[c]at h;cases h
 | true=>rw[c]at h;obtain rfl:=adz c;obtain⟨h1,i⟩:=f a T K h;exact er.fn Z hB (fuel:=n) d (by rw[h1];exact e) i g
end
end Rb

namespace Rb
open Go
structure Hint where
 dq:Nat
 iV:List Nat
 loops:List (List Nat)
 fz:Option Nat
 fg:List TypeId:=[]
 kS:List (Nat×List Nat):=[]
def gw(t:Nat):List Nat→Bool
 |[]=>false
 |s::r=>cond (adm t s) true (gw t r)
def Em:List Nat→List Nat→Bool
 |[],_=>true
 |t::r,l=>cond (gw t l) (Em r l) false
def zp(t:Nat)(l:List Nat):List Nat:=cond (gw t l) l (t::l)
def En:List Nat→List Nat→List Nat
 |[],l=>l
 |t::r,l=>En r (zp t l)
def zq:List Nat→List Nat→List Nat
 |[],_=>[]
 |t::r,l=>cond (gw t l) (zq r l) (zp t (zq r l))
def tQ:Value→J
 | .bool b=> .bool b
 | .int k n=> .int k n
 | .string s=> .str s.data.toList
 | .pointer none=> .dm
 | .map none=> .eK
 | .nilFunc=> .fA
 | .nilIface=> .fB
 | .slice none _ _=> .ax .nil 0 []
 |_=> .bot
def Eo:Value→J
 | .agg Vs=> .agg (Vs.toList.map tQ)
 | .tuple Vs=> .ar (Vs.toList.map tQ)
 |V=>tQ V
def zr:aS:= .k .bot
def fN:dh:= .ext .stuck []
def bN(C:Ctx):Operand→aS
 | .tmp t=> .t t
 | .const v=> .k (Eo v)
 | .global g=>match C.GT g with|some l=> .k (.ak l)|none=>zr
 | .func f=>cond (iU C.P f) (.k (.fn f [])) zr
def Ep (fs : List Field) : Bool := match fs with | [a, b] => a.name == "addr" && b.name == "buf" | _ => false
def Er(P:Program)(t:TypeId):Bool:=
 match P.underlying t with
 |some (.struct fs)=>Ep fs.toList||(match fs.toList with|[f]=>(match P.underlying f.type with|some (.struct gs)=>Ep gs.toList|_=>false)|_=>false)
 |_=>false
def Es:Operand→Bool
 | .const v=>(match v with | .pointer none | .slice none 0 0 | .map none | .nilFunc | .nilIface=>true|_=>false)
 |_=>false
def gx(P:Program)(t:TypeId):Nat:=match P.info? t with|some i=>i.size|none=>0
def zt(P:Program)(t:TypeId):Nat:=match P.info? t with|some i=>i.bytes|none=>0
def Et(P:Program)(t:TypeId):Value:=match P.info? t with|some i=>(match i.zero with|some z=>z|none=> .nilIface)|none=> .nilIface
def o8(P:Program)(t:TypeId):List J:=(Et P t).cells.toList.map tQ
def qH(P:Program)(t:TypeId):Bool:=match P.underlying t with|some d=>hz d|none=>false
def hF(P:Program)(t:TypeId):TypeId:=match P.underlying t with|some (.slice e)=>e|some (.array _ e)=>e|some (.map _ e)=>e|_=>0
def tS(P:Program)(t:TypeId):FK:=match P.underlying t with
 |some (.map kt _)=>(match P.underlying kt with|some .bool=> .b|some .string=> .t|_=> .n)
 |_=> .n
def j6(C:Ctx)(name:String):List TypeId→List (TypeId×Nat×Option (Nat×Bool))
 |[]=>[]
 | t :: r=>(match C.P.info? t with
   | some i=>(match i.methods.find? (·.name==name)with
     | some mt=>(match mt.func,C.P.underlying t with
       |some (f,true),some (.pointer _)=>(t,f,none)::j6 C name r
       |some (f,false),some (.pointer e)=>(t,f,some (gx C.P e,qH C.P e))::j6 C name r
       |_,_=>j6 C name r)
     |none=>j6 C name r)
   |none=>j6 C name r)
def O6(P:Program)(t:TypeId):Bool:=match P.underlying t with|some (.int _)=>true|_=>false
def O7(C:Ctx)(fg:List TypeId)(mu:Bool)(c:Call):dh:=
 match c.callee with
 | .value (.func f)=>cond (iU C.P f) (.call f (c.args.toList.map (bN C))) fN
 | .value f=> .hq (bN C f) (c.args.toList.map (bN C))
 | .builtin b=>
  match c.args.toList.map (bN C),c.argTypes.toList with
  | [x],[t]=>(match b with
    | .len=>(match C.P.underlying t with|some .string=> .len true x|some (.slice _)=> .len false x|some (.array n _)=> .gL n|some (.map _ _)=> .gO x|_=>fN)
    | .cap=> .cap x
    | .max=> .gM true [x]
    | .min=> .gM false [x]
    | .clear=> .ext (.clear (gx C.P (hF C.P t)) (o8 C.P (hF C.P t))) [x]
    |_=>fN)
  | [x,y],t::_=>(match b with
    | .append=>cond (O6 C.P (c.argTypes.toList.tail.headD 0)) (.ext (.grow (gx C.P (hF C.P t)) (zt C.P (hF C.P t)) (o8 C.P (hF C.P t))) [x,y]) <| .append mu (gx C.P (hF C.P t)) (zt C.P (hF C.P t)) x y
    | .delete=> .delete (tS C.P t) x y
    | .copy=> .copy (gx C.P (hF C.P t)) x y
    | .max=> .gM true [x,y]
    | .min=> .gM false [x,y]
    |_=>fN)
  | xs,_=>(match b with
    | .max=> .gM true xs
    | .min=> .gM false xs
    |_=>fN)
 | .invoke x name=> .inv (j6 C name fg) (bN C x) (c.args.toList.map (bN C))
def O8(C:Ctx)(fg:List TypeId)(mu:Bool):Op→dh
 | .move x=> .mv (bN C x)
 | .assign x=> .mv (bN C x)
 | .pick c a b=> .pick (bN C c) (bN C a) (bN C b)
 | .binOp op t x y _=>
  match op,C.P.underlying t with
  | .eql,some d=>(match oz d,d with
    |some k,_=>cond (Es y) (.iQ k false (bN C x)) (match k with | .p=> .ext (.mh false) [bN C x,bN C y]|_=>fN)
    |none,.bool=> .beq false (bN C x) (bN C y)
    |none,.array _ _=>(match kL C.P 9 t with|some l=> .h4 false l (bN C x) (bN C y)|none=>fN)
    |none,.struct _=>(match kL C.P 9 t with|some l=> .h4 false l (bN C x) (bN C y)|none=>fN)
    |none,_=> .bin op (bN C x) (bN C y))
  | .neq,some d=>(match oz d,d with
    |some k,_=>cond (Es y) (.iQ k true (bN C x)) (match k with | .p=> .ext (.mh true) [bN C x,bN C y]|_=>fN)
    |none,.bool=> .beq true (bN C x) (bN C y)
    |none,.array _ _=>(match kL C.P 9 t with|some l=> .h4 true l (bN C x) (bN C y)|none=>fN)
    |none,.struct _=>(match kL C.P 9 t with|some l=> .h4 true l (bN C x) (bN C y)|none=>fN)
    |none,_=> .bin op (bN C x) (bN C y))
  |op,_=> .bin op (bN C x) (bN C y)
 | .unOp op _ x=> .un op (bN C x)
 | .convert s d x=>
  match C.P.underlying s,C.P.underlying d with
  |some .string,some .string=> .same (bN C x)
  |some .string,some (.slice _)=> .jr (bN C x)
  |some (.slice _),some .string=> .gP (bN C x)
  |_,some (.int k)=> .conv k (bN C x)
  |_,_=>fN
 | .nilCheck x=> .jn (bN C x)
 | .field t x n=>(match oG C.P t n with|some f=> .field f.offset (gx C.P f.type) (qH C.P f.type) (bN C x)|none=>fN)
 | .fieldAddr t x n=>(match oG C.P t n with|some f=> .jo f.offset (bN C x)|none=>fN)
 | .index t x i=>(match C.P.underlying t with
   |some .string=> .idxs (bN C x) (bN C i)
   |some (.array n e)=> .idx n (gx C.P e) (qH C.P e) (bN C x) (bN C i)
   |_=>fN)
 | .indexAddr t x i=>(match C.P.underlying t with
   |some (.slice e)=> .iR none (gx C.P e) (bN C x) (bN C i)
   |some (.array n e)=> .iR (some n) (gx C.P e) (bN C x) (bN C i)
   |_=>fN)
 | .slice t x lo hi mx=>(match C.P.underlying t with
   |some .string=> .jq (bN C x) (lo.map (bN C)) (hi.map (bN C))
   |some (.slice e)=> .slice (gx C.P e) (bN C x) (lo.map (bN C)) (hi.map (bN C)) (mx.map (bN C))
   |_=>fN)
 | .makeInterface t x=> .gK t (bN C x)
 | .makeFunc (.func f) first bH=>cond (iU C.P f) (match first.toList with
   |[]=> .gj f (bH.toList.map (bN C))
   |l=> .gj (f+1048576) (l.map (bN C))) fN
 | .extract x i=> .extract i (bN C x)
 | .build t g=> .build (o8 C.P t) (g.toList.map λp=>match placeOf C.P t p.1 with|some (o,s)=>(o,s,bN C p.2)|none=>(0,0,zr))
 | .buildSlice t len g=> .gk mu (gx C.P (hF C.P t)) len (o8 C.P (hF C.P t)) (g.toList.map λp=>(p.1*gx C.P (hF C.P t),gx C.P (hF C.P t),bN C p.2))
 | .load t x=> .load (gx C.P t) (qH C.P t) (bN C x)
 | .store t x v=> .store (gx C.P t) (bN C x) (bN C v)
 | .box t x=>cond (Er C.P t) (.ext (.jZ t) [bN C x]) (.box mu (gx C.P t) (bN C x))
 | .alloc t=>cond (Er C.P t) (.ext (.jZ t) []) (.alloc mu (o8 C.P t))
 | .makeSlice t l c=> .make mu (gx C.P (hF C.P t)) (zt C.P (hF C.P t)) (o8 C.P (hF C.P t)) (bN C l) (bN C c)
 | .range _ x=> .ho (bN C x)
 | .next x true=> .hp (bN C x)
 | .makeMap _ _=> .gl
 | .lookup t m k ok=> .lookup (tS C.P t) (Eo (Et C.P (hF C.P t))) ok (bN C m) (bN C k)
 | .mapUpdate t m k v=> .gN (tS C.P t) (bN C m) (bN C k) (bN C v)
 | .insert t m k v=> .gN (tS C.P t) (bN C m) (bN C k) (bN C v)
 | .typeAssert x _ t ok=>cond ok fN (.ext (.kC t) [bN C x])
 | .call c=>O7 C fg mu c
 |_=>fN
def Eu:List Oper→Nat→Option Nat
 |[],_=>none
 |o::r,i=>match i with|0=>o.dst|i+1=>Eu r i
def zu(C:Ctx)(fg:List TypeId)(iV:List Nat)(a:List Oper):List Oper→List bA
 |[]=>[]
 |o::r=>⟨o.dst,O8 C fg (match o.dst with|some d=>gw d iV|none=>false) o.op,match o.guard with|some (j,want)=>(match Eu a j with|some s=>some (s,want)|none=>none)|none=>none⟩::zu C fg iV a r
def zv:List Edge→List Nat
 |[]=>[]
 |e::r=>cond (acY .any e) (zp e.on (zv r)) (zv r)
def Ev:List (List Nat)→Nat→List Nat
 |[],_=>[]
 |l::r,i=>match i with|0=>l|i+1=>Ev r i
def Ew:List (List Nat)→List Nat→List Nat→List Nat
 |pr,acc,[]=>acc
 |pr,acc,e::r=>Ew pr (En (Ev pr e) acc) r
def Ex:List (List Nat)→List Oper→List (List Nat)
 |pr,[]=>pr
 |pr,o::r=>let es:=zv o.after.toList;Ex (pr++[Ew pr es es]) r
structure DR where
 i:Nat
 pr:List Nat
 k:Nat
 al:Bool
def Ey(ops:List bA)(pr:List (List Nat)):Nat→List bA→List (List Nat)→List DR
 |i,o::r,p::q=>⟨i,p,cond (eZ o.op) 2 (cond (eG o.op) 1 0),fa ops pr i⟩::Ey ops pr (i+1) r q
 |_,_,_=>[]
def o9:List DR→List Nat→List Nat→List Nat×List Nat
 |[],done,out=>(done,out.reverse)
 |d::r,done,out=>cond (adm d.k 0) (o9 r done out) (cond (gw d.i done) (o9 r done out) (cond (Em d.pr done) (o9 r (d.i::done) (d.i::out)) (o9 r done out)))
def qI:List DR→List Nat→List Nat→List DR
 |[],_,_=>[]
 |d::r,pr,seq=>cond d.al (cond (gw d.i pr) (cond (gw d.i seq) (qI r pr seq) (d::qI r pr seq)) (qI r pr seq)) (qI r pr seq)
def tU(b:List DR):List DR→List Nat→List DR
 |[],seq=>b.filter λd=>d.al&&!gw d.i seq
 |d::r,seq=>cond (adm d.k 0) (cond d.al (tU b r seq) (let a:=qI b d.pr seq;a++d::tU b r (d.i::(a.map DR.i++seq)))) (tU b r seq)
def qJ:List DR→List Nat→List Nat→List Nat
 |[],_,_=>[]
 |d::r,done,pr=>cond (adm d.k 1) (cond (gw d.i done) (cond (gw d.i pr) (qJ r done pr) (d.i::qJ r done pr)) (qJ r done pr)) (qJ r done pr)
def Ez(a:List DR):List DR→List Nat→List (List Nat×Nat×List Nat)×List Nat
 |[],done=>([],(o9 a done []).2)
 |e::r,done=>let s:=o9 a done [];let q:=Ez a r (e.i::s.1);((s.2,e.i,qJ a s.1 e.pr)::q.1,q.2)
def O9(ops:List Oper)(al:List bA):eF:=
 let pr:=Ex [] ops;let ds:=Ey al pr 0 al pr;let p:=Ez ds (tU ds ds []) []
 .draw al pr p.1 p.2
def O_(t:Nat)(o:bA):Bool:=match o.op with | .mv (.t s)=>adm s t|_=>false
def isDst(l:List Nat)(o:bA):Bool:=match o.dst with|some d=>gw d l|none=>false
def zw:List (Nat×List Nat)→Nat→List Nat
 |[],_=>[]
 |(i,l)::r,id=>cond (adm i id) l (zw r id)
def zx:List Nat→eF→eF
 |[],c=>c
 |t::r,c=> .freeze t (zx r c)
def nz(C:Ctx)(fg:List TypeId)(iV:List Nat)(fz:Option Nat)(kS:List (Nat×List Nat))(d:List Nat):Code→List (List Nat)→eF×List (List Nat)
 | .skip,h=>(.skip,h)
 | .region id ops false,h=>
  let al:=zu C fg iV ops.toList ops.toList
  (zx (zw kS id) (match fz with
    |none=> .region al
    |some t=>cond (al.any (O_ t)&&al.any (isDst d)) (.freeze t (.region al)) (.region al)),h)
 | .region id ops true,h=>(zx (zw kS id) (O9 ops.toList (zu C fg iV ops.toList ops.toList)),h)
 | .seq a b,h=>let p:=nz C fg iV fz kS d a h;let q:=nz C fg iV fz kS d b p.2;(.seq p.1 q.1,q.2)
 | .cond c a b,h=>let p:=nz C fg iV fz kS d a h;let q:=nz C fg iV fz kS d b p.2;(.cond (bN C c) p.1 q.1,q.2)
 | .block id a,h=>let p:=nz C fg iV fz kS d a h;(.block id p.1,p.2)
 | .loop a,h=>let p:=nz C fg iV fz kS d a h.tail;(.loop (h.headD []) (zq (dW p.1) (h.headD [])) p.1,p.2)
 | .exit id,h=>(.exit id,h)
 | .ret,h=>(.ret,h)
 |_,h=>(.exit 0,h)
def zy:List ResultVar→List Nat
 |[]=>[]
 | .tmp t::r=>t::zy r
 | .cell t _::r=>t::zy r
def zz(P:Program):List ResultVar→List iT
 |[]=>[]
 | .tmp t::r=> .tmp t::zz P r
 | .cell t ty::r=> .cell t (gx P ty) (qH P ty)::zz P r
def A(C:Ctx)(h:Hint):aF:=
 match C.P.funcs[h.dq]? with
 |some fn=>⟨fn.ntmps,zz C.P fn.results.toList,match fn.body with|some c=>(nz C h.fg h.iV h.fz h.kS (zy fn.results.toList) c h.loops).1|none=> .skip⟩
 |none=>⟨0,[],.exit 0⟩
def lG(P:Program)(a:Nat→Option (List J)):Ctx:=⟨P,λk=>cond (iU P k) (some k) none,a⟩
theorem EA(P:Program)(b:Nat→Option (List J)):j2 (lG P b):=by
 intro key f hf;simp only[lG]at hf;cases a:iU P key with
 |true=>rw[a]at hf;simp only[cond_true,aaK.injEq]at hf;subst hf;exact a
 |false=>rw[a]at hf;cases hf
def hG(C:Ctx):List Hint→Bool
 |[]=>true
 |h::r=>and (oT C h.dq (A C h)) (hG C r)
theorem EB{C:Ctx}:∀{L:List Hint},hG C L=true→∀h,h∈L→oT C h.dq (A C h)=true
 |[],_,h,hm=>by cases hm
 | p::r,hc,h,hm=>by
  simp only[hG,aaz]at hc;rcases acU.1 hm with rfl|hm
  ·exact hc.1
  ·exact EB hc.2 h hm
theorem o_{C:Ctx}:∀{L M:List Hint},hG C L=true→hG C M=true→hG C (L++M)=true
 |[],_,_,h=>h
 | p::r,M,hc,h=>by simp only[hG,aaz]at hc;simp only[acu,hG,aaz];exact⟨hc.1,o_ hc.2 h⟩
end Rb

namespace Rb
open Go
noncomputable section
theorem nb(a b:Nat):adm a b=decide (a=b):=by rw[acS];simp
theorem nl(a b:Nat):adr a b=decide (a<b):=by rw[acS];simp[adr];omega
theorem ne'(a b:Nat):adw a b=decide (a≤b):=by rw[acS];simp
def my{α β:Type}(f:α→β)(a:α):β:=f a
def zA{α:Type}(l:List α):Nat→Option α:=adq (motive:=λ_=>Nat→Option α) (λ_=>none) (λx _ a n=>adv (motive:=λ_=>Option α) (some x) (λm _=>my a m) n) l
theorem zB{α:Type}:∀(l:List α)(n:Nat),zA l n=l[n]?
 |[],n=>by cases n<;>rfl
 |x::r,0=>rfl
 |x::r,n+1=>by rw[List.getElem?_cons_succ,←zB r n];rfl
def tV{α:Type}(n:Nat):List α→List α:=adv (motive:=λ_=>List α→List α) (λl=>l) (λ_ a l=>adq (motive:=λ_=>List α) [] (λ_ t _=>my a t) l) n
theorem qK{α:Type}:∀(n:Nat)(l:List α),tV n l=l.drop n
 |0,l=>rfl
 |n+1,[]=>rfl
 |n+1,x::r=>by rw[adA,←qK n r];rfl
def zC{α:Type}(n:Nat):List α→Bool:=adv (motive:=λ_=>List α→Bool) (λ_=>true) (λ_ a l=>adq (motive:=λ_=>Bool) false (λ_ t _=>my a t) l) n
theorem zD{α:Type}:∀(n:Nat)(l:List α),zC n l=decide (n≤l.length)
 |0,l=>by simp;rfl
 |n+1,[]=>by simp;rfl
 |n+1,x::r=>by rw[List.length_cons,show decide (n+1≤r.length+1)=decide (n≤r.length) by simp,←zD n r];rfl
def kN:IntKind→Nat
 | .i8=>0 | .i16=>1 | .i32=>2 | .i64=>3 | .u8=>4 | .u16=>5 | .u32=>6 | .u64=>7
def zE(k k':IntKind):Bool:=adm (kN k) (kN k')
theorem Pa{k k':IntKind}(h:zE k k'=true):k=k':=by revert h;cases k<;>cases k'<;>decide
def lim:IntKind→Nat
 | .i8=>128 | .i16=>32768 | .i32=>2147483648 | .i64=>9223372036854775808 | .u8=>256 | .u16=>65536 | .u32=>4294967296 | .u64=>18446744073709551616
theorem pa{k:IntKind}{m:Nat}(h:m<lim k):k.wrap (adB m)=adB m:=by have hm:(adB m)=(m:Int):=rfl;rw[hm];cases k<;>simp only[lim]at h<;>simp only[abF,aaH,aaG]<;>simp<;>omega
def asNat(v:J)(d:Option J)(f:IntKind→Nat→Option J):Option J:=
 match v with
 | .int k n=>(match n with | .ofNat m=>f k m | .negSucc _=>d)
 |_=>d
theorem pb{v:J}{d:Option J}{f:IntKind→Nat→Option J}(h:∀k m,v = .int k (.ofNat m)→f k m=d):asNat v d f=d:=by
 unfold asNat;split
 · split
   ·exact h _ _ rfl
   ·rfl
 ·rfl
def h_(g:IntKind→Nat→Nat→Option J→Option J)(s:Option J)(x y:J):Option J:=asNat x s λk a=>asNat y s λk' b=>cond (zE k k') (g k a b s) s
theorem Pb{g:IntKind→Nat→Nat→Option J→Option J}{op:BinOp}(c:∀k a b,g k a b (cc op k (.ofNat a) k (.ofNat b))=cc op k (.ofNat a) k (.ofNat b))(x y:J):h_ g (M op x y) x y=M op x y:=by
 refine pb λk a d=>pb λk' b e=>?_;subst d e;cases h:zE k k' with
 |false=>rfl
 | true=>obtain rfl:=Pa h;exact c k a b
def zF(k:IntKind)(a b:Nat)(s:Option J):Option J:=cond (adr (adC a b) (lim k)) (some (.int k (.ofNat (adC a b)))) s
def zG(k:IntKind)(a b:Nat)(s:Option J):Option J:=cond (and (adw b a) (adr a (lim k))) (some (.int k (.ofNat (adD a b)))) s
def zH(k:IntKind)(a b:Nat)(s:Option J):Option J:=cond (adr (adE a b) (lim k)) (some (.int k (.ofNat (adE a b)))) s
def zI(k:IntKind)(a b:Nat)(s:Option J):Option J:=some (.bool (adr a b))
def zJ(k:IntKind)(a b:Nat)(s:Option J):Option J:=some (.bool (adw a b))
def zK(k:IntKind)(a b:Nat)(s:Option J):Option J:=some (.bool (adr b a))
def zL(k:IntKind)(a b:Nat)(s:Option J):Option J:=some (.bool (adw b a))
def zM(k:IntKind)(a b:Nat)(s:Option J):Option J:=some (.bool (adm a b))
def zN(k:IntKind)(a b:Nat)(s:Option J):Option J:=some (.bool (not (adm a b)))
def zO(k:IntKind)(a b:Nat)(s:Option J):Option J:=cond (and (adr 0 b) (adr a (lim k))) (some (.int k (.ofNat (adF a b)))) s
def zP(k:IntKind)(a b:Nat)(s:Option J):Option J:=cond (adr 0 b) (some (.int k (.ofNat (adG a b)))) s
def zQ(k:IntKind)(a b:Nat)(s:Option J):Option J:=cond (and (adr a (lim k)) (adr b (lim k))) (some (.int k (.ofNat (adH a b)))) s
def zR(k:IntKind)(a b:Nat)(s:Option J):Option J:=cond (and (adr a (lim k)) (adr b (lim k))) (some (.int k (.ofNat (adI a b)))) s
def zS(k:IntKind)(a b:Nat)(s:Option J):Option J:=cond (and (adr a (lim k)) (adr b (lim k))) (some (.int k (.ofNat (adJ a b)))) s
theorem Pc(k:IntKind)(a b:Nat):zF k a b (cc .add k (.ofNat a) k (.ofNat b))=cc .add k (.ofNat a) k (.ofNat b):=by
 unfold zF;rw[nl];by_cases h:adC a b<lim k
 · simp only[h,decide_true,cond_true,cc,aT];rw[show(adB a+adB b)=adB (adC a b)from rfl,pa h]
 ·simp only[h,decide_false,cond_false]
theorem Pe(k:IntKind)(a b:Nat):zH k a b (cc .mul k (.ofNat a) k (.ofNat b))=cc .mul k (.ofNat a) k (.ofNat b):=by
 unfold zH;rw[nl];by_cases h:adE a b<lim k
 · simp only[h,decide_true,cond_true,cc,aT];rw[show(adB a*adB b)=adB (adE a b)from rfl,pa h]
 ·simp only[h,decide_false,cond_false]
theorem Pf(k:IntKind)(a b:Nat):zG k a b (cc .sub k (.ofNat a) k (.ofNat b))=cc .sub k (.ofNat a) k (.ofNat b):=by
 unfold zG;rw[nl,ne'];by_cases h:b≤a∧a<lim k
 · simp only[h.1,h.2,decide_true,ady,cond_true,cc,aT];have:(adB a-adB b)=adB (adD a b):=by
    show(a:Int)-(b:Int)=((a-b:Nat):Int);omega
   rw[this,pa (show adD a b<lim k from adK (Nat.sub_le _ _) h.2)]
 · have:(decide (b≤a)&&decide (a<lim k))=false:=by
     rw[ac7];intro c;simp at c;exact h c
   simp only[this,cond_false]
theorem Pg(k:IntKind)(a b:Nat):zI k a b (cc .lss k (.ofNat a) k (.ofNat b))=cc .lss k (.ofNat a) k (.ofNat b):=by simp only[zI,cc,aT,nl];congr 2;simp
theorem Ph(k:IntKind)(a b:Nat):zJ k a b (cc .leq k (.ofNat a) k (.ofNat b))=cc .leq k (.ofNat a) k (.ofNat b):=by simp only[zJ,cc,aT,ne'];congr 2;simp
theorem Pj(k:IntKind)(a b:Nat):zK k a b (cc .gtr k (.ofNat a) k (.ofNat b))=cc .gtr k (.ofNat a) k (.ofNat b):=by simp only[zK,cc,aT,nl];congr 2;simp
theorem Pk(k:IntKind)(a b:Nat):zL k a b (cc .geq k (.ofNat a) k (.ofNat b))=cc .geq k (.ofNat a) k (.ofNat b):=by simp only[zL,cc,aT,ne'];congr 2;simp
theorem EC(a b:Nat):(adB a==adB b)=decide (a=b):=by rw[acS];simp;omega
theorem Pm(k:IntKind)(a b:Nat):zM k a b (cc .eql k (.ofNat a) k (.ofNat b))=cc .eql k (.ofNat a) k (.ofNat b):=by simp only[zM,cc,aT,nb,EC]
theorem Pn(k:IntKind)(a b:Nat):zN k a b (cc .neq k (.ofNat a) k (.ofNat b))=cc .neq k (.ofNat a) k (.ofNat b):=by simp only[zN,cc,aT,nb,bne,EC]
theorem Po(k:IntKind)(a b:Nat):zP k a b (cc .rem k (.ofNat a) k (.ofNat b))=cc .rem k (.ofNat a) k (.ofNat b):=by
 unfold zP;rw[nl];by_cases h:0<b
 · have c:(adB b)≠0:=by simp;omega
   simp only[h,decide_true,cond_true,cc,af (show True∧adB b≠0 from⟨trivial,c⟩)];rfl
 ·simp only[h,decide_false,cond_false]
theorem Pp(k:IntKind)(a b:Nat):zO k a b (cc .quo k (.ofNat a) k (.ofNat b))=cc .quo k (.ofNat a) k (.ofNat b):=by
 unfold zO;rw[nl,nl];by_cases h:0<b∧a<lim k
 · have d:(adB b)≠0:=by have:=h.1;simp;omega
   simp only[h.1,h.2,decide_true,ady,cond_true,cc,af (show True∧adB b≠0 from⟨trivial,d⟩)];rw[show(adB a).tdiv (adB b)=adB (adF a b)from rfl,pa (show adF a b<lim k from adK (Nat.div_le_self _ _) h.2)]
 · have:(decide (0<b)&&decide (a<lim k))=false:=by
     rw[ac7];intro c;simp at c;exact h c
   simp only[this,cond_false]
theorem Pr(k:IntKind):lim k≤2^k.bits:=by cases k<;>decide
theorem ED(k:IntKind):∃n,lim k=2^n:=by
 cases k
 ·exact⟨7,rfl⟩
 ·exact⟨15,rfl⟩
 ·exact⟨31,rfl⟩
 ·exact⟨63,rfl⟩
 ·exact⟨8,rfl⟩
 ·exact⟨16,rfl⟩
 ·exact⟨32,rfl⟩
 ·exact⟨64,rfl⟩
theorem zT{op:BinOp}{f:Nat→Nat→Nat}(k:IntKind)(a b:Nat)(c:a<lim k)(d:b<lim k)(hf:f a b<lim k)
  (h:jj op k (.ofNat a) (.ofNat b)=some (k.wrap (((f (KT k.bits (.ofNat a)).toNat (KT k.bits (.ofNat b)).toNat):Nat):Int))):jj op k (.ofNat a) (.ofNat b)=some (.ofNat (f a b)):=by
 have g:=Pr k;have e:∀n:Nat,n<lim k→(KT k.bits (.ofNat n)).toNat=n:=λn i=>by
  have:KT k.bits (.ofNat n)=BitVec.ofNat k.bits n:=by simp
  rw[this,BitVec.toNat_ofNat,Nat.mod_eq_of_lt (by omega)]
 rw[h,e a c,e b d];exact congrArg some (pa hf)
theorem Ps(k:IntKind)(a b:Nat):zQ k a b (cc .and k (.ofNat a) k (.ofNat b))=cc .and k (.ofNat a) k (.ofNat b):=by
 unfold zQ;rw[nl,nl];by_cases h:a<lim k∧b<lim k
 · simp only[h.1,h.2,decide_true,ady,cond_true,cc,aT];rw[zT (op:= .and) (f:=adH) k a b h.1 h.2 (adK Nat.and_le_left h.1) (by simp only[jj,BitVec.toNat_and];rfl)];rfl
 · have:(decide (a<lim k)&&decide (b<lim k))=false:=by
     rw[ac7];intro c;simp at c;exact h c
   simp only[this,cond_false]
theorem Pt(k:IntKind)(a b:Nat):zR k a b (cc .or k (.ofNat a) k (.ofNat b))=cc .or k (.ofNat a) k (.ofNat b):=by
 unfold zR;rw[nl,nl];by_cases h:a<lim k∧b<lim k
 · simp only[h.1,h.2,decide_true,ady,cond_true,cc,aT];have hl:adI a b<lim k:=by
    obtain⟨n,d⟩:=ED k;rw[d]at h ⊢;exact Nat.or_lt_two_pow h.1 h.2
   rw[zT (op:= .or) (f:=adI) k a b h.1 h.2 hl (by simp only[jj,BitVec.toNat_or];rfl)];rfl
 · have:(decide (a<lim k)&&decide (b<lim k))=false:=by
     rw[ac7];intro c;simp at c;exact h c
   simp only[this,cond_false]
theorem Pu(k:IntKind)(a b:Nat):zS k a b (cc .xor k (.ofNat a) k (.ofNat b))=cc .xor k (.ofNat a) k (.ofNat b):=by
 unfold zS;rw[nl,nl];by_cases h:a<lim k∧b<lim k
 · simp only[h.1,h.2,decide_true,ady,cond_true,cc,aT];have hl:adJ a b<lim k:=by
    obtain⟨n,d⟩:=ED k;rw[d]at h ⊢;exact Nat.xor_lt_two_pow h.1 h.2
   rw[zT (op:= .xor) (f:=adJ) k a b h.1 h.2 hl (by simp only[jj,BitVec.toNat_xor];rfl)];rfl
 · have:(decide (a<lim k)&&decide (b<lim k))=false:=by
     rw[ac7];intro c;simp at c;exact h c
   simp only[this,cond_false]
structure Pw where
 f:J→J→Option J
def EE:BinOp→Pw
 | .add=>⟨λx y=>h_ zF (M .add x y) x y⟩
 | .sub=>⟨λx y=>h_ zG (M .sub x y) x y⟩
 | .mul=>⟨λx y=>h_ zH (M .mul x y) x y⟩
 | .quo=>⟨λx y=>h_ zO (M .quo x y) x y⟩
 | .rem=>⟨λx y=>h_ zP (M .rem x y) x y⟩
 | .and=>⟨λx y=>h_ zQ (M .and x y) x y⟩
 | .or=>⟨λx y=>h_ zR (M .or x y) x y⟩
 | .xor=>⟨λx y=>h_ zS (M .xor x y) x y⟩
 | .lss=>⟨λx y=>h_ zI (M .lss x y) x y⟩
 | .leq=>⟨λx y=>h_ zJ (M .leq x y) x y⟩
 | .gtr=>⟨λx y=>h_ zK (M .gtr x y) x y⟩
 | .geq=>⟨λx y=>h_ zL (M .geq x y) x y⟩
 | .eql=>⟨λx y=>h_ zM (M .eql x y) x y⟩
 | .neq=>⟨λx y=>h_ zN (M .neq x y) x y⟩
 | .shl=>⟨λx y=>M .shl x y⟩
 | .shr=>⟨λx y=>M .shr x y⟩
 | .andNot=>⟨λx y=>M .andNot x y⟩
theorem Px(op:BinOp)(x y:J):(EE op).f x y=M op x y:=by cases op<;>first|rfl|exact Pb (by first|exact Pc|exact Pf|exact Pe|exact Pp|exact Po|exact Ps|exact Pt|exact Pu|exact Pg|exact Ph|exact Pj|exact Pk|exact Pm|exact Pn) x y
def EF(k:IntKind)(x:J):Option J:=asNat x (db k x) λ_ m=>cond (adr m (lim k)) (some (.int k (.ofNat m))) (db k x)
theorem Py(k:IntKind)(x:J):EF k x=db k x:=by
 refine pb λk' m a=>?_;subst a;rw[nl];by_cases h:m<lim k
 · simp only[h,decide_true,cond_true,db];rw[pa h]
 ·simp only[h,decide_false,cond_false]
def pd(cs:List J)(o n:Nat)(agg:Bool):Option J:=cond agg (cond (zC (adC o n) cs) (some (.agg ((tV o cs).take n))) none) (cond (adm n 1) (zA cs o) (bE cs o n false))
theorem tW(cs:List J)(o n:Nat)(agg:Bool):pd cs o n agg=bE cs o n agg:=by
 unfold pd bE;cases agg with
 | true=>
  rw[zD,qK];by_cases h:o+n≤cs.length
  ·rw[af h];simp[show adC o n=o+n from rfl,h]
  ·rw[ai h];simp[show adC o n=o+n from rfl,h]
 | false=>
  rw[nb,zB];by_cases h1:n=1
  · subst h1;simp only[decide_true,cond_true,cond_false,acq,bz];by_cases h:o+1≤cs.length
    ·rw[af h]
    ·rw[ai h,acO (by omega)]
  ·simp only[h1,decide_false,cond_false]
def zU(a sz:Nat)(agg:Bool)(x:J):Option J:=
 match x with
 | .agg cs=>pd cs a sz agg
 |_=>none
theorem Pz(a sz:Nat)(b:Bool)(x:J):zU a sz b x=ly a sz b x:=by unfold zU ly;cases x<;>first|rfl|exact tW _ _ _ _
def EG(a sz:Nat)(agg:Bool)(x i:J):Option J:=asNat i (kv a sz agg x i) λk m=>match x with
 | .agg cs=>cond (adr m a) (pd cs (adE m sz) sz agg) none
 |_=>kv a sz agg x i
theorem PA(a sz:Nat)(b:Bool)(x i:J):EG a sz b x i=kv a sz b x i:=by
 refine pb λk m hi=>?_;subst hi;cases x<;>first|rfl|skip
 rename_i cs;dsimp only;rw[nl,tW];simp only[kv];by_cases h:m<a
 ·rw[af ⟨adL _,by exact adM.2 h⟩];simp only[h,decide_true,cond_true];rfl
 ·rw[ai (λc=>h (adM.1 c.2))];simp only[h,decide_false,cond_false]
def EH(x i:J):Option J:=asNat i (jl x i) λ_ m=>match x with
 | .str s=>(match zA s m with|some b=>some (.int .u8 (.ofNat b.toNat))|none=>none)
 |_=>jl x i
theorem PB(x i:J):EH x i=jl x i:=by
 refine pb λk m hi=>?_;subst hi;cases x<;>first|rfl|skip
 rename_i s;dsimp only;rw[zB];simp only[jl];rw[af (show 0≤adB m from adL _)];show _=adp _ s[m]?;cases s[m]?<;>rfl
def kT(a:Option Nat)(sz:Nat)(x i:J):Option J:=asNat i (aL a sz x i) λ_ m=>match a,x with
 |none,.ax _ len cells=>cond (adr m len) (some (.ak (tV (adE m sz) cells))) none
 |none,.row id o len _=>cond (adr m len) (some (.ptr id (adC o (adE m sz)))) none
 |some n,.ptr id o=>cond (adr m n) (some (.ptr id (adC o (adE m sz)))) none
 |some n,.ak cells=>cond (adr m n) (some (.ak (tV (adE m sz) cells))) none
 |_,_=>aL a sz x i
theorem PC(a:Option Nat)(sz:Nat)(x i:J):kT a sz x i=aL a sz x i:=by
 refine pb λk m hi=>?_;subst hi;have key:∀(n:Nat)(v:J),cond (adr m n) (some v) none=if 0≤(adB m)∧(adB m)<(n:Int)then some v else none:=by
  intro n v;rw[nl];by_cases h:m<n
  ·rw[af ⟨adL _,adM.2 h⟩];simp only[h,decide_true,cond_true]
  ·rw[ai (λb=>h (adM.1 b.2))];simp only[h,decide_false,cond_false]
 cases a<;>cases x<;>first
  |rfl
  |(dsimp only;rw[key];simp only[qK];rfl)
  |(dsimp only;rw[key];rfl)
def qL(T:S)(n:Nat)(a:Bool)(x:J):Option J:=
 match x with
 | .ptr id o=>(match T.t.get id with | .row cs=>pd cs o n a|_=>none)
 | .ak cs=>pd cs 0 n a
 |_=>none
theorem zV(T:S)(n:Nat)(a:Bool)(x:J):qL T n a x=W T.ah n a x:=by
 unfold qL W;cases x<;>first|rfl|skip
 · dsimp only;show _=match T.t.get _ with | .row cs=>_|_=>_
   split<;>first|rfl|exact tW _ _ _ _
 ·exact tW _ _ _ _
end
end Rb

namespace Rb
open Go
variable{Φ:ad}{B:c7}
noncomputable section
def iW(m:Nat)(K:Nat→Bool):Bool:=adv (motive:=λ_=>Bool) (K 0) (λp _=>K (adN p)) m
theorem tX(m:Nat)(K:Nat→Bool):iW m K=K m:=by cases m<;>rfl
def kU{α:Type}(l:List α):(List α→Bool)→Bool:=adq (motive:=λ_=>(List α→Bool)→Bool) (λK=>K []) (λx _ a K=>my a λr=>my K (x::r)) l
theorem tY{α:Type}:∀(l:List α)(K:List α→Bool),kU l K=K l
 |[],K=>rfl
 |x::r,K=>by show kU r (λr=>K (x::r))=_;rw[tY r]
def tZ{α:Type}(n:Nat):List α→(List α→Bool)→Bool:=adv (motive:=λ_=>List α→(List α→Bool)→Bool) (λl K=>K l) (λ_ a l K=>adq (motive:=λ_=>Bool) (K []) (λ_ t _=>my (a t) K) l) n
theorem t_{α:Type}:∀(n:Nat)(l:List α)(K:List α→Bool),tZ n l K=K (l.drop n)
 |0,l,K=>rfl
 |n+1,[],K=>rfl
 |n+1,x::r,K=>by rw[adA,←t_ n r K];rfl
def fv(v:J)(K:J→Bool):Bool:=
 match v with
 | .int k n=>(match n with | .ofNat m=>iW m λm=>K (.int k (.ofNat m)) | .negSucc m=>iW m λm=>K (.int k (.negSucc m)))
 | .bool b=>(match b with|true=>K (.bool true)|false=>K (.bool false))
 | .str s=>kU s λs=>K (.str s)
 | .ptr i o=>iW i λi=>iW o λo=>K (.ptr i o)
 | .row i o l z=>iW i λi=>iW o λo=>iW l λl=>K (.row i o l z)
 | .ax tk l cs=>iW l λl=>kU cs λcs=>K (.ax tk l cs)
 | .ak cs=>kU cs λcs=>K (.ak cs)
 | .agg cs=>kU cs λcs=>K (.agg cs)
 | .ar cs=>kU cs λcs=>K (.ar cs)
 |v=>K v
theorem EI(v:J)(K:J→Bool):fv v K=K v:=by unfold fv;split<;>(try split)<;>simp only[tX,tY]
def eu(x:Option J)(K:J→Bool):Bool:=match x with|some v=>fv v K|none=>false
theorem pe(x:Option J)(K:J→Bool):eu x K=dc x K:=by
 cases x with
 |none=>rfl
 |some v=>exact EI v K
def qM(x:Option J)(K:J→Bool):Bool:=match x with|some v=>K v|none=>false
theorem EJ(x:Option J)(K:J→Bool):qM x K=dc x K:=by cases x<;>rfl
def kV(E:EV)(t:Nat)(K:J→Bool):Bool:=adq (motive:=λ_=>Bool) (K .bot) (λp _ a=>adO (motive:=λ_=>Bool) (λs v=>adP (motive:=λ_=>Bool) a (K v) (adm s t)) p) E
theorem mz:∀(E:EV)(t:Nat)(K:J→Bool),kV E t K=K (dd E t)
 |[],t,K=>rfl
 | (s,v)::E,t,K=>by show adP (motive:=λ_=>Bool) (kV E t K) (K v) (adm s t)=K (cond (adm s t) v (dd E t));rw[mz E t K];cases adm s t<;>rfl
def aS.val(E:EV):aS→J
 | .t n=>dd E n
 | .k v=>v
def EK(E:EV):Option aS→Option J
 |none=>none
 |some x=>some (x.val E)
def j0(E:EV):List aS→List J
 |[]=>[]
 |x::r=>x.val E::j0 E r
def zW(E:EV):List (Nat×Nat×aS)→List (Nat×Nat×J)
 |[]=>[]
 |(a,b,x)::r=>(a,b,x.val E)::zW E r
theorem pf(E:EV)(x:aS):(x.sub E).ev []=x.val E:=by cases x<;>rfl
theorem EL(E:EV):∀xs:List aS,dD [] (xs.map (aS.sub E))=j0 E xs
 |[]=>rfl
 | x::r=>by have:=EL E r;simp only[dD,abT]at this ⊢;rw[this,pf];rfl
theorem EM(E:EV):∀xs:List (Nat×Nat×aS),e9 [] (xs.map λp=>(p.1,p.2.1,p.2.2.sub E))=zW E xs
 |[]=>rfl
 | (a,b,x)::r=>by have:=EM E r;simp only[e9,abT]at this ⊢;rw[this,pf];rfl
theorem PD(E:EV)(x:Option aS):(x.map (aS.sub E)).map (aS.ev [])=EK E x:=by
 cases x with
 |none=>rfl
 |some x=>exact congrArg some (pf E x)
def cv(x:aS)(E:EV)(K:J→Bool):Bool:=match x with | .t n=>kV E n K | .k v=>K v
theorem pg(x:aS)(E:EV)(K:J→Bool):cv x E K=K (x.val E):=by
 cases x with
 |t n=>exact mz E n K
 |k v=>rfl
def lH(E:EV):List aS→(List J→Bool)→Bool
 |[],K=>K []
 |x::r,K=>cv x E λv=>lH E r λvs=>K (v::vs)
theorem EN(E:EV):∀(xs:List aS)(K:List J→Bool),lH E xs K=K (j0 E xs)
 |[],K=>rfl
 |x::r,K=>by rw[lH,pg,EN E r];rfl
def qN(E:EV):List (Nat×Nat×aS)→(List (Nat×Nat×J)→Bool)→Bool
 |[],K=>K []
 |(a,b,x)::r,K=>cv x E λv=>qN E r λvs=>K ((a,b,v)::vs)
theorem EO(E:EV):∀(xs:List (Nat×Nat×aS)) (K:List (Nat×Nat×J)→Bool),qN E xs K=K (zW E xs)
 |[],K=>rfl
 |(a,b,x)::r,K=>by rw[qN,pg,EO E r];rfl
def ph(E:EV)(x:Option aS)(K:Option J→Bool):Bool:=match x with|none=>K none|some x=>cv x E λv=>K (some v)
theorem PE(E:EV)(x:Option aS)(K:Option J→Bool):ph E x K=K (EK E x):=by
 cases x with
 |none=>rfl
 |some x=>exact pg x E _
def nA(x:bS)(f:Nat):TT→Nat→(TT→Bool)→Bool:=
 adv (motive:=λ_=>TT→Nat→(TT→Bool)→Bool) (λt _ K=>K t)
  (λ_ b t i K=>TT.casesOn (motive:=λ_=>Bool) t
    (cond (adm i 0) (K (.node x .leaf .leaf)) (cond (adm (adG i 2) 1) (b .leaf (adF i 2) λl=>K (.node .gone l .leaf)) (b .leaf (adD (adF i 2) 1) λr=>K (.node .gone .leaf r))))
    (λa l r=>cond (adm i 0) (K (.node x l r)) (cond (adm (adG i 2) 1) (b l (adF i 2) λl=>K (.node a l r)) (b r (adD (adF i 2) 1) λr=>K (.node a l r))))) f
theorem EP(x:bS):∀(f:Nat)(t:TT)(i:Nat)(K:TT→Bool),nA x f t i K=K (TT.iA x f t i):=by
 intro f;induction f with
 |zero=>intro t i K;cases t<;>rfl
 | succ f b=>
  intro t i K;cases t with
  | leaf=>show cond (adm i 0) (K (.node x .leaf .leaf)) (cond (adm (i%2) 1) (nA x f .leaf (i/2) λl=>K (.node .gone l .leaf)) (nA x f .leaf (i/2-1) λr=>K (.node .gone .leaf r)))=_;rw[b,b,TT.iA];cases adm i 0<;>cases adm (i%2) 1<;>rfl
  | node a l r=>show cond (adm i 0) (K (.node x l r)) (cond (adm (i%2) 1) (nA x f l (i/2) λl=>K (.node a l r)) (nA x f r (i/2-1) λr=>K (.node a l r)))=_;rw[b,b,TT.iA];cases adm i 0<;>cases adm (i%2) 1<;>rfl
def pj(T:S)(i:Nat)(x:bS)(K:S→Bool):Bool:=match T with|⟨n,t⟩=>nA x (adN i) t i λt=>K ⟨n,t⟩
theorem PF(T:S)(i:Nat)(x:bS)(K:S→Bool):pj T i x K=K (T.set i x):=by obtain⟨n,t⟩:=T;exact EP x (i+1) t i λt=>K ⟨n,t⟩
def ua(T:S)(x:bS)(K:S→Bool):Bool:=match T with|⟨n,t⟩=>nA x (adN n) t n λt=>iW (adN n) λm=>K ⟨m,t⟩
theorem PG(T:S)(x:bS)(K:S→Bool):ua T x K=K (T.push x):=by obtain⟨n,t⟩:=T;simp only[ua,EP,tX];rfl
def pk(x:bS)(K:bS→Bool):Bool:=
 match x with
 | .row cs=>kU cs λcs=>K (.row cs)
 | .map es=>kU es λes=>K (.map es)
 | .tok a b=>iW a λa=>K (.tok a b)
 | .fD s p=>iW p λp=>K (.fD s p)
 | .h0 T u b=>K (.h0 T u b)
 | .kq U bs=>K (.kq U bs)
 | .gone=>K .gone
theorem PH(x:bS)(K:bS→Bool):pk x K=K x:=by cases x<;>simp only[pk,tY,tX]
def zX(n:Nat):J→List J→(List J→Bool)→Bool:=adv (motive:=λ_=>J→List J→(List J→Bool)→Bool) (λv l K=>adq (motive:=λ_=>Bool) (K []) (λ_ t _=>K (v::t)) l) (λ_ a v l K=>adq (motive:=λ_=>Bool) (K []) (λx t _=>my (a v t) λr=>my K (x::r)) l) n
theorem ER:∀(n:Nat)(v:J)(l:List J)(K:List J→Bool),zX n v l K=K (l.set n v)
 |0,v,[],K=>rfl
 |0,v,x::t,K=>rfl
 |n+1,v,[],K=>rfl
 | n+1,v,x::t,K=>by show zX n v t (λr=>K (x::r))=_;rw[ER n v t];rfl
def ub(o:Nat):List J→List J→(List J→Bool)→Bool
 |[],cs,K=>K cs
 |v::r,cs,K=>zX o v cs λcs=>ub (adN o) r cs K
theorem ET:∀(o:Nat)(l cs:List J)(K:List J→Bool),ub o l cs K=K (setCells cs o l)
 |_,[],cs,K=>rfl
 |o,v::r,cs,K=>by rw[ub,ER,ET (adN o) r];rfl
inductive e2 where
 |wr (v:J) (i:Nat) (cs:List J) (o:Nat) (news:List J)
 |aO (v:J)
 |set (v:J) (i:Nat) (x:bS)
 |push (v:J) (x:bS)
 |gp (v:J) (i:Nat) (x:bS)
 |gs (v:J) (i j:Nat) (x:bS)
def e2.app(T:S):e2→J×S
 | .wr v i cs o news=>(v,T.set i (.row (setCells cs o news)))
 | .aO v=>(v,T)
 | .set v i x=>(v,T.set i x)
 | .push v x=>(v,T.push x)
 | .gp v i x=>(v,(T.set i .gone).push x)
 | .gs v i j x=>(v,(T.set i .gone).set j x)
def jB(T:S)(r:Option e2)(K:fi):Bool:=
 match r with
 |none=>false
 | some e=>(match e with
   | .wr v i cs o news=>fv v λv=>kU news λnews=>ub o news cs λcs=>pj T i (.row cs) (K v)
   | .aO v=>fv v λv=>K v T
   | .set v i x=>fv v λv=>pk x λx=>pj T i x (K v)
   | .push v x=>fv v λv=>pk x λx=>ua T x (K v)
   | .gp v i x=>fv v λv=>pk x λx=>pj T i .gone λT=>ua T x (K v)
   | .gs v i j x=>fv v λv=>pk x λx=>pj T i .gone λT=>pj T j x (K v))
theorem EW(T:S)(r:Option e2)(K:fi):jB T r K=gW (r.map (e2.app T)) K:=by
 cases r with
 |none=>rfl
 |some e=>cases e<;>simp only[jB,EI,PH,PF,PG,tY,ET,aaL,e2.app,gW]
def zY(T:S)(n:Nat)(x v:J):Option e2:=
 match x with
 | .ptr id o=>
  match T.t.get id with
  | .row cs=>cond (and v.known (and (adm v.cells.length n) (and (v.cells.all J.scalar) (zC (adC o n) cs)))) (some (.wr (.ar []) id cs o v.cells)) none
  |_=>none
 |_=>none
theorem PI(T:S)(n:Nat)(x v:J):(zY T n x v).map (e2.app T)=(qy T n x v).map λT=>(.ar [],T):=by
 cases x with
 | ptr id o=>
  simp only[zY,qy];cases hc:T.t.get id with
  | row cs=>
   dsimp only;rw[zD,nb];by_cases h:v.known=true∧v.cells.length=n∧v.cells.all J.scalar=true∧o+n≤cs.length
   · rw [af h];have:(v.known&&(decide (v.cells.length=n)&&(v.cells.all J.scalar&&decide (adC o n≤cs.length))))=true:=by
      simp only[h.1,h.2.1,h.2.2.1,decide_true,adQ,dM];exact h.2.2.2
     rw[this];rfl
   · rw [ai h];have:(v.known&&(decide (v.cells.length=n)&&(v.cells.all J.scalar&&decide (adC o n≤cs.length))))=false:=by
      rw[ac7];intro a;simp only[aaz,dM]at a;exact h a
     rw[this];rfl
  |_=>rfl
 |_=>rfl
def zZ(T:S)(mu:Bool)(cells:List J):e2:=cond mu (.push (.ptr T.n 0) (.row cells)) (.aO (.ak cells))
theorem EY(T:S)(mu:Bool)(cells:List J):(zZ T mu cells).app T=oW T mu cells:=by cases mu<;>rfl
def z1(T:S)(mu:Bool)(n:Nat)(v:J):Option e2:=if v.known∧v.cells.length=n then some (zZ T mu v.cells)else none
theorem PJ(T:S)(mu:Bool)(n:Nat)(v:J):(z1 T mu n v).map (e2.app T)=qz T mu n v:=by
 unfold z1 qz;split
 ·exact congrArg some (EY _ _ _)
 ·rfl
def z6(T:S)(mu:Bool)(sz a:Nat)(b:List J)(c:List (Nat×Nat×J)):Option e2:=
 match fW (VR a b).flatten c with
 |some cells=>some (cond mu (.push (.row T.n 0 a sz) (.row cells)) (.aO (.ax .full a cells)))
 |none=>none
theorem PK(T:S)(mu:Bool)(sz a:Nat)(b:List J)(parts:List (Nat×Nat×J)):(z6 T mu sz a b parts).map (e2.app T)=qA T mu sz a b parts:=by
 unfold z6 qA;cases fW (VR a b).flatten parts with
 |none=>rfl
 |some cells=>cases mu<;>rfl
def z7(T:S)(mu:Bool)(sz bytes:Nat)(x y:J):Option e2:=
 match ef T.ah sz y with
 |none=>none
 | some (m,news)=>
  if ¬news.all J.scalar then none else
  match x with
  | .ax tk len cells=>
   if m=0 then some (.aO (.ax tk len cells))
   else if ¬(cells.length=len*sz∧(len+m)*bytes≤140737488355328∧len+m≤9223372036854775807)then none
   else match tk,mu with
   | .nil,true | .full,true=>some (.push (.row T.n 0 (len+m) sz) (.row (cells++news)))
   | .nil,false | .full,false=>some (.push (.ax (.own T.n) (len+m) (cells++news)) (.tok ((len+m)*sz) sz))
   | .own t,_=>match T.t.get t with
    | .tok k a=>if k=len*sz∧a=sz then some (.gp (.ax (.own T.n) (len+m) (cells++news)) t (.tok ((len+m)*sz) sz))else none
    |_=>none
   | .dead,_=>none
  | .row id o len a=>
   match T.t.get id with
   | .row cs=>
    if m=0 then some (.aO (.row id o len a))
    else if ¬(o=0∧a=sz∧(len+m)*bytes≤140737488355328∧len+m≤9223372036854775807)then none
    else if(len+m)*sz≤cs.length then some (.wr (.row id 0 (len+m) sz) id cs (len*sz) news)
    else if cs.length=len*sz then some (.gp (.row T.n 0 (len+m) sz) id (.row (cs++news)))
    else none
   |_=>none
  |_=>none
theorem PM(T:S)(mu:Bool)(sz bytes:Nat)(x y:J):(z7 T mu sz bytes x y).map (e2.app T)=qB T mu sz bytes x y:=by
 unfold z7 qB;cases ef T.ah sz y with
 |none=>rfl
 | some p =>
  obtain⟨m,news⟩:=p;dsimp only;split
  ·rfl
  · cases x <;> try rfl
    · rename_i tk len cells;dsimp only;split
      ·rfl
      · split
        ·rfl
        · cases tk<;>cases mu<;>try rfl
          all_goals
           rename_i t;dsimp only;generalize T.t.get t=o;cases o<;>try rfl
           dsimp only;split<;>rfl
    · rename_i id o len a;dsimp only;generalize T.t.get id=o;cases o<;>try rfl
      dsimp only;split
      ·rfl
      · split
        ·rfl
        · split
          ·rfl
          ·split<;>rfl
def z8(T:S)(mu:Bool)(sz bytes:Nat)(a:List J)(b cap:J):Option e2:=
 match b,cap with
 | .int .i64 n,.int .i64 c=>
  if 0≤n∧n≤c∧bytes*c≤281474976710656∧c≤9223372036854775807∧a.length=sz then
   if mu then some (.push (.row T.n 0 n.toNat sz) (.row (VR c.toNat a).flatten))
   else if n=c then some (.aO (.ax .full n.toNat (VR n.toNat a).flatten))else none
  else none
 |_,_=>none
theorem PN(T:S)(mu:Bool)(sz bytes:Nat)(b:List J)(a cap:J):(z8 T mu sz bytes b a cap).map (e2.app T)=oX T mu sz bytes b a cap:=by
 unfold z8 oX;cases a<;>try rfl
 rename_i k n;cases k<;>try rfl
 cases cap<;>try rfl
 rename_i k c;cases k<;>try rfl
 dsimp only;split
 · split
   ·rfl
   ·split<;>rfl
 ·rfl
def z_(T:S)(sz:Nat)(x y:J):Option e2:=
 match x,ef T.ah sz y with
 | .row id o len _,some (m,news)=>
  match T.t.get id with
  | .row cs=>
   let n:=min m len
   if news.all J.scalar∧o+n*sz≤cs.length then some (.wr (.int .i64 n) id cs o (news.take (n*sz)))else none
  |_=>none
 |_,_=>none
theorem PO(T:S)(sz:Nat)(x y:J):(z_ T sz x y).map (e2.app T)=qC T sz x y:=by
 unfold z_ qC;cases x<;>try rfl
 rename_i id o len z;cases ef T.ah sz y with
 |none=>rfl
 | some p=>
  obtain⟨m,news⟩:=p;dsimp only;generalize T.t.get id=q;cases q<;>try rfl
  dsimp only;split<;>rfl
def Aa(T:S)(kk:FK)(m k v:J):Option e2:=
 match m with
 | .map id=>
  match T.t.get id with
  | .map es=>if plainKey kk k∧v.known then(match fG kk k es 0 with
      |some (some (i,_))=>some (.set (.ar []) id (.map (es.set i (k,v))))
      |some none=>some (.set (.ar []) id (.map (es++[(k,v)])))
      |none=>none)else none
  |_=>none
 |_=>none
theorem PQ(T:S)(kk:FK)(m k v:J):(Aa T kk m k v).map (e2.app T)=(qD T kk m k v).map λT=>(.ar [],T):=by
 unfold Aa qD;cases m<;>try rfl
 rename_i id;dsimp only;generalize T.t.get id=q;cases q<;>try rfl
 rename_i es;dsimp only;split
 · cases fG kk k es 0 with
   |none=>rfl
   | some r=>
    cases r with
    |none=>rfl
    |some p=>rfl
 ·rfl
def Ab(T:S)(x:J):Option e2:=
 match x with
 | .row id o len sz=>
  match T.t.get id with
  | .row cs=>if o+len*sz≤cs.length then some (.set (.ax .dead len ((cs.drop o).take (len*sz))) id .gone)else none
  |_=>none
 | .ptr id o=>
  match T.t.get id with
  | .row cs=>match hn (λi=>T.t.get i) cs with
   |some (l,a)=>if a=id then none else some (.gs (.ptr id o) a id (.row l))
   |none=>some (.set (.ak (cs.drop o)) id .gone)
  |_=>none
 | .ax tk len cells=>some (.aO (.ax tk len cells))
 | .ak cs=>some (.aO (.ak cs))
 | .agg cells=>match hn (λi=>T.t.get i) cells with
  |some (l,id)=>some (.set (.agg l) id .gone)
  |none=>some (.aO (.agg cells))
 |_=>none
theorem PR(T:S)(x:J):(Ab T x).map (e2.app T)=ns T x:=by
 unfold Ab ns;cases x<;>try rfl
 · rename_i id o;dsimp only;generalize T.t.get id=q;cases q<;>try rfl
   rename_i cs;dsimp only;cases hn (λi=>T.t.get i) cs with
   |none=>rfl
   | some q=>
    obtain⟨l,a⟩:=q;dsimp only;by_cases e:a=id
    ·rw[af e,af e];rfl
    ·rw[ai e,ai e];rfl
 · rename_i id o len sz;dsimp only;generalize T.t.get id=q;cases q<;>try rfl
   dsimp only;split<;>rfl
 · rename_i cs;dsimp only;cases hn (λi=>T.t.get i) cs with
   |none=>rfl
   |some q=>rfl
structure PS where
 f:c7→EV→S→fi→Bool
structure PT where
 f:EV→J→(EV→Bool)→Bool
structure uc where
 f:c7→EV→S→(EV→S→Bool)→Bool
structure PU where
 f:c7→EV→S→(EV→S→Bool)→(gR→EV→S→Bool)→Bool
structure PV where
 f:EV→List J→(EV→Bool)→Bool
structure EZ where
 f:EV→S→Bool→Bool
structure PW where
 f:EV→S→(List J→Bool)→Bool
structure qO where
 f:c7→List J→S→fi→Bool
def pn(a:Bool)(x:Option J)(K:J→Bool):Bool:=cond a (eu x K) (qM x K)
theorem E0(a:Bool)(x:Option J)(K:J→Bool):pn a x K=dc x K:=by cases a<;>simp only[pn,cond_true,cond_false,pe,EJ]
def ud(a:Option Nat)(sz:Nat)(x i:J)(K:J→Bool):Bool:=
 match x with
 | .ax _ len cells=>(match i with
   | .int _ n=>(match n with
     | .ofNat m=>(match a with|none=>cond (adr m len) (tZ (adE m sz) cells λr=>K (.ak r)) false|some _=>eu (kT a sz x i) K)
     |_=>eu (kT a sz x i) K)
   |_=>eu (kT a sz x i) K)
 | .ak cells=>(match i with
   | .int _ n=>(match n with
     | .ofNat m=>(match a with|some l=>cond (adr m l) (tZ (adE m sz) cells λr=>K (.ak r)) false|none=>eu (kT a sz x i) K)
     |_=>eu (kT a sz x i) K)
   |_=>eu (kT a sz x i) K)
 |_=>eu (kT a sz x i) K
theorem PX(a:Option Nat)(sz:Nat)(x i:J)(K:J→Bool):ud a sz x i K=dc (aL a sz x i) K:=by
 rw[←PC,←pe];cases x<;>try rfl
 · rename_i cells;cases i<;>try rfl
   rename_i k n;cases n<;>try rfl
   rename_i m;cases a<;>try rfl
   rename_i l;rw[pe];simp only[ud,kT,asNat,t_,qK];cases adr m l<;>rfl
 · rename_i tk len cells;cases i<;>try rfl
   rename_i k n;cases n<;>try rfl
   rename_i m;cases a<;>try rfl
   rw[pe];simp only[ud,kT,asNat,t_,qK];cases adr m len<;>rfl
def Ac(a:Nat)(x:J)(K:J→Bool):Bool:=
 match x with
 | .ptr i o=>iW (adC o a) λo=>K (.ptr i o)
 | .ak cs=>tZ a cs λr=>K (.ak r)
 |_=>eu (aa a x) K
theorem PY(a:Nat)(x:J)(K:J→Bool):Ac a x K=dc (aa a x) K:=by
 unfold Ac;split
 ·rw[tX];rfl
 ·rw[t_];rfl
 ·exact pe _ _
def ue:dh→PS
 | .mv x=>⟨λ_ E T K=>cv x E λv=>K v T⟩
 | .pick c a b=>⟨λ_ E T K=>cv c E λc=>oV c true (cv a E λv=>K v T) (cv b E λv=>K v T)⟩
 | .bin op x y=>⟨λ_ E T K=>cv x E λx=>cv y E λy=>eu ((EE op).f x y) λv=>K v T⟩
 | .beq neg x y=>⟨λ_ E T K=>cv x E λx=>cv y E λy=>eu (ku neg x y) λv=>K v T⟩
 | .iQ k neg x=>⟨λ_ E T K=>cv x E λx=>eu (h2 k neg x) λv=>K v T⟩
 | .h4 neg ks x y=>⟨λ_ E T K=>cv x E λx=>cv y E λy=>eu (jk neg ks x y) λv=>K v T⟩
 | .un op x=>⟨λ_ E T K=>cv x E λx=>eu (cC op x) λv=>K v T⟩
 | .conv k x=>⟨λ_ E T K=>cv x E λx=>eu (EF k x) λv=>K v T⟩
 | .same x=>⟨λ_ E T K=>cv x E λx=>qM (oq x) λv=>K v T⟩
 | .jn x=>⟨λ_ E T K=>cv x E λx=>qM (aC x) λv=>K v T⟩
 | .field off sz agg x=>⟨λ_ E T K=>cv x E λx=>pn agg (zU off sz agg x) λv=>K v T⟩
 | .idx len sz agg x i=>⟨λ_ E T K=>cv x E λx=>cv i E λi=>pn agg (EG len sz agg x i) λv=>K v T⟩
 | .idxs x i=>⟨λ_ E T K=>cv x E λx=>cv i E λi=>eu (EH x i) λv=>K v T⟩
 | .jo off x=>⟨λ_ E T K=>cv x E λx=>Ac off x λv=>K v T⟩
 | .iR arr sz x i=>⟨λ_ E T K=>cv x E λx=>cv i E λi=>ud arr sz x i λv=>K v T⟩
 | .slice sz x lo hi mx=>⟨λ_ E T K=>cv x E λx=>ph E lo λlo=>ph E hi λhi=>ph E mx λmx=>eu (c6 sz x lo hi mx) λv=>K v T⟩
 | .jq x lo hi=>⟨λ_ E T K=>cv x E λx=>ph E lo λlo=>ph E hi λhi=>eu (ot x lo hi) λv=>K v T⟩
 | .gK t x=>⟨λ_ E T K=>cv x E λv=>K (.iface t v) T⟩
 | .gj key bH=>⟨λ_ E T K=>lH E bH λvs=>K (.fn key vs) T⟩
 | .extract i x=>⟨λ_ E T K=>cv x E λx=>qM (bo i x) λv=>K v T⟩
 | .build zero parts=>⟨λ_ E T K=>qN E parts λd=>eu (aD zero d) λv=>K v T⟩
 | .len str x=>⟨λ_ E T K=>cv x E λx=>eu (aY str x) λv=>K v T⟩
 | .gL n=>⟨λ_ E T K=>K (.int .i64 n) T⟩
 | .cap x=>⟨λ_ E T K=>cv x E λx=>eu (kB x) λv=>K v T⟩
 | .gM mx xs=>⟨λ_ E T K=>lH E xs λvs=>eu (eL mx vs) λv=>K v T⟩
 | .load n agg x=>⟨λ_ E T K=>cv x E λx=>pn agg (qL T n agg x) λv=>K v T⟩
 | .store n x v=>⟨λ_ E T K=>cv x E λx=>cv v E λv=>jB T (zY T n x v) K⟩
 | .box mu n x=>⟨λ_ E T K=>cv x E λx=>jB T (z1 T mu n x) K⟩
 | .alloc mu zero=>⟨λ_ E T K=>jB T (some (zZ T mu zero)) K⟩
 | .gk mu sz len zero parts=>⟨λ_ E T K=>qN E parts λd=>jB T (z6 T mu sz len zero d) K⟩
 | .append mu sz bytes x y=>⟨λ_ E T K=>cv x E λx=>cv y E λy=>jB T (z7 T mu sz bytes x y) K⟩
 | .make mu sz bytes zero len cap=>⟨λ_ E T K=>cv len E λl=>cv cap E λc=>jB T (z8 T mu sz bytes zero l c) K⟩
 | .copy sz x y=>⟨λ_ E T K=>cv x E λx=>cv y E λy=>jB T (z_ T sz x y) K⟩
 | .gl=>⟨λ_ E T K=>jB T (some (.push (.map T.n) (.map []))) K⟩
 | .lookup kk zero ok m k=>⟨λ_ E T K=>cv m E λm=>cv k E λk=>eu (fX T.ah kk zero ok m k) λv=>K v T⟩
 | .gN kk m k v=>⟨λ_ E T K=>cv m E λm=>cv k E λk=>cv v E λv=>jB T (Aa T kk m k v) K⟩
 | .delete kk m k=>⟨λ_ E T K=>dc (tH T kk (m.val E) (k.val E)) λT=>K (.ar []) T⟩
 | .gO m=>⟨λ_ E T K=>cv m E λm=>eu (kA T.ah m) λv=>K v T⟩
 | .jr x=>⟨λ_ E T K=>cv x E λx=>eu (mf x) λv=>K v T⟩
 | .gP x=>⟨λ_ E T K=>cv x E λx=>eu (abstr T.ah x) λv=>K v T⟩
 | .ho x=>⟨λ_ E T K=>gW (tD T (x.val E)) K⟩
 | .hp x=>⟨λ_ E T K=>gW (tG T (x.val E)) K⟩
 | .call key args=>⟨λB E T K=>lH E args λvs=>B key vs T K⟩
 | .hq f args=>⟨λB E T K=>cv f E λf=>lH E args λvs=>ze B f vs T K⟩
 | .ext e xs=>⟨λ_ E T K=>lH E xs λvs=>gW (text T e vs) K⟩
 | .inv gQ x args=>⟨λB E T K=>cv x E λx=>lH E args λvs=>zf B gQ x vs T K⟩
theorem PZ(x:Option S)(K:fi):gW (x.map λT=>(.ar [],T)) K=dc x λT=>K (.ar []) T:=by cases x<;>rfl
theorem E1(B:c7)(E:EV)(T:S)(K:fi)(op:dh):(ue op).f B E T K=lD B [] T K (op.sub E):=by cases op<;>simp only[ue,dh.sub,lD,pf,EL,EM,PD,pg,EN,EO,PE,pe,EJ,E0,PX,PY,Px,Py,Pz,PA,PB,zV,EW,PI,PJ,PK,PM,PN,PO,PQ,PZ,aaL,EY]<;>rfl
def kW(n:Nat):Option Nat→PT
 |none=>⟨λE _ K=>K E⟩
 |some d=>cond (adr d n) ⟨λE v K=>K ((d,v)::E)⟩ ⟨λE _ K=>K E⟩
theorem Ad(n:Nat)(d:Option Nat)(E:EV)(v:J)(K:EV→Bool):(kW n d).f E v K=K (eH n E d v):=by
 cases d with
 |none=>rfl
 | some d=>simp only[kW,eH,ep];cases adr d n<;>rfl
def qP(n:Nat)(o:bA):uc:=
 match o.guard with
 |none=>⟨λB E T K=>(ue o.op).f B E T λv a=>(kW n o.dst).f E v λE=>K E a⟩
 | some (s,want)=>⟨λB E T K=>kV E s λg=>
     qF g want ((kW n (some s)).f E (.bool want) λE=>(ue o.op).f B E T λv a=>(kW n o.dst).f E v λE=>K E a)
      ((kW n (some s)).f E (.bool !want) λE=>(kW n o.dst).f E (.ar []) λE=>K E T) ((kW n (some s)).f E (.ar []) λE=>(kW n o.dst).f E (.ar []) λE=>K E T)⟩
theorem Ae(n:Nat)(o:bA)(B:c7)(E:EV)(T:S)(K:EV→S→Bool):(qP n o).f B E T K=nu B n o E T K:=by
 unfold qP nu;cases a:o.guard with
 |none=>simp only[E1,Ad]
 |some g=>simp only[E1,Ad,eH,mz]
def qQ(n:Nat):List bA→uc
 |[]=>⟨λ_ E T K=>K E T⟩
 |o::r=>⟨λB E T K=>(qP n o).f B E T λa b=>(qQ n r).f B a b K⟩
theorem P0(n:Nat):∀(l:List bA)(B:c7)(E:EV)(T:S)(K:EV→S→Bool),(qQ n l).f B E T K=kQ B n l E T K:=by
 intro l;induction l with
 |nil=>intro B E T K;rfl
 | cons o r a=>intro B E T K;simp only[qQ,Ae,kQ,nu,a]
def po(n:Nat)(ops:List bA):List Nat→uc
 |[]=>⟨λ_ E T K=>K E T⟩
 | i::r=>match ops[i]? with
  |some o=>⟨λB E T K=>(qP n o).f B E T λa b=>(po n ops r).f B a b K⟩
  |none=>⟨λ_ _ _ _=>false⟩
theorem Af(n:Nat)(ops:List bA):∀(l:List Nat)(B:c7)(E:EV)(T:S)(K:EV→S→Bool),(po n ops l).f B E T K=nw B n ops l E T K:=by
 intro l;induction l with
 |nil=>intro B E T K;rfl
 | cons i r a=>
  intro B E T K;simp only[po,nw];cases ops[i]? with
  |none=>rfl
  |some o=>simp only[Ae,a]
def uf(o:bA):EZ:=
 match o.op with
 | .load n agg x=>⟨λE T X=>cv x E λx=>kV E (o.dst.getD 0) λd=>and (kR (qL T n agg x) d) X⟩
 | .lookup kk zero ok m k=>⟨λE T X=>and (kR (fX T.ah kk zero ok (m.val E) (k.val E)) (dd E (o.dst.getD 0))) X⟩
 | .gO m=>⟨λE T X=>and (kR (kA T.ah (m.val E)) (dd E (o.dst.getD 0))) X⟩
 | .gP x=>⟨λE T X=>and (kR (abstr T.ah (x.val E)) (dd E (o.dst.getD 0))) X⟩
 |_=>⟨λ_ _ X=>X⟩
theorem E2(o:bA)(E:EV)(T:S)(X:Bool):(uf o).f E T X=(o3 T E o&&X):=by unfold uf o3;cases o.op<;>simp only[pf,adQ,pg,mz,zV]<;>rfl
def pq(ops:List bA):List Nat→EZ
 |[]=>⟨λ_ _ X=>X⟩
 | l :: r=>match ops[l]? with
  | some o=>(match o.guard with
    |none=>⟨λE T X=>(uf o).f E T ((pq ops r).f E T X)⟩
    |some (s,want)=>⟨λE T X=>and (kV E s λg=>zj g want ((uf o).f E T true)) ((pq ops r).f E T X)⟩)
  |none=>⟨λE T X=>(pq ops r).f E T X⟩
theorem P1(ops:List bA):∀(l:List Nat)(E:EV)(T:S)(X:Bool),(pq ops l).f E T X=o4 ops E T X l:=by
 intro l;induction l with
 |nil=>intro E T X;rfl
 | cons i r a=>
  intro E T X;simp only[pq,o4];cases ops[i]? with
  |none=>simp only[a,adQ]
  | some o=>
   simp only[tO];cases o.guard with
   |none=>simp only[a,E2]
   |some g=>simp only[a,E2,Bool.and_true,mz]
def ug(n:Nat)(ops:List bA)(a:List Nat):List (List Nat×Nat×List Nat)→uc
 |[]=>po n ops a
 | (b,e,st)::r=>match ops[e]? with
  |some o=>⟨λB E T K=>(po n ops b).f B E T λc g=>(qP n o).f B c g λh d=>(pq ops st).f c d ((ug n ops a r).f B h d K)⟩
  |none=>⟨λB E T K=>(po n ops b).f B E T λ_ _=>false⟩
theorem P3(n:Nat)(ops:List bA)(a:List Nat):∀(l:List (List Nat×Nat×List Nat)) (B:c7) (E:EV) (T:S) (K:EV→S→Bool),(ug n ops a l).f B E T K=o5 B n ops a l E T K:=by
 intro l;induction l with
 |nil=>intro B E T K;exact Af _ _ _ _ _ _ _
 | cons p r b=>
  obtain⟨c,e,st⟩:=p;intro B E T K;simp only[ug,o5];cases ops[e]? with
  |none=>simp only[Af]
  |some o=>simp only[Af,Ae,P1,b]
def ps(n:Nat):List Nat→PV
 |[]=>⟨λE _ K=>K E⟩
 |t::r=>cond (adr t n) ⟨λE s K=>adq (motive:=λ_=>Bool) ((ps n r).f ((t,.bot)::E) [] K) (λv q _=>(ps n r).f ((t,v)::E) q K) s⟩ ⟨λE s K=>(ps n r).f E s.tail K⟩
theorem P4(n:Nat):∀(l:List Nat)(E:EV)(s:List J)(K:EV→Bool),(ps n l).f E s K=K (h9 n E l s):=by
 intro l;induction l with
 |nil=>intro E s K;cases s<;>rfl
 | cons t r a=>
  intro E s K;simp only[ps,h9,ep];cases adr t n with
  |true=>cases s<;>simp only[cond_true,a,List.headD_nil,List.headD_cons,List.tail_nil,List.tail_cons]
  |false=>simp only[cond_false,a]
def qR(E:EV):List Nat→(List J→Bool)→Bool
 |[],K=>K []
 |t::r,K=>kV E t λv=>qR E r λvs=>K (v::vs)
theorem E3(E:EV):∀(l:List Nat)(K:List J→Bool),qR E l K=K (gX E l)
 |[],K=>rfl
 |t::r,K=>by rw[qR,mz,E3 E r];rfl
def lI(ks:List Nat):EV→EV
 |[]=>[]
 |(t,v)::E=>cond (gw t ks) (lI ks E) ((t,v)::lI ks E)
def uh(ks:List Nat)(E:EV):(EV→Bool)→Bool:=adq (motive:=λ_=>(EV→Bool)→Bool) (λK=>K []) (λp _ a K=>adO (motive:=λ_=>Bool) (λt v=>cond (gw t ks) (a K) (a λE=>K ((t,v)::E))) p) E
theorem Ag(ks:List Nat):∀(E:EV)(K:EV→Bool),uh ks E K=K (lI ks E)
 |[],K=>rfl
 | (t,v)::E,K=>by show cond (gw t ks) (uh ks E K) (uh ks E λE=>K ((t,v)::E))=_;rw[Ag ks E,Ag ks E,lI];cases gw t ks<;>rfl
theorem E4:∀(t:Nat)(l:List Nat),gw t l=decide (t∈l)
 |t,[]=>rfl
 | t,s::r=>by
  rw[gw,nb,E4 t r];by_cases h:t=s
  ·simp[h]
  ·simp[h]
theorem Ah(ks:List Nat):∀(E:EV)(i:Nat),dd (lI ks E) i=if i∈ks then .bot else dd E i
 |[],i=>by simp[lI,dd]
 | (t,v)::E,i=>by
  rw[lI,E4,tI];by_cases h:t∈ks
  · simp only[h,decide_true,cond_true,Ah ks E i];by_cases hi:i∈ks
    ·rw[af hi,af hi]
    ·rw[ai hi,ai hi,ai (show ¬t=i from λe=>hi (e▸h))]
  · simp only[h,decide_false,cond_false,tI,Ah ks E i];by_cases e:t=i
    ·subst e;rw[af rfl,ai h,af rfl]
    ·rw[ai e,ai e]
theorem E5:∀(ks:List Nat)(a:Env)(i:Nat),(Rb.eB a ks).getD i .bot=if i∈ks then .bot else a.getD i .bot
 |[],a,i=>by simp[Rb.eB]
 | t :: r,a,i=>by
  rw[Rb.eB,E5 r];by_cases b:i∈r
  ·rw[af b,af (acV _ b)]
  · rw [ai b];by_cases e:t=i
    · subst e;rw[af acW,abQ,aaV];simp only[aT];split<;>rfl
    ·rw[ai (by simp only[acU,not_or];exact⟨λh=>e h.symm,b⟩),abQ,abp e,←abQ]
theorem E6:∀(ks:List Nat)(a:Env),(Rb.eB a ks).length=a.length
 |[],a=>rfl
 |t::r,a=>by rw[Rb.eB,E6 r];simp
theorem cY.aO{n:Nat}{E:EV}{a:Env}(h:cY n E a)(ks:List Nat):cY n (lI ks E) (Rb.eB a ks):=⟨by rw[E6];exact h.1,λi=>by rw[Ah,E5,h.2 i]⟩
def E7(id:Nat)(N:EV→S→Bool)(X:gR→EV→S→Bool):gR→EV→S→Bool
 | .exit a,E,T=>cond (adm a id) (N E T) (X (.exit a) E T)
 |e,E,T=>X e E T
def E8(F:List J→S→(List J→S→Bool)→Bool)(n:Nat):List J→S→Bool:=adv (motive:=λ_=>List J→S→Bool) (λ_ _=>false) (λ_ a s T=>F s T a) n
def hI(fuel n:Nat):eF→PU
 | .skip=>⟨λ_ E T N _=>N E T⟩
 | .region ops=>⟨λB E T N _=>(qQ n ops).f B E T N⟩
 | .draw ops _ bf last=>⟨λB E T N _=>(ug n ops last bf).f B E T N⟩
 | .seq a b=>⟨λB E T N X=>(hI fuel n a).f B E T (λE T=>(hI fuel n b).f B E T N X) X⟩
 | .cond x a b=>⟨λB E T N X=>cv x E λx=>oV x true ((hI fuel n a).f B E T N X) ((hI fuel n b).f B E T N X)⟩
 | .block id a=>⟨λB E T N X=>(hI fuel n a).f B E T N (E7 id N X)⟩
 | .loop vs ks a=>⟨λB E T N X=>uh ks E λd=>qR E vs λs=>E8 (λs T K=>(ps n vs).f d s λE=>(hI fuel n a).f B E T (λe c=>qR e vs λs=>K s c) X) fuel s T⟩
 | .exit id=>⟨λ_ E T _ X=>X (.exit id) E T⟩
 | .ret=>⟨λ_ E T _ X=>X .ret E T⟩
 | .freeze t a=>⟨λB E T N X=>kV E t λv=>jB T (Ab T v) λv c=>(kW n (some t)).f E v λE=>(hI fuel n a).f B E c N X⟩
 | .join vs ks a b=>⟨λ_ _ _ _ _=>false⟩
 | .hx vs ks ops b=>⟨λ_ _ _ _ _=>false⟩
theorem P5(hB:er Φ B)(A:iw Φ)(fuel n:Nat):∀(c:eF){E:EV}{q:Env}{T:S}{N:EV→S→Bool}{X:gR→EV→S→Bool}{Q:gR→Env→AH→Prop},cY n E q→(hI fuel n c).f B E T N X=true →
  (∀p aI d,cY n p aI→N p d=true→Q .normal aI d.ah)→(∀x p aI d,x ≠ .normal→cY n p aI→X x p d=true→Q x aI d.ah)→eg Φ c q T.ah Q:=by
 have qS:∀(l:List bA){E:EV}{q:Env}{T:S}{N:EV→S→Bool}{Q:Env→AH→Prop},cY n E q→(qQ n l).f B E T N=true→(∀p aI d,cY n p aI→N p d=true→Q aI d.ah)→hr Φ l q T.ah Q:=by intro l E q T N Q g h o;rw[P0]at h;refine za A g (zi (Q:=λp H'=>∃d,H'=d.ah∧N p d=true) hB h λe d h=>⟨d,rfl,h⟩) λp aI H' r j=>?_;obtain⟨d,rfl,j⟩:=j;exact o _ _ _ r j
 intro c;induction c with
 |skip=>intro E q T N X Q g h o k;exact o _ _ _ g h
 |region ops=>intro E q T N X Q g h o k;exact qS ops g h o
 | draw ops pr bf last=>intro E q T N X Q g h o k;simp only[hI,P3]at h;refine Ec A g (Ei (Q:=λp H'=>∃d,H'=d.ah∧N p d=true) hB h λe d h=>⟨d,rfl,h⟩) λp aI H' r j=>?_;obtain⟨d,rfl,j⟩:=j;exact o _ _ _ r j
 | seq a b y z=>
  intro E q T N X Q g h o k;simp only[hI]at h;simp only[eg];refine y g h (λp aI d r j=>z r j o k) λx p aI d u r j=>?_;cases x with
  |normal=>exact absurd rfl u
  |exit i=>exact k _ _ _ _ u r j
  |ret=>exact k _ _ _ _ u r j
 |join vs ks a b y z=>intro E q T N X Q g h o k;cases h
 | cond x a b y z=>intro E q T N X Q g h o k;simp only[hI,pg]at h;rw[←pf,tJ g]at h;exact zh h (λh=>y g h o k) λh=>z g h o k
 | block id a w=>
  intro E q T N X Q g h o k;simp only[hI]at h;simp only[eg];refine w g h o λx p aI d u r j=>?_;cases x with
  |normal=>exact absurd rfl u
  | exit i=>
   simp only[E7,nb]at j;dsimp only;by_cases hi:i=id
   ·rw[af hi];simp only[hi,decide_true,cond_true]at j;exact o _ _ _ r j
   ·rw[ai hi];simp only[hi,decide_false,cond_false]at j;exact k _ _ _ _ u r j
  |ret=>exact k _ _ _ _ u r j
 | loop vs ks a w=>
  intro E q T N X Q g h o k;simp only[hI,Ag,E3,P4]at h;simp only[eg];have main:∀(m:Nat)(s:List J)(T:S),E8 (λs T K=>(hI fuel n a).f B (h9 n (lI ks E) vs s) T (λp d=>K (gX p vs) d) X) m s T=true →
    av (λ(s:List J×AH) (K:List J×AH→Prop)=>
      eg Φ a (hy (eB q ks) vs s.1) s.2 λe aI H'=>match e with
       | .normal=>K (dS aI vs,H')
       |e=>Q e aI H') (s,T.ah):=by
   intro m;induction m with
   |zero=>intro s T h;cases h
   | succ m C=>
    intro s T h;refine av.step ?_;refine w ((g.aO ks).hy vs s) h (λp aI d r j=>?_) λx p aI d u r j=>?_
    · dsimp only;rw[←r.dS vs];exact C _ _ j
    · cases x with
      |normal=>exact absurd rfl u
      |exit i=>exact k _ _ _ _ u r j
      |ret=>exact k _ _ _ _ u r j
  rw[←g.dS vs];exact main fuel _ _ h
 |exit id=>intro E q T N X Q g h o k;exact k _ _ _ _ (by intro h;cases h) g h
 |ret=>intro E q T N X Q g h o k;exact k _ _ _ _ (by intro h;cases h) g h
 | freeze t a w=>intro E q T N X Q g h o k;simp only[hI,mz,EW,PR,Ad,eH]at h;simp only[eg];rw[g.2 t]at h;exact j4 (D_ _ _) h λv d j=>w (g.set t v) j o k
 |hx vs ks ops b w=>intro E q T N X Q g h o k;cases h
def nC:List iT→PW
 |[]=>⟨λ_ _ K=>K []⟩
 | .tmp t::r=>⟨λE T K=>kV E t λv=>(nC r).f E T λvs=>K (v::vs)⟩
 | .cell t n agg::r=>⟨λE T K=>kV E t λx=>pn agg (qL T n agg x) λv=>(nC r).f E T λvs=>K (v::vs)⟩
theorem P6:∀(rs:List iT)(E:EV)(T:S)(K:List J→Bool),(nC rs).f E T K=o6 E T rs K:=by
 intro rs;induction rs with
 |nil=>intros;rfl
 |cons r rs a=>intro E T K;cases r<;>simp only[nC,o6,a,mz,E0,zV]
def ui(vs:List J)(Q:fi)(T:S):Bool:=
 match vs with
 |[v]=>Q v T
 |vs=>Q (.ar vs) T
theorem P7(vs:List J)(Q:fi)(T:S):ui vs Q T=Q (mi vs) T:=by
 cases vs with
 |nil=>rfl
 |cons v r=>cases r<;>rfl
def P9(rs:List iT)(Q:fi):gR→EV→S→Bool
 | .exit _,_,_=>false
 |_,E,T=>(nC rs).f E T λvs=>ui vs Q T
def initK:List J→Nat→(EV→Bool)→Bool
 |[],_,K=>K []
 |a::r,i,K=>initK r (adN i) λE=>K ((i,a)::E)
theorem E9:∀(l:List J)(i:Nat)(K:EV→Bool),initK l i K=K (lC l i)
 |[],_,_=>rfl
 |a::r,i,K=>by rw[initK,E9 r];rfl
def uj(fuel:Nat)(f:aF):qO:=⟨λB args T Q=>and (adw args.length f.ntmps) (initK args 0 λE=>(hI fuel f.ntmps f.body).f B E T (λE T=>(nC f.results).f E T λvs=>ui vs Q T) (P9 f.results Q))⟩
theorem P_(hB:er Φ B)(e:iw Φ){fuel:Nat}{f:aF}{args:List J}{T:S}{K:fi}(h:(uj fuel f).f B args T K=true){Q:ab}(g:∀v a,K v a=true→Q v a.ah):ox Φ f args T.ah Q:=by
 simp only[uj,aaz,E9]at h;have hle:=adx h.1;have j:cY f.ntmps (lC args 0) (args++VR (f.ntmps-args.length) .bot):=by
  refine⟨by simp;omega,λi=>?_⟩;rw[y_];simp only[adt,bz,adu];simp only[abQ];by_cases hi:i<args.length
  ·rw[ab8 hi]
  · rw[ab9 (by omega),acO (by omega),adh];split<;>rfl
 have fin:∀(b:EV)(aI:Env)(a:S),cY f.ntmps b aI→(nC f.results).f b a (λvs=>ui vs K a)=true→kE aI a.ah f.results λvs=>Q (mi vs) a.ah:=by intro b aI a d c;rw[P6]at c;rw[←zb d];exact zl c λvs h=>g _ _ (by rwa [P7]at h)
 refine P5 hB e fuel _ f.body j h.2 (λb aI a d c=>fin b aI a d c) λx b aI a k d c=>?_;cases x with
 |normal=>exact absurd rfl k
 |exit i=>cases c
 |ret=>exact fin b aI a d c
def uk(a:Nat→Option qO)(B:c7):c7:=λk args T Q=>match a k with
 |some c=>c.f B args T Q
 |none=>false
def qT(C:Ctx)(fuel:Nat):List Hint→Nat→Option qO
 |[],_=>none
 |h::r,k=>cond (adm h.dq k) (some (uj fuel (A C h))) (qT C fuel r k)
theorem E_{C:Ctx}{fuel:Nat}:∀{L:List Hint}{k:Nat}{c:qO},qT C fuel L k=some c→∃h,h∈L∧h.dq=k∧c=uj fuel (A C h)
 |[],_,_,h=>by cases h
 | p::r,k,c,h=>by
  unfold qT at h;cases a:adm p.dq k with
  | true=>rw[a]at h;simp only[cond_true,aaK.injEq]at h;exact⟨p,acW,adz a,h.symm⟩
  | false=>rw[a]at h;obtain⟨f,hf,hc⟩:=E_ (L:=r) h;exact⟨f,acV _ hf,hc⟩
theorem Qa{P:Program}{a:Nat→Option (List J)}{L:List Hint}(hL:hG (lG P a) L=true)(fuel:Nat):zo (ae (lG P a)) (uk (qT (lG P a) fuel L)):=by
 intro B hB k args T K h Q d;unfold uk at h;split at h
 · rename_i c hc;obtain⟨hi,hm,hk,rfl⟩:=E_ hc;have hs:ox (ae (lG P a)) (A (lG P a) hi) args T.ah Q:=P_ hB (tg _) h d;refine⟨Dk (yU _) hs,λf hf G w Vs e g i=>?_⟩;have j:f=k:=by
    simp only[lG]at hf;cases b:iU P k with
    |true=>rw[b]at hf;simpa using hf.symm
    |false=>rw[b]at hf;cases hf
   subst j;exact D4 (EA P a) (by rw[←hk];exact EB hL _ hm) hs e g i
 ·cases h
end
end Rb

namespace Rb
open Go
noncomputable section
def forced(b:Bool):Bool:=adP (motive:=λ_=>Bool) false true b
theorem Qb(b:Bool):forced b=b:=by cases b<;>rfl
theorem dj{b:Bool}(h:forced b=true):b=true:=by rwa [Qb]at h
def iB:List (Nat×List J×J)→qG
 |[],_,_=>none
 |e::r,k,args=>cond (adm e.1 k) (cond (J.fK e.2.1 args) (some e.2.2) (iB r k args)) (iB r k args)
theorem uo{Φ:ad}:j5 Φ (iB []):=λ_ _ _ h=>by cases h
end
end Rb

namespace Rb
open Go
variable{C:Ctx}{key:Nat}{H:AH}{Q:ab}
mutual
def J.e3:J→J
 | .ak cs=> .ak (J.e4 cs)
 | .ax _ len cs=> .ax .dead len (J.e4 cs)
 | .fn k cs=> .fn k (J.e4 cs)
 | .iface t v=> .iface t (J.e3 v)
 | .agg cs=> .agg (J.e4 cs)
 | .ar cs=> .ar (J.e4 cs)
 |v=>v
def J.e4:List J→List J
 |[]=>[]
 |c::r=>J.e3 c::J.e4 r
end
theorem pv:∀cs:List J,J.e4 cs=cs.map J.e3
 |[]=>rfl
 |c::r=>by rw[J.e4,pv r];rfl
theorem lJ{cs:List J}{j:Nat}{c:J}(h:(J.e4 cs)[j]?=some c):∃d,cs[j]?=some d∧c=d.e3:=by
 rw[pv,abl]at h;cases hc:cs[j]? with
 |none=>rw[hc]at h;cases h
 |some d=>rw[hc]at h;simp at h;exact⟨d,rfl,h.symm⟩
theorem qU(cs:List J):(J.e4 cs).length=cs.length:=by rw[pv,ac6]
theorem R.e3{F:cJ}{w:World}{G:bn}{c:J}{V:Value}(h:R F w G c V):R F w G c.e3 V:=by
 induction h with
 |bot V=>exact .bot V
 |bool b=>exact .bool b
 |int k n=>exact .int k n
 |str s=>exact .str s
 |dm=>exact .dm
 |ptr id off h=>exact .ptr id off h
 | ak cells b o Vs h _ g=>
  refine .ak _ b o Vs (λj c i=>?_) λj c i=>?_
  ·obtain⟨d,e,rfl⟩:=lJ i;exact h j d e
  ·obtain⟨d,e,rfl⟩:=lJ i;exact g j d e
 |eD=>exact .eE none 0
 |eE a cap=>exact .eE a cap
 | ax tk len cells b o cap Vs ht hle h _ g=>
  refine .ax .dead len _ b o cap Vs trivial hle (λj c i=>?_) λj c i=>?_
  ·obtain⟨d,e,rfl⟩:=lJ i;exact h j d e
  ·obtain⟨d,e,rfl⟩:=lJ i;exact g j d e
 |row id off len sz cap h hle hc=>exact .row id off len sz cap h hle hc
 |map id h=>exact .map id h
 |eK=>exact .eK
 | fn key bH f Vs hk hf hl _ g=>refine .fn key _ f Vs hk hf (by rw[qU];exact hl) λj c V hc l=>?_;obtain⟨d,e,rfl⟩:=lJ hc;exact g j d V e l
 | kr key k bH f Vs hk hf hl _ g=>refine .kr key k _ f Vs hk hf (by rw[qU];exact hl) λj c V hc l=>?_;obtain⟨d,e,rfl⟩:=lJ hc;exact g j d V e l
 |fA=>exact .fA
 |iface t v V _ g=>exact .iface t _ V g
 |fB=>exact .fB
 | agg cs Vs hl _ g=>refine .agg _ Vs (by rw[qU];exact hl) λj c V hc l=>?_;obtain⟨d,e,rfl⟩:=lJ hc;exact g j d V e l
 | ar cs Vs hl _ g=>refine .ar _ Vs (by rw[qU];exact hl) λj c V hc l=>?_;obtain⟨d,e,rfl⟩:=lJ hc;exact g j d V e l
theorem ae.e3{args:List J}(h:ae C key args H (λv H'=>Q v.e3 H')):ae C key args H Q:=by refine⟨by obtain⟨v,H',a⟩:=h.1;exact⟨_,_,a⟩,λf hf G w Vs b c d=>?_⟩;refine acL (h.2 f hf G w Vs b c d) λe w' he=>?_;obtain⟨V,v,H',G',e1,g,hv,r⟩:=he;exact⟨V,v.e3,H',G',e1,g,hv.e3,r⟩
theorem ae.Qc{args:List J}(h:ae C key (J.e4 args) H Q):ae C key args H Q:=by refine⟨h.1,λf hf G w Vs b e a=>?_⟩;refine h.2 f hf G w Vs b e ⟨by rw[qU];exact a.1,λj c V hc g=>?_⟩;obtain⟨d,i,rfl⟩:=lJ hc;exact(a.2 j d V i g).e3
end Rb

namespace Rb
open Go
variable{C:Ctx}{B:c7}
noncomputable section
def qV:List (List J×J)→List J→Option J
 |[],_=>none
 |e::r,a=>cond (J.fK e.1 a) (some e.2) (qV r a)
def pw(k:Nat):List (Nat×List J×J)→List (List J×J)
 |[]=>[]
 |e::r=>cond (adm e.1 k) ((e.2.1,e.2.2)::pw k r) (pw k r)
theorem Fa(k:Nat)(args:List J):∀L:List (Nat×List J×J),qV (pw k L) args=iB L k args
 |[]=>rfl
 | e::r=>by
  have a:=Fa k args r;unfold pw iB;cases adm e.1 k with
  |false=>exact a
  | true=>
   simp only[cond_true,qV];cases J.fK e.2.1 args with
   |false=>exact a
   |true=>rfl
def Ai(L:List (Nat×List J×J)):qG:=λk args=>match pw k L with
 |[]=>none
 |l=>qV l (J.e4 args)
theorem Qd{L:List (Nat×List J×J)}(h:j5 (ae C) (iB L)):j5 (ae C) (Ai L):=by
 intro k args v hm H Q a;have:qV (pw k L) (J.e4 args)=some v:=by
  unfold Ai at hm;split at hm
  ·cases hm
  ·exact hm
 rw[Fa]at this;exact ae.Qc (h k _ v this H Q a)
theorem Qe(aj:bX C)(hB:er (ae C) B){k:Nat}{args:List J}{v:J}(a:J.b7 args=true)(hv:v.bI=true)(h:B k args S.mt (λu _=>u.e3.same v)=true)(H:AH)(Q:ab)(b:Q v H):ae C k args H Q:=ae.Ek aj (ae.e3 (Q:=λu _=>u.same v=true) (O5 hB (K:=λu=>u.e3.same v) h)) a H Q λu _ hu=>by rw[J.tB _ _ hu];exact⟨hv,b⟩
def Aj(B:c7)(e:Nat×List J×J):Bool:=and (J.b7 e.2.1) (and e.2.2.bI (B e.1 e.2.1 S.mt (λu _=>u.e3.same e.2.2)))
def qW(B:c7):List (Nat×List J×J)→Bool
 |[]=>true
 |e::r=>and (Aj B e) (qW B r)
theorem Qf(aj:bX C)(hB:er (ae C) B){e:Nat×List J×J}{L:List (Nat×List J×J)}(h:Aj B e=true)(hL:j5 (ae C) (iB L)):j5 (ae C) (iB (e::L)):=by
 obtain⟨c,a0,v0⟩:=e;simp only[Aj,aaz]at h;obtain⟨h1,d,f⟩:=h;intro k args v hm H Q a;unfold iB at hm;dsimp only at hm;cases b:adm c k with
 |false=>rw[b]at hm;exact hL k args v hm H Q a
 | true=>
  rw[b]at hm;obtain rfl:=adz b;cases hs:J.fK a0 args with
  |false=>rw[hs]at hm;exact hL c args v hm H Q a
  | true=>rw[hs]at hm;simp only[cond_true,aaK.injEq]at hm;subst hm;obtain rfl:=J.nq _ _ hs;exact Qe aj hB h1 d f H Q a
theorem Ak{C:Ctx}(aj:bX C){B:c7}(hB:er (ae C) B){L:List (Nat×List J×J)}(hL:j5 (ae C) (iB L)):∀{N:List (Nat×List J×J)},qW B N=true→j5 (ae C) (iB (N++L))
 |[],_=>hL
 | e::N,h=>by simp only[qW,aaz]at h;exact Qf aj hB h.1 (Ak aj hB hL h.2)
end
end Rb

namespace Rb
open Go
end Rb
