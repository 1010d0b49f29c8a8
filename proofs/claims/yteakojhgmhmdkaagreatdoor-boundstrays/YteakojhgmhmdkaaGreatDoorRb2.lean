/- A part of the proof (part 2): see the last text. -/
import Derived.Test.YteakojhgmhmdkaaGreatDoorRb1
import Derived.Orders
import Derived.Carry
import Derived.OpenVars
import Derived.OpenShut
import Derived.ProofKit
import Derived.ChangeOld
import Derived.KernelRfl
set_option linter.unusedVariables false
set_option linter.unusedSimpArgs false
open Array renaming getElem?_eq_some_iff→YL, getElem?_setIfInBounds_ne→aax, range→Y4, replicate→aaD, size_setIfInBounds→aaw
open BitVec renaming ofInt→TH
open Bool renaming and_eq_true→X7, and_self→aa0, eq_false_iff→aaA, eq_iff_iff→aal, false_eq_true→ZV, or_eq_true→X8, rec→abg, true_and→abh, xor→aaQ
open Go renaming sizeOf→X6
open Go.Act renaming put→aat
open Go.Calls renaming mono→aae
open Go.DataW renaming TrodAll→aaL
open Go.Edge renaming on→aas
open Go.Instr renaming alloc→Y5, loadAt→YV, makeSlice→Y9, sureAddr→Yo
open Go.IntKind renaming bits→Ye, i64→Za, signed→Yd, wrap→Zb
open Go.Region renaming binds→aar, ready→aaF, wanted→aau
open Go.Region.Mode renaming any→aaC
open Go.Result renaming andThen_ok→ZN
open Go.Sem renaming run_bind→ZM, run_pure→ZU
open Go.World renaming block_lt_of_cell?→YK, cell?_of_block→YJ
open Int renaming eq_ofNat_of_zero_le→Y_, natCast_nonneg→abc, ofNat_lt→abd, ofNat→aa3
open List renaming all_cons→aaM, all_eq_true→Y0, any_eq_true→aaB, cons_append→ZY, countP_cons→aav, drop_succ_cons→aa2, getD_eq_getElem?_getD→Zm, getElem?_append_left→ZE, getElem?_append_right→ZF, getElem?_drop→X4, getElem?_eq_getElem→YU, getElem?_eq_none→aah, getElem?_eq_some_iff→X1, getElem?_map→YT, getElem?_replicate→aaJ, getElem?_set_ne→YX, getElem?_set_self→YW, getElem?_set→Ys, getElem?_take→X3, length_map→aaz, lookup_cons→aaK, mapM_cons→aaI, map_cons→Zp, map_map→aaU, mem_cons_of_mem→aao, mem_cons_self→aap, mem_cons→aan, mem_filter→aay, mem_map→aaE, mem_of_getElem?→aaN, mem_range→aak, range→YS, rec→aaS, replicate→XY, set_eq_of_length_le→aaG
open Nat renaming add→aa4, beq→aaO, ble→aaY, blt→aaT, div→aa7, eq_of_beq_eq_true→aa1, land→aa9, le_of_ble_eq_true→aaZ, le_of_not_lt→aaj, le_refl→sl, lor→aa_, lt_of_le_of_lt→abb, lt_succ_self→aaP, lt_trichotomy→aaH, mod→aa8, mul→aa6, not_lt_zero→aaV, rec→aaX, sub_zero→aaW, sub→aa5, succ→abe, xor→aba, zero_add→YO
open Option renaming map_some→Yi, map→aaR, some→Yh
open Prod renaming rec→abf
namespace Rb
open Go
variable{F:cx}{Q:Exit→Act→World→Prop}{x:Nat×Nat}{w0 w':World}{i b cap sz bytes:Nat}{op:dO}{al:List bz}{az:List Nat}{v:I}{G0 G':aG}{P:Program}{cs zero:List I}{ao:bz}{H':Z}
def k5(ops:Array Oper)(x:Option (Nat×Bool))(y:Option (Nat×Bool)):Bool:=
 match x,y with
 |none,none=>true
 |some (j,want),some (s,a)=>want==a&&((ops[j]?).bind (·.dst))==some s
 |_,_=>false
def ij(C:Ctx)(ops:Array Oper):List Oper→List bz→Bool
 |[],[]=>true
 |o::r,a::s=>o.dst==a.dst&&ct C o.op a.op&&k5 ops o.guard a.guard&&ij C ops r s
 |_,_=>false
def gw:List bz→List Nat
 |[]=>[]
 |o::r=>o.dst.toList++(match o.guard with|some (s,_)=>[s]|none=>[])++gw r
def ej:c0→List Nat
 | .region ops=>gw ops
 | .draw ops _ _ _=>gw ops
 | .seq a b=>ej a++ej b
 | .join _ _ a b=>ej a++ej b
 | .cond _ a b=>ej a++ej b
 | .block _ a=>ej a
 | .loop _ _ a=>ej a
 | .freeze t a=>t::ej a
 | .gq _ _ ops b=>gw ops++ej b
 |_=>[]
def tz(ops:Array Oper)(pr:List (List Nat)):Bool:=(YS ops.size).all λi=>match ops[i]? with
 | some o=>
  let es:=(o.after.toList.filter (aar .any)).map aas
  es.all (λj=>decide (j<i))&&(bU pr i).all λj=>es.contains j||es.any λk=>(bU pr k).contains j
 |none=>false
def tA(ks vs:List Nat)(az:List Nat):Bool:=az.all λt=>ks.contains t||vs.contains t
def qU(C:Ctx)(ops:Array Oper):List Oper→c0→Bool
 |l,.region al=>ij C ops l al
 |l,.gq vs ks al b=>ij C ops (l.take al.length) al&&tA ks vs (gw al)&&qU C ops (l.drop al.length) b
 |_,_=>false
def b_(C:Ctx):Code→c0→Bool
 | .skip,.skip=>true
 | .region _ ops false,.region al=>ij C ops ops.toList al
 | .region _ ops true,.draw al pr bf last=>ij C ops ops.toList al&&tz ops pr&&tv al pr bf last&&C.P.follows .mixedOrders
 | .seq a b,.seq x y=>b_ C a x&&b_ C b y
 | .seq a b,.join vs ks x y=>b_ C a x&&b_ C b y&&tA ks vs (ej x)
 | .cond c a b,.cond x p q=>b6 C c x&&b_ C a p&&b_ C b q
 | .block id a,.block d x=>id==d&&b_ C a x
 | .loop a,.loop vs ks x=>b_ C a x&&tA ks vs (ej x)
 | .exit id,.exit d=>id==d
 | .ret,.ret=>true
 | .region _ ops false,.gq vs ks al b=>qU C ops ops.toList (.gq vs ks al b)
 |c,.freeze t x=>b_ C c x
 |_,_=>false
def c_(az:List Nat)(a a':Act):Prop:=a'.tmps.size=a.tmps.size∧∀t,t∉az→a'.tmps[t]?=a.tmps[t]?
theorem c_.refl(az:List Nat)(a:Act):c_ az a a:=⟨rfl,λ_ _=>rfl⟩
theorem c_.trans{a b c:Act}(h:c_ az a b)(k:c_ az b c):c_ az a c:=⟨k.1.trans h.1,λt ht=>(k.2 t ht).trans (h.2 t ht)⟩
theorem c_.mono{az bs:List Nat}{a b:Act}(h:c_ az a b)(hs:∀t,t∈az→t∈bs):c_ bs a b:=⟨h.1,λt ht=>h.2 t λc=>ht (hs t c)⟩
theorem c_.put(a:Act)(d:Option Tmp)(V:Value):c_ d.toList a (a.put d V):=by
 cases d with
 |none=>exact c_.refl _ _
 | some d=>refine⟨by simp[aat],λt ht=>?_⟩;simp only[Option.toList_some,List.mem_singleton]at ht;simp only[aat];rw[Array.getElem?_setIfInBounds,ae (λe=>ht e.symm)]
section
variable{C:Ctx}{w:World}{G:aG}{H:Z}{env:Env}{a:Act}
theorem aH.bO(h:aH C.F w G env a.tmps)(d:Option Tmp){V:Value}(hv:VR C.F w G v V):aH C.F w G (Rb.bO env d v) (a.put d V).tmps:=by
 cases d with
 |none=>exact h
 |some d=>exact h.set d hv
theorem aH.same{Vs:Array Value}(h:aH F w G cs Vs){t:Nat}(hv:cs[t]?=some v):aH F w G (cs.set t v) Vs:=by
 refine⟨by simp[h.1],λj c V hc a=>?_⟩;by_cases b:t=j
 · subst b;rw[YW (X1.1 hv).1]at hc;cases hc;exact h.2 t v V hv a
 · rw[YX b]at hc;exact h.2 j c V hc a
theorem Oper.C6{o:Oper}{n1 n2:Act→World→Prop}(h:o.wp P a w n1 Q)(hn:∀a w,n1 a w→n2 a w):o.wp P a w n2 Q:=by
 unfold Oper.wp at h ⊢;cases b:(execOp a.eval o).run P w with
 | halt g w'=>rw[b]at h;cases g<;>first|exact h|exact h.elim
 | ok x w'=>
  rw[b]at h;cases x with
  |value v=>exact hn _ _ h
  |skip=>exact hn _ _ h
  |defer d=>exact hn _ _ h
  | enter f args=>
   refine aae h λe i he=>?_;cases e with
   |returned v=>exact hn _ _ he
   |panicked c=>exact he
   |outgrown=>exact he
  |row r args=>exact Rows.mono h λv i hv=>hn _ _ hv
  |_=>exact h.elim
theorem put_defers(d:Option Tmp)(V:Value):(a.put d V).defers=a.defers:=by cases d<;>rfl
theorem Mw{ops:Array Oper}{rest:List Oper}{o:Oper}(b:o.guard=none)(h:o.wp P a w (wpList P ops Q rest) Q):wpList P ops Q (o::rest) a w:=by unfold wpList;rw[aa (by simp[aau,b])];exact .inl h
theorem C7(hF:fD C){ds:List Deferred}{ops:Array Oper}{Q:Exit→Act→World→Prop}{K:Env→Z→Prop}{w0:World}{G0:aG}{H0:Z}{a0:Act}{az:List Nat}{rest:List Oper} :
  ∀ (l:List Oper) (al:List bz) (env:Env) (H:Z) (G:aG) (w:World) (a:Act),ij C ops l al=true→ib (ai C) al env H K→cq C w G H→Rel C.F w G H→aH C.F w G env a.tmps→a.defers=ds →
   Step w0 G0 H0 w G H→c_ az a0 a→(∀t,t∈gw al→t∈az) →
   (∀ax H' G' a' w',K ax H'→cq C w' G' H'→Rel C.F w' G' H'→aH C.F w' G' ax a'.tmps→a'.defers=ds→Step w0 G0 H0 w' G' H'→c_ az a0 a'→wpList C.P ops Q rest a' w') →
   wpList C.P ops Q (l++rest) a w:=by
 intro l;induction l with
 | nil=>
  intro al env H G w a k h hG m he n p hk _ hQ;cases al with
  |nil=>exact hQ env H G a w h hG m he n p hk
  |cons _ _=>simp[ij]at k
 | cons o l y=>
  intro al env H G w a k h hG m he n p hk I hQ;cases al with
  |nil=>simp[ij]at k
  | cons ao al=>
   simp only[ij,X7,bG]at k;obtain⟨⟨⟨r,N⟩,e⟩,z⟩:=k;have A:∀t,t∈gw al→t∈az:=λt ht=>I t (by simp[gw,ht]);have B:∀t,t∈o.dst.toList→t∈az:=λt ht=>I t (by rw[r]at ht;simp[gw];left;simpa using ht);have step:∀(u:Env)(a1:Act),a1=a→aH C.F w G u a.tmps→bX (ai C) u H (λv H'=>ib (ai C) al (bO u ao.dst v) H' K) ao.op→o.wp C.P a w (wpList C.P ops Q (l++rest)) Q:=by intro u a1 _ J O;refine Oper.C6 (CV hF N hG m J O) λa' w' R=>?_;obtain⟨v,H',G',V,rfl,L,hv,q,hs⟩:=R;rw[←r]at L;exact y al _ H' G' w' _ z L (hG.step hs) q ((J.mono hs.toGLe).bO o.dst hv) (by rw[put_defers];exact n) (p.trans hs) (hk.trans ((c_.put a o.dst V).mono B)) A hQ
   cases i:o.guard with
   | none=>
    rw[i]at e;have f:ao.guard=none:=by
     cases f:ao.guard with
     |none=>rfl
     |some _=>rw[f]at e;simp[k5]at e
    simp only[ib,f]at h;exact Mw i (step env a rfl he h)
   | some g=>
    obtain⟨j,want⟩:=g;rw[i]at e;cases f:ao.guard with
    |none=>rw[f]at e;simp[k5]at e
    | some g'=>
     obtain⟨s,T⟩:=g';rw[f]at e;simp only[k5,X7,bG]at e;obtain⟨rfl,hs⟩:=e;simp only[ib,f]at h;have get:∀c,env.getD s .bot=c→c ≠ .bot→env[s]?=some c:=by
      intro c d hc;rw[Zm]at d;cases M:env[s]? with
      |none=>rw[M]at d;exact absurd d.symm hc
      |some c=>rw[M]at d;simp at d;rw[d]
     unfold aL at h;split at h
     · rename_i b d;have hb:=get _ d (by simp);obtain⟨V,D,q⟩:=he.get hb;obtain rfl:=q.iK;have x:yielded ops a.tmps j=some b:=by simp[yielded,hs,D]
       by_cases E:b=want
       · subst E;rw[aa rfl]at h;rw[ZY];unfold wpList;rw[aa (by simp[aau,i,x])];exact .inl (step _ a rfl (he.same hb) h)
       · rw[ae E]at h;have S:b=!want:=by cases b<;>cases want<;>simp at E ⊢
         subst S;rw[ZY];unfold wpList;rw[ae (by simp[aau,i,x])];rw[←r]at h;exact y al _ H G w _ z h hG m ((he.same hb).bO o.dst oW) (by rw[put_defers];exact n) p (hk.trans ((c_.put a o.dst undef).mono B)) A hQ
     · rename_i d;have hb:=get _ d (by simp);obtain⟨V,D,q⟩:=he.get hb;obtain rfl:=q.Cu;have x:yielded ops a.tmps j=none:=by simp[yielded,hs,D]
       rw[ZY];unfold wpList;rw[ae (by simp[aau,i,x])];rw[←r]at h;exact y al _ H G w _ z h hG m ((he.same hb).bO o.dst oW) (by rw[put_defers];exact n) p (hk.trans ((c_.put a o.dst undef).mono B)) A hQ
     ·exact h.elim
theorem tB(hF:fD C){ds:List Deferred}{ops:Array Oper}{Q:Exit→Act→World→Prop}{K:Env→Z→Prop}{w0:World}{G0:aG}{H0:Z}{a0:Act}{az:List Nat}
  (l:List Oper) (al:List bz) (env:Env) (H:Z) (G:aG) (w:World) (a:Act) (b:ij C ops l al=true) (h:ib (ai C) al env H K) (hG:cq C w G H) (c:Rel C.F w G H) (he:aH C.F w G env a.tmps) (d:a.defers=ds)
   (e:Step w0 G0 H0 w G H) (hk:c_ az a0 a) (f:∀t,t∈gw al→t∈az)
   (hQ:∀ax H' G' a' w',K ax H'→cq C w' G' H'→Rel C.F w' G' H'→aH C.F w' G' ax a'.tmps→a'.defers=ds→Step w0 G0 H0 w' G' H'→c_ az a0 a'→Q .normal a' w') :
   wpList C.P ops Q l a w:=by
 have:=C7 (rest:=[]) hF l al env H G w a b h hG c he d e hk f hQ;rwa [List.append_nil]at this
theorem My{ops:Array Oper}:∀{l:List Oper}{al:List bz},ij C ops l al=true→l.length=al.length∧∀(i:Nat)(o:Oper),l[i]?=some o→∃ao,al[i]?=some ao∧o.dst=ao.dst∧ct C o.op ao.op=true∧k5 ops o.guard ao.guard=true:=by
 intro l;induction l with
 |nil=>intro al h;cases al<;>simp[ij]at h ⊢
 | cons o l b=>
  intro al h;cases al with
  |nil=>simp[ij]at h
  | cons ao al=>
   simp only[ij,X7,bG]at h;obtain⟨⟨⟨c,d⟩,e⟩,f⟩:=h;obtain⟨h1,g⟩:=b f;refine⟨by simp[h1],λi j a=>?_⟩;cases i with
   |zero=>simp at a;subst a;exact⟨ao,rfl,c,d,e⟩
   |succ i=>exact g i j (by simpa using a)
theorem C8:∀{al:List bz}{i:Nat},al[i]?=some ao→∀t,ao.dst=some t→t∈gw al:=by
 intro al;induction al with
 |nil=>intro i h;simp at h
 | cons x al a=>
  intro i h t ht;cases i with
  |zero=>simp at h;subst h;simp[gw,ht]
  |succ i=>simp only[gw,List.mem_append];exact .inr (a (by simpa using h) t ht)
theorem Mz(hF:fD C){ops:Array Oper}{Q:Exit→Act→World→Prop}{N:Act→World→Prop}{p:ad}{o:Oper}(x:ops[i]?=some o)(r:o.dst=ao.dst)(y:ct C o.op ao.op=true)
  (d:k5 ops o.guard ao.guard=true) (h:iM (ai C) ao env H p) (hG:cq C w G H) (t:Rel C.F w G H) (he:aH C.F w G env a.tmps)
  (hN:∀v V H' G' w',p v H'→cq C w' G' H'→VR C.F w' G' v V→Rel C.F w' G' H'→Step w G H w' G' H'→N (a.put ao.dst V) w'):wpOp C.P ops Q i N a w:=by
 unfold wpOp;rw[x];dsimp only;have step:bX (ai C) env H p ao.op→o.wp C.P a w N Q:=by intro z;refine Oper.C6 (CV hF y hG t he z) λa' w' A=>?_;obtain⟨v,H',G',V,rfl,B,hv,f,hs⟩:=A;rw[r];exact hN v V H' G' w' B (hG.step hs) hv f hs
 unfold iM at h;cases l:o.guard with
 | none=>
  rw[l]at d;have k:ao.guard=none:=by
   cases k:ao.guard with
   |none=>rfl
   |some _=>rw[k]at d;simp[k5]at d
  rw[k]at h;rw[aa (by simp[aau,l])];exact .inl (step h)
 | some g=>
  obtain⟨j,want⟩:=g;rw[l]at d;cases k:ao.guard with
  |none=>rw[k]at d;simp[k5]at d
  | some g'=>
   obtain⟨s,D⟩:=g';rw[k]at d;simp only[k5,X7,bG]at d;obtain⟨rfl,hs⟩:=d;rw[k]at h;dsimp only at h;obtain⟨b,e,h⟩:=h;have get:∀c,env.getD s .bot=c→c ≠ .bot→env[s]?=some c:=by
    intro c e hc;rw[Zm]at e;cases u:env[s]? with
    |none=>rw[u]at e;exact absurd e.symm hc
    |some c=>rw[u]at e;simp at e;rw[e]
   cases b with
   | true=>
    have hb:=get _ (I.x3 e) (by simp);obtain⟨V,m,f⟩:=he.get hb;obtain rfl:=f.iK;have n:yielded ops a.tmps j=some want:=by simp[yielded,hs,m]
    rw[aa rfl]at h;rw[aa (by simp[aau,l,n])];exact .inl (step h)
   | false=>
    rw[lS]at h;have hw:aau o (yielded ops a.tmps)=false:=by
     rcases I.Co e with q|q
     · have hb:=get _ q (by simp);obtain⟨V,m,f⟩:=he.get hb;obtain rfl:=f.iK;have n:yielded ops a.tmps j=some (!want):=by simp[yielded,hs,m]
       simp[aau,l,n]
     · have hb:=get _ q (by simp);obtain⟨V,m,f⟩:=he.get hb;obtain rfl:=f.Cu;have n:yielded ops a.tmps j=none:=by simp[yielded,hs,m]
       simp[aau,l,n]
    rw[ae (by simp[hw]),r];exact hN _ _ H G w h hG oW t (Step.refl _ _ _)
theorem MA{p a:Nat→Bool}:∀{l:List Nat},(∀x,a x=true→p x=true)→(∃x∈l,p x=true∧a x=false)→l.countP a<l.countP p:=by
 have le:∀{l:List Nat},(∀x,a x=true→p x=true)→l.countP a≤l.countP p:=λ{l} h=>List.countP_mono_left λx _=>h x;intro l;induction l with
 |nil=>rintro _ ⟨x,b,_⟩;cases b
 | cons y l e=>
  intro h ⟨x,b,h1,d⟩;rw[aav,aav];rcases aan.1 b with rfl|b
  · rw[h1,d];have:=le (l:=l) h;simp;omega
  · have:=e h ⟨x,b,h1,d⟩;by_cases c:a y=true
    ·rw[c,h y c];omega
    · simp at c;rw[c];simp;omega
theorem Step.drawn{w:World}{G:aG}{H:Z}{n:Nat}(hn:w.drawn≤n)(h:Rel F w G H):Rel F {w with drawn:=n} G H∧Step w G H {w with drawn:=n} G H:=by
 have a:GLe w G {w with drawn:=n} G:=⟨sl _,λ_ _=>rfl,λ_ _=>rfl,λ_ _ h=>h,λ_ _ _ _ h=>h⟩
 exact ⟨⟨h.n,h.over,λj=>(h.obj j).aI a (λhl=>h.gu hl) (λ_=>rfl) λhl k hf=>hf,h.eW,h.eb⟩,
   {a with size:=sl _,os:=rfl,tape:=rfl,output:=rfl,dr:=hn,c8:=λ_ _ _=>rfl,owned:=λi hi _=>⟨i,hi,rfl⟩,ey:=λ_ _ h=> .inl h}⟩
def ez(al:List bz)(Pd:List Nat)(env:Env):Env:=(YS env.length).map λj=>if Pd.any (λp=>c4 al p==some j)then .bot else env.getD j .bot
theorem jX(al:List bz)(Pd:List Nat)(env:Env)(t:Nat):(ez al Pd env).getD t .bot=if Pd.any (λp=>c4 al p==some t)then .bot else env.getD t .bot:=by
 unfold ez;by_cases ht:t<env.length
 ·simp[Zm,ht]
 · have h1:env.getD t .bot = .bot:=by simp[Zm,aah (aaj ht)]
   rw[h1];simp[Zm,ht]
def qV:dO→Nat×Nat→bL
 | .alloc _ zero,_=> .row zero
 | .make _ _ _ zero _ _,x=> .row (XY x.2 zero).flatten
 |_,_=> .map []
def qW:dO→Nat×Nat→Nat→I
 | .alloc _ _,_,i=> .ptr i 0
 | .make _ sz _ _ _ _,x,i=> .row i 0 x.1 sz
 |_,_,i=> .map i
def ny:dO→Nat×Nat→Nat→Value
 | .alloc _ _,_,b=> .pointer (some ⟨b,0,none⟩)
 | .make _ _ _ _ _ _,x,b=> .slice (some ⟨b,0,none⟩) x.1 x.2
 |_,_,b=> .map (some b)
def mG(F:cx)(w:World)(G:aG):dO→Nat×Nat→Nat→Nat→Prop
 | .alloc _ zero,_,b,cap=>∃(a:Array Value) (e:TypeId),w.heap[b]?=some (.cells a e (0,0))∧a.size=cap∧aH F w G zero a
 | .make _ sz _ zero _ _,x,b,cap=>(∃(a:Array Value) (e:TypeId),w.heap[b]?=some (.cells a e (0,0))∧a.size=cap∧aH F w G (XY x.2 zero).flatten a)∧x.1≤x.2∧x.2*sz=cap
 |_,_,b,_=>∃clock:Nat,w.heap[b]?=some (.map #[] clock)
theorem C9(a:k4 op)(h:mG F w G op x b cap):b<w.heap.size:=by
 rcases a with⟨zero,rfl⟩|rfl|⟨_,_,_,_,_,rfl⟩
 ·obtain⟨_,_,h,_⟩:=h;exact(YL.1 h).1
 ·obtain⟨_,h⟩:=h;exact(YL.1 h).1
 ·obtain⟨⟨_,_,h,_⟩,_⟩:=h;exact(YL.1 h).1
theorem C_(i:k4 op)(h:mG F w G op x b cap)(g:GLe w G w' G')(hb:w'.heap[b]?=w.heap[b]?):mG F w' G' op x b cap:=by
 rcases i with⟨zero,rfl⟩|rfl|⟨_,_,_,_,_,rfl⟩
 ·obtain⟨a,e,h1,d,f⟩:=h;exact⟨a,e,hb.trans h1,d,f.mono g⟩
 ·obtain⟨c,h⟩:=h;exact⟨c,hb.trans h⟩
 ·obtain⟨⟨a,e,h1,d,f⟩,j⟩:=h;exact⟨⟨a,e,hb.trans h1,d,f.mono g⟩,j⟩
theorem MB(o:k4 op)(h:mG F w G op x b cap)(n:GLe w G w G')(hl:G'.loc i=b)(hc:G'.cap i=cap)(hf:∀j,¬G'.fz b j):eV F w G' i (qV op x):=by
 rcases o with⟨zero,rfl⟩|rfl|⟨_,_,_,_,_,rfl⟩
 · obtain ⟨d,e,h1,f,g⟩:=h;exact ⟨d,e,by rw[hl];exact h1,by rw[hc];exact f,λj=>by rw[hl];exact hf j,λj c a=>by obtain⟨V,l,m⟩:=g.get a;exact⟨V,l,m.mono n⟩⟩
 · obtain⟨c,h⟩:=h;exact⟨#[],c,by rw[hl];exact h,rfl,λj=>by rw[hl];exact hf j,λj k v a=>by simp at a⟩
 · obtain ⟨⟨d,e,h1,f,g⟩,_⟩:=h;exact ⟨d,e,by rw[hl];exact h1,by rw[hc];exact f,λj=>by rw[hl];exact hf j,λj c a=>by obtain⟨V,l,m⟩:=g.get a;exact⟨V,l,m.mono n⟩⟩
theorem MC(a:k4 op)(h:mG F w0 G0 op x b cap)(hi:i<G.n)(hl:G.loc i=b)(hc:G.cap i=cap):VR F w G (qW op x i) (ny op x b):=by
 subst hl hc;rcases a with⟨zero,rfl⟩|rfl|⟨_,_,_,_,_,rfl⟩
 ·exact .ptr i 0 hi
 ·exact .map i hi
 · obtain⟨_,h1,c⟩:=h;exact .row _ _ _ _ _ hi h1 (by rw[YO];exact c)
theorem MD{Φ:aj}{env:Env}{K:ad}(b:k4 op)(ha:jf env op=some x)(h:bX Φ env H K op):K (qW op x H.n) (H.push (qV op x)):=by
 rcases b with⟨zero,rfl⟩|rfl|⟨_,_,_,_,_,rfl⟩
 · simp only[bX,au,aJ,aY,Yh.injEq,Prod.mk.injEq]at h;obtain⟨v,H',⟨rfl,rfl⟩,h⟩:=h;exact h
 ·exact h
 · obtain⟨y,a,h⟩:=C3 h;rw[ha]at a;cases a;exact h
theorem ME{F:cx}{t e:TypeId}{a:TypeInfo}{z:Value}(ht:P.underlying t=some (.slice e))(hi:P.info? e=some a)(hs:a.size=sz)(hb:a.bytes=bytes)(hz:a.zero=some z)
  {n' c':Nat} (j:n'≤c') (k:(bytes:Int)*(c':Int)≤281474976710656) (l:(c':Int)≤9223372036854775807) (h:zero.length=sz) :
  (Y9 t (.int .i64 n') (.int .i64 c')).run P w = .ok (.slice (some ⟨w.heap.size,0,none⟩) n' c') (w.alloc (.cells ((Y4 (c'*zero.length)).map λi=>z.cells[i%z.cells.size]!) e)):=by
 have w1:Za.wrap (n':Int)=n':=by simp[Zb,Ye,Yd];omega
 have w2:Za.wrap (c':Int)=c':=by simp[Zb,Ye,Yd];omega
 have b:¬(281474976710656<(a.bytes:Int)*(c':Int)):=by rw[hb];omega
 have c:¬((n':Int)<0):=by omega
 have d:¬((c':Int)<0):=by omega
 have f:¬(c'<n'):=by omega
 rw[h];subst hs;by_cases g:c'*a.size=0
 ·simp[Y9,run_underlying ht,asInt,asIntOf,typeInfo,X6,hi,w1,w2,b,c,d,f,g,range_zero,newRow]
 ·simp[Y9,run_underlying ht,asInt,asIntOf,typeInfo,X6,zeroValue,hi,hz,w1,w2,b,c,d,f,g,newRow]
theorem MF{o:Oper}{l c:aW}(hG:jb C w G)(h:aH C.F w G env a.tmps)(d:ct C o.op (.make true sz bytes zero l c)=true)(b:jf env (.make true sz bytes zero l c)=some x) :
  ∃(j:Obj) (cap:Nat),(execOp a.eval o).run C.P w = .ok (.value (ny (.make true sz bytes zero l c) x w.heap.size)) (w.alloc j)∧∀(w2:World)(f:aG),GLe w G w2 f→w2.heap[w.heap.size]?=some j→mG C.F w2 f (.make true sz bytes zero l c) x w.heap.size cap:=by
 simp only[ct]at d;split at d
 · rename_i t ol L s;simp only[X7]at d;obtain⟨⟨h1,u⟩,g⟩:=d;split at g
   · rename_i e v;obtain⟨inf,z,y,hs,hb,hz,M,A⟩:=yp (F:=C.F) g;have B:=k0 (C:=C) (w:=w) (G:=G) A;have D:aH C.F w G zero z.cells:=by simpa using B
     have k:=b9 hG h h1;have p:=b9 hG h u;simp only[jf]at b;split at b
     · rename_i n m e1 E;split at b
       · rename_i hc;obtain⟨q,k1,k2,H,r⟩:=hc;cases b;rw[e1]at k;rw[E]at p;have dy:=k.e7;have I:=p.e7;obtain⟨n',rfl⟩:=Y_ q;obtain⟨c',rfl⟩:=Y_ (Int.le_trans q k1);have J:=ME (P:=C.P) (w:=w) (F:=C.F) (lU v) y hs hb hz (n':=n') (c':=c') (by omega) k2 H r;refine⟨.cells ((Y4 (c'*zero.length)).map λi=>z.cells[i%z.cells.size]!) e,c'*sz,?_,λw2 f K hb=>⟨⟨_,_,hb,?_,?_⟩,by simp;omega,by simp⟩⟩
         · simp only[execOp,s,dy,I];simp[J,ny]
         ·simp[r]
         · simp only[Int.toNat_natCast];exact(oO D c').mono K
       ·cases b
     ·cases b
   ·cases g
 ·cases d
def tC(C:Ctx)(al:List bz)(w0 w:World)(G:aG)(H:Z)(a:Act)(i b:Nat)(x:Nat×Nat):Prop:=
 ∃ (t:Nat) (op:dO) (cap:Nat),al[i]?=some ⟨some t,op,none⟩∧k4 op∧(t<a.tmps.size→a.tmps[t]?=some (ny op x b))∧mG C.F w G op x b cap ∧
  w0.heap.size≤b∧(∀k,(H.o k).live=true→G.loc k≠b)∧∀j,¬G.fz b j
theorem tC.step(h:tC C al w0 w G H a i b x)(hs:Step w G H w' G' H')(d:Option Tmp)(V:Value)(n:∀t,c4 al i=some t→d≠some t):tC C al w0 w' G' H' (a.put d V) i b x:=by
 obtain⟨t,op,cap,h1,c,l,m,o,f,p⟩:=h;have hb:b<w.heap.size:=C9 c m;refine⟨t,op,cap,h1,c,λht=>?_,C_ c m hs.toGLe (hs.c8 b hb f),o,λk hk e=>?_,λj hf=>?_⟩
 · cases g:d with
   |none=>rw[g]at ht;exact l ht
   | some q=>rw[g]at ht;have r:q≠t:=λe=>n t (by simp[c4,h1]) (by rw[g,e]);simp only[aat]at ht ⊢;rw[aaw]at ht;rw[aax r];exact l ht
 · obtain⟨j,s,u⟩:=hs.owned k hk (by rw[e];exact hb);exact f j s (u.trans e)
 · rcases hs.ey b j hf with hf|v|⟨k,hk,e⟩
   ·exact p j hf
   ·omega
   ·exact f k hk e
structure Way(C:Ctx)(al:List bz)(pr:List (List Nat))(last:List Nat)(K:Env→Z→Prop)(w0:World)(G0:aG)(H0:Z)(a0:Act)
  (bf:List (List Nat×Nat×List Nat)) (S:Nat→Bool) (Pd:List Nat) (bl:Nat→Nat) (ag:Nat→Nat×Nat) (env:Env) (H:Z) (G:aG) (a:Act) (w:World):Prop where
 inv:Inv (ai C) al pr last K bf S env H
 sep:∀p∈Pd,S p=false∧fG al pr p=true∧∀k∈bU pr p,S k=true∨k∈Pd
 qX:∀p∈Pd,tC C al w0 w G H a p (bl p) (ag p)
 args:∀p∈Pd,∀t op,al[p]?=some ⟨some t,op,none⟩→jf env op=some (ag p)
 inj:∀p∈Pd,∀q∈Pd,bl p=bl q→p=q
 nz:cq C w G H
 rel:Rel C.F w G H
 o6:aH C.F w G (ez al Pd env) a.tmps
 defers:a.defers=[]
 step:Step w0 G0 H0 w G H
 aI:c_ (gw al) a0 a
theorem Da{pr:List (List Nat)}(j:Good al pr){q i t':Nat}{a:dO}{o:bz}{v:I}(b:al[q]?=some ⟨some t',a,none⟩)(c:fG al pr q=true)(k:al[i]?=some o)
  (hi:i∉bU pr q∨fG al pr i=true) (l:i≠q) (m:q∉bU pr i):jf (bO env o.dst v) a=jf env a:=by
 apply tx;intro s hs;cases n:o.dst with
 |none=>rfl
 | some d =>
  simp only[bO];by_cases e:d=s
  · subst e;exfalso;have p:c4 al i=some d:=by simp[c4,k,n]
    rcases j.reads q _ d i b (by simp[gV,hs]) p with h|⟨_,h⟩
    · rcases hi with hi|hi
      ·exact hi h
      · obtain ⟨t2,x,r,t⟩:=mD hi;obtain⟨t3,y,f,u⟩:=mD c;rw[b]at f;cases f;rcases u with⟨zero,rfl⟩|rfl|⟨_,_,_,_,_,rfl⟩
        ·simp[bS]at hs
        ·simp[bS]at hs
        · obtain⟨z,g,w⟩:=CZ c b i h;rw[r]at g;cases g;exact o3 t w
    · rcases h with h|h
      ·exact l h
      ·exact m h
  ·rw[Zm,YX e,Zm]
theorem Way.settle{pr:List (List Nat)}{A:List Nat}{K:Env→Z→Prop}{w0:World}{G0:aG}{H0:Z}{a0:Act}(B:Good al pr){bl:Nat→Nat}{ag:Nat→Nat×Nat} :
  ∀ (n:Nat) (bf:List (List Nat×Nat×List Nat)) (S:Nat→Bool) (Pd:List Nat) (env:Env) (H:Z) (G:aG),bf.length=n→Way C al pr A K w0 G0 H0 a0 bf S Pd bl ag env H G a w →
   ∃x S' r ax H' G',Way C al pr A K w0 G0 H0 a0 x S' r bl ag ax H' G' a w∧(∀k,(S' k=true∨k∈r)↔(S k=true∨k∈Pd))∧∀p∈r,hM x≠some p:=by
 intro n;induction n with
 | zero=>intro bf S Pd env H G hn hw;have:bf=[]:=List.length_eq_zero_iff.1 hn;subst this;exact⟨[],S,Pd,env,H,G,hw,λk=>Iff.rfl,λp hp h=>by cases h⟩
 | succ n ac =>
  intro bf S Pd env H G hn hw;by_cases N:∃p∈Pd,hM bf=some p
  · obtain ⟨p, hp,D⟩:=N;obtain⟨ad,af,ah⟩:=hw.sep p hp;obtain⟨_,aF,ai⟩:=yv hw.inv D;have O:∀k∈bU pr p,S k=true:=by
     intro k hk;rcases ah k hk with h|h
     ·exact h
     ·exact ai k hk (hw.sep k h).2.1
    obtain⟨t,op,cap,h1,E,aj,P,aH,ak,Q⟩:=hw.qX p hp;have F:=C5 (tr C) B hw.inv h1 ad O (.inr D);rw[aa D]at F;simp only[jy]at F;have hinv:=MD E (hw.args p hp t op h1) F;have y:=hw.rel.n;obtain⟨l,am⟩:=hw.rel.oL (b:=bl p) (c:=cap) ak (qV op (ag p)) (λl=>MB E P l (aa y.symm) (aa y.symm) Q);have R:∀i,i≠H.n→(G.more (bl p) cap).loc i=G.loc i:=λi hi=>ae (show ¬i=G.n by omega);have I:(G.more (bl p) cap).loc H.n=bl p:=aa y.symm;have T:∀i,i≠H.n→(H.push (qV op (ag p))).o i=H.o i:=λi hi=>ae hi;have U:c4 al p=some t:=by simp[c4,h1]
    have hlen:(ez al Pd env).length=env.length:=by simp[ez]
    have an : Way C al pr A K w0 G0 H0 a0 bf.tail (λk=>k==p||S k) (Pd.filter (λq=>!(q==p))) bl ag (bO env (some t) (qW op (ag p) H.n)) (H.push (qV op (ag p))) (G.more (bl p) cap) a w:=by
     refine⟨hinv,λq d=>?_,λq d=>?_,λq d t' J W=>?_,λq d ao ap h=>?_,hw.nz.oL l hw.rel.n Q,am,?_,hw.defers,?_,hw.aI⟩
     · obtain ⟨d,s⟩:=aay.1 d;have u:q≠p:=by simpa using s
       obtain⟨g1,g2,g3⟩:=hw.sep q d;refine⟨by simp[u,g1],g2,λk hk=>?_⟩;rcases g3 k hk with h|h
       ·left;simp[h]
       · by_cases v:k=p
         ·left;simp[v]
         ·right;exact aay.2 ⟨h,by simp[v]⟩
     · obtain ⟨d,s⟩:=aay.1 d;have u:q≠p:=by simpa using s
       obtain⟨t',J,aq,k1,X,k2,ar,au,av,aw⟩:=hw.qX q d;refine⟨t',J,aq,k1,X,k2,C_ X ar l rfl,au,λk hk e=>?_,λj hf=>aw j hf⟩;by_cases f:k=H.n
       · subst f;rw[I]at e;exact u (hw.inj q d p hp e.symm)
       · rw[R k f]at e;rw[T k f]at hk;exact av k hk e
     · obtain ⟨d,s⟩:=aay.1 d;have u:q≠p:=by simpa using s
       rw[←hw.args q d t' J W];exact Da B W (hw.sep q d).2.1 h1 (.inr af) (λe=>u e.symm) λh=>by have:=O q h;rw[(hw.sep q d).1]at this;cases this
     ·exact hw.inj q (aay.1 d).1 ao (aay.1 ap).1 h
     · have hv :=hw.o6.mono l;refine⟨by simp only[ez,bO,aaz,List.length_range,List.length_set];rw[←hv.1,hlen],λj c V hc z=>?_⟩;have Y:j<env.length:=by
        have:=(X1.1 hc).1;simpa[ez,bO]using this
       have m:c=(ez al (Pd.filter (λq=>!(q==p))) (bO env (some t) (qW op (ag p) H.n))).getD j .bot:=by rw[Zm,hc];rfl
       rw[jX]at m;by_cases L:j=t
       · subst L;have ay:(Pd.filter (λq=>!(q==p))).any (λq=>c4 al q==some j)=false:=by
          rw[aaA];intro ab;rw[aaB]at ab;obtain⟨q,d,g⟩:=ab;have az:c4 al q=some j:=by simpa using g
          have:=B.uniq q p j az U;subst this;simp at d
         rw[ay]at m;simp only[ZV,bR,bO,Zm,YW Y,Option.getD_some]at m;subst m;have aA:j<a.tmps.size:=(YL.1 z).1;rw[aj aA]at z;cases z;exact MC E P (show H.n<G.n+1 by omega) I (aa y.symm)
       · have hold:(ez al Pd env).getD j .bot=if(Pd.filter (λq=>!(q==p))).any (λq=>c4 al q==some j)then .bot else env.getD j .bot:=by
           rw[jX];have : Pd.any (λq=>c4 al q==some j)=(Pd.filter (λq=>!(q==p))).any (λq=>c4 al q==some j):=by
            rw[aal,aaB,aaB];constructor
            · rintro⟨q,d,g⟩;refine⟨q,aay.2 ⟨d,?_⟩,g⟩;have:q≠p:=by
               rintro rfl;rw[U]at g;exact L (by simpa using g:t=j).symm
              simp[this]
            · rintro⟨q,d,g⟩;exact⟨q,(aay.1 d).1,g⟩
           rw[this]
         have aB:(bO env (some t) (qW op (ag p) H.n)).getD j .bot=env.getD j .bot:=by simp only[bO];rw[Zm,YX (λe=>L e.symm),Zm]
         rw[aB,←hold]at m;have aC:j<(ez al Pd env).length:=by rw[hlen];exact Y
         refine hv.2 j c V ?_ z;rw[m,Zm,YU aC];rfl
     · have hs:=hw.step;refine {hs.toGLe.trans l with size:=hs.size,os:=hs.os,tape:=hs.tape,output:=hs.output,dr:=hs.dr,c8:=hs.c8,owned:=λk hk M=>?_,ey:=λb o hf=>hs.ey b o hf};by_cases f:k=H.n
       · subst f;rw[I]at M;omega
       · rw[R k f]at M ⊢;rw[T k f]at hk;exact hs.owned k hk M
    obtain⟨x,S',r,ax,H',G',r1,aD,aE⟩:=ac bf.tail _ _ _ _ _ (by simp[hn]) an;refine⟨x,S',r,ax,H',G',r1,λk=>(aD k).trans ?_,aE⟩;simp only[X8,bG,aay,Bool.not_eq_true',beq_eq_false_iff_ne];constructor
    · rintro((rfl|h)|⟨h,_⟩)
      ·exact .inr hp
      ·exact .inl h
      ·exact .inr h
    · rintro (h|h)
      ·exact .inl (.inr h)
      · by_cases v:k=p
        ·exact .inl (.inl v)
        ·exact .inr ⟨h,v⟩
  ·exact⟨bf,S,Pd,env,H,G,hw,λk=>Iff.rfl,λp hp h=>N ⟨p,hp,h⟩⟩
theorem Db(hF:fD C){ops:Array Oper}{Q:Exit→Act→World→Prop}{K:Env→Z→Prop}{al:List bz}{pr:List (List Nat)}{bf:List (List Nat×Nat×List Nat)}{an:List Nat}
  (bi:ij C ops ops.toList al=true) (aA:tz ops pr=true) (aZ:tv al pr bf an=true) (hm:C.P.follows .mixedOrders=true)
  (h:ja (ai C) al an bf env H K) (hG:cq C w G H) (bj:Rel C.F w G H) (he:aH C.F w G env a.tmps) (bk:a.defers=[])
  (hQ:∀ax H' G' a' w',K ax H'→cq C w' G' H'→Rel C.F w' G' H'→aH C.F w' G' ax a'.tmps→a'.defers=[]→Step w G H w' G' H'→c_ (gw al) a a'→Q .normal a' w') :
  wpAny C.P aaC ops Q ops.size (aaD ops.size false) a {w with drawn:=w.drawn+1}:=by
 obtain⟨hlen,bm⟩:=My bi;have b2:ops.size=al.length:=by simpa using hlen
 simp only[tv,X7]at aZ;obtain⟨⟨ha,hb⟩,hc⟩:=aZ;have g:=Mq ha;have a0:∀(i:Nat)(o:Oper),ops[i]?=some o→(∀e∈o.after,aar .any e=true→e.on<i)∧∀j∈bU pr i,∃e∈o.after,aar .any e=true∧(e.on=j∨j∈bU pr e.on):=by
  intro i o y;have hi:i<ops.size:=(YL.1 y).1;unfold tz at aA;rw[Y0]at aA;have:=aA i (aak.2 hi);rw[y]at this;simp only[X7]at this;obtain⟨h1,n⟩:=this;rw[Y0]at h1 n;refine⟨λe A hb=>?_,λj ap=>?_⟩
  · have:=h1 e.on (aaE.2 ⟨e,aay.2 ⟨by simpa using A,hb⟩,rfl⟩);simpa using this
  · have:=n j ap;rw[X8,aaB]at this;rcases this with h|⟨k,hk,h⟩
    · have aq:j∈(o.after.toList.filter (aar .any)).map aas:=by simpa[List.contains_iff_mem]using h
      obtain⟨e,A,rfl⟩:=aaE.1 aq;obtain⟨A,O⟩:=aay.1 A;exact⟨e,by simpa using A,O,.inl rfl⟩
    · obtain⟨e,A,rfl⟩:=aaE.1 hk;obtain⟨A,O⟩:=aay.1 A;exact⟨e,by simpa using A,O,.inr (by simpa using h)⟩
 have main : ∀ (fuel:Nat) (listed:Array Bool) (bf:List (List Nat×Nat×List Nat)) (S:Nat→Bool) (Pd:List Nat) (bl:Nat→Nat) (ag:Nat→Nat×Nat) (ax:Env) (H':Z) (G':aG) (a':Act) (w':World),
   Way C al pr an K w G H a bf S Pd bl ag ax H' G' a' w'→(∀k,listed.getD k false=true↔S k=true∨k∈Pd)→listed.size=ops.size →
   (YS ops.size).countP (λk=>!listed.getD k false)≤fuel→wpAny C.P .any ops Q fuel listed a' w':=by
  have done:∀(listed:Array Bool),listed.size=ops.size→aaF .any ops listed=[]→∀i,i<ops.size→listed.getD i false=true:=by
   intro listed ad R i;induction i using Nat.strongRecOn with
   | _ i ar=>
    intro hi;cases b:listed.getD i false with
    |true=>rfl
    | false=>
     exfalso;have aq:i∈aaF .any ops listed:=by
      rw[mem_ready];have af:i<listed.size:=by omega
      refine⟨?_,ops[i],by simp[hi],λe A O=>?_⟩
      ·simpa[af]using b
      · have:=(a0 i ops[i] (by simp[hi])).1 e A O;exact ar e.on this (by omega)
     rw[R]at aq;cases aq
  have fin:∀(listed:Array Bool)(bf:List (List Nat×Nat×List Nat)) (S:Nat→Bool) (Pd:List Nat) (bl:Nat→Nat) (ag:Nat→Nat×Nat) (ax:Env) (H':Z) (G':aG) (a':Act) (w':World),
    Way C al pr an K w G H a bf S Pd bl ag ax H' G' a' w'→(∀k,listed.getD k false=true↔S k=true∨k∈Pd)→(∀i,i<ops.size→listed.getD i false=true)→Q .normal a' w':=by
   intro listed bf S Pd bl ag ax H' G' a' w' hw u T;obtain⟨a1,S',aB,aC,H2,N,r1,au,bn⟩:=hw.settle g _ _ _ _ _ _ _ rfl;have aD:aB=[]:=by
    cases aD:aB with
    |nil=>rfl
    | cons p r=>
     exfalso;have hp:p∈aB:=by rw[aD];exact aap
     cases b:hM a1 with
     | none=>
      obtain⟨e0,e1,D,es,hl,hm,b3,hS,hf,a2,b4,aE,b5⟩:=r1.inv;cases a1 with
      |cons q r=>cases b
      | nil=>
       simp only[fW]at aE;rw[Y0]at aE;obtain⟨g1,g2,_⟩:=r1.sep p hp;obtain⟨t,op,hz,W⟩:=mD g2;have bo:p<al.length:=(X1.1 hz).1;have bp:p∈D:=by simpa using aE p (aak.2 bo)
       obtain⟨o,v,y,f,_⟩:=hf p bp g1;rw[hz]at y;cases y;exact o3 W f
     | some e=>
      obtain⟨g1,g2,_⟩:=yv r1.inv b;have:=T e (by omega);rcases(au e).2 ((u e).1 this)with h|h
      ·rw[g1]at h;cases h
      ·exact bn e h b
   subst aD;have bq:∀i,i<al.length→S' i=true:=by
    intro i hi;rcases(au i).2 ((u i).1 (T i (by omega)))with h|h
    ·exact h
    ·cases h
   have aF:ez al [] aC=aC:=by apply mF (by simp[ez]);intro t _;rw[jX];rfl
   have hv:=r1.o6;rw[aF]at hv;exact hQ aC H2 N a' w' (Mu r1.inv bq) r1.nz r1.rel hv r1.defers r1.step r1.aI
  intro fuel;induction fuel with
  | zero=>
   intro listed bf S Pd bl ag ax H' G' a' w' hw u ad aJ;have T:∀i,i<ops.size→listed.getD i false=true:=by intro i hi;have L:=Nat.le_zero.1 aJ;rw[List.countP_eq_zero]at L;simpa using L i (aak.2 hi)
   have aK:aaF .any ops listed=[]:=by
    apply List.eq_nil_iff_forall_not_mem.2;intro i hi;obtain⟨L,o,y,_⟩:=mem_ready.1 hi;have af:i<ops.size:=(YL.1 y).1;have:=T i af;have X:i<listed.size:=by omega
    simp[X]at L this;rw[L]at this;cases this
   exact⟨aK,fin listed bf S Pd bl ag ax H' G' a' w' hw u T⟩
  | succ fuel ar=>
   intro listed br bs bt bl ag bu bv bw a' w' a3 a4 ad aJ;refine⟨λaK=>fin listed br bs bt bl ag bu bv bw a' w' a3 a4 λi hi=>done listed ad aK i hi,λi hi=>?_⟩;obtain⟨bf,S,Pd,ax,H',G',hw,au,a5⟩:=a3.settle g _ _ _ _ _ _ _ rfl;have u:∀k,listed.getD k false=true↔S k=true∨k∈Pd:=λk=>(a4 k).trans (au k).symm;obtain⟨L,o,y,T⟩:=mem_ready.1 hi;have af:i<ops.size:=(YL.1 y).1;have X:i<listed.size:=by omega
   have aL:listed.getD i false=false:=by simpa[X]using L
   have U:S i=false:=by
    cases b:S i with
    |false=>rfl
    |true=>have:=(u i).2 (.inl b);rw[aL]at this;cases this
   have E:i∉Pd:=λb=>by have:=(u i).2 (.inr b);rw[aL]at this;cases this
   obtain⟨ao,B,a6,f,aM⟩:=bm i o (by simpa using y);have ah:c4 al i=ao.dst:=by simp[c4,B]
   obtain⟨a2,bx⟩:=Mv g hw.inv;have bA:∀k,listed.getD k false=true→∀j∈bU pr k,listed.getD j false=true:=by
    intro k hk j ap;rw[u]at hk ⊢;rcases hk with hk|hk
    ·exact .inl (a2 k hk j ap)
    ·exact(hw.sep k hk).2.2 j ap
   have av:∀k∈bU pr i,listed.getD k false=true:=by
    intro k hk;obtain⟨e,A,O,aN⟩:=(a0 i o y).2 k hk;have:=T e A O;rcases aN with rfl|aN
    ·exact this
    ·exact bA e.on this k aN
   have a7:∀k,(listed.setIfInBounds i true).getD k false=true↔k=i∨listed.getD k false=true:=by
    intro k;by_cases aO:k=i
    ·subst aO;simp[X]
    ·rw[getD_set_ne false (λe=>aO e.symm)];simp[aO]
   have a8:(YS ops.size).countP (λk=>!(listed.setIfInBounds i true).getD k false)≤fuel:=by
    refine Nat.lt_succ_iff.1 (Nat.lt_of_lt_of_le (MA (λx b=>?_) ⟨i,aak.2 af,by rw[aL];rfl,by simp[X]⟩) aJ);by_cases a9:x=i
    ·subst a9;simp[X]at b
    ·rw[getD_set_ne false (λe=>a9 e.symm)]at b;exact b
   by_cases a_:fG al pr i=true∧hM bf≠some i
   ·
     obtain⟨J,b6⟩:=a_;obtain⟨t,op,hz,W⟩:=mD J;rw[B]at hz;cases hz;unfold wpOp;rw[y];dsimp only;have aP:o.guard=none:=by
      cases aP:o.guard with
      |none=>rfl
      |some _=>rw[aP]at aM;simp[k5]at aM
     rw[aa (by simp[aau,aP])];refine .inl ?_;have Y:(∃sz bytes zero l c,op = .make true sz bytes zero l c)→∀k∈bU pr i,S k=true:=by
      rintro⟨sz,bytes,zero,l,c,rfl⟩ k hk;rcases(u k).1 (av k hk)with h|h
      ·exact h
      · obtain⟨b7,ba,bB⟩:=CZ J B k hk;obtain⟨t2,b8,bC,bD⟩:=mD (hw.sep k h).2.1;rw[bC]at ba;cases ba;exact(o3 bD bB).elim
     obtain⟨x,bb⟩:=Mt (yl C) g hw.inv B W U Y;have b:jf (ez al Pd ax) op=some x:=by
      rw[←bb];apply tx;intro s hs;rw[jX];have : Pd.any (λp=>c4 al p==some s)=false:=by
       rw[aaA];intro bc;rw[aaB]at bc;obtain⟨p,hp,aj⟩:=bc;have ak:c4 al p=some s:=by simpa using aj
       obtain⟨g1,g2,g3⟩:=hw.sep p hp;have bE:∃sz bytes zero l c,op = .make true sz bytes zero l c:=by
        rcases W with⟨zero,rfl⟩|rfl|h
        ·simp[bS]at hs
        ·simp[bS]at hs
        ·exact h
       rcases g.reads i _ s p B (by simp[gV,hs]) ak with h|⟨_,h⟩
       ·have:=Y bE p h;rw[g1]at this;cases this
       · rcases h with rfl|h
         ·exact E hp
         · rcases g3 i h with d|d
           ·rw[U]at d;cases d
           ·exact E d
      rw[this];rfl
     have bF:=hw.o6;obtain ⟨aw,cap,bH,hblk⟩:∃(aw:Obj) (cap:Nat),(execOp a'.eval o).run C.P w' = .ok (.value (ny op x w'.heap.size)) (w'.alloc aw)∧∀(w2:World)(N:aG),GLe w' G' w2 N→w2.heap[w'.heap.size]?=some aw→mG C.F w2 N op x w'.heap.size cap:=by
      rcases W with⟨zero,rfl⟩|rfl|⟨sz,bytes,zero,ol,b9,rfl⟩
      · simp only [ct]at f;split at f
        · rename_i ty aQ;split at f
          · rename_i inf bI;split at f
            · rename_i z bJ;have bK:=k0 (C:=C) (w:=w') (G:=G') f;have bL:aH C.F w' G' zero z.cells:=by simpa using bK
              refine⟨.cells z.cells ty,z.cells.size,?_,λw2 N g hb=>⟨_,_,hb,rfl,bL.mono g⟩⟩;have R:(Y5 ty true (.tuple #[])).run C.P w' = .ok (.pointer (some ⟨w'.heap.size,0,none⟩)) (w'.alloc (.cells z.cells ty)):=by simp[Y5,zeroValue,typeInfo,bI,bJ,newVar,newRow]
              simp[execOp,aQ,R,ny]
            ·cases f
          ·cases f
        ·cases f
      · simp only[ct]at f;split at f
        · rename_i ty r aQ;have R:r=none:=by simpa using f
          subst R;refine⟨.map #[] 0,0,?_,λw2 N g hb=>⟨_,hb⟩⟩;have R:(Instr.makeMap ty none).run C.P w' = .ok (.map (some w'.heap.size)) (w'.alloc (.map #[] 0)):=rfl;simp[execOp,aQ,R,ny]
        ·cases f
      ·exact MF hw.nz.1 bF f b
     refine tj bH ?_;have hp:=cX.alloc w' aw;obtain⟨bM,M⟩:=hw.rel.LA hp;have bN:o.dst=some t:=a6;rw[bN];refine ar _ bf S (i::Pd) (λk=>if k=i then w'.heap.size else bl k) (λk=>if k=i then x else ag k) ax H' G' _ _ ⟨hw.inv,λp m=>?_,λp m=>?_,λp m t' aR ab=>?_,λp m q bP ay=>?_,hw.nz.step M,bM,?_,by rw[put_defers];exact hw.defers,hw.step.trans M,hw.aI.trans ((c_.put a' (some t) _).mono λs hs=>C8 B s (by simpa[eq_comm]using hs))⟩ ?_ (by simp[ad]) a8
     · rcases aan.1 m with rfl|m
       · exact ⟨U,J,λk hk=>by
           rcases(u k).1 (av k hk)with h|h
           ·exact .inl h
           ·exact .inr (aao _ h)⟩
       · obtain⟨g1,g2,g3⟩:=hw.sep p m;exact⟨g1,g2,λk hk=>(g3 k hk).imp id λh=>aao _ h⟩
     · rcases aan.1 m with rfl|m
       · rw [aa rfl,aa rfl];refine⟨t,op,cap,B,W,λht=>?_,hblk _ _ M.toGLe hp.new,hw.step.size,λk hk=>Nat.ne_of_lt ((hw.rel.obj k).lt hk),λj hf=>?_⟩
         · simp only[aat]at ht ⊢;rw[aaw]at ht;simp[ht]
         · obtain⟨V,am⟩:=hw.rel.eb _ _ hf;have:=YK w' _ am;simp at this
       · have I:p≠i:=λe=>E (e▸m);rw[ae I,ae I];refine(hw.qX p m).step M (some t) _ λs hs e=>?_;have bQ:t=s:=Yh.inj e;subst bQ;exact I (g.uniq p i t hs (by rw[ah]))
     · rcases aan.1 m with rfl|m
       · rw[aa rfl];rw[B]at ab;cases ab;exact bb
       · have I:p≠i:=λe=>E (e▸m);rw[ae I];exact hw.args p m t' aR ab
     · have bd:∀q∈Pd,bl q<w'.heap.size:=by
         intro q bR;obtain⟨_,_,_,_,L,_,bT,_⟩:=hw.qX q bR;exact C9 L bT
       have be:=aan.1 m;have bg:=aan.1 bP;by_cases h1:p=i<;>by_cases n:q=i
       ·rw[h1,n]
       · rw[aa h1,ae n]at ay;have:=bd q (bg.resolve_left n);omega
       · rw[ae h1,aa n]at ay;have:=bd p (be.resolve_left h1);omega
       · rw[ae h1,ae n]at ay;exact hw.inj p (be.resolve_left h1) q (bg.resolve_left n) ay
     · have hv:=hw.o6.mono M.toGLe;refine⟨by simpa[ez,aat]using hv.1,λj c V hc am=>?_⟩;have bV:j<ax.length:=by
        have:=(X1.1 hc).1;simpa[ez]using this
       have ac:c=(ez al (i::Pd) ax).getD j .bot:=by rw[Zm,hc];rfl
       rw[jX]at ac;by_cases aS:t=j
       · subst aS;have:(i::Pd).any (λq=>c4 al q==some t)=true:=by simp[ah]
         rw[this]at ac;simp only[aY]at ac;subst ac;exact .bot _
       · simp only[aat]at am;rw[aax aS]at am;have h1:(i::Pd).any (λq=>c4 al q==some j)=Pd.any (λq=>c4 al q==some j):=by
          rw[List.any_cons,ah];have:(some t==some j)=false:=by simpa using aS
          rw[this,Bool.false_or]
         rw[h1,←jX]at ac;have bW:j<(ez al Pd ax).length:=by simpa[ez]using bV
         refine hv.2 j c V ?_ am;rw[ac,Zm,YU bW];rfl
     · intro k;rw[a7 k,u k];simp only[aan];constructor
       · rintro(h|h|h)
         ·exact .inr (.inl h)
         ·exact .inl h
         ·exact .inr (.inr h)
       · rintro(h|h|h)
         ·exact .inr (.inl h)
         ·exact .inl h
         ·exact .inr (.inr h)
   · have J : fG al pr i=false∨hM bf=some i:=by
       by_cases h1:fG al pr i=true
       · by_cases n:hM bf=some i
         ·exact .inr n
         ·exact absurd ⟨h1,n⟩ a_
       ·exact .inl (by simpa using h1)
     have Y:∀k∈bU pr i,S k=true:=by
      intro p hp;rcases(u p).1 (av p hp)with h|h
      ·exact h
      · exfalso;obtain⟨g1,g2,_⟩:=hw.sep p h;rcases J with J|J
        · refine bx p g2 g1 (a5 p h) i (by omega) U hp J λk hk=>?_;rcases(u k).1 (av k hk)with d|d
          ·exact .inl d
          ·exact .inr ⟨(hw.sep k d).2.1,a5 k d⟩
        · have:=(yv hw.inv J).2.2 p hp g2;rw[g1]at this;cases this
     have aT:=C5 (tr C) g hw.inv B U Y J;rw[tt]at aT;have agree:∀t∈gV ao,ax.getD t .bot=(ez al Pd ax).getD t .bot:=by
      intro t ht;rw[jX];have : Pd.any (λp=>c4 al p==some t)=false:=by
       rw[aaA];intro b;rw[aaB]at b;obtain⟨p,hp,aj⟩:=b;have ak:c4 al p=some t:=by simpa using aj
       obtain⟨g1,g2,g3⟩:=hw.sep p hp;rcases g.reads i ao t p B ht ak with h|⟨_,h⟩
       ·have:=Y p h;rw[g1]at this;cases this
       · rcases h with rfl|h
         ·exact E hp
         · rcases g3 i h with d|d
           ·rw[U]at d;cases d
           ·exact E d
      rw[this];rfl
     rw[CY agree]at aT;refine Mz hF y a6 f aM aT hw.nz hw.rel hw.o6 ?_;intro v V H2 N w2 bX bY bZ b0 M;refine ar _ _ (λk=>k==i||S k) Pd bl ag _ H2 N _ w2 ⟨bX,λp hp=>?_,λp hp=>?_,λp hp t' aR ab=>?_,hw.inj,bY,b0,?_,by rw[put_defers];exact hw.defers,hw.step.trans M,hw.aI.trans ((c_.put a' ao.dst V).mono λs hs=>C8 B s (by simpa[Option.mem_toList,eq_comm]using hs))⟩ ?_ (by simp[ad]) a8
     · obtain⟨g1,g2,g3⟩:=hw.sep p hp;have I:p≠i:=λe=>E (e▸hp);exact⟨by simp[I,g1],g2,λk hk=>(g3 k hk).imp (λh=>by simp[h]) id⟩
     · have I:p≠i:=λe=>E (e▸hp);refine(hw.qX p hp).step M ao.dst V λs hs e=>?_;exact I (g.uniq p i s hs (by rw[ah,e]))
     · have I:i≠p:=λe=>E (e▸hp);rw[←hw.args p hp t' aR ab];exact Da g ab (hw.sep p hp).2.1 B (.inl λh=>by
         rcases(hw.sep p hp).2.2 i h with d|d
         ·rw[U]at d;cases d
         ·exact E d) I λh=>by
         have:=Y p h;rw[(hw.sep p hp).1]at this;cases this
     · have hv :=hw.o6.mono M.toGLe;have bh:∀t,ao.dst=some t→Pd.any (λp=>c4 al p==some t)=false:=by
        intro t ht;rw[aaA];intro b;rw[aaB]at b;obtain⟨p,hp,aj⟩:=b;have ak:c4 al p=some t:=by simpa using aj
        exact E ((g.uniq p i t ak (by rw[ah,ht]))▸hp)
       have b1 : ez al Pd (bO ax ao.dst v)=bO (ez al Pd ax) ao.dst v:=by
        apply mF
        ·cases aU:ao.dst<;>simp[ez,bO]
        · intro s _;rw[jX];cases aU:ao.dst with
          |none=>simp only[bO];rw[jX]
          | some t=>
           simp only[bO];by_cases aV:t=s
           · subst aV;rw[bh t aU];by_cases az:t<ax.length
             · have aW:t<(ez al Pd ax).length:=by simpa[ez]using az
               simp[Zm,az,aW]
             · have aW:¬t<(ez al Pd ax).length:=by simpa[ez]using az
               rw[aaG (aaj az),aaG (aaj aW),jX,bh t aU]
           · have h1:(ax.set t v).getD s .bot=ax.getD s .bot:=by
               rw[Zm,YX aV,Zm]
             have n:((ez al Pd ax).set t v).getD s .bot=(ez al Pd ax).getD s .bot:=by rw[Zm,YX aV,Zm]
             rw[h1,n,jX]
       rw[b1];exact hv.bO ao.dst bZ
     · intro k;rw[a7 k,u k];simp only[X8,bG];constructor
       · rintro(h|h|h)
         ·exact .inl (.inl h)
         ·exact .inl (.inr h)
         ·exact .inr h
       · rintro((h|h)|h)
         ·exact .inl h
         ·exact .inr (.inl h)
         ·exact .inr (.inr h)
 obtain⟨dy,aX⟩:=Step.drawn (Nat.le_succ w.drawn) bj;refine main ops.size (aaD ops.size false) bf (λ_=>false) [] (λ_=>0) (λ_=>(0,0)) env H G a _ ⟨Mr g hb hc h,λp hp=>(by cases hp),λp hp=>(by cases hp),λp hp=>(by cases hp),λp hp=>(by cases hp),hG.step aX,dy,?_,bk,aX,c_.refl _ _⟩ ?_ (by simp) ?_
 · have aF:ez al [] env=env:=by
     apply mF (by simp[ez]);intro t _;rw[jX];rfl
   rw[aF];exact he.mono aX.toGLe
 · intro k;by_cases hk:k<ops.size<;>simp[hk]
 ·exact Nat.le_trans (List.countP_le_length) (by simp)
theorem MG(hF:fD C){ops:Array Oper}{Q:Exit→Act→World→Prop}{K:Env→Z→Prop}{al:List bz}{pr:List (List Nat)}{bf:List (List Nat×Nat×List Nat)}{b:List Nat}{bQ:Nat}
  (c:ij C ops ops.toList al=true) (d:tz ops pr=true) (e:tv al pr bf b=true) (hm:C.P.follows .mixedOrders=true)
  (h:ja (ai C) al b bf env H K) (hG:cq C w G H) (f:Rel C.F w G H) (he:aH C.F w G env a.tmps) (g:a.defers=[])
  (hQ:∀ax H' G' a' w',K ax H'→cq C w' G' H'→Rel C.F w' G' H'→aH C.F w' G' ax a'.tmps→a'.defers=[]→Step w G H w' G' H'→c_ (gw al) a a'→Q .normal a' w') :
  (Code.region bQ ops true).wp C.P Q a w:=
 wp_region_any hm (Db hF c d e hm h hG f he g hQ)
theorem Dc{o:Nat→bL}:∀{cells l:List I}{id:Nat},gR o cells=some (l,id)→∃pre off len sz post cs,cells=pre ++ .row id off len sz::post∧l=pre ++ .aq .dead len ((cs.drop off).take (len*sz))::post∧o id = .row cs∧off+len*sz≤cs.length:=by
 intro cells;induction cells with
 |nil=>intro l id h;cases h
 | cons c r b=>
  intro l id h;unfold gR at h;split at h
  ·rename_i heq;cases heq
  · rename_i j off len sz d heq;cases heq;split at h
    · rename_i cs e;split at h
      · rename_i hle;cases h;exact⟨[],_,_,_,_,cs,rfl,rfl,e,hle⟩
      ·cases h
    ·cases h
  · rename_i c' d _ heq;cases heq;cases a:gR o r with
    |none=>rw[a]at h;cases h
    | some q=>obtain⟨k,m⟩:=q;rw[a]at h;cases h;obtain⟨pre,off,len,sz,post,cs,h1,f,g,i⟩:=b a;exact⟨c::pre,off,len,sz,post,cs,by rw[h1];rfl,by rw[f];rfl,g,i⟩
theorem Rel.MH{H:Z}{id:Nat}{cs l:List I}(a:Rel F w G H)(b:H.o id = .row cs)(h:eV F w G id (.row l)):Rel F w G (H.set id (.row l)):=by
 have hl:∀i,((H.set id (.row l)).o i).live=true→(H.o i).live=true:=by
  intro i hi;simp only[Z.set]at hi;split at hi
  ·rename_i e;rw[e,b];rfl
  ·exact hi
 refine⟨a.n,λi hi=>?_,λi=>?_,λi j c hi d=>a.eW i j c (hl i hi) (hl j d),a.eb⟩
 · simp only[Z.set]at hi ⊢;split
   · rename_i e;have:=a.over i hi;rw[e,b]at this;cases this
   ·exact a.over i hi
 · simp only[Z.set];split
   ·rename_i e;rw[e];exact h
   ·exact a.obj i
theorem MI{x v:I}{X:Value}(m:Rel F w G H)(h:jQ H x=some (v,H'))(t:VR F w G x X):∃G',Rel F w G' H'∧Step w G H w G' H'∧VR F w G' v X:=by
 have key:∀(id:Nat)(cs:List I),H.o id = .row cs→∃G',Rel F w G' (H.set id .gone)∧Step w G H w G' (H.set id .gone) ∧
   ∃Vs:Nat→Value,(∀(j:Nat)(c:I),cs[j]?=some c→G'.fz (G.loc id) j∧w.cell? ⟨G.loc id,j,none⟩=some (Vs j))∧(∀(j:Nat)(c:I),cs[j]?=some c→VR F w G' c (Vs j)):=by
  intro id cs r;have z:(H.o id).live=true:=by rw[r];rfl
  have A:=m.gu z;have hk:=m.kill id (m.n▸A);have B:=m.obj id;rw[r]at B;have D:=B.s4;have E:GLe w G w (G.dP (G.loc id) 0 cs.length):=⟨sl _,λ_ _=>rfl,λ_ _=>rfl,λ_ _ hf=> .inl hf,λ_ _ _ _ hc=>hc⟩
  have S:∀j,((H.set id .gone).o j).live=true→j≠id∧(H.o j).live=true:=by
   intro j a;simp only[Z.set]at a;split at a
   ·cases a
   ·rename_i J;exact⟨J,a⟩
  refine⟨G.dP (G.loc id) 0 cs.length,⟨hk.1.n,hk.1.over,λj=>?_,hk.1.eW,λb o hb=>?_⟩,?_,λj=>(w.cell? ⟨G.loc id,j,none⟩).getD undef,λj c a=>?_,λj c a=>?_⟩
  · refine (hk.1.obj j).aI E (λhl=>hk.1.gu hl) (λ_=>rfl) λhl k hf=>?_;rcases hf with hf|⟨hf,_⟩
    ·exact hf
    · obtain⟨h1,s⟩:=S j hl;exact absurd hf (m.eW j id h1 s z)
  · rcases hb with hb|⟨rfl,_,u⟩
    ·exact m.eb b o hb
    · obtain⟨V,f,_⟩:=D o cs[o] (YU u);exact⟨V,by simpa using f⟩
  ·exact {E with size:=sl _,os:=rfl,tape:=rfl,output:=rfl,dr:=sl _,c8:=λ_ _ _=>rfl,owned:=λj hl _=>⟨j,(S j hl).2,rfl⟩,ey:=λb o hf=>hf.imp (λh=>h) λhf=> .inr ⟨id,z,hf.1.symm⟩}
  · obtain⟨V,f,_⟩:=D j c a;rw[YO]at f;exact⟨.inr ⟨rfl,Nat.zero_le _,(X1.1 a).1⟩,by dsimp only;rw[f];rfl⟩
  · obtain⟨V,f,q⟩:=D j c a;rw[YO]at f;dsimp only;rw[f];exact q.mono E
 unfold jQ at h;split at h
 · rename_i id o len sz;split at h
   · rename_i cs r;split at h
     · cases h;obtain⟨G',q,g,Vs,h1,s⟩:=key id cs r;refine⟨G',q,g,?_⟩;cases t with
       | row _ _ _ _ cap A hle hc=>
        have er:∀(j:Nat)(c:I),((cs.drop o).take (len*sz))[j]?=some c→cs[o+j]?=some c:=by
         intro j c a;rw[X3]at a;split at a
         ·rw[X4]at a;exact a
         ·cases a
        exact .aq _ _ _ _ o cap (λj=>Vs (o+j)) trivial hle (λj c a=>h1 _ c (er j c a)) λj c a=>s _ c (er j c a)
     ·cases h
   ·cases h
 · rename_i id o;split at h
   · rename_i cs r;split at h
     · rename_i l p K;split at h
       ·cases h
       · rename_i J;cases h;obtain⟨pre,off,len,sz,post,cs',rfl,rfl,T,hle⟩:=Dc K;obtain⟨G',q,g,Vs,h1,s⟩:=key p cs' T;have z:(H.o p).live=true:=by rw[T];rfl
         have W:=m.gu z;have Y:G'.loc p=G.loc p:=g.loc p (m.n▸W);have L:(H.set p .gone).o id = .row (pre ++ .row p off len sz::post):=by simp only[Z.set];rw[ae (λe=>J e.symm)];exact r
         have B:=q.obj id;rw[L]at B;obtain⟨aa,e,ab,ac,ad,M⟩:=B;have ag:eV F w G' id (.row (pre ++ .aq .dead len ((cs'.drop off).take (len*sz))::post)):=by
          refine⟨aa,e,ab,ac,ad,λj c a=>?_⟩;rcases aaH j pre.length with u|rfl|ah
          · rw[ZE u]at a;exact M j c (by rw[ZE u];exact a)
          · have N:(pre++I.row p off len sz::post)[pre.length]?=some (.row p off len sz):=by simp
            have hc:c = .aq .dead len ((cs'.drop off).take (len*sz)):=by
             have O:(pre++I.aq .dead len ((cs'.drop off).take (len*sz))::post)[pre.length]?=some (.aq .dead len ((cs'.drop off).take (len*sz))):=by simp
             rw[O]at a;exact(Yh.inj a).symm
            subst hc;obtain⟨V,f,P⟩:=M _ _ N;refine⟨V,f,?_⟩;cases P with
            | row _ _ _ _ cap A Q ai=>
             have er:∀(j:Nat)(c:I),((cs'.drop off).take (len*sz))[j]?=some c→cs'[off+j]?=some c:=by
              intro j c a;rw[X3]at a;split at a
              ·rw[X4]at a;exact a
              ·cases a
             rw[Y];exact .aq _ _ _ _ off cap (λj=>Vs (off+j)) trivial Q (λj c a=>h1 _ c (er j c a)) λj c a=>s _ c (er j c a)
          · have e:∀y:I,(pre++y::post)[j]?=post[j-pre.length-1]?:=by
              intro y;rw[ZF (by omega)];obtain⟨d,R⟩:∃d,j-pre.length=d+1:=⟨j-pre.length-1,by omega⟩
              rw[R];rfl
            rw[e]at a;exact M j c (by rw[e];exact a)
         have hl:∀i,(((H.set p .gone).set id (.row (pre ++ .aq .dead len ((cs'.drop off).take (len*sz))::post))).o i).live=true→((H.set p .gone).o i).live=true:=by
          intro i hi;by_cases U:i=id
          ·rw[U,L];rfl
          ·simp only[Z.set,ae U]at hi ⊢;exact hi
         refine⟨G',q.MH L ag,{g with owned:=λi hi hb=>g.owned i (hl i hi) hb},t.mono g.toGLe⟩
     · cases h;obtain⟨G',q,g,Vs,h1,s⟩:=key id cs r;refine⟨G',q,g,?_⟩;cases t with
       | ptr _ _ A=>exact .af _ _ o (λj=>Vs (o+j)) (λj c a=>h1 _ c (by rw[X4]at a;exact a)) λj c a=>s _ c (by rw[X4]at a;exact a)
   ·cases h
 ·cases h;exact⟨G,m,Step.refl _ _ _,t⟩
 ·cases h;exact⟨G,m,Step.refl _ _ _,t⟩
 · rename_i cells;split at h
   · rename_i l id K;cases h;obtain⟨pre,off,len,sz,post,cs,rfl,rfl,r,hle⟩:=Dc K;obtain⟨G',q,g,Vs,h1,s⟩:=key id cs r;refine⟨G',q,g,?_⟩;obtain⟨Xs,rfl,C⟩:=t.nk;refine .agg _ _ (by have:=C.1;simp at this ⊢;omega) λj c V a f=>?_;rcases aaH j pre.length with u|rfl|ah
     · rw[ZE u]at a;exact(C.2 j c V (by rw[ZE u];exact a) f).mono g.toGLe
     · have N:(pre++I.row id off len sz::post)[pre.length]?=some (.row id off len sz):=by simp
       have hc:c = .aq .dead len ((cs.drop off).take (len*sz)):=by
        have O:(pre++I.aq .dead len ((cs.drop off).take (len*sz))::post)[pre.length]?=some (.aq .dead len ((cs.drop off).take (len*sz))):=by simp
        rw[O]at a;exact(Yh.inj a).symm
       subst hc;have P:=C.2 _ _ V N f;cases P with
       | row _ _ _ _ cap A Q ai=>
        have er:∀(j:Nat)(c:I),((cs.drop off).take (len*sz))[j]?=some c→cs[off+j]?=some c:=by
         intro j c a;rw[X3]at a;split at a
         ·rw[X4]at a;exact a
         ·cases a
        exact .aq _ _ _ _ off cap (λj=>Vs (off+j)) trivial Q (λj c a=>h1 _ c (er j c a)) λj c a=>s _ c (er j c a)
     · have e:∀y:I,(pre++y::post)[j]?=post[j-pre.length-1]?:=by
         intro y;rw[ZF (by omega)];obtain⟨d,R⟩:∃d,j-pre.length=d+1:=⟨j-pre.length-1,by omega⟩
         rw[R];rfl
       rw[e]at a;exact(C.2 j c V (by rw[e];exact a) f).mono g.toGLe
   ·cases h;exact⟨G,m,Step.refl _ _ _,t⟩
 ·cases h
end
end Rb

namespace Rb
open Go
variable{F:cx}{Vs:Array Value}
section
variable{C:Ctx}{w:World}{G:aG}{H:Z}{env:Env}{a:Act}
theorem tD(h:aH F w G env Vs)(vs:List Nat):∀(j:Nat)(c:I),(er env vs)[j]?=some c→∃t V,vs[j]?=some t∧(Vs[t]?=some V∧VR F w G c V∨c = .bot):=by
 intro j c a;simp only[er,YT]at a;cases hv:vs[j]? with
 |none=>simp[hv]at a
 | some t=>
  simp[hv]at a;subst a;cases he:env[t]? with
  |none=>exact⟨t,undef,rfl,.inr (by simp)⟩
  | some c=>obtain⟨V,b,d⟩:=h.get he;exact⟨t,V,rfl,.inl ⟨b,by simpa[he]using d⟩⟩
theorem MJ:∀(ks:List Nat){env:Env}{Vs:Array Value},aH F w G env Vs→aH F w G (eX env ks) Vs:=by
 intro ks;induction ks with
 |nil=>intro env Vs h;exact h
 | cons t ks b=>
  intro env Vs h;refine b ⟨by simp[h.1],λj c V hc d=>?_⟩;by_cases a:t=j
  · subst a;rw[Ys]at hc;simp only[aY]at hc;split at hc
    ·cases hc;exact .bot _
    ·cases hc
  · rw[YX a]at hc;exact h.2 j c V hc d
theorem MK:∀(ks:List Nat)(env:Env),(eX env ks).length=env.length:=by
 intro ks;induction ks with
 |nil=>intro env;rfl
 |cons t ks a=>intro env;rw[eX,a];simp
theorem ML:∀(ks:List Nat)(env:Env)(t:Nat),t∈ks→∀c,(eX env ks)[t]?=some c→c = .bot:=by
 intro ks;induction ks with
 |nil=>intro env t ht;cases ht
 | cons s ks a=>
  intro env t ht c hc;by_cases h:t∈ks
  ·exact a _ t h c hc
  · have d:t=s:=by rcases aan.1 ht with b|b;exact b;exact absurd b h
    subst d;have key:∀(ks:List Nat)(env:Env),t∉ks→(eX env ks)[t]?=env[t]?:=by
     intro ks;induction ks with
     |nil=>intro env _;rfl
     | cons u ks a=>intro env hn;rw[eX,a _ (λh=>hn (aao _ h)),YX (λe=>hn (by rw[e];exact aap))]
    rw[eX,key ks _ h,Ys]at hc;simp only[aY]at hc;split at hc
    ·cases hc;rfl
    ·cases hc
theorem tG{ks vs az:List Nat}{Vs b:Array Value}(h:aH F w G env Vs)(hc:tA ks vs az=true)(hs:b.size=Vs.size)(o:∀t,t∉az→b[t]?=Vs[t]?)(a:List I)
  (k:∀(j:Nat)(c:I),a[j]?=some c→∃t V,vs[j]?=some t∧(b[t]?=some V∧VR F w G c V∨c = .bot)) (hl:a.length=vs.length):aH F w G (ic (eX env ks) vs a) b:=by
 have p:∀(vs:List Nat)(a:List I)(env:Env),env.length=b.size→a.length=vs.length →
   (∀(j:Nat)(c:I),a[j]?=some c→∃t V,vs[j]?=some t∧(b[t]?=some V∧VR F w G c V∨c = .bot)) →
   (∀(j:Nat)(c:I)(V:Value),env[j]?=some c→b[j]?=some V→j∈vs∨VR F w G c V)→aH F w G (ic env vs a) b:=by
  intro vs;induction vs with
  |nil=>intro a env hle _ _ h;exact⟨hle,λj c V hc f=>(h j c V hc f).resolve_left (by simp)⟩
  | cons t vs q=>
   intro a env hle hl k h;cases a with
   |nil=>simp at hl
   | cons d a=>
    rw[ic];refine q a _ (by simp[hle]) (by simpa using hl) (λj c e=>by obtain⟨t',V,l,i⟩:=k (j+1) c (by simpa using e);exact⟨t',V,by simpa using l,i⟩) λj c V hc f=>?_
    by_cases e:t=j
    · subst e;rw[Ys]at hc;simp only[aY]at hc;split at hc
      · cases hc;obtain⟨t',r,l,i⟩:=k 0 d rfl;simp at l;subst l;rcases i with⟨m,i⟩|rfl
        ·rw[f]at m;cases m;exact .inr i
        ·exact .inr (.bot _)
      ·cases hc
    · rw [YX e]at hc;rcases h j c V hc f with g|g
      · rcases aan.1 g with g|g
        ·exact absurd g.symm e
        ·exact .inl g
      ·exact .inr g
 refine p vs a _ (by rw[MK,h.1,hs]) hl k λj c V n f=>?_;by_cases e:j∈az
 · have:=Y0.1 hc j e;simp at this;rcases this with h1|h1
   ·rw[ML ks env j h1 c n];exact .inr (.bot _)
   ·exact .inl h1
 · rw[o j e]at f;exact .inr ((MJ ks h).2 j c V n f)
theorem tH(env:Env)(vs:List Nat):(er env vs).length=vs.length:=by simp[er]
def e9:ff→Exit→Prop
 | .normal,.normal=>True
 | .exit i,.exit j=>i=j
 | .ret,.ret=>True
 |_,_=>False
theorem Dd(hF:fD C){ops:Array Oper}{Q:Exit→Act→World→Prop}{w0:World}{G0:aG}{H0:Z}{a0:Act}{az:List Nat} :
  ∀ (b:c0) (l:List Oper) (env:Env) (H:Z) (G:aG) (w:World) (a:Act) (K:ff→Env→Z→Prop),qU C ops l b=true→cn (ai C) b env H K→cq C w G H→Rel C.F w G H→aH C.F w G env a.tmps→a.defers=[] →
   Step w0 G0 H0 w G H→c_ az a0 a→(∀t,t∈ej b→t∈az) →
   (∀ax H' G' a' w',K .normal ax H'→cq C w' G' H'→Rel C.F w' G' H'→aH C.F w' G' ax a'.tmps→a'.defers=[]→Step w0 G0 H0 w' G' H'→c_ az a0 a'→Q .normal a' w') →
   wpList C.P ops Q l a w:=by
 intro b;induction b with
 | region al=>intro l env H G w a K c h hG e he f g hk d hQ;exact tB hF l al env H G w a c h hG e he f g hk d hQ
 | gq vs ks al b k=>intro l env H G w a K c h hG e he f g hk d hQ;simp only[qU,X7]at c;obtain⟨⟨h1,m⟩,n⟩:=c;rw[←List.take_append_drop al.length l];simp only[cn]at h;refine C7 (w0:=w) (G0:=G) (H0:=H) (a0:=a) (az:=gw al) hF (l.take al.length) al env H G w a h1 h hG e he f (Step.refl _ _ _) (c_.refl _ _) (λ_ ht=>ht) ?_;intro ax H' G' a' w' o p q r s j i;have u:=tG (he.mono j.toGLe) m i.1 i.2 (er ax vs) (tD r vs) (tH _ _);exact k (l.drop al.length) _ H' G' w' a' K n o p q u s (g.trans j) (hk.trans (i.mono λt ht=>d t (by simp[ej,ht]))) (λt ht=>d t (by simp[ej,ht])) hQ
 |_=>intro l env H G w a K c;simp[qU]at c
theorem tI(hF:fD C) :
  ∀ (ac:c0) (c:Code) (env:Env) (H:Z) (G:aG) (w:World) (a:Act) (K:ff→Env→Z→Prop) (Q:Exit→Act→World→Prop),b_ C c ac=true→cn (ai C) ac env H K →
   cq C w G H→Rel C.F w G H→aH C.F w G env a.tmps→a.defers=[] →
   (∀u ex ax H' G' a' w',e9 u ex→K u ax H'→cq C w' G' H'→Rel C.F w' G' H'→aH C.F w' G' ax a'.tmps→a'.defers=[]→Step w G H w' G' H'→c_ (ej ac) a a'→Q ex a' w') →
   c.wp C.P Q a w:=by
 intro ac;induction ac with
 | skip=>intro c env H G w a K Q d h hG g he m hQ;cases c<;>simp[b_]at d;exact wp_skip (hQ .normal .normal env H G a w trivial h hG g he m (Step.refl _ _ _) (c_.refl _ _))
 | region al=>
  intro c env H G w a K Q d h hG g he m hQ;cases c with
  | region id ops draw=>
   cases draw with
   |true=>simp[b_]at d
   | false=>
    simp only[b_]at d;refine wp_region_list ?_;exact tB (az:=gw al) (a0:=a) (w0:=w) (G0:=G) (H0:=H) (Q:=Q) (K:=K .normal) hF ops.toList al env H G w a d h hG g he m (Step.refl _ _ _) (c_.refl _ _) (λ_ ht=>ht)
     (λax H' G' a' w' r z o A B f n=>hQ .normal .normal ax H' G' a' w' trivial r z o A B f n)
  |_=>simp[b_]at d
 | gq vs ks al b _=>
  intro c env H G w a K Q d h hG g he m hQ;cases c with
  | region id ops draw=>
   cases draw with
   |true=>simp[b_]at d
   | false=>
    simp only[b_]at d;refine wp_region_list ?_;exact Dd (az:=ej (.gq vs ks al b)) (a0:=a) (w0:=w) (G0:=G) (H0:=H) (Q:=Q) (K:=K) hF (.gq vs ks al b) ops.toList env H G w a d h hG g he m (Step.refl _ _ _) (c_.refl _ _) (λ_ ht=>ht)
     (λax H' G' a' w' r z o A B f n=>hQ .normal .normal ax H' G' a' w' trivial r z o A B f n)
  |_=>simp[b_]at d
 | draw al pr bf last=>
  intro c env H G w a K Q d h hG g he m hQ;cases c with
  | region id ops draw=>
   cases draw with
   |false=>simp[b_]at d
   | true=>simp only[b_,X7]at d;obtain⟨⟨⟨h1,L⟩,M⟩,N⟩:=d;exact MG hF h1 L M N h hG g he m λax H' G' a' w' r z o A B f n=>hQ .normal .normal ax H' G' a' w' trivial r z o A B f n
  |_=>simp[b_]at d
 | seq x y ak am=>
  intro c env H G w a K Q d h hG g he m hQ;cases c with
  | seq p q=>
   simp only[b_,X7]at d;refine wp_seq ?_;refine ak p env H G w a _ _ d.1 h hG g he m ?_;intro u ex ax H' G' a' w' hex r z o A B f n;cases u with
   | normal=>cases ex<;>simp only[e9]at hex;refine am q ax H' G' w' a' K Q d.2 r z o A B ?_;intro u ex O H2 R a2 w2 hex S T U D W X Y;exact hQ u ex O H2 R a2 w2 hex S T U D W (f.trans X) ((n.mono λt ht=>by simp[ej,ht]).trans (Y.mono λt ht=>by simp[ej,ht]))
   | exit i=>cases ex<;>simp only[e9]at hex;exact hQ (.exit i) (.exit _) ax H' G' a' w' hex r z o A B f (n.mono λt ht=>by simp[ej,ht])
   | ret=>cases ex<;>simp only[e9]at hex;exact hQ .ret .ret ax H' G' a' w' trivial r z o A B f (n.mono λt ht=>by simp[ej,ht])
  |_=>simp[b_]at d
 | join vs ks x y ak am=>
  intro c env H G w a K Q d h hG g he m hQ;cases c with
  | seq p q=>
   simp only[b_,X7]at d;obtain⟨⟨an,ao⟩,aj⟩:=d;refine wp_seq ?_;refine ak p env H G w a _ _ an h hG g he m ?_;intro u ex ax H' G' a' w' hex r z o A B f n;cases u with
   | normal=>cases ex<;>simp only[e9]at hex;have aA:=tG (he.mono f.toGLe) aj n.1 n.2 (er ax vs) (tD A vs) (tH _ _);refine am q _ H' G' w' a' K Q ao r z o aA B ?_;intro u ex O H2 R a2 w2 hex S T U D W X Y;exact hQ u ex O H2 R a2 w2 hex S T U D W (f.trans X) ((n.mono λt ht=>by simp[ej,ht]).trans (Y.mono λt ht=>by simp[ej,ht]))
   | exit i=>cases ex<;>simp only[e9]at hex;exact hQ (.exit i) (.exit _) ax H' G' a' w' hex r z o A B f (n.mono λt ht=>by simp[ej,ht])
   | ret=>cases ex<;>simp only[e9]at hex;exact hQ .ret .ret ax H' G' a' w' trivial r z o A B f (n.mono λt ht=>by simp[ej,ht])
  |_=>simp[b_]at d
 | cond x p q aB aC=>
  intro c env H G w a K Q d h hG g he m hQ;cases c with
  | cond c' aD aE=>
   simp only[b_,X7]at d;obtain⟨⟨an,ao⟩,aF⟩:=d;obtain⟨t,ht,h⟩:=x8 h;have ar:=b9 hG.1 he an;rw[ht]at ar;refine wp_cond (t:=t) ar.iK ?_;cases t with
   | true=>rw[aa rfl]at h ⊢;exact aB aD env H G w a K Q ao h hG g he m λu ex ax H' G' a' w' h1 L M N ab ad af ag=>hQ u ex ax H' G' a' w' h1 L M N ab ad af (ag.mono λt ht=>by simp[ej,ht])
   | false=>rw[lS]at h ⊢;exact aC aE env H G w a K Q aF h hG g he m λu ex ax H' G' a' w' h1 L M N ab ad af ag=>hQ u ex ax H' G' a' w' h1 L M N ab ad af (ag.mono λt ht=>by simp[ej,ht])
  |_=>simp[b_]at d
 | block id x ah=>
  intro c env H G w a K Q d h hG g he m hQ;cases c with
  | block aS p=>
   simp only[b_,X7,bG]at d;obtain⟨rfl,hc⟩:=d;refine wp_block ?_;refine ah p env H G w a _ _ hc h hG g he m ?_;intro u ex ax H' G' a' w' hex r z o A B f n;cases u with
   | normal=>cases ex<;>simp only[e9]at hex;exact hQ .normal .normal ax H' G' a' w' trivial r z o A B f n
   | exit i=>
    cases ex with
    | exit j=>
     simp only[e9]at hex;subst hex;dsimp only at r;simp only[Exit.inBlock];split
     · rename_i ap;rw[aa ap]at r;exact hQ .normal .normal ax H' G' a' w' trivial r z o A B f n
     · rename_i ap;rw[ae ap]at r;exact hQ (.exit i) (.exit i) ax H' G' a' w' rfl r z o A B f n
    |_=>simp only[e9]at hex
   | ret=>cases ex<;>simp only[e9]at hex;exact hQ .ret .ret ax H' G' a' w' trivial r z o A B f n
  |_=>simp[b_]at d
 | loop vs ks x ah=>
  intro c env H G w a K Q d h hG g he m hQ;cases c with
  | loop p=>
   simp only[b_,X7]at d;obtain⟨hc,aj⟩:=d;let aI:List I×Z→Prop:=λs=>∀G' w' a',cq C w' G' s.2→Rel C.F w' G' s.2→aH C.F w' G' (ic (eX env ks) vs s.1) a'.tmps→a'.defers=[]→Step w G H w' G' s.2→c_ (ej x) a a' →
    ∀(b:Frame)(k:List Item)(cs:List Frame),∃e a2 w2,Q e a2 w2∧Arrives C.P (lone (b.at a' (.code p :: .inLoop p::k)) cs w') b k cs e a2 w2
   have aJ:=h aI λs K' aK aL=>by
    intro G' w' a' z o A B f n b k cs;have aM:p.wp C.P (λex a2 w2=>match ex with
        | .normal=>∀(b:Frame)(k:List Item)(cs:List Frame),∃e a3 w3,Q e a3 w3∧Arrives C.P (lone (b.at a2 (.code p :: .inLoop p::k)) cs w2) b k cs e a3 w3
        |e=>Q e a2 w2) a' w':=by
      refine ah p _ _ G' w' a' _ _ hc aK z o A B ?_;intro u ex O H2 R a2 w2 hex S T U D W X Y;cases u with
      | normal=>cases ex<;>simp only[e9]at hex;have aq:=n.trans Y;have au:=f.trans X;exact aL _ S R w2 a2 T U (tG (he.mono au.toGLe) aj aq.1 aq.2 (er O vs) (tD D vs) (tH _ _)) W au aq
      | exit i=>
       cases ex with
       |exit j=>exact hQ (.exit i) (.exit j) O H2 R a2 w2 hex S T U D W (f.trans X) (n.trans Y)
       |_=>simp only[e9]at hex
      | ret=>
       cases ex with
       |ret=>exact hQ .ret .ret O H2 R a2 w2 hex S T U D W (f.trans X) (n.trans Y)
       |_=>simp only[e9]at hex
    obtain⟨e,a1,w1,E,J⟩:=aM b (.inLoop p::k) cs;cases e with
    | normal=>obtain⟨aN,a2,w2,aO,aP⟩:=E b k cs;exact⟨aN,a2,w2,aO,.of_steps (Steps.trans J (.one step_inLoop)) aP⟩
    |exit id=>exact⟨_,a1,w1,E,.pass (x:= .inLoop p) rfl (λ_ _=> .inl (by simp)) J⟩
    |goto l=>exact⟨_,a1,w1,E,.pass (x:= .inLoop p) rfl (λ_ _=> .inl (by simp)) J⟩
    |ret=>exact⟨_,a1,w1,E,.pass (x:= .inLoop p) rfl (λ_ _=> .inl (by simp)) J⟩
    |panic aT=>exact⟨_,a1,w1,E,.pass (x:= .inLoop p) rfl (λ_ _=> .inl (by simp)) J⟩
    |outgrown=>exact⟨_,a1,w1,E,.pass (x:= .inLoop p) rfl (λ_ _=> .inl (by simp)) J⟩
   intro b k cs;have aQ:=aJ G w a hG g (tG he aj rfl (λ_ _=>rfl) (er env vs) (tD he vs) (tH _ _)) m (Step.refl _ _ _) (c_.refl _ _) b k cs;obtain⟨e,a',w',E,J⟩:=aQ;exact⟨e,a',w',E,.of_steps (.one step_loop) J⟩
  |_=>simp[b_]at d
 | exit id=>intro c env H G w a K Q d h hG g he m hQ;cases c<;>simp[b_]at d;subst d;exact wp_exit (hQ (.exit _) (.exit _) env H G a w rfl h hG g he m (Step.refl _ _ _) (c_.refl _ _))
 | ret=>intro c env H G w a K Q d h hG g he m hQ;cases c<;>simp[b_]at d;exact wp_ret (hQ .ret .ret env H G a w trivial h hG g he m (Step.refl _ _ _) (c_.refl _ _))
 | freeze t x ah=>
  intro c env H G w a K Q d h hG g he m hQ;have aR:b_ C c x=true:=by cases c<;>simpa[b_]using d
  obtain⟨v,H',hv,h⟩:=h;obtain⟨G',o,f,av⟩:=MI g hv (k3 he);have D:aH C.F w G' (env.set t v) a.tmps:=by
   refine⟨by simp[he.1],λj c V hc aw=>?_⟩;by_cases ay:t=j
   · subst ay;rw[Ys]at hc;simp only[aY]at hc;split at hc
     · cases hc;rw[Array.getD_eq_getD_getElem?,aw]at av;exact av
     ·cases hc
   · rw[YX ay]at hc;exact(he.2 j c V hc aw).mono f.toGLe
  exact ah c _ H' G' w a K Q aR h (hG.step f) o D m λu ex ax H' G' a' w' h1 L M N ab ad af ag=>hQ u ex ax H' G' a' w' h1 L M N ab ad (f.trans af) (ag.mono λt ht=>by simp[ej,ht])
def ku(P:Program):List ResultVar→List jz→Bool
 |[],[]=>true
 | .tmp t::r,.tmp t'::s=>t==t'&&ku P r s
 | .cell t ty::r,.cell t' n agg::s=>t==t'&&ig P ty n agg&&ku P r s
 |_,_=>false
def o7(C:Ctx)(f:FuncId)(a:aT):Bool:=
 match C.P.funcs[f]? with
 |some fn=>fn.ntmps==a.ntmps&&ku C.P fn.results.toList a.results&&(match fn.body with|some c=>b_ C c a.body|none=>false)
 |none=>false
def tJ(b:Array Value):ResultVar→Sem Value
 | .tmp t=>pure (b.getD t undef)
 | .cell a t=>do loadVar t (←asAddr (b.getD a undef))
theorem MM(a:Func)(b:Array Value):results a b=(do
    let vs ←a.results.mapM (tJ b)
    pure (if h:vs.size=1 then vs[0]else .tuple vs)):=by
  unfold results;congr 1
theorem MN(u:Rel C.F w G H)(q:aH C.F w G env a.tmps):∀(rs:List ResultVar)(b:List jz)(K:List I→Prop),ku C.P rs b=true→kS env H b K →
  ∃vs Vs,K vs∧aH C.F w G vs (List.toArray Vs)∧(rs.mapM (tJ a.tmps)).run C.P w = .ok Vs w:=by
 intro rs;induction rs with
 | nil=>intro b K hc h;cases b<;>simp[ku]at hc;exact⟨[],[],h,aH.nil,rfl⟩
 | cons r rs s=>
  intro b K hc h;have cons:∀{v:I}{V:Value}{vs:List I}{Vs:List Value},VR C.F w G v V→aH C.F w G vs Vs.toArray→aH C.F w G (v::vs) (V::Vs).toArray:=by
   intro v V vs Vs hv e;refine aH.nn (by have:=e.1;simp at this ⊢;exact this) λj c U g i=>?_;cases j with
   |zero=>simp at g i;subst g;subst i;exact hv
   |succ j=>exact e.2 j c U (by simpa using g) (by simpa using i)
  cases r with
  | tmp t=>
   cases b with
   |nil=>simp[ku]at hc
   | cons k b=>
    cases k with
    | tmp t'=>simp only[ku,X7,bG]at hc;obtain⟨rfl,hc⟩:=hc;obtain⟨vs,Vs,l,e,m⟩:=s b _ hc h;refine⟨_,_::Vs,l,cons (k3 q) e,?_⟩;rw[aaI];simp only[tJ,ZM,ZU,ZN,m]
    |cell _ _ _=>simp[ku]at hc
  | cell t ty=>
   cases b with
   |nil=>simp[ku]at hc
   | cons k b=>
    cases k with
    |tmp _=>simp[ku]at hc
    | cell t' n agg=>
     simp only[ku,X7,bG]at hc;obtain⟨⟨rfl,x⟩,hc⟩:=hc;obtain⟨v,hv,h⟩:=h;obtain⟨vs,Vs,l,e,m⟩:=s b _ hc h;have d:=k3 (t:=t) q;obtain⟨V,f,y⟩:=yb (P:=C.P) x u hv d;refine⟨_,V::Vs,l,cons y e,?_⟩;have z:(do loadVar ty (←asAddr (a.tmps.getD t undef)):Sem Value).run C.P w = .ok V w:=by
      unfold O at hv;split at hv
      · rename_i id o p;rw[p]at d;generalize a.tmps.getD t undef=X at d f;cases d;simpa[YV,Yo,asAddr]using f
      · rename_i cs p;rw[p]at d;generalize a.tmps.getD t undef=X at d f;cases d;simpa[YV,Yo,asAddr]using f
      ·cases hv
     rw[aaI];have A:(tJ a.tmps (.cell t ty)).run C.P w = .ok V w:=z;simp only[ZM,A,ZN,m,ZU]
theorem De(hF:fD C){f:FuncId}{a:aT}(d:o7 C f a=true){args:List I}{Q:ad}(h:oI (ai C) a args H Q)(hG:cq C w G H)(s:Rel C.F w G H)(p:aH C.F w G args Vs) :
  Calls C.P f Vs w λe w'=>∃V v H' G',e = .returned V∧Q v H'∧VR C.F w' G' v V∧Rel C.F w' G' H'∧Step w G H w' G' H':=by
 unfold o7 at d;split at d
 · rename_i fn t;simp only[X7,bG]at d;obtain⟨⟨hn,u⟩,k⟩:=d;split at k
   · rename_i c hb;refine calls_of_wp t hb ?_;have he:aH C.F w G (args++XY (a.ntmps-args.length) .bot) (Vs++aaD (fn.ntmps-Vs.size) undef):=by
      refine p.app ⟨by simp[p.1,hn],λj c V hc J=>?_⟩;rw[aaJ]at hc;split at hc
      ·cases hc;exact .bot _
      ·cases hc
     refine tI hF a.body c _ H G w ⟨_,[]⟩ _ _ k h hG s he rfl ?_;intro x ex ax H' G' a' w' hex l K q y z A L;have fin:kS ax H' a.results (λvs=>Q (mA vs) H')→a'.defers=[]∧∃v,(results fn a'.tmps).run C.P w' = .ok v w'∧∃V r m n,(Ending.returned v) = .returned V∧Q r m∧VR C.F w' n r V∧Rel C.F w' n m∧Step w G H w' n m:=by
      intro B;obtain⟨vs,b,hQ,g,D⟩:=MN q y fn.results.toList a.results _ u B;refine⟨z,if h:b.toArray.size=1 then b.toArray[0]else .tuple b.toArray,?_,_,_,_,_,rfl,hQ,?_,q,A⟩
      · rw[MM];have he:fn.results=fn.results.toList.toArray:=by simp
        rw[he,List.mapM_toArray];simp only[ZM,Sem.run_map,D,ZN,ZU]
      · split
        · rename_i h1;have hl:b.length=1:=by simpa using h1
          have o:vs.length=1:=by have:=g.1;simp at this;omega
          match vs,b,o,hl with
          |[v],[V],_,_=>simpa[mA]using g.2 0 v V rfl rfl
        · rename_i h1;have hl:b.length≠1:=by simpa using h1
          have o:vs.length≠1:=by have:=g.1;simp at this;omega
          have E:mA vs = .ar vs:=by
           match vs,o with
           |[],_=>rfl
           |_::_::_,_=>rfl
          rw[E];exact g.ar
     cases x with
     |normal=>cases ex<;>simp only[e9]at hex;exact fin l
     |exit i=>exact l.elim
     |ret=>cases ex<;>simp only[e9]at hex;exact fin l
   ·cases k
 ·cases d
end
end Rb

namespace Rb
open Go
abbrev iO:=List (Nat×aT)
def iO.get(T:iO)(k:Nat):Option aT:=T.lookup k
def o8(Φ:aj)(T:iO):Prop:=∀k f,T.get k=some f→∀args H Q,oI Φ f args H Q→Φ k args H Q
def tK(C:Ctx):iO→Bool
 |[]=>true
 |(k,f)::T=>(match C.F k with|some dR=>o7 C dR f|none=>true)&&tK C T
theorem MO{T:iO}{k:Nat}{f:aT}(h:T.lookup k=some f):(k,f)∈T:=by
 induction T with
 |nil=>cases h
 | cons p T a=>
  obtain⟨k',c⟩:=p;rw[aaK]at h;split at h
  · rename_i hk;have b:k=k':=by simpa using hk
    cases h;rw[b];exact aap
  ·exact aao _ (a h)
theorem MP{C:Ctx}:∀{T:iO},tK C T=true→∀k f,(k,f)∈T→∀dR,C.F k=some dR→o7 C dR f=true:=by
 intro T;induction T with
 |nil=>intro _ k f h;cases h
 | cons p T a=>
  obtain⟨k',b⟩:=p;intro h k f hm dR hf;simp only[tK,X7]at h;rcases aan.1 hm with he|hm
  · cases he;have:=h.1;rw[hf]at this;exact this
  ·exact a h.2 k f hm dR hf
theorem MQ{C:Ctx}(hF:fD C){T:iO}(h:tK C T=true):o8 (ai C) T:=by intro k f hk args H Q hs;refine⟨Cs (yl C) hs,λdR a G w Vs hG b c=>?_⟩;exact De hF (MP h k f (MO hk) dR a) hs hG b c
mutual
def I.same:I→I→Bool
 | .bool a,.bool b=>a==b
 | .int k a,.int k' b=>k==k'&&a==b
 | .str a,.str b=>a==b
 | .eJ,.eJ=>true
 | .ptr i o,.ptr e f=>i==e&&o==f
 | .af cs,.af cs'=>I.fU cs cs'
 | .aq tk len cs,.aq g h cs'=>tk==g&&len==h&&I.fU cs cs'
 | .row a b c d,.row a' j c' l=>a==a'&&b==j&&c==c'&&d==l
 | .map i,.map e=>i==e
 | .fy,.fy=>true
 | .fn k cs,.fn k' cs'=>k==k'&&I.fU cs cs'
 | .gm,.gm=>true
 | .iface t v,.iface t' m=>t==t'&&I.same v m
 | .gn,.gn=>true
 | .agg cs,.agg cs'=>I.fU cs cs'
 | .ar cs,.ar cs'=>I.fU cs cs'
 | .bot,.bot=>true
 |_,_=>false
def I.fU:List I→List I→Bool
 |[],[]=>true
 |c::r,d::t=>I.same c d&&I.fU r t
 |_,_=>false
end
mutual
theorem I.tM:(x y:I)→I.same x y=true→x=y
 | .bool a,.bool b,h=>by simp[I.same]at h;rw[h]
 | .int k a,.int k' b,h=>by simp[I.same]at h;rw[h.1,h.2]
 | .str a,.str b,h=>by simp[I.same]at h;rw[h]
 | .eJ,.eJ,h=>rfl
 | .ptr i o,.ptr f j,h=>by simp[I.same]at h;rw[h.1,h.2]
 | .af cs,.af cs',h=>by simp only[I.same]at h;rw[I.mH cs cs' h]
 | .aq tk len cs,.aq l m cs',h=>by simp only[I.same,X7,bG]at h;rw[h.1.1,h.1.2,I.mH cs cs' h.2]
 | .row a b c d,.row a' n c' p,h=>by simp[I.same]at h;rw[h.1.1.1,h.1.1.2,h.1.2,h.2]
 | .map i,.map f,h=>by simp[I.same]at h;rw[h]
 | .fy,.fy,h=>rfl
 | .fn k cs,.fn k' cs',h=>by simp only[I.same,X7,bG]at h;rw[h.1,I.mH cs cs' h.2]
 | .gm,.gm,h=>rfl
 | .iface t v,.iface t' g,h=>by simp only[I.same,X7,bG]at h;rw[h.1,I.tM v g h.2]
 | .gn,.gn,h=>rfl
 | .agg cs,.agg cs',h=>by simp only[I.same]at h;rw[I.mH cs cs' h]
 | .ar cs,.ar cs',h=>by simp only[I.same]at h;rw[I.mH cs cs' h]
 | .bot,.bot,h=>rfl
theorem I.mH:(xs e:List I)→I.fU xs e=true→xs=e
 |[],[],h=>rfl
 | c::r,d::t,h=>by simp only[I.fU,X7]at h;rw[I.tM c d h.1,I.mH r t h.2]
end
end Rb

namespace Rb
open Go Go.RowKit
variable{w:World}{fz:Nat→Nat→Prop}
def Z.mt:Z:={n:=0,o:=λ_=> .gone}
def aG.mt(fz:Nat→Nat→Prop):aG:={n:=0,loc:=λ_=>0,cap:=λ_=>0,fz:=fz}
theorem Rel.mt{F:cx}(h:∀b o,fz b o→∃V,w.cell? ⟨b,o,none⟩=some V):Rel F w (aG.mt fz) Z.mt:=⟨rfl,λ_ _=>rfl,λ_=>trivial,λ_ _ _ h _=>(by cases h),h⟩
theorem Step.below{w w':World}{G':aG}{H':Z}(h:Step w (aG.mt fz) Z.mt w' G' H'):Below w.heap.size w w':=⟨h.os,h.tape,h.output,h.size,λk hk=>h.c8 k hk λi hl=>by cases hl⟩
section
variable{H:Type}{enc:TypeId×Value→H}{P:Program}
def tN(P:Program)(ts:List TypeId):Bool:=ts.all λt=>P.readableRec t&&decide (t<P.types.size)
theorem Df(hl:laidOutB P=true){W W':World}(hb:Below W.heap.size W W') :
  ∀{ts:List TypeId}{vs:List Value}{ds:List (DataW H)}{ps:List MemPlace},tN P ts=true→aaL enc P W 0 (λ_=>true) true ts vs ds ps→aaL enc P W' 0 (λb=>decide (b<W.heap.size)) true ts vs ds ps
 |[],[],[],_,_,h=>h
 | t::ts,v::vs,d::ds,ps,ht,h=>by have a:=h.lt;obtain⟨p,q,h1,c,rfl⟩:=h;simp only[tN,aaM,X7,dQ]at ht;exact⟨p,q,Below.trod hl ht.1.1 ht.1.2 h1 hb (λx e=>a x (by simp[e])),Df hl hb (by simpa[tN]using ht.2) c,rfl⟩
 |[],[],_::_,_,_,h=>h.elim
 |[],_::_,_,_,_,h=>by cases ‹List (DataW H)› <;> exact h.elim
 |_::_,[],_,_,_,h=>by cases ‹List (DataW H)› <;> exact h.elim
 |_::_,_::_,[],_,_,h=>h.elim
theorem MR{f:Func}{s:ChangeSpec}{c:Bool}{W W':World}{args:Array Value}{ds a:List (DataW H)}{d:List MemPlace}{bt:TypeId}
  (hW:DataW.Whole enc P f.params.toList s.vars c W args.toList ds a d) (hl:laidOutB P=true) (ht:tN P f.params.toList=true) (hv:varsRowed P s.vars=true)
  (e:f.resultTypes = #[bt]) (g:P.underlying bt=some .bool) (b:s.fn H (ds++a)={results:=[.lit (.bool true)],args:=ds,vars:=a}) (hb:Below W.heap.size W W') :
  s.post enc P f c true false false W args (.bool true) W':=by
 have i:=hW;obtain⟨p,q,hA,j,rfl,hz,hn⟩:=hW;refine⟨ds,a,p++q,[],p,q,i,?_,?_,?_,hb.frame _,λh=>by cases h⟩
 · rw[b,e];exact⟨[],[],shut_bool g _,rfl,rfl⟩
 · rw[b];exact Df hl hb ht hA
 · rw[b];exact hb.trodVars hl hv j
end
end Rb

namespace Rb
open Go
theorem ai.run{C:Ctx}{key:Nat}{f:FuncId}{args:List I}{H:Z}{Q:ad}(h:ai C key args H Q)(hf:C.F key=some f){G:aG}{w:World}{Vs:Array Value}(hG:cq C w G H)(a:Rel C.F w G H)(b:aH C.F w G args Vs) :
  Calls C.P f Vs w λe w'=>∃V v H' G',e = .returned V∧Q v H'∧VR C.F w' G' v V∧Rel C.F w' G' H'∧Step w G H w' G' H':=h.2 f hf G w Vs hG a b
end Rb

namespace Rb
open Go
theorem o8.app{Φ:aj}{T U:iO}(hT:o8 Φ T)(a:o8 Φ U):o8 Φ (T++U):=by
 intro k f h args H Q hs;have key:∀(T:iO),(T++U).lookup k=some f→T.lookup k=some f∨U.lookup k=some f:=by
  intro T;induction T with
  |nil=>intro h;exact .inr h
  | cons p T b=>
   intro h;obtain⟨k',c⟩:=p;rw[ZY,aaK]at h;rw[aaK];split at h
   ·exact .inl h
   ·exact b h
 rcases key T h with h|h
 ·exact hT k f h args H Q hs
 ·exact a k f h args H Q hs
mutual
def I.flat:I→Bool
 | .bool _ | .int _ _ | .str _ | .eJ | .fy | .gm | .gn=>true
 | .aq .nil 0 []=>true
 | .agg cs=>I.qY cs
 | .ar cs=>I.qY cs
 |_=>false
def I.qY:List I→Bool
 |[]=>true
 |c::r=>I.flat c&&I.qY r
end
theorem yw:∀{cs:List I},I.qY cs=true→∀(j:Nat)(c:I),cs[j]?=some c→c.flat=true
 |[],_,j,c,h=>by simp at h
 | d::r,hf,j,c,h=>by
  simp only[I.qY,X7]at hf;cases j with
  |zero=>simp at h;subst h;exact hf.1
  |succ j=>exact yw hf.2 j c (by simpa using h)
theorem yx{F:cx}{w w':World}{G G':aG}{c:I}{V:Value}(hf:c.flat=true)(h:VR F w G c V):VR F w' G' c V:=by
 induction h with
 |bot=>simp[I.flat]at hf
 |bool b=>exact .bool b
 |int k n=>exact .int k n
 |str s=>exact .str s
 |eJ=>exact .eJ
 |ptr=>simp[I.flat]at hf
 |af=>simp[I.flat]at hf
 |e4=>exact .e4
 |e5=>simp[I.flat]at hf
 | aq tk len cells b o cap Vs ht=>unfold I.flat at hf;split at hf<;>simp_all;exact ht.elim
 |row=>simp[I.flat]at hf
 |map=>simp[I.flat]at hf
 |fy=>exact .fy
 |fn=>simp[I.flat]at hf
 |kj=>simp[I.flat]at hf
 |gm=>exact .gm
 |iface=>simp[I.flat]at hf
 |gn=>exact .gn
 |agg cs Vs hl hv a=>exact .agg cs Vs hl λj c V hc d=>a j c V hc d (yw (by simpa[I.flat]using hf) j c hc)
 |ar cs Vs hl hv a=>exact .ar cs Vs hl λj c V hc d=>a j c V hc d (yw (by simpa[I.flat]using hf) j c hc)
theorem ai.frame{C:Ctx}{key:Nat}{args:List I}{Q:ad}(h:ai C key args Z.mt Q)(ha:args.all I.flat=true)(ak:∀g l,C.GT g=some l→l.all I.flat=true)(H:Z)(K:ad)(r:∀v H',Q v H'→v.flat=true∧K v H):ai C key args H K:=by
 refine⟨by obtain⟨v,H',u⟩:=h.1;exact⟨v,H,(r v H' u).2⟩,λf hf G w Vs hG a s=>?_⟩;have x:Rel C.F w (aG.mt G.fz) Z.mt:=Rel.mt a.eb;have y:aH C.F w (aG.mt G.fz) args Vs:=⟨s.1,λj c V hc q=>by rw[Y0]at ha;exact yx (ha c (aaN hc)) (s.2 j c V hc q)⟩
 have z:jb C w (aG.mt G.fz):=by
  intro g l d;have h1:=hG.1 g l d;have t:=ak g l d;rw[Y0]at t;generalize A:(Value.pointer (some ⟨g,0,none⟩))=X at h1;generalize hY:I.af l=Y at h1;cases h1 with
  | af cells b o Vs h hv=>cases A;cases hY;exact .af _ _ _ Vs h λj c p=>yx (t c (aaN p)) (hv j c p)
  |bot=>cases hY
  |_=>cases hY
 · refine aae (h.2 f hf _ w Vs (hG.mt z λi hi=>by cases hi) x y) λe w' he=>?_;obtain⟨V,v,H',G',rfl,hQ,hv,E,m⟩:=he;obtain⟨B,D⟩:=r v H' hQ;have hb:=m.below;have d:GLe w G w' G:=⟨sl _,λ_ _=>rfl,λ_ _=>rfl,λ_ _ h=>h,λb o V hf hc=>by
     rw[YJ (w:=w) (hb.block b (YK w _ hc))];exact hc⟩
   refine⟨V,v,H,G,rfl,D,yx B hv,⟨a.n,a.over,λj=>(a.obj j).aI d (λhl=>a.gu hl) (λhl=>hb.block _ ((a.obj j).lt hl)) λ_ _ p=>p,a.eW,λb o hf=>?_⟩,?_⟩
   · obtain⟨V,q⟩:=a.eb b o hf;exact⟨V,d.cell b o V hf q⟩
   ·exact {d with size:=m.size,os:=m.os,tape:=m.tape,output:=m.output,dr:=m.dr,c8:=λk hk _=>hb.block k hk,owned:=λi hi _=>⟨i,hi,rfl⟩,ey:=λ_ _ h=> .inl h}
def Dg:List I:=(YS 256).map λi=> .int .u8 (if i=9∨i=10∨i=11∨i=12∨i=13∨i=32 then 1 else 0)
def qZ:List Int:=[0,1,56,2,57,49,28,3,61,58,42,50,38,29,17,4,62,47,59,36,45,43,51,22,53,39,33,30,24,18,12,5,63,55,48,27,60,41,37,16,46,35,44,21,52,32,23,11,54,26,40,15,34,20,31,10,25,14,19,9,13,8,7,6]
def Dh:List I:=qZ.map (I.int .u8)
end Rb

namespace Rb
open Go
inductive TT where
 |leaf
 |node (x:bL) (l r:TT)
def TT.get:TT→Nat→bL
 | .leaf,_=> .gone
 | .node x l r,i=>bif aaO i 0 then x else bif aaO (i%2) 1 then l.get (i/2)else r.get (i/2-1)
def TT.jg(x:bL):Nat→TT→Nat→TT
 |0,t,_=>t
 | f+1,t,i=>match t with
  | .leaf=>bif aaO i 0 then .node x .leaf .leaf else bif aaO (i%2) 1 then .node .gone (TT.jg x f .leaf (i/2)) .leaf else .node .gone .leaf (TT.jg x f .leaf (i/2-1))
  | .node a l r=>bif aaO i 0 then .node x l r else bif aaO (i%2) 1 then .node a (TT.jg x f l (i/2)) r else .node a l (TT.jg x f r (i/2-1))
theorem TT.Di(i:Nat):TT.get .leaf i = .gone:=rfl
theorem TT.nA(x:bL)(l r:TT)(i:Nat):(TT.node x l r).get i=if i=0 then x else if i%2=1 then l.get (i/2)else r.get (i/2-1):=by
 have hb:∀a b:Nat,aaO a b=decide (a=b):=λa b=>by rw[aal];simp
 simp only[TT.get,hb,cond_eq_ite,dQ]
theorem TT.Dj(x:bL):∀(f:Nat)(t:TT)(i j:Nat),i<f→(TT.jg x f t i).get j=if j=i then x else t.get j:=by
 intro f;induction f with
 |zero=>intro t i j h;omega
 | succ f g=>
  intro t i j h;have hb:∀a b:Nat,aaO a b=decide (a=b):=λa b=>by rw[aal];simp
  have key : ∀(a:bL)(l r:TT),(if i=0 then TT.node x l r else if i%2=1 then .node a (TT.jg x f l (i/2)) r else .node a l (TT.jg x f r (i/2-1))).get j=if j=i then x else(TT.node a l r).get j:=by
   intro a l r;by_cases hi:i=0
   · subst hi;rw[aa rfl,TT.nA,TT.nA];by_cases c:j=0
     ·simp[c]
     ·simp[c]
   · rw [ae hi];by_cases k:i%2=1
     · rw [aa k,TT.nA,TT.nA];rw[g _ _ _ (by omega)];by_cases c:j=0
       ·rw[aa c,aa c,bC]
       · rw [ae c,ae c];by_cases d:j%2=1
         · rw[aa d,aa d];by_cases e:j=i
           ·rw[aa e,aa (by rw[e])]
           ·rw[ae e,bC]
         ·rw[ae d,ae d,bC]
     · rw [ae k,TT.nA,TT.nA];rw[g _ _ _ (by omega)];by_cases c:j=0
       ·rw[aa c,aa c,bC]
       · rw [ae c,ae c];by_cases d:j%2=1
         ·rw[aa d,aa d,bC]
         · rw[ae d,ae d];by_cases e:j=i
           ·rw[aa e,aa (by rw[e])]
           ·rw[ae e,bC]
  cases t with
  | leaf=>simp only[TT.jg,hb,cond_eq_ite,dQ];rw[key .gone .leaf .leaf,TT.nA,TT.Di];simp only[TT.Di,ite_self]
  | node a l r=>simp only[TT.jg,hb,cond_eq_ite,dQ];exact key a l r
structure S where
 n:Nat
 t:TT
def S.ah(T:S):Z:=⟨T.n,λi=>T.t.get i⟩
def S.set(T:S)(i:Nat)(x:bL):S:=match T with|⟨n,t⟩=>⟨n,TT.jg x (i+1) t i⟩
def S.push(T:S)(x:bL):S:=match T with|⟨n,t⟩=>⟨n+1,TT.jg x (n+1) t n⟩
def S.mt:S:=⟨0,.leaf⟩
@[simp] theorem S.Xx (T:S):T.ah.n=T.n:=rfl
@[simp] theorem S.Xy (T:S) (i:Nat) (x:bL):(T.set i x).ah=T.ah.set i x:=by simp only[S.ah,S.set,Z.set];congr 1;funext j;exact TT.Dj x _ _ _ _ (aaP _)
@[simp] theorem S.MS (T:S) (x:bL):(T.push x).ah=T.ah.push x:=by simp only[S.ah,S.push,Z.push];congr 1;funext j;exact TT.Dj x _ _ _ _ (aaP _)
@[simp] theorem S.MT:S.mt.ah=Z.mt:=by simp only[S.ah,S.mt,Z.mt];congr 1
abbrev fX:=I→S→Bool
abbrev dC:=Nat→List I→S→fX→Bool
def dJ{α:Type}(x:Option α)(K:α→Bool):Bool:=
 match x with
 |some a=>K a
 |none=>false
def hP(x:Option (I×S))(K:fX):Bool:=
 match x with
 |some (v,T)=>K v T
 |none=>false
def o9(v:I)(a:Bool)(A B:Bool):Bool:=
 match v with
 | .bool b=>bif aaQ b a then B else A
 |_=>false
def q0(T:S)(n:Nat)(x v:I):Option S:=
 match x with
 | .ptr id o=>
  match T.t.get id with
  | .row cs=>if v.known∧v.cells.length=n∧v.cells.all I.scalar∧o+n≤cs.length then some (T.set id (.row (setCells cs o v.cells)))else none
  |_=>none
 |_=>none
def o_(T:S)(mu:Bool)(cells:List I):I×S:=if mu then(.ptr T.n 0,T.push (.row cells))else(.af cells,T)
def q1(T:S)(mu:Bool)(n:Nat)(v:I):Option (I×S):=if v.known∧v.cells.length=n then some (o_ T mu v.cells)else none
def q2(T:S)(mu:Bool)(sz a:Nat)(b:List I)(c:List (Nat×Nat×I)):Option (I×S):=
 (iH (XY a b).flatten c).map λcells=>if mu then(.row T.n 0 a sz,T.push (.row cells))else(.aq .full a cells,T)
def q3(T:S)(mu:Bool)(sz b:Nat)(x y:I):Option (I×S):=
 match fe T.ah sz y with
 |none=>none
 | some (m,news)=>
  if ¬news.all I.scalar then none else
  match x with
  | .aq tk len cells=>
   if m=0 then some (.aq tk len cells,T)
   else if ¬(cells.length=len*sz∧(len+m)*b≤140737488355328∧len+m≤9223372036854775807)then none
   else match tk,mu with
   | .nil,true | .full,true=>some (.row T.n 0 (len+m) sz,T.push (.row (cells++news)))
   | .nil,false | .full,false=>some (.aq (.own T.n) (len+m) (cells++news),T.push (.tok ((len+m)*sz) sz))
   | .own t,_=>match T.t.get t with
    | .tok k a=>if k=len*sz∧a=sz then some (.aq (.own T.n) (len+m) (cells++news),(T.set t .gone).push (.tok ((len+m)*sz) sz))else none
    |_=>none
   | .dead,_=>none
  | .row id o len a=>
   match T.t.get id with
   | .row cs=>
    if m=0 then some (.row id o len a,T)
    else if ¬(o=0∧a=sz∧(len+m)*b≤140737488355328∧len+m≤9223372036854775807)then none
    else if(len+m)*sz≤cs.length then some (.row id 0 (len+m) sz,T.set id (.row (setCells cs (len*sz) news)))
    else if cs.length=len*sz then some (.row T.n 0 (len+m) sz,(T.set id .gone).push (.row (cs++news)))
    else none
   |_=>none
  |_=>none
def tO(T:S)(x:I):Option (I×S):=
 match x with
 | .str s=>some (.ptr T.n 0,T.push (.fQ s 0))
 |_=>none
def tP(T:S)(x:I):Option (I×S):=
 match x with
 | .ptr id 0=>
  match T.t.get id with
  | .fQ s pos=>
   if pos<s.length then
    let d:=Utf8.decode ⟨s.toArray⟩ pos
    some (.ar [.bool true,.int .i64 pos,.int .i32 d.1],T.set id (.fQ s (pos+d.2)))
   else some (.ar [.bool false],T)
  |_=>none
 |_=>none
def pa(T:S)(mu:Bool)(sz b:Nat)(a:List I)(d cap:I):Option (I×S):=
 match d,cap with
 | .int .i64 n,.int .i64 c=>
  if 0≤n∧n≤c∧b*c≤281474976710656∧c≤9223372036854775807∧a.length=sz then
   if mu then some (.row T.n 0 n.toNat sz,T.push (.row (XY c.toNat a).flatten))
   else if n=c then some (.aq .full n.toNat (XY n.toNat a).flatten,T)else none
  else none
 |_,_=>none
def q4(T:S)(sz:Nat)(x y:I):Option (I×S):=
 match x,fe T.ah sz y with
 | .row id o len _,some (m,news)=>
  match T.t.get id with
  | .row cs=>
   let n:=min m len
   if news.all I.scalar∧o+n*sz≤cs.length then some (.int .i64 n,T.set id (.row (setCells cs o (news.take (n*sz)))))else none
  |_=>none
 |_,_=>none
def q5(T:S)(kk:FK)(m k v:I):Option S:=
 match m with
 | .map id=>
  match T.t.get id with
  | .map es=>if plainKey kk k∧v.known then(iI kk k es 0).map λr=>(match r with
      |some (i,_)=>T.set id (.map (es.set i (k,v)))
      |none=>T.set id (.map (es++[(k,v)])))else none
  |_=>none
 |_=>none
def tQ(T:S)(kk:FK)(m k:I):Option S:=
 match m with
 | .map id=>
  match T.t.get id with
  | .map es=>if plainKey kk k then(iI kk k es 0).map λr=>(match r with
      |some (i,_)=>T.set id (.map (es.eraseIdx i))
      |none=>T)else none
  |_=>none
 |_=>none
def nB(T:S)(x:I):Option (I×S):=
 match x with
 | .row id o len sz=>
  match T.t.get id with
  | .row cs=>if o+len*sz≤cs.length then some (.aq .dead len ((cs.drop o).take (len*sz)),T.set id .gone)else none
  |_=>none
 | .ptr id o=>
  match T.t.get id with
  | .row cs=>match gR (λi=>T.t.get i) cs with
   |some (l,a)=>if a=id then none else some (.ptr id o,(T.set a .gone).set id (.row l))
   |none=>some (.af (cs.drop o),T.set id .gone)
  |_=>none
 | .aq tk len cells=>some (.aq tk len cells,T)
 | .af cs=>some (.af cs,T)
 | .agg cells=>match gR (λi=>T.t.get i) cells with
  |some (l,id)=>some (.agg l,T.set id .gone)
  |none=>some (.agg cells,T)
 |_=>none
def text(T:S)(e:Ext)(xs:List I):Option (I×S):=
 match e,xs with
 | .oG t,[.iface t' v]=>if t'=t then some (v,T)else none
 | .mz neg,[.ptr i o,.ptr j p]=>
  match T.t.get i,T.t.get j with
  | .row _,.row _=>if i=j then some (.bool (if neg then !(o==p)else o==p),T)else some (.bool neg,T)
  |_,_=>none
 | .clear sz zero,[.row id o len z]=>
  if len=0 then some (.ar [],T)else
  match T.t.get id with
  | .row cs=>if zero.all I.scalar∧zero.length=sz∧o+len*sz≤cs.length then some (.ar [],T.set id (.row (setCells cs o (XY len zero).flatten)))else none
  |_=>none
 | .clear _ _,[.aq _ 0 _]=>some (.ar [],T)
 | .grow sz bytes zero,[.aq .nil 0 [],.int .i64 n]=>if 0<n∧n.toNat*bytes≤281474976710656∧n≤9223372036854775807∧zero.length=sz∧0<sz then some (.row T.n 0 n.toNat sz,T.push (.row (XY n.toNat zero).flatten))else none
 | .ko t,[]=>some (.ptr T.n 0,T.push (.h5 t false none))
 | .ko t,[.agg [.eJ,.aq .nil 0 []]]=>some (.ptr T.n 0,T.push (.h5 t false none))
 |_,_=>none
def vh(r:I×S):I×Z:=(r.1,r.2.ah)
theorem MU(T:S)(e:Ext)(xs:List I):(text T e xs).map vh=ei T.ah e xs:=by
 have a:∀i,T.ah.o i=T.t.get i:=λ_=>rfl;cases e with
 |stuck=>cases xs<;>rfl
 | oG t=>
  cases xs with
  |nil=>rfl
  | cons x r=>
   cases r with
   |cons y r=>cases x<;>rfl
   | nil=>
    cases x<;>try rfl
    simp only[text,ei];split<;>rfl
 | mz neg=>
  cases xs with
  |nil=>rfl
  | cons x r=>
   cases r with
   |nil=>cases x<;>rfl
   | cons y r=>
    cases r with
    |cons z r=>cases x<;>cases y<;>rfl
    | nil=>
     cases x<;>cases y<;>try rfl
     simp only[text,ei,a];rename_i i o j p;cases T.t.get i<;>cases T.t.get j<;>try rfl
     dsimp only;split<;>rfl
 | ko t=>
  cases xs with
  |nil=>simp[text,ei,vh]
  | cons x r=>
   by_cases b:x = .agg [.eJ,.aq .nil 0 []]∧r=[]
   · obtain⟨rfl,rfl⟩:=b;simp[text,ei,vh]
   · have h1:text T (.ko t) (x::r)=none:=by
       unfold text;split<;>first|rfl|(exfalso;simp_all;done)|simp_all
     have c:ei T.ah (.ko t) (x::r)=none:=by unfold ei;split<;>first|rfl|(exfalso;simp_all;done)|simp_all
     rw[h1,c];rfl
 | grow sz bytes zero=>
  cases xs with
  |nil=>rfl
  | cons x r=>
   cases r with
   | nil=>
    cases x<;>try rfl
    rename_i tk len cells;cases tk<;>cases len<;>cases cells<;>rfl
   | cons y r=>
    cases r with
    | cons z r=>
     cases x<;>try rfl
     rename_i tk len cells;cases tk<;>cases len<;>cases cells<;>try rfl
     cases y<;>try rfl
     rename_i k n;cases k<;>rfl
    | nil=>
     cases x<;>try rfl
     rename_i tk len cells;cases tk<;>cases len<;>cases cells<;>try rfl
     cases y<;>try rfl
     rename_i k n;cases k<;>try rfl
     simp only[text,ei];split
     ·simp[vh]
     ·rfl
 | clear sz zero=>
  cases xs with
  |nil=>rfl
  | cons x r=>
   cases r with
   | cons y r=>
    cases x<;>try rfl
    rename_i tk len cells;cases len<;>rfl
   | nil =>
    cases x<;>try rfl
    · rename_i tk len cells;cases len<;>rfl
    · rename_i id o len z;simp only[text,ei,a];split
      ·rfl
      · cases T.t.get id<;>try rfl
        dsimp only;split
        ·simp[vh]
        ·rfl
theorem MV(T:S)(n:Nat)(x v:I):(q0 T n x v).map S.ah=Y T.ah n x v:=by
 unfold q0 Y;cases x<;>try rfl
 dsimp only;show _=match T.t.get _ with | .row cs=>_|_=>_
 split
 ·split<;>simp
 ·rfl
theorem Dk(T:S)(mu:Bool)(cells:List I):vh (o_ T mu cells)=aJ T.ah mu cells:=by unfold o_ aJ vh;split<;>simp
theorem MW(T:S)(mu:Bool)(n:Nat)(v:I):(q1 T mu n v).map vh=aK T.ah mu n v:=by
 unfold q1 aK;split
 ·simp[Dk]
 ·rfl
theorem MX(T:S)(mu:Bool)(sz a:Nat)(b:List I)(parts:List (Nat×Nat×I)):(q2 T mu sz a b parts).map vh=dk T.ah mu sz a b parts:=by unfold q2 dk;rw[Option.map_map];congr 1;funext cells;simp only[Function.comp,vh];split<;>simp
theorem MY(T:S)(mu:Bool)(sz a:Nat)(x y:I):(q3 T mu sz a x y).map vh=cp T.ah mu sz a x y:=by
 unfold q3 cp;have b:∀i,T.ah.o i=T.t.get i:=λ_=>rfl;simp only[b];cases c:fe T.ah sz y with
 |none=>rfl
 | some p =>
  obtain⟨m,news⟩:=p;dsimp only;by_cases hs:news.all I.scalar=true
  · simp only [hs,not_true_eq_false,bR];cases x<;>try rfl
    · rename_i tk len cells;dsimp only;by_cases hm:m=0
      ·simp only[aa hm];rfl
      · simp only[ae hm];by_cases hc:¬(cells.length=len*sz∧(len+m)*a≤140737488355328∧len+m≤9223372036854775807)
        ·simp only[aa hc];rfl
        · simp only[ae hc];cases tk<;>cases mu<;>try (simp[vh];done)
          all_goals
           rename_i t;dsimp only;cases ht:T.t.get t<;>try rfl
           dsimp only;split<;>simp[vh]
    · rename_i id o len d;dsimp only;cases ht:T.t.get id<;>try rfl
      dsimp only;split
      ·rfl
      · split
        ·rfl
        · split
          ·simp[vh]
          ·split<;>simp[vh]
  ·simp only[hs,not_false_eq_true,aY];rfl
theorem MZ(T:S)(x:I):(tO T x).map vh=nj T.ah x:=by unfold tO nj;cases x<;>simp[vh]
theorem M0(T:S)(x:I):(tP T x).map vh=kO T.ah x:=by
 have a:∀i,T.ah.o i=T.t.get i:=λ_=>rfl;cases x<;>try rfl
 rename_i id off;cases off with
 |succ k=>rfl
 | zero=>
  simp only[tP,kO,a];cases ht:T.t.get id<;>try rfl
  dsimp only;split<;>simp[vh]
theorem M1(T:S)(mu:Bool)(sz a:Nat)(b:List I)(d cap:I):(pa T mu sz a b d cap).map vh=kn T.ah mu sz a b d cap:=by
 have go:∀n c:Int,(pa T mu sz a b (.int .i64 n) (.int .i64 c)).map vh=kn T.ah mu sz a b (.int .i64 n) (.int .i64 c):=by
  intro n c;simp only[pa,kn];by_cases h:0≤n∧n≤c∧a*c≤281474976710656∧c≤9223372036854775807∧b.length=sz
  · simp only[aa h];by_cases hm:mu=true
    ·simp only[aa hm];simp[vh]
    · simp only[ae hm];by_cases hn:n=c
      ·simp only[aa hn];rfl
      ·simp only[ae hn];rfl
  ·simp only[ae h];rfl
 cases d<;>try rfl
 rename_i k n;cases k<;>try rfl
 cases cap<;>try rfl
 rename_i k c;cases k<;>try rfl
 exact go n c
theorem M2(T:S)(sz:Nat)(x y:I):(q4 T sz x y).map vh=qB T.ah sz x y:=by
 have a:∀i,T.ah.o i=T.t.get i:=λ_=>rfl;unfold q4 qB;cases b:fe T.ah sz y with
 |none=>cases x<;>rfl
 | some p=>
  cases x<;>try rfl
  rename_i id o len c;simp only[a];cases ht:T.t.get id<;>try rfl
  dsimp only;split<;>simp[vh]
theorem M3(T:S)(kk:FK)(m k v:I):(q5 T kk m k v).map S.ah=qD T.ah kk m k v:=by
 have a:∀i,T.ah.o i=T.t.get i:=λ_=>rfl;cases m<;>try rfl
 rename_i id;simp only[q5,qD,a];cases ht:T.t.get id<;>try rfl
 rename_i es;dsimp only;by_cases h:plainKey kk k∧v.known
 · simp only[aa h];cases hf:iI kk k es 0 with
   |none=>rfl
   |some r=>cases r<;>simp
 ·simp only[ae h];rfl
theorem M4(T:S)(kk:FK)(m k:I):(tQ T kk m k).map S.ah=qE T.ah kk m k:=by
 have a:∀i,T.ah.o i=T.t.get i:=λ_=>rfl;cases m<;>try rfl
 rename_i id;simp only[tQ,qE,a];cases ht:T.t.get id<;>try rfl
 rename_i es;dsimp only;by_cases h:plainKey kk k
 · simp only[aa h];cases hf:iI kk k es 0 with
   |none=>rfl
   |some r=>cases r<;>simp
 ·simp only[ae h];rfl
theorem Dl(T:S)(x:I):(nB T x).map vh=jQ T.ah x:=by
 have b:∀i,T.ah.o i=T.t.get i:=λ_=>rfl;cases x<;>try rfl
 · rename_i id o;simp only[nB,jQ,b];cases ht:T.t.get id<;>try rfl
   rename_i cs;dsimp only;show aaR vh (match gR T.ah.o cs with
     |some (l,a)=>if a=id then none else some (.ptr id o,(T.set a .gone).set id (.row l))
     |none=>some (.af (cs.drop o),T.set id .gone))=_
   cases gR T.ah.o cs with
   |none=>simp[vh]
   | some q=>
    obtain⟨l,a⟩:=q;dsimp only;by_cases e:a=id
    ·rw[aa e,aa e];rfl
    ·rw[ae e,ae e];simp[vh]
 · rename_i id o len sz;simp only[nB,jQ,b];cases ht:T.t.get id<;>try rfl
   dsimp only;split<;>simp[vh]
 · rename_i cells;simp only[nB,jQ];show aaR vh (match gR T.ah.o cells with|some (l,id)=>some (.agg l,T.set id .gone)|none=>some (.agg cells,T))=_;cases gR T.ah.o cells with
   |none=>rfl
   |some q=>simp[vh]
end Rb

namespace Rb
open Go
variable{n:Nat}{env:Env}{Φ:aj}{H:Z}{ops:List bz}{o:bz}
noncomputable section
abbrev EV:=List (Nat×I)
def dK(E:EV)(t:Nat):I:=aaS (motive:=λ_=>I) .bot (λp _ a=>cond (aaO p.1 t) p.2 a) E
def eP(n:Nat)(E:EV)(t:Nat)(v:I):EV:=cond (aaT t n) ((t,v)::E) E
def e_(n:Nat)(E:EV)(d:Option Nat)(v:I):EV:=
 match d with
 |some t=>eP n E t v
 |none=>E
theorem M5(a b:Nat):aaO a b=decide (a=b):=by rw[aal];simp
theorem M6(a b:Nat):aaT a b=decide (a<b):=by rw[aal];simp[aaT];omega
theorem tS(t:Nat)(v:I)(E:EV)(i:Nat):dK ((t,v)::E) i=if t=i then v else dK E i:=by show cond (aaO t i) v (dK E i)=_;rw[M5,cond_eq_ite];simp
def dm(n:Nat)(E:EV)(env:Env):Prop:=env.length=n∧∀i,dK E i=env.getD i .bot
theorem dm.set{E:EV}(h:dm n E env)(t:Nat)(v:I):dm n (eP n E t v) (env.set t v):=by
 refine⟨by simp[h.1],λi=>?_⟩;unfold eP;rw[M6,cond_eq_ite];by_cases ht:t<n
 · rw[aa (by simpa using ht),tS,Zm,Ys];by_cases e:t=i
   ·rw[aa e,aa e,aa (by rw[h.1];exact ht)];rfl
   ·rw[ae e,ae e,←Zm];exact h.2 i
 · rw[ae (by simpa using ht),aaG (by rw[h.1];omega)];exact h.2 i
theorem dm.bO{E:EV}(h:dm n E env)(d:Option Nat)(v:I):dm n (e_ n E d v) (Rb.bO env d v):=by
 cases d with
 |none=>exact h
 |some t=>exact h.set t v
def lX:List I→Nat→EV
 |[],_=>[]
 |a::r,i=>(i,a)::lX r (i+1)
theorem yy:∀(args:List I)(i j:Nat),dK (lX args i) j=if j<i then .bot else args.getD (j-i) .bot
 |[],i,j=>by simp[lX,dK]
 | a :: r,i,j=>by
  rw[lX,tS,yy r (i+1) j];by_cases h:i=j
  ·subst h;simp
  · rw[ae h];by_cases b:j<i
    ·rw[cY,aa b]
    ·rw[bC,ae b,show j-i=(j-(i+1))+1 by omega];simp
def aW.sub(E:EV):aW→aW
 | .t n=> .k (dK E n)
 | .k v=> .k v
theorem tU{E:EV}(h:dm n E env)(x:aW):(x.sub E).ev []=x.ev env:=by
 cases x with
 |t i=>exact h.2 i
 |k v=>rfl
def dO.sub(E:EV):dO→dO
 | .mv x=> .mv (x.sub E)
 | .pick c a b=> .pick (c.sub E) (a.sub E) (b.sub E)
 | .bin op x y=> .bin op (x.sub E) (y.sub E)
 | .beq neg x y=> .beq neg (x.sub E) (y.sub E)
 | .jx k neg x=> .jx k neg (x.sub E)
 | .iJ neg ks x y=> .iJ neg ks (x.sub E) (y.sub E)
 | .un op x=> .un op (x.sub E)
 | .conv k x=> .conv k (x.sub E)
 | .same x=> .same (x.sub E)
 | .jR x=> .jR (x.sub E)
 | .field off sz agg x=> .field off sz agg (x.sub E)
 | .idx l sz agg x i=> .idx l sz agg (x.sub E) (i.sub E)
 | .idxs x i=> .idxs (x.sub E) (i.sub E)
 | .gG off x=> .gG off (x.sub E)
 | .fS arr sz x i=> .fS arr sz (x.sub E) (i.sub E)
 | .slice sz x lo hi mx=> .slice sz (x.sub E) (lo.map (aW.sub E)) (hi.map (aW.sub E)) (mx.map (aW.sub E))
 | .jS x lo hi=> .jS (x.sub E) (lo.map (aW.sub E)) (hi.map (aW.sub E))
 | .hx t x=> .hx t (x.sub E)
 | .gS key bx=> .gS key (bx.map (aW.sub E))
 | .extract i x=> .extract i (x.sub E)
 | .build zero parts=> .build zero (parts.map λp=>(p.1,p.2.1,p.2.2.sub E))
 | .len str x=> .len str (x.sub E)
 | .hy n=> .hy n
 | .cap x=> .cap (x.sub E)
 | .hC mx xs=> .hC mx (xs.map (aW.sub E))
 | .load n agg x=> .load n agg (x.sub E)
 | .store n x v=> .store n (x.sub E) (v.sub E)
 | .box mu n x=> .box mu n (x.sub E)
 | .alloc mu zero=> .alloc mu zero
 | .gH mu sz l zero parts=> .gH mu sz l zero (parts.map λp=>(p.1,p.2.1,p.2.2.sub E))
 | .append mu sz bytes x y=> .append mu sz bytes (x.sub E) (y.sub E)
 | .make mu sz bytes zero l c=> .make mu sz bytes zero (l.sub E) (c.sub E)
 | .copy sz x y=> .copy sz (x.sub E) (y.sub E)
 | .gT=> .gT
 | .lookup kk zero ok m k=> .lookup kk zero ok (m.sub E) (k.sub E)
 | .hD kk m k v=> .hD kk (m.sub E) (k.sub E) (v.sub E)
 | .delete kk m k=> .delete kk (m.sub E) (k.sub E)
 | .hE m=> .hE (m.sub E)
 | .jT x=> .jT (x.sub E)
 | .hI x=> .hI (x.sub E)
 | .h6 x=> .h6 (x.sub E)
 | .h7 x=> .h7 (x.sub E)
 | .call key args=> .call key (args.map (aW.sub E))
 | .h8 f args=> .h8 (f.sub E) (args.map (aW.sub E))
 | .ext e xs=> .ext e (xs.map (aW.sub E))
 | .inv hJ x args=> .inv hJ (x.sub E) (args.map (aW.sub E))
theorem tV{E:EV}(h:dm n E env){K:ad}(op:dO):bX Φ [] H K (op.sub E)=bX Φ env H K op:=by
 have h1:=tU h;have hl:∀xs:List aW,ec [] (xs.map (aW.sub E))=ec env xs:=λxs=>by simp only[ec,aaU];congr 1;funext x;exact h1 x
 have hp:∀xs:List (Nat×Nat×aW),fC [] (xs.map λp=>(p.1,p.2.1,p.2.2.sub E))=fC env xs:=λxs=>by simp only[fC,aaU];congr 1;funext x;simp[h1]
 have a:∀x:Option aW,(x.map (aW.sub E)).map (aW.ev [])=x.map (aW.ev env):=λx=>by cases x<;>simp[h1]
 cases op<;>simp only[dO.sub,bX,h1,hl,hp,a]
abbrev jY:=EV→Z→Prop
def jZ(Φ:aj)(n:Nat):List bz→EV→Z→jY→Prop
 |[],E,H,K=>K E H
 | o :: r,E,H,K=>
  match o.guard with
  |none=>bX Φ [] H (λv H'=>jZ Φ n r (e_ n E o.dst v) H' K) (o.op.sub E)
  | some (s,want)=>
   aL (dK E s) want (bX Φ [] H (λv H'=>jZ Φ n r (e_ n (eP n E s (.bool want)) o.dst v) H' K) (o.op.sub (eP n E s (.bool want))))
    (jZ Φ n r (e_ n (eP n E s (.bool !want)) o.dst (.ar [])) H K) (jZ Φ n r (e_ n (eP n E s (.ar [])) o.dst (.ar [])) H K)
theorem aL.imp{v:I}{b:Bool}{A B C c d e:Prop}(hA:A→c)(hB:B→d)(f:C→e)(h:aL v b A B C):aL v b c d e:=by
 unfold aL at *;split at h
 · split at h
   ·rename_i a;simp[a,hA h]
   ·rename_i a;simp[a,hB h]
 ·exact f h
 ·exact h.elim
theorem yz(c:jd Φ):∀{l:List bz}{E:EV}{env:Env}{H:Z}{K:jY}{Q:Env→Z→Prop},dm n E env→jZ Φ n l E H K→(∀E' ax H',dm n E' ax→K E' H'→Q ax H')→ib Φ l env H Q:=by
 intro l;induction l with
 |nil=>intro E env H K Q ha h a;exact a _ _ _ ha h
 | cons o r b=>
  intro E env H K Q ha h a;simp only[jZ]at h;simp only[ib];cases d:o.guard with
  | none=>rw[d]at h;dsimp only at h ⊢;rw[tV ha]at h;exact oZ c (λv H' h=>b (ha.bO _ _) h a) h
  | some g=>obtain⟨s,want⟩:=g;rw[d]at h;dsimp only at h ⊢;rw[ha.2 s,tV (ha.set s _)]at h;exact aL.imp (oZ c λv H' h=>b ((ha.set _ _).bO _ _) h a) (λh=>b ((ha.set _ _).bO _ _) h a) (λh=>b ((ha.set _ _).bO _ _) h a) h
def pb(Φ:aj)(n:Nat)(o:bz)(E:EV)(H:Z)(K:jY):Prop:=
 match o.guard with
 |none=>bX Φ [] H (λv H'=>K (e_ n E o.dst v) H') (o.op.sub E)
 | some (s,want)=>
  aL (dK E s) want (bX Φ [] H (λv H'=>K (e_ n (eP n E s (.bool want)) o.dst v) H') (o.op.sub (eP n E s (.bool want))))
   (K (e_ n (eP n E s (.bool !want)) o.dst (.ar [])) H) (K (e_ n (eP n E s (.ar [])) o.dst (.ar [])) H)
theorem Dm(b:jd Φ){E:EV}{K:jY}{Q:Env→Z→Prop}(ha:dm n E env)(h:pb Φ n o E H K)(a:∀E' ax H',dm n E' ax→K E' H'→Q ax H'):jy Φ o env H Q:=by
 unfold pb at h;unfold jy;cases c:o.guard with
 | none=>rw[c]at h;dsimp only at h ⊢;rw[tV ha]at h;exact oZ b (λv H' h=>a _ _ _ (ha.bO _ _) h) h
 | some g=>obtain⟨s,want⟩:=g;rw[c]at h;dsimp only at h ⊢;rw[ha.2 s,tV (ha.set s _)]at h;exact aL.imp (oZ b λv H' h=>a _ _ _ ((ha.set _ _).bO _ _) h) (λh=>a _ _ _ ((ha.set _ _).bO _ _) h) (λh=>a _ _ _ ((ha.set _ _).bO _ _) h) h
def mI(Φ:aj)(n:Nat)(ops:List bz):List Nat→EV→Z→jY→Prop
 |[],E,H,K=>K E H
 | i::r,E,H,K=>match ops[i]? with
  |some o=>pb Φ n o E H λE' H'=>mI Φ n ops r E' H' K
  |none=>False
theorem Dn(b:jd Φ):∀{l:List Nat}{E:EV}{env:Env}{H:Z}{K:jY}{Q:Env→Z→Prop},dm n E env→mI Φ n ops l E H K→(∀E' ax H',dm n E' ax→K E' H'→Q ax H')→kR Φ ops l env H Q:=by
 intro l;induction l with
 |nil=>intro E env H K Q ha h a;exact a _ _ _ ha h
 | cons i r c=>
  intro E env H K Q ha h a;simp only[mI]at h;simp only[kR];split at h
  · rename_i o d;rw[d];exact Dm b ha h λE' ax H' e f=>c e f a
  ·exact h.elim
def pd(E:EV)(H:Z)(o:bz):Prop:=
 match o.op with
 | .load n agg x=>O H n agg ((x.sub E).ev [])=some (dK E (o.dst.getD 0))
 | .lookup kk zero ok m k=>kP H kk zero ok ((m.sub E).ev []) ((k.sub E).ev [])=some (dK E (o.dst.getD 0))
 | .hE m=>kQ H ((m.sub E).ev [])=some (dK E (o.dst.getD 0))
 | .hI x=>abstr H ((x.sub E).ev [])=some (dK E (o.dst.getD 0))
 |_=>True
def q6(E:EV)(H:Z)(o:bz):Prop:=
 match o.guard with
 |none=>pd E H o
 |some (s,want)=>dK E s = .bool want→pd E H o
theorem M7{E:EV}(ha:dm n E env)(h:q6 E H o):qK env H o:=by
 have h1:=tU ha;have fin:pd E H o→oH env H o:=by unfold pd oH;intro h;cases b:o.op<;>rw[b]at h<;>dsimp only at h ⊢ <;> (try rw[h1]at h)<;>(try rw[h1]at h)<;>(try rw[ha.2]at h)<;>exact h
 unfold q6 at h;unfold qK;cases a:o.guard with
 |none=>rw[a]at h;exact fin h
 | some g=>obtain⟨s,want⟩:=g;rw[a]at h;dsimp only at h ⊢;rw[ha.2]at h;exact λhs=>fin (h hs)
def tW(ops:List bz)(E:EV)(H:Z)(X:Prop):List Nat→Prop
 |[]=>X
 |l::r=>(match ops[l]? with|some o=>q6 E H o|none=>True)∧tW ops E H X r
theorem M8{E:EV}(ha:dm n E env){X Y:Prop}(a:X→Y):∀{l:List Nat},tW ops E H X l→fU ops env H Y l:=by
 intro l;induction l with
 |nil=>intro h;exact a h
 | cons i r b=>
  intro h;refine⟨?_,b h.2⟩;have h1:=h.1;cases c:ops[i]? with
  |none=>trivial
  |some o=>rw[c]at h1;exact M7 ha h1
def pe(Φ:aj)(n:Nat)(ops:List bz)(a:List Nat):List (List Nat×Nat×List Nat)→EV→Z→jY→Prop
 |[],E,H,K=>mI Φ n ops a E H K
 | (c,e,st)::r,E,H,K=>mI Φ n ops c E H λb H1=>match ops[e]? with
  |some o=>pb Φ n o b H1 λd H2=>tW ops b H2 (pe Φ n ops a r d H2 K) st
  |none=>False
theorem Dp(a:jd Φ){c:List Nat}:∀{bf:List (List Nat×Nat×List Nat)}{E:EV}{env:Env}{H:Z}{K:jY}{Q:Env→Z→Prop},dm n E env→pe Φ n ops c bf E H K→(∀E' ax H',dm n E' ax→K E' H'→Q ax H')→ja Φ ops c bf env H Q:=by
 intro bf;induction bf with
 |nil=>intro E env H K Q ha h b;exact Dn a ha h b
 | cons p r g=>
  obtain⟨j,e,st⟩:=p;intro E env H K Q ha h b;simp only[pe]at h;simp only[ja];refine Dn a ha h λk e1 H1 d h1=>?_;cases f:ops[e]? with
  |none=>rw[f]at h1;exact h1.elim
  | some o=>rw[f]at h1;exact Dm a d h1 λl m H2 fH i=>M8 d (λh=>g fH h b) i
def hR(E:EV)(vs:List Nat):List I:=vs.map λt=>dK E t
def j0(n:Nat)(E:EV):List Nat→EV
 |[]=>E
 |t::r=>j0 n (eP n E t .bot) r
def iP(n:Nat)(E:EV):List Nat→List I→EV
 |t::r,s=>iP n (eP n E t (s.headD .bot)) r s.tail
 |[],_=>E
theorem dm.er{E:EV}(h:dm n E env)(vs:List Nat):hR E vs=Rb.er env vs:=by simp only[hR,Rb.er];congr 1;funext t;exact h.2 t
theorem dm.eX{n:Nat}:∀(ks:List Nat){E:EV}{env:Env},dm n E env→dm n (j0 n E ks) (Rb.eX env ks)
 |[],_,_,h=>h
 |t::r,_,_,h=>dm.eX r (h.set t _)
theorem dm.ic{n:Nat}:∀(vs:List Nat)(a:List I){E:EV}{env:Env},dm n E env→dm n (iP n E vs a) (Rb.ic env vs a)
 |[],_,_,_,h=>h
 |t::r,a,_,_,h=>dm.ic r a.tail (h.set t _)
def eY(Φ:aj)(n:Nat):c0→EV→Z→(ff→EV→Z→Prop)→Prop
 | .skip,E,H,Q=>Q .normal E H
 | .region ops,E,H,Q=>jZ Φ n ops E H (Q .normal)
 | .draw ops _ bf last,E,H,Q=>pe Φ n ops last bf E H (Q .normal)
 | .seq a b,E,H,Q=>eY Φ n a E H λe E' H'=>match e with
  | .normal=>eY Φ n b E' H' Q
  |e=>Q e E' H'
 | .join vs ks a b,E,H,Q=>eY Φ n a E H λe E' H'=>match e with
  | .normal=>N (λst c=>eY Φ n b (iP n (j0 n E ks) vs st) c Q) (hR E' vs) H'
  |e=>Q e E' H'
 | .cond x a b,E,H,Q=>Gd ((x.sub E).ev []) true (eY Φ n a E H Q) (eY Φ n b E H Q)
 | .block id a,E,H,Q=>eY Φ n a E H λe E' H'=>match e with
  | .exit d=>if d=id then Q .normal E' H' else Q (.exit d) E' H'
  |e=>Q e E' H'
 | .loop vs ks a,E,H,Q=>
  aA (λ(s:List I×Z) (K:List I×Z→Prop)=>
    eY Φ n a (iP n (j0 n E ks) vs s.1) s.2 λe E' H'=>match e with
     | .normal=>K (hR E' vs,H')
     |e=>Q e E' H') (hR E vs,H)
 | .exit id,E,H,Q=>Q (.exit id) E H
 | .ret,E,H,Q=>Q .ret E H
 | .freeze t a,E,H,Q=>au (jQ H (dK E t)) λv H'=>eY Φ n a (eP n E t v) H' Q
 | .gq vs ks ops b,E,H,Q=>jZ Φ n ops E H λE' H'=>N (λst c=>eY Φ n b (iP n (j0 n E ks) vs st) c Q) (hR E' vs) H'
theorem aA.imp{a:Type}{F b:a→(a→Prop)→Prop}(hF:∀s K,F s K→b s K){s:a}(h:aA F s):aA b s:=λc d=>h c λs K hs e=>d s K (hF s K hs) e
theorem M9(m:jd Φ):∀{c:c0}{E:EV}{env:Env}{H:Z}{K:ff→EV→Z→Prop}{Q:ff→Env→Z→Prop},dm n E env→eY Φ n c E H K→(∀x E' ax H',dm n E' ax→K x E' H'→Q x ax H')→cn Φ c env H Q:=by
 intro c;induction c with
 |skip=>intro E env H K Q ha h d;exact d _ _ _ _ ha h
 |region ops=>intro E env H K Q ha h d;exact yz m ha h λ_ _ _ ha h=>d _ _ _ _ ha h
 |draw ops pr bf last=>intro E env H K Q ha h d;exact Dp m ha h λ_ _ _ ha h=>d _ _ _ _ ha h
 | seq a b j k=>
  intro E env H K Q ha h d;simp only[eY]at h;simp only[cn];refine j ha h λx E' l H' f e=>?_;cases x with
  |normal=>exact k f e d
  |exit i=>exact d _ _ _ _ f e
  |ret=>exact d _ _ _ _ f e
 | join vs ks a b j k=>
  intro E env H K Q ha h d;simp only[eY]at h;simp only[cn];refine j ha h λx E' l H' f e=>?_;cases x with
  | normal=>dsimp only at e ⊢;rw[f.er vs]at e;exact k ((ha.eX ks).ic vs _) e d
  |exit i=>exact d _ _ _ _ f e
  |ret=>exact d _ _ _ _ f e
 | cond x a b j k=>intro E env H K Q ha h d;simp only[eY,tU ha]at h;exact Gd.mono (λh=>j ha h d) (λh=>k ha h d) h
 | block id a g=>
  intro E env H K Q ha h d;simp only[eY]at h;simp only[cn];refine g ha h λx E' l H' f e=>?_;cases x with
  |normal=>exact d _ _ _ _ f e
  | exit i=>
   dsimp only at e ⊢;split
   ·rename_i hi;rw[aa hi]at e;exact d _ _ _ _ f e
   ·rename_i hi;rw[ae hi]at e;exact d _ _ _ _ f e
  |ret=>exact d _ _ _ _ f e
 | loop vs ks a g=>
  intro E env H K Q ha h d;simp only[eY]at h;simp only[cn];rw[ha.er vs]at h;refine aA.imp (λs K' hs=>g ((ha.eX ks).ic vs s.1) hs λx E' l H' f e=>?_) h;cases x with
  |normal=>dsimp only at e ⊢;rw[←f.er vs];exact e
  |exit i=>exact d _ _ _ _ f e
  |ret=>exact d _ _ _ _ f e
 |exit id=>intro E env H K Q ha h d;exact d _ _ _ _ ha h
 |ret=>intro E env H K Q ha h d;exact d _ _ _ _ ha h
 | freeze t a g=>intro E env H K Q ha h d;simp only[eY]at h;simp only[cn];rw[ha.2 t]at h;exact au.mono (λv H' e=>g (ha.set t v) e d) h
 | gq vs ks ops b g=>intro E env H K Q ha h d;simp only[eY]at h;simp only[cn];refine yz m ha h λE' l H' f e=>?_;rw[f.er vs]at e;exact g ((ha.eX ks).ic vs _) e d
def nC(E:EV)(H:Z):List jz→(List I→Prop)→Prop
 |[],K=>K []
 | .tmp t::r,K=>nC E H r λvs=>K (dK E t::vs)
 | .cell t n agg::r,K=>Do (O H n agg (dK E t)) λv=>nC E H r λvs=>K (v::vs)
theorem yA{E:EV}(ha:dm n E env):∀{rs:List jz}{K:List I→Prop},nC E H rs K=kS env H rs K:=by
 intro rs;induction rs with
 |nil=>intro K;rfl
 | cons r rs a=>
  intro K;cases r with
  |tmp t=>simp only[nC,kS,a,ha.2]
  |cell t n agg=>simp only[nC,kS,a,ha.2]
def yB(Φ:aj)(f:aT)(args:List I)(H:Z)(Q:ad):Prop:=
 eY Φ f.ntmps f.body (lX args 0) H λe E H'=>match e with
  | .exit _=>False
  |_=>nC E H' f.results λvs=>Q (mA vs) H'
def yC(Φ:aj)(f:aT)(args:List I)(H:Z)(Q:ad):Prop:=args.length≤f.ntmps∧yB Φ f args H Q
theorem M_(c:jd Φ){f:aT}{args:List I}{Q:ad}(h:yC Φ f args H Q):oI Φ f args H Q:=by
 have ha:dm f.ntmps (lX args 0) (args++XY (f.ntmps-args.length) .bot):=by
  refine⟨by simp;have:=h.1;omega,λi=>?_⟩;rw[yy];simp only[aaV,bR,aaW];simp only[Zm];by_cases hi:i<args.length
  ·rw[ZE hi]
  · rw[ZF (by omega),aah (by omega),aaJ];split<;>rfl
 refine M9 c ha h.2 λx E' d H' b a=>?_;cases x with
 |normal=>dsimp only at a ⊢;rw[yA b]at a;exact a
 |exit i=>exact a
 |ret=>dsimp only at a ⊢;rw[yA b]at a;exact a
end
end Rb

namespace Rb
open Go
variable{Φ:aj}{B:dC}{T:S}{n fuel:Nat}{E:EV}{K:fX}{Q:ad}{P:Prop}{o:bz}{ops:List bz}{v:I}{want:Bool}
def yD(Φ:dC)(f:I)(args:List I)(T:S)(K:fX):Bool:=
 match f with
 | .fn key bx=>Φ (h_ key) (ia key args bx) T K
 |_=>false
def yE(Φ:dC)(hJ:List (TypeId×Nat×Option (Nat×Bool)))(x:I)(args:List I)(T:S)(K:fX):Bool:=
 match x with
 | .iface t v=>(match qG hJ t with
   | some r=>(match qH T.ah r.2 v with
     |some u=>Φ r.1 (u::args) T K
     |none=>false)
   |none=>false)
 |_=>false
def lY(Φ:dC)(d:Env)(T:S)(K:fX):dO→Bool
 | .mv x=>K (x.ev d) T
 | .pick c a b=>o9 (c.ev d) true (K (a.ev d) T) (K (b.ev d) T)
 | .bin op x y=>dJ (ab op (x.ev d) (y.ev d)) λv=>K v T
 | .beq neg x y=>dJ (kM neg (x.ev d) (y.ev d)) λv=>K v T
 | .jx k neg x=>dJ (my k neg (x.ev d)) λv=>K v T
 | .iJ neg ks x y=>dJ (km neg ks (x.ev d) (y.ev d)) λv=>K v T
 | .un op x=>dJ (cI op (x.ev d)) λv=>K v T
 | .conv k x=>dJ (e6 k (x.ev d)) λv=>K v T
 | .same x=>dJ (oB (x.ev d)) λv=>K v T
 | .jR x=>dJ (aX (x.ev d)) λv=>K v T
 | .field off sz agg x=>dJ (nh off sz agg (x.ev d)) λv=>K v T
 | .idx len sz agg x i=>dJ (lQ len sz agg (x.ev d) (i.ev d)) λv=>K v T
 | .idxs x i=>dJ (jP (x.ev d) (i.ev d)) λv=>K v T
 | .gG off x=>dJ (W off (x.ev d)) λv=>K v T
 | .fS arr sz x i=>dJ (aO arr sz (x.ev d) (i.ev d)) λv=>K v T
 | .slice sz x lo hi mx=>dJ (c9 sz (x.ev d) (lo.map (aW.ev d)) (hi.map (aW.ev d)) (mx.map (aW.ev d))) λv=>K v T
 | .jS x lo hi=>dJ (oC (x.ev d) (lo.map (aW.ev d)) (hi.map (aW.ev d))) λv=>K v T
 | .hx t x=>K (.iface t (x.ev d)) T
 | .gS key bx=>K (.fn key (ec d bx)) T
 | .extract i x=>dJ (bh i (x.ev d)) λv=>K v T
 | .build zero parts=>dJ (bm zero (fC d parts)) λv=>K v T
 | .len str x=>dJ (bo str (x.ev d)) λv=>K v T
 | .hy n=>K (.int .i64 n) T
 | .cap x=>dJ (qF (x.ev d)) λv=>K v T
 | .hC mx xs=>dJ (fo mx (ec d xs)) λv=>K v T
 | .load n agg x=>dJ (O T.ah n agg (x.ev d)) λv=>K v T
 | .store n x v=>dJ (q0 T n (x.ev d) (v.ev d)) λT=>K (.ar []) T
 | .box mu n x=>hP (q1 T mu n (x.ev d)) K
 | .alloc mu zero=>hP (some (o_ T mu zero)) K
 | .gH mu sz len zero parts=>hP (q2 T mu sz len zero (fC d parts)) K
 | .append mu sz bytes x y=>hP (q3 T mu sz bytes (x.ev d) (y.ev d)) K
 | .make mu sz bytes zero len cap=>hP (pa T mu sz bytes zero (len.ev d) (cap.ev d)) K
 | .copy sz x y=>hP (q4 T sz (x.ev d) (y.ev d)) K
 | .gT=>K (.map T.n) (T.push (.map []))
 | .lookup kk zero ok m k=>dJ (kP T.ah kk zero ok (m.ev d) (k.ev d)) λv=>K v T
 | .hD kk m k v=>dJ (q5 T kk (m.ev d) (k.ev d) (v.ev d)) λT=>K (.ar []) T
 | .delete kk m k=>dJ (tQ T kk (m.ev d) (k.ev d)) λT=>K (.ar []) T
 | .hE m=>dJ (kQ T.ah (m.ev d)) λv=>K v T
 | .jT x=>dJ (oE (x.ev d)) λv=>K v T
 | .hI x=>dJ (abstr T.ah (x.ev d)) λv=>K v T
 | .h6 x=>hP (tO T (x.ev d)) K
 | .h7 x=>hP (tP T (x.ev d)) K
 | .call key args=>Φ key (ec d args) T K
 | .h8 f args=>yD Φ (f.ev d) (ec d args) T K
 | .ext e xs=>hP (text T e (ec d xs)) K
 | .inv hJ x args=>yE Φ hJ (x.ev d) (ec d args) T K
def eQ(Φ:aj)(B:dC):Prop:=∀k args T (K:fX),B k args T K=true→∀Q:ad,(∀v a,K v a=true→Q v a.ah)→Φ k args T.ah Q
theorem Dq{α:Type}{x:Option α}{K:α→Bool}{P:α→Prop}(h:dJ x K=true)(b:∀a,K a=true→P a):Do x P:=by
 cases x with
 |none=>cases h
 |some a=>exact⟨a,rfl,b a h⟩
theorem kv{x:Option (I×S)}{y:Option (I×Z)}(c:x.map vh=y)(h:hP x K=true)(d:∀v b,K v b=true→Q v b.ah):au y Q:=by
 cases x with
 |none=>cases h
 |some a=>subst c;exact⟨a.1,a.2.ah,rfl,d _ _ h⟩
theorem yF{x:Option S}{y:Option Z}{K:S→Bool}{P:Z→Prop}(c:x.map S.ah=y)(h:dJ x K=true)(d:∀b,K b=true→P b.ah):Do y P:=by
 cases x with
 |none=>cases h
 |some a=>subst c;exact⟨a.ah,rfl,d _ h⟩
theorem yG{A B:Bool}{P Q:Prop}(h:o9 v want A B=true)(hA:A=true→P)(hB:B=true→Q):Gd v want P Q:=by
 cases v<;>first|cases h|skip
 rename_i b;simp only[o9]at h;unfold Gd;dsimp only;split
 ·rename_i e;subst e;simp at h;exact hA h
 · rename_i e;have:(b ^^ want)=true:=by cases b<;>cases want<;>simp_all
   rw[this]at h;exact hB h
theorem tX(hB:eQ Φ B){b:Env}{op:dO}(h:lY B b T K op=true)(a:∀v c,K v c=true→Q v c.ah):bX Φ b T.ah Q op:=by
 cases op with
 |mv=>exact a _ _ h
 |pick=>exact yG h (a _ _) (a _ _)
 |hx=>exact a _ _ h
 |gS=>exact a _ _ h
 |hy=>exact a _ _ h
 |store=>exact yF (MV _ _ _ _) h λ_ h=>a _ _ h
 |hD=>exact yF (M3 _ _ _ _ _) h λ_ h=>a _ _ h
 |delete=>exact yF (M4 _ _ _ _) h λ_ h=>a _ _ h
 |box=>exact kv (MW _ _ _ _) h a
 |alloc mu zero=>exact kv (x:=some (o_ T mu zero)) (by simp only[Yi,Dk]) h a
 |gH=>exact kv (MX _ _ _ _ _ _) h a
 |append=>exact kv (MY _ _ _ _ _ _) h a
 |make=>exact kv (M1 _ _ _ _ _ _ _) h a
 |copy=>exact kv (M2 _ _ _ _) h a
 |gT=>have:=a _ _ h;rw[S.MS]at this;exact this
 |h6=>exact kv (MZ _ _) h a
 |h7=>exact kv (M0 _ _) h a
 |call key args=>exact hB _ _ _ _ h _ a
 | h8 f args=>
  simp only[lY,yD]at h;split at h
  · rename_i key bx hf;exact⟨key,bx,hf,hB _ _ _ _ h _ a⟩
  ·cases h
 |ext=>exact kv (MU _ _ _) h a
 | inv hJ x args=>
  simp only[lY,yE]at h;split at h
  · rename_i t v d;split at h
    · rename_i r e;split at h
      · rename_i u hu;exact⟨t,v,r,u,d,e,hu,hB _ _ _ _ h _ a⟩
      ·cases h
    ·cases h
  ·cases h
 |_=>exact Dq h λ_ h=>a _ _ h
def q7(v:I)(want:Bool)(A B C:Bool):Bool:=
 match v with
 | .bool b=>bif aaQ b want then B else A
 | .ar []=>C
 |_=>false
theorem Dr{A B C:Bool}{P Q R:Prop}(h:q7 v want A B C=true)(hA:A=true→P)(hB:B=true→Q)(a:C=true→R):aL v want P Q R:=by
 unfold q7 at h;unfold aL;split at h
 · rename_i b;dsimp only;split
   ·rename_i e;subst e;simp at h;exact hA h
   · rename_i e;have:(b ^^ want)=true:=by cases b<;>cases want<;>simp_all
     rw[this]at h;exact hB h
 ·exact a h
 ·cases h
noncomputable section
def k6(Φ:dC)(n:Nat):List bz→EV→S→(EV→S→Bool)→Bool
 |[],E,T,K=>K E T
 | o :: r,E,T,K=>
  match o.guard with
  |none=>lY Φ [] T (λv a=>k6 Φ n r (e_ n E o.dst v) a K) (o.op.sub E)
  | some (s,want)=>
   q7 (dK E s) want (lY Φ [] T (λv a=>k6 Φ n r (e_ n (eP n E s (.bool want)) o.dst v) a K) (o.op.sub (eP n E s (.bool want))))
    (k6 Φ n r (e_ n (eP n E s (.bool !want)) o.dst (.ar [])) T K) (k6 Φ n r (e_ n (eP n E s (.ar [])) o.dst (.ar [])) T K)
theorem yH(hB:eQ Φ B):∀{l:List bz}{E:EV}{T:S}{K:EV→S→Bool}{Q:jY},k6 B n l E T K=true→(∀e b,K e b=true→Q e b.ah)→jZ Φ n l E T.ah Q:=by
 intro l;induction l with
 |nil=>intro E T K Q h a;exact a _ _ h
 | cons o r c=>
  intro E T K Q h a;simp only[k6]at h;simp only[jZ];cases f:o.guard with
  | none=>rw[f]at h;exact tX hB h (Q:=λv H'=>jZ Φ n r (e_ n E o.dst v) H' Q) λv b d=>c d a
  | some g=>obtain⟨s,want⟩:=g;rw[f]at h;exact Dr h (λh=>tX hB h (Q:=λv H'=>jZ Φ n r (e_ n (eP n E s (.bool want)) o.dst v) H' Q) λv b d=>c d a) (λh=>c h a) λh=>c h a
def nD(Φ:dC)(n:Nat)(o:bz)(E:EV)(T:S)(K:EV→S→Bool):Bool:=
 match o.guard with
 |none=>lY Φ [] T (λv a=>K (e_ n E o.dst v) a) (o.op.sub E)
 | some (s,want)=>
  q7 (dK E s) want (lY Φ [] T (λv a=>K (e_ n (eP n E s (.bool want)) o.dst v) a) (o.op.sub (eP n E s (.bool want))))
   (K (e_ n (eP n E s (.bool !want)) o.dst (.ar [])) T) (K (e_ n (eP n E s (.ar [])) o.dst (.ar [])) T)
theorem Ds(hB:eQ Φ B){K:EV→S→Bool}{Q:jY}(h:nD B n o E T K=true)(a:∀e b,K e b=true→Q e b.ah):pb Φ n o E T.ah Q:=by
 unfold nD at h;unfold pb;cases d:o.guard with
 | none=>rw[d]at h;exact tX hB h (Q:=λv H'=>Q (e_ n E o.dst v) H') λv b c=>a _ _ c
 | some g=>obtain⟨s,want⟩:=g;rw[d]at h;exact Dr h (λh=>tX hB h (Q:=λv H'=>Q (e_ n (eP n E s (.bool want)) o.dst v) H') λv b c=>a _ _ c) (λh=>a _ _ h) λh=>a _ _ h
def nE(Φ:dC)(n:Nat)(ops:List bz):List Nat→EV→S→(EV→S→Bool)→Bool
 |[],E,T,K=>K E T
 | i::r,E,T,K=>match ops[i]? with
  |some o=>nD Φ n o E T λE' a=>nE Φ n ops r E' a K
  |none=>false
theorem Dt(hB:eQ Φ B):∀{l:List Nat}{E:EV}{T:S}{K:EV→S→Bool}{Q:jY},nE B n ops l E T K=true→(∀e a,K e a=true→Q e a.ah)→mI Φ n ops l E T.ah Q:=by
 intro l;induction l with
 |nil=>intro E T K Q h b;exact b _ _ h
 | cons i r d=>
  intro E T K Q h b;simp only[nE]at h;simp only[mI];cases c:ops[i]? with
  |none=>rw[c]at h;cases h
  | some o=>rw[c]at h;exact Ds hB h (Q:=λe H'=>mI Φ n ops r e H' Q) λe a f=>d f b
def k7(x:Option I)(d:I):Bool:=
 match x with
 |some v=>v.same d
 |none=>false
def yI(g:I)(want:Bool)(X:Bool):Bool:=
 match g with
 | .bool b=>bif aaQ b want then true else X
 |_=>true
def pf(T:S)(E:EV)(o:bz):Bool:=
 match o.op with
 | .load n agg x=>k7 (O T.ah n agg ((x.sub E).ev [])) (dK E (o.dst.getD 0))
 | .lookup kk zero ok m k=>k7 (kP T.ah kk zero ok ((m.sub E).ev []) ((k.sub E).ev [])) (dK E (o.dst.getD 0))
 | .hE m=>k7 (kQ T.ah ((m.sub E).ev [])) (dK E (o.dst.getD 0))
 | .hI x=>k7 (abstr T.ah ((x.sub E).ev [])) (dK E (o.dst.getD 0))
 |_=>true
theorem Na{x:Option I}{d:I}(h:k7 x d=true):x=some d:=by
 unfold k7 at h;split at h
 ·rw[I.tM _ _ h]
 ·cases h
theorem Du(h:pf T E o=true):pd E T.ah o:=by unfold pf at h;unfold pd;cases a:o.op<;>rw[a]at h<;>first|trivial|exact Na h
def tY(T:S)(E:EV)(o:bz):Bool:=
 match o.guard with
 |none=>pf T E o
 |some (s,want)=>yI (dK E s) want (pf T E o)
theorem Nb(h:tY T E o=true):q6 E T.ah o:=by
 unfold tY at h;unfold q6;cases a:o.guard with
 |none=>rw[a]at h;exact Du h
 | some g=>obtain⟨s,want⟩:=g;rw[a]at h;dsimp only at h ⊢;intro hs;rw[hs]at h;simp only[yI,Bool.xor_self,cond_false]at h;exact Du h
def pg(ops:List bz)(E:EV)(T:S)(X:Bool):List Nat→Bool
 |[]=>X
 |l::r=>(match ops[l]? with|some o=>tY T E o|none=>true)&&pg ops E T X r
theorem Nc{X:Bool}(a:X=true→P):∀{l:List Nat},pg ops E T X l=true→tW ops E T.ah P l:=by
 intro l;induction l with
 |nil=>intro h;exact a h
 | cons i r b=>
  intro h;simp only[pg,X7]at h;refine⟨?_,b h.2⟩;have h1:=h.1;cases c:ops[i]? with
  |none=>trivial
  |some o=>rw[c]at h1;exact Nb h1
def ph(Φ:dC)(n:Nat)(ops:List bz)(a:List Nat):List (List Nat×Nat×List Nat)→EV→S→(EV→S→Bool)→Bool
 |[],E,T,K=>nE Φ n ops a E T K
 | (d,e,st)::r,E,T,K=>nE Φ n ops d E T λb f=>match ops[e]? with
  |some o=>nD Φ n o b f λg c=>pg ops b c (ph Φ n ops a r g c K) st
  |none=>false
theorem Dv(hB:eQ Φ B){b:List Nat}:∀{bf:List (List Nat×Nat×List Nat)}{E:EV}{T:S}{K:EV→S→Bool}{Q:jY},ph B n ops b bf E T K=true→(∀e c,K e c=true→Q e c.ah)→pe Φ n ops b bf E T.ah Q:=by
 intro bf;induction bf with
 |nil=>intro E T K Q h a;exact Dt hB h a
 | cons p r f=>
  obtain⟨i,e,st⟩:=p;intro E T K Q h a;simp only[ph]at h;simp only[pe];refine Dt hB h λe1 j h1=>?_;cases d:ops[e]? with
  |none=>rw[d]at h1;cases h1
  | some o=>rw[d]at h1;exact Ds hB h1 λk l g=>Nc (λh=>f h a) g
def yJ{a:Type}(F:a→(a→Bool)→Bool)(n:Nat):a→Bool:=aaX (motive:=λ_=>a→Bool) (λ_=>false) (λ_ b s=>F s b) n
def Dw(K:List I→S→Bool)(a:List I)(T:S):Bool:=K a T
def gX(Φ:dC)(fuel:Nat)(n:Nat):c0→EV→S→(ff→EV→S→Bool)→Bool
 | .skip,E,T,Q=>Q .normal E T
 | .region ops,E,T,Q=>k6 Φ n ops E T (Q .normal)
 | .draw ops _ bf last,E,T,Q=>ph Φ n ops last bf E T (Q .normal)
 | .seq a b,E,T,Q=>gX Φ fuel n a E T λe E' c=>match e with
  | .normal=>gX Φ fuel n b E' c Q
  |e=>Q e E' c
 | .join vs ks a b,E,T,Q=>gX Φ fuel n a E T λe E' c=>match e with
  | .normal=>Dw (λst d=>gX Φ fuel n b (iP n (j0 n E ks) vs st) d Q) (hR E' vs) c
  |e=>Q e E' c
 | .cond x a b,E,T,Q=>o9 ((x.sub E).ev []) true (gX Φ fuel n a E T Q) (gX Φ fuel n b E T Q)
 | .block id a,E,T,Q=>gX Φ fuel n a E T λe E' c=>match e with
  | .exit f=>if f=id then Q .normal E' c else Q (.exit f) E' c
  |e=>Q e E' c
 | .loop vs ks a,E,T,Q=>
  yJ (λ(s:List I×S) (K:List I×S→Bool)=>
    gX Φ fuel n a (iP n (j0 n E ks) vs s.1) s.2 λe E' c=>match e with
     | .normal=>K (hR E' vs,c)
     |e=>Q e E' c) fuel (hR E vs,T)
 | .exit id,E,T,Q=>Q (.exit id) E T
 | .ret,E,T,Q=>Q .ret E T
 | .freeze t a,E,T,Q=>hP (nB T (dK E t)) λv c=>gX Φ fuel n a (eP n E t v) c Q
 | .gq vs ks ops b,E,T,Q=>k6 Φ n ops E T λE' c=>Dw (λst d=>gX Φ fuel n b (iP n (j0 n E ks) vs st) d Q) (hR E' vs) c
theorem Nd(hB:eQ Φ B):∀{c:c0}{E:EV}{T:S}{K:ff→EV→S→Bool}{Q:ff→EV→Z→Prop},gX B fuel n c E T K=true→(∀x e g,K x e g=true→Q x e g.ah)→eY Φ n c E T.ah Q:=by
 intro c;induction c with
 |skip=>intro E T K Q h d;exact d _ _ _ h
 |region ops=>intro E T K Q h d;exact yH hB h λ_ _ h=>d _ _ _ h
 |draw ops pr bf last=>intro E T K Q h d;exact Dv hB h λ_ _ h=>d _ _ _ h
 | seq a b k l=>
  intro E T K Q h d;simp only[gX]at h;simp only[eY];refine k h λx e g f=>?_;cases x with
  |normal=>exact l f d
  |exit i=>exact d _ _ _ f
  |ret=>exact d _ _ _ f
 | join vs ks a b k l=>
  intro E T K Q h d;simp only[gX]at h;simp only[eY];refine k h λx e g f=>?_;cases x with
  |normal=>exact l f d
  |exit i=>exact d _ _ _ f
  |ret=>exact d _ _ _ f
 | cond x a b k l=>intro E T K Q h d;exact yG h (λh=>k h d) λh=>l h d
 | block id a j=>
  intro E T K Q h d;simp only[gX]at h;simp only[eY];refine j h λx e g f=>?_;cases x with
  |normal=>exact d _ _ _ f
  | exit i=>
   dsimp only at f ⊢;split
   ·rename_i hi;rw[aa hi]at f;exact d _ _ _ f
   ·rename_i hi;rw[ae hi]at f;exact d _ _ _ f
  |ret=>exact d _ _ _ f
 | loop vs ks a j=>
  intro E T K Q h d;simp only[gX]at h;simp only[eY];have main : ∀(m:Nat)(s:List I×S),yJ (λ(s:List I×S) (K':List I×S→Bool)=>
        gX B fuel n a (iP n (j0 n E ks) vs s.1) s.2 λe E' g=>match e with
         | .normal=>K' (hR E' vs,g)
         |e=>K e E' g) m s=true →
      aA (λ(s:List I×Z) (K:List I×Z→Prop)=>
        eY Φ n a (iP n (j0 n E ks) vs s.1) s.2 λe E' H'=>match e with
         | .normal=>K (hR E' vs,H')
         |e=>Q e E' H') (s.1,s.2.ah):=by
    intro m;induction m with
    |zero=>intro s h;cases h
    | succ m o=>
     intro s h;refine aA.step ?_;refine j (K:=λe E' g=>match e with
         | .normal=>yJ (λ(s:List I×S) (K':List I×S→Bool)=>
           gX B fuel n a (iP n (j0 n E ks) vs s.1) s.2 λe E' g=>match e with
            | .normal=>K' (hR E' vs,g)
            |e=>K e E' g) m (hR E' vs,g)
         |e=>K e E' g) h λx e g f=>?_
     cases x with
     |normal=>exact o _ f
     |exit i=>exact d _ _ _ f
     |ret=>exact d _ _ _ f
  exact main fuel _ h
 |exit id=>intro E T K Q h d;exact d _ _ _ h
 |ret=>intro E T K Q h d;exact d _ _ _ h
 | freeze t a j=>intro E T K Q h d;exact kv (Dl _ _) h λv g f=>j f d
 | gq vs ks ops b j=>intro E T K Q h d;exact yH hB h (Q:=λE' H'=>N (λst p=>eY Φ n b (iP n (j0 n E ks) vs st) p Q) (hR E' vs) H') λe g f=>j f d
def pj(E:EV)(T:S):List jz→(List I→Bool)→Bool
 |[],K=>K []
 | .tmp t::r,K=>pj E T r λvs=>K (dK E t::vs)
 | .cell t n agg::r,K=>dJ (O T.ah n agg (dK E t)) λv=>pj E T r λvs=>K (v::vs)
theorem yK:∀{rs:List jz}{K:List I→Bool}{P:List I→Prop},pj E T rs K=true→(∀vs,K vs=true→P vs)→nC E T.ah rs P:=by
 intro rs;induction rs with
 |nil=>intro K P h a;exact a _ h
 | cons r rs b=>
  intro K P h a;cases r with
  |tmp t=>exact b (K:=λvs=>K (dK E t::vs)) h λvs h=>a _ h
  |cell t n agg=>exact Dq h λv h=>b (K:=λvs=>K (v::vs)) h λvs h=>a _ h
def tZ(Φ:dC)(fuel:Nat)(f:aT)(args:List I)(T:S)(Q:fX):Bool:=
 gX Φ fuel f.ntmps f.body (lX args 0) T λe E a=>match e with
  | .exit _=>false
  |_=>pj E a f.results λvs=>Q (mA vs) a
def yL(Φ:dC)(fuel:Nat)(f:aT)(args:List I)(T:S)(Q:fX):Bool:=and (aaY args.length f.ntmps) (tZ Φ fuel f args T Q)
theorem Nf(hB:eQ Φ B){f:aT}{args:List I}(h:yL B fuel f args T K=true)(c:∀v a,K v a=true→Q v a.ah):yC Φ f args T.ah Q:=by
 simp only[yL,tZ,X7]at h;refine⟨aaZ h.1,Nd hB h.2 λx e a b=>?_⟩;cases x with
 |normal=>exact yK b λvs h=>c _ _ h
 |exit i=>cases b
 |ret=>exact yK b λvs h=>c _ _ h
end
end Rb

namespace Rb
open Go
variable{Φ:aj}{T:iO}{k:Nat}{f:aT}{args:List I}{H:Z}{Q:ad}
structure Cl(Φ:aj)(T:iO):Prop where
 mono:jd Φ
 run:∀k f,T.get k=some f→∀args H Q,yC Φ f args H Q→Φ k args H Q
theorem Cl.of(a:jd Φ)(h:o8 Φ T):Cl Φ T:=⟨a,λk f hk args H Q hs=>h k f hk args H Q (M_ a hs)⟩
theorem Cl.app{T U:iO}(hT:Cl Φ T)(a:Cl Φ U):Cl Φ (T++U):=by
 refine⟨hT.mono,λk f h args H Q hs=>?_⟩;have key:∀(T:iO),(T++U).lookup k=some f→T.lookup k=some f∨U.lookup k=some f:=by
  intro T;induction T with
  |nil=>intro h;exact .inr h
  | cons p T b=>
   intro h;obtain⟨k',c⟩:=p;rw[ZY,aaK]at h;rw[aaK];split at h
   ·exact .inl h
   ·exact b h
 rcases key T h with h|h
 ·exact hT.run k f h args H Q hs
 ·exact a.run k f h args H Q hs
theorem Cl.call(hT:Cl Φ T)(a:T.get k=some f)(hn:aaY args.length f.ntmps=true)(h:yB Φ f args H Q):Φ k args H Q:=hT.run k f a args H Q ⟨aaZ hn,h⟩
abbrev a:=List I→Z→Prop
abbrev ST:=List I×Z
abbrev LT:=ST→Prop
abbrev BT:=ST→LT→Prop
theorem Cl.c(hT:Cl Φ T){k:Nat}{P:Prop}(h:P)(e:yB Φ f args H Q=P:=by kernel_rfl)(hk:T.get k=some f:=by kernel_rfl)(hn:aaY args.length f.ntmps=true:=by kernel_rfl):Φ k args H Q:=hT.call hk hn (e.mpr h)
end Rb

namespace Rb
open Go
variable{Φ:aj}{B:dC}{key k:Nat}{Q:ad}{T0:iO}
def Tok.free:Tok→Bool
 | .own _=>false
 |_=>true
mutual
def I.a_:I→Bool
 | .bool _ | .int _ _ | .str _ | .eJ | .fy | .gm | .gn=>true
 | .af cs=>I.bA cs
 | .aq tk _ cs=>tk.free&&I.bA cs
 | .fn _ cs=>I.bA cs
 | .iface _ v=>I.a_ v
 | .agg cs=>I.bA cs
 | .ar cs=>I.bA cs
 |_=>false
def I.bA:List I→Bool
 |[]=>true
 |c::r=>I.a_ c&&I.bA r
end
theorem q8:∀{cs:List I},I.bA cs=cs.all I.a_
 |[]=>rfl
 |c::r=>by simp only[I.bA,aaM,q8 (cs:=r)]
theorem mJ{cs:List I}(h:I.bA cs=true)(j:Nat)(c:I)(hc:cs[j]?=some c):c.a_=true:=by rw[q8,Y0]at h;exact h c (aaN hc)
theorem k8{F:cx}{w w':World}{G G':aG}(hz:∀b o,G.fz b o→G'.fz b o)(hc:∀b o V,G.fz b o→w.cell? ⟨b,o,none⟩=some V→w'.cell? ⟨b,o,none⟩=some V){c:I}{V:Value}(hf:c.a_=true)(h:VR F w G c V):VR F w' G' c V:=by
 induction h with
 |bot=>simp[I.a_]at hf
 |bool b=>exact .bool b
 |int k n=>exact .int k n
 |str s=>exact .str s
 |eJ=>exact .eJ
 |ptr=>simp[I.a_]at hf
 | af cells b o Vs h hv d=>simp only[I.a_]at hf;exact .af cells b o Vs (λj c e=>⟨hz _ _ (h j c e).1,hc _ _ _ (h j c e).1 (h j c e).2⟩) λj c e=>d j c e (mJ hf j c e)
 |e4=>exact .e4
 |e5 a cap=>exact .e5 a cap
 | aq tk len cells b o cap Vs ht hle h hv d=>
  simp only[I.a_,X7]at hf;refine .aq tk len cells b o cap Vs ?_ hle (λj c e=>⟨hz _ _ (h j c e).1,hc _ _ _ (h j c e).1 (h j c e).2⟩) λj c e=>d j c e (mJ hf.2 j c e);cases tk with
  |own t=>simp[Tok.free]at hf
  |nil=>exact ht
  |full=>exact ht
  |dead=>exact ht
 |row=>simp[I.a_]at hf
 |map=>simp[I.a_]at hf
 |fy=>exact .fy
 | fn key bx f Vs hk hF hl hv d=>simp only[I.a_]at hf;exact .fn key bx f Vs hk hF hl λj c V hc g=>d j c V hc g (mJ hf j c hc)
 | kj key k bx f Vs hk hF hl hv d=>simp only[I.a_]at hf;exact .kj key k bx f Vs hk hF hl λj c V hc g=>d j c V hc g (mJ hf j c hc)
 |gm=>exact .gm
 |iface t v V h d=>exact .iface t v V (d (by simpa[I.a_]using hf))
 |gn=>exact .gn
 | agg cs Vs hl hv d=>simp only[I.a_]at hf;exact .agg cs Vs hl λj c V hc g=>d j c V hc g (mJ hf j c hc)
 | ar cs Vs hl hv d=>simp only[I.a_]at hf;exact .ar cs Vs hl λj c V hc g=>d j c V hc g (mJ hf j c hc)
def bP(C:Ctx):Prop:=∀g l,C.GT g=some l→I.bA l=true
theorem ai.Dx{C:Ctx}(ak:bP C){args:List I}(h:ai C key args Z.mt Q)(ha:I.bA args=true)(H:Z)(K:ad)(s:∀v H',Q v H'→v.a_=true∧K v H):ai C key args H K:=by
 refine⟨by obtain⟨v,H',y⟩:=h.1;exact⟨v,H,(s v H' y).2⟩,λf hf G w Vs hG a t=>?_⟩;have z:Rel C.F w (aG.mt G.fz) Z.mt:=Rel.mt a.eb;have A:aH C.F w (aG.mt G.fz) args Vs:=⟨t.1,λj c V hc q=>k8 (G:=G) (G':=aG.mt G.fz) (w:=w) (λ_ _ h=>h) (λ_ _ _ _ h=>h) (mJ ha j c hc) (t.2 j c V hc q)⟩
 have B:jb C w (aG.mt G.fz):=λg l m=>k8 (G:=G) (G':=aG.mt G.fz) (w:=w) (λ_ _ h=>h) (λ_ _ _ _ h=>h) (by simp only[I.a_];exact ak g l m) (hG.1 g l m);refine aae (h.2 f hf _ w Vs (hG.mt B λi hi=>by cases hi) z A) λe w' he=>?_;obtain⟨V,v,H',G',rfl,hQ,hv,D,d⟩:=he;obtain⟨E,J⟩:=s v H' hQ;have hb:=d.below;have u:∀b o,G'.fz b o→G.fz b o∨w.heap.size≤b:=by
  intro b o hz;rcases d.ey b o hz with h|h|⟨i,hi,_⟩
  ·exact .inl h
  ·exact .inr h
  ·cases hi
 let r:aG:={G with fz:=λb o=>G.fz b o∨G'.fz b o}
 have x:∀b o V,G.fz b o→w.cell? ⟨b,o,none⟩=some V→w'.cell? ⟨b,o,none⟩=some V:=λb o V hf hc=>by rw[YJ (w:=w) (hb.block b (YK w _ hc))];exact hc
 have m:GLe w G w' r:=⟨sl _,λ_ _=>rfl,λ_ _=>rfl,λ_ _ h=> .inl h,x⟩
 refine⟨V,v,H,r,rfl,J,k8 (G:=G') (G':=r) (w:=w') (λ_ _ h=>Or.inr h) (λ_ _ _ _ h=>h) E hv,⟨a.n,a.over,λj=>(a.obj j).aI m (λhl=>a.gu hl) (λhl=>hb.block _ ((a.obj j).lt hl)) λhl o p=>?_,a.eW,λb o hf=>?_⟩,?_⟩
 · rcases p with p|p
   ·exact p
   · rcases u _ _ p with h|h
     ·exact h
     ·exact absurd ((a.obj j).lt hl) (by omega)
 · rcases hf with hf|hf
   · obtain⟨V,q⟩:=a.eb b o hf;exact⟨V,x b o V hf q⟩
   ·exact D.eb b o hf
 · exact {m with
     size:=d.size,os:=d.os,tape:=d.tape,output:=d.output,dr:=d.dr,c8:=λk hk _=>hb.block k hk,owned:=λi hi _=>⟨i,hi,rfl⟩
     ey:=λb o hf=>by
      rcases hf with hf|hf
      ·exact .inl hf
      · rcases u b o hf with h|h
        ·exact .inl h
        ·exact .inr (.inl h)}
abbrev pk:=Nat→List I→Option I
def gY(Φ:aj)(M:pk):Prop:=∀k args v,M k args=some v→∀(H:Z)(Q:ad),Q v H→Φ k args H Q
noncomputable section
def yM(M:pk)(a:dC→dC)(d:Nat):dC:=aaX (motive:=λ_=>dC) (λ_ _ _ _=>false) (λ_ b k args T Q=>match M k args with
  |some v=>Q v T
  |none=>a b k args T Q) d
def yN(Φ:aj)(a:dC→dC):Prop:=∀B,eQ Φ B→eQ Φ (a B)
theorem Ng{M:pk}{a:dC→dC}(b:gY Φ M)(c:yN Φ a):∀d,eQ Φ (yM M a d):=by
 intro d;induction d with
 |zero=>intro k args T K h;cases h
 | succ d e=>
  intro k args T K h Q hQ;change (match M k args with
    |some v=>K v T
    |none=>a (yM M a d) k args T K)=true at h
  split at h
  · rename_i v hv;exact b k args v hv _ _ (hQ _ _ h)
  ·exact c _ e k args T K h Q hQ
theorem Nh(hB:eQ Φ B){args:List I}{K:I→Bool}(h:B k args S.mt (λv _=>K v)=true):Φ k args Z.mt (λv _=>K v=true):=by have:=hB k args S.mt _ h (λv _=>K v=true) (λv a h=>h);rwa [S.MT]at this
theorem eQ.fn(hT:Cl Φ T0)(hB:eQ Φ B){fuel:Nat}{f:aT}{args:List I}(b:T0.get k=some f)(hn:aaY args.length f.ntmps=true){T:S}{K:fX}(h:tZ B fuel f args T K=true)(hQ:∀v a,K v a=true→Q v a.ah):Φ k args T.ah Q:=hT.run k f b args T.ah Q (Nf hB (fuel:=fuel) (by simp only[yL,hn,h,aa0]) hQ)
theorem eQ.node{F G:dC}(m:Nat)(hF:eQ Φ F)(hG:eQ Φ G):eQ Φ (λk a T K=>cond (aaT k m) (F k a T K) (G k a T K)):=by
 intro k a T K h Q hQ;dsimp only at h;cases hb:aaT k m with
 |true=>rw[hb]at h;exact hF k a T K h Q hQ
 |false=>rw[hb]at h;exact hG k a T K h Q hQ
theorem eQ.leaf(hT:Cl Φ T0)(hB:eQ Φ B){n m:Nat}{b:aT}(c:T0.get key=some b){F:List I→S→fX→Bool}(hn:aaY m b.ntmps=true)
  (hF:∀a T K,F a T K=true→a.length=m∧tZ B n b a T K=true):eQ Φ (λk a T K=>cond (aaO k key) (F a T K) false):=by
 intro k a T K h Q hQ;dsimp only at h;cases hb:aaO k key with
 |false=>rw[hb]at h;cases h
 | true=>rw[hb]at h;obtain rfl:=aa1 hb;obtain⟨h1,d⟩:=hF a T K h;exact eQ.fn hT hB (fuel:=n) c (by rw[h1];exact hn) d hQ
end
end Rb

namespace Rb
open Go
structure Hint where
 dR:Nat
 jB:List Nat
 loops:List (List Nat)
 fz:Option Nat
 fV:List TypeId:=[]
 k9:List (Nat×List Nat):=[]
def gZ(t:Nat):List Nat→Bool
 |[]=>false
 |s::r=>cond (aaO t s) true (gZ t r)
def Dy:List Nat→List Nat→Bool
 |[],_=>true
 |t::r,l=>cond (gZ t l) (Dy r l) false
def yO(t:Nat)(l:List Nat):List Nat:=cond (gZ t l) l (t::l)
def Dz:List Nat→List Nat→List Nat
 |[],l=>l
 |t::r,l=>Dz r (yO t l)
def yP:List Nat→List Nat→List Nat
 |[],_=>[]
 |t::r,l=>cond (gZ t l) (yP r l) (yO t (yP r l))
def t_:Value→I
 | .bool b=> .bool b
 | .int k n=> .int k n
 | .string s=> .str s.data.toList
 | .pointer none=> .eJ
 | .map none=> .fy
 | .nilFunc=> .gm
 | .nilIface=> .gn
 | .slice none _ _=> .aq .nil 0 []
 |_=> .bot
def DA:Value→I
 | .agg Vs=> .agg (Vs.toList.map t_)
 | .tuple Vs=> .ar (Vs.toList.map t_)
 |V=>t_ V
def yQ:aW:= .k .bot
def gx:dO:= .ext .stuck []
def bJ(C:Ctx):Operand→aW
 | .tmp t=> .t t
 | .const v=> .k (DA v)
 | .global g=>match C.GT g with|some l=> .k (.af l)|none=>yQ
 | .func f=>cond (jA C.P f) (.k (.fn f [])) yQ
def DB (fs : List Field) : Bool := match fs with | [a, b] => a.name == "addr" && b.name == "buf" | _ => false
def DC(P:Program)(t:TypeId):Bool:=
 match P.underlying t with
 |some (.struct fs)=>DB fs.toList||(match fs.toList with|[f]=>(match P.underlying f.type with|some (.struct gs)=>DB gs.toList|_=>false)|_=>false)
 |_=>false
def DD:Operand→Bool
 | .const v=>(match v with | .pointer none | .slice none 0 0 | .map none | .nilFunc | .nilIface=>true|_=>false)
 |_=>false
def g_(P:Program)(t:TypeId):Nat:=match P.info? t with|some i=>i.size|none=>0
def yR(P:Program)(t:TypeId):Nat:=match P.info? t with|some i=>i.bytes|none=>0
def DE(P:Program)(t:TypeId):Value:=match P.info? t with|some i=>(match i.zero with|some z=>z|none=> .nilIface)|none=> .nilIface
def pn(P:Program)(t:TypeId):List I:=(DE P t).cells.toList.map t_
def q9(P:Program)(t:TypeId):Bool:=match P.underlying t with|some d=>ie d|none=>false
def ik(P:Program)(t:TypeId):TypeId:=match P.underlying t with|some (.slice e)=>e|some (.array _ e)=>e|some (.map _ e)=>e|_=>0
def ua(P:Program)(t:TypeId):FK:=match P.underlying t with
 |some (.map kt _)=>(match P.underlying kt with|some .bool=> .b|some .string=> .t|_=> .n)
 |_=> .n
def po(C:Ctx)(name:String):List TypeId→List (TypeId×Nat×Option (Nat×Bool))
 |[]=>[]
 | t :: r=>(match C.P.info? t with
   | some i=>(match i.methods.find? (·.name==name)with
     | some mt=>(match mt.func,C.P.underlying t with
       |some (f,true),some (.pointer _)=>(t,f,none)::po C name r
       |some (f,false),some (.pointer e)=>(t,f,some (g_ C.P e,q9 C.P e))::po C name r
       |_,_=>po C name r)
     |none=>po C name r)
   |none=>po C name r)
def Ni(P:Program)(t:TypeId):Bool:=match P.underlying t with|some (.int _)=>true|_=>false
def Nj(C:Ctx)(fV:List TypeId)(mu:Bool)(c:Call):dO:=
 match c.callee with
 | .value (.func f)=>cond (jA C.P f) (.call f (c.args.toList.map (bJ C))) gx
 | .value f=> .h8 (bJ C f) (c.args.toList.map (bJ C))
 | .builtin b=>
  match c.args.toList.map (bJ C),c.argTypes.toList with
  | [x],[t]=>(match b with
    | .len=>(match C.P.underlying t with|some .string=> .len true x|some (.slice _)=> .len false x|some (.array n _)=> .hy n|some (.map _ _)=> .hE x|_=>gx)
    | .cap=> .cap x
    | .max=> .hC true [x]
    | .min=> .hC false [x]
    | .clear=> .ext (.clear (g_ C.P (ik C.P t)) (pn C.P (ik C.P t))) [x]
    |_=>gx)
  | [x,y],t::_=>(match b with
    | .append=>cond (Ni C.P (c.argTypes.toList.tail.headD 0)) (.ext (.grow (g_ C.P (ik C.P t)) (yR C.P (ik C.P t)) (pn C.P (ik C.P t))) [x,y]) <| .append mu (g_ C.P (ik C.P t)) (yR C.P (ik C.P t)) x y
    | .delete=> .delete (ua C.P t) x y
    | .copy=> .copy (g_ C.P (ik C.P t)) x y
    | .max=> .hC true [x,y]
    | .min=> .hC false [x,y]
    |_=>gx)
  | xs,_=>(match b with
    | .max=> .hC true xs
    | .min=> .hC false xs
    |_=>gx)
 | .invoke x name=> .inv (po C name fV) (bJ C x) (c.args.toList.map (bJ C))
def Nk(C:Ctx)(fV:List TypeId)(mu:Bool):Op→dO
 | .move x=> .mv (bJ C x)
 | .assign x=> .mv (bJ C x)
 | .pick c a b=> .pick (bJ C c) (bJ C a) (bJ C b)
 | .binOp op t x y _=>
  match op,C.P.underlying t with
  | .eql,some d=>(match oK d,d with
    |some k,_=>cond (DD y) (.jx k false (bJ C x)) (match k with | .p=> .ext (.mz false) [bJ C x,bJ C y]|_=>gx)
    |none,.bool=> .beq false (bJ C x) (bJ C y)
    |none,.array _ _=>(match kZ C.P 9 t with|some l=> .iJ false l (bJ C x) (bJ C y)|none=>gx)
    |none,.struct _=>(match kZ C.P 9 t with|some l=> .iJ false l (bJ C x) (bJ C y)|none=>gx)
    |none,_=> .bin op (bJ C x) (bJ C y))
  | .neq,some d=>(match oK d,d with
    |some k,_=>cond (DD y) (.jx k true (bJ C x)) (match k with | .p=> .ext (.mz true) [bJ C x,bJ C y]|_=>gx)
    |none,.bool=> .beq true (bJ C x) (bJ C y)
    |none,.array _ _=>(match kZ C.P 9 t with|some l=> .iJ true l (bJ C x) (bJ C y)|none=>gx)
    |none,.struct _=>(match kZ C.P 9 t with|some l=> .iJ true l (bJ C x) (bJ C y)|none=>gx)
    |none,_=> .bin op (bJ C x) (bJ C y))
  |op,_=> .bin op (bJ C x) (bJ C y)
 | .unOp op _ x=> .un op (bJ C x)
 | .convert s d x=>
  match C.P.underlying s,C.P.underlying d with
  |some .string,some .string=> .same (bJ C x)
  |some .string,some (.slice _)=> .jT (bJ C x)
  |some (.slice _),some .string=> .hI (bJ C x)
  |_,some (.int k)=> .conv k (bJ C x)
  |_,_=>gx
 | .nilCheck x=> .jR (bJ C x)
 | .field t x n=>(match oS C.P t n with|some f=> .field f.offset (g_ C.P f.type) (q9 C.P f.type) (bJ C x)|none=>gx)
 | .fieldAddr t x n=>(match oS C.P t n with|some f=> .gG f.offset (bJ C x)|none=>gx)
 | .index t x i=>(match C.P.underlying t with
   |some .string=> .idxs (bJ C x) (bJ C i)
   |some (.array n e)=> .idx n (g_ C.P e) (q9 C.P e) (bJ C x) (bJ C i)
   |_=>gx)
 | .indexAddr t x i=>(match C.P.underlying t with
   |some (.slice e)=> .fS none (g_ C.P e) (bJ C x) (bJ C i)
   |some (.array n e)=> .fS (some n) (g_ C.P e) (bJ C x) (bJ C i)
   |_=>gx)
 | .slice t x lo hi mx=>(match C.P.underlying t with
   |some .string=> .jS (bJ C x) (lo.map (bJ C)) (hi.map (bJ C))
   |some (.slice e)=> .slice (g_ C.P e) (bJ C x) (lo.map (bJ C)) (hi.map (bJ C)) (mx.map (bJ C))
   |_=>gx)
 | .makeInterface t x=> .hx t (bJ C x)
 | .makeFunc (.func f) first bx=>cond (jA C.P f) (match first.toList with
   |[]=> .gS f (bx.toList.map (bJ C))
   |l=> .gS (f+1048576) (l.map (bJ C))) gx
 | .extract x i=> .extract i (bJ C x)
 | .build t ps=> .build (pn C.P t) (ps.toList.map λp=>match placeOf C.P t p.1 with|some (o,s)=>(o,s,bJ C p.2)|none=>(0,0,yQ))
 | .buildSlice t len ps=> .gH mu (g_ C.P (ik C.P t)) len (pn C.P (ik C.P t)) (ps.toList.map λp=>(p.1*g_ C.P (ik C.P t),g_ C.P (ik C.P t),bJ C p.2))
 | .load t x=> .load (g_ C.P t) (q9 C.P t) (bJ C x)
 | .store t x v=> .store (g_ C.P t) (bJ C x) (bJ C v)
 | .box t x=>cond (DC C.P t) (.ext (.ko t) [bJ C x]) (.box mu (g_ C.P t) (bJ C x))
 | .alloc t=>cond (DC C.P t) (.ext (.ko t) []) (.alloc mu (pn C.P t))
 | .makeSlice t l c=> .make mu (g_ C.P (ik C.P t)) (yR C.P (ik C.P t)) (pn C.P (ik C.P t)) (bJ C l) (bJ C c)
 | .range _ x=> .h6 (bJ C x)
 | .next x true=> .h7 (bJ C x)
 | .makeMap _ _=> .gT
 | .lookup t m k ok=> .lookup (ua C.P t) (DA (DE C.P (ik C.P t))) ok (bJ C m) (bJ C k)
 | .mapUpdate t m k v=> .hD (ua C.P t) (bJ C m) (bJ C k) (bJ C v)
 | .insert t m k v=> .hD (ua C.P t) (bJ C m) (bJ C k) (bJ C v)
 | .typeAssert x _ t ok=>cond ok gx (.ext (.oG t) [bJ C x])
 | .call c=>Nj C fV mu c
 |_=>gx
def DF:List Oper→Nat→Option Nat
 |[],_=>none
 |o::r,i=>match i with|0=>o.dst|i+1=>DF r i
def yS(C:Ctx)(fV:List TypeId)(jB:List Nat)(a:List Oper):List Oper→List bz
 |[]=>[]
 |o::r=>⟨o.dst,Nk C fV (match o.dst with|some d=>gZ d jB|none=>false) o.op,match o.guard with|some (j,want)=>(match DF a j with|some s=>some (s,want)|none=>none)|none=>none⟩::yS C fV jB a r
def yT:List Edge→List Nat
 |[]=>[]
 |e::r=>cond (aar .any e) (yO e.on (yT r)) (yT r)
def DG:List (List Nat)→Nat→List Nat
 |[],_=>[]
 |l::r,i=>match i with|0=>l|i+1=>DG r i
def DH:List (List Nat)→List Nat→List Nat→List Nat
 |pr,acc,[]=>acc
 |pr,acc,e::r=>DH pr (Dz (DG pr e) acc) r
def DI:List (List Nat)→List Oper→List (List Nat)
 |pr,[]=>pr
 |pr,o::r=>let es:=yT o.after.toList;DI (pr++[DH pr es es]) r
structure DR where
 i:Nat
 pr:List Nat
 k:Nat
 al:Bool
def DJ(ops:List bz)(pr:List (List Nat)):Nat→List bz→List (List Nat)→List DR
 |i,o::r,p::q=>⟨i,p,cond (fp o.op) 2 (cond (e8 o.op) 1 0),fG ops pr i⟩::DJ ops pr (i+1) r q
 |_,_,_=>[]
def pq:List DR→List Nat→List Nat→List Nat×List Nat
 |[],done,out=>(done,out.reverse)
 |d::r,done,out=>cond (aaO d.k 0) (pq r done out) (cond (gZ d.i done) (pq r done out) (cond (Dy d.pr done) (pq r (d.i::done) (d.i::out)) (pq r done out)))
def q_:List DR→List Nat→List Nat→List DR
 |[],_,_=>[]
 |d::r,pr,seq=>cond d.al (cond (gZ d.i pr) (cond (gZ d.i seq) (q_ r pr seq) (d::q_ r pr seq)) (q_ r pr seq)) (q_ r pr seq)
def ub(b:List DR):List DR→List Nat→List DR
 |[],seq=>b.filter λd=>d.al&&!gZ d.i seq
 |d::r,seq=>cond (aaO d.k 0) (cond d.al (ub b r seq) (let a:=q_ b d.pr seq;a++d::ub b r (d.i::(a.map DR.i++seq)))) (ub b r seq)
def re:List DR→List Nat→List Nat→List Nat
 |[],_,_=>[]
 |d::r,done,pr=>cond (aaO d.k 1) (cond (gZ d.i done) (cond (gZ d.i pr) (re r done pr) (d.i::re r done pr)) (re r done pr)) (re r done pr)
def DK(a:List DR):List DR→List Nat→List (List Nat×Nat×List Nat)×List Nat
 |[],done=>([],(pq a done []).2)
 |e::r,done=>let s:=pq a done [];let q:=DK a r (e.i::s.1);((s.2,e.i,re a s.1 e.pr)::q.1,q.2)
def Nl(ops:List Oper)(al:List bz):c0:=
 let pr:=DI [] ops;let ds:=DJ al pr 0 al pr;let p:=DK ds (ub ds ds []) []
 .draw al pr p.1 p.2
def Nn(t:Nat)(o:bz):Bool:=match o.op with | .mv (.t s)=>aaO s t|_=>false
def isDst(l:List Nat)(o:bz):Bool:=match o.dst with|some d=>gZ d l|none=>false
def yU:List (Nat×List Nat)→Nat→List Nat
 |[],_=>[]
 |(i,l)::r,id=>cond (aaO i id) l (yU r id)
def yV:List Nat→c0→c0
 |[],c=>c
 |t::r,c=> .freeze t (yV r c)
def nF(C:Ctx)(fV:List TypeId)(jB:List Nat)(fz:Option Nat)(k9:List (Nat×List Nat))(d:List Nat):Code→List (List Nat)→c0×List (List Nat)
 | .skip,h=>(.skip,h)
 | .region id ops false,h=>
  let al:=yS C fV jB ops.toList ops.toList
  (yV (yU k9 id) (match fz with
    |none=> .region al
    |some t=>cond (al.any (Nn t)&&al.any (isDst d)) (.freeze t (.region al)) (.region al)),h)
 | .region id ops true,h=>(yV (yU k9 id) (Nl ops.toList (yS C fV jB ops.toList ops.toList)),h)
 | .seq a b,h=>let p:=nF C fV jB fz k9 d a h;let q:=nF C fV jB fz k9 d b p.2;(.seq p.1 q.1,q.2)
 | .cond c a b,h=>let p:=nF C fV jB fz k9 d a h;let q:=nF C fV jB fz k9 d b p.2;(.cond (bJ C c) p.1 q.1,q.2)
 | .block id a,h=>let p:=nF C fV jB fz k9 d a h;(.block id p.1,p.2)
 | .loop a,h=>let p:=nF C fV jB fz k9 d a h.tail;(.loop (h.headD []) (yP (ej p.1) (h.headD [])) p.1,p.2)
 | .exit id,h=>(.exit id,h)
 | .ret,h=>(.ret,h)
 |_,h=>(.exit 0,h)
def yW:List ResultVar→List Nat
 |[]=>[]
 | .tmp t::r=>t::yW r
 | .cell t _::r=>t::yW r
def yX(P:Program):List ResultVar→List jz
 |[]=>[]
 | .tmp t::r=> .tmp t::yX P r
 | .cell t ty::r=> .cell t (g_ P ty) (q9 P ty)::yX P r
def R(C:Ctx)(h:Hint):aT:=
 match C.P.funcs[h.dR]? with
 |some fn=>⟨fn.ntmps,yX C.P fn.results.toList,match fn.body with|some c=>(nF C h.fV h.jB h.fz h.k9 (yW fn.results.toList) c h.loops).1|none=> .skip⟩
 |none=>⟨0,[],.exit 0⟩
def lZ(P:Program)(a:Nat→Option (List I)):Ctx:=⟨P,λk=>cond (jA P k) (some k) none,a⟩
theorem pt(P:Program)(b:Nat→Option (List I)):fD (lZ P b):=by
 intro key f hf;simp only[lZ]at hf;cases a:jA P key with
 |true=>rw[a]at hf;simp only[cond_true,Yh.injEq]at hf;subst hf;exact a
 |false=>rw[a]at hf;cases hf
def il(C:Ctx):List Hint→Bool
 |[]=>true
 |h::r=>and (o7 C h.dR (R C h)) (il C r)
theorem DL{C:Ctx}:∀{L:List Hint},il C L=true→∀h,h∈L→o7 C h.dR (R C h)=true
 |[],_,h,hm=>by cases hm
 | p::r,hc,h,hm=>by
  simp only[il,X7]at hc;rcases aan.1 hm with rfl|hm
  ·exact hc.1
  ·exact DL hc.2 h hm
theorem pv{C:Ctx}:∀{L M:List Hint},il C L=true→il C M=true→il C (L++M)=true
 |[],_,_,h=>h
 | p::r,M,hc,h=>by simp only[il,X7]at hc;simp only[ZY,il,X7];exact⟨hc.1,pv hc.2 h⟩
end Rb

namespace Rb
open Go
noncomputable section
theorem nb(a b:Nat):aaO a b=decide (a=b):=by rw[aal];simp
theorem nl(a b:Nat):aaT a b=decide (a<b):=by rw[aal];simp[aaT];omega
theorem ne'(a b:Nat):aaY a b=decide (a≤b):=by rw[aal];simp
def mK{α β:Type}(f:α→β)(a:α):β:=f a
def yY{α:Type}(l:List α):Nat→Option α:=aaS (motive:=λ_=>Nat→Option α) (λ_=>none) (λx _ a n=>aaX (motive:=λ_=>Option α) (some x) (λm _=>mK a m) n) l
theorem yZ{α:Type}:∀(l:List α)(n:Nat),yY l n=l[n]?
 |[],n=>by cases n<;>rfl
 |x::r,0=>rfl
 |x::r,n+1=>by rw[List.getElem?_cons_succ,←yZ r n];rfl
def uc{α:Type}(n:Nat):List α→List α:=aaX (motive:=λ_=>List α→List α) (λl=>l) (λ_ a l=>aaS (motive:=λ_=>List α) [] (λ_ t _=>mK a t) l) n
theorem rf{α:Type}:∀(n:Nat)(l:List α),uc n l=l.drop n
 |0,l=>rfl
 |n+1,[]=>rfl
 |n+1,x::r=>by rw[aa2,←rf n r];rfl
def y0{α:Type}(n:Nat):List α→Bool:=aaX (motive:=λ_=>List α→Bool) (λ_=>true) (λ_ a l=>aaS (motive:=λ_=>Bool) false (λ_ t _=>mK a t) l) n
theorem y1{α:Type}:∀(n:Nat)(l:List α),y0 n l=decide (n≤l.length)
 |0,l=>by simp;rfl
 |n+1,[]=>by simp;rfl
 |n+1,x::r=>by rw[List.length_cons,show decide (n+1≤r.length+1)=decide (n≤r.length) by simp,←y1 n r];rfl
def kN:IntKind→Nat
 | .i8=>0 | .i16=>1 | .i32=>2 | .i64=>3 | .u8=>4 | .u16=>5 | .u32=>6 | .u64=>7
def y2(k k':IntKind):Bool:=aaO (kN k) (kN k')
theorem Np{k k':IntKind}(h:y2 k k'=true):k=k':=by revert h;cases k<;>cases k'<;>decide
def lim:IntKind→Nat
 | .i8=>128 | .i16=>32768 | .i32=>2147483648 | .i64=>9223372036854775808 | .u8=>256 | .u16=>65536 | .u32=>4294967296 | .u64=>18446744073709551616
theorem pw{k:IntKind}{m:Nat}(h:m<lim k):k.wrap (aa3 m)=aa3 m:=by have hm:(aa3 m)=(m:Int):=rfl;rw[hm];cases k<;>simp only[lim]at h<;>simp only[Zb,Ye,Yd]<;>simp<;>omega
def asNat(v:I)(d:Option I)(f:IntKind→Nat→Option I):Option I:=
 match v with
 | .int k n=>(match n with | .ofNat m=>f k m | .negSucc _=>d)
 |_=>d
theorem py{v:I}{d:Option I}{f:IntKind→Nat→Option I}(h:∀k m,v = .int k (.ofNat m)→f k m=d):asNat v d f=d:=by
 unfold asNat;split
 · split
   ·exact h _ _ rfl
   ·rfl
 ·rfl
def iQ(g:IntKind→Nat→Nat→Option I→Option I)(s:Option I)(x y:I):Option I:=asNat x s λk a=>asNat y s λk' b=>cond (y2 k k') (g k a b s) s
theorem Nq{g:IntKind→Nat→Nat→Option I→Option I}{op:BinOp}(c:∀k a b,g k a b (cc op k (.ofNat a) k (.ofNat b))=cc op k (.ofNat a) k (.ofNat b))(x y:I):iQ g (ab op x y) x y=ab op x y:=by
 refine py λk a d=>py λk' b e=>?_;subst d e;cases h:y2 k k' with
 |false=>rfl
 | true=>obtain rfl:=Np h;exact c k a b
def y5(k:IntKind)(a b:Nat)(s:Option I):Option I:=cond (aaT (aa4 a b) (lim k)) (some (.int k (.ofNat (aa4 a b)))) s
def y7(k:IntKind)(a b:Nat)(s:Option I):Option I:=cond (and (aaY b a) (aaT a (lim k))) (some (.int k (.ofNat (aa5 a b)))) s
def y8(k:IntKind)(a b:Nat)(s:Option I):Option I:=cond (aaT (aa6 a b) (lim k)) (some (.int k (.ofNat (aa6 a b)))) s
def y9(k:IntKind)(a b:Nat)(s:Option I):Option I:=some (.bool (aaT a b))
def y_(k:IntKind)(a b:Nat)(s:Option I):Option I:=some (.bool (aaY a b))
def za(k:IntKind)(a b:Nat)(s:Option I):Option I:=some (.bool (aaT b a))
def zb(k:IntKind)(a b:Nat)(s:Option I):Option I:=some (.bool (aaY b a))
def zc(k:IntKind)(a b:Nat)(s:Option I):Option I:=some (.bool (aaO a b))
def zd(k:IntKind)(a b:Nat)(s:Option I):Option I:=some (.bool (not (aaO a b)))
def ze(k:IntKind)(a b:Nat)(s:Option I):Option I:=cond (and (aaT 0 b) (aaT a (lim k))) (some (.int k (.ofNat (aa7 a b)))) s
def zf(k:IntKind)(a b:Nat)(s:Option I):Option I:=cond (aaT 0 b) (some (.int k (.ofNat (aa8 a b)))) s
def zg(k:IntKind)(a b:Nat)(s:Option I):Option I:=cond (and (aaT a (lim k)) (aaT b (lim k))) (some (.int k (.ofNat (aa9 a b)))) s
def zh(k:IntKind)(a b:Nat)(s:Option I):Option I:=cond (and (aaT a (lim k)) (aaT b (lim k))) (some (.int k (.ofNat (aa_ a b)))) s
def zi(k:IntKind)(a b:Nat)(s:Option I):Option I:=cond (and (aaT a (lim k)) (aaT b (lim k))) (some (.int k (.ofNat (aba a b)))) s
theorem Nr(k:IntKind)(a b:Nat):y5 k a b (cc .add k (.ofNat a) k (.ofNat b))=cc .add k (.ofNat a) k (.ofNat b):=by
 unfold y5;rw[nl];by_cases h:aa4 a b<lim k
 · simp only[h,decide_true,cond_true,cc,aY];rw[show(aa3 a+aa3 b)=aa3 (aa4 a b)from rfl,pw h]
 ·simp only[h,decide_false,cond_false]
theorem Ns(k:IntKind)(a b:Nat):y8 k a b (cc .mul k (.ofNat a) k (.ofNat b))=cc .mul k (.ofNat a) k (.ofNat b):=by
 unfold y8;rw[nl];by_cases h:aa6 a b<lim k
 · simp only[h,decide_true,cond_true,cc,aY];rw[show(aa3 a*aa3 b)=aa3 (aa6 a b)from rfl,pw h]
 ·simp only[h,decide_false,cond_false]
theorem Nt(k:IntKind)(a b:Nat):y7 k a b (cc .sub k (.ofNat a) k (.ofNat b))=cc .sub k (.ofNat a) k (.ofNat b):=by
 unfold y7;rw[nl,ne'];by_cases h:b≤a∧a<lim k
 · simp only[h.1,h.2,decide_true,aa0,cond_true,cc,aY];have:(aa3 a-aa3 b)=aa3 (aa5 a b):=by
    show(a:Int)-(b:Int)=((a-b:Nat):Int);omega
   rw[this,pw (show aa5 a b<lim k from abb (Nat.sub_le _ _) h.2)]
 · have:(decide (b≤a)&&decide (a<lim k))=false:=by
     rw[aaA];intro c;simp at c;exact h c
   simp only[this,cond_false]
theorem Nu(k:IntKind)(a b:Nat):y9 k a b (cc .lss k (.ofNat a) k (.ofNat b))=cc .lss k (.ofNat a) k (.ofNat b):=by simp only[y9,cc,aY,nl];congr 2;simp
theorem Nv(k:IntKind)(a b:Nat):y_ k a b (cc .leq k (.ofNat a) k (.ofNat b))=cc .leq k (.ofNat a) k (.ofNat b):=by simp only[y_,cc,aY,ne'];congr 2;simp
theorem Nw(k:IntKind)(a b:Nat):za k a b (cc .gtr k (.ofNat a) k (.ofNat b))=cc .gtr k (.ofNat a) k (.ofNat b):=by simp only[za,cc,aY,nl];congr 2;simp
theorem Nx(k:IntKind)(a b:Nat):zb k a b (cc .geq k (.ofNat a) k (.ofNat b))=cc .geq k (.ofNat a) k (.ofNat b):=by simp only[zb,cc,aY,ne'];congr 2;simp
theorem DM(a b:Nat):(aa3 a==aa3 b)=decide (a=b):=by rw[aal];simp;omega
theorem Ny(k:IntKind)(a b:Nat):zc k a b (cc .eql k (.ofNat a) k (.ofNat b))=cc .eql k (.ofNat a) k (.ofNat b):=by simp only[zc,cc,aY,nb,DM]
theorem Nz(k:IntKind)(a b:Nat):zd k a b (cc .neq k (.ofNat a) k (.ofNat b))=cc .neq k (.ofNat a) k (.ofNat b):=by simp only[zd,cc,aY,nb,bne,DM]
theorem NA(k:IntKind)(a b:Nat):zf k a b (cc .rem k (.ofNat a) k (.ofNat b))=cc .rem k (.ofNat a) k (.ofNat b):=by
 unfold zf;rw[nl];by_cases h:0<b
 · have hb:(aa3 b)≠0:=by simp;omega
   simp only[h,decide_true,cond_true,cc,aa (show True∧aa3 b≠0 from⟨trivial,hb⟩)];rfl
 ·simp only[h,decide_false,cond_false]
theorem NC(k:IntKind)(a b:Nat):ze k a b (cc .quo k (.ofNat a) k (.ofNat b))=cc .quo k (.ofNat a) k (.ofNat b):=by
 unfold ze;rw[nl,nl];by_cases h:0<b∧a<lim k
 · have hb:(aa3 b)≠0:=by have:=h.1;simp;omega
   simp only[h.1,h.2,decide_true,aa0,cond_true,cc,aa (show True∧aa3 b≠0 from⟨trivial,hb⟩)];rw[show(aa3 a).tdiv (aa3 b)=aa3 (aa7 a b)from rfl,pw (show aa7 a b<lim k from abb (Nat.div_le_self _ _) h.2)]
 · have:(decide (0<b)&&decide (a<lim k))=false:=by
     rw[aaA];intro c;simp at c;exact h c
   simp only[this,cond_false]
theorem ND(k:IntKind):lim k≤2^k.bits:=by cases k<;>decide
theorem DN(k:IntKind):∃n,lim k=2^n:=by
 cases k
 ·exact⟨7,rfl⟩
 ·exact⟨15,rfl⟩
 ·exact⟨31,rfl⟩
 ·exact⟨63,rfl⟩
 ·exact⟨8,rfl⟩
 ·exact⟨16,rfl⟩
 ·exact⟨32,rfl⟩
 ·exact⟨64,rfl⟩
theorem zj{op:BinOp}{f:Nat→Nat→Nat}(k:IntKind)(a b:Nat)(ha:a<lim k)(hb:b<lim k)(hf:f a b<lim k)
  (h:kl op k (.ofNat a) (.ofNat b)=some (k.wrap (((f (TH k.bits (.ofNat a)).toNat (TH k.bits (.ofNat b)).toNat):Nat):Int))):kl op k (.ofNat a) (.ofNat b)=some (.ofNat (f a b)):=by
 have c:=ND k;have e:∀n:Nat,n<lim k→(TH k.bits (.ofNat n)).toNat=n:=λn hn=>by
  have:TH k.bits (.ofNat n)=BitVec.ofNat k.bits n:=by simp
  rw[this,BitVec.toNat_ofNat,Nat.mod_eq_of_lt (by omega)]
 rw[h,e a ha,e b hb];exact congrArg some (pw hf)
theorem NF(k:IntKind)(a b:Nat):zg k a b (cc .and k (.ofNat a) k (.ofNat b))=cc .and k (.ofNat a) k (.ofNat b):=by
 unfold zg;rw[nl,nl];by_cases h:a<lim k∧b<lim k
 · simp only[h.1,h.2,decide_true,aa0,cond_true,cc,aY];rw[zj (op:= .and) (f:=aa9) k a b h.1 h.2 (abb Nat.and_le_left h.1) (by simp only[kl,BitVec.toNat_and];rfl)];rfl
 · have:(decide (a<lim k)&&decide (b<lim k))=false:=by
     rw[aaA];intro c;simp at c;exact h c
   simp only[this,cond_false]
theorem NG(k:IntKind)(a b:Nat):zh k a b (cc .or k (.ofNat a) k (.ofNat b))=cc .or k (.ofNat a) k (.ofNat b):=by
 unfold zh;rw[nl,nl];by_cases h:a<lim k∧b<lim k
 · simp only[h.1,h.2,decide_true,aa0,cond_true,cc,aY];have hl:aa_ a b<lim k:=by
    obtain⟨n,hn⟩:=DN k;rw[hn]at h ⊢;exact Nat.or_lt_two_pow h.1 h.2
   rw[zj (op:= .or) (f:=aa_) k a b h.1 h.2 hl (by simp only[kl,BitVec.toNat_or];rfl)];rfl
 · have:(decide (a<lim k)&&decide (b<lim k))=false:=by
     rw[aaA];intro c;simp at c;exact h c
   simp only[this,cond_false]
theorem NH(k:IntKind)(a b:Nat):zi k a b (cc .xor k (.ofNat a) k (.ofNat b))=cc .xor k (.ofNat a) k (.ofNat b):=by
 unfold zi;rw[nl,nl];by_cases h:a<lim k∧b<lim k
 · simp only[h.1,h.2,decide_true,aa0,cond_true,cc,aY];have hl:aba a b<lim k:=by
    obtain⟨n,hn⟩:=DN k;rw[hn]at h ⊢;exact Nat.xor_lt_two_pow h.1 h.2
   rw[zj (op:= .xor) (f:=aba) k a b h.1 h.2 hl (by simp only[kl,BitVec.toNat_xor];rfl)];rfl
 · have:(decide (a<lim k)&&decide (b<lim k))=false:=by
     rw[aaA];intro c;simp at c;exact h c
   simp only[this,cond_false]
structure NI where
 f:I→I→Option I
def DO:BinOp→NI
 | .add=>⟨λx y=>iQ y5 (ab .add x y) x y⟩
 | .sub=>⟨λx y=>iQ y7 (ab .sub x y) x y⟩
 | .mul=>⟨λx y=>iQ y8 (ab .mul x y) x y⟩
 | .quo=>⟨λx y=>iQ ze (ab .quo x y) x y⟩
 | .rem=>⟨λx y=>iQ zf (ab .rem x y) x y⟩
 | .and=>⟨λx y=>iQ zg (ab .and x y) x y⟩
 | .or=>⟨λx y=>iQ zh (ab .or x y) x y⟩
 | .xor=>⟨λx y=>iQ zi (ab .xor x y) x y⟩
 | .lss=>⟨λx y=>iQ y9 (ab .lss x y) x y⟩
 | .leq=>⟨λx y=>iQ y_ (ab .leq x y) x y⟩
 | .gtr=>⟨λx y=>iQ za (ab .gtr x y) x y⟩
 | .geq=>⟨λx y=>iQ zb (ab .geq x y) x y⟩
 | .eql=>⟨λx y=>iQ zc (ab .eql x y) x y⟩
 | .neq=>⟨λx y=>iQ zd (ab .neq x y) x y⟩
 | .shl=>⟨λx y=>ab .shl x y⟩
 | .shr=>⟨λx y=>ab .shr x y⟩
 | .andNot=>⟨λx y=>ab .andNot x y⟩
theorem NJ(op:BinOp)(x y:I):(DO op).f x y=ab op x y:=by cases op<;>first|rfl|exact Nq (by first|exact Nr|exact Nt|exact Ns|exact NC|exact NA|exact NF|exact NG|exact NH|exact Nu|exact Nv|exact Nw|exact Nx|exact Ny|exact Nz) x y
def DP(k:IntKind)(x:I):Option I:=asNat x (e6 k x) λ_ m=>cond (aaT m (lim k)) (some (.int k (.ofNat m))) (e6 k x)
theorem NL(k:IntKind)(x:I):DP k x=e6 k x:=by
 refine py λk' m a=>?_;subst a;rw[nl];by_cases h:m<lim k
 · simp only[h,decide_true,cond_true,e6];rw[pw h]
 ·simp only[h,decide_false,cond_false]
def pz(cs:List I)(o n:Nat)(agg:Bool):Option I:=cond agg (cond (y0 (aa4 o n) cs) (some (.agg ((uc o cs).take n))) none) (cond (aaO n 1) (yY cs o) (bT cs o n false))
theorem ud(cs:List I)(o n:Nat)(agg:Bool):pz cs o n agg=bT cs o n agg:=by
 unfold pz bT;cases agg with
 | true=>
  rw[y1,rf];by_cases h:o+n≤cs.length
  ·rw[aa h];simp[show aa4 o n=o+n from rfl,h]
  ·rw[ae h];simp[show aa4 o n=o+n from rfl,h]
 | false=>
  rw[nb,yZ];by_cases h1:n=1
  · subst h1;simp only[decide_true,cond_true,cond_false,ZV,bR];by_cases h:o+1≤cs.length
    ·rw[aa h]
    ·rw[ae h,aah (by omega)]
  ·simp only[h1,decide_false,cond_false]
def zk(a sz:Nat)(agg:Bool)(x:I):Option I:=
 match x with
 | .agg cs=>pz cs a sz agg
 |_=>none
theorem NM(a sz:Nat)(b:Bool)(x:I):zk a sz b x=nh a sz b x:=by unfold zk nh;cases x<;>first|rfl|exact ud _ _ _ _
def DQ(a sz:Nat)(agg:Bool)(x i:I):Option I:=asNat i (lQ a sz agg x i) λk m=>match x with
 | .agg cs=>cond (aaT m a) (pz cs (aa6 m sz) sz agg) none
 |_=>lQ a sz agg x i
theorem NN(a sz:Nat)(b:Bool)(x i:I):DQ a sz b x i=lQ a sz b x i:=by
 refine py λk m hi=>?_;subst hi;cases x<;>first|rfl|skip
 rename_i cs;dsimp only;rw[nl,ud];simp only[lQ];by_cases h:m<a
 ·rw[aa ⟨abc _,by exact abd.2 h⟩];simp only[h,decide_true,cond_true];rfl
 ·rw[ae (λc=>h (abd.1 c.2))];simp only[h,decide_false,cond_false]
def DS(x i:I):Option I:=asNat i (jP x i) λ_ m=>match x with
 | .str s=>(match yY s m with|some b=>some (.int .u8 (.ofNat b.toNat))|none=>none)
 |_=>jP x i
theorem NO(x i:I):DS x i=jP x i:=by
 refine py λk m hi=>?_;subst hi;cases x<;>first|rfl|skip
 rename_i s;dsimp only;rw[yZ];simp only[jP];rw[aa (show 0≤aa3 m from abc _)];show _=aaR _ s[m]?;cases s[m]?<;>rfl
def k_(a:Option Nat)(sz:Nat)(x i:I):Option I:=asNat i (aO a sz x i) λ_ m=>match a,x with
 |none,.aq _ len cells=>cond (aaT m len) (some (.af (uc (aa6 m sz) cells))) none
 |none,.row id o len _=>cond (aaT m len) (some (.ptr id (aa4 o (aa6 m sz)))) none
 |some n,.ptr id o=>cond (aaT m n) (some (.ptr id (aa4 o (aa6 m sz)))) none
 |some n,.af cells=>cond (aaT m n) (some (.af (uc (aa6 m sz) cells))) none
 |_,_=>aO a sz x i
theorem NP(a:Option Nat)(sz:Nat)(x i:I):k_ a sz x i=aO a sz x i:=by
 refine py λk m hi=>?_;subst hi;have key:∀(n:Nat)(v:I),cond (aaT m n) (some v) none=if 0≤(aa3 m)∧(aa3 m)<(n:Int)then some v else none:=by
  intro n v;rw[nl];by_cases h:m<n
  ·rw[aa ⟨abc _,abd.2 h⟩];simp only[h,decide_true,cond_true]
  ·rw[ae (λb=>h (abd.1 b.2))];simp only[h,decide_false,cond_false]
 cases a<;>cases x<;>first
  |rfl
  |(dsimp only;rw[key];simp only[rf];rfl)
  |(dsimp only;rw[key];rfl)
def rh(T:S)(n:Nat)(a:Bool)(x:I):Option I:=
 match x with
 | .ptr id o=>(match T.t.get id with | .row cs=>pz cs o n a|_=>none)
 | .af cs=>pz cs 0 n a
 |_=>none
theorem zl(T:S)(n:Nat)(a:Bool)(x:I):rh T n a x=O T.ah n a x:=by
 unfold rh O;cases x<;>first|rfl|skip
 · dsimp only;show _=match T.t.get _ with | .row cs=>_|_=>_
   split<;>first|rfl|exact ud _ _ _ _
 ·exact ud _ _ _ _
end
end Rb

namespace Rb
open Go
variable{Φ:aj}{B:dC}
noncomputable section
def jC(m:Nat)(K:Nat→Bool):Bool:=aaX (motive:=λ_=>Bool) (K 0) (λp _=>K (abe p)) m
theorem ue(m:Nat)(K:Nat→Bool):jC m K=K m:=by cases m<;>rfl
def la{α:Type}(l:List α):(List α→Bool)→Bool:=aaS (motive:=λ_=>(List α→Bool)→Bool) (λK=>K []) (λx _ a K=>mK a λr=>mK K (x::r)) l
theorem uf{α:Type}:∀(l:List α)(K:List α→Bool),la l K=K l
 |[],K=>rfl
 |x::r,K=>by show la r (λr=>K (x::r))=_;rw[uf r]
def ug{α:Type}(n:Nat):List α→(List α→Bool)→Bool:=aaX (motive:=λ_=>List α→(List α→Bool)→Bool) (λl K=>K l) (λ_ a l K=>aaS (motive:=λ_=>Bool) (K []) (λ_ t _=>mK (a t) K) l) n
theorem uh{α:Type}:∀(n:Nat)(l:List α)(K:List α→Bool),ug n l K=K (l.drop n)
 |0,l,K=>rfl
 |n+1,[],K=>rfl
 |n+1,x::r,K=>by rw[aa2,←uh n r K];rfl
def fv(v:I)(K:I→Bool):Bool:=
 match v with
 | .int k n=>(match n with | .ofNat m=>jC m λm=>K (.int k (.ofNat m)) | .negSucc m=>jC m λm=>K (.int k (.negSucc m)))
 | .bool b=>(match b with|true=>K (.bool true)|false=>K (.bool false))
 | .str s=>la s λs=>K (.str s)
 | .ptr i o=>jC i λi=>jC o λo=>K (.ptr i o)
 | .row i o l z=>jC i λi=>jC o λo=>jC l λl=>K (.row i o l z)
 | .aq tk l cs=>jC l λl=>la cs λcs=>K (.aq tk l cs)
 | .af cs=>la cs λcs=>K (.af cs)
 | .agg cs=>la cs λcs=>K (.agg cs)
 | .ar cs=>la cs λcs=>K (.ar cs)
 |v=>K v
theorem DT(v:I)(K:I→Bool):fv v K=K v:=by unfold fv;split<;>(try split)<;>simp only[ue,uf]
def eR(x:Option I)(K:I→Bool):Bool:=match x with|some v=>fv v K|none=>false
theorem pA(x:Option I)(K:I→Bool):eR x K=dJ x K:=by
 cases x with
 |none=>rfl
 |some v=>exact DT v K
def ri(x:Option I)(K:I→Bool):Bool:=match x with|some v=>K v|none=>false
theorem DU(x:Option I)(K:I→Bool):ri x K=dJ x K:=by cases x<;>rfl
def lg(E:EV)(t:Nat)(K:I→Bool):Bool:=aaS (motive:=λ_=>Bool) (K .bot) (λp _ a=>abf (motive:=λ_=>Bool) (λs v=>abg (motive:=λ_=>Bool) a (K v) (aaO s t)) p) E
theorem mL:∀(E:EV)(t:Nat)(K:I→Bool),lg E t K=K (dK E t)
 |[],t,K=>rfl
 | (s,v)::E,t,K=>by show abg (motive:=λ_=>Bool) (lg E t K) (K v) (aaO s t)=K (cond (aaO s t) v (dK E t));rw[mL E t K];cases aaO s t<;>rfl
def aW.val(E:EV):aW→I
 | .t n=>dK E n
 | .k v=>v
def DV(E:EV):Option aW→Option I
 |none=>none
 |some x=>some (x.val E)
def kq(E:EV):List aW→List I
 |[]=>[]
 |x::r=>x.val E::kq E r
def zm(E:EV):List (Nat×Nat×aW)→List (Nat×Nat×I)
 |[]=>[]
 |(a,b,x)::r=>(a,b,x.val E)::zm E r
theorem pB(E:EV)(x:aW):(x.sub E).ev []=x.val E:=by cases x<;>rfl
theorem DW(E:EV):∀xs:List aW,ec [] (xs.map (aW.sub E))=kq E xs
 |[]=>rfl
 | x::r=>by have:=DW E r;simp only[ec,Zp]at this ⊢;rw[this,pB];rfl
theorem DX(E:EV):∀xs:List (Nat×Nat×aW),fC [] (xs.map λp=>(p.1,p.2.1,p.2.2.sub E))=zm E xs
 |[]=>rfl
 | (a,b,x)::r=>by have:=DX E r;simp only[fC,Zp]at this ⊢;rw[this,pB];rfl
theorem NQ(E:EV)(x:Option aW):(x.map (aW.sub E)).map (aW.ev [])=DV E x:=by
 cases x with
 |none=>rfl
 |some x=>exact congrArg some (pB E x)
def cr(x:aW)(E:EV)(K:I→Bool):Bool:=match x with | .t n=>lg E n K | .k v=>K v
theorem pC(x:aW)(E:EV)(K:I→Bool):cr x E K=K (x.val E):=by
 cases x with
 |t n=>exact mL E n K
 |k v=>rfl
def l5(E:EV):List aW→(List I→Bool)→Bool
 |[],K=>K []
 |x::r,K=>cr x E λv=>l5 E r λvs=>K (v::vs)
theorem DY(E:EV):∀(xs:List aW)(K:List I→Bool),l5 E xs K=K (kq E xs)
 |[],K=>rfl
 |x::r,K=>by rw[l5,pC,DY E r];rfl
def rj(E:EV):List (Nat×Nat×aW)→(List (Nat×Nat×I)→Bool)→Bool
 |[],K=>K []
 |(a,b,x)::r,K=>cr x E λv=>rj E r λvs=>K ((a,b,v)::vs)
theorem DZ(E:EV):∀(xs:List (Nat×Nat×aW)) (K:List (Nat×Nat×I)→Bool),rj E xs K=K (zm E xs)
 |[],K=>rfl
 |(a,b,x)::r,K=>by rw[rj,pC,DZ E r];rfl
def pD(E:EV)(x:Option aW)(K:Option I→Bool):Bool:=match x with|none=>K none|some x=>cr x E λv=>K (some v)
theorem NR(E:EV)(x:Option aW)(K:Option I→Bool):pD E x K=K (DV E x):=by
 cases x with
 |none=>rfl
 |some x=>exact pC x E _
def nG(x:bL)(f:Nat):TT→Nat→(TT→Bool)→Bool:=
 aaX (motive:=λ_=>TT→Nat→(TT→Bool)→Bool) (λt _ K=>K t)
  (λ_ b t i K=>TT.casesOn (motive:=λ_=>Bool) t
    (cond (aaO i 0) (K (.node x .leaf .leaf)) (cond (aaO (aa8 i 2) 1) (b .leaf (aa7 i 2) λl=>K (.node .gone l .leaf)) (b .leaf (aa5 (aa7 i 2) 1) λr=>K (.node .gone .leaf r))))
    (λa l r=>cond (aaO i 0) (K (.node x l r)) (cond (aaO (aa8 i 2) 1) (b l (aa7 i 2) λl=>K (.node a l r)) (b r (aa5 (aa7 i 2) 1) λr=>K (.node a l r))))) f
theorem D0(x:bL):∀(f:Nat)(t:TT)(i:Nat)(K:TT→Bool),nG x f t i K=K (TT.jg x f t i):=by
 intro f;induction f with
 |zero=>intro t i K;cases t<;>rfl
 | succ f b=>
  intro t i K;cases t with
  | leaf=>show cond (aaO i 0) (K (.node x .leaf .leaf)) (cond (aaO (i%2) 1) (nG x f .leaf (i/2) λl=>K (.node .gone l .leaf)) (nG x f .leaf (i/2-1) λr=>K (.node .gone .leaf r)))=_;rw[b,b,TT.jg];cases aaO i 0<;>cases aaO (i%2) 1<;>rfl
  | node a l r=>show cond (aaO i 0) (K (.node x l r)) (cond (aaO (i%2) 1) (nG x f l (i/2) λl=>K (.node a l r)) (nG x f r (i/2-1) λr=>K (.node a l r)))=_;rw[b,b,TT.jg];cases aaO i 0<;>cases aaO (i%2) 1<;>rfl
def pE(T:S)(i:Nat)(x:bL)(K:S→Bool):Bool:=match T with|⟨n,t⟩=>nG x (abe i) t i λt=>K ⟨n,t⟩
theorem NS(T:S)(i:Nat)(x:bL)(K:S→Bool):pE T i x K=K (T.set i x):=by obtain⟨n,t⟩:=T;exact D0 x (i+1) t i λt=>K ⟨n,t⟩
def ui(T:S)(x:bL)(K:S→Bool):Bool:=match T with|⟨n,t⟩=>nG x (abe n) t n λt=>jC (abe n) λm=>K ⟨m,t⟩
theorem NT(T:S)(x:bL)(K:S→Bool):ui T x K=K (T.push x):=by obtain⟨n,t⟩:=T;simp only[ui,D0,ue];rfl
def pF(x:bL)(K:bL→Bool):Bool:=
 match x with
 | .row cs=>la cs λcs=>K (.row cs)
 | .map es=>la es λes=>K (.map es)
 | .tok a b=>jC a λa=>K (.tok a b)
 | .fQ s p=>jC p λp=>K (.fQ s p)
 | .h5 T u b=>K (.h5 T u b)
 | .ki U bs=>K (.ki U bs)
 | .gone=>K .gone
theorem NU(x:bL)(K:bL→Bool):pF x K=K x:=by cases x<;>simp only[pF,uf,ue]
def zn(n:Nat):I→List I→(List I→Bool)→Bool:=aaX (motive:=λ_=>I→List I→(List I→Bool)→Bool) (λv l K=>aaS (motive:=λ_=>Bool) (K []) (λ_ t _=>K (v::t)) l) (λ_ a v l K=>aaS (motive:=λ_=>Bool) (K []) (λx t _=>mK (a v t) λr=>mK K (x::r)) l) n
theorem D1:∀(n:Nat)(v:I)(l:List I)(K:List I→Bool),zn n v l K=K (l.set n v)
 |0,v,[],K=>rfl
 |0,v,x::t,K=>rfl
 |n+1,v,[],K=>rfl
 | n+1,v,x::t,K=>by show zn n v t (λr=>K (x::r))=_;rw[D1 n v t];rfl
def uj(o:Nat):List I→List I→(List I→Bool)→Bool
 |[],cs,K=>K cs
 |v::r,cs,K=>zn o v cs λcs=>uj (abe o) r cs K
theorem D2:∀(o:Nat)(l cs:List I)(K:List I→Bool),uj o l cs K=K (setCells cs o l)
 |_,[],cs,K=>rfl
 |o,v::r,cs,K=>by rw[uj,D1,D2 (abe o) r];rfl
inductive fq where
 |wr (v:I) (i:Nat) (cs:List I) (o:Nat) (news:List I)
 |aI (v:I)
 |set (v:I) (i:Nat) (x:bL)
 |push (v:I) (x:bL)
 |gp (v:I) (i:Nat) (x:bL)
 |gs (v:I) (i j:Nat) (x:bL)
def fq.app(T:S):fq→I×S
 | .wr v i cs o news=>(v,T.set i (.row (setCells cs o news)))
 | .aI v=>(v,T)
 | .set v i x=>(v,T.set i x)
 | .push v x=>(v,T.push x)
 | .gp v i x=>(v,(T.set i .gone).push x)
 | .gs v i j x=>(v,(T.set i .gone).set j x)
def j1(T:S)(r:Option fq)(K:fX):Bool:=
 match r with
 |none=>false
 | some e=>(match e with
   | .wr v i cs o news=>fv v λv=>la news λnews=>uj o news cs λcs=>pE T i (.row cs) (K v)
   | .aI v=>fv v λv=>K v T
   | .set v i x=>fv v λv=>pF x λx=>pE T i x (K v)
   | .push v x=>fv v λv=>pF x λx=>ui T x (K v)
   | .gp v i x=>fv v λv=>pF x λx=>pE T i .gone λT=>ui T x (K v)
   | .gs v i j x=>fv v λv=>pF x λx=>pE T i .gone λT=>pE T j x (K v))
theorem D3(T:S)(r:Option fq)(K:fX):j1 T r K=hP (r.map (fq.app T)) K:=by
 cases r with
 |none=>rfl
 |some e=>cases e<;>simp only[j1,DT,NU,NS,NT,uf,D2,Yi,fq.app,hP]
def zo(T:S)(n:Nat)(x v:I):Option fq:=
 match x with
 | .ptr id o=>
  match T.t.get id with
  | .row cs=>cond (and v.known (and (aaO v.cells.length n) (and (v.cells.all I.scalar) (y0 (aa4 o n) cs)))) (some (.wr (.ar []) id cs o v.cells)) none
  |_=>none
 |_=>none
theorem NV(T:S)(n:Nat)(x v:I):(zo T n x v).map (fq.app T)=(q0 T n x v).map λT=>(.ar [],T):=by
 cases x with
 | ptr id o=>
  simp only[zo,q0];cases hc:T.t.get id with
  | row cs=>
   dsimp only;rw[y1,nb];by_cases h:v.known=true∧v.cells.length=n∧v.cells.all I.scalar=true∧o+n≤cs.length
   · rw [aa h];have:(v.known&&(decide (v.cells.length=n)&&(v.cells.all I.scalar&&decide (aa4 o n≤cs.length))))=true:=by
      simp only[h.1,h.2.1,h.2.2.1,decide_true,abh,dQ];exact h.2.2.2
     rw[this];rfl
   · rw [ae h];have:(v.known&&(decide (v.cells.length=n)&&(v.cells.all I.scalar&&decide (aa4 o n≤cs.length))))=false:=by
      rw[aaA];intro a;simp only[X7,dQ]at a;exact h a
     rw[this];rfl
  |_=>rfl
 |_=>rfl
def zp(T:S)(mu:Bool)(cells:List I):fq:=cond mu (.push (.ptr T.n 0) (.row cells)) (.aI (.af cells))
theorem D4(T:S)(mu:Bool)(cells:List I):(zp T mu cells).app T=o_ T mu cells:=by cases mu<;>rfl
def zq(T:S)(mu:Bool)(n:Nat)(v:I):Option fq:=if v.known∧v.cells.length=n then some (zp T mu v.cells)else none
theorem NW(T:S)(mu:Bool)(n:Nat)(v:I):(zq T mu n v).map (fq.app T)=q1 T mu n v:=by
 unfold zq q1;split
 ·exact congrArg some (D4 _ _ _)
 ·rfl
def zr(T:S)(mu:Bool)(sz a:Nat)(b:List I)(c:List (Nat×Nat×I)):Option fq:=
 match iH (XY a b).flatten c with
 |some cells=>some (cond mu (.push (.row T.n 0 a sz) (.row cells)) (.aI (.aq .full a cells)))
 |none=>none
theorem NX(T:S)(mu:Bool)(sz a:Nat)(b:List I)(parts:List (Nat×Nat×I)):(zr T mu sz a b parts).map (fq.app T)=q2 T mu sz a b parts:=by
 unfold zr q2;cases iH (XY a b).flatten parts with
 |none=>rfl
 |some cells=>cases mu<;>rfl
def zs(T:S)(mu:Bool)(sz b:Nat)(x y:I):Option fq:=
 match fe T.ah sz y with
 |none=>none
 | some (m,news)=>
  if ¬news.all I.scalar then none else
  match x with
  | .aq tk len cells=>
   if m=0 then some (.aI (.aq tk len cells))
   else if ¬(cells.length=len*sz∧(len+m)*b≤140737488355328∧len+m≤9223372036854775807)then none
   else match tk,mu with
   | .nil,true | .full,true=>some (.push (.row T.n 0 (len+m) sz) (.row (cells++news)))
   | .nil,false | .full,false=>some (.push (.aq (.own T.n) (len+m) (cells++news)) (.tok ((len+m)*sz) sz))
   | .own t,_=>match T.t.get t with
    | .tok k a=>if k=len*sz∧a=sz then some (.gp (.aq (.own T.n) (len+m) (cells++news)) t (.tok ((len+m)*sz) sz))else none
    |_=>none
   | .dead,_=>none
  | .row id o len a=>
   match T.t.get id with
   | .row cs=>
    if m=0 then some (.aI (.row id o len a))
    else if ¬(o=0∧a=sz∧(len+m)*b≤140737488355328∧len+m≤9223372036854775807)then none
    else if(len+m)*sz≤cs.length then some (.wr (.row id 0 (len+m) sz) id cs (len*sz) news)
    else if cs.length=len*sz then some (.gp (.row T.n 0 (len+m) sz) id (.row (cs++news)))
    else none
   |_=>none
  |_=>none
theorem NY(T:S)(mu:Bool)(sz a:Nat)(x y:I):(zs T mu sz a x y).map (fq.app T)=q3 T mu sz a x y:=by
 unfold zs q3;cases fe T.ah sz y with
 |none=>rfl
 | some p =>
  obtain⟨m,news⟩:=p;dsimp only;split
  ·rfl
  · cases x <;> try rfl
    · rename_i tk len cells;dsimp only;split
      ·rfl
      · split
        ·rfl
        · cases tk<;>cases mu<;>try rfl
          all_goals
           rename_i t;dsimp only;generalize T.t.get t=o;cases o<;>try rfl
           dsimp only;split<;>rfl
    · rename_i id o len b;dsimp only;generalize T.t.get id=o;cases o<;>try rfl
      dsimp only;split
      ·rfl
      · split
        ·rfl
        · split
          ·rfl
          ·split<;>rfl
def zt(T:S)(mu:Bool)(sz b:Nat)(a:List I)(d cap:I):Option fq:=
 match d,cap with
 | .int .i64 n,.int .i64 c=>
  if 0≤n∧n≤c∧b*c≤281474976710656∧c≤9223372036854775807∧a.length=sz then
   if mu then some (.push (.row T.n 0 n.toNat sz) (.row (XY c.toNat a).flatten))
   else if n=c then some (.aI (.aq .full n.toNat (XY n.toNat a).flatten))else none
  else none
 |_,_=>none
theorem NZ(T:S)(mu:Bool)(sz b:Nat)(d:List I)(a cap:I):(zt T mu sz b d a cap).map (fq.app T)=pa T mu sz b d a cap:=by
 unfold zt pa;cases a<;>try rfl
 rename_i k n;cases k<;>try rfl
 cases cap<;>try rfl
 rename_i k c;cases k<;>try rfl
 dsimp only;split
 · split
   ·rfl
   ·split<;>rfl
 ·rfl
def zu(T:S)(sz:Nat)(x y:I):Option fq:=
 match x,fe T.ah sz y with
 | .row id o len _,some (m,news)=>
  match T.t.get id with
  | .row cs=>
   let n:=min m len
   if news.all I.scalar∧o+n*sz≤cs.length then some (.wr (.int .i64 n) id cs o (news.take (n*sz)))else none
  |_=>none
 |_,_=>none
theorem N0(T:S)(sz:Nat)(x y:I):(zu T sz x y).map (fq.app T)=q4 T sz x y:=by
 unfold zu q4;cases x<;>try rfl
 rename_i id o len z;cases fe T.ah sz y with
 |none=>rfl
 | some p=>
  obtain⟨m,news⟩:=p;dsimp only;generalize T.t.get id=q;cases q<;>try rfl
  dsimp only;split<;>rfl
def zv(T:S)(kk:FK)(m k v:I):Option fq:=
 match m with
 | .map id=>
  match T.t.get id with
  | .map es=>if plainKey kk k∧v.known then(match iI kk k es 0 with
      |some (some (i,_))=>some (.set (.ar []) id (.map (es.set i (k,v))))
      |some none=>some (.set (.ar []) id (.map (es++[(k,v)])))
      |none=>none)else none
  |_=>none
 |_=>none
theorem N1(T:S)(kk:FK)(m k v:I):(zv T kk m k v).map (fq.app T)=(q5 T kk m k v).map λT=>(.ar [],T):=by
 unfold zv q5;cases m<;>try rfl
 rename_i id;dsimp only;generalize T.t.get id=q;cases q<;>try rfl
 rename_i es;dsimp only;split
 · cases iI kk k es 0 with
   |none=>rfl
   | some r=>
    cases r with
    |none=>rfl
    |some p=>rfl
 ·rfl
def zw(T:S)(x:I):Option fq:=
 match x with
 | .row id o len sz=>
  match T.t.get id with
  | .row cs=>if o+len*sz≤cs.length then some (.set (.aq .dead len ((cs.drop o).take (len*sz))) id .gone)else none
  |_=>none
 | .ptr id o=>
  match T.t.get id with
  | .row cs=>match gR (λi=>T.t.get i) cs with
   |some (l,a)=>if a=id then none else some (.gs (.ptr id o) a id (.row l))
   |none=>some (.set (.af (cs.drop o)) id .gone)
  |_=>none
 | .aq tk len cells=>some (.aI (.aq tk len cells))
 | .af cs=>some (.aI (.af cs))
 | .agg cells=>match gR (λi=>T.t.get i) cells with
  |some (l,id)=>some (.set (.agg l) id .gone)
  |none=>some (.aI (.agg cells))
 |_=>none
theorem N2(T:S)(x:I):(zw T x).map (fq.app T)=nB T x:=by
 unfold zw nB;cases x<;>try rfl
 · rename_i id o;dsimp only;generalize T.t.get id=q;cases q<;>try rfl
   rename_i cs;dsimp only;cases gR (λi=>T.t.get i) cs with
   |none=>rfl
   | some q=>
    obtain⟨l,a⟩:=q;dsimp only;by_cases e:a=id
    ·rw[aa e,aa e];rfl
    ·rw[ae e,ae e];rfl
 · rename_i id o len sz;dsimp only;generalize T.t.get id=q;cases q<;>try rfl
   dsimp only;split<;>rfl
 · rename_i cs;dsimp only;cases gR (λi=>T.t.get i) cs with
   |none=>rfl
   |some q=>rfl
structure N3 where
 f:dC→EV→S→fX→Bool
structure N4 where
 f:EV→I→(EV→Bool)→Bool
structure uk where
 f:dC→EV→S→(EV→S→Bool)→Bool
structure N5 where
 f:dC→EV→S→(EV→S→Bool)→(ff→EV→S→Bool)→Bool
structure N6 where
 f:EV→List I→(EV→Bool)→Bool
structure D5 where
 f:EV→S→Bool→Bool
structure N7 where
 f:EV→S→(List I→Bool)→Bool
structure rk where
 f:dC→List I→S→fX→Bool
def pG(a:Bool)(x:Option I)(K:I→Bool):Bool:=cond a (eR x K) (ri x K)
theorem D6(a:Bool)(x:Option I)(K:I→Bool):pG a x K=dJ x K:=by cases a<;>simp only[pG,cond_true,cond_false,pA,DU]
def um(a:Option Nat)(sz:Nat)(x i:I)(K:I→Bool):Bool:=
 match x with
 | .aq _ len cells=>(match i with
   | .int _ n=>(match n with
     | .ofNat m=>(match a with|none=>cond (aaT m len) (ug (aa6 m sz) cells λr=>K (.af r)) false|some _=>eR (k_ a sz x i) K)
     |_=>eR (k_ a sz x i) K)
   |_=>eR (k_ a sz x i) K)
 | .af cells=>(match i with
   | .int _ n=>(match n with
     | .ofNat m=>(match a with|some l=>cond (aaT m l) (ug (aa6 m sz) cells λr=>K (.af r)) false|none=>eR (k_ a sz x i) K)
     |_=>eR (k_ a sz x i) K)
   |_=>eR (k_ a sz x i) K)
 |_=>eR (k_ a sz x i) K
theorem N8(a:Option Nat)(sz:Nat)(x i:I)(K:I→Bool):um a sz x i K=dJ (aO a sz x i) K:=by
 rw[←NP,←pA];cases x<;>try rfl
 · rename_i cells;cases i<;>try rfl
   rename_i k n;cases n<;>try rfl
   rename_i m;cases a<;>try rfl
   rename_i l;rw[pA];simp only[um,k_,asNat,uh,rf];cases aaT m l<;>rfl
 · rename_i tk len cells;cases i<;>try rfl
   rename_i k n;cases n<;>try rfl
   rename_i m;cases a<;>try rfl
   rw[pA];simp only[um,k_,asNat,uh,rf];cases aaT m len<;>rfl
def zx(a:Nat)(x:I)(K:I→Bool):Bool:=
 match x with
 | .ptr i o=>jC (aa4 o a) λo=>K (.ptr i o)
 | .af cs=>ug a cs λr=>K (.af r)
 |_=>eR (W a x) K
theorem N9(a:Nat)(x:I)(K:I→Bool):zx a x K=dJ (W a x) K:=by
 unfold zx;split
 ·rw[ue];rfl
 ·rw[uh];rfl
 ·exact pA _ _
def uo:dO→N3
 | .mv x=>⟨λ_ E T K=>cr x E λv=>K v T⟩
 | .pick c a b=>⟨λ_ E T K=>cr c E λc=>o9 c true (cr a E λv=>K v T) (cr b E λv=>K v T)⟩
 | .bin op x y=>⟨λ_ E T K=>cr x E λx=>cr y E λy=>eR ((DO op).f x y) λv=>K v T⟩
 | .beq neg x y=>⟨λ_ E T K=>cr x E λx=>cr y E λy=>eR (kM neg x y) λv=>K v T⟩
 | .jx k neg x=>⟨λ_ E T K=>cr x E λx=>eR (my k neg x) λv=>K v T⟩
 | .iJ neg ks x y=>⟨λ_ E T K=>cr x E λx=>cr y E λy=>eR (km neg ks x y) λv=>K v T⟩
 | .un op x=>⟨λ_ E T K=>cr x E λx=>eR (cI op x) λv=>K v T⟩
 | .conv k x=>⟨λ_ E T K=>cr x E λx=>eR (DP k x) λv=>K v T⟩
 | .same x=>⟨λ_ E T K=>cr x E λx=>ri (oB x) λv=>K v T⟩
 | .jR x=>⟨λ_ E T K=>cr x E λx=>ri (aX x) λv=>K v T⟩
 | .field off sz agg x=>⟨λ_ E T K=>cr x E λx=>pG agg (zk off sz agg x) λv=>K v T⟩
 | .idx len sz agg x i=>⟨λ_ E T K=>cr x E λx=>cr i E λi=>pG agg (DQ len sz agg x i) λv=>K v T⟩
 | .idxs x i=>⟨λ_ E T K=>cr x E λx=>cr i E λi=>eR (DS x i) λv=>K v T⟩
 | .gG off x=>⟨λ_ E T K=>cr x E λx=>zx off x λv=>K v T⟩
 | .fS arr sz x i=>⟨λ_ E T K=>cr x E λx=>cr i E λi=>um arr sz x i λv=>K v T⟩
 | .slice sz x lo hi mx=>⟨λ_ E T K=>cr x E λx=>pD E lo λlo=>pD E hi λhi=>pD E mx λmx=>eR (c9 sz x lo hi mx) λv=>K v T⟩
 | .jS x lo hi=>⟨λ_ E T K=>cr x E λx=>pD E lo λlo=>pD E hi λhi=>eR (oC x lo hi) λv=>K v T⟩
 | .hx t x=>⟨λ_ E T K=>cr x E λv=>K (.iface t v) T⟩
 | .gS key bx=>⟨λ_ E T K=>l5 E bx λvs=>K (.fn key vs) T⟩
 | .extract i x=>⟨λ_ E T K=>cr x E λx=>ri (bh i x) λv=>K v T⟩
 | .build zero parts=>⟨λ_ E T K=>rj E parts λps=>eR (bm zero ps) λv=>K v T⟩
 | .len str x=>⟨λ_ E T K=>cr x E λx=>eR (bo str x) λv=>K v T⟩
 | .hy n=>⟨λ_ E T K=>K (.int .i64 n) T⟩
 | .cap x=>⟨λ_ E T K=>cr x E λx=>eR (qF x) λv=>K v T⟩
 | .hC mx xs=>⟨λ_ E T K=>l5 E xs λvs=>eR (fo mx vs) λv=>K v T⟩
 | .load n agg x=>⟨λ_ E T K=>cr x E λx=>pG agg (rh T n agg x) λv=>K v T⟩
 | .store n x v=>⟨λ_ E T K=>cr x E λx=>cr v E λv=>j1 T (zo T n x v) K⟩
 | .box mu n x=>⟨λ_ E T K=>cr x E λx=>j1 T (zq T mu n x) K⟩
 | .alloc mu zero=>⟨λ_ E T K=>j1 T (some (zp T mu zero)) K⟩
 | .gH mu sz len zero parts=>⟨λ_ E T K=>rj E parts λps=>j1 T (zr T mu sz len zero ps) K⟩
 | .append mu sz bytes x y=>⟨λ_ E T K=>cr x E λx=>cr y E λy=>j1 T (zs T mu sz bytes x y) K⟩
 | .make mu sz bytes zero len cap=>⟨λ_ E T K=>cr len E λl=>cr cap E λc=>j1 T (zt T mu sz bytes zero l c) K⟩
 | .copy sz x y=>⟨λ_ E T K=>cr x E λx=>cr y E λy=>j1 T (zu T sz x y) K⟩
 | .gT=>⟨λ_ E T K=>j1 T (some (.push (.map T.n) (.map []))) K⟩
 | .lookup kk zero ok m k=>⟨λ_ E T K=>cr m E λm=>cr k E λk=>eR (kP T.ah kk zero ok m k) λv=>K v T⟩
 | .hD kk m k v=>⟨λ_ E T K=>cr m E λm=>cr k E λk=>cr v E λv=>j1 T (zv T kk m k v) K⟩
 | .delete kk m k=>⟨λ_ E T K=>dJ (tQ T kk (m.val E) (k.val E)) λT=>K (.ar []) T⟩
 | .hE m=>⟨λ_ E T K=>cr m E λm=>eR (kQ T.ah m) λv=>K v T⟩
 | .jT x=>⟨λ_ E T K=>cr x E λx=>eR (oE x) λv=>K v T⟩
 | .hI x=>⟨λ_ E T K=>cr x E λx=>eR (abstr T.ah x) λv=>K v T⟩
 | .h6 x=>⟨λ_ E T K=>hP (tO T (x.val E)) K⟩
 | .h7 x=>⟨λ_ E T K=>hP (tP T (x.val E)) K⟩
 | .call key args=>⟨λB E T K=>l5 E args λvs=>B key vs T K⟩
 | .h8 f args=>⟨λB E T K=>cr f E λf=>l5 E args λvs=>yD B f vs T K⟩
 | .ext e xs=>⟨λ_ E T K=>l5 E xs λvs=>hP (text T e vs) K⟩
 | .inv hJ x args=>⟨λB E T K=>cr x E λx=>l5 E args λvs=>yE B hJ x vs T K⟩
theorem N_(x:Option S)(K:fX):hP (x.map λT=>(.ar [],T)) K=dJ x λT=>K (.ar []) T:=by cases x<;>rfl
theorem D7(B:dC)(E:EV)(T:S)(K:fX)(op:dO):(uo op).f B E T K=lY B [] T K (op.sub E):=by cases op<;>simp only[uo,dO.sub,lY,pB,DW,DX,NQ,pC,DY,DZ,NR,pA,DU,D6,N8,N9,NJ,NL,NM,NN,NO,zl,D3,NV,NW,NX,NY,NZ,N0,N1,N_,Yi,D4]<;>rfl
def lh(n:Nat):Option Nat→N4
 |none=>⟨λE _ K=>K E⟩
 |some d=>cond (aaT d n) ⟨λE v K=>K ((d,v)::E)⟩ ⟨λE _ K=>K E⟩
theorem zy(n:Nat)(d:Option Nat)(E:EV)(v:I)(K:EV→Bool):(lh n d).f E v K=K (e_ n E d v):=by
 cases d with
 |none=>rfl
 | some d=>simp only[lh,e_,eP];cases aaT d n<;>rfl
def rl(n:Nat)(o:bz):uk:=
 match o.guard with
 |none=>⟨λB E T K=>(uo o.op).f B E T λv a=>(lh n o.dst).f E v λE=>K E a⟩
 | some (s,want)=>⟨λB E T K=>lg E s λg=>
     q7 g want ((lh n (some s)).f E (.bool want) λE=>(uo o.op).f B E T λv a=>(lh n o.dst).f E v λE=>K E a)
      ((lh n (some s)).f E (.bool !want) λE=>(lh n o.dst).f E (.ar []) λE=>K E T) ((lh n (some s)).f E (.ar []) λE=>(lh n o.dst).f E (.ar []) λE=>K E T)⟩
theorem zz(n:Nat)(o:bz)(B:dC)(E:EV)(T:S)(K:EV→S→Bool):(rl n o).f B E T K=nD B n o E T K:=by
 unfold rl nD;cases a:o.guard with
 |none=>simp only[D7,zy]
 |some g=>simp only[D7,zy,e_,mL]
def rm(n:Nat):List bz→uk
 |[]=>⟨λ_ E T K=>K E T⟩
 |o::r=>⟨λB E T K=>(rl n o).f B E T λE' a=>(rm n r).f B E' a K⟩
theorem Oa(n:Nat):∀(l:List bz)(B:dC)(E:EV)(T:S)(K:EV→S→Bool),(rm n l).f B E T K=k6 B n l E T K:=by
 intro l;induction l with
 |nil=>intro B E T K;rfl
 | cons o r a=>intro B E T K;simp only[rm,zz,k6,nD,a]
def pH(n:Nat)(ops:List bz):List Nat→uk
 |[]=>⟨λ_ E T K=>K E T⟩
 | i::r=>match ops[i]? with
  |some o=>⟨λB E T K=>(rl n o).f B E T λE' a=>(pH n ops r).f B E' a K⟩
  |none=>⟨λ_ _ _ _=>false⟩
theorem zA(n:Nat)(ops:List bz):∀(l:List Nat)(B:dC)(E:EV)(T:S)(K:EV→S→Bool),(pH n ops l).f B E T K=nE B n ops l E T K:=by
 intro l;induction l with
 |nil=>intro B E T K;rfl
 | cons i r a=>
  intro B E T K;simp only[pH,nE];cases ops[i]? with
  |none=>rfl
  |some o=>simp only[zz,a]
def uq(o:bz):D5:=
 match o.op with
 | .load n agg x=>⟨λE T X=>cr x E λx=>lg E (o.dst.getD 0) λd=>and (k7 (rh T n agg x) d) X⟩
 | .lookup kk zero ok m k=>⟨λE T X=>and (k7 (kP T.ah kk zero ok (m.val E) (k.val E)) (dK E (o.dst.getD 0))) X⟩
 | .hE m=>⟨λE T X=>and (k7 (kQ T.ah (m.val E)) (dK E (o.dst.getD 0))) X⟩
 | .hI x=>⟨λE T X=>and (k7 (abstr T.ah (x.val E)) (dK E (o.dst.getD 0))) X⟩
 |_=>⟨λ_ _ X=>X⟩
theorem D8(o:bz)(E:EV)(T:S)(X:Bool):(uq o).f E T X=(pf T E o&&X):=by unfold uq pf;cases o.op<;>simp only[pB,abh,pC,mL,zl]<;>rfl
def pI(ops:List bz):List Nat→D5
 |[]=>⟨λ_ _ X=>X⟩
 | l :: r=>match ops[l]? with
  | some o=>(match o.guard with
    |none=>⟨λE T X=>(uq o).f E T ((pI ops r).f E T X)⟩
    |some (s,want)=>⟨λE T X=>and (lg E s λg=>yI g want ((uq o).f E T true)) ((pI ops r).f E T X)⟩)
  |none=>⟨λE T X=>(pI ops r).f E T X⟩
theorem Ob(ops:List bz):∀(l:List Nat)(E:EV)(T:S)(X:Bool),(pI ops l).f E T X=pg ops E T X l:=by
 intro l;induction l with
 |nil=>intro E T X;rfl
 | cons i r a=>
  intro E T X;simp only[pI,pg];cases ops[i]? with
  |none=>simp only[a,abh]
  | some o=>
   simp only[tY];cases o.guard with
   |none=>simp only[a,D8]
   |some g=>simp only[a,D8,Bool.and_true,mL]
def ur(n:Nat)(ops:List bz)(a:List Nat):List (List Nat×Nat×List Nat)→uk
 |[]=>pH n ops a
 | (b,e,st)::r=>match ops[e]? with
  |some o=>⟨λB E T K=>(pH n ops b).f B E T λc g=>(rl n o).f B c g λh d=>(pI ops st).f c d ((ur n ops a r).f B h d K)⟩
  |none=>⟨λB E T K=>(pH n ops b).f B E T λ_ _=>false⟩
theorem Oc(n:Nat)(ops:List bz)(a:List Nat):∀(l:List (List Nat×Nat×List Nat)) (B:dC) (E:EV) (T:S) (K:EV→S→Bool),(ur n ops a l).f B E T K=ph B n ops a l E T K:=by
 intro l;induction l with
 |nil=>intro B E T K;exact zA _ _ _ _ _ _ _
 | cons p r b=>
  obtain⟨c,e,st⟩:=p;intro B E T K;simp only[ur,ph];cases ops[e]? with
  |none=>simp only[zA]
  |some o=>simp only[zA,zz,Ob,b]
def pJ(n:Nat):List Nat→N6
 |[]=>⟨λE _ K=>K E⟩
 |t::r=>cond (aaT t n) ⟨λE s K=>aaS (motive:=λ_=>Bool) ((pJ n r).f ((t,.bot)::E) [] K) (λv q _=>(pJ n r).f ((t,v)::E) q K) s⟩ ⟨λE s K=>(pJ n r).f E s.tail K⟩
theorem Od(n:Nat):∀(l:List Nat)(E:EV)(s:List I)(K:EV→Bool),(pJ n l).f E s K=K (iP n E l s):=by
 intro l;induction l with
 |nil=>intro E s K;cases s<;>rfl
 | cons t r a=>
  intro E s K;simp only[pJ,iP,eP];cases aaT t n with
  |true=>cases s<;>simp only[cond_true,a,List.headD_nil,List.headD_cons,List.tail_nil,List.tail_cons]
  |false=>simp only[cond_false,a]
def rp(E:EV):List Nat→(List I→Bool)→Bool
 |[],K=>K []
 |t::r,K=>lg E t λv=>rp E r λvs=>K (v::vs)
theorem D9(E:EV):∀(l:List Nat)(K:List I→Bool),rp E l K=K (hR E l)
 |[],K=>rfl
 |t::r,K=>by rw[rp,mL,D9 E r];rfl
def l6(ks:List Nat):EV→EV
 |[]=>[]
 |(t,v)::E=>cond (gZ t ks) (l6 ks E) ((t,v)::l6 ks E)
def uu(ks:List Nat)(E:EV):(EV→Bool)→Bool:=aaS (motive:=λ_=>(EV→Bool)→Bool) (λK=>K []) (λp _ a K=>abf (motive:=λ_=>Bool) (λt v=>cond (gZ t ks) (a K) (a λE=>K ((t,v)::E))) p) E
theorem zB(ks:List Nat):∀(E:EV)(K:EV→Bool),uu ks E K=K (l6 ks E)
 |[],K=>rfl
 | (t,v)::E,K=>by show cond (gZ t ks) (uu ks E K) (uu ks E λE=>K ((t,v)::E))=_;rw[zB ks E,zB ks E,l6];cases gZ t ks<;>rfl
theorem D_:∀(t:Nat)(l:List Nat),gZ t l=decide (t∈l)
 |t,[]=>rfl
 | t,s::r=>by
  rw[gZ,nb,D_ t r];by_cases h:t=s
  ·simp[h]
  ·simp[h]
theorem zC(ks:List Nat):∀(E:EV)(i:Nat),dK (l6 ks E) i=if i∈ks then .bot else dK E i
 |[],i=>by simp[l6,dK]
 | (t,v)::E,i=>by
  rw[l6,D_,tS];by_cases h:t∈ks
  · simp only[h,decide_true,cond_true,zC ks E i];by_cases hi:i∈ks
    ·rw[aa hi,aa hi]
    ·rw[ae hi,ae hi,ae (show ¬t=i from λe=>hi (e▸h))]
  · simp only[h,decide_false,cond_false,tS,zC ks E i];by_cases e:t=i
    ·subst e;rw[aa rfl,ae h,aa rfl]
    ·rw[ae e,ae e]
theorem Ea:∀(ks:List Nat)(a:Env)(i:Nat),(Rb.eX a ks).getD i .bot=if i∈ks then .bot else a.getD i .bot
 |[],a,i=>by simp[Rb.eX]
 | t :: r,a,i=>by
  rw[Rb.eX,Ea r];by_cases b:i∈r
  ·rw[aa b,aa (aao _ b)]
  · rw [ae b];by_cases e:t=i
    · subst e;rw[aa aap,Zm,Ys];simp only[aY];split<;>rfl
    ·rw[ae (by simp only[aan,not_or];exact⟨λh=>e h.symm,b⟩),Zm,YX e,←Zm]
theorem Eb:∀(ks:List Nat)(a:Env),(Rb.eX a ks).length=a.length
 |[],a=>rfl
 |t::r,a=>by rw[Rb.eX,Eb r];simp
theorem dm.aI{n:Nat}{E:EV}{a:Env}(h:dm n E a)(ks:List Nat):dm n (l6 ks E) (Rb.eX a ks):=⟨by rw[Eb];exact h.1,λi=>by rw[zC,Ea,h.2 i]⟩
def Ec(id:Nat)(N:EV→S→Bool)(X:ff→EV→S→Bool):ff→EV→S→Bool
 | .exit a,E,T=>cond (aaO a id) (N E T) (X (.exit a) E T)
 |e,E,T=>X e E T
def Ed(F:List I→S→(List I→S→Bool)→Bool)(n:Nat):List I→S→Bool:=aaX (motive:=λ_=>List I→S→Bool) (λ_ _=>false) (λ_ a s T=>F s T a) n
def im(fuel n:Nat):c0→N5
 | .skip=>⟨λ_ E T N _=>N E T⟩
 | .region ops=>⟨λB E T N _=>(rm n ops).f B E T N⟩
 | .draw ops _ bf last=>⟨λB E T N _=>(ur n ops last bf).f B E T N⟩
 | .seq a b=>⟨λB E T N X=>(im fuel n a).f B E T (λE T=>(im fuel n b).f B E T N X) X⟩
 | .cond x a b=>⟨λB E T N X=>cr x E λx=>o9 x true ((im fuel n a).f B E T N X) ((im fuel n b).f B E T N X)⟩
 | .block id a=>⟨λB E T N X=>(im fuel n a).f B E T N (Ec id N X)⟩
 | .loop vs ks a=>⟨λB E T N X=>uu ks E λd=>rp E vs λs=>Ed (λs T K=>(pJ n vs).f d s λE=>(im fuel n a).f B E T (λE' c=>rp E' vs λs=>K s c) X) fuel s T⟩
 | .exit id=>⟨λ_ E T _ X=>X (.exit id) E T⟩
 | .ret=>⟨λ_ E T _ X=>X .ret E T⟩
 | .freeze t a=>⟨λB E T N X=>lg E t λv=>j1 T (zw T v) λv c=>(lh n (some t)).f E v λE=>(im fuel n a).f B E c N X⟩
 | .join vs ks a b=>⟨λ_ _ _ _ _=>false⟩
 | .gq vs ks ops b=>⟨λ_ _ _ _ _=>false⟩
theorem Oe(hB:eQ Φ B)(w:jd Φ)(fuel n:Nat):∀(c:c0){E:EV}{k:Env}{T:S}{N:EV→S→Bool}{X:ff→EV→S→Bool}{Q:ff→Env→Z→Prop},dm n E k→(im fuel n c).f B E T N X=true →
  (∀E' ax d,dm n E' ax→N E' d=true→Q .normal ax d.ah)→(∀x E' ax d,x ≠ .normal→dm n E' ax→X x E' d=true→Q x ax d.ah)→cn Φ c k T.ah Q:=by
 have uv:∀(l:List bz){E:EV}{k:Env}{T:S}{N:EV→S→Bool}{Q:Env→Z→Prop},dm n E k→(rm n l).f B E T N=true→(∀E' ax d,dm n E' ax→N E' d=true→Q ax d.ah)→ib Φ l k T.ah Q:=by intro l E k T N Q ha h hN;rw[Oa]at h;refine yz w ha (yH (Q:=λE' H'=>∃d,H'=d.ah∧N E' d=true) hB h λe d h=>⟨d,rfl,h⟩) λE' ax H' o g=>?_;obtain⟨d,rfl,g⟩:=g;exact hN _ _ _ o g
 intro c;induction c with
 |skip=>intro E k T N X Q ha h hN j;exact hN _ _ _ ha h
 |region ops=>intro E k T N X Q ha h hN j;exact uv ops ha h hN
 | draw ops pr bf last=>intro E k T N X Q ha h hN j;simp only[im,Oc]at h;refine Dp w ha (Dv (Q:=λE' H'=>∃d,H'=d.ah∧N E' d=true) hB h λe d h=>⟨d,rfl,h⟩) λE' ax H' o g=>?_;obtain⟨d,rfl,g⟩:=g;exact hN _ _ _ o g
 | seq a b r u=>
  intro E k T N X Q ha h hN j;simp only[im]at h;simp only[cn];refine r ha h (λE' ax d o g=>u o g hN j) λx E' ax d p o g=>?_;cases x with
  |normal=>exact absurd rfl p
  |exit i=>exact j _ _ _ _ p o g
  |ret=>exact j _ _ _ _ p o g
 |join vs ks a b r u=>intro E k T N X Q ha h hN j;cases h
 | cond x a b r u=>intro E k T N X Q ha h hN j;simp only[im,pC]at h;rw[←pB,tU ha]at h;exact yG h (λh=>r ha h hN j) λh=>u ha h hN j
 | block id a q=>
  intro E k T N X Q ha h hN j;simp only[im]at h;simp only[cn];refine q ha h hN λx E' ax d p o g=>?_;cases x with
  |normal=>exact absurd rfl p
  | exit i=>
   simp only[Ec,nb]at g;dsimp only;by_cases hi:i=id
   ·rw[aa hi];simp only[hi,decide_true,cond_true]at g;exact hN _ _ _ o g
   ·rw[ae hi];simp only[hi,decide_false,cond_false]at g;exact j _ _ _ _ p o g
  |ret=>exact j _ _ _ _ p o g
 | loop vs ks a q=>
  intro E k T N X Q ha h hN j;simp only[im,zB,D9,Od]at h;simp only[cn];have main:∀(m:Nat)(s:List I)(T:S),Ed (λs T K=>(im fuel n a).f B (iP n (l6 ks E) vs s) T (λE' d=>K (hR E' vs) d) X) m s T=true →
    aA (λ(s:List I×Z) (K:List I×Z→Prop)=>
      cn Φ a (ic (eX k ks) vs s.1) s.2 λe ax H'=>match e with
       | .normal=>K (er ax vs,H')
       |e=>Q e ax H') (s,T.ah):=by
   intro m;induction m with
   |zero=>intro s T h;cases h
   | succ m y=>
    intro s T h;refine aA.step ?_;refine q ((ha.aI ks).ic vs s) h (λE' ax d o g=>?_) λx E' ax d p o g=>?_
    · dsimp only;rw[←o.er vs];exact y _ _ g
    · cases x with
      |normal=>exact absurd rfl p
      |exit i=>exact j _ _ _ _ p o g
      |ret=>exact j _ _ _ _ p o g
  rw[←ha.er vs];exact main fuel _ _ h
 |exit id=>intro E k T N X Q ha h hN j;exact j _ _ _ _ (by intro h;cases h) ha h
 |ret=>intro E k T N X Q ha h hN j;exact j _ _ _ _ (by intro h;cases h) ha h
 | freeze t a q=>intro E k T N X Q ha h hN j;simp only[im,mL,D3,N2,zy,e_]at h;simp only[cn];rw[ha.2 t]at h;exact kv (Dl _ _) h λv d g=>q (ha.set t v) g hN j
 |gq vs ks ops b q=>intro E k T N X Q ha h hN j;cases h
def nH:List jz→N7
 |[]=>⟨λ_ _ K=>K []⟩
 | .tmp t::r=>⟨λE T K=>lg E t λv=>(nH r).f E T λvs=>K (v::vs)⟩
 | .cell t n agg::r=>⟨λE T K=>lg E t λx=>pG agg (rh T n agg x) λv=>(nH r).f E T λvs=>K (v::vs)⟩
theorem Of:∀(rs:List jz)(E:EV)(T:S)(K:List I→Bool),(nH rs).f E T K=pj E T rs K:=by
 intro rs;induction rs with
 |nil=>intros;rfl
 |cons r rs a=>intro E T K;cases r<;>simp only[nH,pj,a,mL,D6,zl]
def uw(vs:List I)(Q:fX)(T:S):Bool:=
 match vs with
 |[v]=>Q v T
 |vs=>Q (.ar vs) T
theorem Og(vs:List I)(Q:fX)(T:S):uw vs Q T=Q (mA vs) T:=by
 cases vs with
 |nil=>rfl
 |cons v r=>cases r<;>rfl
def Oh(rs:List jz)(Q:fX):ff→EV→S→Bool
 | .exit _,_,_=>false
 |_,E,T=>(nH rs).f E T λvs=>uw vs Q T
def initK:List I→Nat→(EV→Bool)→Bool
 |[],_,K=>K []
 |a::r,i,K=>initK r (abe i) λE=>K ((i,a)::E)
theorem Ee:∀(l:List I)(i:Nat)(K:EV→Bool),initK l i K=K (lX l i)
 |[],_,_=>rfl
 |a::r,i,K=>by rw[initK,Ee r];rfl
def ux(fuel:Nat)(f:aT):rk:=⟨λB args T Q=>and (aaY args.length f.ntmps) (initK args 0 λE=>(im fuel f.ntmps f.body).f B E T (λE T=>(nH f.results).f E T λvs=>uw vs Q T) (Oh f.results Q))⟩
theorem Oi(hB:eQ Φ B)(d:jd Φ){fuel:Nat}{f:aT}{args:List I}{T:S}{K:fX}(h:(ux fuel f).f B args T K=true){Q:ad}(e:∀v a,K v a=true→Q v a.ah):oI Φ f args T.ah Q:=by
 simp only[ux,X7,Ee]at h;have hle:=aaZ h.1;have ha:dm f.ntmps (lX args 0) (args++XY (f.ntmps-args.length) .bot):=by
  refine⟨by simp;omega,λi=>?_⟩;rw[yy];simp only[aaV,bR,aaW];simp only[Zm];by_cases hi:i<args.length
  ·rw[ZE hi]
  · rw[ZF (by omega),aah (by omega),aaJ];split<;>rfl
 have fin:∀(E':EV)(ax:Env)(a:S),dm f.ntmps E' ax→(nH f.results).f E' a (λvs=>uw vs K a)=true→kS ax a.ah f.results λvs=>Q (mA vs) a.ah:=by intro E' ax a c b;rw[Of]at b;rw[←yA c];exact yK b λvs h=>e _ _ (by rwa [Og]at h)
 refine Oe hB d fuel _ f.body ha h.2 (λE' ax a c b=>fin E' ax a c b) λx E' ax a g c b=>?_;cases x with
 |normal=>exact absurd rfl g
 |exit i=>cases b
 |ret=>exact fin E' ax a c b
def uy(a:Nat→Option rk)(B:dC):dC:=λk args T Q=>match a k with
 |some c=>c.f B args T Q
 |none=>false
def rq(C:Ctx)(fuel:Nat):List Hint→Nat→Option rk
 |[],_=>none
 |h::r,k=>cond (aaO h.dR k) (some (ux fuel (R C h))) (rq C fuel r k)
theorem Ef{C:Ctx}{fuel:Nat}:∀{L:List Hint}{k:Nat}{c:rk},rq C fuel L k=some c→∃h,h∈L∧h.dR=k∧c=ux fuel (R C h)
 |[],_,_,h=>by cases h
 | p::r,k,c,h=>by
  unfold rq at h;cases hb:aaO p.dR k with
  | true=>rw[hb]at h;simp only[cond_true,Yh.injEq]at h;exact⟨p,aap,aa1 hb,h.symm⟩
  | false=>rw[hb]at h;obtain⟨f,hf,hc⟩:=Ef (L:=r) h;exact⟨f,aao _ hf,hc⟩
theorem Oj{P:Program}{a:Nat→Option (List I)}{L:List Hint}(d:il (lZ P a) L=true)(fuel:Nat):yN (ai (lZ P a)) (uy (rq (lZ P a) fuel L)):=by
 intro B hB k args T K h Q hQ;unfold uy at h;split at h
 · rename_i c hc;obtain⟨hi,hm,hk,rfl⟩:=Ef hc;have hs:oI (ai (lZ P a)) (R (lZ P a) hi) args T.ah Q:=Oi hB (tr _) h hQ;refine⟨Cs (yl _) hs,λf hf G w Vs hG e g=>?_⟩;have i:f=k:=by
    simp only[lZ]at hf;cases b:jA P k with
    |true=>rw[b]at hf;simpa using hf.symm
    |false=>rw[b]at hf;cases hf
   subst i;exact De (pt P a) (by rw[←hk];exact DL d _ hm) hs hG e g
 ·cases h
end
end Rb

namespace Rb
open Go
noncomputable section
def forced(b:Bool):Bool:=abg (motive:=λ_=>Bool) false true b
theorem Ol(b:Bool):forced b=b:=by cases b<;>rfl
theorem dD{b:Bool}(h:forced b=true):b=true:=by rwa [Ol]at h
def fY:List (Nat×List I×I)→pk
 |[],_,_=>none
 |e::r,k,args=>cond (aaO e.1 k) (cond (I.fU e.2.1 args) (some e.2.2) (fY r k args)) (fY r k args)
theorem uz{Φ:aj}:gY Φ (fY []):=λ_ _ _ h=>by cases h
end
end Rb

namespace Rb
open Go
variable{C:Ctx}{key:Nat}{H:Z}{Q:ad}
mutual
def I.cd:I→I
 | .af cs=> .af (I.cf cs)
 | .aq _ len cs=> .aq .dead len (I.cf cs)
 | .fn k cs=> .fn k (I.cf cs)
 | .iface t v=> .iface t (I.cd v)
 | .agg cs=> .agg (I.cf cs)
 | .ar cs=> .ar (I.cf cs)
 |v=>v
def I.cf:List I→List I
 |[]=>[]
 |c::r=>I.cd c::I.cf r
end
theorem lk:∀cs:List I,I.cf cs=cs.map I.cd
 |[]=>rfl
 |c::r=>by rw[I.cf,lk r];rfl
theorem l7{cs:List I}{j:Nat}{c:I}(h:(I.cf cs)[j]?=some c):∃d,cs[j]?=some d∧c=d.cd:=by
 rw[lk,YT]at h;cases hc:cs[j]? with
 |none=>rw[hc]at h;cases h
 |some d=>rw[hc]at h;simp at h;exact⟨d,rfl,h.symm⟩
theorem rr(cs:List I):(I.cf cs).length=cs.length:=by rw[lk,aaz]
theorem VR.cd{F:cx}{w:World}{G:aG}{c:I}{V:Value}(h:VR F w G c V):VR F w G c.cd V:=by
 induction h with
 |bot V=>exact .bot V
 |bool b=>exact .bool b
 |int k n=>exact .int k n
 |str s=>exact .str s
 |eJ=>exact .eJ
 |ptr id off h=>exact .ptr id off h
 | af cells b o Vs h _ g=>
  refine .af _ b o Vs (λj c i=>?_) λj c i=>?_
  ·obtain⟨d,e,rfl⟩:=l7 i;exact h j d e
  ·obtain⟨d,e,rfl⟩:=l7 i;exact g j d e
 |e4=>exact .e5 none 0
 |e5 a cap=>exact .e5 a cap
 | aq tk len cells b o cap Vs ht hle h _ g=>
  refine .aq .dead len _ b o cap Vs trivial hle (λj c i=>?_) λj c i=>?_
  ·obtain⟨d,e,rfl⟩:=l7 i;exact h j d e
  ·obtain⟨d,e,rfl⟩:=l7 i;exact g j d e
 |row id off len sz cap h hle hc=>exact .row id off len sz cap h hle hc
 |map id h=>exact .map id h
 |fy=>exact .fy
 | fn key bx f Vs hk hf hl _ g=>refine .fn key _ f Vs hk hf (by rw[rr];exact hl) λj c V hc l=>?_;obtain⟨d,e,rfl⟩:=l7 hc;exact g j d V e l
 | kj key k bx f Vs hk hf hl _ g=>refine .kj key k _ f Vs hk hf (by rw[rr];exact hl) λj c V hc l=>?_;obtain⟨d,e,rfl⟩:=l7 hc;exact g j d V e l
 |gm=>exact .gm
 |iface t v V _ g=>exact .iface t _ V g
 |gn=>exact .gn
 | agg cs Vs hl _ g=>refine .agg _ Vs (by rw[rr];exact hl) λj c V hc l=>?_;obtain⟨d,e,rfl⟩:=l7 hc;exact g j d V e l
 | ar cs Vs hl _ g=>refine .ar _ Vs (by rw[rr];exact hl) λj c V hc l=>?_;obtain⟨d,e,rfl⟩:=l7 hc;exact g j d V e l
theorem ai.cd{args:List I}(h:ai C key args H (λv H'=>Q v.cd H')):ai C key args H Q:=by refine⟨by obtain⟨v,H',a⟩:=h.1;exact⟨_,_,a⟩,λf hf G w Vs hG b c=>?_⟩;refine aae (h.2 f hf G w Vs hG b c) λe w' he=>?_;obtain⟨V,v,H',G',e1,hQ,hv,r⟩:=he;exact⟨V,v.cd,H',G',e1,hQ,hv.cd,r⟩
theorem ai.Om{args:List I}(h:ai C key (I.cf args) H Q):ai C key args H Q:=by refine⟨h.1,λf hf G w Vs hG b a=>?_⟩;refine h.2 f hf G w Vs hG b ⟨by rw[rr];exact a.1,λj c V hc e=>?_⟩;obtain⟨d,g,rfl⟩:=l7 hc;exact(a.2 j d V g e).cd
end Rb

namespace Rb
open Go
variable{C:Ctx}{B:dC}
noncomputable section
def ru:List (List I×I)→List I→Option I
 |[],_=>none
 |e::r,a=>cond (I.fU e.1 a) (some e.2) (ru r a)
def pK(k:Nat):List (Nat×List I×I)→List (List I×I)
 |[]=>[]
 |e::r=>cond (aaO e.1 k) ((e.2.1,e.2.2)::pK k r) (pK k r)
theorem Eg(k:Nat)(args:List I):∀L:List (Nat×List I×I),ru (pK k L) args=fY L k args
 |[]=>rfl
 | e::r=>by
  have a:=Eg k args r;unfold pK fY;cases aaO e.1 k with
  |false=>exact a
  | true=>
   simp only[cond_true,ru];cases I.fU e.2.1 args with
   |false=>exact a
   |true=>rfl
def zD(L:List (Nat×List I×I)):pk:=λk args=>match pK k L with
 |[]=>none
 |l=>ru l (I.cf args)
theorem On{L:List (Nat×List I×I)}(h:gY (ai C) (fY L)):gY (ai C) (zD L):=by
 intro k args v hm H Q hQ;have:ru (pK k L) (I.cf args)=some v:=by
  unfold zD at hm;split at hm
  ·cases hm
  ·exact hm
 rw[Eg]at this;exact ai.Om (h k _ v this H Q hQ)
theorem Oo(ak:bP C)(hB:eQ (ai C) B){k:Nat}{args:List I}{v:I}(ha:I.bA args=true)(hv:v.a_=true)(h:B k args S.mt (λu _=>u.cd.same v)=true)(H:Z)(Q:ad)(hQ:Q v H):ai C k args H Q:=ai.Dx ak (ai.cd (Q:=λu _=>u.same v=true) (Nh hB (K:=λu=>u.cd.same v) h)) ha H Q λu _ hu=>by rw[I.tM _ _ hu];exact⟨hv,hQ⟩
def zE(B:dC)(e:Nat×List I×I):Bool:=and (I.bA e.2.1) (and e.2.2.a_ (B e.1 e.2.1 S.mt (λu _=>u.cd.same e.2.2)))
def nI(B:dC):List (Nat×List I×I)→Bool
 |[]=>true
 |e::r=>and (zE B e) (nI B r)
theorem Oq(ak:bP C)(hB:eQ (ai C) B){e:Nat×List I×I}{L:List (Nat×List I×I)}(h:zE B e=true)(a:gY (ai C) (fY L)):gY (ai C) (fY (e::L)):=by
 obtain⟨b,a0,v0⟩:=e;simp only[zE,X7]at h;obtain⟨h1,c,d⟩:=h;intro k args v hm H Q hQ;unfold fY at hm;dsimp only at hm;cases hb:aaO b k with
 |false=>rw[hb]at hm;exact a k args v hm H Q hQ
 | true=>
  rw[hb]at hm;obtain rfl:=aa1 hb;cases hs:I.fU a0 args with
  |false=>rw[hs]at hm;exact a b args v hm H Q hQ
  | true=>rw[hs]at hm;simp only[cond_true,Yh.injEq]at hm;subst hm;obtain rfl:=I.mH _ _ hs;exact Oo ak hB h1 c d H Q hQ
theorem rv{C:Ctx}(ak:bP C){B:dC}(hB:eQ (ai C) B){L:List (Nat×List I×I)}(a:gY (ai C) (fY L)):∀{N:List (Nat×List I×I)},nI B N=true→gY (ai C) (fY (N++L))
 |[],_=>a
 | e::N,h=>by simp only[nI,X7]at h;exact Oq ak hB h.1 (rv ak hB a h.2)
end
end Rb

namespace Rb
open Go
def ry:List Int:=[1,10,100,1000,10000,100000,1000000,10000000,100000000,1000000000,10000000000,100000000000,1000000000000,10000000000000,100000000000000,1000000000000000,10000000000000000,100000000000000000,1000000000000000000,10000000000000000000]
def Eh:List I:=ry.map (I.int .u64)
end Rb
