/- A part of the proof (part 2): see the last text. -/
import Derived.Test.YteakojhgmhmdkaaGreatDoorRb1
import Derived.Orders
import Derived.Carry
import Derived.OpenVars
import Derived.OpenShut
import Derived.ProofKit
import Derived.ChangeOld
import Derived.KernelRfl
set_option linter.unusedVariables false
set_option linter.unusedSimpArgs false
open Array renaming getElem?_eq_some_iff→YF, getElem?_setIfInBounds_ne→aar, range→YY, replicate→aax, size_setIfInBounds→aaq
open BitVec renaming ofInt→TH
open Bool renaming and_eq_true→X1, and_self→aaU, eq_false_iff→aau, eq_iff_iff→aaf, false_eq_true→ZP, or_eq_true→X2, rec→aba, true_and→abb, xor→aaK
open Go renaming sizeOf→X0
open Go.Act renaming put→aan
open Go.Calls renaming mono→Z9
open Go.DataW renaming TrodAll→aaF
open Go.Edge renaming on→aam
open Go.Instr renaming alloc→YZ, loadAt→YP, makeSlice→Y3, sureAddr→Yi
open Go.IntKind renaming bits→X9, i64→Y5, signed→X8, wrap→Y6
open Go.Region renaming binds→aal, ready→aaz, wanted→aao
open Go.Region.Mode renaming any→aaw
open Go.Result renaming andThen_ok→ZH
open Go.Sem renaming run_bind→ZG, run_pure→ZO
open Go.World renaming block_lt_of_cell?→YE, cell?_of_block→YD
open Int renaming eq_ofNat_of_zero_le→Y4, natCast_nonneg→aa7, ofNat_lt→aa8, ofNat→aaX
open List renaming all_cons→aaG, all_eq_true→YU, any_eq_true→aav, cons_append→ZS, countP_cons→aap, drop_succ_cons→aaW, getD_eq_getElem?_getD→Zg, getElem?_append_left→Zy, getElem?_append_right→Zz, getElem?_drop→XY, getElem?_eq_getElem→YO, getElem?_eq_none→aab, getElem?_eq_some_iff→XV, getElem?_map→YN, getElem?_replicate→aaD, getElem?_set_ne→YR, getElem?_set_self→YQ, getElem?_set→Ym, getElem?_take→XX, length_map→aat, lookup_cons→aaE, mapM_cons→aaC, map_cons→Zj, map_map→aaO, mem_cons_of_mem→aai, mem_cons_self→aaj, mem_cons→aah, mem_filter→aas, mem_map→aay, mem_of_getElem?→aaH, mem_range→aae, range→YM, rec→aaM, replicate→XS, set_eq_of_length_le→aaA
open Nat renaming add→aaY, beq→aaI, ble→aaS, blt→aaN, div→aa1, eq_of_beq_eq_true→aaV, land→aa3, le_of_ble_eq_true→aaT, le_of_not_lt→aad, le_refl→sl, lor→aa4, lt_of_le_of_lt→aa6, lt_succ_self→aaJ, lt_trichotomy→aaB, mod→aa2, mul→aa0, not_lt_zero→aaP, rec→aaR, sub_zero→aaQ, sub→aaZ, succ→aa9, xor→aa5, zero_add→YI
open Option renaming map_some→Yc, map→aaL, some→Yb
open Prod renaming rec→aa_
namespace Rb
open Go
variable{F:cz}{Q:Exit→Act→World→Prop}{x:Nat×Nat}{w0 w':World}{i b cap sz bytes:Nat}{op:dQ}{al:List bz}{az:List Nat}{v:I}{G0 G':aH}{P:Program}{cs zero:List I}{ao:bz}{H':Z}
def k8(ops:Array Oper)(x:Option (Nat×Bool))(y:Option (Nat×Bool)):Bool:=
 match x,y with
 |none,none=>true
 |some (j,want),some (s,a)=>want==a&&((ops[j]?).bind (·.dst))==some s
 |_,_=>false
def ie(C:Ctx)(ops:Array Oper):List Oper→List bz→Bool
 |[],[]=>true
 |o::r,a::s=>o.dst==a.dst&&cw C o.op a.op&&k8 ops o.guard a.guard&&ie C ops r s
 |_,_=>false
def gz:List bz→List Nat
 |[]=>[]
 |o::r=>o.dst.toList++(match o.guard with|some (s,_)=>[s]|none=>[])++gz r
def ei:c6→List Nat
 | .region ops=>gz ops
 | .draw ops _ _ _=>gz ops
 | .seq a b=>ei a++ei b
 | .join _ _ a b=>ei a++ei b
 | .cond _ a b=>ei a++ei b
 | .block _ a=>ei a
 | .loop _ _ a=>ei a
 | .freeze t a=>t::ei a
 | .gw _ _ ops b=>gz ops++ei b
 |_=>[]
def tv(ops:Array Oper)(pr:List (List Nat)):Bool:=(YM ops.size).all λi=>match ops[i]? with
 | some o=>
  let es:=(o.after.toList.filter (aal .any)).map aam
  es.all (λj=>decide (j<i))&&(bV pr i).all λj=>es.contains j||es.any λk=>(bV pr k).contains j
 |none=>false
def tw(ks vs:List Nat)(az:List Nat):Bool:=az.all λt=>ks.contains t||vs.contains t
def qP(C:Ctx)(ops:Array Oper):List Oper→c6→Bool
 |l,.region al=>ie C ops l al
 |l,.gw vs ks al b=>ie C ops (l.take al.length) al&&tw ks vs (gz al)&&qP C ops (l.drop al.length) b
 |_,_=>false
def b_(C:Ctx):Code→c6→Bool
 | .skip,.skip=>true
 | .region _ ops false,.region al=>ie C ops ops.toList al
 | .region _ ops true,.draw al pr bh last=>ie C ops ops.toList al&&tv ops pr&&tq al pr bh last&&C.P.follows .mixedOrders
 | .seq a b,.seq x y=>b_ C a x&&b_ C b y
 | .seq a b,.join vs ks x y=>b_ C a x&&b_ C b y&&tw ks vs (ei x)
 | .cond c a b,.cond x p q=>b6 C c x&&b_ C a p&&b_ C b q
 | .block id a,.block d x=>id==d&&b_ C a x
 | .loop a,.loop vs ks x=>b_ C a x&&tw ks vs (ei x)
 | .exit id,.exit d=>id==d
 | .ret,.ret=>true
 | .region _ ops false,.gw vs ks al b=>qP C ops ops.toList (.gw vs ks al b)
 |c,.freeze t x=>b_ C c x
 |_,_=>false
def c_(az:List Nat)(a a':Act):Prop:=a'.tmps.size=a.tmps.size∧∀t,t∉az→a'.tmps[t]?=a.tmps[t]?
theorem c_.refl(az:List Nat)(a:Act):c_ az a a:=⟨rfl,λ_ _=>rfl⟩
theorem c_.trans{a b c:Act}(h:c_ az a b)(k:c_ az b c):c_ az a c:=⟨k.1.trans h.1,λt ht=>(k.2 t ht).trans (h.2 t ht)⟩
theorem c_.mono{az bs:List Nat}{a b:Act}(h:c_ az a b)(hs:∀t,t∈az→t∈bs):c_ bs a b:=⟨h.1,λt ht=>h.2 t λc=>ht (hs t c)⟩
theorem c_.put(a:Act)(d:Option Tmp)(V:Value):c_ d.toList a (a.put d V):=by
 cases d with
 |none=>exact c_.refl _ _
 | some d=>refine⟨by simp[aan],λt ht=>?_⟩;simp only[Option.toList_some,List.mem_singleton]at ht;simp only[aan];rw[Array.getElem?_setIfInBounds,ab (λe=>ht e.symm)]
section
variable{C:Ctx}{w:World}{G:aH}{H:Z}{env:Env}{a:Act}
theorem aK.bQ(h:aK C.F w G env a.tmps)(d:Option Tmp){V:Value}(hv:VR C.F w G v V):aK C.F w G (Rb.bQ env d v) (a.put d V).tmps:=by
 cases d with
 |none=>exact h
 |some d=>exact h.set d hv
theorem aK.same{Vs:Array Value}(h:aK F w G cs Vs){t:Nat}(hv:cs[t]?=some v):aK F w G (cs.set t v) Vs:=by
 refine⟨by simp[h.1],λj c V hc a=>?_⟩;by_cases b:t=j
 · subst b;rw[YQ (XV.1 hv).1]at hc;cases hc;exact h.2 t v V hv a
 · rw[YR b]at hc;exact h.2 j c V hc a
theorem Oper.Dj{o:Oper}{n1 n2:Act→World→Prop}(h:o.wp P a w n1 Q)(hn:∀a w,n1 a w→n2 a w):o.wp P a w n2 Q:=by
 unfold Oper.wp at h ⊢;cases b:(execOp a.eval o).run P w with
 | halt g w'=>rw[b]at h;cases g<;>first|exact h|exact h.elim
 | ok x w'=>
  rw[b]at h;cases x with
  |value v=>exact hn _ _ h
  |skip=>exact hn _ _ h
  |defer d=>exact hn _ _ h
  | enter f args=>
   refine Z9 h λe i he=>?_;cases e with
   |returned v=>exact hn _ _ he
   |panicked c=>exact he
   |outgrown=>exact he
  |row r args=>exact Rows.mono h λv i hv=>hn _ _ hv
  |_=>exact h.elim
theorem put_defers(d:Option Tmp)(V:Value):(a.put d V).defers=a.defers:=by cases d<;>rfl
theorem MJ{ops:Array Oper}{rest:List Oper}{o:Oper}(b:o.guard=none)(h:o.wp P a w (wpList P ops Q rest) Q):wpList P ops Q (o::rest) a w:=by unfold wpList;rw[aa (by simp[aao,b])];exact .inl h
theorem Dk(hF:fM C){ds:List Deferred}{ops:Array Oper}{Q:Exit→Act→World→Prop}{K:Env→Z→Prop}{w0:World}{G0:aH}{H0:Z}{a0:Act}{az:List Nat}{rest:List Oper} :
  ∀ (l:List Oper) (al:List bz) (env:Env) (H:Z) (G:aH) (w:World) (a:Act),ie C ops l al=true→h8 (af C) al env H K→ct C w G H→Rel C.F w G H→aK C.F w G env a.tmps→a.defers=ds →
   Step w0 G0 H0 w G H→c_ az a0 a→(∀t,t∈gz al→t∈az) →
   (∀aA H' G' a' w',K aA H'→ct C w' G' H'→Rel C.F w' G' H'→aK C.F w' G' aA a'.tmps→a'.defers=ds→Step w0 G0 H0 w' G' H'→c_ az a0 a'→wpList C.P ops Q rest a' w') →
   wpList C.P ops Q (l++rest) a w:=by
 intro l;induction l with
 | nil=>
  intro al env H G w a k h hG m he n p hk _ hQ;cases al with
  |nil=>exact hQ env H G a w h hG m he n p hk
  |cons _ _=>simp[ie]at k
 | cons o l y=>
  intro al env H G w a k h hG m he n p hk I hQ;cases al with
  |nil=>simp[ie]at k
  | cons ao al=>
   simp only[ie,X1,bG]at k;obtain⟨⟨⟨r,N⟩,e⟩,z⟩:=k;have A:∀t,t∈gz al→t∈az:=λt ht=>I t (by simp[gz,ht]);have B:∀t,t∈o.dst.toList→t∈az:=λt ht=>I t (by rw[r]at ht;simp[gz];left;simpa using ht);have step:∀(u:Env)(a1:Act),a1=a→aK C.F w G u a.tmps→bX (af C) u H (λv H'=>h8 (af C) al (bQ u ao.dst v) H' K) ao.op→o.wp C.P a w (wpList C.P ops Q (l++rest)) Q:=by intro u a1 _ J O;refine Oper.Dj (C9 hF N hG m J O) λa' w' R=>?_;obtain⟨v,H',G',V,rfl,L,hv,q,hs⟩:=R;rw[←r]at L;exact y al _ H' G' w' _ z L (hG.step hs) q ((J.mono hs.toGLe).bQ o.dst hv) (by rw[put_defers];exact n) (p.trans hs) (hk.trans ((c_.put a o.dst V).mono B)) A hQ
   cases i:o.guard with
   | none=>
    rw[i]at e;have f:ao.guard=none:=by
     cases f:ao.guard with
     |none=>rfl
     |some _=>rw[f]at e;simp[k8]at e
    simp only[h8,f]at h;exact MJ i (step env a rfl he h)
   | some g=>
    obtain⟨j,want⟩:=g;rw[i]at e;cases f:ao.guard with
    |none=>rw[f]at e;simp[k8]at e
    | some g'=>
     obtain⟨s,T⟩:=g';rw[f]at e;simp only[k8,X1,bG]at e;obtain⟨rfl,hs⟩:=e;simp only[h8,f]at h;have get:∀c,env.getD s .bot=c→c ≠ .bot→env[s]?=some c:=by
      intro c d hc;rw[Zg]at d;cases M:env[s]? with
      |none=>rw[M]at d;exact absurd d.symm hc
      |some c=>rw[M]at d;simp at d;rw[d]
     unfold aQ at h;split at h
     · rename_i b d;have hb:=get _ d (by simp);obtain⟨V,D,q⟩:=he.get hb;obtain rfl:=q.iI;have x:yielded ops a.tmps j=some b:=by simp[yielded,hs,D]
       by_cases E:b=want
       · subst E;rw[aa rfl]at h;rw[ZS];unfold wpList;rw[aa (by simp[aao,i,x])];exact .inl (step _ a rfl (he.same hb) h)
       · rw[ab E]at h;have S:b=!want:=by cases b<;>cases want<;>simp at E ⊢
         subst S;rw[ZS];unfold wpList;rw[ab (by simp[aao,i,x])];rw[←r]at h;exact y al _ H G w _ z h hG m ((he.same hb).bQ o.dst oV) (by rw[put_defers];exact n) p (hk.trans ((c_.put a o.dst undef).mono B)) A hQ
     · rename_i d;have hb:=get _ d (by simp);obtain⟨V,D,q⟩:=he.get hb;obtain rfl:=q.CK;have x:yielded ops a.tmps j=none:=by simp[yielded,hs,D]
       rw[ZS];unfold wpList;rw[ab (by simp[aao,i,x])];rw[←r]at h;exact y al _ H G w _ z h hG m ((he.same hb).bQ o.dst oV) (by rw[put_defers];exact n) p (hk.trans ((c_.put a o.dst undef).mono B)) A hQ
     ·exact h.elim
theorem tx(hF:fM C){ds:List Deferred}{ops:Array Oper}{Q:Exit→Act→World→Prop}{K:Env→Z→Prop}{w0:World}{G0:aH}{H0:Z}{a0:Act}{az:List Nat}
  (l:List Oper) (al:List bz) (env:Env) (H:Z) (G:aH) (w:World) (a:Act) (b:ie C ops l al=true) (h:h8 (af C) al env H K) (hG:ct C w G H) (c:Rel C.F w G H) (he:aK C.F w G env a.tmps) (d:a.defers=ds)
   (e:Step w0 G0 H0 w G H) (hk:c_ az a0 a) (f:∀t,t∈gz al→t∈az)
   (hQ:∀aA H' G' a' w',K aA H'→ct C w' G' H'→Rel C.F w' G' H'→aK C.F w' G' aA a'.tmps→a'.defers=ds→Step w0 G0 H0 w' G' H'→c_ az a0 a'→Q .normal a' w') :
   wpList C.P ops Q l a w:=by
 have:=Dk (rest:=[]) hF l al env H G w a b h hG c he d e hk f hQ;rwa [List.append_nil]at this
theorem MK{ops:Array Oper}:∀{l:List Oper}{al:List bz},ie C ops l al=true→l.length=al.length∧∀(i:Nat)(o:Oper),l[i]?=some o→∃ao,al[i]?=some ao∧o.dst=ao.dst∧cw C o.op ao.op=true∧k8 ops o.guard ao.guard=true:=by
 intro l;induction l with
 |nil=>intro al h;cases al<;>simp[ie]at h ⊢
 | cons o l b=>
  intro al h;cases al with
  |nil=>simp[ie]at h
  | cons ao al=>
   simp only[ie,X1,bG]at h;obtain⟨⟨⟨c,d⟩,e⟩,f⟩:=h;obtain⟨h1,g⟩:=b f;refine⟨by simp[h1],λi j a=>?_⟩;cases i with
   |zero=>simp at a;subst a;exact⟨ao,rfl,c,d,e⟩
   |succ i=>exact g i j (by simpa using a)
theorem Dl:∀{al:List bz}{i:Nat},al[i]?=some ao→∀t,ao.dst=some t→t∈gz al:=by
 intro al;induction al with
 |nil=>intro i h;simp at h
 | cons x al a=>
  intro i h t ht;cases i with
  |zero=>simp at h;subst h;simp[gz,ht]
  |succ i=>simp only[gz,List.mem_append];exact .inr (a (by simpa using h) t ht)
theorem ML(hF:fM C){ops:Array Oper}{Q:Exit→Act→World→Prop}{N:Act→World→Prop}{p:ad}{o:Oper}(x:ops[i]?=some o)(r:o.dst=ao.dst)(y:cw C o.op ao.op=true)
  (d:k8 ops o.guard ao.guard=true) (h:iK (af C) ao env H p) (hG:ct C w G H) (t:Rel C.F w G H) (he:aK C.F w G env a.tmps)
  (hN:∀v V H' G' w',p v H'→ct C w' G' H'→VR C.F w' G' v V→Rel C.F w' G' H'→Step w G H w' G' H'→N (a.put ao.dst V) w'):wpOp C.P ops Q i N a w:=by
 unfold wpOp;rw[x];dsimp only;have step:bX (af C) env H p ao.op→o.wp C.P a w N Q:=by intro z;refine Oper.Dj (C9 hF y hG t he z) λa' w' A=>?_;obtain⟨v,H',G',V,rfl,B,hv,f,hs⟩:=A;rw[r];exact hN v V H' G' w' B (hG.step hs) hv f hs
 unfold iK at h;cases l:o.guard with
 | none=>
  rw[l]at d;have k:ao.guard=none:=by
   cases k:ao.guard with
   |none=>rfl
   |some _=>rw[k]at d;simp[k8]at d
  rw[k]at h;rw[aa (by simp[aao,l])];exact .inl (step h)
 | some g=>
  obtain⟨j,want⟩:=g;rw[l]at d;cases k:ao.guard with
  |none=>rw[k]at d;simp[k8]at d
  | some g'=>
   obtain⟨s,D⟩:=g';rw[k]at d;simp only[k8,X1,bG]at d;obtain⟨rfl,hs⟩:=d;rw[k]at h;dsimp only at h;obtain⟨b,e,h⟩:=h;have get:∀c,env.getD s .bot=c→c ≠ .bot→env[s]?=some c:=by
    intro c e hc;rw[Zg]at e;cases u:env[s]? with
    |none=>rw[u]at e;exact absurd e.symm hc
    |some c=>rw[u]at e;simp at e;rw[e]
   cases b with
   | true=>
    have hb:=get _ (I.x3 e) (by simp);obtain⟨V,m,f⟩:=he.get hb;obtain rfl:=f.iI;have n:yielded ops a.tmps j=some want:=by simp[yielded,hs,m]
    rw[aa rfl]at h;rw[aa (by simp[aao,l,n])];exact .inl (step h)
   | false=>
    rw[lV]at h;have hw:aao o (yielded ops a.tmps)=false:=by
     rcases I.CC e with q|q
     · have hb:=get _ q (by simp);obtain⟨V,m,f⟩:=he.get hb;obtain rfl:=f.iI;have n:yielded ops a.tmps j=some (!want):=by simp[yielded,hs,m]
       simp[aao,l,n]
     · have hb:=get _ q (by simp);obtain⟨V,m,f⟩:=he.get hb;obtain rfl:=f.CK;have n:yielded ops a.tmps j=none:=by simp[yielded,hs,m]
       simp[aao,l,n]
    rw[ab (by simp[hw]),r];exact hN _ _ H G w h hG oV t (Step.refl _ _ _)
theorem MM{p a:Nat→Bool}:∀{l:List Nat},(∀x,a x=true→p x=true)→(∃x∈l,p x=true∧a x=false)→l.countP a<l.countP p:=by
 have le:∀{l:List Nat},(∀x,a x=true→p x=true)→l.countP a≤l.countP p:=λ{l} h=>List.countP_mono_left λx _=>h x;intro l;induction l with
 |nil=>rintro _ ⟨x,b,_⟩;cases b
 | cons y l e=>
  intro h ⟨x,b,h1,d⟩;rw[aap,aap];rcases aah.1 b with rfl|b
  · rw[h1,d];have:=le (l:=l) h;simp;omega
  · have:=e h ⟨x,b,h1,d⟩;by_cases c:a y=true
    ·rw[c,h y c];omega
    · simp at c;rw[c];simp;omega
theorem Step.drawn{w:World}{G:aH}{H:Z}{n:Nat}(hn:w.drawn≤n)(h:Rel F w G H):Rel F {w with drawn:=n} G H∧Step w G H {w with drawn:=n} G H:=by
 have a:GLe w G {w with drawn:=n} G:=⟨sl _,λ_ _=>rfl,λ_ _=>rfl,λ_ _ h=>h,λ_ _ _ _ h=>h⟩
 exact ⟨⟨h.n,h.over,λj=>(h.obj j).aJ a (λhl=>h.gx hl) (λ_=>rfl) λhl k hf=>hf,h.eZ,h.ea⟩,
   {a with size:=sl _,os:=rfl,tape:=rfl,output:=rfl,dr:=hn,c9:=λ_ _ _=>rfl,owned:=λi hi _=>⟨i,hi,rfl⟩,ez:=λ_ _ h=> .inl h}⟩
def eA(al:List bz)(Pd:List Nat)(env:Env):Env:=(YM env.length).map λj=>if Pd.any (λp=>c7 al p==some j)then .bot else env.getD j .bot
theorem j0(al:List bz)(Pd:List Nat)(env:Env)(t:Nat):(eA al Pd env).getD t .bot=if Pd.any (λp=>c7 al p==some t)then .bot else env.getD t .bot:=by
 unfold eA;by_cases ht:t<env.length
 ·simp[Zg,ht]
 · have h1:env.getD t .bot = .bot:=by simp[Zg,aab (aad ht)]
   rw[h1];simp[Zg,ht]
def qQ:dQ→Nat×Nat→bM
 | .alloc _ zero,_=> .row zero
 | .make _ _ _ zero _ _,x=> .row (XS x.2 zero).flatten
 |_,_=> .map []
def qR:dQ→Nat×Nat→Nat→I
 | .alloc _ _,_,i=> .ptr i 0
 | .make _ sz _ _ _ _,x,i=> .row i 0 x.1 sz
 |_,_,i=> .map i
def nA:dQ→Nat×Nat→Nat→Value
 | .alloc _ _,_,b=> .pointer (some ⟨b,0,none⟩)
 | .make _ _ _ _ _ _,x,b=> .slice (some ⟨b,0,none⟩) x.1 x.2
 |_,_,b=> .map (some b)
def mI(F:cz)(w:World)(G:aH):dQ→Nat×Nat→Nat→Nat→Prop
 | .alloc _ zero,_,b,cap=>∃(a:Array Value) (e:TypeId),w.heap[b]?=some (.cells a e (0,0))∧a.size=cap∧aK F w G zero a
 | .make _ sz _ zero _ _,x,b,cap=>(∃(a:Array Value) (e:TypeId),w.heap[b]?=some (.cells a e (0,0))∧a.size=cap∧aK F w G (XS x.2 zero).flatten a)∧x.1≤x.2∧x.2*sz=cap
 |_,_,b,_=>∃clock:Nat,w.heap[b]?=some (.map #[] clock)
theorem Dm(a:k7 op)(h:mI F w G op x b cap):b<w.heap.size:=by
 rcases a with⟨zero,rfl⟩|rfl|⟨_,_,_,_,_,rfl⟩
 ·obtain⟨_,_,h,_⟩:=h;exact(YF.1 h).1
 ·obtain⟨_,h⟩:=h;exact(YF.1 h).1
 ·obtain⟨⟨_,_,h,_⟩,_⟩:=h;exact(YF.1 h).1
theorem Dn(i:k7 op)(h:mI F w G op x b cap)(g:GLe w G w' G')(hb:w'.heap[b]?=w.heap[b]?):mI F w' G' op x b cap:=by
 rcases i with⟨zero,rfl⟩|rfl|⟨_,_,_,_,_,rfl⟩
 ·obtain⟨a,e,h1,d,f⟩:=h;exact⟨a,e,hb.trans h1,d,f.mono g⟩
 ·obtain⟨c,h⟩:=h;exact⟨c,hb.trans h⟩
 ·obtain⟨⟨a,e,h1,d,f⟩,j⟩:=h;exact⟨⟨a,e,hb.trans h1,d,f.mono g⟩,j⟩
theorem MN(o:k7 op)(h:mI F w G op x b cap)(n:GLe w G w G')(hl:G'.loc i=b)(hc:G'.cap i=cap)(hf:∀j,¬G'.fz b j):eY F w G' i (qQ op x):=by
 rcases o with⟨zero,rfl⟩|rfl|⟨_,_,_,_,_,rfl⟩
 · obtain ⟨d,e,h1,f,g⟩:=h;exact ⟨d,e,by rw[hl];exact h1,by rw[hc];exact f,λj=>by rw[hl];exact hf j,λj c a=>by obtain⟨V,l,m⟩:=g.get a;exact⟨V,l,m.mono n⟩⟩
 · obtain⟨c,h⟩:=h;exact⟨#[],c,by rw[hl];exact h,rfl,λj=>by rw[hl];exact hf j,λj k v a=>by simp at a⟩
 · obtain ⟨⟨d,e,h1,f,g⟩,_⟩:=h;exact ⟨d,e,by rw[hl];exact h1,by rw[hc];exact f,λj=>by rw[hl];exact hf j,λj c a=>by obtain⟨V,l,m⟩:=g.get a;exact⟨V,l,m.mono n⟩⟩
theorem MO(a:k7 op)(h:mI F w0 G0 op x b cap)(hi:i<G.n)(hl:G.loc i=b)(hc:G.cap i=cap):VR F w G (qR op x i) (nA op x b):=by
 subst hl hc;rcases a with⟨zero,rfl⟩|rfl|⟨_,_,_,_,_,rfl⟩
 ·exact .ptr i 0 hi
 ·exact .map i hi
 · obtain⟨_,h1,c⟩:=h;exact .row _ _ _ _ _ hi h1 (by rw[YI];exact c)
theorem MP{Φ:ai}{env:Env}{K:ad}(b:k7 op)(ha:jg env op=some x)(h:bX Φ env H K op):K (qR op x H.n) (H.push (qQ op x)):=by
 rcases b with⟨zero,rfl⟩|rfl|⟨_,_,_,_,_,rfl⟩
 · simp only[bX,ar,aL,a_,Yb.injEq,Prod.mk.injEq]at h;obtain⟨v,H',⟨rfl,rfl⟩,h⟩:=h;exact h
 ·exact h
 · obtain⟨y,a,h⟩:=Dg h;rw[ha]at a;cases a;exact h
theorem MQ{F:cz}{t e:TypeId}{a:TypeInfo}{z:Value}(ht:P.underlying t=some (.slice e))(hi:P.info? e=some a)(hs:a.size=sz)(hb:a.bytes=bytes)(hz:a.zero=some z)
  {n' c':Nat} (j:n'≤c') (k:(bytes:Int)*(c':Int)≤281474976710656) (l:(c':Int)≤9223372036854775807) (h:zero.length=sz) :
  (Y3 t (.int .i64 n') (.int .i64 c')).run P w = .ok (.slice (some ⟨w.heap.size,0,none⟩) n' c') (w.alloc (.cells ((YY (c'*zero.length)).map λi=>z.cells[i%z.cells.size]!) e)):=by
 have w1:Y5.wrap (n':Int)=n':=by simp[Y6,X9,X8];omega
 have w2:Y5.wrap (c':Int)=c':=by simp[Y6,X9,X8];omega
 have b:¬(281474976710656<(a.bytes:Int)*(c':Int)):=by rw[hb];omega
 have c:¬((n':Int)<0):=by omega
 have d:¬((c':Int)<0):=by omega
 have f:¬(c'<n'):=by omega
 rw[h];subst hs;by_cases g:c'*a.size=0
 ·simp[Y3,run_underlying ht,asInt,asIntOf,typeInfo,X0,hi,w1,w2,b,c,d,f,g,range_zero,newRow]
 ·simp[Y3,run_underlying ht,asInt,asIntOf,typeInfo,X0,zeroValue,hi,hz,w1,w2,b,c,d,f,g,newRow]
theorem MR{o:Oper}{l c:aW}(hG:jc C w G)(h:aK C.F w G env a.tmps)(d:cw C o.op (.make true sz bytes zero l c)=true)(b:jg env (.make true sz bytes zero l c)=some x) :
  ∃(j:Obj) (cap:Nat),(execOp a.eval o).run C.P w = .ok (.value (nA (.make true sz bytes zero l c) x w.heap.size)) (w.alloc j)∧∀(w2:World)(f:aH),GLe w G w2 f→w2.heap[w.heap.size]?=some j→mI C.F w2 f (.make true sz bytes zero l c) x w.heap.size cap:=by
 simp only[cw]at d;split at d
 · rename_i t ol L s;simp only[X1]at d;obtain⟨⟨h1,u⟩,g⟩:=d;split at g
   · rename_i e v;obtain⟨inf,z,y,hs,hb,hz,M,A⟩:=yp (F:=C.F) g;have B:=k5 (C:=C) (w:=w) (G:=G) A;have D:aK C.F w G zero z.cells:=by simpa using B
     have k:=b9 hG h h1;have p:=b9 hG h u;simp only[jg]at b;split at b
     · rename_i n m e1 E;split at b
       · rename_i hc;obtain⟨q,k1,k2,H,r⟩:=hc;cases b;rw[e1]at k;rw[E]at p;have dC:=k.e8;have I:=p.e8;obtain⟨n',rfl⟩:=Y4 q;obtain⟨c',rfl⟩:=Y4 (Int.le_trans q k1);have J:=MQ (P:=C.P) (w:=w) (F:=C.F) (lW v) y hs hb hz (n':=n') (c':=c') (by omega) k2 H r;refine⟨.cells ((YY (c'*zero.length)).map λi=>z.cells[i%z.cells.size]!) e,c'*sz,?_,λw2 f K hb=>⟨⟨_,_,hb,?_,?_⟩,by simp;omega,by simp⟩⟩
         · simp only[execOp,s,dC,I];simp[J,nA]
         ·simp[r]
         · simp only[Int.toNat_natCast];exact(oN D c').mono K
       ·cases b
     ·cases b
   ·cases g
 ·cases d
def tz(C:Ctx)(al:List bz)(w0 w:World)(G:aH)(H:Z)(a:Act)(i b:Nat)(x:Nat×Nat):Prop:=
 ∃ (t:Nat) (op:dQ) (cap:Nat),al[i]?=some ⟨some t,op,none⟩∧k7 op∧(t<a.tmps.size→a.tmps[t]?=some (nA op x b))∧mI C.F w G op x b cap ∧
  w0.heap.size≤b∧(∀k,(H.o k).live=true→G.loc k≠b)∧∀j,¬G.fz b j
theorem tz.step(h:tz C al w0 w G H a i b x)(hs:Step w G H w' G' H')(d:Option Tmp)(V:Value)(n:∀t,c7 al i=some t→d≠some t):tz C al w0 w' G' H' (a.put d V) i b x:=by
 obtain⟨t,op,cap,h1,c,l,m,o,f,p⟩:=h;have hb:b<w.heap.size:=Dm c m;refine⟨t,op,cap,h1,c,λht=>?_,Dn c m hs.toGLe (hs.c9 b hb f),o,λk hk e=>?_,λj hf=>?_⟩
 · cases g:d with
   |none=>rw[g]at ht;exact l ht
   | some q=>rw[g]at ht;have r:q≠t:=λe=>n t (by simp[c7,h1]) (by rw[g,e]);simp only[aan]at ht ⊢;rw[aaq]at ht;rw[aar r];exact l ht
 · obtain⟨j,s,u⟩:=hs.owned k hk (by rw[e];exact hb);exact f j s (u.trans e)
 · rcases hs.ez b j hf with hf|v|⟨k,hk,e⟩
   ·exact p j hf
   ·omega
   ·exact f k hk e
structure Way(C:Ctx)(al:List bz)(pr:List (List Nat))(last:List Nat)(K:Env→Z→Prop)(w0:World)(G0:aH)(H0:Z)(a0:Act)
  (bh:List (List Nat×Nat×List Nat)) (S:Nat→Bool) (Pd:List Nat) (bl:Nat→Nat) (ag:Nat→Nat×Nat) (env:Env) (H:Z) (G:aH) (a:Act) (w:World):Prop where
 inv:Inv (af C) al pr last K bh S env H
 sep:∀p∈Pd,S p=false∧fN al pr p=true∧∀k∈bV pr p,S k=true∨k∈Pd
 qS:∀p∈Pd,tz C al w0 w G H a p (bl p) (ag p)
 args:∀p∈Pd,∀t op,al[p]?=some ⟨some t,op,none⟩→jg env op=some (ag p)
 inj:∀p∈Pd,∀q∈Pd,bl p=bl q→p=q
 nB:ct C w G H
 rel:Rel C.F w G H
 o5:aK C.F w G (eA al Pd env) a.tmps
 defers:a.defers=[]
 step:Step w0 G0 H0 w G H
 aJ:c_ (gz al) a0 a
theorem Dp{pr:List (List Nat)}(j:Good al pr){q i t':Nat}{a:dQ}{o:bz}{v:I}(b:al[q]?=some ⟨some t',a,none⟩)(c:fN al pr q=true)(k:al[i]?=some o)
  (hi:i∉bV pr q∨fN al pr i=true) (l:i≠q) (m:q∉bV pr i):jg (bQ env o.dst v) a=jg env a:=by
 apply tt;intro s hs;cases n:o.dst with
 |none=>rfl
 | some d =>
  simp only[bQ];by_cases e:d=s
  · subst e;exfalso;have p:c7 al i=some d:=by simp[c7,k,n]
    rcases j.reads q _ d i b (by simp[gT,hs]) p with h|⟨_,h⟩
    · rcases hi with hi|hi
      ·exact hi h
      · obtain ⟨t2,x,r,t⟩:=mF hi;obtain⟨t3,y,f,u⟩:=mF c;rw[b]at f;cases f;rcases u with⟨zero,rfl⟩|rfl|⟨_,_,_,_,_,rfl⟩
        ·simp[bT]at hs
        ·simp[bT]at hs
        · obtain⟨z,g,w⟩:=Dc c b i h;rw[r]at g;cases g;exact o0 t w
    · rcases h with h|h
      ·exact l h
      ·exact m h
  ·rw[Zg,YR e,Zg]
theorem Way.settle{pr:List (List Nat)}{A:List Nat}{K:Env→Z→Prop}{w0:World}{G0:aH}{H0:Z}{a0:Act}(B:Good al pr){bl:Nat→Nat}{ag:Nat→Nat×Nat} :
  ∀ (n:Nat) (bh:List (List Nat×Nat×List Nat)) (S:Nat→Bool) (Pd:List Nat) (env:Env) (H:Z) (G:aH),bh.length=n→Way C al pr A K w0 G0 H0 a0 bh S Pd bl ag env H G a w →
   ∃x S' r aA H' G',Way C al pr A K w0 G0 H0 a0 x S' r bl ag aA H' G' a w∧(∀k,(S' k=true∨k∈r)↔(S k=true∨k∈Pd))∧∀p∈r,hK x≠some p:=by
 intro n;induction n with
 | zero=>intro bh S Pd env H G hn hw;have:bh=[]:=List.length_eq_zero_iff.1 hn;subst this;exact⟨[],S,Pd,env,H,G,hw,λk=>Iff.rfl,λp hp h=>by cases h⟩
 | succ n ad =>
  intro bh S Pd env H G hn hw;by_cases N:∃p∈Pd,hK bh=some p
  · obtain ⟨p, hp,D⟩:=N;obtain⟨ae,af,ah⟩:=hw.sep p hp;obtain⟨_,aF,ai⟩:=yv hw.inv D;have O:∀k∈bV pr p,S k=true:=by
     intro k hk;rcases ah k hk with h|h
     ·exact h
     ·exact ai k hk (hw.sep k h).2.1
    obtain⟨t,op,cap,h1,E,aj,P,aG,ak,Q⟩:=hw.qS p hp;have F:=Di (tm C) B hw.inv h1 ae O (.inr D);rw[aa D]at F;simp only[jy]at F;have hinv:=MP E (hw.args p hp t op h1) F;have y:=hw.rel.n;obtain⟨l,am⟩:=hw.rel.oK (b:=bl p) (c:=cap) ak (qQ op (ag p)) (λl=>MN E P l (aa y.symm) (aa y.symm) Q);have R:∀i,i≠H.n→(G.more (bl p) cap).loc i=G.loc i:=λi hi=>ab (show ¬i=G.n by omega);have I:(G.more (bl p) cap).loc H.n=bl p:=aa y.symm;have T:∀i,i≠H.n→(H.push (qQ op (ag p))).o i=H.o i:=λi hi=>ab hi;have U:c7 al p=some t:=by simp[c7,h1]
    have hlen:(eA al Pd env).length=env.length:=by simp[eA]
    have an : Way C al pr A K w0 G0 H0 a0 bh.tail (λk=>k==p||S k) (Pd.filter (λq=>!(q==p))) bl ag (bQ env (some t) (qR op (ag p) H.n)) (H.push (qQ op (ag p))) (G.more (bl p) cap) a w:=by
     refine⟨hinv,λq d=>?_,λq d=>?_,λq d t' J W=>?_,λq d ao ap h=>?_,hw.nB.oK l hw.rel.n Q,am,?_,hw.defers,?_,hw.aJ⟩
     · obtain ⟨d,s⟩:=aas.1 d;have u:q≠p:=by simpa using s
       obtain⟨g1,g2,g3⟩:=hw.sep q d;refine⟨by simp[u,g1],g2,λk hk=>?_⟩;rcases g3 k hk with h|h
       ·left;simp[h]
       · by_cases v:k=p
         ·left;simp[v]
         ·right;exact aas.2 ⟨h,by simp[v]⟩
     · obtain ⟨d,s⟩:=aas.1 d;have u:q≠p:=by simpa using s
       obtain⟨t',J,aq,k1,X,k2,ar,au,av,aw⟩:=hw.qS q d;refine⟨t',J,aq,k1,X,k2,Dn X ar l rfl,au,λk hk e=>?_,λj hf=>aw j hf⟩;by_cases f:k=H.n
       · subst f;rw[I]at e;exact u (hw.inj q d p hp e.symm)
       · rw[R k f]at e;rw[T k f]at hk;exact av k hk e
     · obtain ⟨d,s⟩:=aas.1 d;have u:q≠p:=by simpa using s
       rw[←hw.args q d t' J W];exact Dp B W (hw.sep q d).2.1 h1 (.inr af) (λe=>u e.symm) λh=>by have:=O q h;rw[(hw.sep q d).1]at this;cases this
     ·exact hw.inj q (aas.1 d).1 ao (aas.1 ap).1 h
     · have hv :=hw.o5.mono l;refine⟨by simp only[eA,bQ,aat,List.length_range,List.length_set];rw[←hv.1,hlen],λj c V hc z=>?_⟩;have Y:j<env.length:=by
        have:=(XV.1 hc).1;simpa[eA,bQ]using this
       have m:c=(eA al (Pd.filter (λq=>!(q==p))) (bQ env (some t) (qR op (ag p) H.n))).getD j .bot:=by rw[Zg,hc];rfl
       rw[j0]at m;by_cases L:j=t
       · subst L;have ax:(Pd.filter (λq=>!(q==p))).any (λq=>c7 al q==some j)=false:=by
          rw[aau];intro ac;rw[aav]at ac;obtain⟨q,d,g⟩:=ac;have ay:c7 al q=some j:=by simpa using g
          have:=B.uniq q p j ay U;subst this;simp at d
         rw[ax]at m;simp only[ZP,bR,bQ,Zg,YQ Y,Option.getD_some]at m;subst m;have az:j<a.tmps.size:=(YF.1 z).1;rw[aj az]at z;cases z;exact MO E P (show H.n<G.n+1 by omega) I (aa y.symm)
       · have hold:(eA al Pd env).getD j .bot=if(Pd.filter (λq=>!(q==p))).any (λq=>c7 al q==some j)then .bot else env.getD j .bot:=by
           rw[j0];have : Pd.any (λq=>c7 al q==some j)=(Pd.filter (λq=>!(q==p))).any (λq=>c7 al q==some j):=by
            rw[aaf,aav,aav];constructor
            · rintro⟨q,d,g⟩;refine⟨q,aas.2 ⟨d,?_⟩,g⟩;have:q≠p:=by
               rintro rfl;rw[U]at g;exact L (by simpa using g:t=j).symm
              simp[this]
            · rintro⟨q,d,g⟩;exact⟨q,(aas.1 d).1,g⟩
           rw[this]
         have aB:(bQ env (some t) (qR op (ag p) H.n)).getD j .bot=env.getD j .bot:=by simp only[bQ];rw[Zg,YR (λe=>L e.symm),Zg]
         rw[aB,←hold]at m;have aC:j<(eA al Pd env).length:=by rw[hlen];exact Y
         refine hv.2 j c V ?_ z;rw[m,Zg,YO aC];rfl
     · have hs:=hw.step;refine {hs.toGLe.trans l with size:=hs.size,os:=hs.os,tape:=hs.tape,output:=hs.output,dr:=hs.dr,c9:=hs.c9,owned:=λk hk M=>?_,ez:=λb o hf=>hs.ez b o hf};by_cases f:k=H.n
       · subst f;rw[I]at M;omega
       · rw[R k f]at M ⊢;rw[T k f]at hk;exact hs.owned k hk M
    obtain⟨x,S',r,aA,H',G',r1,aD,aE⟩:=ad bh.tail _ _ _ _ _ (by simp[hn]) an;refine⟨x,S',r,aA,H',G',r1,λk=>(aD k).trans ?_,aE⟩;simp only[X2,bG,aas,Bool.not_eq_true',beq_eq_false_iff_ne];constructor
    · rintro((rfl|h)|⟨h,_⟩)
      ·exact .inr hp
      ·exact .inl h
      ·exact .inr h
    · rintro (h|h)
      ·exact .inl (.inr h)
      · by_cases v:k=p
        ·exact .inl (.inl v)
        ·exact .inr ⟨h,v⟩
  ·exact⟨bh,S,Pd,env,H,G,hw,λk=>Iff.rfl,λp hp h=>N ⟨p,hp,h⟩⟩
theorem Dq(hF:fM C){ops:Array Oper}{Q:Exit→Act→World→Prop}{K:Env→Z→Prop}{al:List bz}{pr:List (List Nat)}{bh:List (List Nat×Nat×List Nat)}{an:List Nat}
  (bi:ie C ops ops.toList al=true) (az:tv ops pr=true) (aY:tq al pr bh an=true) (hm:C.P.follows .mixedOrders=true)
  (h:jb (af C) al an bh env H K) (hG:ct C w G H) (bj:Rel C.F w G H) (he:aK C.F w G env a.tmps) (bk:a.defers=[])
  (hQ:∀aA H' G' a' w',K aA H'→ct C w' G' H'→Rel C.F w' G' H'→aK C.F w' G' aA a'.tmps→a'.defers=[]→Step w G H w' G' H'→c_ (gz al) a a'→Q .normal a' w') :
  wpAny C.P aaw ops Q ops.size (aax ops.size false) a {w with drawn:=w.drawn+1}:=by
 obtain⟨hlen,bm⟩:=MK bi;have b2:ops.size=al.length:=by simpa using hlen
 simp only[tq,X1]at aY;obtain⟨⟨ha,hb⟩,hc⟩:=aY;have g:=MD ha;have aZ:∀(i:Nat)(o:Oper),ops[i]?=some o→(∀e∈o.after,aal .any e=true→e.on<i)∧∀j∈bV pr i,∃e∈o.after,aal .any e=true∧(e.on=j∨j∈bV pr e.on):=by
  intro i o y;have hi:i<ops.size:=(YF.1 y).1;unfold tv at az;rw[YU]at az;have:=az i (aae.2 hi);rw[y]at this;simp only[X1]at this;obtain⟨h1,n⟩:=this;rw[YU]at h1 n;refine⟨λe A hb=>?_,λj ap=>?_⟩
  · have:=h1 e.on (aay.2 ⟨e,aas.2 ⟨by simpa using A,hb⟩,rfl⟩);simpa using this
  · have:=n j ap;rw[X2,aav]at this;rcases this with h|⟨k,hk,h⟩
    · have aq:j∈(o.after.toList.filter (aal .any)).map aam:=by simpa[List.contains_iff_mem]using h
      obtain⟨e,A,rfl⟩:=aay.1 aq;obtain⟨A,O⟩:=aas.1 A;exact⟨e,by simpa using A,O,.inl rfl⟩
    · obtain⟨e,A,rfl⟩:=aay.1 hk;obtain⟨A,O⟩:=aas.1 A;exact⟨e,by simpa using A,O,.inr (by simpa using h)⟩
 have main : ∀ (fuel:Nat) (listed:Array Bool) (bh:List (List Nat×Nat×List Nat)) (S:Nat→Bool) (Pd:List Nat) (bl:Nat→Nat) (ag:Nat→Nat×Nat) (aA:Env) (H':Z) (G':aH) (a':Act) (w':World),
   Way C al pr an K w G H a bh S Pd bl ag aA H' G' a' w'→(∀k,listed.getD k false=true↔S k=true∨k∈Pd)→listed.size=ops.size →
   (YM ops.size).countP (λk=>!listed.getD k false)≤fuel→wpAny C.P .any ops Q fuel listed a' w':=by
  have done:∀(listed:Array Bool),listed.size=ops.size→aaz .any ops listed=[]→∀i,i<ops.size→listed.getD i false=true:=by
   intro listed ae R i;induction i using Nat.strongRecOn with
   | _ i ar=>
    intro hi;cases b:listed.getD i false with
    |true=>rfl
    | false=>
     exfalso;have aq:i∈aaz .any ops listed:=by
      rw[mem_ready];have ah:i<listed.size:=by omega
      refine⟨?_,ops[i],by simp[hi],λe A O=>?_⟩
      ·simpa[ah]using b
      · have:=(aZ i ops[i] (by simp[hi])).1 e A O;exact ar e.on this (by omega)
     rw[R]at aq;cases aq
  have fin:∀(listed:Array Bool)(bh:List (List Nat×Nat×List Nat)) (S:Nat→Bool) (Pd:List Nat) (bl:Nat→Nat) (ag:Nat→Nat×Nat) (aA:Env) (H':Z) (G':aH) (a':Act) (w':World),
    Way C al pr an K w G H a bh S Pd bl ag aA H' G' a' w'→(∀k,listed.getD k false=true↔S k=true∨k∈Pd)→(∀i,i<ops.size→listed.getD i false=true)→Q .normal a' w':=by
   intro listed bh S Pd bl ag aA H' G' a' w' hw u T;obtain⟨a0,S',aB,aC,H2,N,r1,au,bn⟩:=hw.settle g _ _ _ _ _ _ _ rfl;have aD:aB=[]:=by
    cases aD:aB with
    |nil=>rfl
    | cons p r=>
     exfalso;have hp:p∈aB:=by rw[aD];exact aaj
     cases b:hK a0 with
     | none=>
      obtain⟨e0,e1,D,es,hl,hm,b3,hS,hf,a1,b4,aE,b5⟩:=r1.inv;cases a0 with
      |cons q r=>cases b
      | nil=>
       simp only[fY]at aE;rw[YU]at aE;obtain⟨g1,g2,_⟩:=r1.sep p hp;obtain⟨t,op,hz,W⟩:=mF g2;have bo:p<al.length:=(XV.1 hz).1;have bp:p∈D:=by simpa using aE p (aae.2 bo)
       obtain⟨o,v,y,f,_⟩:=hf p bp g1;rw[hz]at y;cases y;exact o0 W f
     | some e=>
      obtain⟨g1,g2,_⟩:=yv r1.inv b;have:=T e (by omega);rcases(au e).2 ((u e).1 this)with h|h
      ·rw[g1]at h;cases h
      ·exact bn e h b
   subst aD;have bq:∀i,i<al.length→S' i=true:=by
    intro i hi;rcases(au i).2 ((u i).1 (T i (by omega)))with h|h
    ·exact h
    ·cases h
   have aF:eA al [] aC=aC:=by apply mH (by simp[eA]);intro t _;rw[j0];rfl
   have hv:=r1.o5;rw[aF]at hv;exact hQ aC H2 N a' w' (MH r1.inv bq) r1.nB r1.rel hv r1.defers r1.step r1.aJ
  intro fuel;induction fuel with
  | zero=>
   intro listed bh S Pd bl ag aA H' G' a' w' hw u ae aG;have T:∀i,i<ops.size→listed.getD i false=true:=by intro i hi;have L:=Nat.le_zero.1 aG;rw[List.countP_eq_zero]at L;simpa using L i (aae.2 hi)
   have aI:aaz .any ops listed=[]:=by
    apply List.eq_nil_iff_forall_not_mem.2;intro i hi;obtain⟨L,o,y,_⟩:=mem_ready.1 hi;have ah:i<ops.size:=(YF.1 y).1;have:=T i ah;have X:i<listed.size:=by omega
    simp[X]at L this;rw[L]at this;cases this
   exact⟨aI,fin listed bh S Pd bl ag aA H' G' a' w' hw u T⟩
  | succ fuel ar=>
   intro listed br bs bt bl ag bu bv bw a' w' a2 a3 ae aG;refine⟨λaI=>fin listed br bs bt bl ag bu bv bw a' w' a2 a3 λi hi=>done listed ae aI i hi,λi hi=>?_⟩;obtain⟨bh,S,Pd,aA,H',G',hw,au,a4⟩:=a2.settle g _ _ _ _ _ _ _ rfl;have u:∀k,listed.getD k false=true↔S k=true∨k∈Pd:=λk=>(a3 k).trans (au k).symm;obtain⟨L,o,y,T⟩:=mem_ready.1 hi;have ah:i<ops.size:=(YF.1 y).1;have X:i<listed.size:=by omega
   have aL:listed.getD i false=false:=by simpa[X]using L
   have U:S i=false:=by
    cases b:S i with
    |false=>rfl
    |true=>have:=(u i).2 (.inl b);rw[aL]at this;cases this
   have E:i∉Pd:=λb=>by have:=(u i).2 (.inr b);rw[aL]at this;cases this
   obtain⟨ao,B,a5,f,aM⟩:=bm i o (by simpa using y);have ai:c7 al i=ao.dst:=by simp[c7,B]
   obtain⟨a1,bx⟩:=MI g hw.inv;have bA:∀k,listed.getD k false=true→∀j∈bV pr k,listed.getD j false=true:=by
    intro k hk j ap;rw[u]at hk ⊢;rcases hk with hk|hk
    ·exact .inl (a1 k hk j ap)
    ·exact(hw.sep k hk).2.2 j ap
   have av:∀k∈bV pr i,listed.getD k false=true:=by
    intro k hk;obtain⟨e,A,O,aN⟩:=(aZ i o y).2 k hk;have:=T e A O;rcases aN with rfl|aN
    ·exact this
    ·exact bA e.on this k aN
   have a6:∀k,(listed.setIfInBounds i true).getD k false=true↔k=i∨listed.getD k false=true:=by
    intro k;by_cases aO:k=i
    ·subst aO;simp[X]
    ·rw[getD_set_ne false (λe=>aO e.symm)];simp[aO]
   have a7:(YM ops.size).countP (λk=>!(listed.setIfInBounds i true).getD k false)≤fuel:=by
    refine Nat.lt_succ_iff.1 (Nat.lt_of_lt_of_le (MM (λx b=>?_) ⟨i,aae.2 ah,by rw[aL];rfl,by simp[X]⟩) aG);by_cases a8:x=i
    ·subst a8;simp[X]at b
    ·rw[getD_set_ne false (λe=>a8 e.symm)]at b;exact b
   by_cases a9:fN al pr i=true∧hK bh≠some i
   ·
     obtain⟨J,b6⟩:=a9;obtain⟨t,op,hz,W⟩:=mF J;rw[B]at hz;cases hz;unfold wpOp;rw[y];dsimp only;have aP:o.guard=none:=by
      cases aP:o.guard with
      |none=>rfl
      |some _=>rw[aP]at aM;simp[k8]at aM
     rw[aa (by simp[aao,aP])];refine .inl ?_;have Y:(∃sz bytes zero l c,op = .make true sz bytes zero l c)→∀k∈bV pr i,S k=true:=by
      rintro⟨sz,bytes,zero,l,c,rfl⟩ k hk;rcases(u k).1 (av k hk)with h|h
      ·exact h
      · obtain⟨b7,ba,bB⟩:=Dc J B k hk;obtain⟨t2,b8,bC,bD⟩:=mF (hw.sep k h).2.1;rw[bC]at ba;cases ba;exact(o0 bD bB).elim
     obtain⟨x,bb⟩:=MG (yl C) g hw.inv B W U Y;have b:jg (eA al Pd aA) op=some x:=by
      rw[←bb];apply tt;intro s hs;rw[j0];have : Pd.any (λp=>c7 al p==some s)=false:=by
       rw[aau];intro bc;rw[aav]at bc;obtain⟨p,hp,aj⟩:=bc;have ak:c7 al p=some s:=by simpa using aj
       obtain⟨g1,g2,g3⟩:=hw.sep p hp;have bE:∃sz bytes zero l c,op = .make true sz bytes zero l c:=by
        rcases W with⟨zero,rfl⟩|rfl|h
        ·simp[bT]at hs
        ·simp[bT]at hs
        ·exact h
       rcases g.reads i _ s p B (by simp[gT,hs]) ak with h|⟨_,h⟩
       ·have:=Y bE p h;rw[g1]at this;cases this
       · rcases h with rfl|h
         ·exact E hp
         · rcases g3 i h with d|d
           ·rw[U]at d;cases d
           ·exact E d
      rw[this];rfl
     have bF:=hw.o5;obtain ⟨aw,cap,bH,hblk⟩:∃(aw:Obj) (cap:Nat),(execOp a'.eval o).run C.P w' = .ok (.value (nA op x w'.heap.size)) (w'.alloc aw)∧∀(w2:World)(N:aH),GLe w' G' w2 N→w2.heap[w'.heap.size]?=some aw→mI C.F w2 N op x w'.heap.size cap:=by
      rcases W with⟨zero,rfl⟩|rfl|⟨sz,bytes,zero,ol,b9,rfl⟩
      · simp only [cw]at f;split at f
        · rename_i ty aQ;split at f
          · rename_i inf bI;split at f
            · rename_i z bJ;have bK:=k5 (C:=C) (w:=w') (G:=G') f;have bL:aK C.F w' G' zero z.cells:=by simpa using bK
              refine⟨.cells z.cells ty,z.cells.size,?_,λw2 N g hb=>⟨_,_,hb,rfl,bL.mono g⟩⟩;have R:(YZ ty true (.tuple #[])).run C.P w' = .ok (.pointer (some ⟨w'.heap.size,0,none⟩)) (w'.alloc (.cells z.cells ty)):=by simp[YZ,zeroValue,typeInfo,bI,bJ,newVar,newRow]
              simp[execOp,aQ,R,nA]
            ·cases f
          ·cases f
        ·cases f
      · simp only[cw]at f;split at f
        · rename_i ty r aQ;have R:r=none:=by simpa using f
          subst R;refine⟨.map #[] 0,0,?_,λw2 N g hb=>⟨_,hb⟩⟩;have R:(Instr.makeMap ty none).run C.P w' = .ok (.map (some w'.heap.size)) (w'.alloc (.map #[] 0)):=rfl;simp[execOp,aQ,R,nA]
        ·cases f
      ·exact MR hw.nB.1 bF f b
     refine tf bH ?_;have hp:=c0.alloc w' aw;obtain⟨bM,M⟩:=hw.rel.LO hp;have bN:o.dst=some t:=a5;rw[bN];refine ar _ bh S (i::Pd) (λk=>if k=i then w'.heap.size else bl k) (λk=>if k=i then x else ag k) aA H' G' _ _ ⟨hw.inv,λp m=>?_,λp m=>?_,λp m t' aR ac=>?_,λp m q bO ax=>?_,hw.nB.step M,bM,?_,by rw[put_defers];exact hw.defers,hw.step.trans M,hw.aJ.trans ((c_.put a' (some t) _).mono λs hs=>Dl B s (by simpa[eq_comm]using hs))⟩ ?_ (by simp[ae]) a7
     · rcases aah.1 m with rfl|m
       · exact ⟨U,J,λk hk=>by
           rcases(u k).1 (av k hk)with h|h
           ·exact .inl h
           ·exact .inr (aai _ h)⟩
       · obtain⟨g1,g2,g3⟩:=hw.sep p m;exact⟨g1,g2,λk hk=>(g3 k hk).imp id λh=>aai _ h⟩
     · rcases aah.1 m with rfl|m
       · rw [aa rfl,aa rfl];refine⟨t,op,cap,B,W,λht=>?_,hblk _ _ M.toGLe hp.new,hw.step.size,λk hk=>Nat.ne_of_lt ((hw.rel.obj k).lt hk),λj hf=>?_⟩
         · simp only[aan]at ht ⊢;rw[aaq]at ht;simp[ht]
         · obtain⟨V,am⟩:=hw.rel.ea _ _ hf;have:=YE w' _ am;simp at this
       · have I:p≠i:=λe=>E (e▸m);rw[ab I,ab I];refine(hw.qS p m).step M (some t) _ λs hs e=>?_;have bP:t=s:=Yb.inj e;subst bP;exact I (g.uniq p i t hs (by rw[ai]))
     · rcases aah.1 m with rfl|m
       · rw[aa rfl];rw[B]at ac;cases ac;exact bb
       · have I:p≠i:=λe=>E (e▸m);rw[ab I];exact hw.args p m t' aR ac
     · have bd:∀q∈Pd,bl q<w'.heap.size:=by
         intro q bR;obtain⟨_,_,_,_,L,_,bS,_⟩:=hw.qS q bR;exact Dm L bS
       have be:=aah.1 m;have bf:=aah.1 bO;by_cases h1:p=i<;>by_cases n:q=i
       ·rw[h1,n]
       · rw[aa h1,ab n]at ax;have:=bd q (bf.resolve_left n);omega
       · rw[ab h1,aa n]at ax;have:=bd p (be.resolve_left h1);omega
       · rw[ab h1,ab n]at ax;exact hw.inj p (be.resolve_left h1) q (bf.resolve_left n) ax
     · have hv:=hw.o5.mono M.toGLe;refine⟨by simpa[eA,aan]using hv.1,λj c V hc am=>?_⟩;have bU:j<aA.length:=by
        have:=(XV.1 hc).1;simpa[eA]using this
       have ad:c=(eA al (i::Pd) aA).getD j .bot:=by rw[Zg,hc];rfl
       rw[j0]at ad;by_cases aS:t=j
       · subst aS;have:(i::Pd).any (λq=>c7 al q==some t)=true:=by simp[ai]
         rw[this]at ad;simp only[a_]at ad;subst ad;exact .bot _
       · simp only[aan]at am;rw[aar aS]at am;have h1:(i::Pd).any (λq=>c7 al q==some j)=Pd.any (λq=>c7 al q==some j):=by
          rw[List.any_cons,ai];have:(some t==some j)=false:=by simpa using aS
          rw[this,Bool.false_or]
         rw[h1,←j0]at ad;have bW:j<(eA al Pd aA).length:=by simpa[eA]using bU
         refine hv.2 j c V ?_ am;rw[ad,Zg,YO bW];rfl
     · intro k;rw[a6 k,u k];simp only[aah];constructor
       · rintro(h|h|h)
         ·exact .inr (.inl h)
         ·exact .inl h
         ·exact .inr (.inr h)
       · rintro(h|h|h)
         ·exact .inr (.inl h)
         ·exact .inl h
         ·exact .inr (.inr h)
   · have J : fN al pr i=false∨hK bh=some i:=by
       by_cases h1:fN al pr i=true
       · by_cases n:hK bh=some i
         ·exact .inr n
         ·exact absurd ⟨h1,n⟩ a9
       ·exact .inl (by simpa using h1)
     have Y:∀k∈bV pr i,S k=true:=by
      intro p hp;rcases(u p).1 (av p hp)with h|h
      ·exact h
      · exfalso;obtain⟨g1,g2,_⟩:=hw.sep p h;rcases J with J|J
        · refine bx p g2 g1 (a4 p h) i (by omega) U hp J λk hk=>?_;rcases(u k).1 (av k hk)with d|d
          ·exact .inl d
          ·exact .inr ⟨(hw.sep k d).2.1,a4 k d⟩
        · have:=(yv hw.inv J).2.2 p hp g2;rw[g1]at this;cases this
     have aT:=Di (tm C) g hw.inv B U Y J;rw[tn]at aT;have agree:∀t∈gT ao,aA.getD t .bot=(eA al Pd aA).getD t .bot:=by
      intro t ht;rw[j0];have : Pd.any (λp=>c7 al p==some t)=false:=by
       rw[aau];intro b;rw[aav]at b;obtain⟨p,hp,aj⟩:=b;have ak:c7 al p=some t:=by simpa using aj
       obtain⟨g1,g2,g3⟩:=hw.sep p hp;rcases g.reads i ao t p B ht ak with h|⟨_,h⟩
       ·have:=Y p h;rw[g1]at this;cases this
       · rcases h with rfl|h
         ·exact E hp
         · rcases g3 i h with d|d
           ·rw[U]at d;cases d
           ·exact E d
      rw[this];rfl
     rw[Db agree]at aT;refine ML hF y a5 f aM aT hw.nB hw.rel hw.o5 ?_;intro v V H2 N w2 bX bY bZ b0 M;refine ar _ _ (λk=>k==i||S k) Pd bl ag _ H2 N _ w2 ⟨bX,λp hp=>?_,λp hp=>?_,λp hp t' aR ac=>?_,hw.inj,bY,b0,?_,by rw[put_defers];exact hw.defers,hw.step.trans M,hw.aJ.trans ((c_.put a' ao.dst V).mono λs hs=>Dl B s (by simpa[Option.mem_toList,eq_comm]using hs))⟩ ?_ (by simp[ae]) a7
     · obtain⟨g1,g2,g3⟩:=hw.sep p hp;have I:p≠i:=λe=>E (e▸hp);exact⟨by simp[I,g1],g2,λk hk=>(g3 k hk).imp (λh=>by simp[h]) id⟩
     · have I:p≠i:=λe=>E (e▸hp);refine(hw.qS p hp).step M ao.dst V λs hs e=>?_;exact I (g.uniq p i s hs (by rw[ai,e]))
     · have I:i≠p:=λe=>E (e▸hp);rw[←hw.args p hp t' aR ac];exact Dp g ac (hw.sep p hp).2.1 B (.inl λh=>by
         rcases(hw.sep p hp).2.2 i h with d|d
         ·rw[U]at d;cases d
         ·exact E d) I λh=>by
         have:=Y p h;rw[(hw.sep p hp).1]at this;cases this
     · have hv :=hw.o5.mono M.toGLe;have bg:∀t,ao.dst=some t→Pd.any (λp=>c7 al p==some t)=false:=by
        intro t ht;rw[aau];intro b;rw[aav]at b;obtain⟨p,hp,aj⟩:=b;have ak:c7 al p=some t:=by simpa using aj
        exact E ((g.uniq p i t ak (by rw[ai,ht]))▸hp)
       have b1 : eA al Pd (bQ aA ao.dst v)=bQ (eA al Pd aA) ao.dst v:=by
        apply mH
        ·cases aU:ao.dst<;>simp[eA,bQ]
        · intro s _;rw[j0];cases aU:ao.dst with
          |none=>simp only[bQ];rw[j0]
          | some t=>
           simp only[bQ];by_cases aV:t=s
           · subst aV;rw[bg t aU];by_cases ay:t<aA.length
             · have aW:t<(eA al Pd aA).length:=by simpa[eA]using ay
               simp[Zg,ay,aW]
             · have aW:¬t<(eA al Pd aA).length:=by simpa[eA]using ay
               rw[aaA (aad ay),aaA (aad aW),j0,bg t aU]
           · have h1:(aA.set t v).getD s .bot=aA.getD s .bot:=by
               rw[Zg,YR aV,Zg]
             have n:((eA al Pd aA).set t v).getD s .bot=(eA al Pd aA).getD s .bot:=by rw[Zg,YR aV,Zg]
             rw[h1,n,j0]
       rw[b1];exact hv.bQ ao.dst bZ
     · intro k;rw[a6 k,u k];simp only[X2,bG];constructor
       · rintro(h|h|h)
         ·exact .inl (.inl h)
         ·exact .inl (.inr h)
         ·exact .inr h
       · rintro((h|h)|h)
         ·exact .inl h
         ·exact .inr (.inl h)
         ·exact .inr (.inr h)
 obtain⟨dC,aX⟩:=Step.drawn (Nat.le_succ w.drawn) bj;refine main ops.size (aax ops.size false) bh (λ_=>false) [] (λ_=>0) (λ_=>(0,0)) env H G a _ ⟨ME g hb hc h,λp hp=>(by cases hp),λp hp=>(by cases hp),λp hp=>(by cases hp),λp hp=>(by cases hp),hG.step aX,dC,?_,bk,aX,c_.refl _ _⟩ ?_ (by simp) ?_
 · have aF:eA al [] env=env:=by
     apply mH (by simp[eA]);intro t _;rw[j0];rfl
   rw[aF];exact he.mono aX.toGLe
 · intro k;by_cases hk:k<ops.size<;>simp[hk]
 ·exact Nat.le_trans (List.countP_le_length) (by simp)
theorem MS(hF:fM C){ops:Array Oper}{Q:Exit→Act→World→Prop}{K:Env→Z→Prop}{al:List bz}{pr:List (List Nat)}{bh:List (List Nat×Nat×List Nat)}{b:List Nat}{bS:Nat}
  (c:ie C ops ops.toList al=true) (d:tv ops pr=true) (e:tq al pr bh b=true) (hm:C.P.follows .mixedOrders=true)
  (h:jb (af C) al b bh env H K) (hG:ct C w G H) (f:Rel C.F w G H) (he:aK C.F w G env a.tmps) (g:a.defers=[])
  (hQ:∀aA H' G' a' w',K aA H'→ct C w' G' H'→Rel C.F w' G' H'→aK C.F w' G' aA a'.tmps→a'.defers=[]→Step w G H w' G' H'→c_ (gz al) a a'→Q .normal a' w') :
  (Code.region bS ops true).wp C.P Q a w:=
 wp_region_any hm (Dq hF c d e hm h hG f he g hQ)
theorem Dr{o:Nat→bM}:∀{cells l:List I}{id:Nat},gP o cells=some (l,id)→∃pre off len sz post cs,cells=pre ++ .row id off len sz::post∧l=pre ++ .ak .dead len ((cs.drop off).take (len*sz))::post∧o id = .row cs∧off+len*sz≤cs.length:=by
 intro cells;induction cells with
 |nil=>intro l id h;cases h
 | cons c r b=>
  intro l id h;unfold gP at h;split at h
  ·rename_i heq;cases heq
  · rename_i j off len sz d heq;cases heq;split at h
    · rename_i cs e;split at h
      · rename_i hle;cases h;exact⟨[],_,_,_,_,cs,rfl,rfl,e,hle⟩
      ·cases h
    ·cases h
  · rename_i c' d _ heq;cases heq;cases a:gP o r with
    |none=>rw[a]at h;cases h
    | some q=>obtain⟨k,m⟩:=q;rw[a]at h;cases h;obtain⟨pre,off,len,sz,post,cs,h1,f,g,i⟩:=b a;exact⟨c::pre,off,len,sz,post,cs,by rw[h1];rfl,by rw[f];rfl,g,i⟩
theorem Rel.MT{H:Z}{id:Nat}{cs l:List I}(a:Rel F w G H)(b:H.o id = .row cs)(h:eY F w G id (.row l)):Rel F w G (H.set id (.row l)):=by
 have hl:∀i,((H.set id (.row l)).o i).live=true→(H.o i).live=true:=by
  intro i hi;simp only[Z.set]at hi;split at hi
  ·rename_i e;rw[e,b];rfl
  ·exact hi
 refine⟨a.n,λi hi=>?_,λi=>?_,λi j c hi d=>a.eZ i j c (hl i hi) (hl j d),a.ea⟩
 · simp only[Z.set]at hi ⊢;split
   · rename_i e;have:=a.over i hi;rw[e,b]at this;cases this
   ·exact a.over i hi
 · simp only[Z.set];split
   ·rename_i e;rw[e];exact h
   ·exact a.obj i
theorem MU{x v:I}{X:Value}(m:Rel F w G H)(h:jT H x=some (v,H'))(t:VR F w G x X):∃G',Rel F w G' H'∧Step w G H w G' H'∧VR F w G' v X:=by
 have key:∀(id:Nat)(cs:List I),H.o id = .row cs→∃G',Rel F w G' (H.set id .gone)∧Step w G H w G' (H.set id .gone) ∧
   ∃Vs:Nat→Value,(∀(j:Nat)(c:I),cs[j]?=some c→G'.fz (G.loc id) j∧w.cell? ⟨G.loc id,j,none⟩=some (Vs j))∧(∀(j:Nat)(c:I),cs[j]?=some c→VR F w G' c (Vs j)):=by
  intro id cs r;have z:(H.o id).live=true:=by rw[r];rfl
  have A:=m.gx z;have hk:=m.kill id (m.n▸A);have B:=m.obj id;rw[r]at B;have D:=B.sY;have E:GLe w G w (G.dR (G.loc id) 0 cs.length):=⟨sl _,λ_ _=>rfl,λ_ _=>rfl,λ_ _ hf=> .inl hf,λ_ _ _ _ hc=>hc⟩
  have S:∀j,((H.set id .gone).o j).live=true→j≠id∧(H.o j).live=true:=by
   intro j a;simp only[Z.set]at a;split at a
   ·cases a
   ·rename_i J;exact⟨J,a⟩
  refine⟨G.dR (G.loc id) 0 cs.length,⟨hk.1.n,hk.1.over,λj=>?_,hk.1.eZ,λb o hb=>?_⟩,?_,λj=>(w.cell? ⟨G.loc id,j,none⟩).getD undef,λj c a=>?_,λj c a=>?_⟩
  · refine (hk.1.obj j).aJ E (λhl=>hk.1.gx hl) (λ_=>rfl) λhl k hf=>?_;rcases hf with hf|⟨hf,_⟩
    ·exact hf
    · obtain⟨h1,s⟩:=S j hl;exact absurd hf (m.eZ j id h1 s z)
  · rcases hb with hb|⟨rfl,_,u⟩
    ·exact m.ea b o hb
    · obtain⟨V,f,_⟩:=D o cs[o] (YO u);exact⟨V,by simpa using f⟩
  ·exact {E with size:=sl _,os:=rfl,tape:=rfl,output:=rfl,dr:=sl _,c9:=λ_ _ _=>rfl,owned:=λj hl _=>⟨j,(S j hl).2,rfl⟩,ez:=λb o hf=>hf.imp (λh=>h) λhf=> .inr ⟨id,z,hf.1.symm⟩}
  · obtain⟨V,f,_⟩:=D j c a;rw[YI]at f;exact⟨.inr ⟨rfl,Nat.zero_le _,(XV.1 a).1⟩,by dsimp only;rw[f];rfl⟩
  · obtain⟨V,f,q⟩:=D j c a;rw[YI]at f;dsimp only;rw[f];exact q.mono E
 unfold jT at h;split at h
 · rename_i id o len sz;split at h
   · rename_i cs r;split at h
     · cases h;obtain⟨G',q,g,Vs,h1,s⟩:=key id cs r;refine⟨G',q,g,?_⟩;cases t with
       | row _ _ _ _ cap A hle hc=>
        have ep:∀(j:Nat)(c:I),((cs.drop o).take (len*sz))[j]?=some c→cs[o+j]?=some c:=by
         intro j c a;rw[XX]at a;split at a
         ·rw[XY]at a;exact a
         ·cases a
        exact .ak _ _ _ _ o cap (λj=>Vs (o+j)) trivial hle (λj c a=>h1 _ c (ep j c a)) λj c a=>s _ c (ep j c a)
     ·cases h
   ·cases h
 · rename_i id o;split at h
   · rename_i cs r;split at h
     · rename_i l p K;split at h
       ·cases h
       · rename_i J;cases h;obtain⟨pre,off,len,sz,post,cs',rfl,rfl,T,hle⟩:=Dr K;obtain⟨G',q,g,Vs,h1,s⟩:=key p cs' T;have z:(H.o p).live=true:=by rw[T];rfl
         have W:=m.gx z;have Y:G'.loc p=G.loc p:=g.loc p (m.n▸W);have L:(H.set p .gone).o id = .row (pre ++ .row p off len sz::post):=by simp only[Z.set];rw[ab (λe=>J e.symm)];exact r
         have B:=q.obj id;rw[L]at B;obtain⟨aa,e,ac,ad,af,M⟩:=B;have ag:eY F w G' id (.row (pre ++ .ak .dead len ((cs'.drop off).take (len*sz))::post)):=by
          refine⟨aa,e,ac,ad,af,λj c a=>?_⟩;rcases aaB j pre.length with u|rfl|ah
          · rw[Zy u]at a;exact M j c (by rw[Zy u];exact a)
          · have N:(pre++I.row p off len sz::post)[pre.length]?=some (.row p off len sz):=by simp
            have hc:c = .ak .dead len ((cs'.drop off).take (len*sz)):=by
             have O:(pre++I.ak .dead len ((cs'.drop off).take (len*sz))::post)[pre.length]?=some (.ak .dead len ((cs'.drop off).take (len*sz))):=by simp
             rw[O]at a;exact(Yb.inj a).symm
            subst hc;obtain⟨V,f,P⟩:=M _ _ N;refine⟨V,f,?_⟩;cases P with
            | row _ _ _ _ cap A Q ai=>
             have ep:∀(j:Nat)(c:I),((cs'.drop off).take (len*sz))[j]?=some c→cs'[off+j]?=some c:=by
              intro j c a;rw[XX]at a;split at a
              ·rw[XY]at a;exact a
              ·cases a
             rw[Y];exact .ak _ _ _ _ off cap (λj=>Vs (off+j)) trivial Q (λj c a=>h1 _ c (ep j c a)) λj c a=>s _ c (ep j c a)
          · have e:∀y:I,(pre++y::post)[j]?=post[j-pre.length-1]?:=by
              intro y;rw[Zz (by omega)];obtain⟨d,R⟩:∃d,j-pre.length=d+1:=⟨j-pre.length-1,by omega⟩
              rw[R];rfl
            rw[e]at a;exact M j c (by rw[e];exact a)
         have hl:∀i,(((H.set p .gone).set id (.row (pre ++ .ak .dead len ((cs'.drop off).take (len*sz))::post))).o i).live=true→((H.set p .gone).o i).live=true:=by
          intro i hi;by_cases U:i=id
          ·rw[U,L];rfl
          ·simp only[Z.set,ab U]at hi ⊢;exact hi
         refine⟨G',q.MT L ag,{g with owned:=λi hi hb=>g.owned i (hl i hi) hb},t.mono g.toGLe⟩
     · cases h;obtain⟨G',q,g,Vs,h1,s⟩:=key id cs r;refine⟨G',q,g,?_⟩;cases t with
       | ptr _ _ A=>exact .ae _ _ o (λj=>Vs (o+j)) (λj c a=>h1 _ c (by rw[XY]at a;exact a)) λj c a=>s _ c (by rw[XY]at a;exact a)
   ·cases h
 ·cases h;exact⟨G,m,Step.refl _ _ _,t⟩
 ·cases h;exact⟨G,m,Step.refl _ _ _,t⟩
 · rename_i cells;split at h
   · rename_i l id K;cases h;obtain⟨pre,off,len,sz,post,cs,rfl,rfl,r,hle⟩:=Dr K;obtain⟨G',q,g,Vs,h1,s⟩:=key id cs r;refine⟨G',q,g,?_⟩;obtain⟨Xs,rfl,C⟩:=t.np;refine .agg _ _ (by have:=C.1;simp at this ⊢;omega) λj c V a f=>?_;rcases aaB j pre.length with u|rfl|ah
     · rw[Zy u]at a;exact(C.2 j c V (by rw[Zy u];exact a) f).mono g.toGLe
     · have N:(pre++I.row id off len sz::post)[pre.length]?=some (.row id off len sz):=by simp
       have hc:c = .ak .dead len ((cs.drop off).take (len*sz)):=by
        have O:(pre++I.ak .dead len ((cs.drop off).take (len*sz))::post)[pre.length]?=some (.ak .dead len ((cs.drop off).take (len*sz))):=by simp
        rw[O]at a;exact(Yb.inj a).symm
       subst hc;have P:=C.2 _ _ V N f;cases P with
       | row _ _ _ _ cap A Q ai=>
        have ep:∀(j:Nat)(c:I),((cs.drop off).take (len*sz))[j]?=some c→cs[off+j]?=some c:=by
         intro j c a;rw[XX]at a;split at a
         ·rw[XY]at a;exact a
         ·cases a
        exact .ak _ _ _ _ off cap (λj=>Vs (off+j)) trivial Q (λj c a=>h1 _ c (ep j c a)) λj c a=>s _ c (ep j c a)
     · have e:∀y:I,(pre++y::post)[j]?=post[j-pre.length-1]?:=by
         intro y;rw[Zz (by omega)];obtain⟨d,R⟩:∃d,j-pre.length=d+1:=⟨j-pre.length-1,by omega⟩
         rw[R];rfl
       rw[e]at a;exact(C.2 j c V (by rw[e];exact a) f).mono g.toGLe
   ·cases h;exact⟨G,m,Step.refl _ _ _,t⟩
 ·cases h
end
end Rb

namespace Rb
open Go
variable{F:cz}{Vs:Array Value}
section
variable{C:Ctx}{w:World}{G:aH}{H:Z}{env:Env}{a:Act}
theorem tA(h:aK F w G env Vs)(vs:List Nat):∀(j:Nat)(c:I),(ep env vs)[j]?=some c→∃t V,vs[j]?=some t∧(Vs[t]?=some V∧VR F w G c V∨c = .bot):=by
 intro j c a;simp only[ep,YN]at a;cases hv:vs[j]? with
 |none=>simp[hv]at a
 | some t=>
  simp[hv]at a;subst a;cases he:env[t]? with
  |none=>exact⟨t,undef,rfl,.inr (by simp)⟩
  | some c=>obtain⟨V,b,d⟩:=h.get he;exact⟨t,V,rfl,.inl ⟨b,by simpa[he]using d⟩⟩
theorem MV:∀(ks:List Nat){env:Env}{Vs:Array Value},aK F w G env Vs→aK F w G (e2 env ks) Vs:=by
 intro ks;induction ks with
 |nil=>intro env Vs h;exact h
 | cons t ks b=>
  intro env Vs h;refine b ⟨by simp[h.1],λj c V hc d=>?_⟩;by_cases a:t=j
  · subst a;rw[Ym]at hc;simp only[a_]at hc;split at hc
    ·cases hc;exact .bot _
    ·cases hc
  · rw[YR a]at hc;exact h.2 j c V hc d
theorem MW:∀(ks:List Nat)(env:Env),(e2 env ks).length=env.length:=by
 intro ks;induction ks with
 |nil=>intro env;rfl
 |cons t ks a=>intro env;rw[e2,a];simp
theorem MX:∀(ks:List Nat)(env:Env)(t:Nat),t∈ks→∀c,(e2 env ks)[t]?=some c→c = .bot:=by
 intro ks;induction ks with
 |nil=>intro env t ht;cases ht
 | cons s ks a=>
  intro env t ht c hc;by_cases h:t∈ks
  ·exact a _ t h c hc
  · have d:t=s:=by rcases aah.1 ht with b|b;exact b;exact absurd b h
    subst d;have key:∀(ks:List Nat)(env:Env),t∉ks→(e2 env ks)[t]?=env[t]?:=by
     intro ks;induction ks with
     |nil=>intro env _;rfl
     | cons u ks a=>intro env hn;rw[e2,a _ (λh=>hn (aai _ h)),YR (λe=>hn (by rw[e];exact aaj))]
    rw[e2,key ks _ h,Ym]at hc;simp only[a_]at hc;split at hc
    ·cases hc;rfl
    ·cases hc
theorem tB{ks vs az:List Nat}{Vs b:Array Value}(h:aK F w G env Vs)(hc:tw ks vs az=true)(hs:b.size=Vs.size)(o:∀t,t∉az→b[t]?=Vs[t]?)(a:List I)
  (k:∀(j:Nat)(c:I),a[j]?=some c→∃t V,vs[j]?=some t∧(b[t]?=some V∧VR F w G c V∨c = .bot)) (hl:a.length=vs.length):aK F w G (h_ (e2 env ks) vs a) b:=by
 have p:∀(vs:List Nat)(a:List I)(env:Env),env.length=b.size→a.length=vs.length →
   (∀(j:Nat)(c:I),a[j]?=some c→∃t V,vs[j]?=some t∧(b[t]?=some V∧VR F w G c V∨c = .bot)) →
   (∀(j:Nat)(c:I)(V:Value),env[j]?=some c→b[j]?=some V→j∈vs∨VR F w G c V)→aK F w G (h_ env vs a) b:=by
  intro vs;induction vs with
  |nil=>intro a env hle _ _ h;exact⟨hle,λj c V hc f=>(h j c V hc f).resolve_left (by simp)⟩
  | cons t vs q=>
   intro a env hle hl k h;cases a with
   |nil=>simp at hl
   | cons d a=>
    rw[h_];refine q a _ (by simp[hle]) (by simpa using hl) (λj c e=>by obtain⟨t',V,l,i⟩:=k (j+1) c (by simpa using e);exact⟨t',V,by simpa using l,i⟩) λj c V hc f=>?_
    by_cases e:t=j
    · subst e;rw[Ym]at hc;simp only[a_]at hc;split at hc
      · cases hc;obtain⟨t',r,l,i⟩:=k 0 d rfl;simp at l;subst l;rcases i with⟨m,i⟩|rfl
        ·rw[f]at m;cases m;exact .inr i
        ·exact .inr (.bot _)
      ·cases hc
    · rw [YR e]at hc;rcases h j c V hc f with g|g
      · rcases aah.1 g with g|g
        ·exact absurd g.symm e
        ·exact .inl g
      ·exact .inr g
 refine p vs a _ (by rw[MW,h.1,hs]) hl k λj c V n f=>?_;by_cases e:j∈az
 · have:=YU.1 hc j e;simp at this;rcases this with h1|h1
   ·rw[MX ks env j h1 c n];exact .inr (.bot _)
   ·exact .inl h1
 · rw[o j e]at f;exact .inr ((MV ks h).2 j c V n f)
theorem tC(env:Env)(vs:List Nat):(ep env vs).length=vs.length:=by simp[ep]
def e_:fj→Exit→Prop
 | .normal,.normal=>True
 | .exit i,.exit j=>i=j
 | .ret,.ret=>True
 |_,_=>False
theorem Ds(hF:fM C){ops:Array Oper}{Q:Exit→Act→World→Prop}{w0:World}{G0:aH}{H0:Z}{a0:Act}{az:List Nat} :
  ∀ (b:c6) (l:List Oper) (env:Env) (H:Z) (G:aH) (w:World) (a:Act) (K:fj→Env→Z→Prop),qP C ops l b=true→cp (af C) b env H K→ct C w G H→Rel C.F w G H→aK C.F w G env a.tmps→a.defers=[] →
   Step w0 G0 H0 w G H→c_ az a0 a→(∀t,t∈ei b→t∈az) →
   (∀aA H' G' a' w',K .normal aA H'→ct C w' G' H'→Rel C.F w' G' H'→aK C.F w' G' aA a'.tmps→a'.defers=[]→Step w0 G0 H0 w' G' H'→c_ az a0 a'→Q .normal a' w') →
   wpList C.P ops Q l a w:=by
 intro b;induction b with
 | region al=>intro l env H G w a K c h hG e he f g hk d hQ;exact tx hF l al env H G w a c h hG e he f g hk d hQ
 | gw vs ks al b k=>intro l env H G w a K c h hG e he f g hk d hQ;simp only[qP,X1]at c;obtain⟨⟨h1,m⟩,n⟩:=c;rw[←List.take_append_drop al.length l];simp only[cp]at h;refine Dk (w0:=w) (G0:=G) (H0:=H) (a0:=a) (az:=gz al) hF (l.take al.length) al env H G w a h1 h hG e he f (Step.refl _ _ _) (c_.refl _ _) (λ_ ht=>ht) ?_;intro aA H' G' a' w' o p q r s j i;have u:=tB (he.mono j.toGLe) m i.1 i.2 (ep aA vs) (tA r vs) (tC _ _);exact k (l.drop al.length) _ H' G' w' a' K n o p q u s (g.trans j) (hk.trans (i.mono λt ht=>d t (by simp[ei,ht]))) (λt ht=>d t (by simp[ei,ht])) hQ
 |_=>intro l env H G w a K c;simp[qP]at c
theorem tD(hF:fM C) :
  ∀ (ac:c6) (c:Code) (env:Env) (H:Z) (G:aH) (w:World) (a:Act) (K:fj→Env→Z→Prop) (Q:Exit→Act→World→Prop),b_ C c ac=true→cp (af C) ac env H K →
   ct C w G H→Rel C.F w G H→aK C.F w G env a.tmps→a.defers=[] →
   (∀u ex aA H' G' a' w',e_ u ex→K u aA H'→ct C w' G' H'→Rel C.F w' G' H'→aK C.F w' G' aA a'.tmps→a'.defers=[]→Step w G H w' G' H'→c_ (ei ac) a a'→Q ex a' w') →
   c.wp C.P Q a w:=by
 intro ac;induction ac with
 | skip=>intro c env H G w a K Q d h hG g he m hQ;cases c<;>simp[b_]at d;exact wp_skip (hQ .normal .normal env H G a w trivial h hG g he m (Step.refl _ _ _) (c_.refl _ _))
 | region al=>
  intro c env H G w a K Q d h hG g he m hQ;cases c with
  | region id ops draw=>
   cases draw with
   |true=>simp[b_]at d
   | false=>
    simp only[b_]at d;refine wp_region_list ?_;exact tx (az:=gz al) (a0:=a) (w0:=w) (G0:=G) (H0:=H) (Q:=Q) (K:=K .normal) hF ops.toList al env H G w a d h hG g he m (Step.refl _ _ _) (c_.refl _ _) (λ_ ht=>ht)
     (λaA H' G' a' w' r z o A B f n=>hQ .normal .normal aA H' G' a' w' trivial r z o A B f n)
  |_=>simp[b_]at d
 | gw vs ks al b _=>
  intro c env H G w a K Q d h hG g he m hQ;cases c with
  | region id ops draw=>
   cases draw with
   |true=>simp[b_]at d
   | false=>
    simp only[b_]at d;refine wp_region_list ?_;exact Ds (az:=ei (.gw vs ks al b)) (a0:=a) (w0:=w) (G0:=G) (H0:=H) (Q:=Q) (K:=K) hF (.gw vs ks al b) ops.toList env H G w a d h hG g he m (Step.refl _ _ _) (c_.refl _ _) (λ_ ht=>ht)
     (λaA H' G' a' w' r z o A B f n=>hQ .normal .normal aA H' G' a' w' trivial r z o A B f n)
  |_=>simp[b_]at d
 | draw al pr bh last=>
  intro c env H G w a K Q d h hG g he m hQ;cases c with
  | region id ops draw=>
   cases draw with
   |false=>simp[b_]at d
   | true=>simp only[b_,X1]at d;obtain⟨⟨⟨h1,L⟩,M⟩,N⟩:=d;exact MS hF h1 L M N h hG g he m λaA H' G' a' w' r z o A B f n=>hQ .normal .normal aA H' G' a' w' trivial r z o A B f n
  |_=>simp[b_]at d
 | seq x y ak am=>
  intro c env H G w a K Q d h hG g he m hQ;cases c with
  | seq p q=>
   simp only[b_,X1]at d;refine wp_seq ?_;refine ak p env H G w a _ _ d.1 h hG g he m ?_;intro u ex aA H' G' a' w' hex r z o A B f n;cases u with
   | normal=>cases ex<;>simp only[e_]at hex;refine am q aA H' G' w' a' K Q d.2 r z o A B ?_;intro u ex O H2 R a2 w2 hex S T U D W X Y;exact hQ u ex O H2 R a2 w2 hex S T U D W (f.trans X) ((n.mono λt ht=>by simp[ei,ht]).trans (Y.mono λt ht=>by simp[ei,ht]))
   | exit i=>cases ex<;>simp only[e_]at hex;exact hQ (.exit i) (.exit _) aA H' G' a' w' hex r z o A B f (n.mono λt ht=>by simp[ei,ht])
   | ret=>cases ex<;>simp only[e_]at hex;exact hQ .ret .ret aA H' G' a' w' trivial r z o A B f (n.mono λt ht=>by simp[ei,ht])
  |_=>simp[b_]at d
 | join vs ks x y ak am=>
  intro c env H G w a K Q d h hG g he m hQ;cases c with
  | seq p q=>
   simp only[b_,X1]at d;obtain⟨⟨an,ao⟩,aj⟩:=d;refine wp_seq ?_;refine ak p env H G w a _ _ an h hG g he m ?_;intro u ex aA H' G' a' w' hex r z o A B f n;cases u with
   | normal=>cases ex<;>simp only[e_]at hex;have ay:=tB (he.mono f.toGLe) aj n.1 n.2 (ep aA vs) (tA A vs) (tC _ _);refine am q _ H' G' w' a' K Q ao r z o ay B ?_;intro u ex O H2 R a2 w2 hex S T U D W X Y;exact hQ u ex O H2 R a2 w2 hex S T U D W (f.trans X) ((n.mono λt ht=>by simp[ei,ht]).trans (Y.mono λt ht=>by simp[ei,ht]))
   | exit i=>cases ex<;>simp only[e_]at hex;exact hQ (.exit i) (.exit _) aA H' G' a' w' hex r z o A B f (n.mono λt ht=>by simp[ei,ht])
   | ret=>cases ex<;>simp only[e_]at hex;exact hQ .ret .ret aA H' G' a' w' trivial r z o A B f (n.mono λt ht=>by simp[ei,ht])
  |_=>simp[b_]at d
 | cond x p q aB aC=>
  intro c env H G w a K Q d h hG g he m hQ;cases c with
  | cond c' aD aE=>
   simp only[b_,X1]at d;obtain⟨⟨an,ao⟩,aF⟩:=d;obtain⟨t,ht,h⟩:=x8 h;have ar:=b9 hG.1 he an;rw[ht]at ar;refine wp_cond (t:=t) ar.iI ?_;cases t with
   | true=>rw[aa rfl]at h ⊢;exact aB aD env H G w a K Q ao h hG g he m λu ex aA H' G' a' w' h1 L M N ad ae ag ah=>hQ u ex aA H' G' a' w' h1 L M N ad ae ag (ah.mono λt ht=>by simp[ei,ht])
   | false=>rw[lV]at h ⊢;exact aC aE env H G w a K Q aF h hG g he m λu ex aA H' G' a' w' h1 L M N ad ae ag ah=>hQ u ex aA H' G' a' w' h1 L M N ad ae ag (ah.mono λt ht=>by simp[ei,ht])
  |_=>simp[b_]at d
 | block id x ai=>
  intro c env H G w a K Q d h hG g he m hQ;cases c with
  | block aS p=>
   simp only[b_,X1,bG]at d;obtain⟨rfl,hc⟩:=d;refine wp_block ?_;refine ai p env H G w a _ _ hc h hG g he m ?_;intro u ex aA H' G' a' w' hex r z o A B f n;cases u with
   | normal=>cases ex<;>simp only[e_]at hex;exact hQ .normal .normal aA H' G' a' w' trivial r z o A B f n
   | exit i=>
    cases ex with
    | exit j=>
     simp only[e_]at hex;subst hex;dsimp only at r;simp only[Exit.inBlock];split
     · rename_i ap;rw[aa ap]at r;exact hQ .normal .normal aA H' G' a' w' trivial r z o A B f n
     · rename_i ap;rw[ab ap]at r;exact hQ (.exit i) (.exit i) aA H' G' a' w' rfl r z o A B f n
    |_=>simp only[e_]at hex
   | ret=>cases ex<;>simp only[e_]at hex;exact hQ .ret .ret aA H' G' a' w' trivial r z o A B f n
  |_=>simp[b_]at d
 | loop vs ks x ai=>
  intro c env H G w a K Q d h hG g he m hQ;cases c with
  | loop p=>
   simp only[b_,X1]at d;obtain⟨hc,aj⟩:=d;let aG:List I×Z→Prop:=λs=>∀G' w' a',ct C w' G' s.2→Rel C.F w' G' s.2→aK C.F w' G' (h_ (e2 env ks) vs s.1) a'.tmps→a'.defers=[]→Step w G H w' G' s.2→c_ (ei x) a a' →
    ∀(b:Frame)(k:List Item)(cs:List Frame),∃e a2 w2,Q e a2 w2∧Arrives C.P (lone (b.at a' (.code p :: .inLoop p::k)) cs w') b k cs e a2 w2
   have aI:=h aG λs K' aJ aL=>by
    intro G' w' a' z o A B f n b k cs;have aM:p.wp C.P (λex a2 w2=>match ex with
        | .normal=>∀(b:Frame)(k:List Item)(cs:List Frame),∃e a3 w3,Q e a3 w3∧Arrives C.P (lone (b.at a2 (.code p :: .inLoop p::k)) cs w2) b k cs e a3 w3
        |e=>Q e a2 w2) a' w':=by
      refine ai p _ _ G' w' a' _ _ hc aJ z o A B ?_;intro u ex O H2 R a2 w2 hex S T U D W X Y;cases u with
      | normal=>cases ex<;>simp only[e_]at hex;have aq:=n.trans Y;have au:=f.trans X;exact aL _ S R w2 a2 T U (tB (he.mono au.toGLe) aj aq.1 aq.2 (ep O vs) (tA D vs) (tC _ _)) W au aq
      | exit i=>
       cases ex with
       |exit j=>exact hQ (.exit i) (.exit j) O H2 R a2 w2 hex S T U D W (f.trans X) (n.trans Y)
       |_=>simp only[e_]at hex
      | ret=>
       cases ex with
       |ret=>exact hQ .ret .ret O H2 R a2 w2 hex S T U D W (f.trans X) (n.trans Y)
       |_=>simp only[e_]at hex
    obtain⟨e,a1,w1,E,J⟩:=aM b (.inLoop p::k) cs;cases e with
    | normal=>obtain⟨aN,a2,w2,aO,aP⟩:=E b k cs;exact⟨aN,a2,w2,aO,.of_steps (Steps.trans J (.one step_inLoop)) aP⟩
    |exit id=>exact⟨_,a1,w1,E,.pass (x:= .inLoop p) rfl (λ_ _=> .inl (by simp)) J⟩
    |goto l=>exact⟨_,a1,w1,E,.pass (x:= .inLoop p) rfl (λ_ _=> .inl (by simp)) J⟩
    |ret=>exact⟨_,a1,w1,E,.pass (x:= .inLoop p) rfl (λ_ _=> .inl (by simp)) J⟩
    |panic aT=>exact⟨_,a1,w1,E,.pass (x:= .inLoop p) rfl (λ_ _=> .inl (by simp)) J⟩
    |outgrown=>exact⟨_,a1,w1,E,.pass (x:= .inLoop p) rfl (λ_ _=> .inl (by simp)) J⟩
   intro b k cs;have aQ:=aI G w a hG g (tB he aj rfl (λ_ _=>rfl) (ep env vs) (tA he vs) (tC _ _)) m (Step.refl _ _ _) (c_.refl _ _) b k cs;obtain⟨e,a',w',E,J⟩:=aQ;exact⟨e,a',w',E,.of_steps (.one step_loop) J⟩
  |_=>simp[b_]at d
 | exit id=>intro c env H G w a K Q d h hG g he m hQ;cases c<;>simp[b_]at d;subst d;exact wp_exit (hQ (.exit _) (.exit _) env H G a w rfl h hG g he m (Step.refl _ _ _) (c_.refl _ _))
 | ret=>intro c env H G w a K Q d h hG g he m hQ;cases c<;>simp[b_]at d;exact wp_ret (hQ .ret .ret env H G a w trivial h hG g he m (Step.refl _ _ _) (c_.refl _ _))
 | freeze t x ai=>
  intro c env H G w a K Q d h hG g he m hQ;have aR:b_ C c x=true:=by cases c<;>simpa[b_]using d
  obtain⟨v,H',hv,h⟩:=h;obtain⟨G',o,f,av⟩:=MU g hv (k6 he);have D:aK C.F w G' (env.set t v) a.tmps:=by
   refine⟨by simp[he.1],λj c V hc aw=>?_⟩;by_cases ax:t=j
   · subst ax;rw[Ym]at hc;simp only[a_]at hc;split at hc
     · cases hc;rw[Array.getD_eq_getD_getElem?,aw]at av;exact av
     ·cases hc
   · rw[YR ax]at hc;exact(he.2 j c V hc aw).mono f.toGLe
  exact ai c _ H' G' w a K Q aR h (hG.step f) o D m λu ex aA H' G' a' w' h1 L M N ad ae ag ah=>hQ u ex aA H' G' a' w' h1 L M N ad ae (f.trans ag) (ah.mono λt ht=>by simp[ei,ht])
def ky(P:Program):List ResultVar→List jz→Bool
 |[],[]=>true
 | .tmp t::r,.tmp t'::s=>t==t'&&ky P r s
 | .cell t ty::r,.cell t' n agg::s=>t==t'&&ib P ty n agg&&ky P r s
 |_,_=>false
def o6(C:Ctx)(f:FuncId)(a:aY):Bool:=
 match C.P.funcs[f]? with
 |some fn=>fn.ntmps==a.ntmps&&ky C.P fn.results.toList a.results&&(match fn.body with|some c=>b_ C c a.body|none=>false)
 |none=>false
def tG(b:Array Value):ResultVar→Sem Value
 | .tmp t=>pure (b.getD t undef)
 | .cell a t=>do loadVar t (←asAddr (b.getD a undef))
theorem MY(a:Func)(b:Array Value):results a b=(do
    let vs ←a.results.mapM (tG b)
    pure (if h:vs.size=1 then vs[0]else .tuple vs)):=by
  unfold results;congr 1
theorem MZ(u:Rel C.F w G H)(q:aK C.F w G env a.tmps):∀(rs:List ResultVar)(b:List jz)(K:List I→Prop),ky C.P rs b=true→kV env H b K →
  ∃vs Vs,K vs∧aK C.F w G vs (List.toArray Vs)∧(rs.mapM (tG a.tmps)).run C.P w = .ok Vs w:=by
 intro rs;induction rs with
 | nil=>intro b K hc h;cases b<;>simp[ky]at hc;exact⟨[],[],h,aK.nil,rfl⟩
 | cons r rs s=>
  intro b K hc h;have cons:∀{v:I}{V:Value}{vs:List I}{Vs:List Value},VR C.F w G v V→aK C.F w G vs Vs.toArray→aK C.F w G (v::vs) (V::Vs).toArray:=by
   intro v V vs Vs hv e;refine aK.nq (by have:=e.1;simp at this ⊢;exact this) λj c U g i=>?_;cases j with
   |zero=>simp at g i;subst g;subst i;exact hv
   |succ j=>exact e.2 j c U (by simpa using g) (by simpa using i)
  cases r with
  | tmp t=>
   cases b with
   |nil=>simp[ky]at hc
   | cons k b=>
    cases k with
    | tmp t'=>simp only[ky,X1,bG]at hc;obtain⟨rfl,hc⟩:=hc;obtain⟨vs,Vs,l,e,m⟩:=s b _ hc h;refine⟨_,_::Vs,l,cons (k6 q) e,?_⟩;rw[aaC];simp only[tG,ZG,ZO,ZH,m]
    |cell _ _ _=>simp[ky]at hc
  | cell t ty=>
   cases b with
   |nil=>simp[ky]at hc
   | cons k b=>
    cases k with
    |tmp _=>simp[ky]at hc
    | cell t' n agg=>
     simp only[ky,X1,bG]at hc;obtain⟨⟨rfl,x⟩,hc⟩:=hc;obtain⟨v,hv,h⟩:=h;obtain⟨vs,Vs,l,e,m⟩:=s b _ hc h;have d:=k6 (t:=t) q;obtain⟨V,f,y⟩:=yb (P:=C.P) x u hv d;refine⟨_,V::Vs,l,cons y e,?_⟩;have z:(do loadVar ty (←asAddr (a.tmps.getD t undef)):Sem Value).run C.P w = .ok V w:=by
      unfold O at hv;split at hv
      · rename_i id o p;rw[p]at d;generalize a.tmps.getD t undef=X at d f;cases d;simpa[YP,Yi,asAddr]using f
      · rename_i cs p;rw[p]at d;generalize a.tmps.getD t undef=X at d f;cases d;simpa[YP,Yi,asAddr]using f
      ·cases hv
     rw[aaC];have A:(tG a.tmps (.cell t ty)).run C.P w = .ok V w:=z;simp only[ZG,A,ZH,m,ZO]
theorem Dt(hF:fM C){f:FuncId}{a:aY}(d:o6 C f a=true){args:List I}{Q:ad}(h:oH (af C) a args H Q)(hG:ct C w G H)(s:Rel C.F w G H)(p:aK C.F w G args Vs) :
  Calls C.P f Vs w λe w'=>∃V v H' G',e = .returned V∧Q v H'∧VR C.F w' G' v V∧Rel C.F w' G' H'∧Step w G H w' G' H':=by
 unfold o6 at d;split at d
 · rename_i fn t;simp only[X1,bG]at d;obtain⟨⟨hn,u⟩,k⟩:=d;split at k
   · rename_i c hb;refine calls_of_wp t hb ?_;have he:aK C.F w G (args++XS (a.ntmps-args.length) .bot) (Vs++aax (fn.ntmps-Vs.size) undef):=by
      refine p.app ⟨by simp[p.1,hn],λj c V hc J=>?_⟩;rw[aaD]at hc;split at hc
      ·cases hc;exact .bot _
      ·cases hc
     refine tD hF a.body c _ H G w ⟨_,[]⟩ _ _ k h hG s he rfl ?_;intro x ex aA H' G' a' w' hex l K q y z A L;have fin:kV aA H' a.results (λvs=>Q (mC vs) H')→a'.defers=[]∧∃v,(results fn a'.tmps).run C.P w' = .ok v w'∧∃V r m n,(Ending.returned v) = .returned V∧Q r m∧VR C.F w' n r V∧Rel C.F w' n m∧Step w G H w' n m:=by
      intro B;obtain⟨vs,b,hQ,g,D⟩:=MZ q y fn.results.toList a.results _ u B;refine⟨z,if h:b.toArray.size=1 then b.toArray[0]else .tuple b.toArray,?_,_,_,_,_,rfl,hQ,?_,q,A⟩
      · rw[MY];have he:fn.results=fn.results.toList.toArray:=by simp
        rw[he,List.mapM_toArray];simp only[ZG,Sem.run_map,D,ZH,ZO]
      · split
        · rename_i h1;have hl:b.length=1:=by simpa using h1
          have o:vs.length=1:=by have:=g.1;simp at this;omega
          match vs,b,o,hl with
          |[v],[V],_,_=>simpa[mC]using g.2 0 v V rfl rfl
        · rename_i h1;have hl:b.length≠1:=by simpa using h1
          have o:vs.length≠1:=by have:=g.1;simp at this;omega
          have E:mC vs = .aq vs:=by
           match vs,o with
           |[],_=>rfl
           |_::_::_,_=>rfl
          rw[E];exact g.aq
     cases x with
     |normal=>cases ex<;>simp only[e_]at hex;exact fin l
     |exit i=>exact l.elim
     |ret=>cases ex<;>simp only[e_]at hex;exact fin l
   ·cases k
 ·cases d
end
end Rb

namespace Rb
open Go
abbrev iM:=List (Nat×aY)
def iM.get(T:iM)(k:Nat):Option aY:=T.lookup k
def o7(Φ:ai)(T:iM):Prop:=∀k f,T.get k=some f→∀args H Q,oH Φ f args H Q→Φ k args H Q
def tH(C:Ctx):iM→Bool
 |[]=>true
 |(k,f)::T=>(match C.F k with|some dS=>o6 C dS f|none=>true)&&tH C T
theorem M0{T:iM}{k:Nat}{f:aY}(h:T.lookup k=some f):(k,f)∈T:=by
 induction T with
 |nil=>cases h
 | cons p T a=>
  obtain⟨k',c⟩:=p;rw[aaE]at h;split at h
  · rename_i hk;have b:k=k':=by simpa using hk
    cases h;rw[b];exact aaj
  ·exact aai _ (a h)
theorem M1{C:Ctx}:∀{T:iM},tH C T=true→∀k f,(k,f)∈T→∀dS,C.F k=some dS→o6 C dS f=true:=by
 intro T;induction T with
 |nil=>intro _ k f h;cases h
 | cons p T a=>
  obtain⟨k',b⟩:=p;intro h k f hm dS hf;simp only[tH,X1]at h;rcases aah.1 hm with he|hm
  · cases he;have:=h.1;rw[hf]at this;exact this
  ·exact a h.2 k f hm dS hf
theorem M2{C:Ctx}(hF:fM C){T:iM}(h:tH C T=true):o7 (af C) T:=by intro k f hk args H Q hs;refine⟨CI (yl C) hs,λdS a G w Vs hG b c=>?_⟩;exact Dt hF (M1 h k f (M0 hk) dS a) hs hG b c
mutual
def I.same:I→I→Bool
 | .bool a,.bool b=>a==b
 | .int k a,.int k' b=>k==k'&&a==b
 | .str a,.str b=>a==b
 | .eJ,.eJ=>true
 | .ptr i o,.ptr e f=>i==e&&o==f
 | .ae cs,.ae cs'=>I.fW cs cs'
 | .ak tk len cs,.ak g h cs'=>tk==g&&len==h&&I.fW cs cs'
 | .row a b c d,.row a' j c' l=>a==a'&&b==j&&c==c'&&d==l
 | .map i,.map e=>i==e
 | .fJ,.fJ=>true
 | .fn k cs,.fn k' cs'=>k==k'&&I.fW cs cs'
 | .gu,.gu=>true
 | .iface t v,.iface t' m=>t==t'&&I.same v m
 | .gv,.gv=>true
 | .agg cs,.agg cs'=>I.fW cs cs'
 | .aq cs,.aq cs'=>I.fW cs cs'
 | .bot,.bot=>true
 |_,_=>false
def I.fW:List I→List I→Bool
 |[],[]=>true
 |c::r,d::t=>I.same c d&&I.fW r t
 |_,_=>false
end
mutual
theorem I.tI:(x y:I)→I.same x y=true→x=y
 | .bool a,.bool b,h=>by simp[I.same]at h;rw[h]
 | .int k a,.int k' b,h=>by simp[I.same]at h;rw[h.1,h.2]
 | .str a,.str b,h=>by simp[I.same]at h;rw[h]
 | .eJ,.eJ,h=>rfl
 | .ptr i o,.ptr f j,h=>by simp[I.same]at h;rw[h.1,h.2]
 | .ae cs,.ae cs',h=>by simp only[I.same]at h;rw[I.mJ cs cs' h]
 | .ak tk len cs,.ak l m cs',h=>by simp only[I.same,X1,bG]at h;rw[h.1.1,h.1.2,I.mJ cs cs' h.2]
 | .row a b c d,.row a' n c' p,h=>by simp[I.same]at h;rw[h.1.1.1,h.1.1.2,h.1.2,h.2]
 | .map i,.map f,h=>by simp[I.same]at h;rw[h]
 | .fJ,.fJ,h=>rfl
 | .fn k cs,.fn k' cs',h=>by simp only[I.same,X1,bG]at h;rw[h.1,I.mJ cs cs' h.2]
 | .gu,.gu,h=>rfl
 | .iface t v,.iface t' g,h=>by simp only[I.same,X1,bG]at h;rw[h.1,I.tI v g h.2]
 | .gv,.gv,h=>rfl
 | .agg cs,.agg cs',h=>by simp only[I.same]at h;rw[I.mJ cs cs' h]
 | .aq cs,.aq cs',h=>by simp only[I.same]at h;rw[I.mJ cs cs' h]
 | .bot,.bot,h=>rfl
theorem I.mJ:(xs e:List I)→I.fW xs e=true→xs=e
 |[],[],h=>rfl
 | c::r,d::t,h=>by simp only[I.fW,X1]at h;rw[I.tI c d h.1,I.mJ r t h.2]
end
end Rb

namespace Rb
open Go Go.RowKit
variable{w:World}{fz:Nat→Nat→Prop}
def Z.mt:Z:={n:=0,o:=λ_=> .gone}
def aH.mt(fz:Nat→Nat→Prop):aH:={n:=0,loc:=λ_=>0,cap:=λ_=>0,fz:=fz}
theorem Rel.mt{F:cz}(h:∀b o,fz b o→∃V,w.cell? ⟨b,o,none⟩=some V):Rel F w (aH.mt fz) Z.mt:=⟨rfl,λ_ _=>rfl,λ_=>trivial,λ_ _ _ h _=>(by cases h),h⟩
theorem Step.below{w w':World}{G':aH}{H':Z}(h:Step w (aH.mt fz) Z.mt w' G' H'):Below w.heap.size w w':=⟨h.os,h.tape,h.output,h.size,λk hk=>h.c9 k hk λi hl=>by cases hl⟩
section
variable{H:Type}{enc:TypeId×Value→H}{P:Program}
def tJ(P:Program)(ts:List TypeId):Bool:=ts.all λt=>P.readableRec t&&decide (t<P.types.size)
theorem Du(hl:laidOutB P=true){W W':World}(hb:Below W.heap.size W W') :
  ∀{ts:List TypeId}{vs:List Value}{ds:List (DataW H)}{ps:List MemPlace},tJ P ts=true→aaF enc P W 0 (λ_=>true) true ts vs ds ps→aaF enc P W' 0 (λb=>decide (b<W.heap.size)) true ts vs ds ps
 |[],[],[],_,_,h=>h
 | t::ts,v::vs,d::ds,ps,ht,h=>by have a:=h.lt;obtain⟨p,q,h1,c,rfl⟩:=h;simp only[tJ,aaG,X1,dU]at ht;exact⟨p,q,Below.trod hl ht.1.1 ht.1.2 h1 hb (λx e=>a x (by simp[e])),Du hl hb (by simpa[tJ]using ht.2) c,rfl⟩
 |[],[],_::_,_,_,h=>h.elim
 |[],_::_,_,_,_,h=>by cases ‹List (DataW H)› <;> exact h.elim
 |_::_,[],_,_,_,h=>by cases ‹List (DataW H)› <;> exact h.elim
 |_::_,_::_,[],_,_,h=>h.elim
theorem M3{f:Func}{s:ChangeSpec}{c:Bool}{W W':World}{args:Array Value}{ds a:List (DataW H)}{d:List MemPlace}{bt:TypeId}
  (hW:DataW.Whole enc P f.params.toList s.vars c W args.toList ds a d) (hl:laidOutB P=true) (ht:tJ P f.params.toList=true) (hv:varsRowed P s.vars=true)
  (e:f.resultTypes = #[bt]) (g:P.underlying bt=some .bool) (b:s.fn H (ds++a)={results:=[.lit (.bool true)],args:=ds,vars:=a}) (hb:Below W.heap.size W W') :
  s.post enc P f c true false false W args (.bool true) W':=by
 have i:=hW;obtain⟨p,q,hA,j,rfl,hz,hn⟩:=hW;refine⟨ds,a,p++q,[],p,q,i,?_,?_,?_,hb.frame _,λh=>by cases h⟩
 · rw[b,e];exact⟨[],[],shut_bool g _,rfl,rfl⟩
 · rw[b];exact Du hl hb ht hA
 · rw[b];exact hb.trodVars hl hv j
end
end Rb

namespace Rb
open Go
theorem af.run{C:Ctx}{key:Nat}{f:FuncId}{args:List I}{H:Z}{Q:ad}(h:af C key args H Q)(hf:C.F key=some f){G:aH}{w:World}{Vs:Array Value}(hG:ct C w G H)(a:Rel C.F w G H)(b:aK C.F w G args Vs) :
  Calls C.P f Vs w λe w'=>∃V v H' G',e = .returned V∧Q v H'∧VR C.F w' G' v V∧Rel C.F w' G' H'∧Step w G H w' G' H':=h.2 f hf G w Vs hG a b
end Rb

namespace Rb
open Go
theorem o7.app{Φ:ai}{T U:iM}(hT:o7 Φ T)(a:o7 Φ U):o7 Φ (T++U):=by
 intro k f h args H Q hs;have key:∀(T:iM),(T++U).lookup k=some f→T.lookup k=some f∨U.lookup k=some f:=by
  intro T;induction T with
  |nil=>intro h;exact .inr h
  | cons p T b=>
   intro h;obtain⟨k',c⟩:=p;rw[ZS,aaE]at h;rw[aaE];split at h
   ·exact .inl h
   ·exact b h
 rcases key T h with h|h
 ·exact hT k f h args H Q hs
 ·exact a k f h args H Q hs
mutual
def I.flat:I→Bool
 | .bool _ | .int _ _ | .str _ | .eJ | .fJ | .gu | .gv=>true
 | .ak .nil 0 []=>true
 | .agg cs=>I.qT cs
 | .aq cs=>I.qT cs
 |_=>false
def I.qT:List I→Bool
 |[]=>true
 |c::r=>I.flat c&&I.qT r
end
theorem yw:∀{cs:List I},I.qT cs=true→∀(j:Nat)(c:I),cs[j]?=some c→c.flat=true
 |[],_,j,c,h=>by simp at h
 | d::r,hf,j,c,h=>by
  simp only[I.qT,X1]at hf;cases j with
  |zero=>simp at h;subst h;exact hf.1
  |succ j=>exact yw hf.2 j c (by simpa using h)
theorem yx{F:cz}{w w':World}{G G':aH}{c:I}{V:Value}(hf:c.flat=true)(h:VR F w G c V):VR F w' G' c V:=by
 induction h with
 |bot=>simp[I.flat]at hf
 |bool b=>exact .bool b
 |int k n=>exact .int k n
 |str s=>exact .str s
 |eJ=>exact .eJ
 |ptr=>simp[I.flat]at hf
 |ae=>simp[I.flat]at hf
 |e5=>exact .e5
 |e6=>simp[I.flat]at hf
 | ak tk len cells b o cap Vs ht=>unfold I.flat at hf;split at hf<;>simp_all;exact ht.elim
 |row=>simp[I.flat]at hf
 |map=>simp[I.flat]at hf
 |fJ=>exact .fJ
 |fn=>simp[I.flat]at hf
 |ko=>simp[I.flat]at hf
 |gu=>exact .gu
 |iface=>simp[I.flat]at hf
 |gv=>exact .gv
 |agg cs Vs hl hv a=>exact .agg cs Vs hl λj c V hc d=>a j c V hc d (yw (by simpa[I.flat]using hf) j c hc)
 |aq cs Vs hl hv a=>exact .aq cs Vs hl λj c V hc d=>a j c V hc d (yw (by simpa[I.flat]using hf) j c hc)
theorem af.frame{C:Ctx}{key:Nat}{args:List I}{Q:ad}(h:af C key args Z.mt Q)(ha:args.all I.flat=true)(aj:∀g l,C.GT g=some l→l.all I.flat=true)(H:Z)(K:ad)(r:∀v H',Q v H'→v.flat=true∧K v H):af C key args H K:=by
 refine⟨by obtain⟨v,H',u⟩:=h.1;exact⟨v,H,(r v H' u).2⟩,λf hf G w Vs hG a s=>?_⟩;have x:Rel C.F w (aH.mt G.fz) Z.mt:=Rel.mt a.ea;have y:aK C.F w (aH.mt G.fz) args Vs:=⟨s.1,λj c V hc q=>by rw[YU]at ha;exact yx (ha c (aaH hc)) (s.2 j c V hc q)⟩
 have z:jc C w (aH.mt G.fz):=by
  intro g l d;have h1:=hG.1 g l d;have t:=aj g l d;rw[YU]at t;generalize A:(Value.pointer (some ⟨g,0,none⟩))=X at h1;generalize hY:I.ae l=Y at h1;cases h1 with
  | ae cells b o Vs h hv=>cases A;cases hY;exact .ae _ _ _ Vs h λj c p=>yx (t c (aaH p)) (hv j c p)
  |bot=>cases hY
  |_=>cases hY
 · refine Z9 (h.2 f hf _ w Vs (hG.mt z λi hi=>by cases hi) x y) λe w' he=>?_;obtain⟨V,v,H',G',rfl,hQ,hv,E,m⟩:=he;obtain⟨B,D⟩:=r v H' hQ;have hb:=m.below;have d:GLe w G w' G:=⟨sl _,λ_ _=>rfl,λ_ _=>rfl,λ_ _ h=>h,λb o V hf hc=>by
     rw[YD (w:=w) (hb.block b (YE w _ hc))];exact hc⟩
   refine⟨V,v,H,G,rfl,D,yx B hv,⟨a.n,a.over,λj=>(a.obj j).aJ d (λhl=>a.gx hl) (λhl=>hb.block _ ((a.obj j).lt hl)) λ_ _ p=>p,a.eZ,λb o hf=>?_⟩,?_⟩
   · obtain⟨V,q⟩:=a.ea b o hf;exact⟨V,d.cell b o V hf q⟩
   ·exact {d with size:=m.size,os:=m.os,tape:=m.tape,output:=m.output,dr:=m.dr,c9:=λk hk _=>hb.block k hk,owned:=λi hi _=>⟨i,hi,rfl⟩,ez:=λ_ _ h=> .inl h}
def Dv:List I:=(YM 256).map λi=> .int .u8 (if i=9∨i=10∨i=11∨i=12∨i=13∨i=32 then 1 else 0)
def qU:List Int:=[0,1,56,2,57,49,28,3,61,58,42,50,38,29,17,4,62,47,59,36,45,43,51,22,53,39,33,30,24,18,12,5,63,55,48,27,60,41,37,16,46,35,44,21,52,32,23,11,54,26,40,15,34,20,31,10,25,14,19,9,13,8,7,6]
def Dw:List I:=qU.map (I.int .u8)
end Rb

namespace Rb
open Go
inductive TT where
 |leaf
 |node (x:bM) (l r:TT)
def TT.get:TT→Nat→bM
 | .leaf,_=> .gone
 | .node x l r,i=>bif aaI i 0 then x else bif aaI (i%2) 1 then l.get (i/2)else r.get (i/2-1)
def TT.jh(x:bM):Nat→TT→Nat→TT
 |0,t,_=>t
 | f+1,t,i=>match t with
  | .leaf=>bif aaI i 0 then .node x .leaf .leaf else bif aaI (i%2) 1 then .node .gone (TT.jh x f .leaf (i/2)) .leaf else .node .gone .leaf (TT.jh x f .leaf (i/2-1))
  | .node a l r=>bif aaI i 0 then .node x l r else bif aaI (i%2) 1 then .node a (TT.jh x f l (i/2)) r else .node a l (TT.jh x f r (i/2-1))
theorem TT.Dx(i:Nat):TT.get .leaf i = .gone:=rfl
theorem TT.nC(x:bM)(l r:TT)(i:Nat):(TT.node x l r).get i=if i=0 then x else if i%2=1 then l.get (i/2)else r.get (i/2-1):=by
 have hb:∀a b:Nat,aaI a b=decide (a=b):=λa b=>by rw[aaf];simp
 simp only[TT.get,hb,cond_eq_ite,dU]
theorem TT.Dy(x:bM):∀(f:Nat)(t:TT)(i j:Nat),i<f→(TT.jh x f t i).get j=if j=i then x else t.get j:=by
 intro f;induction f with
 |zero=>intro t i j h;omega
 | succ f g=>
  intro t i j h;have hb:∀a b:Nat,aaI a b=decide (a=b):=λa b=>by rw[aaf];simp
  have key : ∀(a:bM)(l r:TT),(if i=0 then TT.node x l r else if i%2=1 then .node a (TT.jh x f l (i/2)) r else .node a l (TT.jh x f r (i/2-1))).get j=if j=i then x else(TT.node a l r).get j:=by
   intro a l r;by_cases hi:i=0
   · subst hi;rw[aa rfl,TT.nC,TT.nC];by_cases c:j=0
     ·simp[c]
     ·simp[c]
   · rw [ab hi];by_cases k:i%2=1
     · rw [aa k,TT.nC,TT.nC];rw[g _ _ _ (by omega)];by_cases c:j=0
       ·rw[aa c,aa c,bw]
       · rw [ab c,ab c];by_cases d:j%2=1
         · rw[aa d,aa d];by_cases e:j=i
           ·rw[aa e,aa (by rw[e])]
           ·rw[ab e,bw]
         ·rw[ab d,ab d,bw]
     · rw [ab k,TT.nC,TT.nC];rw[g _ _ _ (by omega)];by_cases c:j=0
       ·rw[aa c,aa c,bw]
       · rw [ab c,ab c];by_cases d:j%2=1
         ·rw[aa d,aa d,bw]
         · rw[ab d,ab d];by_cases e:j=i
           ·rw[aa e,aa (by rw[e])]
           ·rw[ab e,bw]
  cases t with
  | leaf=>simp only[TT.jh,hb,cond_eq_ite,dU];rw[key .gone .leaf .leaf,TT.nC,TT.Dx];simp only[TT.Dx,ite_self]
  | node a l r=>simp only[TT.jh,hb,cond_eq_ite,dU];exact key a l r
structure S where
 n:Nat
 t:TT
def S.ah(T:S):Z:=⟨T.n,λi=>T.t.get i⟩
def S.set(T:S)(i:Nat)(x:bM):S:=match T with|⟨n,t⟩=>⟨n,TT.jh x (i+1) t i⟩
def S.push(T:S)(x:bM):S:=match T with|⟨n,t⟩=>⟨n+1,TT.jh x (n+1) t n⟩
def S.mt:S:=⟨0,.leaf⟩
@[simp] theorem S.Xq (T:S):T.ah.n=T.n:=rfl
@[simp] theorem S.Xr (T:S) (i:Nat) (x:bM):(T.set i x).ah=T.ah.set i x:=by simp only[S.ah,S.set,Z.set];congr 1;funext j;exact TT.Dy x _ _ _ _ (aaJ _)
@[simp] theorem S.M4 (T:S) (x:bM):(T.push x).ah=T.ah.push x:=by simp only[S.ah,S.push,Z.push];congr 1;funext j;exact TT.Dy x _ _ _ _ (aaJ _)
@[simp] theorem S.M5:S.mt.ah=Z.mt:=by simp only[S.ah,S.mt,Z.mt];congr 1
abbrev fZ:=I→S→Bool
abbrev dE:=Nat→List I→S→fZ→Bool
def dL{α:Type}(x:Option α)(K:α→Bool):Bool:=
 match x with
 |some a=>K a
 |none=>false
def hL(x:Option (I×S))(K:fZ):Bool:=
 match x with
 |some (v,T)=>K v T
 |none=>false
def o8(v:I)(a:Bool)(A B:Bool):Bool:=
 match v with
 | .bool b=>bif aaK b a then B else A
 |_=>false
def qV(T:S)(n:Nat)(x v:I):Option S:=
 match x with
 | .ptr id o=>
  match T.t.get id with
  | .row cs=>if v.known∧v.cells.length=n∧v.cells.all I.scalar∧o+n≤cs.length then some (T.set id (.row (setCells cs o v.cells)))else none
  |_=>none
 |_=>none
def o9(T:S)(mu:Bool)(cells:List I):I×S:=if mu then(.ptr T.n 0,T.push (.row cells))else(.ae cells,T)
def qW(T:S)(mu:Bool)(n:Nat)(v:I):Option (I×S):=if v.known∧v.cells.length=n then some (o9 T mu v.cells)else none
def qX(T:S)(mu:Bool)(sz a:Nat)(b:List I)(c:List (Nat×Nat×I)):Option (I×S):=
 (iD (XS a b).flatten c).map λcells=>if mu then(.row T.n 0 a sz,T.push (.row cells))else(.ak .full a cells,T)
def qY(T:S)(mu:Bool)(sz b:Nat)(x y:I):Option (I×S):=
 match fi T.ah sz y with
 |none=>none
 | some (m,news)=>
  if ¬news.all I.scalar then none else
  match x with
  | .ak tk len cells=>
   if m=0 then some (.ak tk len cells,T)
   else if ¬(cells.length=len*sz∧(len+m)*b≤140737488355328∧len+m≤9223372036854775807)then none
   else match tk,mu with
   | .nil,true | .full,true=>some (.row T.n 0 (len+m) sz,T.push (.row (cells++news)))
   | .nil,false | .full,false=>some (.ak (.own T.n) (len+m) (cells++news),T.push (.tok ((len+m)*sz) sz))
   | .own t,_=>match T.t.get t with
    | .tok k a=>if k=len*sz∧a=sz then some (.ak (.own T.n) (len+m) (cells++news),(T.set t .gone).push (.tok ((len+m)*sz) sz))else none
    |_=>none
   | .dead,_=>none
  | .row id o len a=>
   match T.t.get id with
   | .row cs=>
    if m=0 then some (.row id o len a,T)
    else if ¬(o=0∧a=sz∧(len+m)*b≤140737488355328∧len+m≤9223372036854775807)then none
    else if(len+m)*sz≤cs.length then some (.row id 0 (len+m) sz,T.set id (.row (setCells cs (len*sz) news)))
    else if cs.length=len*sz then some (.row T.n 0 (len+m) sz,(T.set id .gone).push (.row (cs++news)))
    else none
   |_=>none
  |_=>none
def tK(T:S)(x:I):Option (I×S):=
 match x with
 | .str s=>some (.ptr T.n 0,T.push (.fU s 0))
 |_=>none
def tM(T:S)(x:I):Option (I×S):=
 match x with
 | .ptr id 0=>
  match T.t.get id with
  | .fU s pos=>
   if pos<s.length then
    let d:=Utf8.decode ⟨s.toArray⟩ pos
    some (.aq [.bool true,.int .i64 pos,.int .i32 d.1],T.set id (.fU s (pos+d.2)))
   else some (.aq [.bool false],T)
  |_=>none
 |_=>none
def o_(T:S)(mu:Bool)(sz b:Nat)(a:List I)(d cap:I):Option (I×S):=
 match d,cap with
 | .int .i64 n,.int .i64 c=>
  if 0≤n∧n≤c∧b*c≤281474976710656∧c≤9223372036854775807∧a.length=sz then
   if mu then some (.row T.n 0 n.toNat sz,T.push (.row (XS c.toNat a).flatten))
   else if n=c then some (.ak .full n.toNat (XS n.toNat a).flatten,T)else none
  else none
 |_,_=>none
def qZ(T:S)(sz:Nat)(x y:I):Option (I×S):=
 match x,fi T.ah sz y with
 | .row id o len _,some (m,news)=>
  match T.t.get id with
  | .row cs=>
   let n:=min m len
   if news.all I.scalar∧o+n*sz≤cs.length then some (.int .i64 n,T.set id (.row (setCells cs o (news.take (n*sz)))))else none
  |_=>none
 |_,_=>none
def q0(T:S)(kk:FK)(m k v:I):Option S:=
 match m with
 | .map id=>
  match T.t.get id with
  | .map es=>if plainKey kk k∧v.known then(iE kk k es 0).map λr=>(match r with
      |some (i,_)=>T.set id (.map (es.set i (k,v)))
      |none=>T.set id (.map (es++[(k,v)])))else none
  |_=>none
 |_=>none
def tN(T:S)(kk:FK)(m k:I):Option S:=
 match m with
 | .map id=>
  match T.t.get id with
  | .map es=>if plainKey kk k then(iE kk k es 0).map λr=>(match r with
      |some (i,_)=>T.set id (.map (es.eraseIdx i))
      |none=>T)else none
  |_=>none
 |_=>none
def nD(T:S)(x:I):Option (I×S):=
 match x with
 | .row id o len sz=>
  match T.t.get id with
  | .row cs=>if o+len*sz≤cs.length then some (.ak .dead len ((cs.drop o).take (len*sz)),T.set id .gone)else none
  |_=>none
 | .ptr id o=>
  match T.t.get id with
  | .row cs=>match gP (λi=>T.t.get i) cs with
   |some (l,a)=>if a=id then none else some (.ptr id o,(T.set a .gone).set id (.row l))
   |none=>some (.ae (cs.drop o),T.set id .gone)
  |_=>none
 | .ak tk len cells=>some (.ak tk len cells,T)
 | .ae cs=>some (.ae cs,T)
 | .agg cells=>match gP (λi=>T.t.get i) cells with
  |some (l,id)=>some (.agg l,T.set id .gone)
  |none=>some (.agg cells,T)
 |_=>none
def text(T:S)(e:Ext)(xs:List I):Option (I×S):=
 match e,xs with
 | .oF t,[.iface t' v]=>if t'=t then some (v,T)else none
 | .mB neg,[.ptr i o,.ptr j p]=>
  match T.t.get i,T.t.get j with
  | .row _,.row _=>if i=j then some (.bool (if neg then !(o==p)else o==p),T)else some (.bool neg,T)
  |_,_=>none
 | .clear sz zero,[.row id o len z]=>
  if len=0 then some (.aq [],T)else
  match T.t.get id with
  | .row cs=>if zero.all I.scalar∧zero.length=sz∧o+len*sz≤cs.length then some (.aq [],T.set id (.row (setCells cs o (XS len zero).flatten)))else none
  |_=>none
 | .clear _ _,[.ak _ 0 _]=>some (.aq [],T)
 | .grow sz bytes zero,[.ak .nil 0 [],.int .i64 n]=>if 0<n∧n.toNat*bytes≤281474976710656∧n≤9223372036854775807∧zero.length=sz∧0<sz then some (.row T.n 0 n.toNat sz,T.push (.row (XS n.toNat zero).flatten))else none
 | .ku t,[]=>some (.ptr T.n 0,T.push (.h4 t false none))
 | .ku t,[.agg [.eJ,.ak .nil 0 []]]=>some (.ptr T.n 0,T.push (.h4 t false none))
 |_,_=>none
def vh(r:I×S):I×Z:=(r.1,r.2.ah)
theorem M6(T:S)(e:Ext)(xs:List I):(text T e xs).map vh=eh T.ah e xs:=by
 have a:∀i,T.ah.o i=T.t.get i:=λ_=>rfl;cases e with
 |stuck=>cases xs<;>rfl
 | oF t=>
  cases xs with
  |nil=>rfl
  | cons x r=>
   cases r with
   |cons y r=>cases x<;>rfl
   | nil=>
    cases x<;>try rfl
    simp only[text,eh];split<;>rfl
 | mB neg=>
  cases xs with
  |nil=>rfl
  | cons x r=>
   cases r with
   |nil=>cases x<;>rfl
   | cons y r=>
    cases r with
    |cons z r=>cases x<;>cases y<;>rfl
    | nil=>
     cases x<;>cases y<;>try rfl
     simp only[text,eh,a];rename_i i o j p;cases T.t.get i<;>cases T.t.get j<;>try rfl
     dsimp only;split<;>rfl
 | ku t=>
  cases xs with
  |nil=>simp[text,eh,vh]
  | cons x r=>
   by_cases b:x = .agg [.eJ,.ak .nil 0 []]∧r=[]
   · obtain⟨rfl,rfl⟩:=b;simp[text,eh,vh]
   · have h1:text T (.ku t) (x::r)=none:=by
       unfold text;split<;>first|rfl|(exfalso;simp_all;done)|simp_all
     have c:eh T.ah (.ku t) (x::r)=none:=by unfold eh;split<;>first|rfl|(exfalso;simp_all;done)|simp_all
     rw[h1,c];rfl
 | grow sz bytes zero=>
  cases xs with
  |nil=>rfl
  | cons x r=>
   cases r with
   | nil=>
    cases x<;>try rfl
    rename_i tk len cells;cases tk<;>cases len<;>cases cells<;>rfl
   | cons y r=>
    cases r with
    | cons z r=>
     cases x<;>try rfl
     rename_i tk len cells;cases tk<;>cases len<;>cases cells<;>try rfl
     cases y<;>try rfl
     rename_i k n;cases k<;>rfl
    | nil=>
     cases x<;>try rfl
     rename_i tk len cells;cases tk<;>cases len<;>cases cells<;>try rfl
     cases y<;>try rfl
     rename_i k n;cases k<;>try rfl
     simp only[text,eh];split
     ·simp[vh]
     ·rfl
 | clear sz zero=>
  cases xs with
  |nil=>rfl
  | cons x r=>
   cases r with
   | cons y r=>
    cases x<;>try rfl
    rename_i tk len cells;cases len<;>rfl
   | nil =>
    cases x<;>try rfl
    · rename_i tk len cells;cases len<;>rfl
    · rename_i id o len z;simp only[text,eh,a];split
      ·rfl
      · cases T.t.get id<;>try rfl
        dsimp only;split
        ·simp[vh]
        ·rfl
theorem M7(T:S)(n:Nat)(x v:I):(qV T n x v).map S.ah=Y T.ah n x v:=by
 unfold qV Y;cases x<;>try rfl
 dsimp only;show _=match T.t.get _ with | .row cs=>_|_=>_
 split
 ·split<;>simp
 ·rfl
theorem Dz(T:S)(mu:Bool)(cells:List I):vh (o9 T mu cells)=aL T.ah mu cells:=by unfold o9 aL vh;split<;>simp
theorem M8(T:S)(mu:Bool)(n:Nat)(v:I):(qW T mu n v).map vh=aO T.ah mu n v:=by
 unfold qW aO;split
 ·simp[Dz]
 ·rfl
theorem M9(T:S)(mu:Bool)(sz a:Nat)(b:List I)(parts:List (Nat×Nat×I)):(qX T mu sz a b parts).map vh=dk T.ah mu sz a b parts:=by unfold qX dk;rw[Option.map_map];congr 1;funext cells;simp only[Function.comp,vh];split<;>simp
theorem M_(T:S)(mu:Bool)(sz a:Nat)(x y:I):(qY T mu sz a x y).map vh=cr T.ah mu sz a x y:=by
 unfold qY cr;have b:∀i,T.ah.o i=T.t.get i:=λ_=>rfl;simp only[b];cases c:fi T.ah sz y with
 |none=>rfl
 | some p =>
  obtain⟨m,news⟩:=p;dsimp only;by_cases hs:news.all I.scalar=true
  · simp only [hs,not_true_eq_false,bR];cases x<;>try rfl
    · rename_i tk len cells;dsimp only;by_cases hm:m=0
      ·simp only[aa hm];rfl
      · simp only[ab hm];by_cases hc:¬(cells.length=len*sz∧(len+m)*a≤140737488355328∧len+m≤9223372036854775807)
        ·simp only[aa hc];rfl
        · simp only[ab hc];cases tk<;>cases mu<;>try (simp[vh];done)
          all_goals
           rename_i t;dsimp only;cases ht:T.t.get t<;>try rfl
           dsimp only;split<;>simp[vh]
    · rename_i id o len d;dsimp only;cases ht:T.t.get id<;>try rfl
      dsimp only;split
      ·rfl
      · split
        ·rfl
        · split
          ·simp[vh]
          ·split<;>simp[vh]
  ·simp only[hs,not_false_eq_true,a_];rfl
theorem Na(T:S)(x:I):(tK T x).map vh=nn T.ah x:=by unfold tK nn;cases x<;>simp[vh]
theorem Nb(T:S)(x:I):(tM T x).map vh=kR T.ah x:=by
 have a:∀i,T.ah.o i=T.t.get i:=λ_=>rfl;cases x<;>try rfl
 rename_i id off;cases off with
 |succ k=>rfl
 | zero=>
  simp only[tM,kR,a];cases ht:T.t.get id<;>try rfl
  dsimp only;split<;>simp[vh]
theorem Nc(T:S)(mu:Bool)(sz a:Nat)(b:List I)(d cap:I):(o_ T mu sz a b d cap).map vh=kr T.ah mu sz a b d cap:=by
 have go:∀n c:Int,(o_ T mu sz a b (.int .i64 n) (.int .i64 c)).map vh=kr T.ah mu sz a b (.int .i64 n) (.int .i64 c):=by
  intro n c;simp only[o_,kr];by_cases h:0≤n∧n≤c∧a*c≤281474976710656∧c≤9223372036854775807∧b.length=sz
  · simp only[aa h];by_cases hm:mu=true
    ·simp only[aa hm];simp[vh]
    · simp only[ab hm];by_cases hn:n=c
      ·simp only[aa hn];rfl
      ·simp only[ab hn];rfl
  ·simp only[ab h];rfl
 cases d<;>try rfl
 rename_i k n;cases k<;>try rfl
 cases cap<;>try rfl
 rename_i k c;cases k<;>try rfl
 exact go n c
theorem Nd(T:S)(sz:Nat)(x y:I):(qZ T sz x y).map vh=qw T.ah sz x y:=by
 have a:∀i,T.ah.o i=T.t.get i:=λ_=>rfl;unfold qZ qw;cases b:fi T.ah sz y with
 |none=>cases x<;>rfl
 | some p=>
  cases x<;>try rfl
  rename_i id o len c;simp only[a];cases ht:T.t.get id<;>try rfl
  dsimp only;split<;>simp[vh]
theorem Nf(T:S)(kk:FK)(m k v:I):(q0 T kk m k v).map S.ah=qy T.ah kk m k v:=by
 have a:∀i,T.ah.o i=T.t.get i:=λ_=>rfl;cases m<;>try rfl
 rename_i id;simp only[q0,qy,a];cases ht:T.t.get id<;>try rfl
 rename_i es;dsimp only;by_cases h:plainKey kk k∧v.known
 · simp only[aa h];cases hf:iE kk k es 0 with
   |none=>rfl
   |some r=>cases r<;>simp
 ·simp only[ab h];rfl
theorem Ng(T:S)(kk:FK)(m k:I):(tN T kk m k).map S.ah=qz T.ah kk m k:=by
 have a:∀i,T.ah.o i=T.t.get i:=λ_=>rfl;cases m<;>try rfl
 rename_i id;simp only[tN,qz,a];cases ht:T.t.get id<;>try rfl
 rename_i es;dsimp only;by_cases h:plainKey kk k
 · simp only[aa h];cases hf:iE kk k es 0 with
   |none=>rfl
   |some r=>cases r<;>simp
 ·simp only[ab h];rfl
theorem DA(T:S)(x:I):(nD T x).map vh=jT T.ah x:=by
 have b:∀i,T.ah.o i=T.t.get i:=λ_=>rfl;cases x<;>try rfl
 · rename_i id o;simp only[nD,jT,b];cases ht:T.t.get id<;>try rfl
   rename_i cs;dsimp only;show aaL vh (match gP T.ah.o cs with
     |some (l,a)=>if a=id then none else some (.ptr id o,(T.set a .gone).set id (.row l))
     |none=>some (.ae (cs.drop o),T.set id .gone))=_
   cases gP T.ah.o cs with
   |none=>simp[vh]
   | some q=>
    obtain⟨l,a⟩:=q;dsimp only;by_cases e:a=id
    ·rw[aa e,aa e];rfl
    ·rw[ab e,ab e];simp[vh]
 · rename_i id o len sz;simp only[nD,jT,b];cases ht:T.t.get id<;>try rfl
   dsimp only;split<;>simp[vh]
 · rename_i cells;simp only[nD,jT];show aaL vh (match gP T.ah.o cells with|some (l,id)=>some (.agg l,T.set id .gone)|none=>some (.agg cells,T))=_;cases gP T.ah.o cells with
   |none=>rfl
   |some q=>simp[vh]
end Rb

namespace Rb
open Go
variable{n:Nat}{env:Env}{Φ:ai}{H:Z}{ops:List bz}{o:bz}
noncomputable section
abbrev EV:=List (Nat×I)
def dM(E:EV)(t:Nat):I:=aaM (motive:=λ_=>I) .bot (λp _ a=>cond (aaI p.1 t) p.2 a) E
def eQ(n:Nat)(E:EV)(t:Nat)(v:I):EV:=cond (aaN t n) ((t,v)::E) E
def fa(n:Nat)(E:EV)(d:Option Nat)(v:I):EV:=
 match d with
 |some t=>eQ n E t v
 |none=>E
theorem Nh(a b:Nat):aaI a b=decide (a=b):=by rw[aaf];simp
theorem Ni(a b:Nat):aaN a b=decide (a<b):=by rw[aaf];simp[aaN];omega
theorem tO(t:Nat)(v:I)(E:EV)(i:Nat):dM ((t,v)::E) i=if t=i then v else dM E i:=by show cond (aaI t i) v (dM E i)=_;rw[Nh,cond_eq_ite];simp
def dm(n:Nat)(E:EV)(env:Env):Prop:=env.length=n∧∀i,dM E i=env.getD i .bot
theorem dm.set{E:EV}(h:dm n E env)(t:Nat)(v:I):dm n (eQ n E t v) (env.set t v):=by
 refine⟨by simp[h.1],λi=>?_⟩;unfold eQ;rw[Ni,cond_eq_ite];by_cases ht:t<n
 · rw[aa (by simpa using ht),tO,Zg,Ym];by_cases e:t=i
   ·rw[aa e,aa e,aa (by rw[h.1];exact ht)];rfl
   ·rw[ab e,ab e,←Zg];exact h.2 i
 · rw[ab (by simpa using ht),aaA (by rw[h.1];omega)];exact h.2 i
theorem dm.bQ{E:EV}(h:dm n E env)(d:Option Nat)(v:I):dm n (fa n E d v) (Rb.bQ env d v):=by
 cases d with
 |none=>exact h
 |some t=>exact h.set t v
def lZ:List I→Nat→EV
 |[],_=>[]
 |a::r,i=>(i,a)::lZ r (i+1)
theorem yy:∀(args:List I)(i j:Nat),dM (lZ args i) j=if j<i then .bot else args.getD (j-i) .bot
 |[],i,j=>by simp[lZ,dM]
 | a :: r,i,j=>by
  rw[lZ,tO,yy r (i+1) j];by_cases h:i=j
  ·subst h;simp
  · rw[ab h];by_cases b:j<i
    ·rw[cG,aa b]
    ·rw[bw,ab b,show j-i=(j-(i+1))+1 by omega];simp
def aW.sub(E:EV):aW→aW
 | .t n=> .k (dM E n)
 | .k v=> .k v
theorem tP{E:EV}(h:dm n E env)(x:aW):(x.sub E).ev []=x.ev env:=by
 cases x with
 |t i=>exact h.2 i
 |k v=>rfl
def dQ.sub(E:EV):dQ→dQ
 | .mv x=> .mv (x.sub E)
 | .pick c a b=> .pick (c.sub E) (a.sub E) (b.sub E)
 | .bin op x y=> .bin op (x.sub E) (y.sub E)
 | .beq neg x y=> .beq neg (x.sub E) (y.sub E)
 | .jx k neg x=> .jx k neg (x.sub E)
 | .iF neg ks x y=> .iF neg ks (x.sub E) (y.sub E)
 | .un op x=> .un op (x.sub E)
 | .conv k x=> .conv k (x.sub E)
 | .same x=> .same (x.sub E)
 | .jU x=> .jU (x.sub E)
 | .field off sz agg x=> .field off sz agg (x.sub E)
 | .idx l sz agg x i=> .idx l sz agg (x.sub E) (i.sub E)
 | .idxs x i=> .idxs (x.sub E) (i.sub E)
 | .gI off x=> .gI off (x.sub E)
 | .fV arr sz x i=> .fV arr sz (x.sub E) (i.sub E)
 | .slice sz x lo hi mx=> .slice sz (x.sub E) (lo.map (aW.sub E)) (hi.map (aW.sub E)) (mx.map (aW.sub E))
 | .jV x lo hi=> .jV (x.sub E) (lo.map (aW.sub E)) (hi.map (aW.sub E))
 | .hq t x=> .hq t (x.sub E)
 | .gQ key bE=> .gQ key (bE.map (aW.sub E))
 | .extract i x=> .extract i (x.sub E)
 | .build zero parts=> .build zero (parts.map λp=>(p.1,p.2.1,p.2.2.sub E))
 | .len str x=> .len str (x.sub E)
 | .hr n=> .hr n
 | .cap x=> .cap (x.sub E)
 | .hx mx xs=> .hx mx (xs.map (aW.sub E))
 | .load n agg x=> .load n agg (x.sub E)
 | .store n x v=> .store n (x.sub E) (v.sub E)
 | .box mu n x=> .box mu n (x.sub E)
 | .alloc mu zero=> .alloc mu zero
 | .gJ mu sz l zero parts=> .gJ mu sz l zero (parts.map λp=>(p.1,p.2.1,p.2.2.sub E))
 | .append mu sz bytes x y=> .append mu sz bytes (x.sub E) (y.sub E)
 | .make mu sz bytes zero l c=> .make mu sz bytes zero (l.sub E) (c.sub E)
 | .copy sz x y=> .copy sz (x.sub E) (y.sub E)
 | .gR=> .gR
 | .lookup kk zero ok m k=> .lookup kk zero ok (m.sub E) (k.sub E)
 | .hy kk m k v=> .hy kk (m.sub E) (k.sub E) (v.sub E)
 | .delete kk m k=> .delete kk (m.sub E) (k.sub E)
 | .hC m=> .hC (m.sub E)
 | .jW x=> .jW (x.sub E)
 | .hD x=> .hD (x.sub E)
 | .h5 x=> .h5 (x.sub E)
 | .h6 x=> .h6 (x.sub E)
 | .call key args=> .call key (args.map (aW.sub E))
 | .h7 f args=> .h7 (f.sub E) (args.map (aW.sub E))
 | .ext e xs=> .ext e (xs.map (aW.sub E))
 | .inv hE x args=> .inv hE (x.sub E) (args.map (aW.sub E))
theorem tQ{E:EV}(h:dm n E env){K:ad}(op:dQ):bX Φ [] H K (op.sub E)=bX Φ env H K op:=by
 have h1:=tP h;have hl:∀xs:List aW,eb [] (xs.map (aW.sub E))=eb env xs:=λxs=>by simp only[eb,aaO];congr 1;funext x;exact h1 x
 have hp:∀xs:List (Nat×Nat×aW),fK [] (xs.map λp=>(p.1,p.2.1,p.2.2.sub E))=fK env xs:=λxs=>by simp only[fK,aaO];congr 1;funext x;simp[h1]
 have a:∀x:Option aW,(x.map (aW.sub E)).map (aW.ev [])=x.map (aW.ev env):=λx=>by cases x<;>simp[h1]
 cases op<;>simp only[dQ.sub,bX,h1,hl,hp,a]
abbrev j1:=EV→Z→Prop
def j2(Φ:ai)(n:Nat):List bz→EV→Z→j1→Prop
 |[],E,H,K=>K E H
 | o :: r,E,H,K=>
  match o.guard with
  |none=>bX Φ [] H (λv H'=>j2 Φ n r (fa n E o.dst v) H' K) (o.op.sub E)
  | some (s,want)=>
   aQ (dM E s) want (bX Φ [] H (λv H'=>j2 Φ n r (fa n (eQ n E s (.bool want)) o.dst v) H' K) (o.op.sub (eQ n E s (.bool want))))
    (j2 Φ n r (fa n (eQ n E s (.bool !want)) o.dst (.aq [])) H K) (j2 Φ n r (fa n (eQ n E s (.aq [])) o.dst (.aq [])) H K)
theorem aQ.imp{v:I}{b:Bool}{A B C c d e:Prop}(hA:A→c)(hB:B→d)(f:C→e)(h:aQ v b A B C):aQ v b c d e:=by
 unfold aQ at *;split at h
 · split at h
   ·rename_i a;simp[a,hA h]
   ·rename_i a;simp[a,hB h]
 ·exact f h
 ·exact h.elim
theorem yz(c:je Φ):∀{l:List bz}{E:EV}{env:Env}{H:Z}{K:j1}{Q:Env→Z→Prop},dm n E env→j2 Φ n l E H K→(∀E' aA H',dm n E' aA→K E' H'→Q aA H')→h8 Φ l env H Q:=by
 intro l;induction l with
 |nil=>intro E env H K Q ha h a;exact a _ _ _ ha h
 | cons o r b=>
  intro E env H K Q ha h a;simp only[j2]at h;simp only[h8];cases d:o.guard with
  | none=>rw[d]at h;dsimp only at h ⊢;rw[tQ ha]at h;exact oY c (λv H' h=>b (ha.bQ _ _) h a) h
  | some g=>obtain⟨s,want⟩:=g;rw[d]at h;dsimp only at h ⊢;rw[ha.2 s,tQ (ha.set s _)]at h;exact aQ.imp (oY c λv H' h=>b ((ha.set _ _).bQ _ _) h a) (λh=>b ((ha.set _ _).bQ _ _) h a) (λh=>b ((ha.set _ _).bQ _ _) h a) h
def pa(Φ:ai)(n:Nat)(o:bz)(E:EV)(H:Z)(K:j1):Prop:=
 match o.guard with
 |none=>bX Φ [] H (λv H'=>K (fa n E o.dst v) H') (o.op.sub E)
 | some (s,want)=>
  aQ (dM E s) want (bX Φ [] H (λv H'=>K (fa n (eQ n E s (.bool want)) o.dst v) H') (o.op.sub (eQ n E s (.bool want))))
   (K (fa n (eQ n E s (.bool !want)) o.dst (.aq [])) H) (K (fa n (eQ n E s (.aq [])) o.dst (.aq [])) H)
theorem DB(b:je Φ){E:EV}{K:j1}{Q:Env→Z→Prop}(ha:dm n E env)(h:pa Φ n o E H K)(a:∀E' aA H',dm n E' aA→K E' H'→Q aA H'):jy Φ o env H Q:=by
 unfold pa at h;unfold jy;cases c:o.guard with
 | none=>rw[c]at h;dsimp only at h ⊢;rw[tQ ha]at h;exact oY b (λv H' h=>a _ _ _ (ha.bQ _ _) h) h
 | some g=>obtain⟨s,want⟩:=g;rw[c]at h;dsimp only at h ⊢;rw[ha.2 s,tQ (ha.set s _)]at h;exact aQ.imp (oY b λv H' h=>a _ _ _ ((ha.set _ _).bQ _ _) h) (λh=>a _ _ _ ((ha.set _ _).bQ _ _) h) (λh=>a _ _ _ ((ha.set _ _).bQ _ _) h) h
def mK(Φ:ai)(n:Nat)(ops:List bz):List Nat→EV→Z→j1→Prop
 |[],E,H,K=>K E H
 | i::r,E,H,K=>match ops[i]? with
  |some o=>pa Φ n o E H λE' H'=>mK Φ n ops r E' H' K
  |none=>False
theorem DC(b:je Φ):∀{l:List Nat}{E:EV}{env:Env}{H:Z}{K:j1}{Q:Env→Z→Prop},dm n E env→mK Φ n ops l E H K→(∀E' aA H',dm n E' aA→K E' H'→Q aA H')→kU Φ ops l env H Q:=by
 intro l;induction l with
 |nil=>intro E env H K Q ha h a;exact a _ _ _ ha h
 | cons i r c=>
  intro E env H K Q ha h a;simp only[mK]at h;simp only[kU];split at h
  · rename_i o d;rw[d];exact DB b ha h λE' aA H' e f=>c e f a
  ·exact h.elim
def pb(E:EV)(H:Z)(o:bz):Prop:=
 match o.op with
 | .load n agg x=>O H n agg ((x.sub E).ev [])=some (dM E (o.dst.getD 0))
 | .lookup kk zero ok m k=>kS H kk zero ok ((m.sub E).ev []) ((k.sub E).ev [])=some (dM E (o.dst.getD 0))
 | .hC m=>kT H ((m.sub E).ev [])=some (dM E (o.dst.getD 0))
 | .hD x=>abstr H ((x.sub E).ev [])=some (dM E (o.dst.getD 0))
 |_=>True
def q1(E:EV)(H:Z)(o:bz):Prop:=
 match o.guard with
 |none=>pb E H o
 |some (s,want)=>dM E s = .bool want→pb E H o
theorem Nj{E:EV}(ha:dm n E env)(h:q1 E H o):qF env H o:=by
 have h1:=tP ha;have fin:pb E H o→oG env H o:=by unfold pb oG;intro h;cases b:o.op<;>rw[b]at h<;>dsimp only at h ⊢ <;> (try rw[h1]at h)<;>(try rw[h1]at h)<;>(try rw[ha.2]at h)<;>exact h
 unfold q1 at h;unfold qF;cases a:o.guard with
 |none=>rw[a]at h;exact fin h
 | some g=>obtain⟨s,want⟩:=g;rw[a]at h;dsimp only at h ⊢;rw[ha.2]at h;exact λhs=>fin (h hs)
def tS(ops:List bz)(E:EV)(H:Z)(X:Prop):List Nat→Prop
 |[]=>X
 |l::r=>(match ops[l]? with|some o=>q1 E H o|none=>True)∧tS ops E H X r
theorem Nk{E:EV}(ha:dm n E env){X Y:Prop}(a:X→Y):∀{l:List Nat},tS ops E H X l→fW ops env H Y l:=by
 intro l;induction l with
 |nil=>intro h;exact a h
 | cons i r b=>
  intro h;refine⟨?_,b h.2⟩;have h1:=h.1;cases c:ops[i]? with
  |none=>trivial
  |some o=>rw[c]at h1;exact Nj ha h1
def pd(Φ:ai)(n:Nat)(ops:List bz)(a:List Nat):List (List Nat×Nat×List Nat)→EV→Z→j1→Prop
 |[],E,H,K=>mK Φ n ops a E H K
 | (c,e,st)::r,E,H,K=>mK Φ n ops c E H λb H1=>match ops[e]? with
  |some o=>pa Φ n o b H1 λd H2=>tS ops b H2 (pd Φ n ops a r d H2 K) st
  |none=>False
theorem DD(a:je Φ){c:List Nat}:∀{bh:List (List Nat×Nat×List Nat)}{E:EV}{env:Env}{H:Z}{K:j1}{Q:Env→Z→Prop},dm n E env→pd Φ n ops c bh E H K→(∀E' aA H',dm n E' aA→K E' H'→Q aA H')→jb Φ ops c bh env H Q:=by
 intro bh;induction bh with
 |nil=>intro E env H K Q ha h b;exact DC a ha h b
 | cons p r g=>
  obtain⟨j,e,st⟩:=p;intro E env H K Q ha h b;simp only[pd]at h;simp only[jb];refine DC a ha h λk e1 H1 d h1=>?_;cases f:ops[e]? with
  |none=>rw[f]at h1;exact h1.elim
  | some o=>rw[f]at h1;exact DB a d h1 λl m H2 eK i=>Nk d (λh=>g eK h b) i
def hM(E:EV)(vs:List Nat):List I:=vs.map λt=>dM E t
def j3(n:Nat)(E:EV):List Nat→EV
 |[]=>E
 |t::r=>j3 n (eQ n E t .bot) r
def iN(n:Nat)(E:EV):List Nat→List I→EV
 |t::r,s=>iN n (eQ n E t (s.headD .bot)) r s.tail
 |[],_=>E
theorem dm.ep{E:EV}(h:dm n E env)(vs:List Nat):hM E vs=Rb.ep env vs:=by simp only[hM,Rb.ep];congr 1;funext t;exact h.2 t
theorem dm.e2{n:Nat}:∀(ks:List Nat){E:EV}{env:Env},dm n E env→dm n (j3 n E ks) (Rb.e2 env ks)
 |[],_,_,h=>h
 |t::r,_,_,h=>dm.e2 r (h.set t _)
theorem dm.h_{n:Nat}:∀(vs:List Nat)(a:List I){E:EV}{env:Env},dm n E env→dm n (iN n E vs a) (Rb.h_ env vs a)
 |[],_,_,_,h=>h
 |t::r,a,_,_,h=>dm.h_ r a.tail (h.set t _)
def e3(Φ:ai)(n:Nat):c6→EV→Z→(fj→EV→Z→Prop)→Prop
 | .skip,E,H,Q=>Q .normal E H
 | .region ops,E,H,Q=>j2 Φ n ops E H (Q .normal)
 | .draw ops _ bh last,E,H,Q=>pd Φ n ops last bh E H (Q .normal)
 | .seq a b,E,H,Q=>e3 Φ n a E H λe E' H'=>match e with
  | .normal=>e3 Φ n b E' H' Q
  |e=>Q e E' H'
 | .join vs ks a b,E,H,Q=>e3 Φ n a E H λe E' H'=>match e with
  | .normal=>N (λst c=>e3 Φ n b (iN n (j3 n E ks) vs st) c Q) (hM E' vs) H'
  |e=>Q e E' H'
 | .cond x a b,E,H,Q=>Gd ((x.sub E).ev []) true (e3 Φ n a E H Q) (e3 Φ n b E H Q)
 | .block id a,E,H,Q=>e3 Φ n a E H λe E' H'=>match e with
  | .exit d=>if d=id then Q .normal E' H' else Q (.exit d) E' H'
  |e=>Q e E' H'
 | .loop vs ks a,E,H,Q=>
  aC (λ(s:List I×Z) (K:List I×Z→Prop)=>
    e3 Φ n a (iN n (j3 n E ks) vs s.1) s.2 λe E' H'=>match e with
     | .normal=>K (hM E' vs,H')
     |e=>Q e E' H') (hM E vs,H)
 | .exit id,E,H,Q=>Q (.exit id) E H
 | .ret,E,H,Q=>Q .ret E H
 | .freeze t a,E,H,Q=>ar (jT H (dM E t)) λv H'=>e3 Φ n a (eQ n E t v) H' Q
 | .gw vs ks ops b,E,H,Q=>j2 Φ n ops E H λE' H'=>N (λst c=>e3 Φ n b (iN n (j3 n E ks) vs st) c Q) (hM E' vs) H'
theorem aC.imp{a:Type}{F b:a→(a→Prop)→Prop}(hF:∀s K,F s K→b s K){s:a}(h:aC F s):aC b s:=λc d=>h c λs K hs e=>d s K (hF s K hs) e
theorem Nl(m:je Φ):∀{c:c6}{E:EV}{env:Env}{H:Z}{K:fj→EV→Z→Prop}{Q:fj→Env→Z→Prop},dm n E env→e3 Φ n c E H K→(∀x E' aA H',dm n E' aA→K x E' H'→Q x aA H')→cp Φ c env H Q:=by
 intro c;induction c with
 |skip=>intro E env H K Q ha h d;exact d _ _ _ _ ha h
 |region ops=>intro E env H K Q ha h d;exact yz m ha h λ_ _ _ ha h=>d _ _ _ _ ha h
 |draw ops pr bh last=>intro E env H K Q ha h d;exact DD m ha h λ_ _ _ ha h=>d _ _ _ _ ha h
 | seq a b j k=>
  intro E env H K Q ha h d;simp only[e3]at h;simp only[cp];refine j ha h λx E' l H' f e=>?_;cases x with
  |normal=>exact k f e d
  |exit i=>exact d _ _ _ _ f e
  |ret=>exact d _ _ _ _ f e
 | join vs ks a b j k=>
  intro E env H K Q ha h d;simp only[e3]at h;simp only[cp];refine j ha h λx E' l H' f e=>?_;cases x with
  | normal=>dsimp only at e ⊢;rw[f.ep vs]at e;exact k ((ha.e2 ks).h_ vs _) e d
  |exit i=>exact d _ _ _ _ f e
  |ret=>exact d _ _ _ _ f e
 | cond x a b j k=>intro E env H K Q ha h d;simp only[e3,tP ha]at h;exact Gd.mono (λh=>j ha h d) (λh=>k ha h d) h
 | block id a g=>
  intro E env H K Q ha h d;simp only[e3]at h;simp only[cp];refine g ha h λx E' l H' f e=>?_;cases x with
  |normal=>exact d _ _ _ _ f e
  | exit i=>
   dsimp only at e ⊢;split
   ·rename_i hi;rw[aa hi]at e;exact d _ _ _ _ f e
   ·rename_i hi;rw[ab hi]at e;exact d _ _ _ _ f e
  |ret=>exact d _ _ _ _ f e
 | loop vs ks a g=>
  intro E env H K Q ha h d;simp only[e3]at h;simp only[cp];rw[ha.ep vs]at h;refine aC.imp (λs K' hs=>g ((ha.e2 ks).h_ vs s.1) hs λx E' l H' f e=>?_) h;cases x with
  |normal=>dsimp only at e ⊢;rw[←f.ep vs];exact e
  |exit i=>exact d _ _ _ _ f e
  |ret=>exact d _ _ _ _ f e
 |exit id=>intro E env H K Q ha h d;exact d _ _ _ _ ha h
 |ret=>intro E env H K Q ha h d;exact d _ _ _ _ ha h
 | freeze t a g=>intro E env H K Q ha h d;simp only[e3]at h;simp only[cp];rw[ha.2 t]at h;exact ar.mono (λv H' e=>g (ha.set t v) e d) h
 | gw vs ks ops b g=>intro E env H K Q ha h d;simp only[e3]at h;simp only[cp];refine yz m ha h λE' l H' f e=>?_;rw[f.ep vs]at e;exact g ((ha.e2 ks).h_ vs _) e d
def nE(E:EV)(H:Z):List jz→(List I→Prop)→Prop
 |[],K=>K []
 | .tmp t::r,K=>nE E H r λvs=>K (dM E t::vs)
 | .cell t n agg::r,K=>Do (O H n agg (dM E t)) λv=>nE E H r λvs=>K (v::vs)
theorem yA{E:EV}(ha:dm n E env):∀{rs:List jz}{K:List I→Prop},nE E H rs K=kV env H rs K:=by
 intro rs;induction rs with
 |nil=>intro K;rfl
 | cons r rs a=>
  intro K;cases r with
  |tmp t=>simp only[nE,kV,a,ha.2]
  |cell t n agg=>simp only[nE,kV,a,ha.2]
def yB(Φ:ai)(f:aY)(args:List I)(H:Z)(Q:ad):Prop:=
 e3 Φ f.ntmps f.body (lZ args 0) H λe E H'=>match e with
  | .exit _=>False
  |_=>nE E H' f.results λvs=>Q (mC vs) H'
def yC(Φ:ai)(f:aY)(args:List I)(H:Z)(Q:ad):Prop:=args.length≤f.ntmps∧yB Φ f args H Q
theorem Nn(c:je Φ){f:aY}{args:List I}{Q:ad}(h:yC Φ f args H Q):oH Φ f args H Q:=by
 have ha:dm f.ntmps (lZ args 0) (args++XS (f.ntmps-args.length) .bot):=by
  refine⟨by simp;have:=h.1;omega,λi=>?_⟩;rw[yy];simp only[aaP,bR,aaQ];simp only[Zg];by_cases hi:i<args.length
  ·rw[Zy hi]
  · rw[Zz (by omega),aab (by omega),aaD];split<;>rfl
 refine Nl c ha h.2 λx E' d H' b a=>?_;cases x with
 |normal=>dsimp only at a ⊢;rw[yA b]at a;exact a
 |exit i=>exact a
 |ret=>dsimp only at a ⊢;rw[yA b]at a;exact a
end
end Rb

namespace Rb
open Go
variable{Φ:ai}{B:dE}{T:S}{n fuel:Nat}{E:EV}{K:fZ}{Q:ad}{P:Prop}{o:bz}{ops:List bz}{v:I}{want:Bool}
def yD(Φ:dE)(f:I)(args:List I)(T:S)(K:fZ):Bool:=
 match f with
 | .fn key bE=>Φ (iG key) (iH key args bE) T K
 |_=>false
def yE(Φ:dE)(hE:List (TypeId×Nat×Option (Nat×Bool)))(x:I)(args:List I)(T:S)(K:fZ):Bool:=
 match x with
 | .iface t v=>(match qB hE t with
   | some r=>(match qC T.ah r.2 v with
     |some u=>Φ r.1 (u::args) T K
     |none=>false)
   |none=>false)
 |_=>false
def l5(Φ:dE)(d:Env)(T:S)(K:fZ):dQ→Bool
 | .mv x=>K (x.ev d) T
 | .pick c a b=>o8 (c.ev d) true (K (a.ev d) T) (K (b.ev d) T)
 | .bin op x y=>dL (M op (x.ev d) (y.ev d)) λv=>K v T
 | .beq neg x y=>dL (kQ neg (x.ev d) (y.ev d)) λv=>K v T
 | .jx k neg x=>dL (mA k neg (x.ev d)) λv=>K v T
 | .iF neg ks x y=>dL (ja neg ks (x.ev d) (y.ev d)) λv=>K v T
 | .un op x=>dL (cY op (x.ev d)) λv=>K v T
 | .conv k x=>dL (e7 k (x.ev d)) λv=>K v T
 | .same x=>dL (oA (x.ev d)) λv=>K v T
 | .jU x=>dL (aZ (x.ev d)) λv=>K v T
 | .field off sz agg x=>dL (nj off sz agg (x.ev d)) λv=>K v T
 | .idx len sz agg x i=>dL (lU len sz agg (x.ev d) (i.ev d)) λv=>K v T
 | .idxs x i=>dL (jS (x.ev d) (i.ev d)) λv=>K v T
 | .gI off x=>dL (W off (x.ev d)) λv=>K v T
 | .fV arr sz x i=>dL (aP arr sz (x.ev d) (i.ev d)) λv=>K v T
 | .slice sz x lo hi mx=>dL (du sz (x.ev d) (lo.map (aW.ev d)) (hi.map (aW.ev d)) (mx.map (aW.ev d))) λv=>K v T
 | .jV x lo hi=>dL (oB (x.ev d) (lo.map (aW.ev d)) (hi.map (aW.ev d))) λv=>K v T
 | .hq t x=>K (.iface t (x.ev d)) T
 | .gQ key bE=>K (.fn key (eb d bE)) T
 | .extract i x=>dL (bj i (x.ev d)) λv=>K v T
 | .build zero parts=>dL (bo zero (fK d parts)) λv=>K v T
 | .len str x=>dL (bp str (x.ev d)) λv=>K v T
 | .hr n=>K (.int .i64 n) T
 | .cap x=>dL (qA (x.ev d)) λv=>K v T
 | .hx mx xs=>dL (fy mx (eb d xs)) λv=>K v T
 | .load n agg x=>dL (O T.ah n agg (x.ev d)) λv=>K v T
 | .store n x v=>dL (qV T n (x.ev d) (v.ev d)) λT=>K (.aq []) T
 | .box mu n x=>hL (qW T mu n (x.ev d)) K
 | .alloc mu zero=>hL (some (o9 T mu zero)) K
 | .gJ mu sz len zero parts=>hL (qX T mu sz len zero (fK d parts)) K
 | .append mu sz bytes x y=>hL (qY T mu sz bytes (x.ev d) (y.ev d)) K
 | .make mu sz bytes zero len cap=>hL (o_ T mu sz bytes zero (len.ev d) (cap.ev d)) K
 | .copy sz x y=>hL (qZ T sz (x.ev d) (y.ev d)) K
 | .gR=>K (.map T.n) (T.push (.map []))
 | .lookup kk zero ok m k=>dL (kS T.ah kk zero ok (m.ev d) (k.ev d)) λv=>K v T
 | .hy kk m k v=>dL (q0 T kk (m.ev d) (k.ev d) (v.ev d)) λT=>K (.aq []) T
 | .delete kk m k=>dL (tN T kk (m.ev d) (k.ev d)) λT=>K (.aq []) T
 | .hC m=>dL (kT T.ah (m.ev d)) λv=>K v T
 | .jW x=>dL (oD (x.ev d)) λv=>K v T
 | .hD x=>dL (abstr T.ah (x.ev d)) λv=>K v T
 | .h5 x=>hL (tK T (x.ev d)) K
 | .h6 x=>hL (tM T (x.ev d)) K
 | .call key args=>Φ key (eb d args) T K
 | .h7 f args=>yD Φ (f.ev d) (eb d args) T K
 | .ext e xs=>hL (text T e (eb d xs)) K
 | .inv hE x args=>yE Φ hE (x.ev d) (eb d args) T K
def eR(Φ:ai)(B:dE):Prop:=∀k args T (K:fZ),B k args T K=true→∀Q:ad,(∀v a,K v a=true→Q v a.ah)→Φ k args T.ah Q
theorem DE{α:Type}{x:Option α}{K:α→Bool}{P:α→Prop}(h:dL x K=true)(b:∀a,K a=true→P a):Do x P:=by
 cases x with
 |none=>cases h
 |some a=>exact⟨a,rfl,b a h⟩
theorem kz{x:Option (I×S)}{y:Option (I×Z)}(c:x.map vh=y)(h:hL x K=true)(d:∀v b,K v b=true→Q v b.ah):ar y Q:=by
 cases x with
 |none=>cases h
 |some a=>subst c;exact⟨a.1,a.2.ah,rfl,d _ _ h⟩
theorem yF{x:Option S}{y:Option Z}{K:S→Bool}{P:Z→Prop}(c:x.map S.ah=y)(h:dL x K=true)(d:∀b,K b=true→P b.ah):Do y P:=by
 cases x with
 |none=>cases h
 |some a=>subst c;exact⟨a.ah,rfl,d _ h⟩
theorem yG{A B:Bool}{P Q:Prop}(h:o8 v want A B=true)(hA:A=true→P)(hB:B=true→Q):Gd v want P Q:=by
 cases v<;>first|cases h|skip
 rename_i b;simp only[o8]at h;unfold Gd;dsimp only;split
 ·rename_i e;subst e;simp at h;exact hA h
 · rename_i e;have:(b ^^ want)=true:=by cases b<;>cases want<;>simp_all
   rw[this]at h;exact hB h
theorem tU(hB:eR Φ B){b:Env}{op:dQ}(h:l5 B b T K op=true)(a:∀v c,K v c=true→Q v c.ah):bX Φ b T.ah Q op:=by
 cases op with
 |mv=>exact a _ _ h
 |pick=>exact yG h (a _ _) (a _ _)
 |hq=>exact a _ _ h
 |gQ=>exact a _ _ h
 |hr=>exact a _ _ h
 |store=>exact yF (M7 _ _ _ _) h λ_ h=>a _ _ h
 |hy=>exact yF (Nf _ _ _ _ _) h λ_ h=>a _ _ h
 |delete=>exact yF (Ng _ _ _ _) h λ_ h=>a _ _ h
 |box=>exact kz (M8 _ _ _ _) h a
 |alloc mu zero=>exact kz (x:=some (o9 T mu zero)) (by simp only[Yc,Dz]) h a
 |gJ=>exact kz (M9 _ _ _ _ _ _) h a
 |append=>exact kz (M_ _ _ _ _ _ _) h a
 |make=>exact kz (Nc _ _ _ _ _ _ _) h a
 |copy=>exact kz (Nd _ _ _ _) h a
 |gR=>have:=a _ _ h;rw[S.M4]at this;exact this
 |h5=>exact kz (Na _ _) h a
 |h6=>exact kz (Nb _ _) h a
 |call key args=>exact hB _ _ _ _ h _ a
 | h7 f args=>
  simp only[l5,yD]at h;split at h
  · rename_i key bE hf;exact⟨key,bE,hf,hB _ _ _ _ h _ a⟩
  ·cases h
 |ext=>exact kz (M6 _ _ _) h a
 | inv hE x args=>
  simp only[l5,yE]at h;split at h
  · rename_i t v d;split at h
    · rename_i r e;split at h
      · rename_i u hu;exact⟨t,v,r,u,d,e,hu,hB _ _ _ _ h _ a⟩
      ·cases h
    ·cases h
  ·cases h
 |_=>exact DE h λ_ h=>a _ _ h
def q2(v:I)(want:Bool)(A B C:Bool):Bool:=
 match v with
 | .bool b=>bif aaK b want then B else A
 | .aq []=>C
 |_=>false
theorem DF{A B C:Bool}{P Q R:Prop}(h:q2 v want A B C=true)(hA:A=true→P)(hB:B=true→Q)(a:C=true→R):aQ v want P Q R:=by
 unfold q2 at h;unfold aQ;split at h
 · rename_i b;dsimp only;split
   ·rename_i e;subst e;simp at h;exact hA h
   · rename_i e;have:(b ^^ want)=true:=by cases b<;>cases want<;>simp_all
     rw[this]at h;exact hB h
 ·exact a h
 ·cases h
noncomputable section
def k9(Φ:dE)(n:Nat):List bz→EV→S→(EV→S→Bool)→Bool
 |[],E,T,K=>K E T
 | o :: r,E,T,K=>
  match o.guard with
  |none=>l5 Φ [] T (λv a=>k9 Φ n r (fa n E o.dst v) a K) (o.op.sub E)
  | some (s,want)=>
   q2 (dM E s) want (l5 Φ [] T (λv a=>k9 Φ n r (fa n (eQ n E s (.bool want)) o.dst v) a K) (o.op.sub (eQ n E s (.bool want))))
    (k9 Φ n r (fa n (eQ n E s (.bool !want)) o.dst (.aq [])) T K) (k9 Φ n r (fa n (eQ n E s (.aq [])) o.dst (.aq [])) T K)
theorem yH(hB:eR Φ B):∀{l:List bz}{E:EV}{T:S}{K:EV→S→Bool}{Q:j1},k9 B n l E T K=true→(∀e b,K e b=true→Q e b.ah)→j2 Φ n l E T.ah Q:=by
 intro l;induction l with
 |nil=>intro E T K Q h a;exact a _ _ h
 | cons o r c=>
  intro E T K Q h a;simp only[k9]at h;simp only[j2];cases f:o.guard with
  | none=>rw[f]at h;exact tU hB h (Q:=λv H'=>j2 Φ n r (fa n E o.dst v) H' Q) λv b d=>c d a
  | some g=>obtain⟨s,want⟩:=g;rw[f]at h;exact DF h (λh=>tU hB h (Q:=λv H'=>j2 Φ n r (fa n (eQ n E s (.bool want)) o.dst v) H' Q) λv b d=>c d a) (λh=>c h a) λh=>c h a
def nF(Φ:dE)(n:Nat)(o:bz)(E:EV)(T:S)(K:EV→S→Bool):Bool:=
 match o.guard with
 |none=>l5 Φ [] T (λv a=>K (fa n E o.dst v) a) (o.op.sub E)
 | some (s,want)=>
  q2 (dM E s) want (l5 Φ [] T (λv a=>K (fa n (eQ n E s (.bool want)) o.dst v) a) (o.op.sub (eQ n E s (.bool want))))
   (K (fa n (eQ n E s (.bool !want)) o.dst (.aq [])) T) (K (fa n (eQ n E s (.aq [])) o.dst (.aq [])) T)
theorem DG(hB:eR Φ B){K:EV→S→Bool}{Q:j1}(h:nF B n o E T K=true)(a:∀e b,K e b=true→Q e b.ah):pa Φ n o E T.ah Q:=by
 unfold nF at h;unfold pa;cases d:o.guard with
 | none=>rw[d]at h;exact tU hB h (Q:=λv H'=>Q (fa n E o.dst v) H') λv b c=>a _ _ c
 | some g=>obtain⟨s,want⟩:=g;rw[d]at h;exact DF h (λh=>tU hB h (Q:=λv H'=>Q (fa n (eQ n E s (.bool want)) o.dst v) H') λv b c=>a _ _ c) (λh=>a _ _ h) λh=>a _ _ h
def nG(Φ:dE)(n:Nat)(ops:List bz):List Nat→EV→S→(EV→S→Bool)→Bool
 |[],E,T,K=>K E T
 | i::r,E,T,K=>match ops[i]? with
  |some o=>nF Φ n o E T λE' a=>nG Φ n ops r E' a K
  |none=>false
theorem DH(hB:eR Φ B):∀{l:List Nat}{E:EV}{T:S}{K:EV→S→Bool}{Q:j1},nG B n ops l E T K=true→(∀e a,K e a=true→Q e a.ah)→mK Φ n ops l E T.ah Q:=by
 intro l;induction l with
 |nil=>intro E T K Q h b;exact b _ _ h
 | cons i r d=>
  intro E T K Q h b;simp only[nG]at h;simp only[mK];cases c:ops[i]? with
  |none=>rw[c]at h;cases h
  | some o=>rw[c]at h;exact DG hB h (Q:=λe H'=>mK Φ n ops r e H' Q) λe a f=>d f b
def k_(x:Option I)(d:I):Bool:=
 match x with
 |some v=>v.same d
 |none=>false
def yI(g:I)(want:Bool)(X:Bool):Bool:=
 match g with
 | .bool b=>bif aaK b want then true else X
 |_=>true
def pe(T:S)(E:EV)(o:bz):Bool:=
 match o.op with
 | .load n agg x=>k_ (O T.ah n agg ((x.sub E).ev [])) (dM E (o.dst.getD 0))
 | .lookup kk zero ok m k=>k_ (kS T.ah kk zero ok ((m.sub E).ev []) ((k.sub E).ev [])) (dM E (o.dst.getD 0))
 | .hC m=>k_ (kT T.ah ((m.sub E).ev [])) (dM E (o.dst.getD 0))
 | .hD x=>k_ (abstr T.ah ((x.sub E).ev [])) (dM E (o.dst.getD 0))
 |_=>true
theorem Np{x:Option I}{d:I}(h:k_ x d=true):x=some d:=by
 unfold k_ at h;split at h
 ·rw[I.tI _ _ h]
 ·cases h
theorem DI(h:pe T E o=true):pb E T.ah o:=by unfold pe at h;unfold pb;cases a:o.op<;>rw[a]at h<;>first|trivial|exact Np h
def tV(T:S)(E:EV)(o:bz):Bool:=
 match o.guard with
 |none=>pe T E o
 |some (s,want)=>yI (dM E s) want (pe T E o)
theorem Nq(h:tV T E o=true):q1 E T.ah o:=by
 unfold tV at h;unfold q1;cases a:o.guard with
 |none=>rw[a]at h;exact DI h
 | some g=>obtain⟨s,want⟩:=g;rw[a]at h;dsimp only at h ⊢;intro hs;rw[hs]at h;simp only[yI,Bool.xor_self,cond_false]at h;exact DI h
def pf(ops:List bz)(E:EV)(T:S)(X:Bool):List Nat→Bool
 |[]=>X
 |l::r=>(match ops[l]? with|some o=>tV T E o|none=>true)&&pf ops E T X r
theorem Nr{X:Bool}(a:X=true→P):∀{l:List Nat},pf ops E T X l=true→tS ops E T.ah P l:=by
 intro l;induction l with
 |nil=>intro h;exact a h
 | cons i r b=>
  intro h;simp only[pf,X1]at h;refine⟨?_,b h.2⟩;have h1:=h.1;cases c:ops[i]? with
  |none=>trivial
  |some o=>rw[c]at h1;exact Nq h1
def pg(Φ:dE)(n:Nat)(ops:List bz)(a:List Nat):List (List Nat×Nat×List Nat)→EV→S→(EV→S→Bool)→Bool
 |[],E,T,K=>nG Φ n ops a E T K
 | (d,e,st)::r,E,T,K=>nG Φ n ops d E T λb f=>match ops[e]? with
  |some o=>nF Φ n o b f λg c=>pf ops b c (pg Φ n ops a r g c K) st
  |none=>false
theorem DJ(hB:eR Φ B){b:List Nat}:∀{bh:List (List Nat×Nat×List Nat)}{E:EV}{T:S}{K:EV→S→Bool}{Q:j1},pg B n ops b bh E T K=true→(∀e c,K e c=true→Q e c.ah)→pd Φ n ops b bh E T.ah Q:=by
 intro bh;induction bh with
 |nil=>intro E T K Q h a;exact DH hB h a
 | cons p r f=>
  obtain⟨i,e,st⟩:=p;intro E T K Q h a;simp only[pg]at h;simp only[pd];refine DH hB h λe1 j h1=>?_;cases d:ops[e]? with
  |none=>rw[d]at h1;cases h1
  | some o=>rw[d]at h1;exact DG hB h1 λk l g=>Nr (λh=>f h a) g
def yJ{a:Type}(F:a→(a→Bool)→Bool)(n:Nat):a→Bool:=aaR (motive:=λ_=>a→Bool) (λ_=>false) (λ_ b s=>F s b) n
def DK(K:List I→S→Bool)(a:List I)(T:S):Bool:=K a T
def gV(Φ:dE)(fuel:Nat)(n:Nat):c6→EV→S→(fj→EV→S→Bool)→Bool
 | .skip,E,T,Q=>Q .normal E T
 | .region ops,E,T,Q=>k9 Φ n ops E T (Q .normal)
 | .draw ops _ bh last,E,T,Q=>pg Φ n ops last bh E T (Q .normal)
 | .seq a b,E,T,Q=>gV Φ fuel n a E T λe E' c=>match e with
  | .normal=>gV Φ fuel n b E' c Q
  |e=>Q e E' c
 | .join vs ks a b,E,T,Q=>gV Φ fuel n a E T λe E' c=>match e with
  | .normal=>DK (λst d=>gV Φ fuel n b (iN n (j3 n E ks) vs st) d Q) (hM E' vs) c
  |e=>Q e E' c
 | .cond x a b,E,T,Q=>o8 ((x.sub E).ev []) true (gV Φ fuel n a E T Q) (gV Φ fuel n b E T Q)
 | .block id a,E,T,Q=>gV Φ fuel n a E T λe E' c=>match e with
  | .exit f=>if f=id then Q .normal E' c else Q (.exit f) E' c
  |e=>Q e E' c
 | .loop vs ks a,E,T,Q=>
  yJ (λ(s:List I×S) (K:List I×S→Bool)=>
    gV Φ fuel n a (iN n (j3 n E ks) vs s.1) s.2 λe E' c=>match e with
     | .normal=>K (hM E' vs,c)
     |e=>Q e E' c) fuel (hM E vs,T)
 | .exit id,E,T,Q=>Q (.exit id) E T
 | .ret,E,T,Q=>Q .ret E T
 | .freeze t a,E,T,Q=>hL (nD T (dM E t)) λv c=>gV Φ fuel n a (eQ n E t v) c Q
 | .gw vs ks ops b,E,T,Q=>k9 Φ n ops E T λE' c=>DK (λst d=>gV Φ fuel n b (iN n (j3 n E ks) vs st) d Q) (hM E' vs) c
theorem Ns(hB:eR Φ B):∀{c:c6}{E:EV}{T:S}{K:fj→EV→S→Bool}{Q:fj→EV→Z→Prop},gV B fuel n c E T K=true→(∀x e g,K x e g=true→Q x e g.ah)→e3 Φ n c E T.ah Q:=by
 intro c;induction c with
 |skip=>intro E T K Q h d;exact d _ _ _ h
 |region ops=>intro E T K Q h d;exact yH hB h λ_ _ h=>d _ _ _ h
 |draw ops pr bh last=>intro E T K Q h d;exact DJ hB h λ_ _ h=>d _ _ _ h
 | seq a b k l=>
  intro E T K Q h d;simp only[gV]at h;simp only[e3];refine k h λx e g f=>?_;cases x with
  |normal=>exact l f d
  |exit i=>exact d _ _ _ f
  |ret=>exact d _ _ _ f
 | join vs ks a b k l=>
  intro E T K Q h d;simp only[gV]at h;simp only[e3];refine k h λx e g f=>?_;cases x with
  |normal=>exact l f d
  |exit i=>exact d _ _ _ f
  |ret=>exact d _ _ _ f
 | cond x a b k l=>intro E T K Q h d;exact yG h (λh=>k h d) λh=>l h d
 | block id a j=>
  intro E T K Q h d;simp only[gV]at h;simp only[e3];refine j h λx e g f=>?_;cases x with
  |normal=>exact d _ _ _ f
  | exit i=>
   dsimp only at f ⊢;split
   ·rename_i hi;rw[aa hi]at f;exact d _ _ _ f
   ·rename_i hi;rw[ab hi]at f;exact d _ _ _ f
  |ret=>exact d _ _ _ f
 | loop vs ks a j=>
  intro E T K Q h d;simp only[gV]at h;simp only[e3];have main : ∀(m:Nat)(s:List I×S),yJ (λ(s:List I×S) (K':List I×S→Bool)=>
        gV B fuel n a (iN n (j3 n E ks) vs s.1) s.2 λe E' g=>match e with
         | .normal=>K' (hM E' vs,g)
         |e=>K e E' g) m s=true →
      aC (λ(s:List I×Z) (K:List I×Z→Prop)=>
        e3 Φ n a (iN n (j3 n E ks) vs s.1) s.2 λe E' H'=>match e with
         | .normal=>K (hM E' vs,H')
         |e=>Q e E' H') (s.1,s.2.ah):=by
    intro m;induction m with
    |zero=>intro s h;cases h
    | succ m o=>
     intro s h;refine aC.step ?_;refine j (K:=λe E' g=>match e with
         | .normal=>yJ (λ(s:List I×S) (K':List I×S→Bool)=>
           gV B fuel n a (iN n (j3 n E ks) vs s.1) s.2 λe E' g=>match e with
            | .normal=>K' (hM E' vs,g)
            |e=>K e E' g) m (hM E' vs,g)
         |e=>K e E' g) h λx e g f=>?_
     cases x with
     |normal=>exact o _ f
     |exit i=>exact d _ _ _ f
     |ret=>exact d _ _ _ f
  exact main fuel _ h
 |exit id=>intro E T K Q h d;exact d _ _ _ h
 |ret=>intro E T K Q h d;exact d _ _ _ h
 | freeze t a j=>intro E T K Q h d;exact kz (DA _ _) h λv g f=>j f d
 | gw vs ks ops b j=>intro E T K Q h d;exact yH hB h (Q:=λE' H'=>N (λst p=>e3 Φ n b (iN n (j3 n E ks) vs st) p Q) (hM E' vs) H') λe g f=>j f d
def ph(E:EV)(T:S):List jz→(List I→Bool)→Bool
 |[],K=>K []
 | .tmp t::r,K=>ph E T r λvs=>K (dM E t::vs)
 | .cell t n agg::r,K=>dL (O T.ah n agg (dM E t)) λv=>ph E T r λvs=>K (v::vs)
theorem yK:∀{rs:List jz}{K:List I→Bool}{P:List I→Prop},ph E T rs K=true→(∀vs,K vs=true→P vs)→nE E T.ah rs P:=by
 intro rs;induction rs with
 |nil=>intro K P h a;exact a _ h
 | cons r rs b=>
  intro K P h a;cases r with
  |tmp t=>exact b (K:=λvs=>K (dM E t::vs)) h λvs h=>a _ h
  |cell t n agg=>exact DE h λv h=>b (K:=λvs=>K (v::vs)) h λvs h=>a _ h
def tW(Φ:dE)(fuel:Nat)(f:aY)(args:List I)(T:S)(Q:fZ):Bool:=
 gV Φ fuel f.ntmps f.body (lZ args 0) T λe E a=>match e with
  | .exit _=>false
  |_=>ph E a f.results λvs=>Q (mC vs) a
def yL(Φ:dE)(fuel:Nat)(f:aY)(args:List I)(T:S)(Q:fZ):Bool:=and (aaS args.length f.ntmps) (tW Φ fuel f args T Q)
theorem Nt(hB:eR Φ B){f:aY}{args:List I}(h:yL B fuel f args T K=true)(c:∀v a,K v a=true→Q v a.ah):yC Φ f args T.ah Q:=by
 simp only[yL,tW,X1]at h;refine⟨aaT h.1,Ns hB h.2 λx e a b=>?_⟩;cases x with
 |normal=>exact yK b λvs h=>c _ _ h
 |exit i=>cases b
 |ret=>exact yK b λvs h=>c _ _ h
end
end Rb

namespace Rb
open Go
variable{Φ:ai}{T:iM}{k:Nat}{f:aY}{args:List I}{H:Z}{Q:ad}
structure Cl(Φ:ai)(T:iM):Prop where
 mono:je Φ
 run:∀k f,T.get k=some f→∀args H Q,yC Φ f args H Q→Φ k args H Q
theorem Cl.of(a:je Φ)(h:o7 Φ T):Cl Φ T:=⟨a,λk f hk args H Q hs=>h k f hk args H Q (Nn a hs)⟩
theorem Cl.app{T U:iM}(hT:Cl Φ T)(a:Cl Φ U):Cl Φ (T++U):=by
 refine⟨hT.mono,λk f h args H Q hs=>?_⟩;have key:∀(T:iM),(T++U).lookup k=some f→T.lookup k=some f∨U.lookup k=some f:=by
  intro T;induction T with
  |nil=>intro h;exact .inr h
  | cons p T b=>
   intro h;obtain⟨k',c⟩:=p;rw[ZS,aaE]at h;rw[aaE];split at h
   ·exact .inl h
   ·exact b h
 rcases key T h with h|h
 ·exact hT.run k f h args H Q hs
 ·exact a.run k f h args H Q hs
theorem Cl.call(hT:Cl Φ T)(a:T.get k=some f)(hn:aaS args.length f.ntmps=true)(h:yB Φ f args H Q):Φ k args H Q:=hT.run k f a args H Q ⟨aaT hn,h⟩
abbrev a:=List I→Z→Prop
abbrev ST:=List I×Z
abbrev LT:=ST→Prop
abbrev BT:=ST→LT→Prop
theorem Cl.c(hT:Cl Φ T){k:Nat}{P:Prop}(h:P)(e:yB Φ f args H Q=P:=by kernel_rfl)(hk:T.get k=some f:=by kernel_rfl)(hn:aaS args.length f.ntmps=true:=by kernel_rfl):Φ k args H Q:=hT.call hk hn (e.mpr h)
end Rb

namespace Rb
open Go
variable{Φ:ai}{B:dE}{key k:Nat}{Q:ad}{T0:iM}
def Tok.free:Tok→Bool
 | .own _=>false
 |_=>true
mutual
def I.bb:I→Bool
 | .bool _ | .int _ _ | .str _ | .eJ | .fJ | .gu | .gv=>true
 | .ae cs=>I.bA cs
 | .ak tk _ cs=>tk.free&&I.bA cs
 | .fn _ cs=>I.bA cs
 | .iface _ v=>I.bb v
 | .agg cs=>I.bA cs
 | .aq cs=>I.bA cs
 |_=>false
def I.bA:List I→Bool
 |[]=>true
 |c::r=>I.bb c&&I.bA r
end
theorem q3:∀{cs:List I},I.bA cs=cs.all I.bb
 |[]=>rfl
 |c::r=>by simp only[I.bA,aaG,q3 (cs:=r)]
theorem mL{cs:List I}(h:I.bA cs=true)(j:Nat)(c:I)(hc:cs[j]?=some c):c.bb=true:=by rw[q3,YU]at h;exact h c (aaH hc)
theorem la{F:cz}{w w':World}{G G':aH}(hz:∀b o,G.fz b o→G'.fz b o)(hc:∀b o V,G.fz b o→w.cell? ⟨b,o,none⟩=some V→w'.cell? ⟨b,o,none⟩=some V){c:I}{V:Value}(hf:c.bb=true)(h:VR F w G c V):VR F w' G' c V:=by
 induction h with
 |bot=>simp[I.bb]at hf
 |bool b=>exact .bool b
 |int k n=>exact .int k n
 |str s=>exact .str s
 |eJ=>exact .eJ
 |ptr=>simp[I.bb]at hf
 | ae cells b o Vs h hv d=>simp only[I.bb]at hf;exact .ae cells b o Vs (λj c e=>⟨hz _ _ (h j c e).1,hc _ _ _ (h j c e).1 (h j c e).2⟩) λj c e=>d j c e (mL hf j c e)
 |e5=>exact .e5
 |e6 a cap=>exact .e6 a cap
 | ak tk len cells b o cap Vs ht hle h hv d=>
  simp only[I.bb,X1]at hf;refine .ak tk len cells b o cap Vs ?_ hle (λj c e=>⟨hz _ _ (h j c e).1,hc _ _ _ (h j c e).1 (h j c e).2⟩) λj c e=>d j c e (mL hf.2 j c e);cases tk with
  |own t=>simp[Tok.free]at hf
  |nil=>exact ht
  |full=>exact ht
  |dead=>exact ht
 |row=>simp[I.bb]at hf
 |map=>simp[I.bb]at hf
 |fJ=>exact .fJ
 | fn key bE f Vs hk hF hl hv d=>simp only[I.bb]at hf;exact .fn key bE f Vs hk hF hl λj c V hc g=>d j c V hc g (mL hf j c hc)
 | ko key k bE f Vs hk hF hl hv d=>simp only[I.bb]at hf;exact .ko key k bE f Vs hk hF hl λj c V hc g=>d j c V hc g (mL hf j c hc)
 |gu=>exact .gu
 |iface t v V h d=>exact .iface t v V (d (by simpa[I.bb]using hf))
 |gv=>exact .gv
 | agg cs Vs hl hv d=>simp only[I.bb]at hf;exact .agg cs Vs hl λj c V hc g=>d j c V hc g (mL hf j c hc)
 | aq cs Vs hl hv d=>simp only[I.bb]at hf;exact .aq cs Vs hl λj c V hc g=>d j c V hc g (mL hf j c hc)
def bN(C:Ctx):Prop:=∀g l,C.GT g=some l→I.bA l=true
theorem af.DL{C:Ctx}(aj:bN C){args:List I}(h:af C key args Z.mt Q)(ha:I.bA args=true)(H:Z)(K:ad)(s:∀v H',Q v H'→v.bb=true∧K v H):af C key args H K:=by
 refine⟨by obtain⟨v,H',y⟩:=h.1;exact⟨v,H,(s v H' y).2⟩,λf hf G w Vs hG a t=>?_⟩;have z:Rel C.F w (aH.mt G.fz) Z.mt:=Rel.mt a.ea;have A:aK C.F w (aH.mt G.fz) args Vs:=⟨t.1,λj c V hc q=>la (G:=G) (G':=aH.mt G.fz) (w:=w) (λ_ _ h=>h) (λ_ _ _ _ h=>h) (mL ha j c hc) (t.2 j c V hc q)⟩
 have B:jc C w (aH.mt G.fz):=λg l m=>la (G:=G) (G':=aH.mt G.fz) (w:=w) (λ_ _ h=>h) (λ_ _ _ _ h=>h) (by simp only[I.bb];exact aj g l m) (hG.1 g l m);refine Z9 (h.2 f hf _ w Vs (hG.mt B λi hi=>by cases hi) z A) λe w' he=>?_;obtain⟨V,v,H',G',rfl,hQ,hv,D,d⟩:=he;obtain⟨E,J⟩:=s v H' hQ;have hb:=d.below;have u:∀b o,G'.fz b o→G.fz b o∨w.heap.size≤b:=by
  intro b o hz;rcases d.ez b o hz with h|h|⟨i,hi,_⟩
  ·exact .inl h
  ·exact .inr h
  ·cases hi
 let r:aH:={G with fz:=λb o=>G.fz b o∨G'.fz b o}
 have x:∀b o V,G.fz b o→w.cell? ⟨b,o,none⟩=some V→w'.cell? ⟨b,o,none⟩=some V:=λb o V hf hc=>by rw[YD (w:=w) (hb.block b (YE w _ hc))];exact hc
 have m:GLe w G w' r:=⟨sl _,λ_ _=>rfl,λ_ _=>rfl,λ_ _ h=> .inl h,x⟩
 refine⟨V,v,H,r,rfl,J,la (G:=G') (G':=r) (w:=w') (λ_ _ h=>Or.inr h) (λ_ _ _ _ h=>h) E hv,⟨a.n,a.over,λj=>(a.obj j).aJ m (λhl=>a.gx hl) (λhl=>hb.block _ ((a.obj j).lt hl)) λhl o p=>?_,a.eZ,λb o hf=>?_⟩,?_⟩
 · rcases p with p|p
   ·exact p
   · rcases u _ _ p with h|h
     ·exact h
     ·exact absurd ((a.obj j).lt hl) (by omega)
 · rcases hf with hf|hf
   · obtain⟨V,q⟩:=a.ea b o hf;exact⟨V,x b o V hf q⟩
   ·exact D.ea b o hf
 · exact {m with
     size:=d.size,os:=d.os,tape:=d.tape,output:=d.output,dr:=d.dr,c9:=λk hk _=>hb.block k hk,owned:=λi hi _=>⟨i,hi,rfl⟩
     ez:=λb o hf=>by
      rcases hf with hf|hf
      ·exact .inl hf
      · rcases u b o hf with h|h
        ·exact .inl h
        ·exact .inr (.inl h)}
abbrev pj:=Nat→List I→Option I
def gW(Φ:ai)(M:pj):Prop:=∀k args v,M k args=some v→∀(H:Z)(Q:ad),Q v H→Φ k args H Q
noncomputable section
def yM(M:pj)(a:dE→dE)(d:Nat):dE:=aaR (motive:=λ_=>dE) (λ_ _ _ _=>false) (λ_ b k args T Q=>match M k args with
  |some v=>Q v T
  |none=>a b k args T Q) d
def yN(Φ:ai)(a:dE→dE):Prop:=∀B,eR Φ B→eR Φ (a B)
theorem Nu{M:pj}{a:dE→dE}(b:gW Φ M)(c:yN Φ a):∀d,eR Φ (yM M a d):=by
 intro d;induction d with
 |zero=>intro k args T K h;cases h
 | succ d e=>
  intro k args T K h Q hQ;change (match M k args with
    |some v=>K v T
    |none=>a (yM M a d) k args T K)=true at h
  split at h
  · rename_i v hv;exact b k args v hv _ _ (hQ _ _ h)
  ·exact c _ e k args T K h Q hQ
theorem Nv(hB:eR Φ B){args:List I}{K:I→Bool}(h:B k args S.mt (λv _=>K v)=true):Φ k args Z.mt (λv _=>K v=true):=by have:=hB k args S.mt _ h (λv _=>K v=true) (λv a h=>h);rwa [S.M5]at this
theorem eR.fn(hT:Cl Φ T0)(hB:eR Φ B){fuel:Nat}{f:aY}{args:List I}(b:T0.get k=some f)(hn:aaS args.length f.ntmps=true){T:S}{K:fZ}(h:tW B fuel f args T K=true)(hQ:∀v a,K v a=true→Q v a.ah):Φ k args T.ah Q:=hT.run k f b args T.ah Q (Nt hB (fuel:=fuel) (by simp only[yL,hn,h,aaU]) hQ)
theorem eR.node{F G:dE}(m:Nat)(hF:eR Φ F)(hG:eR Φ G):eR Φ (λk a T K=>cond (aaN k m) (F k a T K) (G k a T K)):=by
 intro k a T K h Q hQ;dsimp only at h;cases hb:aaN k m with
 |true=>rw[hb]at h;exact hF k a T K h Q hQ
 |false=>rw[hb]at h;exact hG k a T K h Q hQ
theorem eR.leaf(hT:Cl Φ T0)(hB:eR Φ B){n m:Nat}{b:aY}(c:T0.get key=some b){F:List I→S→fZ→Bool}(hn:aaS m b.ntmps=true)
  (hF:∀a T K,F a T K=true→a.length=m∧tW B n b a T K=true):eR Φ (λk a T K=>cond (aaI k key) (F a T K) false):=by
 intro k a T K h Q hQ;dsimp only at h;cases hb:aaI k key with
 |false=>rw[hb]at h;cases h
 | true=>rw[hb]at h;obtain rfl:=aaV hb;obtain⟨h1,d⟩:=hF a T K h;exact eR.fn hT hB (fuel:=n) c (by rw[h1];exact hn) d hQ
end
end Rb

namespace Rb
open Go
structure Hint where
 dS:Nat
 jB:List Nat
 loops:List (List Nat)
 fz:Option Nat
 fX:List TypeId:=[]
 lg:List (Nat×List Nat):=[]
def gX(t:Nat):List Nat→Bool
 |[]=>false
 |s::r=>cond (aaI t s) true (gX t r)
def DM:List Nat→List Nat→Bool
 |[],_=>true
 |t::r,l=>cond (gX t l) (DM r l) false
def yO(t:Nat)(l:List Nat):List Nat:=cond (gX t l) l (t::l)
def DN:List Nat→List Nat→List Nat
 |[],l=>l
 |t::r,l=>DN r (yO t l)
def yP:List Nat→List Nat→List Nat
 |[],_=>[]
 |t::r,l=>cond (gX t l) (yP r l) (yO t (yP r l))
def tX:Value→I
 | .bool b=> .bool b
 | .int k n=> .int k n
 | .string s=> .str s.data.toList
 | .pointer none=> .eJ
 | .map none=> .fJ
 | .nilFunc=> .gu
 | .nilIface=> .gv
 | .slice none _ _=> .ak .nil 0 []
 |_=> .bot
def DO:Value→I
 | .agg Vs=> .agg (Vs.toList.map tX)
 | .tuple Vs=> .aq (Vs.toList.map tX)
 |V=>tX V
def yQ:aW:= .k .bot
def gA:dQ:= .ext .stuck []
def bJ(C:Ctx):Operand→aW
 | .tmp t=> .t t
 | .const v=> .k (DO v)
 | .global g=>match C.GT g with|some l=> .k (.ae l)|none=>yQ
 | .func f=>cond (jA C.P f) (.k (.fn f [])) yQ
def DP (fs : List Field) : Bool := match fs with | [a, b] => a.name == "addr" && b.name == "buf" | _ => false
def DQ(P:Program)(t:TypeId):Bool:=
 match P.underlying t with
 |some (.struct fs)=>DP fs.toList||(match fs.toList with|[f]=>(match P.underlying f.type with|some (.struct gs)=>DP gs.toList|_=>false)|_=>false)
 |_=>false
def DS:Operand→Bool
 | .const v=>(match v with | .pointer none | .slice none 0 0 | .map none | .nilFunc | .nilIface=>true|_=>false)
 |_=>false
def gY(P:Program)(t:TypeId):Nat:=match P.info? t with|some i=>i.size|none=>0
def yR(P:Program)(t:TypeId):Nat:=match P.info? t with|some i=>i.bytes|none=>0
def DT(P:Program)(t:TypeId):Value:=match P.info? t with|some i=>(match i.zero with|some z=>z|none=> .nilIface)|none=> .nilIface
def pk(P:Program)(t:TypeId):List I:=(DT P t).cells.toList.map tX
def q4(P:Program)(t:TypeId):Bool:=match P.underlying t with|some d=>ia d|none=>false
def ig(P:Program)(t:TypeId):TypeId:=match P.underlying t with|some (.slice e)=>e|some (.array _ e)=>e|some (.map _ e)=>e|_=>0
def tY(P:Program)(t:TypeId):FK:=match P.underlying t with
 |some (.map kt _)=>(match P.underlying kt with|some .bool=> .b|some .string=> .t|_=> .n)
 |_=> .n
def pn(C:Ctx)(name:String):List TypeId→List (TypeId×Nat×Option (Nat×Bool))
 |[]=>[]
 | t :: r=>(match C.P.info? t with
   | some i=>(match i.methods.find? (·.name==name)with
     | some mt=>(match mt.func,C.P.underlying t with
       |some (f,true),some (.pointer _)=>(t,f,none)::pn C name r
       |some (f,false),some (.pointer e)=>(t,f,some (gY C.P e,q4 C.P e))::pn C name r
       |_,_=>pn C name r)
     |none=>pn C name r)
   |none=>pn C name r)
def Nw(P:Program)(t:TypeId):Bool:=match P.underlying t with|some (.int _)=>true|_=>false
def Nx(C:Ctx)(fX:List TypeId)(mu:Bool)(c:Call):dQ:=
 match c.callee with
 | .value (.func f)=>cond (jA C.P f) (.call f (c.args.toList.map (bJ C))) gA
 | .value f=> .h7 (bJ C f) (c.args.toList.map (bJ C))
 | .builtin b=>
  match c.args.toList.map (bJ C),c.argTypes.toList with
  | [x],[t]=>(match b with
    | .len=>(match C.P.underlying t with|some .string=> .len true x|some (.slice _)=> .len false x|some (.array n _)=> .hr n|some (.map _ _)=> .hC x|_=>gA)
    | .cap=> .cap x
    | .max=> .hx true [x]
    | .min=> .hx false [x]
    | .clear=> .ext (.clear (gY C.P (ig C.P t)) (pk C.P (ig C.P t))) [x]
    |_=>gA)
  | [x,y],t::_=>(match b with
    | .append=>cond (Nw C.P (c.argTypes.toList.tail.headD 0)) (.ext (.grow (gY C.P (ig C.P t)) (yR C.P (ig C.P t)) (pk C.P (ig C.P t))) [x,y]) <| .append mu (gY C.P (ig C.P t)) (yR C.P (ig C.P t)) x y
    | .delete=> .delete (tY C.P t) x y
    | .copy=> .copy (gY C.P (ig C.P t)) x y
    | .max=> .hx true [x,y]
    | .min=> .hx false [x,y]
    |_=>gA)
  | xs,_=>(match b with
    | .max=> .hx true xs
    | .min=> .hx false xs
    |_=>gA)
 | .invoke x name=> .inv (pn C name fX) (bJ C x) (c.args.toList.map (bJ C))
def Ny(C:Ctx)(fX:List TypeId)(mu:Bool):Op→dQ
 | .move x=> .mv (bJ C x)
 | .assign x=> .mv (bJ C x)
 | .pick c a b=> .pick (bJ C c) (bJ C a) (bJ C b)
 | .binOp op t x y _=>
  match op,C.P.underlying t with
  | .eql,some d=>(match oJ d,d with
    |some k,_=>cond (DS y) (.jx k false (bJ C x)) (match k with | .p=> .ext (.mB false) [bJ C x,bJ C y]|_=>gA)
    |none,.bool=> .beq false (bJ C x) (bJ C y)
    |none,.array _ _=>(match k4 C.P 9 t with|some l=> .iF false l (bJ C x) (bJ C y)|none=>gA)
    |none,.struct _=>(match k4 C.P 9 t with|some l=> .iF false l (bJ C x) (bJ C y)|none=>gA)
    |none,_=> .bin op (bJ C x) (bJ C y))
  | .neq,some d=>(match oJ d,d with
    |some k,_=>cond (DS y) (.jx k true (bJ C x)) (match k with | .p=> .ext (.mB true) [bJ C x,bJ C y]|_=>gA)
    |none,.bool=> .beq true (bJ C x) (bJ C y)
    |none,.array _ _=>(match k4 C.P 9 t with|some l=> .iF true l (bJ C x) (bJ C y)|none=>gA)
    |none,.struct _=>(match k4 C.P 9 t with|some l=> .iF true l (bJ C x) (bJ C y)|none=>gA)
    |none,_=> .bin op (bJ C x) (bJ C y))
  |op,_=> .bin op (bJ C x) (bJ C y)
 | .unOp op _ x=> .un op (bJ C x)
 | .convert s d x=>
  match C.P.underlying s,C.P.underlying d with
  |some .string,some .string=> .same (bJ C x)
  |some .string,some (.slice _)=> .jW (bJ C x)
  |some (.slice _),some .string=> .hD (bJ C x)
  |_,some (.int k)=> .conv k (bJ C x)
  |_,_=>gA
 | .nilCheck x=> .jU (bJ C x)
 | .field t x n=>(match oR C.P t n with|some f=> .field f.offset (gY C.P f.type) (q4 C.P f.type) (bJ C x)|none=>gA)
 | .fieldAddr t x n=>(match oR C.P t n with|some f=> .gI f.offset (bJ C x)|none=>gA)
 | .index t x i=>(match C.P.underlying t with
   |some .string=> .idxs (bJ C x) (bJ C i)
   |some (.array n e)=> .idx n (gY C.P e) (q4 C.P e) (bJ C x) (bJ C i)
   |_=>gA)
 | .indexAddr t x i=>(match C.P.underlying t with
   |some (.slice e)=> .fV none (gY C.P e) (bJ C x) (bJ C i)
   |some (.array n e)=> .fV (some n) (gY C.P e) (bJ C x) (bJ C i)
   |_=>gA)
 | .slice t x lo hi mx=>(match C.P.underlying t with
   |some .string=> .jV (bJ C x) (lo.map (bJ C)) (hi.map (bJ C))
   |some (.slice e)=> .slice (gY C.P e) (bJ C x) (lo.map (bJ C)) (hi.map (bJ C)) (mx.map (bJ C))
   |_=>gA)
 | .makeInterface t x=> .hq t (bJ C x)
 | .makeFunc (.func f) first bE=>cond (jA C.P f) (match first.toList with
   |[]=> .gQ f (bE.toList.map (bJ C))
   |l=> .gQ (f+1048576) (l.map (bJ C))) gA
 | .extract x i=> .extract i (bJ C x)
 | .build t ps=> .build (pk C.P t) (ps.toList.map λp=>match placeOf C.P t p.1 with|some (o,s)=>(o,s,bJ C p.2)|none=>(0,0,yQ))
 | .buildSlice t len ps=> .gJ mu (gY C.P (ig C.P t)) len (pk C.P (ig C.P t)) (ps.toList.map λp=>(p.1*gY C.P (ig C.P t),gY C.P (ig C.P t),bJ C p.2))
 | .load t x=> .load (gY C.P t) (q4 C.P t) (bJ C x)
 | .store t x v=> .store (gY C.P t) (bJ C x) (bJ C v)
 | .box t x=>cond (DQ C.P t) (.ext (.ku t) [bJ C x]) (.box mu (gY C.P t) (bJ C x))
 | .alloc t=>cond (DQ C.P t) (.ext (.ku t) []) (.alloc mu (pk C.P t))
 | .makeSlice t l c=> .make mu (gY C.P (ig C.P t)) (yR C.P (ig C.P t)) (pk C.P (ig C.P t)) (bJ C l) (bJ C c)
 | .range _ x=> .h5 (bJ C x)
 | .next x true=> .h6 (bJ C x)
 | .makeMap _ _=> .gR
 | .lookup t m k ok=> .lookup (tY C.P t) (DO (DT C.P (ig C.P t))) ok (bJ C m) (bJ C k)
 | .mapUpdate t m k v=> .hy (tY C.P t) (bJ C m) (bJ C k) (bJ C v)
 | .insert t m k v=> .hy (tY C.P t) (bJ C m) (bJ C k) (bJ C v)
 | .typeAssert x _ t ok=>cond ok gA (.ext (.oF t) [bJ C x])
 | .call c=>Nx C fX mu c
 |_=>gA
def DU:List Oper→Nat→Option Nat
 |[],_=>none
 |o::r,i=>match i with|0=>o.dst|i+1=>DU r i
def yS(C:Ctx)(fX:List TypeId)(jB:List Nat)(a:List Oper):List Oper→List bz
 |[]=>[]
 |o::r=>⟨o.dst,Ny C fX (match o.dst with|some d=>gX d jB|none=>false) o.op,match o.guard with|some (j,want)=>(match DU a j with|some s=>some (s,want)|none=>none)|none=>none⟩::yS C fX jB a r
def yT:List Edge→List Nat
 |[]=>[]
 |e::r=>cond (aal .any e) (yO e.on (yT r)) (yT r)
def DV:List (List Nat)→Nat→List Nat
 |[],_=>[]
 |l::r,i=>match i with|0=>l|i+1=>DV r i
def DW:List (List Nat)→List Nat→List Nat→List Nat
 |pr,acc,[]=>acc
 |pr,acc,e::r=>DW pr (DN (DV pr e) acc) r
def DX:List (List Nat)→List Oper→List (List Nat)
 |pr,[]=>pr
 |pr,o::r=>let es:=yT o.after.toList;DX (pr++[DW pr es es]) r
structure DR where
 i:Nat
 pr:List Nat
 k:Nat
 al:Bool
def DY(ops:List bz)(pr:List (List Nat)):Nat→List bz→List (List Nat)→List DR
 |i,o::r,p::q=>⟨i,p,cond (fB o.op) 2 (cond (e9 o.op) 1 0),fN ops pr i⟩::DY ops pr (i+1) r q
 |_,_,_=>[]
def po:List DR→List Nat→List Nat→List Nat×List Nat
 |[],done,out=>(done,out.reverse)
 |d::r,done,out=>cond (aaI d.k 0) (po r done out) (cond (gX d.i done) (po r done out) (cond (DM d.pr done) (po r (d.i::done) (d.i::out)) (po r done out)))
def q5:List DR→List Nat→List Nat→List DR
 |[],_,_=>[]
 |d::r,pr,seq=>cond d.al (cond (gX d.i pr) (cond (gX d.i seq) (q5 r pr seq) (d::q5 r pr seq)) (q5 r pr seq)) (q5 r pr seq)
def tZ(b:List DR):List DR→List Nat→List DR
 |[],seq=>b.filter λd=>d.al&&!gX d.i seq
 |d::r,seq=>cond (aaI d.k 0) (cond d.al (tZ b r seq) (let a:=q5 b d.pr seq;a++d::tZ b r (d.i::(a.map DR.i++seq)))) (tZ b r seq)
def q6:List DR→List Nat→List Nat→List Nat
 |[],_,_=>[]
 |d::r,done,pr=>cond (aaI d.k 1) (cond (gX d.i done) (cond (gX d.i pr) (q6 r done pr) (d.i::q6 r done pr)) (q6 r done pr)) (q6 r done pr)
def DZ(a:List DR):List DR→List Nat→List (List Nat×Nat×List Nat)×List Nat
 |[],done=>([],(po a done []).2)
 |e::r,done=>let s:=po a done [];let q:=DZ a r (e.i::s.1);((s.2,e.i,q6 a s.1 e.pr)::q.1,q.2)
def Nz(ops:List Oper)(al:List bz):c6:=
 let pr:=DX [] ops;let ds:=DY al pr 0 al pr;let p:=DZ ds (tZ ds ds []) []
 .draw al pr p.1 p.2
def NA(t:Nat)(o:bz):Bool:=match o.op with | .mv (.t s)=>aaI s t|_=>false
def isDst(l:List Nat)(o:bz):Bool:=match o.dst with|some d=>gX d l|none=>false
def yU:List (Nat×List Nat)→Nat→List Nat
 |[],_=>[]
 |(i,l)::r,id=>cond (aaI i id) l (yU r id)
def yV:List Nat→c6→c6
 |[],c=>c
 |t::r,c=> .freeze t (yV r c)
def nH(C:Ctx)(fX:List TypeId)(jB:List Nat)(fz:Option Nat)(lg:List (Nat×List Nat))(d:List Nat):Code→List (List Nat)→c6×List (List Nat)
 | .skip,h=>(.skip,h)
 | .region id ops false,h=>
  let al:=yS C fX jB ops.toList ops.toList
  (yV (yU lg id) (match fz with
    |none=> .region al
    |some t=>cond (al.any (NA t)&&al.any (isDst d)) (.freeze t (.region al)) (.region al)),h)
 | .region id ops true,h=>(yV (yU lg id) (Nz ops.toList (yS C fX jB ops.toList ops.toList)),h)
 | .seq a b,h=>let p:=nH C fX jB fz lg d a h;let q:=nH C fX jB fz lg d b p.2;(.seq p.1 q.1,q.2)
 | .cond c a b,h=>let p:=nH C fX jB fz lg d a h;let q:=nH C fX jB fz lg d b p.2;(.cond (bJ C c) p.1 q.1,q.2)
 | .block id a,h=>let p:=nH C fX jB fz lg d a h;(.block id p.1,p.2)
 | .loop a,h=>let p:=nH C fX jB fz lg d a h.tail;(.loop (h.headD []) (yP (ei p.1) (h.headD [])) p.1,p.2)
 | .exit id,h=>(.exit id,h)
 | .ret,h=>(.ret,h)
 |_,h=>(.exit 0,h)
def yW:List ResultVar→List Nat
 |[]=>[]
 | .tmp t::r=>t::yW r
 | .cell t _::r=>t::yW r
def yX(P:Program):List ResultVar→List jz
 |[]=>[]
 | .tmp t::r=> .tmp t::yX P r
 | .cell t ty::r=> .cell t (gY P ty) (q4 P ty)::yX P r
def R(C:Ctx)(h:Hint):aY:=
 match C.P.funcs[h.dS]? with
 |some fn=>⟨fn.ntmps,yX C.P fn.results.toList,match fn.body with|some c=>(nH C h.fX h.jB h.fz h.lg (yW fn.results.toList) c h.loops).1|none=> .skip⟩
 |none=>⟨0,[],.exit 0⟩
def l6(P:Program)(a:Nat→Option (List I)):Ctx:=⟨P,λk=>cond (jA P k) (some k) none,a⟩
theorem pq(P:Program)(b:Nat→Option (List I)):fM (l6 P b):=by
 intro key f hf;simp only[l6]at hf;cases a:jA P key with
 |true=>rw[a]at hf;simp only[cond_true,Yb.injEq]at hf;subst hf;exact a
 |false=>rw[a]at hf;cases hf
def ih(C:Ctx):List Hint→Bool
 |[]=>true
 |h::r=>and (o6 C h.dS (R C h)) (ih C r)
theorem D0{C:Ctx}:∀{L:List Hint},ih C L=true→∀h,h∈L→o6 C h.dS (R C h)=true
 |[],_,h,hm=>by cases hm
 | p::r,hc,h,hm=>by
  simp only[ih,X1]at hc;rcases aah.1 hm with rfl|hm
  ·exact hc.1
  ·exact D0 hc.2 h hm
theorem pt{C:Ctx}:∀{L M:List Hint},ih C L=true→ih C M=true→ih C (L++M)=true
 |[],_,_,h=>h
 | p::r,M,hc,h=>by simp only[ih,X1]at hc;simp only[ZS,ih,X1];exact⟨hc.1,pt hc.2 h⟩
end Rb

namespace Rb
open Go
noncomputable section
theorem nb(a b:Nat):aaI a b=decide (a=b):=by rw[aaf];simp
theorem nl(a b:Nat):aaN a b=decide (a<b):=by rw[aaf];simp[aaN];omega
theorem ne'(a b:Nat):aaS a b=decide (a≤b):=by rw[aaf];simp
def mM{α β:Type}(f:α→β)(a:α):β:=f a
def yY{α:Type}(l:List α):Nat→Option α:=aaM (motive:=λ_=>Nat→Option α) (λ_=>none) (λx _ a n=>aaR (motive:=λ_=>Option α) (some x) (λm _=>mM a m) n) l
theorem yZ{α:Type}:∀(l:List α)(n:Nat),yY l n=l[n]?
 |[],n=>by cases n<;>rfl
 |x::r,0=>rfl
 |x::r,n+1=>by rw[List.getElem?_cons_succ,←yZ r n];rfl
def t_{α:Type}(n:Nat):List α→List α:=aaR (motive:=λ_=>List α→List α) (λl=>l) (λ_ a l=>aaM (motive:=λ_=>List α) [] (λ_ t _=>mM a t) l) n
theorem q7{α:Type}:∀(n:Nat)(l:List α),t_ n l=l.drop n
 |0,l=>rfl
 |n+1,[]=>rfl
 |n+1,x::r=>by rw[aaW,←q7 n r];rfl
def y0{α:Type}(n:Nat):List α→Bool:=aaR (motive:=λ_=>List α→Bool) (λ_=>true) (λ_ a l=>aaM (motive:=λ_=>Bool) false (λ_ t _=>mM a t) l) n
theorem y1{α:Type}:∀(n:Nat)(l:List α),y0 n l=decide (n≤l.length)
 |0,l=>by simp;rfl
 |n+1,[]=>by simp;rfl
 |n+1,x::r=>by rw[List.length_cons,show decide (n+1≤r.length+1)=decide (n≤r.length) by simp,←y1 n r];rfl
def kN:IntKind→Nat
 | .i8=>0 | .i16=>1 | .i32=>2 | .i64=>3 | .u8=>4 | .u16=>5 | .u32=>6 | .u64=>7
def y2(k k':IntKind):Bool:=aaI (kN k) (kN k')
theorem NC{k k':IntKind}(h:y2 k k'=true):k=k':=by revert h;cases k<;>cases k'<;>decide
def lim:IntKind→Nat
 | .i8=>128 | .i16=>32768 | .i32=>2147483648 | .i64=>9223372036854775808 | .u8=>256 | .u16=>65536 | .u32=>4294967296 | .u64=>18446744073709551616
theorem pv{k:IntKind}{m:Nat}(h:m<lim k):k.wrap (aaX m)=aaX m:=by have hm:(aaX m)=(m:Int):=rfl;rw[hm];cases k<;>simp only[lim]at h<;>simp only[Y6,X9,X8]<;>simp<;>omega
def asNat(v:I)(d:Option I)(f:IntKind→Nat→Option I):Option I:=
 match v with
 | .int k n=>(match n with | .ofNat m=>f k m | .negSucc _=>d)
 |_=>d
theorem pw{v:I}{d:Option I}{f:IntKind→Nat→Option I}(h:∀k m,v = .int k (.ofNat m)→f k m=d):asNat v d f=d:=by
 unfold asNat;split
 · split
   ·exact h _ _ rfl
   ·rfl
 ·rfl
def iO(g:IntKind→Nat→Nat→Option I→Option I)(s:Option I)(x y:I):Option I:=asNat x s λk a=>asNat y s λk' b=>cond (y2 k k') (g k a b s) s
theorem ND{g:IntKind→Nat→Nat→Option I→Option I}{op:BinOp}(c:∀k a b,g k a b (cc op k (.ofNat a) k (.ofNat b))=cc op k (.ofNat a) k (.ofNat b))(x y:I):iO g (M op x y) x y=M op x y:=by
 refine pw λk a d=>pw λk' b e=>?_;subst d e;cases h:y2 k k' with
 |false=>rfl
 | true=>obtain rfl:=NC h;exact c k a b
def y5(k:IntKind)(a b:Nat)(s:Option I):Option I:=cond (aaN (aaY a b) (lim k)) (some (.int k (.ofNat (aaY a b)))) s
def y7(k:IntKind)(a b:Nat)(s:Option I):Option I:=cond (and (aaS b a) (aaN a (lim k))) (some (.int k (.ofNat (aaZ a b)))) s
def y8(k:IntKind)(a b:Nat)(s:Option I):Option I:=cond (aaN (aa0 a b) (lim k)) (some (.int k (.ofNat (aa0 a b)))) s
def y9(k:IntKind)(a b:Nat)(s:Option I):Option I:=some (.bool (aaN a b))
def y_(k:IntKind)(a b:Nat)(s:Option I):Option I:=some (.bool (aaS a b))
def za(k:IntKind)(a b:Nat)(s:Option I):Option I:=some (.bool (aaN b a))
def zb(k:IntKind)(a b:Nat)(s:Option I):Option I:=some (.bool (aaS b a))
def zc(k:IntKind)(a b:Nat)(s:Option I):Option I:=some (.bool (aaI a b))
def zd(k:IntKind)(a b:Nat)(s:Option I):Option I:=some (.bool (not (aaI a b)))
def ze(k:IntKind)(a b:Nat)(s:Option I):Option I:=cond (and (aaN 0 b) (aaN a (lim k))) (some (.int k (.ofNat (aa1 a b)))) s
def zf(k:IntKind)(a b:Nat)(s:Option I):Option I:=cond (aaN 0 b) (some (.int k (.ofNat (aa2 a b)))) s
def zg(k:IntKind)(a b:Nat)(s:Option I):Option I:=cond (and (aaN a (lim k)) (aaN b (lim k))) (some (.int k (.ofNat (aa3 a b)))) s
def zh(k:IntKind)(a b:Nat)(s:Option I):Option I:=cond (and (aaN a (lim k)) (aaN b (lim k))) (some (.int k (.ofNat (aa4 a b)))) s
def zi(k:IntKind)(a b:Nat)(s:Option I):Option I:=cond (and (aaN a (lim k)) (aaN b (lim k))) (some (.int k (.ofNat (aa5 a b)))) s
theorem NF(k:IntKind)(a b:Nat):y5 k a b (cc .add k (.ofNat a) k (.ofNat b))=cc .add k (.ofNat a) k (.ofNat b):=by
 unfold y5;rw[nl];by_cases h:aaY a b<lim k
 · simp only[h,decide_true,cond_true,cc,a_];rw[show(aaX a+aaX b)=aaX (aaY a b)from rfl,pv h]
 ·simp only[h,decide_false,cond_false]
theorem NG(k:IntKind)(a b:Nat):y8 k a b (cc .mul k (.ofNat a) k (.ofNat b))=cc .mul k (.ofNat a) k (.ofNat b):=by
 unfold y8;rw[nl];by_cases h:aa0 a b<lim k
 · simp only[h,decide_true,cond_true,cc,a_];rw[show(aaX a*aaX b)=aaX (aa0 a b)from rfl,pv h]
 ·simp only[h,decide_false,cond_false]
theorem NH(k:IntKind)(a b:Nat):y7 k a b (cc .sub k (.ofNat a) k (.ofNat b))=cc .sub k (.ofNat a) k (.ofNat b):=by
 unfold y7;rw[nl,ne'];by_cases h:b≤a∧a<lim k
 · simp only[h.1,h.2,decide_true,aaU,cond_true,cc,a_];have:(aaX a-aaX b)=aaX (aaZ a b):=by
    show(a:Int)-(b:Int)=((a-b:Nat):Int);omega
   rw[this,pv (show aaZ a b<lim k from aa6 (Nat.sub_le _ _) h.2)]
 · have:(decide (b≤a)&&decide (a<lim k))=false:=by
     rw[aau];intro c;simp at c;exact h c
   simp only[this,cond_false]
theorem NI(k:IntKind)(a b:Nat):y9 k a b (cc .lss k (.ofNat a) k (.ofNat b))=cc .lss k (.ofNat a) k (.ofNat b):=by simp only[y9,cc,a_,nl];congr 2;simp
theorem NJ(k:IntKind)(a b:Nat):y_ k a b (cc .leq k (.ofNat a) k (.ofNat b))=cc .leq k (.ofNat a) k (.ofNat b):=by simp only[y_,cc,a_,ne'];congr 2;simp
theorem NL(k:IntKind)(a b:Nat):za k a b (cc .gtr k (.ofNat a) k (.ofNat b))=cc .gtr k (.ofNat a) k (.ofNat b):=by simp only[za,cc,a_,nl];congr 2;simp
theorem NM(k:IntKind)(a b:Nat):zb k a b (cc .geq k (.ofNat a) k (.ofNat b))=cc .geq k (.ofNat a) k (.ofNat b):=by simp only[zb,cc,a_,ne'];congr 2;simp
theorem D1(a b:Nat):(aaX a==aaX b)=decide (a=b):=by rw[aaf];simp;omega
theorem NN(k:IntKind)(a b:Nat):zc k a b (cc .eql k (.ofNat a) k (.ofNat b))=cc .eql k (.ofNat a) k (.ofNat b):=by simp only[zc,cc,a_,nb,D1]
theorem NO(k:IntKind)(a b:Nat):zd k a b (cc .neq k (.ofNat a) k (.ofNat b))=cc .neq k (.ofNat a) k (.ofNat b):=by simp only[zd,cc,a_,nb,bne,D1]
theorem NP(k:IntKind)(a b:Nat):zf k a b (cc .rem k (.ofNat a) k (.ofNat b))=cc .rem k (.ofNat a) k (.ofNat b):=by
 unfold zf;rw[nl];by_cases h:0<b
 · have hb:(aaX b)≠0:=by simp;omega
   simp only[h,decide_true,cond_true,cc,aa (show True∧aaX b≠0 from⟨trivial,hb⟩)];rfl
 ·simp only[h,decide_false,cond_false]
theorem NQ(k:IntKind)(a b:Nat):ze k a b (cc .quo k (.ofNat a) k (.ofNat b))=cc .quo k (.ofNat a) k (.ofNat b):=by
 unfold ze;rw[nl,nl];by_cases h:0<b∧a<lim k
 · have hb:(aaX b)≠0:=by have:=h.1;simp;omega
   simp only[h.1,h.2,decide_true,aaU,cond_true,cc,aa (show True∧aaX b≠0 from⟨trivial,hb⟩)];rw[show(aaX a).tdiv (aaX b)=aaX (aa1 a b)from rfl,pv (show aa1 a b<lim k from aa6 (Nat.div_le_self _ _) h.2)]
 · have:(decide (0<b)&&decide (a<lim k))=false:=by
     rw[aau];intro c;simp at c;exact h c
   simp only[this,cond_false]
theorem NR(k:IntKind):lim k≤2^k.bits:=by cases k<;>decide
theorem D2(k:IntKind):∃n,lim k=2^n:=by
 cases k
 ·exact⟨7,rfl⟩
 ·exact⟨15,rfl⟩
 ·exact⟨31,rfl⟩
 ·exact⟨63,rfl⟩
 ·exact⟨8,rfl⟩
 ·exact⟨16,rfl⟩
 ·exact⟨32,rfl⟩
 ·exact⟨64,rfl⟩
theorem zj{op:BinOp}{f:Nat→Nat→Nat}(k:IntKind)(a b:Nat)(ha:a<lim k)(hb:b<lim k)(hf:f a b<lim k)
  (h:kq op k (.ofNat a) (.ofNat b)=some (k.wrap (((f (TH k.bits (.ofNat a)).toNat (TH k.bits (.ofNat b)).toNat):Nat):Int))):kq op k (.ofNat a) (.ofNat b)=some (.ofNat (f a b)):=by
 have c:=NR k;have e:∀n:Nat,n<lim k→(TH k.bits (.ofNat n)).toNat=n:=λn hn=>by
  have:TH k.bits (.ofNat n)=BitVec.ofNat k.bits n:=by simp
  rw[this,BitVec.toNat_ofNat,Nat.mod_eq_of_lt (by omega)]
 rw[h,e a ha,e b hb];exact congrArg some (pv hf)
theorem NS(k:IntKind)(a b:Nat):zg k a b (cc .and k (.ofNat a) k (.ofNat b))=cc .and k (.ofNat a) k (.ofNat b):=by
 unfold zg;rw[nl,nl];by_cases h:a<lim k∧b<lim k
 · simp only[h.1,h.2,decide_true,aaU,cond_true,cc,a_];rw[zj (op:= .and) (f:=aa3) k a b h.1 h.2 (aa6 Nat.and_le_left h.1) (by simp only[kq,BitVec.toNat_and];rfl)];rfl
 · have:(decide (a<lim k)&&decide (b<lim k))=false:=by
     rw[aau];intro c;simp at c;exact h c
   simp only[this,cond_false]
theorem NT(k:IntKind)(a b:Nat):zh k a b (cc .or k (.ofNat a) k (.ofNat b))=cc .or k (.ofNat a) k (.ofNat b):=by
 unfold zh;rw[nl,nl];by_cases h:a<lim k∧b<lim k
 · simp only[h.1,h.2,decide_true,aaU,cond_true,cc,a_];have hl:aa4 a b<lim k:=by
    obtain⟨n,hn⟩:=D2 k;rw[hn]at h ⊢;exact Nat.or_lt_two_pow h.1 h.2
   rw[zj (op:= .or) (f:=aa4) k a b h.1 h.2 hl (by simp only[kq,BitVec.toNat_or];rfl)];rfl
 · have:(decide (a<lim k)&&decide (b<lim k))=false:=by
     rw[aau];intro c;simp at c;exact h c
   simp only[this,cond_false]
theorem NU(k:IntKind)(a b:Nat):zi k a b (cc .xor k (.ofNat a) k (.ofNat b))=cc .xor k (.ofNat a) k (.ofNat b):=by
 unfold zi;rw[nl,nl];by_cases h:a<lim k∧b<lim k
 · simp only[h.1,h.2,decide_true,aaU,cond_true,cc,a_];have hl:aa5 a b<lim k:=by
    obtain⟨n,hn⟩:=D2 k;rw[hn]at h ⊢;exact Nat.xor_lt_two_pow h.1 h.2
   rw[zj (op:= .xor) (f:=aa5) k a b h.1 h.2 hl (by simp only[kq,BitVec.toNat_xor];rfl)];rfl
 · have:(decide (a<lim k)&&decide (b<lim k))=false:=by
     rw[aau];intro c;simp at c;exact h c
   simp only[this,cond_false]
structure NV where
 f:I→I→Option I
def D3:BinOp→NV
 | .add=>⟨λx y=>iO y5 (M .add x y) x y⟩
 | .sub=>⟨λx y=>iO y7 (M .sub x y) x y⟩
 | .mul=>⟨λx y=>iO y8 (M .mul x y) x y⟩
 | .quo=>⟨λx y=>iO ze (M .quo x y) x y⟩
 | .rem=>⟨λx y=>iO zf (M .rem x y) x y⟩
 | .and=>⟨λx y=>iO zg (M .and x y) x y⟩
 | .or=>⟨λx y=>iO zh (M .or x y) x y⟩
 | .xor=>⟨λx y=>iO zi (M .xor x y) x y⟩
 | .lss=>⟨λx y=>iO y9 (M .lss x y) x y⟩
 | .leq=>⟨λx y=>iO y_ (M .leq x y) x y⟩
 | .gtr=>⟨λx y=>iO za (M .gtr x y) x y⟩
 | .geq=>⟨λx y=>iO zb (M .geq x y) x y⟩
 | .eql=>⟨λx y=>iO zc (M .eql x y) x y⟩
 | .neq=>⟨λx y=>iO zd (M .neq x y) x y⟩
 | .shl=>⟨λx y=>M .shl x y⟩
 | .shr=>⟨λx y=>M .shr x y⟩
 | .andNot=>⟨λx y=>M .andNot x y⟩
theorem NW(op:BinOp)(x y:I):(D3 op).f x y=M op x y:=by cases op<;>first|rfl|exact ND (by first|exact NF|exact NH|exact NG|exact NQ|exact NP|exact NS|exact NT|exact NU|exact NI|exact NJ|exact NL|exact NM|exact NN|exact NO) x y
def D4(k:IntKind)(x:I):Option I:=asNat x (e7 k x) λ_ m=>cond (aaN m (lim k)) (some (.int k (.ofNat m))) (e7 k x)
theorem NX(k:IntKind)(x:I):D4 k x=e7 k x:=by
 refine pw λk' m a=>?_;subst a;rw[nl];by_cases h:m<lim k
 · simp only[h,decide_true,cond_true,e7];rw[pv h]
 ·simp only[h,decide_false,cond_false]
def py(cs:List I)(o n:Nat)(agg:Bool):Option I:=cond agg (cond (y0 (aaY o n) cs) (some (.agg ((t_ o cs).take n))) none) (cond (aaI n 1) (yY cs o) (bU cs o n false))
theorem ua(cs:List I)(o n:Nat)(agg:Bool):py cs o n agg=bU cs o n agg:=by
 unfold py bU;cases agg with
 | true=>
  rw[y1,q7];by_cases h:o+n≤cs.length
  ·rw[aa h];simp[show aaY o n=o+n from rfl,h]
  ·rw[ab h];simp[show aaY o n=o+n from rfl,h]
 | false=>
  rw[nb,yZ];by_cases h1:n=1
  · subst h1;simp only[decide_true,cond_true,cond_false,ZP,bR];by_cases h:o+1≤cs.length
    ·rw[aa h]
    ·rw[ab h,aab (by omega)]
  ·simp only[h1,decide_false,cond_false]
def zk(a sz:Nat)(agg:Bool)(x:I):Option I:=
 match x with
 | .agg cs=>py cs a sz agg
 |_=>none
theorem NY(a sz:Nat)(b:Bool)(x:I):zk a sz b x=nj a sz b x:=by unfold zk nj;cases x<;>first|rfl|exact ua _ _ _ _
def D5(a sz:Nat)(agg:Bool)(x i:I):Option I:=asNat i (lU a sz agg x i) λk m=>match x with
 | .agg cs=>cond (aaN m a) (py cs (aa0 m sz) sz agg) none
 |_=>lU a sz agg x i
theorem NZ(a sz:Nat)(b:Bool)(x i:I):D5 a sz b x i=lU a sz b x i:=by
 refine pw λk m hi=>?_;subst hi;cases x<;>first|rfl|skip
 rename_i cs;dsimp only;rw[nl,ua];simp only[lU];by_cases h:m<a
 ·rw[aa ⟨aa7 _,by exact aa8.2 h⟩];simp only[h,decide_true,cond_true];rfl
 ·rw[ab (λc=>h (aa8.1 c.2))];simp only[h,decide_false,cond_false]
def D6(x i:I):Option I:=asNat i (jS x i) λ_ m=>match x with
 | .str s=>(match yY s m with|some b=>some (.int .u8 (.ofNat b.toNat))|none=>none)
 |_=>jS x i
theorem N0(x i:I):D6 x i=jS x i:=by
 refine pw λk m hi=>?_;subst hi;cases x<;>first|rfl|skip
 rename_i s;dsimp only;rw[yZ];simp only[jS];rw[aa (show 0≤aaX m from aa7 _)];show _=aaL _ s[m]?;cases s[m]?<;>rfl
def lh(a:Option Nat)(sz:Nat)(x i:I):Option I:=asNat i (aP a sz x i) λ_ m=>match a,x with
 |none,.ak _ len cells=>cond (aaN m len) (some (.ae (t_ (aa0 m sz) cells))) none
 |none,.row id o len _=>cond (aaN m len) (some (.ptr id (aaY o (aa0 m sz)))) none
 |some n,.ptr id o=>cond (aaN m n) (some (.ptr id (aaY o (aa0 m sz)))) none
 |some n,.ae cells=>cond (aaN m n) (some (.ae (t_ (aa0 m sz) cells))) none
 |_,_=>aP a sz x i
theorem N1(a:Option Nat)(sz:Nat)(x i:I):lh a sz x i=aP a sz x i:=by
 refine pw λk m hi=>?_;subst hi;have key:∀(n:Nat)(v:I),cond (aaN m n) (some v) none=if 0≤(aaX m)∧(aaX m)<(n:Int)then some v else none:=by
  intro n v;rw[nl];by_cases h:m<n
  ·rw[aa ⟨aa7 _,aa8.2 h⟩];simp only[h,decide_true,cond_true]
  ·rw[ab (λb=>h (aa8.1 b.2))];simp only[h,decide_false,cond_false]
 cases a<;>cases x<;>first
  |rfl
  |(dsimp only;rw[key];simp only[q7];rfl)
  |(dsimp only;rw[key];rfl)
def q8(T:S)(n:Nat)(a:Bool)(x:I):Option I:=
 match x with
 | .ptr id o=>(match T.t.get id with | .row cs=>py cs o n a|_=>none)
 | .ae cs=>py cs 0 n a
 |_=>none
theorem zl(T:S)(n:Nat)(a:Bool)(x:I):q8 T n a x=O T.ah n a x:=by
 unfold q8 O;cases x<;>first|rfl|skip
 · dsimp only;show _=match T.t.get _ with | .row cs=>_|_=>_
   split<;>first|rfl|exact ua _ _ _ _
 ·exact ua _ _ _ _
end
end Rb

namespace Rb
open Go
variable{Φ:ai}{B:dE}
noncomputable section
def jC(m:Nat)(K:Nat→Bool):Bool:=aaR (motive:=λ_=>Bool) (K 0) (λp _=>K (aa9 p)) m
theorem ub(m:Nat)(K:Nat→Bool):jC m K=K m:=by cases m<;>rfl
def lk{α:Type}(l:List α):(List α→Bool)→Bool:=aaM (motive:=λ_=>(List α→Bool)→Bool) (λK=>K []) (λx _ a K=>mM a λr=>mM K (x::r)) l
theorem uc{α:Type}:∀(l:List α)(K:List α→Bool),lk l K=K l
 |[],K=>rfl
 |x::r,K=>by show lk r (λr=>K (x::r))=_;rw[uc r]
def ud{α:Type}(n:Nat):List α→(List α→Bool)→Bool:=aaR (motive:=λ_=>List α→(List α→Bool)→Bool) (λl K=>K l) (λ_ a l K=>aaM (motive:=λ_=>Bool) (K []) (λ_ t _=>mM (a t) K) l) n
theorem ue{α:Type}:∀(n:Nat)(l:List α)(K:List α→Bool),ud n l K=K (l.drop n)
 |0,l,K=>rfl
 |n+1,[],K=>rfl
 |n+1,x::r,K=>by rw[aaW,←ue n r K];rfl
def fv(v:I)(K:I→Bool):Bool:=
 match v with
 | .int k n=>(match n with | .ofNat m=>jC m λm=>K (.int k (.ofNat m)) | .negSucc m=>jC m λm=>K (.int k (.negSucc m)))
 | .bool b=>(match b with|true=>K (.bool true)|false=>K (.bool false))
 | .str s=>lk s λs=>K (.str s)
 | .ptr i o=>jC i λi=>jC o λo=>K (.ptr i o)
 | .row i o l z=>jC i λi=>jC o λo=>jC l λl=>K (.row i o l z)
 | .ak tk l cs=>jC l λl=>lk cs λcs=>K (.ak tk l cs)
 | .ae cs=>lk cs λcs=>K (.ae cs)
 | .agg cs=>lk cs λcs=>K (.agg cs)
 | .aq cs=>lk cs λcs=>K (.aq cs)
 |v=>K v
theorem D7(v:I)(K:I→Bool):fv v K=K v:=by unfold fv;split<;>(try split)<;>simp only[ub,uc]
def eS(x:Option I)(K:I→Bool):Bool:=match x with|some v=>fv v K|none=>false
theorem pz(x:Option I)(K:I→Bool):eS x K=dL x K:=by
 cases x with
 |none=>rfl
 |some v=>exact D7 v K
def q9(x:Option I)(K:I→Bool):Bool:=match x with|some v=>K v|none=>false
theorem D8(x:Option I)(K:I→Bool):q9 x K=dL x K:=by cases x<;>rfl
def ll(E:EV)(t:Nat)(K:I→Bool):Bool:=aaM (motive:=λ_=>Bool) (K .bot) (λp _ a=>aa_ (motive:=λ_=>Bool) (λs v=>aba (motive:=λ_=>Bool) a (K v) (aaI s t)) p) E
theorem mN:∀(E:EV)(t:Nat)(K:I→Bool),ll E t K=K (dM E t)
 |[],t,K=>rfl
 | (s,v)::E,t,K=>by show aba (motive:=λ_=>Bool) (ll E t K) (K v) (aaI s t)=K (cond (aaI s t) v (dM E t));rw[mN E t K];cases aaI s t<;>rfl
def aW.val(E:EV):aW→I
 | .t n=>dM E n
 | .k v=>v
def D9(E:EV):Option aW→Option I
 |none=>none
 |some x=>some (x.val E)
def kv(E:EV):List aW→List I
 |[]=>[]
 |x::r=>x.val E::kv E r
def zm(E:EV):List (Nat×Nat×aW)→List (Nat×Nat×I)
 |[]=>[]
 |(a,b,x)::r=>(a,b,x.val E)::zm E r
theorem pA(E:EV)(x:aW):(x.sub E).ev []=x.val E:=by cases x<;>rfl
theorem D_(E:EV):∀xs:List aW,eb [] (xs.map (aW.sub E))=kv E xs
 |[]=>rfl
 | x::r=>by have:=D_ E r;simp only[eb,Zj]at this ⊢;rw[this,pA];rfl
theorem Ea(E:EV):∀xs:List (Nat×Nat×aW),fK [] (xs.map λp=>(p.1,p.2.1,p.2.2.sub E))=zm E xs
 |[]=>rfl
 | (a,b,x)::r=>by have:=Ea E r;simp only[fK,Zj]at this ⊢;rw[this,pA];rfl
theorem N2(E:EV)(x:Option aW):(x.map (aW.sub E)).map (aW.ev [])=D9 E x:=by
 cases x with
 |none=>rfl
 |some x=>exact congrArg some (pA E x)
def cu(x:aW)(E:EV)(K:I→Bool):Bool:=match x with | .t n=>ll E n K | .k v=>K v
theorem pB(x:aW)(E:EV)(K:I→Bool):cu x E K=K (x.val E):=by
 cases x with
 |t n=>exact mN E n K
 |k v=>rfl
def l7(E:EV):List aW→(List I→Bool)→Bool
 |[],K=>K []
 |x::r,K=>cu x E λv=>l7 E r λvs=>K (v::vs)
theorem Eb(E:EV):∀(xs:List aW)(K:List I→Bool),l7 E xs K=K (kv E xs)
 |[],K=>rfl
 |x::r,K=>by rw[l7,pB,Eb E r];rfl
def q_(E:EV):List (Nat×Nat×aW)→(List (Nat×Nat×I)→Bool)→Bool
 |[],K=>K []
 |(a,b,x)::r,K=>cu x E λv=>q_ E r λvs=>K ((a,b,v)::vs)
theorem Ec(E:EV):∀(xs:List (Nat×Nat×aW)) (K:List (Nat×Nat×I)→Bool),q_ E xs K=K (zm E xs)
 |[],K=>rfl
 |(a,b,x)::r,K=>by rw[q_,pB,Ec E r];rfl
def pC(E:EV)(x:Option aW)(K:Option I→Bool):Bool:=match x with|none=>K none|some x=>cu x E λv=>K (some v)
theorem N3(E:EV)(x:Option aW)(K:Option I→Bool):pC E x K=K (D9 E x):=by
 cases x with
 |none=>rfl
 |some x=>exact pB x E _
def nI(x:bM)(f:Nat):TT→Nat→(TT→Bool)→Bool:=
 aaR (motive:=λ_=>TT→Nat→(TT→Bool)→Bool) (λt _ K=>K t)
  (λ_ b t i K=>TT.casesOn (motive:=λ_=>Bool) t
    (cond (aaI i 0) (K (.node x .leaf .leaf)) (cond (aaI (aa2 i 2) 1) (b .leaf (aa1 i 2) λl=>K (.node .gone l .leaf)) (b .leaf (aaZ (aa1 i 2) 1) λr=>K (.node .gone .leaf r))))
    (λa l r=>cond (aaI i 0) (K (.node x l r)) (cond (aaI (aa2 i 2) 1) (b l (aa1 i 2) λl=>K (.node a l r)) (b r (aaZ (aa1 i 2) 1) λr=>K (.node a l r))))) f
theorem Ed(x:bM):∀(f:Nat)(t:TT)(i:Nat)(K:TT→Bool),nI x f t i K=K (TT.jh x f t i):=by
 intro f;induction f with
 |zero=>intro t i K;cases t<;>rfl
 | succ f b=>
  intro t i K;cases t with
  | leaf=>show cond (aaI i 0) (K (.node x .leaf .leaf)) (cond (aaI (i%2) 1) (nI x f .leaf (i/2) λl=>K (.node .gone l .leaf)) (nI x f .leaf (i/2-1) λr=>K (.node .gone .leaf r)))=_;rw[b,b,TT.jh];cases aaI i 0<;>cases aaI (i%2) 1<;>rfl
  | node a l r=>show cond (aaI i 0) (K (.node x l r)) (cond (aaI (i%2) 1) (nI x f l (i/2) λl=>K (.node a l r)) (nI x f r (i/2-1) λr=>K (.node a l r)))=_;rw[b,b,TT.jh];cases aaI i 0<;>cases aaI (i%2) 1<;>rfl
def pD(T:S)(i:Nat)(x:bM)(K:S→Bool):Bool:=match T with|⟨n,t⟩=>nI x (aa9 i) t i λt=>K ⟨n,t⟩
theorem N4(T:S)(i:Nat)(x:bM)(K:S→Bool):pD T i x K=K (T.set i x):=by obtain⟨n,t⟩:=T;exact Ed x (i+1) t i λt=>K ⟨n,t⟩
def uf(T:S)(x:bM)(K:S→Bool):Bool:=match T with|⟨n,t⟩=>nI x (aa9 n) t n λt=>jC (aa9 n) λm=>K ⟨m,t⟩
theorem N5(T:S)(x:bM)(K:S→Bool):uf T x K=K (T.push x):=by obtain⟨n,t⟩:=T;simp only[uf,Ed,ub];rfl
def pE(x:bM)(K:bM→Bool):Bool:=
 match x with
 | .row cs=>lk cs λcs=>K (.row cs)
 | .map es=>lk es λes=>K (.map es)
 | .tok a b=>jC a λa=>K (.tok a b)
 | .fU s p=>jC p λp=>K (.fU s p)
 | .h4 T u b=>K (.h4 T u b)
 | .kn U bs=>K (.kn U bs)
 | .gone=>K .gone
theorem N6(x:bM)(K:bM→Bool):pE x K=K x:=by cases x<;>simp only[pE,uc,ub]
def zn(n:Nat):I→List I→(List I→Bool)→Bool:=aaR (motive:=λ_=>I→List I→(List I→Bool)→Bool) (λv l K=>aaM (motive:=λ_=>Bool) (K []) (λ_ t _=>K (v::t)) l) (λ_ a v l K=>aaM (motive:=λ_=>Bool) (K []) (λx t _=>mM (a v t) λr=>mM K (x::r)) l) n
theorem Ee:∀(n:Nat)(v:I)(l:List I)(K:List I→Bool),zn n v l K=K (l.set n v)
 |0,v,[],K=>rfl
 |0,v,x::t,K=>rfl
 |n+1,v,[],K=>rfl
 | n+1,v,x::t,K=>by show zn n v t (λr=>K (x::r))=_;rw[Ee n v t];rfl
def ug(o:Nat):List I→List I→(List I→Bool)→Bool
 |[],cs,K=>K cs
 |v::r,cs,K=>zn o v cs λcs=>ug (aa9 o) r cs K
theorem Ef:∀(o:Nat)(l cs:List I)(K:List I→Bool),ug o l cs K=K (setCells cs o l)
 |_,[],cs,K=>rfl
 |o,v::r,cs,K=>by rw[ug,Ee,Ef (aa9 o) r];rfl
inductive fC where
 |wr (v:I) (i:Nat) (cs:List I) (o:Nat) (news:List I)
 |aJ (v:I)
 |set (v:I) (i:Nat) (x:bM)
 |push (v:I) (x:bM)
 |gp (v:I) (i:Nat) (x:bM)
 |gs (v:I) (i j:Nat) (x:bM)
def fC.app(T:S):fC→I×S
 | .wr v i cs o news=>(v,T.set i (.row (setCells cs o news)))
 | .aJ v=>(v,T)
 | .set v i x=>(v,T.set i x)
 | .push v x=>(v,T.push x)
 | .gp v i x=>(v,(T.set i .gone).push x)
 | .gs v i j x=>(v,(T.set i .gone).set j x)
def j4(T:S)(r:Option fC)(K:fZ):Bool:=
 match r with
 |none=>false
 | some e=>(match e with
   | .wr v i cs o news=>fv v λv=>lk news λnews=>ug o news cs λcs=>pD T i (.row cs) (K v)
   | .aJ v=>fv v λv=>K v T
   | .set v i x=>fv v λv=>pE x λx=>pD T i x (K v)
   | .push v x=>fv v λv=>pE x λx=>uf T x (K v)
   | .gp v i x=>fv v λv=>pE x λx=>pD T i .gone λT=>uf T x (K v)
   | .gs v i j x=>fv v λv=>pE x λx=>pD T i .gone λT=>pD T j x (K v))
theorem Eg(T:S)(r:Option fC)(K:fZ):j4 T r K=hL (r.map (fC.app T)) K:=by
 cases r with
 |none=>rfl
 |some e=>cases e<;>simp only[j4,D7,N6,N4,N5,uc,Ef,Yc,fC.app,hL]
def zo(T:S)(n:Nat)(x v:I):Option fC:=
 match x with
 | .ptr id o=>
  match T.t.get id with
  | .row cs=>cond (and v.known (and (aaI v.cells.length n) (and (v.cells.all I.scalar) (y0 (aaY o n) cs)))) (some (.wr (.aq []) id cs o v.cells)) none
  |_=>none
 |_=>none
theorem N7(T:S)(n:Nat)(x v:I):(zo T n x v).map (fC.app T)=(qV T n x v).map λT=>(.aq [],T):=by
 cases x with
 | ptr id o=>
  simp only[zo,qV];cases hc:T.t.get id with
  | row cs=>
   dsimp only;rw[y1,nb];by_cases h:v.known=true∧v.cells.length=n∧v.cells.all I.scalar=true∧o+n≤cs.length
   · rw [aa h];have:(v.known&&(decide (v.cells.length=n)&&(v.cells.all I.scalar&&decide (aaY o n≤cs.length))))=true:=by
      simp only[h.1,h.2.1,h.2.2.1,decide_true,abb,dU];exact h.2.2.2
     rw[this];rfl
   · rw [ab h];have:(v.known&&(decide (v.cells.length=n)&&(v.cells.all I.scalar&&decide (aaY o n≤cs.length))))=false:=by
      rw[aau];intro a;simp only[X1,dU]at a;exact h a
     rw[this];rfl
  |_=>rfl
 |_=>rfl
def zp(T:S)(mu:Bool)(cells:List I):fC:=cond mu (.push (.ptr T.n 0) (.row cells)) (.aJ (.ae cells))
theorem Eh(T:S)(mu:Bool)(cells:List I):(zp T mu cells).app T=o9 T mu cells:=by cases mu<;>rfl
def zq(T:S)(mu:Bool)(n:Nat)(v:I):Option fC:=if v.known∧v.cells.length=n then some (zp T mu v.cells)else none
theorem N8(T:S)(mu:Bool)(n:Nat)(v:I):(zq T mu n v).map (fC.app T)=qW T mu n v:=by
 unfold zq qW;split
 ·exact congrArg some (Eh _ _ _)
 ·rfl
def zr(T:S)(mu:Bool)(sz a:Nat)(b:List I)(c:List (Nat×Nat×I)):Option fC:=
 match iD (XS a b).flatten c with
 |some cells=>some (cond mu (.push (.row T.n 0 a sz) (.row cells)) (.aJ (.ak .full a cells)))
 |none=>none
theorem N9(T:S)(mu:Bool)(sz a:Nat)(b:List I)(parts:List (Nat×Nat×I)):(zr T mu sz a b parts).map (fC.app T)=qX T mu sz a b parts:=by
 unfold zr qX;cases iD (XS a b).flatten parts with
 |none=>rfl
 |some cells=>cases mu<;>rfl
def zs(T:S)(mu:Bool)(sz b:Nat)(x y:I):Option fC:=
 match fi T.ah sz y with
 |none=>none
 | some (m,news)=>
  if ¬news.all I.scalar then none else
  match x with
  | .ak tk len cells=>
   if m=0 then some (.aJ (.ak tk len cells))
   else if ¬(cells.length=len*sz∧(len+m)*b≤140737488355328∧len+m≤9223372036854775807)then none
   else match tk,mu with
   | .nil,true | .full,true=>some (.push (.row T.n 0 (len+m) sz) (.row (cells++news)))
   | .nil,false | .full,false=>some (.push (.ak (.own T.n) (len+m) (cells++news)) (.tok ((len+m)*sz) sz))
   | .own t,_=>match T.t.get t with
    | .tok k a=>if k=len*sz∧a=sz then some (.gp (.ak (.own T.n) (len+m) (cells++news)) t (.tok ((len+m)*sz) sz))else none
    |_=>none
   | .dead,_=>none
  | .row id o len a=>
   match T.t.get id with
   | .row cs=>
    if m=0 then some (.aJ (.row id o len a))
    else if ¬(o=0∧a=sz∧(len+m)*b≤140737488355328∧len+m≤9223372036854775807)then none
    else if(len+m)*sz≤cs.length then some (.wr (.row id 0 (len+m) sz) id cs (len*sz) news)
    else if cs.length=len*sz then some (.gp (.row T.n 0 (len+m) sz) id (.row (cs++news)))
    else none
   |_=>none
  |_=>none
theorem N_(T:S)(mu:Bool)(sz a:Nat)(x y:I):(zs T mu sz a x y).map (fC.app T)=qY T mu sz a x y:=by
 unfold zs qY;cases fi T.ah sz y with
 |none=>rfl
 | some p =>
  obtain⟨m,news⟩:=p;dsimp only;split
  ·rfl
  · cases x <;> try rfl
    · rename_i tk len cells;dsimp only;split
      ·rfl
      · split
        ·rfl
        · cases tk<;>cases mu<;>try rfl
          all_goals
           rename_i t;dsimp only;generalize T.t.get t=o;cases o<;>try rfl
           dsimp only;split<;>rfl
    · rename_i id o len b;dsimp only;generalize T.t.get id=o;cases o<;>try rfl
      dsimp only;split
      ·rfl
      · split
        ·rfl
        · split
          ·rfl
          ·split<;>rfl
def zt(T:S)(mu:Bool)(sz b:Nat)(a:List I)(d cap:I):Option fC:=
 match d,cap with
 | .int .i64 n,.int .i64 c=>
  if 0≤n∧n≤c∧b*c≤281474976710656∧c≤9223372036854775807∧a.length=sz then
   if mu then some (.push (.row T.n 0 n.toNat sz) (.row (XS c.toNat a).flatten))
   else if n=c then some (.aJ (.ak .full n.toNat (XS n.toNat a).flatten))else none
  else none
 |_,_=>none
theorem Oa(T:S)(mu:Bool)(sz b:Nat)(d:List I)(a cap:I):(zt T mu sz b d a cap).map (fC.app T)=o_ T mu sz b d a cap:=by
 unfold zt o_;cases a<;>try rfl
 rename_i k n;cases k<;>try rfl
 cases cap<;>try rfl
 rename_i k c;cases k<;>try rfl
 dsimp only;split
 · split
   ·rfl
   ·split<;>rfl
 ·rfl
def zu(T:S)(sz:Nat)(x y:I):Option fC:=
 match x,fi T.ah sz y with
 | .row id o len _,some (m,news)=>
  match T.t.get id with
  | .row cs=>
   let n:=min m len
   if news.all I.scalar∧o+n*sz≤cs.length then some (.wr (.int .i64 n) id cs o (news.take (n*sz)))else none
  |_=>none
 |_,_=>none
theorem Ob(T:S)(sz:Nat)(x y:I):(zu T sz x y).map (fC.app T)=qZ T sz x y:=by
 unfold zu qZ;cases x<;>try rfl
 rename_i id o len z;cases fi T.ah sz y with
 |none=>rfl
 | some p=>
  obtain⟨m,news⟩:=p;dsimp only;generalize T.t.get id=q;cases q<;>try rfl
  dsimp only;split<;>rfl
def zv(T:S)(kk:FK)(m k v:I):Option fC:=
 match m with
 | .map id=>
  match T.t.get id with
  | .map es=>if plainKey kk k∧v.known then(match iE kk k es 0 with
      |some (some (i,_))=>some (.set (.aq []) id (.map (es.set i (k,v))))
      |some none=>some (.set (.aq []) id (.map (es++[(k,v)])))
      |none=>none)else none
  |_=>none
 |_=>none
theorem Oc(T:S)(kk:FK)(m k v:I):(zv T kk m k v).map (fC.app T)=(q0 T kk m k v).map λT=>(.aq [],T):=by
 unfold zv q0;cases m<;>try rfl
 rename_i id;dsimp only;generalize T.t.get id=q;cases q<;>try rfl
 rename_i es;dsimp only;split
 · cases iE kk k es 0 with
   |none=>rfl
   | some r=>
    cases r with
    |none=>rfl
    |some p=>rfl
 ·rfl
def zw(T:S)(x:I):Option fC:=
 match x with
 | .row id o len sz=>
  match T.t.get id with
  | .row cs=>if o+len*sz≤cs.length then some (.set (.ak .dead len ((cs.drop o).take (len*sz))) id .gone)else none
  |_=>none
 | .ptr id o=>
  match T.t.get id with
  | .row cs=>match gP (λi=>T.t.get i) cs with
   |some (l,a)=>if a=id then none else some (.gs (.ptr id o) a id (.row l))
   |none=>some (.set (.ae (cs.drop o)) id .gone)
  |_=>none
 | .ak tk len cells=>some (.aJ (.ak tk len cells))
 | .ae cs=>some (.aJ (.ae cs))
 | .agg cells=>match gP (λi=>T.t.get i) cells with
  |some (l,id)=>some (.set (.agg l) id .gone)
  |none=>some (.aJ (.agg cells))
 |_=>none
theorem Od(T:S)(x:I):(zw T x).map (fC.app T)=nD T x:=by
 unfold zw nD;cases x<;>try rfl
 · rename_i id o;dsimp only;generalize T.t.get id=q;cases q<;>try rfl
   rename_i cs;dsimp only;cases gP (λi=>T.t.get i) cs with
   |none=>rfl
   | some q=>
    obtain⟨l,a⟩:=q;dsimp only;by_cases e:a=id
    ·rw[aa e,aa e];rfl
    ·rw[ab e,ab e];rfl
 · rename_i id o len sz;dsimp only;generalize T.t.get id=q;cases q<;>try rfl
   dsimp only;split<;>rfl
 · rename_i cs;dsimp only;cases gP (λi=>T.t.get i) cs with
   |none=>rfl
   |some q=>rfl
structure Oe where
 f:dE→EV→S→fZ→Bool
structure Of where
 f:EV→I→(EV→Bool)→Bool
structure uh where
 f:dE→EV→S→(EV→S→Bool)→Bool
structure Og where
 f:dE→EV→S→(EV→S→Bool)→(fj→EV→S→Bool)→Bool
structure Oh where
 f:EV→List I→(EV→Bool)→Bool
structure Ei where
 f:EV→S→Bool→Bool
structure Oi where
 f:EV→S→(List I→Bool)→Bool
structure re where
 f:dE→List I→S→fZ→Bool
def pF(a:Bool)(x:Option I)(K:I→Bool):Bool:=cond a (eS x K) (q9 x K)
theorem Ej(a:Bool)(x:Option I)(K:I→Bool):pF a x K=dL x K:=by cases a<;>simp only[pF,cond_true,cond_false,pz,D8]
def ui(a:Option Nat)(sz:Nat)(x i:I)(K:I→Bool):Bool:=
 match x with
 | .ak _ len cells=>(match i with
   | .int _ n=>(match n with
     | .ofNat m=>(match a with|none=>cond (aaN m len) (ud (aa0 m sz) cells λr=>K (.ae r)) false|some _=>eS (lh a sz x i) K)
     |_=>eS (lh a sz x i) K)
   |_=>eS (lh a sz x i) K)
 | .ae cells=>(match i with
   | .int _ n=>(match n with
     | .ofNat m=>(match a with|some l=>cond (aaN m l) (ud (aa0 m sz) cells λr=>K (.ae r)) false|none=>eS (lh a sz x i) K)
     |_=>eS (lh a sz x i) K)
   |_=>eS (lh a sz x i) K)
 |_=>eS (lh a sz x i) K
theorem Oj(a:Option Nat)(sz:Nat)(x i:I)(K:I→Bool):ui a sz x i K=dL (aP a sz x i) K:=by
 rw[←N1,←pz];cases x<;>try rfl
 · rename_i cells;cases i<;>try rfl
   rename_i k n;cases n<;>try rfl
   rename_i m;cases a<;>try rfl
   rename_i l;rw[pz];simp only[ui,lh,asNat,ue,q7];cases aaN m l<;>rfl
 · rename_i tk len cells;cases i<;>try rfl
   rename_i k n;cases n<;>try rfl
   rename_i m;cases a<;>try rfl
   rw[pz];simp only[ui,lh,asNat,ue,q7];cases aaN m len<;>rfl
def zx(a:Nat)(x:I)(K:I→Bool):Bool:=
 match x with
 | .ptr i o=>jC (aaY o a) λo=>K (.ptr i o)
 | .ae cs=>ud a cs λr=>K (.ae r)
 |_=>eS (W a x) K
theorem Ol(a:Nat)(x:I)(K:I→Bool):zx a x K=dL (W a x) K:=by
 unfold zx;split
 ·rw[ub];rfl
 ·rw[ue];rfl
 ·exact pz _ _
def uj:dQ→Oe
 | .mv x=>⟨λ_ E T K=>cu x E λv=>K v T⟩
 | .pick c a b=>⟨λ_ E T K=>cu c E λc=>o8 c true (cu a E λv=>K v T) (cu b E λv=>K v T)⟩
 | .bin op x y=>⟨λ_ E T K=>cu x E λx=>cu y E λy=>eS ((D3 op).f x y) λv=>K v T⟩
 | .beq neg x y=>⟨λ_ E T K=>cu x E λx=>cu y E λy=>eS (kQ neg x y) λv=>K v T⟩
 | .jx k neg x=>⟨λ_ E T K=>cu x E λx=>eS (mA k neg x) λv=>K v T⟩
 | .iF neg ks x y=>⟨λ_ E T K=>cu x E λx=>cu y E λy=>eS (ja neg ks x y) λv=>K v T⟩
 | .un op x=>⟨λ_ E T K=>cu x E λx=>eS (cY op x) λv=>K v T⟩
 | .conv k x=>⟨λ_ E T K=>cu x E λx=>eS (D4 k x) λv=>K v T⟩
 | .same x=>⟨λ_ E T K=>cu x E λx=>q9 (oA x) λv=>K v T⟩
 | .jU x=>⟨λ_ E T K=>cu x E λx=>q9 (aZ x) λv=>K v T⟩
 | .field off sz agg x=>⟨λ_ E T K=>cu x E λx=>pF agg (zk off sz agg x) λv=>K v T⟩
 | .idx len sz agg x i=>⟨λ_ E T K=>cu x E λx=>cu i E λi=>pF agg (D5 len sz agg x i) λv=>K v T⟩
 | .idxs x i=>⟨λ_ E T K=>cu x E λx=>cu i E λi=>eS (D6 x i) λv=>K v T⟩
 | .gI off x=>⟨λ_ E T K=>cu x E λx=>zx off x λv=>K v T⟩
 | .fV arr sz x i=>⟨λ_ E T K=>cu x E λx=>cu i E λi=>ui arr sz x i λv=>K v T⟩
 | .slice sz x lo hi mx=>⟨λ_ E T K=>cu x E λx=>pC E lo λlo=>pC E hi λhi=>pC E mx λmx=>eS (du sz x lo hi mx) λv=>K v T⟩
 | .jV x lo hi=>⟨λ_ E T K=>cu x E λx=>pC E lo λlo=>pC E hi λhi=>eS (oB x lo hi) λv=>K v T⟩
 | .hq t x=>⟨λ_ E T K=>cu x E λv=>K (.iface t v) T⟩
 | .gQ key bE=>⟨λ_ E T K=>l7 E bE λvs=>K (.fn key vs) T⟩
 | .extract i x=>⟨λ_ E T K=>cu x E λx=>q9 (bj i x) λv=>K v T⟩
 | .build zero parts=>⟨λ_ E T K=>q_ E parts λps=>eS (bo zero ps) λv=>K v T⟩
 | .len str x=>⟨λ_ E T K=>cu x E λx=>eS (bp str x) λv=>K v T⟩
 | .hr n=>⟨λ_ E T K=>K (.int .i64 n) T⟩
 | .cap x=>⟨λ_ E T K=>cu x E λx=>eS (qA x) λv=>K v T⟩
 | .hx mx xs=>⟨λ_ E T K=>l7 E xs λvs=>eS (fy mx vs) λv=>K v T⟩
 | .load n agg x=>⟨λ_ E T K=>cu x E λx=>pF agg (q8 T n agg x) λv=>K v T⟩
 | .store n x v=>⟨λ_ E T K=>cu x E λx=>cu v E λv=>j4 T (zo T n x v) K⟩
 | .box mu n x=>⟨λ_ E T K=>cu x E λx=>j4 T (zq T mu n x) K⟩
 | .alloc mu zero=>⟨λ_ E T K=>j4 T (some (zp T mu zero)) K⟩
 | .gJ mu sz len zero parts=>⟨λ_ E T K=>q_ E parts λps=>j4 T (zr T mu sz len zero ps) K⟩
 | .append mu sz bytes x y=>⟨λ_ E T K=>cu x E λx=>cu y E λy=>j4 T (zs T mu sz bytes x y) K⟩
 | .make mu sz bytes zero len cap=>⟨λ_ E T K=>cu len E λl=>cu cap E λc=>j4 T (zt T mu sz bytes zero l c) K⟩
 | .copy sz x y=>⟨λ_ E T K=>cu x E λx=>cu y E λy=>j4 T (zu T sz x y) K⟩
 | .gR=>⟨λ_ E T K=>j4 T (some (.push (.map T.n) (.map []))) K⟩
 | .lookup kk zero ok m k=>⟨λ_ E T K=>cu m E λm=>cu k E λk=>eS (kS T.ah kk zero ok m k) λv=>K v T⟩
 | .hy kk m k v=>⟨λ_ E T K=>cu m E λm=>cu k E λk=>cu v E λv=>j4 T (zv T kk m k v) K⟩
 | .delete kk m k=>⟨λ_ E T K=>dL (tN T kk (m.val E) (k.val E)) λT=>K (.aq []) T⟩
 | .hC m=>⟨λ_ E T K=>cu m E λm=>eS (kT T.ah m) λv=>K v T⟩
 | .jW x=>⟨λ_ E T K=>cu x E λx=>eS (oD x) λv=>K v T⟩
 | .hD x=>⟨λ_ E T K=>cu x E λx=>eS (abstr T.ah x) λv=>K v T⟩
 | .h5 x=>⟨λ_ E T K=>hL (tK T (x.val E)) K⟩
 | .h6 x=>⟨λ_ E T K=>hL (tM T (x.val E)) K⟩
 | .call key args=>⟨λB E T K=>l7 E args λvs=>B key vs T K⟩
 | .h7 f args=>⟨λB E T K=>cu f E λf=>l7 E args λvs=>yD B f vs T K⟩
 | .ext e xs=>⟨λ_ E T K=>l7 E xs λvs=>hL (text T e vs) K⟩
 | .inv hE x args=>⟨λB E T K=>cu x E λx=>l7 E args λvs=>yE B hE x vs T K⟩
theorem Om(x:Option S)(K:fZ):hL (x.map λT=>(.aq [],T)) K=dL x λT=>K (.aq []) T:=by cases x<;>rfl
theorem Ek(B:dE)(E:EV)(T:S)(K:fZ)(op:dQ):(uj op).f B E T K=l5 B [] T K (op.sub E):=by cases op<;>simp only[uj,dQ.sub,l5,pA,D_,Ea,N2,pB,Eb,Ec,N3,pz,D8,Ej,Oj,Ol,NW,NX,NY,NZ,N0,zl,Eg,N7,N8,N9,N_,Oa,Ob,Oc,Om,Yc,Eh]<;>rfl
def lq(n:Nat):Option Nat→Of
 |none=>⟨λE _ K=>K E⟩
 |some d=>cond (aaN d n) ⟨λE v K=>K ((d,v)::E)⟩ ⟨λE _ K=>K E⟩
theorem zy(n:Nat)(d:Option Nat)(E:EV)(v:I)(K:EV→Bool):(lq n d).f E v K=K (fa n E d v):=by
 cases d with
 |none=>rfl
 | some d=>simp only[lq,fa,eQ];cases aaN d n<;>rfl
def rf(n:Nat)(o:bz):uh:=
 match o.guard with
 |none=>⟨λB E T K=>(uj o.op).f B E T λv a=>(lq n o.dst).f E v λE=>K E a⟩
 | some (s,want)=>⟨λB E T K=>ll E s λg=>
     q2 g want ((lq n (some s)).f E (.bool want) λE=>(uj o.op).f B E T λv a=>(lq n o.dst).f E v λE=>K E a)
      ((lq n (some s)).f E (.bool !want) λE=>(lq n o.dst).f E (.aq []) λE=>K E T) ((lq n (some s)).f E (.aq []) λE=>(lq n o.dst).f E (.aq []) λE=>K E T)⟩
theorem zz(n:Nat)(o:bz)(B:dE)(E:EV)(T:S)(K:EV→S→Bool):(rf n o).f B E T K=nF B n o E T K:=by
 unfold rf nF;cases a:o.guard with
 |none=>simp only[Ek,zy]
 |some g=>simp only[Ek,zy,fa,mN]
def rh(n:Nat):List bz→uh
 |[]=>⟨λ_ E T K=>K E T⟩
 |o::r=>⟨λB E T K=>(rf n o).f B E T λE' a=>(rh n r).f B E' a K⟩
theorem On(n:Nat):∀(l:List bz)(B:dE)(E:EV)(T:S)(K:EV→S→Bool),(rh n l).f B E T K=k9 B n l E T K:=by
 intro l;induction l with
 |nil=>intro B E T K;rfl
 | cons o r a=>intro B E T K;simp only[rh,zz,k9,nF,a]
def pG(n:Nat)(ops:List bz):List Nat→uh
 |[]=>⟨λ_ E T K=>K E T⟩
 | i::r=>match ops[i]? with
  |some o=>⟨λB E T K=>(rf n o).f B E T λE' a=>(pG n ops r).f B E' a K⟩
  |none=>⟨λ_ _ _ _=>false⟩
theorem zA(n:Nat)(ops:List bz):∀(l:List Nat)(B:dE)(E:EV)(T:S)(K:EV→S→Bool),(pG n ops l).f B E T K=nG B n ops l E T K:=by
 intro l;induction l with
 |nil=>intro B E T K;rfl
 | cons i r a=>
  intro B E T K;simp only[pG,nG];cases ops[i]? with
  |none=>rfl
  |some o=>simp only[zz,a]
def uk(o:bz):Ei:=
 match o.op with
 | .load n agg x=>⟨λE T X=>cu x E λx=>ll E (o.dst.getD 0) λd=>and (k_ (q8 T n agg x) d) X⟩
 | .lookup kk zero ok m k=>⟨λE T X=>and (k_ (kS T.ah kk zero ok (m.val E) (k.val E)) (dM E (o.dst.getD 0))) X⟩
 | .hC m=>⟨λE T X=>and (k_ (kT T.ah (m.val E)) (dM E (o.dst.getD 0))) X⟩
 | .hD x=>⟨λE T X=>and (k_ (abstr T.ah (x.val E)) (dM E (o.dst.getD 0))) X⟩
 |_=>⟨λ_ _ X=>X⟩
theorem El(o:bz)(E:EV)(T:S)(X:Bool):(uk o).f E T X=(pe T E o&&X):=by unfold uk pe;cases o.op<;>simp only[pA,abb,pB,mN,zl]<;>rfl
def pH(ops:List bz):List Nat→Ei
 |[]=>⟨λ_ _ X=>X⟩
 | l :: r=>match ops[l]? with
  | some o=>(match o.guard with
    |none=>⟨λE T X=>(uk o).f E T ((pH ops r).f E T X)⟩
    |some (s,want)=>⟨λE T X=>and (ll E s λg=>yI g want ((uk o).f E T true)) ((pH ops r).f E T X)⟩)
  |none=>⟨λE T X=>(pH ops r).f E T X⟩
theorem Oo(ops:List bz):∀(l:List Nat)(E:EV)(T:S)(X:Bool),(pH ops l).f E T X=pf ops E T X l:=by
 intro l;induction l with
 |nil=>intro E T X;rfl
 | cons i r a=>
  intro E T X;simp only[pH,pf];cases ops[i]? with
  |none=>simp only[a,abb]
  | some o=>
   simp only[tV];cases o.guard with
   |none=>simp only[a,El]
   |some g=>simp only[a,El,Bool.and_true,mN]
def um(n:Nat)(ops:List bz)(a:List Nat):List (List Nat×Nat×List Nat)→uh
 |[]=>pG n ops a
 | (b,e,st)::r=>match ops[e]? with
  |some o=>⟨λB E T K=>(pG n ops b).f B E T λc g=>(rf n o).f B c g λh d=>(pH ops st).f c d ((um n ops a r).f B h d K)⟩
  |none=>⟨λB E T K=>(pG n ops b).f B E T λ_ _=>false⟩
theorem Oq(n:Nat)(ops:List bz)(a:List Nat):∀(l:List (List Nat×Nat×List Nat)) (B:dE) (E:EV) (T:S) (K:EV→S→Bool),(um n ops a l).f B E T K=pg B n ops a l E T K:=by
 intro l;induction l with
 |nil=>intro B E T K;exact zA _ _ _ _ _ _ _
 | cons p r b=>
  obtain⟨c,e,st⟩:=p;intro B E T K;simp only[um,pg];cases ops[e]? with
  |none=>simp only[zA]
  |some o=>simp only[zA,zz,Oo,b]
def pI(n:Nat):List Nat→Oh
 |[]=>⟨λE _ K=>K E⟩
 |t::r=>cond (aaN t n) ⟨λE s K=>aaM (motive:=λ_=>Bool) ((pI n r).f ((t,.bot)::E) [] K) (λv q _=>(pI n r).f ((t,v)::E) q K) s⟩ ⟨λE s K=>(pI n r).f E s.tail K⟩
theorem Ot(n:Nat):∀(l:List Nat)(E:EV)(s:List I)(K:EV→Bool),(pI n l).f E s K=K (iN n E l s):=by
 intro l;induction l with
 |nil=>intro E s K;cases s<;>rfl
 | cons t r a=>
  intro E s K;simp only[pI,iN,eQ];cases aaN t n with
  |true=>cases s<;>simp only[cond_true,a,List.headD_nil,List.headD_cons,List.tail_nil,List.tail_cons]
  |false=>simp only[cond_false,a]
def ri(E:EV):List Nat→(List I→Bool)→Bool
 |[],K=>K []
 |t::r,K=>ll E t λv=>ri E r λvs=>K (v::vs)
theorem Em(E:EV):∀(l:List Nat)(K:List I→Bool),ri E l K=K (hM E l)
 |[],K=>rfl
 |t::r,K=>by rw[ri,mN,Em E r];rfl
def l8(ks:List Nat):EV→EV
 |[]=>[]
 |(t,v)::E=>cond (gX t ks) (l8 ks E) ((t,v)::l8 ks E)
def uo(ks:List Nat)(E:EV):(EV→Bool)→Bool:=aaM (motive:=λ_=>(EV→Bool)→Bool) (λK=>K []) (λp _ a K=>aa_ (motive:=λ_=>Bool) (λt v=>cond (gX t ks) (a K) (a λE=>K ((t,v)::E))) p) E
theorem zB(ks:List Nat):∀(E:EV)(K:EV→Bool),uo ks E K=K (l8 ks E)
 |[],K=>rfl
 | (t,v)::E,K=>by show cond (gX t ks) (uo ks E K) (uo ks E λE=>K ((t,v)::E))=_;rw[zB ks E,zB ks E,l8];cases gX t ks<;>rfl
theorem En:∀(t:Nat)(l:List Nat),gX t l=decide (t∈l)
 |t,[]=>rfl
 | t,s::r=>by
  rw[gX,nb,En t r];by_cases h:t=s
  ·simp[h]
  ·simp[h]
theorem zC(ks:List Nat):∀(E:EV)(i:Nat),dM (l8 ks E) i=if i∈ks then .bot else dM E i
 |[],i=>by simp[l8,dM]
 | (t,v)::E,i=>by
  rw[l8,En,tO];by_cases h:t∈ks
  · simp only[h,decide_true,cond_true,zC ks E i];by_cases hi:i∈ks
    ·rw[aa hi,aa hi]
    ·rw[ab hi,ab hi,ab (show ¬t=i from λe=>hi (e▸h))]
  · simp only[h,decide_false,cond_false,tO,zC ks E i];by_cases e:t=i
    ·subst e;rw[aa rfl,ab h,aa rfl]
    ·rw[ab e,ab e]
theorem Eo:∀(ks:List Nat)(a:Env)(i:Nat),(Rb.e2 a ks).getD i .bot=if i∈ks then .bot else a.getD i .bot
 |[],a,i=>by simp[Rb.e2]
 | t :: r,a,i=>by
  rw[Rb.e2,Eo r];by_cases b:i∈r
  ·rw[aa b,aa (aai _ b)]
  · rw [ab b];by_cases e:t=i
    · subst e;rw[aa aaj,Zg,Ym];simp only[a_];split<;>rfl
    ·rw[ab (by simp only[aah,not_or];exact⟨λh=>e h.symm,b⟩),Zg,YR e,←Zg]
theorem Ep:∀(ks:List Nat)(a:Env),(Rb.e2 a ks).length=a.length
 |[],a=>rfl
 |t::r,a=>by rw[Rb.e2,Ep r];simp
theorem dm.aJ{n:Nat}{E:EV}{a:Env}(h:dm n E a)(ks:List Nat):dm n (l8 ks E) (Rb.e2 a ks):=⟨by rw[Ep];exact h.1,λi=>by rw[zC,Eo,h.2 i]⟩
def Er(id:Nat)(N:EV→S→Bool)(X:fj→EV→S→Bool):fj→EV→S→Bool
 | .exit a,E,T=>cond (aaI a id) (N E T) (X (.exit a) E T)
 |e,E,T=>X e E T
def Es(F:List I→S→(List I→S→Bool)→Bool)(n:Nat):List I→S→Bool:=aaR (motive:=λ_=>List I→S→Bool) (λ_ _=>false) (λ_ a s T=>F s T a) n
def ij(fuel n:Nat):c6→Og
 | .skip=>⟨λ_ E T N _=>N E T⟩
 | .region ops=>⟨λB E T N _=>(rh n ops).f B E T N⟩
 | .draw ops _ bh last=>⟨λB E T N _=>(um n ops last bh).f B E T N⟩
 | .seq a b=>⟨λB E T N X=>(ij fuel n a).f B E T (λE T=>(ij fuel n b).f B E T N X) X⟩
 | .cond x a b=>⟨λB E T N X=>cu x E λx=>o8 x true ((ij fuel n a).f B E T N X) ((ij fuel n b).f B E T N X)⟩
 | .block id a=>⟨λB E T N X=>(ij fuel n a).f B E T N (Er id N X)⟩
 | .loop vs ks a=>⟨λB E T N X=>uo ks E λd=>ri E vs λs=>Es (λs T K=>(pI n vs).f d s λE=>(ij fuel n a).f B E T (λE' c=>ri E' vs λs=>K s c) X) fuel s T⟩
 | .exit id=>⟨λ_ E T _ X=>X (.exit id) E T⟩
 | .ret=>⟨λ_ E T _ X=>X .ret E T⟩
 | .freeze t a=>⟨λB E T N X=>ll E t λv=>j4 T (zw T v) λv c=>(lq n (some t)).f E v λE=>(ij fuel n a).f B E c N X⟩
 | .join vs ks a b=>⟨λ_ _ _ _ _=>false⟩
 | .gw vs ks ops b=>⟨λ_ _ _ _ _=>false⟩
theorem Ou(hB:eR Φ B)(w:je Φ)(fuel n:Nat):∀(c:c6){E:EV}{k:Env}{T:S}{N:EV→S→Bool}{X:fj→EV→S→Bool}{Q:fj→Env→Z→Prop},dm n E k→(ij fuel n c).f B E T N X=true →
  (∀E' aA d,dm n E' aA→N E' d=true→Q .normal aA d.ah)→(∀x E' aA d,x ≠ .normal→dm n E' aA→X x E' d=true→Q x aA d.ah)→cp Φ c k T.ah Q:=by
 have uq:∀(l:List bz){E:EV}{k:Env}{T:S}{N:EV→S→Bool}{Q:Env→Z→Prop},dm n E k→(rh n l).f B E T N=true→(∀E' aA d,dm n E' aA→N E' d=true→Q aA d.ah)→h8 Φ l k T.ah Q:=by intro l E k T N Q ha h hN;rw[On]at h;refine yz w ha (yH (Q:=λE' H'=>∃d,H'=d.ah∧N E' d=true) hB h λe d h=>⟨d,rfl,h⟩) λE' aA H' o g=>?_;obtain⟨d,rfl,g⟩:=g;exact hN _ _ _ o g
 intro c;induction c with
 |skip=>intro E k T N X Q ha h hN j;exact hN _ _ _ ha h
 |region ops=>intro E k T N X Q ha h hN j;exact uq ops ha h hN
 | draw ops pr bh last=>intro E k T N X Q ha h hN j;simp only[ij,Oq]at h;refine DD w ha (DJ (Q:=λE' H'=>∃d,H'=d.ah∧N E' d=true) hB h λe d h=>⟨d,rfl,h⟩) λE' aA H' o g=>?_;obtain⟨d,rfl,g⟩:=g;exact hN _ _ _ o g
 | seq a b r u=>
  intro E k T N X Q ha h hN j;simp only[ij]at h;simp only[cp];refine r ha h (λE' aA d o g=>u o g hN j) λx E' aA d p o g=>?_;cases x with
  |normal=>exact absurd rfl p
  |exit i=>exact j _ _ _ _ p o g
  |ret=>exact j _ _ _ _ p o g
 |join vs ks a b r u=>intro E k T N X Q ha h hN j;cases h
 | cond x a b r u=>intro E k T N X Q ha h hN j;simp only[ij,pB]at h;rw[←pA,tP ha]at h;exact yG h (λh=>r ha h hN j) λh=>u ha h hN j
 | block id a q=>
  intro E k T N X Q ha h hN j;simp only[ij]at h;simp only[cp];refine q ha h hN λx E' aA d p o g=>?_;cases x with
  |normal=>exact absurd rfl p
  | exit i=>
   simp only[Er,nb]at g;dsimp only;by_cases hi:i=id
   ·rw[aa hi];simp only[hi,decide_true,cond_true]at g;exact hN _ _ _ o g
   ·rw[ab hi];simp only[hi,decide_false,cond_false]at g;exact j _ _ _ _ p o g
  |ret=>exact j _ _ _ _ p o g
 | loop vs ks a q=>
  intro E k T N X Q ha h hN j;simp only[ij,zB,Em,Ot]at h;simp only[cp];have main:∀(m:Nat)(s:List I)(T:S),Es (λs T K=>(ij fuel n a).f B (iN n (l8 ks E) vs s) T (λE' d=>K (hM E' vs) d) X) m s T=true →
    aC (λ(s:List I×Z) (K:List I×Z→Prop)=>
      cp Φ a (h_ (e2 k ks) vs s.1) s.2 λe aA H'=>match e with
       | .normal=>K (ep aA vs,H')
       |e=>Q e aA H') (s,T.ah):=by
   intro m;induction m with
   |zero=>intro s T h;cases h
   | succ m y=>
    intro s T h;refine aC.step ?_;refine q ((ha.aJ ks).h_ vs s) h (λE' aA d o g=>?_) λx E' aA d p o g=>?_
    · dsimp only;rw[←o.ep vs];exact y _ _ g
    · cases x with
      |normal=>exact absurd rfl p
      |exit i=>exact j _ _ _ _ p o g
      |ret=>exact j _ _ _ _ p o g
  rw[←ha.ep vs];exact main fuel _ _ h
 |exit id=>intro E k T N X Q ha h hN j;exact j _ _ _ _ (by intro h;cases h) ha h
 |ret=>intro E k T N X Q ha h hN j;exact j _ _ _ _ (by intro h;cases h) ha h
 | freeze t a q=>intro E k T N X Q ha h hN j;simp only[ij,mN,Eg,Od,zy,fa]at h;simp only[cp];rw[ha.2 t]at h;exact kz (DA _ _) h λv d g=>q (ha.set t v) g hN j
 |gw vs ks ops b q=>intro E k T N X Q ha h hN j;cases h
def nJ:List jz→Oi
 |[]=>⟨λ_ _ K=>K []⟩
 | .tmp t::r=>⟨λE T K=>ll E t λv=>(nJ r).f E T λvs=>K (v::vs)⟩
 | .cell t n agg::r=>⟨λE T K=>ll E t λx=>pF agg (q8 T n agg x) λv=>(nJ r).f E T λvs=>K (v::vs)⟩
theorem Ov:∀(rs:List jz)(E:EV)(T:S)(K:List I→Bool),(nJ rs).f E T K=ph E T rs K:=by
 intro rs;induction rs with
 |nil=>intros;rfl
 |cons r rs a=>intro E T K;cases r<;>simp only[nJ,ph,a,mN,Ej,zl]
def ur(vs:List I)(Q:fZ)(T:S):Bool:=
 match vs with
 |[v]=>Q v T
 |vs=>Q (.aq vs) T
theorem Ow(vs:List I)(Q:fZ)(T:S):ur vs Q T=Q (mC vs) T:=by
 cases vs with
 |nil=>rfl
 |cons v r=>cases r<;>rfl
def Ox(rs:List jz)(Q:fZ):fj→EV→S→Bool
 | .exit _,_,_=>false
 |_,E,T=>(nJ rs).f E T λvs=>ur vs Q T
def initK:List I→Nat→(EV→Bool)→Bool
 |[],_,K=>K []
 |a::r,i,K=>initK r (aa9 i) λE=>K ((i,a)::E)
theorem Et:∀(l:List I)(i:Nat)(K:EV→Bool),initK l i K=K (lZ l i)
 |[],_,_=>rfl
 |a::r,i,K=>by rw[initK,Et r];rfl
def uu(fuel:Nat)(f:aY):re:=⟨λB args T Q=>and (aaS args.length f.ntmps) (initK args 0 λE=>(ij fuel f.ntmps f.body).f B E T (λE T=>(nJ f.results).f E T λvs=>ur vs Q T) (Ox f.results Q))⟩
theorem Oy(hB:eR Φ B)(d:je Φ){fuel:Nat}{f:aY}{args:List I}{T:S}{K:fZ}(h:(uu fuel f).f B args T K=true){Q:ad}(e:∀v a,K v a=true→Q v a.ah):oH Φ f args T.ah Q:=by
 simp only[uu,X1,Et]at h;have hle:=aaT h.1;have ha:dm f.ntmps (lZ args 0) (args++XS (f.ntmps-args.length) .bot):=by
  refine⟨by simp;omega,λi=>?_⟩;rw[yy];simp only[aaP,bR,aaQ];simp only[Zg];by_cases hi:i<args.length
  ·rw[Zy hi]
  · rw[Zz (by omega),aab (by omega),aaD];split<;>rfl
 have fin:∀(E':EV)(aA:Env)(a:S),dm f.ntmps E' aA→(nJ f.results).f E' a (λvs=>ur vs K a)=true→kV aA a.ah f.results λvs=>Q (mC vs) a.ah:=by intro E' aA a c b;rw[Ov]at b;rw[←yA c];exact yK b λvs h=>e _ _ (by rwa [Ow]at h)
 refine Ou hB d fuel _ f.body ha h.2 (λE' aA a c b=>fin E' aA a c b) λx E' aA a g c b=>?_;cases x with
 |normal=>exact absurd rfl g
 |exit i=>cases b
 |ret=>exact fin E' aA a c b
def uv(a:Nat→Option re)(B:dE):dE:=λk args T Q=>match a k with
 |some c=>c.f B args T Q
 |none=>false
def rj(C:Ctx)(fuel:Nat):List Hint→Nat→Option re
 |[],_=>none
 |h::r,k=>cond (aaI h.dS k) (some (uu fuel (R C h))) (rj C fuel r k)
theorem Eu{C:Ctx}{fuel:Nat}:∀{L:List Hint}{k:Nat}{c:re},rj C fuel L k=some c→∃h,h∈L∧h.dS=k∧c=uu fuel (R C h)
 |[],_,_,h=>by cases h
 | p::r,k,c,h=>by
  unfold rj at h;cases hb:aaI p.dS k with
  | true=>rw[hb]at h;simp only[cond_true,Yb.injEq]at h;exact⟨p,aaj,aaV hb,h.symm⟩
  | false=>rw[hb]at h;obtain⟨f,hf,hc⟩:=Eu (L:=r) h;exact⟨f,aai _ hf,hc⟩
theorem Oz{P:Program}{a:Nat→Option (List I)}{L:List Hint}(d:ih (l6 P a) L=true)(fuel:Nat):yN (af (l6 P a)) (uv (rj (l6 P a) fuel L)):=by
 intro B hB k args T K h Q hQ;unfold uv at h;split at h
 · rename_i c hc;obtain⟨hi,hm,hk,rfl⟩:=Eu hc;have hs:oH (af (l6 P a)) (R (l6 P a) hi) args T.ah Q:=Oy hB (tm _) h hQ;refine⟨CI (yl _) hs,λf hf G w Vs hG e g=>?_⟩;have i:f=k:=by
    simp only[l6]at hf;cases b:jA P k with
    |true=>rw[b]at hf;simpa using hf.symm
    |false=>rw[b]at hf;cases hf
   subst i;exact Dt (pq P a) (by rw[←hk];exact D0 d _ hm) hs hG e g
 ·cases h
end
end Rb

namespace Rb
open Go
noncomputable section
def forced(b:Bool):Bool:=aba (motive:=λ_=>Bool) false true b
theorem OA(b:Bool):forced b=b:=by cases b<;>rfl
theorem dF{b:Bool}(h:forced b=true):b=true:=by rwa [OA]at h
def f_:List (Nat×List I×I)→pj
 |[],_,_=>none
 |e::r,k,args=>cond (aaI e.1 k) (cond (I.fW e.2.1 args) (some e.2.2) (f_ r k args)) (f_ r k args)
theorem uw{Φ:ai}:gW Φ (f_ []):=λ_ _ _ h=>by cases h
end
end Rb

namespace Rb
open Go
variable{C:Ctx}{key:Nat}{H:Z}{Q:ad}
mutual
def I.cd:I→I
 | .ae cs=> .ae (I.cf cs)
 | .ak _ len cs=> .ak .dead len (I.cf cs)
 | .fn k cs=> .fn k (I.cf cs)
 | .iface t v=> .iface t (I.cd v)
 | .agg cs=> .agg (I.cf cs)
 | .aq cs=> .aq (I.cf cs)
 |v=>v
def I.cf:List I→List I
 |[]=>[]
 |c::r=>I.cd c::I.cf r
end
theorem lr:∀cs:List I,I.cf cs=cs.map I.cd
 |[]=>rfl
 |c::r=>by rw[I.cf,lr r];rfl
theorem l9{cs:List I}{j:Nat}{c:I}(h:(I.cf cs)[j]?=some c):∃d,cs[j]?=some d∧c=d.cd:=by
 rw[lr,YN]at h;cases hc:cs[j]? with
 |none=>rw[hc]at h;cases h
 |some d=>rw[hc]at h;simp at h;exact⟨d,rfl,h.symm⟩
theorem rk(cs:List I):(I.cf cs).length=cs.length:=by rw[lr,aat]
theorem VR.cd{F:cz}{w:World}{G:aH}{c:I}{V:Value}(h:VR F w G c V):VR F w G c.cd V:=by
 induction h with
 |bot V=>exact .bot V
 |bool b=>exact .bool b
 |int k n=>exact .int k n
 |str s=>exact .str s
 |eJ=>exact .eJ
 |ptr id off h=>exact .ptr id off h
 | ae cells b o Vs h _ g=>
  refine .ae _ b o Vs (λj c i=>?_) λj c i=>?_
  ·obtain⟨d,e,rfl⟩:=l9 i;exact h j d e
  ·obtain⟨d,e,rfl⟩:=l9 i;exact g j d e
 |e5=>exact .e6 none 0
 |e6 a cap=>exact .e6 a cap
 | ak tk len cells b o cap Vs ht hle h _ g=>
  refine .ak .dead len _ b o cap Vs trivial hle (λj c i=>?_) λj c i=>?_
  ·obtain⟨d,e,rfl⟩:=l9 i;exact h j d e
  ·obtain⟨d,e,rfl⟩:=l9 i;exact g j d e
 |row id off len sz cap h hle hc=>exact .row id off len sz cap h hle hc
 |map id h=>exact .map id h
 |fJ=>exact .fJ
 | fn key bE f Vs hk hf hl _ g=>refine .fn key _ f Vs hk hf (by rw[rk];exact hl) λj c V hc l=>?_;obtain⟨d,e,rfl⟩:=l9 hc;exact g j d V e l
 | ko key k bE f Vs hk hf hl _ g=>refine .ko key k _ f Vs hk hf (by rw[rk];exact hl) λj c V hc l=>?_;obtain⟨d,e,rfl⟩:=l9 hc;exact g j d V e l
 |gu=>exact .gu
 |iface t v V _ g=>exact .iface t _ V g
 |gv=>exact .gv
 | agg cs Vs hl _ g=>refine .agg _ Vs (by rw[rk];exact hl) λj c V hc l=>?_;obtain⟨d,e,rfl⟩:=l9 hc;exact g j d V e l
 | aq cs Vs hl _ g=>refine .aq _ Vs (by rw[rk];exact hl) λj c V hc l=>?_;obtain⟨d,e,rfl⟩:=l9 hc;exact g j d V e l
theorem af.cd{args:List I}(h:af C key args H (λv H'=>Q v.cd H')):af C key args H Q:=by refine⟨by obtain⟨v,H',a⟩:=h.1;exact⟨_,_,a⟩,λf hf G w Vs hG b c=>?_⟩;refine Z9 (h.2 f hf G w Vs hG b c) λe w' he=>?_;obtain⟨V,v,H',G',e1,hQ,hv,r⟩:=he;exact⟨V,v.cd,H',G',e1,hQ,hv.cd,r⟩
theorem af.OB{args:List I}(h:af C key (I.cf args) H Q):af C key args H Q:=by refine⟨h.1,λf hf G w Vs hG b a=>?_⟩;refine h.2 f hf G w Vs hG b ⟨by rw[rk];exact a.1,λj c V hc e=>?_⟩;obtain⟨d,g,rfl⟩:=l9 hc;exact(a.2 j d V g e).cd
end Rb

namespace Rb
open Go
variable{C:Ctx}{B:dE}
noncomputable section
def rl:List (List I×I)→List I→Option I
 |[],_=>none
 |e::r,a=>cond (I.fW e.1 a) (some e.2) (rl r a)
def pJ(k:Nat):List (Nat×List I×I)→List (List I×I)
 |[]=>[]
 |e::r=>cond (aaI e.1 k) ((e.2.1,e.2.2)::pJ k r) (pJ k r)
theorem Ev(k:Nat)(args:List I):∀L:List (Nat×List I×I),rl (pJ k L) args=f_ L k args
 |[]=>rfl
 | e::r=>by
  have a:=Ev k args r;unfold pJ f_;cases aaI e.1 k with
  |false=>exact a
  | true=>
   simp only[cond_true,rl];cases I.fW e.2.1 args with
   |false=>exact a
   |true=>rfl
def zD(L:List (Nat×List I×I)):pj:=λk args=>match pJ k L with
 |[]=>none
 |l=>rl l (I.cf args)
theorem OC{L:List (Nat×List I×I)}(h:gW (af C) (f_ L)):gW (af C) (zD L):=by
 intro k args v hm H Q hQ;have:rl (pJ k L) (I.cf args)=some v:=by
  unfold zD at hm;split at hm
  ·cases hm
  ·exact hm
 rw[Ev]at this;exact af.OB (h k _ v this H Q hQ)
theorem OD(aj:bN C)(hB:eR (af C) B){k:Nat}{args:List I}{v:I}(ha:I.bA args=true)(hv:v.bb=true)(h:B k args S.mt (λu _=>u.cd.same v)=true)(H:Z)(Q:ad)(hQ:Q v H):af C k args H Q:=af.DL aj (af.cd (Q:=λu _=>u.same v=true) (Nv hB (K:=λu=>u.cd.same v) h)) ha H Q λu _ hu=>by rw[I.tI _ _ hu];exact⟨hv,hQ⟩
def zE(B:dE)(e:Nat×List I×I):Bool:=and (I.bA e.2.1) (and e.2.2.bb (B e.1 e.2.1 S.mt (λu _=>u.cd.same e.2.2)))
def nK(B:dE):List (Nat×List I×I)→Bool
 |[]=>true
 |e::r=>and (zE B e) (nK B r)
theorem OE(aj:bN C)(hB:eR (af C) B){e:Nat×List I×I}{L:List (Nat×List I×I)}(h:zE B e=true)(a:gW (af C) (f_ L)):gW (af C) (f_ (e::L)):=by
 obtain⟨b,a0,v0⟩:=e;simp only[zE,X1]at h;obtain⟨h1,c,d⟩:=h;intro k args v hm H Q hQ;unfold f_ at hm;dsimp only at hm;cases hb:aaI b k with
 |false=>rw[hb]at hm;exact a k args v hm H Q hQ
 | true=>
  rw[hb]at hm;obtain rfl:=aaV hb;cases hs:I.fW a0 args with
  |false=>rw[hs]at hm;exact a b args v hm H Q hQ
  | true=>rw[hs]at hm;simp only[cond_true,Yb.injEq]at hm;subst hm;obtain rfl:=I.mJ _ _ hs;exact OD aj hB h1 c d H Q hQ
theorem rm{C:Ctx}(aj:bN C){B:dE}(hB:eR (af C) B){L:List (Nat×List I×I)}(a:gW (af C) (f_ L)):∀{N:List (Nat×List I×I)},nK B N=true→gW (af C) (f_ (N++L))
 |[],_=>a
 | e::N,h=>by simp only[nK,X1]at h;exact OE aj hB h.1 (rm aj hB a h.2)
end
end Rb

namespace Rb
open Go
def rp:List Int:=[1,10,100,1000,10000,100000,1000000,10000000,100000000,1000000000,10000000000,100000000000,1000000000000,10000000000000,100000000000000,1000000000000000,10000000000000000,100000000000000000,1000000000000000000,10000000000000000000]
def Ew:List I:=rp.map (I.int .u64)
end Rb
