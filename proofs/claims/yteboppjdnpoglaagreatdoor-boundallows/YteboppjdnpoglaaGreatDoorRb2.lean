/- A part of the proof (part 2): see the last text. -/
import Derived.Test.YteboppjdnpoglaaGreatDoorRb1
import Derived.Carry
import Derived.OpenVars
import Derived.OpenShut
import Derived.ProofKit
import Derived.ChangeOld
import Derived.KernelRfl
set_option linter.unusedVariables false
set_option linter.unusedSimpArgs false
open Bool renaming and_eq_true→aar, eq_iff_iff→acm, xor→acS
open Go.Calls renaming mono→ace
open Go.DataW renaming TrodAll→acO
open Go.Instr renaming loadAt→abc, sureAddr→aaJ
open Go.Result renaming andThen_ok→abO
open Go.Sem renaming run_bind→abN, run_pure→abV
open List renaming all_cons→acP, all_eq_true→abh, getD_eq_getElem?_getD→abD, getElem?_map→aba, getElem?_replicate→acN, getElem?_set_ne→abe, getElem?_set→aaN, mapM_cons→acM, map_map→acU, mem_cons_of_mem→acp, mem_cons_self→acs, mem_cons→aco, replicate→KT
open Nat renaming beq→acQ, ble→acV, blt→acT, eq_of_beq_eq_true→acX, le_of_ble_eq_true→acW, lt_succ_self→acR
open Option renaming some→aaC
open Bool renaming false→acJ, true→acI
open Option renaming none→acL, some→acK
noncomputable section
namespace Rb
open Go
variable{F:dE}{Vs:Array Value}
section
variable{C:Ctx}{w:World}{G:aW}{H:Z}{env:Env}{a:Act}
theorem tQ(h:be F w G env Vs)(vs:List Nat):∀(j:Nat)(c:I),(fV env vs)[j]?=acK c->∃t V,vs[j]?=acK t/\(Vs[t]?=acK V/\VR F w G c V\/c = .bot):=by
 intro j c a;simp only[fV,aba]at a;cases hv:vs[j]? with
 |none=>simp[hv]at a
 | some t=>
  simp[hv]at a;subst a;cases he:env[t]? with
  |none=>exact⟨t,undef,rfl,.inr (by simp)⟩
  | some c=>obtain⟨V,b,d⟩:=h.get he;exact⟨t,V,rfl,.inl ⟨b,by simpa[he]using d⟩⟩
theorem Pp:∀(ks:List Nat){env:Env}{Vs:Array Value},be F w G env Vs->be F w G (hx env ks) Vs:=by
 intro ks;induction ks with
 |nil=>intro env Vs h;exact h
 | cons t ks b=>
  intro env Vs h;refine b ⟨by simp[h.1],λj c V hc d=>?_⟩;by_cases a:t=j
  . subst a;rw[aaN]at hc;simp only[bc]at hc;split at hc
    ·cases hc;exact .bot _
    ·cases hc
  . rw[abe a]at hc;exact h.2 j c V hc d
theorem Pq:∀(ks:List Nat)(env:Env),(hx env ks).length=env.length:=by
 intro ks;induction ks with
 |nil=>intro env;rfl
 |cons t ks a=>intro env;rw[hx,a];simp
theorem Pr:∀(ks:List Nat)(env:Env)(t:Nat),t∈ks->∀c,(hx env ks)[t]?=acK c->c = .bot:=by
 intro ks;induction ks with
 |nil=>intro env t ht;cases ht
 | cons s ks a=>
  intro env t ht c hc;by_cases h:t∈ks
  ·exact a _ t h c hc
  . have d:t=s:=by rcases aco.1 ht with b|b;exact b;exact absurd b h
    subst d;have key:∀(ks:List Nat)(env:Env),t∉ks->(hx env ks)[t]?=env[t]?:=by
     intro ks;induction ks with
     |nil=>intro env _;rfl
     | cons u ks a=>intro env hn;rw[hx,a _ (λh=>hn (acp _ h)),abe (λe=>hn (by rw[e];exact acs))]
    rw[hx,key ks _ h,aaN]at hc;simp only[bc]at hc;split at hc
    ·cases hc;rfl
    ·cases hc
theorem tS{ks vs az:List Nat}{Vs b:Array Value}(h:be F w G env Vs)(hc:tM ks vs az=acI)(hs:b.size=Vs.size)(p:∀t,t∉az->b[t]?=Vs[t]?)(a:List I)
  (k:∀(j:Nat)(c:I),a[j]?=acK c->∃t V,vs[j]?=acK t/\(b[t]?=acK V/\VR F w G c V\/c = .bot)) (hl:a.length=vs.length):be F w G (jy (hx env ks) vs a) b:=by
 have q:∀(vs:List Nat)(a:List I)(env:Env),env.length=b.size->a.length=vs.length ->
   (∀(j:Nat)(c:I),a[j]?=acK c->∃t V,vs[j]?=acK t/\(b[t]?=acK V/\VR F w G c V\/c = .bot)) ->
   (∀(j:Nat)(c:I)(V:Value),env[j]?=acK c->b[j]?=acK V->j∈vs\/VR F w G c V)->be F w G (jy env vs a) b:=by
  intro vs;induction vs with
  |nil=>intro a env hle _ _ h;exact⟨hle,λj c V hc f=>(h j c V hc f).resolve_left (by simp)⟩
  | cons t vs r=>
   intro a env hle hl k h;cases a with
   |nil=>simp at hl
   | cons d a=>
    rw[jy];refine r a _ (by simp[hle]) (by simpa using hl) (λj c e=>by obtain⟨m,V,l,i⟩:=k (j+1) c (by simpa using e);exact⟨m,V,by simpa using l,i⟩) λj c V hc f=>?_
    by_cases e:t=j
    . subst e;rw[aaN]at hc;simp only[bc]at hc;split at hc
      . cases hc;obtain⟨m,s,l,i⟩:=k 0 d rfl;simp at l;subst l;rcases i with⟨n,i⟩|rfl
        ·rw[f]at n;cases n;exact .inr i
        ·exact .inr (.bot _)
      ·cases hc
    . rw [abe e]at hc;rcases h j c V hc f with g|g
      . rcases aco.1 g with g|g
        ·exact absurd g.symm e
        ·exact .inl g
      ·exact .inr g
 refine q vs a _ (by rw[Pq,h.1,hs]) hl k λj c V o f=>?_;by_cases e:j∈az
 . have:=abh.1 hc j e;simp at this;rcases this with h1|h1
   ·rw[Pr ks env j h1 c o];exact .inr (.bot _)
   ·exact .inl h1
 . rw[p j e]at f;exact .inr ((Pp ks h).2 j c V o f)
theorem tU(env:Env)(vs:List Nat):(fV env vs).length=vs.length:=by simp[fV]
def fW:hU->Exit->Prop
 | .normal,.normal=>True
 | .exit i,.exit j=>i=j
 | .ret,.ret=>True
 |_,_=>False
theorem EK(hF:gI C){j:Array Oper}{Q:Exit->Act->World->Prop}{w0:World}{G0:aW}{H0:Z}{a0:Act}{az:List Nat} :
  ∀ (b:dT) (l:List Oper) (env:Env) (H:Z) (G:aW) (w:World) (a:Act) (K:hU->Env->Z->Prop),qG C j l b=acI->dk (ai C) b env H K->c9 C w G H->Rel C.F w G H->be C.F w G env a.tmps->a.defers=[] ->
   Step w0 G0 H0 w G H->dU az a0 a->(∀t,t∈eQ b->t∈az) ->
   (∀aP H' G' a' w',K .normal aP H'->c9 C w' G' H'->Rel C.F w' G' H'->be C.F w' G' aP a'.tmps->a'.defers=[]->Step w0 G0 H0 w' G' H'->dU az a0 a'->Q .normal a' w') ->
   wpList C.P j Q l a w:=by
 intro b;induction b with
 | region al=>intro l env H G w a K c h hG e he f g hk d hQ;exact tN hF l al env H G w a c h hG e he f g hk d hQ
 | hR vs ks al b m=>intro l env H G w a K c h hG e he f g hk d hQ;simp only[qG,aar]at c;obtain⟨⟨h1,n⟩,o⟩:=c;rw[<-List.take_append_drop al.length l];simp only[dk]at h;refine EF (w0:=w) (G0:=G) (H0:=H) (a0:=a) (az:=hd al) hF (l.take al.length) al env H G w a h1 h hG e he f (Step.refl _ _ _) (dU.refl _ _) (λ_ ht=>ht) ?_;intro aP H' G' a' w' p q r s u k i;have v:=tS (he.mono k.toGLe) n i.1 i.2 (fV aP vs) (tQ s vs) (tU _ _);exact m (l.drop al.length) _ H' G' w' a' K o p q r v u (g.trans k) (hk.trans (i.mono λt ht=>d t (by simp[eQ,ht]))) (λt ht=>d t (by simp[eQ,ht])) hQ
 |_=>intro l env H G w a K c;simp[qG]at c
theorem tV(hF:gI C) :
  ∀ (ac:dT) (c:Code) (env:Env) (H:Z) (G:aW) (w:World) (a:Act) (K:hU->Env->Z->Prop) (Q:Exit->Act->World->Prop),cz C c ac=acI->dk (ai C) ac env H K ->
   c9 C w G H->Rel C.F w G H->be C.F w G env a.tmps->a.defers=[] ->
   (∀u ex aP H' G' a' w',fW u ex->K u aP H'->c9 C w' G' H'->Rel C.F w' G' H'->be C.F w' G' aP a'.tmps->a'.defers=[]->Step w G H w' G' H'->dU (eQ ac) a a'->Q ex a' w') ->
   c.wp C.P Q a w:=by
 intro ac;induction ac with
 | skip=>intro c env H G w a K Q d h hG g he m hQ;cases c<;>simp[cz]at d;exact wp_skip (hQ .normal .normal env H G a w trivial h hG g he m (Step.refl _ _ _) (dU.refl _ _))
 | region al=>
  intro c env H G w a K Q d h hG g he m hQ;cases c with
  | region id ops draw=>
   cases draw with
   |true=>simp[cz]at d
   | false=>
    simp only[cz]at d;refine wp_region_list ?_;exact tN (az:=hd al) (a0:=a) (w0:=w) (G0:=G) (H0:=H) (Q:=Q) (K:=K .normal) hF ops.toList al env H G w a d h hG g he m (Step.refl _ _ _) (dU.refl _ _) (λ_ ht=>ht)
     (λaP H' G' a' w' r z o A B f n=>hQ .normal .normal aP H' G' a' w' trivial r z o A B f n)
  |_=>simp[cz]at d
 | hR vs ks al b _=>
  intro c env H G w a K Q d h hG g he m hQ;cases c with
  | region id ops draw=>
   cases draw with
   |true=>simp[cz]at d
   | false=>
    simp only[cz]at d;refine wp_region_list ?_;exact EK (az:=eQ (.hR vs ks al b)) (a0:=a) (w0:=w) (G0:=G) (H0:=H) (Q:=Q) (K:=K) hF (.hR vs ks al b) ops.toList env H G w a d h hG g he m (Step.refl _ _ _) (dU.refl _ _) (λ_ ht=>ht)
     (λaP H' G' a' w' r z o A B f n=>hQ .normal .normal aP H' G' a' w' trivial r z o A B f n)
  |_=>simp[cz]at d
 | draw al pr bT last=>
  intro c env H G w a K Q d h hG g he m hQ;cases c with
  | region id ops draw=>
   cases draw with
   |false=>simp[cz]at d
   | true=>simp only[cz,aar]at d;obtain⟨⟨⟨h1,L⟩,N⟩,O⟩:=d;exact Pl hF h1 L N O h hG g he m λaP H' G' a' w' r z o A B f n=>hQ .normal .normal aP H' G' a' w' trivial r z o A B f n
  |_=>simp[cz]at d
 | seq x y am an=>
  intro c env H G w a K Q d h hG g he m hQ;cases c with
  | seq p q=>
   simp only[cz,aar]at d;refine wp_seq ?_;refine am p env H G w a _ _ d.1 h hG g he m ?_;intro u ex aP H' G' a' w' hex r z o A B f n;cases u with
   | normal=>cases ex<;>simp only[fW]at hex;refine an q aP H' G' w' a' K Q d.2 r z o A B ?_;intro u ex R H2 S a2 w2 hex T U W D X Y aa;exact hQ u ex R H2 S a2 w2 hex T U W D X (f.trans Y) ((n.mono λt ht=>by simp[eQ,ht]).trans (aa.mono λt ht=>by simp[eQ,ht]))
   | exit i=>cases ex<;>simp only[fW]at hex;exact hQ (.exit i) (.exit _) aP H' G' a' w' hex r z o A B f (n.mono λt ht=>by simp[eQ,ht])
   | ret=>cases ex<;>simp only[fW]at hex;exact hQ .ret .ret aP H' G' a' w' trivial r z o A B f (n.mono λt ht=>by simp[eQ,ht])
  |_=>simp[cz]at d
 | join vs ks x y am an=>
  intro c env H G w a K Q d h hG g he m hQ;cases c with
  | seq p q=>
   simp only[cz,aar]at d;obtain⟨⟨ao,ap⟩,ak⟩:=d;refine wp_seq ?_;refine am p env H G w a _ _ ao h hG g he m ?_;intro u ex aP H' G' a' w' hex r z o A B f n;cases u with
   | normal=>cases ex<;>simp only[fW]at hex;have aA:=tS (he.mono f.toGLe) ak n.1 n.2 (fV aP vs) (tQ A vs) (tU _ _);refine an q _ H' G' w' a' K Q ap r z o aA B ?_;intro u ex R H2 S a2 w2 hex T U W D X Y aa;exact hQ u ex R H2 S a2 w2 hex T U W D X (f.trans Y) ((n.mono λt ht=>by simp[eQ,ht]).trans (aa.mono λt ht=>by simp[eQ,ht]))
   | exit i=>cases ex<;>simp only[fW]at hex;exact hQ (.exit i) (.exit _) aP H' G' a' w' hex r z o A B f (n.mono λt ht=>by simp[eQ,ht])
   | ret=>cases ex<;>simp only[fW]at hex;exact hQ .ret .ret aP H' G' a' w' trivial r z o A B f (n.mono λt ht=>by simp[eQ,ht])
  |_=>simp[cz]at d
 | cond x p q aB aC=>
  intro c env H G w a K Q d h hG g he m hQ;cases c with
  | cond c' aD aE=>
   simp only[cz,aar]at d;obtain⟨⟨ao,ap⟩,aF⟩:=d;obtain⟨t,ht,h⟩:=zP h;have au:=dt hG.1 he ao;rw[ht]at au;refine wp_cond (t:=t) au.kL ?_;cases t with
   | true=>rw[ab rfl]at h ⊢;exact aB aD env H G w a K Q ap h hG g he m λu ex aP H' G' a' w' h1 L N O ad ae ag ah=>hQ u ex aP H' G' a' w' h1 L N O ad ae ag (ah.mono λt ht=>by simp[eQ,ht])
   | false=>rw[ka]at h ⊢;exact aC aE env H G w a K Q aF h hG g he m λu ex aP H' G' a' w' h1 L N O ad ae ag ah=>hQ u ex aP H' G' a' w' h1 L N O ad ae ag (ah.mono λt ht=>by simp[eQ,ht])
  |_=>simp[cz]at d
 | block id x aj=>
  intro c env H G w a K Q d h hG g he m hQ;cases c with
  | block aR p=>
   simp only[cz,aar,bZ]at d;obtain⟨rfl,hc⟩:=d;refine wp_block ?_;refine aj p env H G w a _ _ hc h hG g he m ?_;intro u ex aP H' G' a' w' hex r z o A B f n;cases u with
   | normal=>cases ex<;>simp only[fW]at hex;exact hQ .normal .normal aP H' G' a' w' trivial r z o A B f n
   | exit i=>
    cases ex with
    | exit j=>
     simp only[fW]at hex;subst hex;dsimp only at r;simp only[Exit.inBlock];split
     . rename_i aq;rw[ab aq]at r;exact hQ .normal .normal aP H' G' a' w' trivial r z o A B f n
     . rename_i aq;rw[af aq]at r;exact hQ (.exit i) (.exit i) aP H' G' a' w' rfl r z o A B f n
    |_=>simp only[fW]at hex
   | ret=>cases ex<;>simp only[fW]at hex;exact hQ .ret .ret aP H' G' a' w' trivial r z o A B f n
  |_=>simp[cz]at d
 | loop vs ks x aj=>
  intro c env H G w a K Q d h hG g he m hQ;cases c with
  | loop p=>
   simp only[cz,aar]at d;obtain⟨hc,ak⟩:=d;let aG:List I×Z->Prop:=λs=>∀G' w' a',c9 C w' G' s.2->Rel C.F w' G' s.2->be C.F w' G' (jy (hx env ks) vs s.1) a'.tmps->a'.defers=[]->Step w G H w' G' s.2->dU (eQ x) a a' ->
    ∀(b:Frame)(k:List Item)(cs:List Frame),∃e a2 w2,Q e a2 w2/\Arrives C.P (lone (b.at a' (.code p :: .inLoop p::k)) cs w') b k cs e a2 w2
   have aH:=h aG λs K' aI aJ=>by
    intro G' w' a' z o A B f n b k cs;have aK:p.wp C.P (λex a2 w2=>match ex with
        | .normal=>∀(b:Frame)(k:List Item)(cs:List Frame),∃e a3 w3,Q e a3 w3/\Arrives C.P (lone (b.at a2 (.code p :: .inLoop p::k)) cs w2) b k cs e a3 w3
        |e=>Q e a2 w2) a' w':=by
      refine aj p _ _ G' w' a' _ _ hc aI z o A B ?_;intro u ex R H2 S a2 w2 hex T U W D X Y aa;cases u with
      | normal=>cases ex<;>simp only[fW]at hex;have ar:=n.trans aa;have av:=f.trans Y;exact aJ _ T S w2 a2 U W (tS (he.mono av.toGLe) ak ar.1 ar.2 (fV R vs) (tQ D vs) (tU _ _)) X av ar
      | exit i=>
       cases ex with
       |exit j=>exact hQ (.exit i) (.exit j) R H2 S a2 w2 hex T U W D X (f.trans Y) (n.trans aa)
       |_=>simp only[fW]at hex
      | ret=>
       cases ex with
       |ret=>exact hQ .ret .ret R H2 S a2 w2 hex T U W D X (f.trans Y) (n.trans aa)
       |_=>simp only[fW]at hex
    obtain⟨e,M,w1,E,J⟩:=aK b (.inLoop p::k) cs;cases e with
    | normal=>obtain⟨aL,a2,w2,aM,aN⟩:=E b k cs;exact⟨aL,a2,w2,aM,.of_steps (Steps.trans J (.one step_inLoop)) aN⟩
    |exit id=>exact⟨_,M,w1,E,.pass (x:= .inLoop p) rfl (λ_ _=> .inl (by simp)) J⟩
    |goto l=>exact⟨_,M,w1,E,.pass (x:= .inLoop p) rfl (λ_ _=> .inl (by simp)) J⟩
    |ret=>exact⟨_,M,w1,E,.pass (x:= .inLoop p) rfl (λ_ _=> .inl (by simp)) J⟩
    |panic aS=>exact⟨_,M,w1,E,.pass (x:= .inLoop p) rfl (λ_ _=> .inl (by simp)) J⟩
    |outgrown=>exact⟨_,M,w1,E,.pass (x:= .inLoop p) rfl (λ_ _=> .inl (by simp)) J⟩
   intro b k cs;have aO:=aH G w a hG g (tS he ak rfl (λ_ _=>rfl) (fV env vs) (tQ he vs) (tU _ _)) m (Step.refl _ _ _) (dU.refl _ _) b k cs;obtain⟨e,a',w',E,J⟩:=aO;exact⟨e,a',w',E,.of_steps (.one step_loop) J⟩
  |_=>simp[cz]at d
 | exit id=>intro c env H G w a K Q d h hG g he m hQ;cases c<;>simp[cz]at d;subst d;exact wp_exit (hQ (.exit _) (.exit _) env H G a w rfl h hG g he m (Step.refl _ _ _) (dU.refl _ _))
 | ret=>intro c env H G w a K Q d h hG g he m hQ;cases c<;>simp[cz]at d;exact wp_ret (hQ .ret .ret env H G a w trivial h hG g he m (Step.refl _ _ _) (dU.refl _ _))
 | freeze t x aj=>
  intro c env H G w a K Q d h hG g he m hQ;have aQ:cz C c x=acI:=by cases c<;>simpa[cz]using d
  obtain⟨v,H',hv,h⟩:=h;obtain⟨G',o,f,aw⟩:=Po g hv (ly he);have D:be C.F w G' (env.set t v) a.tmps:=by
   refine⟨by simp[he.1],λj c V hc ax=>?_⟩;by_cases ay:t=j
   . subst ay;rw[aaN]at hc;simp only[bc]at hc;split at hc
     . cases hc;rw[Array.getD_eq_getD_getElem?,ax]at aw;exact aw
     ·cases hc
   . rw[abe ay]at hc;exact(he.2 j c V hc ax).mono f.toGLe
  exact aj c _ H' G' w a K Q aQ h (hG.step f) o D m λu ex aP H' G' a' w' h1 L N O ad ae ag ah=>hQ u ex aP H' G' a' w' h1 L N O ad ae (f.trans ag) (ah.mono λt ht=>by simp[eQ,ht])
def kQ(P:Program):List ResultVar->List ll->Bool
 |[],[]=>acI
 | .tmp t::r,.tmp a::s=>t==a&&kQ P r s
 | .cell t ty::r,.cell a n agg::s=>t==a&&i_ P ty n agg&&kQ P r s
 |_,_=>acJ
def o8(C:Ctx)(f:FuncId)(a:aU):Bool:=
 match C.P.funcs[f]? with
 |some fn=>fn.ntmps==a.ntmps&&kQ C.P fn.results.toList a.results&&(match fn.body with|some c=>cz C c a.body|none=>acJ)
 |none=>acJ
def tW(b:Array Value):ResultVar->Sem Value
 | .tmp t=>pure (b.getD t undef)
 | .cell a t=>do loadVar t (<-asAddr (b.getD a undef))
theorem Ps(a:Func)(b:Array Value):results a b=(do
    let vs <-a.results.mapM (tW b)
    pure (if h:vs.size=1 then vs[0]else .tuple vs)):=by
  unfold results;congr 1
theorem Pt(u:Rel C.F w G H)(q:be C.F w G env a.tmps):∀(rs:List ResultVar)(b:List ll)(K:List I->Prop),kQ C.P rs b=acI->mc env H b K ->
  ∃vs Vs,K vs/\be C.F w G vs (List.toArray Vs)/\(rs.mapM (tW a.tmps)).run C.P w = .ok Vs w:=by
 intro rs;induction rs with
 | nil=>intro b K hc h;cases b<;>simp[kQ]at hc;exact⟨[],[],h,be.nil,rfl⟩
 | cons r rs s=>
  intro b K hc h;have cons:∀{v:I}{V:Value}{vs:List I}{Vs:List Value},VR C.F w G v V->be C.F w G vs Vs.toArray->be C.F w G (v::vs) (V::Vs).toArray:=by
   intro v V vs Vs hv e;refine be.nE (by have:=e.1;simp at this ⊢;exact this) λj c x g i=>?_;cases j with
   |zero=>simp at g i;subst g;subst i;exact hv
   |succ j=>exact e.2 j c x (by simpa using g) (by simpa using i)
  cases r with
  | tmp t=>
   cases b with
   |nil=>simp[kQ]at hc
   | cons k b=>
    cases k with
    | tmp y=>simp only[kQ,aar,bZ]at hc;obtain⟨rfl,hc⟩:=hc;obtain⟨vs,Vs,l,e,m⟩:=s b _ hc h;refine⟨_,_::Vs,l,cons (ly q) e,?_⟩;rw[acM];simp only[tW,abN,abV,abO,m]
    |cell _ _ _=>simp[kQ]at hc
  | cell t ty=>
   cases b with
   |nil=>simp[kQ]at hc
   | cons k b=>
    cases k with
    |tmp _=>simp[kQ]at hc
    | cell y n agg=>
     simp only[kQ,aar,bZ]at hc;obtain⟨⟨rfl,z⟩,hc⟩:=hc;obtain⟨v,hv,h⟩:=h;obtain⟨vs,Vs,l,e,m⟩:=s b _ hc h;have d:=ly (t:=t) q;obtain⟨V,f,A⟩:=Ec (P:=C.P) z u hv d;refine⟨_,V::Vs,l,cons A e,?_⟩;have B:(do loadVar ty (<-asAddr (a.tmps.getD t undef)):Sem Value).run C.P w = .ok V w:=by
      unfold aj at hv;split at hv
      . rename_i id o p;rw[p]at d;generalize a.tmps.getD t undef=X at d f;cases d;simpa[abc,aaJ,asAddr]using f
      . rename_i cs p;rw[p]at d;generalize a.tmps.getD t undef=X at d f;cases d;simpa[abc,aaJ,asAddr]using f
      ·cases hv
     rw[acM];have D:(tW a.tmps (.cell t ty)).run C.P w = .ok V w:=B;simp only[abN,D,abO,m,abV]
theorem EL(hF:gI C){f:FuncId}{a:aU}(d:o8 C f a=acI){args:List I}{Q:aa}(h:qx (ai C) a args H Q)(hG:c9 C w G H)(s:Rel C.F w G H)(p:be C.F w G args Vs) :
  Calls C.P f Vs w λe w'=>∃V v H' G',e = .returned V/\Q v H'/\VR C.F w' G' v V/\Rel C.F w' G' H'/\Step w G H w' G' H':=by
 unfold o8 at d;split at d
 . rename_i fn t;simp only[aar,bZ]at d;obtain⟨⟨hn,u⟩,k⟩:=d;split at k
   . rename_i c U;refine calls_of_wp t U ?_;have he:be C.F w G (args++KT (a.ntmps-args.length) .bot) (Vs++Array.replicate (fn.ntmps-Vs.size) undef):=by
      refine p.app ⟨by simp[p.1,hn],λj c V hc J=>?_⟩;rw[acN]at hc;split at hc
      ·cases hc;exact .bot _
      ·cases hc
     refine tV hF a.body c _ H G w ⟨_,[]⟩ _ _ k h hG s he rfl ?_;intro x ex aP H' G' a' w' hex l K q y z A L;have fin:mc aP H' a.results (λvs=>Q (oN vs) H')->a'.defers=[]/\∃v,(results fn a'.tmps).run C.P w' = .ok v w'/\∃V r m n,(Ending.returned v) = .returned V/\Q r m/\VR C.F w' n r V/\Rel C.F w' n m/\Step w G H w' n m:=by
      intro B;obtain⟨vs,b,hQ,g,D⟩:=Pt q y fn.results.toList a.results _ u B;refine⟨z,if h:b.toArray.size=1 then b.toArray[0]else .tuple b.toArray,?_,_,_,_,_,rfl,hQ,?_,q,A⟩
      . rw[Ps];have he:fn.results=fn.results.toList.toArray:=by simp
        rw[he,List.mapM_toArray];simp only[abN,Sem.run_map,D,abO,abV]
      . split
        . rename_i h1;have hl:b.length=1:=by simpa using h1
          have o:vs.length=1:=by have:=g.1;simp at this;omega
          match vs,b,o,hl with
          |[v],[V],_,_=>simpa[oN]using g.2 0 v V rfl rfl
        . rename_i h1;have hl:b.length≠1:=by simpa using h1
          have o:vs.length≠1:=by have:=g.1;simp at this;omega
          have E:oN vs = .aA vs:=by
           match vs,o with
           |[],_=>rfl
           |_::_::_,_=>rfl
          rw[E];exact g.aA
     cases x with
     |normal=>cases ex<;>simp only[fW]at hex;exact fin l
     |exit i=>exact l.elim
     |ret=>cases ex<;>simp only[fW]at hex;exact fin l
   ·cases k
 ·cases d
end
end Rb
namespace Rb
open Go
abbrev kR:=List (Nat×aU)
def kR.get(T:kR)(k:Nat):Option aU:=T.lookup k
def EM(Φ:ad)(T:kR):Prop:=∀k f,T.get k=acK f->∀args H Q,qx Φ f args H Q->Φ k args H Q
def tX(C:Ctx):kR->Bool
 |[]=>acI
 |(k,f)::T=>(match C.F k with|some fh=>o8 C fh f|none=>acI)&&tX C T
theorem Pu{T:kR}{k:Nat}{f:aU}(h:T.lookup k=acK f):(k,f)∈T:=by
 induction T with
 |nil=>cases h
 | cons p T a=>
  obtain⟨k',c⟩:=p;rw[List.lookup_cons]at h;split at h
  . rename_i hk;have b:k=k':=by simpa using hk
    cases h;rw[b];exact acs
  ·exact acp _ (a h)
theorem Pv{C:Ctx}:∀{T:kR},tX C T=acI->∀k f,(k,f)∈T->∀fh,C.F k=acK fh->o8 C fh f=acI:=by
 intro T;induction T with
 |nil=>intro _ k f h;cases h
 | cons p T a=>
  obtain⟨k',b⟩:=p;intro h k f hm fh hf;simp only[tX,aar]at h;rcases aco.1 hm with he|hm
  . cases he;have:=h.1;rw[hf]at this;exact this
  ·exact a h.2 k f hm fh hf
theorem Pw{C:Ctx}(hF:gI C){T:kR}(h:tX C T=acI):EM (ai C) T:=by intro k f hk args H Q hs;refine⟨D3 (El C) hs,λfh a G w Vs hG b c=>?_⟩;exact EL hF (Pv h k f (Pu hk) fh a) hs hG b c
mutual
def I.same:I->I->Bool
 | .bool a,.bool b=>a==b
 | .int k a,.int k' b=>k==k'&&a==b
 | .str a,.str b=>a==b
 | .h5,.h5=>acI
 | .ptr i o,.ptr e f=>i==e&&o==f
 | .ae cs,.ae cs'=>I.gQ cs cs'
 | .aq tk len cs,.aq g h cs'=>tk==g&&len==h&&I.gQ cs cs'
 | .row a b c d,.row a' j c' l=>a==a'&&b==j&&c==c'&&d==l
 | .fn k cs,.fn k' cs'=>k==k'&&I.gQ cs cs'
 | .h6,.h6=>acI
 | .iface t v,.iface m n=>t==m&&I.same v n
 | .h7,.h7=>acI
 | .agg cs,.agg cs'=>I.gQ cs cs'
 | .aA cs,.aA cs'=>I.gQ cs cs'
 | .bot,.bot=>acI
 |_,_=>acJ
def I.gQ:List I->List I->Bool
 |[],[]=>acI
 |c::r,d::t=>I.same c d&&I.gQ r t
 |_,_=>acJ
end
mutual
theorem I.tY:(x y:I)->I.same x y=acI->x=y
 | .bool a,.bool b,h=>by simp[I.same]at h;rw[h]
 | .int k a,.int k' b,h=>by simp[I.same]at h;rw[h.1,h.2]
 | .str a,.str b,h=>by simp[I.same]at h;rw[h]
 | .h5,.h5,h=>rfl
 | .ptr i o,.ptr g j,h=>by simp[I.same]at h;rw[h.1,h.2]
 | .ae cs,.ae cs',h=>by simp only[I.same]at h;rw[I.mT cs cs' h]
 | .aq tk len cs,.aq l m cs',h=>by simp only[I.same,aar,bZ]at h;rw[h.1.1,h.1.2,I.mT cs cs' h.2]
 | .row a b c d,.row a' n c' p,h=>by simp[I.same]at h;rw[h.1.1.1,h.1.1.2,h.1.2,h.2]
 | .fn k cs,.fn k' cs',h=>by simp only[I.same,aar,bZ]at h;rw[h.1,I.mT cs cs' h.2]
 | .h6,.h6,h=>rfl
 | .iface t v,.iface q f,h=>by simp only[I.same,aar,bZ]at h;rw[h.1,I.tY v f h.2]
 | .h7,.h7,h=>rfl
 | .agg cs,.agg cs',h=>by simp only[I.same]at h;rw[I.mT cs cs' h]
 | .aA cs,.aA cs',h=>by simp only[I.same]at h;rw[I.mT cs cs' h]
 | .bot,.bot,h=>rfl
theorem I.mT:(xs e:List I)->I.gQ xs e=acI->xs=e
 |[],[],h=>rfl
 | c::r,d::t,h=>by simp only[I.gQ,aar]at h;rw[I.tY c d h.1,I.mT r t h.2]
end
end Rb
namespace Rb
open Go Go.RowKit
variable{w:World}{fz:Nat->Nat->Prop}
def Z.mt:Z:={n:=0,o:=λ_=> .gone}
def aW.mt(fz:Nat->Nat->Prop):aW:={n:=0,loc:=λ_=>0,cap:=λ_=>0,fz:=fz}
theorem Rel.mt{F:dE}(h:∀b o,fz b o->∃V,w.cell? ⟨b,o,acL⟩=acK V):Rel F w (aW.mt fz) Z.mt:=⟨rfl,λ_ _=>rfl,λ_=>trivial,λ_ _ _ h _=>(by cases h),h⟩
theorem Step.below{w w':World}{G':aW}{H':Z}(h:Step w (aW.mt fz) Z.mt w' G' H'):Below w.heap.size w w':=⟨h.os,h.tape,h.output,h.size,λk hk=>h.d_ k hk λi hl=>by cases hl⟩
section
variable{H:Type}{enc:TypeId×Value->H}{P:Program}
def tZ(P:Program)(ts:List TypeId):Bool:=ts.all λt=>P.readableRec t&&decide (t<P.types.size)
theorem EN(hl:laidOutB P=acI){W W':World}(U:Below W.heap.size W W') :
  ∀{ts:List TypeId}{vs:List Value}{ds:List (DataW H)}{a:List MemPlace},tZ P ts=acI->acO enc P W 0 (λ_=>acI) acI ts vs ds a->acO enc P W' 0 (λb=>decide (b<W.heap.size)) acI ts vs ds a
 |[],[],[],_,_,h=>h
 | t::ts,v::vs,d::ds,a,ht,h=>by have c:=h.lt;obtain⟨p,q,h1,e,rfl⟩:=h;simp only[tZ,acP,aar,dJ]at ht;exact⟨p,q,Below.trod hl ht.1.1 ht.1.2 h1 U (λx f=>c x (by simp[f])),EN hl U (by simpa[tZ]using ht.2) e,rfl⟩
 |[],[],_::_,_,_,h=>h.elim
 |[],_::_,_,_,_,h=>by cases ‹List (DataW H)› <;> exact h.elim
 |_::_,[],_,_,_,h=>by cases ‹List (DataW H)› <;> exact h.elim
 |_::_,_::_,[],_,_,h=>h.elim
theorem Px{f:Func}{s:ChangeSpec}{c:Bool}{W W':World}{args:Array Value}{ds a:List (DataW H)}{d:List MemPlace}{bt:TypeId}
  (hW:DataW.Whole enc P f.params.toList s.vars c W args.toList ds a d) (hl:laidOutB P=acI) (ht:tZ P f.params.toList=acI) (hv:varsRowed P s.vars=acI)
  (e:f.resultTypes = #[bt]) (g:P.underlying bt=acK .bool) (b:s.fn H (ds++a)={results:=[.lit (.bool acI)],args:=ds,vars:=a}) (U:Below W.heap.size W W') :
  s.post enc P f c acI acJ acJ W args (.bool acI) W':=by
 have i:=hW;obtain⟨p,q,j,k,rfl,hz,hn⟩:=hW;refine⟨ds,a,p++q,[],p,q,i,?_,?_,?_,U.frame _,λh=>by cases h⟩
 . rw[b,e];exact⟨[],[],shut_bool g _,rfl,rfl⟩
 . rw[b];exact EN hl U ht j
 . rw[b];exact U.trodVars hl hv k
end
end Rb
namespace Rb
open Go
theorem ai.run{C:Ctx}{key:Nat}{f:FuncId}{args:List I}{H:Z}{Q:aa}(h:ai C key args H Q)(hf:C.F key=acK f){G:aW}{w:World}{Vs:Array Value}(hG:c9 C w G H)(a:Rel C.F w G H)(b:be C.F w G args Vs) :
  Calls C.P f Vs w λe w'=>∃V v H' G',e = .returned V/\Q v H'/\VR C.F w' G' v V/\Rel C.F w' G' H'/\Step w G H w' G' H':=h.2 f hf G w Vs hG a b
def EO:List I:=(List.range 256).map λi=> .int .u8 (if i=9\/i=10\/i=11\/i=12\/i=13\/i=32 then 1 else 0)
def qJ:List Int:=[0,1,56,2,57,49,28,3,61,58,42,50,38,29,17,4,62,47,59,36,45,43,51,22,53,39,33,30,24,18,12,5,63,55,48,27,60,41,37,16,46,35,44,21,52,32,23,11,54,26,40,15,34,20,31,10,25,14,19,9,13,8,7,6]
def EP:List I:=qJ.map (I.int .u8)
inductive TT where
 |leaf
 |node (x:cx) (l r:TT)
def TT.get:TT->Nat->cx
 | .leaf,_=> .gone
 | .node x l r,i=>bif acQ i 0 then x else bif acQ (i%2) 1 then l.get (i/2)else r.get (i/2-1)
def TT.kS(x:cx):Nat->TT->Nat->TT
 |0,t,_=>t
 | f+1,t,i=>match t with
  | .leaf=>bif acQ i 0 then .node x .leaf .leaf else bif acQ (i%2) 1 then .node .gone (TT.kS x f .leaf (i/2)) .leaf else .node .gone .leaf (TT.kS x f .leaf (i/2-1))
  | .node a l r=>bif acQ i 0 then .node x l r else bif acQ (i%2) 1 then .node a (TT.kS x f l (i/2)) r else .node a l (TT.kS x f r (i/2-1))
theorem TT.ER(i:Nat):TT.get .leaf i = .gone:=rfl
theorem TT.nM(x:cx)(l r:TT)(i:Nat):(TT.node x l r).get i=if i=0 then x else if i%2=1 then l.get (i/2)else r.get (i/2-1):=by
 have U:∀a b:Nat,acQ a b=decide (a=b):=λa b=>by rw[acm];simp
 simp only[TT.get,U,cond_eq_ite,dJ]
theorem TT.ES(x:cx):∀(f:Nat)(t:TT)(i j:Nat),i<f->(TT.kS x f t i).get j=if j=i then x else t.get j:=by
 intro f;induction f with
 |zero=>intro t i j h;omega
 | succ f g=>
  intro t i j h;have U:∀a b:Nat,acQ a b=decide (a=b):=λa b=>by rw[acm];simp
  have key : ∀(a:cx)(l r:TT),(if i=0 then TT.node x l r else if i%2=1 then .node a (TT.kS x f l (i/2)) r else .node a l (TT.kS x f r (i/2-1))).get j=if j=i then x else(TT.node a l r).get j:=by
   intro a l r;by_cases hi:i=0
   . subst hi;rw[ab rfl,TT.nM,TT.nM];by_cases c:j=0
     ·simp[c]
     ·simp[c]
   . rw [af hi];by_cases k:i%2=1
     . rw [ab k,TT.nM,TT.nM];rw[g _ _ _ (by omega)];by_cases c:j=0
       ·rw[ab c,ab c,bL]
       . rw [af c,af c];by_cases d:j%2=1
         . rw[ab d,ab d];by_cases e:j=i
           ·rw[ab e,ab (by rw[e])]
           ·rw[af e,bL]
         ·rw[af d,af d,bL]
     . rw [af k,TT.nM,TT.nM];rw[g _ _ _ (by omega)];by_cases c:j=0
       ·rw[ab c,ab c,bL]
       . rw [af c,af c];by_cases d:j%2=1
         ·rw[ab d,ab d,bL]
         . rw[af d,af d];by_cases e:j=i
           ·rw[ab e,ab (by rw[e])]
           ·rw[af e,bL]
  cases t with
  | leaf=>simp only[TT.kS,U,cond_eq_ite,dJ];rw[key .gone .leaf .leaf,TT.nM,TT.ER];simp only[TT.ER,ite_self]
  | node a l r=>simp only[TT.kS,U,cond_eq_ite,dJ];exact key a l r
structure TH where
 n:Nat
 t:TT
def TH.ah(T:TH):Z:=⟨T.n,λi=>T.t.get i⟩
def TH.set(T:TH)(i:Nat)(x:cx):TH:=match T with|⟨n,t⟩=>⟨n,TT.kS x (i+1) t i⟩
def TH.push(T:TH)(x:cx):TH:=match T with|⟨n,t⟩=>⟨n+1,TT.kS x (n+1) t n⟩
def TH.mt:TH:=⟨0,.leaf⟩
@[simp] theorem TH.Z9 (T:TH):T.ah.n=T.n:=rfl
@[simp] theorem TH.Z_ (T:TH) (i:Nat) (x:cx):(T.set i x).ah=T.ah.set i x:=by simp only[TH.ah,TH.set,Z.set];congr 1;funext j;exact TT.ES x _ _ _ _ (acR _)
@[simp] theorem TH.aaa (T:TH) (x:cx):(T.push x).ah=T.ah.push x:=by simp only[TH.ah,TH.push,Z.push];congr 1;funext j;exact TT.ES x _ _ _ _ (acR _)
@[simp] theorem TH.Py:TH.mt.ah=Z.mt:=by simp only[TH.ah,TH.mt,Z.mt];congr 1
abbrev mg:=I->TH->Bool
abbrev fx:=Nat->List I->TH->mg->Bool
def fK{α:Type}(x:Option α)(K:α->Bool):Bool:=
 match x with
 |some a=>K a
 |none=>acJ
def kT(x:Option (I×TH))(K:mg):Bool:=
 match x with
 |some (v,T)=>K v T
 |none=>acJ
def t_(v:I)(a:Bool)(A B:Bool):Bool:=
 match v with
 | .bool b=>bif acS b a then B else A
 |_=>acJ
def Af(T:TH)(n:Nat)(x v:I):Option TH:=
 match x with
 | .ptr id o=>
  match T.t.get id with
  | .row cs=>if v.known/\v.cells.length=n/\v.cells.all I.scalar/\o+n<=cs.length then acK (T.set id (.row (setCells cs o v.cells)))else acL
  |_=>acL
 |_=>acL
def qK(T:TH)(mu:Bool)(cells:List I):I×TH:=if mu then(.ptr T.n 0,T.push (.row cells))else(.ae cells,T)
def Ag(T:TH)(mu:Bool)(n:Nat)(v:I):Option (I×TH):=if v.known/\v.cells.length=n then acK (qK T mu v.cells)else acL
def Ah(T:TH)(mu:Bool)(sz len:Nat)(a:List I)(b:List (Nat×Nat×I)):Option (I×TH):=
 (jM (KT len a).flatten b).map λcells=>if mu then(.row T.n 0 len sz,T.push (.row cells))else(.aq .full len cells,T)
def Ai(T:TH)(mu:Bool)(sz b:Nat)(x y:I):Option (I×TH):=
 match hL T.ah sz y with
 |none=>acL
 | some (m,news)=>
  if ¬news.all I.scalar then acL else
  match x with
  | .aq tk len cells=>
   if m=0 then acK (.aq tk len cells,T)
   else if ¬(cells.length=len*sz/\(len+m)*b<=140737488355328/\len+m<=9223372036854775807)then acL
   else match tk,mu with
   | .nil,acI | .full,acI=>acK (.row T.n 0 (len+m) sz,T.push (.row (cells++news)))
   | .nil,acJ | .full,acJ=>acK (.aq (.own T.n) (len+m) (cells++news),T.push (.tok ((len+m)*sz) sz))
   | .own t,_=>match T.t.get t with
    | .tok k a=>if k=len*sz/\a=sz then acK (.aq (.own T.n) (len+m) (cells++news),(T.set t .gone).push (.tok ((len+m)*sz) sz))else acL
    |_=>acL
   | .dead,_=>acL
  | .row id o len a=>
   match T.t.get id with
   | .row cs=>
    if m=0 then acK (.row id o len a,T)
    else if ¬(o=0/\a=sz/\(len+m)*b<=140737488355328/\len+m<=9223372036854775807)then acL
    else if(len+m)*sz<=cs.length then acK (.row id 0 (len+m) sz,T.set id (.row (setCells cs (len*sz) news)))
    else if cs.length=len*sz then acK (.row T.n 0 (len+m) sz,(T.set id .gone).push (.row (cs++news)))
    else acL
   |_=>acL
  |_=>acL
def Aj(T:TH)(x:I):Option (I×TH):=
 match x with
 | .str s=>acK (.ptr T.n 0,T.push (.hr s 0))
 |_=>acL
def Ak(T:TH)(x:I):Option (I×TH):=
 match x with
 | .ptr id 0=>
  match T.t.get id with
  | .hr s pos=>
   if pos<s.length then
    let d:=Utf8.decode ⟨s.toArray⟩ pos
    acK (.aA [.bool acI,.int .i64 pos,.int .i32 d.1],T.set id (.hr s (pos+d.2)))
   else acK (.aA [.bool acJ],T)
  |_=>acL
 |_=>acL
def ua(T:TH)(mu:Bool)(sz b:Nat)(a:List I)(len cap:I):Option (I×TH):=
 match len,cap with
 | .int .i64 n,.int .i64 c=>
  if 0<=n/\n<=c/\b*c<=281474976710656/\c<=9223372036854775807/\a.length=sz then
   if mu then acK (.row T.n 0 n.toNat sz,T.push (.row (KT c.toNat a).flatten))
   else if n=c then acK (.aq .full n.toNat (KT n.toNat a).flatten,T)else acL
  else acL
 |_,_=>acL
def Al(T:TH)(sz:Nat)(x y:I):Option (I×TH):=
 match x,hL T.ah sz y with
 | .row id o len _,acK (m,news)=>
  match T.t.get id with
  | .row cs=>
   let n:=min m len
   if news.all I.scalar/\o+n*sz<=cs.length then acK (.int .i64 n,T.set id (.row (setCells cs o (news.take (n*sz)))))else acL
  |_=>acL
 |_,_=>acL
def ub(T:TH)(x:I):Option (I×TH):=
 match x with
 | .row id o len sz=>
  match T.t.get id with
  | .row cs=>if o+len*sz<=cs.length then acK (.aq .dead len ((cs.drop o).take (len*sz)),T.set id .gone)else acL
  |_=>acL
 | .ptr id o=>
  match T.t.get id with
  | .row cs=>match lh (λi=>T.t.get i) cs with
   |some (l,a)=>if a=id then acL else acK (.ptr id o,(T.set a .gone).set id (.row l))
   |none=>acK (.ae (cs.drop o),T.set id .gone)
  |_=>acL
 | .aq tk len cells=>acK (.aq tk len cells,T)
 | .ae cs=>acK (.ae cs,T)
 | .agg cells=>acK (.agg cells,T)
 |_=>acL
def text(T:TH)(e:Ext)(xs:List I):Option (I×TH):=
 match e,xs with
 | .clear sz zero,[.row id o len z]=>
  if len=0 then acK (.aA [],T)else
  match T.t.get id with
  | .row cs=>if zero.all I.scalar/\zero.length=sz/\o+len*sz<=cs.length then acK (.aA [],T.set id (.row (setCells cs o (KT len zero).flatten)))else acL
  |_=>acL
 | .clear _ _,[.aq _ 0 _]=>acK (.aA [],T)
 |_,_=>acL
def vh(r:I×TH):I×Z:=(r.1,r.2.ah)
theorem Pz(T:TH)(e:Ext)(xs:List I):(text T e xs).map vh=j8 T.ah e xs:=by
 have a:∀i,T.ah.o i=T.t.get i:=λ_=>rfl;cases e with
 |stuck=>cases xs<;>rfl
 | clear sz zero=>
  cases xs with
  |nil=>rfl
  | cons x r=>
   cases r with
   | cons y r=>
    cases x<;>try rfl
    rename_i tk len cells;cases len<;>rfl
   | nil =>
    cases x<;>try rfl
    . rename_i tk len cells;cases len<;>rfl
    . rename_i id o len z;simp only[text,j8,a];split
      ·rfl
      . cases T.t.get id<;>try rfl
        dsimp only;split
        ·simp[vh]
        ·rfl
theorem PA(T:TH)(n:Nat)(x v:I):(Af T n x v).map TH.ah=cf T.ah n x v:=by
 unfold Af cf;cases x<;>try rfl
 dsimp only;show _=match T.t.get _ with | .row cs=>_|_=>_
 split
 ·split<;>simp
 ·rfl
theorem ET(T:TH)(mu:Bool)(cells:List I):vh (qK T mu cells)=bQ T.ah mu cells:=by unfold qK bQ vh;split<;>simp
theorem PB(T:TH)(mu:Bool)(n:Nat)(v:I):(Ag T mu n v).map vh=b5 T.ah mu n v:=by
 unfold Ag b5;split
 ·simp[ET]
 ·rfl
theorem PC(T:TH)(mu:Bool)(sz len:Nat)(a:List I)(parts:List (Nat×Nat×I)):(Ah T mu sz len a parts).map vh=cI T.ah mu sz len a parts:=by unfold Ah cI;rw[Option.map_map];congr 1;funext cells;simp only[Function.comp,vh];split<;>simp
theorem PD(T:TH)(mu:Bool)(sz a:Nat)(x y:I):(Ai T mu sz a x y).map vh=cZ T.ah mu sz a x y:=by
 unfold Ai cZ;have b:∀i,T.ah.o i=T.t.get i:=λ_=>rfl;simp only[b];cases c:hL T.ah sz y with
 |none=>rfl
 | some p =>
  obtain⟨m,news⟩:=p;dsimp only;by_cases hs:news.all I.scalar=acI
  . simp only [hs,not_true_eq_false,b4];cases x<;>try rfl
    . rename_i tk len cells;dsimp only;by_cases hm:m=0
      ·simp only[ab hm];rfl
      . simp only[af hm];by_cases hc:¬(cells.length=len*sz/\(len+m)*a<=140737488355328/\len+m<=9223372036854775807)
        ·simp only[ab hc];rfl
        . simp only[af hc];cases tk<;>cases mu<;>try (simp[vh];done)
          all_goals
           rename_i t;dsimp only;cases ht:T.t.get t<;>try rfl
           dsimp only;split<;>simp[vh]
    . rename_i id o len d;dsimp only;cases ht:T.t.get id<;>try rfl
      dsimp only;split
      ·rfl
      . split
        ·rfl
        . split
          ·simp[vh]
          ·split<;>simp[vh]
  ·simp only[hs,not_false_eq_true,bc];rfl
theorem PE(T:TH)(x:I):(Aj T x).map vh=nD T.ah x:=by unfold Aj nD;cases x<;>simp[vh]
theorem PF(T:TH)(x:I):(Ak T x).map vh=la T.ah x:=by
 have a:∀i,T.ah.o i=T.t.get i:=λ_=>rfl;cases x<;>try rfl
 rename_i id off;cases off with
 |succ k=>rfl
 | zero=>
  simp only[Ak,la,a];cases ht:T.t.get id<;>try rfl
  dsimp only;split<;>simp[vh]
theorem PG(T:TH)(mu:Bool)(sz a:Nat)(b:List I)(len cap:I):(ua T mu sz a b len cap).map vh=jN T.ah mu sz a b len cap:=by
 have go:∀n c:Int,(ua T mu sz a b (.int .i64 n) (.int .i64 c)).map vh=jN T.ah mu sz a b (.int .i64 n) (.int .i64 c):=by
  intro n c;simp only[ua,jN];by_cases h:0<=n/\n<=c/\a*c<=281474976710656/\c<=9223372036854775807/\b.length=sz
  . simp only[ab h];by_cases hm:mu=acI
    ·simp only[ab hm];simp[vh]
    . simp only[af hm];by_cases hn:n=c
      ·simp only[ab hn];rfl
      ·simp only[af hn];rfl
  ·simp only[af h];rfl
 cases len<;>try rfl
 rename_i k n;cases k<;>try rfl
 cases cap<;>try rfl
 rename_i k c;cases k<;>try rfl
 exact go n c
theorem PH(T:TH)(sz:Nat)(x y:I):(Al T sz x y).map vh=qt T.ah sz x y:=by
 have a:∀i,T.ah.o i=T.t.get i:=λ_=>rfl;unfold Al qt;cases b:hL T.ah sz y with
 |none=>cases x<;>rfl
 | some p=>
  cases x<;>try rfl
  rename_i id o len c;simp only[a];cases ht:T.t.get id<;>try rfl
  dsimp only;split<;>simp[vh]
theorem PI(T:TH)(x:I):(ub T x).map vh=kG T.ah x:=by
 have b:∀i,T.ah.o i=T.t.get i:=λ_=>rfl;cases x<;>try rfl
 . rename_i id o;simp only[ub,kG,b];cases ht:T.t.get id<;>try rfl
   rename_i cs;dsimp only;show Option.map vh (match lh T.ah.o cs with
     |some (l,a)=>if a=id then acL else acK (.ptr id o,(T.set a .gone).set id (.row l))
     |none=>acK (.ae (cs.drop o),T.set id .gone))=_
   cases lh T.ah.o cs with
   |none=>simp[vh]
   | some q=>
    obtain⟨l,a⟩:=q;dsimp only;by_cases e:a=id
    ·rw[ab e,ab e];rfl
    ·rw[af e,af e];simp[vh]
 . rename_i id o len sz;simp only[ub,kG,b];cases ht:T.t.get id<;>try rfl
   dsimp only;split<;>simp[vh]
variable{n:Nat}{env:Env}{Φ:ad}{H:Z}{ops:List cb}{o:cb}
noncomputable section
abbrev EV:=List (Nat×I)
def fX(E:EV)(t:Nat):I:=List.rec (motive:=λ_=>I) .bot (λp _ a=>cond (acQ p.1 t) p.2 a) E
def fY(n:Nat)(E:EV)(t:Nat)(v:I):EV:=cond (acT t n) ((t,v)::E) E
def gR(n:Nat)(E:EV)(d:Option Nat)(v:I):EV:=
 match d with
 |some t=>fY n E t v
 |none=>E
theorem PJ(a b:Nat):acQ a b=decide (a=b):=by rw[acm];simp
theorem PK(a b:Nat):acT a b=decide (a<b):=by rw[acm];simp[acT];omega
theorem EW(t:Nat)(v:I)(E:EV)(i:Nat):fX ((t,v)::E) i=if t=i then v else fX E i:=by show cond (acQ t i) v (fX E i)=_;rw[PJ,cond_eq_ite];simp
def eR(n:Nat)(E:EV)(env:Env):Prop:=env.length=n/\∀i,fX E i=env.getD i .bot
theorem eR.set{E:EV}(h:eR n E env)(t:Nat)(v:I):eR n (fY n E t v) (env.set t v):=by
 refine⟨by simp[h.1],λi=>?_⟩;unfold fY;rw[PK,cond_eq_ite];by_cases ht:t<n
 . rw[ab (by simpa using ht),EW,abD,aaN];by_cases e:t=i
   ·rw[ab e,ab e,ab (by rw[h.1];exact ht)];rfl
   ·rw[af e,af e,<-abD];exact h.2 i
 . rw[af (by simpa using ht),List.set_eq_of_length_le (by rw[h.1];omega)];exact h.2 i
theorem eR.cm{E:EV}(h:eR n E env)(d:Option Nat)(v:I):eR n (gR n E d v) (Rb.cm env d v):=by
 cases d with
 |none=>exact h
 |some t=>exact h.set t v
def nN:List I->Nat->EV
 |[],_=>[]
 |a::r,i=>(i,a)::nN r (i+1)
theorem EY:∀(args:List I)(i j:Nat),fX (nN args i) j=if j<i then .bot else args.getD (j-i) .bot
 |[],i,j=>by simp[nN,fX]
 | a :: r,i,j=>by
  rw[nN,EW,EY r (i+1) j];by_cases h:i=j
  ·subst h;simp
  . rw[af h];by_cases b:j<i
    ·rw[dN,ab b]
    ·rw[bL,af b,show j-i=(j-(i+1))+1 by omega];simp
def bK.sub(E:EV):bK->bK
 | .t n=> .k (fX E n)
 | .k v=> .k v
theorem Am{E:EV}(h:eR n E env)(x:bK):(x.sub E).ev []=x.ev env:=by
 cases x with
 |t i=>exact h.2 i
 |k v=>rfl
def e2.sub(E:EV):e2->e2
 | .mv x=> .mv (x.sub E)
 | .pick c a b=> .pick (c.sub E) (a.sub E) (b.sub E)
 | .bin op x y=> .bin op (x.sub E) (y.sub E)
 | .beq neg x y=> .beq neg (x.sub E) (y.sub E)
 | .j_ k neg x=> .j_ k neg (x.sub E)
 | .jv neg ks x y=> .jv neg ks (x.sub E) (y.sub E)
 | .un op x=> .un op (x.sub E)
 | .conv k x=> .conv k (x.sub E)
 | .same x=> .same (x.sub E)
 | .kH x=> .kH (x.sub E)
 | .field off sz agg x=> .field off sz agg (x.sub E)
 | .idx l sz agg x i=> .idx l sz agg (x.sub E) (i.sub E)
 | .idxs x i=> .idxs (x.sub E) (i.sub E)
 | .hM off x=> .hM off (x.sub E)
 | .gY arr sz x i=> .gY arr sz (x.sub E) (i.sub E)
 | .slice sz x lo hi mx=> .slice sz (x.sub E) (lo.map (bK.sub E)) (hi.map (bK.sub E)) (mx.map (bK.sub E))
 | .kI x lo hi=> .kI (x.sub E) (lo.map (bK.sub E)) (hi.map (bK.sub E))
 | .iD t x=> .iD t (x.sub E)
 | .h_ key cd=> .h_ key (cd.map (bK.sub E))
 | .extract i x=> .extract i (x.sub E)
 | .build zero parts=> .build zero (parts.map λp=>(p.1,p.2.1,p.2.2.sub E))
 | .len str x=> .len str (x.sub E)
 | .iE n=> .iE n
 | .iF mx xs=> .iF mx (xs.map (bK.sub E))
 | .load n agg x=> .load n agg (x.sub E)
 | .store n x v=> .store n (x.sub E) (v.sub E)
 | .box mu n x=> .box mu n (x.sub E)
 | .alloc mu zero=> .alloc mu zero
 | .hP mu sz l zero parts=> .hP mu sz l zero (parts.map λp=>(p.1,p.2.1,p.2.2.sub E))
 | .append mu sz bytes x y=> .append mu sz bytes (x.sub E) (y.sub E)
 | .make mu sz bytes zero l c=> .make mu sz bytes zero (l.sub E) (c.sub E)
 | .copy sz x y=> .copy sz (x.sub E) (y.sub E)
 | .kJ x=> .kJ (x.sub E)
 | .iX x=> .iX (x.sub E)
 | .iY x=> .iY (x.sub E)
 | .iZ x=> .iZ (x.sub E)
 | .call key args=> .call key (args.map (bK.sub E))
 | .i6 f args=> .i6 (f.sub E) (args.map (bK.sub E))
 | .ext e xs=> .ext e (xs.map (bK.sub E))
theorem uc{E:EV}(h:eR n E env){K:aa}(op:e2):cy Φ [] H K (op.sub E)=cy Φ env H K op:=by
 have h1:=Am h;have hl:∀xs:List bK,gh [] (xs.map (bK.sub E))=gh env xs:=λxs=>by simp only[gh,acU];congr 1;funext x;exact h1 x
 have hp:∀xs:List (Nat×Nat×bK),gZ [] (xs.map λp=>(p.1,p.2.1,p.2.2.sub E))=gZ env xs:=λxs=>by simp only[gZ,acU];congr 1;funext x;simp[h1]
 have a:∀x:Option bK,(x.map (bK.sub E)).map (bK.ev [])=x.map (bK.ev env):=λx=>by cases x<;>simp[h1]
 cases op<;>simp only[e2.sub,cy,h1,hl,hp,a]
abbrev kg:=EV->Z->Prop
def kh(Φ:ad)(n:Nat):List cb->EV->Z->kg->Prop
 |[],E,H,K=>K E H
 | o :: r,E,H,K=>
  match o.guard with
  |none=>cy Φ [] H (λv H'=>kh Φ n r (gR n E o.dst v) H' K) (o.op.sub E)
  | some (s,want)=>
   aF (fX E s) want (cy Φ [] H (λv H'=>kh Φ n r (gR n (fY n E s (.bool want)) o.dst v) H' K) (o.op.sub (fY n E s (.bool want))))
    (kh Φ n r (gR n (fY n E s (.bool !want)) o.dst (.aA [])) H K) (kh Φ n r (gR n (fY n E s (.aA [])) o.dst (.aA [])) H K)
theorem aF.imp{v:I}{b:Bool}{A B C c d e:Prop}(f:A->c)(hB:B->d)(g:C->e)(h:aF v b A B C):aF v b c d e:=by
 unfold aF at *;split at h
 . split at h
   ·rename_i a;simp[a,f h]
   ·rename_i a;simp[a,hB h]
 ·exact g h
 ·exact h.elim
theorem EZ(c:kd Φ):∀{l:List cb}{E:EV}{env:Env}{H:Z}{K:kg}{Q:Env->Z->Prop},eR n E env->kh Φ n l E H K->(∀E' aP H',eR n E' aP->K E' H'->Q aP H')->i7 Φ l env H Q:=by
 intro l;induction l with
 |nil=>intro E env H K Q ha h a;exact a _ _ _ ha h
 | cons o r b=>
  intro E env H K Q ha h a;simp only[kh]at h;simp only[i7];cases d:o.guard with
  | none=>rw[d]at h;dsimp only at h ⊢;rw[uc ha]at h;exact oX c (λv H' h=>b (ha.cm _ _) h a) h
  | some g=>obtain⟨s,want⟩:=g;rw[d]at h;dsimp only at h ⊢;rw[ha.2 s,uc (ha.set s _)]at h;exact aF.imp (oX c λv H' h=>b ((ha.set _ _).cm _ _) h a) (λh=>b ((ha.set _ _).cm _ _) h a) (λh=>b ((ha.set _ _).cm _ _) h a) h
def o9(Φ:ad)(n:Nat)(o:cb)(E:EV)(H:Z)(K:kg):Prop:=
 match o.guard with
 |none=>cy Φ [] H (λv H'=>K (gR n E o.dst v) H') (o.op.sub E)
 | some (s,want)=>
  aF (fX E s) want (cy Φ [] H (λv H'=>K (gR n (fY n E s (.bool want)) o.dst v) H') (o.op.sub (fY n E s (.bool want))))
   (K (gR n (fY n E s (.bool !want)) o.dst (.aA [])) H) (K (gR n (fY n E s (.aA [])) o.dst (.aA [])) H)
theorem E0(b:kd Φ){E:EV}{K:kg}{Q:Env->Z->Prop}(ha:eR n E env)(h:o9 Φ n o E H K)(a:∀E' aP H',eR n E' aP->K E' H'->Q aP H'):kK Φ o env H Q:=by
 unfold o9 at h;unfold kK;cases c:o.guard with
 | none=>rw[c]at h;dsimp only at h ⊢;rw[uc ha]at h;exact oX b (λv H' h=>a _ _ _ (ha.cm _ _) h) h
 | some g=>obtain⟨s,want⟩:=g;rw[c]at h;dsimp only at h ⊢;rw[ha.2 s,uc (ha.set s _)]at h;exact aF.imp (oX b λv H' h=>a _ _ _ ((ha.set _ _).cm _ _) h) (λh=>a _ _ _ ((ha.set _ _).cm _ _) h) (λh=>a _ _ _ ((ha.set _ _).cm _ _) h) h
def mU(Φ:ad)(n:Nat)(ops:List cb):List Nat->EV->Z->kg->Prop
 |[],E,H,K=>K E H
 | i::r,E,H,K=>match ops[i]? with
  |some o=>o9 Φ n o E H λE' H'=>mU Φ n ops r E' H' K
  |none=>False
theorem E1(b:kd Φ):∀{l:List Nat}{E:EV}{env:Env}{H:Z}{K:kg}{Q:Env->Z->Prop},eR n E env->mU Φ n ops l E H K->(∀E' aP H',eR n E' aP->K E' H'->Q aP H')->lk Φ ops l env H Q:=by
 intro l;induction l with
 |nil=>intro E env H K Q ha h a;exact a _ _ _ ha h
 | cons i r c=>
  intro E env H K Q ha h a;simp only[mU]at h;simp only[lk];split at h
  . rename_i o d;rw[d];exact E0 b ha h λE' aP H' e f=>c e f a
  ·exact h.elim
def o_(E:EV)(H:Z)(o:cb):Prop:=
 match o.op with
 | .load n agg x=>aj H n agg ((x.sub E).ev [])=acK (fX E (o.dst.getD 0))
 | .iX x=>abstr H ((x.sub E).ev [])=acK (fX E (o.dst.getD 0))
 |_=>True
def qL(E:EV)(H:Z)(o:cb):Prop:=
 match o.guard with
 |none=>o_ E H o
 |some (s,want)=>fX E s = .bool want->o_ E H o
theorem PM{E:EV}(ha:eR n E env)(h:qL E H o):qw env H o:=by
 have h1:=Am ha;have fin:o_ E H o->oM env H o:=by unfold o_ oM;intro h;cases b:o.op<;>rw[b]at h<;>dsimp only at h ⊢ <;> (try rw[h1]at h)<;>(try rw[h1]at h)<;>(try rw[ha.2]at h)<;>exact h
 unfold qL at h;unfold qw;cases a:o.guard with
 |none=>rw[a]at h;exact fin h
 | some g=>obtain⟨s,want⟩:=g;rw[a]at h;dsimp only at h ⊢;rw[ha.2]at h;exact λhs=>fin (h hs)
def ud(ops:List cb)(E:EV)(H:Z)(X:Prop):List Nat->Prop
 |[]=>X
 |l::r=>(match ops[l]? with|some o=>qL E H o|none=>True)/\ud ops E H X r
theorem PN{E:EV}(ha:eR n E env){X Y:Prop}(a:X->Y):∀{l:List Nat},ud ops E H X l->gQ ops env H Y l:=by
 intro l;induction l with
 |nil=>intro h;exact a h
 | cons i r b=>
  intro h;refine⟨?_,b h.2⟩;have h1:=h.1;cases c:ops[i]? with
  |none=>trivial
  |some o=>rw[c]at h1;exact PM ha h1
def pa(Φ:ad)(n:Nat)(ops:List cb)(a:List Nat):List (List Nat×Nat×List Nat)->EV->Z->kg->Prop
 |[],E,H,K=>mU Φ n ops a E H K
 | (c,e,st)::r,E,H,K=>mU Φ n ops c E H λb H1=>match ops[e]? with
  |some o=>o9 Φ n o b H1 λd H2=>ud ops b H2 (pa Φ n ops a r d H2 K) st
  |none=>False
theorem PO(a:kd Φ){c:List Nat}:∀{bT:List (List Nat×Nat×List Nat)}{E:EV}{env:Env}{H:Z}{K:kg}{Q:Env->Z->Prop},eR n E env->pa Φ n ops c bT E H K->(∀E' aP H',eR n E' aP->K E' H'->Q aP H')->jO Φ ops c bT env H Q:=by
 intro bT;induction bT with
 |nil=>intro E env H K Q ha h b;exact E1 a ha h b
 | cons p r g=>
  obtain⟨j,e,st⟩:=p;intro E env H K Q ha h b;simp only[pa]at h;simp only[jO];refine E1 a ha h λk e1 H1 d h1=>?_;cases f:ops[e]? with
  |none=>rw[f]at h1;exact h1.elim
  | some o=>rw[f]at h1;exact E0 a d h1 λl m H2 fy i=>PN d (λh=>g fy h b) i
def jd(E:EV)(vs:List Nat):List I:=vs.map λt=>fX E t
def ki(n:Nat)(E:EV):List Nat->EV
 |[]=>E
 |t::r=>ki n (fY n E t .bot) r
def kj(n:Nat)(E:EV):List Nat->List I->EV
 |t::r,s=>kj n (fY n E t (s.headD .bot)) r s.tail
 |[],_=>E
theorem eR.fV{E:EV}(h:eR n E env)(vs:List Nat):jd E vs=Rb.fV env vs:=by simp only[jd,Rb.fV];congr 1;funext t;exact h.2 t
theorem eR.hx{n:Nat}:∀(ks:List Nat){E:EV}{env:Env},eR n E env->eR n (ki n E ks) (Rb.hx env ks)
 |[],_,_,h=>h
 |t::r,_,_,h=>eR.hx r (h.set t _)
theorem eR.jy{n:Nat}:∀(vs:List Nat)(a:List I){E:EV}{env:Env},eR n E env->eR n (kj n E vs a) (Rb.jy env vs a)
 |[],_,_,_,h=>h
 |t::r,a,_,_,h=>eR.jy r a.tail (h.set t _)
def fM(Φ:ad)(n:Nat):dT->EV->Z->(hU->EV->Z->Prop)->Prop
 | .skip,E,H,Q=>Q .normal E H
 | .region ops,E,H,Q=>kh Φ n ops E H (Q .normal)
 | .draw ops _ bT last,E,H,Q=>pa Φ n ops last bT E H (Q .normal)
 | .seq a b,E,H,Q=>fM Φ n a E H λe E' H'=>match e with
  | .normal=>fM Φ n b E' H' Q
  |e=>Q e E' H'
 | .join vs ks a b,E,H,Q=>fM Φ n a E H λe E' H'=>match e with
  | .normal=>G (λst c=>fM Φ n b (kj n (ki n E ks) vs st) c Q) (jd E' vs) H'
  |e=>Q e E' H'
 | .cond x a b,E,H,Q=>W ((x.sub E).ev []) acI (fM Φ n a E H Q) (fM Φ n b E H Q)
 | .block id a,E,H,Q=>fM Φ n a E H λe E' H'=>match e with
  | .exit d=>if d=id then Q .normal E' H' else Q (.exit d) E' H'
  |e=>Q e E' H'
 | .loop vs ks a,E,H,Q=>
  ar (λ(s:List I×Z) (K:List I×Z->Prop)=>
    fM Φ n a (kj n (ki n E ks) vs s.1) s.2 λe E' H'=>match e with
     | .normal=>K (jd E' vs,H')
     |e=>Q e E' H') (jd E vs,H)
 | .exit id,E,H,Q=>Q (.exit id) E H
 | .ret,E,H,Q=>Q .ret E H
 | .freeze t a,E,H,Q=>bs (kG H (fX E t)) λv H'=>fM Φ n a (fY n E t v) H' Q
 | .hR vs ks ops b,E,H,Q=>kh Φ n ops E H λE' H'=>G (λst c=>fM Φ n b (kj n (ki n E ks) vs st) c Q) (jd E' vs) H'
theorem ar.imp{a:Type}{F b:a->(a->Prop)->Prop}(hF:∀s K,F s K->b s K){s:a}(h:ar F s):ar b s:=λc d=>h c λs K hs e=>d s K (hF s K hs) e
theorem PQ(m:kd Φ):∀{c:dT}{E:EV}{env:Env}{H:Z}{K:hU->EV->Z->Prop}{Q:hU->Env->Z->Prop},eR n E env->fM Φ n c E H K->(∀x E' aP H',eR n E' aP->K x E' H'->Q x aP H')->dk Φ c env H Q:=by
 intro c;induction c with
 |skip=>intro E env H K Q ha h d;exact d _ _ _ _ ha h
 |region ops=>intro E env H K Q ha h d;exact EZ m ha h λ_ _ _ ha h=>d _ _ _ _ ha h
 |draw ops pr bT last=>intro E env H K Q ha h d;exact PO m ha h λ_ _ _ ha h=>d _ _ _ _ ha h
 | seq a b j k=>
  intro E env H K Q ha h d;simp only[fM]at h;simp only[dk];refine j ha h λx E' l H' f e=>?_;cases x with
  |normal=>exact k f e d
  |exit i=>exact d _ _ _ _ f e
  |ret=>exact d _ _ _ _ f e
 | join vs ks a b j k=>
  intro E env H K Q ha h d;simp only[fM]at h;simp only[dk];refine j ha h λx E' l H' f e=>?_;cases x with
  | normal=>dsimp only at e ⊢;rw[f.fV vs]at e;exact k ((ha.hx ks).jy vs _) e d
  |exit i=>exact d _ _ _ _ f e
  |ret=>exact d _ _ _ _ f e
 | cond x a b j k=>intro E env H K Q ha h d;simp only[fM,Am ha]at h;exact W.mono (λh=>j ha h d) (λh=>k ha h d) h
 | block id a g=>
  intro E env H K Q ha h d;simp only[fM]at h;simp only[dk];refine g ha h λx E' l H' f e=>?_;cases x with
  |normal=>exact d _ _ _ _ f e
  | exit i=>
   dsimp only at e ⊢;split
   ·rename_i hi;rw[ab hi]at e;exact d _ _ _ _ f e
   ·rename_i hi;rw[af hi]at e;exact d _ _ _ _ f e
  |ret=>exact d _ _ _ _ f e
 | loop vs ks a g=>
  intro E env H K Q ha h d;simp only[fM]at h;simp only[dk];rw[ha.fV vs]at h;refine ar.imp (λs K' hs=>g ((ha.hx ks).jy vs s.1) hs λx E' l H' f e=>?_) h;cases x with
  |normal=>dsimp only at e ⊢;rw[<-f.fV vs];exact e
  |exit i=>exact d _ _ _ _ f e
  |ret=>exact d _ _ _ _ f e
 |exit id=>intro E env H K Q ha h d;exact d _ _ _ _ ha h
 |ret=>intro E env H K Q ha h d;exact d _ _ _ _ ha h
 | freeze t a g=>intro E env H K Q ha h d;simp only[fM]at h;simp only[dk];rw[ha.2 t]at h;exact bs.mono (λv H' e=>g (ha.set t v) e d) h
 | hR vs ks ops b g=>intro E env H K Q ha h d;simp only[fM]at h;simp only[dk];refine EZ m ha h λE' l H' f e=>?_;rw[f.fV vs]at e;exact g ((ha.hx ks).jy vs _) e d
def nO(E:EV)(H:Z):List ll->(List I->Prop)->Prop
 |[],K=>K []
 | .tmp t::r,K=>nO E H r λvs=>K (fX E t::vs)
 | .cell t n agg::r,K=>Do (aj H n agg (fX E t)) λv=>nO E H r λvs=>K (v::vs)
theorem E2{E:EV}(ha:eR n E env):∀{rs:List ll}{K:List I->Prop},nO E H rs K=mc env H rs K:=by
 intro rs;induction rs with
 |nil=>intro K;rfl
 | cons r rs a=>
  intro K;cases r with
  |tmp t=>simp only[nO,mc,a,ha.2]
  |cell t n agg=>simp only[nO,mc,a,ha.2]
def An(Φ:ad)(f:aU)(args:List I)(H:Z)(Q:aa):Prop:=
 fM Φ f.ntmps f.body (nN args 0) H λe E H'=>match e with
  | .exit _=>False
  |_=>nO E H' f.results λvs=>Q (oN vs) H'
def Ao(Φ:ad)(f:aU)(args:List I)(H:Z)(Q:aa):Prop:=args.length<=f.ntmps/\An Φ f args H Q
theorem E3(c:kd Φ){f:aU}{args:List I}{Q:aa}(h:Ao Φ f args H Q):qx Φ f args H Q:=by
 have ha:eR f.ntmps (nN args 0) (args++KT (f.ntmps-args.length) .bot):=by
  refine⟨by simp;have:=h.1;omega,λi=>?_⟩;rw[EY];simp only[Nat.not_lt_zero,b4,Nat.sub_zero];simp only[abD];by_cases hi:i<args.length
  ·rw[List.getElem?_append_left hi]
  . rw[List.getElem?_append_right (by omega),List.getElem?_eq_none (by omega),acN];split<;>rfl
 refine PQ c ha h.2 λx E' d H' b a=>?_;cases x with
 |normal=>dsimp only at a ⊢;rw[E2 b]at a;exact a
 |exit i=>exact a
 |ret=>dsimp only at a ⊢;rw[E2 b]at a;exact a
end
end Rb
namespace Rb
open Go
variable{Φ:ad}{B:fx}{T:TH}{n fuel:Nat}{E:EV}{K:mg}{Q:aa}{P:Prop}{o:cb}{ops:List cb}{v:I}{want:Bool}
def E4(Φ:fx)(f:I)(args:List I)(T:TH)(K:mg):Bool:=
 match f with
 | .fn key cd=>Φ (jw key) (jx key args cd) T K
 |_=>acJ
def pb(Φ:fx)(d:Env)(T:TH)(K:mg):e2->Bool
 | .mv x=>K (x.ev d) T
 | .pick c a b=>t_ (c.ev d) acI (K (a.ev d) T) (K (b.ev d) T)
 | .bin op x y=>fK (cH op (x.ev d) (y.ev d)) λv=>K v T
 | .beq neg x y=>fK (kD neg (x.ev d) (y.ev d)) λv=>K v T
 | .j_ k neg x=>fK (nB k neg (x.ev d)) λv=>K v T
 | .jv neg ks x y=>fK (kE neg ks (x.ev d) (y.ev d)) λv=>K v T
 | .un op x=>fK (cu op (x.ev d)) λv=>K v T
 | .conv k x=>fK (fU k (x.ev d)) λv=>K v T
 | .same x=>fK (qm (x.ev d)) λv=>K v T
 | .kH x=>fK (b8 (x.ev d)) λv=>K v T
 | .field off sz agg x=>fK (kF off sz agg (x.ev d)) λv=>K v T
 | .idx len sz agg x i=>fK (qn len sz agg (x.ev d) (i.ev d)) λv=>K v T
 | .idxs x i=>fK (ju (x.ev d) (i.ev d)) λv=>K v T
 | .hM off x=>fK (aH off (x.ev d)) λv=>K v T
 | .gY arr sz x i=>fK (aL arr sz (x.ev d) (i.ev d)) λv=>K v T
 | .slice sz x lo hi mx=>fK (eC sz (x.ev d) (lo.map (bK.ev d)) (hi.map (bK.ev d)) (mx.map (bK.ev d))) λv=>K v T
 | .kI x lo hi=>fK (qo (x.ev d) (lo.map (bK.ev d)) (hi.map (bK.ev d))) λv=>K v T
 | .iD t x=>K (.iface t (x.ev d)) T
 | .h_ key cd=>K (.fn key (gh d cd)) T
 | .extract i x=>fK (bA i (x.ev d)) λv=>K v T
 | .build zero parts=>fK (bS zero (gZ d parts)) λv=>K v T
 | .len str x=>fK (ea str (x.ev d)) λv=>K v T
 | .iE n=>K (.int .i64 n) T
 | .iF mx xs=>fK (gH mx (gh d xs)) λv=>K v T
 | .load n agg x=>fK (aj T.ah n agg (x.ev d)) λv=>K v T
 | .store n x v=>fK (Af T n (x.ev d) (v.ev d)) λT=>K (.aA []) T
 | .box mu n x=>kT (Ag T mu n (x.ev d)) K
 | .alloc mu zero=>kT (acK (qK T mu zero)) K
 | .hP mu sz len zero parts=>kT (Ah T mu sz len zero (gZ d parts)) K
 | .append mu sz bytes x y=>kT (Ai T mu sz bytes (x.ev d) (y.ev d)) K
 | .make mu sz bytes zero len cap=>kT (ua T mu sz bytes zero (len.ev d) (cap.ev d)) K
 | .copy sz x y=>kT (Al T sz (x.ev d) (y.ev d)) K
 | .kJ x=>fK (qs (x.ev d)) λv=>K v T
 | .iX x=>fK (abstr T.ah (x.ev d)) λv=>K v T
 | .iY x=>kT (Aj T (x.ev d)) K
 | .iZ x=>kT (Ak T (x.ev d)) K
 | .call key args=>Φ key (gh d args) T K
 | .i6 f args=>E4 Φ (f.ev d) (gh d args) T K
 | .ext e xs=>kT (text T e (gh d xs)) K
def ie(Φ:ad)(B:fx):Prop:=∀k args T (K:mg),B k args T K=acI->∀Q:aa,(∀v a,K v a=acI->Q v a.ah)->Φ k args T.ah Q
theorem E5{α:Type}{x:Option α}{K:α->Bool}{P:α->Prop}(h:fK x K=acI)(b:∀a,K a=acI->P a):Do x P:=by
 cases x with
 |none=>cases h
 |some a=>exact⟨a,rfl,b a h⟩
theorem lG{x:Option (I×TH)}{y:Option (I×Z)}(c:x.map vh=y)(h:kT x K=acI)(d:∀v b,K v b=acI->Q v b.ah):bs y Q:=by
 cases x with
 |none=>cases h
 |some a=>subst c;exact⟨a.1,a.2.ah,rfl,d _ _ h⟩
theorem PR{x:Option TH}{y:Option Z}{K:TH->Bool}{P:Z->Prop}(c:x.map TH.ah=y)(h:fK x K=acI)(d:∀b,K b=acI->P b.ah):Do y P:=by
 cases x with
 |none=>cases h
 |some a=>subst c;exact⟨a.ah,rfl,d _ h⟩
theorem E6{A B:Bool}{P Q:Prop}(h:t_ v want A B=acI)(a:A=acI->P)(hB:B=acI->Q):W v want P Q:=by
 cases v<;>first|cases h|skip
 rename_i b;simp only[t_]at h;unfold W;dsimp only;split
 ·rename_i e;subst e;simp at h;exact a h
 . rename_i e;have:(b ^^ want)=acI:=by cases b<;>cases want<;>simp_all
   rw[this]at h;exact hB h
theorem ue(hB:ie Φ B){b:Env}{op:e2}(h:pb B b T K op=acI)(a:∀v c,K v c=acI->Q v c.ah):cy Φ b T.ah Q op:=by
 cases op with
 |mv=>exact a _ _ h
 |pick=>exact E6 h (a _ _) (a _ _)
 |iD=>exact a _ _ h
 |h_=>exact a _ _ h
 |iE=>exact a _ _ h
 |store=>exact PR (PA _ _ _ _) h λ_ h=>a _ _ h
 |box=>exact lG (PB _ _ _ _) h a
 |alloc mu zero=>exact lG (x:=acK (qK T mu zero)) (by simp only[Option.map_some,ET]) h a
 |hP=>exact lG (PC _ _ _ _ _ _) h a
 |append=>exact lG (PD _ _ _ _ _ _) h a
 |make=>exact lG (PG _ _ _ _ _ _ _) h a
 |copy=>exact lG (PH _ _ _ _) h a
 |iY=>exact lG (PE _ _) h a
 |iZ=>exact lG (PF _ _) h a
 |call key args=>exact hB _ _ _ _ h _ a
 | i6 f args=>
  simp only[pb,E4]at h;split at h
  . rename_i key cd hf;exact⟨key,cd,hf,hB _ _ _ _ h _ a⟩
  ·cases h
 |ext=>exact lG (Pz _ _ _) h a
 |_=>exact E5 h λ_ h=>a _ _ h
def uf(v:I)(want:Bool)(A B C:Bool):Bool:=
 match v with
 | .bool b=>bif acS b want then B else A
 | .aA []=>C
 |_=>acJ
theorem E7{A B C:Bool}{P Q R:Prop}(h:uf v want A B C=acI)(a:A=acI->P)(hB:B=acI->Q)(c:C=acI->R):aF v want P Q R:=by
 unfold uf at h;unfold aF;split at h
 . rename_i b;dsimp only;split
   ·rename_i e;subst e;simp at h;exact a h
   . rename_i e;have:(b ^^ want)=acI:=by cases b<;>cases want<;>simp_all
     rw[this]at h;exact hB h
 ·exact c h
 ·cases h
noncomputable section
def mV(Φ:fx)(n:Nat):List cb->EV->TH->(EV->TH->Bool)->Bool
 |[],E,T,K=>K E T
 | o :: r,E,T,K=>
  match o.guard with
  |none=>pb Φ [] T (λv a=>mV Φ n r (gR n E o.dst v) a K) (o.op.sub E)
  | some (s,want)=>
   uf (fX E s) want (pb Φ [] T (λv a=>mV Φ n r (gR n (fY n E s (.bool want)) o.dst v) a K) (o.op.sub (fY n E s (.bool want))))
    (mV Φ n r (gR n (fY n E s (.bool !want)) o.dst (.aA [])) T K) (mV Φ n r (gR n (fY n E s (.aA [])) o.dst (.aA [])) T K)
theorem E8(hB:ie Φ B):∀{l:List cb}{E:EV}{T:TH}{K:EV->TH->Bool}{Q:kg},mV B n l E T K=acI->(∀e b,K e b=acI->Q e b.ah)->kh Φ n l E T.ah Q:=by
 intro l;induction l with
 |nil=>intro E T K Q h a;exact a _ _ h
 | cons o r c=>
  intro E T K Q h a;simp only[mV]at h;simp only[kh];cases f:o.guard with
  | none=>rw[f]at h;exact ue hB h (Q:=λv H'=>kh Φ n r (gR n E o.dst v) H' Q) λv b d=>c d a
  | some g=>obtain⟨s,want⟩:=g;rw[f]at h;exact E7 h (λh=>ue hB h (Q:=λv H'=>kh Φ n r (gR n (fY n E s (.bool want)) o.dst v) H' Q) λv b d=>c d a) (λh=>c h a) λh=>c h a
def ug(Φ:fx)(n:Nat)(o:cb)(E:EV)(T:TH)(K:EV->TH->Bool):Bool:=
 match o.guard with
 |none=>pb Φ [] T (λv a=>K (gR n E o.dst v) a) (o.op.sub E)
 | some (s,want)=>
  uf (fX E s) want (pb Φ [] T (λv a=>K (gR n (fY n E s (.bool want)) o.dst v) a) (o.op.sub (fY n E s (.bool want))))
   (K (gR n (fY n E s (.bool !want)) o.dst (.aA [])) T) (K (gR n (fY n E s (.aA [])) o.dst (.aA [])) T)
theorem E9(hB:ie Φ B){K:EV->TH->Bool}{Q:kg}(h:ug B n o E T K=acI)(a:∀e b,K e b=acI->Q e b.ah):o9 Φ n o E T.ah Q:=by
 unfold ug at h;unfold o9;cases d:o.guard with
 | none=>rw[d]at h;exact ue hB h (Q:=λv H'=>Q (gR n E o.dst v) H') λv b c=>a _ _ c
 | some g=>obtain⟨s,want⟩:=g;rw[d]at h;exact E7 h (λh=>ue hB h (Q:=λv H'=>Q (gR n (fY n E s (.bool want)) o.dst v) H') λv b c=>a _ _ c) (λh=>a _ _ h) λh=>a _ _ h
def qM(Φ:fx)(n:Nat)(ops:List cb):List Nat->EV->TH->(EV->TH->Bool)->Bool
 |[],E,T,K=>K E T
 | i::r,E,T,K=>match ops[i]? with
  |some o=>ug Φ n o E T λE' a=>qM Φ n ops r E' a K
  |none=>acJ
theorem E_(hB:ie Φ B):∀{l:List Nat}{E:EV}{T:TH}{K:EV->TH->Bool}{Q:kg},qM B n ops l E T K=acI->(∀e a,K e a=acI->Q e a.ah)->mU Φ n ops l E T.ah Q:=by
 intro l;induction l with
 |nil=>intro E T K Q h b;exact b _ _ h
 | cons i r d=>
  intro E T K Q h b;simp only[qM]at h;simp only[mU];cases c:ops[i]? with
  |none=>rw[c]at h;cases h
  | some o=>rw[c]at h;exact E9 hB h (Q:=λe H'=>mU Φ n ops r e H' Q) λe a f=>d f b
def uh(x:Option I)(d:I):Bool:=
 match x with
 |some v=>v.same d
 |none=>acJ
def Fa(g:I)(want:Bool)(X:Bool):Bool:=
 match g with
 | .bool b=>bif acS b want then acI else X
 |_=>acI
def ui(T:TH)(E:EV)(o:cb):Bool:=
 match o.op with
 | .load n agg x=>uh (aj T.ah n agg ((x.sub E).ev [])) (fX E (o.dst.getD 0))
 | .iX x=>uh (abstr T.ah ((x.sub E).ev [])) (fX E (o.dst.getD 0))
 |_=>acI
theorem PS{x:Option I}{d:I}(h:uh x d=acI):x=acK d:=by
 unfold uh at h;split at h
 ·rw[I.tY _ _ h]
 ·cases h
theorem Fb(h:ui T E o=acI):o_ E T.ah o:=by unfold ui at h;unfold o_;cases a:o.op<;>rw[a]at h<;>first|trivial|exact PS h
def Ap(T:TH)(E:EV)(o:cb):Bool:=
 match o.guard with
 |none=>ui T E o
 |some (s,want)=>Fa (fX E s) want (ui T E o)
theorem PT(h:Ap T E o=acI):qL E T.ah o:=by
 unfold Ap at h;unfold qL;cases a:o.guard with
 |none=>rw[a]at h;exact Fb h
 | some g=>obtain⟨s,want⟩:=g;rw[a]at h;dsimp only at h ⊢;intro hs;rw[hs]at h;simp only[Fa,Bool.xor_self,cond_false]at h;exact Fb h
def uj(ops:List cb)(E:EV)(T:TH)(X:Bool):List Nat->Bool
 |[]=>X
 |l::r=>(match ops[l]? with|some o=>Ap T E o|none=>acI)&&uj ops E T X r
theorem PU{X:Bool}(a:X=acI->P):∀{l:List Nat},uj ops E T X l=acI->ud ops E T.ah P l:=by
 intro l;induction l with
 |nil=>intro h;exact a h
 | cons i r b=>
  intro h;simp only[uj,aar]at h;refine⟨?_,b h.2⟩;have h1:=h.1;cases c:ops[i]? with
  |none=>trivial
  |some o=>rw[c]at h1;exact PT h1
def uk(Φ:fx)(n:Nat)(ops:List cb)(a:List Nat):List (List Nat×Nat×List Nat)->EV->TH->(EV->TH->Bool)->Bool
 |[],E,T,K=>qM Φ n ops a E T K
 | (d,e,st)::r,E,T,K=>qM Φ n ops d E T λb f=>match ops[e]? with
  |some o=>ug Φ n o b f λg c=>uj ops b c (uk Φ n ops a r g c K) st
  |none=>acJ
theorem PV(hB:ie Φ B){b:List Nat}:∀{bT:List (List Nat×Nat×List Nat)}{E:EV}{T:TH}{K:EV->TH->Bool}{Q:kg},uk B n ops b bT E T K=acI->(∀e c,K e c=acI->Q e c.ah)->pa Φ n ops b bT E T.ah Q:=by
 intro bT;induction bT with
 |nil=>intro E T K Q h a;exact E_ hB h a
 | cons p r f=>
  obtain⟨i,e,st⟩:=p;intro E T K Q h a;simp only[uk]at h;simp only[pa];refine E_ hB h λe1 j h1=>?_;cases d:ops[e]? with
  |none=>rw[d]at h1;cases h1
  | some o=>rw[d]at h1;exact E9 hB h1 λk l g=>PU (λh=>f h a) g
def Aq{a:Type}(F:a->(a->Bool)->Bool)(n:Nat):a->Bool:=Nat.rec (motive:=λ_=>a->Bool) (λ_=>acJ) (λ_ b s=>F s b) n
def Fc(K:List I->TH->Bool)(a:List I)(T:TH):Bool:=K a T
def hZ(Φ:fx)(fuel:Nat)(n:Nat):dT->EV->TH->(hU->EV->TH->Bool)->Bool
 | .skip,E,T,Q=>Q .normal E T
 | .region ops,E,T,Q=>mV Φ n ops E T (Q .normal)
 | .draw ops _ bT last,E,T,Q=>uk Φ n ops last bT E T (Q .normal)
 | .seq a b,E,T,Q=>hZ Φ fuel n a E T λe E' c=>match e with
  | .normal=>hZ Φ fuel n b E' c Q
  |e=>Q e E' c
 | .join vs ks a b,E,T,Q=>hZ Φ fuel n a E T λe E' c=>match e with
  | .normal=>Fc (λst d=>hZ Φ fuel n b (kj n (ki n E ks) vs st) d Q) (jd E' vs) c
  |e=>Q e E' c
 | .cond x a b,E,T,Q=>t_ ((x.sub E).ev []) acI (hZ Φ fuel n a E T Q) (hZ Φ fuel n b E T Q)
 | .block id a,E,T,Q=>hZ Φ fuel n a E T λe E' c=>match e with
  | .exit f=>if f=id then Q .normal E' c else Q (.exit f) E' c
  |e=>Q e E' c
 | .loop vs ks a,E,T,Q=>
  Aq (λ(s:List I×TH) (K:List I×TH->Bool)=>
    hZ Φ fuel n a (kj n (ki n E ks) vs s.1) s.2 λe E' c=>match e with
     | .normal=>K (jd E' vs,c)
     |e=>Q e E' c) fuel (jd E vs,T)
 | .exit id,E,T,Q=>Q (.exit id) E T
 | .ret,E,T,Q=>Q .ret E T
 | .freeze t a,E,T,Q=>kT (ub T (fX E t)) λv c=>hZ Φ fuel n a (fY n E t v) c Q
 | .hR vs ks ops b,E,T,Q=>mV Φ n ops E T λE' c=>Fc (λst d=>hZ Φ fuel n b (kj n (ki n E ks) vs st) d Q) (jd E' vs) c
theorem PW(hB:ie Φ B):∀{c:dT}{E:EV}{T:TH}{K:hU->EV->TH->Bool}{Q:hU->EV->Z->Prop},hZ B fuel n c E T K=acI->(∀x e g,K x e g=acI->Q x e g.ah)->fM Φ n c E T.ah Q:=by
 intro c;induction c with
 |skip=>intro E T K Q h d;exact d _ _ _ h
 |region ops=>intro E T K Q h d;exact E8 hB h λ_ _ h=>d _ _ _ h
 |draw ops pr bT last=>intro E T K Q h d;exact PV hB h λ_ _ h=>d _ _ _ h
 | seq a b k l=>
  intro E T K Q h d;simp only[hZ]at h;simp only[fM];refine k h λx e g f=>?_;cases x with
  |normal=>exact l f d
  |exit i=>exact d _ _ _ f
  |ret=>exact d _ _ _ f
 | join vs ks a b k l=>
  intro E T K Q h d;simp only[hZ]at h;simp only[fM];refine k h λx e g f=>?_;cases x with
  |normal=>exact l f d
  |exit i=>exact d _ _ _ f
  |ret=>exact d _ _ _ f
 | cond x a b k l=>intro E T K Q h d;exact E6 h (λh=>k h d) λh=>l h d
 | block id a j=>
  intro E T K Q h d;simp only[hZ]at h;simp only[fM];refine j h λx e g f=>?_;cases x with
  |normal=>exact d _ _ _ f
  | exit i=>
   dsimp only at f ⊢;split
   ·rename_i hi;rw[ab hi]at f;exact d _ _ _ f
   ·rename_i hi;rw[af hi]at f;exact d _ _ _ f
  |ret=>exact d _ _ _ f
 | loop vs ks a j=>
  intro E T K Q h d;simp only[hZ]at h;simp only[fM];have main : ∀(m:Nat)(s:List I×TH),Aq (λ(s:List I×TH) (K':List I×TH->Bool)=>
        hZ B fuel n a (kj n (ki n E ks) vs s.1) s.2 λe E' g=>match e with
         | .normal=>K' (jd E' vs,g)
         |e=>K e E' g) m s=acI ->
      ar (λ(s:List I×Z) (K:List I×Z->Prop)=>
        fM Φ n a (kj n (ki n E ks) vs s.1) s.2 λe E' H'=>match e with
         | .normal=>K (jd E' vs,H')
         |e=>Q e E' H') (s.1,s.2.ah):=by
    intro m;induction m with
    |zero=>intro s h;cases h
    | succ m o=>
     intro s h;refine ar.step ?_;refine j (K:=λe E' g=>match e with
         | .normal=>Aq (λ(s:List I×TH) (K':List I×TH->Bool)=>
           hZ B fuel n a (kj n (ki n E ks) vs s.1) s.2 λe E' g=>match e with
            | .normal=>K' (jd E' vs,g)
            |e=>K e E' g) m (jd E' vs,g)
         |e=>K e E' g) h λx e g f=>?_
     cases x with
     |normal=>exact o _ f
     |exit i=>exact d _ _ _ f
     |ret=>exact d _ _ _ f
  exact main fuel _ h
 |exit id=>intro E T K Q h d;exact d _ _ _ h
 |ret=>intro E T K Q h d;exact d _ _ _ h
 | freeze t a j=>intro E T K Q h d;exact lG (PI _ _) h λv g f=>j f d
 | hR vs ks ops b j=>intro E T K Q h d;exact E8 hB h (Q:=λE' H'=>G (λst p=>fM Φ n b (kj n (ki n E ks) vs st) p Q) (jd E' vs) H') λe g f=>j f d
def um(E:EV)(T:TH):List ll->(List I->Bool)->Bool
 |[],K=>K []
 | .tmp t::r,K=>um E T r λvs=>K (fX E t::vs)
 | .cell t n agg::r,K=>fK (aj T.ah n agg (fX E t)) λv=>um E T r λvs=>K (v::vs)
theorem Fe:∀{rs:List ll}{K:List I->Bool}{P:List I->Prop},um E T rs K=acI->(∀vs,K vs=acI->P vs)->nO E T.ah rs P:=by
 intro rs;induction rs with
 |nil=>intro K P h a;exact a _ h
 | cons r rs b=>
  intro K P h a;cases r with
  |tmp t=>exact b (K:=λvs=>K (fX E t::vs)) h λvs h=>a _ h
  |cell t n agg=>exact E5 h λv h=>b (K:=λvs=>K (v::vs)) h λvs h=>a _ h
def Ar(Φ:fx)(fuel:Nat)(f:aU)(args:List I)(T:TH)(Q:mg):Bool:=
 hZ Φ fuel f.ntmps f.body (nN args 0) T λe E a=>match e with
  | .exit _=>acJ
  |_=>um E a f.results λvs=>Q (oN vs) a
def uo(Φ:fx)(fuel:Nat)(f:aU)(args:List I)(T:TH)(Q:mg):Bool:=and (acV args.length f.ntmps) (Ar Φ fuel f args T Q)
theorem Ff(hB:ie Φ B){f:aU}{args:List I}(h:uo B fuel f args T K=acI)(c:∀v a,K v a=acI->Q v a.ah):Ao Φ f args T.ah Q:=by
 simp only[uo,Ar,aar]at h;refine⟨acW h.1,PW hB h.2 λx e a b=>?_⟩;cases x with
 |normal=>exact Fe b λvs h=>c _ _ h
 |exit i=>cases b
 |ret=>exact Fe b λvs h=>c _ _ h
end
end Rb
namespace Rb
open Go
variable{Φ:ad}{T:kR}{k:Nat}{f:aU}{args:List I}{H:Z}{Q:aa}
structure Cl(Φ:ad)(T:kR):Prop where
 mono:kd Φ
 run:∀k f,T.get k=acK f->∀args H Q,Ao Φ f args H Q->Φ k args H Q
theorem Cl.of(a:kd Φ)(h:EM Φ T):Cl Φ T:=⟨a,λk f hk args H Q hs=>h k f hk args H Q (E3 a hs)⟩
theorem Cl.call(hT:Cl Φ T)(a:T.get k=acK f)(hn:acV args.length f.ntmps=acI)(h:An Φ f args H Q):Φ k args H Q:=hT.run k f a args H Q ⟨acW hn,h⟩
def de(n:Nat)(a:I)(H:Z)(K:I->Prop):Prop:=Do (b8 a) λx=>Do (aH n x) λy=>Do (aj H 1 acJ y) K
def d(n:Nat)(a:I)(H:Z)(K:I->Prop):Prop:=Do (aH n a) λx=>Do (aj H 1 acJ x) K
def fi(n:Nat)(a:I)(H:Z)(v:I)(K:Z->Prop):Prop:=Do (b8 a) λx=>Do (aH n x) λy=>Do (cf H 1 y v) K
def cg(n:Nat)(a:I)(H:Z)(v:I)(K:Z->Prop):Prop:=Do (aH n a) λx=>Do (cf H 1 x v) K
def gi(n:Nat)(a i:I)(H:Z)(K:I->Prop):Prop:=Do (aL acL n a i) λx=>Do (aj H 1 acJ x) K
def dV(H:Z)(x:I)(K:I->Prop):Prop:=Do (aj H 1 acJ x) K
def j(H:Z)(n:Nat)(x:I)(K:I->Prop):Prop:=Do (aj H n acI x) K
def b(o:BinOp)(x y:I)(K:I->Prop):Prop:=Do (cH o x y) K
def aO(H:Z)(n:Nat)(x v:I)(K:Z->Prop):Prop:=Do (cf H n x v) K
def aM(n:Nat)(a:I)(K:I->Prop):Prop:=Do (aH n a) K
def bJ(H:Z)(z:List I)(K:I->Z->Prop):Prop:=bs (acK (bQ H acI z)) K
def bU(H:Z)(n:Nat)(v:I)(K:I->Z->Prop):Prop:=bs (b5 H acJ n v) K
def cK(z:List I)(p:List (Nat×Nat×I))(K:I->Prop):Prop:=Do (bS z p) K
def bB(x:I)(K:I->Prop):Prop:=Do (ea acJ x) K
theorem ag:(∀(n:Nat)(a:I)(H:Z)(K:I->Prop),de n a H K=Do (b8 a) λx=>Do (aH n x) λy=>Do (aj H 1 acJ y) K)/\(∀(n:Nat)(a:I)(H:Z)(K:I->Prop),d n a H K=Do (aH n a) λx=>Do (aj H 1 acJ x) K)/\(∀(n:Nat)(a:I)(H:Z)(v:I)(K:Z->Prop),fi n a H v K=Do (b8 a) λx=>Do (aH n x) λy=>Do (cf H 1 y v) K)/\(∀(n:Nat)(a:I)(H:Z)(v:I)(K:Z->Prop),cg n a H v K=Do (aH n a) λx=>Do (cf H 1 x v) K)/\(∀(n:Nat)(a i:I)(H:Z)(K:I->Prop),gi n a i H K=Do (aL acL n a i) λx=>Do (aj H 1 acJ x) K)/\(∀(H:Z)(x:I)(K:I->Prop),dV H x K=Do (aj H 1 acJ x) K)/\(∀(H:Z)(n:Nat)(x:I)(K:I->Prop),j H n x K=Do (aj H n acI x) K)/\(∀(o:BinOp)(x y:I)(K:I->Prop),b o x y K=Do (cH o x y) K)/\(∀(H:Z)(n:Nat)(x v:I)(K:Z->Prop),aO H n x v K=Do (cf H n x v) K)/\(∀(n:Nat)(a:I)(K:I->Prop),aM n a K=Do (aH n a) K)/\(∀(H:Z)(z:List I)(K:I->Z->Prop),bJ H z K=bs (acK (bQ H acI z)) K)/\(∀(H:Z)(n:Nat)(v:I)(K:I->Z->Prop),bU H n v K=bs (b5 H acJ n v) K)/\(∀(z:List I)(p:List (Nat×Nat×I)) (K:I->Prop),cK z p K=Do (bS z p) K)/\(∀(x:I)(K:I->Prop),bB x K=Do (ea acJ x) K):=⟨λ_ _ _ _=>rfl,λ_ _ _ _=>rfl,λ_ _ _ _ _=>rfl,λ_ _ _ _ _=>rfl,λ_ _ _ _ _=>rfl,λ_ _ _=>rfl,λ_ _ _ _=>rfl,λ_ _ _ _=>rfl,λ_ _ _ _ _=>rfl,λ_ _ _=>rfl,λ_ _ _=>rfl,λ_ _ _ _=>rfl,λ_ _ _=>rfl,λ_ _=>rfl⟩
abbrev g:=List I->Z->Prop
abbrev ST:=List I×Z
abbrev LT:=ST->Prop
abbrev BT:=ST->LT->Prop
theorem Cl.c(hT:Cl Φ T){k:Nat}{P:Prop}(h:P)(e:An Φ f args H Q=P:=by kernel_rfl)(hk:T.get k=acK f:=by kernel_rfl)(hn:acV args.length f.ntmps=acI:=by kernel_rfl):Φ k args H Q:=hT.call hk hn (e.mpr h)
end Rb
namespace Rb
open Go
variable{Φ:ad}{Q:aa}{B:fx}{k:Nat}
def Tok.free:Tok->Bool
 | .own _=>acJ
 |_=>acI
mutual
def I.bu:I->Bool
 | .bool _ | .int _ _ | .str _ | .h5 | .h6 | .h7=>acI
 | .ae cs=>I.bV cs
 | .aq tk _ cs=>tk.free&&I.bV cs
 | .fn _ cs=>I.bV cs
 | .iface _ v=>I.bu v
 | .agg cs=>I.bV cs
 | .aA cs=>I.bV cs
 |_=>acJ
def I.bV:List I->Bool
 |[]=>acI
 |c::r=>I.bu c&&I.bV r
end
theorem qN:∀{cs:List I},I.bV cs=cs.all I.bu
 |[]=>rfl
 |c::r=>by simp only[I.bV,acP,qN (cs:=r)]
theorem nP{cs:List I}(h:I.bV cs=acI)(j:Nat)(c:I)(hc:cs[j]?=acK c):c.bu=acI:=by rw[qN,abh]at h;exact h c (List.mem_of_getElem? hc)
theorem lH{F:dE}{w w':World}{G G':aW}(hz:∀b o,G.fz b o->G'.fz b o)(hc:∀b o V,G.fz b o->w.cell? ⟨b,o,acL⟩=acK V->w'.cell? ⟨b,o,acL⟩=acK V){c:I}{V:Value}(hf:c.bu=acI)(h:VR F w G c V):VR F w' G' c V:=by
 induction h with
 |bot=>simp[I.bu]at hf
 |bool b=>exact .bool b
 |int k n=>exact .int k n
 |str s=>exact .str s
 |h5=>exact .h5
 |ptr=>simp[I.bu]at hf
 | ae cells b o Vs h hv e=>simp only[I.bu]at hf;exact .ae cells b o Vs (λj c d=>⟨hz _ _ (h j c d).1,hc _ _ _ (h j c d).1 (h j c d).2⟩) λj c d=>e j c d (nP hf j c d)
 |gX=>exact .gX
 |gg a cap=>exact .gg a cap
 | aq tk len cells b o cap Vs ht hle h hv e=>
  simp only[I.bu,aar]at hf;refine .aq tk len cells b o cap Vs ?_ hle (λj c d=>⟨hz _ _ (h j c d).1,hc _ _ _ (h j c d).1 (h j c d).2⟩) λj c d=>e j c d (nP hf.2 j c d);cases tk with
  |own t=>simp[Tok.free]at hf
  |nil=>exact ht
  |full=>exact ht
  |dead=>exact ht
 |row=>simp[I.bu]at hf
 | fn key cd f Vs hk hF hl hv e=>simp only[I.bu]at hf;exact .fn key cd f Vs hk hF hl λj c V hc g=>e j c V hc g (nP hf j c hc)
 |h6=>exact .h6
 |iface t v V h e=>exact .iface t v V (e (by simpa[I.bu]using hf))
 |h7=>exact .h7
 | agg cs Vs hl hv e=>simp only[I.bu]at hf;exact .agg cs Vs hl λj c V hc g=>e j c V hc g (nP hf j c hc)
 | aA cs Vs hl hv e=>simp only[I.bu]at hf;exact .aA cs Vs hl λj c V hc g=>e j c V hc g (nP hf j c hc)
def cP(C:Ctx):Prop:=∀g l,C.GT g=acK l->I.bV l=acI
theorem ai.Fg{C:Ctx}(ak:cP C){key:Nat}{args:List I}(h:ai C key args Z.mt Q)(ha:I.bV args=acI)(H:Z)(K:aa)(s:∀v H',Q v H'->v.bu=acI/\K v H):ai C key args H K:=by
 refine⟨by obtain⟨v,H',y⟩:=h.1;exact⟨v,H,(s v H' y).2⟩,λf hf G w Vs hG a t=>?_⟩;have z:Rel C.F w (aW.mt G.fz) Z.mt:=Rel.mt a.e_;have A:be C.F w (aW.mt G.fz) args Vs:=⟨t.1,λj c V hc q=>lH (G:=G) (G':=aW.mt G.fz) (w:=w) (λ_ _ h=>h) (λ_ _ _ _ h=>h) (nP ha j c hc) (t.2 j c V hc q)⟩
 have B:kc C w (aW.mt G.fz):=λg l m=>lH (G:=G) (G':=aW.mt G.fz) (w:=w) (λ_ _ h=>h) (λ_ _ _ _ h=>h) (by simp only[I.bu];exact ak g l m) (hG.1 g l m);refine ace (h.2 f hf _ w Vs (hG.mt B λi hi=>by cases hi) z A) λe w' he=>?_;obtain⟨V,v,H',G',rfl,hQ,hv,D,d⟩:=he;obtain⟨E,J⟩:=s v H' hQ;have U:=d.below;have u:∀b o,G'.fz b o->G.fz b o\/w.heap.size<=b:=by
  intro b o hz;rcases d.ff b o hz with h|h|⟨i,hi,_⟩
  ·exact .inl h
  ·exact .inr h
  ·cases hi
 let r:aW:={G with fz:=λb o=>G.fz b o\/G'.fz b o}
 have x:∀b o V,G.fz b o->w.cell? ⟨b,o,acL⟩=acK V->w'.cell? ⟨b,o,acL⟩=acK V:=λb o V hf hc=>by rw[World.cell?_of_block (w:=w) (U.block b (World.block_lt_of_cell? w _ hc))];exact hc
 have m:GLe w G w' r:=⟨Nat.le_refl _,λ_ _=>rfl,λ_ _=>rfl,λ_ _ h=> .inl h,x⟩
 refine⟨V,v,H,r,rfl,J,lH (G:=G') (G':=r) (w:=w') (λ_ _ h=>Or.inr h) (λ_ _ _ _ h=>h) E hv,⟨a.n,a.over,λj=>(a.obj j).bh m (λhl=>a.hX hl) (λhl=>U.block _ ((a.obj j).lt hl)) λhl o p=>?_,a.gz,λb o hf=>?_⟩,?_⟩
 . rcases p with p|p
   ·exact p
   . rcases u _ _ p with h|h
     ·exact h
     ·exact absurd ((a.obj j).lt hl) (by omega)
 . rcases hf with hf|hf
   . obtain⟨V,q⟩:=a.e_ b o hf;exact⟨V,x b o V hf q⟩
   ·exact D.e_ b o hf
 . exact {m with
     size:=d.size,os:=d.os,tape:=d.tape,output:=d.output,dr:=d.dr,d_:=λk hk _=>U.block k hk,owned:=λi hi _=>⟨i,hi,rfl⟩
     ff:=λb o hf=>by
      rcases hf with hf|hf
      ·exact .inl hf
      . rcases u b o hf with h|h
        ·exact .inl h
        ·exact .inr (.inl h)}
abbrev pd:=Nat->List I->Option I
def h0(Φ:ad)(M:pd):Prop:=∀k args v,M k args=acK v->∀(H:Z)(Q:aa),Q v H->Φ k args H Q
noncomputable section
def As(M:pd)(a:fx->fx)(d:Nat):fx:=Nat.rec (motive:=λ_=>fx) (λ_ _ _ _=>acJ) (λ_ b k args T Q=>match M k args with
  |some v=>Q v T
  |none=>a b k args T Q) d
def Au(Φ:ad)(a:fx->fx):Prop:=∀B,ie Φ B->ie Φ (a B)
theorem PX{M:pd}{a:fx->fx}(b:h0 Φ M)(c:Au Φ a):∀d,ie Φ (As M a d):=by
 intro d;induction d with
 |zero=>intro k args T K h;cases h
 | succ d e=>
  intro k args T K h Q hQ;change (match M k args with
    |some v=>K v T
    |none=>a (As M a d) k args T K)=acI at h
  split at h
  . rename_i v hv;exact b k args v hv _ _ (hQ _ _ h)
  ·exact c _ e k args T K h Q hQ
theorem PY(hB:ie Φ B){args:List I}{K:I->Bool}(h:B k args TH.mt (λv _=>K v)=acI):Φ k args Z.mt (λv _=>K v=acI):=by have:=hB k args TH.mt _ h (λv _=>K v=acI) (λv a h=>h);rwa [TH.Py]at this
theorem ie.fn{a:kR}(hT:Cl Φ a)(hB:ie Φ B){fuel:Nat}{f:aU}{args:List I}(c:a.get k=acK f)(hn:acV args.length f.ntmps=acI){T:TH}{K:mg}(h:Ar B fuel f args T K=acI)(hQ:∀v b,K v b=acI->Q v b.ah):Φ k args T.ah Q:=hT.run k f c args T.ah Q (Ff hB (fuel:=fuel) (by simp only[uo,hn,h,Bool.and_self]) hQ)
end
end Rb
namespace Rb
open Go
structure Hint where
 fh:Nat
 jS:List Nat
 loops:List (List Nat)
 fz:Option Nat
 hy:List TypeId:=[]
 lI:List (Nat×List Nat):=[]
def kk(t:Nat):List Nat->Bool
 |[]=>acJ
 |s::r=>cond (acQ t s) acI (kk t r)
def Fh:List Nat->List Nat->Bool
 |[],_=>acI
 |t::r,l=>cond (kk t l) (Fh r l) acJ
def Av(t:Nat)(l:List Nat):List Nat:=cond (kk t l) l (t::l)
def Fi:List Nat->List Nat->List Nat
 |[],l=>l
 |t::r,l=>Fi r (Av t l)
def Aw:List Nat->List Nat->List Nat
 |[],_=>[]
 |t::r,l=>cond (kk t l) (Aw r l) (Av t (Aw r l))
def uq:Value->I
 | .bool b=> .bool b
 | .int k n=> .int k n
 | .string s=> .str s.data.toList
 | .pointer acL=> .h5
 | .nilFunc=> .h6
 | .nilIface=> .h7
 | .slice acL _ _=> .aq .nil 0 []
 |_=> .bot
def PZ:Value->I
 | .agg Vs=> .agg (Vs.toList.map uq)
 | .tuple Vs=> .aA (Vs.toList.map uq)
 |V=>uq V
def Ax:bK:= .k .bot
def hg:e2:= .ext .stuck []
def cv(C:Ctx):Operand->bK
 | .tmp t=> .t t
 | .const v=> .k (PZ v)
 | .global g=>match C.GT g with|some l=> .k (.ae l)|none=>Ax
 | .func f=>cond (lv C.P f) (.k (.fn f [])) Ax
def Fj:Operand->Bool
 | .const v=>(match v with | .pointer acL | .slice acL 0 0 | .nilFunc | .nilIface=>acI|_=>acJ)
 |_=>acJ
def iJ(P:Program)(t:TypeId):Nat:=match P.info? t with|some i=>i.size|none=>0
def Fk(P:Program)(t:TypeId):Nat:=match P.info? t with|some i=>i.bytes|none=>0
def P0(P:Program)(t:TypeId):Value:=match P.info? t with|some i=>(match i.zero with|some z=>z|none=> .nilIface)|none=> .nilIface
def qO(P:Program)(t:TypeId):List I:=(P0 P t).cells.toList.map uq
def ur(P:Program)(t:TypeId):Bool:=match P.underlying t with|some d=>iG d|none=>acJ
def kl(P:Program)(t:TypeId):TypeId:=match P.underlying t with|some (.slice e)=>e|some (.array _ e)=>e|_=>0
def P1(C:Ctx)(hy:List TypeId)(mu:Bool)(c:Call):e2:=
 match c.callee with
 | .value (.func f)=>cond (lv C.P f) (.call f (c.args.toList.map (cv C))) hg
 | .value f=> .i6 (cv C f) (c.args.toList.map (cv C))
 | .builtin b=>
  match c.args.toList.map (cv C),c.argTypes.toList with
  | [x],[t]=>(match b with
    | .len=>(match C.P.underlying t with|some .string=> .len acI x|some (.slice _)=> .len acJ x|some (.array n _)=> .iE n|_=>hg)
    | .max=> .iF acI [x]
    | .min=> .iF acJ [x]
    | .clear=> .ext (.clear (iJ C.P (kl C.P t)) (qO C.P (kl C.P t))) [x]
    |_=>hg)
  | [x,y],t::_=>(match b with
    | .append=> .append mu (iJ C.P (kl C.P t)) (Fk C.P (kl C.P t)) x y
    | .copy=> .copy (iJ C.P (kl C.P t)) x y
    | .max=> .iF acI [x,y]
    | .min=> .iF acJ [x,y]
    |_=>hg)
  | xs,_=>(match b with
    | .max=> .iF acI xs
    | .min=> .iF acJ xs
    |_=>hg)
 |_=>hg
def P3(C:Ctx)(hy:List TypeId)(mu:Bool):Op->e2
 | .move x=> .mv (cv C x)
 | .assign x=> .mv (cv C x)
 | .pick c a b=> .pick (cv C c) (cv C a) (cv C b)
 | .binOp op t x y _=>
  match op,C.P.underlying t with
  | .eql,acK d=>(match oP d,d with
    |some k,_=>cond (Fj y) (.j_ k acJ (cv C x)) hg
    |none,.bool=> .beq acJ (cv C x) (cv C y)
    |none,.array _ _=>(match lx C.P 9 t with|some l=> .jv acJ l (cv C x) (cv C y)|none=>hg)
    |none,.struct _=>(match lx C.P 9 t with|some l=> .jv acJ l (cv C x) (cv C y)|none=>hg)
    |none,_=> .bin op (cv C x) (cv C y))
  | .neq,acK d=>(match oP d,d with
    |some k,_=>cond (Fj y) (.j_ k acI (cv C x)) hg
    |none,.bool=> .beq acI (cv C x) (cv C y)
    |none,.array _ _=>(match lx C.P 9 t with|some l=> .jv acI l (cv C x) (cv C y)|none=>hg)
    |none,.struct _=>(match lx C.P 9 t with|some l=> .jv acI l (cv C x) (cv C y)|none=>hg)
    |none,_=> .bin op (cv C x) (cv C y))
  |op,_=> .bin op (cv C x) (cv C y)
 | .unOp op _ x=> .un op (cv C x)
 | .convert s d x=>
  match C.P.underlying s,C.P.underlying d with
  |some .string,acK .string=> .same (cv C x)
  |some .string,acK (.slice _)=> .kJ (cv C x)
  |some (.slice _),acK .string=> .iX (cv C x)
  |_,acK (.int k)=> .conv k (cv C x)
  |_,_=>hg
 | .nilCheck x=> .kH (cv C x)
 | .field t x n=>(match oT C.P t n with|some f=> .field f.offset (iJ C.P f.type) (ur C.P f.type) (cv C x)|none=>hg)
 | .fieldAddr t x n=>(match oT C.P t n with|some f=> .hM f.offset (cv C x)|none=>hg)
 | .index t x i=>(match C.P.underlying t with
   |some .string=> .idxs (cv C x) (cv C i)
   |some (.array n e)=> .idx n (iJ C.P e) (ur C.P e) (cv C x) (cv C i)
   |_=>hg)
 | .indexAddr t x i=>(match C.P.underlying t with
   |some (.slice e)=> .gY acL (iJ C.P e) (cv C x) (cv C i)
   |some (.array n e)=> .gY (acK n) (iJ C.P e) (cv C x) (cv C i)
   |_=>hg)
 | .slice t x lo hi mx=>(match C.P.underlying t with
   |some .string=> .kI (cv C x) (lo.map (cv C)) (hi.map (cv C))
   |some (.slice e)=> .slice (iJ C.P e) (cv C x) (lo.map (cv C)) (hi.map (cv C)) (mx.map (cv C))
   |_=>hg)
 | .makeInterface t x=> .iD t (cv C x)
 | .makeFunc (.func f) first cd=>cond (lv C.P f) (match first.toList with
   |[]=> .h_ f (cd.toList.map (cv C))
   |l=> .h_ (f+1048576) (l.map (cv C))) hg
 | .extract x i=> .extract i (cv C x)
 | .build t g=> .build (qO C.P t) (g.toList.map λp=>match placeOf C.P t p.1 with|some (o,s)=>(o,s,cv C p.2)|none=>(0,0,Ax))
 | .buildSlice t len g=> .hP mu (iJ C.P (kl C.P t)) len (qO C.P (kl C.P t)) (g.toList.map λp=>(p.1*iJ C.P (kl C.P t),iJ C.P (kl C.P t),cv C p.2))
 | .load t x=> .load (iJ C.P t) (ur C.P t) (cv C x)
 | .store t x v=> .store (iJ C.P t) (cv C x) (cv C v)
 | .box t x=> .box mu (iJ C.P t) (cv C x)
 | .alloc t=> .alloc mu (qO C.P t)
 | .makeSlice t l c=> .make mu (iJ C.P (kl C.P t)) (Fk C.P (kl C.P t)) (qO C.P (kl C.P t)) (cv C l) (cv C c)
 | .range _ x=> .iY (cv C x)
 | .next x acI=> .iZ (cv C x)
 | .call c=>P1 C hy mu c
 |_=>hg
def Fl:List Oper->Nat->Option Nat
 |[],_=>acL
 |o::r,i=>match i with|0=>o.dst|i+1=>Fl r i
def Ay(C:Ctx)(hy:List TypeId)(jS:List Nat)(a:List Oper):List Oper->List cb
 |[]=>[]
 |o::r=>⟨o.dst,P3 C hy (match o.dst with|some d=>kk d jS|none=>acJ) o.op,match o.guard with|some (j,want)=>(match Fl a j with|some s=>acK (s,want)|none=>acL)|none=>acL⟩::Ay C hy jS a r
def Az:List Edge->List Nat
 |[]=>[]
 |e::r=>cond (Region.binds .any e) (Av e.on (Az r)) (Az r)
def Fm:List (List Nat)->Nat->List Nat
 |[],_=>[]
 |l::r,i=>match i with|0=>l|i+1=>Fm r i
def Fo:List (List Nat)->List Nat->List Nat->List Nat
 |pr,acc,[]=>acc
 |pr,acc,e::r=>Fo pr (Fi (Fm pr e) acc) r
def Fp:List (List Nat)->List Oper->List (List Nat)
 |pr,[]=>pr
 |pr,o::r=>let es:=Az o.after.toList;Fp (pr++[Fo pr es es]) r
structure DR where
 i:Nat
 pr:List Nat
 k:Nat
 al:Bool
def Fq(a:List cb)(pr:List (List Nat)):Nat->List cb->List (List Nat)->List DR
 |i,o::r,p::q=>⟨i,p,cond (ic o.op) 2 (cond (hA o.op) 1 0),jb a i⟩::Fq a pr (i+1) r q
 |_,_,_=>[]
def pe:List DR->List Nat->List Nat->List Nat×List Nat
 |[],done,out=>(done,out.reverse)
 |d::r,done,out=>cond (acQ d.k 0) (pe r done out) (cond (kk d.i done) (pe r done out) (cond (Fh d.pr done) (pe r (d.i::done) (d.i::out)) (pe r done out)))
def qP:List DR->List Nat->List Nat->List DR
 |[],_,_=>[]
 |d::r,pr,seq=>cond d.al (cond (kk d.i pr) (cond (kk d.i seq) (qP r pr seq) (d::qP r pr seq)) (qP r pr seq)) (qP r pr seq)
def uu(b:List DR):List DR->List Nat->List DR
 |[],seq=>b.filter λd=>d.al&&!kk d.i seq
 |d::r,seq=>cond (acQ d.k 0) (cond d.al (uu b r seq) (let a:=qP b d.pr seq;a++d::uu b r (d.i::(a.map DR.i++seq)))) (uu b r seq)
def qQ:List DR->List Nat->List Nat->List Nat
 |[],_,_=>[]
 |d::r,done,pr=>cond (acQ d.k 1) (cond (kk d.i done) (cond (kk d.i pr) (qQ r done pr) (d.i::qQ r done pr)) (qQ r done pr)) (qQ r done pr)
def Fs(a:List DR):List DR->List Nat->List (List Nat×Nat×List Nat)×List Nat
 |[],done=>([],(pe a done []).2)
 |e::r,done=>let s:=pe a done [];let q:=Fs a r (e.i::s.1);((s.2,e.i,qQ a s.1 e.pr)::q.1,q.2)
def P4(a:List Oper)(al:List cb):dT:=
 let pr:=Fp [] a;let ds:=Fq al pr 0 al pr;let p:=Fs ds (uu ds ds []) []
 .draw al pr p.1 p.2
def P5(t:Nat)(o:cb):Bool:=match o.op with | .mv (.t s)=>acQ s t|_=>acJ
def isDst(l:List Nat)(o:cb):Bool:=match o.dst with|some d=>kk d l|none=>acJ
def AA:List (Nat×List Nat)->Nat->List Nat
 |[],_=>[]
 |(i,l)::r,id=>cond (acQ i id) l (AA r id)
def AB:List Nat->dT->dT
 |[],c=>c
 |t::r,c=> .freeze t (AB r c)
def nQ(C:Ctx)(hy:List TypeId)(jS:List Nat)(fz:Option Nat)(lI:List (Nat×List Nat))(d:List Nat):Code->List (List Nat)->dT×List (List Nat)
 | .skip,h=>(.skip,h)
 | .region id ops acJ,h=>
  let al:=Ay C hy jS ops.toList ops.toList
  (AB (AA lI id) (match fz with
    |none=> .region al
    |some t=>cond (al.any (P5 t)&&al.any (isDst d)) (.freeze t (.region al)) (.region al)),h)
 | .region id ops acI,h=>(AB (AA lI id) (P4 ops.toList (Ay C hy jS ops.toList ops.toList)),h)
 | .seq a b,h=>let p:=nQ C hy jS fz lI d a h;let q:=nQ C hy jS fz lI d b p.2;(.seq p.1 q.1,q.2)
 | .cond c a b,h=>let p:=nQ C hy jS fz lI d a h;let q:=nQ C hy jS fz lI d b p.2;(.cond (cv C c) p.1 q.1,q.2)
 | .block id a,h=>let p:=nQ C hy jS fz lI d a h;(.block id p.1,p.2)
 | .loop a,h=>let p:=nQ C hy jS fz lI d a h.tail;(.loop (h.headD []) (Aw (eQ p.1) (h.headD [])) p.1,p.2)
 | .exit id,h=>(.exit id,h)
 | .ret,h=>(.ret,h)
 |_,h=>(.exit 0,h)
def AD:List ResultVar->List Nat
 |[]=>[]
 | .tmp t::r=>t::AD r
 | .cell t _::r=>t::AD r
def AE(P:Program):List ResultVar->List ll
 |[]=>[]
 | .tmp t::r=> .tmp t::AE P r
 | .cell t ty::r=> .cell t (iJ P ty) (ur P ty)::AE P r
def bf(C:Ctx)(h:Hint):aU:=
 match C.P.funcs[h.fh]? with
 |some fn=>⟨fn.ntmps,AE C.P fn.results.toList,match fn.body with|some c=>(nQ C h.hy h.jS h.fz h.lI (AD fn.results.toList) c h.loops).1|none=> .skip⟩
 |none=>⟨0,[],.exit 0⟩
def mh(P:Program)(a:Nat->Option (List I)):Ctx:=⟨P,λk=>cond (lv P k) (acK k) acL,a⟩
theorem pf(P:Program)(b:Nat->Option (List I)):gI (mh P b):=by
 intro key f hf;simp only[mh]at hf;cases a:lv P key with
 |true=>rw[a]at hf;simp only[cond_true,aaC.injEq]at hf;subst hf;exact a
 |false=>rw[a]at hf;cases hf
def je(C:Ctx):List Hint->Bool
 |[]=>acI
 |h::r=>and (o8 C h.fh (bf C h)) (je C r)
theorem Ft{C:Ctx}:∀{L:List Hint},je C L=acI->∀h,h∈L->o8 C h.fh (bf C h)=acI
 |[],_,h,hm=>by cases hm
 | p::r,hc,h,hm=>by
  simp only[je,aar]at hc;rcases aco.1 hm with rfl|hm
  ·exact hc.1
  ·exact Ft hc.2 h hm
theorem qR{C:Ctx}:∀{L M:List Hint},je C L=acI->je C M=acI->je C (L++M)=acI
 |[],_,_,h=>h
 | p::r,M,hc,h=>by simp only[je,aar]at hc;simp only[List.cons_append,je,aar];exact⟨hc.1,qR hc.2 h⟩
noncomputable section
abbrev uv:=aU
def uw(a:Nat->Option uv)(B:fx):fx:=λk args T Q=>match a k with
 |some c=>uo B 4096 c args T Q
 |none=>acJ
def qS(C:Ctx)(fuel:Nat):List Hint->Nat->Option uv
 |[],_=>acL
 |h::r,k=>cond (acQ h.fh k) (acK (bf C h)) (qS C fuel r k)
theorem Fu{C:Ctx}{fuel:Nat}:∀{L:List Hint}{k:Nat}{c:uv},qS C fuel L k=acK c->∃h,h∈L/\h.fh=k/\c=bf C h
 |[],_,_,h=>by cases h
 | p::r,k,c,h=>by
  unfold qS at h;cases U:acQ p.fh k with
  | true=>rw[U]at h;simp only[cond_true,aaC.injEq]at h;exact⟨p,acs,acX U,h.symm⟩
  | false=>rw[U]at h;obtain⟨f,hf,hc⟩:=Fu (L:=r) h;exact⟨f,acp _ hf,hc⟩
theorem P6{P:Program}{a:Nat->Option (List I)}{L:List Hint}(d:je (mh P a) L=acI)(fuel:Nat):Au (ai (mh P a)) (uw (qS (mh P a) fuel L)):=by
 intro B hB k args T K h Q hQ;unfold uw at h;split at h
 . rename_i c hc;obtain⟨hi,hm,hk,rfl⟩:=Fu hc;have hs:qx (ai (mh P a)) (bf (mh P a) hi) args T.ah Q:=E3 (tB _) (Ff hB h hQ);refine⟨D3 (El _) hs,λf hf G w Vs hG e g=>?_⟩;have i:f=k:=by
    simp only[mh]at hf;cases b:lv P k with
    |true=>rw[b]at hf;simpa using hf.symm
    |false=>rw[b]at hf;cases hf
   subst i;exact EL (pf P a) (by rw[<-hk];exact Ft d _ hm) hs hG e g
 ·cases h
end
noncomputable section
def forced(b:Bool):Bool:=Bool.rec (motive:=λ_=>Bool) acJ acI b
theorem P7(b:Bool):forced b=b:=by cases b<;>rfl
theorem er{b:Bool}(h:forced b=acI):b=acI:=by rwa [P7]at h
def gS:List (Nat×List I×I)->pd
 |[],_,_=>acL
 |e::r,k,args=>cond (acQ e.1 k) (cond (I.gQ e.2.1 args) (acK e.2.2) (gS r k args)) (gS r k args)
theorem ux{Φ:ad}:h0 Φ (gS []):=λ_ _ _ h=>by cases h
end
variable{C:Ctx}{key:Nat}{H:Z}{Q:aa}
mutual
def I.cU:I->I
 | .ae cs=> .ae (I.ec cs)
 | .aq _ len cs=> .aq .dead len (I.ec cs)
 | .fn k cs=> .fn k (I.ec cs)
 | .iface t v=> .iface t (I.cU v)
 | .agg cs=> .agg (I.ec cs)
 | .aA cs=> .aA (I.ec cs)
 |v=>v
def I.ec:List I->List I
 |[]=>[]
 |c::r=>I.cU c::I.ec r
end
theorem lJ:∀cs:List I,I.ec cs=cs.map I.cU
 |[]=>rfl
 |c::r=>by rw[I.ec,lJ r];rfl
theorem mW{cs:List I}{j:Nat}{c:I}(h:(I.ec cs)[j]?=acK c):∃d,cs[j]?=acK d/\c=d.cU:=by
 rw[lJ,aba]at h;cases hc:cs[j]? with
 |none=>rw[hc]at h;cases h
 |some d=>rw[hc]at h;simp at h;exact⟨d,rfl,h.symm⟩
theorem uy(cs:List I):(I.ec cs).length=cs.length:=by rw[lJ,List.length_map]
theorem VR.cU{F:dE}{w:World}{G:aW}{c:I}{V:Value}(h:VR F w G c V):VR F w G c.cU V:=by
 induction h with
 |bot V=>exact .bot V
 |bool b=>exact .bool b
 |int k n=>exact .int k n
 |str s=>exact .str s
 |h5=>exact .h5
 |ptr id off h=>exact .ptr id off h
 | ae cells b o Vs h _ g=>
  refine .ae _ b o Vs (λj c i=>?_) λj c i=>?_
  ·obtain⟨d,e,rfl⟩:=mW i;exact h j d e
  ·obtain⟨d,e,rfl⟩:=mW i;exact g j d e
 |gX=>exact .gg acL 0
 |gg a cap=>exact .gg a cap
 | aq tk len cells b o cap Vs ht hle h _ g=>
  refine .aq .dead len _ b o cap Vs trivial hle (λj c i=>?_) λj c i=>?_
  ·obtain⟨d,e,rfl⟩:=mW i;exact h j d e
  ·obtain⟨d,e,rfl⟩:=mW i;exact g j d e
 |row id off len sz cap h hle hc=>exact .row id off len sz cap h hle hc
 | fn key cd f Vs hk hf hl _ g=>refine .fn key _ f Vs hk hf (by rw[uy];exact hl) λj c V hc l=>?_;obtain⟨d,e,rfl⟩:=mW hc;exact g j d V e l
 |h6=>exact .h6
 |iface t v V _ g=>exact .iface t _ V g
 |h7=>exact .h7
 | agg cs Vs hl _ g=>refine .agg _ Vs (by rw[uy];exact hl) λj c V hc l=>?_;obtain⟨d,e,rfl⟩:=mW hc;exact g j d V e l
 | aA cs Vs hl _ g=>refine .aA _ Vs (by rw[uy];exact hl) λj c V hc l=>?_;obtain⟨d,e,rfl⟩:=mW hc;exact g j d V e l
theorem ai.cU{args:List I}(h:ai C key args H (λv H'=>Q v.cU H')):ai C key args H Q:=by refine⟨by obtain⟨v,H',a⟩:=h.1;exact⟨_,_,a⟩,λf hf G w Vs hG b c=>?_⟩;refine ace (h.2 f hf G w Vs hG b c) λe w' he=>?_;obtain⟨V,v,H',G',e1,hQ,hv,r⟩:=he;exact⟨V,v.cU,H',G',e1,hQ,hv.cU,r⟩
theorem ai.P9{args:List I}(h:ai C key (I.ec args) H Q):ai C key args H Q:=by refine⟨h.1,λf hf G w Vs hG b a=>?_⟩;refine h.2 f hf G w Vs hG b ⟨by rw[uy];exact a.1,λj c V hc e=>?_⟩;obtain⟨d,g,rfl⟩:=mW hc;exact(a.2 j d V g e).cU
end Rb
namespace Rb
open Go
variable{C:Ctx}{B:fx}
noncomputable section
def qT:List (List I×I)->List I->Option I
 |[],_=>acL
 |e::r,a=>cond (I.gQ e.1 a) (acK e.2) (qT r a)
def pg(k:Nat):List (Nat×List I×I)->List (List I×I)
 |[]=>[]
 |e::r=>cond (acQ e.1 k) ((e.2.1,e.2.2)::pg k r) (pg k r)
theorem Fv(k:Nat)(args:List I):∀L:List (Nat×List I×I),qT (pg k L) args=gS L k args
 |[]=>rfl
 | e::r=>by
  have a:=Fv k args r;unfold pg gS;cases acQ e.1 k with
  |false=>exact a
  | true=>
   simp only[cond_true,qT];cases I.gQ e.2.1 args with
   |false=>exact a
   |true=>rfl
def AF(L:List (Nat×List I×I)):pd:=λk args=>match pg k L with
 |[]=>acL
 |l=>qT l (I.ec args)
theorem P_{L:List (Nat×List I×I)}(h:h0 (ai C) (gS L)):h0 (ai C) (AF L):=by
 intro k args v hm H Q hQ;have:qT (pg k L) (I.ec args)=acK v:=by
  unfold AF at hm;split at hm
  ·cases hm
  ·exact hm
 rw[Fv]at this;exact ai.P9 (h k _ v this H Q hQ)
theorem Qa(ak:cP C)(hB:ie (ai C) B){k:Nat}{args:List I}{v:I}(ha:I.bV args=acI)(hv:v.bu=acI)(h:B k args TH.mt (λu _=>u.cU.same v)=acI)(H:Z)(Q:aa)(hQ:Q v H):ai C k args H Q:=ai.Fg ak (ai.cU (Q:=λu _=>u.same v=acI) (PY hB (K:=λu=>u.cU.same v) h)) ha H Q λu _ hu=>by rw[I.tY _ _ hu];exact⟨hv,hQ⟩
def AG(B:fx)(e:Nat×List I×I):Bool:=and (I.bV e.2.1) (and e.2.2.bu (B e.1 e.2.1 TH.mt (λu _=>u.cU.same e.2.2)))
def nR(B:fx):List (Nat×List I×I)->Bool
 |[]=>acI
 |e::r=>and (AG B e) (nR B r)
theorem Qb(ak:cP C)(hB:ie (ai C) B){e:Nat×List I×I}{L:List (Nat×List I×I)}(h:AG B e=acI)(a:h0 (ai C) (gS L)):h0 (ai C) (gS (e::L)):=by
 obtain⟨b,a0,v0⟩:=e;simp only[AG,aar]at h;obtain⟨h1,c,d⟩:=h;intro k args v hm H Q hQ;unfold gS at hm;dsimp only at hm;cases U:acQ b k with
 |false=>rw[U]at hm;exact a k args v hm H Q hQ
 | true=>
  rw[U]at hm;obtain rfl:=acX U;cases hs:I.gQ a0 args with
  |false=>rw[hs]at hm;exact a b args v hm H Q hQ
  | true=>rw[hs]at hm;simp only[cond_true,aaC.injEq]at hm;subst hm;obtain rfl:=I.mT _ _ hs;exact Qa ak hB h1 c d H Q hQ
theorem qU{C:Ctx}(ak:cP C){B:fx}(hB:ie (ai C) B){L:List (Nat×List I×I)}(a:h0 (ai C) (gS L)):∀{N:List (Nat×List I×I)},nR B N=acI->h0 (ai C) (gS (N++L))
 |[],_=>a
 | e::N,h=>by simp only[nR,aar]at h;exact Qb ak hB h.1 (qU ak hB a h.2)
end
end Rb
namespace Rb
open Go
def qV:List Int:=[1,10,100,1000,10000,100000,1000000,10000000,100000000,1000000000,10000000000,100000000000,1000000000000,10000000000000,100000000000000,1000000000000000,10000000000000000,100000000000000000,1000000000000000000,10000000000000000000]
def Fw:List I:=qV.map (I.int .u64)
end Rb
end
