/- A part of the proof (part 2): see the last text. -/
import Derived.Test.YtbjhdakiiedmcaaGreatDoorRb1
import Derived.Orders
import Derived.Carry
import Derived.OpenVars
import Derived.OpenShut
import Derived.ProofKit
import Derived.ChangeOld
set_option linter.unusedVariables false
set_option linter.unusedSimpArgs false
namespace Rb
open Go
def fJ(ops:List bT)(k:Nat):Option Nat:=(ops[k]?).bind fun o=>o.dst
def late(ops:List bT)(S:Nat→Bool)(t:Nat):Bool:=(List.range ops.length).any fun k=>fJ ops k==some t&&!S k
def iD(ops:List bT)(S:Nat→Bool)(e0 e1:Env):Env:=(List.range e1.length).map fun t=>if late ops S t then e0.getD t .bot else e1.getD t .bot
def dj(pr:List (List Nat))(i:Nat):List Nat:=pr.getD i []
def Cf(ops:List bT)(i:Nat):Bool:=
 match ops[i]? with
 |some ⟨some _,.alloc true _,none⟩=>true
 |some ⟨some _,.oC,none⟩=>true
 |_=>false
def WM(ops:List bT)(pr:List (List Nat))(i:Nat):Bool:=
 match ops[i]? with
 |some ⟨some _,.make true _ _ _ _ _,none⟩=>(dj pr i).all fun k=>match ops[k]? with|some o=>mj o.op||la o.op|none=>false
 |_=>false
def mA(ops:List bT)(pr:List (List Nat))(i:Nat):Bool:=Cf ops i||WM ops pr i
def JQ(ops:List bT)(i:Nat):Bool:=
 match ops[i]? with
 |some ⟨some _,.call _ _,none⟩=>true
 |_=>false
theorem amM{al:List bT}{i:Nat}(h:JQ al i=true):∃t k args,al[i]?=some ⟨some t,.call k args,none⟩:=by
 unfold JQ at h;split at h
 ·rename_i t k args heq;exact⟨_,_,_,heq⟩
 ·cases h
def xd(op:fw):Prop:=(∃zero,op = .alloc true zero)∨op = .oC∨∃sz bytes zero l c,op = .make true sz bytes zero l c
theorem zY{al:List bT}{pr:List (List Nat)}{i:Nat}(h:mA al pr i=true):∃t op,al[i]?=some ⟨some t,op,none⟩∧xd op:=by
 unfold mA at h;rw[Bool.or_eq_true]at h;rcases h with h|h
 · unfold Cf at h;split at h
   ·rename_i t zero heq;exact⟨_,_,heq,.inl ⟨_,rfl⟩⟩
   ·rename_i t heq;exact⟨_,_,heq,.inr (.inl rfl)⟩
   ·cases h
 · unfold WM at h;split at h
   ·rename_i t sz bytes zero l c heq;exact⟨_,_,heq,.inr (.inr ⟨_,_,_,_,_,rfl⟩)⟩
   ·cases h
theorem abc{al:List bT}{pr:List (List Nat)}{i t sz bytes:Nat}{zero:List AV}{l c:bn}(h:mA al pr i=true)(ho:al[i]?=some ⟨some t,.make true sz bytes zero l c,none⟩) :
  ∀k∈dj pr i,∃o,al[k]?=some o∧(mj o.op=true∨la o.op=true):=by
 intro k hk;unfold mA Cf WM at h;rw[ho]at h;simp only[Bool.false_or]at h;rw[List.all_eq_true]at h;have:=h k hk;split at this
 ·rename_i o heq;exact⟨o,heq,by simpa using this⟩
 ·cases this
theorem DP{op:fw}(h:xd op)(h2:mj op=true∨la op=true):False:=by rcases h with⟨zero,rfl⟩|rfl|⟨_,_,_,_,_,rfl⟩<;>rcases h2 with h|h<;>simp[mj,la]at h
def Em(n:Nat)(ops:List bT)(pr:List (List Nat))(i:Nat):Bool:=
 match ops[i]? with
 |none=>false
 | some o=>
  (dj pr i).all (fun j=>(dj pr j).all (dj pr i).contains)&&!(dj pr i).contains i &&
  (ow o).all (fun t=>(List.range n).all fun k=>!(fJ ops k==some t)||(dj pr i).contains k||(!la o.op&&(k==i||(dj pr k).contains i))) &&
  (List.range n).all (fun k=>k==i||o.dst==none||!(fJ ops k==o.dst))
def Um(ops:List bT)(pr:List (List Nat)):Bool:=(List.range ops.length).all (Em ops.length ops pr)
def rT(ops:List bT)(pr:List (List Nat))(es:List Nat):List Nat→List Nat→Bool
 |_,[]=>true
 |D,i::r=>decide (i<ops.length)&&!D.contains i&&(dj pr i).all D.contains&&es.all (dj pr i).contains&&(match ops[i]? with|some o=>mj o.op||la o.op|none=>false)&&rT ops pr es (i::D) r
def yE(ops:List bT)(pr:List (List Nat))(es D:List Nat)(e:Nat)(st:List Nat):Bool:=
 decide (e<ops.length)&&!D.contains e&&(dj pr e).all D.contains&&((mA ops pr e&&(Cf ops e||es.all fun x=>mA ops pr x||JQ ops x))||es.all (dj pr e).contains) &&
 D.all fun i=>(dj pr e).contains i||st.contains i||match ops[i]? with|some o=>!la o.op|none=>false
def oD(last:List Nat):List (List Nat×Nat×List Nat)→List Nat
 |[]=>last
 |(dU,_,_)::_=>dU
def mN(ops:List bT)(pr:List (List Nat))(last:List Nat):List Nat→List Nat→List (List Nat×Nat×List Nat)→Bool
 |es,D,[]=>(List.range ops.length).all D.contains
 |es,D,(_,e,st)::r=>yE ops pr es D e st&&rT ops pr (e::es) (e::D) (oD last r)&&mN ops pr last (e::es) ((oD last r).reverse++(e::D)) r
def nj:List (List Nat×Nat×List Nat)→Option Nat
 |[]=>none
 |(_,e,_)::_=>some e
def To(ops:List bT)(pr:List (List Nat))(bX:List (List Nat×Nat×List Nat))(last:List Nat):Bool:=Um ops pr&&rT ops pr [] [] (oD last bX)&&mN ops pr last [] ((oD last bX).reverse) bX
def B0(Φ:aj)(ops:List bT)(last:List Nat)(K:Env→AH→Prop):List (List Nat×Nat×List Nat)→Env→AH→Prop
 |[],env,H=>K env H
 | (_,e,st)::r,env,H=>match ops[e]? with
  |some o=>ta Φ o env H fun qs H2=>nq ops env H2 (sY Φ ops last r qs H2 K) st
  |none=>False
section
variable{Φ:aj}{ops:List bT}{pr:List (List Nat)}{last:List Nat}{K:Env→AH→Prop}{e0 e1:Env}{H:AH}{S S':Nat→Bool}
theorem Sk(bX:List (List Nat×Nat×List Nat))(env:Env):sY Φ ops last bX env H K=xf Φ ops (oD last bX) env H (fun aU H'=>B0 Φ ops last K bX aU H'):=by
 cases bX with
 |nil=>simp only[sY,oD,B0]
 | cons p r=>obtain⟨dU,e,st⟩:=p;exact rfl
theorem qO(h:e0.length=e1.length)(t:Nat):(iD ops S e0 e1).getD t .bot=if late ops S t then e0.getD t .bot else e1.getD t .bot:=by
 unfold iD;by_cases ht:t<e1.length
 ·simp[List.getD_eq_getElem?_getD,ht]
 · have h1:e1.getD t .bot = .bot:=by simp[List.getD_eq_getElem?_getD,List.getElem?_eq_none (Nat.le_of_not_lt ht)]
   have h0:e0.getD t .bot = .bot:=by simp[List.getD_eq_getElem?_getD,List.getElem?_eq_none (h▸Nat.le_of_not_lt ht)]
   rw[h1,h0];simp[List.getD_eq_getElem?_getD,ht]
theorem zX:(iD ops S e0 e1).length=e1.length:=by simp[iD]
theorem z_{a b:Env}(hl:a.length=b.length)(h:∀t,t<a.length→a.getD t .bot=b.getD t .bot):a=b:=by apply List.ext_getElem hl;intro i h1 h2;have:=h i h1;simpa[List.getD_eq_getElem?_getD,h1,h2]using this
theorem uo{t:Nat}:late ops S t=true↔∃k,fJ ops k=some t∧S k=false:=by
 unfold late;simp only[List.any_eq_true,List.mem_range,Bool.and_eq_true,beq_iff_eq,Bool.not_eq_true'];constructor
 ·rintro⟨k,_,h⟩;exact⟨k,h⟩
 · rintro⟨k,h1,h2⟩;refine⟨k,?_,h1,h2⟩;unfold fJ at h1;rcases Nat.lt_or_ge k ops.length with h|h
   ·exact h
   ·simp[List.getElem?_eq_none h]at h1
structure Good(ops:List bT)(pr:List (List Nat)):Prop where
 trans:∀i,i<ops.length→∀j∈dj pr i,∀k∈dj pr j,k∈dj pr i
 irr:∀i,i<ops.length→i∉dj pr i
 reads:∀i o t k,ops[i]?=some o→t∈ow o→fJ ops k=some t→k∈dj pr i∨(la o.op=false∧(k=i∨i∈dj pr k))
 uniq:∀i k t,fJ ops i=some t→fJ ops k=some t→i=k
theorem Mz{k t:Nat}(h:fJ ops k=some t):k<ops.length:=by
 unfold fJ at h;rcases Nat.lt_or_ge k ops.length with h'|h'
 ·exact h'
 ·simp[List.getElem?_eq_none h']at h
theorem akX(h:Um ops pr=true):Good ops pr:=by
 have one:∀i,i<ops.length→Em ops.length ops pr i=true:=fun i hi=>by unfold Um at h;rw[List.all_eq_true]at h;exact h i (List.mem_range.2 hi)
 refine⟨fun i hi j hj k hk=>?_,fun i hi=>?_,fun i o t k ho ht hk=>?_,fun i k t hi hk=>?_⟩
 · have:=one i hi;unfold Em at this;split at this
   ·cases this
   · simp only[Bool.and_eq_true]at this;have h2:=this.1.1.1;rw[List.all_eq_true]at h2;have h3:=h2 j hj;rw[List.all_eq_true]at h3;simpa using h3 k hk
 · have:=one i hi;unfold Em at this;split at this
   ·cases this
   · simp only[Bool.and_eq_true]at this;have:=this.1.1.2;simpa using this
 · have hi:i<ops.length:=by
     rcases Nat.lt_or_ge i ops.length with h'|h'
     ·exact h'
     ·simp[List.getElem?_eq_none h']at ho
   have:=one i hi;unfold Em at this;rw[ho]at this;simp only[Bool.and_eq_true]at this;have h2:=this.1.2;rw[List.all_eq_true]at h2;have h3:=h2 t ht;rw[List.all_eq_true]at h3;have h4:=h3 k (List.mem_range.2 (Mz hk));rw[hk]at h4;simp at h4;rcases h4 with h4|⟨h5,h4⟩
   ·exact .inl h4
   · refine .inr ⟨h5,?_⟩;rcases h4 with h4|h4
     ·exact .inl h4
     ·exact .inr h4
 · have rE:=Mz hi;have:=one i rE;unfold Em at this;split at this
   ·cases this
   · rename_i o ho;simp only[Bool.and_eq_true]at this;have h2:=this.2;rw[List.all_eq_true]at h2;have h3:=h2 k (List.mem_range.2 (Mz hk));have kC:o.dst=some t:=by simpa[fJ,ho]using hi
     rw[kC,hk]at h3;simp at h3;exact h3.symm
theorem Hr(hg:Good ops pr)(hl:e0.length=e1.length){i:Nat}{o:bT}(ho:ops[i]?=some o)
  (h1:∀k∈dj pr i,S k=true) (h2:S i=false) (hd:∀k,S k=true→∀j∈dj pr k,S j=true)
  (h1':∀k∈dj pr i,S' k=true) (zw:S' i=false) (bC:∀k,S' k=true→∀j∈dj pr k,S' j=true) :
  ∀t∈ow o,(iD ops S e0 e1).getD t .bot=(iD ops S' e0 e1).getD t .bot:=by
 intro t ht;rw[qO hl,qO hl];have : late ops S t=late ops S' t:=by
  have key:∀{A B:Nat→Bool},(∀k∈dj pr i,A k=true)→B i=false→(∀k,B k=true→∀j∈dj pr k,B j=true)→late ops A t=true→late ops B t=true:=by
   intro A B a1 b2 bd h;obtain⟨k,hk,hn⟩:=uo.1 h;refine uo.2 ⟨k,hk,?_⟩;rcases hg.reads i o t k ho ht hk with h|⟨_,h⟩
   ·rw[a1 k h]at hn;cases hn
   · rcases h with rfl|h
     ·exact b2
     · cases hb:B k with
       |false=>rfl
       |true=>have:=bd k hb i h;rw[b2]at this;cases this
  cases ha:late ops S t with
  |true=>rw[key h1 zw bC ha]
  | false=>
   cases hb:late ops S' t with
   |false=>rfl
   |true=>rw[key h1' h2 hd hb]at ha;cases ha
 rw[this]
theorem Hz(hg:Good ops pr)(hl:e0.length=e1.length){i:Nat}{o:bT}(ho:ops[i]?=some o){v:AV}
  (hv:∀t,o.dst=some t→t<e1.length→e1.getD t .bot=v) :
  cY (iD ops S e0 e1) o.dst v=iD ops (fun k=>k==i||S k) e0 e1:=by
 have pO:fJ ops i=o.dst:=by simp[fJ,ho]
 apply z_
 ·cases hd:o.dst<;>simp[cY,zX]
 · intro t ht;rw[qO hl];cases hd:o.dst with
   | none=>
    simp only[cY];rw[qO hl];have:late ops S t=late ops (fun k=>k==i||S k) t:=by
     rw[Bool.eq_iff_iff,uo,uo];constructor
     · rintro⟨k,hk,hn⟩;refine⟨k,hk,?_⟩;have:k≠i:=fun e=>by subst e;rw[pO,hd]at hk;cases hk
       simp[this,hn]
     · rintro⟨k,hk,hn⟩;simp at hn;exact⟨k,hk,hn.2⟩
    rw[this]
   | some s=>
    simp only[cY];by_cases yo:s=t
    · subst yo;have wB:s<(iD ops S e0 e1).length:=by
       rw[hd]at ht;simpa[cY,List.length_set]using ht
      have avn:late ops (fun k=>k==i||S k) s=false:=by
       cases hx:late ops (fun k=>k==i||S k) s with
       |false=>rfl
       | true=>obtain⟨k,hk,hn⟩:=uo.1 hx;have:=hg.uniq i k s (by rw[pO,hd]) hk;subst this;simp at hn
      rw[avn];simp only[List.getD_eq_getElem?_getD,List.getElem?_set_self wB,Bool.false_eq_true,if_false,Option.getD_some];rw[←hv s hd (by rw[zX]at wB;exact wB),List.getD_eq_getElem?_getD]
    · have h1:((iD ops S e0 e1).set s v).getD t .bot=(iD ops S e0 e1).getD t .bot:=by
        rw[List.getD_eq_getElem?_getD,List.getElem?_set_ne yo,List.getD_eq_getElem?_getD]
      rw[h1,qO hl];have:late ops S t=late ops (fun k=>k==i||S k) t:=by
       rw[Bool.eq_iff_iff,uo,uo];constructor
       · rintro⟨k,hk,hn⟩;refine⟨k,hk,?_⟩;have:k≠i:=fun e=>by subst e;rw[pO,hd]at hk;cases hk;exact yo rfl
         simp[this,hn]
       · rintro⟨k,hk,hn⟩;simp at hn;exact⟨k,hk,hn.2⟩
      rw[this]
theorem ur(hl:e0.length=e1.length){i:Nat}{o:bT}(hg:Good ops pr)(ho:ops[i]?=some o)(v:AV)(hi:S i=false):iD ops S e0 (cY e1 o.dst v)=iD ops S e0 e1:=by
 have pO:fJ ops i=o.dst:=by simp[fJ,ho]
 have jL:e0.length=(cY e1 o.dst v).length:=by cases hd:o.dst<;>simp[cY,hl]
 apply z_
 ·rw[zX,zX,←hl,←jL]
 · intro t _;rw[qO jL,qO hl];cases aO:late ops S t with
   |true=>rfl
   | false=>
    simp only[Bool.false_eq_true,if_false];cases hd:o.dst with
    |none=>rfl
    | some s=>simp only[cY];rw[List.getD_eq_getElem?_getD,List.getElem?_set_ne,List.getD_eq_getElem?_getD];intro e;subst e;have:late ops S s=true:=uo.2 ⟨i,by rw[pO,hd],hi⟩;rw[aO]at this;cases this
def IP(e:Env)(d:Option Nat)(v:AV):Prop:=∀t,d=some t→t<e.length→e.getD t .bot=v
def Fact(ops:List bT)(pr:List (List Nat))(e0 e1:Env)(H:AH)(i:Nat):Prop:=∃o v,ops[i]?=some o∧(mj o.op=true∨la o.op=true)∧qf o (iD ops (fun k=>(dj pr i).contains k) e0 e1) H v∧IP e1 o.dst v
structure Inv(Φ:aj)(ops:List bT)(pr:List (List Nat))(last:List Nat)(K:Env→AH→Prop)(bX:List (List Nat×Nat×List Nat))(S:Nat→Bool)(env:Env)(H:AH):Prop where
 ex:∃(e0 e1:Env) (D es:List Nat),
  e0.length=e1.length∧env=iD ops S e0 e1∧e1=iD ops D.contains e0 e1 ∧
  (∀i,S i=true→i∈D)∧(∀i,i∈D→S i=false→Fact ops pr e0 e1 H i) ∧
  (∀k,S k=true→∀j∈dj pr k,S j=true)∧(∀k∈D,∀j∈dj pr k,j∈D) ∧
  mN ops pr last es D bX=true∧B0 Φ ops last K bX e1 H
theorem SY(hg:Good ops pr){es:List Nat}{Kc:Env→AH→Prop}:∀(dU D:List Nat)(e1:Env),e0.length=e1.length→e1=iD ops D.contains e0 e1 →
  (∀i,S i=true→i∈D)→(∀i,i∈D→S i=false→Fact ops pr e0 e1 H i)→(∀k∈D,∀j∈dj pr k,j∈D)→rT ops pr es D dU=true→xf Φ ops dU e1 H Kc →
  ∃ nC,e0.length=nC.length∧iD ops S e0 nC=iD ops S e0 e1∧nC=iD ops (dU.reverse++D).contains e0 nC∧(∀i,S i=true→i∈dU.reverse++D) ∧
   (∀i,i∈dU.reverse++D→S i=false→Fact ops pr e0 nC H i)∧(∀k∈dU.reverse++D,∀j∈dj pr k,j∈dU.reverse++D)∧Kc nC H:=by
 intro dU;induction dU with
 |nil=>intro D e1 hl hm hS hf hd _ h;exact⟨e1,hl,rfl,by simpa using hm,by simpa using hS,by simpa using hf,by simpa using hd,h⟩
 | cons i dU ih=>
  intro D e1 hl hm hS hf hd hc h;simp only[rT,Bool.and_eq_true]at hc;obtain⟨⟨⟨⟨⟨hi,FF⟩,oO⟩,pQ⟩,eR⟩,qZ⟩:=hc;simp only[xf]at h;cases ho:ops[i]? with
  |none=>rw[ho]at h;exact h.elim
  | some o=>
   rw[ho]at h eR;dsimp only at h eR;have tj:mj o.op=true∨la o.op=true:=by simpa using eR
   have Rw:i∉D:=by simpa using FF
   have ahg:∀k∈dj pr i,k∈D:=by rw[List.all_eq_true]at oO;intro k hk;simpa using oO k hk
   have oL:S i=false:=by
    cases hs:S i with
    |false=>rfl
    |true=>exact absurd (hS i hs) Rw
   rw[MC]at h;obtain⟨v,hv,h⟩:=am0 tj h;have pO:fJ ops i=o.dst:=by simp[fJ,ho]
   have jL:e0.length=(cY e1 o.dst v).length:=by cases hd:o.dst<;>simp[cY,hl]
   have ID:IP (cY e1 o.dst v) o.dst v:=by intro t ht aO;rw[ht]at aO ⊢;simp only[cY]at aO ⊢;rw[List.length_set]at aO;simp[List.getD_eq_getElem?_getD,aO]
   have rD:∀k,D.contains k=true→∀j∈dj pr k,D.contains j=true:=fun k hk j hj=>by simpa using hd k (by simpa using hk) j hj
   have KG:D.contains i=false:=by simpa using Rw
   have AJ:cY e1 o.dst v=iD ops (i::D).contains e0 (cY e1 o.dst v):=by have h1:=Hz (S:=D.contains) hg jL ho ID;rw[ur hl hg ho v KG,←hm]at h1;rw[h1];congr 1
   have nz:Fact ops pr e0 (cY e1 o.dst v) H i:=by
    refine⟨o,v,ho,tj,?_,ID⟩;have QP:(dj pr i).contains i=false:=by simpa using hg.irr i (by simpa using hi)
    rw[ur hl hg ho v QP];rw[hm]at hv;refine(DU (Hr hg hl ho ?_ ?_ ?_ ?_ ?_ ?_)).1 hv
    ·intro k hk;simpa using ahg k hk
    ·exact KG
    ·exact rD
    ·intro k hk;simpa using hk
    ·exact QP
    ·intro k hk j hj;simpa using hg.trans i (by simpa using hi) k (by simpa using hk) j hj
   have hold:∀k,k∈D→S k=false→Fact ops pr e0 (cY e1 o.dst v) H k:=by
    intro k hk uS;obtain⟨ok,vk,jx,Cy,tU,Rs⟩:=hf k hk uS;have A7:(dj pr k).contains i=false:=by
     cases hx:(dj pr k).contains i with
     |false=>rfl
     |true=>exact absurd (hd k hk i (by simpa using hx)) Rw
    refine⟨ok,vk,jx,Cy,by rw[ur hl hg ho v A7];exact tU,?_⟩;intro t ht aO;rw[←jL,hl]at aO;have:=Rs t ht aO;rw[←this];cases Yb:o.dst with
    |none=>rfl
    | some s=>simp only[cY];rw[List.getD_eq_getElem?_getD,List.getElem?_set_ne,List.getD_eq_getElem?_getD];intro e;subst e;have:=hg.uniq i k s (by rw[pO,Yb]) (by simp[fJ,jx,ht]);subst this;exact Rw hk
   have Yl:iD ops S e0 (cY e1 o.dst v)=iD ops S e0 e1:=ur hl hg ho v oL;have hA:∀k,k∈i::D→S k=false→Fact ops pr e0 (cY e1 o.dst v) H k:=by
    intro k hk uS;rcases List.mem_cons.1 hk with rfl|hk
    ·exact nz
    ·exact hold k hk uS
   have hB:∀k∈i::D,∀j∈dj pr k,j∈i::D:=by
    intro k hk j hj;rcases List.mem_cons.1 hk with rfl|hk
    ·exact List.mem_cons_of_mem _ (ahg j hj)
    ·exact List.mem_cons_of_mem _ (hd k hk j hj)
   obtain⟨nC,g1,g2,g3,g4,g5,g6,g7⟩:=ih (i::D) (cY e1 o.dst v) jL AJ (fun k hk=>List.mem_cons_of_mem _ (hS k hk)) hA hB qZ h;have axj:(i::dU).reverse++D=dU.reverse++i::D:=by simp
   rw[axj];exact⟨nC,g1,g2.trans Yl,g3,g4,g5,g6,g7⟩
theorem Ho{env:Env}{X:Prop}:∀{st:List Nat},nq ops env H X st→X∧∀l∈st,∀o,ops[l]?=some o→IQ env H o:=by
 intro st;induction st with
 |nil=>intro h;exact⟨h,fun l hl=>by cases hl⟩
 | cons l st ih=>
  intro h;obtain⟨h1,h2⟩:=h;obtain⟨h3,h4⟩:=ih h2;refine⟨h3,fun k hk o ho=>?_⟩;rcases List.mem_cons.1 hk with rfl|hk
  ·rw[ho]at h1;exact h1
  ·exact h4 k hk o ho
theorem abE{env:Env}{o:bT}(hr:la o.op=true)(h:Fx env H o):ky env H o.op=some (env.getD (o.dst.getD 0) .bot):=by unfold Fx at h;cases ho:o.op<;>rw[ho]at hr h<;>first|(simp[la]at hr;done)|exact h
theorem amL(hg:Good ops pr){bX:List (List Nat×Nat×List Nat)}{env:Env}(hc:rT ops pr [] [] (oD last bX)=true)(qF:mN ops pr last [] ((oD last bX).reverse) bX=true)
  (h:sY Φ ops last bX env H K):Inv Φ ops pr last K bX (fun _=>false) env H:=by
 rw[Sk]at h;have AJ:∀S,iD ops S env env=env:=fun S=>z_ zX fun t _=>by rw[qO rfl];split<;>rfl
 obtain⟨nC,g1,g2,g3,g4,g5,g6,g7⟩:=SY (S:=fun _=>false) hg (oD last bX) [] env rfl (AJ _).symm (fun i hi=>by cases hi) (fun i hi=>by cases hi) (fun k hk=>by cases hk) hc h;refine⟨env,nC,_,[],g1,?_,g3,g4,g5,fun k hk=>(by cases hk),g6,by simpa using qF,g7⟩;rw[g2,AJ]
theorem af1(hg:Good ops pr){i:Nat}(hi:i<ops.length):∀(bX:List (List Nat×Nat×List Nat)) (es D:List Nat),mN ops pr last es D bX=true→i∉D→mA ops pr i=false→∀e∈es,e∈dj pr i:=by
 intro bX;induction bX with
 | nil=>intro es D h hn eQ;simp only[mN]at h;rw[List.all_eq_true]at h;exact absurd (by simpa using h i (List.mem_range.2 hi)) hn
 | cons p r ih=>
  obtain⟨dU,e,st⟩:=p;intro es D h hn eQ;simp only[mN,Bool.and_eq_true]at h;obtain⟨⟨h1,h2⟩,h3⟩:=h;have JZ:∀(dU:List Nat)(D:List Nat),rT ops pr (e::es) D dU=true→i∈dU→∀e'∈es,e'∈dj pr i:=by
   intro dU;induction dU with
   |nil=>intro D _ h;cases h
   | cons k dU Le=>
    intro D hc hk e' fj;simp only[rT,Bool.and_eq_true]at hc;obtain⟨⟨⟨⟨⟨_,_⟩,_⟩,pQ⟩,_⟩,qZ⟩:=hc;rcases List.mem_cons.1 hk with rfl|hk
    · rw[List.all_eq_true]at pQ;simpa using pQ e' (List.mem_cons_of_mem _ fj)
    ·exact Le _ qZ hk e' fj
  by_cases pU:i=e
  · subst pU;simp only[yE,Bool.and_eq_true]at h1;have:=h1.1.2;rw[eQ,Bool.false_and,Bool.false_or,List.all_eq_true]at this;intro e' fj;simpa using this e' fj
  · by_cases uL:i∈oD last r
    ·exact JZ _ _ h2 uL
    · have:=ih (e::es) _ h3 (by simp[pU,uL,hn]) eQ;exact fun e' fj=>this e' (List.mem_cons_of_mem _ fj)
def rR(env:Env):fw→Option (Nat×Nat)
 | .make _ sz bytes zero l c=>match l.ev env,c.ev env with
  | .int .i64 n,.int .i64 m=>if 0≤n∧n≤m∧bytes*m≤281474976710656∧m≤9223372036854775807∧zero.length=sz then some (n.toNat,m.toNat)else none
  |_,_=>none
 |_=>some (0,0)
theorem acZ{env:Env}{Kv:ae}{sz bytes:Nat}{zero:List AV}{l c:bn}(h:dk Φ env H Kv (.make true sz bytes zero l c)) :
  ∃x,rR env (.make true sz bytes zero l c)=some x∧Kv (.row H.n 0 x.1 sz) (H.push (.row (List.replicate x.2 zero).flatten)):=by
 obtain⟨v,H',he,hK⟩:=h;unfold Ca at he;simp only[rR];split at he
 · rename_i n m h1 h2;split at he
   · rename_i hc;simp only[if_true,Option.some.injEq,Prod.mk.injEq]at he;obtain⟨rfl,rfl⟩:=he;rw[h1,h2];dsimp only;rw[if_pos hc];exact⟨_,rfl,hK⟩
   ·cases he
 ·cases he
theorem Md{env aU:Env}{op:fw}(h:∀t∈dh op,env.getD t .bot=aU.getD t .bot):rR env op=rR aU op:=by
 cases op<;>try rfl
 rename_i mu sz bytes zero l c;have h1:=ez l fun t ht=>h t (by simp[dh,ht]);have h2:=ez c fun t ht=>h t (by simp[dh,ht]);simp only[rR,h1,h2]
theorem ap9{T:Nat→Bool}{a b:Env}(ha:e0.length=a.length)(hb:e0.length=b.length)(hST:∀k,S k=true→T k=true)(h:iD ops T e0 a=iD ops T e0 b):iD ops S e0 a=iD ops S e0 b:=by
 apply z_
 ·rw[zX,zX,←ha,←hb]
 · intro t _;rw[qO ha,qO hb];cases hs:late ops S t with
   |true=>rfl
   | false=>
    have ht:late ops T t=false:=by
     cases hx:late ops T t with
     |false=>rfl
     | true=>
      obtain⟨k,hk,hn⟩:=uo.1 hx;have:late ops S t=true:=uo.2 ⟨k,hk,by
        cases hsk:S k with
        |false=>rfl
        |true=>rw[hST k hsk]at hn;cases hn⟩
      rw[hs]at this;cases this
    have h1:=qO (ops:=ops) (S:=T) ha t;have h2:=qO (ops:=ops) (S:=T) hb t;rw[ht]at h1 h2;simp only[Bool.false_eq_true,if_false]at h1 h2 ⊢;rw[←h1,←h2,h]
theorem aaB{es:List Nat}{i:Nat}:∀(dU D:List Nat),rT ops pr es D dU=true→i∈dU→∃o,ops[i]?=some o∧(mj o.op=true∨la o.op=true):=by
 intro dU;induction dU with
 |nil=>intro D _ h;cases h
 | cons k dU ih=>
  intro D hc hk;simp only[rT,Bool.and_eq_true]at hc;obtain⟨⟨⟨⟨⟨_,_⟩,_⟩,_⟩,eR⟩,qZ⟩:=hc;rcases List.mem_cons.1 hk with rfl|hk
  · split at eR
    ·rename_i o heq;exact⟨o,heq,by simpa using eR⟩
    ·cases eR
  ·exact ih _ qZ hk
theorem ahead{i:Nat}{o:bT}(ho:ops[i]?=some o)(h0:Cf ops i=false)(eR:¬(mj o.op=true∨la o.op=true)):∀(bX:List (List Nat×Nat×List Nat)) (es D:List Nat),mN ops pr last es D bX=true→i∉D →
  (∀e∈es,mA ops pr e=true∨JQ ops e=true)∨∀e∈es,e∈dj pr i:=by
 intro bX;induction bX with
 | nil=>intro es D h hn;simp only[mN]at h;rw[List.all_eq_true]at h;exact absurd (by simpa using h i (List.mem_range.2 (List.getElem?_eq_some_iff.1 ho).1)) hn
 | cons p r ih=>
  obtain⟨dU,e,st⟩:=p;intro es D h hn;simp only[mN,Bool.and_eq_true]at h;obtain⟨⟨h1,h2⟩,h3⟩:=h;by_cases pU:i=e
  · subst pU;simp only[yE,Bool.and_eq_true]at h1;have:=h1.1.2;rw[h0,Bool.false_or,Bool.or_eq_true,Bool.and_eq_true,List.all_eq_true,List.all_eq_true]at this;rcases this with⟨_,h⟩|h
    ·exact .inl fun e he=>by simpa using h e he
    ·exact .inr fun e he=>by simpa using h e he
  · have uL:i∉oD last r:=by
      intro hs;obtain⟨o',kC,tj⟩:=aaB _ _ h2 hs;rw[ho]at kC;cases kC;exact eR tj
    rcases ih (e::es) _ h3 (by simp[pU,uL,hn])with h|h
    ·exact .inl fun x hx=>h x (List.mem_cons_of_mem _ hx)
    ·exact .inr fun x hx=>h x (List.mem_cons_of_mem _ hx)
theorem look(X4:w_ Φ)(hg:Good ops pr){i t sz bytes:Nat}{zero:List AV}{l c:bn}(ho:ops[i]?=some ⟨some t,.make true sz bytes zero l c,none⟩):∀(bX:List (List Nat×Nat×List Nat)) (e1:Env) (H:AH) (D es:List Nat),
  e0.length=e1.length→e1=iD ops D.contains e0 e1→(∀k∈D,∀j∈dj pr k,j∈D)→mN ops pr last es D bX=true→B0 Φ ops last K bX e1 H→i∉D→(∀k∈dj pr i,k∈D) →
  ∃x,rR e1 (.make true sz bytes zero l c)=some x:=by
 have h0:Cf ops i=false:=by simp[Cf,ho]
 have eR:¬(mj (fw.make true sz bytes zero l c)=true∨la (fw.make true sz bytes zero l c)=true):=by simp[mj,la]
 have rE:=(List.getElem?_eq_some_iff.1 ho).1;intro bX;induction bX with
 | nil=>intro e1 H D es hl hm hd hc _ hn;simp only[mN]at hc;rw[List.all_eq_true]at hc;exact absurd (by simpa using hc i (List.mem_range.2 rE)) hn
 | cons p r ih=>
  obtain⟨dU,e,st⟩:=p;intro e1 H D es hl hm hd hc nP hn FH;have Gl:=hc;simp only[mN,Bool.and_eq_true]at hc;obtain⟨⟨h1,h2⟩,h3⟩:=hc;simp only[yE,Bool.and_eq_true]at h1;obtain⟨⟨⟨⟨zD,nY⟩,qG⟩,zE⟩,A5⟩:=h1;have uW:e∉D:=by simpa using nY
  by_cases pU:e=i
  · subst pU;simp only[B0,ho,ta]at nP;obtain⟨x,hx,_⟩:=acZ nP;exact⟨x,hx⟩
  · have uL:i∉oD last r:=by
      intro hs;obtain⟨o',kC,tj⟩:=aaB _ _ h2 hs;rw[ho]at kC;cases kC;exact eR tj
    have jw:i∉(oD last r).reverse++(e::D):=by simp[uL,hn,Ne.symm pU]
    have awK:mA ops pr e=true∨JQ ops e=true:=by
     rcases ahead ho h0 eR r _ _ h3 jw with h|h
     ·exact h e List.mem_cons_self
     ·exact absurd (FH e (h e List.mem_cons_self)) uW
    obtain ⟨te,GV,Gu,hae⟩:∃te GV,ops[e]?=some ⟨some te,GV,none⟩∧(xd GV∨∃k args,GV = .call k args):=by
     rcases awK with h|h
     ·obtain⟨te,GV,h1,h2⟩:=zY h;exact⟨te,GV,h1,.inl h2⟩
     ·obtain⟨te,k,args,h1⟩:=amM h;exact⟨te,_,h1,.inr ⟨k,args,rfl⟩⟩
    simp only[B0,Gu,ta]at nP;have hv:∃v H2,sY Φ ops last r (cY e1 (some te) v) H2 K:=by
     rcases hae with(⟨z,rfl⟩|rfl|⟨_,_,_,_,_,rfl⟩)|⟨k,args,rfl⟩
     ·obtain⟨v,H2,_,h⟩:=nP;exact⟨v,H2,(Ho h).1⟩
     ·exact⟨_,_,(Ho nP).1⟩
     ·obtain⟨v,H2,_,h⟩:=nP;exact⟨v,H2,(Ho h).1⟩
     ·obtain⟨v,H2,h⟩:=X4 _ _ _ _ nP;exact⟨v,H2,(Ho h).1⟩
    obtain⟨v,H2,I6⟩:=hv;rw[Sk]at I6;have jL:e0.length=(cY e1 (some te) v).length:=by simp[cY,hl]
    have hDe:D.contains e=false:=by simpa using uW
    have AJ:cY e1 (some te) v=iD ops (e::D).contains e0 (cY e1 (some te) v):=by
     have h1:=Hz (S:=D.contains) hg jL Gu (v:=v) (fun s hs aO=>by cases hs;simp only[cY]at aO ⊢;rw[List.length_set]at aO;simp[List.getD_eq_getElem?_getD,aO])
     have h2:=ur hl hg Gu v hDe;dsimp only at h1 h2;rw[h2,←hm]at h1;rw[h1];congr 1
    have hB:∀k∈e::D,∀j∈dj pr k,j∈e::D:=by
     intro k hk j hj;rcases List.mem_cons.1 hk with rfl|hk
     · rw[List.all_eq_true]at qG;exact List.mem_cons_of_mem _ (by simpa using qG j hj)
     ·exact List.mem_cons_of_mem _ (hd k hk j hj)
    obtain ⟨nC,g1,g2,g3,g4,g5,g6,g7⟩:=SY (S:=(e::D).contains) hg (oD last r) (e::D) (cY e1 (some te) v) jL AJ (fun k hk=>by simpa using hk) (fun k hk hs=>by
      have:(e::D).contains k=true:=by simpa using hk
      rw[hs]at this;cases this) hB h2 I6
    obtain ⟨x,hx⟩:=ih nC H2 _ _ g1 g3 g6 h3 g7 jw (fun k hk=>by have:=FH k hk;simp[this])
    refine⟨x,?_⟩;rw[←hx];apply Md;intro s hs;have Yu:s∈ow (⟨some t,.make true sz bytes zero l c,none⟩:bT):=by simp[ow,hs]
    have cl:∀{A:List Nat},(∀k∈A,∀j∈dj pr k,j∈A)→∀k,A.contains k=true→∀j∈dj pr k,A.contains j=true:=by intro A hA k hk j hj;simpa using hA k (by simpa using hk) j hj
    have key:=Hr (S:=D.contains) (S':=((oD last r).reverse++(e::D)).contains) (e1:=nC) hg g1 ho (fun k hk=>by simpa using FH k hk) (by simpa using hn) (cl hd)
     (fun k hk=>by have:=FH k hk;simp[this]) (by simpa using jw) (cl g6) s Yu
    rw[←g3]at key;have yh:iD ops D.contains e0 nC=iD ops D.contains e0 e1:=by rw[ap9 g1 jL (fun k hk=>by simp at hk;simp[hk]) g2];exact ur hl hg Gu v hDe
    rw[yh,←hm]at key;exact key
theorem anM(X4:w_ Φ)(hg:Good ops pr){env:Env}{bX:List (List Nat×Nat×List Nat)}(h:Inv Φ ops pr last K bX S env H){i t:Nat}{op:fw}(ho:ops[i]?=some ⟨some t,op,none⟩)(eQ:xd op)(oL:S i=false)(oO:(∃sz bytes zero l c,op = .make true sz bytes zero l c)→∀k∈dj pr i,S k=true) :
  ∃x,rR env op=some x:=by
 rcases eQ with⟨zero,rfl⟩|rfl|⟨sz,bytes,zero,l,c,rfl⟩
 ·exact⟨_,rfl⟩
 ·exact⟨_,rfl⟩
 · obtain ⟨e0,e1,D,es,hl,hm,wy,hS,hf,uV,rD,ay,nP⟩:=h;have oO:=oO ⟨_,_,_,_,_,rfl⟩;have pT:i∉D:=by
    intro pT;obtain⟨o,v,kC,eR,_⟩:=hf i pT oL;rw[ho]at kC;cases kC;exact DP (.inr (.inr ⟨_,_,_,_,_,rfl⟩)) eR
   obtain⟨x,hx⟩:=look X4 hg ho bX e1 H D es hl wy rD ay nP pT (fun k hk=>hS k (oO k hk));refine⟨x,?_⟩;rw[←hx];apply Md;intro s hs;have Yu:s∈ow (⟨some t,.make true sz bytes zero l c,none⟩:bT):=by simp[ow,hs]
   have key:=Hr (S:=S) (S':=D.contains) hg hl ho oO oL uV (fun k hk=>by simpa using hS k (oO k hk)) (by simpa using pT) (fun k hk j hj=>by simpa using rD k (by simpa using hk) j hj) s Yu;rw[←hm,←wy]at key;exact key
theorem abb(eg:rZ Φ)(hg:Good ops pr){env:Env}{bX:List (List Nat×Nat×List Nat)}(h:Inv Φ ops pr last K bX S env H){i:Nat}{o:bT}(ho:ops[i]?=some o)(oL:S i=false)(oO:∀k∈dj pr i,S k=true)
  (eQ:mA ops pr i=false∨nj bX=some i) :
  ta Φ o env H (fun aU H'=>Inv Φ ops pr last K (if nj bX=some i then bX.tail else bX) (fun k=>k==i||S k) aU H'):=by
 obtain⟨e0,e1,D,es,hl,hm,wy,hS,hf,uV,rD,ay,nP⟩:=h;have hi:i<ops.length:=(List.getElem?_eq_some_iff.1 ho).1;have QP:(dj pr i).contains i=false:=by simpa using hg.irr i hi
 have ag9:∀k,(k==i||S k)=true→∀j∈dj pr k,(j==i||S j)=true:=by
  intro k hk j hj;simp only[Bool.or_eq_true,beq_iff_eq]at hk ⊢;rcases hk with rfl|hk
  ·exact .inr (oO j hj)
  ·exact .inr (uV k hk j hj)
 rw[MC];by_cases pT:i∈D
 · obtain ⟨o',v,kC,eR,KP,hh⟩:=hf i pT oL;rw[ho]at kC;cases kC;have awZ:qf o env H v:=by
    rw[hm];refine(DU (Hr hg hl ho ?_ ?_ ?_ ?_ ?_ ?_)).1 KP
    ·intro k hk;simpa using hk
    ·exact QP
    ·intro k hk j hj;simpa using hg.trans i hi k (by simpa using hk) j hj
    ·exact oO
    ·exact oL
    ·exact uV
   have Rz:nj bX≠some i:=by
    cases bX with
    |nil=>simp[nj]
    | cons p r=>
     obtain⟨dU,e,st⟩:=p;simp only[mN,Bool.and_eq_true]at ay;have h1:=ay.1.1;simp only[yE,Bool.and_eq_true]at h1;have uW:e∉D:=by simpa using h1.1.1.1.2
     intro he;simp only[nj,Option.some.injEq]at he;subst he;exact uW pT
   rw[if_neg Rz];refine amv awZ ⟨e0,e1,D,es,hl,?_,wy,?_,?_,ag9,rD,ay,nP⟩
   ·rw[hm];exact Hz hg hl ho hh
   · intro k hk;simp only[Bool.or_eq_true,beq_iff_eq]at hk;rcases hk with rfl|hk
     ·exact pT
     ·exact hS k hk
   · intro k hk uS;simp only[Bool.or_eq_false_iff]at uS;exact hf k hk uS.2
 · cases bX with
   | nil=>simp only[mN]at ay;rw[List.all_eq_true]at ay;exact absurd (by simpa using ay i (List.mem_range.2 hi)) pT
   | cons p r =>
    obtain⟨dU,e,st⟩:=p;have avi:=ay;simp only[mN,Bool.and_eq_true]at ay;obtain⟨⟨h1,h2⟩,h3⟩:=ay;simp only[yE,Bool.and_eq_true]at h1;obtain⟨⟨⟨⟨zD,nY⟩,qG⟩,zE⟩,A5⟩:=h1;have uW:e∉D:=by simpa using nY
    have pU : i=e:=by
     by_cases pU:i=e
     ·exact pU
     exfalso;have eQ:mA ops pr i=false:=by
      rcases eQ with h|h
      ·exact h
      · simp only[nj,Option.some.injEq]at h;exact absurd h.symm pU
     have Wv : e∈dj pr i:=by
      by_cases uL:i∈oD last r
      · have JZ:∀(dU:List Nat)(D:List Nat),rT ops pr (e::es) D dU=true→i∈dU→e∈dj pr i:=by
          intro dU;induction dU with
          |nil=>intro D _ h;cases h
          | cons k dU Le=>
           intro D hc hk;simp only[rT,Bool.and_eq_true]at hc;obtain⟨⟨⟨⟨⟨_,_⟩,_⟩,pQ⟩,_⟩,qZ⟩:=hc;rcases List.mem_cons.1 hk with rfl|hk
           · rw[List.all_eq_true]at pQ;simpa using pQ e List.mem_cons_self
           ·exact Le _ qZ hk
        exact JZ _ _ h2 uL
      ·exact af1 hg hi r (e::es) _ h3 (by simp[pU,uL,pT]) eQ e List.mem_cons_self
     exact uW (hS e (oO e Wv))
    subst pU;rw[if_pos (show nj ((dU,i,st)::r)=some i from rfl)];simp only[B0,ho]at nP;rw[MC]at nP;have ahf:∀k∈dj pr i,k∈D:=fun k hk=>hS k (oO k hk);have KG:D.contains i=false:=by simpa using pT
    have awP:∀k,D.contains k=true→∀j∈dj pr k,D.contains j=true:=fun k hk j hj=>by simpa using rD k (by simpa using hk) j hj
    have avt:rp Φ o env H (fun v H'=>nq ops e1 H' (sY Φ ops last r (cY e1 o.dst v) H' K) st):=by
     have agree:∀t∈ow o,e1.getD t .bot=env.getD t .bot:=by intro t ht;have:=Hr (S:=D.contains) (S':=S) hg hl ho (fun k hk=>by simpa using ahf k hk) KG awP oO oL uV t ht;rw[←wy,←hm]at this;exact this
     exact(ac3 agree).1 nP
    refine am1 eg ?_ avt;intro v H' hs;obtain⟨I6,aX⟩:=Ho hs;have pO:fJ ops i=o.dst:=by simp[fJ,ho]
    have jL:e0.length=(cY e1 o.dst v).length:=by cases hd:o.dst<;>simp[cY,hl]
    have ID:IP (cY e1 o.dst v) o.dst v:=by intro t ht aO;rw[ht]at aO ⊢;simp only[cY]at aO ⊢;rw[List.length_set]at aO;simp[List.getD_eq_getElem?_getD,aO]
    have AJ:cY e1 o.dst v=iD ops (i::D).contains e0 (cY e1 o.dst v):=by have h1:=Hz (S:=D.contains) hg jL ho ID;rw[ur hl hg ho v KG,←wy]at h1;rw[h1];congr 1
    have Yl:cY env o.dst v=iD ops (fun k=>k==i||S k) e0 (cY e1 o.dst v):=by have h1:=Hz (S:=S) hg jL ho ID;rw[ur hl hg ho v oL,←hm]at h1;exact h1
    have atN : ∀k,k∈i::D→(k==i||S k)=false→Fact ops pr e0 (cY e1 o.dst v) H' k:=by
     intro k hk uS;simp only[Bool.or_eq_false_iff,beq_eq_false_iff_ne]at uS;obtain⟨A_,uS⟩:=uS;have Gs:k∈D:=(List.mem_cons.1 hk).resolve_left A_;obtain⟨ok,vk,jx,Cy,tU,Rs⟩:=hf k Gs uS;have A7:(dj pr k).contains i=false:=by
      cases hx:(dj pr k).contains i with
      |false=>rfl
      |true=>exact absurd (rD k Gs i (by simpa using hx)) pT
     have Qp:∀u,IP e1 ok.dst u→IP (cY e1 o.dst v) ok.dst u:=by
      intro u hu t ht aO;rw[←jL,hl]at aO;have:=hu t ht aO;rw[←this];cases Yb:o.dst with
      |none=>rfl
      | some s=>simp only[cY];rw[List.getD_eq_getElem?_getD,List.getElem?_set_ne,List.getD_eq_getElem?_getD];intro e;subst e;have:=hg.uniq i k s (by rw[pO,Yb]) (by simp[fJ,jx,ht]);exact A_ this.symm
     by_cases hP:mj ok.op=true
     · refine⟨ok,vk,jx,Cy,?_,Qp _ Rs⟩;rw[ur hl hg ho v A7];exact(aon hP).1 tU
     · have hR:la ok.op=true:=Cy.resolve_left hP;have aw2:k∈st:=by
        rw[List.all_eq_true]at A5;have:=A5 k Gs;rw[jx]at this;simp[hR]at this;rcases this with h|h
        ·exact absurd (oO k h) (by rw[uS];simp)
        ·exact h
       have Fe:=aX k aw2 ok jx;have agree:∀t∈ow ok,(iD ops (fun j=>(dj pr k).contains j) e0 e1).getD t .bot=e1.getD t .bot:=by
        intro t ht
        conv=>rhs;rw[wy]
        rw[qO hl,qO hl];have hA:∀(A:Nat→Bool),(∀j∈dj pr k,A j=true)→late ops A t=false:=by
         intro A hA;cases hx:late ops A t with
         |false=>rfl
         | true=>
          obtain⟨j,hj,hn⟩:=uo.1 hx;rcases hg.reads k ok t j jx ht hj with h|⟨h,_⟩
          ·rw[hA j h]at hn;cases hn
          ·rw[hR]at h;cases h
        rw[hA _ (fun j hj=>by simpa using hj),hA _ (fun j hj=>by simpa using rD k Gs j hj)]
       rw[DU agree]at tU;unfold IQ at Fe;unfold qf at tU;cases iT:ok.guard with
       | none=>
        rw[iT]at Fe;refine⟨ok,e1.getD (ok.dst.getD 0) .bot,jx,Cy,?_,Qp _ ?_⟩
        · rw[ur hl hg ho v A7];refine(DU agree).2 ?_;unfold qf;rw[iT];exact abE hR Fe
        ·intro t ht _;rw[ht];rfl
       | some g=>
        obtain⟨s,want⟩:=g;rw[iT]at Fe tU;dsimp only at Fe tU;obtain⟨b,hb,tU⟩:=tU;by_cases lM:b=true
        · subst lM;refine⟨ok,e1.getD (ok.dst.getD 0) .bot,jx,Cy,?_,Qp _ ?_⟩
          · rw[ur hl hg ho v A7];refine(DU agree).2 ?_;unfold qf;rw[iT];exact⟨true,hb,by rw[if_pos rfl];exact abE hR (Fe (AV.Sp hb))⟩
          ·intro t ht _;rw[ht];rfl
        · rw[if_neg lM]at tU;subst tU;refine⟨ok,.aM [],jx,Cy,?_,Qp _ Rs⟩;rw[ur hl hg ho v A7];refine(DU agree).2 ?_;unfold qf;rw[iT];exact⟨b,hb,by rw[if_neg lM]⟩
    rw[Sk]at I6;have hA:∀k,(k==i||S k)=true→k∈i::D:=by
     intro k hk;simp only[Bool.or_eq_true,beq_iff_eq]at hk;rcases hk with rfl|hk
     ·exact List.mem_cons_self
     ·exact List.mem_cons_of_mem _ (hS k hk)
    have hB:∀k∈i::D,∀j∈dj pr k,j∈i::D:=by
     intro k hk j hj;rcases List.mem_cons.1 hk with rfl|hk
     ·exact List.mem_cons_of_mem _ (ahf j hj)
     ·exact List.mem_cons_of_mem _ (rD k hk j hj)
    obtain⟨nC,g1,g2,g3,g4,g5,g6,g7⟩:=SY (S:=fun k=>k==i||S k) hg (oD last r) (i::D) (cY e1 o.dst v) jL AJ hA atN hB h2 I6;exact⟨e0,nC,_,i::es,g1,by rw[g2];exact Yl,g3,g4,g5,ag9,g6,h3,g7⟩
theorem anL{env:Env}{bX:List (List Nat×Nat×List Nat)}(h:Inv Φ ops pr last K bX S env H)(py:∀i,i<ops.length→S i=true):K env H:=by
 obtain⟨e0,e1,D,es,hl,hm,wy,hS,hf,uV,rD,ay,nP⟩:=h;cases bX with
 | nil=>
  have:env=e1:=by
   rw[hm];refine z_ zX fun t _=>?_;rw[qO hl];have:late ops S t=false:=by
    cases hx:late ops S t with
    |false=>rfl
    | true=>obtain⟨j,hj,hn⟩:=uo.1 hx;rw[py j (Mz hj)]at hn;cases hn
   rw[this];rfl
  rw[this];exact nP
 | cons p r=>
  obtain⟨dU,e,st⟩:=p;simp only[mN,Bool.and_eq_true]at ay;obtain⟨⟨h1,h2⟩,h3⟩:=ay;simp only[yE,Bool.and_eq_true]at h1;obtain⟨⟨⟨⟨zD,nY⟩,qG⟩,zE⟩,A5⟩:=h1;have uW:e∉D:=by simpa using nY
  exact absurd (hS e (py e (by simpa using zD))) uW
theorem anN(hg:Good ops pr){env:Env}{bX:List (List Nat×Nat×List Nat)}(h:Inv Φ ops pr last K bX S env H) :
  (∀k,S k=true→∀j∈dj pr k,S j=true) ∧
  ∀p,mA ops pr p=true→S p=false→nj bX≠some p→∀i,i<ops.length→S i=false→p∈dj pr i→mA ops pr i=false→(∀k∈dj pr i,S k=true∨(mA ops pr k=true∧nj bX≠some k))→False:=by
 obtain⟨e0,e1,D,es,hl,hm,wy,hS,hf,uV,rD,ay,nP⟩:=h;refine⟨uV,fun p hp X6 Ry i hi oL qH awL py=>?_⟩;have Gv:p∉D:=by intro Gv;obtain⟨o,v,ho,eR,_⟩:=hf p Gv X6;obtain⟨t',mn,kC,xw⟩:=zY hp;rw[ho]at kC;cases kC;exact DP xw eR
 have pT:i∉D:=fun pT=>Gv (rD i pT p qH);cases bX with
 | nil=>simp only[mN]at ay;rw[List.all_eq_true]at ay;exact absurd (by simpa using ay i (List.mem_range.2 hi)) pT
 | cons q r =>
  obtain⟨dU,e,st⟩:=q;have avi:=ay;simp only[mN,Bool.and_eq_true]at ay;obtain⟨⟨h1,h2⟩,h3⟩:=ay;simp only[yE,Bool.and_eq_true]at h1;obtain⟨⟨⟨⟨zD,nY⟩,qG⟩,zE⟩,A5⟩:=h1;have uW:e∉D:=by simpa using nY
  by_cases pU:i=e
  · subst pU;rw[List.all_eq_true]at qG;exact Gv (by simpa using qG p qH)
  · have Wv : e∈dj pr i:=by
      by_cases uL:i∈oD last r
      · have JZ:∀(dU:List Nat)(D:List Nat),rT ops pr (e::es) D dU=true→i∈dU→e∈dj pr i:=by
          intro dU;induction dU with
          |nil=>intro D _ h;cases h
          | cons k dU Le=>
           intro D hc hk;simp only[rT,Bool.and_eq_true]at hc;obtain⟨⟨⟨⟨⟨_,_⟩,_⟩,pQ⟩,_⟩,qZ⟩:=hc;rcases List.mem_cons.1 hk with rfl|hk
           · rw[List.all_eq_true]at pQ;simpa using pQ e List.mem_cons_self
           ·exact Le _ qZ hk
        exact JZ _ _ h2 uL
      ·exact af1 hg hi r (e::es) _ h3 (by simp[pU,uL,pT]) awL e List.mem_cons_self
    rcases py e Wv with h|⟨_,h⟩
    ·exact uW (hS e h)
    ·exact h rfl
theorem S9{env:Env}{bX:List (List Nat×Nat×List Nat)}(h:Inv Φ ops pr last K bX S env H){e:Nat}(he:nj bX=some e) :
  S e=false∧e<ops.length∧∀k∈dj pr e,mA ops pr k=true→S k=true:=by
 obtain⟨e0,e1,D,es,hl,hm,wy,hS,hf,uV,rD,ay,nP⟩:=h;cases bX with
 |nil=>cases he
 | cons q r=>
  obtain⟨dU,e',st⟩:=q;simp only[nj,Option.some.injEq]at he;subst he;simp only[mN,Bool.and_eq_true]at ay;obtain⟨⟨h1,h2⟩,h3⟩:=ay;simp only[yE,Bool.and_eq_true]at h1;obtain⟨⟨⟨⟨zD,nY⟩,qG⟩,zE⟩,A5⟩:=h1;have uW:e'∉D:=by simpa using nY
  refine⟨?_,by simpa using zD,fun k hk eQ=>?_⟩
  · cases hs:S e' with
    |false=>rfl
    |true=>exact absurd (hS e' hs) uW
  · cases hs:S k with
    |true=>rfl
    | false=>
     rw[List.all_eq_true]at qG;have Gs:k∈D:=by simpa using qG k hk
     obtain⟨o,v,ho,eR,_⟩:=hf k Gs hs;obtain⟨t',mn,kC,xw⟩:=zY eQ;rw[ho]at kC;cases kC;exact(DP xw eR).elim
end
end Rb

namespace Rb
open Go
def wW(ops:Array Oper)(x:Option (Nat×Bool))(y:Option (Nat×Bool)):Bool:=
 match x,y with
 |none,none=>true
 |some (j,want),some (s,VU)=>want==VU&&((ops[j]?).bind (·.dst))==some s
 |_,_=>false
def qQ(C:Ctx)(ops:Array Oper):List Oper→List bT→Bool
 |[],[]=>true
 |o::r,a::s=>o.dst==a.dst&&eM C o.op a.op&&wW ops o.guard a.guard&&qQ C ops r s
 |_,_=>false
def pf:List bT→List Nat
 |[]=>[]
 |o::r=>o.dst.toList++(match o.guard with|some (s,_)=>[s]|none=>[])++pf r
def jr:kQ→List Nat
 | .region ops=>pf ops
 | .draw ops _ _ _=>pf ops
 | .seq a b=>jr a++jr b
 | .join _ _ a b=>jr a++jr b
 | .cond _ a b=>jr a++jr b
 | .block _ a=>jr a
 | .loop _ _ a=>jr a
 | .freeze t a=>t::jr a
 | .qk _ _ ops b=>pf ops++jr b
 |_=>[]
def S4(ops:Array Oper)(pr:List (List Nat)):Bool:=(List.range ops.size).all fun i=>match ops[i]? with
 | some o=>
  let es:=(o.after.toList.filter (Region.binds .any)).map Edge.on
  es.all (fun j=>decide (j<i))&&(dj pr i).all fun j=>es.contains j||es.any fun k=>(dj pr k).contains j
 |none=>false
def NV(ks vs:List Nat)(az:List Nat):Bool:=az.all fun t=>ks.contains t||vs.contains t
def Ht(C:Ctx)(ops:Array Oper):List Oper→kQ→Bool
 |l,.region al=>qQ C ops l al
 |l,.qk vs ks al b=>qQ C ops (l.take al.length) al&&NV ks vs (pf al)&&Ht C ops (l.drop al.length) b
 |_,_=>false
def iy(C:Ctx):Code→kQ→Bool
 | .skip,.skip=>true
 | .region _ ops false,.region al=>qQ C ops ops.toList al
 | .region _ ops true,.draw al pr bX last=>qQ C ops ops.toList al&&S4 ops pr&&To al pr bX last&&C.P.follows .mixedOrders
 | .seq a b,.seq x y=>iy C a x&&iy C b y
 | .seq a b,.join vs ks x y=>iy C a x&&iy C b y&&NV ks vs (jr x)
 | .cond c a b,.cond x p q=>dA C c x&&iy C a p&&iy C b q
 | .block id a,.block fQ x=>id==fQ&&iy C a x
 | .loop a,.loop vs ks x=>iy C a x&&NV ks vs (jr x)
 | .exit id,.exit fQ=>id==fQ
 | .ret,.ret=>true
 | .region _ ops false,.qk vs ks al b=>Ht C ops ops.toList (.qk vs ks al b)
 |c,.freeze t x=>iy C c x
 |_,_=>false
def iw(az:List Nat)(a a':Act):Prop:=a'.tmps.size=a.tmps.size∧∀t,t∉az→a'.tmps[t]?=a.tmps[t]?
theorem iw.refl(az:List Nat)(a:Act):iw az a a:=⟨rfl,fun _ _=>rfl⟩
theorem iw.trans{az:List Nat}{a b c:Act}(h:iw az a b)(k:iw az b c):iw az a c:=⟨k.1.trans h.1,fun t ht=>(k.2 t ht).trans (h.2 t ht)⟩
theorem iw.mono{az bs:List Nat}{a b:Act}(h:iw az a b)(hs:∀t,t∈az→t∈bs):iw bs a b:=⟨h.1,fun t ht=>h.2 t fun h'=>ht (hs t h')⟩
theorem iw.put(a:Act)(d:Option Tmp)(V:Value):iw d.toList a (a.put d V):=by
 cases d with
 |none=>exact iw.refl _ _
 | some d=>refine⟨by simp[Act.put],fun t ht=>?_⟩;simp only[Option.toList_some,List.mem_singleton]at ht;simp only[Act.put];rw[Array.getElem?_setIfInBounds,if_neg (fun e=>ht e.symm)]
section
variable{C:Ctx}{w:World}{G:cc}{H:AH}{env:Env}{a:Act}
theorem bo.cY(h:bo C.F w G env a.tmps)(d:Option Tmp){v:AV}{V:Value}(hv:VR C.F w G v V):bo C.F w G (Rb.cY env d v) (a.put d V).tmps:=by
 cases d with
 |none=>exact h
 |some d=>exact h.set d hv
theorem bo.same{F:eG}{cs:List AV}{Vs:Array Value}(h:bo F w G cs Vs){t:Nat}{v:AV}(hv:cs[t]?=some v):bo F w G (cs.set t v) Vs:=by
 refine⟨by simp[h.1],fun j c V hc hV=>?_⟩;by_cases hj:t=j
 · subst hj;rw[List.getElem?_set_self (List.getElem?_eq_some_iff.1 hv).1]at hc;cases hc;exact h.2 t v V hv hV
 · rw[List.getElem?_set_ne hj]at hc;exact h.2 j c V hc hV
theorem Oper.adk{P:Program}{o:Oper}{n1 n2:Act→World→Prop}{Q:Exit→Act→World→Prop}(h:o.wp P a w n1 Q)(hn:∀a w,n1 a w→n2 a w):o.wp P a w n2 Q:=by
 unfold Oper.wp at h ⊢;cases hr:(execOp a.eval o).run P w with
 | halt hh w'=>rw[hr]at h;cases hh<;>first|exact h|exact h.elim
 | ok x w'=>
  rw[hr]at h;cases x with
  |value v=>exact hn _ _ h
  |skip=>exact hn _ _ h
  |defer d=>exact hn _ _ h
  | enter f args=>
   refine Calls.mono h fun e w'' he=>?_;cases e with
   |returned v=>exact hn _ _ he
   |panicked c=>exact he
   |outgrown=>exact he
  |row r args=>exact Rows.mono h fun v w'' hv=>hn _ _ hv
  |_=>exact h.elim
theorem put_defers(d:Option Tmp)(V:Value):(a.put d V).defers=a.defers:=by cases d<;>rfl
theorem alp{P:Program}{ops:Array Oper}{Q:Exit→Act→World→Prop}{rest:List Oper}{o:Oper}(hg:o.guard=none)(h:o.wp P a w (wpList P ops Q rest) Q):wpList P ops Q (o::rest) a w:=by unfold wpList;rw[if_pos (by simp[Region.wanted,hg])];exact .inl h
theorem aah(hF:xN C){ops:Array Oper}{Q:Exit→Act→World→Prop}{K:Env→AH→Prop}{w0:World}{G0:cc}{H0:AH}{a0:Act}{az:List Nat}{rest:List Oper} :
  ∀ (l:List Oper) (al:List bT) (env:Env) (H:AH) (G:cc) (w:World) (a:Act),qQ C ops l al=true→qb (au C) al env H K→jI C w G H→Rel C.F w G H→bo C.F w G env a.tmps→a.defers=[] →
   Step w0 G0 H0 w G H→iw az a0 a→(∀t,t∈pf al→t∈az) →
   (∀aU H' G' a' w',K aU H'→jI C w' G' H'→Rel C.F w' G' H'→bo C.F w' G' aU a'.tmps→a'.defers=[]→Step w0 G0 H0 w' G' H'→iw az a0 a'→wpList C.P ops Q rest a' w') →
   wpList C.P ops Q (l++rest) a w:=by
 intro l;induction l with
 | nil=>
  intro al env H G w a ay h hG aI he hd aX hk _ hQ;cases al with
  |nil=>exact hQ env H G a w h hG aI he hd aX hk
  |cons _ _=>simp[qQ]at ay
 | cons o l ih=>
  intro al env H G w a ay h hG aI he hd aX hk rf hQ;cases al with
  |nil=>simp[qQ]at ay
  | cons ao al=>
   simp only[qQ,Bool.and_eq_true,beq_iff_eq]at ay;obtain⟨⟨⟨uK,eR⟩,iT⟩,qZ⟩:=ay;have VB:∀t,t∈pf al→t∈az:=fun t ht=>rf t (by simp[pf,ht]);have VC:∀t,t∈o.dst.toList→t∈az:=fun t ht=>rf t (by rw[uK]at ht;simp[pf];left;simpa using ht);have step:∀(AE:Env)(a1:Act),a1=a→bo C.F w G AE a.tmps→dk (au C) AE H (fun v H'=>qb (au C) al (cY AE ao.dst v) H' K) ao.op→o.wp C.P a w (wpList C.P ops Q (l++rest)) Q:=by intro AE a1 _ zD WG;refine Oper.adk (abl hF eR hG aI zD WG) fun a' w' Vz=>?_;obtain⟨v,H',G',V,rfl,hK,hv,hr,hs⟩:=Vz;rw[←uK]at hK;exact ih al _ H' G' w' _ qZ hK (hG.step hs) hr ((zD.mono hs.toGLe).cY o.dst hv) (by rw[put_defers];exact hd) (aX.trans hs) (hk.trans ((iw.put a o.dst V).mono VC)) VB hQ
   cases pS:o.guard with
   | none=>
    rw[pS]at iT;have nZ:ao.guard=none:=by
     cases nZ:ao.guard with
     |none=>rfl
     |some _=>rw[nZ]at iT;simp[wW]at iT
    simp only[qb,nZ]at h;exact alp pS (step env a rfl he h)
   | some g=>
    obtain⟨j,want⟩:=g;rw[pS]at iT;cases nZ:ao.guard with
    |none=>rw[nZ]at iT;simp[wW]at iT
    | some g'=>
     obtain⟨s,VU⟩:=g';rw[nZ]at iT;simp only[wW,Bool.and_eq_true,beq_iff_eq]at iT;obtain⟨rfl,hs⟩:=iT;simp only[qb,nZ]at h;have get:∀c,env.getD s .bot=c→c ≠ .bot→env[s]?=some c:=by
      intro c iC hc;rw[List.getD_eq_getElem?_getD]at iC;cases pQ:env[s]? with
      |none=>rw[pQ]at iC;exact absurd iC.symm hc
      |some c=>rw[pQ]at iC;simp at iC;rw[iC]
     unfold aL at h;split at h
     · rename_i b iC;have hb:=get _ iC (by simp);obtain⟨V,hV,hr⟩:=he.get hb;obtain rfl:=hr.qN;have hy:yielded ops a.tmps j=some b:=by simp[yielded,hs,hV]
       by_cases lM:b=want
       · subst lM;rw[if_pos rfl]at h;rw[List.cons_append];unfold wpList;rw[if_pos (by simp[Region.wanted,pS,hy])];exact .inl (step _ a rfl (he.same hb) h)
       · rw[if_neg lM]at h;have hbn:b=!want:=by cases b<;>cases want<;>simp at lM ⊢
         subst hbn;rw[List.cons_append];unfold wpList;rw[if_neg (by simp[Region.wanted,pS,hy])];rw[←uK]at h;exact ih al _ H G w _ qZ h hG aI ((he.same hb).cY o.dst DZ) (by rw[put_defers];exact hd) aX (hk.trans ((iw.put a o.dst undef).mono VC)) VB hQ
     · rename_i iC;have hb:=get _ iC (by simp);obtain⟨V,hV,hr⟩:=he.get hb;obtain rfl:=hr.abz;have hy:yielded ops a.tmps j=none:=by simp[yielded,hs,hV]
       rw[List.cons_append];unfold wpList;rw[if_neg (by simp[Region.wanted,pS,hy])];rw[←uK]at h;exact ih al _ H G w _ qZ h hG aI ((he.same hb).cY o.dst DZ) (by rw[put_defers];exact hd) aX (hk.trans ((iw.put a o.dst undef).mono VC)) VB hQ
     ·exact h.elim
theorem aaR(hF:xN C){ops:Array Oper}{Q:Exit→Act→World→Prop}{K:Env→AH→Prop}{w0:World}{G0:cc}{H0:AH}{a0:Act}{az:List Nat}
  (l:List Oper) (al:List bT) (env:Env) (H:AH) (G:cc) (w:World) (a:Act) (ay:qQ C ops l al=true) (h:qb (au C) al env H K) (hG:jI C w G H) (aI:Rel C.F w G H) (he:bo C.F w G env a.tmps) (hd:a.defers=[])
   (aX:Step w0 G0 H0 w G H) (hk:iw az a0 a) (rf:∀t,t∈pf al→t∈az)
   (hQ:∀aU H' G' a' w',K aU H'→jI C w' G' H'→Rel C.F w' G' H'→bo C.F w' G' aU a'.tmps→a'.defers=[]→Step w0 G0 H0 w' G' H'→iw az a0 a'→Q .normal a' w') :
   wpList C.P ops Q l a w:=by
 have:=aah (rest:=[]) hF l al env H G w a ay h hG aI he hd aX hk rf hQ;rwa [List.append_nil]at this
theorem alJ{ops:Array Oper}:∀{l:List Oper}{al:List bT},qQ C ops l al=true→l.length=al.length∧∀(i:Nat)(o:Oper),l[i]?=some o→∃ao,al[i]?=some ao∧o.dst=ao.dst∧eM C o.op ao.op=true∧wW ops o.guard ao.guard=true:=by
 intro l;induction l with
 |nil=>intro al h;cases al<;>simp[qQ]at h ⊢
 | cons o l ih=>
  intro al h;cases al with
  |nil=>simp[qQ]at h
  | cons ao al=>
   simp only[qQ,Bool.and_eq_true,beq_iff_eq]at h;obtain⟨⟨⟨uK,eR⟩,iT⟩,qZ⟩:=h;obtain⟨h1,h2⟩:=ih qZ;refine⟨by simp[h1],fun i o' kC=>?_⟩;cases i with
   |zero=>simp at kC;subst kC;exact⟨ao,rfl,uK,eR,iT⟩
   |succ i=>exact h2 i o' (by simpa using kC)
theorem aag{ao:bT}:∀{al:List bT}{i:Nat},al[i]?=some ao→∀t,ao.dst=some t→t∈pf al:=by
 intro al;induction al with
 |nil=>intro i h;simp at h
 | cons x al ih=>
  intro i h t ht;cases i with
  |zero=>simp at h;subst h;simp[pf,ht]
  |succ i=>simp only[pf,List.mem_append];exact .inr (ih (by simpa using h) t ht)
theorem alq(hF:xN C){ops:Array Oper}{Q:Exit→Act→World→Prop}{N:Act→World→Prop}{Kv:ae}{i:Nat}{o:Oper}{ao:bT}(ho:ops[i]?=some o)(uK:o.dst=ao.dst)(eR:eM C o.op ao.op=true)
  (iT:wW ops o.guard ao.guard=true) (h:rp (au C) ao env H Kv) (hG:jI C w G H) (aI:Rel C.F w G H) (he:bo C.F w G env a.tmps)
  (hN:∀v V H' G' w',Kv v H'→jI C w' G' H'→VR C.F w' G' v V→Rel C.F w' G' H'→Step w G H w' G' H'→N (a.put ao.dst V) w'):wpOp C.P ops Q i N a w:=by
 unfold wpOp;rw[ho];dsimp only;have step:dk (au C) env H Kv ao.op→o.wp C.P a w N Q:=by intro WG;refine Oper.adk (abl hF eR hG aI he WG) fun a' w' Vz=>?_;obtain⟨v,H',G',V,rfl,hK,hv,hr,hs⟩:=Vz;rw[uK];exact hN v V H' G' w' hK (hG.step hs) hv hr hs
 unfold rp at h;cases pS:o.guard with
 | none=>
  rw[pS]at iT;have nZ:ao.guard=none:=by
   cases nZ:ao.guard with
   |none=>rfl
   |some _=>rw[nZ]at iT;simp[wW]at iT
  rw[nZ]at h;rw[if_pos (by simp[Region.wanted,pS])];exact .inl (step h)
 | some g=>
  obtain⟨j,want⟩:=g;rw[pS]at iT;cases nZ:ao.guard with
  |none=>rw[nZ]at iT;simp[wW]at iT
  | some g'=>
   obtain⟨s,VU⟩:=g';rw[nZ]at iT;simp only[wW,Bool.and_eq_true,beq_iff_eq]at iT;obtain⟨rfl,hs⟩:=iT;rw[nZ]at h;dsimp only at h;obtain⟨b,iC,h⟩:=h;have get:∀c,env.getD s .bot=c→c ≠ .bot→env[s]?=some c:=by
    intro c iC hc;rw[List.getD_eq_getElem?_getD]at iC;cases pQ:env[s]? with
    |none=>rw[pQ]at iC;exact absurd iC.symm hc
    |some c=>rw[pQ]at iC;simp at iC;rw[iC]
   cases b with
   | true=>
    have hb:=get _ (AV.Sp iC) (by simp);obtain⟨V,hV,hr⟩:=he.get hb;obtain rfl:=hr.qN;have hy:yielded ops a.tmps j=some want:=by simp[yielded,hs,hV]
    rw[if_pos rfl]at h;rw[if_pos (by simp[Region.wanted,pS,hy])];exact .inl (step h)
   | false=>
    rw[if_neg (by simp)]at h;have hw:Region.wanted o (yielded ops a.tmps)=false:=by
     rcases AV.ZI iC with jv|jv
     · have hb:=get _ jv (by simp);obtain⟨V,hV,hr⟩:=he.get hb;obtain rfl:=hr.qN;have hy:yielded ops a.tmps j=some (!want):=by simp[yielded,hs,hV]
       simp[Region.wanted,pS,hy]
     · have hb:=get _ jv (by simp);obtain⟨V,hV,hr⟩:=he.get hb;obtain rfl:=hr.abz;have hy:yielded ops a.tmps j=none:=by simp[yielded,hs,hV]
       simp[Region.wanted,pS,hy]
    rw[if_neg (by simp[hw])];rw[uK];exact hN _ _ H G w h hG DZ aI (Step.refl _ _ _)
theorem amq{p p':Nat→Bool}:∀{l:List Nat},(∀x,p' x=true→p x=true)→(∃x∈l,p x=true∧p' x=false)→l.countP p'<l.countP p:=by
 have le:∀{l:List Nat},(∀x,p' x=true→p x=true)→l.countP p'≤l.countP p:=fun {l} h=>List.countP_mono_left fun x _=>h x;intro l;induction l with
 |nil=>rintro _ ⟨x,hx,_⟩;cases hx
 | cons y l ih=>
  intro h ⟨x,hx,h1,h2⟩;rw[List.countP_cons,List.countP_cons];rcases List.mem_cons.1 hx with rfl|hx
  · rw[h1,h2];have:=le (l:=l) h;simp;omega
  · have:=ih h ⟨x,hx,h1,h2⟩;by_cases hy:p' y=true
    ·rw[hy,h y hy];omega
    · simp at hy;rw[hy];simp;omega
theorem Step.drawn{F:eG}{w:World}{G:cc}{H:AH}(n:Nat)(h:Rel F w G H):Rel F {w with drawn:=n} G H∧Step w G H {w with drawn:=n} G H:=by
 have hg:GLe w G {w with drawn:=n} G:=⟨Nat.le_refl _,fun _ _=>rfl,fun _ _=>rfl,fun _ _ h=>h,fun _ _ _ _ h=>h⟩
 exact ⟨⟨h.n,h.over,fun j=>(h.obj j).aY hg (fun hl=>h.qv hl) (fun _=>rfl) fun hl k hf=>hf,h.mQ,h.nV⟩,
   {hg with size:=Nat.le_refl _,os:=rfl,tape:=rfl,output:=rfl,iU:=fun _ _ _=>rfl,owned:=fun i hi _=>⟨i,hi,rfl⟩,ng:=fun _ _ h=> .inl h}⟩
def jz(al:List bT)(Pd:List Nat)(env:Env):Env:=(List.range env.length).map fun j=>if Pd.any (fun p=>fJ al p==some j)then .bot else env.getD j .bot
theorem uq(al:List bT)(Pd:List Nat)(env:Env)(t:Nat):(jz al Pd env).getD t .bot=if Pd.any (fun p=>fJ al p==some t)then .bot else env.getD t .bot:=by
 unfold jz;by_cases ht:t<env.length
 ·simp[List.getD_eq_getElem?_getD,ht]
 · have h1:env.getD t .bot = .bot:=by simp[List.getD_eq_getElem?_getD,List.getElem?_eq_none (Nat.le_of_not_lt ht)]
   rw[h1];simp[List.getD_eq_getElem?_getD,ht]
def IW:fw→Nat×Nat→dc
 | .alloc _ zero,_=> .row zero
 | .make _ _ _ zero _ _,x=> .row (List.replicate x.2 zero).flatten
 |_,_=> .map []
def IX:fw→Nat×Nat→Nat→AV
 | .alloc _ _,_,i=> .ptr i 0
 | .make _ sz _ _ _ _,x,i=> .row i 0 x.1 sz
 |_,_,i=> .map i
def B_:fw→Nat×Nat→Nat→Value
 | .alloc _ _,_,b=> .pointer (some ⟨b,0,none⟩)
 | .make _ _ _ _ _ _,x,b=> .slice (some ⟨b,0,none⟩) x.1 x.2
 |_,_,b=> .map (some b)
def Ap(F:eG)(w:World)(G:cc):fw→Nat×Nat→Nat→Nat→Prop
 | .alloc _ zero,_,b,cap=>∃(Cs:Array Value) (e:TypeId),w.heap[b]?=some (.cells Cs e (0,0))∧Cs.size=cap∧bo F w G zero Cs
 | .make _ sz _ zero _ _,x,b,cap=>(∃(Cs:Array Value) (e:TypeId),w.heap[b]?=some (.cells Cs e (0,0))∧Cs.size=cap∧bo F w G (List.replicate x.2 zero).flatten Cs)∧x.1≤x.2∧x.2*sz=cap
 |_,_,b,_=>∃clock:Nat,w.heap[b]?=some (.map #[] clock)
theorem aaX{F:eG}{op:fw}{x:Nat×Nat}(ho:xd op){b cap:Nat}(h:Ap F w G op x b cap):b<w.heap.size:=by
 rcases ho with⟨zero,rfl⟩|rfl|⟨_,_,_,_,_,rfl⟩
 ·obtain⟨_,_,h,_⟩:=h;exact(Array.getElem?_eq_some_iff.1 h).1
 ·obtain⟨_,h⟩:=h;exact(Array.getElem?_eq_some_iff.1 h).1
 ·obtain⟨⟨_,_,h,_⟩,_⟩:=h;exact(Array.getElem?_eq_some_iff.1 h).1
theorem ZX{F:eG}{w':World}{G':cc}{op:fw}{x:Nat×Nat}(ho:xd op){b cap:Nat}(h:Ap F w G op x b cap)(hg:GLe w G w' G')(hb:w'.heap[b]?=w.heap[b]?):Ap F w' G' op x b cap:=by
 rcases ho with⟨zero,rfl⟩|rfl|⟨_,_,_,_,_,rfl⟩
 ·obtain⟨Cs,e,h1,h2,h3⟩:=h;exact⟨Cs,e,hb.trans h1,h2,h3.mono hg⟩
 ·obtain⟨c,h⟩:=h;exact⟨c,hb.trans h⟩
 ·obtain⟨⟨Cs,e,h1,h2,h3⟩,h4⟩:=h;exact⟨⟨Cs,e,hb.trans h1,h2,h3.mono hg⟩,h4⟩
theorem aqv{F:eG}{op:fw}{x:Nat×Nat}(ho:xd op){b cap i:Nat}(h:Ap F w G op x b cap){G':cc}(hg:GLe w G w G')(hl:G'.loc i=b)(hc:G'.cap i=cap)(hf:∀j,¬G'.fz b j):nu F w G' i (IW op x):=by
 rcases ho with⟨zero,rfl⟩|rfl|⟨_,_,_,_,_,rfl⟩
 · obtain ⟨Cs,e,h1,h2,h3⟩:=h;exact ⟨Cs,e,by rw[hl];exact h1,by rw[hc];exact h2,fun j=>by rw[hl];exact hf j,fun j c hj=>by obtain⟨V,hV,hr⟩:=h3.get hj;exact⟨V,hV,hr.mono hg⟩⟩
 · obtain⟨c,h⟩:=h;exact⟨#[],c,by rw[hl];exact h,rfl,fun j=>by rw[hl];exact hf j,fun j k v hj=>by simp at hj⟩
 · obtain ⟨⟨Cs,e,h1,h2,h3⟩,_⟩:=h;exact ⟨Cs,e,by rw[hl];exact h1,by rw[hc];exact h2,fun j=>by rw[hl];exact hf j,fun j c hj=>by obtain⟨V,hV,hr⟩:=h3.get hj;exact⟨V,hV,hr.mono hg⟩⟩
theorem auw{F:eG}{op:fw}{x:Nat×Nat}(ho:xd op){w0:World}{G0:cc}{b cap i:Nat}(h:Ap F w0 G0 op x b cap)(hi:i<G.n)(hl:G.loc i=b)(hc:G.cap i=cap):VR F w G (IX op x i) (B_ op x b):=by
 subst hl hc;rcases ho with⟨zero,rfl⟩|rfl|⟨_,_,_,_,_,rfl⟩
 ·exact .ptr i 0 hi
 ·exact .map i hi
 · obtain⟨_,h1,h2⟩:=h;exact .row _ _ _ _ _ hi h1 (by rw[Nat.zero_add];exact h2)
theorem an1{Φ:aj}{env:Env}{K:ae}{op:fw}{x:Nat×Nat}(ho:xd op)(ha:rR env op=some x)(h:dk Φ env H K op):K (IX op x H.n) (H.push (IW op x)):=by
 rcases ho with⟨zero,rfl⟩|rfl|⟨_,_,_,_,_,rfl⟩
 · simp only[dk,aJ,be,if_true,Option.some.injEq,Prod.mk.injEq]at h;obtain⟨v,H',⟨rfl,rfl⟩,h⟩:=h;exact h
 ·exact h
 · obtain⟨y,hy,h⟩:=acZ h;rw[ha]at hy;cases hy;exact h
theorem amV{P:Program}{F:eG}{t e:TypeId}{inf:TypeInfo}{sz bytes:Nat}{zero:List AV}{z:Value}(ht:P.underlying t=some (.slice e))(hi:P.info? e=some inf)(hs:inf.size=sz)(hb:inf.bytes=bytes)(hz:inf.zero=some z)
  {n' c':Nat} (ahe:n'≤c') (KE:(bytes:Int)*(c':Int)≤281474976710656) (Ge:(c':Int)≤9223372036854775807) (wF:zero.length=sz) :
  (Instr.makeSlice t (.int .i64 n') (.int .i64 c')).run P w = .ok (.slice (some ⟨w.heap.size,0,none⟩) n' c') (w.alloc (.cells ((Array.range (c'*zero.length)).map fun i=>z.cells[i%z.cells.size]!) e)):=by
 have w1:IntKind.i64.wrap (n':Int)=n':=by simp[IntKind.wrap,IntKind.bits,IntKind.signed];omega
 have w2:IntKind.i64.wrap (c':Int)=c':=by simp[IntKind.wrap,IntKind.bits,IntKind.signed];omega
 have IE:¬(281474976710656<(inf.bytes:Int)*(c':Int)):=by rw[hb];omega
 have wA:¬((n':Int)<0):=by omega
 have Gl:¬((c':Int)<0):=by omega
 have A4:¬(c'<n'):=by omega
 rw[wF];subst hs;by_cases nH:c'*inf.size=0
 ·simp[Instr.makeSlice,run_underlying ht,asInt,asIntOf,typeInfo,Go.sizeOf,hi,w1,w2,IE,wA,Gl,A4,nH,range_zero,newRow]
 ·simp[Instr.makeSlice,run_underlying ht,asInt,asIntOf,typeInfo,Go.sizeOf,zeroValue,hi,hz,w1,w2,IE,wA,Gl,A4,nH,newRow]
theorem anW{o:Oper}{sz bytes:Nat}{zero:List AV}{l c:bn}{x:Nat×Nat}(hG:tB C w G)(he:bo C.F w G env a.tmps)(eR:eM C o.op (.make true sz bytes zero l c)=true)(hx:rR env (.make true sz bytes zero l c)=some x) :
  ∃(ob:Obj) (cap:Nat),(execOp a.eval o).run C.P w = .ok (.value (B_ (.make true sz bytes zero l c) x w.heap.size)) (w.alloc ob)∧∀(w2:World)(G2:cc),GLe w G w2 G2→w2.heap[w.heap.size]?=some ob→Ap C.F w2 G2 (.make true sz bytes zero l c) x w.heap.size cap:=by
 simp only[eM]at eR;split at eR
 · rename_i t ol oc ho;simp only[Bool.and_eq_true]at eR;obtain⟨⟨h1,h2⟩,h3⟩:=eR;split at h3
   · rename_i e fA;obtain⟨inf,z,jm,hs,hb,hz,sH,Dz⟩:=SE (F:=C.F) h3;have nH:=wO (C:=C) (w:=w) (G:=G) Dz;have tZ:bo C.F w G zero z.cells:=by simpa using nH
     have Bd:=dI hG he h1;have u9:=dI hG he h2;simp only[rR]at hx;split at hx
     · rename_i n m e1 e2;split at hx
       · rename_i hc;obtain⟨k0,k1,k2,k3,k4⟩:=hc;cases hx;rw[e1]at Bd;rw[e2]at u9;have kD:=Bd.lW;have oP:=u9.lW;obtain⟨n',rfl⟩:=Int.eq_ofNat_of_zero_le k0;obtain⟨c',rfl⟩:=Int.eq_ofNat_of_zero_le (Int.le_trans k0 k1);have cr:=amV (P:=C.P) (w:=w) (F:=C.F) (yv fA) jm hs hb hz (n':=n') (c':=c') (by omega) k2 k3 k4;refine⟨.cells ((Array.range (c'*zero.length)).map fun i=>z.cells[i%z.cells.size]!) e,c'*sz,?_,fun w2 G2 hg hb=>⟨⟨_,_,hb,?_,?_⟩,by simp;omega,by simp⟩⟩
         · simp only[execOp,ho,kD,oP];simp[cr,B_]
         ·simp[k4]
         · simp only[Int.toNat_natCast];exact(DL tZ c').mono hg
       ·cases hx
     ·cases hx
   ·cases h3
 ·cases eR
def QI(C:Ctx)(al:List bT)(w0 w:World)(G:cc)(H:AH)(a:Act)(i b:Nat)(x:Nat×Nat):Prop:=
 ∃ (t:Nat) (op:fw) (cap:Nat),al[i]?=some ⟨some t,op,none⟩∧xd op∧(t<a.tmps.size→a.tmps[t]?=some (B_ op x b))∧Ap C.F w G op x b cap ∧
  w0.heap.size≤b∧(∀k,(H.o k).live=true→G.loc k≠b)∧∀j,¬G.fz b j
theorem QI.step{al:List bT}{w0 w':World}{G':cc}{H':AH}{i b:Nat}{x:Nat×Nat}(h:QI C al w0 w G H a i b x)(hs:Step w G H w' G' H')(d:Option Tmp)(V:Value)(hd:∀t,fJ al i=some t→d≠some t):QI C al w0 w' G' H' (a.put d V) i b x:=by
 obtain⟨t,op,cap,h1,h0,h2,h3,h5,h6,h7⟩:=h;have hb:b<w.heap.size:=aaX h0 h3;refine⟨t,op,cap,h1,h0,fun ht=>?_,ZX h0 h3 hs.toGLe (hs.iU b hb h6),h5,fun k hk e=>?_,fun j hf=>?_⟩
 · cases yd:d with
   |none=>rw[yd]at ht;exact h2 ht
   | some d'=>rw[yd]at ht;have bU:d'≠t:=fun e=>hd t (by simp[fJ,h1]) (by rw[yd,e]);simp only[Act.put]at ht ⊢;rw[Array.size_setIfInBounds]at ht;rw[Array.getElem?_setIfInBounds_ne bU];exact h2 ht
 · obtain⟨j,hj,e'⟩:=hs.owned k hk (by rw[e];exact hb);exact h6 j hj (e'.trans e)
 · rcases hs.ng b j hf with hf|aO|⟨k,hk,e⟩
   ·exact h7 j hf
   ·omega
   ·exact h6 k hk e
structure Way(C:Ctx)(al:List bT)(pr:List (List Nat))(last:List Nat)(K:Env→AH→Prop)(w0:World)(G0:cc)(H0:AH)(a0:Act)
  (bX:List (List Nat×Nat×List Nat)) (S:Nat→Bool) (Pd:List Nat) (bl:Nat→Nat) (ag:Nat→Nat×Nat) (env:Env) (H:AH) (G:cc) (a:Act) (w:World):Prop where
 inv:Inv (au C) al pr last K bX S env H
 sep:∀p∈Pd,S p=false∧mA al pr p=true∧∀k∈dj pr p,S k=true∨k∈Pd
 JW:∀p∈Pd,QI C al w0 w G H a p (bl p) (ag p)
 args:∀p∈Pd,∀t op,al[p]?=some ⟨some t,op,none⟩→rR env op=some (ag p)
 inj:∀p∈Pd,∀q∈Pd,bl p=bl q→p=q
 Dc:jI C w G H
 rel:Rel C.F w G H
 G8:bo C.F w G (jz al Pd env) a.tmps
 defers:a.defers=[]
 step:Step w0 G0 H0 w G H
 aY:iw (pf al) a0 a
theorem aay{al:List bT}{pr:List (List Nat)}(hg:Good al pr){q i t':Nat}{mn:fw}{o:bT}{v:AV}(hq:al[q]?=some ⟨some t',mn,none⟩)(ag7:mA al pr q=true)(ho:al[i]?=some o)
  (hi:i∉dj pr q∨mA al pr i=true) (bU:i≠q) (hqi:q∉dj pr i):rR (cY env o.dst v) mn=rR env mn:=by
 apply Md;intro s hs;cases hd:o.dst with
 |none=>rfl
 | some d =>
  simp only[cY];by_cases hds:d=s
  · subst hds;exfalso;have pO:fJ al i=some d:=by simp[fJ,ho,hd]
    rcases hg.reads q _ d i hq (by simp[ow,hs]) pO with h|⟨_,h⟩
    · rcases hi with hi|hi
      ·exact hi h
      · obtain ⟨t2,op2,KW,Ws⟩:=zY hi;obtain⟨t3,op3,RA,awJ⟩:=zY ag7;rw[hq]at RA;cases RA;rcases awJ with⟨zero,rfl⟩|rfl|⟨_,_,_,_,_,rfl⟩
        ·simp[dh]at hs
        ·simp[dh]at hs
        · obtain⟨o4,KX,WH⟩:=abc ag7 hq i h;rw[KW]at KX;cases KX;exact DP Ws WH
    · rcases h with h|h
      ·exact bU h
      ·exact hqi h
  ·rw[List.getD_eq_getElem?_getD,List.getElem?_set_ne hds,List.getD_eq_getElem?_getD]
theorem Way.settle{al:List bT}{pr:List (List Nat)}{last:List Nat}{K:Env→AH→Prop}{w0:World}{G0:cc}{H0:AH}{a0:Act}(hg:Good al pr){bl:Nat→Nat}{ag:Nat→Nat×Nat} :
  ∀ (n:Nat) (bX:List (List Nat×Nat×List Nat)) (S:Nat→Bool) (Pd:List Nat) (env:Env) (H:AH) (G:cc),bX.length=n→Way C al pr last K w0 G0 H0 a0 bX S Pd bl ag env H G a w →
   ∃Ci S' zp aU H' G',Way C al pr last K w0 G0 H0 a0 Ci S' zp bl ag aU H' G' a w∧(∀k,(S' k=true∨k∈zp)↔(S k=true∨k∈Pd))∧∀p∈zp,nj Ci≠some p:=by
 intro n;induction n with
 | zero=>intro bX S Pd env H G hn hw;have:bX=[]:=List.length_eq_zero_iff.1 hn;subst this;exact⟨[],S,Pd,env,H,G,hw,fun k=>Iff.rfl,fun p hp h=>by cases h⟩
 | succ n ih =>
  intro bX S Pd env H G hn hw;by_cases bU:∃p∈Pd,nj bX=some p
  · obtain ⟨p, hp,Ry⟩:=bU;obtain⟨X6,eQ,axf⟩:=hw.sep p hp;obtain⟨_,gL,Rz⟩:=S9 hw.inv Ry;have oO:∀k∈dj pr p,S k=true:=by
     intro k hk;rcases axf k hk with h|h
     ·exact h
     ·exact Rz k hk (hw.sep k h).2.1
    obtain⟨t,op,cap,h1,h0,h2,h3,h5,h6,h7⟩:=hw.JW p hp;have ma:=abb (LX C) hg hw.inv h1 X6 oO (.inr Ry);rw[if_pos Ry]at ma;simp only[ta]at ma;have hinv:=an1 h0 (hw.args p hp t op h1) ma;have sD:=hw.rel.n;obtain⟨jW,aI⟩:=hw.rel.Vj (b:=bl p) (c:=cap) h6 (IW op (ag p)) (fun jW=>aqv h0 h3 jW (if_pos sD.symm) (if_pos sD.symm) h7);have cx:∀i,i≠H.n→(G.more (bl p) cap).loc i=G.loc i:=fun i hi=>if_neg (show ¬i=G.n by omega);have oB:(G.more (bl p) cap).loc H.n=bl p:=if_pos sD.symm;have ho:∀i,i≠H.n→(H.push (IW op (ag p))).o i=H.o i:=fun i hi=>if_neg hi;have hdp:fJ al p=some t:=by simp[fJ,h1]
    have hlen:(jz al Pd env).length=env.length:=by simp[jz]
    have axp : Way C al pr last K w0 G0 H0 a0 bX.tail (fun k=>k==p||S k) (Pd.filter (fun q=>!(q==p))) bl ag (cY env (some t) (IX op (ag p) H.n)) (H.push (IW op (ag p))) (G.more (bl p) cap) a w:=by
     refine⟨hinv,fun q hq=>?_,fun q hq=>?_,fun q hq t' mn hoq=>?_,fun q hq q' Yq h=>?_,hw.Dc.Vj jW hw.rel.n h7,aI,?_,hw.defers,?_,hw.aY⟩
     · obtain ⟨hq,KZ⟩:=List.mem_filter.1 hq;have JK:q≠p:=by simpa using KZ
       obtain⟨g1,g2,g3⟩:=hw.sep q hq;refine⟨by simp[JK,g1],g2,fun k hk=>?_⟩;rcases g3 k hk with h|h
       ·left;simp[h]
       · by_cases KT:k=p
         ·left;simp[KT]
         ·right;exact List.mem_filter.2 ⟨h,by simp[KT]⟩
     · obtain ⟨hq,KZ⟩:=List.mem_filter.1 hq;have JK:q≠p:=by simpa using KZ
       obtain⟨t',mn,awv,k1,k0,k2,k3,k5,k6,k7⟩:=hw.JW q hq;refine⟨t',mn,awv,k1,k0,k2,ZX k0 k3 jW rfl,k5,fun k hk e=>?_,fun j hf=>k7 j hf⟩;by_cases Dn:k=H.n
       · subst Dn;rw[oB]at e;exact JK (hw.inj q hq p hp e.symm)
       · rw[cx k Dn]at e;rw[ho k Dn]at hk;exact k6 k hk e
     · obtain ⟨hq,KZ⟩:=List.mem_filter.1 hq;have JK:q≠p:=by simpa using KZ
       rw[←hw.args q hq t' mn hoq];exact aay hg hoq (hw.sep q hq).2.1 h1 (.inr eQ) (fun e=>JK e.symm) fun h=>by have:=oO q h;rw[(hw.sep q hq).1]at this;cases this
     ·exact hw.inj q (List.mem_filter.1 hq).1 q' (List.mem_filter.1 Yq).1 h
     · have hv :=hw.G8.mono jW;refine⟨by simp only[jz,cY,List.length_map,List.length_range,List.length_set];rw[←hv.1,hlen],fun j c V hc hV=>?_⟩;have KS:j<env.length:=by
        have:=(List.getElem?_eq_some_iff.1 hc).1;simpa[jz,cY]using this
       have tN:c=(jz al (Pd.filter (fun q=>!(q==p))) (cY env (some t) (IX op (ag p) H.n))).getD j .bot:=by rw[List.getD_eq_getElem?_getD,hc];rfl
       rw[uq]at tN;by_cases Dm:j=t
       · subst Dm;have FF:(Pd.filter (fun q=>!(q==p))).any (fun q=>fJ al q==some j)=false:=by
          rw[Bool.eq_false_iff];intro hx;rw[List.any_eq_true]at hx;obtain⟨q,hq,Du⟩:=hx;have axg:fJ al q=some j:=by simpa using Du
          have:=hg.uniq q p j axg hdp;subst this;simp at hq
         rw[FF]at tN;simp only[Bool.false_eq_true,if_false,cY,List.getD_eq_getElem?_getD,List.getElem?_set_self KS,Option.getD_some]at tN;subst tN;have hjs:j<a.tmps.size:=(Array.getElem?_eq_some_iff.1 hV).1;rw[h2 hjs]at hV;cases hV;exact auw h0 h3 (show H.n<G.n+1 by omega) oB (if_pos sD.symm)
       · have hold:(jz al Pd env).getD j .bot=if(Pd.filter (fun q=>!(q==p))).any (fun q=>fJ al q==some j)then .bot else env.getD j .bot:=by
           rw[uq];have : Pd.any (fun q=>fJ al q==some j)=(Pd.filter (fun q=>!(q==p))).any (fun q=>fJ al q==some j):=by
            rw[Bool.eq_iff_iff,List.any_eq_true,List.any_eq_true];constructor
            · rintro⟨q,hq,Du⟩;refine⟨q,List.mem_filter.2 ⟨hq,?_⟩,Du⟩;have:q≠p:=by
               rintro rfl;rw[hdp]at Du;exact Dm (by simpa using Du:t=j).symm
              simp[this]
            · rintro⟨q,hq,Du⟩;exact⟨q,(List.mem_filter.1 hq).1,Du⟩
           rw[this]
         have uM:(cY env (some t) (IX op (ag p) H.n)).getD j .bot=env.getD j .bot:=by simp only[cY];rw[List.getD_eq_getElem?_getD,List.getElem?_set_ne (fun e=>Dm e.symm),List.getD_eq_getElem?_getD]
         rw[uM,←hold]at tN;have Wy:j<(jz al Pd env).length:=by rw[hlen];exact KS
         refine hv.2 j c V ?_ hV;rw[tN,List.getD_eq_getElem?_getD,List.getElem?_eq_getElem Wy];rfl
     · have hs:=hw.step;refine {hs.toGLe.trans jW with size:=hs.size,os:=hs.os,tape:=hs.tape,output:=hs.output,iU:=hs.iU,owned:=fun k hk aO=>?_,ng:=fun b o hf=>hs.ng b o hf};by_cases Dn:k=H.n
       · subst Dn;rw[oB]at aO;omega
       · rw[cx k Dn]at aO ⊢;rw[ho k Dn]at hk;exact hs.owned k hk aO
    obtain⟨Ci,S',zp,aU,H',G',r1,r2,r3⟩:=ih bX.tail _ _ _ _ _ (by simp[hn]) axp;refine⟨Ci,S',zp,aU,H',G',r1,fun k=>(r2 k).trans ?_,r3⟩;simp only[Bool.or_eq_true,beq_iff_eq,List.mem_filter,Bool.not_eq_true',beq_eq_false_iff_ne];constructor
    · rintro((rfl|h)|⟨h,_⟩)
      ·exact .inr hp
      ·exact .inl h
      ·exact .inr h
    · rintro (h|h)
      ·exact .inl (.inr h)
      · by_cases KT:k=p
        ·exact .inl (.inl KT)
        ·exact .inr ⟨h,KT⟩
  ·exact⟨bX,S,Pd,env,H,G,hw,fun k=>Iff.rfl,fun p hp h=>bU ⟨p,hp,h⟩⟩
theorem alR(hF : xN C){ops:Array Oper}{Q:Exit→Act→World→Prop}{K:Env→AH→Prop}{al:List bT}{pr:List (List Nat)}{bX:List (List Nat×Nat×List Nat)}{last:List Nat}{eC:Nat}
  (Gm:qQ C ops ops.toList al=true) (qF:S4 ops pr=true) (Gn:To al pr bX last=true) (hm:C.P.follows .mixedOrders=true)
  (h:sY (au C) al last bX env H K) (hG:jI C w G H) (aI:Rel C.F w G H) (he:bo C.F w G env a.tmps) (hd:a.defers=[])
  (hQ:∀aU H' G' a' w',K aU H'→jI C w' G' H'→Rel C.F w' G' H'→bo C.F w' G' aU a'.tmps→a'.defers=[]→Step w G H w' G' H'→iw (pf al) a a'→Q .normal a' w') :
  (Code.region eC ops true).wp C.P Q a w:=by
 obtain⟨hlen,Cx⟩:=alJ Gm;have gN:ops.size=al.length:=by simpa using hlen
 simp only[To,Bool.and_eq_true]at Gn;obtain⟨⟨ha,hb⟩,hc⟩:=Gn;have hg:=akX ha;have agm:∀(i:Nat)(o:Oper),ops[i]?=some o→(∀e∈o.after,Region.binds .any e=true→e.on<i)∧∀j∈dj pr i,∃e∈o.after,Region.binds .any e=true∧(e.on=j∨j∈dj pr e.on):=by
  intro i o ho;have hi:i<ops.size:=(Array.getElem?_eq_some_iff.1 ho).1;unfold S4 at qF;rw[List.all_eq_true]at qF;have:=qF i (List.mem_range.2 hi);rw[ho]at this;simp only[Bool.and_eq_true]at this;obtain⟨h1,h2⟩:=this;rw[List.all_eq_true]at h1 h2;refine⟨fun e pP hb=>?_,fun j hj=>?_⟩
  · have:=h1 e.on (List.mem_map.2 ⟨e,List.mem_filter.2 ⟨by simpa using pP,hb⟩,rfl⟩);simpa using this
  · have:=h2 j hj;rw[Bool.or_eq_true,List.any_eq_true]at this;rcases this with h|⟨k,hk,h⟩
    · have gI:j∈(o.after.toList.filter (Region.binds .any)).map Edge.on:=by simpa[List.contains_iff_mem]using h
      obtain⟨e,pP,rfl⟩:=List.mem_map.1 gI;obtain⟨pP,nE⟩:=List.mem_filter.1 pP;exact⟨e,by simpa using pP,nE,.inl rfl⟩
    · obtain⟨e,pP,rfl⟩:=List.mem_map.1 hk;obtain⟨pP,nE⟩:=List.mem_filter.1 pP;exact⟨e,by simpa using pP,nE,.inr (by simpa using h)⟩
 refine wp_region_any hm ?_;have main : ∀ (fuel:Nat) (listed:Array Bool) (bX:List (List Nat×Nat×List Nat)) (S:Nat→Bool) (Pd:List Nat) (bl:Nat→Nat) (ag:Nat→Nat×Nat) (aU:Env) (H':AH) (G':cc) (a':Act) (w':World),
   Way C al pr last K w G H a bX S Pd bl ag aU H' G' a' w'→(∀k,listed.getD k false=true↔S k=true∨k∈Pd)→listed.size=ops.size →
   (List.range ops.size).countP (fun k=>!listed.getD k false)≤fuel→wpAny C.P .any ops Q fuel listed a' w':=by
  have done:∀(listed:Array Bool),listed.size=ops.size→Region.ready .any ops listed=[]→∀i,i<ops.size→listed.getD i false=true:=by
   intro listed KV hr i;induction i using Nat.strongRecOn with
   | _ i ih=>
    intro hi;cases hx:listed.getD i false with
    |true=>rfl
    | false=>
     exfalso;have gI:i∈Region.ready .any ops listed:=by
      rw[mem_ready];have rE:i<listed.size:=by omega
      refine⟨?_,ops[i],by simp[hi],fun e pP nE=>?_⟩
      ·simpa[rE]using hx
      · have:=(agm i ops[i] (by simp[hi])).1 e pP nE;exact ih e.on this (by omega)
     rw[hr]at gI;cases gI
  have fin:∀(listed:Array Bool)(bX:List (List Nat×Nat×List Nat)) (S:Nat→Bool) (Pd:List Nat) (bl:Nat→Nat) (ag:Nat→Nat×Nat) (aU:Env) (H':AH) (G':cc) (a':Act) (w':World),
    Way C al pr last K w G H a bX S Pd bl ag aU H' G' a' w'→(∀k,listed.getD k false=true↔S k=true∨k∈Pd)→(∀i,i<ops.size→listed.getD i false=true)→Q .normal a' w':=by
   intro listed bX S Pd bl ag aU H' G' a' w' hw hL py;obtain⟨Ci,S',zp,qs,H2,G2,r1,r2,r3⟩:=hw.settle hg _ _ _ _ _ _ _ rfl;have X5:zp=[]:=by
    cases X5:zp with
    |nil=>rfl
    | cons p r=>
     exfalso;have hp:p∈zp:=by rw[X5];exact List.mem_cons_self
     cases hx:nj Ci with
     | none=>
      obtain⟨e0,e1,D,es,hl,hm,wy,hS,hf,uV,rD,ay,nP⟩:=r1.inv;cases Ci with
      |cons q r=>cases hx
      | nil=>
       simp only[mN]at ay;rw[List.all_eq_true]at ay;obtain⟨g1,g2,_⟩:=r1.sep p hp;obtain⟨t,op,hz,xw⟩:=zY g2;have gL:p<al.length:=(List.getElem?_eq_some_iff.1 hz).1;have Gv:p∈D:=by simpa using ay p (List.mem_range.2 gL)
       obtain⟨o,v,ho,eR,_⟩:=hf p Gv g1;rw[hz]at ho;cases ho;exact DP xw eR
     | some e=>
      obtain⟨g1,g2,_⟩:=S9 r1.inv hx;have:=py e (by omega);rcases(r2 e).2 ((hL e).1 this)with h|h
      ·rw[g1]at h;cases h
      ·exact r3 e h hx
   subst X5;have ave:∀i,i<al.length→S' i=true:=by
    intro i hi;rcases(r2 i).2 ((hL i).1 (py i (by omega)))with h|h
    ·exact h
    ·cases h
   have WE:jz al [] qs=qs:=by apply z_ (by simp[jz]);intro t _;rw[uq];rfl
   have hv:=r1.G8;rw[WE]at hv;exact hQ qs H2 G2 a' w' (anL r1.inv ave) r1.Dc r1.rel hv r1.defers r1.step r1.aY
  intro fuel;induction fuel with
  | zero=>
   intro listed bX S Pd bl ag aU H' G' a' w' hw hL KV U6;have py:∀i,i<ops.size→listed.getD i false=true:=by intro i hi;have h0:=Nat.le_zero.1 U6;rw[List.countP_eq_zero]at h0;simpa using h0 i (List.mem_range.2 hi)
   have Yt:Region.ready .any ops listed=[]:=by
    apply List.eq_nil_iff_forall_not_mem.2;intro i hi;obtain⟨h0,o,ho,_⟩:=mem_ready.1 hi;have rE:i<ops.size:=(Array.getElem?_eq_some_iff.1 ho).1;have:=py i rE;have FE:i<listed.size:=by omega
    simp[FE]at h0 this;rw[h0]at this;cases this
   exact⟨Yt,fin listed bX S Pd bl ag aU H' G' a' w' hw hL py⟩
  | succ fuel ih=>
   intro listed avH S0 Pd0 bl ag auM H0' G0' a' w' hw0 hL0 KV U6;refine⟨fun Yt=>fin listed avH S0 Pd0 bl ag auM H0' G0' a' w' hw0 hL0 fun i hi=>done listed KV Yt i hi,fun i hi=>?_⟩;obtain⟨bX,S,Pd,aU,H',G',hw,r2,I_⟩:=hw0.settle hg _ _ _ _ _ _ _ rfl;have hL:∀k,listed.getD k false=true↔S k=true∨k∈Pd:=fun k=>(hL0 k).trans (r2 k).symm;obtain⟨h0,o,ho,py⟩:=mem_ready.1 hi;have rE:i<ops.size:=(Array.getElem?_eq_some_iff.1 ho).1;have FE:i<listed.size:=by omega
   have X3:listed.getD i false=false:=by simpa[FE]using h0
   have oL:S i=false:=by
    cases hx:S i with
    |false=>rfl
    |true=>have:=(hL i).2 (.inl hx);rw[X3]at this;cases this
   have vH:i∉Pd:=fun hx=>by have:=(hL i).2 (.inr hx);rw[X3]at this;cases this
   obtain⟨ao,uU,uK,eR,iT⟩:=Cx i o (by simpa using ho);have pO:fJ al i=ao.dst:=by simp[fJ,uU]
   obtain⟨uV,avz⟩:=anN hg hw.inv;have apX:∀k,listed.getD k false=true→∀j∈dj pr k,listed.getD j false=true:=by
    intro k hk j hj;rw[hL]at hk ⊢;rcases hk with hk|hk
    ·exact .inl (uV k hk j hj)
    ·exact(hw.sep k hk).2.2 j hj
   have QQ:∀k∈dj pr i,listed.getD k false=true:=by
    intro k hk;obtain⟨e,pP,nE,RC⟩:=(agm i o ho).2 k hk;have:=py e pP nE;rcases RC with rfl|RC
    ·exact this
    ·exact apX e.on this k RC
   have uM:∀k,(listed.setIfInBounds i true).getD k false=true↔k=i∨listed.getD k false=true:=by
    intro k;by_cases A_:k=i
    ·subst A_;simp[FE]
    ·rw[getD_set_ne false (fun e=>A_ e.symm)];simp[A_]
   have QO:(List.range ops.size).countP (fun k=>!(listed.setIfInBounds i true).getD k false)≤fuel:=by
    refine Nat.lt_succ_iff.1 (Nat.lt_of_lt_of_le (amq (fun x hx=>?_) ⟨i,List.mem_range.2 rE,by rw[X3];rfl,by simp[FE]⟩) U6);by_cases RM:x=i
    ·subst RM;simp[FE]at hx
    ·rw[getD_set_ne false (fun e=>RM e.symm)]at hx;exact hx
   by_cases Gz:mA al pr i=true∧nj bX≠some i
   ·
     obtain⟨eQ,Rz⟩:=Gz;obtain⟨t,op,hz,xw⟩:=zY eQ;rw[uU]at hz;cases hz;unfold wpOp;rw[ho];dsimp only;have pS:o.guard=none:=by
      cases pS:o.guard with
      |none=>rfl
      |some _=>rw[pS]at iT;simp[wW]at iT
     rw[if_pos (by simp[Region.wanted,pS])];refine .inl ?_;have FG:(∃sz bytes zero l c,op = .make true sz bytes zero l c)→∀k∈dj pr i,S k=true:=by
      rintro⟨sz,bytes,zero,l,c,rfl⟩ k hk;rcases(hL k).1 (QQ k hk)with h|h
      ·exact h
      · obtain⟨o4,KX,WH⟩:=abc eQ uU k hk;obtain⟨t2,op2,KW,Ws⟩:=zY (hw.sep k h).2.1;rw[KW]at KX;cases KX;exact(DP Ws WH).elim
     obtain⟨x,Be⟩:=anM (S3 C) hg hw.inv uU xw oL FG;have hx:rR (jz al Pd aU) op=some x:=by
      rw[←Be];apply Md;intro s hs;rw[uq];have : Pd.any (fun p=>fJ al p==some s)=false:=by
       rw[Bool.eq_false_iff];intro Dx;rw[List.any_eq_true]at Dx;obtain⟨p,hp,u5⟩:=Dx;have JI:fJ al p=some s:=by simpa using u5
       obtain⟨g1,g2,g3⟩:=hw.sep p hp;have hmk:∃sz bytes zero l c,op = .make true sz bytes zero l c:=by
        rcases xw with⟨zero,rfl⟩|rfl|h
        ·simp[dh]at hs
        ·simp[dh]at hs
        ·exact h
       rcases hg.reads i _ s p uU (by simp[ow,hs]) JI with h|⟨_,h⟩
       ·have:=FG hmk p h;rw[g1]at this;cases this
       · rcases h with rfl|h
         ·exact vH hp
         · rcases g3 i h with h'|h'
           ·rw[oL]at h';cases h'
           ·exact vH h'
      rw[this];rfl
     have Dw:=hw.G8;obtain ⟨ob,cap,cr,awO⟩:∃(ob:Obj) (cap:Nat),(execOp a'.eval o).run C.P w' = .ok (.value (B_ op x w'.heap.size)) (w'.alloc ob)∧∀(w2:World)(G2:cc),GLe w' G' w2 G2→w2.heap[w'.heap.size]?=some ob→Ap C.F w2 G2 op x w'.heap.size cap:=by
      rcases xw with⟨zero,rfl⟩|rfl|⟨sz,bytes,zero,ol,oc,rfl⟩
      · simp only [eM]at eR;split at eR
        · rename_i ty Yp;split at eR
          · rename_i inf jm;split at eR
            · rename_i z Yz;have nH:=wO (C:=C) (w:=w') (G:=G') eR;have tZ:bo C.F w' G' zero z.cells:=by simpa using nH
              refine⟨.cells z.cells ty,z.cells.size,?_,fun w2 G2 hg hb=>⟨_,_,hb,rfl,tZ.mono hg⟩⟩;have hr:(Instr.alloc ty true (.tuple #[])).run C.P w' = .ok (.pointer (some ⟨w'.heap.size,0,none⟩)) (w'.alloc (.cells z.cells ty)):=by simp[Instr.alloc,zeroValue,typeInfo,jm,Yz,newVar,newRow]
              simp[execOp,Yp,hr,B_]
            ·cases eR
          ·cases eR
        ·cases eR
      · simp only[eM]at eR;split at eR
        · rename_i ty r Yp;have hr:r=none:=by simpa using eR
          subst hr;refine⟨.map #[] 0,0,?_,fun w2 G2 hg hb=>⟨_,hb⟩⟩;have hr:(Instr.makeMap ty none).run C.P w' = .ok (.map (some w'.heap.size)) (w'.alloc (.map #[] 0)):=rfl;simp[execOp,Yp,hr,B_]
        ·cases eR
      ·exact anW hw.Dc.1 Dw eR hx
     refine MG cr ?_;have hp:=fD.alloc w' ob;obtain⟨avs,pz⟩:=hw.rel.axP hp;have hdt:o.dst=some t:=uK;rw[hdt];refine ih _ bX S (i::Pd) (fun k=>if k=i then w'.heap.size else bl k) (fun k=>if k=i then x else ag k) aU H' G' _ _ ⟨hw.inv,fun p j_=>?_,fun p j_=>?_,fun p j_ t' mn tj=>?_,fun p j_ q Yq RE=>?_,hw.Dc.step pz,avs,?_,by rw[put_defers];exact hw.defers,hw.step.trans pz,hw.aY.trans ((iw.put a' (some t) _).mono fun s hs=>aag uU s (by simpa[eq_comm]using hs))⟩ ?_ (by simp[KV]) QO
     · rcases List.mem_cons.1 j_ with rfl|j_
       · exact ⟨oL,eQ,fun k hk=>by
           rcases(hL k).1 (QQ k hk)with h|h
           ·exact .inl h
           ·exact .inr (List.mem_cons_of_mem _ h)⟩
       · obtain⟨g1,g2,g3⟩:=hw.sep p j_;exact⟨g1,g2,fun k hk=>(g3 k hk).imp id fun h=>List.mem_cons_of_mem _ h⟩
     · rcases List.mem_cons.1 j_ with rfl|j_
       · rw [if_pos rfl,if_pos rfl];refine⟨t,op,cap,uU,xw,fun ht=>?_,awO _ _ pz.toGLe hp.new,hw.step.size,fun k hk=>Nat.ne_of_lt ((hw.rel.obj k).lt hk),fun j hf=>?_⟩
         · simp only[Act.put]at ht ⊢;rw[Array.size_setIfInBounds]at ht;simp[ht]
         · obtain⟨V,hV⟩:=hw.rel.nV _ _ hf;have:=World.block_lt_of_cell? w' _ hV;simp at this
       · have qH:p≠i:=fun e=>vH (e▸j_);rw[if_neg qH,if_neg qH];refine(hw.JW p j_).step pz (some t) _ fun s hs e=>?_;have e':t=s:=Option.some.inj e;subst e';exact qH (hg.uniq p i t hs (by rw[pO]))
     · rcases List.mem_cons.1 j_ with rfl|j_
       · rw[if_pos rfl];rw[uU]at tj;cases tj;exact Be
       · have qH:p≠i:=fun e=>vH (e▸j_);rw[if_neg qH];exact hw.args p j_ t' mn tj
     · have uJ:∀q∈Pd,bl q<w'.heap.size:=by
         intro q hq;obtain⟨_,_,_,_,h0,_,h3,_⟩:=hw.JW q hq;exact aaX h0 h3
       have lO:=List.mem_cons.1 j_;have Dt:=List.mem_cons.1 Yq;by_cases h1:p=i<;>by_cases h2:q=i
       ·rw[h1,h2]
       · rw[if_pos h1,if_neg h2]at RE;have:=uJ q (Dt.resolve_left h2);omega
       · rw[if_neg h1,if_pos h2]at RE;have:=uJ p (lO.resolve_left h1);omega
       · rw[if_neg h1,if_neg h2]at RE;exact hw.inj p (lO.resolve_left h1) q (Dt.resolve_left h2) RE
     · have hv:=hw.G8.mono pz.toGLe;refine⟨by simpa[jz,Act.put]using hv.1,fun j c V hc hV=>?_⟩;have KS:j<aU.length:=by
        have:=(List.getElem?_eq_some_iff.1 hc).1;simpa[jz]using this
       have tN:c=(jz al (i::Pd) aU).getD j .bot:=by rw[List.getD_eq_getElem?_getD,hc];rfl
       rw[uq]at tN;by_cases Dm:t=j
       · subst Dm;have:(i::Pd).any (fun q=>fJ al q==some t)=true:=by simp[pO]
         rw[this]at tN;simp only[if_true]at tN;subst tN;exact .bot _
       · simp only[Act.put]at hV;rw[Array.getElem?_setIfInBounds_ne Dm]at hV;have h1:(i::Pd).any (fun q=>fJ al q==some j)=Pd.any (fun q=>fJ al q==some j):=by
          rw[List.any_cons,pO];have:(some t==some j)=false:=by simpa using Dm
          rw[this,Bool.false_or]
         rw[h1,←uq]at tN;have Wy:j<(jz al Pd aU).length:=by simpa[jz]using KS
         refine hv.2 j c V ?_ hV;rw[tN,List.getD_eq_getElem?_getD,List.getElem?_eq_getElem Wy];rfl
     · intro k;rw[uM k,hL k];simp only[List.mem_cons];constructor
       · rintro(h|h|h)
         ·exact .inr (.inl h)
         ·exact .inl h
         ·exact .inr (.inr h)
       · rintro(h|h|h)
         ·exact .inr (.inl h)
         ·exact .inl h
         ·exact .inr (.inr h)
   · have eQ : mA al pr i=false∨nj bX=some i:=by
       by_cases h1:mA al pr i=true
       · by_cases h2:nj bX=some i
         ·exact .inr h2
         ·exact absurd ⟨h1,h2⟩ Gz
       ·exact .inl (by simpa using h1)
     have FG:∀k∈dj pr i,S k=true:=by
      intro p hp;rcases(hL p).1 (QQ p hp)with h|h
      ·exact h
      · exfalso;obtain⟨g1,g2,_⟩:=hw.sep p h;rcases eQ with eQ|eQ
        · refine avz p g2 g1 (I_ p h) i (by omega) oL hp eQ fun k hk=>?_;rcases(hL k).1 (QQ k hk)with h'|h'
          ·exact .inl h'
          ·exact .inr ⟨(hw.sep k h').2.1,I_ k h'⟩
        · have:=(S9 hw.inv eQ).2.2 p hp g2;rw[g1]at this;cases this
     have ma:=abb (LX C) hg hw.inv uU oL FG eQ;rw[MC]at ma;have agree:∀t∈ow ao,aU.getD t .bot=(jz al Pd aU).getD t .bot:=by
      intro t ht;rw[uq];have : Pd.any (fun p=>fJ al p==some t)=false:=by
       rw[Bool.eq_false_iff];intro hx;rw[List.any_eq_true]at hx;obtain⟨p,hp,u5⟩:=hx;have JI:fJ al p=some t:=by simpa using u5
       obtain⟨g1,g2,g3⟩:=hw.sep p hp;rcases hg.reads i ao t p uU ht JI with h|⟨_,h⟩
       ·have:=FG p h;rw[g1]at this;cases this
       · rcases h with rfl|h
         ·exact vH hp
         · rcases g3 i h with h'|h'
           ·rw[oL]at h';cases h'
           ·exact vH h'
      rw[this];rfl
     rw[ac3 agree]at ma;refine alq hF ho uK eR iT ma hw.Dc hw.rel hw.G8 ?_;intro v V H2 G2 w2 hK zA u9 oP pz;refine ih _ _ (fun k=>k==i||S k) Pd bl ag _ H2 G2 _ w2 ⟨hK,fun p hp=>?_,fun p hp=>?_,fun p hp t' mn tj=>?_,hw.inj,zA,oP,?_,by rw[put_defers];exact hw.defers,hw.step.trans pz,hw.aY.trans ((iw.put a' ao.dst V).mono fun s hs=>aag uU s (by simpa[Option.mem_toList,eq_comm]using hs))⟩ ?_ (by simp[KV]) QO
     · obtain⟨g1,g2,g3⟩:=hw.sep p hp;have qH:p≠i:=fun e=>vH (e▸hp);exact⟨by simp[qH,g1],g2,fun k hk=>(g3 k hk).imp (fun h=>by simp[h]) id⟩
     · have qH:p≠i:=fun e=>vH (e▸hp);refine(hw.JW p hp).step pz ao.dst V fun s hs e=>?_;exact qH (hg.uniq p i s hs (by rw[pO,e]))
     · have qH:i≠p:=fun e=>vH (e▸hp);rw[←hw.args p hp t' mn tj];exact aay hg tj (hw.sep p hp).2.1 uU (.inl fun h=>by
         rcases(hw.sep p hp).2.2 i h with h'|h'
         ·rw[oL]at h';cases h'
         ·exact vH h') qH fun h=>by
         have:=FG p h;rw[(hw.sep p hp).1]at this;cases this
     · have hv :=hw.G8.mono pz.toGLe;have FF:∀t,ao.dst=some t→Pd.any (fun p=>fJ al p==some t)=false:=by
        intro t ht;rw[Bool.eq_false_iff];intro hx;rw[List.any_eq_true]at hx;obtain⟨p,hp,u5⟩:=hx;have JI:fJ al p=some t:=by simpa using u5
        exact vH ((hg.uniq p i t JI (by rw[pO,ht]))▸hp)
       have hms : jz al Pd (cY aU ao.dst v)=cY (jz al Pd aU) ao.dst v:=by
        apply z_
        ·cases bC:ao.dst<;>simp[jz,cY]
        · intro s _;rw[uq];cases bC:ao.dst with
          |none=>simp only[cY];rw[uq]
          | some t=>
           simp only[cY];by_cases aX:t=s
           · subst aX;rw[FF t bC];by_cases qI:t<aU.length
             · have FJ:t<(jz al Pd aU).length:=by simpa[jz]using qI
               simp[List.getD_eq_getElem?_getD,qI,FJ]
             · have FJ:¬t<(jz al Pd aU).length:=by simpa[jz]using qI
               rw[List.set_eq_of_length_le (Nat.le_of_not_lt qI),List.set_eq_of_length_le (Nat.le_of_not_lt FJ)];rw[uq,FF t bC]
           · have h1:(aU.set t v).getD s .bot=aU.getD s .bot:=by
               rw[List.getD_eq_getElem?_getD,List.getElem?_set_ne aX,List.getD_eq_getElem?_getD]
             have h2:((jz al Pd aU).set t v).getD s .bot=(jz al Pd aU).getD s .bot:=by rw[List.getD_eq_getElem?_getD,List.getElem?_set_ne aX,List.getD_eq_getElem?_getD]
             rw[h1,h2,uq]
       rw[hms];exact hv.cY ao.dst u9
     · intro k;rw[uM k,hL k];simp only[Bool.or_eq_true,beq_iff_eq];constructor
       · rintro(h|h|h)
         ·exact .inl (.inl h)
         ·exact .inl (.inr h)
         ·exact .inr h
       · rintro((h|h)|h)
         ·exact .inl h
         ·exact .inr (.inl h)
         ·exact .inr (.inr h)
 obtain⟨kD,JL⟩:=Step.drawn (w.drawn+1) aI;refine main ops.size (Array.replicate ops.size false) bX (fun _=>false) [] (fun _=>0) (fun _=>(0,0)) env H G a _ ⟨amL hg hb hc h,fun p hp=>(by cases hp),fun p hp=>(by cases hp),fun p hp=>(by cases hp),fun p hp=>(by cases hp),hG.step JL,kD,?_,hd,JL,iw.refl _ _⟩ ?_ (by simp) ?_
 · have WE:jz al [] env=env:=by
     apply z_ (by simp[jz]);intro t _;rw[uq];rfl
   rw[WE];exact he.mono JL.toGLe
 · intro k;by_cases hk:k<ops.size<;>simp[hk]
 ·exact Nat.le_trans (List.countP_le_length) (by simp)
theorem aaD{o:Nat→dc}:∀{cells l:List AV}{id:Nat},qu o cells=some (l,id)→∃pre off len sz post cs,cells=pre ++ .row id off len sz::post∧l=pre ++ .aq .dead len ((cs.drop off).take (len*sz))::post∧o id = .row cs∧off+len*sz≤cs.length:=by
 intro cells;induction cells with
 |nil=>intro l id h;cases h
 | cons c r ih=>
  intro l id h;unfold qu at h;split at h
  ·rename_i heq;cases heq
  · rename_i fQ off len sz r' heq;cases heq;split at h
    · rename_i cs ho;split at h
      · rename_i hle;cases h;exact⟨[],_,_,_,_,cs,rfl,rfl,ho,hle⟩
      ·cases h
    ·cases h
  · rename_i c' r' _ heq;cases heq;cases hr:qu o r with
    |none=>rw[hr]at h;cases h
    | some q=>obtain⟨q1,q2⟩:=q;rw[hr]at h;cases h;obtain⟨pre,off,len,sz,post,cs,h1,h2,h3,h4⟩:=ih hr;exact⟨c::pre,off,len,sz,post,cs,by rw[h1];rfl,by rw[h2];rfl,h3,h4⟩
theorem Rel.auf{F:eG}{H:AH}{id:Nat}{cs l:List AV}(aI:Rel F w G H)(ho:H.o id = .row cs)(h:nu F w G id (.row l)):Rel F w G (H.set id (.row l)):=by
 have hl:∀i,((H.set id (.row l)).o i).live=true→(H.o i).live=true:=by
  intro i hi;simp only[AH.set]at hi;split at hi
  ·rename_i e;rw[e,ho];rfl
  ·exact hi
 refine⟨aI.n,fun i hi=>?_,fun i=>?_,fun i j bU hi hj=>aI.mQ i j bU (hl i hi) (hl j hj),aI.nV⟩
 · simp only[AH.set]at hi ⊢;split
   · rename_i e;have:=aI.over i hi;rw[e,ho]at this;cases this
   ·exact aI.over i hi
 · simp only[AH.set];split
   ·rename_i e;rw[e];exact h
   ·exact aI.obj i
theorem akx{x v:AV}{X:Value}{H':AH}{F:eG}(aI:Rel F w G H)(h:z8 H x=some (v,H'))(hx:VR F w G x X):∃G',Rel F w G' H'∧Step w G H w G' H'∧VR F w G' v X:=by
 have key:∀(id:Nat)(cs:List AV),H.o id = .row cs→∃G',Rel F w G' (H.set id .gone)∧Step w G H w G' (H.set id .gone) ∧
   ∃Vs:Nat→Value,(∀(j:Nat)(c:AV),cs[j]?=some c→G'.fz (G.loc id) j∧w.cell? ⟨G.loc id,j,none⟩=some (Vs j))∧(∀(j:Nat)(c:AV),cs[j]?=some c→VR F w G' c (Vs j)):=by
  intro id cs ho;have po:(H.o id).live=true:=by rw[ho];rfl
  have gC:=aI.qv po;have hk:=aI.kill id (aI.n▸gC);have iz:=aI.obj id;rw[ho]at iz;have IC:=iz.Mn;have jW:GLe w G w (G.ik (G.loc id) 0 cs.length):=⟨Nat.le_refl _,fun _ _=>rfl,fun _ _=>rfl,fun _ _ hf=> .inl hf,fun _ _ _ _ hc=>hc⟩
  have aee:∀j,((H.set id .gone).o j).live=true→j≠id∧(H.o j).live=true:=by
   intro j hj;simp only[AH.set]at hj;split at hj
   ·cases hj
   ·rename_i bU;exact⟨bU,hj⟩
  refine⟨G.ik (G.loc id) 0 cs.length,⟨hk.1.n,hk.1.over,fun j=>?_,hk.1.mQ,fun b o hb=>?_⟩,?_,fun j=>(w.cell? ⟨G.loc id,j,none⟩).getD undef,fun j c hj=>?_,fun j c hj=>?_⟩
  · refine (hk.1.obj j).aY jW (fun hl=>hk.1.qv hl) (fun _=>rfl) fun hl k hf=>?_;rcases hf with hf|⟨hf,_⟩
    ·exact hf
    · obtain⟨h1,h2⟩:=aee j hl;exact absurd hf (aI.mQ j id h1 h2 po)
  · rcases hb with hb|⟨rfl,_,aO⟩
    ·exact aI.nV b o hb
    · obtain⟨V,hV,_⟩:=IC o cs[o] (List.getElem?_eq_getElem aO);exact⟨V,by simpa using hV⟩
  ·exact {jW with size:=Nat.le_refl _,os:=rfl,tape:=rfl,output:=rfl,iU:=fun _ _ _=>rfl,owned:=fun j hl _=>⟨j,(aee j hl).2,rfl⟩,ng:=fun b o hf=>hf.imp (fun h=>h) fun hf=> .inr ⟨id,po,hf.1.symm⟩}
  · obtain⟨V,hV,_⟩:=IC j c hj;rw[Nat.zero_add]at hV;exact⟨.inr ⟨rfl,Nat.zero_le _,(List.getElem?_eq_some_iff.1 hj).1⟩,by dsimp only;rw[hV];rfl⟩
  · obtain⟨V,hV,hr⟩:=IC j c hj;rw[Nat.zero_add]at hV;dsimp only;rw[hV];exact hr.mono jW
 unfold z8 at h;split at h
 · rename_i id o len sz;split at h
   · rename_i cs ho;split at h
     · cases h;obtain⟨G',hr,aX,Vs,h1,h2⟩:=key id cs ho;refine⟨G',hr,aX,?_⟩;cases hx with
       | row _ _ _ _ cap gC hle hc=>
        have jc:∀(j:Nat)(c:AV),((cs.drop o).take (len*sz))[j]?=some c→cs[o+j]?=some c:=by
         intro j c hj;rw[List.getElem?_take]at hj;split at hj
         ·rw[List.getElem?_drop]at hj;exact hj
         ·cases hj
        exact .aq _ _ _ _ o cap (fun j=>Vs (o+j)) trivial hle (fun j c hj=>h1 _ c (jc j c hj)) fun j c hj=>h2 _ c (jc j c hj)
     ·cases h
   ·cases h
 · rename_i id o;split at h
   · rename_i cs ho;split at h
     · rename_i l fQ Rr;split at h
       ·cases h
       · rename_i bU;cases h;obtain⟨pre,off,len,sz,post,fI,rfl,rfl,kC,hle⟩:=aaD Rr;obtain⟨G',hr,aX,Vs,h1,h2⟩:=key fQ fI kC;have po:(H.o fQ).live=true:=by rw[kC];rfl
         have aw1:=aI.qv po;have cx:G'.loc fQ=G.loc fQ:=aX.loc fQ (aI.n▸aw1);have Yo:(H.set fQ .gone).o id = .row (pre ++ .row fQ off len sz::post):=by simp only[AH.set];rw[if_neg (fun e=>bU e.symm)];exact ho
         have iz:=hr.obj id;rw[Yo]at iz;obtain⟨Cc,e,hC,gN,Yn,jZ⟩:=iz;have avr:nu F w G' id (.row (pre ++ .aq .dead len ((fI.drop off).take (len*sz))::post)):=by
          refine⟨Cc,e,hC,gN,Yn,fun j c hj=>?_⟩;rcases Nat.lt_trichotomy j pre.length with aO|rfl|hgt
          · rw[List.getElem?_append_left aO]at hj;exact jZ j c (by rw[List.getElem?_append_left aO];exact hj)
          · have h0:(pre++AV.row fQ off len sz::post)[pre.length]?=some (.row fQ off len sz):=by simp
            have hc:c = .aq .dead len ((fI.drop off).take (len*sz)):=by
             have h3:(pre++AV.aq .dead len ((fI.drop off).take (len*sz))::post)[pre.length]?=some (.aq .dead len ((fI.drop off).take (len*sz))):=by simp
             rw[h3]at hj;exact(Option.some.inj hj).symm
            subst hc;obtain⟨V,hV,mR⟩:=jZ _ _ h0;refine⟨V,hV,?_⟩;cases mR with
            | row _ _ _ _ cap gC JG qF=>
             have jc:∀(j:Nat)(c:AV),((fI.drop off).take (len*sz))[j]?=some c→fI[off+j]?=some c:=by
              intro j c hj;rw[List.getElem?_take]at hj;split at hj
              ·rw[List.getElem?_drop]at hj;exact hj
              ·cases hj
             rw[cx];exact .aq _ _ _ _ off cap (fun j=>Vs (off+j)) trivial JG (fun j c hj=>h1 _ c (jc j c hj)) fun j c hj=>h2 _ c (jc j c hj)
          · have e:∀y:AV,(pre++y::post)[j]?=post[j-pre.length-1]?:=by
              intro y;rw[List.getElem?_append_right (by omega)];obtain⟨d,hd⟩:∃d,j-pre.length=d+1:=⟨j-pre.length-1,by omega⟩
              rw[hd];rfl
            rw[e]at hj;exact jZ j c (by rw[e];exact hj)
         have hl:∀i,(((H.set fQ .gone).set id (.row (pre ++ .aq .dead len ((fI.drop off).take (len*sz))::post))).o i).live=true→((H.set fQ .gone).o i).live=true:=by
          intro i hi;by_cases ei:i=id
          ·rw[ei,Yo];rfl
          ·simp only[AH.set,if_neg ei]at hi ⊢;exact hi
         refine⟨G',hr.auf Yo avr,{aX with owned:=fun i hi hb=>aX.owned i (hl i hi) hb},hx.mono aX.toGLe⟩
     · cases h;obtain⟨G',hr,aX,Vs,h1,h2⟩:=key id cs ho;refine⟨G',hr,aX,?_⟩;cases hx with
       | ptr _ _ gC=>exact .av _ _ o (fun j=>Vs (o+j)) (fun j c hj=>h1 _ c (by rw[List.getElem?_drop]at hj;exact hj)) fun j c hj=>h2 _ c (by rw[List.getElem?_drop]at hj;exact hj)
   ·cases h
 ·cases h;exact⟨G,aI,Step.refl _ _ _,hx⟩
 ·cases h;exact⟨G,aI,Step.refl _ _ _,hx⟩
 · rename_i cells;split at h
   · rename_i l id Rr;cases h;obtain⟨pre,off,len,sz,post,cs,rfl,rfl,ho,hle⟩:=aaD Rr;obtain⟨G',hr,aX,Vs,h1,h2⟩:=key id cs ho;refine⟨G',hr,aX,?_⟩;obtain⟨Xs,rfl,wq⟩:=hx.BF;refine .agg _ _ (by have:=wq.1;simp at this ⊢;omega) fun j c V hj hV=>?_;rcases Nat.lt_trichotomy j pre.length with aO|rfl|hgt
     · rw[List.getElem?_append_left aO]at hj;exact(wq.2 j c V (by rw[List.getElem?_append_left aO];exact hj) hV).mono aX.toGLe
     · have h0:(pre++AV.row id off len sz::post)[pre.length]?=some (.row id off len sz):=by simp
       have hc:c = .aq .dead len ((cs.drop off).take (len*sz)):=by
        have h3:(pre++AV.aq .dead len ((cs.drop off).take (len*sz))::post)[pre.length]?=some (.aq .dead len ((cs.drop off).take (len*sz))):=by simp
        rw[h3]at hj;exact(Option.some.inj hj).symm
       subst hc;have mR:=wq.2 _ _ V h0 hV;cases mR with
       | row _ _ _ _ cap gC JG qF=>
        have jc:∀(j:Nat)(c:AV),((cs.drop off).take (len*sz))[j]?=some c→cs[off+j]?=some c:=by
         intro j c hj;rw[List.getElem?_take]at hj;split at hj
         ·rw[List.getElem?_drop]at hj;exact hj
         ·cases hj
        exact .aq _ _ _ _ off cap (fun j=>Vs (off+j)) trivial JG (fun j c hj=>h1 _ c (jc j c hj)) fun j c hj=>h2 _ c (jc j c hj)
     · have e:∀y:AV,(pre++y::post)[j]?=post[j-pre.length-1]?:=by
         intro y;rw[List.getElem?_append_right (by omega)];obtain⟨d,hd⟩:∃d,j-pre.length=d+1:=⟨j-pre.length-1,by omega⟩
         rw[hd];rfl
       rw[e]at hj;exact(wq.2 j c V (by rw[e];exact hj) hV).mono aX.toGLe
   ·cases h;exact⟨G,aI,Step.refl _ _ _,hx⟩
 ·cases h
end
end Rb

namespace Rb
open Go
section
variable{C:Ctx}{w:World}{G:cc}{H:AH}{env:Env}{a:Act}
theorem LZ{F:eG}{Vs:Array Value}(h:bo F w G env Vs)(vs:List Nat):∀(j:Nat)(c:AV),(jc env vs)[j]?=some c→∃t V,vs[j]?=some t∧(Vs[t]?=some V∧VR F w G c V∨c = .bot):=by
 intro j c hj;simp only[jc,List.getElem?_map]at hj;cases hv:vs[j]? with
 |none=>simp[hv]at hj
 | some t=>
  simp[hv]at hj;subst hj;cases he:env[t]? with
  |none=>exact⟨t,undef,rfl,.inr (by simp)⟩
  | some c=>obtain⟨V,hV,hr⟩:=h.get he;exact⟨t,V,rfl,.inl ⟨hV,by simpa[he]using hr⟩⟩
theorem ala{F:eG}:∀(ks:List Nat){env:Env}{Vs:Array Value},bo F w G env Vs→bo F w G (kJ env ks) Vs:=by
 intro ks;induction ks with
 |nil=>intro env Vs h;exact h
 | cons t ks ih=>
  intro env Vs h;refine ih ⟨by simp[h.1],fun j c V hc hV=>?_⟩;by_cases hj:t=j
  · subst hj;rw[List.getElem?_set]at hc;simp only[if_true]at hc;split at hc
    ·cases hc;exact .bot _
    ·cases hc
  · rw[List.getElem?_set_ne hj]at hc;exact h.2 j c V hc hV
theorem akz:∀(ks:List Nat)(env:Env),(kJ env ks).length=env.length:=by
 intro ks;induction ks with
 |nil=>intro env;rfl
 |cons t ks ih=>intro env;rw[kJ,ih];simp
theorem amO:∀(ks:List Nat)(env:Env)(t:Nat),t∈ks→∀c,(kJ env ks)[t]?=some c→c = .bot:=by
 intro ks;induction ks with
 |nil=>intro env t ht;cases ht
 | cons s ks ih=>
  intro env t ht c hc;by_cases h:t∈ks
  ·exact ih _ t h c hc
  · have yo:t=s:=by rcases List.mem_cons.1 ht with h'|h';exact h';exact absurd h' h
    subst yo;have key:∀(ks:List Nat)(env:Env),t∉ks→(kJ env ks)[t]?=env[t]?:=by
     intro ks;induction ks with
     |nil=>intro env _;rfl
     | cons u ks ih=>intro env hn;rw[kJ,ih _ (fun h=>hn (List.mem_cons_of_mem _ h)),List.getElem?_set_ne (fun e=>hn (by rw[e];exact List.mem_cons_self))]
    rw[kJ,key ks _ h,List.getElem?_set]at hc;simp only[if_true]at hc;split at hc
    ·cases hc;rfl
    ·cases hc
theorem L0{F:eG}{ks vs az:List Nat}{Vs mg:Array Value}(h:bo F w G env Vs)(hc:NV ks vs az=true)(hs:mg.size=Vs.size)(hk:∀t,t∉az→mg[t]?=Vs[t]?)(st:List AV)
  (aX:∀(j:Nat)(c:AV),st[j]?=some c→∃t V,vs[j]?=some t∧(mg[t]?=some V∧VR F w G c V∨c = .bot)) (hl:st.length=vs.length):bo F w G (qw (kJ env ks) vs st) mg:=by
 have py : ∀(vs:List Nat)(st:List AV)(env:Env),env.length=mg.size→st.length=vs.length →
   (∀(j:Nat)(c:AV),st[j]?=some c→∃t V,vs[j]?=some t∧(mg[t]?=some V∧VR F w G c V∨c = .bot)) →
   (∀(j:Nat)(c:AV)(V:Value),env[j]?=some c→mg[j]?=some V→j∈vs∨VR F w G c V)→bo F w G (qw env vs st) mg:=by
  intro vs;induction vs with
  |nil=>intro st env hle _ _ h;exact⟨hle,fun j c V hc hV=>(h j c V hc hV).resolve_left (by simp)⟩
  | cons t vs ih=>
   intro st env hle hl aX h;cases st with
   |nil=>simp at hl
   | cons d st=>
    rw[qw];refine ih st _ (by simp[hle]) (by simpa using hl) (fun j c hj=>by obtain⟨t',V,Gx,hr⟩:=aX (j+1) c (by simpa using hj);exact⟨t',V,by simpa using Gx,hr⟩) fun j c V hc hV=>?_
    by_cases hj:t=j
    · subst hj;rw[List.getElem?_set]at hc;simp only[if_true]at hc;split at hc
      · cases hc;obtain⟨t',V',Gx,hr⟩:=aX 0 d rfl;simp at Gx;subst Gx;rcases hr with⟨Ro,hr⟩|rfl
        ·rw[hV]at Ro;cases Ro;exact .inr hr
        ·exact .inr (.bot _)
      ·cases hc
    · rw [List.getElem?_set_ne hj]at hc;rcases h j c V hc hV with h'|h'
      · rcases List.mem_cons.1 h' with h'|h'
        ·exact absurd h'.symm hj
        ·exact .inl h'
      ·exact .inr h'
 refine py vs st _ (by rw[akz,h.1,hs]) hl aX fun j c V hc' hV=>?_;by_cases hj:j∈az
 · have:=List.all_eq_true.1 hc j hj;simp at this;rcases this with h1|h1
   ·rw[amO ks env j h1 c hc'];exact .inr (.bot _)
   ·exact .inl h1
 · rw[hk j hj]at hV;exact .inr ((ala ks h).2 j c V hc' hV)
theorem LU(env:Env)(vs:List Nat):(jc env vs).length=vs.length:=by simp[jc]
def qp:pg→Exit→Prop
 | .normal,.normal=>True
 | .exit i,.exit j=>i=j
 | .ret,.ret=>True
 |_,_=>False
theorem alo(hF:xN C){ops:Array Oper}{Q:Exit→Act→World→Prop}{w0:World}{G0:cc}{H0:AH}{a0:Act}{az:List Nat} :
  ∀ (b:kQ) (l:List Oper) (env:Env) (H:AH) (G:cc) (w:World) (a:Act) (K:pg→Env→AH→Prop),Ht C ops l b=true→jR (au C) b env H K→jI C w G H→Rel C.F w G H→bo C.F w G env a.tmps→a.defers=[] →
   Step w0 G0 H0 w G H→iw az a0 a→(∀t,t∈jr b→t∈az) →
   (∀aU H' G' a' w',K .normal aU H'→jI C w' G' H'→Rel C.F w' G' H'→bo C.F w' G' aU a'.tmps→a'.defers=[]→Step w0 G0 H0 w' G' H'→iw az a0 a'→Q .normal a' w') →
   wpList C.P ops Q l a w:=by
 intro b;induction b with
 | region al=>intro l env H G w a K ay h hG aI he hd aX hk rf hQ;exact aaR hF l al env H G w a ay h hG aI he hd aX hk rf hQ
 | qk vs ks al b ih=>intro l env H G w a K ay h hG aI he hd aX hk rf hQ;simp only[Ht,Bool.and_eq_true]at ay;obtain⟨⟨h1,FD⟩,h2⟩:=ay;rw[←List.take_append_drop al.length l];simp only[jR]at h;refine aah (w0:=w) (G0:=G) (H0:=H) (a0:=a) (az:=pf al) hF (l.take al.length) al env H G w a h1 h hG aI he hd (Step.refl _ _ _) (iw.refl _ _) (fun _ ht=>ht) ?_;intro aU H' G' a' w' hK mi gM fj bC iY fW;have Vx:=L0 (he.mono iY.toGLe) FD fW.1 fW.2 (jc aU vs) (LZ fj vs) (LU _ _);exact ih (l.drop al.length) _ H' G' w' a' K h2 hK mi gM Vx bC (aX.trans iY) (hk.trans (fW.mono fun t ht=>rf t (by simp[jr,ht]))) (fun t ht=>rf t (by simp[jr,ht])) hQ
 |_=>intro l env H G w a K ay;simp[Ht]at ay
theorem alM(hF:xN C) :
  ∀ (ac:kQ) (c:Code) (env:Env) (H:AH) (G:cc) (w:World) (a:Act) (K:pg→Env→AH→Prop) (Q:Exit→Act→World→Prop),iy C c ac=true→jR (au C) ac env H K →
   jI C w G H→Rel C.F w G H→bo C.F w G env a.tmps→a.defers=[] →
   (∀ax ex aU H' G' a' w',qp ax ex→K ax aU H'→jI C w' G' H'→Rel C.F w' G' H'→bo C.F w' G' aU a'.tmps→a'.defers=[]→Step w G H w' G' H'→iw (jr ac) a a'→Q ex a' w') →
   c.wp C.P Q a w:=by
 intro ac;induction ac with
 | skip=>intro c env H G w a K Q ay h hG aI he hd hQ;cases c<;>simp[iy]at ay;exact wp_skip (hQ .normal .normal env H G a w trivial h hG aI he hd (Step.refl _ _ _) (iw.refl _ _))
 | region al=>
  intro c env H G w a K Q ay h hG aI he hd hQ;cases c with
  | region id ops draw=>
   cases draw with
   |true=>simp[iy]at ay
   | false=>
    simp only[iy]at ay;refine wp_region_list ?_;exact aaR (az:=pf al) (a0:=a) (w0:=w) (G0:=G) (H0:=H) (Q:=Q) (K:=K .normal) hF ops.toList al env H G w a ay h hG aI he hd (Step.refl _ _ _) (iw.refl _ _) (fun _ ht=>ht)
     (fun aU H' G' a' w' hK mi gM fj bC iY fW=>hQ .normal .normal aU H' G' a' w' trivial hK mi gM fj bC iY fW)
  |_=>simp[iy]at ay
 | qk vs ks al b _=>
  intro c env H G w a K Q ay h hG aI he hd hQ;cases c with
  | region id ops draw=>
   cases draw with
   |true=>simp[iy]at ay
   | false=>
    simp only[iy]at ay;refine wp_region_list ?_;exact alo (az:=jr (.qk vs ks al b)) (a0:=a) (w0:=w) (G0:=G) (H0:=H) (Q:=Q) (K:=K) hF (.qk vs ks al b) ops.toList env H G w a ay h hG aI he hd (Step.refl _ _ _) (iw.refl _ _) (fun _ ht=>ht)
     (fun aU H' G' a' w' hK mi gM fj bC iY fW=>hQ .normal .normal aU H' G' a' w' trivial hK mi gM fj bC iY fW)
  |_=>simp[iy]at ay
 | draw al pr bX last=>
  intro c env H G w a K Q ay h hG aI he hd hQ;cases c with
  | region id ops draw=>
   cases draw with
   |false=>simp[iy]at ay
   | true=>simp only[iy,Bool.and_eq_true]at ay;obtain⟨⟨⟨h1,h2⟩,h3⟩,h4⟩:=ay;exact alR hF h1 h2 h3 h4 h hG aI he hd fun aU H' G' a' w' hK mi gM fj bC iY fW=>hQ .normal .normal aU H' G' a' w' trivial hK mi gM fj bC iY fW
  |_=>simp[iy]at ay
 | seq x y YD YE=>
  intro c env H G w a K Q ay h hG aI he hd hQ;cases c with
  | seq p q=>
   simp only[iy,Bool.and_eq_true]at ay;refine wp_seq ?_;refine YD p env H G w a _ _ ay.1 h hG aI he hd ?_;intro ax ex aU H' G' a' w' hex hK mi gM fj bC iY fW;cases ax with
   | normal=>cases ex<;>simp only[qp]at hex;refine YE q aU H' G' w' a' K Q ay.2 hK mi gM fj bC ?_;intro ax ex qs H2 G2 a2 w2 hex De zA oP nY tQ pz eZ;exact hQ ax ex qs H2 G2 a2 w2 hex De zA oP nY tQ (iY.trans pz) ((fW.mono fun t ht=>by simp[jr,ht]).trans (eZ.mono fun t ht=>by simp[jr,ht]))
   | exit i=>cases ex<;>simp only[qp]at hex;exact hQ (.exit i) (.exit _) aU H' G' a' w' hex hK mi gM fj bC iY (fW.mono fun t ht=>by simp[jr,ht])
   | ret=>cases ex<;>simp only[qp]at hex;exact hQ .ret .ret aU H' G' a' w' trivial hK mi gM fj bC iY (fW.mono fun t ht=>by simp[jr,ht])
  |_=>simp[iy]at ay
 | join vs ks x y YD YE=>
  intro c env H G w a K Q ay h hG aI he hd hQ;cases c with
  | seq p q=>
   simp only[iy,Bool.and_eq_true]at ay;obtain⟨⟨Gm,qF⟩,FD⟩:=ay;refine wp_seq ?_;refine YD p env H G w a _ _ Gm h hG aI he hd ?_;intro ax ex aU H' G' a' w' hex hK mi gM fj bC iY fW;cases ax with
   | normal=>cases ex<;>simp only[qp]at hex;have Vx:=L0 (he.mono iY.toGLe) FD fW.1 fW.2 (jc aU vs) (LZ fj vs) (LU _ _);refine YE q _ H' G' w' a' K Q qF hK mi gM Vx bC ?_;intro ax ex qs H2 G2 a2 w2 hex De zA oP nY tQ pz eZ;exact hQ ax ex qs H2 G2 a2 w2 hex De zA oP nY tQ (iY.trans pz) ((fW.mono fun t ht=>by simp[jr,ht]).trans (eZ.mono fun t ht=>by simp[jr,ht]))
   | exit i=>cases ex<;>simp only[qp]at hex;exact hQ (.exit i) (.exit _) aU H' G' a' w' hex hK mi gM fj bC iY (fW.mono fun t ht=>by simp[jr,ht])
   | ret=>cases ex<;>simp only[qp]at hex;exact hQ .ret .ret aU H' G' a' w' trivial hK mi gM fj bC iY (fW.mono fun t ht=>by simp[jr,ht])
  |_=>simp[iy]at ay
 | cond x p q wH ihq=>
  intro c env H G w a K Q ay h hG aI he hd hQ;cases c with
  | cond c' p' q'=>
   simp only[iy,Bool.and_eq_true]at ay;obtain⟨⟨Gm,qF⟩,Gn⟩:=ay;obtain⟨t,ht,h⟩:=Uh h;have hx:=dI hG.1 he Gm;rw[ht]at hx;refine wp_cond (t:=t) hx.qN ?_;cases t with
   | true=>rw[if_pos rfl]at h ⊢;exact wH p' env H G w a K Q qF h hG aI he hd fun ax ex aU H' G' a' w' h1 h2 h3 h4 h5 h6 h7 h8=>hQ ax ex aU H' G' a' w' h1 h2 h3 h4 h5 h6 h7 (h8.mono fun t ht=>by simp[jr,ht])
   | false=>rw[if_neg (by simp)]at h ⊢;exact ihq q' env H G w a K Q Gn h hG aI he hd fun ax ex aU H' G' a' w' h1 h2 h3 h4 h5 h6 h7 h8=>hQ ax ex aU H' G' a' w' h1 h2 h3 h4 h5 h6 h7 (h8.mono fun t ht=>by simp[jr,ht])
  |_=>simp[iy]at ay
 | block id x ih=>
  intro c env H G w a K Q ay h hG aI he hd hQ;cases c with
  | block fQ p=>
   simp only[iy,Bool.and_eq_true,beq_iff_eq]at ay;obtain⟨rfl,hc⟩:=ay;refine wp_block ?_;refine ih p env H G w a _ _ hc h hG aI he hd ?_;intro ax ex aU H' G' a' w' hex hK mi gM fj bC iY fW;cases ax with
   | normal=>cases ex<;>simp only[qp]at hex;exact hQ .normal .normal aU H' G' a' w' trivial hK mi gM fj bC iY fW
   | exit i=>
    cases ex with
    | exit j=>
     simp only[qp]at hex;subst hex;dsimp only at hK;simp only[Exit.inBlock];split
     · rename_i nF;rw[if_pos nF]at hK;exact hQ .normal .normal aU H' G' a' w' trivial hK mi gM fj bC iY fW
     · rename_i nF;rw[if_neg nF]at hK;exact hQ (.exit i) (.exit i) aU H' G' a' w' rfl hK mi gM fj bC iY fW
    |_=>simp only[qp]at hex
   | ret=>cases ex<;>simp only[qp]at hex;exact hQ .ret .ret aU H' G' a' w' trivial hK mi gM fj bC iY fW
  |_=>simp[iy]at ay
 | loop vs ks x ih=>
  intro c env H G w a K Q ay h hG aI he hd hQ;cases c with
  | loop p=>
   simp only[iy,Bool.and_eq_true]at ay;obtain⟨hc,FD⟩:=ay;let I:List AV×AH→Prop:=fun s=>∀G' w' a',jI C w' G' s.2→Rel C.F w' G' s.2→bo C.F w' G' (qw (kJ env ks) vs s.1) a'.tmps→a'.defers=[]→Step w G H w' G' s.2→iw (jr x) a a' →
    ∀(b:Frame)(k:List Item)(cs:List Frame),∃e a2 w2,Q e a2 w2∧Arrives C.P (lone (b.at a' (.code p :: .inLoop p::k)) cs w') b k cs e a2 w2
   have hI:=h I fun s K' KH hK'=>by
    intro G' w' a' mi gM fj bC iY fW b k cs;have hwp:p.wp C.P (fun ex a2 w2=>match ex with
        | .normal=>∀(b:Frame)(k:List Item)(cs:List Frame),∃e a3 w3,Q e a3 w3∧Arrives C.P (lone (b.at a2 (.code p :: .inLoop p::k)) cs w2) b k cs e a3 w3
        |e=>Q e a2 w2) a' w':=by
      refine ih p _ _ G' w' a' _ _ hc KH mi gM fj bC ?_;intro ax ex qs H2 G2 a2 w2 hex De zA oP nY tQ pz eZ;cases ax with
      | normal=>cases ex<;>simp only[qp]at hex;have gW:=fW.trans eZ;have RG:=iY.trans pz;exact hK' _ De G2 w2 a2 zA oP (L0 (he.mono RG.toGLe) FD gW.1 gW.2 (jc qs vs) (LZ nY vs) (LU _ _)) tQ RG gW
      | exit i=>
       cases ex with
       |exit j=>exact hQ (.exit i) (.exit j) qs H2 G2 a2 w2 hex De zA oP nY tQ (iY.trans pz) (fW.trans eZ)
       |_=>simp only[qp]at hex
      | ret=>
       cases ex with
       |ret=>exact hQ .ret .ret qs H2 G2 a2 w2 hex De zA oP nY tQ (iY.trans pz) (fW.trans eZ)
       |_=>simp only[qp]at hex
    obtain⟨e,a1,w1,hq,xy⟩:=hwp b (.inLoop p::k) cs;cases e with
    | normal=>obtain⟨e2,a2,w2,Dt,avf⟩:=hq b k cs;exact⟨e2,a2,w2,Dt,.of_steps (Steps.trans xy (.one step_inLoop)) avf⟩
    |exit id=>exact⟨_,a1,w1,hq,.pass (x:= .inLoop p) rfl (fun _ _=> .inl (by simp)) xy⟩
    |goto l=>exact⟨_,a1,w1,hq,.pass (x:= .inLoop p) rfl (fun _ _=> .inl (by simp)) xy⟩
    |ret=>exact⟨_,a1,w1,hq,.pass (x:= .inLoop p) rfl (fun _ _=> .inl (by simp)) xy⟩
    |panic ch=>exact⟨_,a1,w1,hq,.pass (x:= .inLoop p) rfl (fun _ _=> .inl (by simp)) xy⟩
    |outgrown=>exact⟨_,a1,w1,hq,.pass (x:= .inLoop p) rfl (fun _ _=> .inl (by simp)) xy⟩
   intro b k cs;have h0:=hI G w a hG aI (L0 he FD rfl (fun _ _=>rfl) (jc env vs) (LZ he vs) (LU _ _)) hd (Step.refl _ _ _) (iw.refl _ _) b k cs;obtain⟨e,a',w',hq,xy⟩:=h0;exact⟨e,a',w',hq,.of_steps (.one step_loop) xy⟩
  |_=>simp[iy]at ay
 | exit id=>intro c env H G w a K Q ay h hG aI he hd hQ;cases c<;>simp[iy]at ay;subst ay;exact wp_exit (hQ (.exit _) (.exit _) env H G a w rfl h hG aI he hd (Step.refl _ _ _) (iw.refl _ _))
 | ret=>intro c env H G w a K Q ay h hG aI he hd hQ;cases c<;>simp[iy]at ay;exact wp_ret (hQ .ret .ret env H G a w trivial h hG aI he hd (Step.refl _ _ _) (iw.refl _ _))
 | freeze t x ih=>
  intro c env H G w a K Q ay h hG aI he hd hQ;have avh:iy C c x=true:=by cases c<;>simpa[iy]using ay
  obtain⟨v,H',hv,h⟩:=h;obtain⟨G',gM,iY,hvr⟩:=akx aI hv (ML he);have nY:bo C.F w G' (env.set t v) a.tmps:=by
   refine⟨by simp[he.1],fun j c V hc hV=>?_⟩;by_cases hj:t=j
   · subst hj;rw[List.getElem?_set]at hc;simp only[if_true]at hc;split at hc
     · cases hc;rw[Array.getD_eq_getD_getElem?,hV]at hvr;exact hvr
     ·cases hc
   · rw[List.getElem?_set_ne hj]at hc;exact(he.2 j c V hc hV).mono iY.toGLe
  exact ih c _ H' G' w a K Q avh h (hG.step iY) gM nY hd fun ax ex aU H' G' a' w' h1 h2 h3 h4 h5 h6 h7 h8=>hQ ax ex aU H' G' a' w' h1 h2 h3 h4 h5 h6 (iY.trans h7) (h8.mono fun t ht=>by simp[jr,ht])
def vq(P:Program):List ResultVar→List tg→Bool
 |[],[]=>true
 | .tmp t::r,.tmp t'::s=>t==t'&&vq P r s
 | .cell t ty::r,.cell t' n agg::s=>t==t'&&qy P ty n agg&&vq P r s
 |_,_=>false
def FA(C:Ctx)(f:FuncId)(af:bm):Bool:=
 match C.P.funcs[f]? with
 |some fn=>fn.ntmps==af.ntmps&&vq C.P fn.results.toList af.results&&(match fn.body with|some c=>iy C c af.body|none=>false)
 |none=>false
def PR(tmps:Array Value):ResultVar→Sem Value
 | .tmp t=>pure (tmps.getD t undef)
 | .cell a t=>do loadVar t (←asAddr (tmps.getD a undef))
theorem al5(fn:Func)(tmps:Array Value):results fn tmps=(do
    let vs ←fn.results.mapM (PR tmps)
    pure (if h:vs.size=1 then vs[0]else .tuple vs)):=by
  unfold results;congr 1
theorem am7(aI:Rel C.F w G H)(he:bo C.F w G env a.tmps):∀(rs:List ResultVar)(wc:List tg)(K:List AV→Prop),vq C.P rs wc=true→xe env H wc K →
  ∃vs Vs,K vs∧bo C.F w G vs (List.toArray Vs)∧(rs.mapM (PR a.tmps)).run C.P w = .ok Vs w:=by
 intro rs;induction rs with
 | nil=>intro wc K hc h;cases wc<;>simp[vq]at hc;exact⟨[],[],h,bo.nil,rfl⟩
 | cons r rs ih=>
  intro wc K hc h;have cons:∀{v:AV}{V:Value}{vs:List AV}{Vs:List Value},VR C.F w G v V→bo C.F w G vs Vs.toArray→bo C.F w G (v::vs) (V::Vs).toArray:=by
   intro v V vs Vs hv wC;refine bo.BM (by have:=wC.1;simp at this ⊢;exact this) fun j c U hj hU=>?_;cases j with
   |zero=>simp at hj hU;subst hj;subst hU;exact hv
   |succ j=>exact wC.2 j c U (by simpa using hj) (by simpa using hU)
  cases r with
  | tmp t=>
   cases wc with
   |nil=>simp[vq]at hc
   | cons ar wc=>
    cases ar with
    | tmp t'=>simp only[vq,Bool.and_eq_true,beq_iff_eq]at hc;obtain⟨rfl,hc⟩:=hc;obtain⟨vs,Vs,hK,wC,cr⟩:=ih wc _ hc h;refine⟨_,_::Vs,hK,cons (ML he) wC,?_⟩;rw[List.mapM_cons];simp only[PR,Sem.run_bind,Sem.run_pure,Result.andThen_ok,cr]
    |cell _ _ _=>simp[vq]at hc
  | cell t ty=>
   cases wc with
   |nil=>simp[vq]at hc
   | cons ar wc=>
    cases ar with
    |tmp _=>simp[vq]at hc
    | cell t' n agg=>
     simp only[vq,Bool.and_eq_true,beq_iff_eq]at hc;obtain⟨⟨rfl,pX⟩,hc⟩:=hc;obtain⟨v,hv,h⟩:=h;obtain⟨vs,Vs,hK,wC,cr⟩:=ih wc _ hc h;have hx:=ML (t:=t) he;obtain⟨V,hV,hr⟩:=Sj (P:=C.P) pX aI hv hx;refine⟨_,V::Vs,hK,cons hr wC,?_⟩;have Ro:(do loadVar ty (←asAddr (a.tmps.getD t undef)):Sem Value).run C.P w = .ok V w:=by
      unfold J at hv;split at hv
      · rename_i id o Dx;rw[Dx]at hx;generalize a.tmps.getD t undef=X at hx hV;cases hx;simpa[Instr.loadAt,Instr.sureAddr,asAddr]using hV
      · rename_i cs Dx;rw[Dx]at hx;generalize a.tmps.getD t undef=X at hx hV;cases hx;simpa[Instr.loadAt,Instr.sureAddr,asAddr]using hV
      ·cases hv
     rw[List.mapM_cons];have ma:(PR a.tmps (.cell t ty)).run C.P w = .ok V w:=Ro;simp only[Sem.run_bind,ma,Result.andThen_ok,cr,Sem.run_pure]
theorem aa7(hF:xN C){f:FuncId}{af:bm}(ay:FA C f af=true){args:List AV}{Vs:Array Value}{Q:ae}(h:Fc (au C) af args H Q)(hG:jI C w G H)(aI:Rel C.F w G H)(eU:bo C.F w G args Vs) :
  Calls C.P f Vs w fun e w'=>∃V v H' G',e = .returned V∧Q v H'∧VR C.F w' G' v V∧Rel C.F w' G' H'∧Step w G H w' G' H':=by
 unfold FA at ay;split at ay
 · rename_i fn Dk;simp only[Bool.and_eq_true,beq_iff_eq]at ay;obtain⟨⟨hn,axi⟩,yL⟩:=ay;split at yL
   · rename_i c hb;refine calls_of_wp Dk hb ?_;have he:bo C.F w G (args++List.replicate (af.ntmps-args.length) .bot) (Vs++Array.replicate (fn.ntmps-Vs.size) undef):=by
      refine eU.app ⟨by simp[eU.1,hn],fun j c V hc hV=>?_⟩;rw[List.getElem?_replicate]at hc;split at hc
      ·cases hc;exact .bot _
      ·cases hc
     refine alM hF af.body c _ H G w ⟨_,[]⟩ _ _ yL h hG aI he rfl ?_;intro ax ex aU H' G' a' w' hex hK mi gM fj bC iY fW;have fin:xe aU H' af.results (fun vs=>Q (Am vs) H')→a'.defers=[]∧∃v,(results fn a'.tmps).run C.P w' = .ok v w'∧∃V v_1 eV Xv,(Ending.returned v) = .returned V∧Q v_1 eV∧VR C.F w' Xv v_1 V∧Rel C.F w' Xv eV∧Step w G H w' Xv eV:=by
      intro hr;obtain⟨vs,mg,hQ,wC,cr⟩:=am7 gM fj fn.results.toList af.results _ axi hr;refine⟨bC,if h:mg.toArray.size=1 then mg.toArray[0]else .tuple mg.toArray,?_,_,_,_,_,rfl,hQ,?_,gM,iY⟩
      · rw[al5];have he:fn.results=fn.results.toList.toArray:=by simp
        rw[he,List.mapM_toArray];simp only[Sem.run_bind,Sem.run_map,cr,Result.andThen_ok,Sem.run_pure]
      · split
        · rename_i h1;have hl:mg.length=1:=by simpa using h1
          have jL:vs.length=1:=by have:=wC.1;simp at this;omega
          match vs,mg,jL,hl with
          |[v],[V],_,_=>simpa[Am]using wC.2 0 v V rfl rfl
        · rename_i h1;have hl:mg.length≠1:=by simpa using h1
          have jL:vs.length≠1:=by have:=wC.1;simp at this;omega
          have ma:Am vs = .aM vs:=by
           match vs,jL with
           |[],_=>rfl
           |_::_::_,_=>rfl
          rw[ma];exact wC.aM
     cases ax with
     |normal=>cases ex<;>simp only[qp]at hex;exact fin hK
     |exit i=>exact hK.elim
     |ret=>cases ex<;>simp only[qp]at hex;exact fin hK
   ·cases yL
 ·cases ay
end
end Rb

namespace Rb
open Go
abbrev pK:=List (Nat×bm)
def pK.get(T:pK)(k:Nat):Option bm:=T.lookup k
def Ei(Φ:aj)(T:pK):Prop:=∀k f,T.get k=some f→∀args H Q,Fc Φ f args H Q→Φ k args H Q
def NT(C:Ctx):pK→Bool
 |[]=>true
 |(k,f)::T=>(match C.F k with|some iq=>FA C iq f|none=>true)&&NT C T
theorem al2{T:pK}{k:Nat}{f:bm}(h:T.lookup k=some f):(k,f)∈T:=by
 induction T with
 |nil=>cases h
 | cons p T ih=>
  obtain⟨k',f'⟩:=p;rw[List.lookup_cons]at h;split at h
  · rename_i hk;have fW:k=k':=by simpa using hk
    cases h;rw[fW];exact List.mem_cons_self
  ·exact List.mem_cons_of_mem _ (ih h)
theorem alK{C:Ctx}:∀{T:pK},NT C T=true→∀k f,(k,f)∈T→∀iq,C.F k=some iq→FA C iq f=true:=by
 intro T;induction T with
 |nil=>intro _ k f h;cases h
 | cons p T ih=>
  obtain⟨k',f'⟩:=p;intro h k f hm iq hf;simp only[NT,Bool.and_eq_true]at h;rcases List.mem_cons.1 hm with he|hm
  · cases he;have:=h.1;rw[hf]at this;exact this
  ·exact ih h.2 k f hm iq hf
theorem amp{C:Ctx}(hF:xN C){T:pK}(h:NT C T=true):Ei (au C) T:=by intro k f hk args H Q hs;refine⟨aa6 (S3 C) hs,fun iq awY G w Vs hG aI eU=>?_⟩;exact aa7 hF (alK h k f (al2 hk) iq awY) hs hG aI eU
mutual
def AV.same:AV→AV→Bool
 | .bool a,.bool b=>a==b
 | .int k a,.int k' b=>k==k'&&a==b
 | .str a,.str b=>a==b
 | .jX,.jX=>true
 | .ptr i o,.ptr i' o'=>i==i'&&o==o'
 | .av cs,.av fI=>AV.nq cs fI
 | .aq tk len cs,.aq tk' JS fI=>tk==tk'&&len==JS&&AV.nq cs fI
 | .row a b c d,.row a' b' c' d'=>a==a'&&b==b'&&c==c'&&d==d'
 | .map i,.map i'=>i==i'
 | .mw,.mw=>true
 | .fn k cs,.fn k' fI=>k==k'&&AV.nq cs fI
 | .nk,.nk=>true
 | .iface t v,.iface t' v'=>t==t'&&AV.same v v'
 | .nn,.nn=>true
 | .agg cs,.agg fI=>AV.nq cs fI
 | .aM cs,.aM fI=>AV.nq cs fI
 | .bot,.bot=>true
 |_,_=>false
def AV.nq:List AV→List AV→Bool
 |[],[]=>true
 |c::r,d::t=>AV.same c d&&AV.nq r t
 |_,_=>false
end
mutual
theorem AV.L1:(x y:AV)→AV.same x y=true→x=y
 | .bool a,.bool b,h=>by simp[AV.same]at h;rw[h]
 | .int k a,.int k' b,h=>by simp[AV.same]at h;rw[h.1,h.2]
 | .str a,.str b,h=>by simp[AV.same]at h;rw[h]
 | .jX,.jX,h=>rfl
 | .ptr i o,.ptr i' o',h=>by simp[AV.same]at h;rw[h.1,h.2]
 | .av cs,.av fI,h=>by simp only[AV.same]at h;rw[AV.Bs cs fI h]
 | .aq tk len cs,.aq tk' JS fI,h=>by simp only[AV.same,Bool.and_eq_true,beq_iff_eq]at h;rw[h.1.1,h.1.2,AV.Bs cs fI h.2]
 | .row a b c d,.row a' b' c' d',h=>by simp[AV.same]at h;rw[h.1.1.1,h.1.1.2,h.1.2,h.2]
 | .map i,.map i',h=>by simp[AV.same]at h;rw[h]
 | .mw,.mw,h=>rfl
 | .fn k cs,.fn k' fI,h=>by simp only[AV.same,Bool.and_eq_true,beq_iff_eq]at h;rw[h.1,AV.Bs cs fI h.2]
 | .nk,.nk,h=>rfl
 | .iface t v,.iface t' v',h=>by simp only[AV.same,Bool.and_eq_true,beq_iff_eq]at h;rw[h.1,AV.L1 v v' h.2]
 | .nn,.nn,h=>rfl
 | .agg cs,.agg fI,h=>by simp only[AV.same]at h;rw[AV.Bs cs fI h]
 | .aM cs,.aM fI,h=>by simp only[AV.same]at h;rw[AV.Bs cs fI h]
 | .bot,.bot,h=>rfl
theorem AV.Bs:(xs ys:List AV)→AV.nq xs ys=true→xs=ys
 |[],[],h=>rfl
 | c::r,d::t,h=>by simp only[AV.nq,Bool.and_eq_true]at h;rw[AV.L1 c d h.1,AV.Bs r t h.2]
end
end Rb

namespace Rb
open Go Go.RowKit
def AH.mt:AH:={n:=0,o:=fun _=> .gone}
def cc.mt(fz:Nat→Nat→Prop):cc:={n:=0,loc:=fun _=>0,cap:=fun _=>0,fz:=fz}
theorem Rel.mt{F:eG}{w:World}{fz:Nat→Nat→Prop}(h:∀b o,fz b o→∃V,w.cell? ⟨b,o,none⟩=some V):Rel F w (cc.mt fz) AH.mt:=⟨rfl,fun _ _=>rfl,fun _=>trivial,fun _ _ _ h _=>(by cases h),h⟩
theorem Step.below{w w':World}{fz:Nat→Nat→Prop}{G':cc}{H':AH}(h:Step w (cc.mt fz) AH.mt w' G' H'):Below w.heap.size w w':=⟨h.os,h.tape,h.output,h.size,fun k hk=>h.iU k hk fun i hl=>by cases hl⟩
section
variable{H:Type}{enc:TypeId×Value→H}{P:Program}
def Ms(P:Program)(ts:List TypeId):Bool:=ts.all fun t=>P.readableRec t&&decide (t<P.types.size)
theorem Zz(hl:laidOutB P=true){W W':World}(hb:Below W.heap.size W W') :
  ∀{ts:List TypeId}{vs:List Value}{ds:List (DataW H)}{ps:List MemPlace},Ms P ts=true→DataW.TrodAll enc P W 0 (fun _=>true) true ts vs ds ps→DataW.TrodAll enc P W' 0 (fun b=>decide (b<W.heap.size)) true ts vs ds ps
 |[],[],[],_,_,h=>h
 | t::ts,v::vs,d::ds,ps,ht,h=>by have aO:=h.lt;obtain⟨p,q,h1,h2,rfl⟩:=h;simp only[Ms,List.all_cons,Bool.and_eq_true,decide_eq_true_eq]at ht;exact⟨p,q,Below.trod hl ht.1.1 ht.1.2 h1 hb (fun x hx=>aO x (by simp[hx])),Zz hl hb (by simpa[Ms]using ht.2) h2,rfl⟩
 |[],[],_::_,_,_,h=>h.elim
 |[],_::_,_,_,_,h=>by cases ‹List (DataW H)› <;> exact h.elim
 |_::_,[],_,_,_,h=>by cases ‹List (DataW H)› <;> exact h.elim
 |_::_,_::_,[],_,_,h=>h.elim
theorem am4{f:Func}{s:ChangeSpec}{apart:Bool}{W W':World}{args:Array Value}{ds gs:List (DataW H)}{before:List MemPlace}{bt:TypeId}
  (hW:DataW.Whole enc P f.params.toList s.vars apart W args.toList ds gs before) (hl:laidOutB P=true) (ht:Ms P f.params.toList=true) (hv:varsRowed P s.vars=true)
  (hr:f.resultTypes = #[bt]) (nX:P.underlying bt=some .bool) (Dk:s.fn H (ds++gs)={results:=[.lit (.bool true)],args:=ds,vars:=gs}) (hb:Below W.heap.size W W') :
  s.post enc P f apart true false false W args (.bool true) W':=by
 have X8:=hW;obtain⟨p,q,hA,hV,rfl,hz,hn⟩:=hW;refine⟨ds,gs,p++q,[],p,q,X8,?_,?_,?_,hb.frame _,fun h=>by cases h⟩
 · rw[Dk,hr];exact⟨[],[],shut_bool nX _,rfl,rfl⟩
 · rw[Dk];exact Zz hl hb ht hA
 · rw[Dk];exact hb.trodVars hl hv hV
end
end Rb

namespace Rb
open Go
theorem au.run{C:Ctx}{key:Nat}{f:FuncId}{args:List AV}{H:AH}{Q:ae}(h:au C key args H Q)(hf:C.F key=some f){G:cc}{w:World}{Vs:Array Value}(hG:jI C w G H)(aI:Rel C.F w G H)(eU:bo C.F w G args Vs) :
  Calls C.P f Vs w fun e w'=>∃V v H' G',e = .returned V∧Q v H'∧VR C.F w' G' v V∧Rel C.F w' G' H'∧Step w G H w' G' H':=h.2 f hf G w Vs hG aI eU
end Rb

namespace Rb
open Go
theorem Ei.app{Φ:aj}{T U:pK}(hT:Ei Φ T)(hU:Ei Φ U):Ei Φ (T++U):=by
 intro k f h args H Q hs;have key:∀(T:pK),(T++U).lookup k=some f→T.lookup k=some f∨U.lookup k=some f:=by
  intro T;induction T with
  |nil=>intro h;exact .inr h
  | cons p T ih=>
   intro h;obtain⟨k',f'⟩:=p;rw[List.cons_append,List.lookup_cons]at h;rw[List.lookup_cons];split at h
   ·exact .inl h
   ·exact ih h
 rcases key T h with h|h
 ·exact hT k f h args H Q hs
 ·exact hU k f h args H Q hs
mutual
def AV.flat:AV→Bool
 | .bool _ | .int _ _ | .str _ | .jX | .mw | .nk | .nn=>true
 | .aq .nil 0 []=>true
 | .agg cs=>AV.I4 cs
 | .aM cs=>AV.I4 cs
 |_=>false
def AV.I4:List AV→Bool
 |[]=>true
 |c::r=>AV.flat c&&AV.I4 r
end
theorem SN:∀{cs:List AV},AV.I4 cs=true→∀(j:Nat)(c:AV),cs[j]?=some c→c.flat=true
 |[],_,j,c,h=>by simp at h
 | d::r,hf,j,c,h=>by
  simp only[AV.I4,Bool.and_eq_true]at hf;cases j with
  |zero=>simp at h;subst h;exact hf.1
  |succ j=>exact SN hf.2 j c (by simpa using h)
theorem TO{F:eG}{w w':World}{G G':cc}{c:AV}{V:Value}(hf:c.flat=true)(h:VR F w G c V):VR F w' G' c V:=by
 induction h with
 |bot=>simp[AV.flat]at hf
 |bool b=>exact .bool b
 |int k n=>exact .int k n
 |str s=>exact .str s
 |jX=>exact .jX
 |ptr=>simp[AV.flat]at hf
 |av=>simp[AV.flat]at hf
 |lr=>exact .lr
 |lC=>simp[AV.flat]at hf
 | aq tk len cells b o cap Vs ht=>unfold AV.flat at hf;split at hf<;>simp_all;exact ht.elim
 |row=>simp[AV.flat]at hf
 |map=>simp[AV.flat]at hf
 |mw=>exact .mw
 |fn=>simp[AV.flat]at hf
 |zr=>simp[AV.flat]at hf
 |nk=>exact .nk
 |iface=>simp[AV.flat]at hf
 |nn=>exact .nn
 |agg cs Vs hl hv ih=>exact .agg cs Vs hl fun j c V hc hV=>ih j c V hc hV (SN (by simpa[AV.flat]using hf) j c hc)
 |aM cs Vs hl hv ih=>exact .aM cs Vs hl fun j c V hc hV=>ih j c V hc hV (SN (by simpa[AV.flat]using hf) j c hc)
theorem au.frame{C:Ctx}{key:Nat}{args:List AV}{Q:ae}(h:au C key args AH.mt Q)(ha:args.all AV.flat=true)(aw:∀g l,C.GT g=some l→l.all AV.flat=true)(H:AH)(K:ae)(hK:∀v H',Q v H'→v.flat=true∧K v H):au C key args H K:=by
 refine⟨by obtain⟨v,H',hq⟩:=h.1;exact⟨v,H,(hK v H' hq).2⟩,fun f hf G w Vs hG aI eU=>?_⟩;have VA:Rel C.F w (cc.mt G.fz) AH.mt:=Rel.mt aI.nV;have U5:bo C.F w (cc.mt G.fz) args Vs:=⟨eU.1,fun j c V hc hV=>by rw[List.all_eq_true]at ha;exact TO (ha c (List.mem_of_getElem? hc)) (eU.2 j c V hc hV)⟩
 have X1:tB C w (cc.mt G.fz):=by
  intro g l hg;have h1:=hG.1 g l hg;have h2:=aw g l hg;rw[List.all_eq_true]at h2;generalize hX:(Value.pointer (some ⟨g,0,none⟩))=X at h1;generalize hY:AV.av l=Y at h1;cases h1 with
  | av cells b o Vs h hv=>cases hX;cases hY;exact .av _ _ _ Vs h fun j c hj=>TO (h2 c (List.mem_of_getElem? hj)) (hv j c hj)
  |bot=>cases hY
  |_=>cases hY
 · refine Calls.mono (h.2 f hf _ w Vs (hG.mt X1 fun i hi=>by cases hi) VA U5) fun e w' he=>?_;obtain⟨V,v,H',G',rfl,hQ,hv,hr,aX⟩:=he;obtain⟨pR,X2⟩:=hK v H' hQ;have hb:=aX.below;have hg:GLe w G w' G:=⟨Nat.le_refl _,fun _ _=>rfl,fun _ _=>rfl,fun _ _ h=>h,fun b o V hf hc=>by
     rw[World.cell?_of_block (w:=w) (hb.block b (World.block_lt_of_cell? w _ hc))];exact hc⟩
   refine⟨V,v,H,G,rfl,X2,TO pR hv,⟨aI.n,aI.over,fun j=>(aI.obj j).aY hg (fun hl=>aI.qv hl) (fun hl=>hb.block _ ((aI.obj j).lt hl)) fun _ _ hj=>hj,aI.mQ,fun b o hf=>?_⟩,?_⟩
   · obtain⟨V,hV⟩:=aI.nV b o hf;exact⟨V,hg.cell b o V hf hV⟩
   ·exact {hg with size:=aX.size,os:=aX.os,tape:=aX.tape,output:=aX.output,iU:=fun k hk _=>hb.block k hk,owned:=fun i hi _=>⟨i,hi,rfl⟩,ng:=fun _ _ h=> .inl h}
def ZY:List AV:=(List.range 256).map fun i=> .int .u8 (if i=9∨i=10∨i=11∨i=12∨i=13∨i=32 then 1 else 0)
end Rb

namespace Rb
open Go
inductive TT where
 |leaf
 |node (x:dc) (l r:TT)
def TT.get:TT→Nat→dc
 | .leaf,_=> .gone
 | .node x l r,i=>bif Nat.beq i 0 then x else bif Nat.beq (i%2) 1 then l.get (i/2)else r.get (i/2-1)
def TT.sb(x:dc):Nat→TT→Nat→TT
 |0,t,_=>t
 | f+1,t,i=>match t with
  | .leaf=>bif Nat.beq i 0 then .node x .leaf .leaf else bif Nat.beq (i%2) 1 then .node .gone (TT.sb x f .leaf (i/2)) .leaf else .node .gone .leaf (TT.sb x f .leaf (i/2-1))
  | .node a l r=>bif Nat.beq i 0 then .node x l r else bif Nat.beq (i%2) 1 then .node a (TT.sb x f l (i/2)) r else .node a l (TT.sb x f r (i/2-1))
theorem TT.aa8(i:Nat):TT.get .leaf i = .gone:=rfl
theorem TT.BB(x:dc)(l r:TT)(i:Nat):(TT.node x l r).get i=if i=0 then x else if i%2=1 then l.get (i/2)else r.get (i/2-1):=by
 have hb:∀a b:Nat,Nat.beq a b=decide (a=b):=fun a b=>by rw[Bool.eq_iff_iff];simp
 simp only[TT.get,hb,cond_eq_ite,decide_eq_true_eq]
theorem TT.abw(x:dc):∀(f:Nat)(t:TT)(i j:Nat),i<f→(TT.sb x f t i).get j=if j=i then x else t.get j:=by
 intro f;induction f with
 |zero=>intro t i j h;omega
 | succ f ih=>
  intro t i j h;have hb:∀a b:Nat,Nat.beq a b=decide (a=b):=fun a b=>by rw[Bool.eq_iff_iff];simp
  have key : ∀(a:dc)(l r:TT),(if i=0 then TT.node x l r else if i%2=1 then .node a (TT.sb x f l (i/2)) r else .node a l (TT.sb x f r (i/2-1))).get j=if j=i then x else(TT.node a l r).get j:=by
   intro a l r;by_cases hi:i=0
   · subst hi;rw[if_pos rfl,TT.BB,TT.BB];by_cases hj:j=0
     ·simp[hj]
     ·simp[hj]
   · rw [if_neg hi];by_cases ho:i%2=1
     · rw [if_pos ho,TT.BB,TT.BB];rw[ih _ _ _ (by omega)];by_cases hj:j=0
       ·rw[if_pos hj,if_pos hj,if_neg (by omega)]
       · rw [if_neg hj,if_neg hj];by_cases zG:j%2=1
         · rw[if_pos zG,if_pos zG];by_cases e:j=i
           ·rw[if_pos e,if_pos (by rw[e])]
           ·rw[if_neg e,if_neg (by omega)]
         ·rw[if_neg zG,if_neg zG,if_neg (by omega)]
     · rw [if_neg ho,TT.BB,TT.BB];rw[ih _ _ _ (by omega)];by_cases hj:j=0
       ·rw[if_pos hj,if_pos hj,if_neg (by omega)]
       · rw [if_neg hj,if_neg hj];by_cases zG:j%2=1
         ·rw[if_pos zG,if_pos zG,if_neg (by omega)]
         · rw[if_neg zG,if_neg zG];by_cases e:j=i
           ·rw[if_pos e,if_pos (by rw[e])]
           ·rw[if_neg e,if_neg (by omega)]
  cases t with
  | leaf=>simp only[TT.sb,hb,cond_eq_ite,decide_eq_true_eq];rw[key .gone .leaf .leaf,TT.BB,TT.aa8];simp only[TT.aa8,ite_self]
  | node a l r=>simp only[TT.sb,hb,cond_eq_ite,decide_eq_true_eq];exact key a l r
structure TH where
 n:Nat
 t:TT
def TH.ah(T:TH):AH:=⟨T.n,fun i=>T.t.get i⟩
def TH.set(T:TH)(i:Nat)(x:dc):TH:=match T with|⟨n,t⟩=>⟨n,TT.sb x (i+1) t i⟩
def TH.push(T:TH)(x:dc):TH:=match T with|⟨n,t⟩=>⟨n+1,TT.sb x (n+1) t n⟩
def TH.mt:TH:=⟨0,.leaf⟩
@[simp] theorem TH.aCJ (T:TH):T.ah.n=T.n:=rfl
@[simp] theorem TH.aCl (T:TH) (i:Nat) (x:dc):(T.set i x).ah=T.ah.set i x:=by simp only[TH.ah,TH.set,AH.set];congr 1;funext j;exact TT.abw x _ _ _ _ (Nat.lt_succ_self _)
@[simp] theorem TH.aoq (T:TH) (x:dc):(T.push x).ah=T.ah.push x:=by simp only[TH.ah,TH.push,AH.push];congr 1;funext j;exact TT.abw x _ _ _ _ (Nat.lt_succ_self _)
@[simp] theorem TH.auv:TH.mt.ah=AH.mt:=by simp only[TH.ah,TH.mt,AH.mt];congr 1
abbrev lX:=AV→TH→Bool
abbrev ff:=Nat→List AV→TH→lX→Bool
def hJ{α:Type}(x:Option α)(K:α→Bool):Bool:=
 match x with
 |some a=>K a
 |none=>false
def pt(x:Option (AV×TH))(K:lX):Bool:=
 match x with
 |some (v,T)=>K v T
 |none=>false
def F4(v:AV)(want:Bool)(A B:Bool):Bool:=
 match v with
 | .bool b=>bif Bool.xor b want then B else A
 |_=>false
def IM(T:TH)(n:Nat)(x v:AV):Option TH:=
 match x with
 | .ptr id o=>
  match T.t.get id with
  | .row cs=>if v.known∧v.cells.length=n∧v.cells.all AV.scalar∧o+n≤cs.length then some (T.set id (.row (setCells cs o v.cells)))else none
  |_=>none
 |_=>none
def FZ(T:TH)(mu:Bool)(cells:List AV):AV×TH:=if mu then(.ptr T.n 0,T.push (.row cells))else(.av cells,T)
def Jg(T:TH)(mu:Bool)(n:Nat)(v:AV):Option (AV×TH):=if v.known∧v.cells.length=n then some (FZ T mu v.cells)else none
def HT(T:TH)(mu:Bool)(sz len:Nat)(zero:List AV)(parts:List (Nat×Nat×AV)):Option (AV×TH):=
 (qW (List.replicate len zero).flatten parts).map fun cells=>if mu then(.row T.n 0 len sz,T.push (.row cells))else(.aq .full len cells,T)
def HS(T:TH)(mu:Bool)(sz bytes:Nat)(x y:AV):Option (AV×TH):=
 match mM T.ah sz y with
 |none=>none
 | some (m,news)=>
  if ¬news.all AV.scalar then none else
  match x with
  | .aq tk len cells=>
   if m=0 then some (.aq tk len cells,T)
   else if ¬(cells.length=len*sz∧(len+m)*bytes≤140737488355328∧len+m≤9223372036854775807)then none
   else match tk,mu with
   | .nil,true | .full,true=>some (.row T.n 0 (len+m) sz,T.push (.row (cells++news)))
   | .nil,false | .full,false=>some (.aq (.own T.n) (len+m) (cells++news),T.push (.tok ((len+m)*sz) sz))
   | .own t,_=>match T.t.get t with
    | .tok k mr=>if k=len*sz∧mr=sz then some (.aq (.own T.n) (len+m) (cells++news),(T.set t .gone).push (.tok ((len+m)*sz) sz))else none
    |_=>none
   | .dead,_=>none
  | .row id o len mr=>
   match T.t.get id with
   | .row cs=>
    if m=0 then some (.row id o len mr,T)
    else if ¬(o=0∧mr=sz∧(len+m)*bytes≤140737488355328∧len+m≤9223372036854775807)then none
    else if(len+m)*sz≤cs.length then some (.row id 0 (len+m) sz,T.set id (.row (setCells cs (len*sz) news)))
    else if cs.length=len*sz then some (.row T.n 0 (len+m) sz,(T.set id .gone).push (.row (cs++news)))
    else none
   |_=>none
  |_=>none
def NM(T:TH)(x:AV):Option (AV×TH):=
 match x with
 | .str s=>some (.ptr T.n 0,T.push (.nO s 0))
 |_=>none
def PY(T:TH)(x:AV):Option (AV×TH):=
 match x with
 | .ptr id 0=>
  match T.t.get id with
  | .nO s pos=>
   if pos<s.length then
    let d:=Utf8.decode ⟨s.toArray⟩ pos
    some (.aM [.bool true,.int .i64 pos,.int .i32 d.1],T.set id (.nO s (pos+d.2)))
   else some (.aM [.bool false],T)
  |_=>none
 |_=>none
def Fl(T:TH)(mu:Bool)(sz bytes:Nat)(zero:List AV)(len cap:AV):Option (AV×TH):=
 match len,cap with
 | .int .i64 n,.int .i64 c=>
  if 0≤n∧n≤c∧bytes*c≤281474976710656∧c≤9223372036854775807∧zero.length=sz then
   if mu then some (.row T.n 0 n.toNat sz,T.push (.row (List.replicate c.toNat zero).flatten))
   else if n=c then some (.aq .full n.toNat (List.replicate n.toNat zero).flatten,T)else none
  else none
 |_,_=>none
def Jh(T:TH)(sz:Nat)(x y:AV):Option (AV×TH):=
 match x,mM T.ah sz y with
 | .row id o len _,some (m,news)=>
  match T.t.get id with
  | .row cs=>
   let n:=min m len
   if news.all AV.scalar∧o+n*sz≤cs.length then some (.int .i64 n,T.set id (.row (setCells cs o (news.take (n*sz)))))else none
  |_=>none
 |_,_=>none
def IL(T:TH)(kk:FK)(m k v:AV):Option TH:=
 match m with
 | .map id=>
  match T.t.get id with
  | .map es=>if plainKey kk k∧v.known then(qX kk k es 0).map fun r=>(match r with
      |some (i,_)=>T.set id (.map (es.set i (k,v)))
      |none=>T.set id (.map (es++[(k,v)])))else none
  |_=>none
 |_=>none
def NL(T:TH)(kk:FK)(m k:AV):Option TH:=
 match m with
 | .map id=>
  match T.t.get id with
  | .map es=>if plainKey kk k then(qX kk k es 0).map fun r=>(match r with
      |some (i,_)=>T.set id (.map (es.eraseIdx i))
      |none=>T)else none
  |_=>none
 |_=>none
def BQ(T:TH)(x:AV):Option (AV×TH):=
 match x with
 | .row id o len sz=>
  match T.t.get id with
  | .row cs=>if o+len*sz≤cs.length then some (.aq .dead len ((cs.drop o).take (len*sz)),T.set id .gone)else none
  |_=>none
 | .ptr id o=>
  match T.t.get id with
  | .row cs=>match qu (fun i=>T.t.get i) cs with
   |some (l,fQ)=>if fQ=id then none else some (.ptr id o,(T.set fQ .gone).set id (.row l))
   |none=>some (.av (cs.drop o),T.set id .gone)
  |_=>none
 | .aq tk len cells=>some (.aq tk len cells,T)
 | .av cs=>some (.av cs,T)
 | .agg cells=>match qu (fun i=>T.t.get i) cells with
  |some (l,id)=>some (.agg l,T.set id .gone)
  |none=>some (.agg cells,T)
 |_=>none
def text(T:TH)(e:Ext)(xs:List AV):Option (AV×TH):=
 match e,xs with
 | .Ef t,[.iface t' v]=>if t'=t then some (v,T)else none
 | .Au neg,[.ptr i o,.ptr j p]=>
  match T.t.get i,T.t.get j with
  | .row _,.row _=>if i=j then some (.bool (if neg then !(o==p)else o==p),T)else some (.bool neg,T)
  |_,_=>none
 | .clear sz zero,[.row id o len z]=>
  if len=0 then some (.aM [],T)else
  match T.t.get id with
  | .row cs=>if zero.all AV.scalar∧zero.length=sz∧o+len*sz≤cs.length then some (.aM [],T.set id (.row (setCells cs o (List.replicate len zero).flatten)))else none
  |_=>none
 | .clear _ _,[.aq _ 0 _]=>some (.aM [],T)
 | .grow sz bytes zero,[.aq .nil 0 [],.int .i64 n]=>if 0<n∧n.toNat*bytes≤281474976710656∧n≤9223372036854775807∧zero.length=sz∧0<sz then some (.row T.n 0 n.toNat sz,T.push (.row (List.replicate n.toNat zero).flatten))else none
 | .vD t,[]=>some (.ptr T.n 0,T.push (.nB t false none))
 | .vD t,[.agg [.jX,.aq .nil 0 []]]=>some (.ptr T.n 0,T.push (.nB t false none))
 |_,_=>none
def vh(r:AV×TH):AV×AH:=(r.1,r.2.ah)
theorem aqo(T:TH)(e:Ext)(xs:List AV):(text T e xs).map vh=jH T.ah e xs:=by
 have ho:∀i,T.ah.o i=T.t.get i:=fun _=>rfl;cases e with
 |stuck=>cases xs<;>rfl
 | Ef t=>
  cases xs with
  |nil=>rfl
  | cons x r=>
   cases r with
   |cons y r=>cases x<;>rfl
   | nil=>
    cases x<;>try rfl
    simp only[text,jH];split<;>rfl
 | Au neg=>
  cases xs with
  |nil=>rfl
  | cons x r=>
   cases r with
   |nil=>cases x<;>rfl
   | cons y r=>
    cases r with
    |cons z r=>cases x<;>cases y<;>rfl
    | nil=>
     cases x<;>cases y<;>try rfl
     simp only[text,jH,ho];rename_i i o j p;cases T.t.get i<;>cases T.t.get j<;>try rfl
     dsimp only;split<;>rfl
 | vD t =>
  cases xs with
  |nil=>simp[text,jH,vh]
  | cons x r=>
   by_cases hx:x = .agg [.jX,.aq .nil 0 []]∧r=[]
   · obtain⟨rfl,rfl⟩:=hx;simp[text,jH,vh]
   · have h1:text T (.vD t) (x::r)=none:=by
       unfold text;split<;>first|rfl|(exfalso;simp_all;done)|simp_all
     have h2:jH T.ah (.vD t) (x::r)=none:=by unfold jH;split<;>first|rfl|(exfalso;simp_all;done)|simp_all
     rw[h1,h2];rfl
 | grow sz bytes zero=>
  cases xs with
  |nil=>rfl
  | cons x r=>
   cases r with
   | nil=>
    cases x<;>try rfl
    rename_i tk len cells;cases tk<;>cases len<;>cases cells<;>rfl
   | cons y r=>
    cases r with
    | cons z r=>
     cases x<;>try rfl
     rename_i tk len cells;cases tk<;>cases len<;>cases cells<;>try rfl
     cases y<;>try rfl
     rename_i k n;cases k<;>rfl
    | nil=>
     cases x<;>try rfl
     rename_i tk len cells;cases tk<;>cases len<;>cases cells<;>try rfl
     cases y<;>try rfl
     rename_i k n;cases k<;>try rfl
     simp only[text,jH];split
     ·simp[vh]
     ·rfl
 | clear sz zero=>
  cases xs with
  |nil=>rfl
  | cons x r=>
   cases r with
   | cons y r=>
    cases x<;>try rfl
    rename_i tk len cells;cases len<;>rfl
   | nil =>
    cases x<;>try rfl
    · rename_i tk len cells;cases len<;>rfl
    · rename_i id o len z;simp only[text,jH,ho];split
      ·rfl
      · cases T.t.get id<;>try rfl
        dsimp only;split
        ·simp[vh]
        ·rfl
theorem anf(T:TH)(n:Nat)(x v:AV):(IM T n x v).map TH.ah=aH T.ah n x v:=by
 unfold IM aH;cases x<;>try rfl
 dsimp only;show _=match T.t.get _ with | .row cs=>_|_=>_
 split
 ·split<;>simp
 ·rfl
theorem adg(T:TH)(mu:Bool)(cells:List AV):vh (FZ T mu cells)=be T.ah mu cells:=by unfold FZ be vh;split<;>simp
theorem aof(T:TH)(mu:Bool)(n:Nat)(v:AV):(Jg T mu n v).map vh=bB T.ah mu n v:=by
 unfold Jg bB;split
 ·simp[adg]
 ·rfl
theorem amc(T:TH)(mu:Bool)(sz len:Nat)(zero:List AV)(parts:List (Nat×Nat×AV)):(HT T mu sz len zero parts).map vh=fb T.ah mu sz len zero parts:=by unfold HT fb;rw[Option.map_map];congr 1;funext cells;simp only[Function.comp,vh];split<;>simp
theorem amb(T:TH)(mu:Bool)(sz bytes:Nat)(x y:AV):(HS T mu sz bytes x y).map vh=eF T.ah mu sz bytes x y:=by
 unfold HS eF;have ho:∀i,T.ah.o i=T.t.get i:=fun _=>rfl;simp only[ho];cases hy:mM T.ah sz y with
 |none=>rfl
 | some p =>
  obtain⟨m,news⟩:=p;dsimp only;by_cases hs:news.all AV.scalar=true
  · simp only [hs,not_true_eq_false,if_false];cases x<;>try rfl
    · rename_i tk len cells;dsimp only;by_cases hm:m=0
      ·simp only[if_pos hm];rfl
      · simp only[if_neg hm];by_cases hc:¬(cells.length=len*sz∧(len+m)*bytes≤140737488355328∧len+m≤9223372036854775807)
        ·simp only[if_pos hc];rfl
        · simp only[if_neg hc];cases tk<;>cases mu<;>try (simp[vh];done)
          all_goals
           rename_i t;dsimp only;cases ht:T.t.get t<;>try rfl
           dsimp only;split<;>simp[vh]
    · rename_i id o len mr;dsimp only;cases ht:T.t.get id<;>try rfl
      dsimp only;split
      ·rfl
      · split
        ·rfl
        · split
          ·simp[vh]
          ·split<;>simp[vh]
  ·simp only[hs,not_false_eq_true,if_true];rfl
theorem ame(T:TH)(x:AV):(NM T x).map vh=BG T.ah x:=by unfold NM BG;cases x<;>simp[vh]
theorem ane(T:TH)(x:AV):(PY T x).map vh=xb T.ah x:=by
 have ho:∀i,T.ah.o i=T.t.get i:=fun _=>rfl;cases x<;>try rfl
 rename_i id off;cases off with
 |succ k=>rfl
 | zero=>
  simp only[PY,xb,ho];cases ht:T.t.get id<;>try rfl
  dsimp only;split<;>simp[vh]
theorem aoi(T:TH)(mu:Bool)(sz bytes:Nat)(zero:List AV)(len cap:AV):(Fl T mu sz bytes zero len cap).map vh=Ca T.ah mu sz bytes zero len cap:=by
 have go:∀n c:Int,(Fl T mu sz bytes zero (.int .i64 n) (.int .i64 c)).map vh=Ca T.ah mu sz bytes zero (.int .i64 n) (.int .i64 c):=by
  intro n c;simp only[Fl,Ca];by_cases h:0≤n∧n≤c∧bytes*c≤281474976710656∧c≤9223372036854775807∧zero.length=sz
  · simp only[if_pos h];by_cases hm:mu=true
    ·simp only[if_pos hm];simp[vh]
    · simp only[if_neg hm];by_cases hn:n=c
      ·simp only[if_pos hn];rfl
      ·simp only[if_neg hn];rfl
  ·simp only[if_neg h];rfl
 cases len<;>try rfl
 rename_i k n;cases k<;>try rfl
 cases cap<;>try rfl
 rename_i k c;cases k<;>try rfl
 exact go n c
theorem aog(T:TH)(sz:Nat)(x y:AV):(Jh T sz x y).map vh=IV T.ah sz x y:=by
 have ho:∀i,T.ah.o i=T.t.get i:=fun _=>rfl;unfold Jh IV;cases hy:mM T.ah sz y with
 |none=>cases x<;>rfl
 | some p=>
  cases x<;>try rfl
  rename_i id o len mr;simp only[ho];cases ht:T.t.get id<;>try rfl
  dsimp only;split<;>simp[vh]
theorem anb(T:TH)(kk:FK)(m k v:AV):(IL T kk m k v).map TH.ah=HY T.ah kk m k v:=by
 have ho:∀i,T.ah.o i=T.t.get i:=fun _=>rfl;cases m<;>try rfl
 rename_i id;simp only[IL,HY,ho];cases ht:T.t.get id<;>try rfl
 rename_i es;dsimp only;by_cases h:plainKey kk k∧v.known
 · simp only[if_pos h];cases hf:qX kk k es 0 with
   |none=>rfl
   |some r=>cases r<;>simp
 ·simp only[if_neg h];rfl
theorem amd(T:TH)(kk:FK)(m k:AV):(NL T kk m k).map TH.ah=HC T.ah kk m k:=by
 have ho:∀i,T.ah.o i=T.t.get i:=fun _=>rfl;cases m<;>try rfl
 rename_i id;simp only[NL,HC,ho];cases ht:T.t.get id<;>try rfl
 rename_i es;dsimp only;by_cases h:plainKey kk k
 · simp only[if_pos h];cases hf:qX kk k es 0 with
   |none=>rfl
   |some r=>cases r<;>simp
 ·simp only[if_neg h];rfl
theorem aaq(T:TH)(x:AV):(BQ T x).map vh=z8 T.ah x:=by
 have ho:∀i,T.ah.o i=T.t.get i:=fun _=>rfl;cases x<;>try rfl
 · rename_i id o;simp only[BQ,z8,ho];cases ht:T.t.get id<;>try rfl
   rename_i cs;dsimp only;show Option.map vh (match qu T.ah.o cs with
     |some (l,fQ)=>if fQ=id then none else some (.ptr id o,(T.set fQ .gone).set id (.row l))
     |none=>some (.av (cs.drop o),T.set id .gone))=_
   cases qu T.ah.o cs with
   |none=>simp[vh]
   | some q=>
    obtain⟨l,fQ⟩:=q;dsimp only;by_cases e:fQ=id
    ·rw[if_pos e,if_pos e];rfl
    ·rw[if_neg e,if_neg e];simp[vh]
 · rename_i id o len sz;simp only[BQ,z8,ho];cases ht:T.t.get id<;>try rfl
   dsimp only;split<;>simp[vh]
 · rename_i cells;simp only[BQ,z8];show Option.map vh (match qu T.ah.o cells with|some (l,id)=>some (.agg l,T.set id .gone)|none=>some (.agg cells,T))=_;cases qu T.ah.o cells with
   |none=>rfl
   |some q=>simp[vh]
end Rb

namespace Rb
open Go
noncomputable section
abbrev EV:=List (Nat×AV)
def g_(E:EV)(t:Nat):AV:=List.rec (motive:=fun _=>AV) .bot (fun p _ ih=>cond (Nat.beq p.1 t) p.2 ih) E
def ku(n:Nat)(E:EV)(t:Nat)(v:AV):EV:=cond (Nat.blt t n) ((t,v)::E) E
def kT(n:Nat)(E:EV)(d:Option Nat)(v:AV):EV:=
 match d with
 |some t=>ku n E t v
 |none=>E
theorem axW(a b:Nat):Nat.beq a b=decide (a=b):=by rw[Bool.eq_iff_iff];simp
theorem axX(a b:Nat):Nat.blt a b=decide (a<b):=by rw[Bool.eq_iff_iff];simp[Nat.blt];omega
theorem Me(t:Nat)(v:AV)(E:EV)(i:Nat):g_ ((t,v)::E) i=if t=i then v else g_ E i:=by show cond (Nat.beq t i) v (g_ E i)=_;rw[axW,cond_eq_ite];simp
def gl(n:Nat)(E:EV)(env:Env):Prop:=env.length=n∧∀i,g_ E i=env.getD i .bot
theorem gl.set{n:Nat}{E:EV}{env:Env}(h:gl n E env)(t:Nat)(v:AV):gl n (ku n E t v) (env.set t v):=by
 refine⟨by simp[h.1],fun i=>?_⟩;unfold ku;rw[axX,cond_eq_ite];by_cases ht:t<n
 · rw[if_pos (by simpa using ht),Me];rw[List.getD_eq_getElem?_getD,List.getElem?_set];by_cases e:t=i
   ·rw[if_pos e,if_pos e,if_pos (by rw[h.1];exact ht)];rfl
   ·rw[if_neg e,if_neg e,←List.getD_eq_getElem?_getD];exact h.2 i
 · rw[if_neg (by simpa using ht),List.set_eq_of_length_le (by rw[h.1];omega)];exact h.2 i
theorem gl.cY{n:Nat}{E:EV}{env:Env}(h:gl n E env)(d:Option Nat)(v:AV):gl n (kT n E d v) (Rb.cY env d v):=by
 cases d with
 |none=>exact h
 |some t=>exact h.set t v
def yK:List AV→Nat→EV
 |[],_=>[]
 |a::r,i=>(i,a)::yK r (i+1)
theorem SK:∀(args:List AV)(i j:Nat),g_ (yK args i) j=if j<i then .bot else args.getD (j-i) .bot
 |[],i,j=>by simp[yK,g_]
 | a :: r,i,j=>by
  rw[yK,Me,SK r (i+1) j];by_cases h:i=j
  ·subst h;simp
  · rw[if_neg h];by_cases h2:j<i
    ·rw[if_pos (by omega),if_pos h2]
    ·rw[if_neg (by omega),if_neg h2,show j-i=(j-(i+1))+1 by omega];simp
def bn.sub(E:EV):bn→bn
 | .t n=> .k (g_ E n)
 | .k v=> .k v
theorem PU{n:Nat}{E:EV}{env:Env}(h:gl n E env)(x:bn):(x.sub E).ev []=x.ev env:=by
 cases x with
 |t i=>exact h.2 i
 |k v=>rfl
def fw.sub(E:EV):fw→fw
 | .mv x=> .mv (x.sub E)
 | .pick c a b=> .pick (c.sub E) (a.sub E) (b.sub E)
 | .bin op x y=> .bin op (x.sub E) (y.sub E)
 | .beq neg x y=> .beq neg (x.sub E) (y.sub E)
 | .tf k neg x=> .tf k neg (x.sub E)
 | .qV neg ks x y=> .qV neg ks (x.sub E) (y.sub E)
 | .un op x=> .un op (x.sub E)
 | .conv k x=> .conv k (x.sub E)
 | .same x=> .same (x.sub E)
 | .uC x=> .uC (x.sub E)
 | .field off sz agg x=> .field off sz agg (x.sub E)
 | .idx l sz agg x i=> .idx l sz agg (x.sub E) (i.sub E)
 | .idxs x i=> .idxs (x.sub E) (i.sub E)
 | .uz off x=> .uz off (x.sub E)
 | .td arr sz x i=> .td arr sz (x.sub E) (i.sub E)
 | .slice sz x lo hi mx=> .slice sz (x.sub E) (lo.map (bn.sub E)) (hi.map (bn.sub E)) (mx.map (bn.sub E))
 | .uy x lo hi=> .uy (x.sub E) (lo.map (bn.sub E)) (hi.map (bn.sub E))
 | .pD t x=> .pD t (x.sub E)
 | .oG key cA=> .oG key (cA.map (bn.sub E))
 | .extract i x=> .extract i (x.sub E)
 | .build zero parts=> .build zero (parts.map fun p=>(p.1,p.2.1,p.2.2.sub E))
 | .len str x=> .len str (x.sub E)
 | .pC n=> .pC n
 | .cap x=> .cap (x.sub E)
 | .pe mx xs=> .pe mx (xs.map (bn.sub E))
 | .load n agg x=> .load n agg (x.sub E)
 | .store n x v=> .store n (x.sub E) (v.sub E)
 | .box mu n x=> .box mu n (x.sub E)
 | .alloc mu zero=> .alloc mu zero
 | .ov mu sz l zero parts=> .ov mu sz l zero (parts.map fun p=>(p.1,p.2.1,p.2.2.sub E))
 | .append mu sz bytes x y=> .append mu sz bytes (x.sub E) (y.sub E)
 | .make mu sz bytes zero l c=> .make mu sz bytes zero (l.sub E) (c.sub E)
 | .copy sz x y=> .copy sz (x.sub E) (y.sub E)
 | .oC=> .oC
 | .lookup kk zero ok m k=> .lookup kk zero ok (m.sub E) (k.sub E)
 | .pq kk m k v=> .pq kk (m.sub E) (k.sub E) (v.sub E)
 | .delete kk m k=> .delete kk (m.sub E) (k.sub E)
 | .pd m=> .pd (m.sub E)
 | .ux x=> .ux (x.sub E)
 | .pw x=> .pw (x.sub E)
 | .qe x=> .qe (x.sub E)
 | .ql x=> .ql (x.sub E)
 | .call key args=> .call key (args.map (bn.sub E))
 | .qg f args=> .qg (f.sub E) (args.map (bn.sub E))
 | .ext e xs=> .ext e (xs.map (bn.sub E))
 | .inv p9 x args=> .inv p9 (x.sub E) (args.map (bn.sub E))
theorem Mj{n:Nat}{E:EV}{env:Env}(h:gl n E env){Φ:aj}{H:AH}{K:ae}(op:fw):dk Φ [] H K (op.sub E)=dk Φ env H K op:=by
 have h1:=PU h;have hl:∀xs:List bn,iS [] (xs.map (bn.sub E))=iS env xs:=fun xs=>by simp only[iS,List.map_map];congr 1;funext x;exact h1 x
 have hp:∀xs:List (Nat×Nat×bn),mz [] (xs.map fun p=>(p.1,p.2.1,p.2.2.sub E))=mz env xs:=fun xs=>by simp only[mz,List.map_map];congr 1;funext x;simp[h1]
 have ho:∀x:Option bn,(x.map (bn.sub E)).map (bn.ev [])=x.map (bn.ev env):=fun x=>by cases x<;>simp[h1]
 cases op<;>simp only[fw.sub,dk,h1,hl,hp,ho]
abbrev uu:=EV→AH→Prop
def uO(Φ:aj)(n:Nat):List bT→EV→AH→uu→Prop
 |[],E,H,K=>K E H
 | o :: r,E,H,K=>
  match o.guard with
  |none=>dk Φ [] H (fun v H'=>uO Φ n r (kT n E o.dst v) H' K) (o.op.sub E)
  | some (s,want)=>
   aL (g_ E s) want (dk Φ [] H (fun v H'=>uO Φ n r (kT n (ku n E s (.bool want)) o.dst v) H' K) (o.op.sub (ku n E s (.bool want))))
    (uO Φ n r (kT n (ku n E s (.bool !want)) o.dst (.aM [])) H K) (uO Φ n r (kT n (ku n E s (.aM [])) o.dst (.aM [])) H K)
theorem aL.imp{v:AV}{want:Bool}{A B C A' B' C':Prop}(hA:A→A')(hB:B→B')(hC:C→C')(h:aL v want A B C):aL v want A' B' C':=by
 unfold aL at *;split at h
 · split at h
   ·rename_i hh;simp[hh,hA h]
   ·rename_i hh;simp[hh,hB h]
 ·exact hC h
 ·exact h.elim
theorem Sy{Φ:aj}(eg:rZ Φ){n:Nat}:∀{l:List bT}{E:EV}{env:Env}{H:AH}{K:uu}{Q:Env→AH→Prop},gl n E env→uO Φ n l E H K→(∀E' aU H',gl n E' aU→K E' H'→Q aU H')→qb Φ l env H Q:=by
 intro l;induction l with
 |nil=>intro E env H K Q ha h hK;exact hK _ _ _ ha h
 | cons o r ih=>
  intro E env H K Q ha h hK;simp only[uO]at h;simp only[qb];cases hg:o.guard with
  | none=>rw[hg]at h;dsimp only at h ⊢;rw[Mj ha]at h;exact DN eg (fun v H' h=>ih (ha.cY _ _) h hK) h
  | some g=>obtain⟨s,want⟩:=g;rw[hg]at h;dsimp only at h ⊢;rw[ha.2 s,Mj (ha.set s _)]at h;exact aL.imp (DN eg fun v H' h=>ih ((ha.set _ _).cY _ _) h hK) (fun h=>ih ((ha.set _ _).cY _ _) h hK) (fun h=>ih ((ha.set _ _).cY _ _) h hK) h
def FR(Φ:aj)(n:Nat)(o:bT)(E:EV)(H:AH)(K:uu):Prop:=
 match o.guard with
 |none=>dk Φ [] H (fun v H'=>K (kT n E o.dst v) H') (o.op.sub E)
 | some (s,want)=>
  aL (g_ E s) want (dk Φ [] H (fun v H'=>K (kT n (ku n E s (.bool want)) o.dst v) H') (o.op.sub (ku n E s (.bool want))))
   (K (kT n (ku n E s (.bool !want)) o.dst (.aM [])) H) (K (kT n (ku n E s (.aM [])) o.dst (.aM [])) H)
theorem aad{Φ:aj}(eg:rZ Φ){n:Nat}{o:bT}{E:EV}{env:Env}{H:AH}{K:uu}{Q:Env→AH→Prop}(ha:gl n E env)(h:FR Φ n o E H K)(hK:∀E' aU H',gl n E' aU→K E' H'→Q aU H'):ta Φ o env H Q:=by
 unfold FR at h;unfold ta;cases hg:o.guard with
 | none=>rw[hg]at h;dsimp only at h ⊢;rw[Mj ha]at h;exact DN eg (fun v H' h=>hK _ _ _ (ha.cY _ _) h) h
 | some g=>obtain⟨s,want⟩:=g;rw[hg]at h;dsimp only at h ⊢;rw[ha.2 s,Mj (ha.set s _)]at h;exact aL.imp (DN eg fun v H' h=>hK _ _ _ ((ha.set _ _).cY _ _) h) (fun h=>hK _ _ _ ((ha.set _ _).cY _ _) h) (fun h=>hK _ _ _ ((ha.set _ _).cY _ _) h) h
def AL(Φ:aj)(n:Nat)(ops:List bT):List Nat→EV→AH→uu→Prop
 |[],E,H,K=>K E H
 | i::r,E,H,K=>match ops[i]? with
  |some o=>FR Φ n o E H fun E' H'=>AL Φ n ops r E' H' K
  |none=>False
theorem aak{Φ:aj}(eg:rZ Φ){n:Nat}{ops:List bT}:∀{l:List Nat}{E:EV}{env:Env}{H:AH}{K:uu}{Q:Env→AH→Prop},gl n E env→AL Φ n ops l E H K→(∀E' aU H',gl n E' aU→K E' H'→Q aU H')→xf Φ ops l env H Q:=by
 intro l;induction l with
 |nil=>intro E env H K Q ha h hK;exact hK _ _ _ ha h
 | cons i r ih=>
  intro E env H K Q ha h hK;simp only[AL]at h;simp only[xf];split at h
  · rename_i o ho;rw[ho];exact aad eg ha h fun E' aU H' fg h'=>ih fg h' hK
  ·exact h.elim
def ER(E:EV)(H:AH)(o:bT):Prop:=
 match o.op with
 | .load n agg x=>J H n agg ((x.sub E).ev [])=some (g_ E (o.dst.getD 0))
 | .lookup kk zero ok m k=>wT H kk zero ok ((m.sub E).ev []) ((k.sub E).ev [])=some (g_ E (o.dst.getD 0))
 | .pd m=>wU H ((m.sub E).ev [])=some (g_ E (o.dst.getD 0))
 | .pw x=>abstr H ((x.sub E).ev [])=some (g_ E (o.dst.getD 0))
 |_=>True
def HX(E:EV)(H:AH)(o:bT):Prop:=
 match o.guard with
 |none=>ER E H o
 |some (s,want)=>g_ E s = .bool want→ER E H o
theorem akh{n:Nat}{E:EV}{env:Env}(ha:gl n E env){H:AH}{o:bT}(h:HX E H o):IQ env H o:=by
 have h1:=PU ha;have fin:ER E H o→Fx env H o:=by unfold ER Fx;intro h;cases ho:o.op<;>rw[ho]at h<;>dsimp only at h ⊢ <;> (try rw[h1]at h)<;>(try rw[h1]at h)<;>(try rw[ha.2]at h)<;>exact h
 unfold HX at h;unfold IQ;cases hg:o.guard with
 |none=>rw[hg]at h;exact fin h
 | some g=>obtain⟨s,want⟩:=g;rw[hg]at h;dsimp only at h ⊢;rw[ha.2]at h;exact fun hs=>fin (h hs)
def PT(ops:List bT)(E:EV)(H:AH)(X:Prop):List Nat→Prop
 |[]=>X
 |l::r=>(match ops[l]? with|some o=>HX E H o|none=>True)∧PT ops E H X r
theorem akF{n:Nat}{E:EV}{env:Env}(ha:gl n E env){ops:List bT}{H:AH}{X Y:Prop}(hX:X→Y):∀{l:List Nat},PT ops E H X l→nq ops env H Y l:=by
 intro l;induction l with
 |nil=>intro h;exact hX h
 | cons i r ih=>
  intro h;refine⟨?_,ih h.2⟩;have h1:=h.1;cases ho:ops[i]? with
  |none=>trivial
  |some o=>rw[ho]at h1;exact akh ha h1
def EY(Φ:aj)(n:Nat)(ops:List bT)(last:List Nat):List (List Nat×Nat×List Nat)→EV→AH→uu→Prop
 |[],E,H,K=>AL Φ n ops last E H K
 | (dU,e,st)::r,E,H,K=>AL Φ n ops dU E H fun E1 H1=>match ops[e]? with
  |some o=>FR Φ n o E1 H1 fun E2 H2=>PT ops E1 H2 (EY Φ n ops last r E2 H2 K) st
  |none=>False
theorem ZK{Φ:aj}(eg:rZ Φ){n:Nat}{ops:List bT}{last:List Nat}:∀{bX:List (List Nat×Nat×List Nat)}{E:EV}{env:Env}{H:AH}{K:uu}{Q:Env→AH→Prop},gl n E env→EY Φ n ops last bX E H K→(∀E' aU H',gl n E' aU→K E' H'→Q aU H')→sY Φ ops last bX env H Q:=by
 intro bX;induction bX with
 |nil=>intro E env H K Q ha h hK;exact aak eg ha h hK
 | cons p r ih=>
  obtain⟨dU,e,st⟩:=p;intro E env H K Q ha h hK;simp only[EY]at h;simp only[sY];refine aak eg ha h fun E1 e1 H1 uT h1=>?_;cases ho:ops[e]? with
  |none=>rw[ho]at h1;exact h1.elim
  | some o=>rw[ho]at h1;exact aad eg uT h1 fun E2 e2 H2 sy h2=>akF uT (fun h=>ih sy h hK) h2
def pj(E:EV)(vs:List Nat):List AV:=vs.map fun t=>g_ E t
def uw(n:Nat)(E:EV):List Nat→EV
 |[]=>E
 |t::r=>uw n (ku n E t .bot) r
def qU(n:Nat)(E:EV):List Nat→List AV→EV
 |t::r,s=>qU n (ku n E t (s.headD .bot)) r s.tail
 |[],_=>E
theorem gl.jc{n:Nat}{E:EV}{env:Env}(h:gl n E env)(vs:List Nat):pj E vs=Rb.jc env vs:=by simp only[pj,Rb.jc];congr 1;funext t;exact h.2 t
theorem gl.kJ{n:Nat}:∀(ks:List Nat){E:EV}{env:Env},gl n E env→gl n (uw n E ks) (Rb.kJ env ks)
 |[],_,_,h=>h
 |t::r,_,_,h=>gl.kJ r (h.set t _)
theorem gl.qw{n:Nat}:∀(vs:List Nat)(st:List AV){E:EV}{env:Env},gl n E env→gl n (qU n E vs st) (Rb.qw env vs st)
 |[],_,_,_,h=>h
 |t::r,st,_,_,h=>gl.qw r st.tail (h.set t _)
def kI(Φ:aj)(n:Nat):kQ→EV→AH→(pg→EV→AH→Prop)→Prop
 | .skip,E,H,Q=>Q .normal E H
 | .region ops,E,H,Q=>uO Φ n ops E H (Q .normal)
 | .draw ops _ bX last,E,H,Q=>EY Φ n ops last bX E H (Q .normal)
 | .seq a b,E,H,Q=>kI Φ n a E H fun e E' H'=>match e with
  | .normal=>kI Φ n b E' H' Q
  |e=>Q e E' H'
 | .join vs ks a b,E,H,Q=>kI Φ n a E H fun e E' H'=>match e with
  | .normal=>ak (fun st eV=>kI Φ n b (qU n (uw n E ks) vs st) eV Q) (pj E' vs) H'
  |e=>Q e E' H'
 | .cond x a b,E,H,Q=>Gd ((x.sub E).ev []) true (kI Φ n a E H Q) (kI Φ n b E H Q)
 | .block id a,E,H,Q=>kI Φ n a E H fun e E' H'=>match e with
  | .exit fQ=>if fQ=id then Q .normal E' H' else Q (.exit fQ) E' H'
  |e=>Q e E' H'
 | .loop vs ks a,E,H,Q=>
  aB (fun(s:List AV×AH) (K:List AV×AH→Prop)=>
    kI Φ n a (qU n (uw n E ks) vs s.1) s.2 fun e E' H'=>match e with
     | .normal=>K (pj E' vs,H')
     |e=>Q e E' H') (pj E vs,H)
 | .exit id,E,H,Q=>Q (.exit id) E H
 | .ret,E,H,Q=>Q .ret E H
 | .freeze t a,E,H,Q=>aJ (z8 H (g_ E t)) fun v H'=>kI Φ n a (ku n E t v) H' Q
 | .qk vs ks ops b,E,H,Q=>uO Φ n ops E H fun E' H'=>ak (fun st eV=>kI Φ n b (qU n (uw n E ks) vs st) eV Q) (pj E' vs) H'
theorem aB.imp{σ:Type}{F F':σ→(σ→Prop)→Prop}(hF:∀s K,F s K→F' s K){s:σ}(h:aB F s):aB F' s:=fun I hI=>h I fun s K hs hK=>hI s K (hF s K hs) hK
theorem ak0{Φ:aj}(eg:rZ Φ){n:Nat}:∀{c:kQ}{E:EV}{env:Env}{H:AH}{K:pg→EV→AH→Prop}{Q:pg→Env→AH→Prop},gl n E env→kI Φ n c E H K→(∀x E' aU H',gl n E' aU→K x E' H'→Q x aU H')→jR Φ c env H Q:=by
 intro c;induction c with
 |skip=>intro E env H K Q ha h hK;exact hK _ _ _ _ ha h
 |region ops=>intro E env H K Q ha h hK;exact Sy eg ha h fun _ _ _ ha h=>hK _ _ _ _ ha h
 |draw ops pr bX last=>intro E env H K Q ha h hK;exact ZK eg ha h fun _ _ _ ha h=>hK _ _ _ _ ha h
 | seq a b mF mG=>
  intro E env H K Q ha h hK;simp only[kI]at h;simp only[jR];refine mF ha h fun x E' e' H' fg h'=>?_;cases x with
  |normal=>exact mG fg h' hK
  |exit i=>exact hK _ _ _ _ fg h'
  |ret=>exact hK _ _ _ _ fg h'
 | join vs ks a b mF mG=>
  intro E env H K Q ha h hK;simp only[kI]at h;simp only[jR];refine mF ha h fun x E' e' H' fg h'=>?_;cases x with
  | normal=>dsimp only at h' ⊢;rw[fg.jc vs]at h';exact mG ((ha.kJ ks).qw vs _) h' hK
  |exit i=>exact hK _ _ _ _ fg h'
  |ret=>exact hK _ _ _ _ fg h'
 | cond x a b mF mG=>intro E env H K Q ha h hK;simp only[kI,PU ha]at h;exact Gd.mono (fun h=>mF ha h hK) (fun h=>mG ha h hK) h
 | block id a ih=>
  intro E env H K Q ha h hK;simp only[kI]at h;simp only[jR];refine ih ha h fun x E' e' H' fg h'=>?_;cases x with
  |normal=>exact hK _ _ _ _ fg h'
  | exit i=>
   dsimp only at h' ⊢;split
   ·rename_i hi;rw[if_pos hi]at h';exact hK _ _ _ _ fg h'
   ·rename_i hi;rw[if_neg hi]at h';exact hK _ _ _ _ fg h'
  |ret=>exact hK _ _ _ _ fg h'
 | loop vs ks a ih=>
  intro E env H K Q ha h hK;simp only[kI]at h;simp only[jR];rw[ha.jc vs]at h;refine aB.imp (fun s K' hs=>ih ((ha.kJ ks).qw vs s.1) hs fun x E' e' H' fg h'=>?_) h;cases x with
  |normal=>dsimp only at h' ⊢;rw[←fg.jc vs];exact h'
  |exit i=>exact hK _ _ _ _ fg h'
  |ret=>exact hK _ _ _ _ fg h'
 |exit id=>intro E env H K Q ha h hK;exact hK _ _ _ _ ha h
 |ret=>intro E env H K Q ha h hK;exact hK _ _ _ _ ha h
 | freeze t a ih=>intro E env H K Q ha h hK;simp only[kI]at h;simp only[jR];rw[ha.2 t]at h;exact aJ.mono (fun v H' h'=>ih (ha.set t v) h' hK) h
 | qk vs ks ops b ih=>intro E env H K Q ha h hK;simp only[kI]at h;simp only[jR];refine Sy eg ha h fun E' e' H' fg h'=>?_;rw[fg.jc vs]at h';exact ih ((ha.kJ ks).qw vs _) h' hK
def CE(E:EV)(H:AH):List tg→(List AV→Prop)→Prop
 |[],K=>K []
 | .tmp t::r,K=>CE E H r fun vs=>K (g_ E t::vs)
 | .cell t n agg::r,K=>Do (J H n agg (g_ E t)) fun v=>CE E H r fun vs=>K (v::vs)
theorem T9{n:Nat}{E:EV}{env:Env}(ha:gl n E env){H:AH}:∀{rs:List tg}{K:List AV→Prop},CE E H rs K=xe env H rs K:=by
 intro rs;induction rs with
 |nil=>intro K;rfl
 | cons r rs ih=>
  intro K;cases r with
  |tmp t=>simp only[CE,xe,ih,ha.2]
  |cell t n agg=>simp only[CE,xe,ih,ha.2]
def bM(Φ:aj)(f:bm)(args:List AV)(H:AH)(Q:ae):Prop:=
 kI Φ f.ntmps f.body (yK args 0) H fun e E H'=>match e with
  | .exit _=>False
  |_=>CE E H' f.results fun vs=>Q (Am vs) H'
def XR(Φ:aj)(f:bm)(args:List AV)(H:AH)(Q:ae):Prop:=args.length≤f.ntmps∧bM Φ f args H Q
theorem amC{Φ:aj}(eg:rZ Φ){f:bm}{args:List AV}{H:AH}{Q:ae}(h:XR Φ f args H Q):Fc Φ f args H Q:=by
 have ha:gl f.ntmps (yK args 0) (args++List.replicate (f.ntmps-args.length) .bot):=by
  refine⟨by simp;have:=h.1;omega,fun i=>?_⟩;rw[SK];simp only[Nat.not_lt_zero,if_false,Nat.sub_zero];simp only[List.getD_eq_getElem?_getD];by_cases hi:i<args.length
  ·rw[List.getElem?_append_left hi]
  · rw[List.getElem?_append_right (by omega),List.getElem?_eq_none (by omega),List.getElem?_replicate];split<;>rfl
 refine ak0 eg ha h.2 fun x E' e' H' fg h'=>?_;cases x with
 |normal=>dsimp only at h' ⊢;rw[T9 fg]at h';exact h'
 |exit i=>exact h'
 |ret=>dsimp only at h' ⊢;rw[T9 fg]at h';exact h'
end
end Rb

namespace Rb
open Go
def XL(Φ:ff)(f:AV)(args:List AV)(T:TH)(K:lX):Bool:=
 match f with
 | .fn key cA=>Φ (uI key) (uA key args cA) T K
 |_=>false
def WL(Φ:ff)(p9:List (TypeId×Nat×Option (Nat×Bool)))(x:AV)(args:List AV)(T:TH)(K:lX):Bool:=
 match x with
 | .iface t v=>(match I3 p9 t with
   | some r=>(match JP T.ah r.2 v with
     |some u=>Φ r.1 (u::args) T K
     |none=>false)
   |none=>false)
 |_=>false
def zU(Φ:ff)(env:Env)(T:TH)(K:lX):fw→Bool
 | .mv x=>K (x.ev env) T
 | .pick c a b=>F4 (c.ev env) true (K (a.ev env) T) (K (b.ev env) T)
 | .bin op x y=>hJ (ai op (x.ev env) (y.ev env)) fun v=>K v T
 | .beq neg x y=>hJ (uF neg (x.ev env) (y.ev env)) fun v=>K v T
 | .tf k neg x=>hJ (Fy k neg (x.ev env)) fun v=>K v T
 | .qV neg ks x y=>hJ (vo neg ks (x.ev env) (y.ev env)) fun v=>K v T
 | .un op x=>hJ (eB op (x.ev env)) fun v=>K v T
 | .conv k x=>hJ (my k (x.ev env)) fun v=>K v T
 | .same x=>hJ (ET (x.ev env)) fun v=>K v T
 | .uC x=>hJ (bR (x.ev env)) fun v=>K v T
 | .field off sz agg x=>hJ (yD off sz agg (x.ev env)) fun v=>K v T
 | .idx len sz agg x i=>hJ (yX len sz agg (x.ev env) (i.ev env)) fun v=>K v T
 | .idxs x i=>hJ (oz (x.ev env) (i.ev env)) fun v=>K v T
 | .uz off x=>hJ (ab off (x.ev env)) fun v=>K v T
 | .td arr sz x i=>hJ (bj arr sz (x.ev env) (i.ev env)) fun v=>K v T
 | .slice sz x lo hi mx=>hJ (kO sz (x.ev env) (lo.map (bn.ev env)) (hi.map (bn.ev env)) (mx.map (bn.ev env))) fun v=>K v T
 | .uy x lo hi=>hJ (D3 (x.ev env) (lo.map (bn.ev env)) (hi.map (bn.ev env))) fun v=>K v T
 | .pD t x=>K (.iface t (x.ev env)) T
 | .oG key cA=>K (.fn key (iS env cA)) T
 | .extract i x=>hJ (db i (x.ev env)) fun v=>K v T
 | .build zero parts=>hJ (bJ zero (mz env parts)) fun v=>K v T
 | .len str x=>hJ (br str (x.ev env)) fun v=>K v T
 | .pC n=>K (.int .i64 n) T
 | .cap x=>hJ (Cu (x.ev env)) fun v=>K v T
 | .pe mx xs=>hJ (oY mx (iS env xs)) fun v=>K v T
 | .load n agg x=>hJ (J T.ah n agg (x.ev env)) fun v=>K v T
 | .store n x v=>hJ (IM T n (x.ev env) (v.ev env)) fun T=>K (.aM []) T
 | .box mu n x=>pt (Jg T mu n (x.ev env)) K
 | .alloc mu zero=>pt (some (FZ T mu zero)) K
 | .ov mu sz len zero parts=>pt (HT T mu sz len zero (mz env parts)) K
 | .append mu sz bytes x y=>pt (HS T mu sz bytes (x.ev env) (y.ev env)) K
 | .make mu sz bytes zero len cap=>pt (Fl T mu sz bytes zero (len.ev env) (cap.ev env)) K
 | .copy sz x y=>pt (Jh T sz (x.ev env) (y.ev env)) K
 | .oC=>K (.map T.n) (T.push (.map []))
 | .lookup kk zero ok m k=>hJ (wT T.ah kk zero ok (m.ev env) (k.ev env)) fun v=>K v T
 | .pq kk m k v=>hJ (IL T kk (m.ev env) (k.ev env) (v.ev env)) fun T=>K (.aM []) T
 | .delete kk m k=>hJ (NL T kk (m.ev env) (k.ev env)) fun T=>K (.aM []) T
 | .pd m=>hJ (wU T.ah (m.ev env)) fun v=>K v T
 | .ux x=>hJ (D2 (x.ev env)) fun v=>K v T
 | .pw x=>hJ (abstr T.ah (x.ev env)) fun v=>K v T
 | .qe x=>pt (NM T (x.ev env)) K
 | .ql x=>pt (PY T (x.ev env)) K
 | .call key args=>Φ key (iS env args) T K
 | .qg f args=>XL Φ (f.ev env) (iS env args) T K
 | .ext e xs=>pt (text T e (iS env xs)) K
 | .inv p9 x args=>WL Φ p9 (x.ev env) (iS env args) T K
def kq(Φ:aj)(B:ff):Prop:=∀k args T (K:lX),B k args T K=true→∀Q:ae,(∀v T',K v T'=true→Q v T'.ah)→Φ k args T.ah Q
theorem aat{α:Type}{x:Option α}{K:α→Bool}{P:α→Prop}(h:hJ x K=true)(hK:∀a,K a=true→P a):Do x P:=by
 cases x with
 |none=>cases h
 |some a=>exact⟨a,rfl,hK a h⟩
theorem vf{x:Option (AV×TH)}{y:Option (AV×AH)}{K:lX}{Q:ae}(hx:x.map vh=y)(h:pt x K=true)(hK:∀v T',K v T'=true→Q v T'.ah):aJ y Q:=by
 cases x with
 |none=>cases h
 |some a=>subst hx;exact⟨a.1,a.2.ah,rfl,hK _ _ h⟩
theorem Ug{x:Option TH}{y:Option AH}{K:TH→Bool}{P:AH→Prop}(hx:x.map TH.ah=y)(h:hJ x K=true)(hK:∀T',K T'=true→P T'.ah):Do y P:=by
 cases x with
 |none=>cases h
 |some a=>subst hx;exact⟨a.ah,rfl,hK _ h⟩
theorem SF{v:AV}{want:Bool}{A B:Bool}{P Q:Prop}(h:F4 v want A B=true)(hA:A=true→P)(hB:B=true→Q):Gd v want P Q:=by
 cases v<;>first|cases h|skip
 rename_i b;simp only[F4]at h;unfold Gd;dsimp only;split
 ·rename_i e;subst e;simp at h;exact hA h
 · rename_i e;have:(b ^^ want)=true:=by cases b<;>cases want<;>simp_all
   rw[this]at h;exact hB h
theorem Mi{Φ:aj}{B:ff}(hB:kq Φ B){env:Env}{T:TH}{K:lX}{op:fw}(h:zU B env T K op=true){Q:ae}(hK:∀v T',K v T'=true→Q v T'.ah):dk Φ env T.ah Q op:=by
 cases op with
 |mv=>exact hK _ _ h
 |pick=>exact SF h (hK _ _) (hK _ _)
 |pD=>exact hK _ _ h
 |oG=>exact hK _ _ h
 |pC=>exact hK _ _ h
 |store=>exact Ug (anf _ _ _ _) h fun _ h=>hK _ _ h
 |pq=>exact Ug (anb _ _ _ _ _) h fun _ h=>hK _ _ h
 |delete=>exact Ug (amd _ _ _ _) h fun _ h=>hK _ _ h
 |box=>exact vf (aof _ _ _ _) h hK
 |alloc mu zero=>exact vf (x:=some (FZ T mu zero)) (by simp only[Option.map_some,adg]) h hK
 |ov=>exact vf (amc _ _ _ _ _ _) h hK
 |append=>exact vf (amb _ _ _ _ _ _) h hK
 |make=>exact vf (aoi _ _ _ _ _ _ _) h hK
 |copy=>exact vf (aog _ _ _ _) h hK
 |oC=>have:=hK _ _ h;rw[TH.aoq]at this;exact this
 |qe=>exact vf (ame _ _) h hK
 |ql=>exact vf (ane _ _) h hK
 |call key args=>exact hB _ _ _ _ h _ hK
 | qg f args=>
  simp only[zU,XL]at h;split at h
  · rename_i key cA hf;exact⟨key,cA,hf,hB _ _ _ _ h _ hK⟩
  ·cases h
 |ext=>exact vf (aqo _ _ _) h hK
 | inv p9 x args=>
  simp only[zU,WL]at h;split at h
  · rename_i t v hx;split at h
    · rename_i r hr;split at h
      · rename_i u hu;exact⟨t,v,r,u,hx,hr,hu,hB _ _ _ _ h _ hK⟩
      ·cases h
    ·cases h
  ·cases h
 |_=>exact aat h fun _ h=>hK _ _ h
def Jm(v:AV)(want:Bool)(A B C:Bool):Bool:=
 match v with
 | .bool b=>bif Bool.xor b want then B else A
 | .aM []=>C
 |_=>false
theorem ZW{v:AV}{want:Bool}{A B C:Bool}{P Q R:Prop}(h:Jm v want A B C=true)(hA:A=true→P)(hB:B=true→Q)(hC:C=true→R):aL v want P Q R:=by
 unfold Jm at h;unfold aL;split at h
 · rename_i b;dsimp only;split
   ·rename_i e;subst e;simp at h;exact hA h
   · rename_i e;have:(b ^^ want)=true:=by cases b<;>cases want<;>simp_all
     rw[this]at h;exact hB h
 ·exact hC h
 ·cases h
noncomputable section
def xD(Φ:ff)(n:Nat):List bT→EV→TH→(EV→TH→Bool)→Bool
 |[],E,T,K=>K E T
 | o :: r,E,T,K=>
  match o.guard with
  |none=>zU Φ [] T (fun v T'=>xD Φ n r (kT n E o.dst v) T' K) (o.op.sub E)
  | some (s,want)=>
   Jm (g_ E s) want (zU Φ [] T (fun v T'=>xD Φ n r (kT n (ku n E s (.bool want)) o.dst v) T' K) (o.op.sub (ku n E s (.bool want))))
    (xD Φ n r (kT n (ku n E s (.bool !want)) o.dst (.aM [])) T K) (xD Φ n r (kT n (ku n E s (.aM [])) o.dst (.aM [])) T K)
theorem Sx{Φ:aj}{B:ff}(hB:kq Φ B){n:Nat}:∀{l:List bT}{E:EV}{T:TH}{K:EV→TH→Bool}{Q:uu},xD B n l E T K=true→(∀e T',K e T'=true→Q e T'.ah)→uO Φ n l E T.ah Q:=by
 intro l;induction l with
 |nil=>intro E T K Q h hK;exact hK _ _ h
 | cons o r ih=>
  intro E T K Q h hK;simp only[xD]at h;simp only[uO];cases hg:o.guard with
  | none=>rw[hg]at h;exact Mi hB h (Q:=fun v H'=>uO Φ n r (kT n E o.dst v) H' Q) fun v T' h'=>ih h' hK
  | some g=>obtain⟨s,want⟩:=g;rw[hg]at h;exact ZW h (fun h=>Mi hB h (Q:=fun v H'=>uO Φ n r (kT n (ku n E s (.bool want)) o.dst v) H' Q) fun v T' h'=>ih h' hK) (fun h=>ih h hK) fun h=>ih h hK
def CB(Φ:ff)(n:Nat)(o:bT)(E:EV)(T:TH)(K:EV→TH→Bool):Bool:=
 match o.guard with
 |none=>zU Φ [] T (fun v T'=>K (kT n E o.dst v) T') (o.op.sub E)
 | some (s,want)=>
  Jm (g_ E s) want (zU Φ [] T (fun v T'=>K (kT n (ku n E s (.bool want)) o.dst v) T') (o.op.sub (ku n E s (.bool want))))
   (K (kT n (ku n E s (.bool !want)) o.dst (.aM [])) T) (K (kT n (ku n E s (.aM [])) o.dst (.aM [])) T)
theorem aac{Φ:aj}{B:ff}(hB:kq Φ B){n:Nat}{o:bT}{E:EV}{T:TH}{K:EV→TH→Bool}{Q:uu}(h:CB B n o E T K=true)(hK:∀e T',K e T'=true→Q e T'.ah):FR Φ n o E T.ah Q:=by
 unfold CB at h;unfold FR;cases hg:o.guard with
 | none=>rw[hg]at h;exact Mi hB h (Q:=fun v H'=>Q (kT n E o.dst v) H') fun v T' h'=>hK _ _ h'
 | some g=>obtain⟨s,want⟩:=g;rw[hg]at h;exact ZW h (fun h=>Mi hB h (Q:=fun v H'=>Q (kT n (ku n E s (.bool want)) o.dst v) H') fun v T' h'=>hK _ _ h') (fun h=>hK _ _ h) fun h=>hK _ _ h
def CI(Φ:ff)(n:Nat)(ops:List bT):List Nat→EV→TH→(EV→TH→Bool)→Bool
 |[],E,T,K=>K E T
 | i::r,E,T,K=>match ops[i]? with
  |some o=>CB Φ n o E T fun E' T'=>CI Φ n ops r E' T' K
  |none=>false
theorem aaj{Φ:aj}{B:ff}(hB:kq Φ B){n:Nat}{ops:List bT}:∀{l:List Nat}{E:EV}{T:TH}{K:EV→TH→Bool}{Q:uu},CI B n ops l E T K=true→(∀e T',K e T'=true→Q e T'.ah)→AL Φ n ops l E T.ah Q:=by
 intro l;induction l with
 |nil=>intro E T K Q h hK;exact hK _ _ h
 | cons i r ih=>
  intro E T K Q h hK;simp only[CI]at h;simp only[AL];cases ho:ops[i]? with
  |none=>rw[ho]at h;cases h
  | some o=>rw[ho]at h;exact aac hB h (Q:=fun e H'=>AL Φ n ops r e H' Q) fun e T' h'=>ih h' hK
def xm(x:Option AV)(d:AV):Bool:=
 match x with
 |some v=>v.same d
 |none=>false
def VO(g:AV)(want:Bool)(X:Bool):Bool:=
 match g with
 | .bool b=>bif Bool.xor b want then true else X
 |_=>true
def Fi(T:TH)(E:EV)(o:bT):Bool:=
 match o.op with
 | .load n agg x=>xm (J T.ah n agg ((x.sub E).ev [])) (g_ E (o.dst.getD 0))
 | .lookup kk zero ok m k=>xm (wT T.ah kk zero ok ((m.sub E).ev []) ((k.sub E).ev [])) (g_ E (o.dst.getD 0))
 | .pd m=>xm (wU T.ah ((m.sub E).ev [])) (g_ E (o.dst.getD 0))
 | .pw x=>xm (abstr T.ah ((x.sub E).ev [])) (g_ E (o.dst.getD 0))
 |_=>true
theorem alk{x:Option AV}{d:AV}(h:xm x d=true):x=some d:=by
 unfold xm at h;split at h
 ·rw[AV.L1 _ _ h]
 ·cases h
theorem ZR{T:TH}{E:EV}{o:bT}(h:Fi T E o=true):ER E T.ah o:=by unfold Fi at h;unfold ER;cases ho:o.op<;>rw[ho]at h<;>first|trivial|exact alk h
def PS(T:TH)(E:EV)(o:bT):Bool:=
 match o.guard with
 |none=>Fi T E o
 |some (s,want)=>VO (g_ E s) want (Fi T E o)
theorem akE{T:TH}{E:EV}{o:bT}(h:PS T E o=true):HX E T.ah o:=by
 unfold PS at h;unfold HX;cases hg:o.guard with
 |none=>rw[hg]at h;exact ZR h
 | some g=>obtain⟨s,want⟩:=g;rw[hg]at h;dsimp only at h ⊢;intro hs;rw[hs]at h;simp only[VO,Bool.xor_self,cond_false]at h;exact ZR h
def EN(ops:List bT)(E:EV)(T:TH)(X:Bool):List Nat→Bool
 |[]=>X
 |l::r=>(match ops[l]? with|some o=>PS T E o|none=>true)&&EN ops E T X r
theorem akG{ops:List bT}{E:EV}{T:TH}{X:Bool}{P:Prop}(hX:X=true→P):∀{l:List Nat},EN ops E T X l=true→PT ops E T.ah P l:=by
 intro l;induction l with
 |nil=>intro h;exact hX h
 | cons i r ih=>
  intro h;simp only[EN,Bool.and_eq_true]at h;refine⟨?_,ih h.2⟩;have h1:=h.1;cases ho:ops[i]? with
  |none=>trivial
  |some o=>rw[ho]at h1;exact akE h1
def EW(Φ:ff)(n:Nat)(ops:List bT)(last:List Nat):List (List Nat×Nat×List Nat)→EV→TH→(EV→TH→Bool)→Bool
 |[],E,T,K=>CI Φ n ops last E T K
 | (dU,e,st)::r,E,T,K=>CI Φ n ops dU E T fun E1 T1=>match ops[e]? with
  |some o=>CB Φ n o E1 T1 fun E2 T2=>EN ops E1 T2 (EW Φ n ops last r E2 T2 K) st
  |none=>false
theorem ZJ{Φ:aj}{B:ff}(hB:kq Φ B){n:Nat}{ops:List bT}{last:List Nat}:∀{bX:List (List Nat×Nat×List Nat)}{E:EV}{T:TH}{K:EV→TH→Bool}{Q:uu},EW B n ops last bX E T K=true→(∀e T',K e T'=true→Q e T'.ah)→EY Φ n ops last bX E T.ah Q:=by
 intro bX;induction bX with
 |nil=>intro E T K Q h hK;exact aaj hB h hK
 | cons p r ih=>
  obtain⟨dU,e,st⟩:=p;intro E T K Q h hK;simp only[EW]at h;simp only[EY];refine aaj hB h fun e1 T1 h1=>?_;cases ho:ops[e]? with
  |none=>rw[ho]at h1;cases h1
  | some o=>rw[ho]at h1;exact aac hB h1 fun e2 T2 h2=>akG (fun h=>ih h hK) h2
def Vi{σ:Type}(F:σ→(σ→Bool)→Bool)(n:Nat):σ→Bool:=Nat.rec (motive:=fun _=>σ→Bool) (fun _=>false) (fun _ ih s=>F s ih) n
def afS(K:List AV→TH→Bool)(st:List AV)(T:TH):Bool:=K st T
def oA(Φ:ff)(fuel:Nat)(n:Nat):kQ→EV→TH→(pg→EV→TH→Bool)→Bool
 | .skip,E,T,Q=>Q .normal E T
 | .region ops,E,T,Q=>xD Φ n ops E T (Q .normal)
 | .draw ops _ bX last,E,T,Q=>EW Φ n ops last bX E T (Q .normal)
 | .seq a b,E,T,Q=>oA Φ fuel n a E T fun e E' T'=>match e with
  | .normal=>oA Φ fuel n b E' T' Q
  |e=>Q e E' T'
 | .join vs ks a b,E,T,Q=>oA Φ fuel n a E T fun e E' T'=>match e with
  | .normal=>afS (fun st Xy=>oA Φ fuel n b (qU n (uw n E ks) vs st) Xy Q) (pj E' vs) T'
  |e=>Q e E' T'
 | .cond x a b,E,T,Q=>F4 ((x.sub E).ev []) true (oA Φ fuel n a E T Q) (oA Φ fuel n b E T Q)
 | .block id a,E,T,Q=>oA Φ fuel n a E T fun e E' T'=>match e with
  | .exit fQ=>if fQ=id then Q .normal E' T' else Q (.exit fQ) E' T'
  |e=>Q e E' T'
 | .loop vs ks a,E,T,Q=>
  Vi (fun(s:List AV×TH) (K:List AV×TH→Bool)=>
    oA Φ fuel n a (qU n (uw n E ks) vs s.1) s.2 fun e E' T'=>match e with
     | .normal=>K (pj E' vs,T')
     |e=>Q e E' T') fuel (pj E vs,T)
 | .exit id,E,T,Q=>Q (.exit id) E T
 | .ret,E,T,Q=>Q .ret E T
 | .freeze t a,E,T,Q=>pt (BQ T (g_ E t)) fun v T'=>oA Φ fuel n a (ku n E t v) T' Q
 | .qk vs ks ops b,E,T,Q=>xD Φ n ops E T fun E' T'=>afS (fun st Xy=>oA Φ fuel n b (qU n (uw n E ks) vs st) Xy Q) (pj E' vs) T'
theorem akY{Φ:aj}{B:ff}(hB:kq Φ B){fuel:Nat}{n:Nat}:∀{c:kQ}{E:EV}{T:TH}{K:pg→EV→TH→Bool}{Q:pg→EV→AH→Prop},oA B fuel n c E T K=true→(∀x e T',K x e T'=true→Q x e T'.ah)→kI Φ n c E T.ah Q:=by
 intro c;induction c with
 |skip=>intro E T K Q h hK;exact hK _ _ _ h
 |region ops=>intro E T K Q h hK;exact Sx hB h fun _ _ h=>hK _ _ _ h
 |draw ops pr bX last=>intro E T K Q h hK;exact ZJ hB h fun _ _ h=>hK _ _ _ h
 | seq a b mF mG=>
  intro E T K Q h hK;simp only[oA]at h;simp only[kI];refine mF h fun x e T' h'=>?_;cases x with
  |normal=>exact mG h' hK
  |exit i=>exact hK _ _ _ h'
  |ret=>exact hK _ _ _ h'
 | join vs ks a b mF mG=>
  intro E T K Q h hK;simp only[oA]at h;simp only[kI];refine mF h fun x e T' h'=>?_;cases x with
  |normal=>exact mG h' hK
  |exit i=>exact hK _ _ _ h'
  |ret=>exact hK _ _ _ h'
 | cond x a b mF mG=>intro E T K Q h hK;exact SF h (fun h=>mF h hK) fun h=>mG h hK
 | block id a ih=>
  intro E T K Q h hK;simp only[oA]at h;simp only[kI];refine ih h fun x e T' h'=>?_;cases x with
  |normal=>exact hK _ _ _ h'
  | exit i=>
   dsimp only at h' ⊢;split
   ·rename_i hi;rw[if_pos hi]at h';exact hK _ _ _ h'
   ·rename_i hi;rw[if_neg hi]at h';exact hK _ _ _ h'
  |ret=>exact hK _ _ _ h'
 | loop vs ks a ih=>
  intro E T K Q h hK;simp only[oA]at h;simp only[kI];have main : ∀(m:Nat)(s:List AV×TH),Vi (fun(s:List AV×TH) (K':List AV×TH→Bool)=>
        oA B fuel n a (qU n (uw n E ks) vs s.1) s.2 fun e E' T'=>match e with
         | .normal=>K' (pj E' vs,T')
         |e=>K e E' T') m s=true →
      aB (fun(s:List AV×AH) (K:List AV×AH→Prop)=>
        kI Φ n a (qU n (uw n E ks) vs s.1) s.2 fun e E' H'=>match e with
         | .normal=>K (pj E' vs,H')
         |e=>Q e E' H') (s.1,s.2.ah):=by
    intro m;induction m with
    |zero=>intro s h;cases h
    | succ m ihn=>
     intro s h;refine aB.step ?_;refine ih (K:=fun e E' T'=>match e with
         | .normal=>Vi (fun(s:List AV×TH) (K':List AV×TH→Bool)=>
           oA B fuel n a (qU n (uw n E ks) vs s.1) s.2 fun e E' T'=>match e with
            | .normal=>K' (pj E' vs,T')
            |e=>K e E' T') m (pj E' vs,T')
         |e=>K e E' T') h fun x e T' h'=>?_
     cases x with
     |normal=>exact ihn _ h'
     |exit i=>exact hK _ _ _ h'
     |ret=>exact hK _ _ _ h'
  exact main fuel _ h
 |exit id=>intro E T K Q h hK;exact hK _ _ _ h
 |ret=>intro E T K Q h hK;exact hK _ _ _ h
 | freeze t a ih=>intro E T K Q h hK;exact vf (aaq _ _) h fun v T' h'=>ih h' hK
 | qk vs ks ops b ih=>intro E T K Q h hK;exact Sx hB h (Q:=fun E' H'=>ak (fun st eV=>kI Φ n b (qU n (uw n E ks) vs st) eV Q) (pj E' vs) H') fun e T' h'=>ih h' hK
def FU(E:EV)(T:TH):List tg→(List AV→Bool)→Bool
 |[],K=>K []
 | .tmp t::r,K=>FU E T r fun vs=>K (g_ E t::vs)
 | .cell t n agg::r,K=>hJ (J T.ah n agg (g_ E t)) fun v=>FU E T r fun vs=>K (v::vs)
theorem Sz{E:EV}{T:TH}:∀{rs:List tg}{K:List AV→Bool}{P:List AV→Prop},FU E T rs K=true→(∀vs,K vs=true→P vs)→CE E T.ah rs P:=by
 intro rs;induction rs with
 |nil=>intro K P h hK;exact hK _ h
 | cons r rs ih=>
  intro K P h hK;cases r with
  |tmp t=>exact ih (K:=fun vs=>K (g_ E t::vs)) h fun vs h=>hK _ h
  |cell t n agg=>exact aat h fun v h=>ih (K:=fun vs=>K (v::vs)) h fun vs h=>hK _ h
def QL(Φ:ff)(fuel:Nat)(f:bm)(args:List AV)(T:TH)(Q:lX):Bool:=
 oA Φ fuel f.ntmps f.body (yK args 0) T fun e E T'=>match e with
  | .exit _=>false
  |_=>FU E T' f.results fun vs=>Q (Am vs) T'
def XQ(Φ:ff)(fuel:Nat)(f:bm)(args:List AV)(T:TH)(Q:lX):Bool:=and (Nat.ble args.length f.ntmps) (QL Φ fuel f args T Q)
theorem amA{Φ:aj}{B:ff}(hB:kq Φ B){fuel:Nat}{f:bm}{args:List AV}{T:TH}{K:lX}(h:XQ B fuel f args T K=true){Q:ae}(hK:∀v T',K v T'=true→Q v T'.ah):XR Φ f args T.ah Q:=by
 simp only[XQ,QL,Bool.and_eq_true]at h;refine⟨Nat.le_of_ble_eq_true h.1,akY hB h.2 fun x e T' h'=>?_⟩;cases x with
 |normal=>exact Sz h' fun vs h=>hK _ _ h
 |exit i=>cases h'
 |ret=>exact Sz h' fun vs h=>hK _ _ h
end
end Rb

namespace Rb
open Go
structure Cl(Φ:aj)(T:pK):Prop where
 mono:rZ Φ
 run:∀k f,T.get k=some f→∀args H Q,XR Φ f args H Q→Φ k args H Q
theorem Cl.of{Φ:aj}{T:pK}(hm:rZ Φ)(h:Ei Φ T):Cl Φ T:=⟨hm,fun k f hk args H Q hs=>h k f hk args H Q (amC hm hs)⟩
theorem Cl.app{Φ:aj}{T U:pK}(hT:Cl Φ T)(hU:Cl Φ U):Cl Φ (T++U):=by
 refine⟨hT.mono,fun k f h args H Q hs=>?_⟩;have key:∀(T:pK),(T++U).lookup k=some f→T.lookup k=some f∨U.lookup k=some f:=by
  intro T;induction T with
  |nil=>intro h;exact .inr h
  | cons p T ih=>
   intro h;obtain⟨k',f'⟩:=p;rw[List.cons_append,List.lookup_cons]at h;rw[List.lookup_cons];split at h
   ·exact .inl h
   ·exact ih h
 rcases key T h with h|h
 ·exact hT.run k f h args H Q hs
 ·exact hU.run k f h args H Q hs
theorem Cl.call{Φ:aj}{T:pK}(hT:Cl Φ T){k:Nat}{f:bm}{args:List AV}(hk:T.get k=some f)(hn:Nat.ble args.length f.ntmps=true){H:AH}{Q:ae}(h:bM Φ f args H Q):Φ k args H Q:=hT.run k f hk args H Q ⟨Nat.le_of_ble_eq_true hn,h⟩
end Rb

namespace Rb
open Go
def Tok.free:Tok→Bool
 | .own _=>false
 |_=>true
mutual
def AV.cD:AV→Bool
 | .bool _ | .int _ _ | .str _ | .jX | .mw | .nk | .nn=>true
 | .av cs=>AV.dD cs
 | .aq tk _ cs=>tk.free&&AV.dD cs
 | .fn _ cs=>AV.dD cs
 | .iface _ v=>AV.cD v
 | .agg cs=>AV.dD cs
 | .aM cs=>AV.dD cs
 |_=>false
def AV.dD:List AV→Bool
 |[]=>true
 |c::r=>AV.cD c&&AV.dD r
end
theorem Hq:∀{cs:List AV},AV.dD cs=cs.all AV.cD
 |[]=>rfl
 |c::r=>by simp only[AV.dD,List.all_cons,Hq (cs:=r)]
theorem Bt{cs:List AV}(h:AV.dD cs=true)(j:Nat)(c:AV)(hc:cs[j]?=some c):c.cD=true:=by rw[Hq,List.all_eq_true]at h;exact h c (List.mem_of_getElem? hc)
theorem TQ{F:eG}{w w':World}{G G':cc}(hz:∀b o,G.fz b o→G'.fz b o)(hc:∀b o V,G.fz b o→w.cell? ⟨b,o,none⟩=some V→w'.cell? ⟨b,o,none⟩=some V){c:AV}{V:Value}(hf:c.cD=true)(h:VR F w G c V):VR F w' G' c V:=by
 induction h with
 |bot=>simp[AV.cD]at hf
 |bool b=>exact .bool b
 |int k n=>exact .int k n
 |str s=>exact .str s
 |jX=>exact .jX
 |ptr=>simp[AV.cD]at hf
 | av cells b o Vs h hv ih=>simp only[AV.cD]at hf;exact .av cells b o Vs (fun j c hj=>⟨hz _ _ (h j c hj).1,hc _ _ _ (h j c hj).1 (h j c hj).2⟩) fun j c hj=>ih j c hj (Bt hf j c hj)
 |lr=>exact .lr
 |lC a cap=>exact .lC a cap
 | aq tk len cells b o cap Vs ht hle h hv ih=>
  simp only[AV.cD,Bool.and_eq_true]at hf;refine .aq tk len cells b o cap Vs ?_ hle (fun j c hj=>⟨hz _ _ (h j c hj).1,hc _ _ _ (h j c hj).1 (h j c hj).2⟩) fun j c hj=>ih j c hj (Bt hf.2 j c hj);cases tk with
  |own t=>simp[Tok.free]at hf
  |nil=>exact ht
  |full=>exact ht
  |dead=>exact ht
 |row=>simp[AV.cD]at hf
 |map=>simp[AV.cD]at hf
 |mw=>exact .mw
 | fn key cA f Vs hk hF hl hv ih=>simp only[AV.cD]at hf;exact .fn key cA f Vs hk hF hl fun j c V hc hV=>ih j c V hc hV (Bt hf j c hc)
 | zr key k cA f Vs hk hF hl hv ih=>simp only[AV.cD]at hf;exact .zr key k cA f Vs hk hF hl fun j c V hc hV=>ih j c V hc hV (Bt hf j c hc)
 |nk=>exact .nk
 |iface t v V h ih=>exact .iface t v V (ih (by simpa[AV.cD]using hf))
 |nn=>exact .nn
 | agg cs Vs hl hv ih=>simp only[AV.cD]at hf;exact .agg cs Vs hl fun j c V hc hV=>ih j c V hc hV (Bt hf j c hc)
 | aM cs Vs hl hv ih=>simp only[AV.cD]at hf;exact .aM cs Vs hl fun j c V hc hV=>ih j c V hc hV (Bt hf j c hc)
def dz(C:Ctx):Prop:=∀g l,C.GT g=some l→AV.dD l=true
theorem au.aec{C:Ctx}(aw:dz C){key:Nat}{args:List AV}{Q:ae}(h:au C key args AH.mt Q)(ha:AV.dD args=true)(H:AH)(K:ae)(hK:∀v H',Q v H'→v.cD=true∧K v H):au C key args H K:=by
 refine⟨by obtain⟨v,H',hq⟩:=h.1;exact⟨v,H,(hK v H' hq).2⟩,fun f hf G w Vs hG aI eU=>?_⟩;have VA:Rel C.F w (cc.mt G.fz) AH.mt:=Rel.mt aI.nV;have U5:bo C.F w (cc.mt G.fz) args Vs:=⟨eU.1,fun j c V hc hV=>TQ (G:=G) (G':=cc.mt G.fz) (w:=w) (fun _ _ h=>h) (fun _ _ _ _ h=>h) (Bt ha j c hc) (eU.2 j c V hc hV)⟩
 have X1:tB C w (cc.mt G.fz):=fun g l hg=>TQ (G:=G) (G':=cc.mt G.fz) (w:=w) (fun _ _ h=>h) (fun _ _ _ _ h=>h) (by simp only[AV.cD];exact aw g l hg) (hG.1 g l hg);refine Calls.mono (h.2 f hf _ w Vs (hG.mt X1 fun i hi=>by cases hi) VA U5) fun e w' he=>?_;obtain⟨V,v,H',G',rfl,hQ,hv,hr,aX⟩:=he;obtain⟨pR,X2⟩:=hK v H' hQ;have hb:=aX.below;have nz:∀b o,G'.fz b o→G.fz b o∨w.heap.size≤b:=by
  intro b o hz;rcases aX.ng b o hz with h|h|⟨i,hi,_⟩
  ·exact .inl h
  ·exact .inr h
  ·cases hi
 let G2:cc:={G with fz:=fun b o=>G.fz b o∨G'.fz b o}
 have rW:∀b o V,G.fz b o→w.cell? ⟨b,o,none⟩=some V→w'.cell? ⟨b,o,none⟩=some V:=fun b o V hf hc=>by rw[World.cell?_of_block (w:=w) (hb.block b (World.block_lt_of_cell? w _ hc))];exact hc
 have hg:GLe w G w' G2:=⟨Nat.le_refl _,fun _ _=>rfl,fun _ _=>rfl,fun _ _ h=> .inl h,rW⟩
 refine⟨V,v,H,G2,rfl,X2,TQ (G:=G') (G':=G2) (w:=w') (fun _ _ h=>Or.inr h) (fun _ _ _ _ h=>h) pR hv,⟨aI.n,aI.over,fun j=>(aI.obj j).aY hg (fun hl=>aI.qv hl) (fun hl=>hb.block _ ((aI.obj j).lt hl)) fun hl o hj=>?_,aI.mQ,fun b o hf=>?_⟩,?_⟩
 · rcases hj with hj|hj
   ·exact hj
   · rcases nz _ _ hj with h|h
     ·exact h
     ·exact absurd ((aI.obj j).lt hl) (by omega)
 · rcases hf with hf|hf
   · obtain⟨V,hV⟩:=aI.nV b o hf;exact⟨V,rW b o V hf hV⟩
   ·exact hr.nV b o hf
 · exact {hg with
     size:=aX.size,os:=aX.os,tape:=aX.tape,output:=aX.output,iU:=fun k hk _=>hb.block k hk,owned:=fun i hi _=>⟨i,hi,rfl⟩
     ng :=fun b o hf=>by
      rcases hf with hf|hf
      ·exact .inl hf
      · rcases nz b o hf with h|h
        ·exact .inl h
        ·exact .inr (.inl h)}
abbrev Jz:=Nat→List AV→Option AV
def qP(Φ:aj)(M:Jz):Prop:=∀k args v,M k args=some v→∀(H:AH)(Q:ae),Q v H→Φ k args H Q
noncomputable section
def WY(M:Jz)(AD:ff→ff)(d:Nat):ff:=Nat.rec (motive:=fun _=>ff) (fun _ _ _ _=>false) (fun _ ih k args T Q=>match M k args with
  |some v=>Q v T
  |none=>AD ih k args T Q) d
def Uf(Φ:aj)(AD:ff→ff):Prop:=∀B,kq Φ B→kq Φ (AD B)
theorem al6{Φ:aj}{M:Jz}{AD:ff→ff}(hM:qP Φ M)(hd:Uf Φ AD):∀d,kq Φ (WY M AD d):=by
 intro d;induction d with
 |zero=>intro k args T K h;cases h
 | succ d ih=>
  intro k args T K h Q hQ;change (match M k args with
    |some v=>K v T
    |none=>AD (WY M AD d) k args T K)=true at h
  split at h
  · rename_i v hv;exact hM k args v hv _ _ (hQ _ _ h)
  ·exact hd _ ih k args T K h Q hQ
theorem al7{Φ:aj}{B:ff}(hB:kq Φ B){k:Nat}{args:List AV}{K:AV→Bool}(h:B k args TH.mt (fun v _=>K v)=true):Φ k args AH.mt (fun v _=>K v=true):=by have:=hB k args TH.mt _ h (fun v _=>K v=true) (fun v T' h=>h);rwa [TH.auv]at this
theorem kq.fn{Φ:aj}{T0:pK}(hT:Cl Φ T0){B:ff}(hB:kq Φ B){fuel:Nat}{k:Nat}{f:bm}{args:List AV}(hk:T0.get k=some f)(hn:Nat.ble args.length f.ntmps=true){T:TH}{K:lX}(h:QL B fuel f args T K=true){Q:ae}(hQ:∀v T',K v T'=true→Q v T'.ah):Φ k args T.ah Q:=hT.run k f hk args T.ah Q (amA hB (fuel:=fuel) (by simp only[XQ,hn,h,Bool.and_self]) hQ)
theorem kq.node{Φ:aj}{F G:ff}(m:Nat)(hF:kq Φ F)(hG:kq Φ G):kq Φ (fun k a T K=>cond (Nat.blt k m) (F k a T K) (G k a T K)):=by
 intro k a T K h Q hQ;dsimp only at h;cases hb:Nat.blt k m with
 |true=>rw[hb]at h;exact hF k a T K h Q hQ
 |false=>rw[hb]at h;exact hG k a T K h Q hQ
theorem kq.leaf{Φ:aj}{T0:pK}(hT:Cl Φ T0){B:ff}(hB:kq Φ B){n m:Nat}{key:Nat}{ir:bm}(hk:T0.get key=some ir){F:List AV→TH→lX→Bool}(hn:Nat.ble m ir.ntmps=true)
  (hF:∀a T K,F a T K=true→a.length=m∧QL B n ir a T K=true):kq Φ (fun k a T K=>cond (Nat.beq k key) (F a T K) false):=by
 intro k a T K h Q hQ;dsimp only at h;cases hb:Nat.beq k key with
 |false=>rw[hb]at h;cases h
 | true=>rw[hb]at h;obtain rfl:=Nat.eq_of_beq_eq_true hb;obtain⟨h1,h2⟩:=hF a T K h;exact kq.fn hT hB (fuel:=n) hk (by rw[h1];exact hn) h2 hQ
end
end Rb

namespace Rb
open Go
structure Hint where
 iq:Nat
 ud:List Nat
 loops:List (List Nat)
 fz:Option Nat
 mY:List TypeId:=[]
 xZ:List (Nat×List Nat):=[]
def oF(t:Nat):List Nat→Bool
 |[]=>false
 |s::r=>cond (Nat.beq t s) true (oF t r)
def ahF:List Nat→List Nat→Bool
 |[],_=>true
 |t::r,l=>cond (oF t l) (ahF r l) false
def V5(t:Nat)(l:List Nat):List Nat:=cond (oF t l) l (t::l)
def ahG:List Nat→List Nat→List Nat
 |[],l=>l
 |t::r,l=>ahG r (V5 t l)
def VD:List Nat→List Nat→List Nat
 |[],_=>[]
 |t::r,l=>cond (oF t l) (VD r l) (V5 t (VD r l))
def P5:Value→AV
 | .bool b=> .bool b
 | .int k n=> .int k n
 | .string s=> .str s.data.toList
 | .pointer none=> .jX
 | .map none=> .mw
 | .nilFunc=> .nk
 | .nilIface=> .nn
 | .slice none _ _=> .aq .nil 0 []
 |_=> .bot
def ag1:Value→AV
 | .agg Vs=> .agg (Vs.toList.map P5)
 | .tuple Vs=> .aM (Vs.toList.map P5)
 |V=>P5 V
def V6:bn:= .k .bot
def nc:fw:= .ext .stuck []
def cQ(C:Ctx):Operand→bn
 | .tmp t=> .t t
 | .const v=> .k (ag1 v)
 | .global g=>match C.GT g with|some l=> .k (.av l)|none=>V6
 | .func f=>cond (sZ C.P f) (.k (.fn f [])) V6
def afC (fs : List Field) : Bool := match fs with | [a, b] => a.name == "addr" && b.name == "buf" | _ => false
def agw(P:Program)(t:TypeId):Bool:=
 match P.underlying t with
 |some (.struct fs)=>afC fs.toList||(match fs.toList with|[f]=>(match P.underlying f.type with|some (.struct gs)=>afC gs.toList|_=>false)|_=>false)
 |_=>false
def afE:Operand→Bool
 | .const v=>(match v with | .pointer none | .slice none 0 0 | .map none | .nilFunc | .nilIface=>true|_=>false)
 |_=>false
def oH(P:Program)(t:TypeId):Nat:=match P.info? t with|some i=>i.size|none=>0
def V9(P:Program)(t:TypeId):Nat:=match P.info? t with|some i=>i.bytes|none=>0
def ahJ(P:Program)(t:TypeId):Value:=match P.info? t with|some i=>(match i.zero with|some z=>z|none=> .nilIface)|none=> .nilIface
def F3(P:Program)(t:TypeId):List AV:=(ahJ P t).cells.toList.map P5
def JB(P:Program)(t:TypeId):Bool:=match P.underlying t with|some d=>qc d|none=>false
def qq(P:Program)(t:TypeId):TypeId:=match P.underlying t with|some (.slice e)=>e|some (.array _ e)=>e|some (.map _ e)=>e|_=>0
def QU(P:Program)(t:TypeId):FK:=match P.underlying t with
 |some (.map kt _)=>(match P.underlying kt with|some .bool=> .b|some .string=> .t|_=> .n)
 |_=> .n
def Ff(C:Ctx)(name:String):List TypeId→List (TypeId×Nat×Option (Nat×Bool))
 |[]=>[]
 | t :: r=>(match C.P.info? t with
   | some i=>(match i.methods.find? (·.name==name)with
     | some mt=>(match mt.func,C.P.underlying t with
       |some (f,true),some (.pointer _)=>(t,f,none)::Ff C name r
       |some (f,false),some (.pointer e)=>(t,f,some (oH C.P e,JB C.P e))::Ff C name r
       |_,_=>Ff C name r)
     |none=>Ff C name r)
   |none=>Ff C name r)
def atP(P:Program)(t:TypeId):Bool:=match P.underlying t with|some (.int _)=>true|_=>false
def ao0(C:Ctx)(mY:List TypeId)(mu:Bool)(c:Call):fw:=
 match c.callee with
 | .value (.func f)=>cond (sZ C.P f) (.call f (c.args.toList.map (cQ C))) nc
 | .value f=> .qg (cQ C f) (c.args.toList.map (cQ C))
 | .builtin b=>
  match c.args.toList.map (cQ C),c.argTypes.toList with
  | [x],[t]=>(match b with
    | .len=>(match C.P.underlying t with|some .string=> .len true x|some (.slice _)=> .len false x|some (.array n _)=> .pC n|some (.map _ _)=> .pd x|_=>nc)
    | .cap=> .cap x
    | .max=> .pe true [x]
    | .min=> .pe false [x]
    | .clear=> .ext (.clear (oH C.P (qq C.P t)) (F3 C.P (qq C.P t))) [x]
    |_=>nc)
  | [x,y],t::_=>(match b with
    | .append=>cond (atP C.P (c.argTypes.toList.tail.headD 0)) (.ext (.grow (oH C.P (qq C.P t)) (V9 C.P (qq C.P t)) (F3 C.P (qq C.P t))) [x,y]) <| .append mu (oH C.P (qq C.P t)) (V9 C.P (qq C.P t)) x y
    | .delete=> .delete (QU C.P t) x y
    | .copy=> .copy (oH C.P (qq C.P t)) x y
    | .max=> .pe true [x,y]
    | .min=> .pe false [x,y]
    |_=>nc)
  | xs,_=>(match b with
    | .max=> .pe true xs
    | .min=> .pe false xs
    |_=>nc)
 | .invoke x name=> .inv (Ff C name mY) (cQ C x) (c.args.toList.map (cQ C))
def auK(C:Ctx)(mY:List TypeId)(mu:Bool):Op→fw
 | .move x=> .mv (cQ C x)
 | .assign x=> .mv (cQ C x)
 | .pick c a b=> .pick (cQ C c) (cQ C a) (cQ C b)
 | .binOp op t x y _=>
  match op,C.P.underlying t with
  | .eql,some d=>(match Ed d,d with
    |some k,_=>cond (afE y) (.tf k false (cQ C x)) (match k with | .p=> .ext (.Au false) [cQ C x,cQ C y]|_=>nc)
    |none,.bool=> .beq false (cQ C x) (cQ C y)
    |none,.array _ _=>(match xj C.P 9 t with|some l=> .qV false l (cQ C x) (cQ C y)|none=>nc)
    |none,.struct _=>(match xj C.P 9 t with|some l=> .qV false l (cQ C x) (cQ C y)|none=>nc)
    |none,_=> .bin op (cQ C x) (cQ C y))
  | .neq,some d=>(match Ed d,d with
    |some k,_=>cond (afE y) (.tf k true (cQ C x)) (match k with | .p=> .ext (.Au true) [cQ C x,cQ C y]|_=>nc)
    |none,.bool=> .beq true (cQ C x) (cQ C y)
    |none,.array _ _=>(match xj C.P 9 t with|some l=> .qV true l (cQ C x) (cQ C y)|none=>nc)
    |none,.struct _=>(match xj C.P 9 t with|some l=> .qV true l (cQ C x) (cQ C y)|none=>nc)
    |none,_=> .bin op (cQ C x) (cQ C y))
  |op,_=> .bin op (cQ C x) (cQ C y)
 | .unOp op _ x=> .un op (cQ C x)
 | .convert s d x=>
  match C.P.underlying s,C.P.underlying d with
  |some .string,some .string=> .same (cQ C x)
  |some .string,some (.slice _)=> .ux (cQ C x)
  |some (.slice _),some .string=> .pw (cQ C x)
  |_,some (.int k)=> .conv k (cQ C x)
  |_,_=>nc
 | .nilCheck x=> .uC (cQ C x)
 | .field t x n=>(match Ec C.P t n with|some f=> .field f.offset (oH C.P f.type) (JB C.P f.type) (cQ C x)|none=>nc)
 | .fieldAddr t x n=>(match Ec C.P t n with|some f=> .uz f.offset (cQ C x)|none=>nc)
 | .index t x i=>(match C.P.underlying t with
   |some .string=> .idxs (cQ C x) (cQ C i)
   |some (.array n e)=> .idx n (oH C.P e) (JB C.P e) (cQ C x) (cQ C i)
   |_=>nc)
 | .indexAddr t x i=>(match C.P.underlying t with
   |some (.slice e)=> .td none (oH C.P e) (cQ C x) (cQ C i)
   |some (.array n e)=> .td (some n) (oH C.P e) (cQ C x) (cQ C i)
   |_=>nc)
 | .slice t x lo hi mx=>(match C.P.underlying t with
   |some .string=> .uy (cQ C x) (lo.map (cQ C)) (hi.map (cQ C))
   |some (.slice e)=> .slice (oH C.P e) (cQ C x) (lo.map (cQ C)) (hi.map (cQ C)) (mx.map (cQ C))
   |_=>nc)
 | .makeInterface t x=> .pD t (cQ C x)
 | .makeFunc (.func f) first cA=>cond (sZ C.P f) (match first.toList with
   |[]=> .oG f (cA.toList.map (cQ C))
   |l=> .oG (f+1048576) (l.map (cQ C))) nc
 | .extract x i=> .extract i (cQ C x)
 | .build t ps=> .build (F3 C.P t) (ps.toList.map fun p=>match placeOf C.P t p.1 with|some (o,s)=>(o,s,cQ C p.2)|none=>(0,0,V6))
 | .buildSlice t len ps=> .ov mu (oH C.P (qq C.P t)) len (F3 C.P (qq C.P t)) (ps.toList.map fun p=>(p.1*oH C.P (qq C.P t),oH C.P (qq C.P t),cQ C p.2))
 | .load t x=> .load (oH C.P t) (JB C.P t) (cQ C x)
 | .store t x v=> .store (oH C.P t) (cQ C x) (cQ C v)
 | .box t x=>cond (agw C.P t) (.ext (.vD t) [cQ C x]) (.box mu (oH C.P t) (cQ C x))
 | .alloc t=>cond (agw C.P t) (.ext (.vD t) []) (.alloc mu (F3 C.P t))
 | .makeSlice t l c=> .make mu (oH C.P (qq C.P t)) (V9 C.P (qq C.P t)) (F3 C.P (qq C.P t)) (cQ C l) (cQ C c)
 | .range _ x=> .qe (cQ C x)
 | .next x true=> .ql (cQ C x)
 | .makeMap _ _=> .oC
 | .lookup t m k ok=> .lookup (QU C.P t) (ag1 (ahJ C.P (qq C.P t))) ok (cQ C m) (cQ C k)
 | .mapUpdate t m k v=> .pq (QU C.P t) (cQ C m) (cQ C k) (cQ C v)
 | .insert t m k v=> .pq (QU C.P t) (cQ C m) (cQ C k) (cQ C v)
 | .typeAssert x _ t ok=>cond ok nc (.ext (.Ef t) [cQ C x])
 | .call c=>ao0 C mY mu c
 |_=>nc
def ag2:List Oper→Nat→Option Nat
 |[],_=>none
 |o::r,i=>match i with|0=>o.dst|i+1=>ag2 r i
def Up(C:Ctx)(mY:List TypeId)(ud:List Nat)(all:List Oper):List Oper→List bT
 |[]=>[]
 |o::r=>⟨o.dst,auK C mY (match o.dst with|some d=>oF d ud|none=>false) o.op,match o.guard with|some (j,want)=>(match ag2 all j with|some s=>some (s,want)|none=>none)|none=>none⟩::Up C mY ud all r
def WU:List Edge→List Nat
 |[]=>[]
 |e::r=>cond (Region.binds .any e) (V5 e.on (WU r)) (WU r)
def ahz:List (List Nat)→Nat→List Nat
 |[],_=>[]
 |l::r,i=>match i with|0=>l|i+1=>ahz r i
def ahB:List (List Nat)→List Nat→List Nat→List Nat
 |pr,acc,[]=>acc
 |pr,acc,e::r=>ahB pr (ahG (ahz pr e) acc) r
def ahC:List (List Nat)→List Oper→List (List Nat)
 |pr,[]=>pr
 |pr,o::r=>let es:=WU o.after.toList;ahC (pr++[ahB pr es es]) r
structure DR where
 i:Nat
 pr:List Nat
 k:Nat
 al:Bool
def drs(ops:List bT)(pr:List (List Nat)):Nat→List bT→List (List Nat)→List DR
 |i,o::r,p::q=>⟨i,p,cond (mj o.op) 2 (cond (la o.op) 1 0),mA ops pr i⟩::drs ops pr (i+1) r q
 |_,_,_=>[]
def FY:List DR→List Nat→List Nat→List Nat×List Nat
 |[],done,out=>(done,out.reverse)
 |d::r,done,out=>cond (Nat.beq d.k 0) (FY r done out) (cond (oF d.i done) (FY r done out) (cond (ahF d.pr done) (FY r (d.i::done) (d.i::out)) (FY r done out)))
def JC:List DR→List Nat→List Nat→List DR
 |[],_,_=>[]
 |d::r,pr,seq=>cond d.al (cond (oF d.i pr) (cond (oF d.i seq) (JC r pr seq) (d::JC r pr seq)) (JC r pr seq)) (JC r pr seq)
def QK(all:List DR):List DR→List Nat→List DR
 |[],seq=>all.filter fun d=>d.al&&!oF d.i seq
 |d::r,seq=>cond (Nat.beq d.k 0) (cond d.al (QK all r seq) (let a:=JC all d.pr seq;a++d::QK all r (d.i::(a.map DR.i++seq)))) (QK all r seq)
def LG:List DR→List Nat→List Nat→List Nat
 |[],_,_=>[]
 |d::r,done,pr=>cond (Nat.beq d.k 1) (cond (oF d.i done) (cond (oF d.i pr) (LG r done pr) (d.i::LG r done pr)) (LG r done pr)) (LG r done pr)
def agC(all:List DR):List DR→List Nat→List (List Nat×Nat×List Nat)×List Nat
 |[],done=>([],(FY all done []).2)
 |e::r,done=>let s:=FY all done [];let q:=agC all r (e.i::s.1);((s.2,e.i,LG all s.1 e.pr)::q.1,q.2)
def ao1(ops:List Oper)(al:List bT):kQ:=
 let pr:=ahC [] ops;let ds:=drs al pr 0 al pr;let p:=agC ds (QK ds ds []) []
 .draw al pr p.1 p.2
def axs(t:Nat)(o:bT):Bool:=match o.op with | .mv (.t s)=>Nat.beq s t|_=>false
def isDst(l:List Nat)(o:bT):Bool:=match o.dst with|some d=>oF d l|none=>false
def Wd:List (Nat×List Nat)→Nat→List Nat
 |[],_=>[]
 |(i,l)::r,id=>cond (Nat.beq i id) l (Wd r id)
def Wc:List Nat→kQ→kQ
 |[],c=>c
 |t::r,c=> .freeze t (Wc r c)
def Cv(C:Ctx)(mY:List TypeId)(ud:List Nat)(fz:Option Nat)(xZ:List (Nat×List Nat))(res:List Nat):Code→List (List Nat)→kQ×List (List Nat)
 | .skip,h=>(.skip,h)
 | .region id ops false,h=>
  let al:=Up C mY ud ops.toList ops.toList
  (Wc (Wd xZ id) (match fz with
    |none=> .region al
    |some t=>cond (al.any (axs t)&&al.any (isDst res)) (.freeze t (.region al)) (.region al)),h)
 | .region id ops true,h=>(Wc (Wd xZ id) (ao1 ops.toList (Up C mY ud ops.toList ops.toList)),h)
 | .seq a b,h=>let p:=Cv C mY ud fz xZ res a h;let q:=Cv C mY ud fz xZ res b p.2;(.seq p.1 q.1,q.2)
 | .cond c a b,h=>let p:=Cv C mY ud fz xZ res a h;let q:=Cv C mY ud fz xZ res b p.2;(.cond (cQ C c) p.1 q.1,q.2)
 | .block id a,h=>let p:=Cv C mY ud fz xZ res a h;(.block id p.1,p.2)
 | .loop a,h=>let p:=Cv C mY ud fz xZ res a h.tail;(.loop (h.headD []) (VD (jr p.1) (h.headD [])) p.1,p.2)
 | .exit id,h=>(.exit id,h)
 | .ret,h=>(.ret,h)
 |_,h=>(.exit 0,h)
def WX:List ResultVar→List Nat
 |[]=>[]
 | .tmp t::r=>t::WX r
 | .cell t _::r=>t::WX r
def Uq(P:Program):List ResultVar→List tg
 |[]=>[]
 | .tmp t::r=> .tmp t::Uq P r
 | .cell t ty::r=> .cell t (oH P ty) (JB P ty)::Uq P r
def bI(C:Ctx)(h:Hint):bm:=
 match C.P.funcs[h.iq]? with
 |some fn=>⟨fn.ntmps,Uq C.P fn.results.toList,match fn.body with|some c=>(Cv C h.mY h.ud h.fz h.xZ (WX fn.results.toList) c h.loops).1|none=> .skip⟩
 |none=>⟨0,[],.exit 0⟩
def zK(P:Program)(GT:Nat→Option (List AV)):Ctx:=⟨P,fun k=>cond (sZ P k) (some k) none,GT⟩
theorem acd(P:Program)(GT:Nat→Option (List AV)):xN (zK P GT):=by
 intro key f hf;simp only[zK]at hf;cases hg:sZ P key with
 |true=>rw[hg]at hf;simp only[cond_true,Option.some.injEq]at hf;subst hf;exact hg
 |false=>rw[hg]at hf;cases hf
def sa(C:Ctx):List Hint→Bool
 |[]=>true
 |h::r=>and (FA C h.iq (bI C h)) (sa C r)
theorem aa0{C:Ctx}:∀{L:List Hint},sa C L=true→∀h,h∈L→FA C h.iq (bI C h)=true
 |[],_,h,hm=>by cases hm
 | p::r,hc,h,hm=>by
  simp only[sa,Bool.and_eq_true]at hc;rcases List.mem_cons.1 hm with rfl|hm
  ·exact hc.1
  ·exact aa0 hc.2 h hm
theorem Mt{C:Ctx}:∀{L M:List Hint},sa C L=true→sa C M=true→sa C (L++M)=true
 |[],_,_,h=>h
 | p::r,M,hc,h=>by simp only[sa,Bool.and_eq_true]at hc;simp only[List.cons_append,sa,Bool.and_eq_true];exact⟨hc.1,Mt hc.2 h⟩
end Rb

namespace Rb
open Go
noncomputable section
theorem nb(a b:Nat):Nat.beq a b=decide (a=b):=by rw[Bool.eq_iff_iff];simp
theorem nl(a b:Nat):Nat.blt a b=decide (a<b):=by rw[Bool.eq_iff_iff];simp[Nat.blt];omega
theorem ne'(a b:Nat):Nat.ble a b=decide (a≤b):=by rw[Bool.eq_iff_iff];simp
def AX{α β:Type}(f:α→β)(a:α):β:=f a
def WS{α:Type}(l:List α):Nat→Option α:=List.rec (motive:=fun _=>Nat→Option α) (fun _=>none) (fun x _ ih n=>Nat.rec (motive:=fun _=>Option α) (some x) (fun m _=>AX ih m) n) l
theorem T4{α:Type}:∀(l:List α)(n:Nat),WS l n=l[n]?
 |[],n=>by cases n<;>rfl
 |x::r,0=>rfl
 |x::r,n+1=>by rw[List.getElem?_cons_succ,←T4 r n];rfl
def P9{α:Type}(n:Nat):List α→List α:=Nat.rec (motive:=fun _=>List α→List α) (fun l=>l) (fun _ ih l=>List.rec (motive:=fun _=>List α) [] (fun _ t _=>AX ih t) l) n
theorem Hv{α:Type}:∀(n:Nat)(l:List α),P9 n l=l.drop n
 |0,l=>rfl
 |n+1,[]=>rfl
 |n+1,x::r=>by rw[List.drop_succ_cons,←Hv n r];rfl
def YT{α:Type}(n:Nat):List α→Bool:=Nat.rec (motive:=fun _=>List α→Bool) (fun _=>true) (fun _ ih l=>List.rec (motive:=fun _=>Bool) false (fun _ t _=>AX ih t) l) n
theorem Va{α:Type}:∀(n:Nat)(l:List α),YT n l=decide (n≤l.length)
 |0,l=>by simp;rfl
 |n+1,[]=>by simp;rfl
 |n+1,x::r=>by rw[List.length_cons,show decide (n+1≤r.length+1)=decide (n≤r.length) by simp,←Va n r];rfl
def kN:IntKind→Nat
 | .i8=>0 | .i16=>1 | .i32=>2 | .i64=>3 | .u8=>4 | .u16=>5 | .u32=>6 | .u64=>7
def YP(k k':IntKind):Bool:=Nat.beq (kN k) (kN k')
theorem atQ{k k':IntKind}(h:YP k k'=true):k=k':=by revert h;cases k<;>cases k'<;>decide
def gu:IntKind→Nat
 | .i8=>128 | .i16=>32768 | .i32=>2147483648 | .i64=>9223372036854775808 | .u8=>256 | .u16=>65536 | .u32=>4294967296 | .u64=>18446744073709551616
theorem D0{k:IntKind}{m:Nat}(h:m<gu k):k.wrap (Int.ofNat m)=Int.ofNat m:=by have hm:(Int.ofNat m)=(m:Int):=rfl;rw[hm];cases k<;>simp only[gu]at h<;>simp only[IntKind.wrap,IntKind.bits,IntKind.signed]<;>simp<;>omega
def asNat(v:AV)(d:Option AV)(f:IntKind→Nat→Option AV):Option AV:=
 match v with
 | .int k n=>(match n with | .ofNat m=>f k m | .negSucc _=>d)
 |_=>d
theorem DW{v:AV}{d:Option AV}{f:IntKind→Nat→Option AV}(h:∀k m,v = .int k (.ofNat m)→f k m=d):asNat v d f=d:=by
 unfold asNat;split
 · split
   ·exact h _ _ rfl
   ·rfl
 ·rfl
def q0(g:IntKind→Nat→Nat→Option AV→Option AV)(s:Option AV)(x y:AV):Option AV:=asNat x s fun k a=>asNat y s fun k' b=>cond (YP k k') (g k a b s) s
theorem an0{g:IntKind→Nat→Nat→Option AV→Option AV}{op:BinOp}(hg:∀k a b,g k a b (dV op k (.ofNat a) k (.ofNat b))=dV op k (.ofNat a) k (.ofNat b))(x y:AV):q0 g (ai op x y) x y=ai op x y:=by
 refine DW fun k a hx=>DW fun k' b hy=>?_;subst hx hy;cases h:YP k k' with
 |false=>rfl
 | true=>obtain rfl:=atQ h;exact hg k a b
def We(k:IntKind)(a b:Nat)(s:Option AV):Option AV:=cond (Nat.blt (Nat.add a b) (gu k)) (some (.int k (.ofNat (Nat.add a b)))) s
def Wp(k:IntKind)(a b:Nat)(s:Option AV):Option AV:=cond (and (Nat.ble b a) (Nat.blt a (gu k))) (some (.int k (.ofNat (Nat.sub a b)))) s
def Wl(k:IntKind)(a b:Nat)(s:Option AV):Option AV:=cond (Nat.blt (Nat.mul a b) (gu k)) (some (.int k (.ofNat (Nat.mul a b)))) s
def Wk(k:IntKind)(a b:Nat)(s:Option AV):Option AV:=some (.bool (Nat.blt a b))
def Wj(k:IntKind)(a b:Nat)(s:Option AV):Option AV:=some (.bool (Nat.ble a b))
def Wi(k:IntKind)(a b:Nat)(s:Option AV):Option AV:=some (.bool (Nat.blt b a))
def Wh(k:IntKind)(a b:Nat)(s:Option AV):Option AV:=some (.bool (Nat.ble b a))
def Wg(k:IntKind)(a b:Nat)(s:Option AV):Option AV:=some (.bool (Nat.beq a b))
def Wm(k:IntKind)(a b:Nat)(s:Option AV):Option AV:=some (.bool (not (Nat.beq a b)))
def Wn(k:IntKind)(a b:Nat)(s:Option AV):Option AV:=cond (and (Nat.blt 0 b) (Nat.blt a (gu k))) (some (.int k (.ofNat (Nat.div a b)))) s
def Wo(k:IntKind)(a b:Nat)(s:Option AV):Option AV:=cond (Nat.blt 0 b) (some (.int k (.ofNat (Nat.mod a b)))) s
def Wf(k:IntKind)(a b:Nat)(s:Option AV):Option AV:=cond (and (Nat.blt a (gu k)) (Nat.blt b (gu k))) (some (.int k (.ofNat (Nat.land a b)))) s
def XT(k:IntKind)(a b:Nat)(s:Option AV):Option AV:=cond (and (Nat.blt a (gu k)) (Nat.blt b (gu k))) (some (.int k (.ofNat (Nat.lor a b)))) s
def Wq(k:IntKind)(a b:Nat)(s:Option AV):Option AV:=cond (and (Nat.blt a (gu k)) (Nat.blt b (gu k))) (some (.int k (.ofNat (Nat.xor a b)))) s
theorem apG(k:IntKind)(a b:Nat):We k a b (dV .add k (.ofNat a) k (.ofNat b))=dV .add k (.ofNat a) k (.ofNat b):=by
 unfold We;rw[nl];by_cases h:Nat.add a b<gu k
 · simp only[h,decide_true,cond_true,dV,if_true];rw[show(Int.ofNat a+Int.ofNat b)=Int.ofNat (Nat.add a b)from rfl,D0 h]
 ·simp only[h,decide_false,cond_false]
theorem apO(k:IntKind)(a b:Nat):Wl k a b (dV .mul k (.ofNat a) k (.ofNat b))=dV .mul k (.ofNat a) k (.ofNat b):=by
 unfold Wl;rw[nl];by_cases h:Nat.mul a b<gu k
 · simp only[h,decide_true,cond_true,dV,if_true];rw[show(Int.ofNat a*Int.ofNat b)=Int.ofNat (Nat.mul a b)from rfl,D0 h]
 ·simp only[h,decide_false,cond_false]
theorem apS(k:IntKind)(a b:Nat):Wp k a b (dV .sub k (.ofNat a) k (.ofNat b))=dV .sub k (.ofNat a) k (.ofNat b):=by
 unfold Wp;rw[nl,ne'];by_cases h:b≤a∧a<gu k
 · simp only[h.1,h.2,decide_true,Bool.and_self,cond_true,dV,if_true];have:(Int.ofNat a-Int.ofNat b)=Int.ofNat (Nat.sub a b):=by
    show(a:Int)-(b:Int)=((a-b:Nat):Int);omega
   rw[this,D0 (show Nat.sub a b<gu k from Nat.lt_of_le_of_lt (Nat.sub_le _ _) h.2)]
 · have:(decide (b≤a)&&decide (a<gu k))=false:=by
     rw[Bool.eq_false_iff];intro h2;simp at h2;exact h h2
   simp only[this,cond_false]
theorem apN(k:IntKind)(a b:Nat):Wk k a b (dV .lss k (.ofNat a) k (.ofNat b))=dV .lss k (.ofNat a) k (.ofNat b):=by simp only[Wk,dV,if_true,nl];congr 2;simp
theorem apM(k:IntKind)(a b:Nat):Wj k a b (dV .leq k (.ofNat a) k (.ofNat b))=dV .leq k (.ofNat a) k (.ofNat b):=by simp only[Wj,dV,if_true,ne'];congr 2;simp
theorem apL(k:IntKind)(a b:Nat):Wi k a b (dV .gtr k (.ofNat a) k (.ofNat b))=dV .gtr k (.ofNat a) k (.ofNat b):=by simp only[Wi,dV,if_true,nl];congr 2;simp
theorem apJ(k:IntKind)(a b:Nat):Wh k a b (dV .geq k (.ofNat a) k (.ofNat b))=dV .geq k (.ofNat a) k (.ofNat b):=by simp only[Wh,dV,if_true,ne'];congr 2;simp
theorem ac2(a b:Nat):(Int.ofNat a==Int.ofNat b)=decide (a=b):=by rw[Bool.eq_iff_iff];simp;omega
theorem apI(k:IntKind)(a b:Nat):Wg k a b (dV .eql k (.ofNat a) k (.ofNat b))=dV .eql k (.ofNat a) k (.ofNat b):=by simp only[Wg,dV,if_true,nb,ac2]
theorem apP(k:IntKind)(a b:Nat):Wm k a b (dV .neq k (.ofNat a) k (.ofNat b))=dV .neq k (.ofNat a) k (.ofNat b):=by simp only[Wm,dV,if_true,nb,bne,ac2]
theorem apR(k:IntKind)(a b:Nat):Wo k a b (dV .rem k (.ofNat a) k (.ofNat b))=dV .rem k (.ofNat a) k (.ofNat b):=by
 unfold Wo;rw[nl];by_cases h:0<b
 · have hb:(Int.ofNat b)≠0:=by simp;omega
   simp only[h,decide_true,cond_true,dV,if_pos (show True∧Int.ofNat b≠0 from⟨trivial,hb⟩)];rfl
 ·simp only[h,decide_false,cond_false]
theorem apQ(k:IntKind)(a b:Nat):Wn k a b (dV .quo k (.ofNat a) k (.ofNat b))=dV .quo k (.ofNat a) k (.ofNat b):=by
 unfold Wn;rw[nl,nl];by_cases h:0<b∧a<gu k
 · have hb:(Int.ofNat b)≠0:=by have:=h.1;simp;omega
   simp only[h.1,h.2,decide_true,Bool.and_self,cond_true,dV,if_pos (show True∧Int.ofNat b≠0 from⟨trivial,hb⟩)];rw[show(Int.ofNat a).tdiv (Int.ofNat b)=Int.ofNat (Nat.div a b)from rfl,D0 (show Nat.div a b<gu k from Nat.lt_of_le_of_lt (Nat.div_le_self _ _) h.2)]
 · have:(decide (0<b)&&decide (a<gu k))=false:=by
     rw[Bool.eq_false_iff];intro h2;simp at h2;exact h h2
   simp only[this,cond_false]
theorem atU(k:IntKind):gu k≤2^k.bits:=by cases k<;>decide
theorem acW(k:IntKind):∃n,gu k=2^n:=by
 cases k
 ·exact⟨7,rfl⟩
 ·exact⟨15,rfl⟩
 ·exact⟨31,rfl⟩
 ·exact⟨63,rfl⟩
 ·exact⟨8,rfl⟩
 ·exact⟨16,rfl⟩
 ·exact⟨32,rfl⟩
 ·exact⟨64,rfl⟩
theorem Tm{op:BinOp}{f:Nat→Nat→Nat}(k:IntKind)(a b:Nat)(ha:a<gu k)(hb:b<gu k)(hf:f a b<gu k)
  (h:vp op k (.ofNat a) (.ofNat b)=some (k.wrap (((f (BitVec.ofInt k.bits (.ofNat a)).toNat (BitVec.ofInt k.bits (.ofNat b)).toNat):Nat):Int))):vp op k (.ofNat a) (.ofNat b)=some (.ofNat (f a b)):=by
 have h2:=atU k;have e:∀n:Nat,n<gu k→(BitVec.ofInt k.bits (.ofNat n)).toNat=n:=fun n hn=>by
  have:BitVec.ofInt k.bits (.ofNat n)=BitVec.ofNat k.bits n:=by simp
  rw[this,BitVec.toNat_ofNat,Nat.mod_eq_of_lt (by omega)]
 rw[h,e a ha,e b hb];exact congrArg some (D0 hf)
theorem apH(k:IntKind)(a b:Nat):Wf k a b (dV .and k (.ofNat a) k (.ofNat b))=dV .and k (.ofNat a) k (.ofNat b):=by
 unfold Wf;rw[nl,nl];by_cases h:a<gu k∧b<gu k
 · simp only[h.1,h.2,decide_true,Bool.and_self,cond_true,dV,if_true];rw[Tm (op:= .and) (f:=Nat.land) k a b h.1 h.2 (Nat.lt_of_le_of_lt Nat.and_le_left h.1) (by simp only[vp,BitVec.toNat_and];rfl)];rfl
 · have:(decide (a<gu k)&&decide (b<gu k))=false:=by
     rw[Bool.eq_false_iff];intro h2;simp at h2;exact h h2
   simp only[this,cond_false]
theorem atK(k:IntKind)(a b:Nat):XT k a b (dV .or k (.ofNat a) k (.ofNat b))=dV .or k (.ofNat a) k (.ofNat b):=by
 unfold XT;rw[nl,nl];by_cases h:a<gu k∧b<gu k
 · simp only[h.1,h.2,decide_true,Bool.and_self,cond_true,dV,if_true];have hl:Nat.lor a b<gu k:=by
    obtain⟨n,hn⟩:=acW k;rw[hn]at h ⊢;exact Nat.or_lt_two_pow h.1 h.2
   rw[Tm (op:= .or) (f:=Nat.lor) k a b h.1 h.2 hl (by simp only[vp,BitVec.toNat_or];rfl)];rfl
 · have:(decide (a<gu k)&&decide (b<gu k))=false:=by
     rw[Bool.eq_false_iff];intro h2;simp at h2;exact h h2
   simp only[this,cond_false]
theorem apU(k:IntKind)(a b:Nat):Wq k a b (dV .xor k (.ofNat a) k (.ofNat b))=dV .xor k (.ofNat a) k (.ofNat b):=by
 unfold Wq;rw[nl,nl];by_cases h:a<gu k∧b<gu k
 · simp only[h.1,h.2,decide_true,Bool.and_self,cond_true,dV,if_true];have hl:Nat.xor a b<gu k:=by
    obtain⟨n,hn⟩:=acW k;rw[hn]at h ⊢;exact Nat.xor_lt_two_pow h.1 h.2
   rw[Tm (op:= .xor) (f:=Nat.xor) k a b h.1 h.2 hl (by simp only[vp,BitVec.toNat_xor];rfl)];rfl
 · have:(decide (a<gu k)&&decide (b<gu k))=false:=by
     rw[Bool.eq_false_iff];intro h2;simp at h2;exact h h2
   simp only[this,cond_false]
structure av4 where
 f:AV→AV→Option AV
def agY:BinOp→av4
 | .add=>⟨fun x y=>q0 We (ai .add x y) x y⟩
 | .sub=>⟨fun x y=>q0 Wp (ai .sub x y) x y⟩
 | .mul=>⟨fun x y=>q0 Wl (ai .mul x y) x y⟩
 | .quo=>⟨fun x y=>q0 Wn (ai .quo x y) x y⟩
 | .rem=>⟨fun x y=>q0 Wo (ai .rem x y) x y⟩
 | .and=>⟨fun x y=>q0 Wf (ai .and x y) x y⟩
 | .or=>⟨fun x y=>q0 XT (ai .or x y) x y⟩
 | .xor=>⟨fun x y=>q0 Wq (ai .xor x y) x y⟩
 | .lss=>⟨fun x y=>q0 Wk (ai .lss x y) x y⟩
 | .leq=>⟨fun x y=>q0 Wj (ai .leq x y) x y⟩
 | .gtr=>⟨fun x y=>q0 Wi (ai .gtr x y) x y⟩
 | .geq=>⟨fun x y=>q0 Wh (ai .geq x y) x y⟩
 | .eql=>⟨fun x y=>q0 Wg (ai .eql x y) x y⟩
 | .neq=>⟨fun x y=>q0 Wm (ai .neq x y) x y⟩
 | .shl=>⟨fun x y=>ai .shl x y⟩
 | .shr=>⟨fun x y=>ai .shr x y⟩
 | .andNot=>⟨fun x y=>ai .andNot x y⟩
theorem aot(op:BinOp)(x y:AV):(agY op).f x y=ai op x y:=by cases op<;>first|rfl|exact an0 (by first|exact apG|exact apS|exact apO|exact apQ|exact apR|exact apH|exact atK|exact apU|exact apN|exact apM|exact apL|exact apJ|exact apI|exact apP) x y
def af0(k:IntKind)(x:AV):Option AV:=asNat x (my k x) fun _ m=>cond (Nat.blt m (gu k)) (some (.int k (.ofNat m))) (my k x)
theorem anv(k:IntKind)(x:AV):af0 k x=my k x:=by
 refine DW fun k' m hx=>?_;subst hx;rw[nl];by_cases h:m<gu k
 · simp only[h,decide_true,cond_true,my];rw[D0 h]
 ·simp only[h,decide_false,cond_false]
def Fk(cs:List AV)(o n:Nat)(agg:Bool):Option AV:=cond agg (cond (YT (Nat.add o n) cs) (some (.agg ((P9 o cs).take n))) none) (cond (Nat.beq n 1) (WS cs o) (cC cs o n false))
theorem ME(cs:List AV)(o n:Nat)(agg:Bool):Fk cs o n agg=cC cs o n agg:=by
 unfold Fk cC;cases agg with
 | true=>
  rw[Va,Hv];by_cases h:o+n≤cs.length
  ·rw[if_pos h];simp[show Nat.add o n=o+n from rfl,h]
  ·rw[if_neg h];simp[show Nat.add o n=o+n from rfl,h]
 | false=>
  rw[nb,T4];by_cases h1:n=1
  · subst h1;simp only[decide_true,cond_true,cond_false,Bool.false_eq_true,if_false];by_cases h:o+1≤cs.length
    ·rw[if_pos h]
    ·rw[if_neg h,List.getElem?_eq_none (by omega)]
  ·simp only[h1,decide_false,cond_false]
def U4(off sz:Nat)(agg:Bool)(x:AV):Option AV:=
 match x with
 | .agg cs=>Fk cs off sz agg
 |_=>none
theorem amy(off sz:Nat)(agg:Bool)(x:AV):U4 off sz agg x=yD off sz agg x:=by unfold U4 yD;cases x<;>first|rfl|exact ME _ _ _ _
def ahq(len sz:Nat)(agg:Bool)(x i:AV):Option AV:=asNat i (yX len sz agg x i) fun k m=>match x with
 | .agg cs=>cond (Nat.blt m len) (Fk cs (Nat.mul m sz) sz agg) none
 |_=>yX len sz agg x i
theorem apY(len sz:Nat)(agg:Bool)(x i:AV):ahq len sz agg x i=yX len sz agg x i:=by
 refine DW fun k m hi=>?_;subst hi;cases x<;>first|rfl|skip
 rename_i cs;dsimp only;rw[nl,ME];simp only[yX];by_cases h:m<len
 ·rw[if_pos ⟨Int.natCast_nonneg _,by exact Int.ofNat_lt.2 h⟩];simp only[h,decide_true,cond_true];rfl
 ·rw[if_neg (fun h2=>h (Int.ofNat_lt.1 h2.2))];simp only[h,decide_false,cond_false]
def agp(x i:AV):Option AV:=asNat i (oz x i) fun _ m=>match x with
 | .str s=>(match WS s m with|some b=>some (.int .u8 (.ofNat b.toNat))|none=>none)
 |_=>oz x i
theorem anK(x i:AV):agp x i=oz x i:=by
 refine DW fun k m hi=>?_;subst hi;cases x<;>first|rfl|skip
 rename_i s;dsimp only;rw[T4];simp only[oz];rw[if_pos (show 0≤Int.ofNat m from Int.natCast_nonneg _)];show _=Option.map _ s[m]?;cases s[m]?<;>rfl
def xc(arr:Option Nat)(sz:Nat)(x i:AV):Option AV:=asNat i (bj arr sz x i) fun _ m=>match arr,x with
 |none,.aq _ len cells=>cond (Nat.blt m len) (some (.av (P9 (Nat.mul m sz) cells))) none
 |none,.row id o len _=>cond (Nat.blt m len) (some (.ptr id (Nat.add o (Nat.mul m sz)))) none
 |some n,.ptr id o=>cond (Nat.blt m n) (some (.ptr id (Nat.add o (Nat.mul m sz)))) none
 |some n,.av cells=>cond (Nat.blt m n) (some (.av (P9 (Nat.mul m sz) cells))) none
 |_,_=>bj arr sz x i
theorem amI(arr:Option Nat)(sz:Nat)(x i:AV):xc arr sz x i=bj arr sz x i:=by
 refine DW fun k m hi=>?_;subst hi;have key:∀(n:Nat)(v:AV),cond (Nat.blt m n) (some v) none=if 0≤(Int.ofNat m)∧(Int.ofNat m)<(n:Int)then some v else none:=by
  intro n v;rw[nl];by_cases h:m<n
  ·rw[if_pos ⟨Int.natCast_nonneg _,Int.ofNat_lt.2 h⟩];simp only[h,decide_true,cond_true]
  ·rw[if_neg (fun h2=>h (Int.ofNat_lt.1 h2.2))];simp only[h,decide_false,cond_false]
 cases arr<;>cases x<;>first
  |rfl
  |(dsimp only;rw[key];simp only[Hv];rfl)
  |(dsimp only;rw[key];rfl)
def Jc(T:TH)(n:Nat)(agg:Bool)(x:AV):Option AV:=
 match x with
 | .ptr id o=>(match T.t.get id with | .row cs=>Fk cs o n agg|_=>none)
 | .av cs=>Fk cs 0 n agg
 |_=>none
theorem Tb(T:TH)(n:Nat)(agg:Bool)(x:AV):Jc T n agg x=J T.ah n agg x:=by
 unfold Jc J;cases x<;>first|rfl|skip
 · dsimp only;show _=match T.t.get _ with | .row cs=>_|_=>_
   split<;>first|rfl|exact ME _ _ _ _
 ·exact ME _ _ _ _
end
end Rb

namespace Rb
open Go
noncomputable section
def tq(m:Nat)(K:Nat→Bool):Bool:=Nat.rec (motive:=fun _=>Bool) (K 0) (fun p _=>K (Nat.succ p)) m
theorem NG(m:Nat)(K:Nat→Bool):tq m K=K m:=by cases m<;>rfl
def xg{α:Type}(l:List α):(List α→Bool)→Bool:=List.rec (motive:=fun _=>(List α→Bool)→Bool) (fun K=>K []) (fun x _ ih K=>AX ih fun r=>AX K (x::r)) l
theorem Mq{α:Type}:∀(l:List α)(K:List α→Bool),xg l K=K l
 |[],K=>rfl
 |x::r,K=>by show xg r (fun r=>K (x::r))=_;rw[Mq r]
def P_{α:Type}(n:Nat):List α→(List α→Bool)→Bool:=Nat.rec (motive:=fun _=>List α→(List α→Bool)→Bool) (fun l K=>K l) (fun _ ih l K=>List.rec (motive:=fun _=>Bool) (K []) (fun _ t _=>AX (ih t) K) l) n
theorem My{α:Type}:∀(n:Nat)(l:List α)(K:List α→Bool),P_ n l K=K (l.drop n)
 |0,l,K=>rfl
 |n+1,[],K=>rfl
 |n+1,x::r,K=>by rw[List.drop_succ_cons,←My n r K];rfl
def fv(v:AV)(K:AV→Bool):Bool:=
 match v with
 | .int k n=>(match n with | .ofNat m=>tq m fun m=>K (.int k (.ofNat m)) | .negSucc m=>tq m fun m=>K (.int k (.negSucc m)))
 | .bool b=>(match b with|true=>K (.bool true)|false=>K (.bool false))
 | .str s=>xg s fun s=>K (.str s)
 | .ptr i o=>tq i fun i=>tq o fun o=>K (.ptr i o)
 | .row i o l z=>tq i fun i=>tq o fun o=>tq l fun l=>K (.row i o l z)
 | .aq tk l cs=>tq l fun l=>xg cs fun cs=>K (.aq tk l cs)
 | .av cs=>xg cs fun cs=>K (.av cs)
 | .agg cs=>xg cs fun cs=>K (.agg cs)
 | .aM cs=>xg cs fun cs=>K (.aM cs)
 |v=>K v
theorem agj(v:AV)(K:AV→Bool):fv v K=K v:=by unfold fv;split<;>(try split)<;>simp only[NG,Mq]
def kz(x:Option AV)(K:AV→Bool):Bool:=match x with|some v=>fv v K|none=>false
theorem Ej(x:Option AV)(K:AV→Bool):kz x K=hJ x K:=by
 cases x with
 |none=>rfl
 |some v=>exact agj v K
def Kk(x:Option AV)(K:AV→Bool):Bool:=match x with|some v=>K v|none=>false
theorem adm(x:Option AV)(K:AV→Bool):Kk x K=hJ x K:=by cases x<;>rfl
def xu(E:EV)(t:Nat)(K:AV→Bool):Bool:=List.rec (motive:=fun _=>Bool) (K .bot) (fun p _ ih=>Prod.rec (motive:=fun _=>Bool) (fun s v=>Bool.rec (motive:=fun _=>Bool) ih (K v) (Nat.beq s t)) p) E
theorem Ab:∀(E:EV)(t:Nat)(K:AV→Bool),xu E t K=K (g_ E t)
 |[],t,K=>rfl
 | (s,v)::E,t,K=>by show Bool.rec (motive:=fun _=>Bool) (xu E t K) (K v) (Nat.beq s t)=K (cond (Nat.beq s t) v (g_ E t));rw[Ab E t K];cases Nat.beq s t<;>rfl
def bn.val(E:EV):bn→AV
 | .t n=>g_ E n
 | .k v=>v
def agz(E:EV):Option bn→Option AV
 |none=>none
 |some x=>some (x.val E)
def vO(E:EV):List bn→List AV
 |[]=>[]
 |x::r=>x.val E::vO E r
def VN(E:EV):List (Nat×Nat×bn)→List (Nat×Nat×AV)
 |[]=>[]
 |(a,b,x)::r=>(a,b,x.val E)::VN E r
theorem EP(E:EV)(x:bn):(x.sub E).ev []=x.val E:=by cases x<;>rfl
theorem adj(E:EV):∀xs:List bn,iS [] (xs.map (bn.sub E))=vO E xs
 |[]=>rfl
 | x::r=>by have:=adj E r;simp only[iS,List.map_cons]at this ⊢;rw[this,EP];rfl
theorem abp(E:EV):∀xs:List (Nat×Nat×bn),mz [] (xs.map fun p=>(p.1,p.2.1,p.2.2.sub E))=VN E xs
 |[]=>rfl
 | (a,b,x)::r=>by have:=abp E r;simp only[mz,List.map_cons]at this ⊢;rw[this,EP];rfl
theorem an3(E:EV)(x:Option bn):(x.map (bn.sub E)).map (bn.ev [])=agz E x:=by
 cases x with
 |none=>rfl
 |some x=>exact congrArg some (EP E x)
def eI(x:bn)(E:EV)(K:AV→Bool):Bool:=match x with | .t n=>xu E n K | .k v=>K v
theorem Eh(x:bn)(E:EV)(K:AV→Bool):eI x E K=K (x.val E):=by
 cases x with
 |t n=>exact Ab E n K
 |k v=>rfl
def yP(E:EV):List bn→(List AV→Bool)→Bool
 |[],K=>K []
 |x::r,K=>eI x E fun v=>yP E r fun vs=>K (v::vs)
theorem abB(E:EV):∀(xs:List bn)(K:List AV→Bool),yP E xs K=K (vO E xs)
 |[],K=>rfl
 |x::r,K=>by rw[yP,Eh,abB E r];rfl
def IJ(E:EV):List (Nat×Nat×bn)→(List (Nat×Nat×AV)→Bool)→Bool
 |[],K=>K []
 |(a,b,x)::r,K=>eI x E fun v=>IJ E r fun vs=>K ((a,b,v)::vs)
theorem aaQ(E:EV):∀(xs:List (Nat×Nat×bn)) (K:List (Nat×Nat×AV)→Bool),IJ E xs K=K (VN E xs)
 |[],K=>rfl
 |(a,b,x)::r,K=>by rw[IJ,Eh,aaQ E r];rfl
def Fh(E:EV)(x:Option bn)(K:Option AV→Bool):Bool:=match x with|none=>K none|some x=>eI x E fun v=>K (some v)
theorem an2(E:EV)(x:Option bn)(K:Option AV→Bool):Fh E x K=K (agz E x):=by
 cases x with
 |none=>rfl
 |some x=>exact Eh x E _
def CJ(x:dc)(f:Nat):TT→Nat→(TT→Bool)→Bool:=
 Nat.rec (motive:=fun _=>TT→Nat→(TT→Bool)→Bool) (fun t _ K=>K t)
  (fun _ ih t i K=>TT.casesOn (motive:=fun _=>Bool) t
    (cond (Nat.beq i 0) (K (.node x .leaf .leaf)) (cond (Nat.beq (Nat.mod i 2) 1) (ih .leaf (Nat.div i 2) fun l=>K (.node .gone l .leaf)) (ih .leaf (Nat.sub (Nat.div i 2) 1) fun r=>K (.node .gone .leaf r))))
    (fun a l r=>cond (Nat.beq i 0) (K (.node x l r)) (cond (Nat.beq (Nat.mod i 2) 1) (ih l (Nat.div i 2) fun l=>K (.node a l r)) (ih r (Nat.sub (Nat.div i 2) 1) fun r=>K (.node a l r))))) f
theorem ac9(x:dc):∀(f:Nat)(t:TT)(i:Nat)(K:TT→Bool),CJ x f t i K=K (TT.sb x f t i):=by
 intro f;induction f with
 |zero=>intro t i K;cases t<;>rfl
 | succ f ih=>
  intro t i K;cases t with
  | leaf=>show cond (Nat.beq i 0) (K (.node x .leaf .leaf)) (cond (Nat.beq (i%2) 1) (CJ x f .leaf (i/2) fun l=>K (.node .gone l .leaf)) (CJ x f .leaf (i/2-1) fun r=>K (.node .gone .leaf r)))=_;rw[ih,ih,TT.sb];cases Nat.beq i 0<;>cases Nat.beq (i%2) 1<;>rfl
  | node a l r=>show cond (Nat.beq i 0) (K (.node x l r)) (cond (Nat.beq (i%2) 1) (CJ x f l (i/2) fun l=>K (.node a l r)) (CJ x f r (i/2-1) fun r=>K (.node a l r)))=_;rw[ih,ih,TT.sb];cases Nat.beq i 0<;>cases Nat.beq (i%2) 1<;>rfl
def ES(T:TH)(i:Nat)(x:dc)(K:TH→Bool):Bool:=match T with|⟨n,t⟩=>CJ x (Nat.succ i) t i fun t=>K ⟨n,t⟩
theorem ano(T:TH)(i:Nat)(x:dc)(K:TH→Bool):ES T i x K=K (T.set i x):=by obtain⟨n,t⟩:=T;exact ac9 x (i+1) t i fun t=>K ⟨n,t⟩
def NQ(T:TH)(x:dc)(K:TH→Bool):Bool:=match T with|⟨n,t⟩=>CJ x (Nat.succ n) t n fun t=>tq (Nat.succ n) fun m=>K ⟨m,t⟩
theorem ami(T:TH)(x:dc)(K:TH→Bool):NQ T x K=K (T.push x):=by obtain⟨n,t⟩:=T;simp only[NQ,ac9,NG];rfl
def FQ(x:dc)(K:dc→Bool):Bool:=
 match x with
 | .row cs=>xg cs fun cs=>K (.row cs)
 | .map es=>xg es fun es=>K (.map es)
 | .tok a b=>tq a fun a=>K (.tok a b)
 | .nO s p=>tq p fun p=>K (.nO s p)
 | .nB T u b=>K (.nB T u b)
 | .zu U bs=>K (.zu U bs)
 | .gone=>K .gone
theorem aqa(x:dc)(K:dc→Bool):FQ x K=K x:=by cases x<;>simp only[FQ,Mq,NG]
def WW(n:Nat):AV→List AV→(List AV→Bool)→Bool:=Nat.rec (motive:=fun _=>AV→List AV→(List AV→Bool)→Bool) (fun v l K=>List.rec (motive:=fun _=>Bool) (K []) (fun _ t _=>K (v::t)) l) (fun _ ih v l K=>List.rec (motive:=fun _=>Bool) (K []) (fun x t _=>AX (ih v t) fun r=>AX K (x::r)) l) n
theorem ac5:∀(n:Nat)(v:AV)(l:List AV)(K:List AV→Bool),WW n v l K=K (l.set n v)
 |0,v,[],K=>rfl
 |0,v,x::t,K=>rfl
 |n+1,v,[],K=>rfl
 | n+1,v,x::t,K=>by show WW n v t (fun r=>K (x::r))=_;rw[ac5 n v t];rfl
def NR(o:Nat):List AV→List AV→(List AV→Bool)→Bool
 |[],cs,K=>K cs
 |v::r,cs,K=>WW o v cs fun cs=>NR (Nat.succ o) r cs K
theorem aaA:∀(o:Nat)(l cs:List AV)(K:List AV→Bool),NR o l cs K=K (setCells cs o l)
 |_,[],cs,K=>rfl
 |o,v::r,cs,K=>by rw[NR,ac5,aaA (Nat.succ o) r];rfl
inductive mc where
 |wr (v:AV) (i:Nat) (cs:List AV) (o:Nat) (news:List AV)
 |aY (v:AV)
 |set (v:AV) (i:Nat) (x:dc)
 |push (v:AV) (x:dc)
 |gp (v:AV) (i:Nat) (x:dc)
 |gs (v:AV) (i j:Nat) (x:dc)
def mc.app(T:TH):mc→AV×TH
 | .wr v i cs o news=>(v,T.set i (.row (setCells cs o news)))
 | .aY v=>(v,T)
 | .set v i x=>(v,T.set i x)
 | .push v x=>(v,T.push x)
 | .gp v i x=>(v,(T.set i .gone).push x)
 | .gs v i j x=>(v,(T.set i .gone).set j x)
def uQ(T:TH)(r:Option mc)(K:lX):Bool:=
 match r with
 |none=>false
 | some e=>(match e with
   | .wr v i cs o news=>fv v fun v=>xg news fun news=>NR o news cs fun cs=>ES T i (.row cs) (K v)
   | .aY v=>fv v fun v=>K v T
   | .set v i x=>fv v fun v=>FQ x fun x=>ES T i x (K v)
   | .push v x=>fv v fun v=>FQ x fun x=>NQ T x (K v)
   | .gp v i x=>fv v fun v=>FQ x fun x=>ES T i .gone fun T=>NQ T x (K v)
   | .gs v i j x=>fv v fun v=>FQ x fun x=>ES T i .gone fun T=>ES T j x (K v))
theorem adl(T:TH)(r:Option mc)(K:lX):uQ T r K=pt (r.map (mc.app T)) K:=by
 cases r with
 |none=>rfl
 |some e=>cases e<;>simp only[uQ,agj,aqa,ano,ami,Mq,aaA,Option.map_some,mc.app,pt]
def Vh(T:TH)(n:Nat)(x v:AV):Option mc:=
 match x with
 | .ptr id o=>
  match T.t.get id with
  | .row cs=>cond (and v.known (and (Nat.beq v.cells.length n) (and (v.cells.all AV.scalar) (YT (Nat.add o n) cs)))) (some (.wr (.aM []) id cs o v.cells)) none
  |_=>none
 |_=>none
theorem ana(T:TH)(n:Nat)(x v:AV):(Vh T n x v).map (mc.app T)=(IM T n x v).map fun T=>(.aM [],T):=by
 cases x with
 | ptr id o=>
  simp only[Vh,IM];cases hc:T.t.get id with
  | row cs=>
   dsimp only;rw[Va,nb];by_cases h:v.known=true∧v.cells.length=n∧v.cells.all AV.scalar=true∧o+n≤cs.length
   · rw [if_pos h];have:(v.known&&(decide (v.cells.length=n)&&(v.cells.all AV.scalar&&decide (Nat.add o n≤cs.length))))=true:=by
      simp only[h.1,h.2.1,h.2.2.1,decide_true,Bool.true_and,decide_eq_true_eq];exact h.2.2.2
     rw[this];rfl
   · rw [if_neg h];have:(v.known&&(decide (v.cells.length=n)&&(v.cells.all AV.scalar&&decide (Nat.add o n≤cs.length))))=false:=by
      rw[Bool.eq_false_iff];intro h2;simp only[Bool.and_eq_true,decide_eq_true_eq]at h2;exact h h2
     rw[this];rfl
  |_=>rfl
 |_=>rfl
def V7(T:TH)(mu:Bool)(cells:List AV):mc:=cond mu (.push (.ptr T.n 0) (.row cells)) (.aY (.av cells))
theorem abI(T:TH)(mu:Bool)(cells:List AV):(V7 T mu cells).app T=FZ T mu cells:=by cases mu<;>rfl
def Vk(T:TH)(mu:Bool)(n:Nat)(v:AV):Option mc:=if v.known∧v.cells.length=n then some (V7 T mu v.cells)else none
theorem ant(T:TH)(mu:Bool)(n:Nat)(v:AV):(Vk T mu n v).map (mc.app T)=Jg T mu n v:=by
 unfold Vk Jg;split
 ·exact congrArg some (abI _ _ _)
 ·rfl
def Tn(T:TH)(mu:Bool)(sz len:Nat)(zero:List AV)(parts:List (Nat×Nat×AV)):Option mc:=
 match qW (List.replicate len zero).flatten parts with
 |some cells=>some (cond mu (.push (.row T.n 0 len sz) (.row cells)) (.aY (.aq .full len cells)))
 |none=>none
theorem alI(T:TH)(mu:Bool)(sz len:Nat)(zero:List AV)(parts:List (Nat×Nat×AV)):(Tn T mu sz len zero parts).map (mc.app T)=HT T mu sz len zero parts:=by
 unfold Tn HT;cases qW (List.replicate len zero).flatten parts with
 |none=>rfl
 |some cells=>cases mu<;>rfl
def Tl(T:TH)(mu:Bool)(sz bytes:Nat)(x y:AV):Option mc:=
 match mM T.ah sz y with
 |none=>none
 | some (m,news)=>
  if ¬news.all AV.scalar then none else
  match x with
  | .aq tk len cells=>
   if m=0 then some (.aY (.aq tk len cells))
   else if ¬(cells.length=len*sz∧(len+m)*bytes≤140737488355328∧len+m≤9223372036854775807)then none
   else match tk,mu with
   | .nil,true | .full,true=>some (.push (.row T.n 0 (len+m) sz) (.row (cells++news)))
   | .nil,false | .full,false=>some (.push (.aq (.own T.n) (len+m) (cells++news)) (.tok ((len+m)*sz) sz))
   | .own t,_=>match T.t.get t with
    | .tok k mr=>if k=len*sz∧mr=sz then some (.gp (.aq (.own T.n) (len+m) (cells++news)) t (.tok ((len+m)*sz) sz))else none
    |_=>none
   | .dead,_=>none
  | .row id o len mr=>
   match T.t.get id with
   | .row cs=>
    if m=0 then some (.aY (.row id o len mr))
    else if ¬(o=0∧mr=sz∧(len+m)*bytes≤140737488355328∧len+m≤9223372036854775807)then none
    else if(len+m)*sz≤cs.length then some (.wr (.row id 0 (len+m) sz) id cs (len*sz) news)
    else if cs.length=len*sz then some (.gp (.row T.n 0 (len+m) sz) id (.row (cs++news)))
    else none
   |_=>none
  |_=>none
theorem alF(T:TH)(mu:Bool)(sz bytes:Nat)(x y:AV):(Tl T mu sz bytes x y).map (mc.app T)=HS T mu sz bytes x y:=by
 unfold Tl HS;cases mM T.ah sz y with
 |none=>rfl
 | some p =>
  obtain⟨m,news⟩:=p;dsimp only;split
  ·rfl
  · cases x <;> try rfl
    · rename_i tk len cells;dsimp only;split
      ·rfl
      · split
        ·rfl
        · cases tk<;>cases mu<;>try rfl
          all_goals
           rename_i t;dsimp only;generalize T.t.get t=o;cases o<;>try rfl
           dsimp only;split<;>rfl
    · rename_i id o len mr;dsimp only;generalize T.t.get id=o;cases o<;>try rfl
      dsimp only;split
      ·rfl
      · split
        ·rfl
        · split
          ·rfl
          ·split<;>rfl
def VI(T:TH)(mu:Bool)(sz bytes:Nat)(zero:List AV)(len cap:AV):Option mc:=
 match len,cap with
 | .int .i64 n,.int .i64 c=>
  if 0≤n∧n≤c∧bytes*c≤281474976710656∧c≤9223372036854775807∧zero.length=sz then
   if mu then some (.push (.row T.n 0 n.toNat sz) (.row (List.replicate c.toNat zero).flatten))
   else if n=c then some (.aY (.aq .full n.toNat (List.replicate n.toNat zero).flatten))else none
  else none
 |_,_=>none
theorem anV(T:TH)(mu:Bool)(sz bytes:Nat)(zero:List AV)(len cap:AV):(VI T mu sz bytes zero len cap).map (mc.app T)=Fl T mu sz bytes zero len cap:=by
 unfold VI Fl;cases len<;>try rfl
 rename_i k n;cases k<;>try rfl
 cases cap<;>try rfl
 rename_i k c;cases k<;>try rfl
 dsimp only;split
 · split
   ·rfl
   ·split<;>rfl
 ·rfl
def Vl(T:TH)(sz:Nat)(x y:AV):Option mc:=
 match x,mM T.ah sz y with
 | .row id o len _,some (m,news)=>
  match T.t.get id with
  | .row cs=>
   let n:=min m len
   if news.all AV.scalar∧o+n*sz≤cs.length then some (.wr (.int .i64 n) id cs o (news.take (n*sz)))else none
  |_=>none
 |_,_=>none
theorem anw(T:TH)(sz:Nat)(x y:AV):(Vl T sz x y).map (mc.app T)=Jh T sz x y:=by
 unfold Vl Jh;cases x<;>try rfl
 rename_i id o len z;cases mM T.ah sz y with
 |none=>rfl
 | some p=>
  obtain⟨m,news⟩:=p;dsimp only;generalize T.t.get id=q;cases q<;>try rfl
  dsimp only;split<;>rfl
def Vc(T:TH)(kk:FK)(m k v:AV):Option mc:=
 match m with
 | .map id=>
  match T.t.get id with
  | .map es=>if plainKey kk k∧v.known then(match qX kk k es 0 with
      |some (some (i,_))=>some (.set (.aM []) id (.map (es.set i (k,v))))
      |some none=>some (.set (.aM []) id (.map (es++[(k,v)])))
      |none=>none)else none
  |_=>none
 |_=>none
theorem amX(T:TH)(kk:FK)(m k v:AV):(Vc T kk m k v).map (mc.app T)=(IL T kk m k v).map fun T=>(.aM [],T):=by
 unfold Vc IL;cases m<;>try rfl
 rename_i id;dsimp only;generalize T.t.get id=q;cases q<;>try rfl
 rename_i es;dsimp only;split
 · cases qX kk k es 0 with
   |none=>rfl
   | some r=>
    cases r with
    |none=>rfl
    |some p=>rfl
 ·rfl
def TP(T:TH)(x:AV):Option mc:=
 match x with
 | .row id o len sz=>
  match T.t.get id with
  | .row cs=>if o+len*sz≤cs.length then some (.set (.aq .dead len ((cs.drop o).take (len*sz))) id .gone)else none
  |_=>none
 | .ptr id o=>
  match T.t.get id with
  | .row cs=>match qu (fun i=>T.t.get i) cs with
   |some (l,fQ)=>if fQ=id then none else some (.gs (.ptr id o) fQ id (.row l))
   |none=>some (.set (.av (cs.drop o)) id .gone)
  |_=>none
 | .aq tk len cells=>some (.aY (.aq tk len cells))
 | .av cs=>some (.aY (.av cs))
 | .agg cells=>match qu (fun i=>T.t.get i) cells with
  |some (l,id)=>some (.set (.agg l) id .gone)
  |none=>some (.aY (.agg cells))
 |_=>none
theorem alW(T:TH)(x:AV):(TP T x).map (mc.app T)=BQ T x:=by
 unfold TP BQ;cases x<;>try rfl
 · rename_i id o;dsimp only;generalize T.t.get id=q;cases q<;>try rfl
   rename_i cs;dsimp only;cases qu (fun i=>T.t.get i) cs with
   |none=>rfl
   | some q=>
    obtain⟨l,fQ⟩:=q;dsimp only;by_cases e:fQ=id
    ·rw[if_pos e,if_pos e];rfl
    ·rw[if_neg e,if_neg e];rfl
 · rename_i id o len sz;dsimp only;generalize T.t.get id=q;cases q<;>try rfl
   dsimp only;split<;>rfl
 · rename_i cs;dsimp only;cases qu (fun i=>T.t.get i) cs with
   |none=>rfl
   |some q=>rfl
structure OpC where
 f:ff→EV→TH→lX→Bool
structure awp where
 f:EV→AV→(EV→Bool)→Bool
structure QJ where
 f:ff→EV→TH→(EV→TH→Bool)→Bool
structure av5 where
 f:ff→EV→TH→(EV→TH→Bool)→(pg→EV→TH→Bool)→Bool
structure awn where
 f:EV→List AV→(EV→Bool)→Bool
structure agU where
 f:EV→TH→Bool→Bool
structure awo where
 f:EV→TH→(List AV→Bool)→Bool
structure Kl where
 f:ff→List AV→TH→lX→Bool
def GJ(agg:Bool)(x:Option AV)(K:AV→Bool):Bool:=cond agg (kz x K) (Kk x K)
theorem afG(agg:Bool)(x:Option AV)(K:AV→Bool):GJ agg x K=hJ x K:=by cases agg<;>simp only[GJ,cond_true,cond_false,Ej,adm]
def PM(arr:Option Nat)(sz:Nat)(x i:AV)(K:AV→Bool):Bool:=
 match x with
 | .aq _ len cells=>(match i with
   | .int _ n=>(match n with
     | .ofNat m=>(match arr with|none=>cond (Nat.blt m len) (P_ (Nat.mul m sz) cells fun r=>K (.av r)) false|some _=>kz (xc arr sz x i) K)
     |_=>kz (xc arr sz x i) K)
   |_=>kz (xc arr sz x i) K)
 | .av cells=>(match i with
   | .int _ n=>(match n with
     | .ofNat m=>(match arr with|some l=>cond (Nat.blt m l) (P_ (Nat.mul m sz) cells fun r=>K (.av r)) false|none=>kz (xc arr sz x i) K)
     |_=>kz (xc arr sz x i) K)
   |_=>kz (xc arr sz x i) K)
 |_=>kz (xc arr sz x i) K
theorem amJ(arr:Option Nat)(sz:Nat)(x i:AV)(K:AV→Bool):PM arr sz x i K=hJ (bj arr sz x i) K:=by
 rw[←amI,←Ej];cases x<;>try rfl
 · rename_i cells;cases i<;>try rfl
   rename_i k n;cases n<;>try rfl
   rename_i m;cases arr<;>try rfl
   rename_i l;rw[Ej];simp only[PM,xc,asNat,My,Hv];cases Nat.blt m l<;>rfl
 · rename_i tk len cells;cases i<;>try rfl
   rename_i k n;cases n<;>try rfl
   rename_i m;cases arr<;>try rfl
   rw[Ej];simp only[PM,xc,asNat,My,Hv];cases Nat.blt m len<;>rfl
def U3(off:Nat)(x:AV)(K:AV→Bool):Bool:=
 match x with
 | .ptr i o=>tq (Nat.add o off) fun o=>K (.ptr i o)
 | .av cs=>P_ off cs fun r=>K (.av r)
 |_=>kz (ab off x) K
theorem amw(off:Nat)(x:AV)(K:AV→Bool):U3 off x K=hJ (ab off x) K:=by
 unfold U3;split
 ·rw[NG];rfl
 ·rw[My];rfl
 ·exact Ej _ _
def RW:fw→OpC
 | .mv x=>⟨fun _ E T K=>eI x E fun v=>K v T⟩
 | .pick c a b=>⟨fun _ E T K=>eI c E fun c=>F4 c true (eI a E fun v=>K v T) (eI b E fun v=>K v T)⟩
 | .bin op x y=>⟨fun _ E T K=>eI x E fun x=>eI y E fun y=>kz ((agY op).f x y) fun v=>K v T⟩
 | .beq neg x y=>⟨fun _ E T K=>eI x E fun x=>eI y E fun y=>kz (uF neg x y) fun v=>K v T⟩
 | .tf k neg x=>⟨fun _ E T K=>eI x E fun x=>kz (Fy k neg x) fun v=>K v T⟩
 | .qV neg ks x y=>⟨fun _ E T K=>eI x E fun x=>eI y E fun y=>kz (vo neg ks x y) fun v=>K v T⟩
 | .un op x=>⟨fun _ E T K=>eI x E fun x=>kz (eB op x) fun v=>K v T⟩
 | .conv k x=>⟨fun _ E T K=>eI x E fun x=>kz (af0 k x) fun v=>K v T⟩
 | .same x=>⟨fun _ E T K=>eI x E fun x=>Kk (ET x) fun v=>K v T⟩
 | .uC x=>⟨fun _ E T K=>eI x E fun x=>Kk (bR x) fun v=>K v T⟩
 | .field off sz agg x=>⟨fun _ E T K=>eI x E fun x=>GJ agg (U4 off sz agg x) fun v=>K v T⟩
 | .idx len sz agg x i=>⟨fun _ E T K=>eI x E fun x=>eI i E fun i=>GJ agg (ahq len sz agg x i) fun v=>K v T⟩
 | .idxs x i=>⟨fun _ E T K=>eI x E fun x=>eI i E fun i=>kz (agp x i) fun v=>K v T⟩
 | .uz off x=>⟨fun _ E T K=>eI x E fun x=>U3 off x fun v=>K v T⟩
 | .td arr sz x i=>⟨fun _ E T K=>eI x E fun x=>eI i E fun i=>PM arr sz x i fun v=>K v T⟩
 | .slice sz x lo hi mx=>⟨fun _ E T K=>eI x E fun x=>Fh E lo fun lo=>Fh E hi fun hi=>Fh E mx fun mx=>kz (kO sz x lo hi mx) fun v=>K v T⟩
 | .uy x lo hi=>⟨fun _ E T K=>eI x E fun x=>Fh E lo fun lo=>Fh E hi fun hi=>kz (D3 x lo hi) fun v=>K v T⟩
 | .pD t x=>⟨fun _ E T K=>eI x E fun v=>K (.iface t v) T⟩
 | .oG key cA=>⟨fun _ E T K=>yP E cA fun vs=>K (.fn key vs) T⟩
 | .extract i x=>⟨fun _ E T K=>eI x E fun x=>Kk (db i x) fun v=>K v T⟩
 | .build zero parts=>⟨fun _ E T K=>IJ E parts fun ps=>kz (bJ zero ps) fun v=>K v T⟩
 | .len str x=>⟨fun _ E T K=>eI x E fun x=>kz (br str x) fun v=>K v T⟩
 | .pC n=>⟨fun _ E T K=>K (.int .i64 n) T⟩
 | .cap x=>⟨fun _ E T K=>eI x E fun x=>kz (Cu x) fun v=>K v T⟩
 | .pe mx xs=>⟨fun _ E T K=>yP E xs fun vs=>kz (oY mx vs) fun v=>K v T⟩
 | .load n agg x=>⟨fun _ E T K=>eI x E fun x=>GJ agg (Jc T n agg x) fun v=>K v T⟩
 | .store n x v=>⟨fun _ E T K=>eI x E fun x=>eI v E fun v=>uQ T (Vh T n x v) K⟩
 | .box mu n x=>⟨fun _ E T K=>eI x E fun x=>uQ T (Vk T mu n x) K⟩
 | .alloc mu zero=>⟨fun _ E T K=>uQ T (some (V7 T mu zero)) K⟩
 | .ov mu sz len zero parts=>⟨fun _ E T K=>IJ E parts fun ps=>uQ T (Tn T mu sz len zero ps) K⟩
 | .append mu sz bytes x y=>⟨fun _ E T K=>eI x E fun x=>eI y E fun y=>uQ T (Tl T mu sz bytes x y) K⟩
 | .make mu sz bytes zero len cap=>⟨fun _ E T K=>eI len E fun l=>eI cap E fun c=>uQ T (VI T mu sz bytes zero l c) K⟩
 | .copy sz x y=>⟨fun _ E T K=>eI x E fun x=>eI y E fun y=>uQ T (Vl T sz x y) K⟩
 | .oC=>⟨fun _ E T K=>uQ T (some (.push (.map T.n) (.map []))) K⟩
 | .lookup kk zero ok m k=>⟨fun _ E T K=>eI m E fun m=>eI k E fun k=>kz (wT T.ah kk zero ok m k) fun v=>K v T⟩
 | .pq kk m k v=>⟨fun _ E T K=>eI m E fun m=>eI k E fun k=>eI v E fun v=>uQ T (Vc T kk m k v) K⟩
 | .delete kk m k=>⟨fun _ E T K=>hJ (NL T kk (m.val E) (k.val E)) fun T=>K (.aM []) T⟩
 | .pd m=>⟨fun _ E T K=>eI m E fun m=>kz (wU T.ah m) fun v=>K v T⟩
 | .ux x=>⟨fun _ E T K=>eI x E fun x=>kz (D2 x) fun v=>K v T⟩
 | .pw x=>⟨fun _ E T K=>eI x E fun x=>kz (abstr T.ah x) fun v=>K v T⟩
 | .qe x=>⟨fun _ E T K=>pt (NM T (x.val E)) K⟩
 | .ql x=>⟨fun _ E T K=>pt (PY T (x.val E)) K⟩
 | .call key args=>⟨fun B E T K=>yP E args fun vs=>B key vs T K⟩
 | .qg f args=>⟨fun B E T K=>eI f E fun f=>yP E args fun vs=>XL B f vs T K⟩
 | .ext e xs=>⟨fun _ E T K=>yP E xs fun vs=>pt (text T e vs) K⟩
 | .inv p9 x args=>⟨fun B E T K=>eI x E fun x=>yP E args fun vs=>WL B p9 x vs T K⟩
theorem axV(x:Option TH)(K:lX):pt (x.map fun T=>(.aM [],T)) K=hJ x fun T=>K (.aM []) T:=by cases x<;>rfl
theorem afK(B:ff)(E:EV)(T:TH)(K:lX)(op:fw):(RW op).f B E T K=zU B [] T K (op.sub E):=by cases op<;>simp only[RW,fw.sub,zU,EP,adj,abp,an3,Eh,abB,aaQ,an2,Ej,adm,afG,amJ,amw,aot,anv,amy,apY,anK,Tb,adl,ana,ant,alI,alF,anV,anw,amX,axV,Option.map_some,abI]<;>rfl
def xE(n:Nat):Option Nat→awp
 |none=>⟨fun E _ K=>K E⟩
 |some d=>cond (Nat.blt d n) ⟨fun E v K=>K ((d,v)::E)⟩ ⟨fun E _ K=>K E⟩
theorem Ua(n:Nat)(d:Option Nat)(E:EV)(v:AV)(K:EV→Bool):(xE n d).f E v K=K (kT n E d v):=by
 cases d with
 |none=>rfl
 | some d=>simp only[xE,kT,ku];cases Nat.blt d n<;>rfl
def JV(n:Nat)(o:bT):QJ:=
 match o.guard with
 |none=>⟨fun B E T K=>(RW o.op).f B E T fun v T'=>(xE n o.dst).f E v fun E=>K E T'⟩
 | some (s,want)=>⟨fun B E T K=>xu E s fun g=>
     Jm g want ((xE n (some s)).f E (.bool want) fun E=>(RW o.op).f B E T fun v T'=>(xE n o.dst).f E v fun E=>K E T')
      ((xE n (some s)).f E (.bool !want) fun E=>(xE n o.dst).f E (.aM []) fun E=>K E T) ((xE n (some s)).f E (.aM []) fun E=>(xE n o.dst).f E (.aM []) fun E=>K E T)⟩
theorem T5(n:Nat)(o:bT)(B:ff)(E:EV)(T:TH)(K:EV→TH→Bool):(JV n o).f B E T K=CB B n o E T K:=by
 unfold JV CB;cases hg:o.guard with
 |none=>simp only[afK,Ua]
 |some g=>simp only[afK,Ua,kT,Ab]
def JX(n:Nat):List bT→QJ
 |[]=>⟨fun _ E T K=>K E T⟩
 |o::r=>⟨fun B E T K=>(JV n o).f B E T fun E' T'=>(JX n r).f B E' T' K⟩
theorem aqk(n:Nat):∀(l:List bT)(B:ff)(E:EV)(T:TH)(K:EV→TH→Bool),(JX n l).f B E T K=xD B n l E T K:=by
 intro l;induction l with
 |nil=>intro B E T K;rfl
 | cons o r ih=>intro B E T K;simp only[JX,T5,xD,CB,ih]
def FX(n:Nat)(ops:List bT):List Nat→QJ
 |[]=>⟨fun _ E T K=>K E T⟩
 | i::r=>match ops[i]? with
  |some o=>⟨fun B E T K=>(JV n o).f B E T fun E' T'=>(FX n ops r).f B E' T' K⟩
  |none=>⟨fun _ _ _ _=>false⟩
theorem T_(n:Nat)(ops:List bT):∀(l:List Nat)(B:ff)(E:EV)(T:TH)(K:EV→TH→Bool),(FX n ops l).f B E T K=CI B n ops l E T K:=by
 intro l;induction l with
 |nil=>intro B E T K;rfl
 | cons i r ih=>
  intro B E T K;simp only[FX,CI];cases ops[i]? with
  |none=>rfl
  |some o=>simp only[T5,ih]
def Qu(o:bT):agU:=
 match o.op with
 | .load n agg x=>⟨fun E T X=>eI x E fun x=>xu E (o.dst.getD 0) fun d=>and (xm (Jc T n agg x) d) X⟩
 | .lookup kk zero ok m k=>⟨fun E T X=>and (xm (wT T.ah kk zero ok (m.val E) (k.val E)) (g_ E (o.dst.getD 0))) X⟩
 | .pd m=>⟨fun E T X=>and (xm (wU T.ah (m.val E)) (g_ E (o.dst.getD 0))) X⟩
 | .pw x=>⟨fun E T X=>and (xm (abstr T.ah (x.val E)) (g_ E (o.dst.getD 0))) X⟩
 |_=>⟨fun _ _ X=>X⟩
theorem abq(o:bT)(E:EV)(T:TH)(X:Bool):(Qu o).f E T X=(Fi T E o&&X):=by unfold Qu Fi;cases o.op<;>simp only[EP,Bool.true_and,Eh,Ab,Tb]<;>rfl
def FW(ops:List bT):List Nat→agU
 |[]=>⟨fun _ _ X=>X⟩
 | l :: r=>match ops[l]? with
  | some o=>(match o.guard with
    |none=>⟨fun E T X=>(Qu o).f E T ((FW ops r).f E T X)⟩
    |some (s,want)=>⟨fun E T X=>and (xu E s fun g=>VO g want ((Qu o).f E T true)) ((FW ops r).f E T X)⟩)
  |none=>⟨fun E T X=>(FW ops r).f E T X⟩
theorem aqm(ops:List bT):∀(l:List Nat)(E:EV)(T:TH)(X:Bool),(FW ops l).f E T X=EN ops E T X l:=by
 intro l;induction l with
 |nil=>intro E T X;rfl
 | cons i r ih=>
  intro E T X;simp only[FW,EN];cases ops[i]? with
  |none=>simp only[ih,Bool.true_and]
  | some o=>
   simp only[PS];cases o.guard with
   |none=>simp only[ih,abq]
   |some g=>simp only[ih,abq,Bool.and_true,Ab]
def P7(n:Nat)(ops:List bT)(last:List Nat):List (List Nat×Nat×List Nat)→QJ
 |[]=>FX n ops last
 | (dU,e,st)::r=>match ops[e]? with
  |some o=>⟨fun B E T K=>(FX n ops dU).f B E T fun E1 T1=>(JV n o).f B E1 T1 fun E2 T2=>(FW ops st).f E1 T2 ((P7 n ops last r).f B E2 T2 K)⟩
  |none=>⟨fun B E T K=>(FX n ops dU).f B E T fun _ _=>false⟩
theorem anA(n:Nat)(ops:List bT)(last:List Nat):∀(l:List (List Nat×Nat×List Nat)) (B:ff) (E:EV) (T:TH) (K:EV→TH→Bool),(P7 n ops last l).f B E T K=EW B n ops last l E T K:=by
 intro l;induction l with
 |nil=>intro B E T K;exact T_ _ _ _ _ _ _ _
 | cons p r ih=>
  obtain⟨dU,e,st⟩:=p;intro B E T K;simp only[P7,EW];cases ops[e]? with
  |none=>simp only[T_]
  |some o=>simp only[T_,T5,aqm,ih]
def FT(n:Nat):List Nat→awn
 |[]=>⟨fun E _ K=>K E⟩
 |t::r=>cond (Nat.blt t n) ⟨fun E s K=>List.rec (motive:=fun _=>Bool) ((FT n r).f ((t,.bot)::E) [] K) (fun v q _=>(FT n r).f ((t,v)::E) q K) s⟩ ⟨fun E s K=>(FT n r).f E s.tail K⟩
theorem aqi(n:Nat):∀(l:List Nat)(E:EV)(s:List AV)(K:EV→Bool),(FT n l).f E s K=K (qU n E l s):=by
 intro l;induction l with
 |nil=>intro E s K;cases s<;>rfl
 | cons t r ih=>
  intro E s K;simp only[FT,qU,ku];cases Nat.blt t n with
  |true=>cases s<;>simp only[cond_true,ih,List.headD_nil,List.headD_cons,List.tail_nil,List.tail_cons]
  |false=>simp only[cond_false,ih]
def I5(E:EV):List Nat→(List AV→Bool)→Bool
 |[],K=>K []
 |t::r,K=>xu E t fun v=>I5 E r fun vs=>K (v::vs)
theorem aa9(E:EV):∀(l:List Nat)(K:List AV→Bool),I5 E l K=K (pj E l)
 |[],K=>rfl
 |t::r,K=>by rw[I5,Ab,aa9 E r];rfl
def yM(ks:List Nat):EV→EV
 |[]=>[]
 |(t,v)::E=>cond (oF t ks) (yM ks E) ((t,v)::yM ks E)
def Qq(ks:List Nat)(E:EV):(EV→Bool)→Bool:=List.rec (motive:=fun _=>(EV→Bool)→Bool) (fun K=>K []) (fun p _ ih K=>Prod.rec (motive:=fun _=>Bool) (fun t v=>cond (oF t ks) (ih K) (ih fun E=>K ((t,v)::E))) p) E
theorem S_(ks:List Nat):∀(E:EV)(K:EV→Bool),Qq ks E K=K (yM ks E)
 |[],K=>rfl
 | (t,v)::E,K=>by show cond (oF t ks) (Qq ks E K) (Qq ks E fun E=>K ((t,v)::E))=_;rw[S_ ks E,S_ ks E,yM];cases oF t ks<;>rfl
theorem abj:∀(t:Nat)(l:List Nat),oF t l=decide (t∈l)
 |t,[]=>rfl
 | t,s::r=>by
  rw[oF,nb,abj t r];by_cases h:t=s
  ·simp[h]
  ·simp[h]
theorem SP(ks:List Nat):∀(E:EV)(i:Nat),g_ (yM ks E) i=if i∈ks then .bot else g_ E i
 |[],i=>by simp[yM,g_]
 | (t,v)::E,i=>by
  rw[yM,abj,Me];by_cases h:t∈ks
  · simp only[h,decide_true,cond_true,SP ks E i];by_cases hi:i∈ks
    ·rw[if_pos hi,if_pos hi]
    ·rw[if_neg hi,if_neg hi,if_neg (show ¬t=i from fun e=>hi (e▸h))]
  · simp only[h,decide_false,cond_false,Me,SP ks E i];by_cases e:t=i
    ·subst e;rw[if_pos rfl,if_neg h,if_pos rfl]
    ·rw[if_neg e,if_neg e]
theorem aaa:∀(ks:List Nat)(env:Env)(i:Nat),(Rb.kJ env ks).getD i .bot=if i∈ks then .bot else env.getD i .bot
 |[],env,i=>by simp[Rb.kJ]
 | t :: r,env,i=>by
  rw[Rb.kJ,aaa r];by_cases hr:i∈r
  ·rw[if_pos hr,if_pos (List.mem_cons_of_mem _ hr)]
  · rw [if_neg hr];by_cases e:t=i
    · subst e;rw[if_pos List.mem_cons_self,List.getD_eq_getElem?_getD,List.getElem?_set];simp only[if_true];split<;>rfl
    ·rw[if_neg (by simp only[List.mem_cons,not_or];exact⟨fun h=>e h.symm,hr⟩),List.getD_eq_getElem?_getD,List.getElem?_set_ne e,←List.getD_eq_getElem?_getD]
theorem Zv:∀(ks:List Nat)(env:Env),(Rb.kJ env ks).length=env.length
 |[],env=>rfl
 |t::r,env=>by rw[Rb.kJ,Zv r];simp
theorem gl.aY{n:Nat}{E:EV}{env:Env}(h:gl n E env)(ks:List Nat):gl n (yM ks E) (Rb.kJ env ks):=⟨by rw[Zv];exact h.1,fun i=>by rw[SP,aaa,h.2 i]⟩
def adt(id:Nat)(N:EV→TH→Bool)(X:pg→EV→TH→Bool):pg→EV→TH→Bool
 | .exit fQ,E,T=>cond (Nat.beq fQ id) (N E T) (X (.exit fQ) E T)
 |e,E,T=>X e E T
def afU(F:List AV→TH→(List AV→TH→Bool)→Bool)(n:Nat):List AV→TH→Bool:=Nat.rec (motive:=fun _=>List AV→TH→Bool) (fun _ _=>false) (fun _ ih s T=>F s T ih) n
def qh(fuel n:Nat):kQ→av5
 | .skip=>⟨fun _ E T N _=>N E T⟩
 | .region ops=>⟨fun B E T N _=>(JX n ops).f B E T N⟩
 | .draw ops _ bX last=>⟨fun B E T N _=>(P7 n ops last bX).f B E T N⟩
 | .seq a b=>⟨fun B E T N X=>(qh fuel n a).f B E T (fun E T=>(qh fuel n b).f B E T N X) X⟩
 | .cond x a b=>⟨fun B E T N X=>eI x E fun x=>F4 x true ((qh fuel n a).f B E T N X) ((qh fuel n b).f B E T N X)⟩
 | .block id a=>⟨fun B E T N X=>(qh fuel n a).f B E T N (adt id N X)⟩
 | .loop vs ks a=>⟨fun B E T N X=>Qq ks E fun E0=>I5 E vs fun s=>afU (fun s T K=>(FT n vs).f E0 s fun E=>(qh fuel n a).f B E T (fun E' T'=>I5 E' vs fun s=>K s T') X) fuel s T⟩
 | .exit id=>⟨fun _ E T _ X=>X (.exit id) E T⟩
 | .ret=>⟨fun _ E T _ X=>X .ret E T⟩
 | .freeze t a=>⟨fun B E T N X=>xu E t fun v=>uQ T (TP T v) fun v T'=>(xE n (some t)).f E v fun E=>(qh fuel n a).f B E T' N X⟩
 | .join vs ks a b=>⟨fun _ _ _ _ _=>false⟩
 | .qk vs ks ops b=>⟨fun _ _ _ _ _=>false⟩
theorem akZ{Φ:aj}{B:ff}(hB:kq Φ B)(eg:rZ Φ)(fuel n:Nat):∀(c:kQ){E:EV}{env:Env}{T:TH}{N:EV→TH→Bool}{X:pg→EV→TH→Bool}{Q:pg→Env→AH→Prop},gl n E env→(qh fuel n c).f B E T N X=true →
  (∀E' aU T',gl n E' aU→N E' T'=true→Q .normal aU T'.ah)→(∀x E' aU T',x ≠ .normal→gl n E' aU→X x E' T'=true→Q x aU T'.ah)→jR Φ c env T.ah Q:=by
 have LA:∀(l:List bT){E:EV}{env:Env}{T:TH}{N:EV→TH→Bool}{Q:Env→AH→Prop},gl n E env→(JX n l).f B E T N=true→(∀E' aU T',gl n E' aU→N E' T'=true→Q aU T'.ah)→qb Φ l env T.ah Q:=by intro l E env T N Q ha h hN;rw[aqk]at h;refine Sy eg ha (Sx (Q:=fun E' H'=>∃T',H'=T'.ah∧N E' T'=true) hB h fun e T' h=>⟨T',rfl,h⟩) fun E' aU H' fg h'=>?_;obtain⟨T',rfl,h'⟩:=h';exact hN _ _ _ fg h'
 intro c;induction c with
 |skip=>intro E env T N X Q ha h hN hX;exact hN _ _ _ ha h
 |region ops=>intro E env T N X Q ha h hN hX;exact LA ops ha h hN
 | draw ops pr bX last=>intro E env T N X Q ha h hN hX;simp only[qh,anA]at h;refine ZK eg ha (ZJ (Q:=fun E' H'=>∃T',H'=T'.ah∧N E' T'=true) hB h fun e T' h=>⟨T',rfl,h⟩) fun E' aU H' fg h'=>?_;obtain⟨T',rfl,h'⟩:=h';exact hN _ _ _ fg h'
 | seq a b mF mG=>
  intro E env T N X Q ha h hN hX;simp only[qh]at h;simp only[jR];refine mF ha h (fun E' aU T' fg h'=>mG fg h' hN hX) fun x E' aU T' hx fg h'=>?_;cases x with
  |normal=>exact absurd rfl hx
  |exit i=>exact hX _ _ _ _ hx fg h'
  |ret=>exact hX _ _ _ _ hx fg h'
 |join vs ks a b mF mG=>intro E env T N X Q ha h hN hX;cases h
 | cond x a b mF mG=>intro E env T N X Q ha h hN hX;simp only[qh,Eh]at h;rw[←EP,PU ha]at h;exact SF h (fun h=>mF ha h hN hX) fun h=>mG ha h hN hX
 | block id a ih=>
  intro E env T N X Q ha h hN hX;simp only[qh]at h;simp only[jR];refine ih ha h hN fun x E' aU T' hx fg h'=>?_;cases x with
  |normal=>exact absurd rfl hx
  | exit i=>
   simp only[adt,nb]at h';dsimp only;by_cases hi:i=id
   ·rw[if_pos hi];simp only[hi,decide_true,cond_true]at h';exact hN _ _ _ fg h'
   ·rw[if_neg hi];simp only[hi,decide_false,cond_false]at h';exact hX _ _ _ _ hx fg h'
  |ret=>exact hX _ _ _ _ hx fg h'
 | loop vs ks a ih=>
  intro E env T N X Q ha h hN hX;simp only[qh,S_,aa9,aqi]at h;simp only[jR];have main:∀(m:Nat)(s:List AV)(T:TH),afU (fun s T K=>(qh fuel n a).f B (qU n (yM ks E) vs s) T (fun E' T'=>K (pj E' vs) T') X) m s T=true →
    aB (fun(s:List AV×AH) (K:List AV×AH→Prop)=>
      jR Φ a (qw (kJ env ks) vs s.1) s.2 fun e aU H'=>match e with
       | .normal=>K (jc aU vs,H')
       |e=>Q e aU H') (s,T.ah):=by
   intro m;induction m with
   |zero=>intro s T h;cases h
   | succ m YB=>
    intro s T h;refine aB.step ?_;refine ih ((ha.aY ks).qw vs s) h (fun E' aU T' fg h'=>?_) fun x E' aU T' hx fg h'=>?_
    · dsimp only;rw[←fg.jc vs];exact YB _ _ h'
    · cases x with
      |normal=>exact absurd rfl hx
      |exit i=>exact hX _ _ _ _ hx fg h'
      |ret=>exact hX _ _ _ _ hx fg h'
  rw[←ha.jc vs];exact main fuel _ _ h
 |exit id=>intro E env T N X Q ha h hN hX;exact hX _ _ _ _ (by intro h;cases h) ha h
 |ret=>intro E env T N X Q ha h hN hX;exact hX _ _ _ _ (by intro h;cases h) ha h
 | freeze t a ih=>intro E env T N X Q ha h hN hX;simp only[qh,Ab,adl,alW,Ua,kT]at h;simp only[jR];rw[ha.2 t]at h;exact vf (aaq _ _) h fun v T' h'=>ih (ha.set t v) h' hN hX
 |qk vs ks ops b ih=>intro E env T N X Q ha h hN hX;cases h
def CC:List tg→awo
 |[]=>⟨fun _ _ K=>K []⟩
 | .tmp t::r=>⟨fun E T K=>xu E t fun v=>(CC r).f E T fun vs=>K (v::vs)⟩
 | .cell t n agg::r=>⟨fun E T K=>xu E t fun x=>GJ agg (Jc T n agg x) fun v=>(CC r).f E T fun vs=>K (v::vs)⟩
theorem aql:∀(rs:List tg)(E:EV)(T:TH)(K:List AV→Bool),(CC rs).f E T K=FU E T rs K:=by
 intro rs;induction rs with
 |nil=>intros;rfl
 |cons r rs ih=>intro E T K;cases r<;>simp only[CC,FU,ih,Ab,afG,Tb]
def QW(vs:List AV)(Q:lX)(T:TH):Bool:=
 match vs with
 |[v]=>Q v T
 |vs=>Q (.aM vs) T
theorem aqd(vs:List AV)(Q:lX)(T:TH):QW vs Q T=Q (Am vs) T:=by
 cases vs with
 |nil=>rfl
 |cons v r=>cases r<;>rfl
def ax_(rs:List tg)(Q:lX):pg→EV→TH→Bool
 | .exit _,_,_=>false
 |_,E,T=>(CC rs).f E T fun vs=>QW vs Q T
def initK:List AV→Nat→(EV→Bool)→Bool
 |[],_,K=>K []
 |a::r,i,K=>initK r (Nat.succ i) fun E=>K ((i,a)::E)
theorem aba:∀(l:List AV)(i:Nat)(K:EV→Bool),initK l i K=K (yK l i)
 |[],_,_=>rfl
 |a::r,i,K=>by rw[initK,aba r];rfl
def Rk(fuel:Nat)(f:bm):Kl:=⟨fun B args T Q=>and (Nat.ble args.length f.ntmps) (initK args 0 fun E=>(qh fuel f.ntmps f.body).f B E T (fun E T=>(CC f.results).f E T fun vs=>QW vs Q T) (ax_ f.results Q))⟩
theorem amB{Φ:aj}{B:ff}(hB:kq Φ B)(eg:rZ Φ){fuel:Nat}{f:bm}{args:List AV}{T:TH}{K:lX}(h:(Rk fuel f).f B args T K=true){Q:ae}(hK:∀v T',K v T'=true→Q v T'.ah):Fc Φ f args T.ah Q:=by
 simp only[Rk,Bool.and_eq_true,aba]at h;have hle:=Nat.le_of_ble_eq_true h.1;have ha:gl f.ntmps (yK args 0) (args++List.replicate (f.ntmps-args.length) .bot):=by
  refine⟨by simp;omega,fun i=>?_⟩;rw[SK];simp only[Nat.not_lt_zero,if_false,Nat.sub_zero];simp only[List.getD_eq_getElem?_getD];by_cases hi:i<args.length
  ·rw[List.getElem?_append_left hi]
  · rw[List.getElem?_append_right (by omega),List.getElem?_eq_none (by omega),List.getElem?_replicate];split<;>rfl
 have fin:∀(E':EV)(aU:Env)(T':TH),gl f.ntmps E' aU→(CC f.results).f E' T' (fun vs=>QW vs K T')=true→xe aU T'.ah f.results fun vs=>Q (Am vs) T'.ah:=by intro E' aU T' fg h';rw[aql]at h';rw[←T9 fg];exact Sz h' fun vs h=>hK _ _ (by rwa [aqd]at h)
 refine akZ hB eg fuel _ f.body ha h.2 (fun E' aU T' fg h'=>fin E' aU T' fg h') fun x E' aU T' hx fg h'=>?_;cases x with
 |normal=>exact absurd rfl hx
 |exit i=>cases h'
 |ret=>exact fin E' aU T' fg h'
def P6(tab:Nat→Option Kl)(B:ff):ff:=fun k args T Q=>match tab k with
 |some c=>c.f B args T Q
 |none=>false
def J0(C:Ctx)(fuel:Nat):List Hint→Nat→Option Kl
 |[],_=>none
 |h::r,k=>cond (Nat.beq h.iq k) (some (Rk fuel (bI C h))) (J0 C fuel r k)
theorem abx{C:Ctx}{fuel:Nat}:∀{L:List Hint}{k:Nat}{c:Kl},J0 C fuel L k=some c→∃h,h∈L∧h.iq=k∧c=Rk fuel (bI C h)
 |[],_,_,h=>by cases h
 | p::r,k,c,h=>by
  unfold J0 at h;cases hb:Nat.beq p.iq k with
  | true=>rw[hb]at h;simp only[cond_true,Option.some.injEq]at h;exact⟨p,List.mem_cons_self,Nat.eq_of_beq_eq_true hb,h.symm⟩
  | false=>rw[hb]at h;obtain⟨f,hf,hc⟩:=abx (L:=r) h;exact⟨f,List.mem_cons_of_mem _ hf,hc⟩
theorem anz{P:Program}{GT:Nat→Option (List AV)}{L:List Hint}(hL:sa (zK P GT) L=true)(fuel:Nat):Uf (au (zK P GT)) (P6 (J0 (zK P GT) fuel L)):=by
 intro B hB k args T K h Q hQ;unfold P6 at h;split at h
 · rename_i c hc;obtain⟨hi,hm,hk,rfl⟩:=abx hc;have hs:Fc (au (zK P GT)) (bI (zK P GT) hi) args T.ah Q:=amB hB (LX _) h hQ;refine⟨aa6 (S3 _) hs,fun f hf G w Vs hG aI eU=>?_⟩;have tU:f=k:=by
    simp only[zK]at hf;cases hg:sZ P k with
    |true=>rw[hg]at hf;simpa using hf.symm
    |false=>rw[hg]at hf;cases hf
   subst tU;exact aa7 (acd P GT) (by rw[←hk];exact aa0 hL _ hm) hs hG aI eU
 ·cases h
end
end Rb

namespace Rb
open Go
noncomputable section
def forced(b:Bool):Bool:=Bool.rec (motive:=fun _=>Bool) false true b
theorem amE(b:Bool):forced b=b:=by cases b<;>rfl
theorem gy{b:Bool}(h:forced b=true):b=true:=by rwa [amE]at h
def oE:List (Nat×List AV×AV)→Jz
 |[],_,_=>none
 |e::r,k,args=>cond (Nat.beq e.1 k) (cond (AV.nq e.2.1 args) (some e.2.2) (oE r k args)) (oE r k args)
theorem Tc{Φ:aj}:qP Φ (oE []):=fun _ _ _ h=>by cases h
end
end Rb

namespace Rb
open Go
mutual
def AV.mb:AV→AV
 | .av cs=> .av (AV.lZ cs)
 | .aq _ len cs=> .aq .dead len (AV.lZ cs)
 | .fn k cs=> .fn k (AV.lZ cs)
 | .iface t v=> .iface t (AV.mb v)
 | .agg cs=> .agg (AV.lZ cs)
 | .aM cs=> .aM (AV.lZ cs)
 |v=>v
def AV.lZ:List AV→List AV
 |[]=>[]
 |c::r=>AV.mb c::AV.lZ r
end
theorem DT:∀cs:List AV,AV.lZ cs=cs.map AV.mb
 |[]=>rfl
 |c::r=>by rw[AV.lZ,DT r];rfl
theorem yy{cs:List AV}{j:Nat}{c:AV}(h:(AV.lZ cs)[j]?=some c):∃d,cs[j]?=some d∧c=d.mb:=by
 rw[DT,List.getElem?_map]at h;cases hc:cs[j]? with
 |none=>rw[hc]at h;cases h
 |some d=>rw[hc]at h;simp at h;exact⟨d,rfl,h.symm⟩
theorem Hs(cs:List AV):(AV.lZ cs).length=cs.length:=by rw[DT,List.length_map]
theorem VR.mb{F:eG}{w:World}{G:cc}{c:AV}{V:Value}(h:VR F w G c V):VR F w G c.mb V:=by
 induction h with
 |bot V=>exact .bot V
 |bool b=>exact .bool b
 |int k n=>exact .int k n
 |str s=>exact .str s
 |jX=>exact .jX
 |ptr id off h=>exact .ptr id off h
 | av cells b o Vs h _ ih=>
  refine .av _ b o Vs (fun j c hj=>?_) fun j c hj=>?_
  ·obtain⟨d,hd,rfl⟩:=yy hj;exact h j d hd
  ·obtain⟨d,hd,rfl⟩:=yy hj;exact ih j d hd
 |lr=>exact .lC none 0
 |lC a cap=>exact .lC a cap
 | aq tk len cells b o cap Vs ht hle h _ ih=>
  refine .aq .dead len _ b o cap Vs trivial hle (fun j c hj=>?_) fun j c hj=>?_
  ·obtain⟨d,hd,rfl⟩:=yy hj;exact h j d hd
  ·obtain⟨d,hd,rfl⟩:=yy hj;exact ih j d hd
 |row id off len sz cap h hle hc=>exact .row id off len sz cap h hle hc
 |map id h=>exact .map id h
 |mw=>exact .mw
 | fn key cA f Vs hk hf hl _ ih=>refine .fn key _ f Vs hk hf (by rw[Hs];exact hl) fun j c V hc hV=>?_;obtain⟨d,hd,rfl⟩:=yy hc;exact ih j d V hd hV
 | zr key k cA f Vs hk hf hl _ ih=>refine .zr key k _ f Vs hk hf (by rw[Hs];exact hl) fun j c V hc hV=>?_;obtain⟨d,hd,rfl⟩:=yy hc;exact ih j d V hd hV
 |nk=>exact .nk
 |iface t v V _ ih=>exact .iface t _ V ih
 |nn=>exact .nn
 | agg cs Vs hl _ ih=>refine .agg _ Vs (by rw[Hs];exact hl) fun j c V hc hV=>?_;obtain⟨d,hd,rfl⟩:=yy hc;exact ih j d V hd hV
 | aM cs Vs hl _ ih=>refine .aM _ Vs (by rw[Hs];exact hl) fun j c V hc hV=>?_;obtain⟨d,hd,rfl⟩:=yy hc;exact ih j d V hd hV
theorem au.mb{C:Ctx}{key:Nat}{args:List AV}{H:AH}{Q:ae}(h:au C key args H (fun v H'=>Q v.mb H')):au C key args H Q:=by refine⟨by obtain⟨v,H',hq⟩:=h.1;exact⟨_,_,hq⟩,fun f hf G w Vs hG aI eU=>?_⟩;refine Calls.mono (h.2 f hf G w Vs hG aI eU) fun e w' he=>?_;obtain⟨V,v,H',G',e1,hQ,hv,r⟩:=he;exact⟨V,v.mb,H',G',e1,hQ,hv.mb,r⟩
theorem au.ani{C:Ctx}{key:Nat}{args:List AV}{H:AH}{Q:ae}(h:au C key (AV.lZ args) H Q):au C key args H Q:=by refine⟨h.1,fun f hf G w Vs hG aI eU=>?_⟩;refine h.2 f hf G w Vs hG aI ⟨by rw[Hs];exact eU.1,fun j c V hc hV=>?_⟩;obtain⟨d,hd,rfl⟩:=yy hc;exact(eU.2 j d V hd hV).mb
end Rb

namespace Rb
open Go
noncomputable section
def Jd:List (List AV×AV)→List AV→Option AV
 |[],_=>none
 |e::r,a=>cond (AV.nq e.1 a) (some e.2) (Jd r a)
def Gc(k:Nat):List (Nat×List AV×AV)→List (List AV×AV)
 |[]=>[]
 |e::r=>cond (Nat.beq e.1 k) ((e.2.1,e.2.2)::Gc k r) (Gc k r)
theorem abg(k:Nat)(args:List AV):∀L:List (Nat×List AV×AV),Jd (Gc k L) args=oE L k args
 |[]=>rfl
 | e::r=>by
  have ih:=abg k args r;unfold Gc oE;cases Nat.beq e.1 k with
  |false=>exact ih
  | true=>
   simp only[cond_true,Jd];cases AV.nq e.2.1 args with
   |false=>exact ih
   |true=>rfl
def WR(L:List (Nat×List AV×AV)):Jz:=fun k args=>match Gc k L with
 |[]=>none
 |l=>Jd l (AV.lZ args)
theorem ap8{C:Ctx}{L:List (Nat×List AV×AV)}(h:qP (au C) (oE L)):qP (au C) (WR L):=by
 intro k args v hm H Q hQ;have:Jd (Gc k L) (AV.lZ args)=some v:=by
  unfold WR at hm;split at hm
  ·cases hm
  ·exact hm
 rw[abg]at this;exact au.ani (h k _ v this H Q hQ)
theorem aoc{C:Ctx}(aw:dz C){B:ff}(hB:kq (au C) B){k:Nat}{args:List AV}{v:AV}(ha:AV.dD args=true)(hv:v.cD=true)(h:B k args TH.mt (fun u _=>u.mb.same v)=true)(H:AH)(Q:ae)(hQ:Q v H):au C k args H Q:=au.aec aw (au.mb (Q:=fun u _=>u.same v=true) (al7 hB (K:=fun u=>u.mb.same v) h)) ha H Q fun u _ hu=>by rw[AV.L1 _ _ hu];exact⟨hv,hQ⟩
def Ur(B:ff)(e:Nat×List AV×AV):Bool:=and (AV.dD e.2.1) (and e.2.2.cD (B e.1 e.2.1 TH.mt (fun u _=>u.mb.same e.2.2)))
def yY(B:ff):List (Nat×List AV×AV)→Bool
 |[]=>true
 |e::r=>and (Ur B e) (yY B r)
theorem al4{C:Ctx}(aw:dz C){B:ff}(hB:kq (au C) B){e:Nat×List AV×AV}{L:List (Nat×List AV×AV)}(h:Ur B e=true)(hL:qP (au C) (oE L)):qP (au C) (oE (e::L)):=by
 obtain⟨k0,a0,v0⟩:=e;simp only[Ur,Bool.and_eq_true]at h;obtain⟨h1,h2,h3⟩:=h;intro k args v hm H Q hQ;unfold oE at hm;dsimp only at hm;cases hb:Nat.beq k0 k with
 |false=>rw[hb]at hm;exact hL k args v hm H Q hQ
 | true=>
  rw[hb]at hm;obtain rfl:=Nat.eq_of_beq_eq_true hb;cases hs:AV.nq a0 args with
  |false=>rw[hs]at hm;exact hL k0 args v hm H Q hQ
  | true=>rw[hs]at hm;simp only[cond_true,Option.some.injEq]at hm;subst hm;obtain rfl:=AV.Bs _ _ hs;exact aoc aw hB h1 h2 h3 H Q hQ
theorem Bu{C:Ctx}(aw:dz C){B:ff}(hB:kq (au C) B){L:List (Nat×List AV×AV)}(hL:qP (au C) (oE L)):∀{N:List (Nat×List AV×AV)},yY B N=true→qP (au C) (oE (N++L))
 |[],_=>hL
 | e::N,h=>by simp only[yY,Bool.and_eq_true]at h;exact al4 aw hB h.1 (Bu aw hB hL h.2)
end
end Rb

namespace Rb
open Go
end Rb
