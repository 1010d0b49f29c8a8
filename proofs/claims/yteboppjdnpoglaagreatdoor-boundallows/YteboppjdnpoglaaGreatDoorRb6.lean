/- A part of the proof (part 6): see the last text. -/
import Derived.Test.YteboppjdnpoglaaGreatDoorRb5
import Derived.Test.YteboppjdnpoglaaGreatDoorRb4
import Derived.Test.YteboppjdnpoglaaGreatDoorRb1
import Derived.RangeFuncBox
import Derived.RangeFuncCalls
import Derived.RangeFuncNested
import Derived.Test.YteboppjdnpoglaaGreatDoorRb2
import Derived.Test.YteboppjdnpoglaaGreatDoorRb3
import Derived.Test.YteboppjdnpoglaaGreatDoorRows
import Derived.KernelRfl
import Derived.WalkKit
import Derived.OwnWalkIn
import Derived.TacticsInMore
import Derived.LoopNIn
import Derived.LoopIn
import Derived.RangeFuncLeaves
import Derived.RangeFuncBound
import Derived.BigRegionIn
import Derived.Shelf.SlSortCmp.NoneTotal
import Derived.Sort.Grow
import Derived.Deep.Draws
import Derived.Test.YteboppjdnpoglaaGreatDoorChecked
set_option linter.unusedVariables false
set_option linter.unusedSimpArgs false
set_option linter.unusedSectionVars false
open Array renaming getD_eq_getD_getElem?→abz, getElem?_append_left→afm, getElem?_eq_getElem→aam, getElem?_eq_some_iff→aa5, getElem?_mapIdx→afl, getElem?_modify→afk
open Bool renaming and_eq_true→aar, and_false→aeG, and_true→aea, false_and→adQ, false_eq_true→abW, false_or→acq, true_and→adP, true_eq_false→adF, true_or→aeT
open Go.Callee renaming value→ae5
open Go.Code renaming region→ae4, rounds→ae2, wp→ae3
open Go.Exit renaming normal→afe
open Go.Fence renaming inRound→afa, wide→aeZ
open Go.Ground renaming data→ae7
open Go.IntKind renaming wrap→abu
open Go.Op renaming defer→afb
open Go.Oper renaming semAt_some→afd, uponIn→ae_, upon→ae9, wpIn→afc
open Go.Operand renaming tmp→ae6
open Go.Proofs.SlLaysF0 renaming n6→afn
open Go.Region renaming ready→acG, wanted→acx
open Go.Sort renaming ahead→afj
open Go.World renaming alloc_heap_new→ae0, block_lt_of_cell?→aa4, cell?_of_block→aa3, cell?→ada, putObj_heap_other→aeY, putObj_heap_same→ae1
open Int renaming mul_le_mul_of_nonneg_right→afi, ofNat→aff, toNat_natCast→aeq
open List renaming all_eq_true→abh, append_assoc→aeo, append_nil→adv, cons_append→abZ, drop_eq_getElem_cons→adn, drop_of_length_le→aeX, drop_zero→adf, eq_nil_of_length_eq_zero→aeB, exists_cons_of_length_eq_add_one→ae8, flatMap_append→aeD, flatMap_cons→ac0, getD_eq_getElem?_getD→abD, getElem?_append_right→ab1, getElem?_append→aaL, getElem?_cons_succ→ac6, getElem?_cons_zero→ac5, getElem?_eq_getElem→abb, getElem?_eq_some_iff→aal, getElem?_map→aba, getElem?_replicate→acN, getElem?_toArray→abf, length_append→adm, length_cons→adN, length_eq_zero_iff→abF, length_map→abI, length_take→adI, length→afh, map_append→aed, map_map→acU, map→afo, mem_append→acf, mem_cons_of_mem→acp, mem_cons_self→acs, mem_cons→aco, mem_of_find?_eq_some→afp, mem_of_getElem?→adq, mem_singleton→aeH, nil_append→aeh, range'_succ→aeU, range'→abQ, replicate→KT, set_append→aeV, take_add_one→adw, take_append_drop→aeE, take_of_length_le→adp, take→aes
open Nat renaming add_comm→adl, le_add_right→afg, le_refl→hb, le_succ→aa2, le_trans→sl, lt_irrefl→aeI, lt_of_lt_of_le→xl, lt_succ_self→acR, ne_of_lt→aa6, sub_self→aeW, zero_add→aa8, zero_le→aaU
open Option renaming map_some→aaD, some→aaC
open Prod renaming fst→ac2
open Bool renaming false→acJ, true→acI
open Option renaming none→acL, some→acK
noncomputable section
namespace Rb
open Go
def ny(g:Int)(l:List (Int×Int)):List (Int×Int):=l.map λx=>(B (g+x.1),x.2)
def gF:List aB->List bj->List (Int×Int)->List (Int×Int)×Int
 |v::r,g::s,acc=>if(e4 v.type).2≠0 then([],(e4 v.type).2)else gF r s (acc++ny g.at_ (e4 v.type).1)
 |_,_,acc=>(acc,0)
theorem Di:∀(r:List aB)(s:List bj)(a:List (Int×Int)),(∃l,fI r s=acK l/\gF r s a=(a++l,0))\/(fI r s=acL/\(gF r s a).2≠0)
 |[],s,a=> .inl ⟨[],by rw[fI];intros;simp_all,by rw[gF];simp;intros;simp_all⟩
 |v::r,[],a=> .inl ⟨[],by rw[fI];intros;simp_all,by rw[gF];simp;intros;simp_all⟩
 | v :: r,g::s,a=>by
  rw[fI,gF];by_cases h:(e4 v.type).2≠0
  ·rw[ab h,ab h];exact .inr ⟨rfl,h⟩
  . rw[af h,af h];rcases Di r s (a++ny g.at_ (e4 v.type).1)with⟨l,h1,b⟩|⟨h1,b⟩
    ·exact .inl ⟨ny g.at_ (e4 v.type).1++l,by rw[h1];rfl,by rw[b,aeo]⟩
    ·exact .inr ⟨by rw[h1];rfl,b⟩
theorem MI{t:X}(h:(e4 t).2=0):(e4 t).1.length<=4096:=by
 unfold e4 at h ⊢;split at h
 ·rename_i q;exact absurd h q
 . rename_i q;rw[af q];split at h
   ·cases h
   . rename_i k;rw[af k];have k':((gu t 0 ⟨[],acJ⟩).full||decide ((dc (eL (gu t 0 ⟨[],acJ⟩).l)).length>4096))=acJ:=by simpa[Bk.tidy]using k
     rw[Bool.or_eq_false_iff,decide_eq_false_iff_not]at k';have:(gu t 0 ⟨[],acJ⟩).tidy.l=dc (eL (gu t 0 ⟨[],acJ⟩).l):=rfl;rw[this];dsimp only;omega
section
variable{C:Ctx}(ak:cP C)(hT:Cl (ai C) S.b7)(hS:nu (ai C))
include ak hT hS
theorem MJ{vars:List aB}(hv:fS vars):bD (ai C) 9 [av aB.cells vars] (.aA [av aD (gF vars (ck 0 vars) []).1,.int .i64 (gF vars (ck 0 vars) []).2]):=by
 have hl:=hv.l;have an:(ck 0 vars).length=vars.length:=by
  have:∀(l:List aB)(a:Int),(ck a l).length=l.length:=by
   intro l;induction l with
   |nil=>intro a;rw[ck];rfl
   |cons v r j=>intro a;rw[ck,adN,adN,j]
  exact this _ _
 refine bD.of ak (by simp[I.bV,ko aB.bu]) (by show I.bu (.aA [.aq .dead (gF vars (ck 0 vars) []).1.length ((gF vars (ck 0 vars) []).1.flatMap aD),.int .i64 _])=acI;simp[I.bu,I.bV,zf,Tok.free]) λQ hQ=>?_
 refine ai.cU ?_;refine S.Qy hT ?_;unfold S.f9;simp only[ag];refine Cx ak hT (by omega) hv.o _ _ ?_;rw[show kx vars = .aA [.aq .dead vars.length (en vars (ck 0 vars)),.int .i64 (e5 0 vars),.int .i64 0] by unfold kx;rw[yS hv.z hv.e];rfl];simp only[bA,ac5,ac6,O,cC,au,bC];rw[cw];generalize E:gF vars (ck 0 vars) []=R at *;have main:∀(r:List aB)(k:Nat)(acc:List (Int×Int)) (x:I) (H:Z),vars.drop k=r->k<=vars.length->acc.length<=4096*k->cc 0 H 2 x acc.length (acc.flatMap aD)->gF r ((ck 0 vars).drop k) acc=R ->
   ar (S.q4 (ai C) (av aB.cells vars) (.aq .dead vars.length (en vars (ck 0 vars))) (.int .i64 vars.length) λv H'=>Q v.cU H') ([x,.int .i64 k],H):=by
  intro r;induction r with
  | nil=>
   intro k acc x H s hk ha t he;have hle:=c7 s;refine ar.step ?_;simp only[ag,S.q4,T,bE,aY,O,au,aw,S.FP];rw[cQ];have F:R=(acc,0):=by rw[<-he,gF];intros;simp_all
   rw[F]at hQ;obtain⟨tk,rfl,_,_⟩:=t;simp only[I.cU,I.ec,De];exact hQ _
  | cons v r j=>
   intro k acc x H s hk ha t he;obtain⟨D,u,G⟩:=c4 s;have J:=hv.o v (adq u);have K:v.type.ok:=J.2;obtain⟨g,tl,M,_,N⟩:=qb (a:=0) u;rw[drop_cons M,gF]at he;refine ar.step ?_;simp only[ag,S.q4,T,bE,aY,O,au];rw[cM,b6 D];simp only[O];rw[c8 aB.len (by decide) _ u];simp only[O,aN,bQ,bc];rw[cn _ _ _ 7 v.len v.scalar rfl];have a2:=At.new H (.row v.cells);have P:cc 0 (H.push (.row v.cells)) 2 x acc.length (acc.flatMap aD):=t.frame λ_ _ _ q=>q.push _;simp only[O,aH,aa8];rw[KO a2];simp only[O];generalize H.push (.row v.cells)=H2 at *;refine WS ak hT hS K _ _ ?_;simp only[bA,ac5,ac6,O,cC,au,bC];apply aG<;>intro h
   . have f:(e4 v.type).2≠0:=by simpa using h
     rw[ab f]at he;rw[<-he]at hQ;exact hQ H2
   . have f:(e4 v.type).2=0:=by simpa using h
     rw[af (λq=>q f)]at he;have ao:=MI f;generalize (e4 v.type).1=L at *;have inner:∀(q:List (Int×Int)) (i:Nat) (c:List (Int×Int)) (d:I) (b:Z),L.drop i=q->c.length=acc.length+i->cc 0 b 2 d c.length (c.flatMap aD)->c++ny g.at_ q=acc++ny g.at_ L ->
       ar (S.uR (ai C) (.aq .dead vars.length (en vars (ck 0 vars))) (av aD L) (.int .i64 L.length) ([x,.int .i64 k],H) (ar (S.q4 (ai C) (av aB.cells vars) (.aq .dead vars.length (en vars (ck 0 vars))) (.int .i64 vars.length) λv H'=>Q v.cU H')) λv H'=>Q v.cU H') ([d,.int .i64 i],b):=by
      intro q;induction q with
      | nil=>
       intro i c d b w fy y A;have hle:=c7 w;refine ar.step ?_;simp only[ag,S.uR,T,bE,aY,O,au,aw];rw[cQ];simp only[ag,S.FO,T,bE,bz,O];rw[bo,cN];have U:c=acc++ny g.at_ L:=by rw[<-A];simp[ny]
       subst U;refine j (k+1) _ d b G D ?_ y he;rw[adm,ny,abI];omega
      | cons p q V=>
       intro i c d b w fy y A;obtain⟨W,X,Y⟩:=c4 w;refine ar.step ?_;simp only[ag,S.uR,T,bE,aY,O,au];rw[cM,b6 W];simp only[O];rw[c8 (cells:=aD) (sz:=2) (λ_=>rfl) (by decide) _ X];simp only[O,aN,bQ,bc];rw[cn _ _ _ 2 rfl rfl rfl];have a4:=At.new b (.row (aD p));have aa:cc 0 (b.push (.row (aD p))) 2 d c.length (c.flatMap aD):=y.frame λ_ _ _ q=>q.push _;simp only[O,aH,aa8];rw [show aL acL 3 (.aq .dead vars.length (en vars (ck 0 vars))) (.int .i64 k)=acK (.ae ((en vars (ck 0 vars)).drop (k*3))) by show(if 0<=(k:Int)/\(k:Int)<(vars.length:Nat)then acK (I.ae ((en vars (ck 0 vars)).drop ((k:Int).toNat*3)))else acL)=_;rw[ab ⟨by omega,by omega⟩,aeq]]
       rw[N];simp only[O,aH,List.drop_succ_cons,adf];have e1:∀H,aj H 1 acJ (.ae (.int .i64 g.at_ :: .int .i64 g.len::tl))=acK (.int .i64 g.at_):=λ_=>rfl;have ac:aj (b.push (.row (aD p))) 1 acJ (.ptr b.n 0)=acK (.int .i64 p.1):=by rw[a4.load];rfl
       have ad:aj (b.push (.row (aD p))) 1 acJ (.ptr b.n 1)=acK (.int .i64 p.2):=by rw[a4.load];rfl
       simp only[e1,ac,ad,O,bz];rw[show bS [.int .i64 0,.int .i64 0] [(0,1,.int .i64 (abu .i64 (g.at_+p.1))),(1,1,.int .i64 p.2)]=acK (.agg (aD (B (g.at_+p.1),p.2)))from rfl];simp only[O];rw[show cI (b.push (.row (aD p))) acJ 2 1 [.int .i64 0,.int .i64 0] [(0,2,.agg (aD (B (g.at_+p.1),p.2)))]=acK (.aq .full 1 (aD (B (g.at_+p.1),p.2)),b.push (.row (aD p)))from rfl];simp only[aN];refine aa.app (aaU _) (m:=1) (news:=aD (B (g.at_+p.1),p.2)) rfl rfl rfl (by decide) (by omega) (by omega) λah al am _=>?_;rw[wrap_i64 (n:=(i:Int)+1) (by omega) (by omega),cN];refine V (i+1) (c++[(B (g.at_+p.1),p.2)]) ah al Y (by rw[adm,fy];rfl) ?_ ?_
       ·rw[adm,aeD];exact am
       ·rw[<-A,aeo];rfl
     exact inner L 0 acc x H2 rfl rfl P rfl
 exact main vars 0 [] _ _ rfl (aaU _) (aaU _) (cc.nil _ _ _) E
end
theorem qd(p:Int×Int)(H:Z):b5 H acJ 2 (.agg (aD p))=acK (.ae (aD p),H):=by unfold b5;rw[ab ⟨rfl,rfl⟩];rfl
theorem zg(p:Int×Int):aH 0 (.ae (aD p))=acK (.ae (aD p)):=rfl
theorem zh(p:Int×Int):aH 1 (.ae (aD p))=acK (.ae [.int .i64 p.2]):=rfl
theorem zi(p:Int×Int)(H:Z):aj H 1 acJ (.ae (aD p))=acK (.int .i64 p.1):=rfl
theorem zj(l:Int)(H:Z):aj H 1 acJ (.ae [.int .i64 l])=acK (.int .i64 l):=rfl
theorem Dj(p:Int×Int)(H:Z):aj H 2 acI (.ae (aD p))=acK (.agg (aD p)):=rfl
theorem WU(p:Int×Int):bO (aD p) 0 1 acJ=acK (.int .i64 p.1):=rfl
theorem WV(p:Int×Int):bO (aD p) 1 1 acJ=acK (.int .i64 p.2):=rfl
theorem qe(p:Int×Int):bO (aD p) 0 2 acI=acK (.agg (aD p)):=rfl
theorem sY:[I.int .i64 0,I.int .i64 0]=aD (0,0):=rfl
theorem Dk:bS (aD (0,0)) []=acK (.agg (aD (0,0))):=rfl
theorem MK(a b:Int):bS (aD (0,0)) [(0,1,.int .i64 a),(1,1,.int .i64 b)]=acK (.agg (aD (a,b))):=rfl
theorem qf(H:Z)(a b:Int×Int):cf (H.push (.row (aD a))) 2 (.ptr H.n 0) (.agg (aD b))=acK (H.push (.row (aD b))):=cn H _ _ 2 rfl rfl rfl
theorem WW(a b:Int):gH acI [.int .i64 a,.int .i64 b]=acK (.int .i64 (max a b)):=by simp only[gH,nC,qp,bc];congr 2;show(if a<b then b else a)=max a b;omega
theorem WX(a b:Int):gH acJ [.int .i64 a,.int .i64 b]=acK (.int .i64 (min a b)):=by simp only[gH,nC,qp,abW,b4];congr 2;show(if b<a then b else a)=min a b;omega
theorem WY(H:Z)(x:cx)(c:Int×Int):cf ((H.push (.row (aD (0,0)))).push x) 2 (.ptr H.n 0) (.agg (aD c))=acK (((H.push (.row (aD (0,0)))).push x).set H.n (.row (aD c))):=by rw[((At.new H _).push x).store,ab ⟨rfl,rfl,rfl,by decide⟩];rfl
theorem WZ(H:Z)(y x:cx)(c:Int×Int):aj (((H.push y).push x).set H.n (.row (aD c))) 2 acI (.ptr H.n 0)=acK (.agg (aD c)):=by rw[(At.set ((At.new H y).push x) _).load];rfl
section
variable{C:Ctx}(ak:cP C)(hT:Cl (ai C) S.b7)
include ak hT
theorem W2(s:Int×Int):bD (ai C) 113 [.agg (aD s)] (.bool (oF s)):=by refine bD.of ak rfl rfl λQ hQ=>S.Jk hT ?_;unfold S.f113;simp only[ag];unfold oF at hQ;simp only[ag,qd,aN,zg,zh,zi,zj,O,eD,gl,bP,aw,S.xt,S.xr,T];by_cases h1:s.1>=0<;>by_cases a:s.1<=1099511627776<;>by_cases b:s.2>=0<;>by_cases c:s.2<=1048576<;>simp only[h1,a,b,c,decide_true,decide_false,bc,b4,abW,adP,aea,adQ,aeG]at hQ ⊢ <;> exact hQ _
theorem ML(s:Int×Int):bD (ai C) 67 [.agg (aD s)] (.agg (aD (gx s))):=by
 refine bD.of ak rfl rfl λQ hQ=>S.Rk hT ?_;unfold S.f67;simp only[ag];simp only[qd,aN,sY,bQ,bc,Dj,O];refine W2 ak hT s _ _ ?_;unfold gx at hQ;simp only[dg,O,au];apply aG<;>intro e
 . have a:¬oF s=acI:=by simpa using e
   rw[af a]at hQ;simp only[Dk,O,qf,eE,qe];exact hQ _
 . have a:oF s=acI:=by simpa using e
   rw[ab a]at hQ;simp only[zg,zi,zh,zj,O,bz,MK,qf,eE,qe];exact hQ _
theorem W3(a b:Int×Int):bD (ai C) 69 [.agg (aD a),.agg (aD b)] (.agg (aD (qc a b))):=by
 refine bD.of ak rfl rfl λQ hQ=>S.Rm hT ?_;unfold S.f69;simp only[ag];unfold qc at hQ;simp only[qd,aN,sY,bQ,bc,zg,zi,zh,zj,O,WW,WX,MK];simp only[qf,jm,eE,WU,WV,O,eD,au,dJ,Dk,qe,WY,WZ];apply aG<;>intro e
 ·rw[ab e]at hQ;exact hQ _
 ·rw[af e]at hQ;exact hQ _
theorem W4(a:Int×Int):bD (ai C) 68 [.agg (aD a)] (.bool (a.1==a.2)):=by refine bD.of ak rfl rfl λQ hQ=>S.Rl hT ?_;unfold S.f68;simp only[ag];simp only[qd,aN,zg,zi,zh,zj,O,bI];exact hQ _
theorem W5(a b:Int×Int):bD (ai C) 40 [.agg (aD a),.agg (aD b)] (.bool (jq a b)):=by
 refine bD.of ak rfl rfl λQ hQ=>S.QY hT ?_;unfold S.f40;simp only[ag];unfold jq at hQ;simp only[qd,aN,Dj,O];refine ML ak hT a _ _ ?_;simp only[sY,bQ,bc,aN,qf,eE,qe,O];refine W4 ak hT (gx a) _ _ ?_;simp only[bF,eE,qe,O];by_cases h:(gx a).1==(gx a).2
 . rw[h]at hQ ⊢;simp only[aeT]at hQ;simp only[adF,b4];exact⟨λq=>(by cases q),λq=>(by cases q),λq=>(by cases q),hQ _⟩
 . have c:((gx a).1==(gx a).2)=acJ:=by simpa using h
   rw[c]at hQ ⊢;simp only[acq]at hQ;simp only[bc];refine ML ak hT b _ _ ⟨λ_=>rfl,λ_=>rfl,?_⟩;refine W3 ak hT (gx a) (gx b) _ _ ⟨λ_=>rfl,?_⟩;rw[yZ];simp only[O,abW,b4];rw[show(qc (gx a) (gx b)==gx a)=decide (qc (gx a) (gx b)=gx a)from by rw[Bool.eq_iff_iff,bZ,dJ]]at hQ;exact hQ _
theorem W6(k:Int):bD (ai C) 12 [.int .i64 k] (.bool (eX k)):=by refine bD.of ak rfl rfl λQ hQ=>S.QB hT ?_;unfold S.f12;simp only[ag];unfold eX at hQ;simp only[ag,eD,gl,O,bP,aw,S.A0,bF,T];by_cases h1:k>=3<;>by_cases a:k<=6<;>by_cases b:k>=16<;>by_cases c:k<=18<;>simp only[h1,a,b,c,decide_true,decide_false,bc,b4,abW,adF,adP,aea,adQ,aeG,Bool.or_false,acq,Bool.or_true,aeT]at hQ ⊢ <;> exact hQ _
theorem W7(l:List (Int×Int))(hl:l.length<=9223372036854775806)(s:Int×Int):bD (ai C) 16 [av aD l,.agg (aD s)] (.agg (aD (mJ l s))):=by
 refine bD.of ak (by show I.bV [.aq .dead l.length (l.flatMap aD),.agg (aD s)]=acI;simp[I.bV,I.bu,zf,Tok.free,aD]) rfl λQ hQ=>S.QF hT ?_
 unfold S.f16;simp only[ag];simp only[qd,aN,sY,bQ,bc,Dk,O,bC];rw[qf];simp only[O];have p:=(At.new Z.mt (.row (aD (0,0)))).push (.row (aD (0,0)));have t:=At.new (Z.mt.push (.row (aD (0,0)))) (.row (aD (0,0)));have main:∀(r:List (Int×Int)) (i:Nat) (o:Int×Int) (H:Z),l.drop i=r->At H Z.mt.n (.row (aD (0,0)))->At H (Z.mt.push (.row (aD (0,0)))).n (.row (aD o))->r.foldl (iz s) o=mJ l s ->
   ar (S.pq (ai C) (av aD l) (.ae (aD s)) (.ptr Z.mt.n 0) (.ptr (Z.mt.push (.row (aD (0,0)))).n 0) (.int .i64 l.length) Q) ([.int .i64 i],H):=by
  intro r;have u:Z.mt.n≠(Z.mt.push (.row (aD (0,0)))).n:=aa6 (acR _);generalize (Z.mt.push (.row (aD (0,0)))).n=j at *;generalize Z.mt.n=g at *;induction r with
  | nil=>intro i o H h b k he;have hle:=c7 h;refine ar.step ?_;simp only[ag,S.pq,T,aY,O,au,aw,S.F3];rw[cQ];have e1:aj H 2 acI (.ptr j 0)=acK (.agg (aD o)):=k.all (n:=2) rfl;rw[e1];simp only[O];rw[b.put (n:=2) rfl rfl rfl];simp only[O];rw[(b.set (.row (aD o))).all (n:=2) rfl];simp only[O];rw[List.foldl_nil]at he;rw[he];exact hQ _
  | cons x r w=>
   intro i o H h b k he;obtain⟨y,z,A⟩:=c4 h;rw[List.foldl_cons]at he;refine ar.step ?_;simp only[ag,S.pq,T,aY,O,au];rw[cM,b6 y];simp only[O];rw[c8 (cells:=aD) (sz:=2) (λ_=>rfl) (by decide) _ z];simp only[O,aN,bQ,bc,sY];rw[qf];have a4:=At.new H (.row (aD x));have m:=b.push (.row (aD x));have c:=k.push (.row (aD x));simp only[O,Dj,eE,qe];generalize H.push (.row (aD x))=H2 at *;refine W5 ak hT s x _ _ ?_;have nx:∀(d:Int×Int)(a:Z),At a g (.row (aD (0,0)))->At a j (.row (aD d))->iz s o x=d->S.u0 (ai C) ([.int .i64 i],H) (ar (S.pq (ai C) (av aD l) (.ae (aD s)) (.ptr g 0) (.ptr j 0) (.int .i64 l.length) Q)) Q [] a:=by intro d a g3 g6 B;simp only[ag,S.u0,T,bz,O];rw[bo,cN];exact w (i+1) d a A g3 g6 (by rw[<-B];exact he)
   have k2:∀v:Bool,(v=acI↔jq s x=acI/\(o.2=0\/x.2<o.2))->S.q8 (ai C) (.ptr j 0) (.ptr H.n 0) ([.int .i64 i],H) (ar (S.pq (ai C) (av aD l) (.ae (aD s)) (.ptr g 0) (.ptr j 0) (.int .i64 l.length) Q)) Q [.bool v] H2:=by
    intro v hv;simp only[ag,S.q8,T,au,aw];apply aG<;>intro e
    . rw[a4.all (n:=2) rfl];simp only[O];rw[c.put (n:=2) rfl rfl rfl];simp only[O];exact nx x _ (m.bR u _) (c.set _) (by unfold iz;rw[ab (hv.1 e)])
    ·exact nx o _ m c (by unfold iz;rw[af (λq=>e (hv.2 q))])
   have e1:aj H2 1 acJ (.ptr j 1)=acK (.int .i64 o.2):=by rw[c.load];rfl
   have D:aj H2 1 acJ (.ptr H.n 1)=acK (.int .i64 x.2):=by rw[a4.load];rfl
   simp only[bP,bF,jm,e1,D,O,bI,aY,aw];cases hw:jq s x
   . simp only[abW,b4,bc];exact k2 acJ ⟨λq=>(by cases q),λq=>(by rw[hw]at q;exact absurd q.1 (by decide))⟩
   . simp only[bc];by_cases f:o.2=0
     . rw[show(o.2==0)=acI by simpa using f];simp only[adF,b4];exact k2 acI ⟨λ_=>⟨hw,.inl f⟩,λ_=>rfl⟩
     . rw[show(o.2==0)=acJ by simpa using f];simp only[bc];exact k2 _ ⟨λq=>⟨hw,.inr (by simpa using q)⟩,λq=>by simpa using q.2.resolve_left f⟩
 exact main l 0 (0,0) _ rfl p t rfl
end
def cG(n:Int):List I:=[.int .i64 n]
theorem Dl:∀l:List Int,I.ec (l.flatMap cG)=l.flatMap cG
 |[]=>rfl
 |x::r=>by rw[ac0,ot,Dl r];rfl
theorem Dm:∀l:List Int,I.bV (l.flatMap cG)=acI
 |[]=>rfl
 | x::r=>by rw[ac0];show I.bV (.int .i64 x::r.flatMap cG)=acI;simp[I.bV,I.bu,Dm r]
theorem sZ(vars:List aB)(a:List UInt8):∀(r done:List aI),(cp vars a done r).length<=r.length
 |[],done=>by rw[cp];exact hb _
 | p::r,done=>by
  rw[cp,adm,adN];have:=sZ vars a r (done++[p]);split
  ·simp;omega
  ·simp;omega
theorem MM{x:aJ}(h:x.ok)(k:Nat):(aJ.mk x.var (x.ax.take k)).ok:=by
 cases x with
 | mk var ax=>obtain⟨h1,a,b⟩:=h;exact⟨h1,sl (by rw[adI];exact Nat.min_le_right _ _) a,aI.eG.2 λp hp=>aI.eG.1 b p (List.mem_of_mem_take hp)⟩
theorem W8(r:Int×X):bO (fH r) 4 1 acJ=acK (.int .i64 (if r.1=0 then r.2.bg else 0)):=by
 unfold fH;split
 ·rw[X.aX];rfl
 ·rfl
section
variable{C:Ctx}(ak:cP C)(hT:Cl (ai C) S.b7)
include ak hT
theorem W9{vars:List aB}(hl:vars.length<=1000000)(hv:∀v∈vars,v.ok){x:aJ}(i:x.ok)(hp:x.ax.length<=1000000):bD (ai C) 13 [av aB.cells vars,.agg x.cells] (av cG (cp vars x.var [] x.ax)):=by
 refine bD.of ak (by simp[I.bV,I.bu,aJ.bu,ko aB.bu]) (by show I.bu (.aq .dead _ ((cp vars x.var [] x.ax).flatMap cG))=acI;simp[I.bu,Dm,Tok.free]) λQ hQ=>?_
 refine ai.cU ?_;refine S.QC hT ?_;unfold S.f13;simp only[ag];simp only[k4,aN,iP,ir,O,bC];generalize j:cp vars x.var [] x.ax=R at *;have main:∀(r:List aI)(k:Nat)(acc:List Int)(y:I)(H:Z),x.ax.drop k=r->k<=x.ax.length->acc.length<=k->cc 0 H 1 y acc.length (acc.flatMap cG)->acc++cp vars x.var (x.ax.take k) r=R ->
   ar (S.q7 (ai C) (av aB.cells vars) (.ae x.cells) (av aI.cells x.ax) (.int .i64 x.ax.length) λv H'=>Q v.cU H') ([y,.int .i64 k],H):=by
  intro r;induction r with
  | nil=>intro k acc y H c hk ha d he;have hle:=c7 c;refine ar.step ?_;simp only[ag,S.q7,T,bE,aY,O,au];rw[cQ];rw[cp,adv]at he;subst he;obtain⟨tk,rfl,_,_⟩:=d;simp only[I.cU,Dl];exact hQ _
  | cons p r l=>
   intro k acc y H c hk ha d he;obtain⟨f,g,n⟩:=c4 c;have o:x.ax.take (k+1)=x.ax.take k++[p]:=by rw[adw,g];rfl
   rw[cp,<-o,<-aeo]at he;refine ar.step ?_;simp only[ag,S.q7,T,bE,aY,O,au];rw[cM,b6 f];simp only[O];rw[c8 aI.len (by decide) _ g];simp only[O,aN,bQ,bc];rw[cn _ _ _ 2 p.len p.scalar rfl];have a2:=At.new H (.row p.cells);have h:cc 0 (H.push (.row p.cells)) 1 y acc.length (acc.flatMap cG):=d.frame λ_ _ _ q=>q.push _;simp only[O,aH,aa8];rw[KE a2];simp only[O,bC,cV,au];generalize H.push (.row p.cells)=H2 at *;have k1:∀(a:List Int)(b:I)(H':Z),a.length<=k+1->cc 0 H' 1 b a.length (a.flatMap cG)->a=acc++(if p.aS=[]then []else [kt vars ⟨x.var,x.ax.take k⟩]) ->
     S.uX (ai C) ([y,.int .i64 k],H) (ar (S.q7 (ai C) (av aB.cells vars) (.ae x.cells) (av aI.cells x.ax) (.int .i64 x.ax.length) λv H'=>Q v.cU H')) (λv H'=>Q v.cU H') [b] H':=by
    intro a b H' h1 s t;simp only[ag,S.uX,T,bE,bz,O];rw[bo,cN];exact l (k+1) a b H' n f h1 s (by rw[t];exact he)
   simp only[aw];apply aG<;>intro e
   . have hi:p.aS≠[]:=λq=>by rw[q]at e;simp at e
     have g0:∀H,aj H 1 acJ (.ae (x.cells.drop 0))=acK (.str x.var):=p7 x;have g1:∀H,aj H 1 acJ (.ae (x.cells.drop 1))=acK (av aI.cells x.ax):=ir x;simp only[g0,g1,O];rw[La aI.len x.ax (by omega)];simp only[O];rw[show bS [.str [],.aq .nil 0 []] [(0,1,.str x.var),(1,1,av aI.cells (x.ax.take k))]=acK (.agg (aJ.mk x.var (x.ax.take k)).cells) by rw[aJ.aX];rfl];simp only[O];refine Co ak hT vars _ (by have:maxLen=9223372036854775807:=(by decide);omega) hv (MM i k) _ _ ?_;rw[yL];simp only[bA,ac5,ac6,O,aN,g0,g1];refine⟨trivial,trivial,?_⟩;rw[cn _ _ _ 6 (sd _) (yK _) rfl];simp only[O,eE];rw[W8];simp only[O];rw[show ∀(H:Z)(v:Int),cI H acJ 1 1 [.int .i64 0] [(0,1,.int .i64 v)]=acK (.aq .full 1 (cG v),H)from λ_ _=>rfl];simp only[aN];have u:=h.frame (H':=H2.push (.row (fH (bG vars ⟨x.var,x.ax.take k⟩)))) λ_ _ _ q=>q.push _;refine u.app (aaU _) (m:=1) (news:=cG (kt vars ⟨x.var,x.ax.take k⟩)) rfl rfl rfl (by decide) (by omega) (by omega) λb w z _=>?_;refine k1 (acc++[kt vars ⟨x.var,x.ax.take k⟩]) b w (by rw[adm];simp;omega) ?_ (by rw[af hi]);rw[adm,aeD];exact z
   . have hi:p.aS=[]:=by
       refine abF.1 ?_;simp only[dJ]at e;omega
     exact k1 acc y H2 (by omega) h (by rw[ab hi,adv])
 exact main x.ax 0 [] _ _ rfl (aaU _) (hb _) (cc.nil _ _ _) j
end
def fJ:List Int->List Int->Option (List Int)
 | n::a,i::is=>match fJ a is with
  |some t=>acK (i::t)
  |none=>if i+1<n then acK ((i+1)::a.map λ_=>0)else acL
 |_,_=>acL
def jr:List Int->List Int->List (List Int)
 |n::a,i::is=>(jr a is).map (λt=>i::t)++(abQ (i.toNat+1) (n.toNat-(i.toNat+1))).flatMap λ(j:Nat)=>(cB a).map λt=>(j:Int)::t
 |_,_=>[[]]
def VI:List Int->List Int->Prop
 |[],[]=>True
 |n::a,i::is=>(0<=i/\i<n)/\VI a is
 |_,_=>False
theorem VI.len:∀{l a:List Int},VI l a->a.length=l.length
 |[],[],_=>rfl
 |n::b,i::a,h=>by rw[adN,adN,VI.len h.2]
theorem VI.zero:∀{l:List Int},(∀n∈l,1<=n)->VI l (l.map λ_=>0)
 |[],_=>trivial
 |n::a,h=>⟨⟨Int.le_refl _,by have:=h n (acs ..);show(0:Int)<n;omega⟩,VI.zero λm hm=>h m (acp _ hm)⟩
theorem VI.get:∀{l b:List Int}{k:Nat}{n i:Int},VI l b->l[k]?=acK n->b[k]?=acK i->0<=i/\i<n
 | n::c,i::b,0,_,_,h,h1,a=>by simp only[ac5,aaC.injEq]at h1 a;subst h1 a;exact h.1
 | n::c,i::b,k+1,_,_,h,h1,a=>by simp only[ac6]at h1 a;exact VI.get h.2 h1 a
theorem Dn:∀{l:List Int},(∀n∈l,1<=n)->jr l (l.map λ_=>0)=cB l
 |[],_=>rfl
 | n::a,h=>by
  rw[List.map_cons,jr,cB,Dn λm hm=>h m (acp _ hm)];have hn:n.toNat=(n.toNat-1)+1:=by have:=h n (acs ..);omega
  rw[show List.range n.toNat=0::abQ 1 (n.toNat-1) by rw[hn,List.range_eq_range',aeU];simp,ac0];rfl
theorem s3:∀{l a:List Int},VI l a->fJ l a=acL->jr l a=[a]
 |[],[],_,_=>rfl
 | n::b,i::a,h,hn=>by
  rw[fJ]at hn;cases hs:fJ b a with
  |some t=>rw[hs]at hn;cases hn
  | none=>
   rw[hs]at hn;dsimp only at hn;rw[jr,s3 h.2 hs];have hi:¬i+1<n:=λq=>by rw[ab q]at hn;cases hn
   rw[show n.toNat-(i.toNat+1)=0 by omega];rfl
theorem zk:∀{l a t:List Int},(∀n∈l,1<=n)->VI l a->fJ l a=acK t->jr l a=a::jr l t/\VI l t
 |[],[],t,_,_,hn=>by rw[fJ]at hn;cases hn;intros;simp_all
 | n :: c,i::a,t,hl,h,hn=>by
  have b:∀m∈c,1<=m:=λm hm=>hl m (acp _ hm);rw[fJ]at hn;cases hs:fJ c a with
  | some e=>rw[hs]at hn;simp only[aaC.injEq]at hn;subst hn;obtain⟨h1,d⟩:=zk b h.2 hs;refine⟨?_,h.1,d⟩;rw[jr,h1,jr];rfl
  | none=>
   rw[hs]at hn;dsimp only at hn;by_cases hi:i+1<n
   . rw[ab hi]at hn;simp only[aaC.injEq]at hn;subst hn;refine⟨?_,⟨by have:=h.1.1;omega,hi⟩,VI.zero b⟩;have f:=h.1.1;rw[jr,s3 h.2 hs,jr,Dn b,show n.toNat-(i.toNat+1)=(n.toNat-((i+1).toNat+1))+1 by omega,aeU,ac0,show i.toNat+1=(i+1).toNat by omega,Int.toNat_of_nonneg (by omega)];rfl
   ·rw[af hi]at hn;cases hn
theorem MN:∀{lp pre a b t:List Int},lp.length=pre.length->fJ a b=acK t->fJ (lp++a) (pre++b)=acK (pre++t)
 |[],[],a,b,t,_,h=>h
 | n::lp,i::pre,a,b,t,hl,h=>by rw[abZ,abZ,fJ,MN (by simpa using hl) h];rfl
theorem W_{l a:List Int}(d:a.length=l.length){m:Nat}{n i:Int}(b:l[m]?=acK n)(c:a[m]?=acK i)(hs:fJ (l.drop (m+1)) (a.drop (m+1))=acL) :
  (i+1<n->fJ l a=acK (a.take m++(i+1)::(l.drop (m+1)).map λ_=>0))/\(¬i+1<n->fJ (l.drop m) (a.drop m)=acL):=by
 have d1:l.drop m=n::l.drop (m+1):=by have:=(aal.1 b).1;rw[adn this];rw[abb this]at b;cases b;rfl
 have d2:a.drop m=i::a.drop (m+1):=by have:=(aal.1 c).1;rw[adn this];rw[abb this]at c;cases c;rfl
 constructor
 . intro hi;have:=MN (lp:=l.take m) (pre:=a.take m) (by rw[adI,adI,d]) (show fJ (l.drop m) (a.drop m)=acK ((i+1)::(l.drop (m+1)).map λ_=>0) by rw[d1,d2,fJ,hs];dsimp only;rw[ab hi]);rwa [aeE,aeE]at this
 . intro hi;rw[d1,d2,fJ,hs];dsimp only;rw[af hi]
variable{H:Z}{j k:Nat}{l:List Int}
def KX(R:Bool->Z->Prop):hU->Env->Z->Prop
 | .ret,_,H=>R acI H
 | .normal,_,H=>R acJ H
 | .exit _,_,_=>False
def zl:dT:= .seq (.region [
   ⟨acK 13,.mv (.t 3),acL⟩,
   ⟨acK 14,.len acJ (.t 13),acL⟩,
   ⟨acK 15,.bin .sub (.t 14) (.k (.int .i64 1)),acL⟩,
   ⟨acK 4,.mv (.t 15),acL⟩])
 (.join [4] [16,17,18,19,20,21,22,23,24,25,26,27,28,29,30,31,32,33,34,35,36,37,38] (.block 2 (.loop [4] [16,17,18,19,20,21,22,23,24,25,26,27,28,29,30,31,32,33,34,35,36,37,38] (.seq (.seq (.region [
   ⟨acK 16,.mv (.t 4),acL⟩,
   ⟨acK 17,.bin .geq (.t 16) (.k (.int .i64 0)),acL⟩])
 (.cond (.t 17) (.skip)
   (.exit 2)))
 (.seq (.block 3 (.seq (.region [
   ⟨acK 20,.mv (.t 3),acL⟩,
   ⟨acK 21,.mv (.t 4),acL⟩,
   ⟨acK 22,.gY acL 1 (.t 20) (.t 21),acL⟩,
   ⟨acK 23,.load 1 acJ (.t 22),acL⟩,
   ⟨acK 24,.bin .add (.t 23) (.k (.int .u64 1)),acL⟩,
   ⟨acK 25,.gY acL 1 (.t 20) (.t 21),acL⟩,
   ⟨acL,.store 1 (.t 25) (.t 24),acL⟩])
 (.seq (.seq (.draw [
   ⟨acK 26,.mv (.t 3),acL⟩,
   ⟨acK 27,.mv (.t 4),acL⟩,
   ⟨acK 28,.gY acL 1 (.t 26) (.t 27),acL⟩,
   ⟨acK 29,.load 1 acJ (.t 28),acL⟩,
   ⟨acK 30,.load 1 acJ (.t 1),acL⟩,
   ⟨acK 31,.mv (.t 4),acL⟩,
   ⟨acK 32,.gY acL 1 (.t 30) (.t 31),acL⟩,
   ⟨acK 33,.load 1 acJ (.t 32),acL⟩,
   ⟨acK 34,.conv .u64 (.t 33),acL⟩,
   ⟨acK 35,.bin .lss (.t 29) (.t 34),acL⟩]
 [[],[],[0,1],[0,1,2],[],[],[4,5],[4,5,6],[4,5,6,7],[0,1,2,3,4,5,6,7,8]] [] [0,1,2,3,4,5,6,7,8,9])
 (.cond (.t 35) (.exit 2)
   (.skip)))
 (.region [
   ⟨acK 36,.mv (.t 3),acL⟩,
   ⟨acK 37,.mv (.t 4),acL⟩,
   ⟨acK 38,.gY acL 1 (.t 36) (.t 37),acL⟩,
   ⟨acL,.store 1 (.t 38) (.k (.int .u64 0)),acL⟩]))))
 (.region [
   ⟨acK 18,.mv (.t 4),acL⟩,
   ⟨acK 19,.bin .sub (.t 18) (.k (.int .i64 1)),acL⟩,
   ⟨acK 4,.mv (.t 19),acL⟩])))))
 (.seq (.region [
   ⟨acK 39,.mv (.t 4),acL⟩,
   ⟨acK 40,.bin .lss (.t 39) (.k (.int .i64 0)),acL⟩])
 (.cond (.t 40) (.ret)
   (.skip))))
def oG(M a:I):Env:=[.bot,M,.bot,a]++KT 37 .bot
def zm(R:Bool->Z->Prop):List I->Z->Prop:=λgj a=>
 Do (cH .lss (N gj 0) (.int .i64 0)) λb=>
 W b acI (
 R acI a) (
 R acJ a)
def zn(M c:I)(R:Bool->Z->Prop):(List I×Z)->((List I×Z)->Prop)->Prop:=λa d=>
 Do (cH .geq (N a.1 0) (.int .i64 0)) λe=>
 W e acI (
 Do (aL acL 1 c (N a.1 0)) λf=>
 Do (aj a.2 1 acJ f) λg=>
 Do (cH .add g (.int .u64 1)) λh=>
 Do (aL acL 1 c (N a.1 0)) λi=>
 Do (cf a.2 1 i h) λb=>
 Do (aL acL 1 c (N a.1 0)) λj=>
 Do (aj b 1 acJ j) λk=>
 Do (aj b 1 acJ M) λl=>
 Do (aL acL 1 l (N a.1 0)) λm=>
 Do (aj b 1 acJ m) λn=>
 Do (fU .u64 n) λo=>
 Do (cH .lss k o) λp=>
 W p acI (
 G (zm R) [(N a.1 0)] b) (
 Do (aL acL 1 c (N a.1 0)) λq=>
 Do (cf b 1 q (.int .u64 0)) λr=>
 Do (cH .sub (N a.1 0) (.int .i64 1)) λs=>
 d ([s],r))) (
 G (zm R) [(N a.1 0)] a.2)
def Dp(M a:I)(H:Z)(R:Bool->Z->Prop):Prop:=
 Do (ea acJ a) λb=>
 Do (cH .sub b (.int .i64 1)) λc=>
 ar (zn M a R) ([c],H)
theorem Xa(Φ:ad)(M a:I)(H:Z)(R:Bool->Z->Prop):dk Φ zl (oG M a) H (KX R)=Dp M a H R:=by kernel_rfl
def ej(n:Int):I:= .int .u64 n
theorem MO(h:At H j (.row (l.map ej))){v:Int}(hv:l[k]?=acK v):aj H 1 acJ (.ptr j k)=acK (.int .u64 v):=by have hk:=(aal.1 hv).1;rw[h.load];unfold bO;rw[ab (by rw[abI];omega),cw,aba,hv];rfl
theorem MP(h:At H j (.row (l.map ej)))(a:k<l.length)(v:Int):cf H 1 (.ptr j k) (.int .u64 v)=acK (H.set j (.row ((l.set k v).map ej))):=by rw[h.st1 (by rw[abI];exact a) ⟨rfl,rfl,rfl⟩,List.map_set];rfl
theorem Xb{bb a:List Int}(hl:∀n∈bb,1<=n/\n<=1000000000)(hv:VI bb a)(hn:bb.length<=1000000000)(l:At H j (.row (a.map ej))){R:Bool->Z->Prop}
  (o:fJ bb a=acL->∀H',R acI H') (h1:∀t,fJ bb a=acK t->∀H',At H' j (.row (t.map ej))->R acJ H'):Dp (.ae [av cG bb]) (.row j 0 a.length 1) H R:=by
 have hlen:=hv.len;unfold Dp;rw[show ea acJ (.row j 0 a.length 1)=acK (.int .i64 a.length)from rfl];simp only[O,eH];have main:∀(m:Nat)(H:Z),m<=a.length->fJ (bb.drop m) (a.drop m)=acL->At H j (.row ((a.take m++(bb.drop m).map λ_=>0).map ej))->ar (zn (.ae [av cG bb]) (.row j 0 a.length 1) R) ([.int .i64 (B ((m:Int)-1))],H):=by
  intro m;induction m with
  | zero=>intro H hm hs f;refine ar.step ?_;simp only[zn,T,eD,O,au,aw,zm,aY];rw[cw,jD];exact o hs H
  | succ m p=>
   intro H hm hs f;have hw:B (((m+1:Nat):Int)-1)=(m:Int):=by rw[show(((m+1:Nat):Int)-1)=(m:Int) by omega];exact bo
   obtain⟨i,hi⟩:∃i,a[m]?=acK i:=⟨_,abb (by omega)⟩
   obtain⟨n,b⟩:∃n,bb[m]?=acK n:=⟨_,abb (by omega)⟩
   obtain⟨v0,v1⟩:=hv.get b hi;obtain⟨n0,n1⟩:=hl n (adq b);obtain⟨M,a2⟩:=W_ hlen b hi hs;have hc:a.take (m+1)++(bb.drop (m+1)).map (λ_=>(0:Int))=a.take m++i::(bb.drop (m+1)).map (λ_=>(0:Int)):=by rw[adw,hi,Option.toList_some,aeo];rfl
   rw[hc]at f;have d:(a.take m).length=m:=by rw[adI];omega
   have q:aL acL 1 (.row j 0 a.length 1) (.int .i64 m)=acK (.ptr j m):=by show(if 0<=(m:Int)/\(m:Int)<(a.length:Nat)then acK (I.ptr j (0+(m:Int).toNat*1))else acL)=_;rw[ab ⟨by omega,by omega⟩,aeq,aa8,Nat.mul_one]
   have ld:=MO f (k:=m) (v:=i) (by rw[ab1 (by omega),d];simp);have r:m<(a.take m++i::(bb.drop (m+1)).map (λ_=>(0:Int))).length:=by rw[adm,d,adN];omega
   have st:=MP f r (i+1);have s:∀x:Int,(a.take m++i::(bb.drop (m+1)).map (λ_=>(0:Int))).set m x=a.take m++x::(bb.drop (m+1)).map (λ_=>(0:Int)):=λx=>by rw[aeV,d,af (aeI _),aeW];rfl
   rw[s]at st;have g:=f.set (.row ((a.take m++(i+1)::(bb.drop (m+1)).map (λ_=>(0:Int))).map ej));have u:=MO g (k:=m) (v:=i+1) (by rw[ab1 (by omega),d];simp);have w:m<(a.take m++(i+1)::(bb.drop (m+1)).map (λ_=>(0:Int))).length:=by rw[adm,d,adN];omega
   have st2:=MP g w 0;have y:(a.take m++(i+1)::(bb.drop (m+1)).map (λ_=>(0:Int))).set m 0=a.take m++0::(bb.drop (m+1)).map (λ_=>(0:Int)):=by rw[aeV,d,af (aeI _),aeW];rfl
   rw[y]at st2;refine ar.step ?_;have z:abu .u64 (i+1)=i+1:=rU;have wn:abu .u64 n=n:=rU;have A:∀H,aj H 1 acJ (.ae [av cG bb])=acK (av cG bb):=λ_=>rfl;have C:∀H,aj H 1 acJ (di cG 1 bb m)=acK (.int .i64 n):=λH=>mZ (c:=I.int .i64) H b;rw[hw];simp only[zn,T,eD,O,au];rw[lu];simp only[q,ld,O,bz,z,st,u,A];rw[b6 (cells:=cG) (sz:=1) (show m<bb.length by omega)];simp only[O,C,iL,wn,aY,aw];apply aG<;>intro e
   . have h:i+1<n:=by simpa using e
     unfold zm;simp only[T,aY,O,au];rw[ka];exact h1 _ (M h) _ g
   . have h:¬i+1<n:=by simpa using e
     simp only[st2,O,eH];refine p _ (by omega) (a2 h) ?_;have D:bb.drop m=n::bb.drop (m+1):=by have:=(aal.1 b).1;rw[adn this];rw[abb this]at b;cases b;rfl
     rw[D];exact g.set _
 have:=main a.length H (hb _) (by rw[aeX (by omega),aeX (hb _),fJ];intros;simp_all) (by rw[List.take_length,aeX (by omega)];simpa using l);exact this
end Rb
namespace Rb
open Go Go.RowKit
def MQ(b:Nat)(A B:World):Prop:=A.grownBy B (acK b)/\∃o:Obj,A.heap[b]?=acK o/\o.isCells=acI
def iA(b:Nat)(A B:World):Prop:=A.heap.size<=B.heap.size/\B.heap[b]?=A.heap[b]?
theorem iA.refl(b:Nat)(A:World):iA b A A:=⟨hb _,rfl⟩
theorem iA.trans{b:Nat}{A B C:World}(h:iA b A B)(k:iA b B C):iA b A C:=⟨sl h.1 k.1,k.2.trans h.2⟩
theorem iA.putObj{b:Nat}{W:World}{l:Nat}(a:Obj)(hl:l<W.heap.size)(h:b≠l):iA b W (W.putObj l a):=⟨by simp,aeY h⟩
variable{S:Nat->Prop}{W:World}
def e9(S:Nat->Prop)(A B:World):Prop:=A.heap.size<=B.heap.size/\∀k,S k->B.heap[k]?=A.heap[k]?
theorem e9.refl(S:Nat->Prop)(A:World):e9 S A A:=⟨hb _,λ_ _=>rfl⟩
theorem e9.trans{A B C:World}(h:e9 S A B)(k:e9 S B C):e9 S A C:=⟨sl h.1 k.1,λj a=>(k.2 j a).trans (h.2 j a)⟩
theorem e9.putObj{l:Nat}(a:Obj)(h:∀k,S k->k≠l):e9 S W (W.putObj l a):=⟨by simp,λk hk=>aeY (h k hk)⟩
theorem e9.alloc(o:Obj)(h:∀k,S k->k<W.heap.size):e9 S W (W.alloc o):=⟨by simp,λk hk=>Below.heap_alloc W o k (h k hk)⟩
def MR(W W':World):Prop:=∀(k:Nat)(o:Obj),W.heap[k]?=acK o->((∃x,o = .loop x)\/∃x,o = .deferred x)->W'.heap[k]?=acK o
def mK(b:Nat)(A B:World):Prop:=MQ b A B/\A.drawn<=B.drawn
def MS{α:Type}(n:Nat)(P:Program)(g:Nat)(lb:Array Value)(arg:Nat->World->α->Array Value->Prop)(S:Nat->Prop)(xs:List α)(w:World):Prop:=
 ∀ (l:Nat) (J:Nat->List α->World->Prop) (W:World),e9 S w W->(∀b s A B,J b s A->mK b A B->J b s B) ->
  (∀b pre x args Wp W1,J b pre Wp->mK b Wp W1->(pre++[x]) <+: xs->arg Wp.heap.size W1 x args->YieldAt aeZ (n-1) P l args W1 λe W'=>e = .returned (.bool acI)/\J b (pre++[x]) W'/\iA b W1 W'/\e9 S W1 W') ->
  (∀b W',Below W.heap.size W W'->W.drawn<=W'.drawn->W.heap.size<=b->b<W'.heap.size->J b [] W') ->
  CallsIn aeZ n P g (#[.func (.yield l) #[] #[]]++lb) W λe W'=>(∃v,e = .returned v)/\∃b,J b xs W'
theorem Xc{α:Type}{P:Program}{n:Nat}{w:World}{g:Operand}{f:Array Tmp}{assign body:Code}{Q:Exit->Act->World->Prop}{a:Act}
  (h1:1<=n) {gf:Nat} {lb:Array Value} (L:a.eval g = .func (.func gf) #[] lb) (M:∀args w,(callFunc gf args).run P w = .ok (.enter gf args) w)
  {arg:Nat->World->α->Array Value->Prop} {S:Nat->Prop} {xs:List α} (hc:∀k,S k->k<w.heap.size) (O:MS (n-1) P gf lb arg S xs w) (y:∀N W x V,arg N W x V->V.size=f.size) (R:∀N N' W x V,N<=N'->arg N' W x V->arg N W x V)
  (T:∀N W l o x V,W.heap[l]?=acK (.loop o)->arg N W x V->∀j,arg N (W.putObj l (.loop j)) x V)
  (d:Nat->Nat->List α->World->Prop) (m:∀N b pre W l o j,d N b pre W->w.heap.size<=l->W.heap[l]?=acK o->(∃x,o = .loop x)\/(∃x,o = .deferred x)->d N b pre (W.putObj l j)) (hT:∀N b s A B,d N b s A->mK b A B->d N b s B)
  (X:∀b W',Below w.heap.size w W'->w.drawn<=W'.drawn->w.heap.size<=b->b<W'.heap.size->∃N,N<=W'.heap.size/\d N b [] W') (z:Array Value->Act)
  (Y:∀(l:Nat)(V:Array Value)(W:World)(K:Act->World->Prop),V.size=f.size->K (z V) W ->
    assign.wpIn (aeZ.inRound l) (n-1-1) P (Exit.then K (λ_ _ _=>False)) {tmps:=(f.zip V).foldl (λt (p,v)=>t.setIfInBounds p v) a.tmps,defers:=[]} W)
  (Z:∀(l N b:Nat)(pre:List α)(x:α)(V:Array Value)(W:World),w.heap.size<=W.heap.size->w.heap.size<=b->b<W.heap.size->d N b pre W->(pre++[x]) <+: xs->arg N W x V ->
    body.wpIn (aeZ.inRound l) (n-1-1) P (λe _ W'=>e = .normal/\MR W W'/\iA b W W'/\e9 S W W'/\∃N',N'<=W'.heap.size/\d N' b (pre++[x]) W') (z V) W)
  (aa:∀(D N b:Nat)(W:World),w.heap.size<=D->d N b xs W->W.heap[D]?=acK (.deferred (acK []))->Q .normal {a with defers:={target:= .collected D,args:= #[]}::a.defers} W) :
  (Code.rangeFunc g f assign body).wpIn aeZ n P Q a w:=by
 refine wpIn_rangeFunc ?_;intro fn ab;let c:LoopState->Option Code->Loop:=λst ac=>{state:=st,pending:=ac,fn,tmps:=a.tmps,params:=f,assign,body,defers:=w.heap.size}
 let W1:World:=(w.alloc (.deferred (acK []))).alloc (.loop (c .ready acL));have ad:W1.heap[w.heap.size+1]?=acK (.loop (c .ready acL)):=by have:=ae0 (w.alloc (.deferred (acK []))) (.loop (c .ready acL));rwa [World.size_alloc]at this
 have ae:W1.heap[w.heap.size]?=acK (.deferred (acK [])):=(Below.heap_alloc _ _ _ (by simp)).trans (ae0 w _);have C:e9 S w W1:=(e9.alloc _ hc).trans (e9.alloc _ λk hk=>(by have:=hc k hk;simp;omega));have af:Below w.heap.size w W1:=((Below.refl _ w).alloc (hb _) _).alloc (by simp) _;have ag:w.heap.size<=W1.heap.size:=C.1;have ax:W1.heap.size=w.heap.size+2:=by simp[W1]
 refine ⟨w.heap.size+1,[{target:= .collected w.heap.size,args:= #[]}],W1,{target:= .fn (.func gf) lb,args:= #[.func (.yield (w.heap.size+1)) #[] #[]]},W1,gf,
   #[.func (.yield (w.heap.size+1)) #[] #[]]++lb,W1,?_,?_,λ_ _=>trivial,?_,λ_=>h1,?_⟩
 ·exact run_enterLoop_outer _ _ _ _ _
 . simp only[resolve,L];simp[go_sem]
 ·simp[invoke,go_sem,M]
 ·
   have turn:∀{b:Nat}{A B:World}{k:Nat}{o:Obj},MQ b A B->A.heap[k]?=acK o->o.isCells=acJ->B.heap[k]?=acK o:=by intro b A B k o ht hk ah;obtain⟨ai,j,E,hc⟩:=ht;refine(ai.block k (aa5.1 hk).1 (λe=>?_)).trans hk;cases e;rw[hk]at E;cases E;rw[ah]at hc;cases hc
   refine (O (w.heap.size+1)
     (λb pre W=>w.heap.size+2<=b/\b<W.heap.size/\w.heap.size<=W.heap.size/\(∃N,N<=W.heap.size/\d N b pre W)/\W.heap[w.heap.size+1]?=acK (.loop (c .ready acL))/\W.heap[w.heap.size]?=acK (.deferred (acK [])))
     W1 C (λb s A B hs ht=>⟨hs.1,xl hs.2.1 ht.1.1.size,sl hs.2.2.1 ht.1.1.size,(by obtain⟨N,hN,hi⟩:=hs.2.2.2.1;exact⟨N,sl hN ht.1.1.size,hT N b s A B hi ht⟩),turn ht.1 hs.2.2.2.2.1 rfl,turn ht.1 hs.2.2.2.2.2 rfl⟩) ?_ ?_).mono ?_
   ·
     rintro b pre x V Wp W ⟨F,q,r,⟨N,hN,hi⟩,hl,hk⟩ h aj ak;have ha:=R _ _ _ _ _ hN ak;replace q:=xl q h.1.1.size;replace r:=sl r h.1.1.size;replace hi:=hT N b pre Wp W hi h;replace hl:=turn h.1 hl rfl;replace hk:=turn h.1 hk rfl;have i:w.heap.size+1<W.heap.size:=(aa5.1 hl).1;have al:=run_yield (P:=P) (args:=V) hl (y N W x V ha);refine⟨fn,_,assign,body,al,roundIn_of_wpIn ab (Y _ V W _ (y N W x V ha) ?_)⟩;refine⟨_,run_beginRound hl rfl,?_⟩;have am:(W.putObj (w.heap.size+1) (.loop {c .ready acL with state:= .busy})).heap[w.heap.size+1]?=acK (.loop {c .ready acL with state:= .busy}):=ae1 i;have an:(W.putObj (w.heap.size+1) (.loop {c .ready acL with state:= .busy})).heap[w.heap.size]?=acK (.deferred (acK [])):=(aeY (by omega)).trans hk;have ao:iA b W (W.putObj (w.heap.size+1) (.loop {c .ready acL with state:= .busy})):=iA.putObj _ i (by omega);have ap:e9 S W (W.putObj (w.heap.size+1) (.loop {c .ready acL with state:= .busy})):=e9.putObj _ λk hk=>(by have:=hc k hk;omega)
     refine wpIn_mono (Z _ N b pre x V _ (by simp;omega) (by omega) (by simp;omega) (m N b pre _ _ _ _ hi (by omega) hl (.inl ⟨_,rfl⟩)) aj (T _ _ _ _ _ _ hl ha _)) ?_;rintro e a3 aq ⟨rfl,G,H,ar,I,ay,au⟩;have u:=G _ _ am (.inl ⟨_,rfl⟩);have av:=run_endRound (P:=P) acL u;have J:w.heap.size+1<aq.heap.size:=(aa5.1 u).1;have lN:=H.1;simp at lN;refine⟨_,_,av,rfl,⟨F,by simp;omega,by simp;omega,?_,ae1 J,(aeY (by omega)).trans (G _ _ an (.inr ⟨_,rfl⟩))⟩,?_,?_⟩
     ·exact⟨I,by simp;omega,m I b _ _ _ _ _ au (by omega) u (.inl ⟨_,rfl⟩)⟩
     ·exact ao.trans (H.trans (iA.putObj _ J (by omega)))
     ·exact ap.trans (ar.trans (e9.putObj _ λk hk=>(by have:=hc k hk;omega)))
   ·
     intro b W' U aw hle i;have hs:=U.size;exact⟨by omega,i,by omega,X b W' (af.trans (U.mono ag)) aw (by omega) i,(U.block _ (by omega)).trans ad,(U.block _ (by omega)).trans ae⟩
   ·
     rintro e az ⟨⟨v,rfl⟩,b,F,q,r,⟨N,hN,hi⟩,hl,hk⟩;exact⟨acL,_,run_endLoop (P:=P) hl (by simp[c]),aa _ N b _ (hb _) (m N b _ _ _ _ _ hi (by omega) hl (.inl ⟨_,rfl⟩)) ((aeY (by omega)).trans hk)⟩
end Rb
namespace Rb
open Go
variable{H:Z}{n:Nat}{x:I}{cells:List I}
theorem Xd{a n:Nat}{K:I->Z->Prop}(b:hL H 1 x=acK (n,cells))(hl:cells.length=n)(hs:cells.all I.scalar=acI)(U:n*a<=140737488355328)(hn:n<=9223372036854775807)
  (c:∀tk H',Z.Ext H H'->tk ≠ .nil->K (.aq tk n cells) H'):bs (cZ H acJ 1 a (.aq .full 0 []) x) K:=by
 by_cases d:n=0
 . subst d;have:cells=[]:=abF.1 hl;subst this;have e:cZ H acJ 1 a (.aq .full 0 []) x=acK (.aq .full 0 [],H):=by
    simp only[cZ,b];rfl
   rw[e,aN];exact c .full H (Z.Ext.refl H) (by decide)
 . refine⟨.aq (.own H.n) n cells,H.push (.tok (n*1) 1),?_,c _ _ (Z.Ext.push H _) (by simp)⟩;simp only[cZ,b,hs,not_true_eq_false,b4,af d];rw[af (by simp only[Decidable.not_not];exact⟨by simp,by rw[aa8];exact U,by omega⟩)];simp
section
variable{C:Ctx}(hT:Cl (ai C) S.b7)
include hT
theorem Xe{Q:aa}(a:hL H 1 x=acK (n,cells))(b:nB .s acJ x=acK (.bool acJ))(hl:cells.length=n)(hs:cells.all I.scalar=acI)(hn:n<=1000000000)
  (hQ:∀tk H',Z.Ext H H'->tk ≠ .nil->Q (.aq tk n cells) H'):ai C 35 [x] H Q:=by
 refine S.QU hT ?_;unfold S.f35;have c:cI H acJ 1 0 [.int .u64 0] []=acK (.aq .full 0 [],H):=rfl;simp only[b,O,au,abW,b4,c,aN];exact Xd a hl hs (by omega) (by omega) hQ
end
def oH(F:dE)(a:Nat->Nat->Prop)(N:Nat)(W:World)(x:List Int)(args:Array Value):Prop:=∃V fz,args = #[V]/\(∀b o,fz b o->(a b o\/N<=b)/\∃c,W.cell? ⟨b,o,acL⟩=acK c)/\VR F W (aW.mt fz) (.aq .dead x.length (x.map ej)) V
end Rb
namespace Rb
open Go Go.RowKit
open Go
variable{w W:World}{b cap:Nat}{is:List Int}{S:Nat->Prop}{C:Ctx}{fz:Nat->Nat->Prop}
def nz(w:World)(b cap:Nat)(is:List Int):Prop:=∃a e,w.heap[b]?=acK (.cells a e (0,0))/\a.size=cap/\is.length<=cap/\∀(k:Nat)(v:Int),is[k]?=acK v->a[k]?=acK (.int .u64 v)
theorem nz.left{w w':World}(h:nz w b cap is)(k:iA b w w'):nz w' b cap is:=by obtain⟨a,e,h1,c⟩:=h;exact⟨a,e,k.2.trans h1,c⟩
theorem Dq{F:dE}{G:aW}{H:Z}{i:Nat}(b:Rel F w G H)(h:At H i (.row (is.map ej)))(hc:is.length<=G.cap i):nz w (G.loc i) (G.cap i) is:=by have a:=b.obj i;rw[h.2]at a;obtain⟨c,e,h1,d,_,f⟩:=a;refine⟨c,e,h1,d,hc,λk v hv=>?_⟩;obtain⟨V,g,j⟩:=f k (ej v) (by rw[aba,hv];rfl);rw[g];cases j;rfl
theorem e9.cell(h:e9 S W w){b o:Nat}{V:Value}(U:S b)(hc:W.cell? ⟨b,o,acL⟩=acK V):w.cell? ⟨b,o,acL⟩=acK V:=by rw[aa3 (w:=W) (h.2 b U)];exact hc
theorem c9.left(h:c9 C W (aW.mt fz) Z.mt)(k:e9 S W w)(hz:∀b o,fz b o->S b):c9 C w (aW.mt fz) Z.mt:=by
 have c:GLe W (aW.mt fz) w (aW.mt fz):=⟨hb _,λ_ _=>rfl,λ_ _=>rfl,λ_ _ h=>h,λb o V hf hc=>k.cell (hz b o hf) hc⟩
 refine⟨h.1.mono c,λg l hl a=>?_⟩;obtain⟨⟨cs,t,fr,h1,d⟩,_⟩:=h.2 g l hl a;refine⟨⟨cs,t,fr,?_,d⟩,λi hi=>by cases hi⟩;have hv:=h.1 g l hl;cases hv with
 | ae cells b o Vs e hv=>
  obtain ⟨x,r,rfl⟩:∃x r,l=x::r:=by cases l with
   |nil=>exact absurd rfl a
   |cons x r=>exact⟨x,r,rfl⟩
  have:=(e 0 x rfl).1;rw[k.2 g (hz _ _ this)];exact h1
theorem Xf(h:nz w b cap is)(hz:∀b o,fz b o->∃V,w.cell? ⟨b,o,acL⟩=acK V)(U:∀o,¬fz b o)(hG:c9 C w (aW.mt fz) Z.mt) :
  c9 C w ((aW.mt fz).more b cap) (Z.mt.push (.row (is.map ej)))/\Rel C.F w ((aW.mt fz).more b cap) (Z.mt.push (.row (is.map ej)))/\GLe w (aW.mt fz) w ((aW.mt fz).more b cap)/\VR C.F w ((aW.mt fz).more b cap) (.row 0 0 is.length 1) (.slice (acK ⟨b,0,acL⟩) is.length cap):=by
 obtain⟨f,e,h1,g,k,l⟩:=h;have m:=Rel.mt (F:=C.F) hz;obtain ⟨d,n⟩:=m.qA (b:=b) (c:=cap) (λi hi=>by cases hi) (.row (is.map ej)) λd=>by
  refine⟨f,e,?_,?_,?_,?_⟩
  ·exact h1
  ·exact g
  ·exact U
  . intro j c a;rw[aba]at a;cases hi:is[j]? with
    |none=>rw[hi]at a;cases a
    | some v=>rw[hi]at a;simp only[aaD,aaC.injEq]at a;subst a;exact⟨_,l j v hi,.int _ _⟩
 refine⟨hG.qA d rfl U,n,d,?_⟩;have:=VR.row (F:=C.F) (w:=w) (G:=(aW.mt fz).more b cap) 0 0 is.length 1 cap (by show 0<0+1;decide) k (by show 0+cap*1=cap;omega);exact this
def zo:dT:= .region [
   ⟨acK 5,.load 1 acJ (.t 1),acL⟩,
   ⟨acK 6,.len acJ (.t 5),acL⟩,
   ⟨acK 7,.make acI 1 8 [.int .u64 0] (.t 6) (.t 6),acL⟩,
   ⟨acK 3,.mv (.t 7),acL⟩]
def KZ(R:aa):hU->Env->Z->Prop
 | .normal,env,H=>R (env.getD 3 .bot) H
 |_,_,_=>False
def qg(M:I):Env:=[.bot,M]++KT 39 .bot
theorem Xg(Φ:ad)(M:I)(H:Z)(R:aa):dk Φ zo (qg M) H (KZ R)=(Do (aj H 1 acJ M) λb=>Do (ea acJ b) λa=>bs (jN H acI 1 8 [.int .u64 0] a a) λc d=>R c d):=by kernel_rfl
structure Xh(S:Nat->Prop)(J:Nat->List (List Int)->World->Prop)(W0:World)(l:Nat)(Vc:Value)(b cap:Nat)(pre:List (List Int))(is:List Int)(a:Act)(w:World):Prop where
 t0:a.tmps[0]?=acK (.func (.yield l) #[] #[])
 t1:a.tmps[1]?=acK Vc
 t3:a.tmps[3]?=acK (.slice (acK ⟨b,0,acL⟩) is.length cap)
 sz:a.tmps.size=41
 df:a.defers=[]
 now:nz w b cap is
 lf:e9 S W0 w
 j:J b pre w
end Rb
namespace Rb
open Go
variable{b cap:Nat}{w w':World}{G G':aW}{H H':Z}
theorem Xi{F:Fence}{m:Nat}{P:Program}{l:Nat}{args:Array Value}{W:World}{R a:Ending->World->Prop}(h:YieldAt F m P l args W R)(k:∀e w,R e w->a e w):YieldAt F m P l args W a:=by obtain⟨fn,tmps,assign,body,h1,b⟩:=h;exact⟨fn,tmps,assign,body,h1,b.mono k⟩
theorem MT(a:Step w G H w' G' H')(c:∀i,(H.o i).live=acI->G.loc i=b){d:Array Value}{e:TypeId}(U:w.heap[b]?=acK (.cells d e (0,0))):mK b w w':=⟨⟨⟨a.os,a.tape,a.output,a.size,λk hk f=>a.d_ k hk λi hi he=>f (by rw[<-he,c i hi])⟩,_,U,rfl⟩,a.dr⟩
theorem s4{x:cx}{i:Nat}{fz:Nat->Nat->Prop}(h:((Z.mt.push x).o i).live=acI):((aW.mt fz).more b cap).loc i=b:=by
 by_cases hi:i=0
 ·subst hi;rfl
 . have:(Z.mt.push x).o i = .gone:=af hi;rw[this]at h;cases h
theorem Dr{S:Nat->Prop}(a:Step w G H w' G' H')(c:∀i,(H.o i).live=acI->G.loc i=b)(hS:∀k,S k->k<w.heap.size)(U:¬S b):e9 S w w':=⟨a.size,λk hk=>a.d_ k (hS k hk) λi hi he=>U (by rw[<-c i hi,he];exact hk)⟩
section
variable{C:Ctx}(hF:gI C)(hT:Cl (ai C) S.b7){f41:FuncId}(hf:C.F 35=some f41){B r1:Code}(hB:cz C B zl=true)
 {S:Nat->Prop} {W0:World} {fz:Nat->Nat->Prop} (hz:∀b o,fz b o->S b/\∃V,W0.cell? ⟨b,o,acL⟩=acK V) (hS:∀k,S k->k<W0.heap.size) (hG:c9 C W0 (aW.mt fz) Z.mt) {Vc:Value} {bb:List Int} (hc:VR C.F W0 (aW.mt fz) (.ae [av cG bb]) Vc)
 (hl:∀n∈bb,1<=n/\n<=1000000000) (hn:bb.length<=1000000000) {J:Nat->List (List Int)->World->Prop} (oI:∀b s A B,J b s A->mK b A B->J b s B) {l n:Nat}
 (hY:∀b pre x args Wp W1,J b pre Wp->mK b Wp W1->(pre++[x]) <+: cB bb->oH C.F fz Wp.heap.size W1 x args->YieldAt aeZ n C.P l args W1 λe W'=>e = .returned (.bool acI)/\J b (pre++[x]) W'/\iA b W1 W'/\e9 S W1 W')
 (ez:∀(a:Act)(w:World)(V3:Value)(K:World->Prop),a.tmps[0]?=acK (.func (.yield l) #[] #[])->a.tmps[3]?=acK V3->a.tmps.size=41->Calls C.P f41 #[V3] w (λe w1=>∃V,e = .returned V/\YieldAt aeZ n C.P l #[V] w1 λe w2=>e = .returned (.bool acI)/\K w2) ->
   r1.wp C.P (λe a' w'=>e = .normal/\K w'/\a'.tmps[12]?=acK (.bool acJ)/\dU [8,9,10,11,12] a a'/\a'.defers=a.defers) a w)
 {Q:Exit->Act->World->Prop} (hQ:∀a w b,a.defers=[]->J b (cB bb) w->Q .ret a w)
include hF hT hf hB hz hS hG hc hl hn oI hY ez hQ
theorem Xj(U:¬S b):∀(m:Nat)(d:List Int)(pre:List (List Int)) (a:Act) (w:World),(jr bb d).length<=m->VI bb d->pre++jr bb d=cB bb->Xh S J W0 l Vc b cap pre d a w ->
  ae2 C.P (.block 1 ((r1.seq (.cond (.tmp 12) .ret .skip)).seq B)) Q m a w:=by
 intro m;induction m with
 | zero=>
  intro d pre a w hm hv hp hi;exfalso;cases s:fJ bb d with
  |none=>rw[s3 hv s]at hm;simp at hm
  |some t=>rw[(zk (λn hn=>(hl n hn).1) hv s).1]at hm;simp at hm
 | succ m T=>
  intro d pre a w hm hv hp hi;have D:∀b o,fz b o->S b:=λb o h=>(hz b o h).1;have aw:∀o,¬fz b o:=λo h=>U (D b o h);have hlen:=hv.len;have ax:∃rest,jr bb d=d::rest:=by
   cases s:fJ bb d with
   |none=>exact⟨[],s3 hv s⟩
   |some t=>exact⟨_,(zk (λn hn=>(hl n hn).1) hv s).1⟩
  obtain⟨rest,ay⟩:=ax;have az:(pre++[d]) <+: cB bb:=⟨rest,by rw[<-hp,ay];simp⟩
  show ae3 C.P (.block 1 ((r1.seq (.cond (.tmp 12) .ret .skip)).seq B)) (Exit.then (λa w=>ae2 C.P _ Q m a w) Q) a w;refine wp_block ?_;refine wp_seq ?_;refine wp_seq ?_;have tell:∀{w:World},nz w b cap d->e9 S W0 w->c9 C w ((aW.mt fz).more b cap) (Z.mt.push (.row (d.map ej)))/\Rel C.F w ((aW.mt fz).more b cap) (Z.mt.push (.row (d.map ej)))/\GLe W0 (aW.mt fz) w ((aW.mt fz).more b cap)/\VR C.F w ((aW.mt fz).more b cap) (.row 0 0 d.length 1) (.slice (acK ⟨b,0,acL⟩) d.length cap):=by
   intro w aA W;obtain⟨g1,g2,g3,g4⟩:=Xf aA (λq o h=>by obtain⟨V,g⟩:=(hz q o h).2;exact⟨V,W.cell (D q o h) g⟩) aw (hG.left W D);have aB:GLe W0 (aW.mt fz) w (aW.mt fz):=⟨hb _,λ_ _=>rfl,λ_ _=>rfl,λ_ _ h=>h,λq o V aC aD=>W.cell (D q o aC) aD⟩
   exact⟨g1,g2,aB.trans g3,g4⟩
  have ah:∀{w:World},e9 S W0 w->∀k,S k->k<w.heap.size:=λh k hk=>xl (hS k hk) h.1;refine wp_mono (ez a w _ (λw2=>nz w2 b cap d/\e9 S W0 w2/\J b (pre++[d]) w2) hi.t0 hi.t3 hi.sz ?_) ?_
  ·
    obtain⟨g1,g2,g3,g4⟩:=tell hi.now hi.lf;have H:At (Z.mt.push (.row (d.map ej))) 0 (.row (d.map ej)):=At.new Z.mt _;have aE:ai C 35 [.row 0 0 d.length 1] (Z.mt.push (.row (d.map ej))) λv H'=>∃tk,v = .aq tk d.length (d.map ej)/\Z.Ext (Z.mt.push (.row (d.map ej))) H':=by
     refine Xe hT (n:=d.length) (cells:=d.map ej) ?_ rfl (abI _) ?_ (by omega) λtk H' E _=>⟨tk,rfl,E⟩
     . simp only[hL,H.2];rw[ab (by rw[abI];omega),adf,adp (by rw[abI];omega)]
     . rw[abh];intro x s;obtain⟨y,_,rfl⟩:=List.mem_map.1 s;rfl
    refine(aE.run hf g1 g2 (Vs:= #[.slice (acK ⟨b,0,acL⟩) d.length cap]) ⟨rfl,λj c V f g=>?_⟩).mono ?_
    . match j,f,g with
      |0,f,g=>simp at f g;subst f g;exact g4
      |j+1,f,g=>simp at f
    . rintro e w1 ⟨V,v,H',G',rfl,⟨tk,rfl,E⟩,aF,X,p⟩;refine⟨V,rfl,?_⟩;obtain⟨aG,ty,Y,_⟩:=hi.now;have ht:=MT p (λi hi=>s4 hi) Y;have aa:=Dr p (λi hi=>s4 hi) (ah hi.lf) U;have aj:=H.ext E;have K:G'.loc 0=b:=(p.loc 0 (by show 0<0+1;decide)).trans rfl;have u:G'.cap 0=cap:=(p.cap 0 (by show 0<0+1;decide)).trans rfl;have ac:d.length<=cap:=by obtain⟨_,_,_,_,ad,_⟩:=hi.now;exact ad
      have z:=Dq X aj (by rw[u];exact ac);rw[K,u]at z;refine Xi (hY b pre d #[V] w w1 hi.j ht az ⟨V,G'.fz,rfl,λq o h=>⟨?_,X.e_ q o h⟩,?_⟩) ?_
      . rcases p.ff q o h with h|h|⟨i,aH,e⟩
        ·exact .inl h
        ·exact .inr h
        . exfalso;have L:b=q:=(s4 aH).symm.trans e;have ak:=X.obj 0;rw[aj.2]at ak;obtain⟨_,_,_,_,aI,_⟩:=ak;exact aI o (by rw[K,L];exact h)
      . have hw:=aF.cU;have aJ:(I.aq tk d.length (d.map ej)).cU = .aq .dead d.length (d.map ej):=by
         simp only[I.cU,lJ,acU];rfl
        rw[aJ]at hw;refine lH (G:=G') (G':=aW.mt G'.fz) (λ_ _ h=>h) (λ_ _ _ _ h=>h) ?_ hw;have:∀l:List Int,I.bV (l.map ej)=acI:=by
         intro l;induction l with
         |nil=>rfl
         |cons x r T=>simp[I.bV,I.bu,ej,T]
        simp[I.bu,this,Tok.free]
      . rintro e w2 ⟨rfl,A,aK,hC⟩;exact⟨rfl,z.left aK,(hi.lf.trans aa).trans hC,A⟩
  . rintro e M w1 ⟨rfl,⟨z,af,aL⟩,aM,N,aN⟩;show ae3 C.P (.cond (.tmp 12) .ret .skip) _ M w1;refine wp_cond (t:=acJ) (by show M.tmps.getD 12 undef=_;rw[abz,aM];rfl) ?_;refine wp_skip ?_;show ae3 C.P B _ M w1;obtain⟨g1,g2,g3,g4⟩:=tell z af;have al:M.tmps.size=41:=N.1.trans hi.sz;have am:M.tmps[1]?=acK Vc:=(N.2 1 (by decide)).trans hi.t1;have an:M.tmps[3]?=acK (.slice (acK ⟨b,0,acL⟩) d.length cap):=(N.2 3 (by decide)).trans hi.t3;have aO:be C.F w1 ((aW.mt fz).more b cap) (oG (.ae [av cG bb]) (.row 0 0 d.length 1)) M.tmps:=by
     refine⟨by rw[al];rfl,λj aQ V f g=>?_⟩
     match j,f with
     |0,f=>simp[oG]at f;subst f;exact .bot _
     |1,f=>simp[oG]at f;subst f;rw[am]at g;cases g;exact hc.mono g3
     |2,f=>simp[oG]at f;subst f;exact .bot _
     |3,f=>simp[oG]at f;subst f;rw[an]at g;cases g;exact g4
     | j+4,f=>
      have:aQ = .bot:=by
       simp only[oG,abZ,ac6,aeh,acN]at f;split at f
       ·cases f;rfl
       ·cases f
      subst this;exact .bot _
    have H:At (Z.mt.push (.row (d.map ej))) 0 (.row (d.map ej)):=At.new Z.mt _;have ao:=Xb (j:=0) (λn hn=>hl n hn) hv hn H (R:=λv H'=>if v=acI then fJ bb d=acL else ∃t,fJ bb d=acK t/\At H' 0 (.row (t.map ej))) (λh H'=>by rw[ab rfl];exact h) λt ht H' h=>by rw[cw];exact⟨t,ht,h⟩
    rw[<-Xa (ai C)]at ao;refine tV hF zl B _ _ _ w1 M _ _ hB ao g1 g2 aO (aN.trans hi.df) ?_;intro aR ex aP H' G' a2 w2 hex ag aY aS aZ ap p O;obtain⟨aG,ty,Y,_⟩:=z;have ht:=MT p (λi hi=>s4 hi) Y;have A:=oI b _ w1 w2 aL ht;have aa:=Dr p (λi hi=>s4 hi) (ah af) U;cases aR with
    |exit i=>exact ag.elim
    | ret=>
     cases ex<;>simp only[fW]at hex;have aT:fJ bb d=acL:=by simpa[KX]using ag
     have aU:pre++[d]=cB bb:=by rw[<-hp,s3 hv aT]
     rw[aU]at A;exact hQ a2 w2 b ap A
    | normal=>
     cases ex<;>simp only[fW]at hex;obtain⟨t,aV,aX⟩:∃t,fJ bb d=acK t/\At H' 0 (.row (t.map ej)):=by simpa[KX]using ag
     obtain⟨e1,L⟩:=zk (λn hn=>(hl n hn).1) hv aV;have K:G'.loc 0=b:=(p.loc 0 (by show 0<0+1;decide)).trans rfl;have u:G'.cap 0=cap:=(p.cap 0 (by show 0<0+1;decide)).trans rfl;have ac:d.length<=cap:=by obtain⟨_,_,_,_,ad,_⟩:=hi.now;exact ad
     have ar:t.length=d.length:=by rw[L.len,hlen]
     have au:=Dq aS aX (by rw[u,ar];exact ac);rw[K,u]at au;show ae2 C.P _ Q m a2 w2;refine T t (pre++[d]) a2 w2 ?_ L ?_ ?_
     ·rw[e1,adN]at hm;omega
     ·rw[<-hp,e1];simp
     ·exact⟨(O.2 0 (by decide)).trans ((N.2 0 (by decide)).trans hi.t0),(O.2 1 (by decide)).trans am,by rw[ar];exact(O.2 3 (by decide)).trans an,O.1.trans al,ap,au,af.trans aa,A⟩
end
end Rb
namespace Rb
open Go Go.RowKit
section
variable{C:Ctx}(hF:gI C)(hT:Cl (ai C) S.b7){f41:FuncId}(hf:C.F 35=some f41){B r0 r1:Code}(zp:cz C r0 zo=true)(hB:cz C B zl=true)
 {S:Nat->Prop} {W0:World} {fz:Nat->Nat->Prop} (hz:∀b o,fz b o->S b/\∃V,W0.cell? ⟨b,o,acL⟩=acK V) (hS:∀k,S k->k<W0.heap.size) (hG:c9 C W0 (aW.mt fz) Z.mt) {Vc:Value} {bb:List Int} (hc:VR C.F W0 (aW.mt fz) (.ae [av cG bb]) Vc)
 (hl:∀n∈bb,1<=n/\n<=1000000000) (hn:bb.length<=1000000000) {J:Nat->List (List Int)->World->Prop} (oI:∀b s A B,J b s A->mK b A B->J b s B) {l n:Nat}
 (hY:∀b pre x args Wp W1,J b pre Wp->mK b Wp W1->(pre++[x]) <+: cB bb->oH C.F fz Wp.heap.size W1 x args->YieldAt aeZ n C.P l args W1 λe W'=>e = .returned (.bool acI)/\J b (pre++[x]) W'/\iA b W1 W'/\e9 S W1 W')
 (ez:∀(a:Act)(w:World)(V3:Value)(K:World->Prop),a.tmps[0]?=acK (.func (.yield l) #[] #[])->a.tmps[3]?=acK V3->a.tmps.size=41->Calls C.P f41 #[V3] w (λe w1=>∃V,e = .returned V/\YieldAt aeZ n C.P l #[V] w1 λe w2=>e = .returned (.bool acI)/\K w2) ->
   r1.wp C.P (λe a' w'=>e = .normal/\K w'/\a'.tmps[12]?=acK (.bool acJ)/\dU [8,9,10,11,12] a a'/\a'.defers=a.defers) a w)
 {Q:Exit->Act->World->Prop} (hQ:∀a w b,a.defers=[]->J b (cB bb) w->Q .ret a w)
include hF hT hf zp hB hz hS hG hc hl hn oI hY ez hQ
theorem Xk(z:∀b W',Below W0.heap.size W0 W'->W0.drawn<=W'.drawn->W0.heap.size<=b->b<W'.heap.size->J b [] W'){a:Act}(ha:a.tmps.size=41)(A:a.tmps[0]?=acK (.func (.yield l) #[] #[]))(k:a.tmps[1]?=acK Vc)(D:a.defers=[]) :
  ae3 C.P (r0.seq (.block 0 (.loop (.block 1 ((r1.seq (.cond (.tmp 12) .ret .skip)).seq B))))) Q a W0:=by
 have m:∀n∈bb,1<=n:=λn hn=>(hl n hn).1;refine wp_seq ?_;have E:Rel C.F W0 (aW.mt fz) Z.mt:=Rel.mt λb o h=>(hz b o h).2;have G:be C.F W0 (aW.mt fz) (qg (.ae [av cG bb])) a.tmps:=by
  refine⟨by rw[ha];rfl,λj H V c p=>?_⟩
  match j,c with
  |0,c=>simp[qg]at c;subst c;exact .bot _
  |1,c=>simp[qg]at c;subst c;rw[k]at p;cases p;exact hc
  | j+2,c=>
   have:H = .bot:=by
    simp only[qg,abZ,ac6,aeh,acN]at c;split at c
    ·cases c;rfl
    ·cases c
   subst this;exact .bot _
 have K:dk (ai C) zo (qg (.ae [av cG bb])) Z.mt (KZ λL N=>L = .row 0 0 bb.length 1/\At N 0 (.row ((bb.map λ_=>(0:Int)).map ej))):=by
  rw[Xg,show aj Z.mt 1 acJ (.ae [av cG bb])=acK (av cG bb)from rfl];simp only[O,bC];have hm:jN Z.mt acI 1 8 [.int .u64 0] (.int .i64 bb.length) (.int .i64 bb.length)=acK (.row 0 0 bb.length 1,Z.mt.push (.row ((bb.map λ_=>(0:Int)).map ej))):=by
   unfold jN;dsimp only;rw[ab ⟨by omega,by omega,by omega,by omega,rfl⟩];simp only[bc,aeq];congr 3;rw[acU];have:∀l:List Int,(KT l.length [I.int .u64 0]).flatten=l.map (ej∘λ_=>(0:Int)):=by
    intro l;induction l with
    |nil=>rfl
    |cons x r R=>rw[adN,List.replicate_succ,List.flatten_cons,R];rfl
   rw[this]
  rw[hm];simp only[aN];exact⟨trivial,At.new Z.mt _⟩
 refine tV hF zo r0 _ _ _ W0 a _ _ zp K hG E G D ?_;intro T ex aP H' G' M w1 hex f am U W Y d hk;cases T with
 |exit i=>exact f.elim
 |ret=>exact f.elim
 | normal=>
  cases ex<;>simp only[fW]at hex;obtain⟨aa,q⟩:=f;have ac:M.tmps.size=41:=hk.1.trans ha;have g:=ly (t:=3) W;rw[aa]at g;have s:M.tmps[3]?=acK (M.tmps.getD 3 undef):=by rw[abz,aam (by omega)];rfl
  have ad:(H'.o 0).live=acI:=by rw[q.2];rfl
  have af:¬G'.loc 0<W0.heap.size:=λh=>by obtain⟨j,c,_⟩:=d.owned 0 ad h;cases c
  have u:¬S (G'.loc 0):=λh=>af (hS _ h);have ag:∀i,(Z.mt.o i).live=acI->(aW.mt fz).loc i=G'.loc 0:=λi hi=>by cases hi
  generalize an:M.tmps.getD 3 undef=X at g s;cases g with
  | row id off len sz cap h hle ao=>
   have v:(bb.map λ_=>(0:Int)).length=bb.length:=abI _;have y:=Dq U q (by rw[v];omega);have ah:G'.loc 0<w1.heap.size:=by obtain⟨ap,e,h1,_⟩:=y;exact(aa5.1 h1).1
   have ak:cap=G'.cap 0:=by omega
   subst ak;show ae3 C.P (.block 0 _) _ M w1;refine wp_block ?_;refine wp_loop_rounds (jr bb (bb.map λ_=>0)).length ?_;refine Xj hF hT hf hB hz hS hG hc hl hn oI hY ez (Q:=Exit.inBlock 0 Q) (λa w b h1 al=>hQ a w b h1 al) (b:=G'.loc 0) (cap:=G'.cap 0) u _ _ [] M w1 (hb _) (VI.zero m) ?_ ?_
   ·rw[aeh,Dn m]
   ·exact⟨(hk.2 0 (by decide)).trans A,(hk.2 1 (by decide)).trans k,by rw[s,v],ac,Y,y,Dr d ag hS u,z _ _ (Step.below d) d.dr (by omega) ah⟩
end
end Rb
namespace Go.Proofs.YteboppjdnpoglaaGreatDoor.rb
open Go Go.Proofs Go.RowKit Go.Shelf Rb
set_option maxRecDepth 100000 in
set_option maxHeartbeats 4000000 in
theorem Xl(n l : Nat)(L : List Value)(ds:List Deferred)(w:World)(V3:Value)(K:World->Prop)(ha:L.length=41)(a:L[0]?=acK (.func (.yield l) #[] #[]))(b:L[3]?=acK V3)
  (hc:Calls Tryz.prog 35 #[V3] w (λe w1=>∃V,e = .returned V/\YieldAt aeZ n Tryz.prog l #[V] w1 λe w2=>e = .returned (.bool acI)/\K w2)) :
  (ae4 1
                      #[{ dst := some 8, op := Op.move (Operand.tmp 0), type := 111, pos := "bound.go:41",
                          after:= #[],guard:=acL},
                        { dst := some 9, op := Op.move (Operand.tmp 3), type := 46, pos := "bound.go:41",
                          after:= #[],guard:=acL},
                        { dst :=acK 10,
                          op :=
                           Op.call
                            { callee:=ae5 (Operand.func 35),args:= #[ae6 9],
                              argTypes:= #[46]},
                          type := 46, pos := "bound.go:41", after := #[{ on := 1, ground := Ground.data }],
                          guard:=acL},
                        { dst :=acK 11,
                          op :=
                           Op.call
                            { callee:=ae5 (ae6 8),args:= #[ae6 10],
                              argTypes:= #[46]},
                          type := 4, pos := "bound.go:41",
                          after:=
                           #[{on:=0,ground:=ae7},{on:=2,ground:=ae7},
                             {on:=2,ground:=Ground.chain}],
                          guard:=acL},
                        { dst := some 12, op := Op.unOp UnOp.not 4 (Operand.tmp 11), type := 4, pos := "bound.go:41",
                          after:= #[{on:=3,ground:=ae7}],guard:=acL}]
                      acJ).wp Tryz.prog (λe a' w'=>e = .normal/\K w'/\a'.tmps[12]?=acK (.bool acJ)/\dU [8,9,10,11,12] ⟨L.toArray,ds⟩ a'/\a'.defers=ds) ⟨L.toArray,ds⟩ w:=by
 obtain⟨t0,c,rfl⟩:=ae8 (l:=L) (n:=40) (by simpa using ha);obtain⟨t1,d,rfl⟩:=ae8 (l:=c) (n:=39) (by simpa using ha);obtain⟨t2,f,rfl⟩:=ae8 (l:=d) (n:=38) (by simpa using ha);obtain⟨t3,g,rfl⟩:=ae8 (l:=f) (n:=37) (by simpa using ha);obtain⟨t4,i,rfl⟩:=ae8 (l:=g) (n:=36) (by simpa using ha);obtain⟨t5,j,rfl⟩:=ae8 (l:=i) (n:=35) (by simpa using ha);obtain⟨t6,k,rfl⟩:=ae8 (l:=j) (n:=34) (by simpa using ha);obtain⟨t7,m,rfl⟩:=ae8 (l:=k) (n:=33) (by simpa using ha);obtain⟨t8,o,rfl⟩:=ae8 (l:=m) (n:=32) (by simpa using ha);obtain⟨t9,p,rfl⟩:=ae8 (l:=o) (n:=31) (by simpa using ha);obtain⟨t10,q,rfl⟩:=ae8 (l:=p) (n:=30) (by simpa using ha);obtain⟨t11,r,rfl⟩:=ae8 (l:=q) (n:=29) (by simpa using ha);obtain⟨t12,s,rfl⟩:=ae8 (l:=r) (n:=28) (by simpa using ha);obtain⟨t13,u,rfl⟩:=ae8 (l:=s) (n:=27) (by simpa using ha);obtain⟨t14,v,rfl⟩:=ae8 (l:=u) (n:=26) (by simpa using ha);obtain⟨t15,x,rfl⟩:=ae8 (l:=v) (n:=25) (by simpa using ha);obtain⟨t16,y,rfl⟩:=ae8 (l:=x) (n:=24) (by simpa using ha);obtain⟨t17,z,rfl⟩:=ae8 (l:=y) (n:=23) (by simpa using ha);obtain⟨t18,A,rfl⟩:=ae8 (l:=z) (n:=22) (by simpa using ha);obtain⟨t19,B,rfl⟩:=ae8 (l:=A) (n:=21) (by simpa using ha);obtain⟨t20,C,rfl⟩:=ae8 (l:=B) (n:=20) (by simpa using ha);obtain⟨t21,D,rfl⟩:=ae8 (l:=C) (n:=19) (by simpa using ha);obtain⟨t22,E,rfl⟩:=ae8 (l:=D) (n:=18) (by simpa using ha);obtain⟨t23,F,rfl⟩:=ae8 (l:=E) (n:=17) (by simpa using ha);obtain⟨t24,G,rfl⟩:=ae8 (l:=F) (n:=16) (by simpa using ha);obtain⟨t25,H,rfl⟩:=ae8 (l:=G) (n:=15) (by simpa using ha);obtain⟨t26,I,rfl⟩:=ae8 (l:=H) (n:=14) (by simpa using ha);obtain⟨t27,J,rfl⟩:=ae8 (l:=I) (n:=13) (by simpa using ha);obtain⟨t28,M,rfl⟩:=ae8 (l:=J) (n:=12) (by simpa using ha);obtain⟨t29,N,rfl⟩:=ae8 (l:=M) (n:=11) (by simpa using ha);obtain⟨t30,O,rfl⟩:=ae8 (l:=N) (n:=10) (by simpa using ha);obtain⟨t31,P,rfl⟩:=ae8 (l:=O) (n:=9) (by simpa using ha);obtain⟨t32,Q,rfl⟩:=ae8 (l:=P) (n:=8) (by simpa using ha);obtain⟨t33,R,rfl⟩:=ae8 (l:=Q) (n:=7) (by simpa using ha);obtain⟨t34,S,rfl⟩:=ae8 (l:=R) (n:=6) (by simpa using ha);obtain⟨t35,T,rfl⟩:=ae8 (l:=S) (n:=5) (by simpa using ha);obtain⟨t36,U,rfl⟩:=ae8 (l:=T) (n:=4) (by simpa using ha);obtain⟨t37,W,rfl⟩:=ae8 (l:=U) (n:=3) (by simpa using ha);obtain⟨t38,X,rfl⟩:=ae8 (l:=W) (n:=2) (by simpa using ha);obtain⟨t39,Y,rfl⟩:=ae8 (l:=X) (n:=1) (by simpa using ha);obtain⟨t40,Z,rfl⟩:=ae8 (l:=Y) (n:=0) (by simpa using ha);have aa:Z=[]:=abF.1 (by simpa using ha);subst aa;simp only[ac5,ac6,aaC.injEq]at a b;subst a b;refine(wpIn_wide (n:=n+1)).1 ?_
 gi_wp2
 refine⟨trivial,(callsIn_wide.2 hc).mono ?_⟩;rintro e w1 ⟨V,rfl,fn,tmps,assign,body,ad,ab⟩
 gi_wp2
 refine ab.mono ?_;rintro e w2 ⟨rfl,ac⟩
 gi_wp2
 refine⟨ac,rfl,λt ht=>?_⟩
 match t,ht with
 |0,_=>rfl
 |1,_=>rfl
 |2,_=>rfl
 |3,_=>rfl
 |4,_=>rfl
 |5,_=>rfl
 |6,_=>rfl
 |7,_=>rfl
 |8,h=>exact absurd (by decide) h
 |9,h=>exact absurd (by decide) h
 |10,h=>exact absurd (by decide) h
 |11,h=>exact absurd (by decide) h
 |12,h=>exact absurd (by decide) h
 |t+13,_=>simp only[abf,ac6]
theorem Xm:C.F 35=acK 35:=by kernel_rfl
set_option maxRecDepth 100000 in
set_option maxHeartbeats 4000000 in
theorem Xn(n:Nat){S:Nat->Prop}{w:World}{fz:Nat->Nat->Prop}(hz:∀b o,fz b o->S b/\∃V,w.cell? ⟨b,o,acL⟩=acK V)(hS:∀k,S k->k<w.heap.size)(hG:c9 C w (aW.mt fz) Z.mt){Vc:Value}{bb:List Int}(hc:VR C.F w (aW.mt fz) (.ae [av cG bb]) Vc)
  (hl:∀n∈bb,1<=n/\n<=1000000000) (hn:bb.length<=1000000000):MS n Tryz.prog 34 #[Vc] (oH C.F fz) S (cB bb) w:=by
 intro l J W hW oI hY d;have c:∀b o,fz b o->S b:=λb o h=>(hz b o h).1;have e:GLe w (aW.mt fz) W (aW.mt fz):=⟨hb _,λ_ _=>rfl,λ_ _=>rfl,λ_ _ h=>h,λb o V hf hc=>hW.cell (c b o hf) hc⟩
 refine callsIn_of_wp Tryz.func34 rfl trivial ?_ rfl;simp only[Tryz.ntmps34,List.size_toArray,adN,List.length_nil,Nat.reduceAdd,Nat.reduceSub,Array.replicate_succ,Array.replicate_zero,List.push_toArray,List.append_toArray,aeh,abZ];refine wpIn_wide.2 ?_;refine Xk (C:=C) (pf _ _) n_ Xm (by kernel_rfl) (by kernel_rfl) (S:=S) (W0:=W) (fz:=fz) (λb o h=>⟨c b o h,by obtain⟨V,f⟩:=(hz b o h).2;exact⟨V,hW.cell (c b o h) f⟩⟩) (λk hk=>xl (hS k hk) hW.1) (hG.left hW c) (hc.mono e) hl hn oI (l:=l) (n:=n-1) hY ?_ ?_ d rfl rfl rfl rfl
 . rintro⟨⟨L⟩,ds⟩ w1 V3 g h1 i j m;exact Xl (n-1) l L ds w1 V3 g (by simpa using j) (by simpa using h1) (by simpa using i) m
 . intro a w1 b p q;exact bodyPost_ret (results_none rfl _ _ _) p ⟨⟨_,rfl⟩,b,q⟩
end Go.Proofs.YteboppjdnpoglaaGreatDoor.rb
namespace Rb
open Go
def MU:dT:= .region [
   ⟨acK 3,.box acJ 2 (.t 0),acL⟩,
   ⟨acK 6,.mv (.k (.aq .nil 0 [])),acL⟩,
   ⟨acK 7,.mv (.k (.bool acJ)),acL⟩]
def MV:dT:= .region [
   ⟨acK 20,.load 2 acI (.t 3),acL⟩,
   ⟨acK 21,.mv (.t 1),acL⟩,
   ⟨acK 22,.call 11 [(.t 20),(.t 21)],acL⟩,
   ⟨acK 8,.mv (.t 22),acL⟩]
def Ds:dT:= .join [40] [23,24,25,26,27,28,29,30,31,32,33,34,35,36,37,38,39] (.hR [30] [23,24,25,26,27,28,29] [
   ⟨acK 23,.mv (.t 2),acL⟩,
   ⟨acK 24,.bin .lss (.t 23) (.k (.int .i64 1)),acL⟩,
   ⟨acK 25,.mv (.t 24),acL⟩,
   ⟨acK 26,.mv (.t 2),acK (25,acJ)⟩,
   ⟨acK 27,.mv (.t 8),acK (25,acJ)⟩,
   ⟨acK 28,.len acJ (.t 27),acK (25,acJ)⟩,
   ⟨acK 29,.bin .gtr (.t 26) (.t 28),acK (25,acJ)⟩,
   ⟨acK 30,.pick (.t 25) (.k (.bool acI)) (.t 29),acL⟩]
 (.region [
   ⟨acK 31,.mv (.t 30),acL⟩,
   ⟨acK 32,.mv (.t 8),acK (31,acJ)⟩,
   ⟨acK 33,.mv (.t 2),acK (31,acJ)⟩,
   ⟨acK 34,.bin .sub (.t 33) (.k (.int .i64 1)),acK (31,acJ)⟩,
   ⟨acK 35,.gY acL 5 (.t 32) (.t 34),acK (31,acJ)⟩,
   ⟨acK 36,.hM 0 (.t 35),acK (31,acJ)⟩,
   ⟨acK 37,.load 1 acJ (.t 36),acK (31,acJ)⟩,
   ⟨acK 38,.call 12 [(.t 37)],acK (31,acJ)⟩,
   ⟨acK 39,.un .not (.t 38),acK (31,acJ)⟩,
   ⟨acK 40,.pick (.t 31) (.k (.bool acI)) (.t 39),acL⟩]))
 (.cond (.t 40) (.seq (.region [
     ⟨acK 6,.mv (.k (.aq .nil 0 [])),acL⟩,
     ⟨acK 7,.mv (.k (.bool acJ)),acL⟩])
   (.ret))
   (.skip))
def MW:dT:= .region [
   ⟨acK 41,.mv (.t 8),acL⟩,
   ⟨acK 42,.mv (.t 2),acL⟩,
   ⟨acK 43,.bin .sub (.t 42) (.k (.int .i64 1)),acL⟩,
   ⟨acK 44,.gY acL 5 (.t 41) (.t 43),acL⟩,
   ⟨acK 45,.load 5 acI (.t 44),acL⟩,
   ⟨acK 9,.alloc acI [.int .i64 0,.int .i64 0,.int .i64 0,.str [],.aq .nil 0 []],acL⟩,
   ⟨acL,.store 5 (.t 9) (.t 45),acL⟩]
def MX:dT:= .region [
   ⟨acK 10,.mv (.k (.int .i64 1)),acL⟩]
def MY:dT:= .region [
   ⟨acK 46,.hM 0 (.t 3),acL⟩,
   ⟨acK 47,.load 1 acJ (.t 46),acL⟩,
   ⟨acK 48,.hM 3 (.t 9),acL⟩,
   ⟨acK 49,.load 2 acI (.t 48),acL⟩,
   ⟨acK 50,.call 13 [(.t 47),(.t 49)],acL⟩,
   ⟨acK 11,.mv (.t 50),acL⟩]
def Dt:dT:= .seq (.region [
   ⟨acK 51,.mv (.t 11),acL⟩,
   ⟨acK 52,.len acJ (.t 51),acL⟩,
   ⟨acK 53,.mv (.k (.int .i64 0)),acL⟩])
 (.block 0 (.loop [6,7,10,53] [13,54,55,56,57,58,59,60,61,62] (.seq (.region [
   ⟨acK 54,.bin .lss (.t 53) (.t 52),acL⟩])
 (.seq (.cond (.t 54) (.skip)
   (.exit 0))
 (.seq (.block 1 (.seq (.region [
   ⟨acK 55,.gY acL 1 (.t 51) (.t 53),acL⟩,
   ⟨acK 56,.load 1 acJ (.t 55),acL⟩,
   ⟨acK 13,.mv (.t 56),acL⟩])
 (.seq (.region [
   ⟨acK 57,.mv (.t 10),acL⟩,
   ⟨acK 58,.mv (.t 13),acL⟩,
   ⟨acK 59,.bin .mul (.t 57) (.t 58),acL⟩,
   ⟨acK 10,.mv (.t 59),acL⟩])
 (.seq (.region [
   ⟨acK 60,.mv (.t 10),acL⟩,
   ⟨acK 61,.bin .gtr (.t 60) (.k (.int .i64 4096)),acL⟩])
 (.cond (.t 61) (.seq (.region [
     ⟨acK 6,.mv (.k (.aq .nil 0 [])),acL⟩,
     ⟨acK 7,.mv (.k (.bool acJ)),acL⟩])
   (.ret))
   (.skip))))))
 (.region [
   ⟨acK 62,.bin .add (.t 53) (.k (.int .i64 1)),acL⟩,
   ⟨acK 53,.mv (.t 62),acL⟩]))))))
def MZ:dT:= .region [
   ⟨acK 64,.hM 0 (.t 3),acL⟩,
   ⟨acK 65,.load 1 acJ (.t 64),acL⟩,
   ⟨acK 66,.call 9 [(.t 65)],acL⟩,
   ⟨acK 63,.mv (.t 66),acL⟩,
   ⟨acK 67,.extract 0 (.t 63),acL⟩,
   ⟨acK 68,.extract 1 (.t 63),acL⟩,
   ⟨acK 14,.alloc acI [.aq .nil 0 []],acL⟩,
   ⟨acL,.store 1 (.t 14) (.t 67),acL⟩,
   ⟨acK 15,.mv (.t 68),acL⟩]
def M0:dT:= .seq (.region [
   ⟨acK 69,.mv (.t 15),acL⟩,
   ⟨acK 70,.bin .neq (.t 69) (.k (.int .i64 0)),acL⟩])
 (.cond (.t 70) (.seq (.region [
     ⟨acK 6,.mv (.k (.aq .nil 0 [])),acL⟩,
     ⟨acK 7,.mv (.k (.bool acJ)),acL⟩])
   (.ret))
   (.skip))
def M1:dT:= .region [
   ⟨acK 16,.alloc acI [.aq .nil 0 []],acL⟩]
def M2:dT:= .region [
   ⟨acK 71,.mv (.t 11),acL⟩,
   ⟨acK 72,.call 14 [(.t 71)],acL⟩]
def M3:dT:= .region [
   ⟨acK 90,.load 1 acJ (.t 16),acL⟩,
   ⟨acK 6,.mv (.t 90),acL⟩,
   ⟨acK 7,.mv (.k (.bool acI)),acL⟩]
def Du:dT:= .region [
   ⟨acK 75,.hM 0 (.t 3),acL⟩,
   ⟨acK 76,.load 1 acJ (.t 75),acL⟩,
   ⟨acK 77,.hM 3 (.t 9),acL⟩,
   ⟨acK 78,.load 2 acI (.t 77),acL⟩,
   ⟨acK 79,.mv (.t 17),acL⟩,
   ⟨acK 80,.call 15 [(.t 76),(.t 78),(.t 79)],acL⟩,
   ⟨acK 74,.mv (.t 80),acL⟩,
   ⟨acK 81,.extract 0 (.t 74),acL⟩,
   ⟨acK 82,.extract 1 (.t 74),acL⟩,
   ⟨acK 18,.alloc acI [.int .i64 0,.int .i64 0,.int .i64 0,.bool acJ,.int .i64 0,.int .i64 0],acL⟩,
   ⟨acL,.store 6 (.t 18) (.t 81),acL⟩,
   ⟨acK 19,.mv (.t 82),acL⟩]
def Dv:dT:= .draw [
   ⟨acK 83,.load 1 acJ (.t 16),acL⟩,
   ⟨acK 84,.load 1 acJ (.t 14),acL⟩,
   ⟨acK 85,.hM 0 (.t 18),acL⟩,
   ⟨acK 86,.load 2 acI (.t 85),acL⟩,
   ⟨acK 87,.call 16 [(.t 84),(.t 86)],acL⟩,
   ⟨acK 88,.hP acJ 2 1 [.int .i64 0,.int .i64 0] [(0,2,(.t 87))],acL⟩,
   ⟨acK 89,.append acJ 2 16 (.t 83) (.t 88),acL⟩,
   ⟨acL,.store 1 (.t 16) (.t 89),acL⟩]
 [[],[],[],[2],[1,2,3],[1,2,3,4],[0,1,2,3,4,5],[0,1,2,3,4,5,6]] [([0,1,2,3],4,[0]),([5],6,[]),([],7,[])] []
variable{P:Program}{n l:Nat}{Q:Exit->Act->World->Prop}{w:World}{a:Act}{N N':Act->World->Prop}{ops:Array Oper}{o:Oper}
theorem Xo{a:String}{args:Array Value}{R:Value->World->Prop}(h:Rows P a args w R):RowsIn (aeZ.inRound l) n P a args w R:=by intro c cs _;obtain⟨v,w',b,hs⟩:=h c cs;exact⟨v,w',b,by rw[fenced_inRound];exact stepsIn_wide.2 hs⟩
theorem Xp(hN:∀a w,N a w->N' a w):∀r:Result Next,ae9 P o a N Q r->ae_ (aeZ.inRound l) n P o a N' Q r:=by
 intro r h;unfold ae9 at h;unfold ae_;split at h
 ·exact hN _ _ h
 ·exact hN _ _ h
 ·exact hN _ _ h
 . refine⟨λq=>by simp[afa,aeZ]at q,((callsIn_wide.2 h).inRound l).mono ?_⟩;intro e w' he;cases e with
   |returned v=>exact hN _ _ he
   |panicked b=>exact he
   |outgrown=>exact he
 ·exact⟨λq=>by simp[afa,aeZ]at q,(Xo h).mono λv w h=>hN _ _ h⟩
 ·exact h
 ·exact h.elim
def zq(ops:Array Oper):Prop:=∀o∈ops.toList,∀c,o.op≠afb c
theorem M4(b:∀c,o.op≠afb c)(hN:∀a w,N a w->N' a w)(h:Oper.wp P o a w N Q):afc (aeZ.inRound l) n P o a w N' Q:=by refine⟨λf _=>trivial,?_⟩;rw[show(aeZ.inRound l).round=acK l from rfl,afd l _ o b];exact Xp hN _ h
theorem M5(hQ:¬LetsOut Q):∀(L:List Oper),(∀o∈L,∀c,o.op≠afb c)->∀(a:Act)(w:World),wpList P ops Q L a w->wpListIn (aeZ.inRound l) n P ops Q L a w:=by
 intro L;induction L with
 |nil=>intro _ a w h;exact h
 | cons o r e=>
  intro b a w h;have d:=e λo g=>b o (acp _ g);change (if acx o (yielded ops a.tmps)=acI then Oper.wp P o a w (wpList P ops Q r) Q\/Oper.asks P o a w/\LetsOut Q else wpList P ops Q r (a.put o.dst undef) w)at h;show(if acx o (yielded ops a.tmps)=acI then afc (aeZ.inRound l) n P o a w (wpListIn (aeZ.inRound l) n P ops Q r) Q else(∀f,Oper.about P w a.eval o=acK f->(aeZ.inRound l).fn f)/\wpListIn (aeZ.inRound l) n P ops Q r (a.put o.dst undef) w);split at h
  . rename_i hw;rw[ab hw];rcases h with h|h
    ·exact M4 (b o (acs ..)) d h
    ·exact absurd h.2 hQ
  . rename_i hw;rw[af hw];exact⟨λf _=>trivial,d _ _ h⟩
theorem Xq{n l i:Nat}(hQ:¬LetsOut Q)(c:zq ops)(hN:∀a w,N a w->N' a w)(h:wpOp P ops Q i N a w):wpOpIn (aeZ.inRound l) n P ops Q i N' a w:=by
 unfold wpOp at h;unfold wpOpIn;cases b:ops[i]? with
 |none=>rw[b]at h;exact hN _ _ h
 | some o=>
  rw[b]at h;dsimp only at h ⊢;have d:=c o (by rw[<-Array.getElem?_toList]at b;exact adq b);split at h
  . rename_i hw;rw[ab hw];rcases h with h|h
    ·exact M4 d hN h
    ·exact absurd h.2 hQ
  . rename_i hw;rw[af hw];exact⟨λf _=>trivial,hN _ _ h⟩
theorem Xr{c:Region.Mode}(hQ:¬LetsOut Q)(d:zq ops):∀(fuel:Nat)(b:Array Bool)(a:Act)(w:World),wpAny P c ops Q fuel b a w->wpAnyIn (aeZ.inRound l) n P c ops Q fuel b a w:=by
 intro fuel;induction fuel with
 |zero=>intro b a w h;exact h
 | succ k e=>intro b a w h;change (acG c ops b=[]->Q afe a w)/\∀i,i∈acG c ops b->wpOp P ops Q i (wpAny P c ops Q k (b.setIfInBounds i acI)) a w at h;show(acG c ops b=[]->Q afe a w)/\∀i,i∈acG c ops b->wpOpIn (aeZ.inRound l) n P ops Q i (wpAnyIn (aeZ.inRound l) n P c ops Q k (b.setIfInBounds i acI)) a w;exact⟨h.1,λi hi=>Xq hQ d (λa w h=>e _ a w h) (h.2 i hi)⟩
end Rb
namespace Rb
open Go
def qh:Code->Prop
 | .region _ ops _=>zq ops
 |_=>False
theorem Xt{C:Ctx}(hF:gI C){n l:Nat} :
  ∀ (ac:dT) (c:Code) (env:Env) (H:Z) (G:aW) (w:World) (a:Act) (K:hU->Env->Z->Prop) (Q:Exit->Act->World->Prop),cz C c ac=acI->dk (ai C) ac env H K ->
   c9 C w G H->Rel C.F w G H->be C.F w G env a.tmps->a.defers=[]->qh c->¬LetsOut Q->(∀t x,ac ≠ .freeze t x) ->
   (∀s ex aP H' G' a' w',fW s ex->K s aP H'->c9 C w' G' H'->Rel C.F w' G' H'->be C.F w' G' aP a'.tmps->a'.defers=[]->Step w G H w' G' H'->dU (eQ ac) a a'->Q ex a' w') ->
   c.wpIn (aeZ.inRound l) n C.P Q a w:=by
 intro ac c env H G w a K Q d h hG p he q e r v hQ;cases c with
 | region id ops draw=>
  have e:zq ops:=e;cases ac with
  | region al=>
   cases draw with
   |true=>simp[cz]at d
   | false=>
    simp only[cz]at d;refine wpIn_region_list (M5 r _ e _ _ ?_);exact tN (az:=hd al) (a0:=a) (w0:=w) (G0:=G) (H0:=H) (Q:=Q) (K:=K .normal) hF ops.toList al env H G w a d h hG p he q (Step.refl _ _ _) (dU.refl _ _) (λ_ ht=>ht)
     (λaP H' G' a' w' f g i j k m o=>hQ .normal .normal aP H' G' a' w' trivial f g i j k m o)
  | hR vs ks al b=>
   cases draw with
   |true=>simp[cz]at d
   | false=>
    simp only[cz]at d;refine wpIn_region_list (M5 r _ e _ _ ?_);exact EK (az:=eQ (.hR vs ks al b)) (a0:=a) (w0:=w) (G0:=G) (H0:=H) (Q:=Q) (K:=K) hF (.hR vs ks al b) ops.toList env H G w a d h hG p he q (Step.refl _ _ _) (dU.refl _ _) (λ_ ht=>ht)
     (λaP H' G' a' w' f g i j k m o=>hQ .normal .normal aP H' G' a' w' trivial f g i j k m o)
  | draw al pr bT last=>
   cases draw with
   |false=>simp[cz]at d
   | true=>simp only[cz,aar]at d;obtain⟨⟨⟨h1,y⟩,z⟩,u⟩:=d;refine wpIn_region_any u (Xr r e _ _ _ _ ?_);exact EJ hF h1 y z u h hG p he q λaP H' G' a' w' f g i j k m o=>hQ .normal .normal aP H' G' a' w' trivial f g i j k m o
  |freeze t x=>exact absurd rfl (v t x)
  |_=>simp[cz]at d
 |_=>exact e.elim
variable{env:Env}{G G0:aW}{w w0:World}{C:Ctx}{H0 H:Z}{a:Act}{ac:dT}{c:Code}{K:hU->Env->Z->Prop}{Q:Exit->Act->World->Prop}{F:dE}{Vs:Array Value}
structure iB(C:Ctx)(w0:World)(G0:aW)(H0:Z)(env:Env)(H:Z)(G:aW)(a:Act)(w:World):Prop where
 x:c9 C w G H
 r:Rel C.F w G H
 v:be C.F w G env a.tmps
 d:a.defers=[]
 s:Step w0 G0 H0 w G H
theorem iB.run(hF:gI C)(h:iB C w0 G0 H0 env H G a w){Q:Exit->Act->World->Prop}(hc:cz C c ac=acI)(e:dk (ai C) ac env H K)
  (hQ:∀b ex aP H' G' a' w',fW b ex->K b aP H'->iB C w0 G0 H0 aP H' G' a' w'->a'.tmps.size=a.tmps.size->Q ex a' w'):c.wp C.P Q a w:=
 tV hF ac c env H G w a K Q hc e h.x h.r h.v h.d λb ex aP H' G' a' w' he f g i j k l m=>hQ b ex aP H' G' a' w' he f ⟨g,i,j,k,h.s.trans l⟩ m.1
theorem iB.runIn(hF:gI C){n l:Nat}(h:iB C w0 G0 H0 env H G a w)(hc:cz C c ac=acI)(e:dk (ai C) ac env H K)(f:qh c)(g:¬LetsOut Q)(i:∀t x,ac ≠ .freeze t x)
  (hQ:∀b ex aP H' G' a' w',fW b ex->K b aP H'->iB C w0 G0 H0 aP H' G' a' w'->a'.tmps.size=a.tmps.size->Q ex a' w'):c.wpIn (aeZ.inRound l) n C.P Q a w:=
 Xt hF ac c env H G w a K Q hc e h.x h.r h.v h.d f g i λb ex aP H' G' a' w' he j k m o p q u=>hQ b ex aP H' G' a' w' he j ⟨k,m,o,p,h.s.trans q⟩ u.1
def ee(a0 M a b a8 c du db dj dh dq d dv e M6:I):Env:=[a0,M,a,b,.bot,.bot,.bot,.bot,a8,c,du,db,.bot,.bot,dj,dh,dq,d,dv]++(KT 53 .bot++([e,M6]++KT 17 .bot))
def KA(R:I->I->I->I->I->I->I->I->I->I->I->I->I->I->Z->Prop)(Rr:Z->Prop):hU->Env->Z->Prop
 | .normal,e,H=>R (e.getD 0 .bot) (e.getD 1 .bot) (e.getD 2 .bot) (e.getD 3 .bot) (e.getD 8 .bot) (e.getD 9 .bot) (e.getD 10 .bot) (e.getD 11 .bot) (e.getD 14 .bot) (e.getD 15 .bot) (e.getD 16 .bot) (e.getD 17 .bot) (e.getD 18 .bot) (e.getD 72 .bot) H
 | .ret,e,H=>e.getD 6 .bot = .aq .nil 0 []/\e.getD 7 .bot = .bool acJ/\Rr H
 | .exit _,_,_=>False
theorem be.getD(h:be F w G env Vs){j:Nat}{V:Value}(b:Vs[j]?=acK V):VR F w G (env.getD j .bot) V:=by
 cases a:env[j]? with
 |none=>rw[abD,a];exact .bot _
 |some c=>rw[abD,a];exact h.2 j c V a b
theorem M7(h:be F w G env Vs)(hl:Vs.size=91) :
  be F w G (ee (env.getD 0 .bot) (env.getD 1 .bot) (env.getD 2 .bot) (env.getD 3 .bot) (env.getD 8 .bot) (env.getD 9 .bot) (env.getD 10 .bot) (env.getD 11 .bot) (env.getD 14 .bot) (env.getD 15 .bot) (env.getD 16 .bot) (env.getD 17 .bot) (env.getD 18 .bot) (env.getD 72 .bot) .bot) Vs:=by
 refine⟨by rw[hl];rfl,λj c V a e=>?_⟩;have key:c = .bot\/c=env.getD j .bot:=by
  unfold ee at a;rw[aaL]at a;split at a
  . rename_i b;have b:j<19:=b
    match j,b,a with
    |0,_,a|1,_,a|2,_,a|3,_,a|8,_,a|9,_,a|10,_,a|11,_,a|14,_,a|15,_,a|16,_,a|17,_,a|18,_,a=>exact .inr (aaC.inj a).symm
    |4,_,a|5,_,a|6,_,a|7,_,a|12,_,a|13,_,a=>exact .inl (aaC.inj a).symm
    |j+19,h,_=>omega
  . rename_i b;have b:¬j<19:=b;rw[aaL,List.length_replicate]at a;split at a
    . rw[acN]at a;split at a<;>cases a<;>exact .inl rfl
    . rename_i d;have d:¬j-19<53:=d;obtain⟨i,rfl⟩:∃i,j=72+i:=⟨j-72,by omega⟩
      have:72+i-[env.getD 0 .bot,env.getD 1 .bot,env.getD 2 .bot,env.getD 3 .bot,.bot,.bot,.bot,.bot,env.getD 8 .bot,env.getD 9 .bot,env.getD 10 .bot,env.getD 11 .bot,.bot,.bot,env.getD 14 .bot,env.getD 15 .bot,env.getD 16 .bot,env.getD 17 .bot,env.getD 18 .bot].length-53=i:=by show 72+i-19-53=i;omega
      rw[this]at a
      match i,a with
      |0,a=>exact .inr (aaC.inj a).symm
      |1,a=>exact .inl (aaC.inj a).symm
      | i+2,a=>simp only[abZ,aeh,ac6,acN]at a;split at a<;>cases a<;>exact .inl rfl
 rcases key with rfl|rfl
 ·exact .bot _
 ·exact be.getD h e
end Rb
namespace Rb
open Go
variable{e:E}{l:Int}{x:I}
theorem dH.row{H:Z}{sz n j:Nat}{cells:List I}(h:dH H sz x n cells)(a:ch x=acK j):∃cs,At H j (.row cs):=by
 rcases h.2 with⟨tk,_,_,rfl⟩|⟨i,cs,m,rfl,b,_⟩
 ·cases a
 ·cases a;exact⟨cs,b⟩
theorem bW.Xu{H H':Z}{id:Nat}{vars:List aB}{wh F x:I}{c:LD}(h:bW H id vars wh F c)(k:∀i o,ch x≠acK i->At H i o->At H' i o)(g:∀j,ch x=acK j->∃cs,At H j (.row cs))(m:ch x≠acK id)(n:∀j,ch x=acK j->ch F≠acK j):bW H' id vars wh F c:=by obtain⟨xo,xs,a,b,d,e⟩:=h.x;have f:∀t p q,At H t (.tok p q)->At H' t (.tok p q):=λt p q ht=>k t _ (λe=>by obtain⟨cs,hc⟩:=g t e;exact absurd (hc.2.symm.trans ht.2) (by intro e;cases e)) ht;exact⟨⟨xo,xs,k _ _ m a,b.frame f,d.frame f,e⟩,h.l.bh λj cs r s=>k _ _ (λe=>n j e r) s,h.ld,h.lo⟩
theorem Xv(h:fp e=acI)(a:e.kind=3):e.br.length=2:=by have:=(oz h).2.2.2.1;unfold hh at this;rw[ab a]at this;have b:(e.br.length:Int)=2:=this;omega
theorem Xw(h:fp e=acI)(f:5<=e.kind):(e.kind≠5->1<=e.br.length)/\(e.kind=8->2<=e.br.length)/\e.kind<=8/\e.br.length<=2:=by
 obtain⟨_,a,_,hl,_⟩:=oz h;unfold hh at hl;rw[bL]at hl;by_cases b:e.kind=5
 . rw[ab (.inr b)]at hl;have c:(e.br.length:Int)=0:=hl;exact⟨λe=>absurd b e,λe=>by omega,a,by omega⟩
 . rw [bL]at hl;by_cases d:e.kind=6\/e.kind=7
   . rw[ab d]at hl;have c:(e.br.length:Int)=1:=hl;exact⟨λ_=>by omega,λe=>by omega,a,by omega⟩
   . rw[af d,dN]at hl;have c:(e.br.length:Int)=2:=hl;exact⟨λ_=>by omega,λe=>by omega,a,by omega⟩
theorem M8(vars:List aB){L:List (List UInt8)}{k:Int}{x:aJ}(h:vP vars L k x):∀p∈x.ax,∀e∈p.aS,vE vars L e:=(LB vars L).1 ((nl vars L k x).1 h).2.2
theorem GE.fr(c:LD):GE c {c with bM:=c.bM+1} 1 []:=⟨⟨[],(adv _).symm,aaU _,λ_ a=>by cases a⟩,aa2 _,hb _,rfl,(adv _).symm,aaU _,rfl,rfl,rfl⟩
theorem M9(h:fp e=acI)(d:e.kind<=2):gE l e=[]:=by
 obtain⟨h1,_,b,a,_⟩:=oz h;have c:e.br=[]:=by unfold hh at a;rw[bL,bL,bL,bL]at a;exact aeB (aff.inj a)
 rw[sO,nt,b (by omega),c,gV,dD,bL];rfl
theorem Xx{e x y:E}(h:fp e=acI)(c:e.kind=3)(a:e.br=[x,y]):gE l e=gE l x++gE l y:=by obtain⟨h1,_,b,d,_⟩:=oz h;rw[sO,nt,b (by omega),a,gV,dD,dD,dD,bL];simp
theorem Xy(h:fp e=acI)(b:e.kind=4)(c:fO (B (10+e.kind)) e.a_=acI):gE l e=gw l e.place++[⟨14,0,l,e.place⟩]:=by
 obtain⟨h1,_,f,a,_⟩:=oz h;have d:e.br=[]:=by unfold hh at a;rw[bL,dN]at a;exact aeB (aff.inj a)
 have:e.a_=0:=by rw[b]at c;exact eq_of_beq c
 rw[sO,d,dD,dN,b,this];simp
theorem Xz(a:5<=e.kind):gE l e=gw l e.place++dD l e.br++[⟨10+e.kind,e.a_,l,e.place⟩]:=by rw[sO,dN]
theorem XA{a b:Int}(U:0<=b){P:I->Prop}(h:∀v,P (.int .u64 v)):Do (cH .shl (.int .u64 a) (.int .i64 b)) P:=by rw[Jx _ _ _ _ U,O];exact h _
section
variable{C:Ctx}(ak:cP C)(hT:Cl (ai C) S.b7){id:Nat}{vars:List aB}{F:I}{c:LD}{H:Z}{Q:aa}{w:Nat}
include ak hT
theorem XC(E:fS vars){L:List (List UInt8)}{x:aJ}(G:x.ok)(hp:vP vars L 14 x)(I:∀p∈x.ax,∀e∈p.aS,iV C id vars L e)(h:bW H id vars (ei vars) F c)(J:c.L.map ac2=L)(hl:c.ay=l)(U:BD c (w+(gd x+256)))
  (hQ:EX id vars (ei vars) F H c (gd x+100) (gw l x++[⟨14,0,l,x⟩]) Q):ai C 146 [.ptr id 0,.agg x.cells] H Q:=by
 obtain⟨K,M,_⟩:=(nl vars L 14 x).1 hp;refine S.Sa hT ?_;unfold S.f146;simp only[ag];simp only[k4,aN,si,O];refine sW ak hT E G K I h J hl (w:=w+256) (U.mono (by omega)) λs b al c1 H1 k1 h1 g1 P R hs T=>?_;obtain⟨V,an,_,_⟩:=y2 M;obtain⟨z0,W,_,_⟩:=sP T hs V;have i:BD c1 (w+256):=g1.bd (m:=w+256) (U.mono (by omega));refine h1.j4 k1 (cs:=dS s b al) (N:=8) rfl rfl rfl λj H2 k2 X f l2=>?_;have Y:=k1.trans k2;rw[(f.all)];simp only[O];refine sU ak hT X (w:=w+200) (i.mono (by omega)) P λa c3 ao g Z g3 ha=>?_;have o:BD c3 (w+200):=g3.bd (m:=w+200) (i.mono (by omega));rw[(f.bh g).all];simp only[O];refine sV ak hT Z (l:=l) (by rw[g3.ay,g1.ay];exact hl) (w:=w+199) (o.mono (by omega)) _ _ (by decide) x λap aa q ab g4 e1 aq=>?_;have r:BD aa (w+199):=g4.bd (m:=w+199) (o.mono (by omega));have t:=(f.bh g).bh q;refine⟨t.all,?_⟩;refine Mn ak hT ab (w:=w+100) (r.mono (by omega)) R W (ha.mono g4.r0) ⟨by omega,by omega⟩ λv c5 ar u y g5 hv=>?_;have z:BD c5 (w+100):=g5.bd (m:=w+100) (r.mono (by omega));have d:=t.bh u;have A:=((Y.trans g).trans q).trans u;have B:=((g1.trans g3).trans g4).trans g5;simp only[dM,O,d.ld (k:=3) rfl,d.ld (k:=4) rfl,d.ld (k:=5) rfl,iL,au];refine aG (λ_=>?_) (λ_=>hQ _ _ _ A y (B.mono (by omega) (by simp only[adv])) hv);refine mI ak hT y (w:=w+98) z _ _ hv λv6 ac av D ad g6 ae=>?_;have af:BD ac (w+98):=g6.bd (m:=w+98) (z.mono (by omega));refine⟨(d.bh D).ld rfl,?_⟩;refine C9 ak hT hs.wid λn=>?_;refine mI ak hT ad (w:=w+96) af _ _ ae λaw az aA ah aj g7 am=>?_;exact hQ _ _ _ ((A.trans D).trans ah) aj (((B.trans g6).trans g7).mono (by omega) (by simp only[adv])) am
theorem XD(bn:fS vars){L:List (List UInt8)}(bp:e.ok)(hf:fp e=acI)(W:5<=e.kind)(hp:vP vars L (B (10+e.kind)) e.place)(bq:∀p∈e.place.ax,∀e∈p.aS,iV C id vars L e)(bs:∀k∈e.br,iV C id vars L k)(h:bW H id vars (ei vars) F c)(aX:c.L.map ac2=L)(hl:c.ay=l)(U:BD c (w+(gd e.place+ed e.br+256)))
  (hQ:EX id vars (ei vars) F H c (gd e.place+ed e.br+100) (gw l e.place++dD l e.br++[⟨10+e.kind,e.a_,l,e.place⟩]) Q):ai C 147 [.ptr id 0,.agg e.cells] H Q:=by
 obtain⟨bt,aZ,_⟩:=(nl vars L _ e.place).1 hp;obtain⟨bu,bv,ct,cu⟩:=Xw hf W;obtain⟨⟨cv,aI⟩,bw⟩:=E.dL bp;have bx:B (10+e.kind)=10+e.kind:=bo;rw[bx]at aZ;refine S.Sb hT ?_;unfold S.f147;simp only[ag];have an:∀p:Nat,aH p (.ae e.cells)=acK (.ae (e.cells.drop p)):=λ_=>rfl;simp only[p2,aN,an,p3,O];refine sW ak hT bn bw bt bq h aX hl (w:=w+(ed e.br+256)) (U.mono (by omega)) λs b al c1 H1 k1 h1 g1 bA cw hs bB=>?_;obtain⟨_,_,bD,bF⟩:=y2 aZ;have a0:=bD (by omega);have cx:=bF (by omega) (by omega);obtain⟨z0,cy,z2,z3⟩:=sP bB hs (.inr a0);have bG:P8 s.len:=by have:=z2 a0;unfold P8;omega
 refine h1.j4 k1 (cs:=dS s b al) (N:=8) rfl rfl rfl λjs H2 k2 bJ bK l2=>?_;have bL:=k1.trans k2;simp only[sa,O,bC];have tail:∀(t:LD)(z:Z)(x:I)(rs:List Int),rs.length=e.br.length->KR id H z->bW z id vars (ei vars) F t->Bx H id F z js 8 (dS s b al)->dH z 1 x rs.length (rs.map (I.int .i64))->(∀j,ch x=acK j->H.n<=j/\j≠id/\ch F≠acK j/\j≠js)->(∀r∈rs,dZ t.bM r)->dZ t.bM b->GE c t (gd e.place+ed e.br) (gw l e.place++dD l e.br)->S.Bo (ai C) (.ptr id 0) (.ae e.cells) (.ptr js 0) Q [x] z:=by
  intro t z x rs cz X ao af V D ah ap g4;have aB:BD t (w+256):=g4.bd (m:=w+256) (U.mono (by omega));unfold S.Bo;simp only[ag];simp only[an,im,O,eH,bz,T];rw[wrap_i64 (n:=e.kind-5) (by omega) (by omega),wrap_i64 (n:=e.kind-5+6) (by omega) (by omega)];refine j3 ak hT ao X λaj aC Y aD aJ bN=>?_;have a1:=X.trans Y;have a2:=af.bh Y;have az:js≠aj:=by have:=af.a.1;omega
  have cA:∀(g:Z),(∀j cs,ch x=acK j->At z j (.row cs)->At g j (.row cs))->dH g 1 x rs.length (rs.map (I.int .i64)):=λg k=>V.bh k;have a3:∀j cs,ch x=acK j->At z j (.row cs)->At aC j (.row cs):=λj cs o K=>Y.2 _ _ (D j o).2.1 K;have a4:∀j,ch x=acK j->j≠aj:=λj o=>by have:=V.lt o;omega
  have fin:∀(u b2 c2:Int)(g:Z),(u=6\/(8<=u/\u<=10))->dZ t.bM b2->dZ t.bM c2->KR id H g->bW g id vars (ei vars) F t->Bx H id F g js 8 (dS s b al)->Bx H id F g aj 13 (⟨u,-1,-1,-1,b2,c2,0,0,0,0,0,0,0⟩:eh).cells->S.xC (ai C) (.ptr id 0) (.ae e.cells) (.ptr js 0) (.ptr aj 0) Q [] g:=by
   intro u b2 c2 g aI aE bO M P G am;unfold S.xC;simp only[ag];rw[(G.all)];simp only[O];refine sU ak hT P (w:=w+254) aB ap λa J R aK aa g7 ha=>?_;have a5:BD J (w+254):=g7.bd (m:=w+254) (aB.mono (by omega));have aM:=G.bh aK;simp only[dM,O];refine(am.bh aK).st aa (M.trans aK) (by decide) One.int λcB bP aO bQ bR=>?_;have a6:=bR _ _ _ az aM;simp only[a6.ld (k:=1) rfl,an,im,Km,p3,O,bz];rw[wrap_i64 (n:=10+e.kind) (by omega) (by omega)];refine oE ak hT aO (w:=w+253) a5 λcD aP h9=>?_;have a7:=a6.bh aP;have a8:=GE.fr J;have a9:=a8.bd (m:=w+252) (a5.mono (by omega));refine⟨a7.ld rfl,trivial,trivial,trivial,trivial,?_⟩;refine sV ak hT h9 (l:=l) (by show J.ay=l;rw[g7.ay,g4.ay];exact hl) (w:=w+251) a9 _ _ (by omega) e.place λcE ab aQ bS ba bT es=>?_;have bb:=a7.bh aQ;have bU:BD ab (w+251):=ba.bd (m:=w+251) (a9.mono (by omega));refine⟨bb.ld rfl,trivial,?_⟩;refine((bQ.bh aP).bh aQ).st bS ((bP.trans aP).trans aQ) (by decide) One.int λcF bV bX bY bZ=>?_;have b0:=bZ _ _ _ az bb;refine⟨b0.ld rfl,trivial,?_⟩;refine bY.st bX bV (by decide) One.int λcG b1 b3 b4 cH=>?_;refine⟨trivial,?_⟩;refine b4.st b3 b1 (by decide) One.int λcJ b5 b7 b8 cK=>?_;refine b8.st b7 b5 (by decide) One.int λcL b9 b_ bc cO=>?_;rw[(bc.all)];simp only[O];have cP:ab.bM=J.bM+1:=bT;have ca:ab.sn=J.sn+1:=es;have cR:=g7.r0;have cS:=g7.s0;have cT:=bU.A;have cU:((J.sn+1:Nat):Int)=((ab.sn:Nat):Int):=by rw[ca]
   refine jJ ak hT b_ (by omega) ⟨u,J.bM,-1,a,b2,c2,0,0,s.len,e.a_,0,((J.sn+1:Nat):Int),0⟩ λcb be cc=>?_;rw[(bc.bh be).ld (k:=1) rfl];simp only[O];have gf:GE ab (ab.add ⟨u,J.bM,-1,a,b2,c2,0,0,s.len,e.a_,0,((J.sn+1:Nat):Int),0⟩) 1 []:=GE.add (jn (by omega) (by omega) (jK (by omega)) cX (ha.mono (by omega)) (aE.mono (by omega)) (bO.mono (by omega)) (.inr (.inr ⟨by omega,by omega⟩)) (.inr (.inr bG))) (k9 (.inl (by omega)));exact hQ _ _ cb (b9.trans be) cc (((((g4.trans g7).trans a8).trans ba).trans gf).mono (by omega) (by simp only[adv])) (jK (show J.bM<ab.bM by omega))
  have k2:∀(u b2:Int)(g:Z),(e.kind=5/\u=6\/(5<e.kind/\8<=u/\u<=10))->dZ t.bM b2->KR id H g->bW g id vars (ei vars) F t->Bx H id F g js 8 (dS s b al)->dH g 1 x rs.length (rs.map (I.int .i64))->Bx H id F g aj 13 (⟨u,-1,-1,-1,b2,-1,0,0,0,0,0,0,0⟩:eh).cells->S.xD (ai C) (.ptr id 0) (.ae e.cells) (.ptr js 0) (.ptr aj 0) [x] Q [] g:=by
   intro u b2 g aI aE M P G ac am;have bf:u=6\/(8<=u/\u<=10):=by rcases aI with h|h<;>omega
   unfold S.xD;simp only[ag];simp only[an,im,O,bI,au,T,aw];refine aG (λaO=>?_) (λ_=>fin u b2 (-1) g bf aE cX M P G am);have cd:e.kind=8:=by simpa using aO
   have:=bv cd;obtain⟨r1,ez⟩:∃r1,rs[1]?=acK r1:=⟨_,abb (show 1<rs.length by omega)⟩
   obtain⟨p,e1,aR⟩:=ac.get (k:=1) (v:= .int .i64 r1) (by rw[aba,ez];rfl);change aL acL _ _ (.int .i64 1)=acK _ at e1;simp only[e1,aR g (Z.Ext.refl _),O,dM];refine am.st P M (by decide) One.int λR aA aa aT aF=>?_;exact fin u b2 r1 R bf aE (ah r1 (adq ez)) aA aa (aF _ _ _ az G) aT
  simp only[an,im,O,cC,au,aw];apply aG<;>intro bg
  . have ce:e.kind≠5:=by simpa using bg
    have:=bu ce;simp only[dM,O];rw[wrap_i64 (n:=e.kind-6) (by omega) (by omega),wrap_i64 (n:=e.kind-6+8) (by omega) (by omega)];refine aJ.st aD a1 (by decide) One.int λg M P am bi=>?_;have cf:∀j cs,ch x=acK j->At aC j (.row cs)->At g j (.row cs):=λj cs o K=>by obtain⟨a,b,d,f⟩:=D j o;exact(bi j cs.length cs (a4 j o) ⟨K,b,d,a,rfl⟩).a
    have ac:=(V.bh a3).bh cf;obtain⟨r0,bj⟩:∃r0,rs[0]?=acK r0:=⟨_,abb (show 0<rs.length by omega)⟩
    obtain⟨p,e1,aR⟩:=ac.get (k:=0) (v:= .int .i64 r0) (by rw[aba,bj];rfl);change aL acL _ _ (.int .i64 0)=acK _ at e1;simp only[e1,aR g (Z.Ext.refl _),O,dM];refine am.st P M (by decide) One.int λR aA aa aT aF=>?_;have cg:∀j cs,ch x=acK j->At g j (.row cs)->At R j (.row cs):=λj cs o K=>by obtain⟨a,b,d,f⟩:=D j o;exact(aF j cs.length cs (a4 j o) ⟨K,b,d,a,rfl⟩).a
    exact k2 (e.kind-6+8) r0 R (.inr ⟨by omega,by omega,by omega⟩) (ah r0 (adq bj)) aA aa (aF _ _ _ az (bi _ _ _ az a2)) (ac.bh cg) aT
  . have bk:e.kind=5:=by simpa using bg
    refine k2 6 (-1) aC (.inl ⟨bk,rfl⟩) cX a1 aD a2 (V.bh a3) ?_;rw[bk]at aJ;exact aJ
 have main:∀(r:List E)(i:Nat)(t:LD)(z:Z)(x:I)(rs:List Int)(w1:Nat)(k1:List bH),e.br.drop i=r->rs.length=i->i<=e.br.length->KR id H z->bW z id vars (ei vars) F t->Bx H id F z js 8 (dS s b al)->dH z 1 x rs.length (rs.map (I.int .i64))->(∀j,ch x=acK j->H.n<=j/\j≠id/\ch F≠acK j/\j≠js)->(∀r∈rs,dZ t.bM r)->dZ t.bM b->GE c t w1 k1->w1+ed r=gd e.place+ed e.br->k1++dD l r=gw l e.place++dD l e.br ->
   ar (S.xE (ai C) (.ptr id 0) (.ae e.cells) (.ptr js 0) (av E.cells e.br) (.int .i64 e.br.length) Q) ([x,.int .i64 i],z):=by
  intro r;induction r with
  | nil=>intro i t z x rs w1 k1 aU bl ci X ao af V D ah ap g4 hw W;have hle:=c7 aU;refine ar.step ?_;simp only[ag,S.xE,T,bE,aY,O,au,aw];rw[cQ];rw[ed]at hw;rw[dD]at W;exact tail t z x rs (by omega) X ao af V D ah ap (g4.mono (by omega) (by rw[<-W,adv]))
  | cons y r cj=>
   intro i t z x rs w1 k1 aU bl ci X ao af V D ah ap g4 hw W;obtain⟨ck,bm,cl⟩:=c4 aU;have cm:=adq bm;rw[ed]at hw;rw[dD]at W;have aB:BD t (w+eo y):=g4.bd (m:=w+eo y) (U.mono (by omega));have jl:=kB y;refine ar.step ?_;simp only[ag,S.xE,T,bE,aY,O,au];rw[cM,b6 ck];simp only[O];rw[c8 E.len (by decide) _ bm];simp only[O];refine ao.j4 X (cs:=y.cells) (N:=8) rfl y.len (E.scalar y) λcV aC Y aD cn bN=>?_;rw[(cn.all)];simp only[O];refine bs y cm aD (by rw[g4.L];exact aX) (l:=l) (by rw[g4.ay];exact hl) aB λr1 co g aV P g6 ez=>?_;have M:=(X.trans Y).trans aV;have G:=(af.bh Y).bh aV;have ac:dH g 1 x rs.length (rs.map (I.int .i64)):=V.bh λj cs o K=>aV.2 _ _ (D j o).2.1 (Y.2 _ _ (D j o).2.1 K);rw[show cI g acJ 1 1 [.int .i64 0] [(0,1,.int .i64 r1)]=acK (.aq .full 1 [.int .i64 r1],g)from rfl];simp only[aN];refine ac.app (by decide) rfl rfl (by omega) (by omega) λcp R cq hn aW ad=>?_;have aa:=P.Xu aW (λj o=>ac.row o) (λe=>(D id e).2.1 rfl) (λj o=>(D j o).2.2.1);have aA:KR id H R:=⟨sl M.1 hn,λi cs hi K=>aW _ _ (λe=>by have:=(D i e).1;have:=K.1;omega) (M.2 i cs hi K)⟩
   have aM:Bx H id F R js 8 (dS s b al):=⟨aW _ _ (λe=>(D js e).2.2.2 rfl) G.a,G.ne,G.nx,G.lo,G.len⟩
   simp only[bz,O];rw[bo,cN];refine cj (i+1) co R cp (rs++[r1]) (w1+eo y) (k1++gE l y) cl (by simp[bl]) (by omega) aA aa aM ?_ (λj o=>?_) (λq cr=>?_) (ap.mono g6.r0) ((g4.trans g6).mono (by omega) rfl) (by omega) (by rw[<-W,aeo])
   ·rw[adm,aed];exact cq
   . rcases ad with ad|ad
     ·exact D j (by rw[<-ad];exact o)
     . rw[ad]at o;cases o;obtain⟨xo,xs,a,_⟩:=P.x;exact⟨M.1,by have:=a.1;omega,λe=>by have:=P.l.lt e;omega,by have:=G.a.1;omega⟩
   . rcases acf.1 cr with h|h
     ·exact(ah q h).mono g6.r0
     ·rw[aeH.1 h];exact ez
 exact main e.br 0 c1 H2 _ [] (gd e.place) (gw l e.place) rfl rfl (aaU _) bL bJ bK (dH.nil _ _) (λj o=>by cases o) (λr ad=>by cases ad) bA g1 rfl rfl
theorem M_(j:fS vars)(L:List (List UInt8)):∀e:E,e.ok->vE vars L e->iV C id vars L e:=by
 refine E.ind λe t u he v=>?_;obtain⟨⟨V,z⟩,n⟩:=E.dL he;have A:=aJ.dL n;obtain⟨w1,w2,w3,B,D⟩:=(Lq vars L e).1 v;have b:∀k∈e.br,iV C id vars L k:=λk hk=>t k hk (z k hk) ((yW vars L).1 D k hk);intro F c H Q w l h a hl U hQ;have hK:=L9 e;refine S.RF hT ?_;unfold S.f97;simp only[ag];simp only[p2,aN,il,im,Ck,yF,O,bI,au];have W:∀p:Nat,aH p (.ae e.cells)=acK (.ae (e.cells.drop p)):=λ_=>rfl;apply aG<;>intro hc
 . refine C8 ak hT h (w:=w+15) (U.mono (by omega)) _ λr c1 H1 k1 h1 g1 r1=>?_;exact hQ _ _ _ k1 h1 (g1.mono (by omega) (M9 w1 (by simp at hc;omega)).symm) r1
 have c1:¬e.kind=1:=by simpa using hc
 apply aG<;>intro hc
 . have c2:e.kind=2:=by simpa using hc
   refine za ak hT h (U.mono (afg _ _)) (by rw[a];exact w3 c2) λr G=>?_;exact hQ _ _ _ KR.refl h ((GE.refl c).mono (by omega) (M9 w1 (by omega)).symm) G
 have c2:¬e.kind=2:=by simpa using hc
 apply aG<;>intro hc
 . have c3:e.kind=3:=by simpa using hc
   match f:e.br,Xv w1 c3 with
   | [x,y],_=>
    rw[f]at b hK;have I:aL acL 8 (av E.cells [x,y]) (.int .i64 0)=_:=b6 (i:=0) (by simp);have J:aL acL 8 (av E.cells [x,y]) (.int .i64 1)=_:=b6 (i:=1) (by simp);have ni:∀H,aj H 8 acI (di E.cells 8 [x,y] 0)=_:=λH=>c8 E.len (by decide) H (show [x,y][0]?=acK x from rfl);have ld1:∀H,aj H 8 acI (di E.cells 8 [x,y] 1)=_:=λH=>c8 E.len (by decide) H (show [x,y][1]?=acK y from rfl);have o:∀H,aj H 1 acJ (.ae (e.cells.drop 7))=acK (av E.cells [x,y]):=λH=>by rw[sa,f]
    rw[ed,ed,ed]at hK;have X:=kB x;have Y:=kB y;simp only[o,O,I,ni];refine b x (by simp) h a hl (w:=w+(eo y+16)) (U.mono (by omega)) λr1 d1 H1 k1 h1 g1 ez=>?_;have q:BD d1 (w+(eo y+16)):=g1.bd (m:=w+(eo y+16)) (U.mono (by omega));simp only[r_,o,O,J,ld1];refine b y (by simp) h1 (by rw[g1.L];exact a) (l:=l) (by rw[g1.ay];exact hl) (w:=w+16) (q.mono (by omega)) λZ d2 H2 k2 K g2 M=>?_;have N:BD d2 (w+16):=g2.bd (m:=w+16) (q.mono (by omega));refine⟨trivial,?_⟩;refine sS ak hT K (w:=w+15) N _ (ez.mono g2.r0) M λaa d3 ab P R g3 T=>?_;exact hQ _ _ _ ((k1.trans k2).trans P) R (((g1.trans g2).trans g3).mono (by omega) (by rw[Xx w1 c3 f,adv])) T
 have c3:¬e.kind=3:=by simpa using hc
 have ac:=(oz w1).1;have d:=B (by omega);rw[dN]at hK;have s:∀p∈e.place.ax,∀k∈p.aS,iV C id vars L k:=λp hp k hk=>u p hp k hk ((A.2 p hp).2 k hk) (M8 vars d p hp k hk);apply aG<;>intro hc
 . have g:e.kind=4:=by simpa using hc
   rw[g]at d;rw[show aj H 2 acI (.ae (e.cells.drop 5))=acK (.agg e.place.cells)from p3 e H];simp only[O];refine XC ak hT j n d s h a hl (w:=w) (U.mono (by omega)) λr d1 H1 k1 h1 g1 ez=>?_;exact hQ _ _ _ k1 h1 (g1.mono (by omega) (Xy w1 g w2).symm) ez
 . have g:¬e.kind=4:=by simpa using hc
   simp only[Cm,O];refine XD ak hT j he w1 (by omega) d s b h a hl (w:=w) (U.mono (by omega)) λr d1 H1 k1 h1 g1 ez=>?_;exact hQ _ _ _ k1 h1 (g1.mono (by omega) (Xz (by omega)).symm) ez
end
end Rb
namespace Rb
open Go
variable{l:Int}{e:E}{x:aC}
theorem XE(v:Int):∃u,cu .xor (.int .u64 v)=acK (.int .u64 u):=⟨_,rfl⟩
theorem s5{l:List E}{i:Nat}(h:l[i]?=acK e):aL acL 8 (av E.cells l) (.int .i64 i)=acK (di E.cells 8 l i)/\∀H,aj H 8 acI (di E.cells 8 l i)=acK (.agg e.cells):=⟨b6 (aal.1 h).1,λH=>c8 E.len (by decide) H h⟩
section
variable{C:Ctx}(ak:cP C)(hT:Cl (ai C) S.b7){id:Nat}{vars:List aB}{F:I}{c:LD}{H:Z}{Q:aa}{w:Nat}
include ak hT
theorem XG(ah:fS vars){L:List (List UInt8)}{x:aJ}(aj:x.ok)(hp:vP vars L 3 x)(am:∀p∈x.ax,∀e∈p.aS,iV C id vars L e)(an:iV C id vars L e)(h:bW H id vars (ei vars) F c)(D:c.L.map ac2=L)(hl:c.ay=l)(U:BD c (w+(gd x+eo e+256)))
  (hQ:EU id vars (ei vars) F H c (gd x+eo e+200) (gw l x++gE l e++[⟨3,0,l,x⟩]) Q):ai C 101 [.ptr id 0,.agg x.cells,.agg e.cells] H Q:=by
 obtain⟨ao,ap,_⟩:=(nl vars L 3 x).1 hp;have jl:=kB e;refine S.RK hT ?_;unfold S.f101;simp only[ag];simp only[k4,p2,aN,si,O];refine sW ak hT ah aj ao am h D hl (w:=w+(eo e+256)) (U.mono (by omega)) λs b al c1 H1 k1 h1 g1 aq E hs ar=>?_;obtain⟨av,_,_,_⟩:=y2 ap;obtain⟨z0,G,_,_⟩:=sP ar hs av;have I:BD c1 (w+(eo e+256)):=g1.bd (m:=w+(eo e+256)) (U.mono (by omega));refine h1.j4 k1 (cs:=dS s b al) (N:=8) rfl rfl rfl λj H2 k2 aw az l2=>?_;have aA:=k1.trans k2;simp only[Cm,O];refine an aw (by rw[g1.L];exact D) (l:=l) (by rw[g1.ay];exact hl) (w:=w+256) (I.mono (by omega)) λv c3 a0 J aB g3 hv=>?_;have K:BD c3 (w+256):=g3.bd (m:=w+256) (I.mono (by omega));have b3:=az.bh J;rw[(b3.all)];simp only[O];refine sU ak hT aB (w:=w+254) K (aq.mono g3.r0) λa i a1 M aC g4 ha=>?_;have P:BD i (w+254):=g4.bd (m:=w+254) (K.mono (by omega));refine sV ak hT aC (l:=l) (by rw[g4.ay,g3.ay,g1.ay];exact hl) (w:=w+253) P _ _ (by decide) x λR c5 V W g5 e1 a2=>?_;have z:BD c5 (w+253):=g5.bd (m:=w+253) (P.mono (by omega));have q:=(b3.bh M).bh V;have aD:=((aA.trans J).trans M).trans V;have aE:=((g1.trans g3).trans g4).trans g5;have X:=(hv.mono g4.r0).mono g5.r0;have Y:=ha.mono g5.r0;have aa:1<=((i.sn+1:Nat):Int)/\((i.sn+1:Nat):Int)<=(c5.sn:Nat):=⟨by omega,by omega⟩
 simp only[dM,O,q.ld (k:=3) rfl,au];have fin:∀(u:Int)(d:LD)(f:Z)(m:Nat),m<=80->KR id R f->bW f id vars (ei vars) F d->GE c5 d m []->dZ d.bM u->S.xj (ai C) (.ptr id 0) (.ptr j 0) (.int .i64 a) (.int .i64 ((i.sn+1:Nat):Int)) Q [.int .i64 u] f:=by intro u d f m hm g A g6 hu;have a3:=g6.s0;unfold S.xj;simp only[ag];rw[(q.bh g).all];simp only[O,T];refine WC ak hT A (w:=w+50) (g6.bd (m:=w+98) (z.mono (by omega))) E G (Y.mono g6.r0) hu ⟨aa.1,by omega⟩ λab aF r B g7=>?_;exact hQ _ _ ((aD.trans g).trans r) B (((aE.trans g6).trans g7).mono (by omega) (by simp only[adv]))
 apply aG<;>intro _
 . rw[(q.all)];simp only[O];refine Mn ak hT W (w:=w+100) (z.mono (by omega)) E G Y aa λo d f g A g6 aH=>?_;have ac:BD d (w+100):=g6.bd (m:=w+100) (z.mono (by omega));have t:=q.bh g;simp only[t.ld (k:=5) rfl,t.ld (k:=4) rfl,O];refine C9 ak hT hs.wid λn=>?_;refine⟨t.ld rfl,?_⟩;refine XA hs.bit.1 λn2=>?_;obtain⟨n3,aI⟩:=XE n2;simp only[aI,O];refine mI ak hT A (w:=w+98) ac _ _ aH λa4 ab aF r B g7 aK=>?_;have ad:BD ab (w+98):=g7.bd (m:=w+98) (ac.mono (by omega));have y:=t.bh r;simp only[y.ld (k:=5) rfl,y.ld (k:=4) rfl,O,iL];refine C9 ak hT hs.wid λn4=>?_;refine⟨y.ld rfl,?_⟩;refine mI ak hT B (w:=w+96) ad _ _ ((X.mono g6.r0).mono g7.r0) λa5 aL a6 ae aM g8 aO=>?_;have af:BD aL (w+96):=g8.bd (m:=w+96) (ad.mono (by omega));refine⟨(y.bh ae).ld rfl,?_⟩;refine mI ak hT aM (w:=w+94) af _ _ aO λa7 aP a8 aQ h9 g9 aR=>?_;have aT:BD aP (w+94):=g9.bd (m:=w+94) (af.mono (by omega));refine sS ak hT h9 (w:=w+93) aT _ ((aK.mono g8.r0).mono g9.r0) aR λra aU aV aW aX aY aZ=>?_;exact fin ra aU aV 71 (by decide) ((((g.trans r).trans ae).trans aQ).trans aW) aX (((((g6.trans g7).trans g8).trans g9).trans aY).mono (by decide) rfl) aZ
 ·exact fin v c5 R 0 (by decide) KR.refl W (GE.refl _) X
theorem XH(aF:fS vars){L:List (List UInt8)}(B:x.ok)(bw:x.kind=4/\x.bn.length=1\/x.kind=6/\x.bn.length=2)(hp:vP vars L x.kind x.place)(aH:∀p∈x.place.ax,∀e∈p.aS,iV C id vars L e)(ad:∀e∈x.bn,iV C id vars L e)(h:bW H id vars (ei vars) F c)(G:c.L.map ac2=L)(hl:c.ay=l)(U:BD c (w+(gd x.place+ed x.bn+256)))
  (hQ:EU id vars (ei vars) F H c (gd x.place+ed x.bn+200) (gw l x.place++dD l x.bn++[⟨x.kind,x.a_,l,x.place⟩]) Q):ai C 102 [.ptr id 0,.agg x.cells] H Q:=by
 obtain⟨aI,aJ,_⟩:=(nl vars L _ x.place).1 hp;obtain⟨aK,_,_,_⟩:=aC.dL B;refine S.RL hT ?_;unfold S.f102;simp only[ag];simp only[nf,aN,fG,ng,O];refine sW ak hT aF aK aI aH h G hl (w:=w+(ed x.bn+256)) (U.mono (by omega)) λs b al c1 H1 k1 h1 g1 aM bx hs aO=>?_;obtain⟨aP,_,aQ,aR⟩:=y2 aJ;have aT:=aQ (by omega);obtain⟨z0,bz,z2,z3⟩:=sP aO hs aP;have aU:x.kind=4->P8 s.len:=λe=>by have:=z2 aT;have:=aR (by omega) (by omega);unfold P8;omega
 have af:BD c1 (w+(ed x.bn+256)):=g1.bd (m:=w+(ed x.bn+256)) (U.mono (by omega));refine h1.j4 k1 (cs:=dS s b al) (N:=8) rfl rfl rfl λjs H2 k2 aV ah l2=>?_;have aj:=k1.trans k2;refine j3 ak hT aV aj λI bA am aW aX l3=>?_;have aY:=aj.trans am;have D:js≠I:=by have:=ah.a.1;omega
 obtain⟨o,d⟩:∃o,x.bn[0]?=acK o:=⟨_,abb (show 0<x.bn.length by omega)⟩
 obtain⟨a0,M⟩:=s5 d;change aL acL _ _ (.int .i64 0)=acK _ at a0;simp only[fG,mz,a0,M,O];have an:∀{l:List E}{y:E}{r:List E},l=y::r->ed l=eo y+ed r:=λe=>by subst e;rw[ed]
 obtain ⟨r0,q⟩:∃r0,x.bn=o::r0:=by
  cases B:x.bn with
  |nil=>rw[B]at d;cases d
  |cons a r=>rw[B]at d;simp at d;exact⟨r,by rw[d]⟩
 have bB:=an q;have bC:=kB o;refine ad o (adq d) aW (by rw[g1.L];exact G) (l:=l) (by rw[g1.ay];exact hl) (w:=w+(ed r0+256)) (af.mono (by omega)) λv J bD K aZ g4 hv=>?_;have ao:BD J (w+(ed r0+256)):=g4.bd (m:=w+(ed r0+256)) (af.mono (by omega));simp only[dM,O];refine(aX.bh K).st aZ (aY.trans K) (by decide) One.int λa1 ap aq ar a4=>?_;have av:=a4 _ _ _ D ((ah.bh am).bh K);have a5:=g1.trans g4;have fin:∀(i v2:Int)(t:LD)(f:Z)(m:Nat)(n:List bH),(i=7/\x.kind=4\/i=12)->KR id H f->bW f id vars (ei vars) F t->Bx H id F f js 8 (dS s b al)->Bx H id F f I 13 (⟨i,-1,-1,-1,v,v2,0,0,0,0,0,0,0⟩:eh).cells->GE J t m n->m<=ed r0->n=dD l r0->dZ t.bM v2->S.xk (ai C) (.ptr id 0) (.ae x.cells) (.ptr js 0) (.ptr I 0) Q [] f:=by intro i v2 t f m n a6 P R az a7 g6 hm hn T;have aA:BD t (w+256):=g6.bd (m:=w+256) (ao.mono (by omega));unfold S.xk;simp only[ag];rw[(az.all)];simp only[O];refine sU ak hT R (w:=w+254) aA ((aM.mono g4.r0).mono g6.r0) λa u a8 g V g7 ha=>?_;have aB:BD u (w+254):=g7.bd (m:=w+254) (aA.mono (by omega));simp only[dM,O];refine(a7.bh g).st V (P.trans g) (by decide) One.int λaD W X a9 Y=>?_;have aE:=Y _ _ _ D (az.bh g);simp only[aE.ld (k:=1) rfl,fG,hj,yH,ng,O];refine sV ak hT X (l:=l) (by rw[g7.ay,g6.ay,g4.ay,g1.ay];exact hl) (w:=w+253) aB _ _ (by omega) x.place λbE aa ab ba ac bF es=>?_;have bb:=aE.bh ab;have bc:BD aa (w+253):=ac.bd (m:=w+253) (aB.mono (by omega));refine⟨bb.ld rfl,trivial,?_⟩;refine(a9.bh ab).st ba (W.trans ab) (by decide) One.int λbG be bf bg bJ=>?_;refine⟨trivial,?_⟩;refine bg.st bf be (by decide) One.int λbK bi bj bk bL=>?_;refine bk.st bj bi (by decide) One.int λbN bl bm bo bO=>?_;rw[(bo.all)];simp only[O];have bP:=bc.A;have ra:=ac.r0;have bQ:=g7.r0;have bR:=g6.r0;refine jJ ak hT bm (by omega) ⟨i,-1,-1,a,v,v2,0,0,s.len,x.a_,0,((u.sn+1:Nat):Int),0⟩ λbp bq br=>?_;have gf:GE aa (aa.add ⟨i,-1,-1,a,v,v2,0,0,s.len,x.a_,0,((u.sn+1:Nat):Int),0⟩) 1 []:=GE.add (jn (by omega) (by omega) cX cX (ha.mono ra) (hv.mono (by omega)) (T.mono (by omega)) (.inr (.inr ⟨by omega,by omega⟩)) (a6.elim (λe=> .inr (.inr (aU e.2))) (λe=> .inr (.inl (by omega))))) (k9 (.inl (by omega)));exact hQ _ bp (bl.trans bq) br (((((a5.trans g6).trans g7).trans ac).trans gf).mono (by omega) (by rw[hn,q,dD];simp only[adv,aeo]))
 simp only[fG,hj,O,bI,au,aw];apply aG<;>intro e
 . have bs:x.kind=6:=by simpa using e
   refine ar.st aq ap (by decide) One.int λf P R bt bu=>?_;obtain⟨z,j⟩:∃z,x.bn[1]?=acK z:=⟨_,abb (show 1<x.bn.length by omega)⟩
   obtain⟨a2,a3⟩:=s5 j;change aL acL _ _ (.int .i64 1)=acK _ at a2;simp only[mz,a2,a3,O];obtain ⟨r1,ez⟩:∃r1,r0=z::r1:=by
    rw[q]at j;cases r0 with
    |nil=>simp at j
    |cons a r=>simp at j;exact⟨r,by rw[j]⟩
   have bS:=an ez;have bT:=kB z;refine ad z (adq j) R (by rw[g4.L,g1.L];exact G) (l:=l) (by rw[g4.ay,g1.ay];exact hl) (w:=w+256) (ao.mono (by omega)) λv2 u a8 g V g7 T=>?_;refine(bt.bh g).st V (P.trans g) (by decide) One.int λaD W X bv Y=>?_;exact fin 12 v2 u aD _ _ (.inr rfl) W X (Y _ _ _ D ((bu _ _ _ D av).bh g)) bv g7 (by omega) (by rw[ez,show r1=[]from aeB (by have:=congrArg afh q;rw[ez]at this;simp only[adN]at this;omega),dD,dD,adv]) T
 . have bs:¬x.kind=6:=by simpa using e
   exact fin 7 (-1) J a1 0 [] (.inl ⟨rfl,by omega⟩) ap aq av ar (GE.refl _) (aaU _) (by rw[show r0=[]from aeB (by have:=congrArg afh q;simp only[adN]at this;omega),dD]) cX
theorem XI(am:fS vars){L:List (List UInt8)}(an:x.ok)(bc:x.kind=5)(hn:x.V∈L)(ao:x.b9∈L)(hp:vP vars L 5 x.place)(ap:∀p∈x.place.ax,∀e∈p.aS,iV C id vars L e)(h:bW H id vars (ei vars) F c)(v:c.L.map ac2=L)(hl:c.ay=l)(U:BD c (w+(gd x.place+256)))
  (hQ:EU id vars (ei vars) F H c (gd x.place+200) (gw l x.place++[⟨x.kind,x.a_,l,x.place⟩]) Q):ai C 103 [.ptr id 0,.agg x.cells] H Q:=by
 obtain⟨aq,be,_⟩:=(nl vars L _ x.place).1 hp;obtain⟨ar,_,_,_⟩:=aC.dL an;refine S.RM hT ?_;unfold S.f103;simp only[ag];simp only[nf,aN,fG,ng,O];refine sW ak hT am ar aq ap h v hl (w:=w+256) (U.mono (by omega)) λs b al c1 H1 k1 h1 g1 au bf hs bg=>?_;have y:BD c1 (w+256):=g1.bd (m:=w+256) (U.mono (by omega));refine h1.j4 k1 (cs:=dS s b al) (N:=8) rfl rfl rfl λjs H2 k2 av z l2=>?_;have B:=k1.trans k2;refine j3 ak hT av B λaw bi D az aA l3=>?_;have aB:=B.trans D;have i:js≠aw:=by have:=z.a.1;omega
 have E:=z.bh D;rw[(E.all)];simp only[O];refine sU ak hT az (w:=w+254) y au λa d bj j aD g4 ha=>?_;have I:BD d (w+254):=g4.bd (m:=w+254) (y.mono (by omega));simp only[dM,O];refine(aA.bh j).st aD (aB.trans j) (by decide) One.int λbk aE aF aG aH=>?_;have J:=aH _ _ _ i (E.bh j);simp only[J.ld (k:=1) rfl,fG,hj,yH,ng,O];refine oE ak hT aF (w:=w+253) I λbl n aI=>?_;have g6:=GE.fr d;have K:=g6.bd (m:=w+253) (I.mono (by omega));have M:=J.bh n;refine⟨M.ld rfl,trivial,trivial,trivial,trivial,?_⟩;refine oE ak hT aI (w:=w+252) K λbm o aJ=>?_;have g7:=GE.fr {d with bM:=d.bM+1};have P:=g7.bd (m:=w+252) (K.mono (by omega));have R:=M.bh o;refine⟨R.ld rfl,trivial,trivial,trivial,trivial,?_⟩;refine sV ak hT aJ (l:=l) (by show d.ay=l;rw[g4.ay,g1.ay];exact hl) (w:=w+251) P _ _ (by omega) x.place λbn f r aK T aL es=>?_;have W:=R.bh r;have X:BD f (w+251):=T.bd (m:=w+251) (P.mono (by omega));refine⟨W.ld rfl,trivial,?_⟩;refine(((aG.bh n).bh o).bh r).st aK (((aE.trans n).trans o).trans r) (by decide) One.int λbo aM aO aP aQ=>?_;have Y:=aQ _ _ _ i W;refine⟨Y.ld rfl,trivial,?_⟩;refine aP.st aO aM (by decide) One.int λbp aR aT aU aV=>?_;have aW:=aV _ _ _ i Y;refine⟨aW.ld rfl,trivial,?_⟩;refine aU.st aT aR (by decide) One.int λbq aX aY aZ br=>?_;refine⟨trivial,?_⟩;refine aZ.st aY aX (by decide) One.int λbs a0 a1 a2 bt=>?_;refine a2.st a1 a0 (by decide) One.int λbu a3 a4 Z of=>?_;rw[(Z.all)];simp only[O];have bv:=X.A;have a5:f.bM=d.bM+1+1:=aL;have bw:f.sn=d.sn+1:=es;refine jJ ak hT a4 (by omega) ⟨11,d.bM,((d.bM+1:Nat):Int),a,-1,-1,0,0,s.len,x.a_,0,((d.sn+1:Nat):Int),0⟩ λbx aa ab=>?_;have ac:GE f (f.add ⟨11,d.bM,((d.bM+1:Nat):Int),a,-1,-1,0,0,s.len,x.a_,0,((d.sn+1:Nat):Int),0⟩) 1 []:=GE.add (jn (by decide) (by decide) (jK (by omega)) (jK (by omega)) (ha.mono (by omega)) cX cX (.inr (.inr ⟨by omega,by omega⟩)) (.inr (.inl (by decide)))) (k9 (.inl (by decide)));have t:=ac.bd (m:=w+250) (X.mono (by rw[adl 1];exact hb _));have u:=Z.bh aa;have G:=(((((g1.trans g4).trans g6).trans g7).trans T).trans ac)
 have ad:(LD.add f ⟨11,d.bM,((d.bM+1:Nat):Int),a,-1,-1,0,0,s.len,x.a_,0,((d.sn+1:Nat):Int),0⟩).L.map ac2=L:=by rw[G.L];exact v
 have bz:(LD.add f ⟨11,d.bM,((d.bM+1:Nat):Int),a,-1,-1,0,0,s.len,x.a_,0,((d.sn+1:Nat):Int),0⟩).bM=d.bM+2:=a5;generalize LD.add f ⟨11,d.bM,((d.bM+1:Nat):Int),a,-1,-1,0,0,s.len,x.a_,0,((d.sn+1:Nat):Int),0⟩=bA at *;simp only[my,u.ld (k:=1) rfl,O];refine za ak hT ab t (by rw[ad];exact hn) λq a6=>?_;refine⟨u.ld rfl,?_⟩;refine y8 ak hT ab (w:=w+249) t a6 (jK (by omega)) λbB bC ae af g=>?_;have ah:=g.bd (m:=w+249) (t.mono (by rw[adl 1];exact hb _));have aj:=u.bh ae;simp only[yG,aj.ld (k:=2) rfl,O];refine za ak hT af ah (by rw[g.L,ad];exact ao) λbD a7=>?_;refine⟨aj.ld rfl,?_⟩;have bE:=g.r0;refine y8 ak hT af (w:=w+248) ah a7 (jK (by omega)) λci a8 a9 ba bb=>?_;exact hQ _ a8 (((a3.trans aa).trans ae).trans a9) ba (((G.trans g).trans bb).mono (by omega) (by simp only[adv]))
end
end Rb
namespace Rb
open Go
def KB(id:Nat)(H H':Z):Prop:=H.n<=H'.n/\∀i cs,i<id->At H i (.row cs)->At H' i (.row cs)
theorem KB.refl(id:Nat)(H:Z):KB id H H:=⟨hb _,λ_ _ _ h=>h⟩
theorem KB.trans{id:Nat}{a b c:Z}(h:KB id a b)(k:KB id b c):KB id a c:=⟨sl h.1 k.1,λi cs hi d=>k.2 i cs hi (h.2 i cs hi d)⟩
theorem KR.kb{id:Nat}{a b:Z}(h:KR id a b):KB id a b:=⟨h.1,λi cs hi c=>h.2 i cs (aa6 hi) c⟩
def XJ(id:Nat)(vars:List aB)(H:Z)(c:LD)(w:Nat)(k:List bH)(L:List (List UInt8))(Q:aa):Prop:=∀(c':LD)(F:I)(H':Z),KB id H H'->bW H' id vars (ei vars) F c'->GS c c' w k->c'.L.map ac2=L->(∃t,c'.L=c.L++t/\t.length<=1)->Q (.aA []) H'
def Dw(C:Ctx)(id:Nat)(vars:List aB)(x:aC):Prop:=∀{L:List (List UInt8)}{F:I}{c:LD}{H:Z}{Q:aa}{w:Nat},vS vars L x->bW H id vars (ei vars) F c->c.L.map ac2=L->c.ay=x.ay->BD c (w+jI x)->XJ id vars H c (jI x) (j2 x) (e6 L x) Q->ai C 60 [.ptr id 0,.agg x.cells] H Q
def qi(C:Ctx)(id:Nat)(vars:List aB)(l:List aC):Prop:=∀{L:List (List UInt8)}{F:I}{c:LD}{H:Z}{Q:aa}{w:Nat},vB vars L l->bW H id vars (ei vars) F c->c.L.map ac2=L->BD c (w+cS l)->(∀(c':LD)(F:I)(H':Z),KB id H H'->bW H' id vars (ei vars) F c'->GS c c' (cS l) (ey l)->c'.L=c.L->Q (.aA []) H')->ai C 32 [.ptr id 0,av aC.cells l] H Q
theorem GS.refl(c:LD):GS c c 0 []:=(GE.refl c).gs
theorem GS.ay(c:LD)(v:Int):GS c {c with ay:=v} 0 []:=⟨⟨[],(adv _).symm,hb _,(λ_ a=>by cases a),gC.nil _⟩,hb _,hb _,rfl,(adv _).symm,hb _,hb _⟩
theorem GS.u(c:LD)(l:List (List UInt8×Nat)):GS c {c with L:=l} 0 []:=⟨⟨[],(adv _).symm,hb _,(λ_ a=>by cases a),gC.nil _⟩,hb _,hb _,rfl,(adv _).symm,hb _,hb _⟩
theorem Dx:∀L:List (List UInt8×Nat),(L.flatMap jH).length=L.length*2
 |[]=>rfl
 |x::r=>by rw[ac0,adm,Dx r,adN];show 2+_=_;omega
section
variable{C:Ctx}(ak:cP C)(hT:Cl (ai C) S.b7){id:Nat}{vars:List aB}{F:I}{c:LD}{H:Z}{Q:aa}{w:Nat}
include ak hT
theorem Dy{l:List aC}(hl:l.length<=9223372036854775807)(hS:∀x∈l,Dw C id vars x):qi C id vars l:=by
 intro L F c H Q w hv h B U hQ;refine S.QS hT ?_;unfold S.f32;simp only[ag];simp only[b8,dM,O,h.lcs,h.l.len,bC];have main:∀(r:List aC)(i:Nat)(g:List (List UInt8)) (c1:LD) (q:I) (H1:Z) (w1:Nat) (k1:List bH),l.drop i=r->vB vars g r->KB id H H1->bW H1 id vars (ei vars) q c1->c1.L.map ac2=g->(∃t,c1.L=c.L++t/\t.length<=w1)->GS c c1 w1 k1->w1+cS r=cS l->k1++ey r=ey l ->
   ar (S.vF (ai C) (.ptr id 0) (av aC.cells l) (.int .i64 c.L.length) (.int .i64 l.length) Q) ([.int .i64 i],H1):=by
  intro r;induction r with
  | nil=>
   intro i g c1 q H1 w1 k1 s hv kb h1 y ht g1 hw hk;have hle:=c7 s;obtain⟨t,ht,D⟩:=ht;refine ar.step ?_;simp only[ag,S.vF,T,aY,O,au,aw];rw[cQ];unfold S.Gx;simp only[ag];simp only[b8,dM,O,h1.lcs];obtain⟨E,e,v,o⟩:=h1.l.cut (k:=c.L.length) (by rw[ht,adm];omega);simp only[e,O];obtain⟨xo,xs,a,b,d,f⟩:=h1.x;obtain⟨n1,n2,n3⟩:=v.known;rw[a.st1 (by show 7<8;decide) ⟨n1,n2,n3⟩];simp only[O];rw[cS]at hw;rw[ey]at hk;refine hQ {c1 with L:=c.L} E _ (kb.trans (KR.set _).kb) ⟨⟨xo,xs,a.set _,b.frame λ_ _ _ h=>h.bR (h.ne a (by intro e;cases e)) _,d.frame λ_ _ _ h=>h.bR (h.ne a (by intro e;cases e)) _,f⟩,?_,λj G=>h1.ld j (by rw[<-o];exact G),λp hp=>h1.lo p (by rw[ht];exact List.mem_append_left _ hp)⟩ ((g1.trans (GS.u c1 c.L)).mono (by omega) hk) rfl;have:(c1.L.flatMap jH).take (c.L.length*2)=c.L.flatMap jH:=by rw[ht,aeD,List.take_append_of_le_length (by rw[Dx];exact hb _),adp (by rw[Dx];exact hb _)]
   rw[this]at v;exact v.set (by rw[o];exact h1.sQ) _
  | cons x r J=>
   intro i g c1 q H1 w1 k1 s hv kb h1 y ht g1 hw hk;obtain⟨K,z,o⟩:=c4 s;have M:=adq z;obtain⟨v1,v2⟩:vS vars g x/\vB vars (e6 g x) r:=by rw[vB]at hv;exact hv
   obtain⟨t,ht,D⟩:=ht;rw[cS]at hw;rw[ey]at hk;refine ar.step ?_;simp only[ag,S.vF,T,aY,O,au];rw[cM,b6 K];simp only[O];rw[c8 aC.len (by decide) _ z];simp only[O];refine h1.j4 KR.refl (cs:=x.cells) (N:=10) rfl x.len (aC.scalar x) λj H2 k2 P b2 l2=>?_;have R:x.cells[1]?=acK (.int .i64 x.ay):=by rw[aC.aX];rfl
   obtain⟨aj,V,A,W⟩:=P.own (k:=6) (c':={c1 with ay:=x.ay}) (n:=x.ay) (.inr (.inr ⟨rfl,rfl,rfl,rfl⟩)) rfl rfl rfl rfl;simp only[dM,O,b2.ld R,b8,V,(b2.bh A).all];have g3:=g1.trans (GS.ay c1 x.ay);have X:BD ({c1 with ay:=x.ay}:LD) (w+jI x):=g3.bd (m:=w+jI x) (U.mono (by omega)) (by show c1.L.length<=_;rw[ht,adm];omega);refine hS x M v1 W y rfl X λY aa ab ac ad g4 ae af=>?_;obtain⟨t2,ah,ak⟩:=af;have:16<=jI x:=by rw[Ma];omega
   simp only[bz,O];rw[bo,cN];refine J (i+1) _ Y aa ab (w1+jI x) (k1++j2 x) o v2 ((kb.trans (k2.trans A).kb).trans ac) ad ae ⟨t++t2,by rw[ah];show c1.L++t2=_;rw[ht,aeo],by rw[adm];omega⟩ ((g3.trans g4).mono (by omega) (by rw[adv])) (by omega) (by rw[<-hk,aeo])
 exact main l 0 L c F H 0 [] rfl hv (KB.refl _ _) h B ⟨[],by simp,by simp⟩ (GS.refl c) (aa8 _) rfl
end
variable{l0 l3:Nat}{n1 n2:List eh}{o1 o2 m1 m2:eh}{x:aC}{e0:E}
theorem Na(t:Int)(o:eh)(l:List eh):iU t (o::l)=(if o.kind=14/\o.eV=t then 1 else 0)+iU t l:=by
 unfold iU;rw[List.filter_cons];by_cases h:o.kind=14/\o.eV=t
 ·rw[ab h,ab (by simp[h.1,h.2]),adN];omega
 ·rw[af h,af (by simpa using h),aa8]
theorem Nb{t:Int}{l:List eh}(h:∀o∈l,mG o):iU t l=0:=by unfold iU;rw[abF,List.filter_eq_nil_iff];intro o a b;simp only[aar,bZ]at b;exact h o a ⟨by omega,by omega⟩
structure GR(c c':LD)(w:Nat)(k:List bH)(new:List eh):Prop where
 A:c'.A=c.A++new
 len:new.length<=w
 op:∀o∈new,iT c'.bM c'.sn o
 r0:c.bM<=c'.bM
 r1:c'.bM<=c.bM+w
 s1:c'.sn=c.sn+k.length
 sc:c'.sc=c.sc++k.flatMap bH.cells
 sw:k.length<=w
 l1:c'.labels<=c.labels+w
section
variable{c c1 c2:LD}{w w':Nat}{k k':List bH}{n n':List eh}
theorem GR.trans(h:GR c c1 w k n)(g:GR c1 c2 w' k' n'):GR c c2 (w+w') (k++k') (n++n'):=by
 obtain⟨M,a2,a3,a4,a5,a6,a7,a8,a9⟩:=h;obtain⟨b1,b2,b3,b,e,f,d,i,j⟩:=g;refine⟨by rw[b1,M,aeo],by rw[adm];omega,λo a=>?_,by omega,by omega,by rw[adm];omega,by rw[d,a7,aeD,aeo],by rw[adm];omega,by omega⟩;rcases acf.1 a with a|a
 ·exact(a3 o a).mono b (by omega)
 ·exact b3 o a
theorem GR.mono(h:GR c c1 w k n)(b:w<=w')(a:k=k'):GR c c1 w' k' n:=by obtain⟨M,a2,a3,a4,a5,a6,a7,a8,a9⟩:=h;subst a;exact⟨M,by omega,a3,a4,by omega,a6,a7,by omega,by omega⟩
theorem GE.gr(h:GE c c1 w k):∃n,GR c c1 w k n/\(∀o∈n,mG o)/\c1.labels=c.labels:=by obtain⟨n,a,b,d⟩:=h.new;exact⟨n,⟨a,b,λo e=>(d o e).1,h.r0,h.r1,h.s1,h.sc,h.sw,by rw[h.k7];omega⟩,λo e=>(d o e).2,h.k7⟩
theorem GS.gr(h:GS c c1 w k):∃n,GR c c1 w k n/\gC c.labels c1.labels n:=by obtain⟨n,a,b,d,e⟩:=h.new;exact⟨n,⟨a,b,d,h.r0,h.r1,h.s1,h.sc,h.sw,h.l1⟩,e⟩
theorem GR.gs(h:GR c c1 w k n)(e:gC c.labels c1.labels n):GS c c1 w k:=⟨⟨n,h.A,h.len,h.op,e⟩,h.r0,h.r1,h.s1,h.sc,h.sw,h.l1⟩
theorem GR.add{o:eh}(h:iT c.bM c.sn o):GR c (c.add o) 1 [] [{o with ay:=c.ay}]:=⟨rfl,hb _,λp hp=>by rw[aeH]at hp;subst hp;exact h.ay _,hb _,aa2 _,rfl,(adv _).symm,aaU _,aa2 _⟩
theorem GR.label(c:LD):GR c {c with labels:=c.labels+1} 1 [] []:=⟨(adv _).symm,aaU _,(λ_ a=>by cases a),hb _,aa2 _,rfl,(adv _).symm,aaU _,hb _⟩
theorem GR.ay(c:LD)(v:Int):GR c {c with ay:=v} 0 [] []:=⟨(adv _).symm,aaU _,(λ_ a=>by cases a),hb _,hb _,rfl,(adv _).symm,hb _,hb _⟩
theorem GR.bd{m:Nat}(g:GR c c1 w k n)(h:BD c (w+m))(a:c1.L=c.L):BD c1 m:=by obtain⟨M,a2,a3,a4,a5,a6,a7,a8,a9⟩:=g;obtain⟨b1,b2,b3,b,d⟩:=h;exact⟨by rw[M,adm];omega,by omega,by omega,by omega,by rw[a];omega⟩
end
def Jp(o:eh)(t:Nat):Prop:=(o.kind=15\/o.kind=16)/\o.eV=(t:Int)
def Mk(o:eh)(t:Nat):Prop:=o.kind=14/\o.eV=(t:Int)
theorem XK{l0 l3 l4:Nat}{n1 n2 f:List eh}(g:∀o∈n1,mG o)(h:Jp o1 (l0+1))(d:gC (l0+2) l3 n2)(i:Jp o2 (l0+2))(k1:Mk m1 (l0+1))(e:gC l3 l4 f)(k2:Mk m2 (l0+2)):gC l0 l4 (n1++([o1]++(n2++([o2]++([m1]++(f++[m2])))))):=by
 have k:=d.le;have l:=e.le;obtain⟨m,n⟩:=h;obtain⟨p,q⟩:=i;obtain⟨r1,r⟩:=k1;obtain⟨s1,s2⟩:=k2;refine⟨by omega,λo c a b=>?_,λt t0 t1=>?_⟩
 . simp only[acf,aeH]at c;rcases c with c|rfl|c|rfl|rfl|c|rfl
   ·exact absurd ⟨a,b⟩ (g o c)
   ·omega
   ·have:=d.eV o c a b;omega
   ·omega
   ·omega
   ·have:=e.eV o c a b;omega
   ·omega
 . have j:iU t n1=0:=Nb g;simp only[C2,Na,j,show iU t []=0 from rfl];rw[af (show ¬(o1.kind=14/\o1.eV=t) by omega),af (show ¬(o2.kind=14/\o2.eV=t) by omega)];by_cases c1:t<=((l0+2:Nat):Int)
   . rw[oC d (.inl c1),oC e (.inl (by omega))];by_cases c2:t=((l0+1:Nat):Int)
     ·rw[ab (show m1.kind=14/\m1.eV=t by omega),af (show ¬(m2.kind=14/\m2.eV=t) by omega)]
     ·rw[af (show ¬(m1.kind=14/\m1.eV=t) by omega),ab (show m2.kind=14/\m2.eV=t by omega)]
   . rw[af (show ¬(m1.kind=14/\m1.eV=t) by omega),af (show ¬(m2.kind=14/\m2.eV=t) by omega)];by_cases c2:t<=(l3:Int)
     ·rw[d.one t (by omega) c2,oC e (.inl c2)]
     ·rw[oC d (.inr (by omega)),e.one t (by omega) t1]
theorem XL(k1:Mk m1 (l0+1))(e:∀o∈n1,mG o)(f:Jp o1 (l0+2))(d:gC (l0+2) l3 n2)(g:Jp o2 (l0+1))(k2:Mk m2 (l0+2)):gC l0 l3 ([m1]++(n1++([o1]++(n2++([o2]++[m2]))))):=by
 have i:=d.le;obtain⟨j,k⟩:=f;obtain⟨l,m⟩:=g;obtain⟨r1,n⟩:=k1;obtain⟨s1,s2⟩:=k2;refine⟨by omega,λo c a b=>?_,λt t0 t1=>?_⟩
 . simp only[acf,aeH]at c;rcases c with rfl|c|rfl|c|rfl|rfl
   ·omega
   ·exact absurd ⟨a,b⟩ (e o c)
   ·omega
   ·have:=d.eV o c a b;omega
   ·omega
   ·omega
 . have h:iU t n1=0:=Nb e;simp only[C2,Na,h,show iU t []=0 from rfl];rw[af (show ¬(o1.kind=14/\o1.eV=t) by omega),af (show ¬(o2.kind=14/\o2.eV=t) by omega)];by_cases c1:t<=((l0+2:Nat):Int)
   . rw[oC d (.inl c1)];by_cases c2:t=((l0+1:Nat):Int)
     ·rw[ab (show m1.kind=14/\m1.eV=t by omega),af (show ¬(m2.kind=14/\m2.eV=t) by omega)]
     ·rw[af (show ¬(m1.kind=14/\m1.eV=t) by omega),ab (show m2.kind=14/\m2.eV=t by omega)]
   . rw[af (show ¬(m1.kind=14/\m1.eV=t) by omega),af (show ¬(m2.kind=14/\m2.eV=t) by omega),d.one t (by omega) t1]
section
variable{C:Ctx}(ak:cP C)(hT:Cl (ai C) S.b7){id:Nat}{vars:List aB}{F:I}{c:LD}{H:Z}{Q:aa}{w:Nat}
include ak hT
theorem bW.Dz{P:Z->Prop}(h:bW H id vars (ei vars) F c)(v:Int)(a:∀H',KR id H H'->bW H' id vars (ei vars) F {c with ay:=v}->P H'):Do (cf H 1 (.ptr id 6) (.int .i64 v)) P:=by obtain⟨f,b,d,e⟩:=h.own (k:=6) (c':={c with ay:=v}) (n:=v) (.inr (.inr ⟨rfl,rfl,rfl,rfl⟩)) rfl rfl rfl rfl;rw[b,O];exact a _ d e
theorem XM{L:List (List UInt8)}(p:x.bn=[e0])(q:iV C id vars L e0)(s:qi C id vars x.aZ)(u:qi C id vars x.bw)(v:vB vars L x.aZ)(y:vB vars L x.bw)(h:bW H id vars (ei vars) F c)(d:c.L.map ac2=L)(z:c.ay=x.ay)(U:BD c (w+(16+eo e0+cS x.aZ+cS x.bw)))
  (hQ:∀(c':LD)(F:I)(H':Z),KB id H H'->bW H' id vars (ei vars) F c'->GS c c' (16+eo e0+cS x.aZ+cS x.bw) (gE x.ay e0++(ey x.aZ++ey x.bw))->c'.L=c.L->Q (.aA []) H'):ai C 107 [.ptr id 0,.agg x.cells] H Q:=by
 have jl:=kB e0;refine S.RQ hT ?_;unfold S.f107;simp only[ag];simp only[nf,aN];refine y7 ak hT h (w:=w+(15+eo e0+cS x.aZ+cS x.bw)) (U.mono (by omega)) λH1 k1 h1=>?_;have g1:=GR.label c;have A:=g1.bd (m:=w+(15+eo e0+cS x.aZ+cS x.bw)) (U.mono (by omega)) rfl;refine y7 ak hT h1 (w:=w+(14+eo e0+cS x.aZ+cS x.bw)) (A.mono (by omega)) λH2 k2 B=>?_;have g2:=g1.trans (GR.label {c with labels:=c.labels+1});have D:=g2.bd (m:=w+(14+eo e0+cS x.aZ+cS x.bw)) (U.mono (by omega)) rfl;obtain⟨a0,M⟩:=s5 (l:=x.bn) (i:=0) (e:=e0) (by rw[p];rfl);change aL acL _ _ (.int .i64 0)=acK _ at a0;simp only[fG,mz,a0,M,O];refine q B d z (w:=w+(14+cS x.aZ+cS x.bw)) (D.mono (by omega)) λr c3 aM E G ge J=>?_;obtain⟨n1,g3,K,N⟩:=ge.gr;have b:c3.L=c.L:=ge.L;have P:c3.labels=c.labels+2:=N;have g:=g2.trans g3;have T:=g.bd (m:=w+(14+cS x.aZ+cS x.bw)) (U.mono (by omega)) b;refine y_ ak hT G (w:=w+(13+cS x.aZ+cS x.bw)) (T.mono (by omega)) _ J λo1 aO V W ok X Y=>?_;have g4:=g.trans (GR.add X);have aa:=g4.bd (m:=w+(13+cS x.aZ+cS x.bw)) (U.mono (by omega)) b;simp only[sb,O];refine s v Y (by show c3.L.map _=_;rw[b];exact d) (w:=w+(13+cS x.bw)) (aa.mono (by omega)) λc5 aP aQ ab ac ad ae=>?_;obtain⟨n2,g5,af⟩:=ad.gr;have a:c5.L=c.L:=ae.trans b;have ah:=g4.trans g5;simp only[Cn,O,b8,dM];refine ac.Dz ak hT _ λaR aj al=>?_;have g6:=ah.trans (GR.ay c5 x.ay);have am:=g6.bd (m:=w+(13+cS x.bw)) (U.mono (by omega)) a;refine y_ ak hT al (w:=w+(12+cS x.bw)) (am.mono (by omega)) _ cX λo2 aS an ao qW ap aq=>?_;have g7:=g6.trans (GR.add ap);have ar:=g7.bd (m:=w+(12+cS x.bw)) (U.mono (by omega)) a;refine y9 ak hT aq (w:=w+(11+cS x.bw)) (ar.mono (by omega)) _ λaT au av=>?_;have j:∀{R S:Nat}{t:Int},iT R S ⟨14,-1,-1,-1,-1,-1,0,0,0,0,t,0,0⟩:=jn (by decide) (by decide) cX cX cX cX cX (.inr (.inl (by decide))) (.inr (.inl (by decide)));have g8:=g7.trans (GR.add (o:=⟨14,-1,-1,-1,-1,-1,0,0,0,0,((c.labels+1:Nat):Int),0,0⟩) j);have aw:=g8.bd (m:=w+(11+cS x.bw)) (U.mono (by omega)) a;simp only[yI,O];refine u y av (by show c5.L.map _=_;rw[a];exact d) (w:=w+11) (aw.mono (by omega)) λf ax aU az h9 aB aC=>?_;obtain⟨n3,g9,aD⟩:=aB.gr;have k:f.L=c.L:=aC.trans a;have aE:=g8.trans g9;refine h9.Dz ak hT _ λaV aF aG=>?_;have n:=aE.trans (GR.ay f x.ay);have aH:=n.bd (m:=w+11) (U.mono (by omega)) k;refine y9 ak hT aG (w:=w+10) aH _ λaI kb aJ=>?_;have aK:=n.trans (GR.add (o:=⟨14,-1,-1,-1,-1,-1,0,0,0,0,((c.labels+1+1:Nat):Int),0,0⟩) j);refine hQ _ ax aI (((((((k1.trans k2).trans E).trans V).kb.trans ab).trans ((aj.trans an).trans au).kb).trans az).trans (aF.trans kb).kb) aJ (GR.gs (aK.mono (by omega) (by simp only[adv,aeh,aeo])) ?_) k;have l2:gC (c.labels+2) c5.labels n2:=by rw[<-P];exact af
 have l3:gC c5.labels f.labels n3:=aD;have:=XK (o1:={o1 with ay:=c3.ay}) (o2:={o2 with ay:=x.ay}) (m1:=⟨14,-1,-1,-1,-1,-1,0,0,0,0,((c.labels+1:Nat):Int),0,x.ay⟩) (m2:=⟨14,-1,-1,-1,-1,-1,0,0,0,0,((c.labels+1+1:Nat):Int),0,x.ay⟩) K ⟨ok,W⟩ l2 ⟨qW,ao⟩ ⟨rfl,rfl⟩ l3 ⟨rfl,rfl⟩;simp only[aeh,adv,aeo];exact this
theorem XN{L:List (List UInt8)}(n:x.bn=[e0])(p:iV C id vars L e0)(q:qi C id vars x.aZ)(s:vB vars L x.aZ)(h:bW H id vars (ei vars) F c)(g:c.L.map ac2=L)(u:c.ay=x.ay)(U:BD c (w+(16+eo e0+cS x.aZ)))
  (hQ:∀(c':LD)(F:I)(H':Z),KB id H H'->bW H' id vars (ei vars) F c'->GS c c' (16+eo e0+cS x.aZ) (gE x.ay e0++ey x.aZ)->c'.L=c.L->Q (.aA []) H'):ai C 108 [.ptr id 0,.agg x.cells] H Q:=by
 have jl:=kB e0;refine S.RR hT ?_;unfold S.f108;simp only[ag];simp only[nf,aN];refine y7 ak hT h (w:=w+(15+eo e0+cS x.aZ)) (U.mono (by omega)) λH1 k1 h1=>?_;have g1:=GR.label c;have v:=g1.bd (m:=w+(15+eo e0+cS x.aZ)) (U.mono (by omega)) rfl;refine y7 ak hT h1 (w:=w+(14+eo e0+cS x.aZ)) (v.mono (by omega)) λH2 k2 b=>?_;have g2:=g1.trans (GR.label {c with labels:=c.labels+1});have d:=g2.bd (m:=w+(14+eo e0+cS x.aZ)) (U.mono (by omega)) rfl;have j:∀{R S:Nat}{t:Int},iT R S ⟨14,-1,-1,-1,-1,-1,0,0,0,0,t,0,0⟩:=jn (by decide) (by decide) cX cX cX cX cX (.inr (.inl (by decide))) (.inr (.inl (by decide)));refine y9 ak hT b (w:=w+(13+eo e0+cS x.aZ)) (d.mono (by omega)) _ λH2 y b=>?_;have g2:=g2.trans (GR.add (o:=⟨14,-1,-1,-1,-1,-1,0,0,0,0,((c.labels+1:Nat):Int),0,0⟩) j);have d:=g2.bd (m:=w+(13+eo e0+cS x.aZ)) (U.mono (by omega)) rfl;obtain⟨a0,M⟩:=s5 (l:=x.bn) (i:=0) (e:=e0) (by rw[n];rfl);change aL acL _ _ (.int .i64 0)=acK _ at a0;simp only[fG,mz,a0,M,O];refine p b g u (w:=w+(13+cS x.aZ)) (d.mono (by omega)) λr c3 au z A ge B=>?_;obtain⟨n1,g3,D,E⟩:=ge.gr;have a:c3.L=c.L:=ge.L;have G:c3.labels=c.labels+2:=E;have k:=g2.trans g3;have J:=k.bd (m:=w+(13+cS x.aZ)) (U.mono (by omega)) a;refine y_ ak hT A (w:=w+(12+cS x.aZ)) (J.mono (by omega)) _ B λo1 av K N ok P T=>?_;have g4:=k.trans (GR.add P);have V:=g4.bd (m:=w+(12+cS x.aZ)) (U.mono (by omega)) a;simp only[sb,O];refine q s T (by show c3.L.map _=_;rw[a];exact g) (w:=w+12) (V.mono (by omega)) λc5 W aw X Y aa ab=>?_;obtain⟨n2,g5,ac⟩:=aa.gr;have f:c5.L=c.L:=ab.trans a;have ad:=g4.trans g5;simp only[Cn,O,b8,dM];refine Y.Dz ak hT _ λax ae af=>?_;have g6:=ad.trans (GR.ay c5 x.ay);have ah:=g6.bd (m:=w+12) (U.mono (by omega)) f;refine y_ ak hT af (w:=w+11) ah _ cX λo2 az aj al qW am an=>?_;have g7:=g6.trans (GR.add am);have ao:=g7.bd (m:=w+11) (U.mono (by omega)) f;refine y9 ak hT an (w:=w+10) ao _ λap aq ar=>?_;have g8:=g7.trans (GR.add (o:=⟨14,-1,-1,-1,-1,-1,0,0,0,0,((c.labels+1+1:Nat):Int),0,0⟩) j);refine hQ _ W ap (((((k1.trans k2).trans y).trans z).trans K).kb.trans (X.trans ((ae.trans aj).trans aq).kb)) ar (GR.gs (g8.mono (by omega) (by simp only[adv,aeh,aeo])) ?_) f;have l2:gC (c.labels+2) c5.labels n2:=by rw[<-G];exact ac
 have:=XL (o1:={o1 with ay:=c3.ay}) (o2:={o2 with ay:=x.ay}) (m1:=⟨14,-1,-1,-1,-1,-1,0,0,0,0,((c.labels+1:Nat):Int),0,c.ay⟩) (m2:=⟨14,-1,-1,-1,-1,-1,0,0,0,0,((c.labels+1+1:Nat):Int),0,x.ay⟩) ⟨rfl,rfl⟩ D ⟨ok,N⟩ l2 ⟨qW,al⟩ ⟨rfl,rfl⟩;simp only[aeh,adv,aeo];exact this
end
end Rb
namespace Rb
open Go
variable{x:aC}
theorem XO{k:Int}:(eN k).2.2.2.1=if k=5\/k=7 then 0 else if k=6 then 2 else 1:=by
 unfold eN;by_cases b:k=5
 ·subst b;rfl
 by_cases a:k=6
 ·subst a;rfl
 by_cases c:k=7
 ·subst c;rfl
 rw[af (show ¬(k=5\/k=7) by omega),af a]
 repeat' split
 all_goals first|rfl|(exfalso;omega)
theorem DA{e0:E}(h:¬(3<=x.kind/\x.kind<=7))(hp:x.place.ax=[])(a:x.bn=[e0]):j2 x=gE x.ay e0++(ey x.aZ++ey x.bw):=by rw[C5,nt,hp,a,gV,dD,dD,af h];simp
theorem zr(h:3<=x.kind/\x.kind<=7)(ht:x.aZ=[])(a:x.bw=[]):j2 x=gw x.ay x.place++dD x.ay x.bn++[⟨x.kind,x.a_,x.ay,x.place⟩]:=by rw[C5,ht,a,ey,ab h];simp
section
variable{C:Ctx}(ak:cP C)(hT:Cl (ai C) S.b7){id:Nat}{vars:List aB}{F:I}{c:LD}{H:Z}{Q:aa}{w:Nat}
include ak hT
theorem XP(G:fS vars)(X:x.ok)(aB:qi C id vars x.aZ)(aM:qi C id vars x.bw):Dw C id vars x:=by
 intro L F c H Q w hv h o r U hQ;obtain⟨v1,v2,v3,v4,v5,v6,aO,aD,v9⟩:=(Lr vars L x).1 hv;obtain⟨f1,f2,f3,f4,f5,f6⟩:=LG v1;rw[XO]at f4;obtain⟨aE,⟨bc,aP⟩,_,_⟩:=aC.dL X;have v:∀e∈x.bn,iV C id vars L e:=λe he=>M_ ak hT G L e (aP e he) ((yW vars L).1 aO e he);have aQ:=aJ.dL aE;have Y:3<=x.kind/\x.kind<=6->∀p∈x.place.ax,∀e∈p.aS,iV C id vars L e:=λhk p hp e he=>M_ ak hT G L e ((aQ.2 p hp).2 e he) (M8 vars (v6 hk) p hp e he);have hK:=Ma x;have y:¬(x.kind=5\/x.kind=7)->x.kind≠6->∃e0,x.bn=[e0]:=λa b=>by rw[af a,af b]at f4;exact List.length_eq_one_iff.1 (by omega)
 have Z:x.kind≠1->e6 L x=L:=λe=>by unfold e6;rw[af e]
 have z:x.kind≠1->∀{m:Nat}{n:List bH},m<=jI x->n=j2 x->EU id vars (ei vars) F H c m n Q:=λhk m n hm hn c' H' k' aR aa=>hQ c' F H' k'.kb aR (aa.gs.mono hm hn) (by rw[aa.L,o,Z hk]) ⟨[],by rw[aa.L,adv],aaU _⟩;have a0:∀{e0:E},x.bn=[e0]->aL acL 8 (av E.cells x.bn) (.int .i64 0)=acK (di E.cells 8 x.bn 0)/\∀H,aj H 8 acI (di E.cells 8 x.bn 0)=acK (.agg e0.cells):=λ{e0} he=>s5 (l:=x.bn) (i:=0) (e:=e0) (by rw[he];rfl);have s1:∀{e0:E},x.bn=[e0]->ed x.bn=eo e0:=λhe=>by rw[he,ed,ed];exact Nat.add_zero _
 have ac:∀{e0:E},x.bn=[e0]->¬(3<=x.kind/\x.kind<=9)->gE x.ay e0=j2 x:=λhe hk=>by rw[DA (by omega) (f3 (by omega)) he,f6 (by omega) (by omega),f5 (by omega),ey];simp
 refine S.Re hT ?_;unfold S.f60;simp only[ag];simp only[nf,aN,fG,hj,my,ng,mz,O,bI,au];apply aG<;>intro hc
 . have k1:x.kind=1:=by simpa using hc
   obtain⟨e0,g⟩:=y (by omega) (by omega);obtain⟨M,a2⟩:=a0 g;have t1:=s1 g;have jl:=kB e0;rw[bL]at hK;simp only[M,a2,O];refine v e0 (by rw[g];exact aeH.2 rfl) h o r (w:=w+16) (U.mono (by omega)) λr1 c1 H1 R h1 g1 ez=>?_;have I:BD c1 (w+16):=g1.bd (m:=w+16) (U.mono (by omega));refine oE ak hT h1 (w:=w+15) I λH2 k2 J=>?_;have g2:=GE.fr c1;have B:=g2.bd (m:=w+15) (I.mono (by omega));refine y8 ak hT J (w:=w+14) B (jK (acR _)) (ez.mono (aa2 _)) λc3 D s k g3=>?_;have aT:=g3.bd (m:=w+14) (B.mono (by omega));have ad:=(g1.trans g2).trans g3;have aU:=g3.r0;have aV:c1.bM<c3.bM:=aU;simp only[b8,dM,O,k.lcs];rw[show bS [.str [],.int .i64 0] [(0,1,.str x.V),(1,1,.int .i64 (c1.bM:Nat))]=acK (.agg (jH (x.V,c1.bM)))from rfl];simp only[O];rw[show cI D acJ 2 1 [.str [],.int .i64 0] [(0,2,.agg (jH (x.V,c1.bM)))]=acK (.aq .full 1 (jH (x.V,c1.bM)),D)from rfl];simp only[aN];have be:=aT.L;refine k.l.app (by decide) rfl rfl (by omega) (by omega) λah W aF hn al K=>?_;obtain⟨xo,xs,a,b,d,f⟩:=k.x;have aH:∀t p q,At D t (.tok p q)->At W t (.tok p q):=λt p q ht=>al t _ (λe=>by obtain⟨cs,hc⟩:=k.l.row e;exact absurd (hc.2.symm.trans ht.2) (by intro e;cases e)) ht;have a4:=al _ _ k.sQ a;obtain⟨n1,n2,n3⟩:=aF.known;have aI:∀j,ch ah=acK j->id<j:=λj am=>by
    rcases K with K|K
    ·exact k.ld j (by rw[<-K];exact am)
    ·rw[K]at am;cases am;exact a.1
   have aW:ch ah≠acK id:=λe=>aeI _ (aI _ e);have aX:KB id H W:=⟨sl ((R.trans k2).trans s).1 hn,λi cs hi an=>al i _ (λe=>by have:=k.ld i e;omega) (((R.trans k2).trans s).2 i cs (aa6 hi) an)⟩
   rw[a4.st1 (by show 7<8;decide) ⟨n1,n2,n3⟩];simp only[O];refine hQ {c3 with L:=c3.L++[(x.V,c1.bM)]} ah _ (aX.trans (KR.set _).kb) ⟨⟨xo,xs,a4.set _,(b.frame aH).frame λ_ _ _ h=>h.bR (h.ne a4 (by intro e;cases e)) _,(d.frame aH).frame λ_ _ _ h=>h.bR (h.ne a4 (by intro e;cases e)) _,f⟩,?_,aI,λp hp=>?_⟩ ((ad.gs.trans (GS.u c3 _)).mono (by omega) (by simp only[adv];exact ac g (by omega))) ?_ ⟨[(x.V,c1.bM)],by show c3.L++_=_;rw[ad.L],hb _⟩
   . rw[adm,aeD,List.flatMap_singleton];exact aF.set aW _
   . rcases acf.1 hp with hp|hp
     ·exact k.lo p hp
     ·rw[aeH.1 hp];exact aV
   . show(c3.L++_).map _=_;rw[aed,ad.L,o];unfold e6;rw[ab k1];rfl
 have n1:x.kind≠1:=by simpa using hc
 apply aG<;>intro hc
 . have k2:x.kind=2:=by simpa using hc
   obtain⟨e0,g⟩:=y (by omega) (by omega);obtain⟨M,a2⟩:=a0 g;have t1:=s1 g;have jl:=kB e0;rw[bL]at hK;simp only[M,a2,O];refine v e0 (by rw[g];exact aeH.2 rfl) h o r (w:=w+16) (U.mono (by omega)) λr1 c1 H1 R h1 g1 ez=>?_;have I:BD c1 (w+16):=g1.bd (m:=w+16) (U.mono (by omega));refine za ak hT h1 I (by rw[g1.L,o];exact v4 k2) λq aY=>?_;refine y8 ak hT h1 (w:=w+15) I aY ez λc3 D s k g3=>?_;exact z n1 (by omega) (by rw[adv];exact ac g (by omega)) _ _ (R.trans s) k (g1.trans g3)
 have n2:x.kind≠2:=by simpa using hc
 apply aG<;>intro hc
 . have s:x.kind=3:=by simpa using hc
   obtain⟨e0,g⟩:=y (by omega) (by omega);obtain⟨M,a2⟩:=a0 g;have t1:=s1 g;rw[dN]at hK;simp only[M,a2,O];refine XG ak hT G aE (by have:=v6 (by omega);rw[s]at this;exact this) (Y (by omega)) (v e0 (by rw[g];exact aeH.2 rfl)) h o r (w:=w) (U.mono (by omega)) λc1 H1 k1 h1 g1=>?_;refine z n1 (by omega) ?_ _ _ k1 h1 g1;have an:x.a_=0:=by rw[s]at v2;exact eq_of_beq v2
   rw[zr (by omega) (f6 (by omega) (by omega)) (f5 (by omega)),g,dD,dD,adv,s,an]
 have n3:x.kind≠3:=by simpa using hc
 have k1 : ∀b:Bool,(b=acI↔x.kind=4\/x.kind=6)->S.wq (ai C) (.ptr id 0) (.ae x.cells) (.int .i64 x.kind) Q [.bool b] H:=by
  intro b aK;unfold S.wq;simp only[ag];simp only[T,au,Kn,fG,hj,yH,mz,O,bI];apply aG<;>intro hc
  . have hk:=aK.1 hc;rw[dN]at hK;refine XH ak hT G X ?_ (v6 (by omega)) (Y (by omega)) v h o r (w:=w) (U.mono (by omega)) λc1 H1 k1 h1 g1=>?_
    . rcases hk with hk|hk
      . rw[bL,bL]at f4;exact .inl ⟨hk,by omega⟩
      . rw[bL,ab hk]at f4;exact .inr ⟨hk,by omega⟩
    ·exact z n1 (by omega) (zr (by omega) (f6 (by omega) (by omega)) (f5 (by omega))).symm _ _ k1 h1 g1
  have n46:¬(x.kind=4\/x.kind=6):=λe=>hc (aK.2 e);apply aG<;>intro hc
  . have N:x.kind=5:=by simpa using hc
    rw[dN]at hK;obtain⟨a1,a3,_⟩:=v5 N;refine XI ak hT G X N a1 a3 (by have:=v6 (by omega);rw[N]at this;exact this) (Y (by omega)) h o r (w:=w) (U.mono (by omega)) λc1 H1 k1 h1 g1=>?_;rw[dN]at f4;exact z n1 (by omega) (by rw[zr (by omega) (f6 (by omega) (by omega)) (f5 (by omega)),show x.bn=[]from aeB (by omega),dD,adv]) _ _ k1 h1 g1
  have bf:x.kind≠5:=by simpa using hc
  apply aG<;>intro hc
  . have a5:x.kind=7:=by simpa using hc
    rw[dN]at hK;refine j3 ak hT h KR.refl λa6 H1 k1 h1 ao l1=>?_;rw[show bS [.str [],.aq .nil 0 []] []=acK (.agg [.str [],.aq .nil 0 []])from rfl];simp only[O,dM];refine Mi ak hT h1 (w:=w+200) (U.mono (by omega)) _ _ ⟨x.kind,x.a_,x.ay,x.place⟩ (by unfold bH.cells;rw[ab a5,r]) rfl rfl λH2 c2 k2 J g2 bg es=>?_;have B:=g2.bd (m:=w+200) (U.mono (by omega));refine⟨trivial,?_⟩;refine(ao.bh k2).st J (k1.trans k2) (by decide) One.int λD ap k b3 _=>?_;refine b3.st k ap (by decide) One.int λW a7 ar a8 _=>?_;rw[(a8.all)];simp only[O];refine jJ ak hT ar (by have:=B.A;omega) ⟨13,-1,-1,-1,-1,-1,0,0,0,x.a_,0,((c.sn+1:Nat):Int),0⟩ λbi N a9=>?_;rw[dN]at f4;exact z n1 (by omega) (by rw[zr (by omega) (f6 (by omega) (by omega)) (f5 (by omega)),show x.bn=[]from aeB (by omega),dD,nt,f3 (by omega),gV];rfl) _ _ (a7.trans N) a9 (g2.trans (GE.add (jn (by decide) (by decide) cX cX cX cX cX (.inr (.inr ⟨by omega,by omega⟩)) (.inr (.inl (by decide)))) (k9 (.inl (by decide)))))
  have n7:x.kind≠7:=by simpa using hc
  apply aG<;>intro hc
  . have bj:x.kind=8:=by simpa using hc
    obtain⟨e0,g⟩:=y (by omega) (by omega);have t1:=s1 g;rw[bL]at hK;rw[Z n1]at hQ;refine XM ak hT g (v e0 (by rw[g];exact aeH.2 rfl)) aB aM aD v9 h o r (w:=w) (U.mono (by omega)) λc1 az H1 aA h1 g1 P=>?_;exact hQ c1 az H1 aA h1 (g1.mono (by omega) (DA (by omega) (f3 (by omega)) g).symm) (by rw[P];exact o) ⟨[],by rw[P,adv],aaU _⟩
  have n8:x.kind≠8:=by simpa using hc
  apply aG<;>intro hc
  . have bk:x.kind=9:=by simpa using hc
    obtain⟨e0,g⟩:=y (by omega) (by omega);have t1:=s1 g;rw[bL]at hK;rw[Z n1]at hQ;refine XN ak hT g (v e0 (by rw[g];exact aeH.2 rfl)) aB aD h o r (w:=w) (U.mono (by omega)) λc1 az H1 aA h1 g1 P=>?_;exact hQ c1 az H1 aA h1 (g1.mono (by omega) (by rw[DA (by omega) (f3 (by omega)) g,f5 (by omega),ey,adv])) (by rw[P];exact o) ⟨[],by rw[P,adv],aaU _⟩
  have n9:x.kind≠9:=by simpa using hc
  apply aG<;>intro hc
  . have bl:x.kind=10:=by simpa using hc
    obtain⟨e0,g⟩:=y (by omega) (by omega);obtain⟨M,a2⟩:=a0 g;have t1:=s1 g;have jl:=kB e0;rw[bL]at hK;refine j3 ak hT h KR.refl λa6 H1 k1 h1 ao l1=>?_;simp only[M,a2,O];refine v e0 (by rw[g];exact aeH.2 rfl) h1 o r (w:=w+16) (U.mono (by omega)) λr1 c2 H2 k2 J g2 ba=>?_;have B:BD c2 (w+16):=g2.bd (m:=w+16) (U.mono (by omega));simp only[dM,O];refine(ao.bh k2).st J (k1.trans k2) (by decide) One.int λD ap k b3 _=>?_;rw[(b3.all)];simp only[O];refine jJ ak hT k (by have:=B.A;omega) ⟨18,-1,-1,r1,-1,-1,0,0,0,0,0,0,0⟩ λW bb ar=>?_;exact z n1 (by omega) (by rw[adv];exact ac g (by omega)) _ _ (ap.trans bb) ar (g2.trans (GE.add (jn (by decide) (by decide) cX cX ba cX cX (.inr (.inl (by decide))) (.inr (.inl (by decide)))) (k9 (.inr (by decide)))))
  . have n10:x.kind≠10:=by simpa using hc
    omega
 simp only[aw];apply aG<;>intro hc
 ·exact k1 _ ⟨λ_=> .inl (by simpa using hc),λ_=>hc⟩
 . refine k1 _ ⟨λe=> .inr (by simpa using e),λe=>?_⟩;have:x.kind≠4:=by simpa using hc
   simp;omega
theorem XQ(c:fS vars):∀x:aC,x.ok->Dw C id vars x:=by refine aC.ind λx h1 d b=>?_;obtain⟨_,_,⟨l1,o1⟩,l2,o2⟩:=aC.dL b;exact XP ak hT c b (Dy ak hT l1 λy a=>h1 y a (o1 y a)) (Dy ak hT l2 λy a=>d y a (o2 y a))
end
end Rb
namespace Rb
open Go
def qj:LD:=⟨[],0,0,0,[],0,[]⟩
def bH.pl(a:bH):aJ:=if a.kind=7 then .mk [] []else a.place
def bH.wk(a:bH):List I:= .int .i64 a.kind :: .int .i64 a.a_ :: .int .i64 a.ay::a.pl.cells
theorem bH.DB(a:bH):a.wk.length=5:=by simp[bH.wk,aJ.len]
theorem bH.XR(a:bH):a.wk.all I.scalar=acI:=by have:=aJ.scalar a.pl;simp only[bH.wk,List.all_cons,this,aea];rfl
theorem bH.ec(a:bH):I.ec a.cells=a.wk:=by
 unfold bH.cells bH.wk bH.pl;simp only[I.ec,I.cU];split
 ·rw[aJ.aX];rfl
 ·rw[aJ.p4]
theorem Nc:∀l:List bH,I.ec (l.flatMap bH.cells)=l.flatMap bH.wk
 |[]=>rfl
 |x::r=>by rw[ac0,ac0,ot,Nc r,bH.ec]
theorem Nd:∀l:List bH,I.bV (l.flatMap bH.wk)=acI
 |[]=>rfl
 | x::r=>by rw[ac0];show I.bV (.int .i64 x.kind :: .int .i64 x.a_ :: .int .i64 x.ay::(x.pl.cells++r.flatMap bH.wk))=acI;rw[aJ.aX];have h:=aJ.bu x.pl;rw[aJ.aX]at h;simp only[I.bV,aar]at h;simp only[abZ,aeh,I.bV,aar];exact⟨rfl,rfl,rfl,h.1,h.2.1,Nd r⟩
def cq(p:dy)(n:Int):List bH:=if(eO bx p).2≠0\/n<0\/(p.cO.length:Int)<=n then []else ey (p.cO.getD n.toNat [])
section
variable{C:Ctx}(ak:cP C)(hT:Cl (ai C) S.b7)(iq:∀x,bD (ai C) 93 [.str x] (.bool (bx x)))
include ak hT iq
theorem XS{p:dy}(hp:p.ok)(hz:∀t∈p.cO,cS t<=100000000000)(n:Int):bD (ai C) 11 [.agg p.cells,.int .i64 n] (av bH.wk (cq p n)):=by
 refine bD.of ak (by simp[I.bV,I.bu,dy.bu]) (by show I.bu (.aq .dead _ ((cq p n).flatMap bH.wk))=acI;simp[I.bu,Nd,Tok.free]) λQ hQ=>?_
 refine ai.cU ?_;have i:=hp;obtain⟨⟨aa,hv⟩,ac,s⟩:=hp;have hm:=nh;refine S.QA hT ?_;unfold S.f11;simp only[ag];have u:b5 Z.mt acJ 2 (.agg p.cells)=acK (.ae p.cells,Z.mt):=by unfold b5;rw[ab ⟨rfl,rfl⟩];rfl
 have y:∀H,aj H 1 acJ (.ae (p.cells.drop 0))=acK (av aB.cells p.vars):=λ_=>rfl;have m:∀H,aj H 1 acJ (.ae (p.cells.drop 1))=acK (av iK p.cO):=λ_=>rfl;have A:∀H,aj H 2 acI (.ae p.cells)=acK (.agg p.cells):=λ_=>rfl;simp only[u,aN,bQ,bc,nw,O,A];refine Us ak hT iq p i _ _ ?_;unfold yM;rw[cn _ _ _ 2 rfl rfl rfl];have B:=At.new Z.mt (.row [.int .i64 (eO bx p).1,.int .i64 (eO bx p).2]);simp only[O,dM];generalize Z.mt.push (.row [.int .i64 (eO bx p).1,.int .i64 (eO bx p).2])=a at *;have l1:aj a 1 acJ (.ptr Z.mt.n 1)=acK (.int .i64 (eO bx p).2):=by rw[B.load];rfl
 simp only[l1,O,cC];have k1:∀k t,n=(k:Nat)->p.cO[k]?=acK t->(eO bx p).2=0->S.AZ (ai C) (.int .i64 n) (.ae p.cells) (λv H'=>Q v.cU H') [] a:=by
  rintro k t rfl ht f;obtain⟨d,D⟩:=Mp i f;obtain⟨hlen,E⟩:=s t (adq ht);have F:=(aal.1 ht).1;have ad:=hz t (adq ht);have g:cq p (k:Nat)=ey t:=by unfold cq;rw[bL,aeq,abD,ht];rfl
  rw[g]at hQ;unfold S.AZ;simp only[ag];simp only[nw,y,m,O];have ah:=d.l;refine Cx ak hT (by omega) hv _ _ ?_;have G:=yS d.z d.e;unfold kx;rw[G,af (by show ¬(0:Int)≠0;decide)];simp only[bA,ac5,ac6,O];rw[show bS [.aq .nil 0 [],.aq .nil 0 [],.aq .nil 0 [],.int .i64 0,.int .i64 0,.aq .nil 0 [],.int .i64 0,.aq .nil 0 []] [(0,1,av aB.cells p.vars),(1,1,.aq .dead p.vars.length (en p.vars (ck 0 p.vars)))]=acK (.agg (kA p.vars (ei p.vars) (.aq .nil 0 []) (.aq .nil 0 []) (.aq .nil 0 []) qj))from rfl];simp only[O];have J:b5 a acI 8 (.agg (kA p.vars (ei p.vars) (.aq .nil 0 []) (.aq .nil 0 []) (.aq .nil 0 []) qj))=acK (.ptr a.n 0,a.push (.row (kA p.vars (ei p.vars) (.aq .nil 0 []) (.aq .nil 0 []) (.aq .nil 0 []) qj))):=rfl;rw[J];simp only[aN];have K:=At.new a (.row (kA p.vars (ei p.vars) (.aq .nil 0 []) (.aq .nil 0 []) (.aq .nil 0 []) qj));generalize a.push (.row (kA p.vars (ei p.vars) (.aq .nil 0 []) (.aq .nil 0 []) (.aq .nil 0 []) qj))=h at *;have L:bW h a.n p.vars (ei p.vars) (.aq .nil 0 []) qj:=⟨⟨_,_,K,cc.nil _ _ _,cc.nil _ _ _,λt l c1 e=>(by cases e)⟩,dH.nil _ _,λj M=>(by cases M),λq N=>(by cases N)⟩
  rw[b6 F];simp only[O];have P:aj h 1 acJ (di iK 1 p.cO k)=acK (av aC.cells t):=mZ (c:=λl=>av aC.cells l) h ht;rw[P];simp only[O];refine Dy ak hT (id:=a.n) (vars:=p.vars) (l:=t) (by omega) (λx R=>XQ ak hT d x (E x R)) (w:=0) (D t (adq ht)) L rfl ⟨by show 0+_<=_;omega,by show 0+_<=_;omega,by show 0+_<=_;omega,by show 0+_<=_;omega,by show 0+_<=_;omega⟩ λc' al V kb W gs am=>?_;obtain⟨xo,xs,a6,an,hs,_⟩:=W.x;have X:aj V 1 acJ (.ptr a.n 5)=acK xs:=by rw[a6.load];rfl
  simp only[b8,dM,O,X];obtain⟨tk,rfl,_,_⟩:=hs;have e1:c'.sn=(ey t).length:=by rw[gs.s1];show 0+_=_;omega
  have Y:c'.sc=(ey t).flatMap bH.cells:=by rw[gs.sc];rfl
  simp only[I.cU,e1,Y,Nc];exact hQ _
 have o:(eO bx p).2≠0\/n<0\/(p.cO.length:Int)<=n->S.q6 (ai C) (.int .i64 n) (.ae p.cells) (λv H'=>Q v.cU H') [.bool acI] a:=by
  intro hc;have g:cq p n=[]:=by unfold cq;rw[ab hc]
  rw[g]at hQ;unfold S.q6;simp only[T,au,bc];exact hQ _
 have r:∀b:Bool,(b=acI↔(eO bx p).2≠0\/n<0)->S.uW (ai C) (.int .i64 n) (.ae p.cells) (λv H'=>Q v.cU H') [.bool b] a:=by
  intro b U;unfold S.uW;simp only[ag];simp only[T,bF,nw,m,O,bC,eD,aw];apply dC<;>intro e
  . have hn:¬((eO bx p).2≠0\/n<0):=λq=>by rw[U.2 q]at e;cases e
    by_cases hle:(p.cO.length:Int)<=n
    . rw[show decide (n>=(p.cO.length:Int))=acI by simpa using hle];exact o (.inr (.inr hle))
    . rw[show decide (n>=(p.cO.length:Int))=acJ by simpa using hle];obtain⟨k,rfl⟩:∃k:Nat,n=k:=⟨n.toNat,by omega⟩
      unfold S.q6;simp only[T,au,abW,b4,aw];exact k1 k _ rfl (abb (show k<p.cO.length by omega)) (by omega)
  ·exact o ((U.1 e).imp (λe=>e) .inl)
 simp only[bF,aY,O,aw];apply dC<;>intro e
 . have f:(eO bx p).2=0:=by simpa using e
   exact r _ ⟨λq=> .inr (by simpa using q),λq=>by simpa using q.resolve_left (λq=>q f)⟩
 ·exact r acI ⟨λ_=> .inl (by simpa using e),λ_=>rfl⟩
end
section
variable(Φ:ad)(a0 M a2 a3 a8 a9 du db dj dh dq a17 dv a72:I)(H:Z)(R:I->I->I->I->I->I->I->I->I->I->I->I->I->I->Z->Prop)(Rr:Z->Prop)
theorem XT:dk Φ MU (ee a0 M a2 a3 a8 a9 du db dj dh dq a17 dv a72 .bot) H (KA R Rr)=bs (b5 H acJ 2 a0) λx H'=>R a0 M a2 x a8 a9 du db dj dh dq a17 dv a72 H':=by kernel_rfl
theorem XU:dk Φ MV (ee a0 M a2 a3 a8 a9 du db dj dh dq a17 dv a72 .bot) H (KA R Rr)=(Do (aj H 2 acI a3) λx=>Φ 11 [x,M] H λv H'=>R a0 M a2 a3 v a9 du db dj dh dq a17 dv a72 H'):=by kernel_rfl
theorem XV:dk Φ MW (ee a0 M a2 a3 a8 a9 du db dj dh dq a17 dv a72 .bot) H (KA R Rr)=(Do (cH .sub a2 (.int .i64 1)) λx=>Do (aL acL 5 a8 x) λy=>Do (aj H 5 acI y) λz=>bs (acK (bQ H acI [.int .i64 0,.int .i64 0,.int .i64 0,.str [],.aq .nil 0 []])) λu H'=>Do (cf H' 5 u z) λH2=>R a0 M a2 a3 a8 u du db dj dh dq a17 dv a72 H2):=by kernel_rfl
theorem XW:dk Φ MX (ee a0 M a2 a3 a8 a9 du db dj dh dq a17 dv a72 .bot) H (KA R Rr)=R a0 M a2 a3 a8 a9 (.int .i64 1) db dj dh dq a17 dv a72 H:=by kernel_rfl
theorem XX:dk Φ MY (ee a0 M a2 a3 a8 a9 du db dj dh dq a17 dv a72 .bot) H (KA R Rr)=(Do (aH 0 a3) λx=>Do (aj H 1 acJ x) λy=>Do (aH 3 a9) λz=>Do (aj H 2 acI z) λu=>Φ 13 [y,u] H λv H'=>R a0 M a2 a3 a8 a9 du v dj dh dq a17 dv a72 H'):=by kernel_rfl
theorem XY:dk Φ MZ (ee a0 M a2 a3 a8 a9 du db dj dh dq a17 dv a72 .bot) H (KA R Rr)=(Do (aH 0 a3) λx=>Do (aj H 1 acJ x) λy=>Φ 9 [y] H λv H'=>Do (bA 0 v) λz=>Do (bA 1 v) λe=>bs (acK (bQ H' acI [.aq .nil 0 []])) λu H2=>Do (cf H2 1 u z) λa=>R a0 M a2 a3 a8 a9 du db u e dq a17 dv a72 a):=by kernel_rfl
theorem Nf:dk Φ M0 (ee a0 M a2 a3 a8 a9 du db dj dh dq a17 dv a72 .bot) H (KA R Rr)=(Do (cH .neq dh (.int .i64 0)) λx=>W x acI ((I.aq .nil 0 []=I.aq .nil 0 [])/\(I.bool acJ = .bool acJ)/\Rr H) (R a0 M a2 a3 a8 a9 du db dj dh dq a17 dv a72 H)):=by kernel_rfl
theorem XZ:dk Φ M1 (ee a0 M a2 a3 a8 a9 du db dj dh dq a17 dv a72 .bot) H (KA R Rr)=(bs (acK (bQ H acI [.aq .nil 0 []])) λu H2=>R a0 M a2 a3 a8 a9 du db dj dh u a17 dv a72 H2):=by kernel_rfl
theorem X0:dk Φ M2 (ee a0 M a2 a3 a8 a9 du db dj dh dq a17 dv a72 .bot) H (KA R Rr)=(Φ 14 [db] H λv H'=>R a0 M a2 a3 a8 a9 du db dj dh dq a17 dv v H'):=by kernel_rfl
end
section
variable(Φ:ad)(a0 M a2 a3 a8 a9 du db dj dh dq a17 dv a72:I)(R:I->I->I->I->I->I->I->I->I->I->I->I->I->I->Z->Prop)(Rr:Z->Prop)
def s6:List I->Z->Prop:=λj H=>
 W (N j 0) acI ((I.aq .nil 0 []=I.aq .nil 0 [])/\(I.bool acJ = .bool acJ)/\Rr H) (R a0 M a2 a3 a8 a9 du db dj dh dq a17 dv a72 H)
def s7:List I->Z->Prop:=λj H=>
 aF (N j 0) acJ (
 Do (cH .sub a2 (.int .i64 1)) λx=>
 Do (aL acL 5 a8 x) λy=>
 Do (aH 0 y) λz=>
 Do (aj H 1 acJ z) λk=>
Φ 12 [k] H λw H'=>
 Do (cu .not w) λq=>
 G (s6 a0 M a2 a3 a8 a9 du db dj dh dq a17 dv a72 R Rr) [q] H') (
 G (s6 a0 M a2 a3 a8 a9 du db dj dh dq a17 dv a72 R Rr) [.bool acI] H) (
 False)
def Ng(H:Z):Prop:=
 Do (cH .lss a2 (.int .i64 1)) λx=>
 aF x acJ (
 Do (ea acJ a8) λy=>
 Do (cH .gtr a2 y) λz=>
 G (s7 Φ a0 M a2 a3 a8 a9 du db dj dh dq a17 dv a72 R Rr) [z] H) (
 G (s7 Φ a0 M a2 a3 a8 a9 du db dj dh dq a17 dv a72 R Rr) [.bool acI] H) (
 False)
theorem X1(H:Z):dk Φ Ds (ee a0 M a2 a3 a8 a9 du db dj dh dq a17 dv a72 .bot) H (KA R Rr)=Ng Φ a0 M a2 a3 a8 a9 du db dj dh dq a17 dv a72 R Rr H:=by kernel_rfl
def zs(x:I):(List I×Z)->((List I×Z)->Prop)->Prop:=λs L=>
 Do (cH .lss (N s.1 3) x) λc=>
 W c acI (
 Do (aL acL 1 db (N s.1 3)) λy=>
 Do (aj s.2 1 acJ y) λn=>
 Do (cH .mul (N s.1 2) n) λm=>
 Do (cH .gtr m (.int .i64 4096)) λg=>
 W g acI ((I.aq .nil 0 []=I.aq .nil 0 [])/\(I.bool acJ = .bool acJ)/\Rr s.2) (
 Do (cH .add (N s.1 3) (.int .i64 1)) λi=>
 L ([N s.1 0,N s.1 1,m,i],s.2))) (
 R a0 M a2 a3 a8 a9 (N s.1 2) db dj dh dq a17 dv a72 s.2)
theorem X2(H:Z):dk Φ Dt (ee a0 M a2 a3 a8 a9 du db dj dh dq a17 dv a72 .bot) H (KA R Rr)=(Do (ea acJ db) λx=>ar (zs a0 M a2 a3 a8 a9 db dj dh dq a17 dv a72 R Rr x) ([.bot,.bot,du,.int .i64 0],H)):=by kernel_rfl
end
section
variable(Φ:ad)(a0 M a2 a3 a8 a9 du db dj dh dq a17 dv a72 M6:I)(H:Z)(R:I->I->I->I->I->I->I->I->I->I->I->I->I->I->Z->Prop)(Rr:Z->Prop)
theorem X3:dk Φ Du (ee a0 M a2 a3 a8 a9 du db dj dh dq a17 dv a72 .bot) H (KA R Rr)=(Do (aH 0 a3) λx=>Do (aj H 1 acJ x) λy=>Do (aH 3 a9) λz=>Do (aj H 2 acI z) λu=>Φ 15 [y,u,a17] H λv H'=>Do (bA 0 v) λe0=>Do (bA 1 v) λe1=>bs (acK (bQ H' acI [.int .i64 0,.int .i64 0,.int .i64 0,.bool acJ,.int .i64 0,.int .i64 0])) λw H2=>Do (cf H2 6 w e0) λa=>R a0 M a2 a3 a8 a9 du db dj dh dq a17 w a72 a):=by kernel_rfl
theorem X4:dk Φ Dv (ee a0 M a2 a3 a8 a9 du db dj dh dq a17 dv a72 .bot) H (KA R Rr)=(Do (aj H 1 acJ dq) λa=>Do (aj H 1 acJ dj) λb=>Do (aH 0 dv) λc=>Do (aj H 2 acI c) λd=>Φ 16 [b,d] H λe H1=>(aj H1 1 acJ dq=acK a)/\(bs (cI H1 acJ 2 1 [.int .i64 0,.int .i64 0] [(0,2,e)]) λf H2=>bs (cZ H2 acJ 2 16 a f) λg h=>Do (cf h 1 dq g) λi=>R a0 M a2 a3 a8 a9 du db dj dh dq a17 dv a72 i)):=by kernel_rfl
end
def iW(g:bj):Int×Int:=(g.at_,g.len)
def gG(vars:List aB)(a:aJ)(ba:List (Int×Int))(x:List Int):Int×Int:=mJ ba (iW (eu vars a x))
structure mL(vars:List aB)(m:bH)(ba:List (Int×Int))(j9 fZ gj:Nat)(pre:List (List Int))(H:Z):Prop where
 h9:At H j9 (.row m.wk)
 kz:At H fZ (.row [av aD ba])
 jl:∃x,At H gj (.row [x])/\cc 0 H 2 x pre.length ((pre.map (gG vars m.pl ba)).flatMap aD)
 n9:j9≠gj
 n14:fZ≠gj
section
variable{C:Ctx}(ak:cP C)(hT:Cl (ai C) S.b7){p:dy}{m:bH}{ba:List (Int×Int)}{j9 fZ gj:Nat}
include ak hT
theorem X5(hl:p.vars.length<=1000000)(hv:∀v∈p.vars,v.ok)(j:m.pl.ok){pre:List (List Int)}{x:List Int}{H:Z}(h:mL p.vars m ba j9 fZ gj pre H){a0 M d a8 du db dh dv f:I}{R:I->I->I->I->I->I->I->I->I->I->I->I->I->I->Z->Prop}{Rr:Z->Prop}
  (k:∀i H',mL p.vars m ba j9 fZ gj pre H'->At H' i (.row (eu p.vars m.pl x).cells)->i≠gj->R a0 M d (.ae p.cells) a8 (.ptr j9 0) du db (.ptr fZ 0) dh (.ptr gj 0) (.aq .dead x.length (x.map ej)) (.ptr i 0) f H') :
  dk (ai C) Du (ee a0 M d (.ae p.cells) a8 (.ptr j9 0) du db (.ptr fZ 0) dh (.ptr gj 0) (.aq .dead x.length (x.map ej)) dv f .bot) H (KA R Rr):=by
 rw[X3];have l0:aj H 1 acJ (.ae p.cells)=acK (av aB.cells p.vars):=rfl;have l3:aj H 2 acI (.ptr j9 3)=acK (.agg m.pl.cells):=by rw[h.h9.load];unfold bH.wk bO;rw[ab (by simp[aJ.len]),ab rfl];show acK (I.agg (aes 2 m.pl.cells))=_;rw[adp (by rw[aJ.len];exact hb _)]
 rw[show aH 0 (.ae p.cells)=acK (.ae p.cells)from rfl];simp only[O,l0,jm,l3];refine Ve ak hT hl hv j (idx:=x) ⟨.dead,rfl⟩ λe H' E=>?_;simp only[bA,ac5,ac6,O,aN,bQ,bc];rw[cn _ _ _ 6 rfl rfl rfl];simp only[O];obtain⟨y,g,l⟩:=h.jl;have c:=E.trans (Z.Ext.push H' (.row (eu p.vars m.pl x).cells));refine k H'.n _ ⟨h.h9.ext c,h.kz.ext c,⟨y,g.ext c,l.frame λt a b q=>q.ext c⟩,h.n9,h.n14⟩ (At.new H' _) λe=>?_;have:=(g.ext E).1;omega
theorem X6(o:ba.length<=9223372036854775806){pre:List (List Int)}(A:pre.length<=100000){x:List Int}{i:Nat}{H:Z}(h:mL p.vars m ba j9 fZ gj pre H)(hi:At H i (.row (eu p.vars m.pl x).cells))(B:i≠gj){a0 M b c a8 du db dh d f:I}{R:I->I->I->I->I->I->I->I->I->I->I->I->I->I->Z->Prop}{Rr:Z->Prop}
  (r:∀H',mL p.vars m ba j9 fZ gj (pre++[x]) H'->R a0 M b c a8 (.ptr j9 0) du db (.ptr fZ 0) dh (.ptr gj 0) d (.ptr i 0) f H') :
  dk (ai C) Dv (ee a0 M b c a8 (.ptr j9 0) du db (.ptr fZ 0) dh (.ptr gj 0) d (.ptr i 0) f .bot) H (KA R Rr):=by
 rw[X4];obtain⟨y,g,s⟩:=h.jl;have j:aj H 1 acJ (.ptr gj 0)=acK y:=by rw[g.load];rfl
 have t:aj H 1 acJ (.ptr fZ 0)=acK (av aD ba):=by rw[h.kz.load];rfl
 have li:aj H 2 acI (.ptr i 0)=acK (.agg (aD (iW (eu p.vars m.pl x)))):=by rw[hi.load];rfl
 simp only[j,t,jm,li,O];refine W7 ak hT ba o (iW (eu p.vars m.pl x)) _ _ ⟨j,?_⟩;rw[show cI H acJ 2 1 [.int .i64 0,.int .i64 0] [(0,2,.agg (aD (mJ ba (iW (eu p.vars m.pl x)))))]=acK (.aq .full 1 (aD (mJ ba (iW (eu p.vars m.pl x)))),H)from rfl];simp only[aN];refine s.app (aaU _) (m:=1) (news:=aD (mJ ba (iW (eu p.vars m.pl x)))) rfl rfl rfl (by decide) (by omega) (by omega) λl u n v=>?_;have k:∀{q:Nat}{cs:List I},At H q (.row cs)->At u q (.row cs):=λw=>v.2 _ _ w (.inr λ_ _=>by intro e;cases e);have a:=k g;obtain⟨tk,z,_⟩:=id n;rw[a.st1 (by show 0<1;decide) (by rw[z];exact⟨rfl,rfl,rfl⟩)];simp only[O];refine r _ ⟨(k h.h9).bR h.n9 _,(k h.kz).bR h.n14 _,⟨l,a.set _,?_⟩,h.n9,h.n14⟩;have:=n.ox a (.row ([y].set 0 l));rw[adm,aed,aeD];exact this
end
theorem iB.piece{C:Ctx}(hF:gI C){w0:World}{G0:aW}{H0:Z}{E E':Env}{H:Z}{G:aW}{a:Act}{w:World}(h:iB C w0 G0 H0 E H G a w)(e:a.tmps.size=91){f:dT}{c:Code}(hc:cz C c f=acI){P:Z->Prop}{Rr:Z->Prop}{Q:Exit->Act->World->Prop}
  (hk:dk (ai C) f E H (KA (λg j k l m n o p q t u y z A H'=>ee g j k l m n o p q t u y z A .bot=E'/\P H') Rr))
  (hQ:∀H' G' a' w',iB C w0 G0 H0 E' H' G' a' w'->a'.tmps.size=91->P H'->Q .normal a' w')
  (B:∀aP H' G' a' w',iB C w0 G0 H0 aP H' G' a' w'->a'.tmps.size=91->aP.getD 6 .bot = .aq .nil 0 []->aP.getD 7 .bot = .bool acJ->Rr H'->Q .ret a' w'):c.wp C.P Q a w:=by
 refine h.run hF hc hk λD ex aP H' G' a' w' he b hs hz=>?_;cases D with
 |exit i=>exact b.elim
 | ret=>cases ex<;>simp only[fW]at he;exact B aP H' G' a' w' hs (hz.trans e) b.1 b.2.1 b.2.2
 | normal=>cases ex<;>simp only[fW]at he;obtain⟨h1,F⟩:=b;have hv:=M7 hs.v (hz.trans e);rw[h1]at hv;exact hQ H' G' a' w' ⟨hs.x,hs.r,hv,hs.d,hs.s⟩ (hz.trans e) F
def dd(p:dy)(n k:Int):List (Int×Int)×Bool:=
 if k<1\/k>((cq p n).length:Int)then([],acJ)else match (cq p n)[(k-1).toNat]? with
 |none=>([],acJ)
 | some m=>if eX m.kind=acJ then([],acJ)else match gN (cp p.vars m.pl.var [] m.pl.ax) 1 with
  |none=>([],acJ)
  | some _=>match fI p.vars (ck 0 p.vars)with
   |none=>([],acJ)
   |some ba=>((cB (cp p.vars m.pl.var [] m.pl.ax)).map (gG p.vars m.pl ba),acI)
theorem X7{Φ:ad}{bb:List Int}(hl:bb.length<=9223372036854775806){a0 M a b a8 d dj dh dq f dv g:I}{R:I->I->I->I->I->I->I->I->I->I->I->I->I->I->Z->Prop}{Rr:Z->Prop}{H:Z}
  (k:gN bb 1=acL->Rr H) (l:∀v,gN bb 1=acK v->R a0 M a b a8 d (.int .i64 v) (av cG bb) dj dh dq f dv g H) :
  dk Φ Dt (ee a0 M a b a8 d (.int .i64 1) (av cG bb) dj dh dq f dv g .bot) H (KA R Rr):=by
 rw[X2];simp only[bC,O];have main:∀(r:List Int)(i:Nat)(v:Int),bb.drop i=r->gN r v=gN bb 1->ar (zs a0 M a b a8 d (av cG bb) dj dh dq f dv g R Rr (.int .i64 bb.length)) ([.bot,.bot,.int .i64 v,.int .i64 i],H):=by
  intro r;induction r with
  | nil=>intro i v h he;have hle:=c7 h;refine ar.step ?_;simp only[zs,T,bE,aY,O,au];rw[cQ];exact l v (by rw[<-he,gN])
  | cons x r m=>
   intro i v h he;obtain⟨o,p,q⟩:=c4 h;have s:∀H,aj H 1 acJ (di cG 1 bb i)=acK (.int .i64 x):=λH=>mZ (c:=I.int .i64) H p;refine ar.step ?_;simp only[zs,T,bE,aY,O,au];rw[cM,b6 o];simp only[O,s,gk,cV,bz];rw[gN]at he;apply aG<;>intro e
   . have j:B (v*x)>4096:=by simpa using e
     rw[ab j]at he;exact⟨trivial,trivial,k he.symm⟩
   . have j:¬B (v*x)>4096:=by simpa using e
     rw[af j]at he;rw[wrap_i64 (n:=(i:Int)+1) (by omega) (by omega),cN];exact m (i+1) _ q he
 exact main bb 0 1 rfl rfl
variable{l:List bH}{k:Nat}
theorem Nh(h:k<l.length):aL acL 5 (av bH.wk l) (.int .i64 k)=acK (di bH.wk 5 l k):=b6 h
theorem X8{m:bH}(H:Z)(h:l[k]?=acK m):∃z,aH 0 (di bH.wk 5 l k)=acK z/\aj H 1 acJ z=acK (.int .i64 m.kind):=by
 have b:=(aal.1 h).1;refine⟨di bH.wk 5 l k,?_,?_⟩
 ·simp only[di,aH,adf]
 . have a:=c8 (cells:=bH.wk) bH.DB (by decide) H h;simp only[di,aj]at a ⊢;unfold bO at a ⊢;split at a
   . rename_i c;simp only[bc,aaC.injEq,I.agg.injEq,adf]at a;rw[dN,cw];have:(aes 5 (List.drop (k*5) (l.flatMap bH.wk)))[0]?=acK (.int .i64 m.kind):=by rw[a];rfl
     rw[List.getElem?_take,jD]at this;exact this
   ·cases a
section
variable{C:Ctx}(hF:gI C)(ak:cP C)(hT:Cl (ai C) S.b7)(iq:∀x,bD (ai C) 93 [.str x] (.bool (bx x)))(hS:nu (ai C))
include ak hT iq
theorem X9{p:dy}{n k:Int}(r : -9223372036854775808<=k/\k<=9223372036854775807){a0 a b du db dj dh dq c dv d:I}{R:I->I->I->I->I->I->I->I->I->I->I->I->I->I->Z->Prop}{Rr:Z->Prop}{H:Z}
  (i:dd p n k=([],acJ)->Rr H) (j:∀m,1<=k->(cq p n)[(k-1).toNat]?=acK m->eX m.kind=acI->R a0 (.int .i64 n) (.int .i64 k) a (av bH.wk (cq p n)) b du db dj dh dq c dv d H) :
  dk (ai C) Ds (ee a0 (.int .i64 n) (.int .i64 k) a (av bH.wk (cq p n)) b du db dj dh dq c dv d .bot) H (KA R Rr):=by
 rw[X1];unfold Ng;have f:dd p n k=([],acJ)->s6 a0 (.int .i64 n) (.int .i64 k) a (av bH.wk (cq p n)) b du db dj dh dq c dv d R Rr [.bool acI] H:=λh=>by unfold s6;simp only[T,au,bc];exact⟨trivial,trivial,i h⟩
 have g:dd p n k=([],acJ)->s7 (ai C) a0 (.int .i64 n) (.int .i64 k) a (av bH.wk (cq p n)) b du db dj dh dq c dv d R Rr [.bool acI] H:=λh=>by unfold s7;simp only[T,bF,adF,b4,aw];exact f h
 simp only[aY,cV,bC,O,bF,aw];by_cases h1:k<1
 . rw[af (by simpa using h1)];exact g (by unfold dd;rw[ab (.inl h1)])
 . rw [ab (by simpa using h1)];by_cases e:k>((cq p n).length:Int)
   . rw[show decide (k>((cq p n).length:Int))=acI by simpa using e];exact g (by unfold dd;rw[ab (.inr e)])
   . rw [show decide (k>((cq p n).length:Int))=acJ by simpa using e];unfold s7;simp only[T,bF,bc,eH,O];have hi:(k-1).toNat<(cq p n).length:=by omega
     obtain⟨m,hm⟩:∃m,(cq p n)[(k-1).toNat]?=acK m:=⟨_,abb hi⟩
     rw[bo,show k-1=(((k-1).toNat:Nat):Int) by omega,Nh hi];obtain⟨z,l,o⟩:=X8 H hm;simp only[O,l,o];refine W6 ak hT m.kind _ _ ?_;simp only[dg,O,aw];have q:dd p n k=if eX m.kind=acJ then([],acJ)else match gN (cp p.vars m.pl.var [] m.pl.ax) 1 with
       |none=>([],acJ)
       | some _=>match fI p.vars (ck 0 p.vars)with
        |none=>([],acJ)
        |some ba=>((cB (cp p.vars m.pl.var [] m.pl.ax)).map (gG p.vars m.pl ba),acI):=by
      unfold dd;first|(rw[bL,hm];done)|(rw[bL,hm];rfl)
     cases hw:eX m.kind
     ·exact f (by rw[q,ab hw])
     . unfold s6;simp only[T,au,Bool.not_true,abW,b4];exact j m (by omega) hm hw
end
end Rb
namespace Rb
open Go
theorem DC{p:dy}{n k:Int}{m:bH}(c:1<=k)(a:(cq p n)[(k-1).toNat]?=acK m)(b:eX m.kind=acI):dd p n k=match gN (cp p.vars m.pl.var [] m.pl.ax) 1 with
  |none=>([],acJ)
  | some _=>match fI p.vars (ck 0 p.vars)with
   |none=>([],acJ)
   |some ba=>((cB (cp p.vars m.pl.var [] m.pl.ax)).map (gG p.vars m.pl ba),acI):=by
 have hi:=(aal.1 a).1;unfold dd;rw[bL,a];show(if eX m.kind=acJ then _ else _)=_;first|(rw[af (by rw[b];decide)];done)|(rw[af (by rw[b];decide)];rfl)
section
variable{C:Ctx}(hF:gI C)(ak:cP C)(hT:Cl (ai C) S.b7)(iq:∀x,bD (ai C) 93 [.str x] (.bool (bx x)))(hS:nu (ai C))
include hF ak hT iq hS
theorem X_{p:dy}(hp:p.ok)(hz:∀t∈p.cO,cS t<=100000000000){n k:Int}(L : -9223372036854775808<=k/\k<=9223372036854775807)
  (N:∀m∈cq p n,eX m.kind=acI->m.pl.ok/\m.pl.ax.length<=1000000) (R:cq p n≠[]->fS p.vars)
  {s c1 c2 c3 u c5 w x y z A X Y:Code} (T:cz C s MU=acI) (h1:cz C c1 MV=acI) (U:cz C c2 Ds=acI) (V:cz C c3 MW=acI) (W:cz C u MX=acI) (aa:cz C c5 MY=acI) (ac:cz C w Dt=acI) (ad:cz C x MZ=acI) (B:cz C y M0=acI) (h9:cz C z M1=acI) (af:cz C A M2=acI)
  {w0:World} {G0:aW} {a:Act} (hs:iB C w0 G0 Z.mt (ee (.agg p.cells) (.int .i64 n) (.int .i64 k) .bot .bot .bot .bot .bot .bot .bot .bot .bot .bot .bot .bot) Z.mt G0 a w0) (ah:a.tmps.size=91) {Q:Exit->Act->World->Prop}
  (i:∀aP H' G' a' w',iB C w0 G0 Z.mt aP H' G' a' w'->a'.tmps.size=91->aP.getD 6 .bot = .aq .nil 0 []->aP.getD 7 .bot = .bool acJ->dd p n k=([],acJ)->Q .ret a' w')
  (ai:∀m v ba G' a' w',m∈cq p n->eX m.kind=acI->gN (cp p.vars m.pl.var [] m.pl.ax) 1=acK v->fI p.vars (ck 0 p.vars)=acK ba ->
    dd p n k=((cB (cp p.vars m.pl.var [] m.pl.ax)).map (gG p.vars m.pl ba),acI) ->
    iB C w0 G0 Z.mt (ee (.agg p.cells) (.int .i64 n) (.int .i64 k) (.ae p.cells) (av bH.wk (cq p n)) (.ptr 0 0) (.int .i64 v) (av cG (cp p.vars m.pl.var [] m.pl.ax)) (.ptr 1 0) (.int .i64 0) (.ptr 2 0) .bot .bot (.fn 34 [.ae [av cG (cp p.vars m.pl.var [] m.pl.ax)]]) .bot) (((Z.mt.push (.row m.wk)).push (.row [av aD ba])).push (.row [.aq .nil 0 []])) G' a' w'->a'.tmps.size=91->X.wp C.P (Exit.then (Y.wp C.P Q) Q) a' w') :
  ae3 C.P (s.seq (c1.seq (c2.seq (c3.seq (u.seq (c5.seq (w.seq (x.seq (y.seq (z.seq ((A.seq X).seq Y))))))))))) Q a w0:=by
 have al:∀H,aj H 2 acI (.ae p.cells)=acK (.agg p.cells):=λ_=>rfl;have D:∀H,aj H 1 acJ (.ae p.cells)=acK (av aB.cells p.vars):=λ_=>rfl;have E:aH 0 (.ae p.cells)=acK (.ae p.cells):=rfl;refine wp_seq ?_;refine hs.piece hF ah T (E':=ee (.agg p.cells) (.int .i64 n) (.int .i64 k) (.ae p.cells) .bot .bot .bot .bot .bot .bot .bot .bot .bot .bot .bot) (P:=λH'=>H'=Z.mt) (Rr:=λ_=>False) ?_ ?_ λ_ _ _ _ _ _ _ _ _ h=>h.elim
 . rw[XT,show b5 Z.mt acJ 2 (.agg p.cells)=acK (.ae p.cells,Z.mt) by unfold b5;rw[ab ⟨rfl,rfl⟩];rfl];simp only[aN];exact⟨trivial,trivial⟩
 rintro H1 aO M w1 s1 am rfl;refine wp_seq ?_;refine s1.piece hF am h1 (E':=ee (.agg p.cells) (.int .i64 n) (.int .i64 k) (.ae p.cells) (av bH.wk (cq p n)) .bot .bot .bot .bot .bot .bot .bot .bot .bot .bot) (P:=λH'=>H'=Z.mt) (Rr:=λ_=>False) ?_ ?_ λ_ _ _ _ _ _ _ _ _ h=>h.elim
 . rw[XU];simp only[al,O];exact XS ak hT iq hp hz n _ _ ⟨rfl,rfl⟩
 rintro H2 aQ a2 w2 s2 z2 rfl;refine wp_seq ?_;refine s2.piece hF z2 U (E':=ee (.agg p.cells) (.int .i64 n) (.int .i64 k) (.ae p.cells) (av bH.wk (cq p n)) .bot .bot .bot .bot .bot .bot .bot .bot .bot .bot) (P:=λH'=>H'=Z.mt/\∃m,1<=k/\(cq p n)[(k-1).toNat]?=acK m/\eX m.kind=acI) (Rr:=λ_=>dd p n k=([],acJ)) ?_ ?_ i
 ·exact X9 ak hT iq L (λh=>h) λm j b d=>⟨rfl,rfl,m,j,b,d⟩
 rintro aR aS a3 w3 an z3 ⟨rfl,m,j,b,d⟩;have f:=adq b;obtain⟨ao,F⟩:=N m f d;have q:=R λe=>by rw[e]at f;cases f
 have c:=DC j b d;have ap:=(aal.1 b).1;refine wp_seq ?_;refine an.piece hF z3 V (E':=ee (.agg p.cells) (.int .i64 n) (.int .i64 k) (.ae p.cells) (av bH.wk (cq p n)) (.ptr 0 0) .bot .bot .bot .bot .bot .bot .bot .bot .bot) (P:=λH'=>H'=Z.mt.push (.row m.wk)) (Rr:=λ_=>False) ?_ ?_ λ_ _ _ _ _ _ _ _ _ h=>h.elim
 . rw[XV];simp only[eH,O];rw[bo,show k-1=(((k-1).toNat:Nat):Int) by omega,Nh ap];simp only[O];rw[c8 bH.DB (by decide) _ b];simp only[O,aN,bQ,bc];rw[cn _ _ _ 5 m.DB m.XR rfl];simp only[O];exact⟨rfl,trivial⟩
 rintro aT aU a4 aV ar z4 rfl;refine wp_seq ?_;refine ar.piece hF z4 W (E':=ee (.agg p.cells) (.int .i64 n) (.int .i64 k) (.ae p.cells) (av bH.wk (cq p n)) (.ptr 0 0) (.int .i64 1) .bot .bot .bot .bot .bot .bot .bot .bot) (P:=λH'=>H'=Z.mt.push (.row m.wk)) (Rr:=λ_=>False) ?_ ?_ λ_ _ _ _ _ _ _ _ _ h=>h.elim
 . rw[XW];exact⟨rfl,rfl⟩
 rintro aX aY a5 aZ aw z5 rfl;have ay:At (Z.mt.push (.row m.wk)) 0 (.row m.wk):=At.new Z.mt _;refine wp_seq ?_;refine aw.piece hF z5 aa (E':=ee (.agg p.cells) (.int .i64 n) (.int .i64 k) (.ae p.cells) (av bH.wk (cq p n)) (.ptr 0 0) (.int .i64 1) (av cG (cp p.vars m.pl.var [] m.pl.ax)) .bot .bot .bot .bot .bot .bot .bot) (P:=λH'=>H'=Z.mt.push (.row m.wk)) (Rr:=λ_=>False) ?_ ?_ λ_ _ _ _ _ _ _ _ _ h=>h.elim
 . rw [XX];have l3:aj (Z.mt.push (.row m.wk)) 2 acI (.ptr 0 3)=acK (.agg m.pl.cells):=by
    rw[ay.load];unfold bH.wk bO;rw[ab (by simp[aJ.len]),ab rfl];show acK (I.agg (aes 2 m.pl.cells))=_;rw[adp (by rw[aJ.len];exact hb _)]
   simp only[E,D,jm,l3,O];exact W9 ak hT (by have:=q.l;omega) q.o ao F _ _ ⟨rfl,rfl⟩
 rintro a0 a1 a6 a_ az aA rfl;have hlen:(cp p.vars m.pl.var [] m.pl.ax).length<=1000000:=sl (sZ _ _ _ _) F;refine wp_seq ?_;refine az.piece hF aA ac (E':=ee (.agg p.cells) (.int .i64 n) (.int .i64 k) (.ae p.cells) (av bH.wk (cq p n)) (.ptr 0 0) (.int .i64 ((gN (cp p.vars m.pl.var [] m.pl.ax) 1).getD 0)) (av cG (cp p.vars m.pl.var [] m.pl.ax)) .bot .bot .bot .bot .bot .bot .bot) (P:=λH'=>H'=Z.mt.push (.row m.wk)/\gN (cp p.vars m.pl.var [] m.pl.ax) 1=acK ((gN (cp p.vars m.pl.var [] m.pl.ax) 1).getD 0)) (Rr:=λ_=>dd p n k=([],acJ)) ?_ ?_ i
 . refine X7 (by omega) (λh=>by rw[c,h]) λv hv=>⟨?_,rfl,?_⟩
   ·rw[hv];rfl
   ·rw[hv];rfl
 rintro bb bd a7 be G aC ⟨rfl,hv⟩;generalize (gN (cp p.vars m.pl.var [] m.pl.ax) 1).getD 0=v at hv G;refine wp_seq ?_;refine G.piece hF aC ad (E':=ee (.agg p.cells) (.int .i64 n) (.int .i64 k) (.ae p.cells) (av bH.wk (cq p n)) (.ptr 0 0) (.int .i64 v) (av cG (cp p.vars m.pl.var [] m.pl.ax)) (.ptr 1 0) (.int .i64 (gF p.vars (ck 0 p.vars) []).2) .bot .bot .bot .bot .bot) (P:=λH'=>H'=(Z.mt.push (.row m.wk)).push (.row [av aD (gF p.vars (ck 0 p.vars) []).1])) (Rr:=λ_=>False) ?_ ?_ λ_ _ _ _ _ _ _ _ _ h=>h.elim
 . rw[XY];simp only[E,D,O];refine MJ ak hT hS q _ _ ?_;simp only[bA,ac5,ac6,O,aN,bQ,bc];have J:=(At.new (Z.mt.push (.row m.wk)) (.row [.aq .nil 0 []])).st1 (k:=0) (v:=av aD (gF p.vars (ck 0 p.vars) []).1) (by show 0<1;decide) ⟨rfl,rfl,rfl⟩;rw[Z.Jz]at J;rw[J];simp only[O];exact⟨rfl,rfl⟩
 rintro bf bg a8 bh r K rfl;refine wp_seq ?_;rcases Di p.vars (ck 0 p.vars) []with⟨ba,e1,g⟩|⟨e1,g⟩
 case inr=>refine r.piece hF K B (E':=[]) (P:=λ_=>False) (Rr:=λ_=>dd p n k=([],acJ)) ?_ (λ_ _ _ _ _ _ h=>h.elim) i;rw[Nf];simp only[cC,O,au];rw[ab (by simpa using g)];exact⟨trivial,trivial,by rw[c,hv];dsimp only;rw[e1]⟩
 rw[aeh]at g;rw[g]at r;rw[hv]at c;dsimp only at c;rw[e1]at c;refine r.piece hF K B (E':=ee (.agg p.cells) (.int .i64 n) (.int .i64 k) (.ae p.cells) (av bH.wk (cq p n)) (.ptr 0 0) (.int .i64 v) (av cG (cp p.vars m.pl.var [] m.pl.ax)) (.ptr 1 0) (.int .i64 0) .bot .bot .bot .bot .bot) (P:=λH'=>H'=(Z.mt.push (.row m.wk)).push (.row [av aD ba])) (Rr:=λ_=>False) ?_ ?_ λ_ _ _ _ _ _ _ _ _ h=>h.elim
 . rw[Nf];simp only[cC,O,au];rw[cw];first|exact⟨trivial,trivial⟩|exact⟨rfl,trivial⟩|exact⟨trivial,rfl⟩
 rintro bi bj a9 bk aE z9 rfl;refine wp_seq ?_;refine aE.piece hF z9 h9 (E':=ee (.agg p.cells) (.int .i64 n) (.int .i64 k) (.ae p.cells) (av bH.wk (cq p n)) (.ptr 0 0) (.int .i64 v) (av cG (cp p.vars m.pl.var [] m.pl.ax)) (.ptr 1 0) (.int .i64 0) (.ptr 2 0) .bot .bot .bot .bot) (P:=λH'=>H'=((Z.mt.push (.row m.wk)).push (.row [av aD ba])).push (.row [.aq .nil 0 []])) (Rr:=λ_=>False) ?_ ?_ λ_ _ _ _ _ _ _ _ _ h=>h.elim
 . rw[XZ];simp only[aN,bQ,bc];first|exact⟨trivial,trivial⟩|exact⟨rfl,trivial⟩|exact⟨trivial,rfl⟩
 rintro bl bm du bn aF aG rfl;refine wp_seq ?_;refine wp_seq ?_;refine aF.piece hF aG af (E':=ee (.agg p.cells) (.int .i64 n) (.int .i64 k) (.ae p.cells) (av bH.wk (cq p n)) (.ptr 0 0) (.int .i64 v) (av cG (cp p.vars m.pl.var [] m.pl.ax)) (.ptr 1 0) (.int .i64 0) (.ptr 2 0) .bot .bot (.fn 34 [.ae [av cG (cp p.vars m.pl.var [] m.pl.ax)]]) .bot) (P:=λH'=>H'=((Z.mt.push (.row m.wk)).push (.row [av aD ba])).push (.row [.aq .nil 0 []])) (Rr:=λ_=>False) ?_ ?_ λ_ _ _ _ _ _ _ _ _ h=>h.elim
 . rw[X0];refine S.QD hT ?_;unfold S.f14;simp only[ag];rw[show ∀H,b5 H acJ 1 (av cG (cp p.vars m.pl.var [] m.pl.ax))=acK (.ae [av cG (cp p.vars m.pl.var [] m.pl.ax)],H)from λ_=>rfl];simp only[aN];first|exact⟨trivial,trivial⟩|exact⟨rfl,trivial⟩|exact⟨trivial,rfl⟩
 rintro bp aI db aK aL aM rfl;exact ai m v ba aI db aK f d hv e1 c aL aM
end
def aW.jL(G:aW)(fz:Nat->Nat->Prop):aW:={G with fz:=λb o=>G.fz b o\/fz b o}
theorem Rel.jL{C:Ctx}{w:World}{G:aW}{H:Z}(e:c9 C w G H)(a:Rel C.F w G H){fz:Nat->Nat->Prop}(f:∀b o,fz b o->∃g,w.cell? ⟨b,o,acL⟩=acK g)(k:∀b o,fz b o->∀i,(H.o i).live=acI->G.loc i≠b) :
  c9 C w (G.jL fz) H/\Rel C.F w (G.jL fz) H/\GLe w G w (G.jL fz):=by
 have d:GLe w G w (G.jL fz):=⟨hb _,λ_ _=>rfl,λ_ _=>rfl,λ_ _ h=> .inl h,λ_ _ _ _ h=>h⟩
 refine⟨⟨e.1.mono d,e.2⟩,⟨a.n,a.over,λj=>(a.obj j).bh d (λhl=>a.hX hl) (λ_=>rfl) λhl o c=>?_,a.gz,λb o hf=>?_⟩,d⟩
 . rcases c with c|c
   ·exact c
   ·exact absurd rfl (k _ _ c j hl)
 . rcases hf with hf|hf
   ·exact a.e_ b o hf
   ·exact f b o hf
theorem zt(n:Int)(r:List Int):(cB (n::r)).length=n.toNat*(cB r).length:=by rw[cB,List.length_flatMap];simp only[abI];rw[List.map_const',List.sum_replicate_nat,List.length_range]
theorem DD:∀(l:List Int)(a v:Int),(∀n∈l,1<=n/\n<=65536)->1<=a->a<=4096->gN l a=acK v->a.toNat*(cB l).length=v.toNat/\1<=v/\v<=4096
 | [],a,v,_,h1,b,h=>by rw[gN]at h;cases h;exact⟨by simp[cB],h1,b⟩
 | n :: r,a,v,hl,h1,b,h=>by
  obtain⟨n1,n2⟩:=hl n (acs ..);have d:a*n<=4096*n:=afi b (by omega);have p0:1*n<=a*n:=afi h1 (by omega);have hw:B (a*n)=a*n:=bo;rw[gN,hw]at h;by_cases U:a*n>4096
  ·rw[ab U]at h;cases h
  . rw[af U]at h;obtain⟨e,r1,c⟩:=DD r (a*n) v (λm hm=>hl m (acp _ hm)) (by omega) (by omega) h;refine⟨?_,r1,c⟩;rw[zt,<-e,Int.toNat_mul (by omega) (by omega),Nat.mul_assoc]
theorem Ya{C:Ctx}(hF:gI C){ds:List Deferred}{id:Nat}{b:Array Oper}{al:List cb}{c:Env}{H:Z}{G:aW}{w:World}{a:Act}{K:Env->Z->Prop}{Q:Exit->Act->World->Prop}(d:cz C (.region id b acJ) (.region al)=acI)(h:dk (ai C) (.region al) c H (λf e H=>f = .normal/\K e H))(hG:c9 C w G H)(g:Rel C.F w G H)(i:be C.F w G c a.tmps)(j:a.defers=ds)
  (hQ:∀aP H' G' a' w',K aP H'->c9 C w' G' H'->Rel C.F w' G' H'->be C.F w' G' aP a'.tmps->a'.defers=ds->Step w G H w' G' H'->a'.tmps.size=a.tmps.size->Q .normal a' w'):(ae4 id b acJ).wp C.P Q a w:=by
 simp only[cz]at d;refine wp_region_list ?_;exact tN (az:=hd al) (a0:=a) (w0:=w) (G0:=G) (H0:=H) (Q:=Q) (K:=λe H=>hU.normal = .normal/\K e H) hF b.toList al c H G w a d h hG g i j (Step.refl _ _ _) (dU.refl _ _) (λ_ ht=>ht)
  (λaP H' G' a' w' k l m n o p q=>hQ aP H' G' a' w' k.2 l m n o p q.1)
open Go Go.RowKit
variable{G:aW}{H:Z}{l:Nat}{w A B:World}{o:Obj}{F:dE}
def s8(o:Obj):Prop:=(∃x,o = .loop x)\/∃x,o = .deferred x
theorem zu{i:Nat}{x:cx}(h:gy F w G i x)(hl:x.live=acI)(c:w.heap[l]?=acK o)(d:s8 o):G.loc i≠l:=by
 intro e;have key:∀a,w.heap[G.loc i]?=acK a->s8 a:=λa b=>by rw[e,c]at b;cases b;exact d
 have fin:∀{a:Obj},s8 a->(∀x,a ≠ .loop x)->(∀x,a ≠ .deferred x)->False:=λh h1 f=>by
  rcases h with⟨x,e⟩|⟨x,e⟩
  ·exact h1 _ e
  ·exact f _ e
 cases x with
 |gone=>cases hl
 |row cs=>obtain⟨C,e,hc,_⟩:=h;exact fin (key _ hc) (λ_ h=>by cases h) λ_ h=>by cases h
 |tok n sz=>obtain⟨C,e,hc,_⟩:=h;exact fin (key _ hc) (λ_ h=>by cases h) λ_ h=>by cases h
 |hr s pos=>exact fin (key _ h.1) (λ_ h=>by cases h) λ_ h=>by cases h
theorem Ni(b:Rel F w G H)(c:w.heap[l]?=acK o)(d:s8 o):∀k,¬G.fz l k:=by intro k hf;obtain⟨V,a⟩:=b.e_ l k hf;unfold ada at a;rw[c]at a;rcases d with⟨x,rfl⟩|⟨x,rfl⟩<;>cases a
theorem zv{C:Ctx}{b:Nat}(d:c9 C A G H)(c:Rel C.F A G H)(f:∀k,k<A.heap.size->k≠b->B.heap[k]?=A.heap[k]?)(U:∀i,(H.o i).live=acI->G.loc i≠b)(hz:∀o,¬G.fz b o):c9 C B G H/\Rel C.F B G H/\GLe A G B G:=by
 have p:∀a o V,G.fz a o->A.cell? ⟨a,o,acL⟩=acK V->B.cell? ⟨a,o,acL⟩=acK V:=λa o V hf hc=>by rw[aa3 (w:=A) (f a (aa4 A _ hc) λe=>hz o (by rw[<-e];exact hf))];exact hc
 have m:GLe A G B G:=⟨hb _,λ_ _=>rfl,λ_ _=>rfl,λ_ _ h=>h,p⟩
 refine⟨⟨d.1.mono m,λg l hl q=>?_⟩,⟨c.n,c.over,λj=>(c.obj j).bh m (λhl=>c.hX hl) (λhl=>f _ ((c.obj j).lt hl) (U j hl)) λ_ _ s=>s,c.gz,λa o hf=>?_⟩,m⟩
 . obtain ⟨⟨cs,t,fr,h1,u⟩,v⟩:=d.2 g l hl q;refine⟨⟨cs,t,fr,?_,u⟩,v⟩;have hv:=d.1 g l hl;cases hv with
   | ae cells a o Vs y hv=>
    obtain ⟨x,r,rfl⟩:∃x r,l=x::r:=by cases l with
     |nil=>exact absurd rfl q
     |cons x r=>exact⟨x,r,rfl⟩
    have:=(y 0 x rfl).1;rw[f g (aa5.1 h1).1 λe=>hz _ (by rw[<-e];exact this)];exact h1
 . obtain⟨V,z⟩:=c.e_ a o hf;exact⟨V,p a o V hf z⟩
theorem zw{w0 A B:World}{G0 G:aW}{H0 H:Z}{b:Nat}(hs:Step w0 G0 H0 A G H)(a:GLe A G B G)(c:A.heap.size<=B.heap.size)(d:B.os=A.os)(ht:B.tape=A.tape)(e:B.output=A.output)(f:A.drawn<=B.drawn)(g:∀k,k<A.heap.size->k≠b->B.heap[k]?=A.heap[k]?)(U:w0.heap.size<=b):Step w0 G0 H0 B G H:=
 { hs.toGLe.trans a with
   size:=sl hs.size c
   os:=d.trans hs.os
   tape:=ht.trans hs.tape
   output:=e.trans hs.output
   dr:=sl hs.dr f
   d_:=λk hk hn=>(g k (xl hk hs.size) (by omega)).trans (hs.d_ k hk hn)
   owned:=hs.owned
   ff:=hs.ff}
theorem Yb{w0 A:World}{G0 G:aW}{H0 H:Z}{fz:Nat->Nat->Prop}(hs:Step w0 G0 H0 A G H)(hf:∀b o,fz b o->G0.fz b o\/w0.heap.size<=b):Step w0 G0 H0 A (G.jL fz) H:=
 { hs with
   fz:=λb o h=> .inl (hs.fz b o h)
   ff:=λb o h=>by
    rcases h with h|h
    ·exact hs.ff b o h
    . rcases hf b o h with h|h
      ·exact .inl h
      ·exact .inr (.inl h)}
structure j6(C:Ctx)(p:dy)(m:bH)(ba:List (Int×Int))(w0:World)(G0:aW)(H0:Z)(E:Env)(T:Array Value)(N b:Nat)(pre:List (List Int))(W:World):Prop where
 ex:∃G H,c9 C W G H/\Rel C.F W G H/\mL p.vars m ba 0 1 2 pre H/\be C.F W G E T/\Step w0 G0 H0 W G H/\(∀i,(H.o i).live=acI->G.loc i≠b/\G.loc i<N)/\∀o,¬G.fz b o
 U:w0.heap.size<=b
 hN:b<N
section
variable{C:Ctx}{p:dy}{m:bH}{ba:List (Int×Int)}{w0:World}{G0:aW}{H0:Z}{E:Env}{T:Array Value}{N b:Nat}{pre:List (List Int)}{W:World}
theorem j6.put(h:j6 C p m ba w0 G0 H0 E T N b pre W)(c:Obj)(hB:w0.heap.size<=l)(hl:W.heap[l]?=acK o)(d:s8 o):j6 C p m ba w0 G0 H0 E T N b pre (W.putObj l c):=by obtain⟨⟨G,H,h1,a,e,f,g,j,n⟩,U,hN⟩:=h;have hblk:∀k,k<W.heap.size->k≠l->(W.putObj l c).heap[k]?=W.heap[k]?:=λk _ q=>aeY q;obtain⟨g1,g2,g3⟩:=zv h1 a hblk (λi hi=>zu (a.obj i) hi hl d) (Ni a hl d);exact⟨⟨G,H,g1,g2,e,f.mono g3,zw g g3 (by simp) rfl rfl rfl (hb _) hblk hB,j,n⟩,U,hN⟩
theorem j6.turn(h:j6 C p m ba w0 G0 H0 E T N b pre W){W':World}(ht:mK b W W'):j6 C p m ba w0 G0 H0 E T N b pre W':=by obtain⟨⟨G,H,h1,d,f,g,j,a,c⟩,U,hN⟩:=h;have hblk:∀k,k<W.heap.size->k≠b->W'.heap[k]?=W.heap[k]?:=λk hk l=>ht.1.1.block k hk λe=>l (by cases e;rfl);obtain⟨g1,g2,g3⟩:=zv h1 d hblk (λi hi=>(a i hi).1) c;exact⟨⟨G,H,g1,g2,f,g.mono g3,zw j g3 ht.1.1.size ht.1.1.os ht.1.1.tape ht.1.1.output ht.2 hblk U,a,c⟩,U,hN⟩
theorem j6.start(f:c9 C w0 G0 H0)(c:Rel C.F w0 G0 H0)(g:mL p.vars m ba 0 1 2 [] H0)(h:be C.F w0 G0 E T)(a:Below w0.heap.size w0 W)(j:w0.drawn<=W.drawn)(U:w0.heap.size<=b)(l:b<W.heap.size):j6 C p m ba w0 G0 H0 E T W.heap.size b [] W:=by
 have hblk:∀k,k<w0.heap.size->k≠b->W.heap[k]?=w0.heap[k]?:=λk hk _=>a.block k hk;have d:∀i,(H0.o i).live=acI->G0.loc i<w0.heap.size:=λi hi=>(c.obj i).lt hi;have hz:∀o,¬G0.fz b o:=λo hf=>by obtain⟨V,n⟩:=c.e_ b o hf;have:b<w0.heap.size:=aa4 w0 _ n;omega
 obtain⟨g1,g2,g3⟩:=zv f c hblk (λi hi e=>by have:=d i hi;omega) hz;have q:=a.size;exact⟨⟨G0,H0,g1,g2,g,h.mono g3,zw (Step.refl _ _ _) g3 a.size a.os a.tape a.output j hblk U,λi hi=>by have:=d i hi;omega,hz⟩,U,l⟩
end
theorem iB.Nj{C:Ctx}(hF:gI C){n l:Nat}{w0:World}{G0:aW}{H0:Z}{E:Env}{a:Act}(h:iB C w0 G0 H0 E H G a w)(f:a.tmps.size=91){b:dT}{c:Code}(hc:cz C c b=acI)(g:qh c)(j:∀t x,b ≠ .freeze t x){E':Nat->Env}{P:Nat->Z->Prop}{Q:Exit->Act->World->Prop}(k:¬LetsOut Q)
  (hk:dk (ai C) b E H (KA (λm o p q u y z A B D F I J K H'=>∃i,ee m o p q u y z A B D F I J K .bot=E' i/\P i H') λ_=>False))
  (hQ:∀i H' G' a' w',iB C w0 G0 H0 (E' i) H' G' a' w'->a'.tmps.size=91->P i H'->Q .normal a' w'):c.wpIn (aeZ.inRound l) n C.P Q a w:=by
 refine h.runIn hF hc hk g k j λL ex aP H' G' a' w' he e hs hz=>?_;cases L with
 |exit i=>exact e.elim
 |ret=>exact e.2.2.elim
 | normal=>cases ex<;>simp only[fW]at he;obtain⟨i,h1,M⟩:=e;have hv:=M7 hs.v (hz.trans f);rw[h1]at hv;exact hQ i H' G' a' w' ⟨hs.x,hs.r,hv,hs.d,hs.s⟩ (hz.trans f) M
section
variable{C:Ctx}(hF:gI C)(ak:cP C)(hT:Cl (ai C) S.b7)
include hF ak hT
theorem j6.round{p:dy}{m:bH}{ba:List (Int×Int)}{w0:World}{G0:aW}{H0:Z}{a c d f g q t u:I}{T:Array Value}{N b:Nat}{pre:List (List Int)}{W:World}
  (Y:∀i,(H0.o i).live=acI->∃cs,H0.o i = .row cs) (O:Rel C.F w0 G0 H0)
  (h:j6 C p m ba w0 G0 H0 (ee a c d (.ae p.cells) f (.ptr 0 0) g q (.ptr 1 0) t (.ptr 2 0) .bot .bot u .bot) T N b pre W) (aa:T.size=91) (z:b<W.heap.size) {x:List Int} {V:Value} (ha:oH C.F G0.fz N W x #[V])
  (hl:p.vars.length<=1000000) (hv:∀v∈p.vars,v.ok) (ab:m.pl.ok) (ac:ba.length<=9223372036854775806) (ad:pre.length<=100000)
  {c1 c2:Code} (k1:cz C c1 Du=acI) (k2:cz C c2 Dv=acI) (d1:qh c1) (d2:qh c2) {S:Nat->Prop} (hS:∀k,S k->∃o,G0.fz k o) {n l:Nat} :
  (Code.block 3 (c1.seq c2)).wpIn (aeZ.inRound l) n C.P (λe _ W'=>e = .normal/\MR W W'/\iA b W W'/\e9 S W W'/\∃N',N'<=W'.heap.size /\
    j6 C p m ba w0 G0 H0 (ee a c d (.ae p.cells) f (.ptr 0 0) g q (.ptr 1 0) t (.ptr 2 0) .bot .bot u .bot) T N' b (pre++[x]) W') ⟨(T.setIfInBounds 73 V).setIfInBounds 17 V,[]⟩ W:=by
 obtain⟨⟨G,H,h1,Q,af,R,A,w,ag⟩,U,hN⟩:=h;obtain⟨az,fz,e,y,ah⟩:=ha;cases e;have B:∀k o,G0.fz k o->k<w0.heap.size:=λk o hf=>by obtain⟨V,ai⟩:=O.e_ k o hf;exact aa4 w0 _ ai
 have X:∀k o,G0.fz k o->∀i,(H.o i).live=acI->G.loc i≠k:=by intro k o hf i hi e;obtain⟨j,D,E⟩:=A.owned i hi (by rw[e];exact B k o hf);obtain⟨cs,aj⟩:=Y j D;have:=O.obj j;rw[aj]at this;obtain⟨_,_,_,_,al,_⟩:=this;exact al o (by rw[E,e];exact hf)
 have am:∀k o,fz k o->∀i,(H.o i).live=acI->G.loc i≠k:=by
  intro k o hf i hi e;rcases(y k o hf).1 with h|h
  ·exact X k o h i hi e
  ·have:=(w i hi).2;omega
 obtain⟨g1,g2,g3⟩:=Rel.jL h1 Q (λk o hf=>(y k o hf).2) am;have an:∀o,¬(G.jL fz).fz b o:=by
  intro o hf;rcases hf with hf|hf
  ·exact ag o hf
  . rcases(y b o hf).1 with h|h
    ·have:=B b o h;omega
    ·omega
 have ao:Step w0 G0 H0 W (G.jL fz) H:=Yb A λk o hf=>by
  rcases(y k o hf).1 with h|h
  ·exact .inl h
  ·exact .inr (by omega)
 have ap:be C.F W (G.jL fz) (ee a c d (.ae p.cells) f (.ptr 0 0) g q (.ptr 1 0) t (.ptr 2 0) (.aq .dead x.length (x.map ej)) .bot u .bot) ((T.setIfInBounds 73 V).setIfInBounds 17 V):=by
  have ar:VR C.F W (G.jL fz) (.aq .dead x.length (x.map ej)) V:=lH (G:=aW.mt fz) (G':=G.jL fz) (λ_ _ h=> .inr h) (λ_ _ _ _ h=>h) (by
    have:∀l:List Int,I.bV (l.map ej)=acI:=by
     intro l;induction l with
     |nil=>rfl
     |cons x r au=>simp[I.bV,I.bu,ej,au]
    simp[I.bu,this,Tok.free]) ah
  exact((R.mono g3).set 73 (.bot V)).set 17 ar
 have av:iB C W (G.jL fz) H (ee a c d (.ae p.cells) f (.ptr 0 0) g q (.ptr 1 0) t (.ptr 2 0) (.aq .dead x.length (x.map ej)) .bot u .bot) H (G.jL fz) ⟨(T.setIfInBounds 73 V).setIfInBounds 17 V,[]⟩ W:=⟨g1,g2,ap,rfl,Step.refl _ _ _⟩
 refine wpIn_block (wpIn_seq ?_);refine av.Nj hF (by simpa using aa) k1 d1 (λ_ _ h=>by cases h) (E':=λi=>ee a c d (.ae p.cells) f (.ptr 0 0) g q (.ptr 1 0) t (.ptr 2 0) (.aq .dead x.length (x.map ej)) (.ptr i 0) u .bot) (P:=λi H'=>mL p.vars m ba 0 1 2 pre H'/\At H' i (.row (eu p.vars m.pl x).cells)/\i≠2) (by rintro⟨_,_,h,_⟩;cases h) ?_ ?_
 ·exact X5 ak hT hl hv ab af λi H' J K L=>⟨i,rfl,J,K,L⟩
 rintro i H1 aA M w1 s1 aw ⟨J,K,L⟩;refine s1.Nj hF aw k2 d2 (λ_ _ h=>by cases h) (E':=λ_=>ee a c d (.ae p.cells) f (.ptr 0 0) g q (.ptr 1 0) t (.ptr 2 0) (.aq .dead x.length (x.map ej)) (.ptr i 0) u .bot) (P:=λ_ H'=>mL p.vars m ba 0 1 2 (pre++[x]) H') (by rintro⟨_,_,h,_⟩;cases h) ?_ ?_
 ·exact X6 ak hT ac ad J K L λH' r1=>⟨0,rfl,r1⟩
 rintro _ H2 ax a2 w2 s2 z2 r1;have hC:=s2.s;refine⟨rfl,λk o hk ay=>?_,⟨hC.size,?_⟩,⟨hC.size,λk hk=>?_⟩,w2.heap.size,hb _,⟨ax,H2,s2.x,s2.r,r1,?_,ao.trans hC,λi hi=>⟨λe=>?_,(s2.r.obj i).lt hi⟩,λo hf=>?_⟩,U,xl z hC.size⟩
 ·exact(hC.d_ k (aa5.1 hk).1 λi hi=>(show G.loc i≠k from zu (Q.obj i) hi hk ay)).trans hk
 ·exact hC.d_ b z λi hi=>(w i hi).1
 . obtain⟨o,hf⟩:=hS k hk;exact hC.d_ k (xl (B k o hf) A.size) (X k o hf)
 ·exact(R.mono g3).mono hC.toGLe
 . obtain⟨j,D,E⟩:=hC.owned i hi (by rw[e];exact z);exact(w j D).1 (E.trans e)
 . rcases hC.ff b o hf with h|h|⟨i,hi,e⟩
   ·exact an o h
   ·omega
   ·exact(w i hi).1 e
end
end Rb
namespace Rb
open Go Go.RowKit Go.Lib Go.Sort Go.Proofs
variable{F:dE}{w:World}{G:aW}{H:Z}{id:Nat}{cs:List I}
def gW(p:Int×Int):List Value:=[.int .i64 p.1,.int .i64 p.2]
theorem qk:∀l:List (Int×Int),(l.flatMap aD).length=l.length*2
 |[]=>rfl
 |x::r=>by rw[ac0,adm,qk r,adN];show 2+_=_;omega
theorem DE:∀(l:List (Int×Int)) (j:Nat) (c:I),(l.flatMap aD)[j]?=acK c->j<l.length*2/\∃n,c = .int .i64 n/\(gW l.toArray[j/2]!)[j%2]! = .int .i64 n
 |[],j,c,h=>by simp at h
 | x::r,j,c,h=>by
  rw[ac0]at h
  match j,h with
  | 0,h=>have h:acK (I.int .i64 x.1)=acK c:=h;cases h;exact⟨by simp,_,rfl,by simp[gW]⟩
  | 1,h=>have h:acK (I.int .i64 x.2)=acK c:=h;cases h;exact⟨by simp;omega,_,rfl,by simp[gW]⟩
  | j+2,h=>have h:(r.flatMap aD)[j]?=acK c:=h;obtain⟨h1,n,a,b⟩:=DE r j c h;refine⟨by rw[adN];omega,n,a,?_⟩;rw[Nat.add_div_right j (by decide:0<2),Nat.add_mod_right,<-b];congr 2;simp only[Array.getElem!_eq_getD,abz,abf,ac6]
theorem Yc{l:List (Int×Int)}(f:Rel F w G H)(g:H.o id = .row cs)(hc:cs.take (l.length*2)=l.flatMap aD):HoldsK gW 2 w (G.loc id) 0 l.toArray/\G.loc id<w.heap.size:=by
 have h:=f.obj id;rw[g]at h;obtain⟨c,e,h1,r,s,i⟩:=h;refine⟨λj b=>?_,(aa5.1 h1).1⟩;rw[size_flatK]at b;have d:j<l.length*2:=by simpa using b
 obtain⟨a,ha⟩:∃a,(l.flatMap aD)[j]?=acK a:=⟨_,abb (by rw[qk];exact d)⟩
 obtain⟨_,n,rfl,hn⟩:=DE l j a ha;have k:cs[j]?=acK (.int .i64 n):=by rw[<-ha,<-hc,List.getElem?_take_of_lt d]
 obtain⟨V,m,p⟩:=i j _ k;have q:V = .int .i64 n:=by cases p;rfl
 subst q;refine⟨?_,?_⟩
 . rw[get_flatK gW 2 l.toArray j b,hn];simp only[ada,h1,Option.isSome_none,abW,b4,aa8];exact m
 . simp only[World.frozen?,h1];simp
theorem Nk{l l':List (Int×Int)}(p:Rel F w G H)(q:H.o id = .row cs)(hc:cs.take (l.length*2)=l.flatMap aD)(hl:l'.length=l.length)(n:Nat)(f:Array Obj) :
  Rel F (sortWorldK gW 2 w (G.loc id) 0 n l'.toArray f) G (H.set id (.row (l'.flatMap aD++cs.drop (l.length*2))))/\Step w G H (sortWorldK gW 2 w (G.loc id) 0 n l'.toArray f) G (H.set id (.row (l'.flatMap aD++cs.drop (l.length*2)))):=by
 have h:=p.obj id;rw[q]at h;obtain⟨c,e,h1,v,r,s⟩:=h;have A:=(aa5.1 h1).1;have hlen:l.length*2<=cs.length:=by have:=congrArg afh hc;rw[adI,qk]at this;omega
 have ht:kN w (putRowK gW 2 (afj w n) (G.loc id) 0 l'.toArray) (G.loc id):=
  ⟨by simp[putRowK,putRow,mapBlock,afj],λk hk=>by simp[putRowK,putRow,mapBlock,afj,afk,Ne.symm hk],rfl,rfl,rfl,afg _ _⟩
 have U:(putRowK gW 2 (afj w n) (G.loc id) 0 l'.toArray).heap[G.loc id]?=acK (.cells (putCells _root_.id 0 (flatK gW 2 l'.toArray) c) e (0,0)):=by show((afj w n).heap.modify (G.loc id) _)[G.loc id]?=_;rw[afk,ab rfl];show(w.heap[G.loc id]?).map _=_;rw[h1];rfl
 obtain ⟨r1,s1⟩:=p.write (i:=id) (by rw[q];rfl) r ht (.row (l'.flatMap aD++cs.drop (l.length*2))) rfl λx=>by
  refine⟨_,e,U,by simp[putCells,v],r,λj a b=>?_⟩;have d:(flatK gW 2 l'.toArray).size=l.length*2:=by rw[size_flatK];simp[hl]
  by_cases t:j<l.length*2
  . rw [List.getElem?_append_left (by rw[qk,hl];exact t)]at b;obtain⟨_,m,rfl,hm⟩:=DE l' j a b;have y:j<c.size:=by
     obtain⟨V,g,_⟩:=s j _ (abb (show j<cs.length by omega));exact(aa5.1 g).1
    refine⟨.int .i64 m,?_,.int _ _⟩;simp only[putCells,afl];rw[aam y,aaD,ab (by rw[d];omega),Nat.sub_zero,get_flatK gW 2 l'.toArray j (by rw[size_flatK]at d;rw[d];exact t),hm];rfl
  . rw[ab1 (by rw[qk,hl];omega),qk,hl,List.getElem?_drop,show l.length*2+(j-l.length*2)=j by omega]at b;obtain⟨V,g,z⟩:=s j a b;refine⟨V,?_,z.mono x⟩;simp only[putCells,afl];rw[g,aaD,af (by rw[d];omega)]
 have u:Below (putRowK gW 2 (afj w n) (G.loc id) 0 l'.toArray).heap.size (putRowK gW 2 (afj w n) (G.loc id) 0 l'.toArray) (sortWorldK gW 2 w (G.loc id) 0 n l'.toArray f):=by refine⟨rfl,rfl,rfl,by simp[sortWorldK,grow],λk hk=>?_⟩;simp only[sortWorldK,grow];rw[afm hk]
 exact⟨S8 u r1,s1.trans (S9 u (hb _) r1)⟩
def mM(x y:Int×Int):Int:=if x.1<y.1 then -1 else if x.1>y.1 then 1 else if x.2<y.2 then -1 else if x.2>y.2 then 1 else 0
theorem s9(x y:Int×Int):ltOf mM x y=decide (x.1<y.1\/(x.1=y.1/\x.2<y.2)):=by
 unfold ltOf mM;apply decide_eq_decide.2
 repeat' split
 all_goals omega
theorem Yd:SWO (ltOf mM) where
 irrefl x:=by rw[s9];simp
 trans x y z h1 a:=by rw[s9]at *;simp at *;omega
 ntrans x y z h1 a:=by rw[s9]at *;simp at *;omega
theorem Ye(x y:Int×Int)(a:ltOf mM x y=acJ)(b:ltOf mM y x=acJ):x=y:=by rw[s9]at *;simp at *;exact Prod.ext (by omega) (by omega)
theorem Yf(l:List (Int×Int)):(l.mergeSort λx y=>!(ltOf mM) y x)=eL l:=by unfold eL;congr 1;funext x y;rw[s9]
end Rb
namespace Rb
open Go Go.RowKit
theorem ai.flat{C:Ctx}(ak:cP C){key:Nat}{args:List I}{f:FuncId}{v:I}{w:World}{G:aW}{H:Z}{Vs:Array Value}(hf:C.F key=acK f)(ha:I.bV args=acI)(A:v.bu=acI)(hG:c9 C w G H)(d:Rel C.F w G H)(u:be C.F w G args Vs)
  (h:∀Q:aa,(∀H',Q v H')->ai C key args Z.mt Q):Calls C.P f Vs w λe w'=>∃V G',e = .returned V/\VR C.F w' G' v V/\c9 C w' G' H/\Rel C.F w' G' H/\GLe w G w' G'/\Below w.heap.size w w'/\∃q os,w'=Go.Sort.grow (w.drewN q) os:=by
 have B:Rel C.F w (aW.mt G.fz) Z.mt:=Rel.mt d.e_;have D:be C.F w (aW.mt G.fz) args Vs:=⟨u.1,λj c V hc t=>lH (G:=G) (G':=aW.mt G.fz) (w:=w) (λ_ _ h=>h) (λ_ _ _ _ h=>h) (nP ha j c hc) (u.2 j c V hc t)⟩
 have E:kc C w (aW.mt G.fz):=λg l p=>lH (G:=G) (G':=aW.mt G.fz) (w:=w) (λ_ _ h=>h) (λ_ _ _ _ h=>h) (by simp only[I.bu];exact ak g l p) (hG.1 g l p);refine Calls.mono ((h (λx _=>x=v) (λ_=>rfl)).2 f hf _ w Vs (hG.mt E λi hi=>by cases hi) B D) λe w' he=>?_;obtain⟨V,x,H',G',rfl,rfl,hv,J,m⟩:=he;have U:=m.below;have T:=m.dr;have y:∀b o,G'.fz b o->G.fz b o\/w.heap.size<=b:=by
  intro b o hz;rcases m.ff b o hz with h|h|⟨i,hi,_⟩
  ·exact .inl h
  ·exact .inr h
  ·cases hi
 let r:aW:={G with fz:=λb o=>G.fz b o\/G'.fz b o}
 have z:∀b o V,G.fz b o->w.cell? ⟨b,o,acL⟩=acK V->w'.cell? ⟨b,o,acL⟩=acK V:=λb o V hf hc=>by rw[aa3 (w:=w) (U.block b (aa4 w _ hc))];exact hc
 have p:GLe w G w' r:=⟨hb _,λ_ _=>rfl,λ_ _=>rfl,λ_ _ h=> .inl h,z⟩
 have K:Rel C.F w' r H:=by
  refine⟨d.n,d.over,λj=>(d.obj j).bh p (λhl=>d.hX hl) (λhl=>U.block _ ((d.obj j).lt hl)) λhl o s=>?_,d.gz,λb o hf=>?_⟩
  . rcases s with s|s
    ·exact s
    . rcases y _ _ s with h|h
      ·exact h
      ·exact absurd ((d.obj j).lt hl) (by omega)
  . rcases hf with hf|hf
    . obtain⟨V,t⟩:=d.e_ b o hf;exact⟨V,z b o V hf t⟩
    ·exact J.e_ b o hf
 have L:Step w G H w' r H:={p with
     size:=m.size,os:=m.os,tape:=m.tape,output:=m.output,dr:=m.dr,d_:=λk hk _=>U.block k hk,owned:=λi hi _=>⟨i,hi,rfl⟩
     ff:=λb o hf=>by
      rcases hf with hf|hf
      ·exact .inl hf
      . rcases y b o hf with h|h
        ·exact .inl h
        ·exact .inr (.inl h)}
 refine⟨V,r,rfl,lH (G:=G') (G':=r) (w:=w') (λ_ _ h=>Or.inr h) (λ_ _ _ _ h=>h) A hv,hG.step L,K,p,U,w'.drawn-w.drawn,w'.heap.extract w.heap.size w'.heap.size,?_⟩;have M:w'.heap=w.heap++w'.heap.extract w.heap.size w'.heap.size:=by
  apply Array.ext_getElem?;intro k;by_cases hk:k<w.heap.size
  ·rw[afm hk];exact U.block k hk
  . rw[Array.getElem?_append_right (by omega),Array.getElem?_extract];have hs:=U.size;split
    ·rw[show w.heap.size+(k-w.heap.size)=k by omega]
    ·exact Array.getElem?_eq_none (by omega)
 have key:∀a b:World,a.heap=b.heap->a.tape=b.tape->a.drawn=b.drawn->a.os=b.os->a.output=b.output->a=b:=by rintro⟨_,_,_,_,_⟩ ⟨_,_,_,_,_⟩ h1 N O R S;cases h1;cases N;cases O;cases R;cases S;rfl
 exact key _ _ M U.tape (by show w'.drawn=w.drawn+(w'.drawn-w.drawn);omega) U.os U.output
end Rb
namespace Go.Proofs.YteboppjdnpoglaaGreatDoor.rb
open Rb Go.Shelf Go.RowKit Go.Lib Go.Sort Go.Proofs
variable{H:Z}{Q:aa}
def Yg:Go.Shelf.Ren:=⟨λ|6=>87|15=>133|14=>132|28=>184|29=>185|20=>176|21=>177|22=>178|23=>179|24=>180|25=>181|26=>182|27=>183|46=>207|47=>208|48=>209|49=>210|50=>211|57=>228|n=>n,λ|22=>26|24=>49|25=>180|3=>3|39=>218|0=>0|53=>260|55=>47|4=>4|46=>254|45=>253|50=>81|5=>5|9=>9|66=>277|70=>281|76=>297|77=>298|n=>n,λ|n=>n⟩
theorem Nl:afn Tryz.prog Yg:={
  mixed:=by kernel_rfl
  f6 := ⟨"slices.SortFunc[[]rabbet/api.Span,rabbet/api.Span]", by decide, Tryz.func87.trans (congrArg some (by kernel_rfl))⟩
  f14 := ⟨"slices.pdqsortCmpFunc[rabbet/api.Span]", by decide, Tryz.func132.trans (congrArg some (by kernel_rfl))⟩
  f15:=Tryz.func133.trans (congrArg acK (by kernel_rfl))
  f20 := ⟨"slices.insertionSortCmpFunc[rabbet/api.Span]", by decide, Tryz.func176.trans (congrArg some (by kernel_rfl))⟩
  f21 := ⟨"slices.heapSortCmpFunc[rabbet/api.Span]", by decide, Tryz.func177.trans (congrArg some (by kernel_rfl))⟩
  f22 := ⟨"slices.breakPatternsCmpFunc[rabbet/api.Span]", by decide, Tryz.func178.trans (congrArg some (by kernel_rfl))⟩
  f23 := ⟨"slices.choosePivotCmpFunc[rabbet/api.Span]", by decide, Tryz.func179.trans (congrArg some (by kernel_rfl))⟩
  f24 := ⟨"slices.reverseRangeCmpFunc[rabbet/api.Span]", by decide, Tryz.func180.trans (congrArg some (by kernel_rfl))⟩
  f25 := ⟨"slices.partialInsertionSortCmpFunc[rabbet/api.Span]", by decide, Tryz.func181.trans (congrArg some (by kernel_rfl))⟩
  f26 := ⟨"slices.partitionEqualCmpFunc[rabbet/api.Span]", by decide, Tryz.func182.trans (congrArg some (by kernel_rfl))⟩
  f27 := ⟨"slices.partitionCmpFunc[rabbet/api.Span]", by decide, Tryz.func183.trans (congrArg some (by kernel_rfl))⟩
  f28:=Tryz.func184.trans (congrArg acK (by kernel_rfl))
  f29:=Tryz.func185.trans (congrArg acK (by kernel_rfl))
  f46 := ⟨"slices.siftDownCmpFunc[rabbet/api.Span]", by decide, Tryz.func207.trans (congrArg some (by kernel_rfl))⟩
  f47:=Tryz.func208.trans (congrArg acK (by kernel_rfl))
  f48:=Tryz.func209.trans (congrArg acK (by kernel_rfl))
  f49 := ⟨"slices.medianAdjacentCmpFunc[rabbet/api.Span]", by decide, Tryz.func210.trans (congrArg some (by kernel_rfl))⟩
  f50 := ⟨"slices.medianCmpFunc[rabbet/api.Span]", by decide, Tryz.func211.trans (congrArg some (by kernel_rfl))⟩
  f57 := ⟨"slices.order2CmpFunc[rabbet/api.Span]", by decide, Tryz.func228.trans (congrArg some (by kernel_rfl))⟩
  t0:=Tryz.underlying0
  a0:=Tryz.isAgg0
  z0:=Tryz.sizeOf0
  v0:=Tryz.zeroValue0
  t3:=Tryz.underlying3
  a3:=Tryz.isAgg3
  z3:=Tryz.sizeOf3
  v3:=Tryz.zeroValue3
  t4:=Tryz.underlying4
  a4:=Tryz.isAgg4
  z4:=Tryz.sizeOf4
  v4:=Tryz.zeroValue4
  t5:=Tryz.underlying5
  a5:=Tryz.isAgg5
  z5:=Tryz.sizeOf5
  v5:=Tryz.zeroValue5
  t9:=Tryz.underlying9
  a9:=Tryz.isAgg9
  z9:=Tryz.sizeOf9
  v9:=Tryz.zeroValue9
  t22:=Tryz.underlying26
  a22:=Tryz.isAgg26
  z22:=Tryz.sizeOf26
  v22:=Tryz.zeroValue26
  t25:=Tryz.underlying180
  a25:=Tryz.isAgg180
  z25:=Tryz.sizeOf180
  v25:=Tryz.zeroValue180
  t39:=Tryz.underlying218
  a39:=Tryz.isAgg218
  z39:=Tryz.sizeOf218
  v39:=Tryz.zeroValue218
  t45:=Tryz.underlying253
  a45:=Tryz.isAgg253
  z45:=Tryz.sizeOf253
  v45:=Tryz.zeroValue253
  t46:=Tryz.underlying254
  a46:=Tryz.isAgg254
  z46:=Tryz.sizeOf254
  v46:=Tryz.zeroValue254
  t50:=Tryz.underlying81
  a50:=Tryz.isAgg81
  z50:=Tryz.sizeOf81
  v50:=Tryz.zeroValue81
  t53:=Tryz.underlying260
  a53:=Tryz.isAgg260
  z53:=Tryz.sizeOf260
  v53:=Tryz.zeroValue260
  t55:=Tryz.underlying47
  a55:=Tryz.isAgg47
  z55:=Tryz.sizeOf47
  v55:=Tryz.zeroValue47
  t66:=Tryz.underlying277
  a66:=Tryz.isAgg277
  z66:=Tryz.sizeOf277
  v66:=Tryz.zeroValue277
  t70:=Tryz.underlying281
  a70:=Tryz.isAgg281
  z70:=Tryz.sizeOf281
  v70:=Tryz.zeroValue281
  t76:=Tryz.underlying297
  a76:=Tryz.isAgg297
  z76:=Tryz.sizeOf297
  v76:=Tryz.zeroValue297
  t77:=Tryz.underlying298
  a77:=Tryz.isAgg298
  z77:=Tryz.sizeOf298
  v77:=Tryz.zeroValue298}
theorem Nn{F:dE}{w:World}{G:aW}(p:Int×Int):VR F w G (.agg (aD p)) (.agg (gW p).toArray):=by
 refine .agg _ _ rfl λj c V hc a=>?_;rcases j with _|_|j
 ·simp[aD,gW]at hc a;subst hc a;exact .int _ _
 ·simp[aD,gW]at hc a;subst hc a;exact .int _ _
 ·simp[aD]at hc
set_option maxRecDepth 100000 in
theorem Yh{id:Nat}{cs:List I}{l:List (Int×Int)}(h:At H id (.row cs))(hc:cs.take (l.length*2)=l.flatMap aD)(hl:l.length<4611686018427387904)(hQ:Q (.aA []) (H.set id (.row ((eL l).flatMap aD++cs.drop (l.length*2))))):ai C 87 [.row id 0 l.length 2,.fn 88 []] H Q:=by
 refine⟨⟨_,_,hQ⟩,λf hf G W Vs hG d p=>?_⟩;obtain rfl:f=87:=by
  have:C.F 87=acK 87:=by kernel_rfl
  rw[this]at hf;exact(aaC.inj hf).symm
 obtain⟨q,hv⟩:=p;obtain⟨r⟩:=Vs
 match r,q with
 | [i,k],_=>
  have s:=hv 0 _ i rfl rfl;have h1:=hv 1 _ k rfl rfl;obtain ⟨cap,rfl⟩:∃cap,i = .slice (acK ⟨G.loc id,0,acL⟩) l.length cap:=by
   cases s with
   |row _ _ _ _ cap h hle hc=>exact⟨cap,rfl⟩
  have e1:k = .func (.func 88) #[] #[]:=by
   cases h1 with
   | fn _ _ f Vs hk hf hl hv=>
    have:C.F 88=acK 88:=by kernel_rfl
    rw[this]at hf;cases hf;have:Vs = #[]:=Array.eq_empty_of_size_eq_zero (by rw[<-hl];rfl);rw[this]
  subst e1;obtain⟨g1,g2⟩:=Yc d h.2 hc;have t:CmpLays Tryz.prog 88 #[] gW 2 mM (G.loc id) 0 l.toArray.size W:=by
   intro m os g u x y;obtain⟨b,st⟩:=Nk d h.2 hc (l':=g.toList) (by simpa using u) m os;have z:g.toList.toArray=g:=by simp
   rw[z]at b st;refine(ai.flat (C:=C) km (key:=88) (args:=[.agg (aD x),.agg (aD y)]) (v:= .int .i64 (mM x y)) (by kernel_rfl) rfl rfl (hG.step st) b ⟨rfl,λj c V hc a=>?_⟩ λQ hQ=>VY km n_ (hQ _)).mono λe w' ⟨V,G',he,a,_,_,_,_,A⟩=>⟨by rw[he,a.hV],A⟩
   rcases j with _|_|j
   ·simp at hc a;subst hc a;exact Nn x
   ·simp at hc a;subst hc a;exact Nn y
   ·simp at hc
  have B:∀args w,(callFunc 88 args).run Tryz.prog w = .ok (.enter 88 args) w:=enters_of Tryz.func88 (by kernel_rfl) rfl;have o:=AnyQ.slices_SortFunc_total Nl 2 Tryz.isAgg49 Tryz.sizeOf49 gW (λ_=>rfl) (λx v hv=>by simp[gW]at hv;rcases hv with rfl|rfl<;>rfl) mM Yd 88 #[] (G.loc id) 0 cap l.toArray W B t g1 g2 (by simpa using hl) Ye;change Calls Tryz.prog 87 _ W _ at o;refine o.mono λe w' ⟨he,n,os,hw⟩=>?_;subst hw;obtain⟨b,st⟩:=Nk d h.2 hc (oa l) n os;rw[<-Yf]at b st hQ;exact⟨_,_,_,G,he,hQ,.aA [] #[] rfl λj c V hc=>by simp at hc,b,st⟩
theorem Yi{tk:Rb.Tok}(hQ:Q (.aA []) H):ai C 87 [.aq tk 0 [],.fn 88 []] H Q:=by
 refine⟨⟨_,_,hQ⟩,λf hf G W Vs hG i k=>?_⟩;obtain rfl:f=87:=by
  have:C.F 87=acK 87:=by kernel_rfl
  rw[this]at hf;exact(aaC.inj hf).symm
 obtain⟨l,hv⟩:=k;obtain⟨m⟩:=Vs
 match m,l with
 | [d,n],_=>
  have q:=hv 0 _ d rfl rfl;obtain ⟨p,cap,rfl⟩:∃p cap,d = .slice p 0 cap:=by
   cases q with
   |gX=>exact⟨_,_,rfl⟩
   |gg a cap=>exact⟨_,_,rfl⟩
   |aq _ _ _ b o cap r s hle h hv=>exact⟨_,_,rfl⟩
  have g:=AnyF.slices_SortFunc_none Nl p cap n W;change Calls Tryz.prog 87 _ W _ at g;refine g.mono λe w' ⟨he,hw⟩=>?_;subst hw;exact⟨_,_,H,G,he,hQ,.aA [] #[] rfl λj c V hc=>by simp at hc,i,Step.refl _ _ _⟩
theorem Np:nu (ai C):=⟨λh hc hl hQ=>Yh h hc hl hQ,λhQ=>Yi hQ⟩
end Go.Proofs.YteboppjdnpoglaaGreatDoor.rb
namespace Go.Proofs.YteboppjdnpoglaaGreatDoor.rb
open Go Go.Proofs Go.RowKit Go.Shelf Rb
variable{w:World}{G:aW}{V:Value}
attribute [local go_sem] afd
def Yj:Code->Bool
 | .region _ ops _=>ops.toList.all λo=>match o.op with | .defer _=>acJ|_=>acI
 |_=>acJ
theorem Nq{c:Code}(h:Yj c=acI):qh c:=by
 cases c with
 | region id ops b=>intro o a c e;have:=abh.1 h o a;rw[e]at this;cases this
 |_=>cases h
theorem C0:C.F 34=acK 34:=by kernel_rfl
theorem Yk{x:I}(h:VR C.F w G (.fn 34 [x]) V):∃X,V = .func (.func 34) #[] #[X]/\VR C.F w G x X:=by
 generalize hY:I.fn 34 [x]=Y at h;cases h with
 | fn key cd f Vs hk hF hs hv=>
  cases hY;rw[C0]at hF;cases hF;obtain⟨a⟩:=Vs
  match a,hs with
  |[X],_=>exact⟨X,rfl,hv 0 x X rfl rfl⟩
 |_=>cases hY
theorem Yl{H:Z}(a:c9 C w G H):c9 C w (aW.mt G.fz) Z.mt:=a.mt (λg l b=>lH (G:=G) (G':=aW.mt G.fz) (λ_ _ h=>h) (λ_ _ _ _ h=>h) (by simp only[I.bu];exact km g l b) (a.1 g l b)) λi hi=>by cases hi
theorem Ym{v:I}(hf:v.bu=acI)(h:VR C.F w G v V):VR C.F w (aW.mt G.fz) v V:=lH (G:=G) (G':=aW.mt G.fz) (λ_ _ h=>h) (λ_ _ _ _ h=>h) hf h
theorem Yn{fz:Nat->Nat->Prop}{N:Nat}{W:World}{l:Nat}{o:Loop}{x:List Int}{V:Array Value}(hl:W.heap[l]?=acK (.loop o))(h:oH C.F fz N W x V)(d:Loop):oH C.F fz N (W.putObj l (.loop d)) x V:=by
 obtain⟨f,c,rfl,h1,g⟩:=h;have i:∀b k,c b k->b≠l:=λb k hf e=>by obtain⟨V,a⟩:=(h1 b k hf).2;unfold ada at a;rw[e,hl]at a;cases a
 have hc:∀b k V,c b k->W.cell? ⟨b,k,acL⟩=acK V->(W.putObj l (.loop d)).cell? ⟨b,k,acL⟩=acK V:=λb k V hf a=>by rw[aa3 (w:=W) (aeY (i b k hf))];exact a
 exact⟨f,c,rfl,λb k hf=>⟨(h1 b k hf).1,by obtain⟨V,a⟩:=(h1 b k hf).2;exact⟨V,hc b k V hf a⟩⟩,g.mono ⟨hb _,λ_ _=>rfl,λ_ _=>rfl,λ_ _ h=>h,hc⟩⟩
theorem Yo(Φ:ad)(a0 M a b a8 c du db dj dh dq d dv f y:I)(H:Z)(Rr:Z->Prop):dk Φ M3 (ee a0 M a b a8 c du db dj dh dq d dv f .bot) H (λg e H=>g = .normal/\Rr H/\e.getD 6 .bot=y/\e.getD 7 .bot = .bool acI)=(Do (aj H 1 acJ dq) λx=>hU.normal = .normal/\Rr H/\x=y/\I.bool acI = .bool acI):=by kernel_rfl
theorem Nr:∀l:List (Int×Int),I.ec (l.flatMap aD)=l.flatMap aD
 |[]=>rfl
 | x::r=>by rw[ac0,lJ,aed,<-lJ,<-lJ,Nr r];rfl
set_option maxRecDepth 100000 in
set_option maxHeartbeats 4000000 in
theorem Yp(iq:∀x,bD (ai C) 93 [.str x] (.bool (bx x))){p:dy}(hp:p.ok)(hz:∀t∈p.cO,cS t<=100000000000){n k:Int}(au : -9223372036854775808<=k/\k<=9223372036854775807)
  (ac:∀m∈cq p n,eX m.kind=acI->m.pl.ok/\m.pl.ax.length<=1000000) (a:cq p n≠[]->fS p.vars) (aw:∀m∈cq p n,eX m.kind=acI->∀c∈cp p.vars m.pl.var [] m.pl.ax,1<=c/\c<=65536)
  (ay:cq p n≠[]->∀ba,fI p.vars (ck 0 p.vars)=acK ba->ba.length<=9223372036854775806) {Q:aa} (hQ:∀H',Q (.aA [av aD (dd p n k).1,.bool (dd p n k).2]) H'):ai C 4 [.agg p.cells,.int .i64 n,.int .i64 k] Z.mt Q:=by
 refine⟨⟨_,Z.mt,hQ _⟩,λf hf G w Vs hG az ad=>?_⟩;obtain rfl:f=4:=by
  have:C.F 4=acK 4:=by kernel_rfl
  rw[this]at hf;exact(aaC.inj hf).symm
 have ag:Vs.size=3:=ad.1.symm;refine(callsIn_wide (n:=60)).1 ?_;refine callsIn_of_wp_marks Tryz.func4 rfl trivial ?_ rfl;refine wpIn_wide.2 ?_;have hn:(∀fn:Func,fn.ntmps=91->be C.F w G (ee (.agg p.cells) (.int .i64 n) (.int .i64 k) .bot .bot .bot .bot .bot .bot .bot .bot .bot .bot .bot .bot) (Vs++Array.replicate (fn.ntmps-Vs.size) undef)):=λfn aB=>by
  refine be.app (cs:=[.agg p.cells,.int .i64 n,.int .i64 k]) (cs':=KT 88 .bot) ad ⟨by rw[aB,ag];simp,λj c V hc a=>?_⟩;rw[acN]at hc;split at hc
  ·cases hc;exact .bot _
  ·cases hc
 refine X_ (C:=C) (pf _ _) km n_ iq Np hp hz au ac a (by kernel_rfl) (by kernel_rfl) (by kernel_rfl) (by kernel_rfl) (by kernel_rfl) (by kernel_rfl) (by kernel_rfl) (by kernel_rfl) (by kernel_rfl) (by kernel_rfl) (by kernel_rfl) ⟨hG,az,hn _ rfl,rfl,Step.refl _ _ _⟩ (by simp[ag,Tryz.ntmps4]) ?ret ?tail
 case ret=>
  intro aP H' G' a' w' s z M O he;show LeavesInM _ _ _ _ _ _ a'.defers _ _;rw[s.d];refine⟨_,results_tmp2 rfl _ _ _,_,_,H',G',rfl,hQ H',?_,s.r,s.s⟩;have v6:=ly (t:=6) s.v;have u:=ly (t:=7) s.v;rw[M,abz]at v6;rw[O,abz]at u;have L:VR C.F w' G' (av aD []) (a'.tmps[6]?.getD undef):=v6.cU;rw[he];refine .aA _ _ rfl λj c V hc a=>?_
  match j,hc,a with
  |0,hc,a=>simp at hc a;subst hc a;exact L
  |1,hc,a=>simp at hc a;subst hc a;exact u
  |j+2,hc,_=>simp at hc
 case tail=>
  intro m v ba G' a' w' g hw hv hl aC s z;have ah:=aw m g hw;obtain⟨aE,a1⟩:=ac m g hw;have ak:=a λe=>by rw[e]at g;cases g
  obtain⟨hlen,a2,a4⟩:=DD _ 1 v ah (by decide) (by decide) hv;have a5:(cB (cp p.vars m.pl.var [] m.pl.ax)).length<=4096:=by simp at hlen;omega
  refine wp_block ?_;refine(wpIn_wide (n:=60)).1 ?_;have v72:=ly (t:=72) s.v;obtain⟨X,aF,aG⟩:=Yk v72;have am:∀b o,G'.fz b o->b<w'.heap.size:=λb o hf=>by obtain⟨V,a⟩:=s.r.e_ b o hf;exact aa4 w' _ a
  have aH:∀i,((((Z.mt.push (.row m.wk)).push (.row [av aD ba])).push (.row [.aq .nil 0 []])).o i).live=acI->∃cs,(((Z.mt.push (.row m.wk)).push (.row [av aD ba])).push (.row [.aq .nil 0 []])).o i = .row cs:=by
   intro i hi;by_cases an:i=2
   ·subst an;exact⟨_,rfl⟩
   by_cases e1:i=1
   ·subst e1;exact⟨_,rfl⟩
   by_cases e0:i=0
   ·subst e0;exact⟨_,rfl⟩
   exfalso;have:(((Z.mt.push (.row m.wk)).push (.row [av aD ba])).push (.row [.aq .nil 0 []])).o i = .gone:=by show(if i=2 then _ else if i=1 then _ else if i=0 then _ else _)=_;rw[af an,af e1,af e0];rfl
   rw[this]at hi;cases hi
  have zp:mL p.vars m ba 0 1 2 [] (((Z.mt.push (.row m.wk)).push (.row [av aD ba])).push (.row [.aq .nil 0 []])):=
   ⟨⟨by show 0<3;decide,rfl⟩,⟨by show 1<3;decide,rfl⟩,⟨_,⟨by show 2<3;decide,rfl⟩,cc.nil _ _ _⟩,by decide,by decide⟩
  refine Xc (S:=λb=>∃o,G'.fz b o) (by decide) (gf:=34) (lb:= #[X]) (arg:=oH C.F G'.fz) (xs:=cB (cp p.vars m.pl.var [] m.pl.ax)) aF (enters_of Tryz.func34 (by kernel_rfl) rfl)
   (λk ⟨o,hf⟩=>am k o hf)
   (Xn _ (fz:=G'.fz) (λb o hf=>⟨⟨o,hf⟩,s.r.e_ b o hf⟩) (λk ⟨o,hf⟩=>am k o hf) (Yl s.x) (Ym (by simp only[I.bu,I.bV,aea,ko (cells:=cG) (λ_=>rfl)]) aG) (λc hc=>by have:=ah c hc;omega) (by have h9:=sZ p.vars m.pl.var m.pl.ax [];omega))
   ?aI ?aJ (λN W l o x V h1 E P=>Yn h1 E P)
   (λN b pre W=>j6 C p m ba w' G' _ _ a'.tmps N b pre W) (λN b pre W l o P hi hB aK R=>hi.put P hB aK R) (λN b q A B hi ht=>hi.turn ht)
   (λb W' U R hle aL=>⟨_,hb _,j6.start s.x s.r zp s.v U R hle aL⟩)
   (λV=>⟨(a'.tmps.setIfInBounds 73 (V.getD 0 undef)).setIfInBounds 17 (V.getD 0 undef),[]⟩) ?assign ?body ?done
  case aI=>rintro N W x V ⟨J,fz,rfl,_⟩;rfl
  case aJ=>rintro N N' W x V hN ⟨J,fz,rfl,h1,E⟩;exact⟨J,fz,rfl,λb o hf=>⟨(h1 b o hf).1.imp id λh=>sl hN h,(h1 b o hf).2⟩,E⟩
  case assign=>
   intro l V W K a aM;obtain⟨aN⟩:=V
   match aN,a with
   | [J],_=>
    gi_wp2
    exact aM
  case body=>
   intro l N b pre x V W hW U aO hi aQ ha;obtain⟨J,fz,rfl,h1,E⟩:=ha;refine hi.round (pf _ _) km n_ aH s.r z aO ⟨J,fz,rfl,h1,E⟩ (by have:=ak.l;omega) ak.o aE (ay (λe=>by rw[e]at g;cases g) _ hl) ?_ (by kernel_rfl) (by kernel_rfl) ?_ ?_ (λk hk=>hk)
   . obtain⟨t,ht⟩:=aQ;have:=congrArg afh ht;simp at this;omega
   ·exact Nq (by kernel_rfl)
   ·exact Nq (by kernel_rfl)
  case done=>
   rintro D N b W aR ⟨⟨aS,H2,g1,g2,g3,g4,g5,g6,g7⟩,U,hN⟩ T;show ae3 Tryz.prog _ _ _ W;refine wp_seq ?_;obtain⟨y,aT,aU⟩:=g3.jl;refine Ya (C:=C) (pf _ _) (ds:=[{target:= .collected D,args:= #[]}]) (al:=[⟨acK 90,.load 1 acJ (.t 16),acL⟩,⟨acK 6,.mv (.t 90),acL⟩,⟨acK 7,.mv (.k (.bool acI)),acL⟩]) (by kernel_rfl) (K:=λe H'=>H'=H2/\e.getD 6 .bot=y/\e.getD 7 .bot = .bool acI) (H:=H2) (G:=aS) ?_ g1 g2 g4 (by rw[s.d]) ?_
   . show dk (ai C) M3 _ H2 _;rw[Yo (ai C) (.agg p.cells) (.int .i64 n) (.int .i64 k) (.ae p.cells) (av bH.wk (cq p n)) (.ptr 0 0) (.int .i64 v) (av cG (cp p.vars m.pl.var [] m.pl.ax)) (.ptr 1 0) (.int .i64 0) (.ptr 2 0) .bot .bot (.fn 34 [.ae [av cG (cp p.vars m.pl.var [] m.pl.ax)]]) y H2 (λH'=>H'=H2)];have aV:aj H2 1 acJ (.ptr 2 0)=acK y:=by rw[aT.load];rfl
     rw[aV];exact⟨_,rfl,rfl,rfl,rfl,rfl⟩
   rintro aP H' ao a3 w3 ⟨rfl,M,O⟩ aW Y ap aX lN a6;refine wp_ret ?_;show LeavesInM _ _ _ _ _ _ a3.defers _ _;rw[aX];have ab:w3.heap[D]?=acK (.deferred (acK [])):=(lN.d_ D (aa5.1 T).1 λi hi=>zu (g2.obj i) hi T (.inr ⟨_,rfl⟩)).trans T;refine⟨by simp,.inl ⟨D,_,rfl,run_takeDeferred ab,?_⟩⟩;have hblk:∀k,k<w3.heap.size->k≠D->(w3.putObj D (.deferred acL)).heap[k]?=w3.heap[k]?:=λk _ aY=>aeY aY;obtain⟨a7,aZ,ar⟩:=zv aW Y hblk (λi hi=>zu (Y.obj i) hi ab (.inr ⟨_,rfl⟩)) (Ni Y ab (.inr ⟨_,rfl⟩));refine⟨_,results_tmp2 rfl _ _ _,_,_,H',ao,rfl,hQ H',?_,aZ,zw (s.s.trans (g5.trans lN)) ar (by simp) rfl rfl rfl (hb _) hblk (sl s.s.size aR)⟩;have v6:=ly (t:=6) ap;have u:=ly (t:=7) ap;rw[M,abz]at v6;rw[O,abz]at u;have L:=v6.cU;obtain⟨tk,a0,_⟩:=aU;rw[a0,show(I.aq tk (cB (cp p.vars m.pl.var [] m.pl.ax)).length ((afo (gG p.vars m.pl ba) (cB (cp p.vars m.pl.var [] m.pl.ax))).flatMap aD)).cU = .aq .dead (cB (cp p.vars m.pl.var [] m.pl.ax)).length ((afo (gG p.vars m.pl ba) (cB (cp p.vars m.pl.var [] m.pl.ax))).flatMap aD) by simp only[I.cU,Nr],<-abI (f:=gG p.vars m.pl ba)]at L;rw[aC];refine(VR.aA _ _ rfl λj c V hc a=>?_:VR C.F w3 ao _ _).mono ar
   match j,hc,a with
   |0,hc,a=>simp at hc a;subst hc a;exact L
   |1,hc,a=>simp at hc a;subst hc a;exact u
   |j+2,hc,_=>simp at hc
end Go.Proofs.YteboppjdnpoglaaGreatDoor.rb
namespace Rb
open Go
variable{p:dy}{x:aJ}
def mb(vars:List aB)(m:bH):Prop:=(m.kind≠7->m.place.ok/\(bG vars m.place).1=0/\ga (B m.kind) (bG vars m.place).2=acI)/\(m.kind=7->m.place.ok/\m.place.ax=[])/\3<=m.kind/\m.kind<=18
section
variable{vars:List aB}
mutual
theorem Yq:∀(e:E)(L:List (List UInt8)) (l:Int),e.ok->vE vars L e->∀m∈gE l e,mb vars m
 | .mk kind n V op a_ place br,L,l,a,hv,m,hm=>by
  rw[gE]at hm;have j:=a;rw[E.ok]at a;obtain⟨hk,_,_,_,_,hp,_,d⟩:=a;have f:=(Lq vars L _).1 hv;obtain⟨v1,v2,v3,v4,v5⟩:=f;obtain⟨f1,f2,f3,_⟩:=oz v1;have f1:1<=kind:=f1;have f2:kind<=8:=f2;rcases acf.1 hm with hm|hm
  . rcases acf.1 hm with hm|hm
    . by_cases b:kind>=4
      ·exact Ns place L _ l hp (v4 b) m hm
      . have g:place.ax=[]:=f3 (by show kind<=3;omega);rw[nt,g]at hm;cases hm
    ·exact zx br L l d v5 m hm
  . by_cases b:kind>=4
    . rw [ab b]at hm;rw[aeH]at hm;subst hm;refine⟨λ_=>?_,λe=>?_,by show 3<=10+kind;omega,by show 10+kind<=18;omega⟩
      . obtain⟨h,i,_⟩:=(nl vars L _ _).1 (v4 b);exact⟨hp,h,i⟩
      . have e:10+kind=7:=e;omega
    ·rw[af b]at hm;cases hm
theorem zx:∀(es:List E)(L:List (List UInt8)) (l:Int),E.dX es->iv vars L es->∀m∈dD l es,mb vars m
 |[],L,l,a,hv,m,hm=>by rw[dD]at hm;cases hm
 | e::r,L,l,a,hv,m,hm=>by
  rw[dD]at hm;rw[E.dX]at a;rw[iv]at hv;rcases acf.1 hm with hm|hm
  ·exact Yq e L l a.1 hv.1 m hm
  ·exact zx r L l a.2 hv.2 m hm
theorem Ns:∀(x:aJ)(L:List (List UInt8)) (k l:Int),x.ok->vP vars L k x->∀m∈gw l x,mb vars m
 | .mk var ax,L,k,l,a,hv,m,hm=>by rw[gw]at hm;rw[aJ.ok]at a;rw[vP]at hv;exact Nt ax L l a.2.2 hv.2.2 m hm
theorem Nt:∀(c:List aI)(L:List (List UInt8)) (l:Int),aI.dX c->l9 vars L c->∀m∈gV l c,mb vars m
 |[],L,l,a,hv,m,hm=>by rw[gV]at hm;cases hm
 | p::r,L,l,a,hv,m,hm=>by
  rw[gV]at hm;rw[aI.dX]at a;rw[l9]at hv;rcases acf.1 hm with hm|hm
  ·exact Yr p L l a.1 hv.1 m hm
  ·exact Nt r L l a.2 hv.2 m hm
theorem Yr:∀(p:aI)(L:List (List UInt8)) (l:Int),p.ok->vR vars L p->∀m∈mH l p,mb vars m
 | .mk field aS,L,l,a,hv,m,hm=>by rw[mH]at hm;rw[aI.ok]at a;rw[vR]at hv;exact zx aS L l a.2.2 hv m hm
end
mutual
theorem Ys:∀(x:aC)(L:List (List UInt8)),x.ok->vS vars L x->∀m∈j2 x,mb vars m
 | .mk kind ay V b9 a_ place bn aZ bw,L,a,hv,m,hm=>by
  rw[j2]at hm;rw[aC.ok]at a;obtain⟨_,_,_,_,_,hp,_,he,_,ht,_,hl⟩:=a;obtain⟨v1,v2,v3,v4,v5,v6,d,e,v9⟩:=(Lr vars L _).1 hv;obtain⟨f1,f2,f3,f4,f5,f6⟩:=LG v1;rcases acf.1 hm with hm|hm
  . rcases acf.1 hm with hm|hm
    . rcases acf.1 hm with hm|hm
      . by_cases b:3<=kind/\kind<=6
        ·exact Ns place L _ ay hp (v6 b) m hm
        . have f:place.ax=[]:=f3 b;rw[nt,f]at hm;cases hm
      ·exact zx bn L ay he d m hm
    . by_cases b:3<=kind/\kind<=7
      . rw[ab b,aeH]at hm;subst hm;refine⟨λc=>?_,λc=>⟨hp,f3 λq=>by have c:kind=7:=c;have i:kind<=6:=q.2;omega⟩,b.1,by show kind<=18;omega⟩;have c:kind≠7:=c;obtain⟨g,h,_⟩:=(nl vars L _ _).1 (v6 ⟨b.1,by show kind<=6;omega⟩);refine⟨hp,g,?_⟩;show ga (B kind) _=acI;rw[show B kind=kind from bo];exact h
      ·rw[af b]at hm;cases hm
  . rcases acf.1 hm with hm|hm
    ·exact zy aZ L ht e m hm
    ·exact zy bw L hl v9 m hm
theorem zy:∀(xs:List aC)(L:List (List UInt8)),aC.dX xs->vB vars L xs->∀m∈ey xs,mb vars m
 |[],L,a,hv,m,hm=>by rw[ey]at hm;cases hm
 | x::r,L,a,hv,m,hm=>by
  rw[ey]at hm;rw[aC.dX]at a;rw[vB]at hv;rcases acf.1 hm with hm|hm
  ·exact Ys x L a.1 hv.1 m hm
  ·exact zy r _ a.2 hv.2 m hm
end
end
theorem DF{k:Int}(h:eX k=acI):k≠7:=by rintro rfl;revert h;decide
theorem DG(hp:p.ok){n:Int}{m:bH}(h:m∈cq p n):(eO bx p).2=0/\fS p.vars/\mb p.vars m:=by
 unfold cq at h;by_cases hc:(eO bx p).2≠0\/n<0\/(p.cO.length:Int)<=n
 ·rw[ab hc]at h;cases h
 . rw [af hc]at h;have a:(eO bx p).2=0:=by
    by_cases e:(eO bx p).2=0
    ·exact e
    ·exact absurd (.inl e) hc
   obtain⟨d,hB⟩:=Mp hp a;have b:n.toNat<p.cO.length:=by omega
   have c:p.cO.getD n.toNat []∈p.cO:=by rw[abD,abb b];exact List.getElem_mem b
   exact⟨a,d,zy _ [] (aC.eG.2 (hp.2.2 _ c).2) (hB _ c) m h⟩
theorem Nu{m:Nat}:∀{l:List aE},∀f∈l,dz m f.type<=eS m l
 |[],f,h=>by cases h
 | g :: r,f,h=>by
  rw[eS];rcases aco.1 h with rfl|h
  . have:ob m f=dz m f.type:=by cases f;rw[ob]
    omega
  . have:=Nu (m:=m) f h;omega
theorem Nv{m:Nat}:∀{l:List X},∀e∈l,dz m e<=eF m l
 |[],e,h=>by cases h
 | g :: r,e,h=>by
  rw[eF];rcases aco.1 h with rfl|h
  ·omega
  . have:=Nv (m:=m) e h;omega
theorem Nw:∀(r:List aI)(t:X)(m:Nat),t.lay->dz m t<m->(cj t r).1=0->(r.length:Int)+1<=m
 | [],t,m,_,a,_=>by
  have:0<m:=by
   rcases Nat.eq_zero_or_pos m with rfl|h
   ·cases t;rw[dz,cw]at a;exact absurd a (by decide)
   ·exact h
  simp;omega
 | p :: r,t,m,h,a,hp=>by
  obtain⟨d,c⟩:=j0 hp;have sub:∀e:X,e.lay->(c6 t p).2=e->(1<m->dz (m-1) e<=max (eS (m-1) t.Y) (eF (m-1) t.aK))->((p::r).length:Int)+1<=m:=by
   intro e he g i;have h1:1<m:=by
    rcases Nat.lt_or_ge 1 m with h|h
    ·exact h
    . exfalso;cases t;rw[dz,bL]at a;omega
   have o:=i h1;have ht:dz m t=max (eS (m-1) t.Y) (eF (m-1) t.aK)+1:=by cases t;rw[dz,ab h1]
   rw[g]at c;have:=Nw r e (m-1) he (by omega) c;simp;omega
  rcases kv h d with⟨q,j,e,s,he,b,k⟩|⟨u,j,n2,f,s2,f1,f2,f3,b,n⟩
  . refine sub e k (by rw[b]) λh1=>?_;have:=Nv (m:=m-1) (l:=t.aK) e (by rw[he];exact acs ..);omega
  . refine sub f.type n (by rw[b]) λh1=>?_;have:=Nu (m:=m-1) (l:=t.Y) f (adq f2);omega
theorem s_{vars:List aB}(a:fS vars)(h:(bG vars x).1=0):∃v,vars.find? (λv=>v.V==x.var)=acK v/\v∈vars/\v.type.lay/\bG vars x=cj v.type x.ax:=by
 unfold bG at h ⊢;cases hv:vars.find? (λv=>v.V==x.var)with
 |none=>rw[hv]at h;cases h
 | some v=>rw[hv]at h;dsimp only at h ⊢;have hm:=afp hv;have hl:=mA (a.o v hm).2 (a.z v hm);refine⟨v,rfl,hm,hl,?_⟩;rw[af (λq=>q hl.snd)]
theorem zz{vars:List aB}(a:fS vars)(h:(bG vars x).1=0):x.ax.length<=64:=by
 obtain⟨v,_,_,hl,e⟩:=s_ a h;rw[e]at h;have b:dz 65 v.type<65:=by
  have:=hl.snd;unfold dK at this;by_cases hc:64<dz 65 v.type
  ·rw[ab hc]at this;cases this
  ·omega
 have:=Nw x.ax v.type 65 hl b h;omega
theorem DH:∀(a b:List aI)(t:X),(cj t a).1=0->cj t (a++b)=cj (cj t a).2 b
 |[],b,t,_=>by rw[aeh,cj]
 | p::r,b,t,h=>by obtain⟨h1,c⟩:=j0 h;rw[abZ,cj,cj,bL,bL];exact DH r b _ c
theorem Nx{vars:List aB}{a:List UInt8}{v:aB}(b:fS vars)(hv:vars.find? (λv=>v.V==a)=acK v){done:List aI}{t:X}(c:cj v.type done=(0,t)):kt vars ⟨a,done⟩=t.bg:=by
 have d:dK v.type=0:=(mA (b.o v (afp hv)).2 (b.z v (afp hv))).snd;have e:bG vars ⟨a,done⟩=(0,t):=by unfold bG;show(match vars.find? (λv=>v.V==a)with|none=>((6,⟨0,0,acJ,[],0,[]⟩):Int×X)|some v=>if dK v.type≠0 then(dK v.type,v.type)else cj v.type done)=_;rw[hv];show(if dK v.type≠0 then(dK v.type,v.type)else cj v.type done)=_;rw[af (λq=>q d),c]
 unfold kt;rw[e];rfl
theorem DI{vars:List aB}{j:List UInt8}{v:aB}(k:fS vars)(hv:vars.find? (λv=>v.V==j)=acK v):∀(r done:List aI)(t:X),t.lay->cj v.type done=(0,t)->(cj t r).1=0->∀c∈cp vars j done r,1<=c/\c<=65536
 |[],done,t,_,_,_,c,hc=>by rw[cp]at hc;cases hc
 | p :: r,done,t,h,d,hp,c,hc=>by
  obtain⟨g,o⟩:=j0 hp;have s:=Nx k hv d;have u:cj v.type (done++[p])=(0,(c6 t p).2):=by rw[DH _ _ _ (by rw[d]),d];show cj t [p]=_;rw[cj,af (λq=>q g),cj]
  rw[cp]at hc;rcases acf.1 hc with hc|hc
  . rcases kv h g with⟨i,b,e,w,he,a,l⟩|⟨m,b,n2,f,s2,f1,f2,f3,a,n⟩
    . rw[af (by intro e;rw[e]at i;cases i),aeH]at hc;obtain⟨c1,c2,_⟩:=sX h b he;rw[hc,s];exact⟨c1,c2⟩
    ·rw[ab m]at hc;cases hc
  . have x:(c6 t p).2.lay:=by
      rcases kv h g with⟨i,b,e,w,he,a,l⟩|⟨m,b,n2,f,s2,f1,f2,f3,a,n⟩
      ·rw[a];exact l
      ·rw[a];exact n
    exact DI k hv r (done++[p]) _ x u o c hc
theorem Ny:∀(r:List aB)(s:List bj)(l:List (Int×Int)),fI r s=acK l->l.length<=4096*r.length
 | [],s,l,h=>by
  rw[fI]at h
  ·cases h;simp
  ·intros;simp_all
 | v::r,[],l,h=>by
  rw[fI]at h
  ·cases h;simp
  ·intros;simp_all
 | v :: r,g::s,l,h=>by
  rw[fI]at h;by_cases a:(e4 v.type).2≠0
  ·rw[ab a]at h;cases h
  . rw [af a]at h;cases hw:fI r s with
    |none=>rw[hw]at h;cases h
    | some l'=>rw[hw]at h;simp only[aaD,aaC.injEq]at h;subst h;have h1:=MI (t:=v.type) (by omega);have b:=Ny r s l' hw;simp only[adm,abI,adN];omega
theorem zA(hp:p.ok)(n:Int):(∀m∈cq p n,eX m.kind=acI->m.pl=m.place/\m.pl.ok/\m.pl.ax.length<=64/\∀c∈cp p.vars m.pl.var [] m.pl.ax,1<=c/\c<=65536)/\(cq p n≠[]->fS p.vars)/\(fS p.vars->∀ba,fI p.vars (ck 0 p.vars)=acK ba->ba.length<=131072):=by
 refine⟨λm hm hw=>?_,λh=>?_,λa ba hl=>?_⟩
 . have e:m.pl=m.place:=by unfold bH.pl;rw[af (DF hw)]
   obtain⟨_,a,ha⟩:=DG hp hm;obtain⟨h1,b,_⟩:=ha.1 (DF hw);rw[e];obtain⟨v,hv,_,hl,d⟩:=s_ a b;exact⟨rfl,h1,zz a b,DI a hv m.place.ax [] v.type hl (by rw[cj]) (by rw[<-d];exact b)⟩
 . obtain⟨m,hm⟩:=List.exists_mem_of_ne_nil _ h;exact(DG hp hm).2.1
 . have:=Ny _ _ _ hl;have:=a.l;omega
end Rb
namespace Go.Proofs.YteboppjdnpoglaaGreatDoor.rb
open Go Rb
noncomputable section
def Nz:List (Nat×List I×I):=[
  (217,[.int .u8 (.ofNat 32)],.bool acJ),
  (137,[.str [118,97,114,32,116,104,114,101,97,100,32,115,116,114,117,99,116,32,117,110,105,111,110,32,112,97,99,107,101,100,32,117,56,32,117,49,54,32,117,51,50,32,117,54,52,32,97,56,32,97,49,54,32,97,51,50,32,97,54,52,32,97,49,50,56,32,108,101,116,32,115,101,116,32,119,114,105,116,101,32,115,116,111,114,101,32,108,111,97,100,50,32,115,116,111,114,101,50,32,102,101,110,99,101,32,105,102,32,101,108,115,101,32,119,104,105,108,101,32,112,114,105,110,116,32,114,101,97,100,32,108,111,97,100,32,97,100,100,32,115,119,97,112,32,99,97,115,32,114,108,120,32,97,99,113,32,114,101,108,32,115,99]],.aq .dead 34 [.str [118,97,114],.str [116,104,114,101,97,100],.str [115,116,114,117,99,116],.str [117,110,105,111,110],.str [112,97,99,107,101,100],.str [117,56],.str [117,49,54],.str [117,51,50],.str [117,54,52],.str [97,56],.str [97,49,54],.str [97,51,50],.str [97,54,52],.str [97,49,50,56],.str [108,101,116],.str [115,101,116],.str [119,114,105,116,101],.str [115,116,111,114,101],.str [108,111,97,100,50],.str [115,116,111,114,101,50],.str [102,101,110,99,101],.str [105,102],.str [101,108,115,101],.str [119,104,105,108,101],.str [112,114,105,110,116],.str [114,101,97,100],.str [108,111,97,100],.str [97,100,100],.str [115,119,97,112],.str [99,97,115],.str [114,108,120],.str [97,99,113],.str [114,101,108],.str [115,99]])]
theorem Yt:forced (nR (qX []) Nz)=acI:=by kernel_rfl
theorem Yu:h0 (ai C) (gS (Nz++[])):=qU km (uz ux) ux (er Yt)
theorem Yv(x:List UInt8):bD (ai C) 93 [.str x] (.bool (bx x)):=Wh km n_ (λH Q hQ=>Yu 137 [.str L2] (.aq .dead 34 (iy.map .str)) (by kernel_rfl) H Q hQ) x
theorem DJ{p:dy}(hp:p.ok)(hz:∀t∈p.cO,cS t<=100000000000)(n k:Int)(b : -9223372036854775808<=k/\k<=9223372036854775807):bD (ai C) 4 [.agg p.cells,.int .i64 n,.int .i64 k] (.aA [av aD (dd p n k).1,.bool (dd p n k).2]):=by
 refine bD.of km (by simp[I.bV,I.bu,dy.bu]) (by simp only[I.bu,I.bV,ko (cells:=aD) (λ_=>rfl),aea]) λQ hQ=>?_;obtain⟨h1,a,c⟩:=zA hp n;refine Yp Yv hp hz b (λm hm hw=>?_) a (λm hm hw=>(h1 m hm hw).2.2.2) (λh ba hl=>?_) hQ
 . obtain⟨_,d,e,_⟩:=h1 m hm hw;exact⟨d,by omega⟩
 ·have:=c (a h) ba hl;omega
theorem Yw{p:dy}{n k:Int}{m:bH}{v:Int}{ba:List (Int×Int)}(a:1<=k)(b:(cq p n)[(k-1).toNat]?=acK m)(c:eX m.kind=acI)(hv:gN (cp p.vars m.pl.var [] m.pl.ax) 1=acK v)(hl:fI p.vars (ck 0 p.vars)=acK ba) :
  dd p n k=((cB (cp p.vars m.pl.var [] m.pl.ax)).map (gG p.vars m.pl ba),acI):=by
 rw[DC a b c,hv];dsimp only;rw[hl]
def fA(V:List UInt8)(a:Int)(b:Bool)(w:Int):aE:= .mk V (.mk 1 a acJ [] 0 []) b w
def p0:dy:=⟨[⟨[115],.mk 3 0 acJ [fA [97] 1 acJ 0,fA [98] 4 acI 3,fA [99] 4 acI 9,fA [100] 1 acJ 0] 0 []⟩],
  [[.mk 3 1 [] [] 0 (.mk [115] [.mk [99] []]) [.mk 1 5 [] 0 0 (.mk [] []) []] [] [],.mk 10 1 [] [] 0 (.mk [] []) [.mk 4 0 [] 0 0 (.mk [115] [.mk [100] []]) []] [] []]]⟩
def t0:X:= .mk 3 0 acJ [fA [97] 1 acJ 0,fA [98] 4 acI 3,fA [99] 4 acI 9,fA [100] 1 acJ 0] 0 []
theorem Yx:e4 t0=([(0,1),(1,2),(3,1)],0):=by
 have h1:(gu t0 0 ⟨[],acJ⟩)=⟨[(0,1),(1,2),(3,1)],acJ⟩:=by kernel_rfl
 have a:eL [(0,1),(1,2),(3,1)]=[(0,1),(1,2),(3,1)]:=List.mergeSort_of_pairwise (by decide);have b:(bm t0).2=0:=by kernel_rfl
 unfold e4;rw[af (λq=>q b),h1];unfold Bk.tidy;rw[a];rfl
theorem pZ:dd p0 0 1=([(65537,2)],acI):=by
 have ha:cq p0 0=[⟨3,0,1,.mk [115] [.mk [99] []]⟩,⟨14,0,1,.mk [115] [.mk [100] []]⟩]:=by kernel_rfl
 have hw:fI p0.vars (ck 0 p0.vars)=acK [(65536,1),(65537,2),(65539,1)]:=by
  have e:ck 0 p0.vars=[⟨65536,4,0,acJ,0,0⟩]:=by kernel_rfl
  rw[e,show p0.vars=[⟨[115],t0⟩]from rfl,fI,Yx];all_goals rfl
 exact(Yw (p:=p0) (n:=0) (k:=1) (m:=⟨3,0,1,.mk [115] [.mk [99] []]⟩) (v:=1) (by decide) (by rw[ha];rfl) (by decide) (by kernel_rfl) hw).trans (by kernel_rfl)
theorem zB:dd p0 0 2=([],acJ):=by kernel_rfl
theorem NA{e:Nat×List I×I}{L:List (Nat×List I×I)}(h:∀H Q,Q e.2.2 H->ai C e.1 e.2.1 H Q)(a:h0 (ai C) (gS L)):h0 (ai C) (gS (e::L)):=by
 obtain⟨b,a0,v0⟩:=e;intro k args v hm H Q hQ;unfold gS at hm;dsimp only at hm;cases U:Nat.beq b k with
 |false=>rw[U]at hm;exact a k args v hm H Q hQ
 | true=>
  rw[U]at hm;obtain rfl:=Nat.eq_of_beq_eq_true U;cases hs:I.gQ a0 args with
  |false=>rw[hs]at hm;exact a b args v hm H Q hQ
  | true=>rw[hs]at hm;simp only[cond_true,aaC.injEq]at hm;subst hm;obtain rfl:=I.mT _ _ hs;exact h H Q hQ
theorem NC:p0.ok:=by simp[dy.ok,p0,fA,aB.ok,X.ok,X.dX,aE.ok,aE.dX,aC.ok,aC.dX,aJ.ok,aI.ok,aI.dX,E.ok,E.dX,jU,ml,maxLen]
def RbNa:List (Nat×List I×I):=[
  (4,[.agg p0.cells,.int .i64 (.ofNat 0),.int .i64 (.ofNat 1)],.aA [.aq .dead 1 [.int .i64 (.ofNat 65537),.int .i64 (.ofNat 2)],.bool acI]),
  (4,[.agg p0.cells,.int .i64 (.ofNat 0),.int .i64 (.ofNat 2)],.aA [.aq .dead 0 [],.bool acJ])]
theorem ND:h0 (ai C) (gS RbNa):=NA (λH Q hQ=>DJ NC (by decide) 0 1 (by decide) H Q (by rw[pZ];exact hQ)) (NA (λH Q hQ=>DJ NC (by decide) 0 2 (by decide) H Q (by rw[zB];exact hQ)) ux)
end
end Go.Proofs.YteboppjdnpoglaaGreatDoor.rb
end
