/- A part of the proof (part 6): see the last text. -/
import Derived.Test.YtggbkidckoecfaaGreatDoorRb5
set_option linter.unusedVariables false
set_option linter.unusedSimpArgs false
set_option linter.unusedSectionVars false
open BitVec renaming toNat_and→aaP
open Bool renaming and_eq_true→Wn, and_true→aar, eq_iff_iff→YG, false_eq_true→Yf, not_true→Z0, or_eq_true→Wo, true_and→aaa
open Decidable renaming not_not→ZC
open Go.IntKind renaming bits→Wv, signed→Wu, u64→aaX, wrap→Xv
open Int renaming add_zero→aa8, le_refl→aac, tmod_eq_emod_of_nonneg→aaj, toNat_natCast→Xw, zero_add→aa1
open List renaming all_cons→Y6, all_nil→aaq, any_eq_true→YW, append_assoc→aaO, append_nil→ZO, drop_eq_getElem_cons→ZH, drop_length→aa7, drop_succ_cons→ZD, drop_zero→Zv, ext_getElem?→aaH, findIdx?_eq_some_iff_getElem→aaI, flatMap_append→aaL, flatMap_cons→Zi, foldl_cons→WU, getElem?_append_left→XZ, getElem?_append_right→X0, getElem?_cons_succ→Zo, getElem?_cons_zero→Zn, getElem?_drop→Wk, getElem?_eq_getElem→Xc, getElem?_eq_none→YC, getElem?_eq_some_iff→Wh, getElem?_map→Xb, getElem?_set→WK, getElem?_take→Wj, length_append→ZG, length_cons→Z9, length_drop→ZQ, length_eq_zero_iff→XJ, length_nil→Z_, length_set→YH, length_singleton→aap, length_take→Z1, length→aa3, map_append→aau, map_cons→XK, map_take→aa9, mem_append→YB, mem_cons_of_mem→YJ, mem_cons_self→YK, mem_cons→YI, mem_map→YX, mem_of_getElem?→Y7, mem_of_mem_take→aa0, mem_singleton→aaM, nil_append→aaY, nodup_append→aba, nodup_cons→aa6, prefix_refl→aay, take_append_of_le_length→ZI, take_length→Zw, take_of_length_le→ZJ, take_set→aaJ, take_take→abb, take→aa4, zipWith→aaN
open List.Sublist renaming nodup→aa_
open Nat renaming add_assoc→WD, add_mul→WT, add_sub_cancel_left→aa5, add_zero→WW, and_lt_two_pow→aaQ, le_of_lt→aav, le_refl→hT, le_succ→W4, le_trans→At, lt_of_lt_of_le→AH, min_eq_left→aat, mod_eq_of_lt→aaU, mul_le_mul_right→XA, mul_one→aaZ, ne_of_gt→abc, ne_of_lt→W5, one_le_two_pow→aaV, one_mul→ZE, pow_lt_pow_right→aaT, sub_self→aaK, testBit_and→aaR, testBit_mod_two_pow→aaS, testBit_two_pow_sub_one→aaW, zero_add→W7, zero_le→WS
open Option renaming getD→aa2, map_none→aas
namespace Rb
open Go
variable{t:aC}{p:aX}{r:List aX}{sp:bN}{i:Int}{q idx:List Int}
def fV:List aX→Nat
 |[]=>0
 |p::r=>p.aZ.length+fV r
theorem SA(h:(de t p).1=0):p.aZ.length≤1:=by
 unfold de at h;by_cases c1:1<p.aZ.length∨(p.aZ.length=1↔p.field≠[])
 · rw[aa c1]at h;have:(8:Int)=0:=h;omega
 ·omega
theorem xV(h:(eN t (p::r)).1=0):(de t p).1=0∧(eN (de t p).2 r).1=0:=by
 rw[eN]at h;by_cases c:(de t p).1≠0
 ·rw[aa c]at h;exact absurd h c
 ·rw[ab c]at h;exact⟨by omega,h⟩
theorem xW:∀{r:List aX}{t:aC},(eN t r).1=0→fV r≤r.length
 |[],_,_=>hT _
 | p::r,t,h=>by obtain⟨a,b⟩:=xV h;have:=SA a;have:=xW b;rw[fV,Z9];omega
theorem sa:∀(r:List aX)(n:Int),0≤n→n+fV r≤9223372036854775807→eP r n=n+fV r
 |[],n,_,_=>by rw[eP,fV];simp
 | p::r,n,b,a=>by rw[fV]at a;have hw:X (n+(p.aZ.length:Nat))=n+(p.aZ.length:Nat):=bM;rw[eP,hw,sa r _ (by omega) (by omega),fV];omega
theorem BW(h:p.aZ.length=1)(hi:i≥iR t.bZ):gi (p::r) t sp (i::q)=none:=by unfold gi;rw[aa h];dsimp only;rw[aa hi]
theorem BX{t e:aC}{a:List aC}(h:p.aZ.length=1)(hi:¬i≥iR t.bZ)(b:t.bf=e::a):gi (p::r) t sp (i::q)=gi r e {sp with at_:=X (sp.at_+X (Xv .i64 i*(bT e).1.1)),len:=(bT e).1.1} q:=by
 conv=>lhs;unfold gi
 rw[aa h];dsimp only;rw[ab hi,b]
theorem BZ{f:aT}{s sp:bN}{n:Nat}(h:p.aZ.length≠1)(a:t.aI.findIdx? (λf=>f.name==p.field)=some n)(b:t.aI[n]?=some f)(c:(gr t)[n]?=some s):gi (p::r) t sp idx=gi r f.type {s with at_:=X (s.at_+sp.at_)} idx:=by
 conv=>lhs;unfold gi
 rw[ab h,a];dsimp only;rw[b,c]
section
variable{C:Ctx}(aw:cY C)(W:Cl (aj C) S.cr)
include aw W
theorem SB{B:List aE}(hl:B.length≤1000000)(hv:∀v∈B,v.ok){x:aW}(ay:x.ok){ix:I}(aS:j3 ix idx){H:Z}{Q:ad}(aT:∀e H',Z.Ext H H'→Q (.aM [.agg (F B x idx).cells,D e]) H'):aj C 138 [aD aE.cells B,.agg x.cells,ix] H Q:=by
 obtain⟨bY,bZ⟩:=aW.dc ay;refine S.Pp W ?_;unfold S.f138;simp only[lY,aV,aR,aY];have aZ:=Z.Ext.push H (.row bz.cells);have r1:=T.new H (.row bz.cells);change aj C 32 [aD aE.cells B] (H.push (.row bz.cells)) _;have b0:(H.push (.row bz.cells)).n=H.n+1:=rfl;generalize H.push (.row bz.cells)=H1 at *;have ret:∀(sp:bN)(e:Int)(c:Z),Z.Ext H c→T c H.n (.row bz.cells)→F B x idx=sp→Do (ax c 6 (.ptr H.n 0) (.agg sp.cells)) λa0=>Do (O a0 6 true (.ptr H.n 0)) λy=>Q (.aM [y,D e]) a0:=by intro sp e c L A he;rw[A.put (n:=6) rfl rfl rfl];simp only[G];rw[(A.set _).all (n:=6) rfl];simp only[G];rw[he]at aT;exact aT e _ (L.set (hT _) _)
 have ac:ba [J,J,J,P,J,J] []=some (.agg bz.cells):=rfl;refine R6 aw W hl hv _ _ ?_;unfold l3;by_cases hm:(mapM B).1≠0
 · rw[aa hm];simp only[bI,Zn,Zo,G,cU,ai];rw[aa (by simpa using hm),ac];simp only[G];exact ret bz _ H1 aZ r1 (by unfold F;rw[aa hm])
 rw[ab hm];obtain⟨bk,bl⟩:=Ju (show(mapM B).1=0 by omega);simp only[bI,Zn,Zo,G,cU,ai];rw[aN];simp only[xK,G];refine Bp aw W B x (by rw[show maxLen=9223372036854775807 from by decide];omega) hv ay _ _ ?_;rw[rR];simp only[bI,Zn,Zo,G,aV,aR,aY];rw[bO _ _ _ 6 (mJ _) (rQ _) rfl];have b2:=T.new H1 (.row (dH (bP B x)));have A:=r1.push (.row (dH (bP B x)));have L:=aZ.trans (Z.Ext.push H1 (.row (dH (bP B x))));have b1:H1.n≠H.n:=by omega
 generalize H1.push (.row (dH (bP B x)))=c at *;simp only[G,cU,ai];by_cases N:(bP B x).1≠0
 · rw[aa (by simpa using N),ac];simp only[G];exact ret bz _ c L A (by unfold F;rw[ab hm,aa N])
 rw[ab (by simpa using N)];have az:(bP B x).1=0:=by omega
 have aA:O c 1 false (.ptr H1.n 0)=some (D (bP B x).2.kind):=by rw[b2.load];unfold dH;rw[aa az,aC.be];rfl
 simp only[M,W7,G,aA,cU,bG,aB];have a1 : ∀b:Bool,(b=true↔¬((bP B x).2.kind=1∨(bP B x).2.kind=2))→S.wH (aj C) (aD aE.cells B) ix (.ak x.cells) (.ptr H.n 0) (.av .dead B.length (eX B (mapM B).2.2)) (.ptr H1.n 0) Q [.bool b] c:=by
  intro b al;simp only[S.wH,aq,ai];apply aH<;>intro hk
  · rw[ac];simp only[G];exact ret bz _ c L A (by unfold F;rw[ab hm,ab N,aa (al.1 hk)])
  have a2:¬¬((bP B x).2.kind=1∨(bP B x).2.kind=2):=λe=>hk (al.2 e);have bm:bj false ix=some (D idx.length):=by obtain⟨tk,rfl⟩:=aS;rfl
  simp only[bm,xK,G];refine R7 aw W ay _ _ ?_;simp only[cU,G,ai];apply aH<;>intro hc
  · rw[ac];simp only[G];exact ret bz _ c L A (by unfold F;rw[ab hm,ab N,ab a2,aa (by simpa using hc)])
  have bn:¬(idx.length:Int)≠eP x.aK 0:=by simpa using hc
  have K:F B x idx=match B.findIdx? (λv=>v.name==x.var)with
    |none=>bz
    | some n=>match B[n]?,(mapM B).2.2[n]? with
     | some v,some g=>match gi x.aK v.type {bz with at_:=g.at_,len:=g.len} idx with
      |some sp=>{sp with kind:=(bP B x).2.kind}
      |none=>bz
     |_,_=>bz:=by
   unfold F;rw[ab hm,ab N,ab a2,ab bn];rfl
  have d:(bP B x).1=0:=az;obtain ⟨n,v,a4,ae,b4,b5,bo⟩:∃n v,B.findIdx? (λv=>v.name==x.var)=some n∧B[n]?=some v∧B.find? (λv=>v.name==x.var)=some v∧dP v.type=0∧bP B x=eN v.type x.aK:=by
   rcases lP (λv:aE=>v.name==x.var) B with⟨i,v,m,l,bp⟩|⟨m,l⟩
   · refine ⟨i,v,m,bp,l,?_,?_⟩
     · unfold bP at d;rw[l]at d;dsimp only at d;by_cases hs:dP v.type≠0
       ·rw[aa hs]at d;exact absurd d hs
       ·omega
     · unfold bP;unfold bP at d;rw[l]at d ⊢;dsimp only at d ⊢;by_cases hs:dP v.type≠0
       ·rw[aa hs]at d;exact absurd d hs
       ·rw[ab hs]
   · unfold bP at d;rw[l]at d;have:(6:Int)=0:=d;omega
  have a8:=(Wh.1 ae).1;have a9:=Y7 ae;have bq:n<(mapM B).2.2.length:=by rw[bk];exact a8
  obtain⟨g,a_⟩:∃g,(mapM B).2.2[n]?=some g:=⟨_,Xc bq⟩
  rw[a4]at K;dsimp only at K;rw[ae,a_]at K;dsimp only at K;have bs:v.type.lay:=r8 (by have:=hv v a9;cases v;exact this.2) (bl v a9);rw[bo]at d;have bt:idx.length=fV x.aK:=by have m:=xW d;have l:=sa x.aK 0 (aac _) (by omega);omega
  simp only[aB,S.G2];refine S.AJ W ?_;refine A3 (p:=λv=>v.name==x.var) (λw _ R bv=>S.PF W (by
    unfold S.f164;have al:bg c false 7 (.agg w.cells)=some (.ak w.cells,c):=by unfold bg;rw[aa ⟨rfl,w.len⟩];rfl
    have aA:O c 1 false (.ak (w.cells.drop 0))=some (.str w.name):=rE w;have l1:O c 1 false (.ak (x.cells.drop 0))=some (.str x.var):=rY x c;rw[al];simp only[aV,M,G,aA,l1,fc];exact bv)) (by omega) ?_
  rw[a4];simp only[e8];rw[cp a8];simp only[G,d_,M];rw[A1 v c ae];have bw:aU none 3 (.av .dead B.length (eX B (mapM B).2.2)) (D n)=some (.ak ((eX B (mapM B).2.2).drop (n*3))):=by show(if 0≤(n:Int)∧(n:Int)<(B.length:Nat)then some (I.ak ((eX B (mapM B).2.2).drop ((n:Int).toNat*3)))else none)=_;rw[aa ⟨by omega,by omega⟩,Xw]
  have bx:∀(a:List aE)(s:List bN)(n:Nat)(v:aE)(g:bN),a[n]?=some v→s[n]?=some g→∃af,(eX a s).drop (n*3) = .str v.name :: D g.at_ :: D g.len::af:=by
   intro a;induction a with
   |nil=>intro s n v g h;simp at h
   | cons y a am=>
    intro s n v g m l;cases s with
    |nil=>simp at l
    | cons z s=>
     cases n with
     | zero=>simp at m l;subst m;subst l;exact⟨eX a s,rfl⟩
     | succ n=>obtain⟨af,e⟩:=am s n v g (by simpa using m) (by simpa using l);refine⟨af,?_⟩;rw[eX,show(n+1)*3=n*3+3 by omega];exact e
  obtain⟨af,bA⟩:=bx B (mapM B).2.2 n v g ae a_;simp only[G,bw,bA,ZD,Zv];have bB:O c 2 true (.ak (D g.at_ :: D g.len::af))=some (.agg [D g.at_,D g.len]):=by show bW _ 0 2 true=_;exact k2 (a:=[D g.at_,D g.len]) rfl
  simp only[bB,G];refine⟨.agg ({bz with at_:=g.at_,len:=g.len}:bN).cells,rfl,?_⟩;dsimp only;obtain⟨tk,bc⟩:=aS;have bC:ba [J,J,P,ar,J,ar,J,J,J,P,J,J,ar] [(0,6,.agg v.type.cells),(6,6,.agg ({bz with at_:=g.at_,len:=g.len}:bN).cells),(12,1,ix)]=some (.agg (fh v.type {bz with at_:=g.at_,len:=g.len} ix)):=by rw[gv,aC.be,bc];rfl
  rw[bC];simp only[G];have bD:bg c true 13 (.agg (fh v.type {bz with at_:=g.at_,len:=g.len} ix))=some (.ptr c.n 0,c.push (.row (fh v.type {bz with at_:=g.at_,len:=g.len} ix))):=by unfold bg;rw[aa ⟨rfl,by rw[gv];rfl⟩];rfl
  rw[bD,aV];simp only[hR,ih,G,bH];have a3:=T.new c (.row (fh v.type {bz with at_:=g.at_,len:=g.len} ix));have bE:=A.push (.row (fh v.type {bz with at_:=g.at_,len:=g.len} ix));have b3:=b2.push (.row (fh v.type {bz with at_:=g.at_,len:=g.len} ix));have bF:=L.trans (Z.Ext.push c (.row (fh v.type {bz with at_:=g.at_,len:=g.len} ix)));have b6:H.n<c.n∧H1.n<c.n:=⟨A.1,b2.1⟩
  have U:H.n≠c.n∧H1.n≠c.n:=⟨by omega,by omega⟩
  have ca:∀{j an:Z},Z.Ext H j→E c.n j an→Z.Ext H an:=λ{j an} e k=>⟨At e.1 k.1,λi hi=>((k.2 i (j.o i) (by omega) ⟨AH hi e.1,rfl⟩).2).trans (e.2 i hi)⟩
  have main:∀(r:List aX)(i:Nat)(t:aC)(sp:bN)(V:I)(X:List Int)(j:Z),x.aK.drop i=r→t.lay→(eN t r).1=0→j3 V X→X.length=fV r→Z.Ext H j→T j c.n (.row (fh t sp V))→T j H.n (.row bz.cells)→T j H1.n (.row (dH (bP B x))) →
    gi r t sp X=gi x.aK v.type {bz with at_:=g.at_,len:=g.len} idx →
    au (S.wG (aj C) (.ptr H.n 0) (.ptr H1.n 0) (.ptr c.n 0) (aD aX.cells x.aK) (D x.aK.length) Q) ([D i],j):=by
   intro r;induction r with
   | nil=>
    intro i t sp V X j aF ht bd hi ao aG a5 aI aJ hw;have hle:=db aF;refine au.step ?_;simp only[S.wG,aq,bb,G,ai,aB,S.G1];rw[cZ];have bJ:O j 1 false (.ptr H1.n 0)=some (D (bP B x).2.kind):=by rw[aJ.load];unfold dH;rw[aa az,aC.be];rfl
    simp only[aO,M,W7,bJ,G];rw[Sf a5];simp only[G];have a6:=a5.set (.row (fh t {sp with kind:=(bP B x).2.kind} V));rw[Sa a6];simp only[G];rw[gi]at hw;rw[←hw]at K;exact ret _ _ _ (ca aG (E.set _ _ _)) (aI.br U.1 _) K
   | cons p r am=>
    intro i t sp V X j aF ht bd hi ao aG a5 aI aJ hw;obtain⟨bK,bL,bf⟩:=c8 aF;obtain⟨bQ,ap⟩:=xV bd;rw[fV]at ao;refine au.step ?_;simp only[S.wG,aq,bb,G,ai];rw[ch,cp bK];simp only[G];rw[dd aX.len (by decide) _ bL];simp only[G,aV,aR,aY];rw[bO _ _ _ 2 p.len p.scalar rfl];have bR:=T.new j (.row p.cells);have a6:=a5.push (.row p.cells);have aL:=aI.push (.row p.cells);have bh:=aJ.push (.row p.cells);have aP:=aG.trans (Z.Ext.push j (.row p.cells));simp only[G];rw[bR.load,eM p.len];simp only[G];generalize j.push (.row p.cells)=an at *;have bi:Xv .i64 ((i:Int)+1)=((i+1:Nat):Int):=by rw[bM];simp
    refine Sh aw W a6 ht hi bQ (by omega) (λbS q e bT ag c1 Y c3 ah u=>?_) (λbS q e bT bU ag c1 Y c3 ah c5 aQ bV u a7=>?_) (λn' f s ag bX c1 Y c3 ah c5 aQ u a7=>?_)
    · simp only[cV,G,ai,Bool.not_false,aY,ac];refine ret bz _ ag (ca aP u) (u.2 _ _ U.1 aL) ?_;rw[Y,BW c1 ah]at hw;rw[←hw]at K;exact K
    · simp only[cV,G,ai,Z0,Yf,cu,bu,bi];refine am (i+1) e _ bU q ag bf bV ?_ aQ ?_ (ca aP u) a7 (u.2 _ _ U.1 aL) (u.2 _ _ U.2 bh) ?_
      ·rw[c5]at ap;exact ap
      ·rw[Y,Z9]at ao;omega
      · rw[Y,BX c1 ah c3]at hw;exact hw
    · simp only[cV,G,ai,Z0,Yf,cu,bu,bi];refine am (i+1) f.type _ V X ag bf aQ ?_ hi ?_ (ca aP u) a7 (u.2 _ _ U.1 aL) (u.2 _ _ U.2 bh) ?_
      ·rw[c5]at ap;exact ap
      ·rw[c1,Z_]at ao;omega
      · rw[BZ bX Y c3 ah]at hw;exact hw
  exact main x.aK 0 v.type _ ix idx _ rfl bs d ⟨tk,bc⟩ bt bF a3 bE b3 rfl
 apply aH<;>intro m
 · refine a1 _ ?_;simp only[bne_iff_ne,ne_eq]at m ⊢;omega
 · refine a1 false ⟨λe=>(by cases e),λe=>?_⟩;simp only[bne_iff_ne,ne_eq]at m;omega
end
end Rb

namespace Rb
open Go
variable{cs:List I}{l:List UInt8×Int}{name:List UInt8}{i k m:Nat}
theorem JI:∀(L:List (List UInt8×Int)) (k:Nat) (l:List UInt8×Int),L[k]?=some l→(L.flatMap gu)[k*2]?=some (.str l.1)∧(L.flatMap gu)[k*2+1]?=some (af l.2)
 |[],k,l,h=>by simp at h
 | x::r,0,l,h=>by simp at h;subst h;exact⟨rfl,rfl⟩
 | x::r,k+1,l,h=>by have:=JI r k l (by simpa using h);rw[show(k+1)*2=k*2+2 by omega];exact this
theorem B0:∀(L:List (List UInt8×Int)) (k:Nat) (l:List UInt8×Int) (v:Int),L[k]?=some l→(L.flatMap gu).set (k*2+1) (af v)=(L.set k (l.1,v)).flatMap gu
 |[],k,l,v,h=>by simp at h
 | x::r,0,l,v,h=>by simp at h;subst h;rfl
 | x::r,k+1,l,v,h=>by have:=B0 r k l v (by simpa using h);rw[show(k+1)*2+1=k*2+1+1+1 by omega,List.set_cons_succ,Zi,Zi,←this];rfl
theorem JJ{L:List (List UInt8×Int)}(h:cs.take (L.length*2)=L.flatMap gu)(hk:L[k]?=some l):cs[k*2]?=some (.str l.1)∧cs[k*2+1]?=some (af l.2):=by have a:=(Wh.1 hk).1;have:=JI L k l hk;rw[←h,Wj,Wj,df,df]at this;exact this
theorem SC{L:List (List UInt8×Int)}(h:cs.take (L.length*2)=L.flatMap gu)(d:cs.length=m*2)(hl:L.length≤m)(hk:L[k]?=some l):bW cs (0+k*2) 2 true=some (.agg (gu l)):=by
 have f:=(Wh.1 hk).1;obtain⟨b,c⟩:=JJ h hk;unfold bW;rw[df,aa rfl,W7];have e:(cs.drop (k*2)).take 2=gu l:=by
  apply aaH;intro j;rw[Wj];by_cases a:j<2
  · rw[aa a,Wk];have:j=0∨j=1:=by omega
    rcases this with rfl|rfl
    ·exact b
    ·exact c
  · rw[ab a,YC (by show(gu l).length≤j;simp[gu];omega)]
 rw[e]
section
variable{C:Ctx}(aw:cY C)(W:Cl (aj C) S.cr)
include aw W
variable{B:List aE}{s:RS}{lx px:I}{H:Z}{id:Nat}{Q:ad}
theorem xX(h:T H id (.row (cK B s lx px)))(o:iU H id s.aS lx)(P:s.aS.length≤1000000)(hi:s.aS.findIdx? (λl=>l.1==name)=some i)(p:∀j cs m,lx = .row j 0 s.aS.length 2→j≠id→T H j (.row cs)→cs.length=m*2→s.aS.length≤m→cs.take (s.aS.length*2)=s.aS.flatMap gu→Q (.ptr j (i*2+1)) H) :
  aj C 108 [.ptr id 0,.str name] H Q:=by
 obtain⟨a,R,_⟩:=aaI.1 hi;rcases o with⟨rfl,he⟩|⟨j,cs,m,rfl,q,b,c,d,f⟩
 ·rw[he]at a;simp at a
 refine S.O_ W ?_;unfold S.f108;have t:bg H false 1 (.str name)=some (.ak [.str name],H):=rfl;simp only[t,aV,aO,M,W7,mM h,G];refine S.Pq W ?_;unfold S.f139;simp only[Qb,G];have u:aU none 2 (.row j 0 s.aS.length 2) (D i)=some (.ptr j (0+i*2)):=by show(if 0≤(i:Int)∧(i:Int)<(s.aS.length:Nat)then some (I.ptr j (0+(i:Int).toNat*2))else none)=_;rw[aa ⟨by omega,by omega⟩,Xw]
 have v:=p j cs m rfl q b c d f;have main:∀(r:List (List UInt8×Int)) (k:Nat),s.aS.drop k=r→(r.findIdx? (λl=>l.1==name)).map (·+ k)=some i →
   au (S.Au (aj C) (.row j 0 s.aS.length 2) (.fn 140 [.ak [.str name]]) (D s.aS.length) (λw g=>Do (O g 1 false (.ptr id 2)) λx=>Do (aU none 2 x w) λy=>Do (M 1 y) λA=>Q A g)) ([D k],H):=by
  intro r;induction r with
  |nil=>intro k n he;simp at he
  | cons l r E=>
   intro k n he;obtain⟨hk,F,J⟩:=c8 n;refine au.step ?_;simp only[S.Au,aq,bb,G,ai];rw[ch];have K:aU none 2 (.row j 0 s.aS.length 2) (D k)=some (.ptr j (0+k*2)):=by show(if 0≤(k:Int)∧(k:Int)<(s.aS.length:Nat)then some (I.ptr j (0+(k:Int).toNat*2))else none)=_;rw[aa ⟨by omega,by omega⟩,Xw]
   simp only[K,G,b.load,SC f c d F];refine⟨140,[.ak [.str name]],rfl,?_⟩;rw[yu rfl,yv rfl];show aj C 140 [.agg (gu l),.ak [.str name]] H _;refine S.Pr W ?_;unfold S.f140;have L:bg H false 2 (.agg (gu l))=some (.ak (gu l),H):=by unfold bg;rw[aa ⟨rfl,rfl⟩];rfl
   have N:O H 1 false (.ak (List.drop 0 (gu l)))=some (.str l.1):=rfl;have l1:O H 1 false (.ak [.str name])=some (.str name):=rfl;simp only[L,aV,M,G,N,l1,fc,ai];rw[List.findIdx?_cons]at he;apply aH<;>intro e
   · rw[aa e]at he;have:k=i:=by simpa using he
     subst this;simp only[mM h,G,u,M];rw[W7];exact v
   · rw[ab e]at he;simp only[bu,G];rw[bM,show(k:Int)+1=((k+1:Nat):Int) by simp];refine E (k+1) J ?_;rw[←he,Option.map_map];congr 1;funext z;simp only[Function.comp];omega
 exact main s.aS 0 rfl (by rw[hi];simp)
end
theorem xY{s:RS}(hi:s.aS.findIdx? (λl=>l.1==name)=some i):∃l,s.aS[i]?=some l∧l.1=name∧s.get name=l.2∧∀v,s.put name v={s with aS:=s.aS.set i (l.1,v)}:=by
 rcases lP (λl:List UInt8×Int=>l.1==name) s.aS with⟨j,l,a,b,d⟩|⟨a,b⟩
 · rw [hi]at a;cases a;have c:l.1=name:=by
    have:=List.find?_some b;simpa using this
   refine⟨l,d,c,by unfold RS.get;rw[b],λv=>?_⟩;unfold RS.put;rw[hi,c]
 ·rw[hi]at a;cases a
theorem sb{L:List (List UInt8×Int)}(h:name∈L.map (·.1)):∃i,L.findIdx? (λl=>l.1==name)=some i:=by
 rcases lP (λl:List UInt8×Int=>l.1==name) L with⟨j,l,b,a,c⟩|⟨b,a⟩
 ·exact⟨j,b⟩
 · rw[List.find?_eq_none]at a;obtain⟨l,hl,rfl⟩:=YX.1 h;exact absurd (by simp) (a l hl)
theorem iU.put{H:Z}{id j m i:Nat}{L:List (List UInt8×Int)}(b:j≠id)(a:T H j (.row cs))(c:cs.length=m*2)(d:L.length≤m)(e:cs.take (L.length*2)=L.flatMap gu)(hi:L[i]?=some l)(v:Int) :
  ax H 1 (.ptr j (i*2+1)) (af v)=some (H.set j (.row (cs.set (i*2+1) (af v))))∧iU (H.set j (.row (cs.set (i*2+1) (af v)))) id (L.set i (l.1,v)) (.row j 0 L.length 2):=by
 have f:=(Wh.1 hi).1;refine⟨?_,.inr ⟨j,_,m,by simp,b,a.set _,by simpa using c,by simpa using d,?_⟩⟩
 ·rw[a.store,aa ⟨rfl,rfl,rfl,by omega⟩];rfl
 ·rw[YH,aaJ,e,B0 L i l v hi]
theorem iU.app{H:Z}{id:Nat}{L:List (List UInt8×Int)}{x:I}(h:iU H id L x)(B:id<H.n)(hl:L.length≤1000000)(name:List UInt8)(v:Int){K:ad}
  (f:∀a H',H.n≤H'.n→(∀j o,j≤id→(∀c d e,x ≠ .row j c d e)→T H j o→T H' j o)→iU H' id (L++[(name,v)]) a→(∀c d e,a ≠ .row id c d e)→a.known=true→a.cells=[a]→a.scalar=true→(∀j c d e,a = .row j c d e→(∃c' y z,x = .row j c' y z)∨H.n≤j)→(∀j o,(∀cs,o ≠ .row cs)→T H j o→T H' j o)→K a H') :
  aJ (cX H true 2 24 x (.av .full 1 [.str name,af v])) K:=by
 have r:hC H 2 (.av .full 1 [.str name,af v])=some (1,[.str name,af v]):=rfl;rcases h with⟨rfl,rfl⟩|⟨j,cs,m,rfl,s,b,A,C,g⟩
 · refine⟨.row H.n 0 1 2,H.push (.row [.str name,af v]),rfl,?_⟩;refine f _ _ (W4 _) (λj o _ _ h=>h.push _) (.inr ⟨H.n,_,1,rfl,by omega,T.new H _,rfl,hT _,rfl⟩) (λc d e h=>?_) rfl rfl rfl (λj c d e h=>?_) (λj o _ h=>h.push _)
   ·simp only[I.row.injEq]at h;omega
   ·simp only[I.row.injEq]at h;right;omega
 · by_cases hc : L.length+1≤m
   · refine ⟨.row j 0 (L.length+1) 2,H.set j (.row (setCells cs (L.length*2) [.str name,af v])),?_,?_⟩
     · simp only[cX,r,b.2];simp only[Y6,aaq,I.scalar,aar,not_true_eq_false,cu];rw[aN,ab (by simp only[ZC];exact⟨trivial,trivial,by omega,by omega⟩),df]
     · refine f _ _ (hT _) (λq o _ i h=>h.br (λe=>i 0 L.length 2 (by rw[e])) _) (.inr ⟨j,_,m,by simp,s,b.set _,?_,by simpa using hc,?_⟩) (λc d e h=>?_) rfl rfl rfl (λq c d e h=>?_) (λq o k h=>h.br (λe=>by subst e;exact k cs (h.2.symm.trans b.2)) _)
       · show((cs.set (L.length*2) (.str name)).set (L.length*2+1) (af v)).length=_;simpa using A
       · rw [ZG,aap];show((cs.set (L.length*2) (.str name)).set (L.length*2+1) (af v)).take ((L.length+1)*2)=_;have e1 : ((cs.set (L.length*2) (I.str name)).set (L.length*2+1) (af v)).take ((L.length+1)*2)=cs.take (L.length*2)++[.str name,af v]:=by
          apply aaH;intro q;rw[Wj];have l:(cs.take (L.length*2)).length=L.length*2:=by rw[Z1];omega
          by_cases t:q<(L.length+1)*2
          · rw [aa t,WK,WK];by_cases u:L.length*2+1=q
            · subst u;rw[aa rfl,oc,X0 (by omega),l,show L.length*2+1-L.length*2=1 by omega];rfl
            · rw [ab u];by_cases w:L.length*2=q
              · subst w;rw[aa rfl,df,X0 (by omega),l,aaK];rfl
              ·rw[ab w,XZ (by omega),Wj,df]
          ·rw[ab t,YC (by simp[l];omega)]
         rw[e1,g,aaL];rfl
       ·simp only[I.row.injEq]at h;exact s h.1
       ·simp only[I.row.injEq]at h;exact .inl ⟨0,L.length,2,by rw[h.1]⟩
   · have p:cs.length=L.length*2:=by omega
     refine⟨.row H.n 0 (L.length+1) 2,(H.set j .gone).push (.row (cs++[.str name,af v])),?_,?_⟩
     · simp only[cX,r,b.2];simp only[Y6,aaq,I.scalar,aar,not_true_eq_false,cu];rw[aN,ab (by simp only[ZC];exact⟨trivial,trivial,by omega,by omega⟩),bF,df]
     · refine f _ _ (W4 _) (λq o _ i h=>(h.br (λe=>i 0 L.length 2 (by rw[e])) _).push _) (.inr ⟨H.n,_,L.length+1,by simp,by omega,T.new (H.set j .gone) _,by simp[p];omega,by simp,?_⟩) (λc d e h=>?_) rfl rfl rfl (λq c d e h=>?_) (λq o k h=>(h.br (λe=>by subst e;exact k cs (h.2.symm.trans b.2)) _).push _)
       · rw[ZG,aap,ZJ (by simp[p];omega)];rw[←p,Zw]at g;rw[g,aaL];rfl
       ·simp only[I.row.injEq]at h;omega
       ·simp only[I.row.injEq]at h;right;omega
end Rb

namespace Rb
open Go
variable{H H0 H':Z}{s:RS}{lx px:I}{k:Nat}
section
variable{α:Type}{cells:α→List I}{sz:Nat}(hc:∀x,(cells x).length=sz)
include hc
theorem xZ:∀xs:List α,(xs.flatMap cells).length=xs.length*sz
 |[]=>by simp
 |x::r=>by rw[Zi,ZG,hc,xZ r,Z9,WT];omega
theorem x0:∀(xs:List α)(k:Nat),(xs.flatMap cells).take (k*sz)=(xs.take k).flatMap cells
 |[],k=>by simp
 |x::r,0=>by simp
 | x::r,k+1=>by rw[Zi,List.take_succ_cons,Zi,show(k+1)*sz=(cells x).length+k*sz by rw[hc,WT];omega,List.take_length_add_append,x0 r k]
theorem l6:∀(xs:List α)(k:Nat),(xs.flatMap cells).drop (k*sz)=(xs.drop k).flatMap cells
 |[],k=>by simp
 |x::r,0=>by simp
 | x::r,k+1=>by rw[Zi,ZD,show(k+1)*sz=(cells x).length+k*sz by rw[hc,WT];omega,List.drop_length_add_append,l6 r k]
theorem x1(xs:List α)(hk:k≤xs.length):c6 sz (aD cells xs) none (some (D k)) none=some (aD cells (xs.take k)):=by
 show c6 sz (.av .dead xs.length (xs.flatMap cells)) none (some (D k)) none=some (.av .dead (xs.take k).length ((xs.take k).flatMap cells));simp only[c6,eJ,aas];rw[df];simp only[Xw];rw[aa ⟨WS _,hk,xZ hc xs⟩];by_cases e:k=xs.length
 · subst e;rw[aa ⟨trivial,rfl⟩,Zw]
 ·rw[ab (λh=>e h.2),Nat.zero_mul,Zv,x0 hc,aa trivial,Nat.sub_zero,Z1,aat hk]
theorem B1{xs:List α}{x:α}(a:xs[k]?=some x):c6 sz (aD cells xs) (some (D k)) (some (D ((k+1:Nat):Int))) none=some (aD cells [x]):=by
 have b:=(Wh.1 a).1;show c6 sz (.av .dead xs.length (xs.flatMap cells)) (some (D k)) (some (D ((k+1:Nat):Int))) none=some (.av .dead 1 ([x].flatMap cells));simp only[c6,eJ,aas];rw[df,df];simp only[Xw];rw[aa ⟨by omega,by omega,xZ hc xs⟩];by_cases e:k=0∧k+1=xs.length
 · rw [aa e];have:xs=[x]:=by
    rw[e.1]at a;cases xs with
    |nil=>simp at a
    | cons y r=>simp at a;have:r=[]:=XJ.1 (by have:=e.2;simp at this;omega);rw[a,this]
   rw[this];rfl
 · rw [ab e];have c:((xs.flatMap cells).take ((k+1)*sz)).drop (k*sz)=[x].flatMap cells:=by
    rw[x0 hc,l6 hc,List.take_add_one,a];simp[List.drop_append,Z1,aat (aav b)]
   rw[c,show k+1-k=1 by omega];split<;>rfl
end
theorem E.left{id:Nat}(h:E id H0 H)(k:Left H0.n H H'):E id H0 H':=⟨At h.1 k.1,λj o b a=>k.2 j o (h.2 j o b a) (.inl a.1)⟩
theorem E.nU{id i:Nat}(h:E id H0 H)(hi:H0.n≤i)(x:cN):E id H0 (H.set i x):=⟨h.1,λj o b a=>(h.2 j o b a).br (by have:=a.1;omega) x⟩
theorem E.pH{id:Nat}(h:E id H0 H)(x:cN):E id H0 (H.push x):=h.trans (E.push id H x)
mutual
def nV(L:List (List UInt8)):aA→Prop
 | .mk kind n name op aG place a_=>(kind=2→name∈L)∧(kind=3→a_.length=2)∧a_.length≤2∧(kind≠1∧kind≠2∧kind≠3→lk L place)∧hV L a_
def hV(L:List (List UInt8)):List aA→Prop
 |[]=>True
 |e::r=>nV L e∧hV L r
def lk(L:List (List UInt8)):aW→Prop
 | .mk var aK=>nW L aK
def nW(L:List (List UInt8)):List aX→Prop
 |[]=>True
 |p::r=>sc L p∧nW L r
def sc(L:List (List UInt8)):aX→Prop
 | .mk field aZ=>hV L aZ
end
theorem SD(L:List (List UInt8))(e:aA):nV L e↔(e.kind=2→e.name∈L)∧(e.kind=3→e.a_.length=2)∧e.a_.length≤2∧(e.kind≠1∧e.kind≠2∧e.kind≠3→lk L e.place)∧hV L e.a_:=by cases e;rw[nV]
theorem sd(L:List (List UInt8)):∀{l:List aA},hV L l↔∀e∈l,nV L e
 |[]=>by simp[hV]
 |e::r=>by simp[hV,sd L (l:=r)]
theorem JK(L:List (List UInt8)):∀{l:List aX},nW L l↔∀p∈l,hV L p.aZ
 |[]=>by simp[nW]
 | p::r=>by
  have:sc L p↔hV L p.aZ:=by cases p;rw[sc]
  simp[nW,this,JK L (l:=r)]
theorem JL(L:List (List UInt8))(x:aW):lk L x↔∀p∈x.aK,hV L p.aZ:=by cases x;rw[lk,JK]
theorem hy(a b:Int):X (a+X b)=X (a+b):=by
 unfold X Xv;simp only[Wu,Wv,aaa,dh,show((2:Int)^64)=18446744073709551616 from rfl,show((2:Int)^(64-1))=9223372036854775808 from rfl]
 repeat' split
 all_goals omega
structure fN(H:Z)(id:Nat)(B:List aE)(L:List (List UInt8))(s:RS)(lx px:I):Prop where
 row:T H id (.row (cK B s lx px))
 loc:iU H id s.aS lx
 ok:s.ok
 len:s.aS.length≤1000000
 nm:s.stop=false→s.aS.map (·.1)=L
 fl:s.stop=false→0≤s.fuel∧s.fuel+s.aS.length≤1000000∧s.fuel+s.pr.length≤1000000
 pl:s.pr.length≤1000000
theorem fN.ca{id:Nat}{B:List aE}{L:List (List UInt8)}(h:fN H id B L s lx px)(k:E id H H')(a:T H' id (.row (cK B s lx px))):fN H' id B L s lx px:=⟨a,h.loc.ca k,h.ok,h.len,h.nm,h.fl,h.pl⟩
theorem fN.next{id:Nat}{B:List aE}{L:List (List UInt8)}{s A:RS}(h:fN H id B L s lx px)(k:E id H H')(a:T H' id (.row (cK B A lx px)))(hk:Kp s A)(b:A.ok):fN H' id B L A lx px:=
 ⟨a,by rw[hk.aS];exact h.loc.ca k,b,by rw[hk.aS];exact h.len,λe=>by rw[hk.aS];exact h.nm (hk.stop e),λe=>by have c:=h.fl (hk.stop e);have d:=hk.fu c.1 (by omega) e;rw[hk.aS,hk.pr];exact⟨d.1,by omega,by omega⟩,by rw[hk.pr];exact h.pl⟩
def jh(C:Ctx)(id:Nat)(B:List aE)(L:List (List UInt8))(e:aA):Prop:=∀(a:Int)(s:RS)(lx px:I)(H:Z)(Q:ad),fN H id B L s lx px→(∀H',E id H H'→fN H' id B L (cq B e a s).1 lx px→Q (af (cq B e a s).2) H')→aj C 109 [.ptr id 0,.agg e.cells,D a] H Q
section
variable{C:Ctx}(aw:cY C)(W:Cl (aj C) S.cr){id:Nat}{B:List aE}{L:List (List UInt8)}
include aw W
theorem JM{l:List aA}(hl:l.length≤2)(P:∀e∈l,e.ok)(R:∀e∈l,jh C id B L e){a:Int}{Q:ad}(h:fN H id B L s lx px)
  (U:∀H',E id H H'→fN H' id B L (cl B l a s).1 lx px→Q (.agg [af ((cl B l a s).2.getD 0 0),af ((cl B l a s).2.getD 1 0)]) H'):aj C 136 [.ptr id 0,aD aA.cells l,D a] H Q:=by
 refine S.Pn W ?_;unfold S.f136;simp only[aR,aY,aV];have V:=h.row.1;have X:=E.push id H (.row [af 0,af 0]);have r1:=T.new H (.row [af 0,af 0]);have Y:=h.row.push (.row [af 0,af 0]);have aG:(H.push (.row [af 0,af 0])).n=H.n+1:=rfl;generalize H.push (.row [af 0,af 0])=H1 at *;have ab:=X.pH (.row [af 0,af 0]);have ac:=r1.push (.row [af 0,af 0]);have ae:=T.new H1 (.row [af 0,af 0]);have a2:=Y.push (.row [af 0,af 0]);generalize H1.push (.row [af 0,af 0])=ag at *;have ah:H.n≠H1.n:=by omega
 simp only[bH,G];have main:∀(r:List aA)(k:Nat)(pre:List Int)(b:Int)(A:RS)(c o1:Int)(d:Z),l.drop k=r→pre.length=k→E id H d→T d id (.row (cK B A lx px))→Kp s A→A.ok→T d H.n (.row [af 0,af 0])→T d H1.n (.row [af c,af o1]) →
   (cl B r b A).1=(cl B l a s).1→(cl B l a s).2=pre++(cl B r b A).2→c=pre.getD 0 0→o1=pre.getD 1 0 →
   au (S.wF (aj C) (.ptr id 0) (aD aA.cells l) (.ptr H.n 0) (.ptr H1.n 0) (D l.length) Q) ([D b,D k],d):=by
  intro r;induction r with
  | nil=>
   intro k pre b A c o1 d p m q t hk u o v he hv z0 w;have hle:=db p;refine au.step ?_;simp only[S.wF,aq,bh,bb,G,ai,aB,S.GX];rw[cZ,v.load,show bW [af c,af o1] 0 2 true=some (.agg [af c,af o1])from rfl];simp only[G];rw[o.store,aa ⟨rfl,rfl,rfl,(by decide:0+2≤2)⟩];simp only[G];rw[(o.set _).load,show bW (setCells [af 0,af 0] 0 (I.agg [af c,af o1]).cells) 0 2 true=some (.agg [af c,af o1])from rfl];simp only[G];have y:A=(cl B l a s).1:=by rw[cl]at he;exact he
   rw[cl,ZO]at hv;have f:E id H (d.set H.n (.row (setCells [af 0,af 0] 0 (I.agg [af c,af o1]).cells))):=q.nU (hT _) _;have:=U _ f (by rw[←y];exact h.next f (t.br (W5 V) _) hk u)
   rw[hv,←z0,←w]at this;exact this
  | cons e r ak=>
   intro k pre b A c o1 d p m q t hk u o v he hv z0 w;obtain⟨al,z,am⟩:=c8 p;have K:=Y7 z;refine au.step ?_;simp only[S.wF,aq,bh,bb,G,ai];rw[ch,cp al];simp only[G];rw[dd aA.len (by decide) _ z];simp only[G,aV,aR,aY];rw[bO _ _ _ 8 e.len e.scalar rfl];simp only[G];rw[I4 (T.new d (.row e.cells))];simp only[G];have f:=q.pH (.row e.cells);have an:=t.push (.row e.cells);have ao:=o.push (.row e.cells);have ap:=v.push (.row e.cells);generalize d.push (.row e.cells)=ar at *;refine R e K b A lx px ar _ (h.next f an hk u) λM F N=>?_;have av:=F.2 _ _ (by omega) ao;have J:=F.2 _ _ (by omega) ap;have O:k=0∨k=1:=by omega
   have ay:aU (some 2) 1 (.ptr H1.n 0) (D k)=some (.ptr H1.n k):=by rcases O with rfl|rfl<;>rfl
   obtain ⟨g,j,az,aC,aE⟩:∃g j,ax M 1 (.ptr H1.n k) (af (cq B e b A).2)=some (M.set H1.n (.row [af g,af j]))∧g=(pre++[(cq B e b A).2]).getD 0 0∧j=(pre++[(cq B e b A).2]).getD 1 0:=by
    rcases O with rfl|rfl
    · have:pre=[]:=XJ.1 m;subst this;exact⟨_,o1,by rw[J.store,aa ⟨rfl,rfl,rfl,(by decide:0+1≤2)⟩];rfl,rfl,w⟩
    · match pre,m with
      |[x],_=>exact⟨c,_,by rw[J.store,aa ⟨rfl,rfl,rfl,(by decide:1+1≤2)⟩];rfl,z0,rfl⟩
   have hw:Xv .i64 ((k:Int)+1)=((k+1:Nat):Int):=by rw[bM];simp
   simp only[ay,G,az,bu,hw,B1 aA.len z];have aF:=(f.trans F).nU (i:=H1.n) (by omega) (.row [af g,af j]);refine mL aw W (l:=[e]) (by simp) (λaH y=>by rw[aaM.1 y];exact P e K) _ _ ?_;simp only[bu,G,hw];rw[cl]at he hv;rw[show bU [e] 0=gh e 0 by rw[bU,bU]];refine ak (k+1) (pre++[(cq B e b A).2]) _ _ g j _ am (by simp[m]) aF (N.row.br (by omega) _) (hk.trans (jg B e b A)) N.ok (av.br ah _) (J.set _) he ?_ aC aE;rw[hv];simp
 exact main l 0 [] a s 0 0 ag rfl rfl ab a2 (Kp.refl s) h.ok ac ae rfl rfl rfl rfl
end
end Rb

namespace Rb
open Go
variable{t:aC}{B:List aE}
def gY(a:Int)(v:aE):Int:=bC a (bT v.type).1.2
def fw:Int→List aE→Int
 |a,[]=>a
 |a,v::r=>fw (gY a v+(bT v.type).1.1) r
def l7:Int→List aE→List I
 |_,[]=>[]
 |a,v::r=> .str v.name :: D (65536+gY a v) :: D (bT v.type).1.1::l7 (gY a v+(bT v.type).1.1) r
theorem JN(h:(bT t).2=0):dP t=0∧(bp t).2=true∧(bT t).1=(bp t).1:=by
 unfold bT at h ⊢;split at h
 ·rename_i q;exact absurd h q
 · rename_i q;rw[ab q];split at h
   ·cases h
   · rename_i b;rw[ab b];split at h
     ·cases h
     · rename_i a;rw[ab a];exact⟨by simpa using q,by simpa using a,rfl⟩
theorem pI(h:(bT t).2=0):0≤(bT t).1.1∧(bT t).1.1≤65536∧1≤(bT t).1.2∧(bT t).1.2≤16:=by obtain⟨a,b,c⟩:=JN h;rw[c];exact Bf t (ja a) b
theorem B2:∀{l:List aE}{a:Int},(∀v∈l,(bT v.type).2=0)→a≤fw a l
 |[],a,_=>aac _
 | v::r,a,h=>by have b:=pI (h v (YK ..));have hu:=fI (n:=a) (step:=(bT v.type).1.2) (by omega);have:=B2 (l:=r) (a:=gY a v+(bT v.type).1.1) (λw hw=>h w (YJ _ hw));rw[fw];unfold gY at this ⊢;omega
section
variable{C:Ctx}(aw:cY C)(W:Cl (aj C) S.cr)
include aw W
theorem x2{i:Nat}{v:aE}(h:B[i]?=some v):∃p q r,aU none 7 (aD aE.cells B) (D i)=some p∧M 0 p=some q∧M 1 p=some r∧(∀H,O H 1 false q=some (.str v.name))∧∀H,O H 6 true r=some (.agg v.type.cells):=by
 have a:=(Wh.1 h).1;have b:(B.flatMap aE.cells).drop (i*7)=v.cells++(B.drop (i+1)).flatMap aE.cells:=by rw[l6 aE.len,ZH a,Zi];rw[Xc a]at h;cases h;rfl
 refine⟨_,_,_,cp a,rfl,rfl,λH=>?_,λH=>?_⟩
 · show bW (((B.flatMap aE.cells).drop (i*7)).drop 0) 0 1 false=_;rw[b];cases v with
   |mk name type=>rfl
 · show bW (((B.flatMap aE.cells).drop (i*7)).drop 1) 0 6 true=_;rw[b];cases v with
   | mk name type=>show bW (type.cells++_) 0 6 true=_;exact k2 type.len
theorem JO(hl:B.length≤32)(ax:∀v∈B,v.ok)(hv:∀v∈B,(bT v.type).2=0){H:Z}{Q:ad}
  (ay:∀d H',Z.Ext H H'→(∃tk,d = .av tk B.length (l7 0 B))→fw 0 B≤65536→Q (.aM [d,D (fw 0 B),J]) H') (az:∀H',Z.Ext H H'→¬fw 0 B≤65536→Q (.aM [ar,J,D 9]) H') :
  aj C 23 [aD aE.cells B] H Q:=by
 refine S.Oe W ?_;unfold S.f23;have second:∀(r:List aE)(k:Nat)(a:Int)(d:I)(done:List I)(f:Z),B.drop k=r→k≤B.length→Z.Ext H f→cD H.n f 3 d k done→0≤a→a≤65536→fw a r=fw 0 B→done++l7 a r=l7 0 B →
   au (S.oT (aj C) (aD aE.cells B) Q) ([d,D a,D k],f):=by
  intro r;induction r with
  | nil=>intro k a d done f j hk P R a0 Y he x;have hle:=db j;refine au.step ?_;simp only[S.oT,aq,bh,bH,G,bb,ai,aB,S.EX];rw[cZ];obtain⟨tk,e,_⟩:=R;rw[fw]at he;rw[he];refine ay _ _ P ⟨tk,?_⟩ (by rw[←he];exact Y);rw[l7,ZO]at x;rw[e,x,show k=B.length by omega]
  | cons v r U=>
   intro k a d done f j hk P R a0 Y he x;obtain⟨aA,A,L⟩:=c8 j;have E:=Y7 A;obtain⟨p,q,aC,e1,ae,V,af,X⟩:=x2 aw W A;obtain⟨g1,g2,g3⟩:=JN (hv v E);obtain⟨b1,b2,b3,aS⟩:=pI (hv v E);refine au.step ?_;simp only[S.oT,aq,bh,bH,G,bb,ai];rw[ch];simp only[e1,V,X,G];refine xU aw W v.type (ja g1) _ _ λsz al l1 l2 F K lg u ag i1 aF aG ah=>?_;obtain⟨-,z2,z3,-⟩:=aG g2;rw[←g3]at z2 z3;simp only[aR,aY,aV];rw[bO u _ (b8 sz al F K lg) 5 rfl (r9 i1 aF) rfl];have y:=T.new u (.row (b8 sz al F K lg));have ak:=P.trans (ag.trans (Z.Ext.push u (.row (b8 sz al F K lg))));have ab:=R.frame (H':=u.push (.row (b8 sz al F K lg))) (λt _ _ h=>(h.ext ag).push _);simp only[G];generalize u.push (.row (b8 sz al F K lg))=N at *;rw[z2,z3]at y;rw[fw]at he;rw[l7]at x;unfold gY at he x;generalize (bT v.type).1=g at *;obtain⟨gs,c⟩:=g;dsimp only at *;have hu:=fI (n:=a) (step:=c) (by omega);have aI:S.zV (aj C) (aD aE.cells B) (.ptr u.n 0) ([d,D a,D k],f) (au (S.oT (aj C) (aD aE.cells B) Q)) Q [D (bC a c)] N:=by
    unfold S.zV;simp only[aq,bh,e1,ae,af,G,bu];simp only[M,W7,(hU y).1,G];rw[wrap_i64 (n:=65536+bC a c) (by omega) (by omega),show ba [J,J] [(0,1,D (65536+bC a c)),(1,1,D gs)]=some (.agg [D (65536+bC a c),D gs])from rfl];simp only[G];rw[show ba [.str [],J,J] [(0,1,.str v.name),(1,2,.agg [D (65536+bC a c),D gs])]=some (.agg [.str v.name,D (65536+bC a c),D gs])from rfl];simp only[G];rw[show c9 N false 3 1 [.str [],J,J] [(0,3,.agg [.str v.name,D (65536+bC a c),D gs])]=some (.av .full 1 [.str v.name,D (65536+bC a c),D gs],N)from rfl];simp only[aV];refine ab.BR ak.1 (m:=1) (news:=[.str v.name,D (65536+bC a c),D gs]) rfl rfl rfl (by decide) (by omega) (by omega) λam aJ aK an=>?_;have aL:=an _ _ y (ab.l5 y);have ao:=Ext.ca ak (aav aK) (λi o hi h=>an i o h (ab.low hi));simp only[M,W7,(hU aL).1,G,bu];rw[wrap_i64 (n:=bC a c+gs) (by omega) (by omega)];simp only[G,dv,ai];apply aH<;>intro z
    · have z:bC a c+gs>65536:=of_decide_eq_true z;have:=B2 (l:=r) (a:=bC a c+gs) (λw hw=>hv w (by
        have:w∈B.drop (k+1):=by rw[L];exact hw
        exact List.mem_of_mem_drop this))
      exact az am ao (by omega)
    · have z:¬bC a c+gs>65536:=λq=>z (decide_eq_true q);simp only[aB,S.EW,aq,bh,bu,G];rw[wrap_i64 (n:=(k:Int)+1) (by omega) (by omega),show(k:Int)+1=((k+1:Nat):Int) by simp];refine U (k+1) _ _ (done++[.str v.name,D (65536+bC a c),D gs]) am L (by omega) ao aJ (by omega) (by omega) he ?_;rw[←x];simp
   have loop:∀(m:Nat)(b:Int),0≤b→bC b c=bC a c→(bC a c-b).toNat=m→au (S.ud (aj C) (aD aE.cells B) (.ptr u.n 0) ([d,D a,D k],f) (au (S.oT (aj C) (aD aE.cells B) Q)) Q) ([D b],N):=by
    intro m;induction m with
    | zero=>
     intro b ac ap hm;have ah:=fI (n:=b) (step:=c) (by omega);have aO:=mG (n:=b) (step:=c) (by omega);have aP:b=bC a c:=by omega
     refine au.step ?_;simp only[S.ud,aq,M,W7,(hU y).2.1,G];rw[iN .i64 _ _ (by omega),aaj ac];have O:b%c=0:=by
      have:b=bC b c:=by omega
      rw[this];exact aO
     simp only[G,cU,O,ai];rw[aN,aP];exact aI
    | succ m aQ=>
     intro b ac ap hm;have ah:=fI (n:=b) (step:=c) (by omega);refine au.step ?_;simp only[S.ud,aq,M,W7,(hU y).2.1,G];rw[iN .i64 _ _ (by omega),aaj ac];have O:b%c≠0:=λq=>by have:=BP (b:=b) (s:=c) (by omega) q;omega
     simp only[G,cU,ai];rw[aa (by simpa using O)];simp only[bu,G];rw[bM];exact aQ (b+1) (by omega) (by rw[BQ (by omega) O];exact ap) (by omega)
   exact loop _ a a0 rfl rfl
 have first:∀(r:List aE)(k:Nat),B.drop k=r→au (S.ue (aj C) (aD aE.cells B) Q) ([D k],H):=by
  intro r;induction r with
  | nil=>intro k j;have hle:=db j;refine au.step ?_;simp only[S.ue,aq,bH,G,bb,ai,aB,S.EY];rw[cZ];exact second B 0 0 _ [] H rfl (WS _) (Z.Ext.refl H) (cD.nil _ _ _) (aac _) (by decide) rfl rfl
  | cons v r U=>intro k j;obtain⟨aA,A,L⟩:=c8 j;have E:=Y7 A;obtain⟨p,q,aC,e1,ae,V,af,X⟩:=x2 aw W A;refine au.step ?_;simp only[S.ue,aq,bH,G,bb,ai];rw[ch];simp only[e1,V,X,G];refine JH aw W v.type (ax v E).2 _ _ ?_;rw[hv v E];simp only[cU,G,ai];rw[aN];simp only[bu,G];rw[bM,show(k:Int)+1=((k+1:Nat):Int) by simp];exact U (k+1) L
 exact first B 0 rfl
end
end Rb

namespace Rb
open Go
def XB(x:Int×Int):Prop:=0≤x.1∧x.1≤20000000∧0≤x.2∧x.2≤20000000
theorem JP{packed:Bool}{kind:Int}:∀{l:List aT}{p q:PL}{n:Nat},n+l.length≤32→jb p n→(∀f∈l,rH packed f∧Bd f.type)→dQ packed kind p l=some q →
  ∃xs:List (Int×Int),xs.length=l.length∧q.dM=p.dM++aaN gU l xs∧∀x∈xs,XB x
 | [],p,q,n,e,d,hl,h=>by simp only[dQ,Option.some.injEq]at h;subst h;exact⟨[],rfl,by simp,λx c=>by cases c⟩
 | f :: r, p,q,n,e,d,hl,h=>by
  obtain⟨o1,o2⟩:=hl f (YK ..);have o:n+1+r.length≤32:=by rw[Z9]at e;omega
  simp only[dQ,pq]at h;by_cases ht:(bp f.type).2=true
  · rw [aa ht]at h;obtain⟨b1,b2,b3,s⟩:=o2 ht;have a:f.bits=true→1≤f.type.size∧f.type.size≤8∧0≤f.bn∧f.bn≤8*f.type.size∧packed=false∧(bp f.type).1.2=f.type.size:=λa=>by
     obtain⟨t,z2,z3,z4,z5,u⟩:=o1 a;exact⟨z2,z3,z4,z5,u,by rw[nO (.inl t)]⟩
    obtain⟨e1,i⟩:=Ix (packed:=packed) (kind:=kind) (g:=(bp f.type).1) (by omega) d b1 b2 b3 s (λq=>⟨(a q).1,(a q).2.1,(a q).2.2.1,(a q).2.2.2.1⟩);have v:=Iy (kind:=kind) d (f:=f) (g:=(bp f.type).1) b3 (λq=>⟨(a q).1,(a q).2.2.1,(a q).2.2.2.1,(a q).2.2.2.2.1,(a q).2.2.2.2.2⟩);obtain⟨xs,w,k,y⟩:=JP o i (λg z=>hl g (YJ _ z)) h;have c1:=i.b0;have m:=i.b1;rw[e1,v]at k c1 m;refine⟨((eC packed kind p.bit f (bp f.type).1).1,(eC packed kind p.bit f (bp f.type).1).2.1)::xs,by simp[w],?_,λx c=>?_⟩
    ·rw[k,List.zipWith_cons_cons,aaO];rfl
    · rcases YI.1 c with rfl|c
      · have A:=d.b0;have C:0≤(eC packed kind p.bit f (bp f.type).1).1∧0≤(eC packed kind p.bit f (bp f.type).1).2.1:=by
         have B:0≤(if kind=4 then(0:Int)else p.bit):=by split;decide;exact A
         unfold eC;dsimp only;generalize (if kind=4 then(0:Int)else p.bit)=b at *;by_cases j:f.bits=true
         · obtain⟨D,E,y3,y4,_⟩:=a j;rw[aa j];refine⟨?_,y3⟩;show 0≤bC b _;split
           ·have:=fI (n:=b) (step:=8*f.type.size) (by omega);omega
           ·rw[xw];exact B
         · rw[ab j];refine⟨?_,by show 0≤8*_;omega⟩;show 0≤bC b _;split
           ·have:=fI (n:=b) (step:=8) (by omega);omega
           ·have:=fI (n:=b) (step:=8*(bp f.type).1.2) (by omega);omega
        dsimp only at c1 m;have F:((n+1:Nat):Int)*600000≤32*600000:=by rw[Z9]at e;omega
        unfold XB;dsimp only;omega
      ·exact y x c
  ·rw[ab ht]at h;cases h
theorem SE{t:aC}(h:t.lay)(hk:t.kind=3∨t.kind=4):∃xs:List (Int×Int),xs.length=t.aI.length∧gr t=aaN gU t.aI xs∧(∀x∈xs,XB x)∧∀f∈t.aI,rH t.packed f:=by
 obtain⟨p,a,_⟩:=xS h hk;have hs:=ja h.snd;have hlen:=Be hs hk;have b:∀f∈t.aI,rH t.packed f:=by
  rw[gT]at hs;split at hs
  ·exact absurd hs (by decide)
  · rw[ab (show ¬t.kind=1 by omega),ab (show ¬t.kind=2 by omega),ab (show ¬t.kind=5 by omega),bF]at hs;exact Bc hs
 obtain⟨xs,c,d,e⟩:=JP (n:=0) (by omega) jb.zero (λf hf=>⟨b f hf,Bf f.type ((mF hs hk).1 f hf)⟩) a;refine⟨xs,c,?_,e,b⟩;unfold gr;rw[a];exact d
def se(t:aC)(s:bN):Prop:=(s.bits=true→t.kind=1)∧0≤s.len∧s.len≤10000000∧0≤s.bit∧s.bit≤7
theorem JQ{t:aC}(h:t.lay)(hk:t.kind=3∨t.kind=4){n:Nat}{f:aT}{s:bN}(hf:t.aI[n]?=some f)(hs:(gr t)[n]?=some s):se f.type s∧∃x,s=gU f x∧XB x:=by
 obtain⟨xs,l,g,i,j⟩:=SE h hk;rw[g,List.getElem?_zipWith,hf]at hs;cases a:xs[n]? with
 |none=>rw[a]at hs;cases hs
 | some x=>
  rw[a]at hs;have c:s=gU f x:=by simpa using hs.symm
  have d:=i x (Y7 a);refine⟨?_,x,c,d⟩;obtain⟨c1,m,c3,o⟩:=d;rw[c];unfold gU;by_cases b:f.bits=true
  · rw[aa b];have k:=(j f (Y7 hf) b).1;refine⟨λ_=>k,?_,?_,?_,?_⟩
    ·show 0≤(if x.2>0 then _ else _);split<;>omega
    ·show(if x.2>0 then _ else _)≤_;split<;>omega
    ·show 0≤x.1%8;omega
    ·show x.1%8≤7;omega
  · rw[ab b];refine⟨λe=>(by cases e),?_,?_,aac 0,(by decide:(0:Int)≤7)⟩
    ·show 0≤x.2/8;omega
    ·show x.2/8≤_;omega
theorem B3:∀{r:List aX}{t:aC}{sp b:bN}{idx:List Int},t.lay→(eN t r).1=0→se t sp→gi r t sp idx=some b→se (eN t r).2 b
 | [],t,sp,b,idx,ht,h,d,hw=>by rw[gi]at hw;cases hw;rw[eN];exact d
 | p :: r,t,sp,b,idx,ht,h,d,hw=>by
  obtain⟨j,c⟩:=xV h;have k:(eN t (p::r)).2=(eN (de t p).2 r).2:=by rw[eN,ab (by rw[j];decide)]
  rw[k];rcases BM ht j with⟨l1,l2,e,w,g,l4,a⟩|⟨l1,l2,n,f,s,g,l4,a,l,m⟩
  · rw [l4]at c ⊢;cases idx with
    |nil=>unfold gi at hw;rw[aa l1]at hw;cases hw
    | cons i q=>
     by_cases hi:i≥iR t.bZ
     ·rw[BW l1 hi]at hw;cases hw
     · rw [BX l1 hi g]at hw;refine B3 a c ?_ hw;obtain⟨g1,g2,g3,g4,g5⟩:=d;have o:sp.bits=false:=by
        cases u:sp.bits with
        |false=>rfl
        |true=>have:=g1 u;omega
       have v:=pI (t:=e) (by rw[a.zero]);refine⟨λz=>?_,v.1,?_,g4,g5⟩
       · have z:sp.bits=true:=z;rw[o]at z;cases z
       ·show(bT e).1.1≤10000000;omega
  · rw[l]at c ⊢;rw[BZ (by rw[l1];decide) g l4 a]at hw;refine B3 m c ?_ hw;exact(JQ ht l2 l4 a).1
theorem JR:∀{l:List aE}{at':Int}{acc:List bN},(∀g∈acc,g.bits=false∧0≤g.len∧g.len≤10000000)→∀g∈(eH l at' acc).2.2,g.bits=false∧0≤g.len∧g.len≤10000000
 |[],at',acc,h=>by rw[eH];exact h
 | v :: r,at',acc,h=>by
  rw[BN];split
  ·intro g a;cases a
  · rename_i b;refine JR λg a=>?_;rcases YB.1 a with a|a
    ·exact h g a
    · simp at a;subst a;have c:=pI (t:=v.type) (by simpa using b);exact⟨rfl,c.1,by show(bT v.type).1.1≤_;omega⟩
theorem mN{B:List aE}(hv:∀v∈B,v.ok)(x:aW)(l:List Int):se (bP B x).2 (F B x l):=by
 have b:se (bP B x).2 bz:=⟨λe=>(by cases e),by decide,by decide,by decide,by decide⟩
 unfold F;split
 ·exact b
 rename_i d;split
 ·exact b
 rename_i c;split
 ·exact b
 split
 ·exact b
 split
 ·exact b
 · rename_i n f;split
   · rename_i v g h m;have d:(mapM B).1=0:=by simpa using d
     have c:(bP B x).1=0:=by simpa using c
     have j:=Y7 h;have k:v.type.lay:=r8 (hv v j).2 ((Ju d).2 v j);have a:g.bits=false∧0≤g.len∧g.len≤10000000:=by
      have o:=Y7 m;have:∀g∈(mapM B).2.2,g.bits=false∧0≤g.len∧g.len≤10000000:=by
       unfold mapM;split
       ·intro g a;cases a
       · split
         ·intro g a;cases a
         ·exact JR λg a=>by cases a
      exact this g o
     split
     · rename_i sp p;have q:bP B x=eN v.type x.aK:=by
        rcases lP (λv:aE=>v.name==x.var) B with⟨i,w,Y,a2,a3⟩|⟨Y,a2⟩
        · rw[f]at Y;cases Y;rw[h]at a3;cases a3;unfold bP;rw[a2];dsimp only;rw[ab (by rw[k.snd];decide)]
        ·rw[f]at Y;cases Y
       rw[q]at c ⊢;have:=B3 k c (sp:={bz with at_:=g.at_,len:=g.len}) ⟨λe=>(by cases e),a.2.1,a.2.2,aac 0,(by decide:(0:Int)≤7)⟩ p;exact this
     ·exact b
   ·exact b
end Rb

namespace Rb
open Go
variable{a b x v n:Int}{k i:Nat}
def bt(a:Int)(i:Nat):Bool:=a.toNat.testBit i
theorem ll(h:bx a):a=(a.toNat:Int)∧a.toNat<2^64:=by have:=h.1;have:=h.2;refine⟨by omega,?_⟩;rw[show(2:Nat)^64=18446744073709551616 by decide];omega
theorem x3{n:Nat}(h:n<2^64):Xv .u64 (n:Int)=n:=by rw[show(2:Nat)^64=18446744073709551616 by decide]at h;exact xb
theorem SF{n:Nat}(h:n<2^64):bx (n:Int):=by rw[show(2:Nat)^64=18446744073709551616 by decide]at h;unfold bx;omega
theorem sf(c:bx a)(d:bx b)(h:∀i,bt a i=bt b i):a=b:=by rw[(ll c).1,(ll d).1,Nat.eq_of_testBit_eq h]
theorem x4(h:bx a)(hi:64≤i):bt a i=false:=Nat.testBit_lt_two_pow (AH (ll h).2 (Nat.pow_le_pow_right (by decide) hi))
theorem pJ(h:bx a):(BitVec.ofInt 64 a).toNat=a.toNat:=by rw[BitVec.toNat_ofInt];obtain⟨b,c⟩:=h;rw[show((2^64:Nat):Int)=18446744073709551616 by decide,Int.emod_eq_of_lt b (by omega)]
theorem SG(c:bx a)(d:bx b):lU a b=((a.toNat ||| b.toNat:Nat):Int):=by unfold lU;rw[BitVec.toNat_or,pJ c,pJ d];exact x3 (Nat.or_lt_two_pow (ll c).2 (ll d).2)
theorem SH(d:bx a)(c:bx b):hq a b=((a.toNat &&& b.toNat:Nat):Int):=by unfold hq;rw[aaP,pJ d,pJ c];exact x3 (aaQ _ (ll c).2)
theorem SI(c:bx a)(d:bx b):rV a b=((a.toNat &&& (2^64-(b.toNat+1)):Nat):Int):=by unfold rV;rw[aaP,BitVec.toNat_not,pJ c,pJ d,show 2^64-1-b.toNat=2^64-(b.toNat+1) by omega];exact x3 (aaQ _ (by omega))
theorem B4(c:bx a)(d:bx b)(i:Nat):bt (lU a b) i=(bt a i||bt b i):=by rw[SG c d];unfold bt;rw[Xw,Nat.testBit_or]
theorem x5(c:bx a)(d:bx b)(i:Nat):bt (hq a b) i=(bt a i&&bt b i):=by rw[SH c d];unfold bt;rw[Xw,aaR]
theorem SJ(d:bx a)(c:bx b)(i:Nat):bt (rV a b) i=(bt a i&&(decide (i<64)&&!bt b i)):=by rw[SI d c];unfold bt;rw[Xw,aaR,Nat.testBit_two_pow_sub_succ (ll c).2]
theorem SK(n:Nat):Xv .u64 (n:Int)=((n%2^64:Nat):Int):=by rw[show(2:Nat)^64=18446744073709551616 by decide];simp[Xv,Wu,Wv]
theorem B5(b:bx a)(hk:k<64):hr a k=((a.toNat*2^k%2^64:Nat):Int):=by unfold hr;rw[Xw,aat (by omega),(ll b).1,show((a.toNat:Int))*2^k=((a.toNat*2^k:Nat):Int) by push_cast;rfl,SK];rfl
theorem x6(b:bx a)(hk:k<64)(i:Nat):bt (hr a k) i=(decide (i<64)&&(decide (k≤i)&&bt a (i-k))):=by rw[B5 b hk];unfold bt;rw[Xw,aaS,Nat.testBit_mul_two_pow]
theorem JS(b:bx a)(hk:k<64):mK a k=((a.toNat/2^k:Nat):Int):=by unfold mK;rw[Xw,aat (by omega)];have c:(0:Int)<2^k:=Int.pow_pos (by decide);rw[Int.fdiv_eq_ediv_of_nonneg _ (Int.le_of_lt c),(ll b).1,Xw];push_cast;rfl
theorem SL(b:bx a)(hk:k<64)(i:Nat):bt (mK a k) i=bt a (i+k):=by rw[JS b hk];unfold bt;rw[Xw,Nat.testBit_div_two_pow]
theorem B6:bx 1:=⟨by decide,by decide⟩
theorem SM(c:1≤n)(d:n<64):fg n=((2^n.toNat-1:Nat):Int):=by
 unfold fg;rw[bF,bF];have a:n=((n.toNat:Nat):Int):=by omega
 have hk:n.toNat<64:=by omega
 generalize n.toNat=k at *;subst a;rw[B5 B6 hk];have b:2^k<2^64:=aaT (by decide) hk;rw[show(1:Int).toNat*2^k=2^k by simp,aaU b];have e:1≤2^k:=aaV;rw[show((2^k:Nat):Int)-1=((2^k-1:Nat):Int) by omega];exact x3 (by omega)
theorem sg(n:Int):bx (fg n):=by unfold fg;exact hS bx (λ_=>ei) (λ_=>hS bx (λ_=>⟨by decide,by decide⟩) (λ_=>l0 _))
theorem x7(n:Int)(i:Nat):bt (fg n) i=(decide ((i:Int)<n)&&decide (i<64)):=by
 by_cases a:n<1
 · have:fg n=0:=by unfold fg;rw[aa a]
   rw[this];unfold bt;have:decide ((i:Int)<n)=false:=by simp;omega
   rw[this];simp
 · by_cases b:n≥64
   · have:fg n=((2^64-1:Nat):Int):=by unfold fg;rw[ab a,aa b];rfl
     rw[this];unfold bt;rw[Xw,aaW];by_cases hi:i<64
     ·simp[hi];omega
     ·simp[hi]
   · rw[SM (by omega) (by omega)];unfold bt;rw[Xw,aaW,YG];simp only[Wn,dh];omega
theorem B7(a b:Int):bx (hq a b):=l0 _
theorem B8(a b:Int):bx (lU a b):=l0 _
theorem SN(a b:Int):bx (rV a b):=l0 _
theorem x8(a b:Int):bx (hr a b):=l0 _
theorem B9(h:bx x)(a n v:Int):bx (ig x a n v):=by unfold ig;exact hS bx (λ_=>B8 _ _) (λ_=>h)
theorem JT(a:bx x)(hk:k<64)(n:Int)(i:Nat):bt (hQ x k n) i=(bt x (i+k)&&(decide ((i:Int)<n)&&decide (i<64))):=by unfold hQ;rw[aa (by unfold jf;simp;omega),x5 (I_ a) (sg n),SL a hk,x7]
theorem SO(b:bx x)(hv:bx v)(hk:k<64)(n:Int)(hi:i<64):bt (ig x k n v) i=if k≤i∧((i-k:Nat):Int)<n then bt v (i-k)else bt x i:=by
 unfold ig;rw[aa (by unfold jf;simp;omega),B4 (SN _ _) (x8 _ _),SJ b (x8 _ _),x6 (sg n) hk,x6 (B7 _ _) hk,x5 hv (sg n),x7];by_cases h:k≤i
 · by_cases a:((i-k:Nat):Int)<n
   · rw[aa ⟨h,a⟩];have:i-k<64:=by omega
     simp[hi,h,a,this]
   · rw[ab (λz=>a z.2)];simp[hi,h,a]
 · rw[ab (λz=>h z.1)];simp[hi,h]
theorem B_(hv:bx v)(g:0≤n)(a:n<8):v.tmod (hr 1 (8*n))=hq v (fg (8*n))∧hr 1 (8*n)≠0:=by
 obtain⟨k,rfl⟩:∃k:Nat,n=k:=⟨n.toNat,by omega⟩
 have hk:8*k<64:=by omega
 have b:2^(8*k)<2^64:=aaT (by decide) hk;have h:1≤2^(8*k):=aaV;have e:hr 1 (8*(k:Int))=((2^(8*k):Nat):Int):=by have:=B5 B6 hk;rw[show((8*k:Nat):Int)=8*(k:Int) by push_cast;rfl]at this;rw[this,show(1:Int).toNat*2^(8*k)=2^(8*k) by simp,aaU b]
 refine⟨?_,by rw[e];omega⟩;rw[e];have d:v.tmod ((2^(8*k):Nat):Int)=((v.toNat%2^(8*k):Nat):Int):=by
  rw[aaj hv.1]
  conv=>lhs;rw[(ll hv).1]
  push_cast;rfl
 rw[d];have f:v.toNat%2^(8*k)<2^64:=Nat.lt_trans (Nat.mod_lt _ (by omega)) b;refine sf (SF f) (B7 _ _) λi=>?_;rw[x5 hv (sg _),x7];unfold bt;rw[Xw,aaS,YG];simp only[Wn,dh];constructor
 ·rintro⟨a,c⟩;exact⟨c,by omega,by omega⟩
 ·rintro⟨a,c,j⟩;exact⟨by omega,a⟩
theorem JU(hv:bx v)(h:64≤n):hq v (fg n)=v:=by
 refine sf (B7 _ _) hv λi=>?_;rw[x5 hv (sg _),x7];by_cases hi:i<64
 · have:(i:Int)<n:=by omega
   simp[hi,this]
 ·rw[x4 hv (by omega)];rfl
def jC(b:Bool):Int:=if b=true then 1 else 0
theorem JV(b:Bool):bx (jC b):=by unfold jC;exact hS bx (λ_=>B6) (λ_=>ei)
theorem JW(b:Bool)(i:Nat):bt (jC b) i=(b&&decide (i=0)):=by
 unfold jC bt;cases b
 ·simp
 · simp only[aY,aaa];show Nat.testBit 1 i=_;rw[show(1:Nat)=2^0 by rfl,Nat.testBit_two_pow,YG];simp;omega
section
variable{C:Ctx}(aw:cY C)(W:Cl (aj C) S.cr)
include aw W
theorem Ca(d:bx x)(n:Int):bR (aj C) 66 [af x,D n] (af (jC (decide (0≤n)&&bt x n.toNat))):=by
 intro H Q a;refine S.OH W ?_;unfold S.f66;have f:∀b:Bool,(b=true↔(n<0∨n>63))→S.vn (aj C) (af x) (D n) Q [.bool b] H:=by
  intro b g;unfold S.vn;simp only[aq,ai,aB];apply aH<;>intro h
  · have h:=g.1 h;have e:(decide (0≤n)&&bt x n.toNat)=false:=by
     by_cases c:0≤n
     ·rw[x4 d (by omega)];simp
     ·simp[c]
    rw[e]at a;exact a
  · have h:¬(n<0∨n>63):=λz=>h (g.2 z);unfold S.FP;simp only[j0,G];rw[xb,ry _ _ _ _ (by omega)];simp only[G];rw[iN _ _ _ (by decide)];simp only[G];refine(λq=>?_) a;have e:(x.fdiv (2^(min n.toNat aaX.bits))).tmod 2=jC (decide (0≤n)&&bt x n.toNat):=by
     have:=JS d (k:=n.toNat) (by omega);unfold mK at this;rw[Xw]at this;rw[show aaX.bits=64 from rfl,this];have c:decide (0≤n)=true:=by simp;omega
     rw[c,aaa];unfold bt jC;rw[Nat.testBit_eq_decide_div_mod_eq];generalize x.toNat/2^n.toNat=q at *;have hm:q%2=0∨q%2=1:=by omega
     rw[aaj (Int.natCast_nonneg _)];rcases hm with hm|hm
     ·rw[ab (by simp[hm])];omega
     ·rw[aa (by simp[hm])];omega
    rw[e];exact q
 simp only[bb,G,b7,aB];apply dD<;>intro h
 · simp only[dv,G];have h:¬n<0:=by simpa using h
   exact f _ ⟨λz=> .inr (by simpa using z),λz=>by rcases z with z|z;exact absurd z h;simpa using z⟩
 · have h:n<0:=by simpa using h
   exact f true ⟨λ_=> .inl h,λ_=>rfl⟩
theorem SP(o:bx x)(a n:Int):bR (aj C) 31 [af x,D a,D n] (af (hQ x a n)):=by
 intro H Q g;refine S.Oj W ?_;unfold S.f31;have q : ∀ b:Bool,(b=true↔(a<0∨a>63))→S.uB (aj C) (af x) (D a) (D n) Q [.bool b] H:=by
  intro b d;unfold S.uB;simp only[aq,ai,aB];apply aH<;>intro h
  · have h:=d.1 h;have e:hQ x a n=0:=by
     unfold hQ jf;rw[jo]
    rw[e]at g;exact g
  · have h : ¬(a<0∨a>63):=λz=>h (d.2 z);obtain⟨k,rfl⟩:∃k:Nat,a=k:=⟨a.toNat,by omega⟩
    have hk:k<64:=by omega
    unfold S.E_;have main:∀(m i:Nat)(out:Int),i+m=64→bx out→(∀j,bt out j=(decide (j<i)&&bt (hQ x k n) j))→(∀j:Nat,j<i→(j:Int)<n)→au (S.qM (aj C) (af x) (D k) (D n) Q) ([af out,D i],H):=by
     intro m;induction m with
     | zero=>
      intro i out hi l d s;refine au.step ?_;have e:out=hQ x k n:=sf l (r3 _ _ _) λj=>by
       rw[d];by_cases c:j<i
       ·simp[c]
       ·rw[x4 (r3 _ _ _) (by omega)];simp
      simp only[S.qM,aq,bh,bb,G,bG,aB];have fin:S.oW (aj C) (af x) (D k) ([af out,D i],H) (au (S.qM (aj C) (af x) (D k) (D n) Q)) Q [P] H:=by unfold S.oW;simp only[aq,ai];rw[aN,e];exact g
      refine aH (λ_=>?_) (λ_=>fin);have:decide ((i:Int)<64)=false:=by simp;omega
      rw[this];exact fin
     | succ m t=>
      intro i out hi l d s;refine au.step ?_;simp only[S.qM,aq,bh,bb,G,bG,aB];apply aH<;>intro f
      · have f:(i:Int)<n:=by simpa using f
        have:decide ((i:Int)<64)=true:=by simp;omega
        rw[this];unfold S.oW;simp only[aq,bh,ai,aY,aB,S.E9,bu,G];rw[wrap_i64 (n:=(k:Int)+i) (by omega) (by omega)];refine Ca aw W o _ _ _ ?_;simp only[j0,G];rw[xb,lN _ _ _ _ (by omega)];simp only[G,rv,bu];rw[bM,show(i:Int)+1=((i+1:Nat):Int) by simp];have u:(decide (0≤(k:Int)+i)&&bt x ((k:Int)+i).toNat)=bt x (i+k):=by rw[show decide (0≤(k:Int)+i)=true by simp;omega,aaa];congr 1;omega
        rw[u];have v:bx (lU out (hr (jC (bt x (i+k))) i)):=B8 _ _;refine t (i+1) (lU out (hr (jC (bt x (i+k))) i)) (by omega) v (λj=>?_) (λj c=>by omega);rw[B4 l (x8 _ _),x6 (JV _) (by omega),JW,d];by_cases c:j=i
        · subst c;rw[JT o hk];have:j<64:=by omega
          simp[this,f]
        · by_cases r:j<i
          · have e1:¬i≤j:=by omega
            have p:j<i+1:=by omega
            simp[r,e1,p]
          · have p:¬j<i+1:=by omega
            have w:¬j-i=0:=by omega
            simp[r,p,w]
      · have f:¬(i:Int)<n:=by simpa using f
        have e:out=hQ x k n:=sf l (r3 _ _ _) λj=>by
         rw[d];by_cases c:j<i
         ·simp[c]
         · rw[JT o hk];have:¬(j:Int)<n:=by omega
           simp[c,this]
        unfold S.oW;simp only[aq,ai];rw[aN,e];exact g
    exact main 64 0 0 rfl ei (λj=>by unfold bt;simp) (λj c=>by omega)
 simp only[bb,G,b7,aB];apply dD<;>intro h
 · simp only[dv,G];have h:¬a<0:=by simpa using h
   exact q _ ⟨λz=> .inr (by simpa using z),λz=>by rcases z with z|z;exact absurd z h;simpa using z⟩
 · have h:a<0:=by simpa using h
   exact q true ⟨λ_=> .inl h,λ_=>rfl⟩
theorem SQ(d:bx x)(hv:bx v)(a n:Int)(B : -4611686018427387904≤a)(E:a≤4611686018427387904):bR (aj C) 30 [af x,D a,D n,af v] (af (ig x a n v)):=by
 intro H Q u;refine S.Oi W ?_;unfold S.f30;have p:∀i:Nat,i<64→bt (ig x a n v) i=if 0≤a∧a≤i∧(i:Int)-a<n then bt v ((i:Int)-a).toNat else bt x i:=by
  intro i hi;by_cases F:0≤a∧a<64
  · obtain ⟨k,rfl⟩:∃k:Nat,a=k:=⟨a.toNat,by omega⟩
    rw[SO d hv (by omega) n hi];by_cases h:k≤i∧((i-k:Nat):Int)<n
    · rw[aa h,df];congr 1;omega
    ·rw[ab h,bF]
  · unfold ig jf;rw[jo,bF]
 have main:∀(m i:Nat)(out:Int),i+m=64→bx out→(∀j,bt out j=(decide (j<i)&&bt (ig x a n v) j))→au (S.nz (aj C) (af x) (D a) (D n) (af v) Q) ([af out,D i],H):=by
  intro m;induction m with
  | zero=>
   intro i out hi f g;refine au.step ?_;have e:out=ig x a n v:=sf f (B9 d _ _ _) λj=>by
    rw[g];by_cases l:j<i
    ·simp[l]
    ·rw[x4 (B9 d _ _ _) (by omega)];simp
   simp only[S.nz,aq,bh,bb,G,ai];rw[cZ,e];exact u
  | succ m w=>
   intro i out hi f g;refine au.step ?_;simp only[S.nz,aq,bh,bb,G,ai];rw[ch];refine Ca aw W d _ _ _ ?_;have y:(decide (0≤(i:Int))&&bt x (i:Int).toNat)=bt x i:=by rw[show decide (0≤(i:Int))=true by simp,aaa,Xw]
   rw[y];have q:∀b:Bool,bt (ig x a n v) i=b→S.uy (aj C) ([af out,D i],H) (au (S.nz (aj C) (af x) (D a) (D n) (af v) Q)) Q [af (jC b)] H:=by
    intro b c;unfold S.uy;simp only[aq,bh,j0,G];rw[xb,lN _ _ _ _ (by omega)];simp only[G,rv,aB,S.E7,aq,bh,bu];rw[bM,show(i:Int)+1=((i+1:Nat):Int) by simp];refine w (i+1) (lU out (hr (jC b) i)) (by omega) (B8 _ _) (λj=>?_);rw[B4 f (x8 _ _),x6 (JV _) (by omega),JW,g];by_cases l:j=i
    · subst l;have:j<64:=by omega
      simp[this,c]
    · by_cases r:j<i
      · have e1:¬i≤j:=by omega
        have o:j<i+1:=by omega
        simp[r,e1,o]
      · have o:¬j<i+1:=by omega
        have A:¬j-i=0:=by omega
        simp[r,o,A]
   have s:∀b:Bool,(b=true↔(0≤a∧a≤i∧(i:Int)-a<n))→S.uz (aj C) (D a) (af v) (af (jC (bt x i))) ([af out,D i],H) (au (S.nz (aj C) (af x) (D a) (D n) (af v) Q)) Q [.bool b] H:=by
    intro b c;unfold S.uz;simp only[aq,bh,ai,aB,dA,G];apply aH<;>intro h
    · have h:=c.1 h;rw[bM];refine Ca aw W hv _ _ _ ?_;have:(decide (0≤(i:Int)-a)&&bt v ((i:Int)-a).toNat)=bt v ((i:Int)-a).toNat:=by
       rw[show decide (0≤(i:Int)-a)=true by simp;omega,aaa]
      rw[this];refine q _ ?_;rw[p i (by omega),aa h]
    · refine q _ ?_;rw[p i (by omega),ab (λz=>h (c.2 z))]
   have t:∀b:Bool,(b=true↔(0≤a∧a≤i))→S.uA (aj C) (D a) (D n) (af v) (af (jC (bt x i))) ([af out,D i],H) (au (S.nz (aj C) (af x) (D a) (D n) (af v) Q)) Q [.bool b] H:=by
    intro b c;unfold S.uA;simp only[aq,bh,bG,aB,dA,bb,G];apply aH<;>intro h
    · have h:=c.1 h;rw[bM];exact s _ ⟨λz=>⟨h.1,h.2,by simpa using z⟩,λz=>by simpa using z.2.2⟩
    ·exact s false ⟨λz=>(by cases z),λz=>absurd (c.2 ⟨z.1,z.2.1⟩) h⟩
   simp only[eu,gR,G,bG,aB];apply aH<;>intro h
   · have h:0≤a:=by simpa using h
     exact t _ ⟨λz=>⟨h,by simpa using z⟩,λz=>by simpa using z.2⟩
   ·exact t false ⟨λz=>(by cases z),λz=>absurd (by simpa using z.1) h⟩
 exact main 64 0 0 rfl ei (λj=>by unfold bt;simp)
theorem SR{op a b:Int}(j:1≤op)(k:op≤11)(g:bx b):bR (aj C) 28 [D op,af a,af b] (af (lb op a b)):=by
 intro H Q d;refine S.Oh W ?_;have e:0≤b.tmod 64:=Int.tmod_nonneg _ g.1;unfold S.f28;unfold lb at d;simp only[bc,G,ai,bu,dA,fD,nH,rv,HZ,iN _ _ _ (show(64:Int)≠0 by decide),lN _ _ _ _ e,ry _ _ _ _ e,cU,bb,aB,S.qI,aq];apply aH<;>intro h
 ·rw[aa (by simpa using h)]at d;exact d
 rw[ab (by simpa using h)]at d;apply aH<;>intro h
 ·rw[aa (by simpa using h)]at d;exact d
 rw[ab (by simpa using h)]at d;apply aH<;>intro h
 ·rw[aa (by simpa using h)]at d;exact d
 rw[ab (by simpa using h)]at d;apply aH<;>intro h
 ·rw[aa (by simpa using h)]at d;exact d
 rw[ab (by simpa using h)]at d;apply aH<;>intro h
 ·rw[aa (by simpa using h)]at d;exact d
 rw[ab (by simpa using h)]at d;apply aH<;>intro h
 ·rw[aa (by simpa using h)]at d;exact d
 rw[ab (by simpa using h)]at d;apply aH<;>intro h
 ·rw[aa (by simpa using h)]at d;exact d
 rw[ab (by simpa using h)]at d;apply aH<;>intro h
 ·rw[aa (by simpa using h)]at d;exact d
 rename_i l m n o p q r;rw[ab (by simpa using h)]at d;have fin:∀c:Bool,(if op=9 then a==b else if op=10 then a != b else decide (a<b))=c→if c=true then Q (af 1) H else Q (af 0) H:=by
  intro c hc;rw[hc]at d;cases c
  ·rw[aN]at d ⊢;exact d
  ·rw[aa rfl]at d ⊢;exact d
 apply aH<;>intro h
 ·exact fin _ (by rw[aa (by simpa using h)])
 have f:¬op=9:=by simpa using h
 apply aH<;>intro h
 ·exact fin _ (by rw[ab f,aa (by simpa using h)])
 have i:¬op=10:=by simpa using h
 refine aH (λh=>?_) (λs=>?_)
 ·exact fin _ (by rw[ab f,ab i])
 · exfalso;simp only[b9]at *;omega
end
end Rb

namespace Rb
open Go
def iW:Int→List aE→List bN
 |_,[]=>[]
 |a,v::r=>⟨65536+gY a v,(bT v.type).1.1,0,false,0,0⟩::iW (gY a v+(bT v.type).1.1) r
theorem JX:∀{l:List aE}{a:Int}{b:List bN},0≤a→a≤65536→(∀v∈l,(bT v.type).2=0)→fw a l≤65536→eH l a b=(0,fw a l,b++iW a l)
 |[],a,b,c,g,hv,he=>by rw[eH,fw,iW,ZO]
 | v::r,a,b,c,g,hv,he=>by
  have d:=hv v (YK ..);have f:∀v∈r,(bT v.type).2=0:=λw hw=>hv w (YJ _ hw);obtain⟨b1,b2,b3,i⟩:=pI d;have hu:=fI (n:=a) (step:=(bT v.type).1.2) (by omega);rw[fw]at he ⊢;have hle:=B2 (a:=gY a v+(bT v.type).1.1) f;have j:gY a v=bC a (bT v.type).1.2:=rfl;have h:nT a v=gY a v:=by have e:X (X (Int.tdiv (X (X (a+(bT v.type).1.2)-1)) (bT v.type).1.2)*(bT v.type).1.2)=gY a v:=mH c (by omega) (by omega) (by omega);unfold nT;rw[e,bF]
  rw[BN,ab (by rw[d];decide),h,show X (gY a v+(bT v.type).1.1)=gY a v+(bT v.type).1.1 from bM,show X (65536+gY a v)=65536+gY a v from bM,JX (by omega) (by omega) f he,iW,aaO];rfl
theorem JY:∀(l:List aE)(a:Int),l7 a l=eX l (iW a l)
 |[],a=>by rw[l7,iW];rfl
 | v::r,a=>by rw[l7,iW,eX,←JY r]
theorem SS{B:List aE}(hv:∀v∈B,(bT v.type).2=0)(a:fw 0 B≤65536):mapM B=(0,fw 0 B,iW 0 B):=by unfold mapM;rw[JX (by decide) (by decide) hv a];simp only[aaY];rw[aN,bF]
theorem Cb:∀{l:List aE}{a:Int}{n:Nat}{v:aE},l[n]?=some v→∃g b,(iW a l)[n]?=some g∧g={bz with at_:=g.at_,len:=g.len}∧(eX l (iW a l)).drop (n*3) = .str v.name :: D g.at_ :: D g.len::b
 | w::r,a,0,v,h=>by simp at h;subst h;exact⟨_,_,rfl,rfl,rfl⟩
 | w::r,a,n+1,v,h=>by obtain⟨g,b,c,d,e⟩:=Cb (l:=r) (a:=gY a w+(bT w.type).1.1) (n:=n) (by simpa using h);refine⟨g,b,c,d,?_⟩;rw[iW,eX,show(n+1)*3=n*3+3 by omega];exact e
theorem SU{H:Z}{i:Nat}{f:aT}(h:T H i (.row f.cells)):O H 1 false (.ptr i 1)=some (D f.type.kind):=by rw[h.load];cases f with|mk n t b w=>cases t;rfl
def JZ(H:Z)(ix:I)(a:List Int):Prop:=∀H',Z.Ext H H'→∀(k:Nat)(v:Int),a[k]?=some v→∃p,aU none 1 ix (D k)=some p∧O H' 1 false p=some (af v)
section
variable{C:Ctx}(aw:cY C)(W:Cl (aj C) S.cr)
include aw W
theorem SV{x:aW}(e:x.ok):bR (aj C) 64 [.agg x.cells] (D (eP x.aK 0)):=by
 obtain⟨k,_⟩:=aW.dc e;have hm:=jc;intro H Q f;refine S.OE W ?_;unfold S.f64;simp only[lY,aV];have main:∀(r:List aX)(i:Nat)(m:Int),x.aK.drop i=r→eP r m=eP x.aK 0→au (S.vg (aj C) (.ak x.cells) Q) ([D m,D i],H):=by
  intro r;induction r with
  | nil=>intro i m a he;have hle:=db a;refine au.step ?_;simp only[S.vg,aq,bh,hR,ih,bH,bb,G,ai];rw[cZ];rw[eP]at he;rw[he];exact f
  | cons p r g=>
   intro i m a he;obtain⟨b,d,h⟩:=c8 a;refine au.step ?_;simp only[S.vg,aq,bh,hR,ih,bH,bb,G,ai];rw[ch,cp b];simp only[G];obtain ⟨c,e1,j⟩:∃c,M 1 (d_ aX.cells 2 x.aK i)=some c∧∀H,O H 1 false c=some (aD aA.cells p.aZ):=by
    refine⟨.ak (((x.aK.flatMap aX.cells).drop (i*2)).drop 1),rfl,λH=>?_⟩;show bW (((x.aK.flatMap aX.cells).drop (i*2)).drop 1) 0 1 false=_;rw[l6 aX.len,ZH b,Zi];rw[Xc b]at d;cases d;generalize x.aK[i]=p;cases p with
    | mk field aZ=>rw[aX.be];show bW (aD aA.cells aZ::_) 0 1 false=some (aD aA.cells aZ);unfold bW;rw[ki];rfl
   simp only[e1,j,G,bH,bu];rw[wrap_i64 (n:=(i:Int)+1) (by omega) (by omega),show(i:Int)+1=((i+1:Nat):Int) by simp];rw[eP]at he;exact g (i+1) _ h he
 exact main x.aK 0 0 rfl rfl
theorem SW{t:aC}(hl:t.aI.length≤9223372036854775807){n:Nat}{f:aT}(hf:t.aI[n]?=some f){sz al:Int}{o1 o2:I}{lg:Bool}{l1 l2:List Int}(E:lh o1 l1)(F:lh o2 l2){a b:Int}(K:l1[n]?=some a)(L:l2[n]?=some b)(a0:0≤a)(Y:a≤1000000000)(b0:0≤b)(b1:b≤1000000000){H:Z}{Q:ad}
  (r:∀H',Z.Ext H H'→Q (.agg (gU f (a,b)).cells) H'):aj C 92 [.agg t.cells,.agg (b8 sz al o1 o2 lg),D n] H Q:=by
 refine S.OY W ?_;unfold S.f92;have N:=(Wh.1 hf).1;have R:bg H false 6 (.agg t.cells)=some (.ak t.cells,H):=by unfold bg;rw[aa ⟨rfl,t.len⟩];rfl
 have U:bg H false 5 (.agg (b8 sz al o1 o2 lg))=some (.ak (b8 sz al o1 o2 lg),H):=by unfold bg;rw[aa ⟨rfl,rfl⟩];rfl
 have t3:∀H,O H 1 false (.ak (t.cells.drop 3))=some (aD aT.cells t.aI):=λH=>by rw[aC.be];rfl
 have V:∀H,O H 1 false (.ak ((b8 sz al o1 o2 lg).drop 2))=some o1:=λ_=>rfl;have X:∀H,O H 1 false (.ak ((b8 sz al o1 o2 lg).drop 3))=some o2:=λ_=>rfl;have idx:∀{o:I}{l:List Int}{v:Int},lh o l→l[n]?=some v→∃p,aU none 1 o (D n)=some p∧∀H,O H 1 false p=some (D v):=by
  rintro o l v ⟨tk,rfl⟩ hv;have an:=(Wh.1 hv).1;refine⟨.ak ((l.map (D)).drop (n*1)),?_,λH=>?_⟩
  · show(if 0≤(n:Int)∧(n:Int)<(l.length:Nat)then some (I.ak ((l.map (D)).drop ((n:Int).toNat*1)))else none)=_;rw[aa ⟨by omega,by omega⟩,Xw]
  · show bW _ 0 1 false=_;unfold bW;rw[aa (by rw[ZQ,List.length_map];omega)];simp[hv]
 obtain⟨ao,i1,ac⟩:=idx E K;obtain⟨ap,ae,i4⟩:=idx F L;simp only[R,U,aV,aR,aY];have af:=Z.Ext.push H (.row bz.cells);have r1:=T.new H (.row bz.cells);rw[show(H.push (.row [J,J,J,P,J,J]))=H.push (.row bz.cells)from rfl];have aq:(H.push (.row bz.cells)).n=H.n+1:=rfl;generalize H.push (.row bz.cells)=H1 at *;simp only[show M 3 (.ak t.cells)=some (.ak (t.cells.drop 3))from rfl,t3,G];rw[cp N];simp only[G];rw[dd aT.len (by decide) _ hf];simp only[G];rw[bO _ _ _ 9 f.len f.scalar rfl];have s:=T.new H1 (.row f.cells);have u:=r1.push (.row f.cells);have w:=af.trans (Z.Ext.push H1 (.row f.cells));have ar:(H1.push (.row f.cells)).n=H1.n+1:=rfl;generalize H1.push (.row f.cells)=c at *;simp only[G,show ∀i,M i (.ak (b8 sz al o1 o2 lg))=some (.ak ((b8 sz al o1 o2 lg).drop i))from λ_=>rfl,V,X,i1,ac,ae,i4];simp only[M,W7,BU s,G,cV,ai];have ret:∀(sp:bN)(e:Z),Z.Ext H e→T e H.n (.row bz.cells)→gU f (a,b)=sp→Do (ax e 6 (.ptr H.n 0) (.agg sp.cells)) λd=>Do (O d 6 true (.ptr H.n 0)) λy=>Q y d:=by intro sp e h g he;rw[g.put (n:=6) rfl rfl rfl];simp only[G];rw[(g.set _).all (n:=6) rfl];simp only[G];rw[he]at r;exact r _ (h.set (hT _) _)
 have j:∀x:Int,0≤x→x≤4000000000→Xv .i64 (x.tdiv 8)=x/8:=λx ag au=>by rw[Int.tdiv_eq_ediv_of_nonneg ag];exact bM
 apply aH<;>intro hc
 · have k:f.bits=false:=by simpa using hc
   rw[jw _ _ _ (show(8:Int)≠0 by decide),jw _ _ _ (show(8:Int)≠0 by decide)];simp only[G];rw[j a a0 (by omega),j b b0 (by omega),show ba [J,J] [(0,1,D (a/8)),(1,1,D (b/8))]=some (.agg [D (a/8),D (b/8)])from rfl];simp only[G,WW,SU s];rw[show ba [J,J,J,P,J,J] [(0,2,.agg [D (a/8),D (b/8)]),(2,1,D f.type.kind)]=some (.agg (⟨a/8,b/8,f.type.kind,false,0,0⟩:bN).cells)from rfl];simp only[G];refine ret _ c w u ?_;unfold gU;rw[ab (by rw[k];decide)]
 · have k:f.bits=true:=by simpa using hc
   have z:gU f (a,b)=⟨a/8,if b>0 then(a+b-1)/8-a/8+1 else 0,1,true,a%8,b⟩:=by unfold gU;rw[aa k]
   rw[jw _ _ _ (show(8:Int)≠0 by decide),iN _ _ _ (show(8:Int)≠0 by decide)];simp only[G];rw[j a a0 (by omega),aaj a0,show ba [J,J] [(0,1,D (a/8))]=some (.agg [D (a/8),J])from rfl];simp only[G];rw[show ba [J,J,J,P,J,J] [(0,2,.agg [D (a/8),J]),(2,1,D 1),(3,1,bd),(4,1,D (a%8)),(5,1,D b)]=some (.agg (⟨a/8,0,1,true,a%8,b⟩:bN).cells)from rfl];simp only[G];rw[bO _ _ ((⟨a/8,0,1,true,a%8,b⟩:bN).cells) 6 rfl rfl rfl];have m:=T.new c (.row (⟨a/8,0,1,true,a%8,b⟩:bN).cells);have g:=u.push (.row (⟨a/8,0,1,true,a%8,b⟩:bN).cells);have h:=w.trans (Z.Ext.push c (.row (⟨a/8,0,1,true,a%8,b⟩:bN).cells));have av:H.n<c.n:=by omega
   generalize c.push (.row (⟨a/8,0,1,true,a%8,b⟩:bN).cells)=e at *;simp only[G,dv,ai,aB];have A:∀(sp:bN)(d:Z),Z.Ext H d→T d H.n (.row bz.cells)→T d c.n (.row sp.cells)→gU f (a,b)=sp→S.wg (aj C) (.ptr H.n 0) (.ptr c.n 0) Q [] d:=by intro sp d ah r4 am he;unfold S.wg;rw[am.all (n:=6) rfl];simp only[G];exact ret sp d ah r4 he
   apply aH<;>intro B
   · have q:b>0:=by simpa using B
     simp only[bu,dA,G];rw[wrap_i64 (n:=a+b) (by omega) (by omega),wrap_i64 (n:=a+b-1) (by omega) (by omega),jw _ _ _ (show(8:Int)≠0 by decide)];simp only[bu,dA,G];rw[j (a+b-1) (by omega) (by omega),wrap_i64 (n:=(a+b-1)/8-a/8) (by omega) (by omega),wrap_i64 (n:=(a+b-1)/8-a/8+1) (by omega) (by omega)];rw [show ax e 1 (.ptr c.n 1) (D ((a+b-1)/8-a/8+1))=some (e.set c.n (.row (⟨a/8,(a+b-1)/8-a/8+1,1,true,a%8,b⟩:bN).cells)) by rw[m.store,aa ⟨rfl,rfl,rfl,(by show 0+1+1≤6;decide)⟩];rfl]
     simp only[G];refine A ⟨a/8,(a+b-1)/8-a/8+1,1,true,a%8,b⟩ _ (h.set (by omega) _) (g.br (by omega) _) (m.set _) ?_;rw[z,aa q]
   · have q:¬b>0:=by simpa using B
     refine A _ e h g m ?_;rw[z,ab q]
end
end Rb

namespace Rb
open Go
theorem SX{l:List Int}{v:Int}{tk:Tok}:aU none 1 (.av tk (l++[v]).length ((l++[v]).map (af))) (D l.length)=some (.ak [af v]):=by show(if 0≤(l.length:Int)∧(l.length:Int)<((l++[v]).length:Nat)then some (I.ak (((l++[v]).map (af)).drop ((l.length:Int).toNat*1)))else none)=_;rw[aa ⟨by omega,by simp;omega⟩,Xw,aaZ,aau,List.drop_left' (by simp)];rfl
theorem J0(B:List aE)(x:aW):(dH (bP B x))[4]?=some (D (j1 B x)):=by
 unfold dH j1;split
 ·rw[aC.be];rfl
 ·rfl
theorem aW.J1{x:aW}(h:x.ok)(k:Nat):(⟨x.var,x.aK.take k⟩:aW).ok:=by
 cases x with
 | mk var aK=>obtain⟨a,b,c⟩:=h;exact⟨a,At (List.length_take_le' _ _) b,aX.ek.2 λp d=>aX.ek.1 c p (aa0 d)⟩
section
variable{C:Ctx}(aw:cY C)(W:Cl (aj C) S.cr){id:Nat}{B:List aE}{L:List (List UInt8)}
include aw W
theorem Cc(a7:B.length≤1000000)(hv:∀v∈B,v.ok){x:aW}(ao:x.ok)(a8:∀p∈x.aK,∀e∈p.aZ,jh C id B L e){a:Int}{s:RS}{lx px:I}{H:Z}{Q:ad}(h:fN H id B L s lx px)
  (ap:∀H',E id H H'→fN H' id B L (cH B x a s).1 lx px→Q (.aM [.agg ((cH B x a s).2.getD bz).cells,.bool (cH B x a s).2.isSome]) H'):aj C 105 [.ptr id 0,.agg x.cells,D a] H Q:=by
 obtain⟨bD,a9⟩:=aW.dc ao;rw[Je]at ap;refine S.O7 W ?_;unfold S.f105;simp only[lY,aV,aR,aY,hR,ih,bH,G];have a_:=h.row.1;have bd:=E.push id H (.row bz.cells);have r1:=T.new H (.row bz.cells);have Y:=h.row.push (.row bz.cells);change au (S.rl (aj C) (.ptr id 0) (.ak x.cells) (.ptr H.n 0) (aD aX.cells x.aK) (D x.aK.length) Q) ([D a,ar,J],H.push (.row bz.cells));have aG:ba [J,J,J,P,J,J] []=some (.agg bz.cells):=rfl;have ret:∀(A:RS)(z:Option bN)(b:Z),E id H b→T b id (.row (cK B A lx px))→Kp s A→A.ok→T b H.n (.row bz.cells)→(A,z)=((eh B x x.aK 0 a [] s).1,(eh B x x.aK 0 a [] s).2.map λidx=>F B x idx) →
   Do (ax b 6 (.ptr H.n 0) (.agg (z.getD bz).cells)) λd=>Do (O d 6 true (.ptr H.n 0)) λy=>Q (.aM [y,.bool z.isSome]) d:=by
  intro A z b N l hk j q he;rw[←he]at ap;rw[q.store,aa ⟨rfl,rfl,rfl,(by decide:0+6≤6)⟩];simp only[G];rw[(q.set _).load,show bW (setCells bz.cells 0 (I.agg (z.getD bz).cells).cells) 0 6 true=some (.agg (z.getD bz).cells)from rfl];simp only[G];have f:E id H (b.set H.n (.row (setCells bz.cells 0 (I.agg (z.getD bz).cells).cells))):=N.nU (hT _) _;exact ap _ f (h.next f (l.br (W5 a_) _) hk j)
 have main:∀(r:List aX)(k:Nat)(c:Int)(A:RS)(ix:I)(idx:List Int)(b:Z),x.aK.drop k=r→E id H b→T b id (.row (cK B A lx px))→Kp s A→A.ok→T b H.n (.row bz.cells)→cD H.n b 1 ix idx.length (idx.map (af))→(idx=[]∨(A.stop=false∧A.fuel+idx.length≤s.fuel)) →
   eh B x r k c idx A=eh B x x.aK 0 a [] s →
   au (S.rl (aj C) (.ptr id 0) (.ak x.cells) (.ptr H.n 0) (aD aX.cells x.aK) (D x.aK.length) Q) ([D c,ix,D k],b):=by
  intro r;induction r with
  | nil=>
   intro k c A ix idx b ay N l hk j q az ae he;have hle:=db ay;rw[eh]at he;refine au.step ?_;simp only[S.rl,aq,bh,bb,G,ai,aB,S.Gz];rw[cZ];simp only[aO,M,W7,xO l,G,xK];obtain⟨tk,rfl,aI,-⟩:=az;refine SB aw W a7 hv ao ⟨tk,rfl⟩ λbE d ag=>?_;simp only[bI,Zn,Zo,G,aR,aY,aV];change _∧_∧(Do (ax (d.push (.row bz.cells)) 6 (.ptr d.n 0) _) _)
   rw[bO d bz.cells (F B x idx).cells 6 rfl rfl rfl];change O (d.push (.row bz.cells)) 1 false (.ptr id 0)=_∧_∧_;have w:=l.ext ag;have ah:=q.ext ag;have f:E id H d:=N.trans ⟨ag.1,λi o _ j=>j.ext ag⟩;refine⟨xO (w.push _),trivial,?_⟩;have bf:=T.new d (.row (F B x idx).cells);simp only[G];rw[bf.load,eM (n:=6) rfl];simp only[G];exact ret A (some (F B x idx)) _ (f.pH _) (w.push _) hk j (ah.push _) (by rw[←he];rfl)
  | cons p r aJ=>
   intro k c A ix idx b ay N l hk j q az ae he;obtain⟨aN,aP,aQ⟩:=c8 ay;have aT:=Y7 aP;obtain⟨bg,bi⟩:=a9 p aT;have hw:Xv .i64 ((k:Int)+1)=((k+1:Nat):Int):=by rw[bM];simp
   rw[eh,Jc]at he;refine au.step ?_;simp only[S.rl,aq,bh,bb,G,ai];rw[ch,cp aN];simp only[G];rw[dd aX.len (by decide) _ aP];simp only[G,aV,aR,aY];rw[bO _ _ _ 2 p.len p.scalar rfl];have a0:=T.new b (.row p.cells);have w:=l.push (.row p.cells);have ah:=q.push (.row p.cells);have f:=N.pH (.row p.cells);have a1:=az.frame (H':=b.push (.row p.cells)) (λt _ _ h=>h.push _);have n6:H.n≤(b.push (.row p.cells)).n:=f.1;have bF:H.n<b.n:=q.1;simp only[G,M,W7];rw[xJ a0];simp only[G,bH,bc,ai];generalize b.push (.row p.cells)=d at *;cases R:p.aZ with
   | nil=>rw[R]at he;rw[ki];simp only[aB,S.wq,aq,bh,bu,G,hw];exact aJ (k+1) c A ix idx d aQ f w hk j ah a1 ae he
   | cons e t=>
    have bk:e∈p.aZ:=by rw[R];exact YK ..
    rw[R]at he;dsimp only at he;rw[jo];have bG:p.aZ[0]?=some e:=by rw[R];rfl
    have bl:aU none 8 (aD aA.cells (e::t)) (J)=_:=cp (i:=0) (by simp);rw[bl];simp only[G];rw[dd aA.len (by decide) _ (show(e::t)[0]?=some e from rfl)];simp only[G];refine a8 p aT e bk c A lx px d _ (h.next f w hk j) λaC U X=>?_;have K:Kp s (cq B e c A).1:=hk.trans (jg B e c A);have bm:=r0 B e c A;have bJ:idx.length≤1000000:=by
     rcases ae with rfl|⟨f1,f2⟩
     ·simp
     · have f3:=h.fl (hk.stop f1);have f4:=hk.fu f3.1 (by omega) f1;omega
    have bn:(cq B e c A).1.stop=false→(cq B e c A).1.fuel+((idx++[(cq B e c A).2]).length:Nat)≤s.fuel:=by
     intro f0;have f1:A.stop=false:=(jg B e c A).stop f0;have f3:=h.fl (hk.stop f1);have f4:=hk.fu f3.1 (by omega) f1;have f5:=bm f4.1 (by omega) f0;rw[ZG,aap];rcases ae with rfl|⟨f6,f7⟩
     ·simp;omega
     ·omega
    generalize cq B e c A=g at *;have bo:=a1.frame (H':=aC) (λt _ _ al=>U.2 _ _ (λaE=>by subst aE;have:=al.2.symm.trans w.2;cases this) al);have bp:=U.2 _ _ (by omega) ah;have bq:=U.2 _ _ (by have:=l.1;omega) a0;rw[show c9 aC false 1 1 [af 0] [(0,1,af g.2)]=some (.av .full 1 [af g.2],aC)from rfl];simp only[aV];refine bo.app (by have:=U.1;omega) (m:=1) (news:=[af g.2]) rfl rfl rfl (by decide) (by omega) (by omega) λbs u bt am=>?_;have a2:=am.row bp;have bv:=am.row bq;have ac:=am.row X.row;have a3:=(f.trans U).left am;rw[xJ bv];simp only[G];refine mL aw W bg bi _ _ ?_;simp only[bu,G,aO,M,W7,j2 ac,ai];apply aH<;>intro hs
    · rw[aa hs]at he;rw[aG];simp only[G];exact ret g.1 none _ a3 ac K X.ok a2 (by rw[←he];rfl)
    · have aF:g.1.stop=false:=by simpa using hs
      rw[ab hs]at he;simp only[xO ac,G,hR,rY,ih];rw[x1 aX.len x.aK (aav aN)];simp only[G];have bw:ba [.str [],ar] [(0,1,.str x.var),(1,1,aD aX.cells (x.aK.take k))]=some (.agg (⟨x.var,x.aK.take k⟩:aW).cells):=by rw[aW.be];rfl
      rw[bw];simp only[G];refine Bp aw W B ⟨x.var,x.aK.take k⟩ (by rw[jc];omega) hv (aW.J1 ao k) _ _ ?_;rw[rR];simp only[bI,Zn,Zo,G,aR,aY,aV];rw[bO u _ (dH (bP B ⟨x.var,x.aK.take k⟩)) 6 (mJ _) (rQ _) rfl];refine⟨xO (ac.push _),trivial,trivial,?_⟩;have bx:=T.new u (.row (dH (bP B ⟨x.var,x.aK.take k⟩)));have a4:=a2.push (.row (dH (bP B ⟨x.var,x.aK.take k⟩)));have an:=ac.push (.row (dH (bP B ⟨x.var,x.aK.take k⟩)));have a5:=a3.pH (.row (dH (bP B ⟨x.var,x.aK.take k⟩)));have bA:cD H.n (u.push (.row (dH (bP B ⟨x.var,x.aK.take k⟩)))) 1 bs (idx++[g.2]).length ((idx++[g.2]).map (af)):=by have:=bt.frame (H':=u.push (.row (dH (bP B ⟨x.var,x.aK.take k⟩)))) (λt _ _ h=>h.push _);simpa using this
      have l4:O (u.push (.row (dH (bP B ⟨x.var,x.aK.take k⟩)))) 1 false (.ptr u.n 4)=some (D (j1 B ⟨x.var,x.aK.take k⟩)):=by
       rw[bx.load,←J0];generalize bP B ⟨x.var,x.aK.take k⟩=z;have:=mJ z
       match dH z,this with
       |[_,_,_,_,_,_],_=>rfl
      generalize u.push (.row (dH (bP B ⟨x.var,x.aK.take k⟩)))=a6 at *;obtain⟨tk,rfl,aI,hit⟩:=bA;have bB:Xv .i64 (((idx++[g.2]).length:Nat)-1:Int)=(idx.length:Nat):=by rw[wrap_i64 (by simp) (by simp;omega)];simp
      simp only[G];rw[show bj false (.av tk (idx++[g.2]).length ((idx++[g.2]).map (af)))=some (D ((idx++[g.2]).length:Nat))from rfl];simp only[G,dA,bB,SX,l4,j0];rw[show O a6 1 false (.ak [af g.2])=some (af g.2)from rfl];simp only[G,eu,ai];apply aH<;>intro hc
      · rw [aa (by simpa using hc)]at he;rw[BE an];simp only[G];rw[BF (an.set _)];simp only[G,aG];have bC:=(an.set (.row (cK B {g.1 with fin:=2} lx px))).set (.row (cK B {g.1 with fin:=2,stop:=true} lx px));exact ret {g.1 with fin:=2,stop:=true} none _ (a5.trans ((E.set id _ _).trans (E.set id _ _))) bC
         ⟨K.aS,K.pr,K.V,λaE=>(by have:=K.stop aF;rw[aE]at this;cases this),λ_ _ al=>by cases al⟩ ⟨X.ok.aL,X.ok.aS⟩ ((a4.br (by omega) _).br (by omega) _) (by rw[←he];rfl)
      · rw[ab (by simpa using hc)]at he;simp only[aB,S.wq,aq,bh,bu,G,hw];refine aJ (k+1) _ g.1 _ (idx++[g.2]) a6 aQ a5 an K X.ok a4 ⟨tk,rfl,aI,hit⟩ (.inr ⟨aF,bn aF⟩) ?_;rw[←he,pC,R,aa1,hy]
 exact main x.aK 0 a s _ [] _ rfl bd Y (Kp.refl s) h.ok r1 (cD.nil _ _ _) (.inl rfl) rfl
end
end Rb

namespace Rb
open Go
variable{H:Z}{i:Nat}{w:bN}
def Cd(B:List aE)(e:aA)(a:Int)(s:RS):RS×Int:=
 match (cH B e.place a s).2 with
 |none=>((cH B e.place a s).1,0)
 |some sp=>pz sp ((cl B e.a_ (X (a+bS e.place)) (cH B e.place a s).1).1.ask (iT e.kind e.aG sp (X (a+bS e.place)) e.a_ (cl B e.a_ (X (a+bS e.place)) (cH B e.place a s).1).2))
theorem mO{w:bE}(h:T H i (.row w.cells)):O H 13 true (.ptr i 0)=some (.agg w.cells):=by rw[h.load,eM (n:=13) rfl]
theorem j4(h:T H i (.row w.cells)):O H 6 true (.ptr i 0)=some (.agg w.cells):=by rw[h.load,eM (n:=6) rfl]
theorem SY(h:T H i (.row w.cells)):O H 1 false (.ptr i 1)=some (D w.len):=by rw[h.load];rfl
theorem J2(h:T H i (.row w.cells)):O H 1 false (.ptr i 3)=some (.bool w.bits):=by rw[h.load];rfl
theorem J3(h:T H i (.row w.cells)):O H 1 false (.ptr i 4)=some (D w.bit):=by rw[h.load];rfl
theorem J4(h:T H i (.row w.cells)):O H 1 false (.ptr i 5)=some (D w.bn):=by rw[h.load];rfl
section
variable{C:Ctx}(aw:cY C)(W:Cl (aj C) S.cr){id:Nat}{B:List aE}{L:List (List UInt8)}
include aw W
theorem SZ(al:B.length≤1000000)(hv:∀v∈B,v.ok){e:aA}(am:e.ok)(an:e.a_.length≤2)(ao:∀k∈e.a_,jh C id B L k)(ap:∀p∈e.place.aK,∀k∈p.aZ,jh C id B L k){a:Int}{s:RS}{lx px:I}{Q:ad}(h:fN H id B L s lx px)
  (c:∀H',E id H H'→fN H' id B L (Cd B e a s).1 lx px→Q (af (Cd B e a s).2) H'):aj C 142 [.ptr id 0,.agg e.cells,D a] H Q:=by
 obtain⟨⟨aq,K⟩,N⟩:=aA.dc am;refine S.Pt W ?_;unfold S.f142;simp only[rK,aV,gW,xD,G];refine Cc aw W al hv N ap h λd ar l=>?_;unfold Cd at c;have R:=jB B e.place a s;generalize cH B e.place a s=au at *;obtain⟨s1,z⟩:=au;dsimp only at c l R ⊢;simp only[bI,Zn,Zo,G,aR,aY,aV,cV,ai];rw[bO d _ (z.getD bz).cells 6 rfl rfl rfl];simp only[G];have U:=ar.trans (E.push id d (.row (z.getD bz).cells));have V:=l.ca (E.push id d (.row (z.getD bz).cells)) (l.row.push _);have u:=T.new d (.row (z.getD bz).cells);have n6:=l.row.1;generalize d.push (.row (z.getD bz).cells)=av at *;cases z with
 | none=>rw[aa (show(!(none:Option bN).isSome)=true from rfl)];exact c av U V
 | some sp=>
  rw[ab (show ¬(!(some sp).isSome)=true from λh=>by cases h)];dsimp only[aa2]at u ⊢;dsimp only at c;refine xL aw W N _ _ ?_;simp only[bu,G,j4 u,IL,rM];rw[show Xv .i64 (a+bS e.place)=X (a+bS e.place)from rfl];generalize X (a+bS e.place)=Y at *;refine JM aw W an K ao V λb Z m=>?_;have g:=Z.2 _ _ (by omega) u;have o:=U.trans Z;simp only[j4 g,true_and];refine mL aw W aq K _ _ ?_;have ac:=R.trans (jA B e.a_ Y s1);generalize cl B e.a_ Y s1=ax at *;obtain⟨s2,vs⟩:=ax;dsimp only at c m ac ⊢;simp only[j4 g,true_and,bu,G];have ay:ba [J,J,J,J,J,J,P,J,J,J,J,af 0,af 0] [(0,1,(D 1)),(3,6,.agg sp.cells),(9,1,D e.aG),(11,2,.agg [af (vs.getD 0 0),af (vs.getD 1 0)]),(1,1,D (Xv .i64 (Xv .i64 (Y+bU e.a_ 0)+1)))]=some (.agg (bE.cells ⟨1,X (X (Y+bU e.a_ 0)+1),0,sp,e.aG,0,vs.getD 0 0,vs.getD 1 0⟩)):=rfl;rw[ay];simp only[G,aR,aY,aV];rw[bO b _ (bE.cells ⟨1,X (X (Y+bU e.a_ 0)+1),0,sp,e.aG,0,vs.getD 0 0,vs.getD 1 0⟩) 13 rfl rfl rfl];refine⟨j4 (g.push _),?_⟩;have w:=E.push id b (.row (bE.cells ⟨1,X (X (Y+bU e.a_ 0)+1),0,sp,e.aG,0,vs.getD 0 0,vs.getD 1 0⟩));have ae:=g.push (.row (bE.cells ⟨1,X (X (Y+bU e.a_ 0)+1),0,sp,e.aG,0,vs.getD 0 0,vs.getD 1 0⟩));have q:=T.new b (.row (bE.cells ⟨1,X (X (Y+bU e.a_ 0)+1),0,sp,e.aG,0,vs.getD 0 0,vs.getD 1 0⟩));have x:=m.ca w (m.row.push _);have aJ:=m.row.1;have aL:=g.1;simp only[G];generalize b.push (.row (bE.cells ⟨1,X (X (Y+bU e.a_ 0)+1),0,sp,e.aG,0,vs.getD 0 0,vs.getD 1 0⟩))=ag at *;have fin:∀f,E id H f→fN f id B L s2 lx px→T f d.n (.row sp.cells)→T f b.n (.row (iT e.kind e.aG sp Y e.a_ vs).cells)→S.wJ (aj C) (.ptr id 0) (.ptr d.n 0) (.ptr b.n 0) Q [] f:=by
   intro f r y az aC;unfold S.wJ;rw[mO aC];simp only[G];refine r7 aw W y.row _ λaD A nF=>?_;have F:=A.2 _ _ (by omega) az;have aE:=y.ok.ask (iT e.kind e.aG sp Y e.a_ vs);have aF:=y.next A nF (Kp.ask _ _) aE.1;have aI:=r.trans A;rw[show m4 2 1 false (.agg [af (s2.ask (iT e.kind e.aG sp Y e.a_ vs)).2.1,af (s2.ask (iT e.kind e.aG sp Y e.a_ vs)).2.2]) (J)=some (af (s2.ask (iT e.kind e.aG sp Y e.a_ vs)).2.1)from rfl];simp only[G,M,W7,J2 F,J3 F,J4 F,ai];unfold pz at c;have t:=c aD aI aF;apply aH<;>intro ah
   · rw[aa ah]at t;exact RV aw W _ _ _ _ _ t
   · rw[ab ah]at t;exact t
  have aM:O ag 1 false (.ak (e.cells.drop 0))=some (D e.kind):=ie e ag;simp only[ie,G,eu,ai,M,W7,aB];apply aH<;>intro hc
  · have j:e.kind≥6:=by simpa using hc
    rw[q.store,aa ⟨rfl,rfl,rfl,(by decide:0+1≤13)⟩];simp only[G];refine⟨trivial,?_⟩;rw[(q.set _).store,aa ⟨rfl,rfl,rfl,(by decide:10+1≤13)⟩];simp only[G];have r:=((o.trans w).nU (i:=b.n) (by have:=o.1;omega) (.row (setCells (bE.cells ⟨1,X (X (Y+bU e.a_ 0)+1),0,sp,e.aG,0,vs.getD 0 0,vs.getD 1 0⟩) 0 (D 3).cells))).nU (i:=b.n) (by have:=o.1;omega) (.row (setCells (setCells (bE.cells ⟨1,X (X (Y+bU e.a_ 0)+1),0,sp,e.aG,0,vs.getD 0 0,vs.getD 1 0⟩) 0 (D 3).cells) 10 (D e.kind).cells));refine fin _ r ?_ ((ae.br (by omega) _).br (by omega) _) ?_
    ·exact h.next r ((x.row.br (by omega) _).br (by omega) _) ac x.ok
    · have:=(q.set (.row (setCells (bE.cells ⟨1,X (X (Y+bU e.a_ 0)+1),0,sp,e.aG,0,vs.getD 0 0,vs.getD 1 0⟩) 0 (D 3).cells))).set (.row (setCells (setCells (bE.cells ⟨1,X (X (Y+bU e.a_ 0)+1),0,sp,e.aG,0,vs.getD 0 0,vs.getD 1 0⟩) 0 (D 3).cells) 10 (D e.kind).cells));have e1:iT e.kind e.aG sp Y e.a_ vs=⟨3,X (X (Y+bU e.a_ 0)+1),0,sp,e.aG,e.kind,vs.getD 0 0,vs.getD 1 0⟩:=by unfold iT;rw[aa j,aa j]
      rw[e1];exact this
  · have j:¬e.kind≥6:=by simpa using hc
    refine fin _ (o.trans w) x ae ?_;have e1:iT e.kind e.aG sp Y e.a_ vs=⟨1,X (X (Y+bU e.a_ 0)+1),0,sp,e.aG,0,vs.getD 0 0,vs.getD 1 0⟩:=by unfold iT;rw[ab j,ab j]
    rw[e1];exact q
end
end Rb

namespace Rb
open Go
section
variable{C:Ctx}(aw:cY C)(W:Cl (aj C) S.cr){id:Nat}{B:List aE}{L:List (List UInt8)}
include aw W
theorem S0(av:B.length≤1000000)(hv:∀v∈B,v.ok){e:ay}(ax:e.ok)(az:e.aF.length≤2)(aA:∀k∈e.aF,jh C id B L k)(aC:∀p∈e.place.aK,∀k∈p.aZ,jh C id B L k){a:Int}{s:RS}{lx px:I}{H:Z}{Q:ad}(h:fN H id B L s lx px)
  (f:∀H',E id H H'→fN H' id B L (nR B e.place e.aF e.aG a s) lx px→Q (.aM []) H'):aj C 104 [.ptr id 0,.agg e.cells,D a] H Q:=by
 obtain⟨al,⟨aD,am⟩,_,_⟩:=ay.dc ax;refine S.O6 W ?_;unfold S.f104;simp only[pv,aV,fM,pw,G];refine Cc aw W av hv al aC h λj aE u=>?_;unfold nR at f;have an:=jB B e.place a s;generalize cH B e.place a s=aI at *;obtain⟨s1,z⟩:=aI;dsimp only at f u an ⊢;simp only[bI,Zn,Zo,G,aR,aY,aV,cV,ai];rw[bO j _ (z.getD bz).cells 6 rfl rfl rfl];simp only[G];have ao:=aE.trans (E.push id j (.row (z.getD bz).cells));have ap:=u.ca (E.push id j (.row (z.getD bz).cells)) (u.row.push _);have N:=T.new j (.row (z.getD bz).cells);have n6:=u.row.1;generalize j.push (.row (z.getD bz).cells)=aJ at *;cases z with
 | none=>rw[aa (show(!(none:Option bN).isSome)=true from rfl)];exact f aJ ao ap
 | some sp=>
  rw[ab (show ¬(!(some sp).isSome)=true from λh=>by cases h)];dsimp only[aa2]at N ⊢;dsimp only at f;refine xL aw W al _ _ ?_;simp only[bu,G,j4 N,rO,py];rw[show Xv .i64 (a+bS e.place)=X (a+bS e.place)from rfl];generalize X (a+bS e.place)=Y at *;refine JM aw W az am aA ap λc aq w=>?_;have l:=aq.2 _ _ (by omega) N;have R:=ao.trans aq;simp only[j4 l,true_and];refine mL aw W aD am _ _ ?_;unfold pA at f;have U:=an.trans (jA B e.aF Y s1);generalize cl B e.aF Y s1=aL at *;obtain⟨s2,vs⟩:=aL;dsimp only at f w U ⊢;simp only[j4 l,true_and,bu,G];rw[show Xv .i64 (Xv .i64 (Y+bU e.aF 0)+1)=X (X (Y+bU e.aF 0)+1)from rfl];generalize X (X (Y+bU e.aF 0)+1)=site at *;have aN:ba [J,J,J,J,J,J,P,J,J,J,J,af 0,af 0] [(0,1,(D 2)),(3,6,.agg sp.cells),(9,1,D e.aG),(11,2,.agg [af (vs.getD 0 0),af (vs.getD 1 0)]),(1,1,D site)]=some (.agg (bE.cells ⟨2,site,0,sp,e.aG,0,vs.getD 0 0,vs.getD 1 0⟩)):=rfl;rw[aN];simp only[G,aR,aY,aV];rw[bO c _ (bE.cells ⟨2,site,0,sp,e.aG,0,vs.getD 0 0,vs.getD 1 0⟩) 13 rfl rfl rfl];refine⟨j4 (l.push _),?_⟩;have V:=E.push id c (.row (bE.cells ⟨2,site,0,sp,e.aG,0,vs.getD 0 0,vs.getD 1 0⟩));have x:=l.push (.row (bE.cells ⟨2,site,0,sp,e.aG,0,vs.getD 0 0,vs.getD 1 0⟩));have ac:=T.new c (.row (bE.cells ⟨2,site,0,sp,e.aG,0,vs.getD 0 0,vs.getD 1 0⟩));have y:=w.ca V (w.row.push _);have a4:=w.row.1;have a5:=l.1;simp only[G];generalize c.push (.row (bE.cells ⟨2,site,0,sp,e.aG,0,vs.getD 0 0,vs.getD 1 0⟩))=aO at *;have a6:=R.1;have ae:∀m:Nat,aU (some 2) 1 (.ptr m 11) (J)=some (.ptr m 11):=λm=>rfl;have fin:∀b (o:RS) (d:Int),E id H b→T b id (.row (cK B o lx px))→Kp s o→o.ok→T b j.n (.row sp.cells)→T b c.n (.row (bE.cells ⟨2,site,0,sp,e.aG,0,d,vs.getD 1 0⟩))→(∀H',E id H H'→fN H' id B L (o.ask ⟨2,site,0,sp,e.aG,0,hq d (fg (X (8*sp.len))),vs.getD 1 0⟩).1 lx px→Q (.aM []) H')→S.wo (aj C) (.ptr id 0) (.ptr j.n 0) (.ptr c.n 0) Q [] b:=by
   intro b o d q aP ag tJ ah r aQ;have A:O b 1 false (.ptr c.n 11)=some (af d):=by rw[r.load];rfl
   unfold S.wo;simp only[M,W7,G,ae,A,SY ah,fD];refine r6 aw W _ _ _ ?_;simp only[A,true_and,nH,G,ae];rw[r.store,aa ⟨rfl,rfl,rfl,(by decide:11+1≤13)⟩];simp only[G];have t:T (b.set c.n (.row (bE.cells ⟨2,site,0,sp,e.aG,0,hq d (fg (X (8*sp.len))),vs.getD 1 0⟩))) c.n (.row (bE.cells ⟨2,site,0,sp,e.aG,0,hq d (fg (X (8*sp.len))),vs.getD 1 0⟩)):=r.set _;change Do (O (b.set c.n (.row (bE.cells ⟨2,site,0,sp,e.aG,0,hq d (fg (X (8*sp.len))),vs.getD 1 0⟩))) 13 true (.ptr c.n 0)) _;have F:=q.nU (i:=c.n) (by omega) (.row (bE.cells ⟨2,site,0,sp,e.aG,0,hq d (fg (X (8*sp.len))),vs.getD 1 0⟩));have ar:=aP.br (i:=c.n) (by omega) (.row (bE.cells ⟨2,site,0,sp,e.aG,0,hq d (fg (X (8*sp.len))),vs.getD 1 0⟩));rw[mO t];simp only[G];have aS:=h.next F ar ag tJ;refine r7 aw W ar _ λaT au a12=>?_;exact aQ aT (F.trans au) (aS.next au a12 (Kp.ask _ _) (tJ.ask _).1)
  simp only[M,W7,J2 x,G,ai,aB];unfold lW hx at f;apply aH<;>intro K
  · rw[aa K,aa K]at f;have aW:O aO 1 false (.ptr c.n 1)=some (D site):=by rw[ac.load];rfl
    simp only[j4 x,G,aW];have aX:ba [J,J,J,J,J,J,P,J,J,J,J,af 0,af 0] [(0,1,(D 1)),(3,6,.agg sp.cells),(1,1,D site)]=some (.agg (bE.cells ⟨1,site,0,sp,0,0,0,0⟩)):=rfl;rw[aX];simp only[G];refine r7 aw W y.row _ λb q HH=>?_;have a0:=y.ok.ask ⟨1,site,0,sp,0,0,0,0⟩;have ah:=q.2 _ _ (by omega) x;have r:=q.2 _ _ (by omega) ac;have ag:=U.trans (Kp.ask s2 ⟨1,site,0,sp,0,0,0,0⟩);have a1:=(R.trans V).trans q;generalize s2.ask ⟨1,site,0,sp,0,0,0,0⟩=g at *;rw[bO b _ [af g.2.1,af g.2.2] 2 rfl rfl rfl];simp only[G];have a2:=T.new b (.row [af g.2.1,af g.2.2]);rw[show aU (some 2) 1 (.ptr b.n 0) (J)=some (.ptr b.n 0)from rfl];simp only[G];rw[show O (b.push (.row [af g.2.1,af g.2.2])) 1 false (.ptr b.n 0)=some (af g.2.1) by rw[a2.load];rfl];have ak:=ah.push (.row [af g.2.1,af g.2.2]);have t:=r.push (.row [af g.2.1,af g.2.2]);have nF:=HH.push (.row [af g.2.1,af g.2.2]);have F:=a1.pH (.row [af g.2.1,af g.2.2]);generalize b.push (.row [af g.2.1,af g.2.2])=a3 at *;have A:O a3 1 false (.ptr c.n 11)=some (af (vs.getD 0 0)):=by rw[t.load];rfl
    simp only[G,J3 ak,J4 ak,ae,A];refine RW aw W _ _ _ _ _ _ ?_;rw[t.store,aa ⟨rfl,rfl,rfl,(by decide:11+1≤13)⟩];simp only[G];exact fin _ g.1 (ig g.2.1 sp.bit sp.bn (vs.getD 0 0)) (F.nU (by omega) _) (nF.br (by omega) _) ag a0.1 (ak.br (by omega) _) (t.set _) f
  · rw[ab K,ab K]at f;exact fin _ s2 (vs.getD 0 0) (R.trans V) y.row U y.ok x ac f
end
end Rb

namespace Rb
open Go
section
variable{C:Ctx}(aw:cY C)(W:Cl (aj C) S.cr){id:Nat}{B:List aE}{L:List (List UInt8)}
include aw W
theorem J5(F:B.length≤1000000)(hv:∀v∈B,v.ok):∀e:aA,e.ok→nV L e→jh C id B L e:=by
 refine aA.ind λe I K he N=>?_;obtain⟨⟨ar,n⟩,P⟩:=aA.dc he;have R:=aW.dc P;obtain⟨w1,w2,w3,T,U⟩:=(SD L e).1 N;have o:∀k∈e.a_,jh C id B L k:=λk hk=>I k hk (n k hk) (sd L |>.1 U k hk);intro a s lx px H Q h b;refine S.Pa W ?_;unfold S.f109;simp only[rK,aV];refine BG aw W h.row λH1 d r1=>?_;have c:=h.next d r1 (Kp.bY s) h.ok.bY;rw[Jf]at b;generalize au:s.bY=f at *;simp only[aO,M,W7,j2 r1,G,ai,ie,bc];change if f.stop=true then _ else _
 apply aH<;>intro hs
 · rw[aa hs]at b;exact b H1 d c
 have V:f.stop=false:=by simpa using hs
 rw[ab hs]at b;simp only[M,G,ie,bc,ai,Bn,xC];apply aH<;>intro hc
 · rw[aa (by simpa using hc)]at b;exact b H1 d c
 have c1:¬e.kind=1:=by simpa using hc
 rw[ab c1]at b;apply aH<;>intro hc
 · have g:e.kind=2:=by simpa using hc
   rw[aa g]at b;obtain⟨i,hi⟩:=sb (L:=f.aS) (name:=e.name) (by rw[c.nm V];exact w1 g);obtain⟨l,Y,av,Z,ax⟩:=xY hi;refine xX aw W r1 c.loc c.len hi λj cs m ay az ac aB aC ad=>?_;simp only[aO,G];rw [ac.load,show bW cs (i*2+1) 1 false=some (af l.2)from by have:=(JJ ad Y).2;have aE:=(Wh.1 this).1;unfold bW;rw[df];simpa using this]
   simp only[G];rw[Z]at b;exact b H1 d c
 have g:¬e.kind=2:=by simpa using hc
 rw[ab g]at b;apply aH<;>intro hc
 · have c3:e.kind=3:=by simpa using hc
   rw[aa c3]at b
   match z:e.a_,w2 c3 with
   | [x,y],_=>
    rw[z]at b o n;have ae:=n x (by simp);have ag:=n y (by simp);have ah:aU none 8 (aD aA.cells [x,y]) (J)=_:=cp (i:=0) (by simp);have aj:aU none 8 (aD aA.cells [x,y]) (D 1)=_:=cp (i:=1) (by simp);have al:∀H,O H 8 true (d_ aA.cells 8 [x,y] 0)=_:=λH=>dd aA.len (by decide) H (show [x,y][0]?=some x from rfl);have A:∀H,O H 8 true (d_ aA.cells 8 [x,y] 1)=_:=λH=>dd aA.len (by decide) H (show [x,y][1]?=some y from rfl);have am:c6 8 (aD aA.cells [x,y]) none (some (D 1)) none=some (aD aA.cells [x]):=x1 aA.len [x,y] (k:=1) (by simp);have r:∀H,O H 1 false (.ak (e.cells.drop 7))=some (aD aA.cells [x,y]):=λH=>by rw[rM,z]
    simp only[gW,r,G,ah,al];refine o x (by simp) a f lx px H1 _ c λt u q=>?_;simp only[r,G,aj,A,am];refine mL aw W (l:=[x]) (by simp) (λk hk=>by rw[aaM.1 hk];exact ae) _ _ ?_;simp only[r,A,true_and,bu,G];rw[show bU [x] 0=gh x 0 by rw[bU,bU]];refine o y (by simp) _ _ lx px t _ q λE an ao=>?_;simp only[gW,rL,G];have ap:=(Jg B y ag (X (a+gh x 0)) (cq B x a f).1 q.ok).2;refine RX aw W _ _ ap _ _ ?_;refine b E ((d.trans u).trans an) ?_;show fN E id B L (cl B [x,y] a f).1 lx px;rw[cl,cl,cl];exact ao
 have c3:¬e.kind=3:=by simpa using hc
 rw[ab c3]at b;simp only[IM,G];have aq:∀p∈e.place.aK,∀k∈p.aZ,jh C id B L k:=λp w k hk=>K p w k hk ((R.2 p w).2 k hk) (sd L |>.1 ((JL L e.place).1 (T ⟨c1,g,c3⟩) p w) k hk);refine SZ aw W F hv he w3 o aq c λt u q=>?_;exact b t (d.trans u) q
end
end Rb

namespace Rb
open Go
variable{id:Nat}{H a b H':Z}{s:RS}{lx px:I}
theorem mP(s:RS)(x:List UInt8)(v:Int):(s.put x v).aS.length=s.aS.length:=by
 unfold RS.put;split
 ·exact YH
 ·rfl
section
variable(B:List aE)
theorem S1(name bQ:List UInt8)(place:aW)(aG a:Int)(s:RS):s.aS.length≤(kD B name bQ place aG a s).aS.length:=by
 unfold kD;have b:=jB B place a s;split
 ·rw[b.aS];exact hT _
 · rename_i sp c;have hk:=b.trans (Kp.ask (cH B place a s).1 ⟨1,X (X (a+bS place)+1),0,sp,aG,0,0,0⟩);unfold lX;split
   ·rw[hk.aS];exact hT _
   ·rw[mP,mP,hk.aS];exact hT _
theorem J6{cond:RS→RS×Int}{body:RS→RS}(hc:∀s,(cond s).1.aS=s.aS)(a:∀s,s.aS.length≤(body s).aS.length):∀(c:Nat)(s:RS),s.aS.length≤(fU cond body c s).aS.length
 |0,s=>hT _
 | c + 1,s=>by
  unfold fU;split
  · have:=J6 hc a c (body (cond s).1);have b:=a (cond s).1;rw[hc]at b;omega
  ·rw[hc];exact hT _
variable(c:Nat)
mutual
theorem J7 : ∀ (x:ay) (a:Int) (s:RS),s.aS.length≤(eI B c x a s).aS.length
 | .mk kind V name bQ aG place aF aP bq,a,s=>by
  rw[eI];have hf:=pE B aF a s;split
  ·rw[(xM B place aF aG a s).aS];exact hT _
  · split
    ·exact S1 B name bQ place aG a s
    · split
      ·rw[(Kp.ask _ _).aS];exact hT _
      · split
        · refine J6 (λs=>(pE B aF a s).aS) (λs1=>?_) c s;have:=x9 aP (X (a+bU aF 0)) s1.aS.length s1 (hT _);exact this
        · split
          ·rw[hf.aS];exact hT _
          · split
            · show _≤(aa3 (_++_));rw[ZG,hf.aS];omega
            · split
              ·rw[mP,hf.aS];exact hT _
              · split
                · show _≤(cW B aF a s).1.aS.length;rw[hf.aS];exact hT _
                · split
                  · have:=x9 aP (X (a+bU aF 0)) (cW B aF a s).1.aS.length (cW B aF a s).1 (hT _);rw[hf.aS]at this ⊢;exact this
                  · have:=x9 bq (X (X (a+bU aF 0)+c_ aP 0)) (cW B aF a s).1.aS.length (cW B aF a s).1 (hT _);rw[hf.aS]at this ⊢;exact this
theorem x9:∀(l:List ay)(a:Int)(n:Nat)(s:RS),n≤s.aS.length→n≤(bV B c l a n s).aS.length
 | [],a,n,s,h=>by rw[bV];show n≤(s.aS.take n).length;rw[Z1];omega
 | x :: r,a,n,s,h=>by
  rw[bV];split
  ·exact h
  · refine x9 r _ n _ ?_;have:=J7 x a ({s with V:=x.V}:RS).bY;rw[(Kp.bY _).aS]at this;exact At h this
end
end
def dE(L:List (List UInt8))(x:ay):List (List UInt8):=if x.kind=1 then L++[x.name]else L
mutual
def pK(L:List (List UInt8)):ay→Prop
 | .mk kind V name bQ aG place aF aP bq=>(kind=2→name∈L)∧(kind=5→name∈L∧bQ∈L)∧(3≤kind∧kind≤6→lk L place)∧aF.length≤2∧(¬(3≤kind∧kind≤7)→1≤aF.length)∧hV L aF∧gw L aP∧gw L bq
def gw(L:List (List UInt8)):List ay→Prop
 |[]=>True
 |x::r=>pK L x∧gw (dE L x) r
end
theorem S2(L:List (List UInt8))(x:ay):pK L x↔(x.kind=2→x.name∈L)∧(x.kind=5→x.name∈L∧x.bQ∈L)∧(3≤x.kind∧x.kind≤6→lk L x.place)∧x.aF.length≤2∧(¬(3≤x.kind∧x.kind≤7)→1≤x.aF.length)∧hV L x.aF∧gw L x.aP∧gw L x.bq:=by cases x;rw[pK]
def di(id:Nat)(H H':Z):Prop:=H.n≤H'.n∧∀j o,j<id→T H j o→T H' j o
theorem di.refl(id:Nat)(H:Z):di id H H:=⟨hT _,λ_ _ _ h=>h⟩
theorem di.trans{a b c:Z}(h:di id a b)(k:di id b c):di id a c:=⟨At h.1 k.1,λj o d e=>k.2 j o d (h.2 j o d e)⟩
theorem E.fr(h:E id a b):di id a b:=⟨h.1,λj o c d=>h.2 j o (W5 c) d⟩
theorem di.set{id j:Nat}(c:id≤j)(x:cN):di id a (a.set j x):=⟨hT _,λi o hi b=>b.br (by omega) x⟩
structure fx(H:Z)(id:Nat)(B:List aE)(L:List (List UInt8))(s:RS)(lx px:I):Prop where
 m:fN H id B L s lx px
 p:cD (id+1) H 1 px s.pr.length (s.pr.map (af))
 lj:∀j c d e,lx = .row j c d e→id<j
theorem cD.pL{sz len:Nat}{x:I}{cells:List I}(h:cD (id+1) H sz x len cells)(k:E id H H'):cD (id+1) H' sz x len cells:=by
 obtain⟨tk,a,hc,ht⟩:=h;refine⟨tk,a,hc,?_⟩;rcases ht with ht|ht|⟨t,b,c,d⟩
 ·exact .inl ht
 ·exact .inr (.inl ht)
 ·exact .inr (.inr ⟨t,b,c,k.2 t _ (by omega) d⟩)
theorem fx.kp{B:List aE}{L a:List (List UInt8)}{s A:RS}(h:fx H id B L s lx px)(k:E id H H')(b:fN H' id B a A lx px)(c:A.pr=s.pr):fx H' id B a A lx px:=⟨b,by rw[c];exact cD.pL h.p k,h.lj⟩
theorem fN.over{B:List aE}{L a:List (List UInt8)}(h:fN H id B L s lx px)(hs:s.stop=true):fN H id B a s lx px:=⟨h.row,h.loc,h.ok,h.len,λe=>(by rw[hs]at e;cases e),h.fl,h.pl⟩
theorem fx.over{B:List aE}{L a:List (List UInt8)}(h:fx H id B L s lx px)(hs:s.stop=true):fx H id B a s lx px:=⟨h.m.over hs,h.p,h.lj⟩
end Rb

namespace Rb
open Go
variable{s:w}{d:Int}{x:ay}
theorem eQ{a:Bool}{e:Int}(h:(s.ck a e).u=0)(b:e≠0):s.u=0∧a=true:=by
 unfold w.ck at h;split at h
 ·exact absurd h b
 · rename_i q;refine⟨h,?_⟩;cases a
   ·exact absurd ⟨rfl,h⟩ q
   ·rfl
theorem en(s:w)(a:Bool)(e:Int):(s.ck a e).f=s.f:=by unfold w.ck;split<;>rfl
theorem mQ{x:List UInt8}(h:s.has x=true):x∈s.f:=by
 unfold w.has at h;obtain⟨y,a,e⟩:=YW.1 h;have:x=y:=by simpa using e
 rw[this];exact a
theorem J8{e:aA}(h:(dC s d e).u=0):s.u=0∧gd e=true:=by unfold dC at h;have b:=eQ h (by decide);have a:=eQ b.1 (by decide);have c:=eQ a.1 (by decide);exact⟨c.1,a.2⟩
theorem x_(s:w)(d:Int)(e:aA):(dC s d e).f=s.f:=by unfold dC;rw[en,en,en]
theorem J9{e:ay}(h:(dV s d e).u=0):s.u=0∧fJ e=true:=by unfold dV at h;have b:=eQ h (by decide);have a:=eQ b.1 (by decide);have c:=eQ a.1 (by decide);exact⟨c.1,a.2⟩
theorem si(s:w)(d:Int)(e:ay):(dV s d e).f=s.f:=by unfold dV;rw[en,en,en]
section
variable(B:List aE)
theorem J_(s:w)(k:Int)(x:aW):(iP B s k x).f=s.f:=by unfold iP;dsimp only;rw[en,en]
theorem S3{kind n:Int}{name:List UInt8}{op aG:Int}{place:aW}{a_:List aA}(h:gd (.mk kind n name op aG place a_)=true):1≤kind∧kind≤8∧a_.length≤2∧(kind=3→a_.length=2):=by
 unfold gd at h;simp only[Wn,dh]at h;obtain⟨⟨⟨⟨⟨⟨b,c⟩,_⟩,_⟩,_⟩,_⟩,a⟩:=h;have a:((a_.length:Int))=(ft kind).1:=by simpa using a
 have b:1≤kind:=b;have c:kind≤8:=c;unfold ft at a;refine⟨b,c,?_,λe=>?_⟩
 · split at a
   ·dsimp only at a;omega
   · split at a
     ·dsimp only at a;omega
     · split at a
       ·dsimp only at a;omega
       · split at a
         ·dsimp only at a;omega
         ·dsimp only at a;omega
 ·rw[aa e]at a;dsimp only at a;omega
mutual
theorem Ka:∀(e:aA)(s:w)(d:Int),(ic B s d e).u=0→s.u=0∧(ic B s d e).f=s.f∧nV s.f e
 | .mk kind n name op aG place a_,s,d,h=>by
  rw[ic]at h ⊢;by_cases j:(dC s d (.mk kind n name op aG place a_)).u≠0
  ·rw[aa j]at h;exact absurd h j
  · rw [ab j]at h ⊢;have v:(dC s d (.mk kind n name op aG place a_)).u=0:=by simpa using j
    have hl:=x_ s d (.mk kind n name op aG place a_);obtain⟨m,z2⟩:=J8 v;obtain⟨f1,f2,f3,f4⟩:=S3 z2;obtain⟨e1,b,a⟩:=ya a_ _ d h;rw[b,nV];by_cases hk:kind≥4
    · rw[aa hk,ab (show ¬kind=2 by omega)]at e1 b a ⊢;obtain⟨z,y,t⟩:=Kb place _ _ d e1;rw[y,hl]at a ⊢;rw[hl]at t;exact⟨m,rfl,λe=>absurd e (by omega),f4,f3,λ_=>t,a⟩
    · rw [ab hk]at e1 b a ⊢;by_cases o:kind=2
      · rw[aa o]at e1 b a ⊢;rw[en,hl]at a ⊢;have:=mQ (eQ e1 (by decide)).2;rw[hl]at this;exact⟨m,rfl,λ_=>this,f4,f3,λq=>absurd q (by omega),a⟩
      · rw[ab o,hl]at a ⊢;exact⟨m,rfl,λe=>absurd e o,f4,f3,λq=>absurd q (by omega),a⟩
theorem ya:∀(l:List aA)(s:w)(d:Int),(c0 B s d l).u=0→s.u=0∧(c0 B s d l).f=s.f∧hV s.f l
 |[],s,d,h=>by rw[c0]at h ⊢;exact⟨h,rfl,trivial⟩
 | e :: r,s,d,h=>by
  rw[c0]at h ⊢;obtain⟨e1,b,a⟩:=ya r _ d h;by_cases hs:s.u≠0
  ·rw[aa hs]at e1;exact absurd e1 hs
  · rw[ab hs]at e1 b a ⊢;obtain⟨g,c,i⟩:=Ka e s _ e1;rw[b,c];rw[c]at a;rw[hV];exact⟨g,rfl,i,a⟩
theorem Kb:∀(x:aW)(s:w)(k d:Int),(gg B s k d x).u=0→s.u=0∧(gg B s k d x).f=s.f∧lk s.f x
 | .mk var aK,s,k,d,h=>by
  rw[gg]at h ⊢;by_cases hs:s.u≠0
  ·rw[aa hs]at h;exact absurd h hs
  · rw[ab hs]at h ⊢;obtain⟨e1,b,a⟩:=Kc aK _ d h;rw[J_]at b a;rw[lk];exact⟨by simpa using hs,b,a⟩
theorem Kc:∀(l:List aX)(s:w)(d:Int),(eD B s d l).u=0→s.u=0∧(eD B s d l).f=s.f∧nW s.f l
 |[],s,d,h=>by rw[eD]at h ⊢;exact⟨h,rfl,trivial⟩
 | p::r,s,d,h=>by rw[eD]at h ⊢;obtain⟨e1,b,a⟩:=Kc r _ d h;obtain⟨g,c,i⟩:=S4 p s d e1;rw[b,c];rw[c]at a;rw[nW];exact⟨g,rfl,i,a⟩
theorem S4:∀(p:aX)(s:w)(d:Int),(jz B s d p).u=0→s.u=0∧(jz B s d p).f=s.f∧sc s.f p
 | .mk field aZ,s,d,h=>by rw[jz]at h ⊢;rw[sc];exact Kd aZ s d h
theorem Kd:∀(l:List aA)(s:w)(d:Int),(ff B s d l).u=0→s.u=0∧(ff B s d l).f=s.f∧hV s.f l
 |[],s,d,h=>by rw[ff]at h ⊢;exact⟨h,rfl,trivial⟩
 | e::r,s,d,h=>by rw[ff]at h ⊢;obtain⟨e1,b,a⟩:=Kd r _ d h;obtain⟨g,c,i⟩:=Ka e s _ e1;rw[b,c];rw[c]at a;rw[hV];exact⟨g,rfl,i,a⟩
end
variable(kw:List UInt8→Bool)
theorem S5(h:(dK B kw s d x).u=0):s.u=0∧(dK B kw s d x).f=s.f∧(x.kind=2→x.name∈s.f)∧(3≤x.kind∧x.kind≤6→lk s.f x.place):=by
 unfold dK at h ⊢;by_cases c:x.kind=1
 · rw[aa c]at h ⊢;rw[en,en,en];have a:=eQ h (by decide);have z2:=eQ a.1 (by decide);have z3:=eQ z2.1 (by decide);exact⟨z3.1,rfl,λe=>by omega,λe=>by omega⟩
 · rw [ab c]at h ⊢;by_cases b:x.kind=2
   · rw[aa b]at h ⊢;rw[en];have a:=eQ h (by decide);exact⟨a.1,rfl,λ_=>mQ a.2,λe=>by omega⟩
   · rw [ab b]at h ⊢;by_cases g:x.kind=3∨x.kind=4∨x.kind=5∨x.kind=6
     · rw[aa g]at h ⊢;obtain⟨i,j,k⟩:=Kb B x.place s _ d h;exact⟨i,j,λe=>absurd e b,λ_=>k⟩
     · rw[ab g]at h ⊢;exact⟨h,rfl,λe=>absurd e b,λe=>by omega⟩
theorem S6(h:(fK s x).u=0):s.u=0∧(fK s x).f=dE s.f x∧(x.kind=5→x.name∈s.f∧x.bQ∈s.f):=by
 unfold fK at h ⊢;unfold dE;by_cases a:x.kind=1
 · rw[aa a]at h ⊢;rw[aa a];exact⟨h,rfl,λe=>by omega⟩
 · rw [ab a]at h ⊢;rw[ab a];by_cases b:x.kind=5
   · rw[aa b]at h ⊢;rw[en,en,en];have c:=eQ h (by decide);have z2:=eQ c.1 (by decide);have z3:=eQ z2.1 (by decide);refine⟨z3.1,rfl,λ_=>⟨mQ z3.2,?_⟩⟩;exact mQ z2.2
   · rw[ab b]at h ⊢;exact⟨h,rfl,λe=>absurd e b⟩
theorem Ke(h:fJ x=true):1≤x.kind∧x.kind≤10∧x.aF.length≤2∧(¬(3≤x.kind∧x.kind≤7)→1≤x.aF.length)∧(x.kind=1→x.aP=[]∧x.bq=[]):=by
 unfold fJ at h;simp only[Wn,dh,Wo,b9]at h;obtain⟨⟨⟨⟨⟨⟨⟨d,f⟩,_⟩,_⟩,_⟩,a⟩,b⟩,c⟩:=h;unfold dG at a b c;refine⟨d,f,?_,λe=>?_,λe=>?_⟩
 · repeat' split at a
   all_goals (dsimp only at a;omega)
 · repeat' split at a
   all_goals (dsimp only at a;omega)
 · rw[aa (.inl e)]at b c;simp at b c;exact⟨b,c⟩
theorem S7(h:(dq B kw s d x).u=0):s.u=0∧(dq B kw s d x).f=dE s.f x∧fJ x=true∧(x.kind=2→x.name∈s.f)∧(x.kind=5→x.name∈s.f∧x.bQ∈s.f)∧(3≤x.kind∧x.kind≤6→lk s.f x.place)∧hV s.f x.aF:=by unfold dq at h ⊢;obtain⟨r1,a,b⟩:=S6 h;obtain⟨e1,c,e⟩:=ya B x.aF _ d r1;obtain⟨f1,f2,f3,f4⟩:=S5 B kw e1;obtain⟨g,z2⟩:=J9 f1;rw[f2,si]at c e;rw[si]at f3 f4;rw[c]at a b;exact⟨g,a,z2,f3,b,f4,e⟩
theorem Kf(L:List (List UInt8))(x:ay){n:Nat}(h:n≤L.length):(dE L x).take n=L.take n∧n≤(dE L x).length:=by
 unfold dE;split
 ·exact⟨by rw[ZI h],by rw[ZG];omega⟩
 ·exact⟨rfl,h⟩
mutual
theorem S8:∀(x:ay)(s:w)(d:Int),(stM B kw s d x).u=0→s.u=0∧(stM B kw s d x).f=dE s.f x∧pK s.f x
 | .mk kind V name bQ aG place aF aP bq,s,d,h=>by
  rw[stM]at h ⊢;obtain⟨b1,b2,b3⟩:=pM bq _ _ _ (hT _) h;obtain⟨Y,a2,a3⟩:=pM aP _ _ _ (hT _) b1;have m:=b2.trans (show(aa4 _ _)=_ from Zw);obtain⟨c1,c,c3,o,c5,p,t⟩:=S7 B kw Y;have g:(el B kw (dq B kw s d (.mk kind V name bQ aG place aF aP bq)) (dq B kw s d (.mk kind V name bQ aG place aF aP bq)).f.length (X (d+1)) aP).f=dE s.f (.mk kind V name bQ aG place aF aP bq):=by rw[a2,Zw,c]
  have b:gw (el B kw (dq B kw s d (.mk kind V name bQ aG place aF aP bq)) (dq B kw s d (.mk kind V name bQ aG place aF aP bq)).f.length (X (d+1)) aP).f bq:=b3;rw[g]at b;rw[c]at a3;obtain⟨g1,g2,g3,g4,g5⟩:=Ke c3;refine⟨c1,m.trans g,?_⟩;rw[pK];refine⟨o,c5,p,g3,g4,t,?_,?_⟩
  · by_cases hk:kind=1
    · have:aP=[]:=(g5 hk).1;subst this;rw[gw];trivial
    · have e:dE s.f (.mk kind V name bQ aG place aF aP bq)=s.f:=by unfold dE;rw[ab hk]
      rw[e]at a3;exact a3
  · by_cases hk:kind=1
    · have:bq=[]:=(g5 hk).2;subst this;rw[gw];trivial
    · have e:dE s.f (.mk kind V name bQ aG place aF aP bq)=s.f:=by unfold dE;rw[ab hk]
      rw[e]at b;exact b
theorem pM:∀(l:List ay)(s:w)(n:Nat)(d:Int),n≤s.f.length→(el B kw s n d l).u=0→s.u=0∧(el B kw s n d l).f=s.f.take n∧gw s.f l
 |[],s,n,d,i,h=>by rw[el]at h ⊢;rw[gw];exact⟨h,rfl,trivial⟩
 | x :: r,s,n,d,i,h=>by
  rw[el]at h ⊢;by_cases hs:s.u≠0
  ·rw[aa hs,kB B kw hs]at h;exact absurd h hs
  · rw [ab hs]at h ⊢;have v:(stM B kw (s.at x.V) d x).u=0:=by
     by_cases q:(stM B kw (s.at x.V) d x).u=0
     ·exact q
     ·rw[kB B kw q]at h;exact absurd h q
    obtain⟨z,a,y⟩:=S8 x (s.at x.V) d v;have a:(stM B kw (s.at x.V) d x).f=dE s.f x:=a;obtain⟨t1,t2⟩:=Kf s.f x i;obtain⟨r1,j,k⟩:=pM r (stM B kw (s.at x.V) d x) n d (by rw[a];exact t2) h;rw[a]at j k;rw[gw];exact⟨by simpa using hs,j.trans t1,y,k⟩
end
theorem S9{p:eA}(h:(eg kw p).2=0):p.B.length≤32∧∀t∈p.cG,gw [] t:=by
 unfold eg at h;split at h
 ·cases h
 · rename_i b;split at h
   ·rename_i a;exact absurd h a
   · rw[Bj]at h;refine⟨by omega,λt ht=>?_⟩;exact(pM p.B kw t s0 0 1 (hT _) (h t ht)).2.2
end
end Rb

namespace Rb
open Go
variable{s:w}{d:Int}{x:ay}
section
variable(B:List aE)
mutual
def vE(L:List (List UInt8)):aA→Prop
 | .mk kind n name op aG place a_=>gd (.mk kind n name op aG place a_)=true∧fe (X (10+kind)) aG=true∧(kind=2→name∈L)∧(kind≥4→vP L (X (10+kind)) place)∧iX L a_
def iX(L:List (List UInt8)):List aA→Prop
 |[]=>True
 |e::r=>vE L e∧iX L r
def vP(L:List (List UInt8))(k:Int):aW→Prop
 | .mk var aK=>(bP B (.mk var aK)).1=0∧gf k (bP B (.mk var aK)).2=true∧mR L aK
def mR(L:List (List UInt8)):List aX→Prop
 |[]=>True
 |p::r=>vR L p∧mR L r
def vR(L:List (List UInt8)):aX→Prop
 | .mk field aZ=>iX L aZ
end
mutual
def vS(L:List (List UInt8)):ay→Prop
 | .mk kind V name bQ aG place aF aP bq=>fJ (.mk kind V name bQ aG place aF aP bq)=true∧fe kind aG=true∧(kind=1→name∉L)∧(kind=2→name∈L)∧(kind=5→name∈L∧bQ∈L∧name≠bQ)∧(3≤kind∧kind≤6→vP B L kind place)∧iX B L aF∧vB L aP∧vB L bq
def vB(L:List (List UInt8)):List ay→Prop
 |[]=>True
 |x::r=>vS L x∧vB (dE L x) r
end
theorem Kg(L:List (List UInt8))(e:aA):vE B L e↔gd e=true∧fe (X (10+e.kind)) e.aG=true∧(e.kind=2→e.name∈L)∧(e.kind≥4→vP B L (X (10+e.kind)) e.place)∧iX B L e.a_:=by cases e;rw[vE]
theorem mS(L:List (List UInt8))(k:Int)(x:aW):vP B L k x↔(bP B x).1=0∧gf k (bP B x).2=true∧mR B L x.aK:=by cases x;rw[vP]
theorem S_(L:List (List UInt8))(p:aX):vR B L p↔iX B L p.aZ:=by cases p;rw[vR]
theorem Ce(L:List (List UInt8))(x:ay):vS B L x↔fJ x=true∧fe x.kind x.aG=true∧(x.kind=1→x.name∉L)∧(x.kind=2→x.name∈L)∧(x.kind=5→x.name∈L∧x.bQ∈L∧x.name≠x.bQ)∧(3≤x.kind∧x.kind≤6→vP B L x.kind x.place)∧iX B L x.aF∧vB B L x.aP∧vB B L x.bq:=by cases x;rw[vS]
theorem Ta{k:Int}{x:aW}(h:(iP B s k x).u=0):(bP B x).1=0∧gf k (bP B x).2=true:=by
 unfold iP at h;dsimp only at h;have a:=eQ h (by decide);refine⟨?_,?_⟩
 · by_cases b:(bP B x).1=0
   ·exact b
   · have:=(eQ a.1 b).2;simpa using this
 · have c:=a.2;rw[a.1]at c;simpa using c
theorem Tb{e:aA}(h:(dC s d e).u=0):fe (X (10+e.kind)) e.aG=true:=by unfold dC at h;exact(eQ h (by decide)).2
theorem Tc(h:(dV s d x).u=0):fe x.kind x.aG=true:=by unfold dV at h;exact(eQ h (by decide)).2
theorem Td{x:List UInt8}(h:(!s.has x)=true):x∉s.f:=by
 intro a;have:s.has x=true:=by unfold w.has;rw[YW];exact⟨x,a,by simp⟩
 rw[this]at h;cases h
mutual
theorem Kh:∀(e:aA)(s:w)(d:Int),(ic B s d e).u=0→s.u=0∧(ic B s d e).f=s.f∧vE B s.f e
 | .mk kind n name op aG place a_,s,d,h=>by
  rw[ic]at h ⊢;by_cases j:(dC s d (.mk kind n name op aG place a_)).u≠0
  ·rw[aa j]at h;exact absurd h j
  · rw [ab j]at h ⊢;have t:(dC s d (.mk kind n name op aG place a_)).u=0:=by simpa using j
    have hl:=x_ s d (.mk kind n name op aG place a_);obtain⟨m,z2⟩:=J8 t;have z3:=Tb t;obtain⟨e1,b,a⟩:=Cf a_ _ d h;rw[b,vE];by_cases hk:kind≥4
    · rw[aa hk,ab (show ¬kind=2 by omega)]at e1 b a ⊢;obtain⟨z,y,v⟩:=Ki place _ _ d e1;rw[y,hl]at a ⊢;rw[hl]at v;exact⟨m,rfl,z2,z3,λq=>absurd q (by omega),λ_=>v,a⟩
    · rw [ab hk]at e1 b a ⊢;by_cases o:kind=2
      · rw[aa o]at e1 b a ⊢;rw[en,hl]at a ⊢;have:=mQ (eQ e1 (by decide)).2;rw[hl]at this;exact⟨m,rfl,z2,z3,λ_=>this,λq=>absurd q (by omega),a⟩
      · rw[ab o,hl]at a ⊢;exact⟨m,rfl,z2,z3,λe=>absurd e o,λq=>absurd q (by omega),a⟩
theorem Cf:∀(l:List aA)(s:w)(d:Int),(c0 B s d l).u=0→s.u=0∧(c0 B s d l).f=s.f∧iX B s.f l
 |[],s,d,h=>by rw[c0]at h ⊢;exact⟨h,rfl,trivial⟩
 | e :: r,s,d,h=>by
  rw[c0]at h ⊢;obtain⟨e1,b,a⟩:=Cf r _ d h;by_cases hs:s.u≠0
  ·rw[aa hs]at e1;exact absurd e1 hs
  · rw[ab hs]at e1 b a ⊢;obtain⟨g,c,i⟩:=Kh e s _ e1;rw[b,c];rw[c]at a;rw[iX];exact⟨g,rfl,i,a⟩
theorem Ki:∀(x:aW)(s:w)(k d:Int),(gg B s k d x).u=0→s.u=0∧(gg B s k d x).f=s.f∧vP B s.f k x
 | .mk var aK,s,k,d,h=>by
  rw[gg]at h ⊢;by_cases hs:s.u≠0
  ·rw[aa hs]at h;exact absurd h hs
  · rw[ab hs]at h ⊢;obtain⟨e1,b,a⟩:=Kj aK _ d h;obtain⟨f1,f2⟩:=Ta B e1;rw[J_]at b a;rw[vP];exact⟨by simpa using hs,b,f1,f2,a⟩
theorem Kj:∀(l:List aX)(s:w)(d:Int),(eD B s d l).u=0→s.u=0∧(eD B s d l).f=s.f∧mR B s.f l
 |[],s,d,h=>by rw[eD]at h ⊢;exact⟨h,rfl,trivial⟩
 | p::r,s,d,h=>by rw[eD]at h ⊢;obtain⟨e1,b,a⟩:=Kj r _ d h;obtain⟨g,c,i⟩:=Te p s d e1;rw[b,c];rw[c]at a;rw[mR];exact⟨g,rfl,i,a⟩
theorem Te:∀(p:aX)(s:w)(d:Int),(jz B s d p).u=0→s.u=0∧(jz B s d p).f=s.f∧vR B s.f p
 | .mk field aZ,s,d,h=>by rw[jz]at h ⊢;rw[vR];exact Kk aZ s d h
theorem Kk:∀(l:List aA)(s:w)(d:Int),(ff B s d l).u=0→s.u=0∧(ff B s d l).f=s.f∧iX B s.f l
 |[],s,d,h=>by rw[ff]at h ⊢;exact⟨h,rfl,trivial⟩
 | e::r,s,d,h=>by rw[ff]at h ⊢;obtain⟨e1,b,a⟩:=Kk r _ d h;obtain⟨g,c,i⟩:=Kh e s _ e1;rw[b,c];rw[c]at a;rw[iX];exact⟨g,rfl,i,a⟩
end
variable(kw:List UInt8→Bool)
theorem Tf(h:(dK B kw s d x).u=0):s.u=0∧(dK B kw s d x).f=s.f∧(x.kind=1→x.name∉s.f)∧(x.kind=2→x.name∈s.f)∧(3≤x.kind∧x.kind≤6→vP B s.f x.kind x.place):=by
 unfold dK at h ⊢;by_cases a:x.kind=1
 · rw[aa a]at h ⊢;rw[en,en,en];have b:=eQ h (by decide);have z2:=eQ b.1 (by decide);have z3:=eQ z2.1 (by decide);refine⟨z3.1,rfl,λ_=>?_,λe=>by omega,λe=>by omega⟩;have:=Td z2.2;exact this
 · rw [ab a]at h ⊢;by_cases c:x.kind=2
   · rw[aa c]at h ⊢;rw[en];have b:=eQ h (by decide);exact⟨b.1,rfl,λe=>absurd e a,λ_=>mQ b.2,λe=>by omega⟩
   · rw [ab c]at h ⊢;by_cases g:x.kind=3∨x.kind=4∨x.kind=5∨x.kind=6
     · rw[aa g]at h ⊢;obtain⟨i,j,k⟩:=Ki B x.place s _ d h;exact⟨i,j,λe=>absurd e a,λe=>absurd e c,λ_=>k⟩
     · rw[ab g]at h ⊢;exact⟨h,rfl,λe=>absurd e a,λe=>absurd e c,λe=>by omega⟩
theorem Tg(h:(fK s x).u=0):s.u=0∧(fK s x).f=dE s.f x∧(x.kind=5→x.name∈s.f∧x.bQ∈s.f∧x.name≠x.bQ):=by
 unfold fK at h ⊢;unfold dE;by_cases a:x.kind=1
 · rw[aa a]at h ⊢;rw[aa a];exact⟨h,rfl,λe=>by omega⟩
 · rw [ab a]at h ⊢;rw[ab a];by_cases b:x.kind=5
   · rw [aa b]at h ⊢;rw[en,en,en];have c:=eQ h (by decide);have z2:=eQ c.1 (by decide);have z3:=eQ z2.1 (by decide);refine⟨z3.1,rfl,λ_=>⟨mQ z3.2,?_,?_⟩⟩
     ·exact mQ z2.2
     · have:=c.2;simpa using this
   · rw[ab b]at h ⊢;exact⟨h,rfl,λe=>absurd e b⟩
theorem Th(h:(dq B kw s d x).u=0):s.u=0∧(dq B kw s d x).f=dE s.f x∧fJ x=true∧fe x.kind x.aG=true∧(x.kind=1→x.name∉s.f)∧(x.kind=2→x.name∈s.f)∧(x.kind=5→x.name∈s.f∧x.bQ∈s.f∧x.name≠x.bQ)∧(3≤x.kind∧x.kind≤6→vP B s.f x.kind x.place)∧iX B s.f x.aF:=by unfold dq at h ⊢;obtain⟨r1,a,b⟩:=Tg h;obtain⟨e1,c,e⟩:=Cf B x.aF _ d r1;obtain⟨f1,f2,f0,f3,f4⟩:=Tf B kw e1;obtain⟨g,z2⟩:=J9 f1;have z3:=Tc f1;rw[f2,si]at c e;rw[si]at f0 f3 f4;rw[c]at a b;exact⟨g,a,z2,z3,f0,f3,b,f4,e⟩
mutual
theorem Ti:∀(x:ay)(s:w)(d:Int),(stM B kw s d x).u=0→s.u=0∧(stM B kw s d x).f=dE s.f x∧vS B s.f x
 | .mk kind V name bQ aG place aF aP bq,s,d,h=>by
  rw[stM]at h ⊢;obtain⟨b1,b2,b3⟩:=yb bq _ _ _ (hT _) h;obtain⟨Y,a2,a3⟩:=yb aP _ _ _ (hT _) b1;have m:=b2.trans (show(aa4 _ _)=_ from Zw);obtain⟨c1,c,c3,o,c5,p,t,v,y⟩:=Th B kw Y;have g:(el B kw (dq B kw s d (.mk kind V name bQ aG place aF aP bq)) (dq B kw s d (.mk kind V name bQ aG place aF aP bq)).f.length (X (d+1)) aP).f=dE s.f (.mk kind V name bQ aG place aF aP bq):=by rw[a2,Zw,c]
  have b:vB B (el B kw (dq B kw s d (.mk kind V name bQ aG place aF aP bq)) (dq B kw s d (.mk kind V name bQ aG place aF aP bq)).f.length (X (d+1)) aP).f bq:=b3;rw[g]at b;rw[c]at a3;obtain⟨g1,g2,g3,g4,g5⟩:=Ke c3;refine⟨c1,m.trans g,?_⟩;rw[vS];refine⟨c3,o,c5,p,t,v,y,?_,?_⟩
  · by_cases hk:kind=1
    · have:aP=[]:=(g5 hk).1;subst this;rw[vB];trivial
    · have e:dE s.f (.mk kind V name bQ aG place aF aP bq)=s.f:=by unfold dE;rw[ab hk]
      rw[e]at a3;exact a3
  · by_cases hk:kind=1
    · have:bq=[]:=(g5 hk).2;subst this;rw[vB];trivial
    · have e:dE s.f (.mk kind V name bQ aG place aF aP bq)=s.f:=by unfold dE;rw[ab hk]
      rw[e]at b;exact b
theorem yb:∀(l:List ay)(s:w)(n:Nat)(d:Int),n≤s.f.length→(el B kw s n d l).u=0→s.u=0∧(el B kw s n d l).f=s.f.take n∧vB B s.f l
 |[],s,n,d,i,h=>by rw[el]at h ⊢;rw[vB];exact⟨h,rfl,trivial⟩
 | x :: r,s,n,d,i,h=>by
  rw[el]at h ⊢;by_cases hs:s.u≠0
  ·rw[aa hs,kB B kw hs]at h;exact absurd h hs
  · rw [ab hs]at h ⊢;have z:(stM B kw (s.at x.V) d x).u=0:=by
     by_cases q:(stM B kw (s.at x.V) d x).u=0
     ·exact q
     ·rw[kB B kw q]at h;exact absurd h q
    obtain⟨C,a,A⟩:=Ti x (s.at x.V) d z;have a:(stM B kw (s.at x.V) d x).f=dE s.f x:=a;obtain⟨t1,t2⟩:=Kf s.f x i;obtain⟨r1,j,k⟩:=yb r (stM B kw (s.at x.V) d x) n d (by rw[a];exact t2) h;rw[a]at j k;rw[vB];exact⟨by simpa using hs,j.trans t1,A,k⟩
end
theorem Tj{p:eA}(h:(eg kw p).2=0):p.B.length≤32∧iQ kw p.B=0∧∀t∈p.cG,vB p.B [] t:=by
 unfold eg at h;split at h
 ·cases h
 · rename_i b;split at h
   ·rename_i a;exact absurd h a
   · rename_i a;rw[Bj]at h;refine⟨by omega,by simpa using a,λt ht=>?_⟩;exact(yb p.B kw t s0 0 1 (hT _) (h t ht)).2.2
end
end Rb

namespace Rb
open Go
structure RS.A(d:Int)(rest:List (Int×Int))(s1 s2:RS):Prop where
 eq:s2={s1 with fuel:=s1.fuel+d,aL:=s1.aL++rest}
 d0:0≤d
 fu:s1.stop=false→0≤s1.fuel∧s1.fuel+d≤1000000
 em:s1.empty=true→s1.stop=true
structure RS.D(d:Int)(rest:List (Int×Int))(s1 s2:RS):Prop where
 st:s1.stop=true
 pr:s1.pr <+: s2.pr
 em:s1.empty=true→0<d
 an:s1.empty=false→rest≠[]
theorem RS.D.right{d:Int}{rest:List (Int×Int)}{a b c:RS}(h:RS.D d rest a b)(e:b.pr <+: c.pr):RS.D d rest a c:=⟨h.st,h.pr.trans e,h.em,h.an⟩
theorem RS.A.stop{d:Int}{rest:List (Int×Int)}{a b:RS}(h:RS.A d rest a b):b.stop=a.stop:=by rw[h.eq]
theorem RS.A.aS{d:Int}{rest:List (Int×Int)}{a b:RS}(h:RS.A d rest a b):b.aS=a.aS:=by rw[h.eq]
section
variable{d:Int}{rest:List (Int×Int)}
variable(B:List aE)
end
end Rb

namespace Rb
open Go
section
variable{d:Int}{rest:List (Int×Int)}
theorem RS.D.step{a b c t2:RS}(h:RS.D d rest a b)(e:Ks a c)(f:Ks b t2):RS.D d rest c t2:=by rw[e.st h.st];exact h.right f.pr
theorem RS.A.r2{b c:RS}(h:RS.A d rest b c)(f:RS→RS)(hf:∀(s:RS)(g:Int)(a:List (Int×Int)),f {s with fuel:=g,aL:=a}={f s with fuel:=g,aL:=a})(j:∀s,(f s).fuel=s.fuel∧(f s).aL=s.aL∧(f s).stop=s.stop∧(f s).empty=s.empty):RS.A d rest (f b) (f c):=by obtain⟨e1,k,i,l⟩:=j b;refine⟨?_,h.d0,λe=>by rw[i]at e;rw[e1];exact h.fu e,λe=>by rw[l]at e;rw[i];exact h.em e⟩;rw[h.eq,hf,e1,k]
variable(B:List aE)
variable(c:Nat)
theorem yc(l:List ay)(a:Int)(n:Nat)(s:RS)(h:s.stop=true):(bV B c l a n s).pr=s.pr∧(bV B c l a n s).stop=true∧(bV B c l a n s).empty=s.empty:=by
 cases l with
 |nil=>rw[bV];exact⟨rfl,h,rfl⟩
 |cons y t=>rw[bV,aa h];exact⟨rfl,h,rfl⟩
end
end Rb

namespace Rb
open Go
structure bA where
 what:Int
 n:Int
 k:Int
 j:Int
 x:aW
 kind:Int
 aG:Int
 site:Int
 V:Int
def Cg:aW:=⟨[],[]⟩
def cB(ln a n k:Int):bA:=⟨a,n,k,0,Cg,0,0,0,ln⟩
def hz(o:Int)(L:List (List UInt8×Nat))(x:List UInt8):Int:=L.foldl (λo p=>if p.1=x then(p.2:Int)else o) o
def jD(L:List (List UInt8×Nat))(ln kind n:Int)(name:List UInt8)(op aG:Int)(place:aW)(a:Int):bA:=
 if kind=1 then cB ln 2 n 0 else if kind=2 then cB ln 3 0 (hz (-1) L name)else if kind=3 then cB ln 5 0 op
 else⟨7,0,0,0,place,kind,aG,a,ln⟩
section
variable(B:List aE)(L:List (List UInt8×Nat))(ln:Int)
mutual
def dI:aA→Int→List bA
 | .mk kind n name op aG place a_,a=>cB ln 1 0 0::(dw place a++dX a_ (X (a+bS place))++[jD L ln kind n name op aG place (X (X (X (a+bS place)+bU a_ 0)+1))])
def dX:List aA→Int→List bA
 |[],a=>[]
 |e::r,a=>dI e a++dX r (X (a+gh e 0))
def dw:aW→Int→List bA
 | .mk var aK,a=>fi (.mk var aK) aK 0 a
def fi(x:aW):List aX→Nat→Int→List bA
 |[],k,a=>[]
 | p::r,k,a=>match l8 p a with
  |none=>fi x r (k+1) a
  |some l=>l++(cB ln 6 (iR (j1 B ⟨x.var,x.aK.take k⟩)) 0::fi x r (k+1) (X (a+iS p 0)))
def l8:aX→Int→Option (List bA)
 | .mk field aZ,a=>kE aZ a
def kE:List aA→Int→Option (List bA)
 |[],_=>none
 |e::_,a=>some (dI e a)
end
end
mutual
def j5:aA→Nat
 | .mk kind n name op aG place a_=>1+jE place+fW a_
def fW:List aA→Nat
 |[]=>0
 |e::r=>j5 e+fW r
def jE:aW→Nat
 | .mk var aK=>jF aK
def jF:List aX→Nat
 |[]=>0
 |p::r=>mT p+jF r
def mT:aX→Nat
 | .mk field aZ=>1+fW aZ
end
theorem Kl(e:aA):j5 e=1+jE e.place+fW e.a_:=by cases e;rw[j5]
structure sj where
 want:bE
 fin:Int
 pr:List Int
 empty:Bool
def told(s:RS):sj:=if s.empty=true then⟨cc,0,[],true⟩else⟨s.want,s.fin,s.pr,false⟩
def Mx:Nat:=1000000000
def hA(B:List aE)(x:aW):Prop:=(bP B x).1=0∧((bP B x).2.kind=1∨(bP B x).2.kind=2)
structure yd(B:List aE)(A:List bA)(aL:List (Int×Int))(P:Nat→List Int→List Int→Nat→Int→List Int→Prop)(R:sj→Prop):Prop where
 Km:∀{pc:Nat}{st sl:List Int}{u:Nat}{f:Int}{pr:List Int}{a:bA},A[pc]?=some a→a.what=1→f<1→R ⟨cc,0,[],true⟩→P pc st sl u f pr
 Kn:∀{pc:Nat}{st sl:List Int}{u:Nat}{f:Int}{pr:List Int}{a:bA},A[pc]?=some a→a.what=1→¬f<1→P (pc+1) st sl u (X (f-1)) pr→P pc st sl u f pr
 push:∀{pc:Nat}{st sl:List Int}{u:Nat}{f:Int}{pr:List Int}{a:bA},A[pc]?=some a→a.what=2→st.length≤Mx→P (pc+1) (st++[a.n]) sl u f pr→P pc st sl u f pr
 loc:∀{pc:Nat}{st sl:List Int}{u:Nat}{f:Int}{pr:List Int}{a:bA}{k:Nat}{v:Int},A[pc]?=some a→a.what=3→a.k=(k:Int)→sl[k]?=some v→st.length≤Mx→P (pc+1) (st++[v]) sl u f pr→P pc st sl u f pr
 ca:∀{pc:Nat}{st sl:List Int}{u:Nat}{f:Int}{pr:List Int}{a:bA}{k:Nat}{v:Int},A[pc]?=some a→a.what=4→a.k=(k:Int)→k<sl.length→P (pc+1) st (sl.set k v) u f pr→P pc (st++[v]) sl u f pr
 bin:∀{pc:Nat}{st sl:List Int}{u:Nat}{f:Int}{pr:List Int}{a:bA}{x:Int}{y:Int},A[pc]?=some a→a.what=5→1≤a.k→a.k≤11→P (pc+1) (st++[lb a.k x y]) sl u f pr→P pc (st++[x,y]) sl u f pr
 Tk:∀{pc:Nat}{st sl:List Int}{u:Nat}{f:Int}{pr:List Int}{a:bA}{v:Int},A[pc]?=some a→a.what=6→v≥a.n→R ⟨cc,2,pr,false⟩→P pc (st++[v]) sl u f pr
 Tl:∀{pc:Nat}{st sl:List Int}{u:Nat}{f:Int}{pr:List Int}{a:bA}{v:Int},A[pc]?=some a→a.what=6→¬v≥a.n→P (pc+1) (st++[v]) sl u f pr→P pc (st++[v]) sl u f pr
 jump:∀{pc:Nat}{st sl:List Int}{u:Nat}{f:Int}{pr:List Int}{a:bA}{k:Nat},A[pc]?=some a→a.what=11→a.k=(k:Int)→k≤A.length→P k st sl u f pr→P pc st sl u f pr
 Ko:∀{pc:Nat}{st sl:List Int}{u:Nat}{f:Int}{pr:List Int}{a:bA}{k:Nat},A[pc]?=some a→a.what=12→a.k=(k:Int)→k≤A.length→P k st sl u f pr→P pc (st++[0]) sl u f pr
 Kr:∀{pc:Nat}{st sl:List Int}{u:Nat}{f:Int}{pr:List Int}{a:bA}{v:Int},A[pc]?=some a→a.what=12→v≠0→P (pc+1) st sl u f pr→P pc (st++[v]) sl u f pr
 print:∀{pc:Nat}{st sl:List Int}{u:Nat}{f:Int}{pr:List Int}{a:bA}{v:Int},A[pc]?=some a→a.what=13→pr.length≤Mx→P (pc+1) st sl u f (pr++[v])→P pc (st++[v]) sl u f pr
 Tm:∀{pc:Nat}{st sl:List Int}{u:Nat}{f:Int}{pr:List Int}{a:bA},A[pc]?=some a→a.what=10→u=aL.length→R ⟨⟨4,a.site,a.V,bz,a.aG,0,0,0⟩,0,pr,false⟩→P pc st sl u f pr
 Tn:∀{pc:Nat}{st sl:List Int}{u:Nat}{f:Int}{pr:List Int}{a:bA}{g:Int×Int},A[pc]?=some a→a.what=10→aL[u]?=some g→P (pc+1) st sl (u+1) f pr→P pc st sl u f pr
 To:∀{pc:Nat}{st sl:List Int}{u:Nat}{f:Int}{pr:List Int}{a:bA}{idx:List Int}{vs:List Int},A[pc]?=some a→a.what=7→4≤a.kind→a.kind≤8→hA B a.x→(idx.length:Int)=eP a.x.aK 0→(vs.length:Int)=(ft a.kind).1→u=aL.length →
  R ⟨⟨if a.kind≥6 then 3 else 1,a.site,a.V,F B a.x idx,a.aG,if a.kind≥6 then a.kind else 0,vs.getD 0 0,vs.getD 1 0⟩,0,pr,false⟩→P pc (st++idx++vs) sl u f pr
 Tp:∀{pc:Nat}{st sl:List Int}{u:Nat}{f:Int}{pr:List Int}{a:bA}{idx:List Int}{vs:List Int}{g:Int×Int},A[pc]?=some a→a.what=7→4≤a.kind→a.kind≤8→hA B a.x→(idx.length:Int)=eP a.x.aK 0→(vs.length:Int)=(ft a.kind).1→aL[u]?=some g→st.length≤Mx →
  P (pc+1) (st++[if(F B a.x idx).bits=true then hQ g.1 (F B a.x idx).bit (F B a.x idx).bn else g.1]) sl (u+1) f pr→P pc (st++idx++vs) sl u f pr
 Tq:∀{pc:Nat}{st sl:List Int}{u:Nat}{f:Int}{pr:List Int}{a:bA}{idx:List Int}{vs:List Int},A[pc]?=some a→a.what=8→hA B a.x→(idx.length:Int)=eP a.x.aK 0→vs.length=(if a.kind=6 then 2 else 1)→(F B a.x idx).bits=false→u=aL.length →
  R ⟨⟨2,a.site,a.V,F B a.x idx,a.aG,0,hx (F B a.x idx) 0 (vs.getD 0 0),vs.getD 1 0⟩,0,pr,false⟩→P pc (st++idx++vs) sl u f pr
 Tr:∀{pc:Nat}{st sl:List Int}{u:Nat}{f:Int}{pr:List Int}{a:bA}{idx:List Int}{vs:List Int}{g:Int×Int},A[pc]?=some a→a.what=8→hA B a.x→(idx.length:Int)=eP a.x.aK 0→vs.length=(if a.kind=6 then 2 else 1)→(F B a.x idx).bits=false→aL[u]?=some g →
  P (pc+1) st sl (u+1) f pr→P pc (st++idx++vs) sl u f pr
 Ts:∀{pc:Nat}{st sl:List Int}{u:Nat}{f:Int}{pr:List Int}{a:bA}{idx:List Int}{vs:List Int},A[pc]?=some a→a.what=8→hA B a.x→(idx.length:Int)=eP a.x.aK 0→vs.length=(if a.kind=6 then 2 else 1)→(F B a.x idx).bits=true→u=aL.length →
  R ⟨⟨1,a.site,a.V,F B a.x idx,a.aG,0,0,0⟩,0,pr,false⟩→P pc (st++idx++vs) sl u f pr
 Tt:∀{pc:Nat}{st sl:List Int}{u:Nat}{f:Int}{pr:List Int}{a:bA}{idx:List Int}{vs:List Int}{g:Int×Int},A[pc]?=some a→a.what=8→hA B a.x→(idx.length:Int)=eP a.x.aK 0→vs.length=(if a.kind=6 then 2 else 1)→(F B a.x idx).bits=true→aL[u]?=some g→u+1=aL.length →
  R ⟨⟨2,a.site,a.V,F B a.x idx,a.aG,0,hx (F B a.x idx) g.1 (vs.getD 0 0),vs.getD 1 0⟩,0,pr,false⟩→P pc (st++idx++vs) sl u f pr
 Tu:∀{pc:Nat}{st sl:List Int}{u:Nat}{f:Int}{pr:List Int}{a:bA}{idx:List Int}{vs:List Int}{g:Int×Int}{g':Int×Int},A[pc]?=some a→a.what=8→hA B a.x→(idx.length:Int)=eP a.x.aK 0→vs.length=(if a.kind=6 then 2 else 1)→(F B a.x idx).bits=true→aL[u]?=some g→aL[u+1]?=some g' →
  P (pc+1) st sl (u+2) f pr→P pc (st++idx++vs) sl u f pr
 rF:∀{pc:Nat}{st sl:List Int}{u:Nat}{f:Int}{pr:List Int}{a:bA}{idx:List Int},A[pc]?=some a→a.what=9→hA B a.x→(idx.length:Int)=eP a.x.aK 0→u=aL.length →
  R ⟨⟨1,a.site,a.V,F B a.x idx,a.aG,0,0,0⟩,0,pr,false⟩→P pc (st++idx) sl u f pr
 xr:∀{pc:Nat}{st sl:List Int}{u:Nat}{f:Int}{pr:List Int}{a:bA}{idx:List Int}{g:Int×Int}{k j:Nat},A[pc]?=some a→a.what=9→hA B a.x→(idx.length:Int)=eP a.x.aK 0→a.k=(k:Int)→a.j=(j:Int)→k<sl.length→j<sl.length→aL[u]?=some g →
  P (pc+1) st ((sl.set k g.1).set j g.2) (u+1) f pr→P pc (st++idx) sl u f pr
 fin:∀{pc:Nat}{st sl:List Int}{u:Nat}{f:Int}{pr:List Int},pc=A.length→R ⟨cc,1,pr,false⟩→P pc st sl u f pr
def hW(A:List bA)(pc:Nat)(l:List bA):Prop:=∀i x,l[i]?=some x→A[pc+i]?=some x
theorem hW.cons{A:List bA}{pc:Nat}{x:bA}{l:List bA}(h:hW A pc (x::l)):A[pc]?=some x∧hW A (pc+1) l:=⟨h 0 x rfl,λi y a=>by have:=h (i+1) y (by simpa using a);rw[show pc+1+i=pc+(i+1) by omega];exact this⟩
theorem hW.app{A:List bA}{pc:Nat}{l m:List bA}(h:hW A pc (l++m)):hW A pc l∧hW A (pc+l.length) m:=by
 refine⟨λi y a=>h i y ?_,λi y a=>?_⟩
 ·rw[XZ (Wh.1 a).1];exact a
 · have:=h (l.length+i) y (by rw[X0 (by omega),aa5];exact a);rw[WD];exact this
structure St(aL:List (Int×Int))(s:RS)(u:Nat):Prop where
 go:s.stop=false
 em:s.empty=false
 wz:s.want=cc
 fz:s.fin=0
 an:s.aL=aL.drop u
 le:u≤aL.length
structure LR(L:List (List UInt8×Nat))(aS:List (List UInt8×Int))(sl:List Int):Prop where
 nm:aS.map (·.1)=L.map (·.1)
 vl:∀(i:Nat)(p:List UInt8×Nat)(l:List UInt8×Int),L[i]?=some p→aS[i]?=some l→sl[p.2]?=some l.2
 nd:(L.map (·.1)).Nodup
theorem Kt{o:Int}{x:List UInt8}:∀{L:List (List UInt8×Nat)},x∉L.map (·.1)→hz o L x=o
 |[],_=>rfl
 | p::r,h=>by simp only[XK,YI,not_or]at h;unfold hz;rw[WU,ab (λe=>h.1 e.symm)];exact Kt h.2
theorem Ku:∀{L:List (List UInt8×Nat)}{o:Int}{i:Nat}{p:List UInt8×Nat},(L.map (·.1)).Nodup→L[i]?=some p→hz o L p.1=p.2
 | q::r,o,0,p,a,h=>by simp at h;subst h;simp only[XK,aa6]at a;unfold hz;rw[WU,aa rfl];exact Kt a.1
 | q::r,o,i+1,p,a,h=>by simp only[XK,aa6]at a;unfold hz;rw[WU];exact Ku (i:=i) a.2 (by simpa using h)
theorem LR.get{L:List (List UInt8×Nat)}{s:RS}{sl:List Int}(h:LR L s.aS sl){x:List UInt8}(c:x∈L.map (·.1)):∃k i,hz (-1) L x=(k:Nat)∧sl[k]?=some (s.get x)∧L[i]?=some (x,k)∧s.aS.findIdx? (λl=>l.1==x)=some i:=by
 rw[←h.nm]at c;obtain⟨i,hi⟩:=sb c;obtain⟨l,d,f,g,_⟩:=xY hi;have a:(L.map (·.1))[i]?=some x:=by rw[←h.nm,Xb,d,←f];rfl
 rw[Xb]at a;cases b:L[i]? with
 |none=>rw[b]at a;cases a
 | some p=>
  rw[b]at a;have e:p.1=x:=by simpa using a
  refine⟨p.2,i,?_,?_,?_,hi⟩
  ·rw[←e];exact Ku h.nd b
  ·rw[g];exact h.vl i p l b d
  ·rw[←e];exact b
theorem fj(a:Int):X (X a)=X a:=by have:=hy 0 a;rwa [aa1,aa1]at this
end Rb

namespace Rb
open Go
variable{u:Nat}{s:RS}
theorem drop_cons{α:Type}{l:List α}{g:α}(h:l[u]?=some g):l.drop u=g::l.drop (u+1):=by obtain⟨hu,he⟩:=Wh.1 h;rw[ZH hu,he]
theorem St.pN{aL:List (Int×Int)}(h:St aL s u)(hu:u=aL.length)(w:bE):(s.ask w).1.stop=true∧told (s.ask w).1=⟨{w with V:=s.V},0,s.pr,false⟩:=by
 have a:s.aL=[]:=by rw[h.an,hu,aa7]
 unfold RS.ask;rw[ab (by rw[h.go];decide),a];refine⟨rfl,?_⟩;unfold told;rw[ab (by show ¬s.empty=true;rw[h.em];decide)];show(⟨_,s.fin,s.pr,false⟩:sj)=_;rw[h.fz]
theorem St.pO{aL:List (Int×Int)}{g:Int×Int}(h:St aL s u)(a:aL[u]?=some g)(w:bE):s.ask w=({s with aL:=aL.drop (u+1)},g.1,g.2)∧St aL {s with aL:=aL.drop (u+1)} (u+1):=by
 have b:s.aL=g::aL.drop (u+1):=by rw[h.an,drop_cons a]
 refine⟨?_,h.go,h.em,h.wz,h.fz,rfl,(Wh.1 a).1⟩;unfold RS.ask;rw[ab (by rw[h.go];decide),b]
theorem St.next{aL:List (Int×Int)}(h:St aL s u):u=aL.length∨∃g,aL[u]?=some g:=by
 by_cases e:u=aL.length
 ·exact .inl e
 · right;have:=h.le;exact ⟨aL[u]'(by omega), Xc _⟩
structure nX where
 B:List aE
 A:List bA
 aL:List (Int×Int)
 P:Nat→List Int→List Int→Nat→Int→List Int→Prop
 R:sj→Prop
def ji(E:nX)(L:List (List UInt8×Nat))(sl:List Int)(ln:Int)(e:aA):Prop:=
 ∀ (a:Int) (s:RS) (st:List Int) (pc u:Nat),X a=a→hW E.A pc (dI E.B L ln e a)→St E.aL s u→s.V=ln→LR L s.aS sl→st.length+j5 e≤Mx →
  (∀b,St E.aL (cq E.B e a s).1 b→E.P (pc+(dI E.B L ln e a).length) (st++[(cq E.B e a s).2]) sl b (cq E.B e a s).1.fuel s.pr) →
  ((cq E.B e a s).1.stop=true→E.R (told (cq E.B e a s).1))→E.P pc st sl u s.fuel s.pr
section
variable{E:nX}(S:yd E.B E.A E.aL E.P E.R){L:List (List UInt8×Nat)}{sl:List Int}{ln:Int}
include S
theorem Ch:∀(l:List aA),(∀e∈l,ji E L sl ln e)→∀(a:Int)(s:RS)(st:List Int)(pc u:Nat),X a=a→hW E.A pc (dX E.B L ln l a)→St E.aL s u→s.V=ln→LR L s.aS sl→st.length+fW l≤Mx →
  (∀b,St E.aL (cl E.B l a s).1 b→E.P (pc+(dX E.B L ln l a).length) (st++(cl E.B l a s).2) sl b (cl E.B l a s).1.fuel s.pr) →
  ((cl E.B l a s).1.stop=true→E.R (told (cl E.B l a s).1))→E.P pc st sl u s.fuel s.pr
 | [],d,a,s,st,pc,u,g,hs,h,hl,f,hm,hk,c=>by simp only[cl,dX,Z_,WW,ZO]at hk;exact hk u h
 | e :: r,d,a,s,st,pc,u,g,hs,h,hl,f,hm,hk,c=>by
  rw[dX]at hs;obtain⟨ef,cC⟩:=hs.app;rw[fW]at hm;have kp:=jg E.B e a s;have j:=jA E.B r (X (a+gh e 0)) (cq E.B e a s).1;have t:1≤j5 e:=by rw[Kl];omega
  rw[cl]at hk c;refine d e (YK ..) a s st pc u g ef h hl f (by omega) (λb k=>?_) (λi=>?_)
  · rw[←kp.pr];refine Ch r (λm n=>d m (YJ _ n)) (X (a+gh e 0)) _ _ _ b (fj _) cC k (kp.V.trans hl) (by rw[kp.aS];exact f) (by rw[ZG,aap];omega) (λo p=>?_) c;have:=hk o p;rw[dX,ZG,←WD]at this;rw[aaO,kp.pr];exact this
  · have e1:=j.st i;refine(λq=>?_) (c (by rw[e1];exact i));rw[e1]at q;exact q
theorem Ci(x:aW):∀(l:List aX),(∀p∈l,∀e∈p.aZ,ji E L sl ln e)→∀(k:Nat)(a:Int)(b:List Int)(s:RS)(d:List Int)(pc u:Nat),X a=a→hW E.A pc (fi E.B L ln x l k a)→St E.aL s u→s.V=ln→LR L s.aS sl→d.length+b.length+jF l≤Mx →
  (∀i t,(eh E.B x l k a b s).2=some t→St E.aL (eh E.B x l k a b s).1 i→E.P (pc+(fi E.B L ln x l k a).length) (d++t) sl i (eh E.B x l k a b s).1.fuel s.pr) →
  ((eh E.B x l k a b s).2=none→(eh E.B x l k a b s).1.stop=true→E.R (told (eh E.B x l k a b s).1))→E.P pc (d++b) sl u s.fuel s.pr
 | [],f,k,a,b,s,d,pc,u,j,hs,h,hl,g,hm,hk,c=>by simp only[eh,fi,Z_,WW]at hk;exact hk u b rfl h
 | .mk field []::r,f,k,a,b,s,d,pc,u,j,hs,h,hl,g,hm,hk,c=>by simp only[fi,l8,kE]at hs hk;simp only[eh,ld,lV]at hk c;rw[jF,mT]at hm;exact Ci x r (λp o=>f p (YJ _ o)) (k+1) a b s d pc u j hs h hl g (by omega) hk c
 | .mk field (e::q)::r,f,k,a,b,s,d,pc,u,j,hs,h,hl,g,hm,hk,c=>by
  simp only[fi,l8,kE]at hs hk;simp only[eh,ld,lV]at hk c;obtain⟨ef,cC⟩:=hs.app;obtain⟨cC,jW⟩:=cC.cons;rw[jF,mT,fW]at hm;have kp:=jg E.B e a s;refine f _ (YK ..) e (YK ..) a s (d++b) pc u j ef h hl g (by rw[ZG];omega) (λi m=>?_) (λv=>?_)
  · rw [ab (by rw[m.go];decide)]at hk c;by_cases n:(cq E.B e a s).2≥iR (j1 E.B ⟨x.var,x.aK.take k⟩)
    · rw[aa n]at c;refine S.Tk cC rfl n ?_;have:=c rfl rfl;unfold told at this;rw[ab (by show ¬(cq E.B e a s).1.empty=true;rw[m.em];decide)]at this;rw[←kp.pr,←m.wz];exact this
    · rw[ab n]at hk c;refine S.Tl cC rfl n ?_;rw[aaO,←kp.pr];refine Ci x r (λp o=>f p (YJ _ o)) (k+1) _ _ _ d _ i (fj _) jW m (kp.V.trans hl) (by rw[kp.aS];exact g) (by rw[ZG,aap];omega) (λw y hi z=>?_) c;have:=hk w y hi z;rw[ZG,Z9]at this;rw[kp.pr];rw[show pc+(dI E.B L ln e a).length+1+(fi E.B L ln x r (k+1) (X (a+iS (aX.mk field (e::q)) 0))).length=pc+((dI E.B L ln e a).length+((fi E.B L ln x r (k+1) (X (a+iS (aX.mk field (e::q)) 0))).length+1)) by omega];exact this
  · rw[aa v]at c;exact c rfl v
end
theorem Kv{t:aC}:∀{l:List aX}{t:aC},(eN t l).1=0→∀p∈l,p.aZ.length≤1
 | p :: r,t,h,q,a=>by
  rw[eN]at h;by_cases e:(de t p).1≠0
  ·rw[aa e]at h;exact absurd h e
  · rw [ab e]at h;rcases YI.1 a with rfl|a
    · unfold de at e;by_cases c:1<q.aZ.length∨(q.aZ.length=1↔q.field≠[])
      ·rw[aa c]at e;exact absurd (λz:(8:Int)=0=>by cases z) e
      ·omega
    ·exact Kv (t:=t) h q a
theorem sk{B:List aE}{x:aW}(h:(bP B x).1=0):∀p∈x.aK,p.aZ.length≤1:=by
 unfold bP at h;split at h
 ·cases h
 · split at h
   ·rename_i e;exact absurd h e
   ·exact Kv (t:=⟨0,0,false,[],0,[]⟩) h
theorem Cj{B:List aE}(x:aW):∀(l:List aX)(k:Nat)(a:Int)(c:List Int)(s:RS)(b:List Int),(∀p∈l,p.aZ.length≤1)→(eh B x l k a c s).2=some b→(b.length:Int)=c.length+fV l
 | [],k,a,c,s,b,hl,h=>by rw[eh]at h;cases h;simp[fV]
 | .mk field []::r,k,a,c,s,b,hl,h=>by simp only[eh,ld,lV]at h;have:=Cj x r (k+1) a c s b (λp d=>hl p (YJ _ d)) h;rw[this,fV];simp[aX.aZ]
 | .mk field (e::q)::r,k,a,c,s,b,hl,h=>by
  simp only[eh,ld,lV]at h;split at h
  ·cases h
  · split at h
    ·cases h
    · have:=Cj x r _ _ _ _ b (λp d=>hl p (YJ _ d)) h;have f:=hl _ (YK ..);simp only[aX.aZ,Z9]at f;rw[this,fV,ZG,aap];simp only[aX.aZ,Z9];omega
theorem Kw:∀l:List aX,fV l≤jF l
 |[]=>by simp[fV,jF]
 | .mk field aZ::r=>by
  have:=Kw r;have a:∀l:List aA,l.length≤fW l:=by
   intro l;induction l with
   |nil=>simp[fW]
   |cons e q b=>rw[fW,Kl,Z9];omega
  have:=a aZ;rw[fV,jF,mT];simp only[aX.aZ];omega
end Rb

namespace Rb
open Go
variable{s:RS}
theorem pP(B:List aE)(L:List (List UInt8)):∀{l:List aA},iX B L l↔∀e∈l,vE B L e
 |[]=>by simp[iX]
 |e::r=>by simp[iX,pP B L (l:=r)]
theorem pQ(B:List aE)(L:List (List UInt8)):∀{l:List aX},mR B L l↔∀p∈l,∀e∈p.aZ,vE B L e
 |[]=>by simp[mR]
 |p::r=>by simp[mR,S_,pP,pQ B L (l:=r)]
theorem Kx{e:aA}(h:gd e=true):1≤e.kind∧e.kind≤8∧(e.kind≤3→e.place.aK=[])∧(e.a_.length:Int)=(ft e.kind).1∧(e.kind=3→1≤e.op∧e.op≤11):=by
 unfold gd at h;simp only[Wn,dh]at h;obtain⟨⟨⟨⟨⟨⟨d,f⟩,_⟩,_⟩,b⟩,a⟩,g⟩:=h;refine⟨d,f,λc=>?_,by simpa using g,λc=>by rw[aa c]at b;simpa using b⟩;have hk:(ft e.kind).2=false:=by
  unfold ft;by_cases e1:e.kind=3
  ·rw[aa e1]
  ·rw[ab e1,bF,bF,bF]
 rw[hk,Bool.false_or]at a;unfold e4 at a;simp only[Wn,b9]at a;exact XJ.1 a.2
theorem ye(h:s.stop=false)(hf:¬s.fuel<1):s.bY={s with fuel:=X (s.fuel-1)}:=by unfold RS.bY;rw[ab (by rw[h];decide),ab hf]
theorem sn(h:s.stop=false)(hf:s.fuel<1):s.bY.stop=true∧told s.bY=⟨cc,0,[],true⟩:=by unfold RS.bY;rw[ab (by rw[h];decide),aa hf];exact⟨rfl,rfl⟩
theorem St.bY{aL:List (Int×Int)}{u:Nat}(h:St aL s u)(hf:¬s.fuel<1):St aL s.bY u:=by rw[ye h.go hf];exact⟨h.go,h.em,h.wz,h.fz,h.an,h.le⟩
theorem so(h:s.stop=true)(w:bE):s.ask w=(s,0,0):=by unfold RS.ask;rw[aa h]
theorem Ck{k:Int}{t:aC}(h:gf k t=true):t.kind=1∨t.kind=2:=by
 unfold gf at h;split at h
 ·left;simpa using h
 · split at h
   · right;simp only[Wn,b9]at h;exact h.1
   · right;simp only[Wn,b9]at h;exact h.1
section
variable{E:nX}(S:yd E.B E.A E.aL E.P E.R){L:List (List UInt8×Nat)}{sl:List Int}{ln:Int}
include S
theorem Cm{x:aW}{l:List aA}(k:∀p∈x.aK,∀e∈p.aZ,ji E L sl ln e)(m:∀e∈l,ji E L sl ln e)(a:Int)(s:RS)(b:List Int)(pc u:Nat)(n:X a=a)(hs:hW E.A pc (dw E.B L ln x a++dX E.B L ln l (X (a+bS x))))(h:St E.aL s u)(hl:s.V=ln)(d:LR L s.aS sl)(o:b.length+jE x+fW l≤Mx)(q:∀p∈x.aK,p.aZ.length≤1)
  (hk:∀f idx,(cH E.B x a s).2=some (F E.B x idx)→(idx.length:Int)=eP x.aK 0→St E.aL (cl E.B l (X (a+bS x)) (cH E.B x a s).1).1 f→E.P (pc+(dw E.B L ln x a++dX E.B L ln l (X (a+bS x))).length) (b++idx++(cl E.B l (X (a+bS x)) (cH E.B x a s).1).2) sl f (cl E.B l (X (a+bS x)) (cH E.B x a s).1).1.fuel s.pr)
  (r:(cH E.B x a s).2=none→(cH E.B x a s).1.stop=true→E.R (told (cH E.B x a s).1))
  (t:∀sp,(cH E.B x a s).2=some sp→(cl E.B l (X (a+bS x)) (cH E.B x a s).1).1.stop=true→E.R (told (cl E.B l (X (a+bS x)) (cH E.B x a s).1).1)):E.P pc b sl u s.fuel s.pr:=by
 obtain⟨ef,cC⟩:=hs.app;have kp:=jB E.B x a s;have I:=jA E.B l (X (a+bS x)) (cH E.B x a s).1;cases x with
 | mk var aK=>
  rw[show b=b++[] by rw[ZO]];rw[jE]at o;have c:cH E.B ⟨var,aK⟩ a s=((eh E.B ⟨var,aK⟩ aK 0 a [] s).1,(eh E.B ⟨var,aK⟩ aK 0 a [] s).2.map λidx=>F E.B ⟨var,aK⟩ idx):=by rw[cH]
  have g:dw E.B L ln ⟨var,aK⟩ a=fi E.B L ln ⟨var,aK⟩ aK 0 a:=by rw[dw]
  refine Ci S ⟨var,aK⟩ aK k 0 a [] s b pc u n (by rw[←g];exact ef) h hl d (by simp only[Z_];omega) (λv idx hi i=>?_) (λw y=>r (by rw[c,w];rfl) (by rw[c];exact y) |> λz=>by rw[c]at z;exact z);have C:(cH E.B ⟨var,aK⟩ a s).1=(eh E.B ⟨var,aK⟩ aK 0 a [] s).1:=by rw[c]
  have j:(cH E.B ⟨var,aK⟩ a s).2=some (F E.B ⟨var,aK⟩ idx):=by rw[c,hi];rfl
  have hlen:=Cj ⟨var,aK⟩ aK 0 a [] s idx q hi;have J:=Kw aK;have K:idx.length=fV aK:=by
   have:(idx.length:Int)=fV aK:=by simpa using hlen
   omega
  have M:Mx=1000000000:=rfl;have D:(idx.length:Int)=eP aK 0:=by rw[sa aK 0 (by omega) (by omega)];simpa using hlen
  rw[←C]at i ⊢;rw[←kp.pr,←g];refine Ch S l m _ _ (b++idx) _ v (fj _) cC i (kp.V.trans hl) (by rw[kp.aS];exact d) (by rw[ZG];omega) (λG H=>?_) (t _ j);have:=hk G idx j D H;rw[ZG,←WD]at this;rw[kp.pr];exact this
theorem Cn:∀e:aA,vE E.B (L.map (·.1)) e→ji E L sl ln e:=by
 refine aA.ind λe ac ad hv=>?_;obtain⟨ae,al,N,A,O⟩:=(Kg E.B _ e).1 hv;rw[pP]at O;obtain⟨f1,f2,f3,f4,f5⟩:=Kx ae;have C:∀k∈e.a_,ji E L sl ln k:=λk hk=>ac k hk (O k hk);have P:e.kind≥4→∀p∈e.place.aK,∀i∈p.aZ,ji E L sl ln i:=λf p d i hi=>ad p d i hi ((pQ E.B _).1 ((mS E.B _ _ _).1 (A f)).2.2 p d i hi);cases e with
 | mk kind n name op aG place a_=>
  intro a s st pc u D hs h hl af hm hk b;change 1≤kind at f1;change kind≤8 at f2;change kind≤3→place.aK=[]at f3;change (a_.length:Int)=(ft kind).1 at f4;change kind=3→1≤op∧op≤11 at f5;change kind=2→name∈_ at N;change kind≥4→vP E.B (L.map (·.1)) (X (10+kind)) place at A;change ∀k∈a_,ji E L sl ln k at C;change kind≥4→∀p∈place.aK,∀i∈p.aZ,ji E L sl ln i at P;rw[dI]at hs hk;obtain⟨gJ,hs⟩:=hs.cons;obtain⟨ef,jW⟩:=hs.app;rw[j5]at hm;rw[cq]at hk b;by_cases hf:s.fuel<1
  · obtain⟨b1,b2⟩:=sn h.go hf;rw[aa b1]at b;refine S.Km gJ rfl hf ?_;have:=b b1;rw[b2]at this;exact this
  have o:=h.bY hf;have ag:s.bY.fuel=X (s.fuel-1):=by rw[ye h.go hf]
  have t:=Kp.bY s;rw[ab (by rw[o.go];decide)]at hk b;refine S.Kn gJ rfl hf ?_;rw[←ag,←t.pr];rw[←t.pr]at hk;have G:=t.V.trans hl;have H:LR L s.bY.aS sl:=by rw[t.aS];exact af
  generalize s.bY=s1 at *;have c:=jW.cons.1;by_cases f:kind≥4
  · have e1:¬kind=1:=by omega
    have j:¬kind=2:=by omega
    have v:¬kind=3:=by omega
    rw[ab e1,ab j,ab v]at hk b;obtain⟨v1,v2,v3⟩:=(mS E.B _ _ _).1 (A f);have ah:=sk v1;have Q:hA E.B place:=⟨v1,Ck v2⟩
    rw[jD,ab e1,ab j,ab v]at c;refine Cm S (P f) C a s1 st (pc+1) u D ef o G H (by omega) ah (λI idx d T q=>?_) (λd w=>?_) (λsp d w=>?_)
    · rw [d]at hk b;simp only[]at hk b;have U:=jB E.B place a s1;have J:=jA E.B a_ (X (a+bS place)) (cH E.B place a s1).1;have z:((cl E.B a_ (X (a+bS place)) (cH E.B place a s1).1).2.length:Int)=(ft kind).1:=by
       rw[←f4];have:∀(l:List aA)(a:Int)(s:RS),(cl E.B l a s).2.length=l.length:=by
        intro l;induction l with
        |nil=>intro a s;rw[cl];rfl
        |cons y r K=>intro a s;rw[cl];simp[K]
       rw[this]
      have ai:(cl E.B a_ (X (a+bS place)) (cH E.B place a s1).1).1.pr=s1.pr:=by rw[J.pr,U.pr]
      have aj:(cl E.B a_ (X (a+bS place)) (cH E.B place a s1).1).1.V=ln:=by rw[J.V,U.V,G]
      generalize cl E.B a_ (X (a+bS place)) (cH E.B place a s1).1=m at *;rcases q.next with hu|⟨g,W⟩
      · obtain⟨Y,a2⟩:=q.pN hu (iT kind aG (F E.B place idx) (X (a+bS place)) a_ m.2);have:=b Y;change E.R (told (m.1.ask _).1)at this;rw[a2,ai,aj]at this;exact S.To c rfl f f2 Q T z hu this
      · obtain⟨Y,a2⟩:=q.pO W (iT kind aG (F E.B place idx) (X (a+bS place)) a_ m.2);rw[Y]at hk;refine S.Tp c rfl f f2 Q T z W (by omega) ?_;have:=hk (I+1) a2;simp only[Z9,ZG,Z_]at this;rw[show pc+1+(dw E.B L ln place a++dX E.B L ln a_ (X (a+bS place))).length+1=pc+((dw E.B L ln place a).length+(dX E.B L ln a_ (X (a+bS place))).length+(0+1)+1) by rw[ZG];omega];exact this
    · rw[d]at b;exact b w
    · rw[d]at b;simp only[]at b;rw[so w]at b;exact b w
  · have Z:=f3 (by omega);obtain⟨var,aK⟩:=place;change aK=[]at Z;subst Z;simp only[dw,fi,bS,gX,aa8,aaY]at ef c hk;rw[D]at ef c hk;by_cases e1:kind=1
    · subst e1;have M:a_=[]:=XJ.1 (by rw[show(ft 1).1=0 from rfl]at f4;omega);subst M;rw[aa rfl]at hk;simp only[dX,Z_,WW,ZG,Z9]at c hk;rw[jD,aa rfl]at c;exact S.push c rfl (by omega) (hk u o)
    · rw [ab e1]at hk b;by_cases j:kind=2
      · subst j;have M:a_=[]:=XJ.1 (by rw[show(ft 2).1=0 from rfl]at f4;omega);subst M;rw[aa rfl]at hk;simp only[dX,Z_,WW,ZG,Z9]at c hk;rw[jD,ab e1,aa rfl]at c;obtain⟨k,i,g1,g2,_⟩:=H.get (N rfl);exact S.loc c rfl g1 g2 (by omega) (hk u o)
      · rw [ab j]at hk b;have v:kind=3:=by omega
        subst v;rw[aa rfl]at hk b;rw[jD,ab e1,ab j,aa rfl]at c;have J:=jA E.B a_ a s1;have z:(cl E.B a_ a s1).2.length=2:=by
         have:∀(l:List aA)(a:Int)(s:RS),(cl E.B l a s).2.length=l.length:=by
          intro l;induction l with
          |nil=>intro a s;rw[cl];rfl
          |cons y r K=>intro a s;rw[cl];simp[K]
         rw[this];have:(ft 3).1=2:=rfl;omega
        refine Ch S a_ C a s1 st (pc+1) u D ef o G H (by omega) (λI q=>?_) b;have:=hk I q;generalize cl E.B a_ a s1=m at *;obtain ⟨x,y,ak⟩:∃x y,m.2=[x,y]:=by
         match hm:m.2,z with
         |[x,y],_=>exact⟨x,y,rfl⟩
        rw[ak]at this ⊢;refine S.bin c rfl (f5 rfl).1 (f5 rfl).2 ?_;simp only[Z9,ZG,Z_]at this;rw[show pc+1+(dX E.B L ln a_ a).length+1=pc+((dX E.B L ln a_ a).length+(0+1)+1) by omega];exact this
end
end Rb

namespace Rb
open Go
variable{sl:List Int}{x:List UInt8}
mutual
def kF:ay→Nat
 | .mk kind V name bQ aG place aF aP bq=>(if kind=1 then 1 else 0)+(cI aP+cI bq)
def cI:List ay→Nat
 |[]=>0
 |x::r=>kF x+cI r
end
mutual
def mU:ay→Nat
 | .mk kind V name bQ aG place aF aP bq=>8+(jE place+fW aF)+(gZ aP+gZ bq)
def gZ:List ay→Nat
 |[]=>0
 |x::r=>mU x+gZ r
end
mutual
def yf:ay→Int
 | .mk kind V name bQ aG place aF aP bq=>e5 bq (e5 aP V)
def e5:List ay→Int→Int
 |[],l=>l
 |x::r,l=>e5 r (yf x)
end
def dR(B:List aE)(L:List (List UInt8×Nat))(ln:Int)(place:aW)(aF:List aA)(a:Int):List bA:=cB ln 1 0 0::(dw B L ln place a++dX B L ln aF (X (a+bS place)))
def gx(L:List (List UInt8×Nat))(n:Nat)(kind ln:Int)(name bQ:List UInt8)(aG:Int)(place:aW)(a:Int):bA:=
 if kind=1 then cB ln 4 0 n else if kind=2 then cB ln 4 0 (hz (-1) L name)
 else if kind=3∨kind=4∨kind=6 then⟨8,0,0,0,place,kind,aG,a,ln⟩
 else if kind=5 then⟨9,0,hz (-1) L name,hz (-1) L bQ,place,0,aG,a,ln⟩
 else if kind=7 then⟨10,0,0,0,Cg,0,aG,a,ln⟩
 else cB ln 13 0 0
def l9(ln l2:Int)(p:Nat)(T:List bA)(F:Nat→List bA):List bA:=cB ln 12 0 ((p+1+T.length+1:Nat):Int)::(T++(cB l2 11 0 ((p+1+T.length+1+(F (p+1+T.length+1)).length:Nat):Int)::F (p+1+T.length+1)))
def lp(ln l2:Int)(p a:Nat)(T:List bA):List bA:=cB ln 12 0 ((p+1+T.length+1:Nat):Int)::(T++[cB l2 11 0 (a:Int)])
def eo(L:List (List UInt8×Nat))(n:Nat)(x:ay):List (List UInt8×Nat):=if x.kind=1 then L++[(x.name,n)]else L
section
variable(B:List aE)
mutual
def jG:ay→Nat→Nat→List (List UInt8×Nat)→Int→List bA
 | .mk kind V name bQ aG place aF aP bq,base,n,L,a=>
  dR B L V place aF a ++
  (if kind=8 then l9 V (e5 aP V) (base+(dR B L V place aF a).length) (cP aP (base+(dR B L V place aF a).length+1) n L (X (X (a+bS place)+bU aF 0)))
      (λb=>cP bq b (n+cI aP) L (X (X (X (a+bS place)+bU aF 0)+c_ aP 0)))
    else if kind=9 then lp V (e5 aP V) (base+(dR B L V place aF a).length) (base+1+(dw B L V place a).length) (cP aP (base+(dR B L V place aF a).length+1) n L (X (X (a+bS place)+bU aF 0)))
    else [gx L n kind V name bQ aG place (X (X (X (a+bS place)+bU aF 0)+1))])
def cP:List ay→Nat→Nat→List (List UInt8×Nat)→Int→List bA
 |[],base,n,L,a=>[]
 |x::r,base,n,L,a=>jG x base n L a++cP r (base+(jG x base n L a).length) (n+kF x) (eo L n x) (X (a+hp x 0))
end
end
theorem mV(B:List aE)(x:ay)(c n:Nat)(L:List (List UInt8×Nat))(a:Int):jG B x c n L a=dR B L x.V x.place x.aF a ++
  (if x.kind=8 then l9 x.V (e5 x.aP x.V) (c+(dR B L x.V x.place x.aF a).length) (cP B x.aP (c+(dR B L x.V x.place x.aF a).length+1) n L (X (X (a+bS x.place)+bU x.aF 0)))
      (λb=>cP B x.bq b (n+cI x.aP) L (X (X (X (a+bS x.place)+bU x.aF 0)+c_ x.aP 0)))
    else if x.kind=9 then lp x.V (e5 x.aP x.V) (c+(dR B L x.V x.place x.aF a).length) (c+1+(dw B L x.V x.place a).length) (cP B x.aP (c+(dR B L x.V x.place x.aF a).length+1) n L (X (X (a+bS x.place)+bU x.aF 0)))
    else [gx L n x.kind x.V x.name x.bQ x.aG x.place (X (X (X (a+bS x.place)+bU x.aF 0)+1))]):=by cases x;rw[jG];all_goals rfl
theorem mW(x:ay):kF x=(if x.kind=1 then 1 else 0)+(cI x.aP+cI x.bq):=by cases x;rw[kF]
theorem Ky(x:ay):mU x=8+(jE x.place+fW x.aF)+(gZ x.aP+gZ x.bq):=by cases x;rw[mU]
theorem Co(x:ay):yf x=e5 x.bq (e5 x.aP x.V):=by cases x;rw[yf]
theorem Cp{x:ay}(h:fJ x=true):1≤x.kind∧x.kind≤10∧(¬(3≤x.kind∧x.kind≤6)→x.place.aK=[])∧(x.aF.length:Int)=(dG x.kind).2.2.2.1∧(x.kind≠8→x.bq=[])∧(x.kind≠8→x.kind≠9→x.aP=[]):=by
 unfold fJ at h;simp only[Wn,dh,Wo,b9]at h;obtain⟨⟨⟨⟨⟨⟨⟨d,f⟩,_⟩,_⟩,a⟩,g⟩,b⟩,c⟩:=h;refine⟨d,f,λe=>?_,g,λe=>?_,λe i=>?_⟩
 · have:(dG x.kind).2.2.1=false:=by
     unfold dG
     repeat' split
     all_goals first|rfl|(exfalso;omega)
   rw[this]at a;rcases a with a|a
   ·cases a
   · unfold e4 at a;simp only[Wn,b9]at a;exact XJ.1 a.2
 · have:(dG x.kind).2.2.2.2.2=false:=by
     unfold dG
     repeat' split
     all_goals first|rfl|(exfalso;omega)
   rw[this]at c;rcases c with c|c
   ·cases c
   ·exact XJ.1 c
 · have:(dG x.kind).2.2.2.2.1=false:=by
     unfold dG
     repeat' split
     all_goals first|rfl|(exfalso;omega)
   rw[this]at b;rcases b with b|b
   ·cases b
   ·exact XJ.1 b
theorem LR.take{L:List (List UInt8×Nat)}{aS:List (List UInt8×Int)}(h:LR L aS sl)(n:Nat):LR (L.take n) (aS.take n) sl:=by
 refine⟨by rw[aa9,aa9,h.nm],λi p l a hl=>?_,?_⟩
 · rw [Wj]at a hl;by_cases hi:i<n
   · rw[aa hi]at a hl;exact h.vl i p l a hl
   ·rw[ab hi]at a;cases a
 · rw[aa9];exact aa_ (List.take_sublist _ _) h.nd
theorem LR.app{L:List (List UInt8×Nat)}{aS:List (List UInt8×Int)}(h:LR L aS sl){n:Nat}(f:∀p∈L,p.2<n)(g:n<sl.length)(j:x∉L.map (·.1))(v:Int):LR (L++[(x,n)]) (aS++[(x,v)]) (sl.set n v):=by
 have hlen:aS.length=L.length:=by have:=congrArg aa3 h.nm;simpa using this
 refine⟨by rw[aau,aau,h.nm];rfl,λi p l c hl=>?_,?_⟩
 · by_cases hi:i<L.length
   · rw[XZ hi]at c;rw[XZ (by omega)]at hl;have o:=f p (Y7 c);rw[WK,bF];exact h.vl i p l c hl
   · have k:i=L.length:=by
       have:=(Wh.1 c).1;simp at this;omega
     subst k;rw[X0 (hT _),aaK]at c;rw[X0 (by omega),←hlen,aaK]at hl;simp at c hl;subst c hl;rw[WK,aa rfl,aa g]
 · rw[aau,aba];refine⟨h.nd,by simp,λa m b d e=>?_⟩;simp at d;subst d;exact j (e▸m)
theorem LR.put{L:List (List UInt8×Nat)}{s:RS}(h:LR L s.aS sl)(hi:(L.map (·.2)).Nodup)(d:x∈L.map (·.1))(f:∀p∈L,p.2<sl.length)(v:Int):∃k:Nat,hz (-1) L x=k∧k<sl.length∧LR L (s.put x v).aS (sl.set k v):=by
 obtain⟨k,i,g,y,c,m⟩:=h.get d;have hk:k<sl.length:=f (x,k) (Y7 c);obtain⟨l,g1,g2,g3,g4⟩:=xY m;refine⟨k,g,hk,?_⟩;rw[g4 v];show LR L (s.aS.set i (l.1,v)) (sl.set k v);have hlen:s.aS.length=L.length:=by have:=congrArg aa3 h.nm;simpa using this
 refine⟨?_,λj p q b a=>?_,h.nd⟩
 · rw [List.map_set,←h.nm];apply aaH;intro j;rw[WK];by_cases e:i=j
   · subst e;have:i<s.aS.length:=(Wh.1 g1).1;rw[aa rfl,aa (by simpa using this),Xb,g1];rfl
   ·rw[ab e]
 · rw [WK]at a;by_cases e:i=j
   · subst e;rw[aa rfl]at a;split at a
     · cases a;rw[c]at b;cases b;rw[WK,aa rfl,aa hk]
     ·cases a
   · rw [ab e]at a;have n:k≠p.2:=by
      intro o;have r:(L.map (·.2))[i]?=some k:=by rw[Xb,c];rfl
      have t:(L.map (·.2))[j]?=some k:=by rw[Xb,b,o];rfl
      have i1:=(Wh.1 r)
      have u:=(Wh.1 t)
      obtain⟨l1,e1⟩:=i1;obtain⟨l2,w⟩:=u;exact e ((List.getElem_inj hi).1 (e1.trans w.symm))
     rw[WK,ab n];exact h.vl j p q b a
theorem Kz(L:List (List UInt8×Nat))(n:Nat)(x:ay):(eo L n x).map (·.1)=dE (L.map (·.1)) x:=by
 unfold eo dE;split
 ·rw[aau];rfl
 ·rfl
end Rb

namespace Rb
open Go
variable{H:Z}{s:RS}{lx px:I}
theorem Tv{L:List (List UInt8×Int)}{i:Nat}{l:List UInt8×Int}(hi:L[i]?=some l)(v:Int):(L.set i (l.1,v)).map (·.1)=L.map (·.1):=by
 apply aaH;intro q;rw[Xb,Xb,WK];split
 · rename_i h;subst h;rw[hi];split
   ·rfl
   ·rename_i h;exact absurd (Wh.1 hi).1 h
 ·rfl
theorem KA(L:List (List UInt8×Int))(n:List UInt8):L.findIdx? (λl=>l.1==n)=(L.map (·.1)).findIdx? (λx=>x==n):=by rw[List.findIdx?_map];rfl
theorem Cq{id:Nat}{B:List aE}{L:List (List UInt8)}(h:fx H id B L s lx px){j m:Nat}{cs:List I}(g:lx = .row j 0 s.aS.length 2)(k:j≠id)(b:T H j (.row cs))(n:cs.length=m*2)(r:s.aS.length≤m)(u:cs.take (s.aS.length*2)=s.aS.flatMap gu)
  {name:List UInt8} {i:Nat} (hi:s.aS.findIdx? (λl=>l.1==name)=some i) {v:Int} (hv:bx v) :
  ∃H',ax H 1 (.ptr j (i*2+1)) (af v)=some H'∧di id H H'∧fx H' id B L (s.put name v) lx px∧(∀q o,q≠j→T H q o→T H' q o)∧(s.put name v).aS.map (·.1)=s.aS.map (·.1)∧∃c,T H' j (.row c)∧c.length=m*2∧(s.put name v).aS.length≤m∧c.take ((s.put name v).aS.length*2)=(s.put name v).aS.flatMap gu:=by
 obtain⟨l,d,D,E,a⟩:=xY hi;obtain⟨e1,w⟩:=iU.put k b n r u d v;have z:=h.lj j 0 s.aS.length 2 g;have hm:=Tv d v;have A:∀o,T H id o→T (H.set j (.row (cs.set (i*2+1) (af v)))) id o:=λo f=>f.br (Ne.symm k) _;refine⟨_,e1,di.set (aav z) _,⟨⟨?_,?_,h.m.ok.put name hv,?_,?_,?_,?_⟩,?_,h.lj⟩,λq o C f=>f.br C _,?_,cs.set (i*2+1) (af v),b.set _,by simpa using n,by rw[mP];exact r,?_⟩
 ·rw[a];exact A _ h.m.row
 ·rw[a,g];exact w
 ·rw[mP];exact h.m.len
 · rw[(ij s name v).2.2.1,a];intro hs;show(s.aS.set i (l.1,v)).map (·.1)=L;rw[hm];exact h.m.nm hs
 ·rw[(ij s name v).2.2.1,(ij s name v).2.1,(ij s name v).1,mP];exact h.m.fl
 ·rw[(ij s name v).1];exact h.m.pl
 · rw[(ij s name v).1];exact h.p.frame (λt x y ht=>ht.br (λe=>by subst e;have:=ht.2.symm.trans b.2;cases this) _)
 ·rw[a];exact hm
 · rw[mP,a];show(cs.set (i*2+1) (af v)).take (s.aS.length*2)=(s.aS.set i (l.1,v)).flatMap gu;rw[aaJ,u,B0 s.aS i l v d]
section
variable{C:Ctx}(aw:cY C)(W:Cl (aj C) S.cr){id:Nat}{B:List aE}{L:List (List UInt8)}
include aw W
theorem Tw(ar:B.length≤1000000)(hv:∀v∈B,v.ok){e:ay}(au:e.ok)(hk:e.kind=5)(ae:e.name∈L∧e.bQ∈L)(av:∀p∈e.place.aK,∀k∈p.aZ,jh C id B L k){a:Int}{Q:ad}(h:fx H id B L s lx px)
  (c:∀H',di id H H'→fx H' id B L (kD B e.name e.bQ e.place e.aG a s) lx px→Q (.aM []) H'):S.mB (aj C) (.ptr id 0) (D a) (.ak e.cells) (D e.kind) Q [P] H:=by
 obtain⟨ag,_,_,_⟩:=ay.dc au;unfold S.mB;simp only[aq,ai,bc,G,hk];rw[aN,dW];simp only[fM,pw,G];refine Cc aw W ar hv ag av h.m λi ax o=>?_;unfold kD at c;have w:=jB B e.place a s;generalize cH B e.place a s=az at *;obtain⟨s1,z⟩:=az;dsimp only at c o w ⊢;simp only[bI,Zn,Zo,G,aR,aY,aV,ai];rw[bO i _ (z.getD bz).cells 6 rfl rfl rfl];simp only[G];have x:=ax.trans (E.push id i (.row (z.getD bz).cells));have r:=o.ca (E.push id i (.row (z.getD bz).cells)) (o.row.push _);have t:=T.new i (.row (z.getD bz).cells);have n6:=o.row.1;generalize i.push (.row (z.getD bz).cells)=aA at *;cases z with
 | none=>rw[ab (show ¬(none:Option bN).isSome=true from λh=>by cases h)];exact c aA x.fr (h.kp x r w.pr)
 | some sp=>
  rw[aa (show(some sp).isSome=true from rfl)];dsimp only[aa2]at t ⊢;dsimp only at c;simp only[j4 t,rO,pw,G];refine xL aw W ag _ _ ?_;simp only[bu,G,j4 t,rO,true_and];rw[show Xv .i64 (Xv .i64 (a+bS e.place)+1)=X (X (a+bS e.place)+1)from rfl];generalize X (X (a+bS e.place)+1)=site at *;have aB:ba [J,J,J,J,J,J,P,J,J,J,J,af 0,af 0] [(0,1,(D 1)),(3,6,.agg sp.cells),(9,1,D e.aG),(1,1,D site)]=some (.agg (bE.cells ⟨1,site,0,sp,e.aG,0,0,0⟩)):=rfl;rw[aB];simp only[G];refine r7 aw W r.row _ λb y a8=>?_;have A:=r.ok.ask ⟨1,site,0,sp,e.aG,0,0,0⟩;have aC:=w.trans (Kp.ask s1 ⟨1,site,0,sp,e.aG,0,0,0⟩);have F:=r.next y a8 (Kp.ask _ _) A.1;have aD:=y.2 _ _ (by omega) t;have aE:=x.trans y;generalize s1.ask ⟨1,site,0,sp,e.aG,0,0,0⟩=g at *;rw[bO b _ [af g.2.1,af g.2.2] 2 rfl rfl rfl];refine⟨j4 (aD.push _),?_⟩;have K:=T.new b (.row [af g.2.1,af g.2.2]);have N:=aE.trans (E.push id b (.row [af g.2.1,af g.2.2]));have d:=F.ca (E.push id b (.row [af g.2.1,af g.2.2])) (F.row.push _);have aF:=F.loc;generalize bi:b.push (.row [af g.2.1,af g.2.2])=R at *;have ah:=h.kp N d aC.pr;have U:O R 1 false (.ptr b.n 0)=some (af g.2.1):=by rw[K.load];rfl
  have V:O R 1 false (.ptr b.n 1)=some (af g.2.2):=by rw[K.load];rfl
  have aI:aU (some 2) 1 (.ptr b.n 0) (J)=some (.ptr b.n 0):=rfl;have aJ:aU (some 2) 1 (.ptr b.n 0) (D 1)=some (.ptr b.n 1):=rfl;simp only[G,aO,M,W7,j2 d.row,cV,ai];unfold lX at c;apply aH<;>intro hs
  · have u:g.1.stop=false:=by simpa using hs
    rw[ab (by rw[u];decide)]at c;simp only[la,rN,G,aI,aJ,U,V];have al:=d.nm u;obtain⟨i1,am⟩:=sb (L:=g.1.aS) (name:=e.name) (by rw[al];exact ae.1);obtain⟨aL,an⟩:=sb (L:=g.1.aS) (name:=e.bQ) (by rw[al];exact ae.2);refine xX aw W d.row d.loc d.len am λj cs m f ao aP aQ aT aW=>?_;simp only[U,V,rN,true_and];refine xX aw W d.row d.loc d.len an λap bj bk Z bl bm bn bo bp=>?_;have aX:ap=j:=by rw[f]at Z;simp only[I.row.injEq]at Z;exact Z.1.symm
    subst aX;have a0:b.n≠ap:=by
     intro a1;subst a1;rcases aF with⟨ac,_⟩|⟨q,_,_,ac,_,a5,_⟩
     ·rw[ac]at f;cases f
     · rw[ac]at f;simp only[I.row.injEq]at f;have:=a5.1;omega
    simp only[U,V,true_and,aO,G];obtain⟨a6,a7,a9,ra,a_,bb,bq,Y,a2,a3,a4⟩:=Cq ah f ao aP aQ aT aW am (v:=g.2.1) A.2.1;rw[a7];simp only[G];have bd:O a6 1 false (.ptr b.n 1)=some (af g.2.2):=by rw[(a_ _ _ a0 K).load];rfl
    refine⟨bd,?_⟩;have be:(g.1.put e.name g.2.1).aS.findIdx? (λl=>l.1==e.bQ)=some aL:=by rw[KA,bb,←KA];exact an
    obtain⟨bf,bg,bh,rb,_⟩:=Cq ra (by rw[mP];exact f) ao Y a2 a3 a4 be (v:=g.2.2) A.2.2;rw[bg];simp only[G];exact c bf (N.fr.trans (a9.trans bh)) rb
  · have u:g.1.stop=true:=by simpa using hs
    rw[aa u]at c;exact c R N.fr ah
end
end Rb

namespace Rb
open Go
theorem Tx{j n m:Nat}(h:n≤m):c6 2 (.row j 0 m 2) none (some (D n)) none=some (.row j 0 n 2):=by simp only[c6,eJ];rw[df];simp only[Xw];rw[aa ⟨WS _,h,trivial⟩,aa (.inl trivial)];simp
theorem iU.take{H:Z}{id:Nat}{L:List (List UInt8×Int)}{x:I}(h:iU H id L x){n:Nat}(b:n≤L.length):∃a,c6 2 x none (some (D n)) none=some a∧iU H id (L.take n) a∧a.known=true∧a.cells=[a]∧a.scalar=true∧∀j c d e,a = .row j c d e→∃c' f g,x = .row j c' f g:=by
 rcases h with⟨rfl,rfl⟩|⟨j,cs,m,rfl,i,k,l,p,o⟩
 · have:n=0:=by simpa using b
   subst this;exact⟨ar,rfl,.inl ⟨rfl,rfl⟩,rfl,rfl,rfl,λj c d e h=>by cases h⟩
 · have hl:(L.take n).length=n:=by rw[Z1];omega
   refine⟨.row j 0 n 2,Tx b,.inr ⟨j,cs,m,by rw[hl],i,k,l,by omega,?_⟩,rfl,rfl,rfl,λq c d e h=>?_⟩
   ·rw[hl,←x0 (cells:=gu) (sz:=2) (λ_=>rfl),←o,abb,aat (by omega)]
   · simp only[I.row.injEq]at h;exact⟨0,L.length,2,by rw[h.1]⟩
def yg(C:Ctx)(id:Nat)(B:List aE)(c:Nat)(x:ay):Prop:=∀(L:List (List UInt8)),pK L x→∀(a:Int)(s:RS)(lx px:I)(H:Z)(Q:ad),fx H id B L s lx px→(∀b d H',di id H H'→fx H' id B (dE L x) (eI B c x a s) b d→Q (.aM []) H')→aj C 77 [.ptr id 0,.agg x.cells,D a] H Q
def nY(C:Ctx)(id:Nat)(B:List aE)(c:Nat)(l:List ay):Prop:=∀(L:List (List UInt8)),gw L l→∀(a:Int)(s:RS)(lx px:I)(H:Z)(Q:ad),fx H id B L s lx px→(∀b d H',di id H H'→fx H' id B L (bV B c l a s.aS.length s) b d→Q (.aM []) H')→aj C 48 [.ptr id 0,aD ay.cells l,D a] H Q
section
variable{C:Ctx}(aw:cY C)(W:Cl (aj C) S.cr){id:Nat}{B:List aE}{c:Nat}
include aw W
theorem Cr{l:List ay}(hl:l.length≤9223372036854775807)(af:∀x∈l,x.ok)(ag:∀x∈l,yg C id B c x):nY C id B c l:=by
 intro L ah a s lx px H Q h X;refine S.HK W ?_;unfold S.f48;have hlen:bj false lx=some (D s.aS.length):=by
  rcases h.m.loc with⟨rfl,e⟩|⟨j,cs,m,rfl,_⟩
  ·rw[e];rfl
  ·rfl
 simp only[aO,M,W7,mM h.m.row,G,hlen,bH];have main:∀(r:List ay)(k:Nat)(u:Int)(n:List (List UInt8)) (A:RS) (i g:I) (o:Z),l.drop k=r→gw n r→fx o id B n A i g→di id H o→s.aS.length≤A.aS.length→(A.stop=false→s.stop=false∧L <+: n) →
   bV B c r u s.aS.length A=bV B c l a s.aS.length s →
   au (S.lK (aj C) (.ptr id 0) (aD ay.cells l) (D s.aS.length) (D l.length) Q) ([D u,D k],o):=by
  intro r;induction r with
  | nil=>
   intro k u n A i g o J v b f5 K N he;have hle:=db J;refine au.step ?_;simp only[S.lK,aq,bh,bb,G,ai,aB,S.uF];rw[cZ];simp only[aO,M,W7,mM b.m.row,G];obtain⟨ak,e1,al,am,an,ao,ap⟩:=b.m.loc.take K;rw[e1];simp only[G];rw[xQ b.m.row am an ao];simp only[G];rw[bV]at he;refine X ak g _ (f5.trans (E.set id _ _).fr) ?_;rw[←he];refine⟨⟨b.m.row.set _,al.ca (E.set id _ _),⟨b.m.ok.aL,λl hl=>b.m.ok.aS l (aa0 hl)⟩,?_,λhs=>?_,λhs=>?_,b.m.pl⟩,cD.pL b.p (E.set id _ _),λj c' d e q=>?_⟩
   · show(A.aS.take s.aS.length).length≤_;rw[Z1];have:=h.m.len;omega
   · obtain⟨gJ,t,ht⟩:=N hs;show(A.aS.take s.aS.length).map (·.1)=L;have ar:=h.m.nm gJ;have av:=b.m.nm hs;rw[aa9,av,←ht,←ar,List.take_left' (by simp)]
   · have:=b.m.fl hs;refine⟨this.1,?_,this.2.2⟩;show A.fuel+((A.aS.take s.aS.length).length:Nat)≤_;rw[Z1];omega
   · obtain⟨ax,d2,az,aA⟩:=ap j c' d e q;exact b.lj j ax d2 az aA
  | cons x r aC=>
   intro k u n A i g o J v b f5 K N he;obtain⟨aE,O,aF⟩:=c8 J;have Y:=Y7 O;rw[gw]at v;rw[bV]at he;refine au.step ?_;simp only[S.lK,aq,bh,bb,G,ai];rw[ch,cp aE];simp only[G];rw[dd ay.len (by decide) _ O];simp only[G,aV,aR,aY];rw[bO _ _ _ 10 x.len x.scalar rfl];have ac:=T.new o (.row x.cells);have w:=E.push id o (.row x.cells);have f:=b.kp w (b.m.ca w (b.m.row.push _)) rfl;have ad:=b.m.row.1;simp only[G,aO,M,W7];generalize o.push (.row x.cells)=P at *;rw[j2 f.m.row];simp only[G,ai];apply aH<;>intro hs
   · rw[aa hs]at he;refine X i g P (f5.trans w.fr) ?_;rw[←he];exact f.over hs
   rw[ab hs]at he;have aG:A.stop=false:=by simpa using hs
   rw[xI ac];simp only[G];rw[BD f.m.row];simp only[G];have R:=E.set id P (.row (cK B {A with V:=x.V} i g));have ae:=f.m.row.set (.row (cK B {A with V:=x.V} i g));have aI:=ac.br (abc ad) (.row (cK B {A with V:=x.V} i g));have U:fx (P.set id (.row (cK B {A with V:=x.V} i g))) id B n {A with V:=x.V} i g:=
    ⟨⟨ae,f.m.loc.ca R,⟨f.m.ok.aL,f.m.ok.aS⟩,f.m.len,f.m.nm,f.m.fl,f.m.pl⟩,cD.pL f.p R,f.lj⟩
   refine BG aw W ae λaJ F aK=>?_;have aM:=U.kp F (U.m.next F aK (Kp.bY _) U.m.ok.bY) (Kp.bY _).pr;have aN:=F.2 _ _ (abc ad) aI;rw[Bt aN];simp only[G];have lo:A.aS.length≤(eI B c x u ({A with V:=x.V}:RS).bY).aS.length:=by have:=J7 B c x u ({A with V:=x.V}:RS).bY;rw[(Kp.bY _).aS]at this;exact this
   refine ag x Y n v.1 u _ i g aJ _ aM λaP aQ aT f9 aU=>?_;have hw:Xv .i64 ((k:Int)+1)=((k+1:Nat):Int):=by rw[bM];simp
   simp only[bu,G,hw,B1 ay.len O];refine Bz aw W (l:=[x]) (by simp) (λy aW=>by rw[aaM.1 aW];exact af x Y) _ _ ?_;simp only[bu,G,hw];rw[show c_ [x] 0=hp x 0 by rw[c_,c_]];refine aC (k+1) _ (dE n x) _ aP aQ aT aF v.2 aU (((f5.trans w.fr).trans (R.fr.trans F.fr)).trans f9) (At K lo) (λaX=>?_) he;have z:=N aG;exact⟨z.1,z.2.trans (by unfold dE;split;exact List.prefix_append _ _;exact aay _)⟩
 exact main l 0 a L s lx px H rfl ah h (di.refl id H) (hT _) (λe=>⟨e,aay _⟩) rfl
end
end Rb

namespace Rb
open Go
theorem nZ(B:List aE)(c:Nat)(x:ay)(a:Int)(s:RS):eI B c x a s =
  if x.kind=3∨x.kind=4∨x.kind=6 then nR B x.place x.aF x.aG a s
  else if x.kind=5 then kD B x.name x.bQ x.place x.aG a s
  else if x.kind=7 then(s.ask ⟨4,X (a+1),0,bz,x.aG,0,0,0⟩).1
  else if x.kind=9 then fU (cW B x.aF a) (λs1=>{bV B c x.aP (X (a+bU x.aF 0)) s1.aS.length s1 with V:=x.V}) c s
  else if(cW B x.aF a s).1.stop=true then(cW B x.aF a s).1
  else if x.kind=1 then {(cW B x.aF a s).1 with aS:=(cW B x.aF a s).1.aS++[(x.name,(cW B x.aF a s).2)]}
  else if x.kind=2 then(cW B x.aF a s).1.put x.name (cW B x.aF a s).2
  else if x.kind=10 then {(cW B x.aF a s).1 with pr:=(cW B x.aF a s).1.pr++[(cW B x.aF a s).2]}
  else if(cW B x.aF a s).2≠0 then bV B c x.aP (X (a+bU x.aF 0)) (cW B x.aF a s).1.aS.length (cW B x.aF a s).1
  else bV B c x.bq (X (X (a+bU x.aF 0)+c_ x.aP 0)) (cW B x.aF a s).1.aS.length (cW B x.aF a s).1:=by cases x;rw[eI]
section
variable{C:Ctx}(aw:cY C)(W:Cl (aj C) S.cr){id:Nat}{B:List aE}{L:List (List UInt8)}{c:Nat}
include aw W
theorem Ty{x:ay}(ae:x.ok){e0:aA}{et:List aA}(K:x.aF=e0::et)(ag:jh C id B L e0)(ah:nY C id B c x.aP)(al:nY C id B c x.bq)(am:gw L x.aP)(an:gw L x.bq)(ao:x.kind=2→x.name∈L)
  (hk:¬(x.kind=3∨x.kind=4∨x.kind=6)∧x.kind≠5∧x.kind≠7∧x.kind≠9) {a:Int} {s:RS} {lx px:I} {H:Z} {Q:ad} (h:fx H id B L s lx px)
  (f:∀A n H',di id H H'→fx H' id B (dE L x) (eI B c x a s) A n→Q (.aM []) H'):aj C 111 [.ptr id 0,.agg x.cells,D a] H Q:=by
 obtain⟨a_,⟨ap,X⟩,⟨aq,ar⟩,_⟩:=ay.dc ae;obtain⟨au,ax,n3,n4⟩:=hk;rw[nZ,ab au,ab ax,ab n3,ab n4]at f;have az:e0.ok:=X e0 (by rw[K];exact YK ..);refine S.Pc W ?_;unfold S.f111;have aB:aU none 8 (aD aA.cells (e0::et)) (J)=_:=cp (i:=0) (by simp);have aC:∀H,O H 8 true (d_ aA.cells 8 (e0::et) 0)=_:=λH=>dd aA.len (by decide) H (show(e0::et)[0]?=some e0 from rfl);have aE:∀H,O H 1 false (.ak (x.cells.drop 7))=some (aD aA.cells (e0::et)):=λH=>by rw[py,K]
 simp only[pv,aV,fM,aE,G,aB,aC];rw[show cW B x.aF a s=cq B e0 a s by rw[K];rfl]at f;have kp:=jg B e0 a s;have aG:=r0 B e0 a s;have Y:=Jg B e0 az a s h.m.ok;refine ag a s lx px H _ h.m λH1 r b=>?_;have k:=h.kp r b kp.pr;have ac:(cq B e0 a s).1.stop=false→(cq B e0 a s).1.fuel+(cq B e0 a s).1.aS.length+1≤1000000∧(cq B e0 a s).1.fuel+(cq B e0 a s).1.pr.length+1≤1000000:=by intro hs;have f0:=h.m.fl (kp.stop hs);have:=aG f0.1 (by omega) hs;rw[kp.aS,kp.pr];omega
 generalize cq B e0 a s=g at *;obtain⟨s1,v⟩:=g;dsimp only at *;rw[show aD aA.cells (e0::et)=aD aA.cells x.aF by rw[K]];refine mL aw W ap X _ _ ?_;simp only[bu,G,aO,M,W7,j2 b.row,ai];apply aH<;>intro hs
 · rw[aa hs]at f;exact f lx px H1 r.fr (k.over hs)
 have w:s1.stop=false:=by simpa using hs
 rw[ab hs]at f;have ac:=ac w;simp only[hO,G,bc,ai];apply aH<;>intro hc
 · have c1:x.kind=1:=by simpa using hc
   rw[aa c1]at f;simp only[mM b.row,G,la];rw[show ba [.str [],af 0] [(0,1,.str x.name),(1,1,af v)]=some (.agg [.str x.name,af v])from rfl];simp only[G];rw[show c9 H1 false 2 1 [.str [],af 0] [(0,2,.agg [.str x.name,af v])]=some (.av .full 1 [.str x.name,af v],H1)from rfl];simp only[aV];refine b.loc.app b.row.1 b.len x.name v λaI u aJ z2 z3 z4 z5 aK aN aQ z9=>?_;have F:=z2 id _ (hT _) (λc d e q=>absurd (k.lj id c d e q) (Nat.lt_irrefl _)) b.row;rw[xQ F z5 aK aN];simp only[G];refine f aI px _ ⟨At r.1 aJ,λj o y T=>?_⟩ ⟨⟨F.set _,z3.ca (E.set id _ _),⟨b.ok.aL,λl hl=>?_⟩,?_,λ_=>?_,λ_=>?_,b.pl⟩,cD.pL (k.p.frame λt p q ht=>z9 t _ (λcs e=>by cases e) ht) (E.set id _ _),λj c d e q=>?_⟩
   ·exact(z2 j o (aav y) (λc d e q=>absurd (k.lj j c d e q) (by omega)) (r.fr.2 j o y T)).br (W5 y) _
   · rcases YB.1 hl with hl|hl
     ·exact b.ok.aS l hl
     ·rw[aaM.1 hl];exact Y.2
   · show(s1.aS++[(x.name,v)]).length≤_;rw[ZG,aap];have:=(b.fl w).1;omega
   · show(s1.aS++[(x.name,v)]).map (·.1)=_;unfold dE;rw[aa c1,aau,b.nm w];rfl
   · have:=b.fl w;refine⟨this.1,?_,this.2.2⟩;show s1.fuel+((s1.aS++[(x.name,v)]).length:Nat)≤_;rw[ZG,aap];omega
   · rcases aQ j c d e q with⟨z,d2,aR,N⟩|N
     ·exact k.lj j z d2 aR N
     ·have:=b.row.1;omega
 have c1:¬x.kind=1:=by simpa using hc
 have aT:dE L x=L:=by unfold dE;rw[ab c1]
 rw[ab c1,aT]at f;apply aH<;>intro hc
 · have z:x.kind=2:=by simpa using hc
   rw[aa z]at f;obtain⟨i,hi⟩:=sb (L:=s1.aS) (name:=x.name) (by rw[b.nm w];exact ao z);simp only[la,G];refine xX aw W b.row b.loc b.len hi λj cs m aW y aX aY aZ a0=>?_;simp only[aO,G];obtain⟨a1,a2,a3,ra,_⟩:=Cq k aW y aX aY aZ a0 hi Y.2;rw[a2];simp only[G];exact f lx px a1 (r.fr.trans a3) ra
 have z:¬x.kind=2:=by simpa using hc
 rw[ab z]at f;apply aH<;>intro hc
 · have c3:x.kind=10:=by simpa using hc
   rw[aa c3]at f;simp only[r5 b.row,G];rw[show c9 H1 false 1 1 [af 0] [(0,1,af v)]=some (.av .full 1 [af v],H1)from rfl];simp only[aV];have f1:=b.fl w;refine k.p.app (Nat.succ_le_of_lt b.row.1) (m:=1) (news:=[af v]) rfl rfl rfl (by decide) (by omega) (by omega) λn u a4 P=>?_;have F:=P.row b.row;obtain⟨tk,R,a5,a6⟩:=a4;rw[RN F (by rw[R];rfl) (by rw[R];rfl) (by rw[R];rfl)];simp only[G];have kk:E id u (u.set id (.row (cK B s1 lx n))):=E.set id _ _;refine f lx n _ (r.fr.trans (di.trans ⟨P.1,λj o y T=>P.2 j o T (.inl (by omega))⟩ kk.fr)) ⟨⟨F.set _,?_,⟨b.ok.aL,b.ok.aS⟩,b.len,λ_=>b.nm w,λ_=>?_,by show(s1.pr++[v]).length≤_;rw[ZG,aap];have:=f1.1;omega⟩,?_,k.lj⟩
   · refine iU.ca ?_ kk;rcases b.loc with q|⟨j,cs,m,a7,N,a8,a9⟩
     ·exact .inl q
     ·exact .inr ⟨j,cs,m,a7,N,P.row a8,a9⟩
   · refine⟨f1.1,f1.2.1,?_⟩;show s1.fuel+((s1.pr++[v]).length:Nat)≤_;rw[ZG,aap];omega
   · refine cD.pL ?_ kk;show cD (id+1) u 1 n (s1.pr++[v]).length ((s1.pr++[v]).map (af));rw[ZG,aau];exact⟨tk,R,a5,a6⟩
 have c3:¬x.kind=10:=by simpa using hc
 rw[ab c3]at f;simp only[cU,G,ai];apply aH<;>intro hc
 · have U:v≠0:=by simpa using hc
   rw[aa U]at f;simp only[nQ,G];refine ah L am _ s1 lx px H1 _ k λA n u f2 V=>?_;exact f A n u (r.fr.trans f2) V
 · have U:¬v≠0:=by simpa using hc
   rw[ab U]at f;simp only[nQ,rP,G];refine Bz aw W aq ar _ _ ?_;simp only[rP,true_and,bu,G];refine al L an _ s1 lx px H1 _ k λA n u f2 V=>?_;exact f A n u (r.fr.trans f2) V
end
end Rb

namespace Rb
open Go
theorem hW.le{A:List bA}{pc:Nat}{l:List bA}(h:hW A pc l)(hl:l≠[]):pc+l.length≤A.length:=by have a:0<l.length:=List.length_pos_iff.2 hl;have:=h (l.length-1) l[l.length-1] (Xc _);have:=(Wh.1 this).1;omega
theorem Tz(B:List aE)(c:Nat):∀(l:List ay)(a:Int)(n:Nat)(s:RS),s.stop=true→told (bV B c l a n s)=told s∧(bV B c l a n s).stop=true
 |[],a,n,s,h=>by rw[bV];exact⟨rfl,h⟩
 |x::r,a,n,s,h=>by rw[bV,aa h];exact⟨rfl,h⟩
theorem TA{cond:RS→RS×Int}{body:RS→RS}(hc:∀s,Kp s (cond s).1):∀(c:Nat)(s:RS),s.stop=true→fU cond body c s=s
 |0,s,h=>rfl
 | c+1,s,h=>by unfold fU;have e:=(hc s).st h;rw[ab (by rw[e,h];intro q;cases q.2)];exact e
theorem St.put{aL:List (Int×Int)}{s:RS}{u:Nat}(h:St aL s u)(x:List UInt8)(v:Int):St aL (s.put x v) u:=by obtain⟨e1,f,a,b,g,c,d,e⟩:=ij s x v;exact⟨by rw[a];exact h.go,by rw[e];exact h.em,by rw[d];exact h.wz,by rw[c];exact h.fz,by rw[b];exact h.an,h.le⟩
def Cs(E:nX)(c:Nat)(x:ay):Prop:=
 ∀ (base n:Nat) (L:List (List UInt8×Nat)) (a:Int) (sl:List Int) (s:RS) (u:Nat),X a=a→hW E.A base (jG E.B x base n L a)→vS E.B (L.map (·.1)) x→LR L s.aS sl→(L.map (·.2)).Nodup→(∀p∈L,p.2<n)→n+kF x≤sl.length→St E.aL s u→s.V=x.V→s.fuel≤1000000→mU x≤Mx→(eI E.B c x a s.bY).pr.length≤Mx →
  (∀d b,St E.aL (eI E.B c x a s.bY) d→LR (eo L n x) (eI E.B c x a s.bY).aS b→b.length=sl.length→E.P (base+(jG E.B x base n L a).length) [] b d (eI E.B c x a s.bY).fuel (eI E.B c x a s.bY).pr) →
  ((eI E.B c x a s.bY).stop=true→E.R (told (eI E.B c x a s.bY)))→E.P base [] sl u s.fuel s.pr
def pR(E:nX)(c:Nat)(l:List ay):Prop:=
 ∀ (base n:Nat) (L:List (List UInt8×Nat)) (a:Int) (sl:List Int) (s:RS) (u n0:Nat),X a=a→hW E.A base (cP E.B l base n L a)→vB E.B (L.map (·.1)) l→LR L s.aS sl→(L.map (·.2)).Nodup→(∀p∈L,p.2<n)→n+cI l≤sl.length→St E.aL s u→s.fuel≤1000000→gZ l≤Mx→n0≤L.length→(bV E.B c l a n0 s).pr.length≤Mx →
  (∀d b,St E.aL (bV E.B c l a n0 s) d→LR (L.take n0) (bV E.B c l a n0 s).aS b→b.length=sl.length→E.P (base+(cP E.B l base n L a).length) [] b d (bV E.B c l a n0 s).fuel (bV E.B c l a n0 s).pr) →
  ((bV E.B c l a n0 s).stop=true→E.R (told (bV E.B c l a n0 s)))→E.P base [] sl u s.fuel s.pr
theorem TB(B:List aE)(c:Nat)(x:ay)(a:Int){s:RS}(hs:s.stop=false)(d:s.fuel≤1000000)(h:(eI B c x a s.bY).stop=false):0≤(eI B c x a s.bY).fuel∧(eI B c x a s.bY).fuel≤1000000:=by
 have ks:=pF B c x a s.bY;have b:=ks.stop h;have hf:¬s.fuel<1:=by intro hf;rw[(sn hs hf).1]at b;cases b
 have e:=ye hs hf;have hw:s.bY.fuel=s.fuel-1:=by rw[e];exact bM
 have:=ks.fu (by omega) (by omega) h;omega
theorem TC(B:List aE)(c:Nat)(l:List ay)(a:Int)(n:Nat)(s:RS):s.pr.length≤(bV B c l a n s).pr.length:=by
 cases h:s.stop with
 |false=>exact(lZ B c l a n s h).1.length_le
 |true=>rw[(yc B c l a n s h).1];exact hT _
theorem yh{E:nX}{c:Nat}:∀{l:List ay},(∀x∈l,Cs E c x)→pR E c l
 | [],k=>by intro base n L a sl s u n0 v hs hv m g d w h hf f o i hk j;rw[bV]at hk;simp only[cP,Z_,WW]at hk;exact hk u sl ⟨h.go,h.em,h.wz,h.fz,h.an,h.le⟩ (m.take n0) rfl
 | x :: r,k=>by
  intro base n L a sl s u n0 v hs hv m g d w h hf f o i hk j;rw[cP]at hs hk;obtain⟨ef,cC⟩:=hs.app;obtain⟨D,F⟩:=hv;rw[cI]at w;rw[gZ]at f;rw[bV,ab (by rw[h.go];decide)]at hk j i;have G:kF x=(if x.kind=1 then 1 else 0)+(cI x.aP+cI x.bq):=mW x;have q:LR L ({s with V:=x.V}:RS).aS sl:=m;refine k x (YK ..) base n L a sl {s with V:=x.V} u v ef D q g d (by omega) ⟨h.go,h.em,h.wz,h.fz,h.an,h.le⟩ rfl hf (by omega) (At (TC E.B c r _ _ _) i) (λH I A q J=>?_) (λK=>?_)
  · have M:=TB E.B c x a (s:={s with V:=x.V}) h.go hf A.go;generalize eI E.B c x a ({s with V:=x.V}:RS).bY=s2 at *;have N:(eo L n x).take n0=L.take n0:=by
     unfold eo;split
     ·exact ZI o
     ·rfl
    refine yh (λy t=>k y (YJ _ t)) _ (n+kF x) (eo L n x) (X (a+hp x 0)) I s2 H n0 (fj _) cC (by rw[Kz];exact F) q ?_ ?_ (by omega) A M.2 (by omega) ?_ i (λO P Q C R=>?_) j
    · unfold eo;split
      · rw[aau,aba];refine⟨g,by simp,λy t z f e=>?_⟩;simp at f;subst f;obtain⟨p,b,rfl⟩:=YX.1 t;have:=d p b;omega
      ·exact g
    · intro p b;unfold eo at b;split at b
      · rename_i e1;rw[aa e1]at G;rcases YB.1 b with b|b
        ·have:=d p b;omega
        ·simp at b;subst b;show n<_;omega
      ·have:=d p b;omega
    · unfold eo;split
      ·rw[ZG];omega
      ·exact o
    · rw[N]at C;have:=hk O P Q C (R.trans J);rw[ZG,←WD]at this;exact this
  · obtain⟨t1,t2⟩:=Tz E.B c r (X (a+hp x 0)) n0 _ K;have:=j t2;rw[t1]at this;exact this
section
variable{E:nX}(S:yd E.B E.A E.aL E.P E.R){c:Nat}
include S
theorem TD{e:aA}{aP:List ay}{L:List (List UInt8×Nat)}{n d:Nat}{a b V l2:Int}(C:X a=a)(D:X b=b)(F:∀sl,ji E L sl V e)(G:pR E c aP)(ef:hW E.A d (dI E.B L V e a))(cC:hW E.A (d+(dI E.B L V e a).length) (lp V l2 (d+(dI E.B L V e a).length) d (cP E.B aP (d+(dI E.B L V e a).length+1) n L b)))
  (hv:vB E.B (L.map (·.1)) aP) (H:(L.map (·.2)).Nodup) (l:∀p∈L,p.2<n) (I:j5 e≤Mx) (J:gZ aP≤Mx):∀(w:Nat)(s:RS)(sl:List Int)(u:Nat),s.fuel<w→0≤s.fuel→s.fuel≤1000000→n+cI aP≤sl.length→St E.aL s u→s.V=V→LR L s.aS sl→(fU (cq E.B e a) (λs1=>{bV E.B c aP b s1.aS.length s1 with V:=V}) w s).pr.length≤Mx →
  (∀ j t,St E.aL (fU (cq E.B e a) (λs1=>{bV E.B c aP b s1.aS.length s1 with V:=V}) w s) j→LR L (fU (cq E.B e a) (λs1=>{bV E.B c aP b s1.aS.length s1 with V:=V}) w s).aS t→t.length=sl.length →
    E.P (d+(dI E.B L V e a).length+1+(cP E.B aP (d+(dI E.B L V e a).length+1) n L b).length+1) [] t j (fU (cq E.B e a) (λs1=>{bV E.B c aP b s1.aS.length s1 with V:=V}) w s).fuel (fU (cq E.B e a) (λs1=>{bV E.B c aP b s1.aS.length s1 with V:=V}) w s).pr) →
  ((fU (cq E.B e a) (λs1=>{bV E.B c aP b s1.aS.length s1 with V:=V}) w s).stop=true→E.R (told (fU (cq E.B e a) (λs1=>{bV E.B c aP b s1.aS.length s1 with V:=V}) w s)))→E.P d [] sl u s.fuel s.pr:=by
 intro w;induction w with
 |zero=>intro s sl u f1 f2 f3;omega
 | succ w K=>
  intro s sl u f1 f2 f3 M h hl m o hk f;have kp:=jg E.B e a s;have v:∀s,Kp s (cq E.B e a s).1:=jg E.B e a;unfold lp at cC;have hle:=cC.le (by simp);obtain⟨x,cC⟩:=cC.cons;obtain⟨cC,jW⟩:=cC.app;have N:=jW.cons.1;have hlen:L.length=s.aS.length:=by have:=congrArg aa3 m.nm;simpa using this.symm
  simp only[Z9,ZG,Z_]at hle;rw[fU]at hk f o;refine F sl a s [] d u C ef h hl m (by simpa using I) (λj i=>?_) (λk=>?_)
  · have ah:=r0 E.B e a s f2 f3 i.go;have O:=(jg E.B e a s).fu f2 f3 i.go;by_cases r:(cq E.B e a s).2=0
    · rw[ab (λq=>q.1 r)]at hk f;rw[r];refine S.Ko x rfl rfl (by omega) ?_;have:=hk j sl i (by rw[kp.aS];exact m) rfl;rw[kp.pr]at this;exact this
    · rw [aa ⟨r,i.go⟩]at hk f o;have Q:=At (xN v (λs1 y=>by
          have l:=lZ E.B c aP b s1.aS.length s1 y;exact⟨l.1,λe=>(by rw[y]at e;cases e),l.2⟩) w _).pr.length_le o
      refine S.Kr x rfl r ?_;rw[←kp.pr];have T:LR L (cq E.B e a s).1.aS sl:=by rw[kp.aS];exact m
      have ai:L.length=(cq E.B e a s).1.aS.length:=by rw[kp.aS];exact hlen
      have aj:=kp.pr;have ak:=kp.V;generalize cq E.B e a s=q at *;have ks:=λhs=>(lZ E.B c aP b q.1.aS.length q.1 hs).2;refine G _ n L b sl q.1 j q.1.aS.length D cC hv T H l M i (by omega) J (by omega) Q (λU W g z Y=>?_) (λk=>?_)
      · have Z:=ks i.go O.1 (by omega) g.go;refine S.jump N rfl rfl (by omega) ?_;rw[ZJ (by omega)]at z;refine K {bV E.B c aP b q.1.aS.length q.1 with V:=V} W U ?_ Z.1 ?_ (by omega) ⟨g.go,g.em,g.wz,g.fz,g.an,g.le⟩ rfl z o (λac ad ae af ag=>?_) f
        · show(bV E.B c aP b q.1.aS.length q.1).fuel<w;omega
        · show(bV E.B c aP b q.1.aS.length q.1).fuel≤1000000;omega
        ·exact hk ac ad ae af (ag.trans Y)
      · have e1:=TA (cond:=cq E.B e a) (body:=λs1=>{bV E.B c aP b s1.aS.length s1 with V:=V}) v w {bV E.B c aP b q.1.aS.length q.1 with V:=V} k;rw[e1]at f;exact f k
  · rw[ab (λq=>by rw[k]at q;cases q.2)]at f;exact f k
theorem TE(bf:∀(x:aW)(t:List Int),hA E.B x→(F E.B x t).bits=true→(bP E.B x).2.kind=1)(hc:1000000<c){x:ay}(aV:pR E c x.aP)(bg:pR E c x.bq):Cs E c x:=by
 intro base n L a sl s u O hs hv bh ae af aX h hl hf bi f hk b;obtain⟨v1,v2,v3,v4,v5,v6,bj,aY,v9⟩:=(Ce E.B _ x).1 hv;obtain⟨f1,f2,f3,f4,f5,f6⟩:=Cp v1;rw[mV]at hs hk;obtain⟨ef,cC⟩:=hs.app;unfold dR at ef;obtain⟨gJ,ef⟩:=ef.cons;rw[Ky]at bi;rw[mW]at aX;have av:∀sl,∀e∈x.aF,ji E L sl x.V e:=λsl e he=>Cn S e ((pP E.B _).1 bj e he);by_cases ag:s.fuel<1
 · obtain⟨b1,b2⟩:=sn h.go ag;have e:=(pF E.B c x a s.bY).st b1;rw[e]at b;refine S.Km gJ rfl ag ?_;have:=b b1;rw[b2]at this;exact this
 have T:=h.bY ag;have bk:s.bY.fuel=X (s.fuel-1):=by rw[ye h.go ag]
 have hw:X (s.fuel-1)=s.fuel-1:=bM;have aw:=Kp.bY s;refine S.Kn gJ rfl ag ?_;rw[←bk,←aw.pr];have U:=aw.V.trans hl;have I:LR L s.bY.aS sl:=by rw[aw.aS];exact bh
 have a0:0≤s.bY.fuel:=by omega
 have a1:s.bY.fuel≤1000000:=by omega
 generalize s.bY=s1 at *;have hlen:L.length=s1.aS.length:=by have:=congrArg aa3 I.nm;simpa using this.symm
 have ax:∀p∈L,p.2<sl.length:=λp o=>by have:=af p o;omega
 rw[nZ]at hk b f;by_cases W:x.kind=3∨x.kind=4∨x.kind=6
 · rw [aa W]at hk b;rw[bF,bF]at cC hk;have d:=cC.cons.1;unfold gx at d;rw[bF,bF,aa W]at d;obtain⟨ah,aq,az⟩:=(mS E.B _ _ _).1 (v6 (by omega));have aB:=sk ah;have N:hA E.B x.place:=⟨ah,Ck aq⟩
   have aC:∀p∈x.place.aK,∀i∈p.aZ,ji E L sl x.V i:=λp o i hi=>Cn S i ((pQ E.B _).1 az p o i hi);have H:eo L n x=L:=by unfold eo;rw[bF]
   rw[H]at hk;have bl:∀(a:Int)(s:RS),(cl E.B x.aF a s).2.length=x.aF.length:=by
    have:∀(l:List aA)(a:Int)(s:RS),(cl E.B l a s).2.length=l.length:=by
     intro l;induction l with
     |nil=>intro a s;rw[cl];rfl
     |cons y r bm=>intro a s;rw[cl];simp[bm]
    exact this x.aF
   have bn:∀(a:Int)(s:RS),(cl E.B x.aF a s).2.length=(if x.kind=6 then 2 else 1):=by
    intro a s;rw[bl];rcases W with e|e|e
    ·rw[e]at f4 ⊢;have:(dG 3).2.2.2.1=1:=rfl;rw[aN];omega
    ·rw[e]at f4 ⊢;have:(dG 4).2.2.2.1=1:=rfl;rw[aN];omega
    ·rw[e]at f4 ⊢;have:(dG 6).2.2.2.1=2:=rfl;rw[aa rfl];omega
   unfold nR at hk b;refine Cm S aC (av sl) a s1 [] (base+1) u O ef T U I (by simp only[Z_];omega) aB (λD t o Q w=>?_) (λo A=>?_) (λsp o A=>?_)
   · rw [o] at hk b;simp only[]at hk b;have R:=jB E.B x.place a s1;have aD:=jA E.B x.aF (X (a+bS x.place)) (cH E.B x.place a s1).1;have ai:=bn (X (a+bS x.place)) (cH E.B x.place a s1).1;have aj:(cl E.B x.aF (X (a+bS x.place)) (cH E.B x.place a s1).1).1.pr=s1.pr:=by rw[aD.pr,R.pr]
     have aE:(cl E.B x.aF (X (a+bS x.place)) (cH E.B x.place a s1).1).1.V=x.V:=by rw[aD.V,R.V,U]
     have a3:(cl E.B x.aF (X (a+bS x.place)) (cH E.B x.place a s1).1).1.aS=s1.aS:=by rw[aD.aS,R.aS]
     unfold pA at hk b;generalize cl E.B x.aF (X (a+bS x.place)) (cH E.B x.place a s1).1=J at *;have ak:base+1+(dw E.B L x.V x.place a++dX E.B L x.V x.aF (X (a+bS x.place))).length+1=base+(dR E.B L x.V x.place x.aF a++[gx L n x.kind x.V x.name x.bQ x.aG x.place (X (X (X (a+bS x.place)+bU x.aF 0)+1))]).length:=by unfold dR;simp only[ZG,Z9,Z_];omega
     have aH:base+1+(dw E.B L x.V x.place a++dX E.B L x.V x.aF (X (a+bS x.place))).length=base+(dR E.B L x.V x.place x.aF a).length:=by unfold dR;simp only[ZG,Z9];omega
     rw[aH]at ak ⊢;by_cases K:(F E.B x.place t).bits=true
     · have M:=bf x.place t N K;have bL:x.kind=3:=by
        have:=aq;unfold gf at this;by_cases e:x.kind=3∨x.kind=14
        ·omega
        · rw [ab e]at this;split at this
          · simp only[Wn,b9]at this;omega
          · simp only[Wn,b9]at this;omega
       have bo:x.aG=0:=by unfold fe at v2;rw[bF,bF,bF,bF]at v2;simpa using v2
       unfold lW at hk b;rw[aa K]at hk b;rcases w.next with hu|⟨g,G⟩
       · obtain⟨Y,a2⟩:=w.pN hu ⟨1,X (X (X (a+bS x.place)+bU x.aF 0)+1),0,F E.B x.place t,0,0,0,0⟩;rw[so Y]at b;have:=b Y;rw[a2,aj,aE]at this;refine S.Ts d rfl N Q ai K hu ?_;rw[bo];exact this
       · obtain ⟨Y,a2⟩:=w.pO G ⟨1,X (X (X (a+bS x.place)+bU x.aF 0)+1),0,F E.B x.place t,0,0,0,0⟩;rw[Y]at hk b;simp only[]at hk b;rcases a2.next with a4|⟨g',a5⟩
         · obtain⟨c1,C⟩:=a2.pN a4 ⟨2,X (X (X (a+bS x.place)+bU x.aF 0)+1),0,F E.B x.place t,x.aG,0,hx (F E.B x.place t) g.1 (J.2.getD 0 0),J.2.getD 1 0⟩;have:=b c1;rw[C]at this;refine S.Tt d rfl N Q ai K G a4 ?_;rw[←aj,←aE];exact this
         · obtain⟨c1,C⟩:=a2.pO a5 ⟨2,X (X (X (a+bS x.place)+bU x.aF 0)+1),0,F E.B x.place t,x.aG,0,hx (F E.B x.place t) g.1 (J.2.getD 0 0),J.2.getD 1 0⟩;rw[c1]at hk;refine S.Tu d rfl N Q ai K G a5 ?_;rw[ak,←aj];exact hk (D+1+1) sl C (by show LR L J.1.aS sl;rw[a3];exact I) rfl
     · have K:(F E.B x.place t).bits=false:=by simpa using K
       unfold lW at hk b;rw[ab (by rw[K];decide)]at hk b;rcases w.next with hu|⟨g,G⟩
       · obtain⟨c1,C⟩:=w.pN hu ⟨2,X (X (X (a+bS x.place)+bU x.aF 0)+1),0,F E.B x.place t,x.aG,0,hx (F E.B x.place t) 0 (J.2.getD 0 0),J.2.getD 1 0⟩;have:=b c1;rw[C,aj,aE]at this;exact S.Tq d rfl N Q ai K hu this
       · obtain⟨c1,C⟩:=w.pO G ⟨2,X (X (X (a+bS x.place)+bU x.aF 0)+1),0,F E.B x.place t,x.aG,0,hx (F E.B x.place t) 0 (J.2.getD 0 0),J.2.getD 1 0⟩;rw[c1]at hk;refine S.Tr d rfl N Q ai K G ?_;rw[ak,←aj];exact hk (D+1) sl C (by show LR L J.1.aS sl;rw[a3];exact I) rfl
   · rw[o]at b;exact b A
   · rw [o]at b;simp only[]at b;unfold pA at b;have e0:lW sp (X (X (X (a+bS x.place)+bU x.aF 0)+1)) (cl E.B x.aF (X (a+bS x.place)) (cH E.B x.place a s1).1).1=((cl E.B x.aF (X (a+bS x.place)) (cH E.B x.place a s1).1).1,0,0):=by
      unfold lW;split
      ·exact so A _
      ·rfl
     rw[e0]at b;simp only[]at b;rw[so A]at b;exact b A
 rw[ab W]at hk b f;by_cases Z:x.kind=5
 · rw [aa Z]at hk b;rw[bF,bF]at cC hk;have hex:x.aF=[]:=XJ.1 (by rw[Z]at f4;have:(dG 5).2.2.2.1=0:=rfl;omega);have d:=cC.cons.1;unfold gx at d;rw[bF,bF,ab W,aa Z]at d;obtain⟨ah,aq,az⟩:=(mS E.B _ _ _).1 (v6 (by omega));have aB:=sk ah;have N:hA E.B x.place:=⟨ah,Ck aq⟩
   have aC:∀p∈x.place.aK,∀i∈p.aZ,ji E L sl x.V i:=λp o i hi=>Cn S i ((pQ E.B _).1 az p o i hi);have H:eo L n x=L:=by unfold eo;rw[bF]
   rw[H]at hk;unfold kD at hk b;have ak:base+1+(dw E.B L x.V x.place a++dX E.B L x.V x.aF (X (a+bS x.place))).length+1=base+(dR E.B L x.V x.place x.aF a++[gx L n x.kind x.V x.name x.bQ x.aG x.place (X (X (X (a+bS x.place)+bU x.aF 0)+1))]).length:=by unfold dR;simp only[ZG,Z9,Z_];omega
   have aH:base+1+(dw E.B L x.V x.place a++dX E.B L x.V x.aF (X (a+bS x.place))).length=base+(dR E.B L x.V x.place x.aF a).length:=by unfold dR;simp only[ZG,Z9];omega
   have bp:X (X (X (a+bS x.place)+bU x.aF 0)+1)=X (X (a+bS x.place)+1):=by rw[hex,bU,aa8,fj]
   have a6:cl E.B x.aF (X (a+bS x.place)) (cH E.B x.place a s1).1=((cH E.B x.place a s1).1,[]):=by rw[hex,cl]
   obtain⟨br,bs,bN⟩:=v5 Z;refine Cm S aC (av sl) a s1 [] (base+1) u O ef T U I (by simp only[Z_];omega) aB (λD t o Q w=>?_) (λo A=>?_) (λsp o A=>?_)
   · rw [a6]at w ⊢;rw[o]at hk b;simp only[]at hk b w ⊢;have R:=jB E.B x.place a s1;rw[ak.symm.trans rfl]at hk;rw[aH]at hk ⊢;rw[bp]at d;rw[ZO];generalize cH E.B x.place a s1=ac at *;rcases w.next with hu|⟨g,G⟩
     · obtain⟨c1,C⟩:=w.pN hu ⟨1,X (X (a+bS x.place)+1),0,F E.B x.place t,x.aG,0,0,0⟩;unfold lX at b;rw[aa c1]at b;have:=b c1;rw[C,R.pr,R.V,U]at this;exact S.rF d rfl N Q hu this
     · obtain⟨c1,C⟩:=w.pO G ⟨1,X (X (a+bS x.place)+1),0,F E.B x.place t,x.aG,0,0,0⟩;rw[c1]at hk;unfold lX at hk;rw[ab (by show ¬({ac.1 with aL:=E.aL.drop (D+1)}:RS).stop=true;rw[C.go];decide)]at hk;simp only[]at hk;have ad:LR L ({ac.1 with aL:=E.aL.drop (D+1)}:RS).aS sl:=by show LR L ac.1.aS sl;rw[R.aS];exact I
       have bt:({ac.1 with aL:=E.aL.drop (D+1)}:RS).pr=s1.pr:=R.pr;have bu:({ac.1 with aL:=E.aL.drop (D+1)}:RS).fuel=ac.1.fuel:=rfl;generalize ({ac.1 with aL:=E.aL.drop (D+1)}:RS)=aI at *;obtain⟨k,aJ,aM,aO⟩:=ad.put ae br ax g.1;obtain⟨j,bv,a7,bw⟩:=aO.put (s:=aI.put x.name g.1) ae bs (by rw[YH];exact ax) g.2;rw[YH]at a7;refine S.xr d rfl N Q aJ bv aM a7 G ?_;have e1:=ij aI x.name g.1;have a8:=ij (aI.put x.name g.1) x.bQ g.2;have:=hk (D+1) ((sl.set k g.1).set j g.2) ((C.put x.name g.1).put x.bQ g.2) bw (by simp);rw[a8.1,e1.1,bt,a8.2.1,e1.2.1,bu]at this;exact this
   · rw[o]at b;exact b A
   · rw[a6]at A ⊢;rw[o]at b;simp only[]at b A ⊢;rw[so A]at b;unfold lX at b;rw[aa A]at b;exact b A
 rw[ab Z]at hk b f;have ar:=f3 (by omega);have a9:dw E.B L x.V x.place a=[]:=by
  cases bx:x.place with
  |mk var aK=>rw[bx]at ar;change aK=[]at ar;rw[ar,dw,fi]
 have aQ:bS x.place=0:=by rw[Bu,ar,gX]
 rw[aQ,aa8,O]at cC hk;unfold dR at cC hk;rw[a9,aQ,aa8,O,aaY]at ef;rw[a9,aQ,aa8,O,aaY]at cC hk;by_cases al:x.kind=7
 · rw [aa al]at hk b;rw[bF,bF]at cC hk;have hex:x.aF=[]:=XJ.1 (by rw[al]at f4;have:(dG 7).2.2.2.1=0:=rfl;omega);rw[hex]at cC hk;simp only[dX,bU,aa8,O,Z9,Z_,ZG]at cC hk;have d:=cC.cons.1;unfold gx at d;rw[bF,bF,ab W,ab Z,aa al]at d;have H:eo L n x=L:=by unfold eo;rw[bF]
   rw[H]at hk;rcases T.next with hu|⟨g,G⟩
   · obtain⟨c1,C⟩:=T.pN hu ⟨4,X (a+1),0,bz,x.aG,0,0,0⟩;have:=b c1;rw[C,U]at this;exact S.Tm d rfl hu this
   · obtain⟨c1,C⟩:=T.pO G ⟨4,X (a+1),0,bz,x.aG,0,0,0⟩;rw[c1]at hk;refine S.Tn d rfl G ?_;exact hk (u+1) sl C I rfl
 rw[ab al]at hk b f;obtain ⟨e,hex⟩:∃e,x.aF=[e]:=by
  have a_:x.aF.length=1:=by
   have:x.kind=1∨x.kind=2∨x.kind=8∨x.kind=9∨x.kind=10:=by omega
   rcases this with e|e|e|e|e
   ·rw[e]at f4;have:(dG 1).2.2.2.1=1:=rfl;omega
   ·rw[e]at f4;have:(dG 2).2.2.2.1=1:=rfl;omega
   ·rw[e]at f4;have:(dG 8).2.2.2.1=1:=rfl;omega
   ·rw[e]at f4;have:(dG 9).2.2.2.1=1:=rfl;omega
   ·rw[e]at f4;have:(dG 10).2.2.2.1=1:=rfl;omega
  match x.aF,a_ with
  |[e],_=>exact⟨e,rfl⟩
 have ba:∀sl,ji E L sl x.V e:=λsl=>av sl e (by rw[hex];exact YK ..);have bb:∀s,cW E.B x.aF a s=cq E.B e a s:=λs=>by rw[hex];rfl
 have bO:fW x.aF=j5 e:=by rw[hex];simp[fW]
 have bR:Mx=1000000000:=rfl;have bA:dX E.B L x.V x.aF a=dI E.B L x.V e a:=by rw[hex];simp[dX]
 rw[bA]at ef cC hk;simp only[Z9,ZG]at cC hk;have bc:X (X (a+bU x.aF 0))=X (a+bU x.aF 0):=fj _;have kp:=jg E.B e a s1;by_cases aR:x.kind=9
 · rw[aa aR]at hk b f;rw[bF,aa aR]at cC hk;have H:eo L n x=L:=by unfold eo;rw[bF]
   rw[H]at hk;have bB:cW E.B x.aF a=cq E.B e a:=funext bb;rw[bB]at hk b f;rw[show base+((dI E.B L x.V e a).length+1)=base+1+(dI E.B L x.V e a).length by omega,Z_,WW]at cC;rw[show base+((dI E.B L x.V e a).length+1)=base+1+(dI E.B L x.V e a).length by omega,Z_,WW]at hk;refine TD S (l2:=e5 x.aP x.V) O bc ba aV ef cC aY ae af (by omega) (by omega) c s1 sl u (by omega) a0 a1 (by omega) T U I f (λbC bD bE bG bH=>?_) b;have:=hk bC bD bE bG bH;unfold lp at this;simp only[Z9,ZG,Z_]at this;rw[show base+1+(dI E.B L x.V e a).length+1+(cP E.B x.aP (base+1+(dI E.B L x.V e a).length+1) n L (X (a+bU x.aF 0))).length+1=base+((dI E.B L x.V e a).length+1+((cP E.B x.aP (base+1+(dI E.B L x.V e a).length+1) n L (X (a+bU x.aF 0))).length+(0+1)+1)) by omega];exact this
 rw[ab aR]at hk b f;rw[bb]at hk b f;refine ba sl a s1 [] (base+1) u O ef T U I (by simp only[Z_];omega) (λam v=>?_) (λA=>?_)
 · rw [ab (by rw[v.go];decide)]at hk b f;have ao:LR L (cq E.B e a s1).1.aS sl:=by rw[kp.aS];exact I
   have a_:L.length=(cq E.B e a s1).1.aS.length:=by rw[kp.aS];exact hlen
   have bT:=kp.fu a0 a1 v.go;rw[←kp.pr];rw[show base+((dI E.B L x.V e a).length+1)=base+1+(dI E.B L x.V e a).length by omega]at cC;generalize cq E.B e a s1=q at *;by_cases M:x.kind=1
   · rw[ab (show ¬x.kind=8 by omega),ab (show ¬x.kind=9 by omega)]at cC hk;rw[aa M]at hk;have d:=cC.cons.1;unfold gx at d;rw[aa M]at d;have H:eo L n x=L++[(x.name,n)]:=by unfold eo;rw[aa M]
     rw[H]at hk;rw[aa M]at aX;refine S.ca d rfl rfl (by omega) ?_;have:=hk am (sl.set n q.2) ⟨v.go,v.em,v.wz,v.fz,v.an,v.le⟩ (ao.app af (by omega) (v3 M) q.2) (by simp);simp only[Z9,Z_]at this;rw[show base+1+(dI E.B L x.V e a).length+1=base+((dI E.B L x.V e a).length+1+(0+1)) by omega];exact this
   rw[ab M]at hk b f;have H:eo L n x=L:=by unfold eo;rw[ab M]
   rw[H]at hk;by_cases ap:x.kind=2
   · rw[ab (show ¬x.kind=8 by omega),ab (show ¬x.kind=9 by omega)]at cC hk;rw[aa ap]at hk;have d:=cC.cons.1;unfold gx at d;rw[ab M,aa ap]at d;obtain⟨k,aJ,aM,aO⟩:=ao.put ae (v4 ap) ax q.2;refine S.ca d rfl aJ aM ?_;have e1:=ij q.1 x.name q.2;have:=hk am (sl.set k q.2) (v.put x.name q.2) aO (by simp);simp only[Z9,Z_]at this;rw[show base+1+(dI E.B L x.V e a).length+1=base+((dI E.B L x.V e a).length+1+(0+1)) by omega];rw[e1.1,e1.2.1]at this;exact this
   rw[ab ap]at hk b f;by_cases bd:x.kind=10
   · rw [ab (show ¬x.kind=8 by omega),ab (show ¬x.kind=9 by omega)]at cC hk;rw[aa bd]at hk f;have d:=cC.cons.1;unfold gx at d;rw[ab M,ab ap,ab W,ab Z,ab al]at d;have bI:q.1.pr.length≤Mx:=by
      have:(q.1.pr++[q.2]).length≤Mx:=f;rw[ZG]at this;omega
     refine S.print d rfl bI ?_;have:=hk am sl ⟨v.go,v.em,v.wz,v.fz,v.an,v.le⟩ ao rfl;simp only[Z9,Z_]at this;rw[show base+1+(dI E.B L x.V e a).length+1=base+((dI E.B L x.V e a).length+1+(0+1)) by omega];exact this
   rw[ab bd]at hk b f;have bJ:x.kind=8:=by omega
   rw[aa bJ]at cC hk;rw[show base+((dI E.B L x.V e a).length+1)=base+1+(dI E.B L x.V e a).length by omega]at hk;unfold l9 at cC hk;dsimp only at cC hk;have hle:=cC.le (by simp);obtain⟨be,cC⟩:=cC.cons;obtain⟨cC,jW⟩:=cC.app;obtain⟨bK,mw⟩:=jW.cons;simp only[Z9,ZG]at hle hk;by_cases au:q.2=0
   · rw[ab (λz=>z au)]at hk b f;rw[au];refine S.Ko be rfl rfl (by omega) ?_;refine bg _ (n+cI x.aP) L _ sl q.1 am q.1.aS.length (fj _) mw v9 ao ae (λp o=>by have:=af p o;omega) (by omega) v (by omega) (by omega) (by omega) f (λD aT w ad aU=>?_) b;rw[ZJ (by omega)]at ad;have:=hk D aT w ad aU;refine cast (congrArg (λm=>E.P m _ _ _ _ _) ?_) this;omega
   · rw[aa au]at hk b f;refine S.Kr be rfl au ?_;refine aV _ n L _ sl q.1 am q.1.aS.length bc cC aY ao ae af (by omega) v (by omega) (by omega) (by omega) f (λD aT w ad aU=>?_) b;rw[ZJ (by omega)]at ad;refine S.jump bK rfl rfl (by omega) ?_;have:=hk D aT w ad aU;refine cast (congrArg (λm=>E.P m _ _ _ _ _) ?_) this;omega
 · rw[aa A]at b;exact b A
theorem TF(e:∀(x:aW)(f:List Int),hA E.B x→(F E.B x f).bits=true→(bP E.B x).2.kind=1)(hc:1000000<c):∀x:ay,pR E c x.aP∧pR E c x.bq∧Cs E c x:=by refine ay.ind λx g h=>?_;have b:=yh λy a=>(g y a).2.2;have d:=yh λy a=>(h y a).2.2;exact⟨b,d,TE S e hc b d⟩
theorem TG(g:∀(x:aW)(h:List Int),hA E.B x→(F E.B x h).bits=true→(bP E.B x).2.kind=1)(hc:1000000<c){t:List ay}(e:E.A=cP E.B t 0 0 [] 0)(hv:vB E.B [] t)(j:gZ t≤Mx){sl:List Int}(z:cI t≤sl.length){fuel:Int}(hf:fuel≤1000000)(k:(bV E.B c t 0 0 (RS.init E.aL fuel)).pr.length≤Mx)
  (a:E.R (let r:=eW E.B c t E.aL fuel;if r.2.2.2=16 then⟨cc,0,[],true⟩else⟨r.1,r.2.1,r.2.2.1,false⟩)):E.P 0 [] sl 0 fuel []:=by
 have m:=yh λy (C:y∈t)=>(TF S g hc y).2.2;have n:St E.aL (RS.init E.aL fuel) 0:=⟨rfl,rfl,rfl,rfl,by rw[Zv];rfl,WS _⟩
 unfold eW at a;refine m 0 0 [] 0 sl (RS.init E.aL fuel) 0 0 rfl (λi x o=>by rw[e,W7];exact o) hv ⟨rfl,λi p l b=>by simp at b,by simp⟩ (by simp) (λp b=>by cases b) (by omega) n hf j (hT _) k (λD G d _ _=>?_) (λq=>?_)
 · refine S.fin (by rw[e];omega) ?_;generalize bV E.B c t 0 0 (RS.init E.aL fuel)=s at *;have e1:s.empty=false:=d.em;have u:s.stop=false:=d.go;have v:=d.wz;dsimp only at a;rw[e1,u]at a;have f:E.R ⟨s.want,1,s.pr,false⟩:=a;rw[v]at f;exact f
 · generalize bV E.B c t 0 0 (RS.init E.aL fuel)=s at *;simp only[]at a;unfold told;by_cases he:s.empty=true
   · rw[aa he];rw[he]at a;exact a
   · have w:s.empty=false:=by simpa using he
     rw[w,q]at a;rw[ab he];exact a
end
end Rb

namespace Rb
open Go
variable{i:Nat}{H:Z}{t:aC}{sp:bN}{f:aT}
theorem Ct(h:T H i (.row sp.cells)):O H 1 false (.ptr i 0)=some (D sp.at_):=by rw[h.load];rfl
theorem TI(h:T H i (.row sp.cells))(v:Int):ax H 1 (.ptr i 0) (D v)=some (H.set i (.row ({sp with at_:=v}:bN).cells)):=by rw[h.store,aa ⟨rfl,rfl,rfl,(by show 0+1≤6;decide)⟩];rfl
theorem KB(h:T H i (.row sp.cells))(a n:Int):ax H 2 (.ptr i 0) (.agg [D a,D n])=some (H.set i (.row ({sp with at_:=a,len:=n}:bN).cells)):=by rw[h.store,aa ⟨rfl,rfl,rfl,(by show 0+2≤6;decide)⟩];rfl
theorem TJ(h:T H i (.row sp.cells))(v:Int):ax H 1 (.ptr i 2) (D v)=some (H.set i (.row ({sp with kind:=v}:bN).cells)):=by rw[h.store,aa ⟨rfl,rfl,rfl,(by show 2+1≤6;decide)⟩];rfl
theorem TK(h:T H i (.row t.cells)):O H 1 false (.ptr i 0)=some (D t.kind):=by rw[h.load,aC.be];rfl
theorem Cu(h:T H i (.row t.cells)):O H 1 false (.ptr i 3)=some (aD aT.cells t.aI):=by rw[h.load,aC.be];rfl
theorem TL(h:T H i (.row t.cells)):O H 1 false (.ptr i 4)=some (D t.bZ):=by rw[h.load,aC.be];rfl
theorem TM(h:T H i (.row t.cells)):O H 1 false (.ptr i 5)=some (aD aC.cells t.bf):=by rw[h.load,aC.be];rfl
theorem KC{xs:List aX}{p:aX}(a:xs[i]?=some p):∃a0 Y,M 0 (d_ aX.cells 2 xs i)=some a0∧M 1 (d_ aX.cells 2 xs i)=some Y∧(∀H,O H 1 false a0=some (.str p.field))∧∀H,O H 1 false Y=some (aD aA.cells p.aZ):=by
 have b:=(Wh.1 a).1;have c:(xs.flatMap aX.cells).drop (i*2)=p.cells++(xs.drop (i+1)).flatMap aX.cells:=by rw[l6 aX.len,ZH b,Zi];rw[Xc b]at a;cases a;rfl
 refine⟨_,_,rfl,rfl,λH=>?_,λH=>?_⟩
 · show bW (((xs.flatMap aX.cells).drop (i*2)).drop 0) 0 1 false=_;rw[c];cases p with
   |mk field aZ=>rw[aX.be];rfl
 · show bW (((xs.flatMap aX.cells).drop (i*2)).drop 1) 0 1 false=_;rw[c];cases p with
   | mk field aZ=>rw[aX.be];show bW (aD aA.cells aZ::_) 0 1 false=some (aD aA.cells aZ);unfold bW;rw[ki];rfl
theorem KD{xs:List aT}(a:xs[i]?=some f):∃a0 Y,M 0 (d_ aT.cells 9 xs i)=some a0∧M 1 (d_ aT.cells 9 xs i)=some Y∧(∀H,O H 1 false a0=some (.str f.name))∧∀H,O H 6 true Y=some (.agg f.type.cells):=by
 have c:=(Wh.1 a).1;have d:(xs.flatMap aT.cells).drop (i*9)=f.cells++(xs.drop (i+1)).flatMap aT.cells:=by rw[l6 aT.len,ZH c,Zi];rw[Xc c]at a;cases a;rfl
 refine⟨_,_,rfl,rfl,λH=>?_,λH=>BO H a⟩;show bW (((xs.flatMap aT.cells).drop (i*9)).drop 0) 0 1 false=_;rw[d];cases f with
 |mk n t b w=>rfl
theorem TN(hl:t.lay)(hk:t.kind=3∨t.kind=4){l1 l2:List Int}(m:gr t=k8 t.aI l1 l2)(e1:l1.length=t.aI.length)(o:l2.length=t.aI.length){n:Nat}{s:bN}(hf:t.aI[n]?=some f)(hs:(gr t)[n]?=some s):∃a b,l1[n]?=some a∧l2[n]?=some b∧s=gU f (a,b)∧0≤a∧a≤1000000000∧0≤b∧b≤1000000000:=by
 obtain⟨_,x,p,q⟩:=JQ hl hk hf hs;have gen:∀(fs:List aT)(x y:List Int)(n:Nat)(f:aT),x.length=fs.length→y.length=fs.length→fs[n]?=some f→∃a b,x[n]?=some a∧y[n]?=some b∧(k8 fs x y)[n]?=some (gU f (a,b)):=by
  intro fs;induction fs with
  |nil=>intro x y n f _ _ h;simp at h
  | cons g r u=>
   intro x y n f e i h
   match x,y,e,i with
   | a::x,b::y,e,i=>
    cases n with
    | zero=>simp at h;subst h;exact⟨a,b,rfl,rfl,rfl⟩
    | succ n=>obtain⟨v,w,j,k,l⟩:=u x y n f (by simpa using e) (by simpa using i) (by simpa using h);exact⟨v,w,by simpa using j,by simpa using k,by simpa[k8]using l⟩
 obtain⟨a,b,j,k,l⟩:=gen t.aI l1 l2 n f e1 o hf;rw[m,l]at hs;have c:gU f (a,b)=s:=by simpa using hs
 refine⟨a,b,j,k,c.symm,?_⟩;rw[p]at c;obtain⟨c1,A,c3,B⟩:=q;unfold gU at c;by_cases d:f.bits=true
 · rw[aa d,aa d]at c;simp only[bN.mk.injEq]at c;obtain⟨z,_,_,_,C,y6⟩:=c;omega
 · rw[ab d,ab d]at c;simp only[bN.mk.injEq]at c;obtain⟨z,D,_⟩:=c;omega
section
variable{C:Ctx}(aw:cY C)(W:Cl (aj C) S.cr)
include aw W
theorem TO{B:List aE}(hl:B.length≤32)(hv:∀v∈B,v.ok)(aJ:∀v∈B,(bT v.type).2=0)(bw:fw 0 B≤65536){x:aW}(b4:x.ok)(bx:hA B x){ix:I}{o:List Int}(bA:JZ H ix o)(c5:(o.length:Int)=eP x.aK 0){Q:ad}
  (bB:∀b H',Z.Ext H H'→Q (.aM [.agg (F B x o).cells,.bool b]) H'):aj C 65 [aD aE.cells B,.agg x.cells,ix] H Q:=by
 obtain⟨c6,c7⟩:=aW.dc b4;have b5:=SS aJ bw;have c9:=jc;refine S.OG W ?_;unfold S.f65;simp only[lY,aV,aR,aY];rw[show(H.push (.row [J,J,J,P,J,J]))=H.push (.row bz.cells)from rfl];have b6:=Z.Ext.push H (.row bz.cells);have r1:=T.new H (.row bz.cells);have c_:(H.push (.row bz.cells)).n=H.n+1:=rfl;generalize H.push (.row bz.cells)=H1 at *;refine JO aw W hl hv aJ (λda d a8 b7 hle=>?_) (λd a8 ao=>absurd bw ao);obtain⟨tk,rfl⟩:=b7;rw[JY];simp only[bI,Zn,Zo,G];have bC:=r1.ext a8;have b9:=b6.trans a8;rw[show ba [J,J,J,P,J,J] []=some (.agg bz.cells)from rfl];simp only[G];rw[bO _ _ bz.cells 6 rfl rfl rfl];have b_:=T.new d (.row bz.cells);have ca:=bC.push (.row bz.cells);have cb:=b9.trans (Z.Ext.push d (.row bz.cells));have n3:(d.push (.row bz.cells)).n=d.n+1:=rfl;have de:=bC.1;simp only[G];generalize d.push (.row bz.cells)=h at *;rw[show ba [J,J,P,ar,J,ar] []=some (.agg dm)from rfl];simp only[G];rw[bO _ _ dm 6 rfl rfl rfl];have t4:=T.new h (.row dm);have cc:=b_.push (.row dm);have r4:=ca.push (.row dm);have cd:=cb.trans (Z.Ext.push h (.row dm));have n4:(h.push (.row dm)).n=h.n+1:=rfl;simp only[G];generalize h.push (.row dm)=ce at *;have cC:H.n<d.n:=by omega
 have ac:d.n≠h.n:=by omega
 have ap:H.n≠d.n:=by omega
 have a9:H.n≠h.n:=by omega
 have ret:∀(sp:bN)(b:Bool)(c:Z),Z.Ext H c→T c H.n (.row bz.cells)→F B x o=sp→Do (ax c 6 (.ptr H.n 0) (.agg sp.cells)) λaL=>Do (O aL 6 true (.ptr H.n 0)) λy=>Q (.aM [y,.bool b]) aL:=by intro sp b c u z he;rw[z.put (n:=6) rfl rfl rfl];simp only[G];rw[(z.set _).all (n:=6) rfl];simp only[G];rw[he]at bB;exact bB b _ (u.set (hT _) _)
 have U:=bx.1;obtain ⟨n,v,bD,K,df,cf⟩:∃n v,B.findIdx? (λv=>v.name==x.var)=some n∧B[n]?=some v∧dP v.type=0∧bP B x=eN v.type x.aK:=by
  rcases lP (λv:aE=>v.name==x.var) B with⟨i,v,aO,ay,a_⟩|⟨aO,ay⟩
  · have bE:dP v.type=0:=(r8 (hv v (Y7 a_)).2 (aJ v (Y7 a_))).snd;refine⟨i,v,aO,a_,bE,?_⟩;unfold bP;rw[ay];dsimp only;rw[ab (by rw[bE];decide)]
  · unfold bP at U;rw[ay]at U;have:(6:Int)=0:=U;omega
 have dg:=(Wh.1 K).1;obtain⟨g,dh,bG,di,dj⟩:=Cb (a:=0) K;have cg:v.type.lay:=r8 (hv v (Y7 K)).2 (aJ v (Y7 K));have az:F B x o=match gi x.aK v.type {bz with at_:=g.at_,len:=g.len} o with
   |some sp=>{sp with kind:=(bP B x).2.kind}
   |none=>bz:=by
  unfold F;rw[b5];dsimp only;rw[aN,ab (by rw[U];decide),ab (by have:=bx.2;omega),bF,bD];dsimp only;rw[K,bG];rfl
 rw[cf]at U az;have aK:∀(r:List aX)(j k:Nat)(t:aC)(sp:bN)(c:Z),x.aK.drop j=r→t.lay→(eN t r).1=0→(eN t r).2=(eN v.type x.aK).2→(o.drop k).length=fV r→Z.Ext H c→T c H.n (.row bz.cells)→T c d.n (.row sp.cells)→T c h.n (.row t.cells)→gi r t sp (o.drop k)=gi x.aK v.type {bz with at_:=g.at_,len:=g.len} o →
   au (S.qY (aj C) ix (.ak x.cells) (.ptr H.n 0) (.ptr d.n 0) (.ptr h.n 0) Q) ([D k,D j],c):=by
  intro r;induction r with
  | nil=>intro j k t sp c bd ht bJ V X u z A t5 hw;have hle:=db bd;refine au.step ?_;simp only[S.qY,aq,bh,hR,ih,bH,bb,G,ai];rw[cZ];simp only[aB,S.FM,M,W7,TK t5,G,TJ A];have aA:=A.set (.row ({sp with kind:=t.kind}:bN).cells);have aF:=z.br ap (.row ({sp with kind:=t.kind}:bN).cells);rw[aA.all (n:=6) rfl];simp only[G];rw[gi]at hw;rw[←hw]at az;rw[eN]at V;refine ret _ true _ (u.set (by omega) _) aF ?_;rw[az];show({sp with kind:=(eN v.type x.aK).2.kind}:bN)=_;rw[←V]
  | cons p r aG=>
   intro j k t sp c bd ht bJ V X u z A t5 hw;obtain⟨be,ci,bK⟩:=c8 bd;obtain⟨bL,aP⟩:=xV bJ;rw[eN,ab (by rw[bL];decide)]at V;rw[fV]at X;obtain⟨a0,Y,f0,f1,g0,g1⟩:=KC ci;refine au.step ?_;simp only[S.qY,aq,bh,hR,ih,bH,bb,G,ai];rw[ch,cp be];simp only[G,f1,g1,bH,bc,ai];have bQ:Xv .i64 ((j:Int)+1)=((j+1:Nat):Int):=by rw[bM];simp
   rcases BM ht bL with⟨l1,l2,e,dk,ah,l4,ae⟩|⟨l1,l2,bg,f,s,ah,l4,ae,cj,ck⟩
   · rw [l4]at aP V;rw[aa (by simp[l1])];rw[l1]at X;obtain ⟨E,aQ⟩:∃E,o[k]?=some E:=by
      have:k<o.length:=by rw[ZQ]at X;omega
      exact⟨o[k],Xc this⟩
     have bR:o.drop k=E::o.drop (k+1):=drop_cons aQ;rw[bR]at hw;obtain⟨ip,bi,cl⟩:=bA c u k E aQ;simp only[bi,cl,G,M,W7,TL t5,j0,eu,ai];apply aH<;>intro hc
     · have hc:E≥iR t.bZ:=by simpa using hc
       rw[BW l1 hc]at hw;rw[←hw]at az;rw[show ba [J,J,J,P,J,J] []=some (.agg bz.cells)from rfl];simp only[G];exact ret bz false c u z az
     · have hc:¬E≥iR t.bZ:=by simpa using hc
       rw[BX l1 hc ah]at hw;simp only[TM t5,G];have cm:t.bf[0]?=some e:=by rw[ah];rfl
       have cn:0<t.bf.length:=by rw[ah];simp
       have co:aU none 6 (aD aC.cells t.bf) (J)=some (d_ aC.cells 6 t.bf 0):=cp (i:=0) cn;rw[co];simp only[G];rw[dd aC.len (by decide) _ cm];simp only[G];rw[t5.put (n:=6) t.len e.len e.scalar];simp only[G];have t6:=t5.set (.row e.cells);have aA:=A.br ac (.row e.cells);have aF:=z.br a9 (.row e.cells);have bj:=u.set (show H.n≤h.n by omega) (.row e.cells);generalize c.set h.n (.row e.cells)=aL at *;rw[t6.all (n:=6) e.len];simp only[G];refine xU aw W e (ja ae.snd) _ _ λsz al cq cr L N lg af R i1 bk bl cs=>?_;obtain⟨-,z2,z3,-⟩:=bl ae.of;have ct:(bT e).1.1=sz:=by rw[ae.zero,z2]
       have t7:=t6.ext R;have am:=aA.ext R;have aS:=aF.ext R;have aT:=bj.trans R;obtain⟨dl,bS,cu⟩:=bA af aT k E aQ;rw[bi]at bS;cases bS;rw[show j_ 0 1 false (.agg (b8 sz al L N lg))=some (D sz)from rfl];simp only[G,Ct am,bi,cu,j0,fD,bu];rw[show ∀a b:Int,ba [J,J] [(0,1,D a),(1,1,D b)]=some (.agg [D a,D b])from λ_ _=>rfl];simp only[G,KB am];have aZ:=am.set (.row ({sp with at_:=Xv .i64 (sp.at_+Xv .i64 (Xv .i64 E*sz)),len:=sz}:bN).cells);have t8:=t7.br (λe=>ac e.symm) (.row ({sp with at_:=Xv .i64 (sp.at_+Xv .i64 (Xv .i64 E*sz)),len:=sz}:bN).cells);have bm:=aS.br ap (.row ({sp with at_:=Xv .i64 (sp.at_+Xv .i64 (Xv .i64 E*sz)),len:=sz}:bN).cells);have cv:Xv .i64 ((k:Int)+1)=((k+1:Nat):Int):=by
        have:k<o.length:=(Wh.1 aQ).1;have bo:o.length≤9223372036854775807:=by rw[ZQ]at X;have aO:=xW U;have ay:=sa x.aK 0 (aac _) (by omega);omega
        rw[bM];simp
       simp only[aB,S.vj,aq,bh,bu,G,bQ,cv];refine aG (j+1) (k+1) e _ _ bK ae aP V ?_ (aT.set (by omega) _) bm aZ t8 ?_
       ·rw[bR,Z9]at X;omega
       ·rw[ct]at hw;exact hw
   · rw [cj]at aP V;rw[ab (by simp[l1])];rw[BZ (by rw[l1];decide) ah l4 ae]at hw;rw[l1]at X;rw[t5.all (n:=6) t.len];simp only[G];refine xU aw W t (ja ht.snd) _ _ λsz al cq cr L N lg af R i1 bk bl cs=>?_;obtain⟨-,-,-,z4⟩:=bl ht.of;obtain⟨z4,z5,cw⟩:=z4 l2;obtain⟨a,b,cx,cy,y3,y4,cz,y6,cA⟩:=TN ht l2 z4 z5 cw l4 ae;have t7:=t5.ext R;have am:=A.ext R;have aS:=z.ext R;have aT:=u.trans R;simp only[aR,aY,aV];rw[bO af _ (b8 sz al L N lg) 5 rfl (r9 i1 bk) rfl];have cB:=T.new af (.row (b8 sz al L N lg));have t8:=t7.push (.row (b8 sz al L N lg));have aZ:=am.push (.row (b8 sz al L N lg));have bm:=aS.push (.row (b8 sz al L N lg));have cD:=aT.trans (Z.Ext.push af (.row (b8 sz al L N lg)));have dn:=t7.1;have dp:=am.1;have dq:=aS.1;simp only[G];generalize af.push (.row (b8 sz al L N lg))=cE at *;have cF:t.aI.length≤9223372036854775807:=(aC.xR ht.ok).2.2;have bU:=(Wh.1 l4).1;have inner:∀(m i:Nat),i+m=bg→au (S.vk (aj C) (.ak x.cells) (.ptr d.n 0) (.ptr h.n 0) (.ptr af.n 0) ([D k,D j],c) (au (S.qY (aj C) ix (.ak x.cells) (.ptr H.n 0) (.ptr d.n 0) (.ptr h.n 0) Q)) Q) ([D i],cE):=by
      obtain⟨bp,bq,ao⟩:=aaI.1 ah;intro m;induction m with
      | zero=>
       intro i hi;have hi:i=bg:=by omega
       subst hi;obtain⟨b0,b1,bs,c1,d0,d1⟩:=KD l4;refine au.step ?_;have cG:f.name=p.field:=by rw[Xc bp]at l4;cases l4;simpa using bq
       simp only[S.vk,aq,bh,hR,ih,G];simp only[show M 3 (.ptr h.n 0)=some (.ptr h.n 3)from rfl,Cu t8,G];rw[cp bU,cp be];simp only[G,bs,f0,d0,g0,ky,cG,ai];rw[iE];simp only[aB,S.FL,aq,bh,show M 0 (.ptr d.n 0)=some (.ptr d.n 0)from rfl,show M 3 (.ptr h.n 0)=some (.ptr h.n 3)from rfl,Ct aZ,G];rw[t8.all (n:=6) t.len,cB.all (n:=5) rfl];simp only[G];refine SW aw W cF l4 i1 bk cx cy y4 cz y6 cA λcH a1=>?_;have t9:=t8.ext a1;have bV:=aZ.ext a1;have cI:=bm.ext a1;have cJ:=cD.trans a1;rw[←y3,bV.put (n:=6) rfl rfl rfl];simp only[G];have bt:=bV.set (.row s.cells);have t10:=t9.br (λe=>ac e.symm) (.row s.cells);have cK:=cI.br ap (.row s.cells);have cL:=cJ.set (show H.n≤d.n by omega) (.row s.cells);generalize cH.set d.n (.row s.cells)=cM at *;simp only[Ct bt,G,bu,TI bt];have cN:=bt.set (.row ({s with at_:=Xv .i64 (s.at_+sp.at_)}:bN).cells);have t11:=t10.br (λe=>ac e.symm) (.row ({s with at_:=Xv .i64 (s.at_+sp.at_)}:bN).cells);have cO:=cK.br ap (.row ({s with at_:=Xv .i64 (s.at_+sp.at_)}:bN).cells);have cP:=cL.set (show H.n≤d.n by omega) (.row ({s with at_:=Xv .i64 (s.at_+sp.at_)}:bN).cells);generalize cM.set d.n (.row ({s with at_:=Xv .i64 (s.at_+sp.at_)}:bN).cells)=dr at *;simp only[Cu t11,G];rw[cp bU];simp only[G,c1,d1];rw[t11.put (n:=6) t.len f.type.len f.type.scalar];simp only[G,S.vj,aq,bh,bu,bQ];refine aG (j+1) k f.type _ _ bK ck aP V ?_ (cP.set (by omega) _) (cO.br a9 _) (cN.br ac _) (t11.set _) hw;simpa using X
      | succ m cQ=>
       intro i hi;have bo:i<t.aI.length:=by omega
       have cR:t.aI[i]?=some t.aI[i]:=Xc bo;obtain⟨b0,b1,bs,c1,d0,d1⟩:=KD cR;have cS:t.aI[i].name≠p.field:=by have:=ao i (by omega);simpa using this
       refine au.step ?_;simp only[S.vk,aq,bh,hR,ih,G];simp only[show M 3 (.ptr h.n 0)=some (.ptr h.n 3)from rfl,Cu t8,G];rw[cp bo,cp be];simp only[G,bs,f0,d0,g0,ky,ai];rw[aa (by simpa using cS)];simp only[bu,G];rw[wrap_i64 (n:=(i:Int)+1) (by omega) (by omega),show(i:Int)+1=((i+1:Nat):Int) by simp];exact cQ (i+1) (by omega)
     exact inner bg 0 (by omega)
 have cT:(o.drop 0).length=fV x.aK:=by have aO:=xW U;have ay:=sa x.aK 0 (aac _) (by omega);rw[Zv];omega
 simp only[bH,G,dA];have main:∀(m:Nat)(c:Z),m≤B.length→Z.Ext H c→T c H.n (.row bz.cells)→(∃sp:bN,T c d.n (.row sp.cells)∧∃an:List I,T c h.n (.row an)∧an.length=6∧(m≤n→sp={bz with at_:=g.at_,len:=g.len}∧an=v.type.cells)∧sp.kind=0∧sp.bits=false∧sp.bit=0∧sp.bn=0) →
   au (S.vm (aj C) (aD aE.cells B) ix (.ak x.cells) (.ptr H.n 0) (.av tk B.length (eX B (iW 0 B))) (.ptr d.n 0) (.ptr h.n 0) Q) ([D ((m:Int)-1)],c):=by
  intro m;induction m with
  | zero=>intro c cU u z ag;obtain⟨sp,A,an,t5,bv,ag,_⟩:=ag;obtain⟨rfl,rfl⟩:=ag (WS _);refine au.step ?_;simp only[S.vm,aq,eu,G,ai];rw[aN];simp only[aB,S.FN];exact aK x.aK 0 0 v.type _ c rfl cg U rfl cT u z A t5 (by rw[Zv])
  | succ m aG=>
   intro c cU u z ag;obtain⟨sp,A,an,t5,bv,ag,w1,w2,w3,a7⟩:=ag;obtain ⟨w, hw⟩ : ∃ w, B[m]? = some w := ⟨B[m]'(by omega), Xc _⟩
   have ds:=(Wh.1 hw).1;obtain⟨q,cV,bX,dt,cW⟩:=Cb (a:=0) hw;obtain⟨du,dv,ra,e1,cX,cY,c0,c2⟩:=x2 aw W hw;rw[show(((m+1:Nat):Int)-1)=(m:Int) by push_cast;omega];refine au.step ?_;simp only[S.vm,aq,eu,G,ai];rw[ki];simp only[e1,cX,c0,hR,rY,G,fc,ai];have bY:Xv .i64 ((m:Int)-1)=(m:Int)-1:=bM;obtain⟨bp,bq,ao⟩:=aaI.1 bD;apply aH<;>intro hc
   · have c3:aU none 3 (.av tk B.length (eX B (iW 0 B))) (D m)=some (.ak ((eX B (iW 0 B)).drop (m*3))):=by
       show(if 0≤(m:Int)∧(m:Int)<(B.length:Nat)then some (I.ak ((eX B (iW 0 B)).drop ((m:Int).toNat*3)))else none)=_;rw[aa ⟨by omega,by omega⟩,Xw]
     simp only[G,c3,cW];simp only[show ∀l:List I,M 1 (.ak l)=some (.ak (l.drop 1))from λ_=>rfl,show M 0 (.ptr d.n 0)=some (.ptr d.n 0)from rfl,ZD,Zv,G];have c4:O c 2 true (.ak (D q.at_ :: D q.len::cV))=some (.agg [D q.at_,D q.len]):=by show bW _ 0 2 true=_;exact k2 (a:=[D q.at_,D q.len]) rfl
     simp only[c4,G,KB A];have aA:=A.set (.row ({sp with at_:=q.at_,len:=q.len}:bN).cells);have t6:=t5.br (λe=>ac e.symm) (.row ({sp with at_:=q.at_,len:=q.len}:bN).cells);have aF:=z.br ap (.row ({sp with at_:=q.at_,len:=q.len}:bN).cells);have bj:=u.set (show H.n≤d.n by omega) (.row ({sp with at_:=q.at_,len:=q.len}:bN).cells);generalize c.set d.n (.row ({sp with at_:=q.at_,len:=q.len}:bN).cells)=aL at *;simp only[cY,c2,G];rw[t6.put (n:=6) bv w.type.len w.type.scalar];simp only[G,aB,S.vi,aq,dA,bY];refine aG _ (by omega) (bj.set (by omega) _) (aF.br a9 _) ⟨_,aA.br ac _,w.type.cells,t6.set _,w.type.len,λb2=>?_,w1,w2,w3,a7⟩;by_cases b3:m+1≤n
     ·exact absurd (by simpa using hc) (by have:=ao m (by omega);rw[Xc (by omega)]at hw;cases hw;simpa using this)
     · have:m=n:=by omega
       subst this;rw[K]at hw;cases hw;rw[bG]at bX;cases bX;refine⟨?_,rfl⟩;obtain⟨Y,a2,a3,a4,a5,a6⟩:=sp;simp only at w1 w2 w3 a7;subst w1 w2 w3 a7;rfl
   · simp only[aB,S.vi,aq,dA,G,bY];refine aG c (by omega) u z ⟨sp,A,an,t5,bv,λb2=>?_,w1,w2,w3,a7⟩;by_cases b3:m+1≤n
     ·exact ag b3
     · have:m=n:=by omega
       subst this;rw[K]at hw;cases hw;exfalso;rw[Xc bp]at K;cases K;exact hc (by simpa using bq)
 rw[wrap_i64 (n:=(B.length:Int)-1) (by omega) (by omega)];exact main B.length ce (hT _) cd r4 ⟨bz,cc,dm,t4,rfl,λb2=>by omega,rfl,rfl,rfl,rfl⟩
end
end Rb

namespace Rb
open Go
variable{H H':Z}{n sz k:Nat}{x:I}{cells:List I}
def cb:I→Option Nat
 | .row j _ _ _=>some j
 |_=>none
def c2(H:Z)(sz:Nat)(x:I)(n:Nat)(cells:List I):Prop:=cells.length=n*sz∧((∃tk,(tk = .nil∨tk = .full)∧n=0∧x = .av tk 0 [])∨∃j cs m,x = .row j 0 n sz∧T H j (.row cs)∧cs.length=m*sz∧n≤m∧cs.take (n*sz)=cells)
theorem c2.nil(H:Z)(sz:Nat):c2 H sz ar 0 []:=⟨by simp,.inl ⟨.nil,.inl rfl,rfl,rfl⟩⟩
theorem c2.full(H:Z)(sz:Nat):c2 H sz (.av .full 0 []) 0 []:=⟨by simp,.inl ⟨.full,.inr rfl,rfl,rfl⟩⟩
theorem c2.ca(h:c2 H sz x n cells)(k:∀j cs,cb x=some j→T H j (.row cs)→T H' j (.row cs)):c2 H' sz x n cells:=by
 refine⟨h.1,?_⟩;rcases h.2 with h|⟨j,cs,m,rfl,a,b⟩
 ·exact .inl h
 ·exact .inr ⟨j,cs,m,rfl,k j cs rfl a,b⟩
theorem c2.ext(h:c2 H sz x n cells)(k:Z.Ext H H'):c2 H' sz x n cells:=h.ca λj cs _ h=>h.ext k
theorem c2.set{sz n i:Nat}(h:c2 H sz x n cells)(hi:cb x≠some i)(o:cN):c2 (H.set i o) sz x n cells:=h.ca λj cs a h=>h.br (λe=>hi (by rw[←e];exact a)) o
theorem c2.lt{sz n j:Nat}(h:c2 H sz x n cells)(a:cb x=some j):j<H.n:=by
 rcases h.2 with⟨tk,_,_,rfl⟩|⟨c,cs,m,rfl,b,d⟩
 ·cases a
 ·cases a;exact b.1
theorem c2.len(h:c2 H sz x n cells):bj false x=some (D n):=by
 rcases h.2 with⟨tk,_,rfl,rfl⟩|⟨a,cs,m,rfl,b,c⟩
 ·rfl
 ·rfl
theorem c2.known(h:c2 H sz x n cells):x.known=true∧x.cells=[x]∧x.scalar=true:=by
 rcases h.2 with⟨tk,_,rfl,rfl⟩|⟨a,cs,m,rfl,b,c⟩
 ·exact⟨rfl,rfl,rfl⟩
 ·exact⟨rfl,rfl,rfl⟩
theorem c2.addr(h:c2 H sz x n cells)(hk:k<n):∃j cs,cb x=some j∧T H j (.row cs)∧aU none sz x (D k)=some (.ptr j (k*sz))∧cs.take (n*sz)=cells∧n*sz≤cs.length:=by
 rcases h.2 with⟨tk,_,rfl,rfl⟩|⟨j,cs,m,rfl,a,b,c,d⟩
 ·omega
 · refine⟨j,cs,rfl,a,?_,d,by rw[b];exact XA _ c⟩;show(if 0≤(k:Int)∧(k:Int)<(n:Nat)then some (I.ptr j (0+(k:Int).toNat*sz))else none)=_;rw[aa ⟨by omega,by omega⟩,Xw,W7]
theorem c2.get(h:c2 H 1 x n cells){v:I}(hv:cells[k]?=some v):∃p,aU none 1 x (D k)=some p∧∀H',Z.Ext H H'→O H' 1 false p=some v:=by
 have hk:k<n:=by have:=(Wh.1 hv).1;rw[h.1]at this;omega
 obtain⟨j,cs,d,a,b,c,e⟩:=h.addr hk;refine⟨_,b,λH' E=>?_⟩;rw[(a.ext E).load];unfold bW;rw[←c,Wj,df]at hv;rw[df,aN,aaZ];exact hv
theorem c2.TP(h:c2 H sz x n cells)(hk:k<n):∃p,aU none sz x (D k)=some p∧O H sz true p=some (.agg ((cells.drop (k*sz)).take sz)):=by
 obtain⟨j,cs,d,a,b,c,e⟩:=h.addr hk;refine⟨_,b,?_⟩;rw[a.load];unfold bW;have:k*sz+sz≤n*sz:=by rw[←Nat.succ_mul];exact XA _ hk
 rw[df,aa rfl,←c,List.drop_take,abb];congr 3;omega
theorem c2.cut(h:c2 H sz x n cells)(hk:k≤n):∃a,c6 sz x none (some (D k)) none=some a∧c2 H sz a k (cells.take (k*sz))∧cb a=cb x:=by
 rcases h.2 with⟨tk,ht,rfl,rfl⟩|⟨j,cs,m,rfl,b,c,e,d⟩
 · have:k=0:=by omega
   subst this;refine⟨.av tk 0 [],by simp[c6,eJ],⟨by simp,.inl ⟨tk,ht,rfl,rfl⟩⟩,rfl⟩
 · refine ⟨.row j 0 k sz,?_,⟨?_,.inr ⟨j,cs,m,rfl,b,c,by omega,?_⟩⟩,rfl⟩
   · simp only[c6,eJ];rw[df];simp only[Xw,aas];rw[aa ⟨WS _,hk,trivial⟩,ki];simp
   · rw[Z1,h.1];exact aat (XA _ hk)
   ·rw[←d,abb,aat (XA _ hk)]
theorem c2.hP{l:List Int}(h:c2 H 1 x n (l.map (af))){a b:Nat}(c:a≤b)(d:b≤n):∃y,c6 1 x (some (D a)) (some (D b)) none=some y∧JZ H y ((l.take b).drop a):=by
 rcases h.2 with⟨tk,ht,rfl,rfl⟩|⟨j,cs,m,rfl,f,i,o,g⟩
 · have:a=0:=by omega
   have:b=0:=by omega
   subst_vars
   refine⟨.av tk 0 [],by simp[c6,eJ],λH' _ k v hv=>by simp at hv⟩
 · by_cases hc:a=0∨a<b
   · refine ⟨.row j (0+a*1) (b-a) 1,?_,λH' E k v hv=>?_⟩
     · simp only[c6,eJ];rw[df,df];simp only[Xw,aas];rw[aa ⟨c,d,trivial⟩,aa hc]
     · rw [Wk,Wj]at hv;split at hv
       · rename_i p;refine⟨.ptr j (0+a*1+k*1),?_,?_⟩
         · show(if 0≤(k:Int)∧(k:Int)<((b-a:Nat):Int)then some (I.ptr j (0+a*1+(k:Int).toNat*1))else none)=_;rw[aa ⟨by omega,by omega⟩,Xw]
         · rw[(f.ext E).load];unfold bW;have e:(l.map (af))[a+k]?=some (af v):=by rw[Xb,hv];rfl
           rw[←g,Wj,df]at e;rw[df,aN];rw[show 0+a*1+k*1=a+k by omega];exact e
       ·cases hv
   · refine ⟨.av .dead 0 [],?_,λH' E k v hv=>?_⟩
     · simp only[c6,eJ];rw[df,df];simp only[Xw,aas];rw[aa ⟨c,d,trivial⟩,ab hc]
     · have:=(Wh.1 hv).1;rw[ZQ,Z1]at this;omega
theorem KE:∀(news:List I)(o:Nat)(cs:List I),(setCells cs o news).length=cs.length
 |[],o,cs=>rfl
 |v::r,o,cs=>by rw[setCells,KE r,YH]
theorem c2.app{n sz a:Nat}{cells news:List I}(h:c2 H sz x n cells)(v:0<sz)(b:news.length=sz)(d:news.all I.scalar=true)(f:(n+1)*a≤140737488355328)(hl:n+1≤9223372036854775807){K:ad}
  (g:∀c H',c2 H' sz c (n+1) (cells++news)→H.n≤H'.n→(∀i o,cb x≠some i→T H i o→T H' i o)→(cb c=cb x∨cb c=some H.n)→K c H'):aJ (cX H true sz a x (.av .full 1 news)) K:=by
 have k:hC H sz (.av .full 1 news)=some (1,news):=by simp[hC,b]
 have hlen:(cells++news).length=(n+1)*sz:=by rw[ZG,h.1,b,WT,ZE]
 rcases h.2 with⟨tk,ht,rfl,rfl⟩|⟨j,cs,m,rfl,l,p,A,s⟩
 · have hc:cells=[]:=XJ.1 (by rw[h.1];simp);subst hc;have e:cX H true sz a (.av tk 0 []) (.av .full 1 news)=some (.row H.n 0 (0+1) sz,H.push (.row ([]++news))):=by
    simp only[cX,k,d,not_true_eq_false,cu];rw[aN,ab (by simp only[ZC];exact⟨by simp,f,hl⟩)];rcases ht with rfl|rfl<;>rfl
   exact⟨_,_,e,g _ _ ⟨hlen,.inr ⟨H.n,[]++news,1,rfl,T.new H _,by simp[b],hT _,by rw[ZJ (by rw[hlen];exact hT _)]⟩⟩ (W4 _) (λi o _ h=>h.push _) (.inr rfl)⟩
 · by_cases hc:(n+1)*sz≤cs.length
   · have e:cX H true sz a (.row j 0 n sz) (.av .full 1 news)=some (.row j 0 (n+1) sz,H.set j (.row (setCells cs (n*sz) news))):=by
       simp only[cX,k,d,not_true_eq_false,cu,l.2];rw[aN,ab (by simp only[ZC];exact⟨trivial,trivial,f,hl⟩),aa hc]
     refine⟨_,_,e,g _ _ ⟨hlen,.inr ⟨j,_,m,rfl,l.set _,?_,?_,?_⟩⟩ (hT _) (λi o hi h=>h.br (λe=>hi (by rw[e];rfl)) _) (.inl rfl)⟩
     ·rw[KE];exact p
     · rw[p]at hc;exact Nat.le_of_mul_le_mul_right hc v
     · apply aaH;intro q;rw[Wj];have w:cells.length=n*sz:=h.1;have B:(n+1)*sz=n*sz+sz:=by rw[WT,ZE]
       by_cases t:q<(n+1)*sz
       · rw[aa t,C_ news cs _ _ (by rw[b];omega)];by_cases u:n*sz≤q∧q<n*sz+news.length
         ·rw[aa u,X0 (by omega),w]
         ·rw[ab u,XZ (by omega),←s,Wj,df]
       ·rw[ab t,YC (by rw[hlen];omega)]
   · have y:cs.length=n*sz:=by
       rw[p]at hc ⊢;have:¬n+1≤m:=λz=>hc (XA _ z);rw[show m=n by omega]
     have e:cX H true sz a (.row j 0 n sz) (.av .full 1 news)=some (.row H.n 0 (n+1) sz,(H.set j .gone).push (.row (cs++news))):=by simp only[cX,k,d,not_true_eq_false,cu,l.2];rw[aN,ab (by simp only[ZC];exact⟨trivial,trivial,f,hl⟩),ab hc,aa y]
     have r:cs=cells:=by rw[←s,ZJ (by omega)]
     refine⟨_,_,e,g _ _ ⟨hlen,.inr ⟨H.n,cs++news,n+1,rfl,T.new (H.set j .gone) _,by rw[r];exact hlen,hT _,?_⟩⟩ (W4 _) (λi o hi h=>(h.br (λe=>hi (by rw[e];rfl)) _).push _) (.inr rfl)⟩;rw[ZJ (by rw[r,hlen];exact hT _),r]
end Rb

namespace Rb
open Go
def bA.pc(a:bA):I:=if a.what=7∨a.what=8∨a.what=9 then aD aX.cells a.x.aK else ar
def bA.cells(a:bA):List I:=[D a.what,af a.n,D a.k,D a.j,.str a.x.var,a.pc,D a.kind,D a.aG,D a.site,D a.V]
theorem bA.TQ(a:bA):a.pc.scalar=true:=by unfold bA.pc;split<;>rfl
theorem bA.be(a:bA):a.cells=[D a.what,af a.n,D a.k,D a.j,.str a.x.var,a.pc,D a.kind,D a.aG,D a.site,D a.V]:=rfl
theorem bA.len(a:bA):a.cells.length=10:=by rw[bA.be];rfl
theorem bA.scalar(a:bA):a.cells.all I.scalar=true:=by show(true&&(true&&(true&&(true&&(true&&(a.pc.scalar&&(true&&(true&&(true&&(true&&true))))))))))=true;rw[a.TQ];rfl
section
variable(a:bA)(H:Z)
theorem pS(i:Nat):M i (.ak a.cells)=some (.ak (a.cells.drop i)):=rfl
theorem sq:O H 1 false (.ak (a.cells.drop 0))=some (D a.what):=by rw[bA.be];rfl
theorem TR(h:a.what=7∨a.what=8∨a.what=9):O H 2 true (.ak (a.cells.drop 4))=some (.agg a.x.cells):=by
 have e:a.pc=aD aX.cells a.x.aK:=by unfold bA.pc;rw[aa h]
 rw[bA.be,e,aW.be];rfl
theorem sr:O H 1 false (.ak (a.cells.drop 6))=some (D a.kind):=by rw[bA.be];rfl
theorem KF:O H 1 false (.ak (a.cells.drop 7))=some (D a.aG):=by rw[bA.be];rfl
theorem KG:O H 1 false (.ak (a.cells.drop 8))=some (D a.site):=by rw[bA.be];rfl
theorem KH:O H 1 false (.ak (a.cells.drop 9))=some (D a.V):=by rw[bA.be];rfl
theorem KI:bg H false 10 (.agg a.cells)=some (.ak a.cells,H):=by unfold bg;rw[aa ⟨rfl,a.len⟩];rfl
end
def dr(a:bA):Nat:=if a.what=8 then(if a.kind=6 then 2 else 1)else if a.what=7 then(if a.kind=6∨a.kind=7 then 1 else if a.kind=8 then 2 else 0)else 0
def ey(a:bA)(b:Bool)(sp:bN):Int:=if a.what=7∧a.kind≥6 then 3 else if a.what=8∧(b=true∨sp.bits=false)then 2 else 1
def cj(a:bA)(b:Bool)(sp:bN)(vs:List Int):bE:=
 ⟨ey a b sp,a.site,a.V,sp,a.aG,if a.what=7∧a.kind≥6 then a.kind else 0,
   if ey a b sp=2∧sp.len<8∧sp.bits=false then(vs.getD 0 0).tmod (hr 1 (8*sp.len))else if ey a b sp>1 then vs.getD 0 0 else 0,
   if ey a b sp>1 then vs.getD 1 0 else 0⟩
theorem bE.len(w:bE):w.cells.length=13:=rfl
section
variable{H:Z}{i:Nat}{w:bE}(h:T H i (.row w.cells))
include h
theorem KJ:O H 1 false (.ptr i 0)=some (D w.kind):=by rw[h.load];rfl
theorem KK:O H 1 false (.ptr i 4)=some (D w.spot.len):=by rw[h.load];rfl
theorem n1:O H 1 false (.ptr i 6)=some (.bool w.spot.bits):=by rw[h.load];rfl
theorem KL:O H 1 false (.ptr i 7)=some (D w.spot.bit):=by rw[h.load];rfl
theorem KM:O H 1 false (.ptr i 8)=some (D w.spot.bn):=by rw[h.load];rfl
theorem Cv:O H 1 false (.ptr i 11)=some (af w.d0):=by rw[h.load];rfl
theorem kG:O H 13 true (.ptr i 0)=some (.agg w.cells):=by rw[h.load];exact eM w.len
theorem Cw(v:Int):ax H 1 (.ptr i 0) (D v)=some (H.set i (.row ({w with kind:=v}:bE).cells)):=by rw[h.store,aa ⟨rfl,rfl,rfl,(by show 0+1≤13;decide)⟩];rfl
theorem TS(s:bN):ax H 6 (.ptr i 3) (.agg s.cells)=some (H.set i (.row ({w with spot:=s}:bE).cells)):=by rw[h.store,aa ⟨rfl,rfl,rfl,(by show 3+6≤13;decide)⟩];rfl
theorem TU(v:Int):ax H 1 (.ptr i 10) (D v)=some (H.set i (.row ({w with op:=v}:bE).cells)):=by rw[h.store,aa ⟨rfl,rfl,rfl,(by show 10+1≤13;decide)⟩];rfl
theorem ss(v:Int):ax H 1 (.ptr i 11) (af v)=some (H.set i (.row ({w with d0:=v}:bE).cells)):=by rw[h.store,aa ⟨rfl,rfl,rfl,(by show 11+1≤13;decide)⟩];rfl
theorem TV(v:Int):ax H 1 (.ptr i 12) (af v)=some (H.set i (.row ({w with d1:=v}:bE).cells)):=by rw[h.store,aa ⟨rfl,rfl,rfl,(by show 12+1≤13;decide)⟩];rfl
end
structure l_(B:List aE):Prop where
 l:B.length≤32
 o:∀v∈B,v.ok
 z:∀v∈B,(bT v.type).2=0
 e:fw 0 B≤65536
section
variable{C:Ctx}(aw:cY C)(W:Cl (aj C) S.cr)
include aw W
theorem KN{a:bA}(c:a.what=10){id n:Nat}{xs:I}{cells:List I}{H:Z}(hs:c2 H 1 xs n cells)(d:Bool){Q:ad}
  (e:∀H',Z.Ext H H'→Q (.aM [.agg (⟨4,a.site,a.V,bz,a.aG,0,0,0⟩:bE).cells,D n]) H'):aj C 29 [.ptr id 0,.agg a.cells,xs,.bool d] H Q:=by
 refine S.HJ W ?_;unfold S.f29;simp only[KI,aV,aR,aY,pS,KF,KG,KH,G];rw[show(H.push (.row [J,J,J,J,J,J,P,J,J,J,J,af 0,af 0]))=H.push (.row cc.cells)from rfl];have f:=Z.Ext.push H (.row cc.cells);have r1:=T.new H (.row cc.cells);have h:(H.push (.row cc.cells)).n=H.n+1:=rfl;generalize H.push (.row cc.cells)=H1 at *;rw[show ba [J,J,J,J,J,J,P,J,J,J,J,af 0,af 0] [(0,1,D 4),(1,1,D a.site),(2,1,D a.V),(9,1,D a.aG)]=some (.agg (⟨4,a.site,a.V,bz,a.aG,0,0,0⟩:bE).cells)from rfl];simp only[G];rw[bO _ _ (⟨4,a.site,a.V,bz,a.aG,0,0,0⟩:bE).cells 13 rfl rfl rfl];have w2:=T.new H1 (.row (⟨4,a.site,a.V,bz,a.aG,0,0,0⟩:bE).cells);have b:=r1.push (.row (⟨4,a.site,a.V,bz,a.aG,0,0,0⟩:bE).cells);have g:=f.trans (Z.Ext.push H1 (.row (⟨4,a.site,a.V,bz,a.aG,0,0,0⟩:bE).cells));simp only[G];generalize H1.push (.row (⟨4,a.site,a.V,bz,a.aG,0,0,0⟩:bE).cells)=i at *;simp only[sq,G,bc,c,ai];rw[dW,kG w2];simp only[G,hs.len];rw[b.put (n:=13) rfl rfl rfl];simp only[G];rw[(b.set _).all (n:=13) rfl];simp only[G];exact e _ (g.set (hT _) _)
theorem lq{B:List aE}(X:l_ B){a:bA}(bn:a.what=7∨a.what=8∨a.what=9)(aW:a.x.ok)(bo:hA B a.x){id:Nat}{bp:List I}{xs:I}{c idx vs:List Int}{H:Z}(hc:T H id (.row (aD aE.cells B::bp)))(hs:c2 H 1 xs (c++idx++vs).length ((c++idx++vs).map (af)))(b1:(c++idx++vs).length≤1000000000000)
  (aX:(idx.length:Int)=eP a.x.aK 0) (al:vs.length=dr a) (bq:∀v∈vs,bx v) (half:Bool) {Q:ad}
  (bs:∀H',Z.Ext H H'→Q (.aM [.agg (cj a half (F B a.x idx) vs).cells,D c.length]) H'):aj C 29 [.ptr id 0,.agg a.cells,xs,.bool half] H Q:=by
 have bt:=mN X.o a.x idx;refine S.HJ W ?_;unfold S.f29;have bv:¬a.what=10:=by omega
 simp only[KI,aV,aR,aY,pS,KF,KG,KH,G];rw[show(H.push (.row [J,J,J,J,J,J,P,J,J,J,J,af 0,af 0]))=H.push (.row cc.cells)from rfl];have bw:=Z.Ext.push H (.row cc.cells);have r1:=T.new H (.row cc.cells);have b2:(H.push (.row cc.cells)).n=H.n+1:=rfl;generalize H.push (.row cc.cells)=H1 at *;rw[show ba [J,J,J,J,J,J,P,J,J,J,J,af 0,af 0] [(0,1,D 4),(1,1,D a.site),(2,1,D a.V),(9,1,D a.aG)]=some (.agg (⟨4,a.site,a.V,bz,a.aG,0,0,0⟩:bE).cells)from rfl];simp only[G];rw[bO _ _ (⟨4,a.site,a.V,bz,a.aG,0,0,0⟩:bE).cells 13 rfl rfl rfl];have w2:=T.new H1 (.row (⟨4,a.site,a.V,bz,a.aG,0,0,0⟩:bE).cells);have bB:=r1.push (.row (⟨4,a.site,a.V,bz,a.aG,0,0,0⟩:bE).cells);have ay:=bw.trans (Z.Ext.push H1 (.row (⟨4,a.site,a.V,bz,a.aG,0,0,0⟩:bE).cells));simp only[G];generalize H1.push (.row (⟨4,a.site,a.V,bz,a.aG,0,0,0⟩:bE).cells)=am at *;simp only[sq,G,bc,ai];rw[ab (by simpa using bv)];have u:H.n≠H1.n:=by omega
 have hlen:(c++idx++vs).length=c.length+idx.length+vs.length:=by simp only[ZG]
 have t : S.ny (aj C) (.ptr id 0) xs (.bool half) (.ak a.cells) (.ptr H.n 0) (.ptr H1.n 0) Q [D (dr a)] am:=by
  unfold S.ny;have cC:=hs.ext ay;have bC:=hc.ext ay;simp only[aq,(cC).len,G,dA,pS,TR a _ bn];have bD:((c++idx++vs).length:Int)-(dr a:Nat)=((c.length+idx.length:Nat):Int):=by rw[hlen];omega
  rw[bD,bM];refine SV aw W aW _ _ ?_;rw[←aX];simp only[aO,M,W7,G,show O am 1 false (.ptr id 0)=some (aD aE.cells B) by rw[bC.load];rfl];have aZ:((c.length+idx.length:Nat):Int)-(idx.length:Int)=(c.length:Int):=by push_cast;omega
  simp only[dA,G];rw[aZ,bM];obtain⟨y,bH,a0⟩:=cC.hP (a:=c.length) (b:=c.length+idx.length) (by omega) (by omega);rw[bH];simp only[G];have bJ:((c++idx++vs).take (c.length+idx.length)).drop c.length=idx:=by rw[ZI (by simp),ZJ (by simp),List.drop_append_of_le_length (hT _),aa7,aaY]
  rw[bJ]at a0;refine TO aw W X.l X.o X.z X.e aW bo a0 aX λb bK an=>?_;simp only[bI,Zn,Zo,G];have w3:=w2.ext an;have bL:=bB.ext an;have jW:=cC.ext an;have bN:=ay.trans an;generalize b3:F B a.x idx=sp at *;rw[TS w3];have a1:=w3.set (.row ({(⟨4,a.site,a.V,bz,a.aG,0,0,0⟩:bE)with spot:=sp}:bE).cells);have r4:=bL.br u (.row ({(⟨4,a.site,a.V,bz,a.aG,0,0,0⟩:bE)with spot:=sp}:bE).cells);have bP:=bN.set (show H.n≤H1.n by omega) (.row ({(⟨4,a.site,a.V,bz,a.aG,0,0,0⟩:bE)with spot:=sp}:bE).cells);simp only[G];generalize bK.set H1.n (.row ({(⟨4,a.site,a.V,bz,a.aG,0,0,0⟩:bE)with spot:=sp}:bE).cells)=a2 at *;rw[Cw a1];have ao:T (a2.set H1.n (.row (⟨1,a.site,a.V,sp,a.aG,0,0,0⟩:bE).cells)) H1.n (.row (⟨1,a.site,a.V,sp,a.aG,0,0,0⟩:bE).cells):=a1.set _;have a3:=r4.br u (.row (⟨1,a.site,a.V,sp,a.aG,0,0,0⟩:bE).cells);have a4:=bP.set (show H.n≤H1.n by omega) (.row (⟨1,a.site,a.V,sp,a.aG,0,0,0⟩:bE).cells);rw[show({({(⟨4,a.site,a.V,bz,a.aG,0,0,0⟩:bE)with spot:=sp}:bE)with kind:=1}:bE)=⟨1,a.site,a.V,sp,a.aG,0,0,0⟩from rfl];simp only[G];generalize a2.set H1.n (.row (⟨1,a.site,a.V,sp,a.aG,0,0,0⟩:bE).cells)=bQ at *;have az:∀(w:bE)(d:Z),Z.Ext H d→T d H.n (.row cc.cells)→T d H1.n (.row w.cells)→w=cj a half sp vs→S.qJ (aj C) (.ptr H.n 0) (.ptr H1.n 0) (D ((c.length+idx.length:Nat):Int)) (D idx.length) Q [] d:=by intro w d g h f hw;unfold S.qJ;rw[kG f];simp only[G,dA];rw[aZ,bM,h.put (n:=13) rfl rfl rfl];simp only[G];rw[(h.set _).all (n:=13) rfl];simp only[G];rw[hw];exact bs _ (g.set (hT _) _)
  have a5:∀(w:bE)(d:Z),Z.Ext H d→T d H.n (.row cc.cells)→T d H1.n (.row w.cells)→w=⟨ey a half sp,a.site,a.V,sp,a.aG,if a.what=7∧a.kind≥6 then a.kind else 0,if ey a half sp>1 then vs.getD 0 0 else 0,if ey a half sp>1 then vs.getD 1 0 else 0⟩→bx w.d0→S.ur (aj C) (.ptr H.n 0) (.ptr H1.n 0) (D ((c.length+idx.length:Nat):Int)) (D idx.length) Q [] d:=by
   intro w d g h f hw bR;have Y:w.kind=ey a half sp:=by rw[hw]
   have aA:w.spot=sp:=by rw[hw]
   unfold S.ur;simp only[M,W7,WW,KK f,KJ f,G,bc,bG,aB];have a6:∀b:Bool,(b=true↔(w.kind=2∧sp.len<8))→S.uq (aj C) (.ptr H.n 0) (.ptr H1.n 0) (D ((c.length+idx.length:Nat):Int)) (D idx.length) (D w.spot.len) Q [.bool b] d:=by
    intro b i;unfold S.uq;simp only[aq,ai,aB];apply aH<;>intro q
    · obtain ⟨A,L⟩:=i.1 q;simp only[M,W7,WW,n1 f,G,cV,ai];rw[aA];apply aH<;>intro z
      · have z:sp.bits=false:=by simpa using z
        have bS:0≤sp.len:=bt.2.1;simp only[aU,M,W7,G];rw[dW];simp only[show((0:Int).toNat*1)=0 from rfl,WW,Cv f,G,fD,j0];rw[wrap_i64 (n:=8*sp.len) (by omega) (by omega),wrap_u64 (n:=8*sp.len) (by omega) (by omega),lN _ _ _ _ (by omega)];simp only[G];obtain⟨b4,bT⟩:=B_ bR bS L;rw[show Xv .u64 (1*2^(min (8*sp.len).toNat aaX.bits))=hr 1 (8*sp.len)from rfl,iN _ _ _ bT];simp only[G,ss f];refine az {w with d0:=w.d0.tmod (hr 1 (8*sp.len))} _ (g.set (by omega) _) (h.br u _) (f.set _) ?_;rw[hw];unfold cj;have U:ey a half sp=2:=by rw[←Y];exact A
        rw[aa (show ey a half sp=2∧sp.len<8∧sp.bits=false from⟨U,L,z⟩)];have ac:ey a half sp>1:=by rw[U];decide
        simp only[aa ac]
      · refine az w d g h f ?_;rw[hw];unfold cj;rw[ab (show ¬(ey a half sp=2∧sp.len<8∧sp.bits=false)from λy=>z (by rw[y.2.2];rfl))]
    · refine az w d g h f ?_;rw[hw];unfold cj;rw[ab (show ¬(ey a half sp=2∧sp.len<8∧sp.bits=false)from λy=>q (i.2 ⟨by rw[Y];exact y.1,y.2.1⟩))]
   apply aH<;>intro z
   · have z:w.kind=2:=by simpa using z
     simp only[bb,G];refine a6 _ ⟨λy=>⟨z,by rw[aA]at y;simpa using y⟩,λy=>by rw[aA];simpa using y.2⟩
   ·exact a6 false ⟨λy=>(by cases y),λy=>absurd (by simpa using y.1) z⟩
  have a7 : ∀(w:bE)(d:Z),Z.Ext H d→T d H.n (.row cc.cells)→T d H1.n (.row w.cells)→c2 d 1 xs (c++idx++vs).length ((c++idx++vs).map (af))→w=⟨ey a half sp,a.site,a.V,sp,a.aG,if a.what=7∧a.kind≥6 then a.kind else 0,0,0⟩→S.uu (aj C) xs (.ptr H.n 0) (.ptr H1.n 0) (D ((c.length+idx.length:Nat):Int)) (D idx.length) [D (dr a)] Q [] d:=by
   intro w d g h f a8 hw;have Y:w.kind=ey a half sp:=by rw[hw]
   unfold S.uu;simp only[M,W7,KJ f,G,dv,ai,aB];apply aH<;>intro q
   · have q : w.kind>1:=by simpa using q
     have fin:∀(N:Z)(ap:bE),Z.Ext H N→T N H.n (.row cc.cells)→T N H1.n (.row ap.cells)→ap={w with d0:=vs.getD 0 0,d1:=vs.getD 1 0}→au (S.oV (aj C) xs (.ptr H.n 0) (.ptr H1.n 0) (D ((c.length+idx.length:Nat):Int)) (D idx.length) [D (dr a)] Q) ([D (dr a)],N):=by
      intro N ap ae ag R a9;refine au.step ?_;simp only[S.oV,aq,bb,G,ai,aB];rw[iE];refine a5 ap N ae ag R ?_ ?_
      · have ac:ey a half sp>1:=by rw[←Y];exact q
        rw[a9,hw];simp only[aa ac]
      · rw[a9];show bx (vs.getD 0 0);cases vs with
        |nil=>exact ei
        |cons v r=>exact bq v (YK ..)
     have aC:∀(k:Nat)(v:Int),vs[k]?=some v→∃p,aU none 1 xs (D ((c.length+idx.length+k:Nat):Int))=some p∧∀H',Z.Ext d H'→O H' 1 false p=some (af v):=by
      intro k v hv;have bU:((c++idx++vs).map (af))[c.length+idx.length+k]?=some (af v):=by rw[Xb,X0 (by simp),ZG,aa5,hv];rfl
      exact a8.get bU
     have ar:w.d0=0∧w.d1=0:=by rw[hw];exact⟨rfl,rfl⟩
     rcases s:vs with _|⟨v0,_|⟨v1,_|⟨v2,r⟩⟩⟩
     · have bV:dr a=0:=by rw[←al,s];rfl
       have:=fin d w g h f (by rw[s];cases w;simp only at ar;obtain⟨rfl,rfl⟩:=ar;rfl);rw[bV]at this ⊢;exact this
     · have a_:dr a=1:=by rw[←al,s];rfl
       obtain⟨aF,aI,aJ⟩:=aC 0 v0 (by rw[s];rfl);refine au.step ?_;simp only[S.oV,aq,bb,G,ai];rw[aa (by rw[a_];decide)];simp only[bu,G];rw[wrap_i64 (n:=((c.length+idx.length:Nat):Int)+0) (by omega) (by omega),show((c.length+idx.length:Nat):Int)+0=((c.length+idx.length:Nat):Int) by simp];have aL:aU none 1 xs (D ((c.length+idx.length:Nat):Int))=some aF:=aI;rw[aL];simp only[G,aJ d (Z.Ext.refl _)];rw[show M 11 (.ptr H1.n 0)=some (.ptr H1.n 11) by simp only[M,W7]];simp only[G];rw[show aU (some 2) 1 (.ptr H1.n 11) (J)=some (.ptr H1.n 11)from rfl];simp only[G,ss f,bu];rw[show Xv .i64 ((0:Int)+1)=((dr a:Nat):Int) by rw[a_];rfl];refine fin _ _ (g.set (by omega) _) (h.br u _) (f.set _) ?_;rw[s];cases w;simp only at ar;obtain⟨rfl,rfl⟩:=ar;rfl
     · have U:dr a=2:=by rw[←al,s];rfl
       obtain⟨aF,aI,aJ⟩:=aC 0 v0 (by rw[s];rfl);obtain⟨aN,A,L⟩:=aC 1 v1 (by rw[s];rfl);refine au.step ?_;simp only[S.oV,aq,bb,G,ai];rw[aa (by rw[U];decide)];simp only[bu,G];rw[wrap_i64 (n:=((c.length+idx.length:Nat):Int)+0) (by omega) (by omega),show((c.length+idx.length:Nat):Int)+0=((c.length+idx.length:Nat):Int) by simp];have aL:aU none 1 xs (D ((c.length+idx.length:Nat):Int))=some aF:=aI;rw[aL];simp only[G,aJ d (Z.Ext.refl _)];rw[show M 11 (.ptr H1.n 0)=some (.ptr H1.n 11) by simp only[M,W7]];simp only[G];rw[show aU (some 2) 1 (.ptr H1.n 11) (J)=some (.ptr H1.n 11)from rfl];simp only[G,ss f,bu];rw[show Xv .i64 ((0:Int)+1)=1 from rfl];have R:=f.set (.row ({w with d0:=v0}:bE).cells);have ag:=h.br u (.row ({w with d0:=v0}:bE).cells);have ae:=g.set (show H.n≤H1.n by omega) (.row ({w with d0:=v0}:bE).cells);have bW:O (d.set H1.n (.row ({w with d0:=v0}:bE).cells)) 1 false aN=some (af v1):=by
        have aP:=L d (Z.Ext.refl _);rcases a8.2 with⟨tk,_,bd,be⟩|⟨j,cs,m,be,av,b5,b6,bX⟩
        ·rw[hlen,s]at bd;simp at bd
        · rw [be]at A;have bY:j≠H1.n:=by
           intro e;rw[e]at av;have bf:=av.2.symm.trans f.2;simp only[cN.row.injEq]at bf;have aQ:((c++idx++vs).map (af))[0]?=cs[0]?:=by rw[←bX,Wj,aa (by rw[hlen,s];simp only[Z9,Z_];omega)]
           rw[bf]at aQ;cases bg:(c++idx++vs)with
           |nil=>have:=congrArg aa3 bg;rw[hlen,s]at this;simp at this
           | cons y r=>rw[bg]at aQ;simp[bE.cells]at aQ
          have bZ:aN = .ptr j (0+(c.length+idx.length+1)*1):=by have:(if 0≤((c.length+idx.length+1:Nat):Int)∧((c.length+idx.length+1:Nat):Int)<((c++idx++vs).length:Nat)then some (I.ptr j (0+((c.length+idx.length+1:Nat):Int).toNat*1))else none)=some aN:=A;rw[aa ⟨by omega,by rw[hlen,s];simp only[Z9,Z_];omega⟩,Xw]at this;cases this;rfl
          rw[bZ]at aP ⊢;rw[(av.br bY _).load];rw[av.load]at aP;exact aP
       generalize d.set H1.n (.row ({w with d0:=v0}:bE).cells)=N at *;refine au.step ?_;simp only[S.oV,aq,bb,G,ai];rw[aa (by rw[U];decide)];simp only[bu,G];rw[wrap_i64 (n:=((c.length+idx.length:Nat):Int)+1) (by omega) (by omega),show((c.length+idx.length:Nat):Int)+1=((c.length+idx.length+1:Nat):Int) by simp];simp only[A,bW,G,M,W7];rw[show aU (some 2) 1 (.ptr H1.n 11) (D 1)=some (.ptr H1.n 12)from rfl];simp only[G,TV R,bu];rw[show Xv .i64 ((1:Int)+1)=((dr a:Nat):Int) by rw[U];rfl];refine fin _ _ (ae.set (by omega) _) (ag.br u _) (R.set _) ?_;rw[s];rfl
     · exfalso;have:dr a≤2:=by
        unfold dr
        repeat' split
        all_goals omega
       rw[←al,s]at this;simp at this
   · have q:¬w.kind>1:=by simpa using q
     refine a5 w d g h f ?_ (by rw[hw];exact ei);have ac:¬ey a half sp>1:=by rw[←Y];exact q
     rw[hw];simp only[ab ac]
  have bh:∀d,Z.Ext H d→c2 d 1 xs (c++idx++vs).length ((c++idx++vs).map (af)):=λd E=>hs.ext E;have bi:∀(w:bE)(d:Z),Z.Ext H d→T d H.n (.row cc.cells)→T d H1.n (.row w.cells)→w=⟨if a.what=8∧(half=true∨sp.bits=false)then 2 else 1,a.site,a.V,sp,a.aG,0,0,0⟩→S.uw (aj C) xs (.ak a.cells) (.ptr H.n 0) (.ptr H1.n 0) (D ((c.length+idx.length:Nat):Int)) (D idx.length) [D (dr a)] Q [] d:=by
   intro w d g h f hw;unfold S.uw;have bj:∀b:Bool,(b=true↔(a.what=7∧a.kind≥6))→S.uv (aj C) xs (.ak a.cells) (.ptr H.n 0) (.ptr H1.n 0) (D ((c.length+idx.length:Nat):Int)) (D idx.length) [D (dr a)] Q [.bool b] d:=by
    intro b i;unfold S.uv;simp only[aq,ai,aB];apply aH<;>intro q
    · have q:=i.1 q;simp only[pS,sr,G,show M 0 (.ptr H1.n 0)=some (.ptr H1.n 0)from rfl,show M 10 (.ptr H1.n 0)=some (.ptr H1.n 10)from rfl,Cw f,true_and];have R:=f.set (.row ({w with kind:=3}:bE).cells);have ag:=h.br u (.row ({w with kind:=3}:bE).cells);have ae:=g.set (show H.n≤H1.n by omega) (.row ({w with kind:=3}:bE).cells);generalize d.set H1.n (.row ({w with kind:=3}:bE).cells)=N at *;rw[TU R];simp only[G];have bk:=ae.set (show H.n≤H1.n by omega) (.row ({({w with kind:=3}:bE)with op:=a.kind}:bE).cells);refine a7 _ _ bk (ag.br u _) (R.set _) (bh _ bk) ?_;rw[hw];unfold ey;rw[aa q,aa q]
    · have q:¬(a.what=7∧a.kind≥6):=λz=>q (i.2 z);refine a7 w d g h f (bh _ g) ?_;rw[hw];unfold ey;rw[ab q,ab q]
   simp only[pS,sq,G,bc,bG,aB];apply aH<;>intro q
   · have q:a.what=7:=by simpa using q
     simp only[sr,G,eu];exact bj _ ⟨λz=>⟨q,by simpa using z⟩,λz=>by simpa using z.2⟩
   ·exact bj false ⟨λz=>(by cases z),λz=>absurd (by simpa using z.1) q⟩
  have aS:∀b:Bool,(b=true↔(a.what=8∧(half=true∨sp.bits=false)))→S.qK (aj C) xs (.ak a.cells) (.ptr H.n 0) (.ptr H1.n 0) (D ((c.length+idx.length:Nat):Int)) (D idx.length) [D (dr a)] Q [.bool b] bQ:=by
   intro b i;unfold S.qK;simp only[aq,ai,aB];apply aH<;>intro q
   · have q:=i.1 q;simp only[show M 0 (.ptr H1.n 0)=some (.ptr H1.n 0)from rfl,Cw ao,G];refine bi _ _ (a4.set (by omega) _) (a3.br u _) (ao.set _) ?_;rw[aa q]
   · have q:¬(a.what=8∧(half=true∨sp.bits=false)):=λz=>q (i.2 z);refine bi _ _ a4 a3 ao ?_;rw[ab q]
  simp only[sq,G,bc,bG,aB];apply aH<;>intro q
  · have q:a.what=8:=by simpa using q
    simp only[b7];apply dD<;>intro z
    · simp only[n1 ao,G,cV];refine aS _ ⟨λy=>⟨q,.inr (by simpa using y)⟩,λy=>?_⟩;rcases y.2 with y|y
      ·rw[z]at y;cases y
      · show(!sp.bits)=true;rw[y];rfl
    ·exact aS true ⟨λ_=>⟨q,.inl z⟩,λ_=>rfl⟩
  ·exact aS false ⟨λy=>(by cases y),λy=>absurd (by simpa using y.1) q⟩
 apply aH<;>intro K
 · have K:a.what=8:=by simpa using K
   simp only[sr,G,bc,ai,aB];apply aH<;>intro bl
   · have:dr a=2:=by unfold dr;rw[aa K,aa (by simpa using bl)]
     rw[this]at t;exact t
   · have:dr a=1:=by unfold dr;rw[aa K,ab (by simpa using bl)]
     rw[this]at t;exact t
 have K:¬a.what=8:=by simpa using K
 have bm:∀b:Bool,¬(a.what=7∧(a.kind=6∨a.kind=7))→(b=true↔(a.what=7∧a.kind=8))→S.ux (aj C) (.ptr id 0) xs (.bool half) (.ak a.cells) (.ptr H.n 0) (.ptr H1.n 0) Q [.bool b] am:=by
  intro b b0 i;unfold S.ux;simp only[aq,ai,aB];apply aH<;>intro q
  · obtain⟨A,L⟩:=i.1 q;have:dr a=2:=by unfold dr;rw[ab K,aa A,bF,aa L]
    rw[this]at t;exact t
  · have q:¬(a.what=7∧a.kind=8):=λz=>q (i.2 z);have:dr a=0:=by
     unfold dr;rw[ab K];by_cases ax:a.what=7
     ·rw[aa ax,ab (λz=>b0 ⟨ax,z⟩),ab (λz=>q ⟨ax,z⟩)]
     ·rw[ab ax]
    rw[this]at t;exact t
 have aT:∀b:Bool,(b=true↔(a.what=7∧(a.kind=6∨a.kind=7)))→S.qL (aj C) (.ptr id 0) xs (.bool half) (.ak a.cells) (.ptr H.n 0) (.ptr H1.n 0) Q [.bool b] am:=by
  intro b i;unfold S.qL;simp only[aq,ai,aB];apply aH<;>intro q
  · obtain⟨A,L⟩:=i.1 q;have:dr a=1:=by unfold dr;rw[ab K,aa A,aa L]
    rw[this]at t;exact t
  · have q:¬(a.what=7∧(a.kind=6∨a.kind=7)):=λz=>q (i.2 z);simp only[pS,sq,G,bc,bG,aB];apply aH<;>intro z
    · have z:a.what=7:=by simpa using z
      simp only[sr,G,bc];exact bm _ q ⟨λy=>⟨z,by simpa using y⟩,λy=>by simpa using y.2⟩
    ·exact bm false q ⟨λy=>(by cases y),λy=>absurd (by simpa using y.1) z⟩
 simp only[bG,aB];apply aH<;>intro ah
 · have ah:a.what=7:=by simpa using ah
   simp only[sr,G,bc,b7];apply dD<;>intro z
   · have z:¬a.kind=6:=by simpa using z
     exact aT _ ⟨λy=>⟨ah,.inr (by simpa using y)⟩,λy=>by rcases y.2 with y|y;exact absurd y z;simpa using y⟩
   · have z:a.kind=6:=by simpa using z
     exact aT true ⟨λ_=>⟨ah,.inl z⟩,λ_=>rfl⟩
 ·exact aT false ⟨λy=>(by cases y),λy=>absurd (by simpa using y.1) ah⟩
end
end Rb
