/- A part of the proof (part 5): see the last text. -/
import Derived.Test.YtncnnojgkgceiaaGreatDoorRb4
set_option linter.unusedVariables false
set_option linter.unusedSimpArgs false
set_option linter.unusedSectionVars false
open BitVec renaming ofInt→KT
open Bool renaming and_eq_false_iff→ae1, and_eq_true→aaz, and_true→ae4, eq_iff_iff→acS, false_eq_true→acq, false_or→acP, not_eq_false'→aeD, not_eq_false→aeA, not_eq_true'→acG, not_eq_true→aeo, or_eq_false_iff→acX, or_eq_true→aaA, true_and→adQ
open Classical renaming byContradiction→aeY
open Decidable renaming not_not→ad8
open Go.IntKind renaming wrap→abF
open Int renaming add_mul_ediv_left→aeX, ediv_le_self→aeL, ediv_nonneg→aeK, emod_add_mul_ediv→aeR, emod_lt_of_pos→aeU, emod_nonneg→aeS, le_refl→aeQ, mul_add→aeZ, mul_comm→aeV, mul_le_mul→ae0, mul_nonneg→aeM, ne_of_gt→aeT, tdiv_eq_ediv_of_nonneg→aeN, tdiv→ae9, tmod_eq_emod_of_nonneg→aeW, toNat_natCast→abG
open List renaming all_cons→adk, all_nil→ae3, any_cons→aeJ, any_eq_false→ae_, any_eq_true→ac8, append_assoc→aeI, append_nil→aee, cons_append→acu, contains_iff_mem→aeC, drop_eq_getElem_cons→ad_, drop_succ_cons→adA, drop_zero→ad3, ext_getElem?→afb, findIdx?_cons→aeH, findIdx?→aec, flatMap_append→afd, flatMap_cons→adR, foldl_cons→aa4, getElem?_append_left→ab8, getElem?_append_right→ab9, getElem?_cons_succ→adX, getElem?_cons_zero→adW, getElem?_eq_getElem→abm, getElem?_eq_none→acO, getElem?_eq_some_iff→aat, getElem?_map→abl, getElem?_set→aaV, getElem?_take→aav, length_append→ad9, length_cons→aeO, length_drop→aef, length_eq_one_iff→aeF, length_eq_zero_iff→abS, length_nil→aeP, length_set→acT, length_singleton→ae2, length_take→aen, length→afg, map_append→ae8, map_cons→abT, map_take→ae6, mem_append→acN, mem_cons_of_mem→acV, mem_cons_self→acW, mem_cons→acU, mem_map→ada, mem_of_find?_eq_some→aeG, mem_of_getElem?→adl, mem_singleton→afh, nil_append→afa, nodup_cons→afe, sizeOf_lt_of_mem→aei, take_add_one→aeE, take_length_add_append→aew, take_length→aey, take_of_length_le→aeb, take_succ_cons→aeu, take_take→ae7
open List.Sublist renaming nodup→aff
open Nat renaming add_mul→aa3, add_zero→aa6, le_of_lt→aeB, le_refl→hT, le_succ→aa_, le_trans→np, lt_of_lt_of_le→sl, lt_succ_self→adn, min_eq_left→aez, mul_le_mul_right→abK, mul_one→ae5, one_mul→aev, sub_self→afc, zero_add→abg, zero_le→aa2
open Ne renaming symm→abj
open Option renaming map_none→aex, some→aaK
namespace Rb
open Go
variable{t:T}{p:aJ→Bool}{key:Nat}{bH:List J}{xs:List aJ}
section
variable{α:Type}{cells:α→List J}{sz:Nat}
theorem Uz(hc:∀x,(cells x).length=sz):∀(xs:List α)(i:Nat),(xs.flatMap cells).take (i*sz)=(xs.take i).flatMap cells:=by
 intro xs i;induction i generalizing xs with
 |zero=>simp
 | succ i a=>
  cases xs with
  |nil=>simp
  | cons x xs=>rw[adR,aeu,adR,←a,show(i+1)*sz=(cells x).length+i*sz by rw[hc,aa3,aev,Nat.add_comm],aew]
theorem JV(hc:∀x,(cells x).length=sz){xs:List α}{n:Nat}(a:n≤xs.length):c6 sz (aZ cells xs) none (some (I n)) none=some (aZ cells (xs.take n)):=by
 simp only[aZ,c6,dV,aex];rw[cA];simp only;rw[af ⟨aa2 _,by omega,TJ hc xs⟩];by_cases h:n=xs.length
 ·rw[e_,h,aey]
 · rw[bO];have:((n:Int)).toNat=n:=by omega
   simp only[this,aT,Nat.sub_zero,Nat.zero_mul,ad3,Uz hc];rw[aen,aez a]
end
theorem xr{α:Type}(p:α→Bool)(xs:List α):decide (fZ (xs.findIdx? p)≥0)=xs.any p:=by
 cases hf:xs.findIdx? p with
 | none=>
  rw[List.findIdx?_eq_none_iff]at hf;have:xs.any p=false:=by simpa using hf
  rw[this];rfl
 | some i=>
  obtain⟨hi,h1,_⟩:=List.findIdx?_eq_some_iff_getElem.1 hf;have:xs.any p=true:=by rw[ac8];exact⟨xs[i],List.getElem_mem hi,h1⟩
  rw[this];simp[fZ]
section
variable{Φ:ad}{H:AH}{Q:ab}
theorem fieldIndex(hf:∀x∈xs,∀(R:ab),R (.bool (p x)) H→Φ key ([.agg x.cells]++bH) H R)(hl:xs.length≤9223372036854775807)
  (a:Q (I (fZ (xs.findIdx? p))) H) (b:fC key=none:=by first|assumption|rfl):S.f172 Φ (aZ aJ.cells xs) (.fn key bH) H Q:=by
 have h:rA 9 Φ (aZ aJ.cells xs) (.fn key bH) H Q:=Bk aJ.len (by decide) hf hl a;exact h
theorem BA(Z:Cl Φ S.bg)(hf:∀x∈xs,∀(R:ab),R (.bool (p x)) H→Φ key ([.agg x.cells]++bH) H R)(hl:xs.length≤9223372036854775807)
  (a:Q (.bool (xs.any p)) H) (b:fC key=none:=by first|assumption|rfl):Φ 168 [aZ aJ.cells xs,.fn key bH] H Q:=by
 refine S.SS Z ?_;unfold S.f168;refine S.Bf Z (fieldIndex hf hl ?_);simp only[ec,X,xr];exact a
theorem UA{g:aJ}{cs:List J}{id:Nat}{s:List UInt8}(a:At H id (.row cs))(ht:bE cs 0 1 false=some (.str s))(b:Q (.bool (g.E==s)) H):S.f204 Φ (.agg g.cells) (.ptr id 0) H Q:=by
 unfold S.f204;have c:aM H false 9 (.agg g.cells)=some (.ak g.cells,H):=by unfold aM;rw[af ⟨rfl,g.len⟩];rfl
 rw[c];have l0:W H 1 false (.ak (g.cells.drop 0))=some (.str g.E):=rF g;have l1:W H 1 false (.ptr id 0)=some (.str s):=by rw[a.load];exact ht
 simp only[aK,aa,X,l0,aa6,l1,jH];exact b
theorem UB(Z:Cl Φ S.bg){i:Nat}{f:aJ}(hi:t.aP[i]?=some f)(hl:t.aP.length≤32)(hs:bF Φ 165 [.agg f.type.cells] (I (cQ f.type)))(z:∀s,bF Φ 71 [.str s] (.bool (eP s)))
  (A:∀H',Q (I (f_ t.packed ((t.aP.take i).map aJ.E) f)) H'):S.f202 Φ (.agg t.cells) (I i) H Q:=by
 have r:=(aat.1 hi).1;unfold S.f202;simp only[gZ,aK,eA,k3,X];rw[dF r];simp only[X];rw[eh aJ.len (by decide) _ hi];simp only[X,aK,aQ,aT];rw[cG _ _ _ 9 f.len f.scalar rfl];simp only[X,aa,aa6,abg];have r0:W (H.push (.row f.cells)) 1 false (.ptr H.n 0)=some (.str f.E):=by rw[ey,rF]
 have j:W (H.push (.row f.cells)) 1 false (.ptr H.n 7)=some (.bool f.bits):=by rw[ey,JQ]
 have u:W (H.push (.row f.cells)) 1 false (.ptr H.n 8)=some (I f.be):=by rw[ey,Um]
 have r1:W (H.push (.row f.cells)) 6 true (.ptr H.n 1)=some (.agg f.type.cells):=by rw[ey,Bu]
 have B:W (H.push (.row f.cells)) 1 false (.ptr H.n 1)=some (I f.type.kind):=by rw[ey,JR]
 have rs:W (H.push (.row f.cells)) 1 false (.ptr H.n 2)=some (I f.type.size):=by rw[ey,Un]
 have C:=At.new H (.row f.cells);generalize O:H.push (.row f.cells)=H1 at *;have fin:∀v,v=f_ t.packed ((t.aP.take i).map aJ.E) f→Q (I v) H1:=λv h=>by rw[h];exact A H1
 rw[r0];simp only[X];refine z _ _ _ ?_;have D : ¬ (eP f.E=false∧(f.E≠[]∨f.bits=false))→¬(f.E≠[]∧((t.aP.take i).map aJ.E).contains f.E=true)→S.Bb Φ (.ak t.cells) (.ptr H.n 0) Q [] H1:=by
  intro n1 n2;have e1:f_ t.packed ((t.aP.take i).map aJ.E) f=if cQ f.type≠0 then cQ f.type
    else if(f.bits=false∧f.be≠0)∨(f.bits=true∧(f.type.kind≠1∨t.packed=true))then 8
    else if f.bits=true∧(f.be<0∨8*f.type.size<f.be∨(f.be=0∧f.E≠[]))then 9
    else 0:=by rw[nS,ai n1,ai n2]
  rw[e1]at fin;clear e1;simp only[S.Bb,aa,abg,X,r1];refine hs _ _ ?_;simp only[dA,X,F];apply aB<;>intro h
  ·exact fin _ (by rw[af (by simpa using h)])
  · have d : cQ f.type=0:=by simpa using h
    rw[ai (by simpa using d)]at fin;have k2 : ∀ b:Bool,(b=true↔((f.bits=false∧f.be≠0)∨(f.bits=true∧(f.type.kind≠1∨t.packed=true))))→G (S.pT Φ (.ptr H.n 0) Q) [.bool b] H1:=by
     intro b c;simp only[aE,S.pT,ay,F,aa,abg,X,j];apply aB<;>intro h
     ·exact fin _ (by rw[af (c.1 h)])
     · have e : ¬((f.bits=false∧f.be≠0)∨(f.bits=true∧(f.type.kind≠1∨t.packed=true))):=λx=>h (c.2 x);rw[ai e]at fin;have k1:∀b:Bool,(b=true↔(f.bits=true∧(f.be<0∨8*f.type.size<f.be∨(f.be=0∧f.E≠[]))))→G (S.nL Φ Q) [.bool b] H1:=by
        intro b c;simp only[aE,S.nL,ay,F];apply aB<;>intro h
        ·exact fin _ (by rw[af (c.1 h)])
        ·exact fin _ (by rw[ai λx=>h (c.2 x)])
       simp only[cx];apply aB<;>intro a
       · have J:f.type.kind=1:=by
           by_cases hk:f.type.kind=1
           ·exact hk
           ·exact absurd (.inr ⟨a,.inl hk⟩) e
         have P:1≤f.type.size∧f.type.size≤8:=by
          rw[gB,J]at d;split at d
          ·cases d
          · simp only[aT]at d;split at d
            · rename_i K;simp[eQ]at K;omega
            ·cases d
         simp only[u,aU,X,ck];apply aB<;>intro hw
         · simp only[rs,X,fY];rw[bJ];simp only[dy,X,ck];apply aB<;>intro k
           · simp only[bL,X,cx];apply aB<;>intro l
             · simp only[r0,X,rG];refine k1 _ ?_;simp only[decide_eq_false_iff_not,gt_iff_lt,bq]at hw k l;simp[a,l];omega
             · refine k1 _ ?_;simp only[decide_eq_false_iff_not,gt_iff_lt,bq]at hw k l;simp[a,l];omega
           · refine k1 _ ?_;simp only[decide_eq_false_iff_not,ad8,gt_iff_lt]at k;simp[a,k]
         · refine k1 _ ?_;simp only[decide_eq_false_iff_not,ad8]at hw;simp[a,hw]
       · refine k1 _ ?_;simp[a]
    have w : ∀b:Bool,(b=true↔(f.bits=false∧f.be≠0))→G (S.w7 Φ (.ak t.cells) (.ptr H.n 0) Q) [.bool b] H1:=by
     intro b c;simp only[aE,S.w7,ay,ck,aa,abg,X,j];apply aB<;>intro h
     · have e:¬(f.bits=false∧f.be≠0):=λx=>by rw[c.2 x]at h;cases h
       simp only[cx];apply aB<;>intro a
       · simp only[B,dA,X,ck];apply aB<;>intro hk
         · have L:W H1 1 false (.ak (t.cells.drop 2))=some (.bool t.packed):=xm t H1;simp only[L,X];refine k2 _ ?_;simp only[bne_eq_false_iff_eq]at hk;simp[a,hk]
         · refine k2 _ ?_;simp only[aeA,bne_iff_ne,ne_eq]at hk;simp[a,hk]
       · refine k2 _ ?_;simp only[aeo]at a;simp only[a]at e ⊢;simp at e;simp[e]
     · refine k2 _ ?_;have:=c.1 (by simpa using h);simp[this]
    simp only[aa,abg,X,j,dO,cx,u,dA];apply aB<;>intro a
    · refine w _ ?_;simp only[acG]at a;simp[a]
    · refine w _ ?_;simp only[acG,aeA]at a;simp[a]
 have y:∀b:Bool,¬(eP f.E=false∧(f.E≠[]∨f.bits=false))→(b=true↔(f.E≠[]∧((t.aP.take i).map aJ.E).contains f.E=true))→G (S.w8 Φ (.ak t.cells) (.ptr H.n 0) Q) [.bool b] H1:=by
  intro b n1 c;simp only[aE,S.w8,ay,F];apply aB<;>intro h
  ·exact fin _ (by rw[nS,ai n1,af (c.1 h)])
  ·exact D n1 λx=>h (c.2 x)
 have q : ∀b:Bool,(b=true↔(eP f.E=false∧(f.E≠[]∨f.bits=false)))→G (S.ry Φ (I i) (.ak t.cells) (.ptr H.n 0) Q) [.bool b] H1:=by
  intro b c;simp only[aE,S.ry,ay,F,aa,abg,aa6,X,r0,rG,cx];apply aB<;>intro h
  ·exact fin _ (by rw[nS,af (c.1 h)])
  · have n1:¬(eP f.E=false∧(f.E≠[]∨f.bits=false)):=λx=>h (c.2 x);apply aB<;>intro m
    · have M:W H1 1 false (.ak (t.cells.drop 3))=some (aZ aJ.cells t.aP):=k3 t H1;simp only[M,X];rw[JV aJ.len (aeB r)];simp only[X];refine BA Z (p:=λg=>g.E==f.E) (λx T R N=>?_) (by rw[aen];omega) ?_
      ·exact S.Tg Z (UA C (rF f) N)
      · refine y _ n1 ?_;simp only[acG,beq_eq_false_iff_ne,ne_eq]at m;rw[ac8,aeC,ada];simp only[bq,ne_eq,m,not_false_eq_true,true_and]
    · refine y _ n1 ?_;simp only[acG,beq_eq_false_iff_ne,ne_eq,ad8]at m;simp[m]
 simp only[dO,X,cx,r0,rG,ck,j];apply aB<;>intro h1
 · simp only[acG]at h1;apply aB<;>intro o
   · refine q _ ?_;simp only[aeD,bq]at o;simp[h1,o,eP]
   · refine q _ ?_;simp only[aeD,bq]at o;simp[h1,o]
 · refine q _ ?_;simp only[acG,aeA]at h1;simp[h1]
theorem UC(hl:t.aP.length≤maxLen)
  (j:t.aP.length≤32→∀(i:Nat)(f:aJ),t.aP[i]?=some f→bF Φ 202 [.agg t.cells,I i] (I (f_ t.packed ((t.aP.take i).map aJ.E) f)))
  (d:Q (I (if t.aP.length<1∨32<t.aP.length then 12 else fe t.packed [] t.aP)) H):S.f191 Φ (.agg t.cells) H Q:=by
 have fin:∀v,v=(if t.aP.length<1∨32<t.aP.length then 12 else fe t.packed [] t.aP)→Q (I v) H:=λv h=>by rw[h];exact d
 clear d;unfold S.f191;simp only[gZ,aK,eA,k3,dY,aU,dy,X,ck];have e : ∀b:Bool,(b=true↔(t.aP.length<1∨32<t.aP.length))→G (S.wX Φ (.ak t.cells) Q) [.bool b] H:=by
  intro b g;simp only[aE,S.wX,ay,F];apply aB<;>intro h
  ·exact fin _ (by rw[af (g.1 h)])
  · have k:¬(t.aP.length<1∨32<t.aP.length):=λx=>h (g.2 x);rw[ai k]at fin;simp only[S.I3,eA,k3,dY,X];have main:∀(rest:List aJ)(i:Nat),t.aP.drop i=rest→fe t.packed ((t.aP.take i).map aJ.E) rest=fe t.packed [] t.aP→av (S.wW Φ (.ak t.cells) (I t.aP.length) Q) ([I i],H):=by
     intro rest;induction rest with
     | nil=>intro i a hs;have hle:=fb a;refine av.step ?_;simp only[S.wW,ay,aU,X,F];rw[fO];exact fin _ (by rw[←hs];rfl)
     | cons f rest l=>
      intro i a hs;obtain⟨n,hf,m⟩:=eN a;refine av.step ?_;simp only[S.wW,ay,aU,X,F];rw[fc];simp only[j9,X];refine j (by omega) i f hf _ _ ?_;simp only[dA,X,F];simp only[fe]at hs;apply aB<;>intro h
      · have c:f_ t.packed ((t.aP.take i).map aJ.E) f≠0:=by simpa using h
        rw[af c]at hs;exact fin _ hs
      · have c:¬f_ t.packed ((t.aP.take i).map aJ.E) f≠0:=by simpa using h
        rw[ai c]at hs;simp only[br,X];rw[bJ,iY i];refine l (i+1) m ?_;rw[aeE,hf];simpa using hs
    exact main t.aP 0 rfl rfl
 apply aB<;>intro h
 · refine e _ ?_;simp only[decide_eq_false_iff_not]at h;simp only[dM,gt_iff_lt];omega
 · refine e _ ?_;simp only[decide_eq_false_iff_not,ad8]at h;simp only[true_iff];omega
theorem UD(Z:Cl Φ S.bg)(i:bF Φ 191 [.agg t.cells] (I (if t.aP.length<1∨32<t.aP.length then 12 else fe t.packed [] t.aP)))
  (j:∀e∈t.bw,bF Φ 165 [.agg e.cells] (I (cQ e))) (f:Q (I (cQ t)) H):S.f165 Φ (.agg t.cells) H Q:=by
 have fin:∀v,v=cQ t→Q (I v) H:=λv h=>by rw[h];exact f
 clear f;rw[gB]at fin;unfold S.f165;simp only[gZ,aK,j9,X];refine S.S7 Z (Ux ?_);simp only[dO,X,F];apply aB<;>intro h
 ·exact fin _ (by rw[af (by simpa using h)])
 · have c : hK t.kind t.size t.packed t.aP.length t.b5 t.bw.length=true:=by simpa using h
   rw[c]at fin;simp only[Bool.true_eq_false,bz]at fin;simp only[eA,lQ,rE,Bt,mD,bL,aU,dy,X,F,ck,bq];apply aB<;>intro h1
   · rw[af h1]at fin;refine S.Jt Z (JU (.inl rfl) ?_);simp only[dO,X,F];apply aB<;>intro a
     ·exact fin _ (by rw[ai (by simpa using a)])
     ·exact fin _ (by rw[af (by simpa using a)])
   · rw [ai h1]at fin;apply aB<;>intro a
     · rw[af a]at fin;refine S.Jt Z (JU (.inr rfl) ?_);simp only[dO,X,F];apply aB<;>intro a
       ·exact fin _ (by rw[ai (by simpa using a)])
       ·exact fin _ (by rw[af (by simpa using a)])
     · rw [ai a]at fin;apply aB<;>intro d
       · rw [af d]at fin;obtain ⟨e,he⟩:∃e,t.bw=[e]:=by
          have:t.bw.length=1:=by simp only[hK,d]at c;simp at c;exact c.2
          exact aeF.1 this
         have k2:∀b:Bool,(b=true↔(t.b5<1∨65536<t.b5))→G (S.wx Φ (.ak t.cells) Q) [.bool b] H:=by
          intro b g;simp only[aE,S.wx,ay,F];apply aB<;>intro h
          ·exact fin _ (by rw[af (g.1 h)])
          · rw[ai λx=>h (g.2 x)]at fin;simp only[S.Iw,eA,mD,X];have k:aL none 6 (aZ T.cells t.bw) (O)=some (eO T.cells 6 t.bw 0):=dF (by rw[he];simp);rw[k];simp only[X];rw[eh T.len (by decide) _ (show t.bw[0]?=some e by rw[he];rfl)];simp only[X];refine j e (by rw[he];simp) _ _ ?_;exact fin _ (by rw[he];rfl)
         apply aB<;>intro h
         · refine k2 _ ?_;have l:¬t.b5<1:=by simpa using h
           simp only[dM,gt_iff_lt];omega
         · refine k2 _ ?_;have l:t.b5<1:=by simpa using h
           simp only[true_iff];omega
       · rw[ai d]at fin;refine i _ _ ?_;exact fin _ rfl
end
section
variable{C:Ctx}(aj:bX C)(Z:Cl (ae C) S.bg)
include aj Z
theorem BB(s:List UInt8):bF (ae C) 71 [.str s] (.bool (eP s)):=bF.of aj rfl rfl λQ a=>S.RA Z (Uv Z a)
theorem UE:∀(m:Nat),1≤m→m≤65→∀t:T,t.ok→bF (ae C) 188 [.agg t.cells,I m] (I (ei m t)):=by
 intro m;induction m with
 |zero=>intro h;omega
 | succ m b=>
  intro _ hm t ht;have a:t.aP.length≤maxLen∧(∀f∈t.aP,f.ok)∧t.bw.length≤maxLen∧∀e∈t.bw,e.ok:=by
   cases t with
   | mk kind size packed aP b5 bw=>obtain⟨_,_,h1,c,_,d,g⟩:=ht;exact⟨h1,aJ.dT.1 c,d,T.dT.1 g⟩
  refine bF.of aj (by simp[J.b7,J.bI,T.bI]) rfl λQ i=>S.S6 Z (Uy (by omega) hm a.1 a.2.2.1 (λh1 f hf=>?_) (λh1 e he=>?_) i)
  · have:=b (by omega) (by omega) f.type (by have:=a.2.1 f hf;cases f;exact this.2.1);exact this
  ·exact b (by omega) (by omega) e (a.2.2.2 e he)
theorem UF:∀t:T,t.ok→bF (ae C) 165 [.agg t.cells] (I (cQ t)):=by
 refine T.ind λt d g ht=>?_;have b:t.aP.length≤maxLen∧(∀f∈t.aP,f.ok)∧t.bw.length≤maxLen∧∀e∈t.bw,e.ok:=by
  cases t with
  | mk kind size packed aP b5 bw=>obtain⟨_,_,h1,h,_,j,k⟩:=ht;exact⟨h1,aJ.dT.1 h,j,T.dT.1 k⟩
 have l:t.aP.length≤32→∀(i:Nat)(f:aJ),t.aP[i]?=some f→bF (ae C) 202 [.agg t.cells,I i] (I (f_ t.packed ((t.aP.take i).map aJ.E) f)):=by intro hl i f hf;have c:=adl hf;exact bF.of aj (by simp[J.b7,J.bI,T.bI]) rfl λQ a=>S.Te Z (UB Z hf hl (d f c (by have:=b.2.1 f c;cases f;exact this.2.1)) (BB aj Z) a)
 have m:bF (ae C) 191 [.agg t.cells] (I (if t.aP.length<1∨32<t.aP.length then 12 else fe t.packed [] t.aP)):=
  λH Q a=>S.S8 Z (UC b.1 l a)
 exact λH Q a=>S.SP Z (UD Z m (λe he=>g e he (b.2.2.2 e he)) a)
theorem JW(t:T)(ht:t.ok):bF (ae C) 124 [.agg t.cells] (I (eR t)):=by
 intro H Q a;refine S.Sl Z ?_;unfold S.f124;simp only[gZ,aK,j9,X];refine S.SO Z ?_;unfold S.f164;simp only[gZ,aK,j9,X];refine UE aj Z 65 (by omega) (by omega) t ht _ _ ?_;simp only[dy,X,F];unfold eR at a;apply aB<;>intro h
 ·rw[af (by simpa using h)]at a;exact a
 · rw[ai (by simpa using h)]at a;exact UF aj Z t ht _ _ a
end
end Rb

namespace Rb
open Go
variable{t:T}{x:a_}{id n:Nat}{cs:List J}
def iH:List J:=[O,O,P,aA,O,aA]
def gC(r:Int×T):J:=if r.1=0 then .ar [.agg r.2.cells,O]else .ar [.agg iH,I r.1]
def du(t:T)(x:a_):Int×T:=
 if 1<x.bD.length∨(x.bD.length=1↔x.field≠[])then(8,t)
 else if x.bD.length=1∧t.kind=5 then(match t.bw with|e::_=>(0,e)|[]=>(8,t))
 else if x.bD.length=1∨¬(t.kind=3∨t.kind=4)then(8,t)
 else match t.aP.find? (λf=>f.E==x.field)with|some f=>(0,f.type)|none=>(6,t)
def g_:T→List a_→Int×T
 |t,[]=>(0,t)
 |t,p::r=>if(du t p).1≠0 then du t p else g_ (du t p).2 r
def cS(vars:List B)(x:ba):Int×T:=
 match vars.find? (λv=>v.E==x.var)with
 |none=>(6,⟨0,0,false,[],0,[]⟩)
 |some v=>if eR v.type≠0 then(eR v.type,v.type)else g_ v.type x.bm
theorem rH{packed:Bool}:∀{l:List aJ}{seen:List (List UInt8)},fe packed seen l=0→∀f∈l,cQ f.type=0
 |[],_,_,f,hf=>by cases hf
 | g :: r,seen,h,f,hf=>by
  simp only[fe]at h;have a:f_ packed seen g=0:=by
   by_cases b:f_ packed seen g=0
   ·exact b
   ·rw[af b]at h;exact absurd h b
  rw[ai (by simpa using a)]at h;rcases acU.1 hf with rfl|hf
  · rw [nS]at a;split at a
    ·cases a
    · split at a
      ·cases a
      · split at a
        ·rename_i b;exact absurd a b
        ·rename_i b;simpa using b
  ·exact rH h f hf
theorem mF(h:cQ t=0)(b:t.kind=5):∃e,t.bw=[e]∧cQ e=0:=by
 rw[gB,b]at h;split at h
 ·cases h
 · rename_i a;simp only[aeA]at a;obtain ⟨e,he⟩:∃e,t.bw=[e]:=by
    have:t.bw.length=1:=by simp[hK]at a;exact a.2
    exact aeF.1 this
   refine⟨e,he,?_⟩;simp at h;split at h
   ·cases h
   ·rw[he]at h;exact h
theorem nT(h:cQ t=0)(b:t.kind=3∨t.kind=4):(∀f∈t.aP,cQ f.type=0)∧t.aP.length≤32:=by
 rw[gB]at h;have k1:t.kind≠1:=by omega
 have k2:t.kind≠2:=by omega
 have a:t.kind≠5:=by omega
 rw[ai k1,ai k2,ai a]at h;split at h
 ·cases h
 · split at h
   ·cases h
   ·exact⟨λf hf=>rH h f hf,by omega⟩
theorem UG(h:cQ t=0)(a:(du t x).1=0):cQ (du t x).2=0:=by
 unfold du at a ⊢;split
 ·rename_i hc;rw[af hc]at a;cases a
 · rename_i hc;rw[ai hc]at a;split
   ·rename_i hc;obtain⟨e,he,hs⟩:=mF h hc.2;rw[he];exact hs
   · rename_i hc;rw[ai hc]at a;split
     ·rename_i hc;rw[af hc]at a;cases a
     · rename_i hc;rw[ai hc]at a;split
       · rename_i f hf;exact(nT h (by omega)).1 f (aeG hf)
       ·rename_i hf;rw[hf]at a;cases a
theorem p4{α:Type}(p:α→Bool)(xs:List α):(∃i x,xs.findIdx? p=some i∧xs.find? p=some x∧xs[i]?=some x)∨(xs.findIdx? p=none∧xs.find? p=none):=by
 induction xs with
 |nil=>right;simp
 | cons y d b=>
  rw[aeH,List.find?_cons];by_cases h:p y=true
  ·left;exact⟨0,y,by simp[h],by simp[h],rfl⟩
  · simp only[h,bz,acq];rcases b with⟨i,x,h1,a,c⟩|⟨h1,a⟩
    ·left;exact⟨i+1,x,by simp[h1],by simp[a],by simpa using c⟩
    ·right;simp[h1,a]
section
variable{Φ:ad}{H:AH}{Q:ab}
theorem At.put{H:AH}{cs a:List J}(h:At H id (.row cs))(hc:cs.length=n)(b:a.length=n)(hs:a.all J.scalar=true):au H n (.ptr id 0) (.agg a)=some (H.set id (.row a)):=by rw[h.store,af ⟨rfl,b,hs,by omega⟩];congr 3;show setCells cs 0 a=a;rw[pW (by omega)];rfl
theorem At.all{H:AH}(h:At H id (.row cs))(hc:cs.length=n):W H n true (.ptr id 0)=some (.agg cs):=by rw[h.load,dP hc]
theorem UH(x:a_)(H:AH):aM H false 2 (.agg x.cells)=some (.ak x.cells,H):=by unfold aM;rw[af ⟨rfl,x.len⟩];rfl
theorem BC(x:a_)(i:Nat):aa i (.ak x.cells)=some (.ak (x.cells.drop i)):=rfl
theorem JX(x:a_)(H:AH):W H 1 false (.ak (x.cells.drop 0))=some (.str x.field):=by rw[a_.bQ];rfl
theorem BE(x:a_)(H:AH):W H 1 false (.ak (x.cells.drop 1))=some (aZ U.cells x.bD):=by rw[a_.bQ];rfl
theorem JY:aD [O,O,P,aA,O,aA] []=some (.agg iH):=rfl
theorem UI{g:aJ}(a:Q (.bool (g.E==x.field)) H):S.f201 Φ (.agg g.cells) (.ak x.cells) H Q:=by
 unfold S.f201;have b:aM H false 9 (.agg g.cells)=some (.ak g.cells,H):=by unfold aM;rw[af ⟨rfl,g.len⟩];rfl
 have l0:W H 1 false (.ak (g.cells.drop 0))=some (.str g.E):=rF g;have l1:W H 1 false (.ak (x.cells.drop 0))=some (.str x.field):=JX x H;rw[b];simp only[aK,aa,X,l0,l1,jH];exact a
theorem UJ(Z:Cl Φ S.bg)(hs:cQ t=0)(hl:x.bD.length≤maxLen)(q:∀H',Q (gC (du t x)) H'):S.f186 Φ (.agg t.cells) (.agg x.cells) H Q:=by
 have fin:∀v H',v=gC (du t x)→Q v H':=λv H' h=>by rw[h];exact q H'
 clear q;unfold S.f186;simp only[gZ,UH,aK,eA,lQ,bL,X,ck,aE,aQ,aT];have a:=At.new H (.row iH);change At (H.push (.row [O,O,P,aA,O,aA])) H.n _ at a;generalize (H.push (.row [O,O,P,aA,O,aA]))=H1 at *;generalize H.n=id at *;have bad:∀e:Int,e≠0→(du t x).1=e→Do (aD [O,O,P,aA,O,aA] []) λG=>
   Do (au H1 6 (.ptr id 0) G) λr=>
   Do (W r 6 true (.ptr id 0)) λJ=>
   Q (.ar [J,(I e)]) r:=by
  intro e he h;rw[JY];simp only[X];rw[a.put (n:=6) rfl rfl rfl];simp only[X];rw[(a.set _).all (n:=6) rfl];simp only[X];refine fin _ _ ?_;unfold gC;rw[h,ai he]
 have s:∀u:T,du t x=(0,u)→∀H1,At H1 id (.row iH)→Do (au H1 6 (.ptr id 0) (.agg u.cells)) λw=>
   Do (W w 6 true (.ptr id 0)) λK=>
   Q (.ar [K,O]) w:=by
  intro u hu H1 a;rw[a.put (n:=6) rfl u.len u.scalar];simp only[X];rw[(a.set _).all u.len];simp only[X];refine fin _ _ ?_;unfold gC;rw[hu];rfl
 have z : ∀ b : Bool,(b=true↔(t.kind=3∨t.kind=4))→S.wP Φ (.ak t.cells) (.ak x.cells) (.ptr id 0) Q [.bool b] H1:=by
  intro b L;have A : ∀ c : Bool,(c=true↔(1<x.bD.length∨(x.bD.length=1↔x.field≠[])))→S.wO Φ (.ak t.cells) (.ak x.cells) (.ptr id 0) [.bool b] Q [.bool c] H1:=by
   intro c hc;simp only[S.wO,ay,F];apply aB<;>intro h
   ·exact bad 8 (by decide) (by unfold du;rw[af (hc.1 h)])
   · have n1 : ¬(1<x.bD.length∨(x.bD.length=1↔x.field≠[])):=λy=>h (hc.2 y);have B : ∀d:Bool,(d=true↔(x.bD.length=1∧t.kind=5))→S.wM Φ (.ak t.cells) (.ak x.cells) (.ptr id 0) [.bool b] Q [.bool d] H1:=by
      intro d j;simp only[S.wM,ay,F];apply aB<;>intro h
      · obtain⟨h1,C⟩:=j.1 h;obtain⟨e,he,_⟩:=mF hs C;simp only[eA,mD,X];have M:aL none 6 (aZ T.cells t.bw) (O)=some (eO T.cells 6 t.bw 0):=dF (by rw[he];simp);rw[M];simp only[X];rw[eh T.len (by decide) _ (show t.bw[0]?=some e by rw[he];rfl)];simp only[X];exact s e (by unfold du;rw[ai n1,af ⟨h1,C⟩,he]) _ a
      · have n2 : ¬(x.bD.length=1∧t.kind=5):=λy=>h (j.2 y);have k2 : ∀g:Bool,(g=true↔(x.bD.length=1∨¬(t.kind=3∨t.kind=4)))→S.wL Φ (.ak t.cells) (.ak x.cells) (.ptr id 0) Q [.bool g] H1:=by
         intro g D;simp only[S.wL,ay,F];apply aB<;>intro h
         ·exact bad 8 (by decide) (by unfold du;rw[ai n1,ai n2,af (D.1 h)])
         · have n3:¬(x.bD.length=1∨¬(t.kind=3∨t.kind=4)):=λy=>h (D.2 y);have N:t.kind=3∨t.kind=4:=by omega
           obtain⟨_,hlen⟩:=nT hs N;simp only[aE,S.IX,eA,k3,X];refine S.Bf Z ?_;refine fieldIndex (p:=λf=>f.E==x.field) (λf _ R U=>S.Td Z (UI U)) (by omega) ?_;simp only[aU,X,F];rcases p4 (λf:aJ=>f.E==x.field) t.aP with⟨i,f,h1,l,k⟩|⟨h1,l⟩
           · rw [h1];have m:=(aat.1 k).1;rw[ai (by show ¬(decide ((i:Int)<0)=true);rw[dM];omega)];simp only[fZ];rw[dF m];have V:W H1 6 true (.ak (((t.aP.flatMap aJ.cells).drop (i*9)).drop 1))=some (.agg f.type.cells):=by
              show bE _ 0 6 true=_;rw[w_ aJ.len];have j:t.aP.drop i=f::t.aP.drop (i+1):=by rw[ad_ m];rw[abm m]at k;simp at k;rw[k]
              rw[j,adR,aJ.bQ,acu,adA,ad3,aeI];exact rB f.type.len
             simp only[X,eO,aa,V];exact s f.type (by unfold du;rw[ai n1,ai n2,ai n3,l]) _ a
           · rw[h1,af (by simp[fZ])];exact bad 6 (by decide) (by unfold du;rw[ai n1,ai n2,ai n3,l])
        simp only[BC,BE,dY,bL,X,ck,aE,dO];apply aB<;>intro h
        · refine k2 _ ?_;simp only[beq_eq_false_iff_ne,ne_eq]at h;have:¬x.bD.length=1:=by omega
          rw[←L];simp[this]
        · refine k2 _ ?_;simp only[aeA,bq]at h;have:x.bD.length=1:=by omega
          simp[this]
     simp only[BC,BE,dY,bL,X,cx,aE,eA,lQ];apply aB<;>intro h
     · refine B _ ?_;simp only[bq]at h;have:x.bD.length=1:=by omega
       simp[this]
     · refine B _ ?_;simp only[bq]at h;have:¬x.bD.length=1:=by omega
       simp[this]
  simp only[S.wP,BC,JX,BE,dY,dy,bL,rG,TF,acq,bz,X,ck,aE];apply aB<;>intro h
  · refine A _ ?_;simp only[decide_eq_false_iff_not,gt_iff_lt]at h;have o:¬1<x.bD.length:=by omega
    simp only[o,false_or];by_cases hf:x.field=[]
    · by_cases h1:x.bD.length=1
      ·simp[hf,h1]
      · have:¬((x.bD.length:Int)=1):=by omega
        simp[hf,h1,this]
    · by_cases h1:x.bD.length=1
      ·simp[hf,h1]
      · have e1:((x.bD.length:Int)==1)=false:=by rw[beq_eq_false_iff_ne];omega
        have Y:x.field.isEmpty=false:=by simpa using hf
        simp[hf,h1,e1,Y]
  · refine A _ ?_;simp only[decide_eq_false_iff_not,gt_iff_lt,ad8]at h;have o:1<x.bD.length:=by omega
    simp[o]
 apply aB<;>intro h
 · refine z _ ?_;simp only[beq_eq_false_iff_ne,ne_eq]at h;simp[h]
 · refine z _ ?_;simp only[aeA,bq]at h;simp[h]
end
end Rb

namespace Rb
open Go
variable{vars:List B}{x:ba}
theorem UK:J.b7 iH=true:=rfl
theorem JZ(r:Int×T):(gC r).bI=true:=by
 unfold gC;split
 ·simp[J.bI,J.b7,T.bI]
 ·simp[J.bI,J.b7,UK]
theorem rI(v:B):bE v.cells 0 1 false=some (.str v.E):=by unfold bE;rw[af (by rw[v.len];omega)];rfl
theorem J0(v:B)(H:AH){i:Nat}(h:vars[i]?=some v):W H 6 true (.ak (((vars.flatMap B.cells).drop (i*7)).drop 1))=some (.agg v.type.cells):=by
 have a:=(aat.1 h).1;show bE _ 0 6 true=_;rw[w_ B.len];have b:vars.drop i=v::vars.drop (i+1):=by rw[ad_ a];rw[abm a]at h;simp at h;rw[h]
 rw[b,adR,B.cells,acu,adA,ad3];exact rB v.type.len
theorem BF(x:ba)(H:AH):aM H false 2 (.agg x.cells)=some (.ak x.cells,H):=by unfold aM;rw[af ⟨rfl,x.len⟩];rfl
theorem BG(x:ba)(i:Nat):aa i (.ak x.cells)=some (.ak (x.cells.drop i)):=rfl
theorem J1(x:ba)(H:AH):W H 1 false (.ak (x.cells.drop 0))=some (.str x.var):=by rw[ba.bQ];rfl
theorem BH(x:ba)(H:AH):W H 1 false (.ak (x.cells.drop 1))=some (aZ a_.cells x.bm):=by rw[ba.bQ];rfl
section
variable{Φ:ad}{H:AH}{Q:ab}
theorem UL{v:B}(a:Q (.bool (v.E==x.var)) H):S.f185 Φ (.agg v.cells) (.ak x.cells) H Q:=by
 unfold S.f185;have b:aM H false 7 (.agg v.cells)=some (.ak v.cells,H):=by unfold aM;rw[af ⟨rfl,v.len⟩];rfl
 have l0:W H 1 false (.ak (v.cells.drop 0))=some (.str v.E):=rI v;have l1:W H 1 false (.ak (x.cells.drop 0))=some (.str x.var):=J1 x H;rw[b];simp only[aK,aa,X,l0,l1,jH];exact a
theorem BI{p:B→Bool}{key:Nat}{bH:List J}{xs:List B}(hf:∀x∈xs,∀(R:ab),R (.bool (p x)) H→Φ key ([.agg x.cells]++bH) H R)(hl:xs.length≤9223372036854775807)
  (a:Q (I (fZ (xs.findIdx? p))) H) (b:fC key=none:=by first|assumption|rfl):S.f117 Φ (aZ B.cells xs) (.fn key bH) H Q:=by
 have h:rA 7 Φ (aZ B.cells xs) (.fn key bH) H Q:=Bk B.len (by decide) hf hl a;exact h
theorem UM(Z:Cl Φ S.bg)(u:vars.length≤maxLen)(J:x.bm.length≤maxLen)
  (K:∀v∈vars,bF Φ 124 [.agg v.type.cells] (I (eR v.type)))
  (L:∀(t:T)(p:a_),cQ t=0→p∈x.bm→bF Φ 186 [.agg t.cells,.agg p.cells] (gC (du t p)))
  (w:∀H',Q (gC (cS vars x)) H'):S.f161 Φ (aZ B.cells vars) (.agg x.cells) H Q:=by
 have hm:maxLen=9223372036854775807:=by decide
 rw[hm]at u J;have fin:∀v H',v=gC (cS vars x)→Q v H':=λv H' h=>by rw[h];exact w H'
 clear w;unfold S.f161;simp only[BF,aK,aQ,aT];have g:At (H.push (.row iH)) H.n (.row iH):=At.new H _;change At (H.push (.row [O,O,P,aA,O,aA])) H.n _ at g;generalize (H.push (.row [O,O,P,aA,O,aA]))=a at *;generalize H.n=c at *;have bad:∀(e:Int)(H1:AH),At H1 c (.row iH)→e≠0→(cS vars x).1=e→Do (aD [O,O,P,aA,O,aA] []) λM=>
   Do (au H1 6 (.ptr c 0) M) λy=>
   Do (W y 6 true (.ptr c 0)) λN=>
   Q (.ar [N,(I e)]) y:=by
  intro e H1 z he h;rw[JY];simp only[X];rw[z.put (n:=6) rfl rfl rfl];simp only[X];rw[(z.set _).all (n:=6) rfl];simp only[X];refine fin _ _ ?_;unfold gC;rw[h,ai he]
 refine S.Be Z ?_;refine BI (p:=λv=>v.E==x.var) (λv _ R U=>S.S3 Z (UL U)) u ?_;simp only[aU,X,F];rcases p4 (λv:B=>v.E==x.var) vars with⟨i,v,h1,k,l⟩|⟨h1,k⟩
 · have m:=(aat.1 l).1;have V:=adl l;have o:cS vars x=if eR v.type≠0 then(eR v.type,v.type)else g_ v.type x.bm:=by unfold cS;rw[k]
   rw[h1,ai (by show ¬(decide ((i:Int)<0)=true);rw[dM];omega)];simp only[fZ];rw[dF m];simp only[X,eO,aa,J0 v a l,aK,aQ,aT];rw[cG _ _ _ 6 v.type.len v.type.scalar rfl];simp only[X];rw[ey,dP v.type.len];simp only[X];have Y:At (a.push (.row v.type.cells)) a.n (.row v.type.cells):=At.new a _;have ab:c≠a.n:=g.jF;have A:At (a.push (.row v.type.cells)) c (.row iH):=g.push _;generalize (a.push (.row v.type.cells))=ac at *;generalize a.n=C at *;refine K v V _ _ ?_;simp only[dA,X,F];apply aB<;>intro h
   · have b:eR v.type≠0:=by simpa using h
     exact bad _ _ A b (by rw[o,af b])
   · have b:eR v.type=0:=by simpa using h
     rw[ai (by simpa using b)]at o;have ad:cQ v.type=0:=by
      unfold eR at b;split at b
      ·cases b
      ·exact b
     have main:∀(f:List a_)(i:Nat)(t:T)(H1:AH),x.bm.drop i=f→At H1 c (.row iH)→At H1 C (.row t.cells)→cQ t=0→g_ t f=cS vars x →
       av (S.wt Φ (.ptr c 0) (.ptr C 0) (aZ a_.cells x.bm) (I x.bm.length) Q) ([I i],H1):=by
      intro f;induction f with
      | nil=>intro i t H1 q a3 j r d;have hle:=fb q;refine av.step ?_;simp only[S.wt,ay,aU,X,F];rw[fO];simp only[aE,S.Ip];rw[j.all t.len];simp only[X];rw[a3.put (n:=6) rfl t.len t.scalar];simp only[X];rw[(a3.set _).all t.len];simp only[X];refine fin _ _ ?_;rw[←d];rfl
      | cons p f ae=>
       intro i t H1 q a3 j r d;obtain⟨m,D,ag⟩:=eN q;refine av.step ?_;simp only[S.wt,ay,aU,X,F];rw[fc,dF m];simp only[X];rw[eh a_.len (by decide) _ D];simp only[X,aK,aQ,aT];rw[cG _ _ _ 2 p.len p.scalar rfl];simp only[X];rw[(j.push _).all t.len,ey,dP p.len];simp only[X];refine L t p r (adl D) _ _ ?_;simp only[g_]at d;have b3:=a3.push (.row p.cells);have G:=j.push (.row p.cells);generalize H1.push (.row p.cells)=H2 at *;by_cases he:(du t p).1=0
       · rw[ai (by simpa using he)]at d;have s:gC (du t p) = .ar [.agg (du t p).2.cells,O]:=by unfold gC;rw[af he]
         rw[s];simp only[bo,adW,adX,X];rw[cG _ _ _ 6 (du t p).2.len (du t p).2.scalar rfl];simp only[X,dA,F];rw[dC,ey,dP (du t p).2.len];simp only[X];rw[(G.push _).put t.len (du t p).2.len (du t p).2.scalar];simp only[X,br];rw[bJ,iY i];exact ae (i+1) _ _ ag ((b3.push _).cd ab _) ((G.push _).set _) (UG r he) d
       · rw[af he]at d;have s:gC (du t p) = .ar [.agg iH,I (du t p).1]:=by unfold gC;rw[ai he]
         rw[s];simp only[bo,adW,adX,X];rw[cG _ _ _ 6 rfl rfl rfl];simp only[X,dA,F];rw[af (by simpa using he)];exact bad _ _ (b3.push _) he (by rw[←d])
     simp only[BG,BH,dY,X];exact main x.bm 0 v.type ac rfl A Y ad o.symm
 · rw[h1,af (by simp[fZ])];exact bad 6 _ g (by decide) (by unfold cS;rw[k])
end
end Rb

namespace Rb
open Go
variable{t:T}{p:T→Bool}{key:Nat}{bH:List J}{xs:List T}{n step:Int}
mutual
def fm:T→Bool
 | .mk kind size packed aP b5 bw=>((kind==2&&decide (size>1))||xt bw)||xv aP
def UN:aJ→Bool
 | .mk E type bits be=>fm type
def xt:List T→Bool
 |[]=>false
 |t::r=>fm t||xt r
def xv:List aJ→Bool
 |[]=>false
 |f::r=>UN f||xv r
end
mutual
def fo:T→Bool
 | .mk kind size packed aP b5 bw=>((packed&&fm (.mk kind size packed aP b5 bw))||xw bw)||xx aP
def UO:aJ→Bool
 | .mk E type bits be=>fo type
def xw:List T→Bool
 |[]=>false
 |t::r=>fo t||xw r
def xx:List aJ→Bool
 |[]=>false
 |f::r=>UO f||xx r
end
theorem J2:∀l:List T,xt l=l.any fm
 |[]=>rfl
 |t::r=>by rw[xt,J2 r,aeJ]
theorem J3:∀l:List aJ,xv l=l.any λf=>fm f.type
 |[]=>rfl
 |f::r=>by rw[xv,J3 r,aeJ];cases f;rfl
theorem BJ:∀l:List T,xw l=l.any fo
 |[]=>rfl
 |t::r=>by rw[xw,BJ r,aeJ]
theorem BK:∀l:List aJ,xx l=l.any λf=>fo f.type
 |[]=>rfl
 |f::r=>by rw[xx,BK r,aeJ];cases f;rfl
theorem UP(t:T):fm t=(((t.kind==2&&decide (t.size>1))||t.bw.any fm)||t.aP.any λf=>fm f.type):=by cases t;rw[fm,J2,J3]
theorem UQ(t:T):fo t=(((t.packed&&fm t)||t.bw.any fo)||t.aP.any λf=>fo f.type):=by cases t;rw[fo,BJ,BK]
theorem fP(ht:t.ok):t.aP.length≤9223372036854775807∧(∀f∈t.aP,f.type.ok)∧t.bw.length≤9223372036854775807∧∀e∈t.bw,e.ok:=by
 have hm:maxLen=9223372036854775807:=by decide
 cases t with
 | mk kind size packed aP b5 bw=>obtain⟨_,_,h1,b,_,a,c⟩:=ht;rw[hm]at h1 a;exact⟨h1,λf hf=>by have:=aJ.dT.1 b f hf;cases f;exact this.2.1,a,T.dT.1 c⟩
section
variable{Φ:ad}{H:AH}{Q:ab}
theorem UR(hf:∀x∈xs,∀(R:ab),R (.bool (p x)) H→Φ key ([.agg x.cells]++bH) H R)(hl:xs.length≤9223372036854775807)
  (a:Q (I (fZ (xs.findIdx? p))) H) (b:fC key=none:=by first|assumption|rfl):S.f193 Φ (aZ T.cells xs) (.fn key bH) H Q:=by
 have h:rA 6 Φ (aZ T.cells xs) (.fn key bH) H Q:=Bk T.len (by decide) hf hl a;exact h
theorem J4(Z:Cl Φ S.bg)(hf:∀x∈xs,∀(R:ab),R (.bool (p x)) H→Φ key ([.agg x.cells]++bH) H R)(hl:xs.length≤9223372036854775807)
  (a:Q (.bool (xs.any p)) H) (b:fC key=none:=by first|assumption|rfl):Φ 167 [aZ T.cells xs,.fn key bH] H Q:=by
 refine S.SR Z ?_;unfold S.f167;refine S.S_ Z (UR hf hl ?_);simp only[ec,X,xr];exact a
theorem xy(f:aJ)(H:AH):aM H false 9 (.agg f.cells)=some (.ak f.cells,H):=by unfold aM;rw[af ⟨rfl,f.len⟩];rfl
theorem J5(f:aJ)(H:AH):W H 6 true (.ak (f.cells.drop 1))=some (.agg f.type.cells):=by show bE _ 0 6 true=_;rw[aJ.bQ,adA,ad3];exact rB f.type.len
theorem US(Z:Cl Φ S.bg)(g:t.aP.length≤9223372036854775807)(i:t.bw.length≤9223372036854775807)(hf:∀f∈t.aP,bF Φ 166 [.agg f.type.cells] (.bool (fm f.type)))
  (he:∀e∈t.bw,bF Φ 166 [.agg e.cells] (.bool (fm e))) (d:Q (.bool (fm t)) H):S.f166 Φ (.agg t.cells) H Q:=by
 have fin:∀b,b=fm t→Q (.bool b) H:=λb h=>by rw[h];exact d
 clear d;rw[UP]at fin;unfold S.f166;simp only[gZ,aK,eA,lQ,rE,bL,dy,X,cx];have k1:∀b:Bool,b=((t.kind==2&&decide (t.size>1))||t.bw.any fm)→G (S.wy Φ (.ak t.cells) Q) [.bool b] H:=by
  intro b a;rw[←a]at fin;simp only[aE,S.wy,ay,ck,eA,k3,X];apply aB<;>intro h
  · refine BA Z (p:=λf=>fm f.type) (λf j R c=>?_) g (fin _ (by rw[h];rfl));refine S.S9 Z ?_;unfold S.f192;simp only[xy,aK,aa,X,J5];exact hf f j _ _ c
  · simp only[aeA]at h;exact fin _ (by rw[h];rfl)
 have k2:∀b:Bool,b=(t.kind==2&&decide (t.size>1))→G (S.wB Φ (.ak t.cells) Q) [.bool b] H:=by
  intro b a;rw[←a]at k1;simp only[aE,S.wB,ay,ck,eA,mD,X];apply aB<;>intro h
  ·refine J4 Z (p:=fm) (λe k R c=>he e k _ _ c) i (k1 _ (by rw[h];rfl))
  · simp only[aeA]at h;exact k1 _ (by rw[h];rfl)
 apply aB<;>intro h
 ·exact k2 _ (by rw[h];rfl)
 · simp only[aeo]at h;exact k2 _ (by rw[h];rfl)
theorem UT(Z:Cl Φ S.bg)(g:t.aP.length≤9223372036854775807)(i:t.bw.length≤9223372036854775807)(j:bF Φ 166 [.agg t.cells] (.bool (fm t)))(hf:∀f∈t.aP,bF Φ 125 [.agg f.type.cells] (.bool (fo f.type)))
  (he:∀e∈t.bw,bF Φ 125 [.agg e.cells] (.bool (fo e))) (d:Q (.bool (fo t)) H):S.f125 Φ (.agg t.cells) H Q:=by
 have fin:∀b,b=fo t→Q (.bool b) H:=λb h=>by rw[h];exact d
 clear d;rw[UQ]at fin;unfold S.f125;simp only[gZ,aK,eA,xm,j9,X,cx];have k1:∀b:Bool,b=((t.packed&&fm t)||t.bw.any fo)→G (S.vZ Φ (.ak t.cells) Q) [.bool b] H:=by
  intro b a;rw[←a]at fin;simp only[aE,S.vZ,ay,ck,eA,k3,X];apply aB<;>intro h
  · refine BA Z (p:=λf=>fo f.type) (λf k R c=>?_) g (fin _ (by rw[h];rfl));refine S.SU Z ?_;unfold S.f169;simp only[xy,aK,aa,X,J5];exact hf f k _ _ c
  · simp only[aeA]at h;exact fin _ (by rw[h];rfl)
 have k2:∀b:Bool,b=(t.packed&&fm t)→G (S.v7 Φ (.ak t.cells) Q) [.bool b] H:=by
  intro b a;rw[←a]at k1;simp only[aE,S.v7,ay,ck,eA,mD,X];apply aB<;>intro h
  ·refine J4 Z (p:=fo) (λe l R c=>he e l _ _ c) i (k1 _ (by rw[h];rfl))
  · simp only[aeA]at h;exact k1 _ (by rw[h];rfl)
 apply aB<;>intro h
 ·exact j _ _ (k2 _ (by rw[h];rfl))
 · simp only[aeo]at h;exact k2 _ (by rw[h];rfl)
def cf(n step:Int):Int:=abF .i64 (abF .i64 ((abF .i64 (abF .i64 (n+step)-1)).tdiv step)*step)
theorem p5(h:step≠0)(a:Q (I (cf n step)) H):S.f196 Φ (I n) (I step) H Q:=by unfold S.f196;simp only[br,cM,X];rw[k0 _ _ _ h];simp only[X,fY];exact a
theorem UU(b:0≤n)(c:n≤1000000000)(d:1≤step)(e:step≤1000000):cf n step=(n+step-1)/step*step:=by
 unfold cf;have hs:step≠0:=by omega
 have e1:=Int.ediv_mul_le (n+step-1) hs;have a:0≤(n+step-1)/step:=aeK (by omega) (by omega);have f:(n+step-1)/step≤n+step-1:=aeL _ (by omega);have g:0≤(n+step-1)/step*step:=aeM a (by omega);rw[wrap_i64 (n:=n+step) (by omega) (by omega),wrap_i64 (n:=n+step-1) (by omega) (by omega),aeN (by omega),wrap_i64 (n:=(n+step-1)/step) (by omega) (by omega),bJ]
end
section
variable{C:Ctx}(Z:Cl (ae C) S.bg)
include Z
theorem UW:∀t:T,t.ok→bF (ae C) 166 [.agg t.cells] (.bool (fm t)):=by refine T.ind λt a b ht=>?_;obtain⟨h1,c,d,g⟩:=fP ht;exact λH Q h=>S.SQ Z (US Z h1 d (λf hf=>a f hf (c f hf)) (λe he=>b e he (g e he)) h)
theorem UX:∀t:T,t.ok→bF (ae C) 125 [.agg t.cells] (.bool (fo t)):=by refine T.ind λt a b ht=>?_;obtain⟨h1,c,d,g⟩:=fP ht;exact λH Q h=>S.Sm Z (UT Z h1 d (UW Z t ht) (λf hf=>a f hf (c f hf)) (λe he=>b e he (g e he)) h)
end
end Rb

namespace Rb
open Go
variable{sz len:Nat}{x:J}{cs:List J}
structure cm where
 at_:Int
 len:Int
 kind:Int
 bits:Bool
 bit:Int
 be:Int
def cm.cells(s:cm):List J:=[I s.at_,I s.len,I s.kind,.bool s.bits,I s.bit,I s.be]
structure PL where
 size:Int
 bZ:Int
 de:List cm
 bit:Int
abbrev aH(n:Int):Int:=abF .i64 n
def ha(p:PL)(f:aJ):Int:=if aH (p.bit.tdiv (aH (8*f.type.size)))≠aH ((aH (aH (p.bit+f.be)-1)).tdiv (aH (8*f.type.size)))then cf p.bit (aH (8*f.type.size))else p.bit
def k4(p:PL)(f:aJ):PL:=
 if f.be=0 then
  {p with bit:=cf p.bit (aH (8*f.type.size)),de:=p.de++[⟨aH ((cf p.bit (aH (8*f.type.size))).tdiv 8),0,1,true,(cf p.bit (aH (8*f.type.size))).tmod 8,0⟩]}
 else
  {p with bit:=aH (ha p f+f.be),de:=p.de++[⟨aH ((ha p f).tdiv 8),aH (aH (aH ((aH (aH (ha p f+f.be)-1)).tdiv 8)-aH ((ha p f).tdiv 8))+1),1,true,(ha p f).tmod 8,f.be⟩]}
def ek(packed:Bool)(f:aJ)(bZ:Int):Int:=if packed=true∨(f.bits=true∧f.be=0)then 1 else if f.bits=true then f.type.size else bZ
def xz(p:PL)(f:aJ)(size bZ:Int):PL:={p with bit:=aH (8*aH (cf (aH ((cf p.bit 8).tdiv 8)) bZ+size)),de:=p.de++[⟨cf (aH ((cf p.bit 8).tdiv 8)) bZ,size,f.type.kind,false,0,0⟩]}
def k5(p:PL):PL:={p with size:=max p.size (aH ((cf p.bit 8).tdiv 8))}
def hM(packed:Bool)(kind:Int)(p:PL)(f:aJ)(g:Int×Int):PL:=
 let p1:PL:={p with bZ:=max p.bZ (ek packed f g.2),bit:=if kind=4 then 0 else p.bit}
 k5 (if f.bits=true then k4 p1 f else xz p1 f g.1 (ek packed f g.2))
mutual
def bb:T→(Int×Int)×Bool
 | .mk kind size packed aP b5 bw=>
  if kind=1∨kind=2 then((size,size),true)
  else if kind=5 then((aH ((i6 bw).1.1*b5),(i6 bw).1.2),(i6 bw).2&&decide (aH ((i6 bw).1.1*b5)≤65536))
  else match dQ packed kind ⟨0,1,[],0⟩ aP with
   |none=>((0,0),false)
   |some p=>((cf p.size p.bZ,p.bZ),decide (cf p.size p.bZ≤65536))
def i6:List T→(Int×Int)×Bool
 |[]=>((0,0),false)
 |t::_=>bb t
def BL:aJ→(Int×Int)×Bool
 | .mk E type bits be=>bb type
def dQ(packed:Bool)(kind:Int)(p:PL):List aJ→Option PL
 |[]=>some p
 |f::r=>if(BL f).2=true then dQ packed kind (hM packed kind p f (BL f).1) r else none
end
theorem rJ(f:aJ):BL f=bb f.type:=by cases f;rfl
theorem mG(t:T):bb t=if t.kind=1∨t.kind=2 then((t.size,t.size),true)
  else if t.kind=5 then((aH ((i6 t.bw).1.1*t.b5),(i6 t.bw).1.2),(i6 t.bw).2&&decide (aH ((i6 t.bw).1.1*t.b5)≤65536))
  else match dQ t.packed t.kind ⟨0,1,[],0⟩ t.aP with
   |none=>((0,0),false)
   |some p=>((cf p.size p.bZ,p.bZ),decide (cf p.size p.bZ≤65536)):=by cases t;rfl
theorem gY.UY{H0 H:AH}{sz bytes len m:Nat}{x y:J}{cells news:List J}{K:ab}(h:gY H0 H sz x len cells)(g:ef H sz y=some (m,news))(q:news.length=m*sz)(hs:news.all J.scalar=true)(j:m≠0)
  (k:(len+m)*bytes≤140737488355328) (hl:len+m≤9223372036854775807) (l:∀p H',gY H0 H' sz p (len+m) (cells++news)→(∀i o,At H i o→(∀a b,o ≠ .tok a b)→At H' i o)→K p H'):aw (bR H false sz bytes x y) K:=by
 obtain⟨c,tk,rfl,hc,r⟩:=h;have hlen:(cells++news).length=(len+m)*sz:=by simp[hc,q,aa3]
 rcases r with⟨rfl,rfl⟩|⟨t,rfl,h1,u,f⟩
 · refine⟨.ax (.own H.n) (0+m) (cells++news),H.push (.tok ((0+m)*sz) sz),?_,l _ _ ⟨c.trans (AH.Ext.push _ _),_,rfl,hlen,.inr ⟨H.n,rfl,c.1,adn _,AH.pV _ _⟩⟩ λi o d _=>d.push _⟩;simp only[bR,g,hs,not_true_eq_false,bz,ai j];rw[ai (by simp only[ad8];exact⟨hc,k,hl⟩)]
 · refine ⟨.ax (.own H.n) (len+m) (cells++news),(H.set t .gone).push (.tok ((len+m)*sz) sz),?_,l _ _ ⟨(c.set h1 _).trans (AH.Ext.push _ _),_,rfl,hlen,.inr ⟨H.n,rfl,c.1,adn _,AH.pV _ _⟩⟩ λi o d s=>?_⟩
   · simp only[bR,g,hs,not_true_eq_false,bz,ai j];rw[ai (by simp only[ad8];exact⟨hc,k,hl⟩)];simp[f]
   ·exact(d.cd (λe=>by subst e;rw[d.2]at f;exact s _ _ f) _).push _
theorem gY.other{H0 H:AH}{cells:List J}(h:gY H0 H sz x len cells){id:Nat}(b:At H id (.row cs))(c:H0.n≤id)(y:bS):gY H0 (H.set id y) sz x len cells:=by
 obtain⟨d,tk,rfl,hc,f⟩:=h;refine⟨d.set c y,tk,rfl,hc,?_⟩;rcases f with h|⟨t,rfl,h1,g,a⟩
 ·exact .inl h
 ·exact .inr ⟨t,rfl,h1,g,by rw[AH.cd _ _ (λe=>by subst e;rw[b.2]at a;cases a)];exact a⟩
theorem gY.push{H0 H:AH}{cells:List J}(h:gY H0 H sz x len cells)(y:bS):gY H0 (H.push y) sz x len cells:=by
 obtain⟨a,tk,rfl,hc,b⟩:=h;refine⟨a.trans (AH.Ext.push _ _),tk,rfl,hc,?_⟩;rcases b with h|⟨t,rfl,h1,c,d⟩
 ·exact .inl h
 ·exact .inr ⟨t,rfl,h1,Nat.lt_succ_of_lt c,by rw[AH.JC _ _ (by omega)];exact d⟩
def dU(H0 H:AH)(id:Nat)(p:PL):Prop:=∃x,At H id (.row [I p.size,I p.bZ,x,I p.bit])∧gY H0 H 6 x p.de.length (p.de.flatMap cm.cells)∧H0.n≤id
theorem dU.push{H0 H:AH}{id:Nat}{p:PL}(h:dU H0 H id p)(y:bS):dU H0 (H.push y) id p:=by obtain⟨x,h1,a,b⟩:=h;exact⟨x,h1.push y,a.push y,b⟩
theorem dU.other{H0 H:AH}{id i:Nat}{p:PL}(h:dU H0 H id p)(a:At H i (.row cs))(hi:H0.n≤i)(b:id≠i)(y:bS):dU H0 (H.set i y) id p:=by obtain⟨x,h1,c,d⟩:=h;exact⟨x,h1.cd b y,c.other a hi y,d⟩
def i7(H H':AH)(id:Nat):Prop:=∀i cs,i≠id→At H i (.row cs)→At H' i (.row cs)
theorem i7.refl(H:AH)(id:Nat):i7 H H id:=λ_ _ _ h=>h
theorem i7.trans{H H' a:AH}{id:Nat}(h:i7 H H' id)(k:i7 H' a id):i7 H a id:=λi cs hi b=>k i cs hi (h i cs hi b)
section
variable{H0 H:AH}{id:Nat}{p:PL}{K:AH→Prop}
theorem dU.xA(h:dU H0 H id p):W H 1 false (.ptr id 0)=some (I p.size):=by obtain⟨x,h1,_⟩:=h;rw[h1.load];rfl
theorem dU.BM(h:dU H0 H id p):W H 1 false (.ptr id 1)=some (I p.bZ):=by obtain⟨x,h1,_⟩:=h;rw[h1.load];rfl
theorem dU.nU(h:dU H0 H id p):W H 1 false (.ptr id 3)=some (I p.bit):=by obtain⟨x,h1,_⟩:=h;rw[h1.load];rfl
theorem dU.J6(h:dU H0 H id p)(v:Int)(b:∀H',dU H0 H' id {p with size:=v}→i7 H H' id→K H'):Do (au H 1 (.ptr id 0) (I v)) K:=by obtain⟨x,h1,c,a⟩:=h;refine⟨_,by rw[h1.store,af ⟨rfl,rfl,rfl,by simp⟩];rfl,b _ ⟨x,h1.set _,c.other h1 a _,a⟩ λi cs hi d=>d.cd hi _⟩
theorem dU.UZ(h:dU H0 H id p)(v:Int)(b:∀H',dU H0 H' id {p with bZ:=v}→i7 H H' id→K H'):Do (au H 1 (.ptr id 1) (I v)) K:=by obtain⟨x,h1,c,a⟩:=h;refine⟨_,by rw[h1.store,af ⟨rfl,rfl,rfl,by simp⟩];rfl,b _ ⟨x,h1.set _,c.other h1 a _,a⟩ λi cs hi d=>d.cd hi _⟩
theorem dU.rK(h:dU H0 H id p)(v:Int)(b:∀H',dU H0 H' id {p with bit:=v}→i7 H H' id→K H'):Do (au H 1 (.ptr id 3) (I v)) K:=by obtain⟨x,h1,c,a⟩:=h;refine⟨_,by rw[h1.store,af ⟨rfl,rfl,rfl,by simp⟩];rfl,b _ ⟨x,h1.set _,c.other h1 a _,a⟩ λi cs hi d=>d.cd hi _⟩
theorem dU.app(h:dU H0 H id p)(hl:p.de.length<1000)(s:cm)(g:∀H',dU H0 H' id {p with de:=p.de++[s]}→i7 H H' id→K H') :
  Do (W H 1 false (.ptr id 2)) λj=>
  aw (cb H false 6 1 [O,O,O,P,O,O] [(0,6,.agg s.cells)]) λk l=>
  aw (bR l false 6 48 j k) λn o=>
  Do (au o 1 (.ptr id 2) n) K:=by
 obtain⟨x,h1,q,e⟩:=h;have e1:W H 1 false (.ptr id 2)=some x:=by rw[h1.load];rfl
 have r:cb H false 6 1 [O,O,O,P,O,O] [(0,6,.agg s.cells)]=some (.ax .full 1 s.cells,H):=rfl;rw[e1,r];simp only[X,aK];refine q.UY (m:=1) (news:=s.cells) rfl rfl rfl (by decide) (by omega) (by omega) λc H' f hk=>?_;have Y:=hk id _ h1 (by intro a b h;cases h);have d:c.scalar=true∧c.known=true∧c.cells=[c]:=by obtain⟨_,tk,rfl,_⟩:=f;exact⟨rfl,rfl,rfl⟩
 refine⟨_,by rw[Y.store,af ⟨d.2.1,by rw[d.2.2];rfl,by rw[d.2.2];simp[d.1],by simp⟩,d.2.2];rfl,g _ ⟨c,Y.set _,?_,e⟩ λi cs hi t=>(hk i _ t (by intro a b h;cases h)).cd hi _⟩;have:=f.other Y e (.row [I p.size,I p.bZ,c,I p.bit]);simpa using this
end
end Rb

namespace Rb
open Go
theorem xB(a b:Int):aD [O,O] [(0,1,I a),(1,1,I b)]=some (.agg [I a,I b]):=rfl
theorem U0(a:Int):aD [O,O] [(0,1,I a)]=some (.agg [I a,O]):=rfl
theorem U1(a l k b:Int):aD [O,O,O,P,O,O] [(0,2,.agg [I a,I l]),(2,1,I k),(3,1,aV),(4,1,I b)]=some (.agg [I a,I l,I k,aV,I b,O]):=rfl
theorem U2(a l k b w:Int):aD [O,O,O,P,O,O] [(0,2,.agg [I a,I l]),(2,1,I k),(3,1,aV),(4,1,I b),(5,1,I w)]=some (.agg [I a,I l,I k,aV,I b,I w]):=rfl
theorem U3(a l k:Int):aD [O,O,O,P,O,O] [(0,2,.agg [I a,I l]),(2,1,I k)]=some (.agg [I a,I l,I k,P,O,O]):=rfl
theorem J7(f:aJ)(i j:Nat):aa i (.ak (f.cells.drop j))=some (.ak ((f.cells.drop j).drop i)):=rfl
theorem J8(f:aJ)(i:Nat):aa i (.ak f.cells)=some (.ak (f.cells.drop i)):=rfl
theorem U4(f:aJ)(H:AH):W H 1 false (.ak (f.cells.drop 7))=some (.bool f.bits):=by cases f with|mk n t b w=>cases t;rfl
theorem BN(f:aJ)(H:AH):W H 1 false (.ak (f.cells.drop 8))=some (I f.be):=by cases f with|mk n t b w=>cases t;rfl
theorem J9(f:aJ)(H:AH):W H 1 false (.ak ((f.cells.drop 1).drop 1))=some (I f.type.size):=by cases f with|mk n t b w=>cases t;rfl
theorem J_(i o:Nat):aC (.ptr i o)=some (.ptr i o):=rfl
section
variable{Φ:ad}{H0 H:AH}{Q:ab}
theorem U5(Z:Cl Φ S.bg){f:aJ}{p:PL}{id:Nat}(c:dU H0 H id p)(hl:p.de.length<1000)(g:aH (8*f.type.size)≠0)(k:∀H',dU H0 H' id (k4 p f)→i7 H H' id→Q (.ar []) H'):S.f195 Φ (.ptr id 0) (.agg f.cells) H Q:=by
 unfold S.f195;simp only[xy,aK,J8,J7,J9,BN,fY,bL,X,F,J_,aa,abg];apply aB<;>intro h
 · have hw:f.be=0:=by simpa using h
   simp only[c.nU,X];refine S.pU Z (p5 g ?_);refine c.rK _ λH1 a d=>?_;have i:=a.nU;simp only[i,X,k0 _ _ _ (show(8:Int)≠0 by decide),nN _ _ _ (show(8:Int)≠0 by decide),U0,U1];refine a.app hl ⟨aH ((cf p.bit (aH (8*f.type.size))).tdiv 8),0,1,true,(cf p.bit (aH (8*f.type.size))).tmod 8,0⟩ λH2 e j=>k H2 ?_ (d.trans j);unfold k4;rw[af hw];exact e
 · have hw:¬f.be=0:=by simpa using h
   simp only[c.nU,X,k0 _ _ _ g,br,cM,dA,F];have k1:∀(b:Int)(H1:AH),b=ha p f→dU H0 H1 id {p with bit:=b}→i7 H H1 id→G (S.wZ Φ (.ptr id 0) (.ak f.cells) Q) [] H1:=by intro b H1 l a d;have i:=a.nU;simp only[aE,S.wZ,J_,aa,abg,X,i,k0 _ _ _ (show(8:Int)≠0 by decide),nN _ _ _ (show(8:Int)≠0 by decide),BN,br,cM,xB,U2];refine a.app hl ⟨aH (b.tdiv 8),aH (aH (aH ((aH (aH (b+f.be)-1)).tdiv 8)-aH (b.tdiv 8))+1),1,true,b.tmod 8,f.be⟩ λH2 e j=>?_;have m:=e.nU;simp only[m,X,br];refine e.rK _ λn o q=>k n ?_ ((d.trans j).trans q);unfold k4;rw[ai hw,←l];exact o
   apply aB<;>intro h
   · refine S.pU Z (p5 g ?_);refine c.rK _ λH1 a d=>k1 _ H1 ?_ a d;unfold ha;rw[af (by simpa using h)]
   · refine k1 p.bit H ?_ c (i7.refl _ _);unfold ha;rw[ai (by simpa using h)]
theorem U6{t:T}{f:aJ}{bZ:Int}(a:Q (I (ek t.packed f bZ)) H):S.f194 Φ (.agg t.cells) (.agg f.cells) (I bZ) H Q:=by
 have fin:∀v,v=ek t.packed f bZ→Q (I v) H:=λv h=>by rw[h];exact a
 clear a;unfold S.f194;simp only[gZ,xy,aK,eA,xm,J8,U4,BN,bL,X,ck,cx,aE,S.wY,ay,F,J7,J9,acq,bz,aT];unfold ek at fin
 repeat' (apply aB<;>intro h)
 all_goals (refine fin _ ?_;simp_all)
end
end Rb

namespace Rb
open Go
def lS(r:(Int×Int)×Bool):J:= .ar [.agg [I r.1.1,I r.1.2],.bool r.2]
theorem xC{packed:Bool}:∀{l:List aJ}{seen:List (List UInt8)},fe packed seen l=0→∀f∈l,f.bits=true→f.type.kind=1∧1≤f.type.size∧f.type.size≤8
 |[],_,_,f,hf=>by cases hf
 | g :: r, seen,h,f,hf=>by
  intro c;have hs:=rH h f hf;simp only[fe]at h;have a:f_ packed seen g=0:=by
   by_cases b:f_ packed seen g=0
   ·exact b
   ·rw[af b]at h;exact absurd h b
  rw[ai (by simpa using a)]at h;rcases acU.1 hf with rfl|hf
  · have hk : f.type.kind=1:=by
      by_cases hk:f.type.kind=1
      ·exact hk
      · exfalso;rw[nS]at a;split at a
        ·cases a
        · split at a
          ·cases a
          · split at a
            ·rename_i b;exact b a
            ·rw[af (.inr ⟨c,.inl hk⟩)]at a;cases a
    refine⟨hk,?_⟩;rw[gB,hk]at hs;split at hs
    ·cases hs
    · simp only[aT]at hs;split at hs
      · rename_i d;simp[eQ]at d;omega
      ·cases hs
  ·exact xC h f hf c
theorem Ka{t:T}(h:cQ t=0)(b:t.kind=3∨t.kind=4):fe t.packed [] t.aP=0:=by
 rw[gB]at h;have k1:t.kind≠1:=by omega
 have k2:t.kind≠2:=by omega
 have a:t.kind≠5:=by omega
 rw[ai k1,ai k2,ai a]at h;split at h
 ·cases h
 · split at h
   ·cases h
   ·exact h
theorem Kb(a b:Int):eL true [I a,I b]=some (I (max a b)):=Bv a b
section
variable{Φ:ad}{H:AH}{Q:ab}
def hN:List J:=[O,O,aA,O]
theorem Kc(Z:Cl Φ S.bg){t:T}(hs:cQ t=0)(q:t.kind=3∨t.kind=4)
  (ac:∀f∈t.aP,bF Φ 126 [.agg f.type.cells] (lS (bb f.type))) (ad:∀f∈t.aP,(bb f.type).2=true→1≤(bb f.type).1.2)
  (ae:dQ t.packed t.kind ⟨0,1,[],0⟩ t.aP=none→∀H',AH.Ext H H'→Q (.ar [.agg hN,P]) H')
  (ag:∀p,dQ t.packed t.kind ⟨0,1,[],0⟩ t.aP=some p→∀x H',gY H H' 6 x p.de.length (p.de.flatMap cm.cells) →
    Q (.ar [.agg [I (cf p.size p.bZ),I p.bZ,x,I p.bit],.bool (decide (cf p.size p.bZ≤65536))]) H'):S.f170 Φ (.agg t.cells) H Q:=by
 obtain⟨aV,hlen⟩:=nT hs q;have G:=Ka hs q;unfold S.f170;have ah:aD [O,O,aA,O] [(0,2,.agg [O,I 1])]=some (.agg [O,I 1,aA,O]):=rfl;simp only[gZ,aK,aQ,aT,xB,ah,X];rw[cG _ _ _ 4 rfl rfl rfl];simp only[X,eA,k3,dY];have a3:At ((H.push (.row hN)).push (.row [O,I 1,aA,O])) H.n (.row hN):=(At.new H _).push _;have aj:dU H ((H.push (.row hN)).push (.row [O,I 1,aA,O])) (H.push (.row hN)).n ⟨0,1,[],0⟩:=⟨_,At.new _ _,((gY.nil H 6).push _).push _,aa_ _⟩
 have d:H.n≠(H.push (.row hN)).n:=by simp
 have J:H.n≤H.n:=hT _;change av (S.nK Φ (.ak t.cells) (.ptr H.n 0) (.ptr (H.push (.row hN)).n 0) (aZ aJ.cells t.aP) (I t.aP.length) Q) ([O],(H.push (.row hN)).push (.row [O,I 1,aA,O]));generalize ((H.push (.row hN)).push (.row [O,I 1,aA,O]))=al at *;generalize (H.push (.row hN)).n=a at *;have main : ∀(fs:List aJ)(i:Nat)(p:PL)(H1:AH),t.aP.drop i=fs→At H1 H.n (.row hN)→dU H H1 a p→p.de.length≤i→1≤p.bZ→dQ t.packed t.kind p fs=dQ t.packed t.kind ⟨0,1,[],0⟩ t.aP →
   av (S.nK Φ (.ak t.cells) (.ptr H.n 0) (.ptr a 0) (aZ aJ.cells t.aP) (I t.aP.length) Q) ([I i],H1):=by
  intro fs;induction fs with
  | nil=>
   intro i p H1 z b3 m am an g;have hle:=fb z;simp only[dQ]at g;refine av.step ?_;simp only[S.nK,ay,aU,X,F];rw[fO];simp only[aE,S.ID,aa,abg,X,m.xA,m.BM];refine S.pU Z (p5 (by omega) ?_);refine m.J6 _ λH2 r q=>?_;have c3:=q H.n _ d b3;obtain⟨x,d1,d2,d3⟩:=r;have A:x.scalar=true:=by obtain⟨_,tk,rfl,_⟩:=d2;rfl
   rw[d1.all (n:=4) rfl];simp only[X];have l0:W H2 1 false (.ptr a 0)=some (I (cf p.size p.bZ)):=by rw[d1.load];rfl
   rw[l0];simp only[X,gy];rw[c3.put (n:=4) rfl rfl (by simp only[adk,A];rfl)];simp only[X];refine⟨by rw[(d1.cd (λe=>d e.symm) _).load];rfl,?_⟩;rw[(c3.set _).all (n:=4) rfl];simp only[X];exact ag p g.symm x _ (d2.other c3 J _)
  | cons f fs ao=>
   intro i p H1 z b3 m am an g;obtain⟨ap,hf,aq⟩:=eN z;have s:=adl hf;simp only[dQ,rJ]at g;refine av.step ?_;simp only[S.nK,ay,aU,X,F];rw[fc,dF ap];simp only[X];rw[eh aJ.len (by decide) _ hf];simp only[X,aK,aQ,aT];rw[cG _ _ _ 9 f.len f.scalar rfl];simp only[X,aa,abg];rw[ey,Bu];simp only[X];have n7:a≠H1.n:=by obtain⟨x,d1,_⟩:=m;exact d1.jF
   have au:=At.new H1 (.row f.cells);have c3:=b3.push (.row f.cells);have r:=m.push (.row f.cells);generalize H1.push (.row f.cells)=H2 at *;generalize H1.n=o at *;refine ac f s _ _ ?_;simp only[lS,bo,adW,adX,X,aK];rw[cG _ _ _ 2 rfl rfl rfl];simp only[X,dO,F];have n31:a≠H2.n:=by obtain⟨x,d1,_⟩:=r;exact d1.jF
   have d31:=At.new H2 (.row [I (bb f.type).1.1,I (bb f.type).1.2]);have d22:=au.push (.row [I (bb f.type).1.1,I (bb f.type).1.2]);have d3:=c3.push (.row [I (bb f.type).1.1,I (bb f.type).1.2]);have d7:=r.push (.row [I (bb f.type).1.1,I (bb f.type).1.2]);generalize H2.push (.row [I (bb f.type).1.1,I (bb f.type).1.2])=aw at *;generalize H2.n=j at *;apply aB<;>intro h
   · have ax:(bb f.type).2=false:=by simpa using h
     rw[ai (by simp[ax])]at g;have az:aD [O,O,aA,O] []=some (.agg hN):=rfl;rw[az];simp only[X];rw[d3.put (n:=4) rfl rfl rfl];simp only[X];rw[(d3.set _).all (n:=4) rfl];simp only[X];obtain⟨aW,_,⟨A,_⟩,_⟩:=d7;exact ae g.symm _ (A.set J _)
   · have K:(bb f.type).2=true:=by simpa using h
     rw[af K]at g;have aC:=ad f s K;have aF:W aw 1 false (.ptr j 1)=some (I (bb f.type).1.2):=by rw[d31.load];rfl
     simp only[j9,d22.all f.len,aF,X];have aX:1≤ek t.packed f (bb f.type).1.2:=by
      unfold ek;split
      ·omega
      · split
        ·rename_i u;exact(xC G f s u).2.1
        ·exact aC
     refine S.Ta Z (U6 ?_);simp only[d7.BM,X,Kb];refine d7.UZ _ λaG L v=>?_;have M:=v H.n _ d d3;have N:=v o _ (λe=>n7 e.symm) d22;have R:=v j _ (λe=>n31 e.symm) d31;clear v d7 d3 d22 d31;have U:∀(b:Int)(c:AH),b=(if t.kind=4 then 0 else p.bit)→dU H c a {p with bZ:=max p.bZ (ek t.packed f (bb f.type).1.2),bit:=b}→At c H.n (.row hN)→At c o (.row f.cells)→At c j (.row [I (bb f.type).1.1,I (bb f.type).1.2]) →
       S.wE Φ (.ptr a 0) (.ptr o 0) (.ptr j 0) (I (ek t.packed f (bb f.type).1.2)) ([I i],H1) (av (S.nK Φ (.ak t.cells) (.ptr H.n 0) (.ptr a 0) (aZ aJ.cells t.aP) (I t.aP.length) Q)) Q [] c:=by
      intro b c u g7 g3 g22 V;have k2:∀(p2:PL)(k:AH),k5 p2=hM t.packed t.kind p f (bb f.type).1→dU H k a p2→At k H.n (.row hN)→p2.de.length≤i+1→1≤p2.bZ →
        S.wC Φ (.ptr a 0) ([I i],H1) (av (S.nK Φ (.ak t.cells) (.ptr H.n 0) (.ptr a 0) (aZ aJ.cells t.aP) (I t.aP.length) Q)) Q [] k:=by
       intro p2 k aI l aL aM aN;simp only[S.wC,aa,abg,X,l.xA,l.nU];refine S.pU Z (p5 (by decide) ?_);refine⟨l.xA,?_⟩;simp only[k0 _ _ _ (show(8:Int)≠0 by decide),X,Kb];refine l.J6 _ λB C D=>?_;simp only[aE,S.IC,ay,br,X];rw[bJ,iY i];refine ao (i+1) (k5 p2) B aq (D H.n _ d aL) C aM aN ?_;rw[aI];exact g
      have Y:1≤max p.bZ (ek t.packed f (bb f.type).1.2):=by omega
      have l7:W c 1 false (.ptr o 7)=some (.bool f.bits):=by rw[g22.load,JQ]
      simp only[S.wE,aa,abg,X,l7,F];apply aB<;>intro w
      · obtain ⟨aY,a0,a1⟩:=xC G f s w;have hu:aH (8*f.type.size)≠0:=by
         show abF .i64 (8*f.type.size)≠0;rw[bJ];omega
        rw[g22.all f.len];simp only[X];refine S.Tb Z (U5 Z g7 (by show p.de.length<1000;omega) hu λk l y=>?_);simp only[aE];refine k2 _ k ?_ l (y H.n _ d g3) ?_ ?_
        · unfold hM;simp only[w,aT,u]
        · unfold k4;split<;>(simp only[ad9,aeO,aeP];omega)
        · unfold k4;split<;>exact Y
      · simp only[aeo]at w;have ls:W c 1 false (.ptr j 0)=some (I (bb f.type).1.1):=by rw[V.load];rfl
        have aO:W c 1 false (.ptr o 1)=some (I f.type.kind):=by rw[g22.load,JR]
        simp only[g7.nU,X];refine S.pU Z (p5 (by decide) ?_);simp only[k0 _ _ _ (show(8:Int)≠0 by decide),X];refine S.pU Z (p5 (by omega) ?_);simp only[ls,aO,X,xB,U3];refine g7.app (by show p.de.length<1000;omega) ⟨cf (aH ((cf b 8).tdiv 8)) (ek t.packed f (bb f.type).1.2),(bb f.type).1.1,f.type.kind,false,0,0⟩ λk l y=>?_;have aR:=y j _ (λe=>n31 e.symm) V;have aS:W k 1 false (.ptr j 0)=some (I (bb f.type).1.1):=by rw[aR.load];rfl
        simp only[aS,X,br,fY];refine l.rK _ λB C D=>?_;simp only[aE];refine k2 _ B ?_ C (D H.n _ d (y H.n _ d g3)) ?_ Y
        · unfold hM;simp only[w,acq,bz,u];rfl
        · show(p.de++[_]).length≤i+1;simp only[ad9,aeO,aeP];omega
     simp only[eA,lQ,bL,X,F,aE];apply aB<;>intro ab
     · refine L.rK _ λc g7 E=>U _ c ?_ g7 (E H.n _ d M) (E o _ (λe=>n7 e.symm) N) (E j _ (λe=>n31 e.symm) R);rw[af (by simpa using ab)]
     · refine U p.bit aG ?_ L M N R;rw[ai (by simpa using ab)]
 exact main t.aP 0 _ al rfl a3 aj (hT _) (by decide) rfl
end
end Rb

namespace Rb
open Go
theorem rL{t:T}(h:cQ t=0):t.kind=1∨t.kind=2∨t.kind=5∨t.kind=3∨t.kind=4:=by
 rw[gB]at h;split at h
 ·cases h
 · rename_i a;simp only[aeA]at a;unfold hK at a;by_cases h1:t.kind=1
   ·exact .inl h1
   by_cases b:t.kind=2
   ·exact .inr (.inl b)
   by_cases c:t.kind=3
   ·exact .inr (.inr (.inr (.inl c)))
   by_cases d:t.kind=4
   ·exact .inr (.inr (.inr (.inr d)))
   by_cases e:t.kind=5
   ·exact .inr (.inr (.inl e))
   simp[h1,b,c,d,e]at a
section
variable{Φ:ad}{H:AH}{Q:ab}
theorem BO:aD [O,O] []=some (.agg [O,O]):=rfl
theorem U7(Z:Cl Φ S.bg){t:T}(hs:cQ t=0)
  (v:∀f∈t.aP,bF Φ 126 [.agg f.type.cells] (lS (bb f.type))) (w:∀f∈t.aP,(bb f.type).2=true→1≤(bb f.type).1.2)
  (z:∀e∈t.bw,bF Φ 126 [.agg e.cells] (lS (bb e))) (q:∀H',Q (lS (bb t)) H'):S.f126 Φ (.agg t.cells) H Q:=by
 have fin:∀r,r=bb t→∀H',Q (lS r) H':=λr h=>by rw[h];exact q
 clear q;rw[mG]at fin;unfold S.f126;simp only[gZ,aK,aQ,aT,eA,lQ,bL,X,F];have a3:=At.new H (.row [O,O]);generalize H.push (.row [O,O])=c at *;generalize H.n=s at *;have k2 : ∀b:Bool,(b=true↔(t.kind=1∨t.kind=2))→G (S.v8 Φ (.ak t.cells) (.ptr s 0) (I t.kind) Q) [.bool b] c:=by
  intro b u;simp only[aE,S.v8,ay,F];apply aB<;>intro h
  · have d:=u.1 h;rw[af d]at fin;simp only[eA,rE,X,xB];rw[a3.put (n:=2) rfl rfl rfl];simp only[X];rw[(a3.set _).all (n:=2) rfl];simp only[X];exact fin _ rfl _
  · have d:¬(t.kind=1∨t.kind=2):=λy=>h (u.2 y);rw[ai d]at fin;simp only[bL,X,F];apply aB<;>intro h
    · have g:t.kind=5:=by simpa using h
      rw[af g]at fin;obtain⟨e,he,_⟩:=mF hs g;simp only[eA,mD,X];have A:aL none 6 (aZ T.cells t.bw) (O)=some (eO T.cells 6 t.bw 0):=dF (by rw[he];simp);rw[A];simp only[X];rw[eh T.len (by decide) _ (show t.bw[0]?=some e by rw[he];rfl)];simp only[X];refine z e (by rw[he];simp) _ _ ?_;rw[he]at fin;simp only[i6]at fin;simp only[lS,bo,adW,adX,X,aK,aQ,aT];rw[cG _ _ _ 2 rfl rfl rfl];simp only[X,aa,abg,eA,Bt];have n28:s≠c.n:=a3.jF;have l:=At.new c (.row [I (bb e).1.1,I (bb e).1.2]);have b3:=a3.push (.row [I (bb e).1.1,I (bb e).1.2]);generalize c.push (.row [I (bb e).1.1,I (bb e).1.2])=k at *;generalize c.n=i at *;have l1:W k 1 false (.ptr i 0)=some (I (bb e).1.1):=by rw[l.load];rfl
      simp only[l1,X,fY];have s1:au k 1 (.ptr i 0) (I (aH ((bb e).1.1*t.b5)))=some (k.set i (.row [I (aH ((bb e).1.1*t.b5)),I (bb e).1.2])):=by rw[l.store,af ⟨rfl,rfl,rfl,by simp⟩];rfl
      rw[s1];simp only[X];have m:=l.set (.row [I (aH ((bb e).1.1*t.b5)),I (bb e).1.2]);have c3:=b3.cd n28 (.row [I (aH ((bb e).1.1*t.b5)),I (bb e).1.2]);generalize k.set i (.row [I (aH ((bb e).1.1*t.b5)),I (bb e).1.2])=B at *;rw[m.all (n:=2) rfl];have l2:W B 1 false (.ptr i 0)=some (I (aH ((bb e).1.1*t.b5))):=by rw[m.load];rfl
      simp only[X,cx];apply aB<;>intro h
      · simp only[l2,X,gy];rw[c3.put (n:=2) rfl rfl rfl];simp only[X];refine⟨λ_=>?_,?_⟩
        ·rw[(m.cd n28.symm _).load];rfl
        · rw[(c3.set _).all (n:=2) rfl];simp only[X];exact fin ((aH ((bb e).1.1*t.b5),(bb e).1.2),decide (aH ((bb e).1.1*t.b5)≤65536)) (by rw[h,adQ];rfl) _
      · simp only[aeo]at h;rw[c3.put (n:=2) rfl rfl rfl];simp only[X];refine And.intro (λy=>nomatch y) ?_;rw[(c3.set _).all (n:=2) rfl];simp only[X];exact fin ((aH ((bb e).1.1*t.b5),(bb e).1.2),false) (by rw[h,Bool.false_and]) _
    · have g:¬t.kind=5:=by simpa using h
      rw[ai g]at fin;have hk:t.kind=3∨t.kind=4:=by
       rcases rL hs with h|h|h|h
       ·exact absurd (.inl h) d
       ·exact absurd (.inr h) d
       ·exact absurd h g
       ·exact h
      simp only[aE,S.HT,j9,X];refine S.Js Z (Kc Z hs hk v w ?_ ?_)
      · intro C H' o;rw[C]at fin;simp only[bo,adW,adX,X,aK,aQ,aT];rw[cG _ _ _ 4 rfl rfl rfl];simp only[X,aa,abg];rw[ey];have tk:bE hN 0 2 true=some (.agg [O,O]):=rfl;rw[tk];simp only[X];have j:=(a3.ext o).push (.row hN);rw[j.put (n:=2) rfl rfl rfl];simp only[X];rw[(j.set _).all (n:=2) rfl];simp only[X];exact fin ((0,0),false) rfl _
      · intro p D x H' hL;rw[D]at fin;have o:=hL.1;have E:x.scalar=true:=by obtain⟨_,tk,rfl,_⟩:=hL;rfl
        simp only[bo,adW,adX,X,aK,aQ,aT];rw[cG _ _ _ 4 rfl (by simp only[adk,E];rfl) rfl];simp only[X,aa,abg];rw[ey];have tk:bE [I (cf p.size p.bZ),I p.bZ,x,I p.bit] 0 2 true=some (.agg [I (cf p.size p.bZ),I p.bZ]):=rfl;rw[tk];simp only[X];have j:=(a3.ext o).push (.row [I (cf p.size p.bZ),I p.bZ,x,I p.bit]);rw[j.put (n:=2) rfl rfl rfl];simp only[X];rw[(j.set _).all (n:=2) rfl];simp only[X];exact fin ((cf p.size p.bZ,p.bZ),decide (cf p.size p.bZ≤65536)) rfl _
 apply aB<;>intro h
 ·exact k2 _ ⟨λ_=> .inl (by simpa using h),λ_=>h⟩
 · refine k2 _ ⟨λa=> .inr (by simpa using a),λa=>?_⟩;rcases a with a|a
   ·exact absurd (by simpa using a) h
   ·simpa using a
end
end Rb

namespace Rb
open Go
theorem U8(packed:Bool)(kind:Int)(p:PL)(f:aJ)(g:Int×Int):p.bZ≤(hM packed kind p f g).bZ:=by
 have h:(hM packed kind p f g).bZ=max p.bZ (ek packed f g.2):=by
  unfold hM;simp only;split
  · unfold k5 k4;split<;>rfl
  ·rfl
 rw[h];omega
theorem Kd{packed:Bool}{kind:Int}:∀{l:List aJ}{p q:PL},dQ packed kind p l=some q→p.bZ≤q.bZ
 |[],p,q,h=>by simp only[dQ,aaK.injEq]at h;rw[h];exact aeQ _
 | f::r,p,q,h=>by
  simp only[dQ]at h;split at h
  ·exact Int.le_trans (U8 packed kind p f _) (Kd h)
  ·cases h
theorem BP:∀t:T,cQ t=0→(bb t).2=true→1≤(bb t).1.2:=by
 refine T.ind λt g d hs h=>?_;rw[mG]at h ⊢;split at h
 · rename_i b;rw[af b];rw[gB]at hs;split at hs
   ·cases hs
   · have a:eQ t.size 8=true∨eQ t.size 16=true:=by
       rcases b with h1|h1
       · rw[af h1]at hs;split at hs
         ·exact .inl ‹_›
         ·cases hs
       · rw[bO,af h1]at hs;split at hs
         ·exact .inr ‹_›
         ·cases hs
     show 1≤t.size;rcases a with a|a<;>(simp[eQ]at a;omega)
 · rename_i b;rw[ai b];split at h
   · rename_i c;rw[af c];obtain⟨e,he,f⟩:=mF hs c;rw[he]at h ⊢;simp only[i6,aaz]at h ⊢;exact d e (by rw[he];simp) f h.1
   · rename_i c;rw[ai c];cases a:dQ t.packed t.kind ⟨0,1,[],0⟩ t.aP with
     |none=>rw[a]at h;cases h
     |some p=>exact Kd a
section
variable{C:Ctx}(aj:bX C)(Z:Cl (ae C) S.bg)
include aj Z
theorem Ke:∀t:T,cQ t=0→bF (ae C) 126 [.agg t.cells] (lS (bb t)):=by
 refine T.ind λt c d hs=>?_;refine bF.of aj (by simp[J.b7,J.bI,T.bI]) rfl λQ g=>S.Sn Z ?_;have a:hK t.kind t.size t.packed t.aP.length t.b5 t.bw.length=true:=by
  rw[gB]at hs;split at hs
  ·cases hs
  ·rename_i h;simpa using h
 unfold hK at a;have b:∀f∈t.aP,cQ f.type=0:=by
  intro f hf;rcases rL hs with h|h|h|h
  · simp only[h,true_or,aT,aaz,bq,abS]at a;rw[a.1.1.2]at hf;cases hf
  · simp only[h,or_true,aT,aaz,bq,abS]at a;rw[a.1.1.2]at hf;cases hf
  · rw[bO,bO,af h]at a;simp only[aaz,bq,abS]at a;rw[a.1.2]at hf;cases hf
  ·exact(nT hs h).1 f hf
 have i:∀e∈t.bw,cQ e=0:=by
  intro e he;rcases rL hs with h|h|h|h
  · simp only[h,true_or,aT,aaz,bq,abS]at a;rw[a.2]at he;cases he
  · simp only[h,or_true,aT,aaz,bq,abS]at a;rw[a.2]at he;cases he
  · obtain⟨l,j,k⟩:=mF hs h;rw[j]at he;rcases acU.1 he with rfl|he
    ·exact k
    ·cases he
  · rw[bO,af h]at a;simp only[aaz,bq,abS]at a;rw[a.2]at he;cases he
 exact U7 Z hs (λf hf=>c f hf (b f hf)) (λf hf=>BP f.type (b f hf)) (λe he=>d e he (i e he)) g
end
end Rb

namespace Rb
open Go
def bx(t:T):(Int×Int)×Int:=if eR t≠0 then((0,0),eR t)else if fo t=true then((0,0),10)else if(bb t).2=false then((0,0),9)else((bb t).1,0)
theorem j_{t:T}(h:eR t=0):cQ t=0:=by
 unfold eR at h;split at h
 ·cases h
 ·exact h
section
variable{C:Ctx}(aj:bX C)(Z:Cl (ae C) S.bg)
include aj Z
theorem Kf(t:T)(ht:t.ok){H:AH}{Q:ab}(b:∀H',Q (.ar [.agg [I (bx t).1.1,I (bx t).1.2],I (bx t).2]) H'):S.f76 (ae C) (.agg t.cells) H Q:=by
 have fin:∀r,r=bx t→∀H',Q (.ar [.agg [I r.1.1,I r.1.2],I r.2]) H':=λr h=>by rw[h];exact b
 clear b;unfold bx at fin;unfold S.f76;simp only[gZ,aK,aQ,aT,j9,X];have a3:=At.new H (.row [O,O]);generalize H.push (.row [O,O])=a at *;generalize H.n=d at *;refine JW aj Z t ht _ _ ?_;simp only[dA,X,F];apply aB<;>intro h
 · have hs:eR t≠0:=by simpa using h
   rw[af hs]at fin;simp only[BO,X];rw[a3.put (n:=2) rfl rfl rfl];simp only[X];rw[(a3.set _).all (n:=2) rfl];simp only[X];exact fin _ rfl _
 · have hs:eR t=0:=by simpa using h
   rw[ai (by simpa using hs)]at fin;refine UX Z t ht _ _ ?_;simp only[F];apply aB<;>intro h
   · rw[af h]at fin;simp only[BO,X];rw[a3.put (n:=2) rfl rfl rfl];simp only[X];rw[(a3.set _).all (n:=2) rfl];simp only[X];exact fin _ rfl _
   · rw [ai h]at fin;refine Ke aj Z t (j_ hs) _ _ ?_;simp only[lS,bo,adW,adX,X,aK,aQ,aT];rw[cG _ _ _ 2 rfl rfl rfl];simp only[X,dO,F];have c:=At.new a (.row [I (bb t).1.1,I (bb t).1.2]);have b3:=a3.push (.row [I (bb t).1.1,I (bb t).1.2]);generalize a.push (.row [I (bb t).1.1,I (bb t).1.2])=e at *;generalize a.n=f at *;apply aB<;>intro h
     · rw[af (by simpa using h)]at fin;simp only[BO,X];rw[b3.put (n:=2) rfl rfl rfl];simp only[X];rw[(b3.set _).all (n:=2) rfl];simp only[X];exact fin _ rfl _
     · rw[ai (by simpa using h)]at fin;rw[c.all (n:=2) rfl];simp only[X];rw[b3.put (n:=2) rfl rfl rfl];simp only[X];rw[(b3.set _).all (n:=2) rfl];simp only[X];exact fin _ rfl _
theorem BQ(t:T)(ht:t.ok):bF (ae C) 39 [.agg t.cells] (.ar [I (bx t).1.1,I (bx t).1.2,I (bx t).2]):=by refine bF.of aj (by simp[J.b7,J.bI,T.bI]) rfl λQ a=>S.Q1 Z ?_;unfold S.f39;simp only[gZ,aK,j9,X];refine S.Jn Z (Kf aj Z t ht λH'=>?_);simp only[bo,adW,adX,X,aK,aQ,aT];rw[cG _ _ _ 2 rfl rfl rfl];simp only[X,aa,abg,ey];exact⟨_,rfl,_,rfl,a _⟩
end
end Rb

namespace Rb
open Go
variable{n step:Int}
def bV(n step:Int):Int:=(n+step-1)/step*step
theorem BR(h:0<step):bV n step%step=0:=by unfold bV;exact Int.mul_emod_left _ _
theorem jI(a:0<step):n≤bV n step∧bV n step≤n+step-1:=by unfold bV;have h1:=aeR (n+step-1) step;have b:=aeS (n+step-1) (aeT a);have c:=aeU (n+step-1) a;rw[aeV]at h1;omega
theorem nV(b:0≤n)(c:n≤1000000000)(a:0<step)(d:step≤1000000):cf n step=bV n step:=by have e:=jI (n:=n) a;unfold cf;rw[wrap_i64 (n:=n+step) (by omega) (by omega),wrap_i64 (n:=n+step-1) (by omega) (by omega),aeN (by omega)];have f:0≤(n+step-1)/step:=aeK (by omega) (by omega);have g:(n+step-1)/step≤n+step-1:=aeL _ (by omega);rw[wrap_i64 (n:=(n+step-1)/step) (by omega) (by omega)];show abF .i64 (bV n step)=_;exact bJ
theorem Kg{packed:Bool}:∀{l:List aJ}{seen:List (List UInt8)},fe packed seen l=0→∀f∈l,(f.bits=true→0≤f.be∧f.be≤8*f.type.size∧packed=false)∧(f.bits=false→f.be=0)
 |[],_,_,f,hf=>by cases hf
 | g :: r, seen, h,f,hf=>by
  simp only[fe]at h;have a:f_ packed seen g=0:=by
   by_cases b:f_ packed seen g=0
   ·exact b
   ·rw[af b]at h;exact absurd h b
  rw[ai (by simpa using a)]at h;rcases acU.1 hf with rfl|hf
  · rw [nS] at a;split at a
    ·cases a
    · split at a
      ·cases a
      · split at a
        ·rename_i b;exact absurd a b
        · split at a
          ·cases a
          · rename_i d;split at a
            ·cases a
            · rename_i e;refine⟨λc=>?_,λc=>?_⟩
              · have Y:¬f.be<0:=λq=>e ⟨c,.inl q⟩;have a2:¬8*f.type.size<f.be:=λq=>e ⟨c,.inr (.inl q)⟩;refine⟨by omega,by omega,?_⟩;cases packed
                ·rfl
                ·exact absurd (.inr ⟨c,.inr rfl⟩) d
              · by_cases hw:f.be=0
                ·exact hw
                ·exact absurd (.inl ⟨c,hw⟩) d
  ·exact Kg h f hf
structure jJ(p:PL)(n:Nat):Prop where
 b0:0≤p.bit
 b1:p.bit≤n*600000
 s0:0≤p.size
 s1:p.size≤n*75000
 a0:1≤p.bZ
 Y:p.bZ≤16
def xD(packed:Bool)(kind:Int)(p:PL)(f:aJ)(g:Int×Int):PL:=
 let b0:=if kind=4 then 0 else p.bit
 let w:=ek packed f g.2;let r:Int×cm:=
  if f.bits=true then
   if f.be=0 then(bV b0 (8*f.type.size),⟨bV b0 (8*f.type.size)/8,0,1,true,bV b0 (8*f.type.size)%8,0⟩)
   else
    let b:=if b0/(8*f.type.size)≠(b0+f.be-1)/(8*f.type.size)then bV b0 (8*f.type.size)else b0
    (b+f.be,⟨b/8,(b+f.be-1)/8-b/8+1,1,true,b%8,f.be⟩)
  else(8*(bV (bV b0 8/8) w+g.1),⟨bV (bV b0 8/8) w,g.1,f.type.kind,false,0,0⟩)
 ⟨max p.size (bV r.1 8/8),max p.bZ w,p.de++[r.2],r.1⟩
theorem Kh{packed:Bool}{kind:Int}{p:PL}{n:Nat}(v:n≤32)(m:jJ p n){f:aJ}{g:Int×Int}(g0:0≤g.1)(g1:g.1≤65536)(a0:1≤g.2)(Y:g.2≤16)(j:f.bits=true→1≤f.type.size∧f.type.size≤8∧0≤f.be∧f.be≤8*f.type.size) :
  hM packed kind p f g=xD packed kind p f g∧jJ (hM packed kind p f g) (n+1):=by
 obtain⟨b0,b1,s0,s1,y,z⟩:=m;have hB:∃b,(if kind=4 then(0:Int)else p.bit)=b∧0≤b∧b≤n*600000:=by
  split
  ·exact⟨0,rfl,aeQ _,by omega⟩
  ·exact⟨p.bit,rfl,b0,b1⟩
 obtain⟨b,o,c,c1⟩:=hB;have q:∃w,ek packed f g.2=w∧1≤w∧w≤16:=by
  unfold ek;split
  ·exact⟨1,rfl,by omega,by omega⟩
  · split
    ·rename_i h;have:=j h;exact⟨_,rfl,by omega,by omega⟩
    ·exact⟨_,rfl,a0,Y⟩
 obtain⟨w,r,w0,w1⟩:=q;unfold hM xD;dsimp only;rw[o,r];have size:∀x:Int,0≤x→x≤(n+1)*600000→aH ((cf x 8).tdiv 8)=bV x 8/8∧bV x 8/8≤(n+1)*75000∧0≤bV x 8/8:=by intro x i s;have hu:=jI (n:=x) (step:=8) (by decide);rw[nV i (by omega) (by decide) (by decide),aeN (by omega)];have A:=BR (n:=x) (step:=8) (by decide);refine⟨bJ,by omega,by omega⟩
 by_cases d:f.bits=true
 · obtain ⟨t0,t1,v0,v1⟩:=j d;rw[af d,af d];have k:aH (8*f.type.size)=8*f.type.size:=bJ;have B:=jI (n:=b) (step:=8*f.type.size) (by omega);have l:cf b (8*f.type.size)=bV b (8*f.type.size):=nV c (by omega) (by omega) (by omega);unfold k4;dsimp only;by_cases hw:f.be=0
   · rw[af hw,af hw];unfold k5;dsimp only;rw[k,l];obtain⟨e,z2,z3⟩:=size (bV b (8*f.type.size)) (by omega) (by omega);rw[e,aeN (a:=bV b (8*f.type.size)) (by omega),aeW (a:=bV b (8*f.type.size)) (by omega),show aH (bV b (8*f.type.size)/8)=bV b (8*f.type.size)/8 from bJ];exact⟨rfl,by show 0≤bV b (8*f.type.size);omega,by show bV b (8*f.type.size)≤_;push_cast;omega,by show 0≤max _ _;omega,by show max _ _≤_;push_cast;omega,by show 1≤max _ _;omega,by show max _ _≤_;omega⟩
   · rw [ai hw,ai hw];unfold k5;dsimp only;have t:ha {p with bZ:=max p.bZ w,bit:=b} f=if b/(8*f.type.size)≠(b+f.be-1)/(8*f.type.size)then bV b (8*f.type.size)else b:=by
      unfold ha;dsimp only;rw[k,show aH (b+f.be)=b+f.be from bJ,show aH (b+f.be-1)=b+f.be-1 from bJ,aeN c,aeN (by omega),l];have C:0≤b/(8*f.type.size):=aeK c (by omega);have D:b/(8*f.type.size)≤b:=aeL _ c;have E:0≤(b+f.be-1)/(8*f.type.size):=aeK (by omega) (by omega);have F:(b+f.be-1)/(8*f.type.size)≤b+f.be-1:=aeL _ (by omega);rw[show aH (b/(8*f.type.size))=b/(8*f.type.size)from bJ,show aH ((b+f.be-1)/(8*f.type.size))=(b+f.be-1)/(8*f.type.size)from bJ]
     rw[t];have u:∃x,(if b/(8*f.type.size)≠(b+f.be-1)/(8*f.type.size)then bV b (8*f.type.size)else b)=x∧0≤x∧x≤b+64:=by
      split
      ·exact⟨_,rfl,by omega,by omega⟩
      ·exact⟨_,rfl,c,by omega⟩
     obtain⟨x,ex,i,s⟩:=u;rw[ex,show aH (x+f.be)=x+f.be from bJ,show aH (x+f.be-1)=x+f.be-1 from bJ];obtain⟨e,z2,z3⟩:=size (x+f.be) (by omega) (by omega);rw[e,aeN i,aeN (by omega),aeW i,show aH (x/8)=x/8 from bJ,show aH ((x+f.be-1)/8)=(x+f.be-1)/8 from bJ,show aH ((x+f.be-1)/8-x/8)=(x+f.be-1)/8-x/8 from bJ,show aH ((x+f.be-1)/8-x/8+1)=(x+f.be-1)/8-x/8+1 from bJ];exact⟨rfl,by show 0≤x+f.be;omega,by show x+f.be≤_;push_cast;omega,by show 0≤max _ _;omega,by show max _ _≤_;push_cast;omega,by show 1≤max _ _;omega,by show max _ _≤_;omega⟩
 · rw[ai d,ai d];unfold k5 xz;dsimp only;have G:=jI (n:=b) (step:=8) (by decide);have H:=BR (n:=b) (step:=8) (by decide);rw[nV c (by omega) (by decide) (by decide),aeN (a:=bV b 8) (by omega),show aH (bV b 8/8)=bV b 8/8 from bJ];have I:=jI (n:=bV b 8/8) (step:=w) (by omega);rw[nV (n:=bV b 8/8) (by omega) (by omega) (by omega) (by omega),show aH (bV (bV b 8/8) w+g.1)=bV (bV b 8/8) w+g.1 from bJ,show aH (8*(bV (bV b 8/8) w+g.1))=8*(bV (bV b 8/8) w+g.1)from bJ];obtain⟨e,z2,z3⟩:=size (8*(bV (bV b 8/8) w+g.1)) (by omega) (by omega);rw[e];exact⟨rfl,by show 0≤8*_;omega,by show 8*(bV (bV b 8/8) w+g.1)≤_;push_cast;omega,by show 0≤max _ _;omega,by show max _ _≤_;push_cast;omega,by show 1≤max _ _;omega,by show max _ _≤_;omega⟩
end Rb

namespace Rb
open Go
theorem Ki{b w:Int}(c:0<w):bV b (8*w)=8*bV (bV b 8/8) w:=by
 unfold bV;have e1:(b+8-1)/8*8/8=(b+8-1)/8:=Int.mul_ediv_cancel _ (by decide);have a:(b+8-1)/8+w-1=(b+8*w-1)/8:=by
  have:b+8*w-1=(b+8-1)+8*(w-1):=by omega
  rw[this,aeX _ _ (by decide)];omega
 rw[e1,a,Int.ediv_ediv_of_nonneg (by decide),Int.mul_left_comm]
theorem xE(b:Int):bV b 1=b:=by unfold bV;simp
def fQ(packed:Bool)(kind:Int)(a:Int)(f:aJ)(g:Int×Int):Int×Int×Int:=
 let b0:=if kind=4 then 0 else a
 if f.bits=true then
  (bV b0 (if f.be=0∨b0%(8*f.type.size)+f.be>8*f.type.size then 8*f.type.size else 1),f.be,if packed=true∨f.be=0 then 1 else g.2)
 else(bV b0 (if packed=true then 8 else 8*g.2),8*g.1,if packed=true then 1 else g.2)
def nW(f:aJ)(x:Int×Int):cm:=if f.bits=true then⟨x.1/8,if x.2>0 then(x.1+x.2-1)/8-x.1/8+1 else 0,1,true,x.1%8,x.2⟩else⟨x.1/8,x.2/8,f.type.kind,false,0,0⟩
theorem U9{b n u:Int}(d:0≤b)(f:1≤n)(g:n≤u):b/u≠(b+n-1)/u↔b%u+n>u:=by
 have a:0<u:=by omega
 have h1:=aeR b u;have i:=aeS b (aeT a);have j:=aeU b a;have e:b+n-1=(b%u+n-1)+u*(b/u):=by omega
 rw[e,aeX _ _ (aeT a)];constructor
 · intro h;apply aeY;intro hc;have:(b%u+n-1)/u=0:=Int.ediv_eq_zero_of_lt (by omega) (by omega);omega
 · intro h hc;have c:(b%u+n-1)/u=0:=by omega
   have:=aeR (b%u+n-1) u;have k:=aeU (b%u+n-1) a;rw[c]at this;omega
theorem Kj{packed:Bool}{kind:Int}{p:PL}{n:Nat}(h:jJ p n){f:aJ}{g:Int×Int}(a0:1≤g.2)(i:f.bits=true→1≤f.type.size∧0≤f.be∧f.be≤8*f.type.size∧packed=false∧g.2=f.type.size) :
  xD packed kind p f g=⟨max p.size (bV ((fQ packed kind p.bit f g).1+(fQ packed kind p.bit f g).2.1) 8/8),max p.bZ (fQ packed kind p.bit f g).2.2,p.de++[nW f ((fQ packed kind p.bit f g).1,(fQ packed kind p.bit f g).2.1)],(fQ packed kind p.bit f g).1+(fQ packed kind p.bit f g).2.1⟩:=by
 obtain⟨b0,b1,s0,s1,o,q⟩:=h;have hB:∃b,(if kind=4 then(0:Int)else p.bit)=b∧0≤b:=by
  split
  ·exact⟨0,rfl,aeQ _⟩
  ·exact⟨p.bit,rfl,b0⟩
 obtain⟨b,j,k⟩:=hB;unfold xD fQ nW;dsimp only;rw[j];by_cases a:f.bits=true
 · obtain ⟨t0,v0,v1,l,e⟩:=i a;simp only[a,aT];unfold ek;by_cases hw:f.be=0
   · simp only[hw,a,true_or,aT,or_true,and_self,Int.add_zero];simp
   · rw[ai hw];have hu:=U9 (u:=8*f.type.size) k (show 1≤f.be by omega) v1;simp only[l,hw,a,acq,false_or,bz,aT,and_false];have m:f.be>0:=by omega
     rw[af m];by_cases d:b%(8*f.type.size)+f.be>8*f.type.size
     ·rw[af (hu.2 d),af d,e]
     ·rw[ai (λz=>d (hu.1 z)),ai d,xE,e]
 · have a:f.bits=false:=by simpa using a
   simp only[a,acq,bz];unfold ek;simp only[a,acq,false_and,or_false,bz];cases packed
   · simp only[acq,bz];have c:=Ki (b:=b) (w:=g.2) (by omega);rw[c];have d1:8*bV (bV b 8/8) g.2/8=bV (bV b 8/8) g.2:=by omega
     have d2:8*g.1/8=g.1:=by omega
     rw[d1,d2,←aeZ]
   · simp only[aT];have c:=Ki (b:=b) (w:=1) (by decide);rw[Int.mul_one]at c;rw[c];have d1:8*bV (bV b 8/8) 1/8=bV (bV b 8/8) 1:=by omega
     have d2:8*g.1/8=g.1:=by omega
     rw[←c]at d1 ⊢;rw[xE]at d1 ⊢;have d3:8*(bV b 8/8)=bV b 8:=by have:=BR (n:=b) (step:=8) (by decide);omega
     rw[d2,←d3,←aeZ];have d4:bV (8*(bV b 8/8)/8) 1=bV b 8/8:=by rw[xE];omega
     simp
end Rb

namespace Rb
open Go
variable{t:T}{packed:Bool}
structure nX where
 bit:Int
 end_:Int
 bZ:Int
 first:List Int
 bits:List Int
def BS(packed:Bool)(kind:Int)(s:nX)(f:aJ)(g:Int×Int):nX:=⟨(fQ packed kind s.bit f g).1+(fQ packed kind s.bit f g).2.1,max s.end_ ((fQ packed kind s.bit f g).1+(fQ packed kind s.bit f g).2.1),max s.bZ (fQ packed kind s.bit f g).2.2,s.first++[(fQ packed kind s.bit f g).1],s.bits++[(fQ packed kind s.bit f g).2.1]⟩
def xF(packed:Bool)(kind:Int)(s:nX):List aJ→Option nX
 |[]=>some s
 |f::r=>if(bb f.type).2=true then xF packed kind (BS packed kind s f (bb f.type).1) r else none
def rM:List aJ→List Int→List Int→List cm
 |f::r,a::x,b::y=>nW f (a,b)::rM r x y
 |_,_,_=>[]
theorem Kk:∀(fs:List aJ)(x y:List Int)(f:aJ)(a b:Int),x.length=fs.length→y.length=fs.length→rM (fs++[f]) (x++[a]) (y++[b])=rM fs x y++[nW f (a,b)]
 |[],[],[],f,a,b,_,_=>rfl
 | g::r,c::x,d::y,f,a,b,h1,e=>by simp only[acu,rM];rw[Kk r x y f a b (by simpa using h1) (by simpa using e)]
structure nY(p:PL)(s:nX)(fs:List aJ):Prop where
 bit:s.bit=p.bit
 e0:0≤s.end_
 size:p.size=bV s.end_ 8/8
 bZ:s.bZ=p.bZ
 l1:s.first.length=fs.length
 l2:s.bits.length=fs.length
 de:p.de=rM fs s.first s.bits
theorem BU(n:Int):bV n 8/8=(n+7)/8:=by unfold bV;omega
theorem U_{kind:Int}{p:PL}{s:nX}{fs:List aJ}{n:Nat}(i:n≤32)(b:jJ p n)(h:nY p s fs){f:aJ}{g:Int×Int}(g0:0≤g.1)(g1:g.1≤65536)(a0:1≤g.2)(Y:g.2≤16)(a:f.bits=true→1≤f.type.size∧f.type.size≤8∧0≤f.be∧f.be≤8*f.type.size∧packed=false∧g.2=f.type.size) :
  nY (hM packed kind p f g) (BS packed kind s f g) (fs++[f])∧jJ (hM packed kind p f g) (n+1):=by
 obtain⟨e1,c⟩:=Kh (packed:=packed) (kind:=kind) i b g0 g1 a0 Y (λq=>⟨(a q).1,(a q).2.1,(a q).2.2.1,(a q).2.2.2.1⟩);refine⟨?_,c⟩;have d:=Kj (kind:=kind) b (f:=f) (g:=g) a0 (λq=>⟨(a q).1,(a q).2.2.1,(a q).2.2.2.1,(a q).2.2.2.2.1,(a q).2.2.2.2.2⟩);have e:=c.b0;rw[e1]at e;rw[e1,d];rw[d]at e;unfold BS;rw[h.bit];have hs:=h.size;have he:=h.e0;refine⟨rfl,?_,?_,?_,?_,?_,?_⟩
 ·show 0≤max _ _;omega
 · show max p.size _=bV (max _ _) 8/8;rw[hs,BU,BU,BU];omega
 ·show max s.bZ _=max p.bZ _;rw[h.bZ]
 ·show(s.first++[_]).length=(fs++[f]).length;simp[h.l1]
 ·show(s.bits++[_]).length=(fs++[f]).length;simp[h.l2]
 · show p.de++[_]=_;rw[h.de,Kk _ _ _ _ _ _ h.l1 h.l2]
def rN(packed:Bool)(f:aJ):Prop:=(f.bits=true→f.type.kind=1∧1≤f.type.size∧f.type.size≤8∧0≤f.be∧f.be≤8*f.type.size∧packed=false)
theorem Kl{l:List aJ}{b:List (List UInt8)}(h:fe packed b l=0):∀f∈l,rN packed f:=λf hf a=>by obtain⟨c,d,e⟩:=xC h f hf a;obtain⟨w1,w2,w3⟩:=(Kg h f hf).1 a;exact⟨c,d,e,w1,w2,w3⟩
def xG(t:T):Prop:=(bb t).2=true→0≤(bb t).1.1∧(bb t).1.1≤65536∧1≤(bb t).1.2∧(bb t).1.2≤16
theorem rO(h:t.kind=1∨t.kind=2):bb t=((t.size,t.size),true):=by rw[mG,af h]
theorem Km{packed:Bool}{kind:Int}:∀{l:List aJ}{p:PL}{s:nX}{fs:List aJ}{n:Nat},n+l.length≤32→jJ p n→nY p s fs→(∀f∈l,rN packed f∧xG f.type) →
  (∀q,dQ packed kind p l=some q→∃s',xF packed kind s l=some s'∧nY q s' (fs++l)∧jJ q (n+l.length))∧(dQ packed kind p l=none→xF packed kind s l=none)
 | [],p,s,fs,n,c,b,h,hl=>by
  refine⟨λq a=>?_,λa=>?_⟩
  · simp only[dQ,aaK.injEq]at a;subst a;exact⟨s,rfl,by simpa using h,b⟩
  ·simp only[dQ]at a;cases a
 | f :: r,p,s,fs,n,c,b,h,hl=>by
  obtain⟨o1,o2⟩:=hl f (acW ..);have d:n+1+r.length≤32:=by rw[aeO]at c;omega
  simp only[dQ,xF,rJ];by_cases ht:(bb f.type).2=true
  · rw [af ht,af ht];obtain⟨b1,b2,b3,e⟩:=o2 ht;obtain ⟨h1,i⟩:=U_ (packed:=packed) (kind:=kind) (by omega) b h b1 b2 b3 e (λj=>by
      obtain⟨k,z2,z3,z4,z5,m⟩:=o1 j;exact⟨z2,z3,z4,z5,m,by rw[rO (.inl k)]⟩)
    obtain⟨i1,i2⟩:=Km (kind:=kind) d i h1 (λg o=>hl g (acV _ o));refine⟨λq a=>?_,i2⟩;obtain⟨s',t,u,v⟩:=i1 q a;refine⟨s',t,by simpa using u,?_⟩;rw[aeO,show n+(r.length+1)=n+1+r.length by omega];exact v
  · rw[ai ht,ai ht];exact⟨λq a=>(by cases a),λ_=>rfl⟩
theorem jJ.zero:jJ ⟨0,1,[],0⟩ 0:=⟨aeQ _,by simp,aeQ _,by simp,aeQ _,by decide⟩
theorem nY.zero:nY ⟨0,1,[],0⟩ ⟨0,0,1,[],[]⟩ []:=⟨rfl,aeQ _,by decide,rfl,rfl,rfl,rfl⟩
theorem Kn(h:cQ t=0)(a:t.kind=3∨t.kind=4):1≤t.aP.length∧t.aP.length≤32:=by
 rw[gB]at h;split at h
 ·cases h
 · rw[bO,bO,bO]at h;split at h
   ·cases h
   ·omega
theorem BV(h:cQ t=0)(b:t.kind=1∨t.kind=2):1≤t.size∧t.size≤16:=by
 rw[gB]at h;split at h
 ·cases h
 · have a:eQ t.size 8=true∨eQ t.size 16=true:=by
     rcases b with h1|h1
     · rw[af h1]at h;split at h
       ·exact .inl ‹_›
       ·cases h
     · rw[bO,af h1]at h;split at h
       ·exact .inr ‹_›
       ·cases h
   rcases a with a|a<;>(simp[eQ]at a;omega)
theorem Va(h:cQ t=0)(a:t.kind=5):1≤t.b5∧t.b5≤65536:=by
 rw[gB]at h;split at h
 ·cases h
 · rw[bO,bO]at h;split at h
   ·cases h
   ·omega
theorem Ko:∀t:T,cQ t=0→xG t:=by
 refine T.ind λt g i hs=>?_;intro h;rcases rL hs with k|k|k|k
 ·have:=BV hs (.inl k);rw[rO (.inl k)];dsimp only;omega
 ·have:=BV hs (.inr k);rw[rO (.inr k)];dsimp only;omega
 · obtain⟨e,he,j⟩:=mF hs k;have hc:=Va hs k;rw[mG,bO,af k,he]at h ⊢;simp only[i6,aaz,dM]at h ⊢;obtain⟨b1,b2,b3,l⟩:=i e (by rw[he];simp) j h.1;have hm:0≤(bb e).1.1*t.b5:=aeM b1 (by omega);have o:(bb e).1.1*t.b5≤65536*65536:=ae0 b2 hc.2 (by omega) (by decide);have hw:aH ((bb e).1.1*t.b5)=(bb e).1.1*t.b5:=bJ;have c:aH ((bb e).1.1*t.b5)≤65536:=of_decide_eq_true h.2;rw[hw]at c ⊢;exact⟨hm,c,b3,l⟩
 · have hk:t.kind=3∨t.kind=4:=k;have hl:=Kn hs hk;have d:=Ka hs hk;rw[mG,bO,bO]at h ⊢;cases b:dQ t.packed t.kind ⟨0,1,[],0⟩ t.aP with
   |none=>rw[b]at h;cases h
   | some p=>rw[b]at h;dsimp only at h ⊢;obtain⟨s',q,r,a⟩:=(Km (packed:=t.packed) (kind:=t.kind) (by omega) jJ.zero nY.zero (λf hf=>⟨Kl d f hf,g f hf (rH d f hf)⟩)).1 p b;have hu:=jI (n:=p.size) (step:=p.bZ) (by have:=a.a0;omega);have m:=nV (n:=p.size) (step:=p.bZ) a.s0 (by have:=a.s1;omega) (by have:=a.a0;omega) (by have:=a.Y;omega);rw[m]at h ⊢;have:=a.s0;exact⟨by omega,by simpa using h,a.a0,a.Y⟩
end Rb

namespace Rb
open Go
variable{n0 sz len:Nat}{H H':AH}{x:J}{cells:List J}
def cH(n0:Nat)(H:AH)(sz:Nat)(x:J)(len:Nat)(cells:List J):Prop:=∃tk,x = .ax tk len cells∧cells.length=len*sz∧((tk = .nil∧len=0)∨tk = .full∨∃t,tk = .own t∧n0≤t∧At H t (.tok (len*sz) sz))
theorem cH.nil(n0:Nat)(H:AH)(sz:Nat):cH n0 H sz (.ax .nil 0 []) 0 []:=⟨.nil,rfl,by simp,.inl ⟨rfl,rfl⟩⟩
theorem cH.frame(h:cH n0 H sz x len cells)(k:∀t a b,At H t (.tok a b)→At H' t (.tok a b)):cH n0 H' sz x len cells:=by
 obtain⟨tk,c,hc,ht⟩:=h;refine⟨tk,c,hc,?_⟩;rcases ht with ht|ht|⟨t,h1,d,e⟩
 ·exact .inl ht
 ·exact .inr (.inl ht)
 ·exact .inr (.inr ⟨t,h1,d,k t _ _ e⟩)
def Left(n0:Nat)(H H':AH):Prop:=H.n≤H'.n∧∀i o,At H i o→(i<n0∨∀a b,o ≠ .tok a b)→At H' i o
theorem cH.app{n0 sz bytes len m:Nat}{x y:J}{cells news:List J}{K:ab}(h:cH n0 H sz x len cells)(b:n0≤H.n)(c:ef H sz y=some (m,news))(l:news.length=m*sz)(hs:news.all J.scalar=true)(d:m≠0)
  (f:(len+m)*bytes≤140737488355328) (hl:len+m≤9223372036854775807) (g:∀j H',cH n0 H' sz j (len+m) (cells++news)→Left n0 H H'→K j H'):aw (bR H false sz bytes x y) K:=by
 obtain⟨tk,rfl,hc,p⟩:=h;have hlen:(cells++news).length=(len+m)*sz:=by simp[hc,l,aa3]
 have grow:∀tk:Tok,tk = .full∨(tk = .nil∧len=0)→bR H false sz bytes (.ax tk len cells) y=some (.ax (.own H.n) (len+m) (cells++news),H.push (.tok ((len+m)*sz) sz)):=by intro tk ht;simp only[bR,c,hs,not_true_eq_false,bz,ai d];rw[ai (by simp only[ad8];exact⟨hc,f,hl⟩)];rcases ht with rfl|⟨rfl,_⟩<;>rfl
 have fresh:K (.ax (.own H.n) (len+m) (cells++news)) (H.push (.tok ((len+m)*sz) sz)):=
  g _ _ ⟨_,rfl,hlen,.inr (.inr ⟨H.n,rfl,b,At.new H _⟩)⟩ ⟨aa_ _,λi o h _=>h.push _⟩
 rcases p with ht|ht|⟨t,rfl,h1,k⟩
 ·exact⟨_,_,grow tk (.inr ht),fresh⟩
 ·exact⟨_,_,grow tk (.inl ht),fresh⟩
 · refine ⟨.ax (.own H.n) (len+m) (cells++news),(H.set t .gone).push (.tok ((len+m)*sz) sz),?_,g _ _ ⟨_,rfl,hlen,.inr (.inr ⟨H.n,rfl,b,At.new (H.set t .gone) _⟩)⟩ ⟨aa_ _,λi o hi a=>(hi.cd (λe=>?_) _).push _⟩⟩
   · simp only[bR,c,hs,not_true_eq_false,bz,ai d];rw[ai (by simp only[ad8];exact⟨hc,f,hl⟩)];simp[k.2]
   · subst e;rcases a with a|a
     ·omega
     ·exact a _ _ (hi.2.symm.trans k.2)
theorem Left.row{i:Nat}{cs:List J}(k:Left n0 H H')(h:At H i (.row cs)):At H' i (.row cs):=k.2 _ _ h (.inr λ_ _ e=>by cases e)
end Rb

namespace Rb
open Go
structure bc where
 aX:List (List UInt8)
 lets:Int
 V:Int
 k6:Int
 bK:Int
def bc.cB(s:bc)(a:Bool)(e:Int):bc:=if a=false∧s.bK=0 then {s with k6:=s.V,bK:=e} else s
def bc.back(s:bc)(n:Nat):bc:={s with aX:=s.aX.take n}
def bc.at(s:bc)(l:Int):bc:={s with V:=l}
def bc.BW(s:bc)(x:List UInt8):bc:={s with aX:=s.aX++[x],lets:=aH (s.lets+1)}
def bc.has(s:bc)(x:List UInt8):Bool:=s.aX.any λy=>x==y
def hP(k o:Int):Bool:=
 if k=4∨k=6 then o==1||o==3||o==4
 else if k=5∨k=15 then o==1||o==2||o==4
 else if k=16∨k=17∨k=18 then decide (1≤o)&&decide (o≤4)
 else if k=7 then decide (2≤o)&&decide (o≤4)
 else o==0
def ka(x:ba):Bool:=x.var==[]&&x.bm.length==0
def ed(k:Int):Bool×Bool×Bool×Int×Bool×Bool:=
 if k=1∨k=2 then(true,false,false,1,false,false)
 else if k=3∨k=4 then(false,false,true,1,false,false)
 else if k=5 then(true,true,true,0,false,false)
 else if k=6 then(false,false,true,2,false,false)
 else if k=7 then(false,false,false,0,false,false)
 else if k=8 then(false,false,false,1,true,true)
 else if k=9 then(false,false,false,1,true,false)
 else(false,false,false,1,false,false)
def iI(x:aG):Bool:=decide (1≤x.kind)&&decide (x.kind≤10)&&((ed x.kind).1||x.E==[])&&((ed x.kind).2.1||x.cp==[])&&((ed x.kind).2.2.1||ka x.place)&&((x.bh.length:Int)==(ed x.kind).2.2.2.1)&&((ed x.kind).2.2.2.2.1||x.bj.length==0)&&((ed x.kind).2.2.2.2.2||x.bC.length==0)
def hQ(k:Int):Int×Bool:=if k=3 then(2,false)else if k=4∨k=5 then(0,true)else if k=6∨k=7 then(1,true)else if k=8 then(2,true)else(0,false)
def hb(e:U):Bool:=decide (1≤e.kind)&&decide (e.kind≤8)&&(e.kind==1||e.n==0)&&(e.kind==2||e.E==[])&&(if e.kind=3 then decide (1≤e.op)&&decide (e.op≤11)else e.op==0)&&((hQ e.kind).2||ka e.place)&&((e.bu.length:Int)==(hQ e.kind).1)
def k7(k:Int)(t:T):Bool:=if k=3∨k=14 then t.kind==1 else if k=5∨k=6 then t.kind==2&&t.size==16 else t.kind==2&&decide (t.size≤8)
section
variable(vars:List B)
def jK(s:bc)(k:Int)(x:ba):bc:=
 let s1:=s.cB ((cS vars x).1==0) (cS vars x).1
 s1.cB (s1.bK != 0||k7 k (cS vars x).2) 8
def dZ(s:bc)(d:Int)(e:U):bc:=((s.cB (decide (d≤64)) 5).cB (hb e) 4).cB (hP (aH (10+e.kind)) e.aW) 11
mutual
def k8(s:bc)(d:Int):U→bc
 | .mk kind n E op aW place bu=>
  if(dZ s d (.mk kind n E op aW place bu)).bK≠0 then dZ s d (.mk kind n E op aW place bu)
  else d_ (if kind≥4 then jL (if kind=2 then(dZ s d (.mk kind n E op aW place bu)).cB ((dZ s d (.mk kind n E op aW place bu)).has E) 6 else dZ s d (.mk kind n E op aW place bu)) (aH (10+kind)) d place
    else(if kind=2 then(dZ s d (.mk kind n E op aW place bu)).cB ((dZ s d (.mk kind n E op aW place bu)).has E) 6 else dZ s d (.mk kind n E op aW place bu))) d bu
def d_(s:bc)(d:Int):List U→bc
 |[]=>s
 |e::r=>d_ (if s.bK≠0 then s else k8 s (aH (d+1)) e) d r
def jL(s:bc)(k:Int)(d:Int):ba→bc
 | .mk var bm=>if s.bK≠0 then s else gD (jK vars s k (.mk var bm)) d bm
def gD(s:bc)(d:Int):List a_→bc
 |[]=>s
 |p::r=>gD (mH s d p) d r
def mH(s:bc)(d:Int):a_→bc
 | .mk field bD=>i_ s d bD
def i_(s:bc)(d:Int):List U→bc
 |[]=>s
 |e::r=>i_ (k8 s (aH (d+1)) e) d r
end
variable(kw:List UInt8→Bool)
def fp(s:bc)(d:Int)(x:aG):bc:=((s.cB (decide (d≤64)) 5).cB (iI x) 4).cB (hP x.kind x.aW) 11
def gb(s:bc)(d:Int)(x:aG):bc:=
 if x.kind=1 then((s.cB (eP x.E&&!kw x.E) 6).cB (!s.has x.E) 7).cB (decide (s.lets<40)) 12
 else if x.kind=2 then s.cB (s.has x.E) 6
 else if x.kind=3∨x.kind=4∨x.kind=5∨x.kind=6 then jL vars s x.kind d x.place
 else s
def iJ(s:bc)(x:aG):bc:=
 if x.kind=1 then s.BW x.E
 else if x.kind=5 then((s.cB (s.has x.E) 6).cB (s.has x.cp) 6).cB (!(x.E==x.cp)) 7
 else s
def fq(s:bc)(d:Int)(x:aG):bc:=iJ (d_ vars (gb vars kw (fp s d x) d x) d x.bh) x
mutual
def stM(s:bc)(d:Int):aG→bc
 | .mk kind V E cp aW place bh bj bC=>
  eS ((eS (fq vars kw s d (.mk kind V E cp aW place bh bj bC)) (fq vars kw s d (.mk kind V E cp aW place bh bj bC)).aX.length (aH (d+1)) bj).at V)
   (((eS (fq vars kw s d (.mk kind V E cp aW place bh bj bC)) (fq vars kw s d (.mk kind V E cp aW place bh bj bC)).aX.length (aH (d+1)) bj).at V).aX.length) (aH (d+1)) bC
def eS(s:bc)(n:Nat)(d:Int):List aG→bc
 |[]=>s.back n
 |x::r=>eS (if s.bK≠0 then s else stM (s.at x.V) d x) n d r
end
def hd(s:bc)(d:Int)(l:List aG):bc:=eS vars kw s s.aX.length d l
def k9(a:List (List UInt8))(b:Int):List B→Int
 |[]=>if b>65536 then 9 else 0
 | v::r=>if eP v.E=false∨kw v.E=true then 6 else if a.contains v.E=true then 7
  else if(bx v.type).2≠0 then(bx v.type).2 else k9 (a++[v.E]) (aH (cf b (bx v.type).1.2+(bx v.type).1.1)) r
end
section
variable(kw:List UInt8→Bool)
def k_(a:List B):Int:=if 32<a.length then 12 else k9 kw [] 0 a
def s0:bc:=⟨[],0,0,0,0⟩
def mI(vars:List B):List (List aG)→Int×Int
 |[]=>(0,0)
 |t::r=>if(hd vars kw s0 1 t).bK≠0 then((hd vars kw s0 1 t).k6,(hd vars kw s0 1 t).bK)else mI vars r
def ic(p:ew):Int×Int:=
 if 32<p.vars.length∨p.dL.length<1∨8<p.dL.length then(0,12)
 else if k_ kw p.vars≠0 then(0,k_ kw p.vars)else mI kw p.vars p.dL
end
theorem Vb(vars:List B)(s:bc)(d:Int)(e:U):k8 vars s d e=if(dZ s d e).bK≠0 then dZ s d e
  else d_ vars (if e.kind≥4 then jL vars (if e.kind=2 then(dZ s d e).cB ((dZ s d e).has e.E) 6 else dZ s d e) (aH (10+e.kind)) d e.place else(if e.kind=2 then(dZ s d e).cB ((dZ s d e).has e.E) 6 else dZ s d e)) d e.bu:=by
 cases e;rw[k8]
theorem Vc(vars:List B)(s:bc)(k d:Int)(x:ba):jL vars s k d x=if s.bK≠0 then s else gD vars (jK vars s k x) d x.bm:=by cases x;rw[jL]
theorem Vd(vars:List B)(s:bc)(d:Int)(p:a_):mH vars s d p=i_ vars s d p.bD:=by cases p;rw[mH]
theorem stM_eq(vars:List B)(kw:List UInt8→Bool)(s:bc)(d:Int)(x:aG):stM vars kw s d x=hd vars kw ((hd vars kw (fq vars kw s d x) (aH (d+1)) x.bj).at x.V) (aH (d+1)) x.bC:=by cases x;rw[stM];rfl
section
variable(vars:List B)(kw:List UInt8→Bool)
theorem Kr{s:bc}(h:s.bK≠0)(d:Int):∀l,d_ vars s d l=s
 |[]=>by rw[d_]
 |e::r=>by rw[d_,af h,Kr h d r]
theorem BX{s:bc}(h:s.bK≠0)(n:Nat)(d:Int):∀l,eS vars kw s n d l=s.back n
 |[]=>by rw[eS]
 |x::r=>by rw[eS,af h,BX h n d r]
theorem Kt:∀{l:List (List aG)},(mI kw vars l).2=0↔∀t∈l,(hd vars kw s0 1 t).bK=0
 |[]=>by simp[mI]
 | t :: r=>by
  rw[mI];by_cases h:(hd vars kw s0 1 t).bK=0
  · rw[ai (by simpa using h),Kt (l:=r)];simp[h]
  · rw[af h];simp[h]
end
section
variable(kw:List UInt8→Bool)(p:ew)
end
end Rb

namespace Rb
open Go
def b8(vars:List B)(s:bc)(loc:J):List J:=[aZ B.cells vars,loc,I s.lets,I s.V,I s.k6,I s.bK]
def cu(id:Nat)(H H':AH):Prop:=H.n≤H'.n∧∀i o,i≠id→At H i o→At H' i o
theorem cu.refl(id:Nat)(H:AH):cu id H H:=⟨hT _,λ_ _ _ h=>h⟩
theorem cu.trans{id:Nat}{a b c:AH}(h:cu id a b)(k:cu id b c):cu id a c:=⟨np h.1 k.1,λi o hi d=>k.2 i o hi (h.2 i o hi d)⟩
theorem cu.push(id:Nat)(H:AH)(x:bS):cu id H (H.push x):=⟨aa_ _,λi o _ h=>h.push x⟩
theorem cu.set(id:Nat)(H:AH)(x:bS):cu id H (H.set id x):=⟨hT _,λi o hi h=>h.cd hi x⟩
def ft(H:AH)(id:Nat)(loc:J)(l:List (List UInt8)):Prop:=(loc = aA∧l=[])∨∃j cs,loc = .row j 0 l.length 1∧j≠id∧At H j (.row cs)∧l.length≤cs.length∧cs.take l.length=l.map .str
theorem ft.aO{H H':AH}{id:Nat}{loc:J}{l:List (List UInt8)}(h:ft H id loc l)(k:cu id H H'):ft H' id loc l:=by
 rcases h with h|⟨j,cs,h1,a,b,c,d⟩
 ·exact .inl h
 ·exact .inr ⟨j,cs,h1,a,k.2 j _ a b,c,d⟩
def c8(a b:bc):Prop:=b.aX=a.aX∧b.lets=a.lets
theorem c8.refl(a:bc):c8 a a:=⟨rfl,rfl⟩
theorem c8.trans{a b c:bc}(h:c8 a b)(k:c8 b c):c8 a c:=⟨k.1.trans h.1,k.2.trans h.2⟩
theorem ee(s:bc)(a:Bool)(e:Int):c8 s (s.cB a e):=by
 unfold bc.cB;split
 ·exact⟨rfl,rfl⟩
 ·exact c8.refl s
theorem Ku(s:bc)(d:Int)(e:U):c8 s (dZ s d e):=(ee _ _ _).trans ((ee _ _ _).trans (ee _ _ _))
theorem BZ(s:bc)(d:Int)(x:aG):c8 s (fp s d x):=(ee _ _ _).trans ((ee _ _ _).trans (ee _ _ _))
section
variable(vars:List B)
theorem Ve(s:bc)(k:Int)(x:ba):c8 s (jK vars s k x):=(ee _ _ _).trans (ee _ _ _)
mutual
theorem xH:∀(e:U)(s:bc)(d:Int),c8 s (k8 vars s d e)
 | .mk kind n E op aW place bu,s,d=>by
  have a:=Ku s d (.mk kind n E op aW place bu);rw[k8];split
  ·exact a
  · have h1:c8 s (if kind=2 then(dZ s d (.mk kind n E op aW place bu)).cB ((dZ s d (.mk kind n E op aW place bu)).has E) 6 else dZ s d (.mk kind n E op aW place bu)):=by
      split
      ·exact a.trans (ee _ _ _)
      ·exact a
    refine c8.trans ?_ (xI bu _ d);split
    ·exact h1.trans (B0 place _ _ d)
    ·exact h1
theorem xI:∀(l:List U)(s:bc)(d:Int),c8 s (d_ vars s d l)
 |[],s,d=>by rw[d_];exact c8.refl s
 | e::r,s,d=>by
  rw[d_];refine c8.trans ?_ (xI r _ d);split
  ·exact c8.refl s
  ·exact xH e s _
theorem B0:∀(x:ba)(s:bc)(k d:Int),c8 s (jL vars s k d x)
 | .mk var bm,s,k,d=>by
  rw[jL];split
  ·exact c8.refl s
  ·exact(Ve vars s k _).trans (Kv bm _ d)
theorem Kv:∀(l:List a_)(s:bc)(d:Int),c8 s (gD vars s d l)
 |[],s,d=>by rw[gD];exact c8.refl s
 |p::r,s,d=>by rw[gD];exact(Vf p s d).trans (Kv r _ d)
theorem Vf:∀(p:a_)(s:bc)(d:Int),c8 s (mH vars s d p)
 | .mk field bD,s,d=>by rw[mH];exact Kw bD s d
theorem Kw:∀(l:List U)(s:bc)(d:Int),c8 s (i_ vars s d l)
 |[],s,d=>by rw[i_];exact c8.refl s
 |e::r,s,d=>by rw[i_];exact(xH e s _).trans (Kw r _ d)
end
end
theorem ft.still{H:AH}{id:Nat}{loc:J}{a b:bc}(h:ft H id loc a.aX)(k:c8 a b):ft H id loc b.aX:=by rw[k.1];exact h
section
variable{Φ:ad}{H:AH}{Q:ab}{id:Nat}{vars:List B}{s:bc}{loc:J}
theorem nZ(a:At H id (.row (b8 vars s loc)))(b:Q (.bool (s.bK != 0)) H):S.f38 Φ (.ptr id 0) H Q:=by unfold S.f38;simp only[aC,aa,X,abg];rw[a.load,show bE (b8 vars s loc) (4+1) 1 false=some (I s.bK)from rfl];simp only[X,dA];exact b
theorem gE(Z:Cl Φ S.bg){a:Bool}{e:Int}(c:At H id (.row (b8 vars s loc)))(d:∀H',cu id H H'→At H' id (.row (b8 vars (s.cB a e) loc))→Q (.ar []) H') :
  Φ 118 [.ptr id 0,.bool a,I e] H Q:=by
 refine S.Sf Z ?_;unfold S.f118;have k1:∀b:Bool,(b=true↔a=false∧s.bK=0)→G (S.vU Φ (.ptr id 0) (I e) Q) [.bool b] H:=by
  intro b f;simp only[aE,S.vU,ay,F,aC,aa,abg,X];apply aB<;>intro h
  · rw[c.load,show bE (b8 vars s loc) 3 1 false=some (I s.V)from rfl];simp only[X];rw[show aD [O,O] [(0,1,I s.V),(1,1,I e)]=some (.agg [I s.V,I e])from rfl];simp only[X];rw[c.store,af ⟨rfl,rfl,rfl,by simp[b8]⟩];simp only[X];refine d _ (cu.set id H _) ?_;have:s.cB a e={s with k6:=s.V,bK:=e}:=by unfold bc.cB;rw[af (f.1 h)]
    rw[this];exact c.set _
  · refine d H (cu.refl _ _) ?_;have:s.cB a e=s:=by unfold bc.cB;rw[ai λx=>h (f.2 x)]
    rw[this];exact c
 simp only[dO,X,cx];apply aB<;>intro h
 · refine S.nM Z (nZ c ?_);simp only[dO,X];refine k1 _ ?_;simp only[acG]at h;simp[h]
 · refine k1 _ ?_;simp only[acG,aeA]at h;simp[h]
theorem Vg{a:J}{xs:List (List UInt8)}{t:List UInt8}(d:aY false a=some (I xs.length))(e:∀(i:Nat) x,xs[i]?=some x→∃p,aL none 1 a (I i)=some p∧W H 1 false p=some (.str x))(m:xs.length≤9223372036854775807)
  (f:Q (I (fZ (xs.findIdx? λx=>t==x))) H):S.f156 Φ a (.str t) H Q:=by
 unfold S.f156;rw[d];simp only[X];have main:∀(b:List (List UInt8)) (i:Nat),xs.drop i=b→Q (I (fZ ((b.findIdx? λx=>t==x).map (·+ i)))) H→av (S.wq Φ a (.str t) (I xs.length) Q) ([I i],H):=by
  intro b;induction b with
  | nil=>intro i hi c;have hle:=fb hi;refine av.step ?_;simp only[S.wq,ay,aU,X,F];rw[fO];simpa[fZ]using c
  | cons y b g=>
   intro i hi c;obtain⟨n,h,j⟩:=eN hi;obtain⟨p,h1,l⟩:=e i y h;refine av.step ?_;simp only[S.wq,ay,aU,X,F];rw[fc,h1];simp only[X];rw[l];simp only[X,jH,F];rw[aeH]at c;by_cases he:(t==y)=true
   · rw[af he];rw[af he]at c;simpa[fZ]using c
   · rw [ai he];rw[ai he]at c;simp only[br,X];rw[bJ,iY i];refine g (i+1) j ?_;have:(aec (λx=>t==x) b).map (·+ (i+1))=((aec (λx=>t==x) b).map (·+ 1)).map (·+ i):=by
      rw[Option.map_map];congr 1;funext k;simp only[Function.comp];omega
     rw[this];exact c
 refine main xs 0 rfl ?_;simpa using f
theorem B1(Z:Cl Φ S.bg){a:J}{xs:List (List UInt8)}{t:List UInt8}(b:aY false a=some (I xs.length))(c:∀(i:Nat) x,xs[i]?=some x→∃p,aL none 1 a (I i)=some p∧W H 1 false p=some (.str x))(d:xs.length≤9223372036854775807)
  (e:Q (.bool (xs.any λx=>t==x)) H):Φ 115 [a,.str t] H Q:=by
 refine S.Se Z ?_;unfold S.f115;refine S.SJ Z (Vg b c d ?_);simp only[ec,X,xr];exact e
theorem rP(Z:Cl Φ S.bg){x:List UInt8}(c:At H id (.row (b8 vars s loc)))(d:ft H id loc s.aX)(n:s.aX.length≤1000)(a:Q (.bool (s.has x)) H):Φ 121 [.ptr id 0,.str x] H Q:=by
 refine S.Si Z ?_;unfold S.f121;simp only[aC,aa,X,abg];rw[c.load,show bE (b8 vars s loc) 1 1 false=some loc from rfl];simp only[X];rcases d with⟨rfl,h⟩|⟨j,cs,rfl,o,f,p,g⟩
 · unfold bc.has at a;rw[h]at a;exact B1 Z (xs:=[]) rfl (λi x k=>by cases k) (by simp) a
 · refine B1 Z (xs:=s.aX) rfl (λi y b=>?_) (by omega) a;have m:=(aat.1 b).1;refine⟨.ptr j i,?_,?_⟩
   · simp only[aL];rw[af ⟨by omega,by omega⟩];simp
   · rw [f.load];unfold bE;rw[cA];have e:cs[i]?=some (.str y):=by
      have:=congrArg (λl=>l[i]?) g;simp only[aav,abl,b,af m,Option.map_some]at this;exact this
     simp[e]
end
end Rb

namespace Rb
open Go
variable{k:Int}{b:Bool}{A B:Prop}
section
variable{Φ:ad}{H:AH}{Q:ab}
theorem Vh{k o:Int}(a:Q (.bool (hP k o)) H):S.f120 Φ (I k) (I o) H Q:=by
 have e:∀b:Bool,b=hP k o→Q (.bool b) H:=λb h=>by rw[h];exact a
 simp only[S.f120,S.AM,S.AN,S.HL,S.vV,S.AO,S.AP,aE,ay,bL,ec,gy,X,F,cx,ck,acq,bz,aT]
 repeat' (apply aB<;>intro h)
 all_goals (refine e _ ?_;simp only[bq,dM,ge_iff_le,beq_eq_false_iff_ne,ne_eq]at *;first|(subst_vars;simp[hP];done)|(simp_all [hP];done)|(simp_all [hP];omega)|skip)
theorem Kx{x:ba}(a:Q (.bool (ka x)) H):S.f160 Φ (.agg x.cells) H Q:=by
 unfold S.f160;simp only[BF,aK,BG,X,J1,BH,dY,jH,bL,cx];unfold ka at a;apply aB<;>intro h
 · rw[h]at a;have e:((x.bm.length:Int)==0)=(x.bm.length==0):=by rw[acS];simp
   rw[e];simpa using a
 · simp only[aeo]at h;rw[h]at a;exact a
theorem Vi{t:T}(a:Q (.bool (k7 k t)) H):S.f162 Φ (I k) (.agg t.cells) H Q:=by
 have e:∀b:Bool,b=k7 k t→Q (.bool b) H:=λb h=>by rw[h];exact a
 simp only[S.f162,S.Ir,S.AZ,S.A0,gZ,aK,eA,X,lQ,rE,aE,ay,bL,gy,F,cx]
 repeat' (apply aB<;>intro h)
 all_goals (refine e _ ?_;unfold k7;simp only[bq]at *;first|(exfalso;omega)|(subst_vars;simp[*];done)|(simp[*];done)|(subst_vars;simp_all;done)|skip)
def kc(k:Int):List J:=if 1≤k∧k≤10 then [.bool (ed k).1,.bool (ed k).2.1,.bool (ed k).2.2.1,I (ed k).2.2.2.1,.bool (ed k).2.2.2.2.1,.bool (ed k).2.2.2.2.2]else [P,P,P,O,P,P]
theorem Vj(k:Int):(kc k).length=6:=by unfold kc;split<;>rfl
theorem Vk(k:Int):(kc k).all J.scalar=true:=by unfold kc;split<;>rfl
theorem Vl(a:∀H',Q (.ar [.agg (kc k),.bool (decide (1≤k)&&decide (k≤10))]) H'):S.f159 Φ (I k) H Q:=by
 have fin:∀(cs:List J)(b:Bool) H',kc k=cs→(decide (1≤k)&&decide (k≤10))=b→Q (.ar [.agg cs,.bool b]) H':=λcs b H' h1 c=>by rw[←h1,←c];exact a H'
 clear a;simp only[S.f159,S.Il,S.AX,S.AY,aK,aQ,aT,X,aE,ay,bL,F]
 repeat' (apply aB<;>intro h)
 all_goals (refine⟨_,rfl,_,cG _ _ _ 6 rfl rfl rfl,_,by rw[ey];exact dP rfl,fin _ _ _ ?_ ?_⟩)
 all_goals (simp only[bq]at *;first|(exfalso;omega)|(subst_vars;rfl)|skip)
 ·unfold kc;rw[bO]
 ·rw[ae1,decide_eq_false_iff_not,decide_eq_false_iff_not];omega
theorem rQ(e:U)(H:AH):aM H false 8 (.agg e.cells)=some (.ak e.cells,H):=by unfold aM;rw[af ⟨rfl,e.len⟩];rfl
theorem la(e:U)(i:Nat):aa i (.ak e.cells)=some (.ak (e.cells.drop i)):=rfl
theorem lb(e:U)(H:AH):W H 1 false (.ak (e.cells.drop 0))=some (I e.kind):=by rw[U.bQ,ba.bQ];rfl
theorem Ky(e:U)(H:AH):W H 1 false (.ak (e.cells.drop 1))=some (u e.n):=by rw[U.bQ,ba.bQ];rfl
theorem B2(e:U)(H:AH):W H 1 false (.ak (e.cells.drop 2))=some (.str e.E):=by rw[U.bQ,ba.bQ];rfl
theorem Kz(e:U)(H:AH):W H 1 false (.ak (e.cells.drop 3))=some (I e.op):=by rw[U.bQ,ba.bQ];rfl
theorem KA(e:U)(H:AH):W H 1 false (.ak (e.cells.drop 4))=some (I e.aW):=by rw[U.bQ,ba.bQ];rfl
theorem rR(e:U)(H:AH):W H 2 true (.ak (e.cells.drop 5))=some (.agg e.place.cells):=by rw[U.bQ,ba.bQ];rfl
theorem xJ(e:U)(H:AH):W H 1 false (.ak (e.cells.drop 7))=some (aZ U.cells e.bu):=by rw[U.bQ,ba.bQ];rfl
theorem B3(e:U)(H:AH):W H 8 true (.ak e.cells)=some (.agg e.cells):=dP e.len
theorem n5(e:aG)(H:AH):aM H false 10 (.agg e.cells)=some (.ak e.cells,H):=by unfold aM;rw[af ⟨rfl,e.len⟩];rfl
theorem gF(e:aG)(i:Nat):aa i (.ak e.cells)=some (.ak (e.cells.drop i)):=rfl
theorem lf(e:aG)(H:AH):W H 1 false (.ak (e.cells.drop 0))=some (I e.kind):=by rw[aG.bQ,ba.bQ];rfl
theorem B4(e:aG)(H:AH):W H 1 false (.ak (e.cells.drop 1))=some (I e.V):=by rw[aG.bQ,ba.bQ];rfl
theorem mJ(e:aG)(H:AH):W H 1 false (.ak (e.cells.drop 2))=some (.str e.E):=by rw[aG.bQ,ba.bQ];rfl
theorem B5(e:aG)(H:AH):W H 1 false (.ak (e.cells.drop 3))=some (.str e.cp):=by rw[aG.bQ,ba.bQ];rfl
theorem xK(e:aG)(H:AH):W H 1 false (.ak (e.cells.drop 4))=some (I e.aW):=by rw[aG.bQ,ba.bQ];rfl
theorem n9(e:aG)(H:AH):W H 2 true (.ak (e.cells.drop 5))=some (.agg e.place.cells):=by rw[aG.bQ,ba.bQ];rfl
theorem mK(e:aG)(H:AH):W H 1 false (.ak (e.cells.drop 7))=some (aZ U.cells e.bh):=by rw[aG.bQ,ba.bQ];rfl
theorem xL(e:aG)(H:AH):W H 1 false (.ak (e.cells.drop 8))=some (aZ aG.cells e.bj):=by rw[aG.bQ,ba.bQ];rfl
theorem B6(e:aG)(H:AH):W H 1 false (.ak (e.cells.drop 9))=some (aZ aG.cells e.bC):=by rw[aG.bQ,ba.bQ];rfl
theorem KC(e:aG)(H:AH):W H 10 true (.ak e.cells)=some (.agg e.cells):=dP e.len
theorem KD{α:Type}(l:List α):((l.length:Int)==0)=(l.length==0):=by rw[acS];simp
theorem ite_bool(a:b=true→A)(c:b=false→B):if b=true then A else B:=aB a λh=>c (by simpa using h)
theorem ie(a:b=false→A)(c:b=true→B):if b=false then A else B:=aB a λh=>c (by simpa using h)
theorem Vm(Z:Cl Φ S.bg){e:U}(i:Q (.bool (hb e)) H):S.f187 Φ (.agg e.cells) H Q:=by
 have fin:∀b:Bool,b=hb e→Q (.bool b) H:=λb h=>by rw[h];exact i
 clear i;have l : (decide (1≤e.kind)&&decide (e.kind≤8))=true→S.mB Φ (.ak e.cells) Q [I (hQ e.kind).1,.bool (hQ e.kind).2] H:=by
  intro hk;unfold hb at fin;rw[hk]at fin;simp only[adQ]at fin;generalize m:hQ e.kind=d at fin ⊢;have k1:∀b:Bool,(∀c,c=(b&&((e.bu.length:Int)==d.1))→Q (.bool c) H)→G (S.rq Φ (.ak e.cells) [I d.1,.bool d.2] Q) [.bool b] H:=by
   intro b a;simp only[aE,S.rq,ay,bY,cx,la,xJ,dY,bL,X];cases b
   ·exact a _ rfl
   ·exact a _ rfl
  have k2:∀b:Bool,(∀c,c=((b&&(d.2||ka e.place))&&((e.bu.length:Int)==d.1))→Q (.bool c) H)→G (S.kX Φ (.ak e.cells) [I d.1,.bool d.2] Q) [.bool b] H:=by
   intro b a;simp only[aE,S.kX,ay,bY,cx,ck,la,rR,X];cases b
   ·exact k1 _ λc hc=>a c (by rw[hc];rfl)
   · rw [af rfl];apply ie<;>intro h
     · refine S.Jr Z (Kx ?_);exact k1 _ λc hc=>a c (by rw[hc,h];rfl)
     ·exact k1 _ λc hc=>a c (by rw[hc,h];rfl)
  have f : ∀b:Bool,(∀c,c=(((b&&(if e.kind=3 then decide (1≤e.op)&&decide (e.op≤11)else e.op==0))&&(d.2||ka e.place))&&((e.bu.length:Int)==d.1))→Q (.bool c) H) →
    G (S.rr Φ (.ak e.cells) (.bool (e.kind==3)) [I d.1,.bool d.2] Q) [.bool b] H:=by
   intro b a;simp only[aE,S.rr,ay,bY,cx,ck,la,Kz,X,ec,gy,bL,dO];cases b
   ·exact k2 _ λc hc=>a c (by rw[hc];rfl)
   · rw [af rfl];apply ite_bool<;>intro h
     · rw [af (by simpa using h)]at a;apply ite_bool<;>intro h1
       · apply ie<;>intro j
         · rw[h,dC];exact k2 _ λc hc=>a c (by rw[hc];simp only[ge_iff_le]at h1;rw[h1,j];rfl)
         ·exact k2 _ λc hc=>a c (by rw[hc];simp only[ge_iff_le]at h1;rw[h1,j];rfl)
       · rw[h,dC];exact k2 _ λc hc=>a c (by rw[hc];simp only[ge_iff_le]at h1;rw[h1];rfl)
     · rw[ai (by simpa using h)]at a;rw[h,mL];exact k2 _ λc hc=>a c (by rw[hc];rfl)
  have k:∀b:Bool,(∀c,c=((((b&&(e.kind==2||e.E==[]))&&(if e.kind=3 then decide (1≤e.op)&&decide (e.op≤11)else e.op==0))&&(d.2||ka e.place))&&((e.bu.length:Int)==d.1))→Q (.bool c) H) →
    G (S.wQ Φ (.ak e.cells) (.bool (e.kind==3)) [I d.1,.bool d.2] Q) [.bool b] H:=by
   intro b a;simp only[aE,S.wQ,ay,bY,cx,ck,la,lb,B2,X,bL,jH];cases b
   ·exact f _ λc hc=>a c (by rw[hc];rfl)
   · rw[af rfl];apply ie<;>intro h
     ·exact f _ λc hc=>a c (by rw[hc,h];rfl)
     ·exact f _ λc hc=>a c (by rw[hc,h];rfl)
  simp only[S.mB,la,lb,Ky,X,bL,ck];apply ie<;>intro h
  ·exact k _ λc hc=>fin c (by rw[hc,h];rfl)
  ·exact k _ λc hc=>fin c (by rw[hc,h];rfl)
 simp only[S.f187,S.A2,S.A3,S.A4,rQ,aK,la,lb,X,aE,ay,bL,F,bq];have g:∀n b,hQ e.kind=(n,b)→(decide (1≤e.kind)&&decide (e.kind≤8))=true→S.mB Φ (.ak e.cells) Q [I n,.bool b] H:=λn b h hk=>by have:=l hk;rw[h]at this;exact this
 repeat' (apply aB<;>intro h)
 all_goals first
  |(exfalso;omega)
  | (refine g _ _ ?_ ?_
     · unfold hQ;simp[*]
     ·simp[*])
  |skip
 refine fin _ ?_;have:(decide (1≤e.kind)&&decide (e.kind≤8))=false:=by rw[ae1,decide_eq_false_iff_not,decide_eq_false_iff_not];omega
 unfold hb;rw[this];rfl
end
end Rb

namespace Rb
open Go
variable{s:bc}{loc:J}{H:AH}
theorem n_:maxLen=9223372036854775807:=by decide
theorem U.fP{e:U}(h:e.ok):(e.bu.length≤9223372036854775807∧∀k∈e.bu,k.ok)∧e.place.ok:=by
 rw[←n_];cases e with
 | mk kind n E op aW place bu=>obtain⟨_,_,_,_,_,a,b,c⟩:=h;exact⟨⟨b,U.dT.1 c⟩,a⟩
theorem ba.fP{x:ba}(h:x.ok):x.bm.length≤9223372036854775807∧∀p∈x.bm,p.bD.length≤9223372036854775807∧∀i∈p.bD,i.ok:=by
 rw[←n_];cases x with
 | mk var bm=>
  obtain⟨_,a,b⟩:=h;refine⟨a,λp c=>?_⟩;have:=a_.dT.1 b p c;cases p with
  | mk field bD=>obtain⟨_,d,e⟩:=this;exact⟨d,U.dT.1 e⟩
theorem U.ind{P:U→Prop}(h:∀e:U,(∀k∈e.bu,P k)→(∀p∈e.place.bm,∀i∈p.bD,P i)→P e):∀e,P e:=by
 have main:∀(n:Nat)(e:U),sizeOf e<n→P e:=by
  intro n;induction n with
  |zero=>intro e he;omega
  | succ n a=>
   intro e he;refine h e (λk hk=>a _ ?_) λp b i hi=>a _ ?_
   · cases e with
     | mk kind n E op aW place bu=>have:=aei hk;simp at this he ⊢;omega
   · cases e with
     | mk kind n E op aW place bu=>
      cases place with
      | mk var bm=>
       have h1:=aei b;cases p with
       | mk field bD=>have c:=aei hi;simp at h1 c he ⊢;omega
 exact λe=>main _ e (adn _)
section
variable{C:Ctx}(aj:bX C)(Z:Cl (ae C) S.bg)
include aj Z
theorem KE(k o:Int):bF (ae C) 120 [I k,I o] (.bool (hP k o)):=λH Q a=>S.Sh Z (Vh a)
theorem Vn(e:U):bF (ae C) 187 [.agg e.cells] (.bool (hb e)):=λH Q a=>S.S5 Z (Vm Z a)
theorem Vo(k:Int)(t:T):bF (ae C) 162 [I k,.agg t.cells] (.bool (k7 k t)):=λH Q a=>S.SM Z (Vi a)
theorem Vp(t:T)(p:a_)(hs:cQ t=0)(hl:p.bD.length≤maxLen):bF (ae C) 186 [.agg t.cells,.agg p.cells] (gC (du t p)):=bF.of aj (by simp[J.b7,J.bI,T.bI,a_.bI]) (JZ _) λQ a=>S.S4 Z (UJ Z hs hl a)
theorem Vq(vars:List B)(x:ba)(hl:vars.length≤maxLen)(hv:∀v∈vars,v.ok)(b:x.ok):bF (ae C) 161 [aZ B.cells vars,.agg x.cells] (gC (cS vars x)):=by
 have a:=ba.fP b;rw[←n_]at a;exact bF.of aj (by simp[J.b7,J.bI,ba.bI,nO B.bI]) (JZ _) λQ c=>S.SL Z (UM Z hl a.1 (λv d=>JW aj Z v.type (hv v d).2) (λt p hs e=>Vp aj Z t p hs (a.2 p e).1) c)
end
def xM(C:Ctx)(id:Nat)(vars:List B)(e:U):Prop:=
 ∀ (s:bc) (d:Int) (loc:J) (H:AH) (Q:ab),At H id (.row (b8 vars s loc))→ft H id loc s.aX→s.aX.length≤1000 →
  (∀H',cu id H H'→At H' id (.row (b8 vars (k8 vars s d e) loc))→Q (.ar []) H')→ae C 163 [.ptr id 0,.agg e.cells,I d] H Q
def ja(r:Int×T):List J:=if r.1=0 then r.2.cells else iH
theorem KF(r:Int×T):(ja r).length=6:=by unfold ja;split;exact r.2.len;rfl
theorem Vr(r:Int×T):(ja r).all J.scalar=true:=by unfold ja;split;exact r.2.scalar;rfl
theorem Vt(r:Int×T):gC r = .ar [.agg (ja r),I r.1]:=by unfold gC ja;split;rename_i h;rw[h];rfl
section
variable{C:Ctx}(aj:bX C)(Z:Cl (ae C) S.bg){id:Nat}{vars:List B}
include aj Z
theorem KG{l:List U}(hl:l.length≤9223372036854775807)(p:∀e∈l,xM C id vars e){d:Int}{Q:ab}(q:At H id (.row (b8 vars s loc)))(t:ft H id loc s.aX)(u:s.aX.length≤1000)
  (v:∀H',cu id H H'→At H' id (.row (b8 vars (d_ vars s d l) loc))→Q (.ar []) H'):ae C 123 [.ptr id 0,aZ U.cells l,I d] H Q:=by
 refine S.Sk Z ?_;unfold S.f123;simp only[dY,X];have main:∀(r:List U)(i:Nat)(s':bc)(H1:AH),l.drop i=r→c8 s s'→cu id H H1→At H1 id (.row (b8 vars s' loc))→d_ vars s' d r=d_ vars s d l →
   av (S.rm (ae C) (.ptr id 0) (aZ U.cells l) (I d) (I l.length) Q) ([I i],H1):=by
  intro r;induction r with
  | nil=>intro i s' H1 c b hk f he;have hle:=fb c;refine av.step ?_;simp only[S.rm,ay,aU,X,F];rw[fO];rw[d_]at he;exact v H1 hk (by rw[←he];exact f)
  | cons e r w=>
   intro i s' H1 c b hk f he;obtain⟨x,o,y⟩:=eN c;refine av.step ?_;simp only[S.rm,ay,aU,X,F];rw[fc,dF x];simp only[X];rw[eh U.len (by decide) _ o];simp only[X,aK,aQ,aT];rw[cG _ _ _ 8 e.len e.scalar rfl];simp only[X];have g:=f.push (.row e.cells);have j:=hk.trans (cu.push id H1 (.row e.cells));have z:W (H1.push (.row e.cells)) 8 true (.ptr H1.n 0)=some (.agg e.cells):=by rw[ey,dP e.len]
   have next:∀(s2:bc)(a:AH),cu id H a→At a id (.row (b8 vars s2 loc))→c8 s s2→d_ vars s2 d r=d_ vars s d l →
     G (S.vY (ae C) ([I i],H1) (av (S.rm (ae C) (.ptr id 0) (aZ U.cells l) (I d) (I l.length) Q)) Q) [] a:=by
    intro s2 a k a3 A B;simp only[aE,S.vY,ay,br,X];rw[bJ,iY i];exact w (i+1) s2 a y A k a3 B
   rw[d_]at he;generalize H1.push (.row e.cells)=H2 at *;refine S.nM Z (nZ g ?_);simp only[dO,X,F];apply aB<;>intro h
   · have m:s'.bK=0:=by simpa using h
     rw[ai (by simpa using m)]at he;simp only[z,X,br];refine p e (adl o) s' _ loc H2 _ g ((t.aO j).still b) (by rw[b.1];exact u) λa k a3=>?_;exact next _ a (j.trans k) a3 (b.trans (xH vars e s' _)) he
   · have m:s'.bK≠0:=by simpa using h
     rw[af m]at he;exact next s' H2 j g b he
 exact main l 0 s H rfl (c8.refl s) (cu.refl id H) q rfl
theorem KH(R:vars.length≤maxLen)(hv:∀v∈vars,v.ok){x:ba}(E:x.ok)(T:∀p∈x.bm,∀i∈p.bD,xM C id vars i){k d:Int}{Q:ab}(c:At H id (.row (b8 vars s loc)))(V:ft H id loc s.aX)(Y:s.aX.length≤1000)
  (f:∀H',cu id H H'→At H' id (.row (b8 vars (jL vars s k d x) loc))→Q (.ar []) H'):ae C 122 [.ptr id 0,I k,.agg x.cells,I d] H Q:=by
 obtain⟨aI,ac⟩:=ba.fP E;refine S.Sj Z ?_;unfold S.f122;simp only[BF,aK];refine S.nM Z (nZ c ?_);simp only[F];rw[Vc]at f;apply aB<;>intro h
 · rw[af (by simpa using h)]at f;exact f H (cu.refl _ _) c
 · have J : s.bK=0:=by simpa using h
   rw[ai (by simpa using J)]at f;simp only[aC,aa,X,abg,aa6];have l0:W H 1 false (.ptr id 0)=some (aZ B.cells vars):=by rw[c.load];rfl
   have ad:W H 2 true (.ak x.cells)=some (.agg x.cells):=dP x.len;simp only[l0,ad,X];refine Vq aj Z vars x R hv E _ _ ?_;rw[Vt];simp only[bo,adW,adX,X,aK,aQ,aT];have a2:=c.push (.row iH);refine⟨(a2.load 1 0 false).trans rfl,dP x.len,?_⟩;change Do (au (H.push (.row iH)) 6 (.ptr H.n 0) (.agg (ja (cS vars x)))) _;rw[cG _ _ _ 6 (KF _) (Vr _) rfl];simp only[X,bL];have a3:=c.push (.row (ja (cS vars x)));have ag:=cu.push id H (.row (ja (cS vars x)));have ah:=At.new H (.row (ja (cS vars x)));have al:H.n≠id:=abj c.jF;generalize H.push (.row (ja (cS vars x)))=H2 at *;generalize H.n=aJ at *;refine gE Z a3 λaL K a4=>?_;have am:=K.2 _ _ al ah;have L:=ag.trans K;have bm:∀(s1:bc)(b:AH),c8 s s1→cu id H b→At b id (.row (b8 vars s1 loc))→gD vars s1 d x.bm=gD vars (jK vars s k x) d x.bm→G (S.vX (ae C) (.ptr id 0) (I d) (.ak x.cells) Q) [] b:=by
    intro s1 b t hk g he;simp only[aE,S.vX,BG,BH,dY,X];have main:∀(r:List a_)(i:Nat)(s':bc)(H1:AH),x.bm.drop i=r→c8 s s'→cu id H H1→At H1 id (.row (b8 vars s' loc))→gD vars s' d r=gD vars (jK vars s k x) d x.bm →
      av (S.rk (ae C) (.ptr id 0) (I d) (aZ a_.cells x.bm) (I x.bm.length) Q) ([I i],H1):=by
     intro r;induction r with
     | nil=>intro i s' H1 u t hk g he;have hle:=fb u;refine av.step ?_;simp only[S.rk,ay,aU,X,F];rw[fO];rw[gD]at he;exact f H1 hk (by rw[←he];exact g)
     | cons p r an=>
      intro i s' H1 u t hk g he;obtain⟨ao,M,ap⟩:=eN u;have N:=adl M;refine av.step ?_;simp only[S.rk,ay,aU,X,F];rw[fc,dF ao];simp only[X];rw[eh a_.len (by decide) _ M];simp only[X,aK,aQ,aT];rw[cG _ _ _ 2 p.len p.scalar rfl];simp only[X,aa,abg];have aq:=g.push (.row p.cells);have aw:=hk.trans (cu.push id H1 (.row p.cells));have ax:W (H1.push (.row p.cells)) 1 false (.ptr H1.n 1)=some (aZ U.cells p.bD):=by rw[ey,a_.bQ];rfl
      simp only[ax,X,dY];rw[gD,Vd]at he;have inner:∀(q:List U)(j:Nat)(s2:bc)(a:AH),p.bD.drop j=q→c8 s s2→cu id H a→At a id (.row (b8 vars s2 loc))→gD vars (i_ vars s2 d q) d r=gD vars (jK vars s k x) d x.bm →
        av (S.vW (ae C) (.ptr id 0) (I d) (aZ U.cells p.bD) (I p.bD.length) ([I i],H1) (av (S.rk (ae C) (.ptr id 0) (I d) (aZ a_.cells x.bm) (I x.bm.length) Q)) Q) ([I j],a):=by
       intro q;induction q with
       | nil=>intro j s2 a w l y z m;have hle:=fb w;refine av.step ?_;simp only[S.vW,ay,aU,X,F];rw[fO];simp only[aE,S.HO,ay,br,X];rw[bJ,iY i];rw[i_]at m;exact an (i+1) s2 a ap l y z m
       | cons e q az=>
        intro j s2 a w l y z m;obtain⟨aA,O,aD⟩:=eN w;have aM:=(ac p N).1;refine av.step ?_;simp only[S.vW,ay,aU,X,F];rw[fc,dF aA];simp only[X];rw[eh U.len (by decide) _ O];simp only[X,aK,aQ,aT];rw[cG _ _ _ 8 e.len e.scalar rfl];simp only[X];have aF:=z.push (.row e.cells);have P:=y.trans (cu.push id a (.row e.cells));have aG:W (a.push (.row e.cells)) 8 true (.ptr a.n 0)=some (.agg e.cells):=by rw[ey,dP e.len]
        simp only[aG,X,br];rw[i_]at m;refine T p N e (adl O) s2 _ loc _ _ aF ((V.aO P).still l) (by rw[l.1];exact Y) λb aH a5=>?_;rw[bJ,iY j];exact az (j+1) _ b aD (l.trans (xH vars e s2 _)) (P.trans aH) a5 m
      exact inner p.bD 0 s' _ rfl t aw aq he
    exact main x.bm 0 s1 b rfl t hk g he
   refine S.nM Z (nZ a4 ?_);simp only[ck];apply ie<;>intro h
   · rw [am.load,dP (KF _)];simp only[X];have o:(cS vars x).1=0:=by
      by_cases o:(cS vars x).1=0
      ·exact o
      · have:(s.cB ((cS vars x).1==0) (cS vars x).1).bK=(cS vars x).1:=by
          unfold bc.cB;rw[af ⟨by simpa using o,J⟩]
        rw[this]at h;simp at h;exact absurd h o
     have hc:ja (cS vars x)=(cS vars x).2.cells:=by unfold ja;rw[af o]
     rw[hc];refine Vo aj Z _ _ _ _ ?_;refine gE Z a4 λA D a6=>?_;refine bm _ A ((ee _ _ _).trans (ee _ _ _)) (L.trans D) a6 ?_;unfold jK;simp only[h,acP]
   · refine gE Z a4 λA D a6=>?_;refine bm _ A ((ee _ _ _).trans (ee _ _ _)) (L.trans D) a6 ?_;unfold jK;simp only[h,Bool.true_or]
theorem Vu(u:vars.length≤maxLen)(hv:∀v∈vars,v.ok):∀e:U,e.ok→xM C id vars e:=by
 refine U.ind λe w x he=>?_;obtain⟨⟨y,z⟩,q⟩:=U.fP he;have A:=ba.fP q;intro s d loc H Q B l m b;refine S.SN Z ?_;unfold S.f163;simp only[rQ,aK,gy,X];refine gE Z B λH1 k1 Y=>?_;simp only[B3,X];refine Vn aj Z e _ _ ?_;refine gE Z Y λH2 k2 a2=>?_;simp only[la,lb,KA,X,br];refine KE aj Z _ _ _ _ ?_;refine gE Z a2 λn D a3=>?_;have kk:=k1.trans (k2.trans D);rw[Vb]at b;change At n id (.row (b8 vars (dZ s d e) loc))at a3;have st1:=Ku s d e;generalize dZ s d e=s1 at *;refine S.nM Z (nZ a3 ?_);simp only[F];apply aB<;>intro h
 · rw[af (by simpa using h)]at b;exact b n kk a3
 · rw [ai (by simpa using h)]at b;simp only[bL,X,F];have bu:∀(g:bc)(a:AH),c8 s g→cu id H a→At a id (.row (b8 vars g loc))→(∀H',cu id H H'→At H' id (.row (b8 vars (d_ vars g d e.bu) loc))→Q (.ar []) H')→G (S.wu (ae C) (.ptr id 0) (I d) (.ak e.cells) Q) [] a:=by
    intro g a c hk j f;simp only[aE,S.wu,la,xJ,X];exact KG aj Z y (λk r=>w k r (z k r)) j ((l.aO hk).still c) (by rw[c.1];exact m) λH' k' o=>f H' (hk.trans k') o
   have bG:∀(s2:bc)(a:AH),c8 s s2→cu id H a→At a id (.row (b8 vars s2 loc))→(∀H',cu id H H'→At H' id (.row (b8 vars (d_ vars (if e.kind≥4 then jL vars s2 (aH (10+e.kind)) d e.place else s2) d e.bu) loc))→Q (.ar []) H') →
     G (S.wv (ae C) (.ptr id 0) (I d) (.ak e.cells) Q) [] a:=by
    intro s2 a c hk j f;simp only[aE,S.wv,la,lb,rR,X,ec,F,br];apply aB<;>intro h
    · rw[af (by simpa using h)]at f;refine KH aj Z u hv q (λp t i hi=>x p t i hi ((A.2 p t).2 i hi)) j ((l.aO hk).still c) (by rw[c.1];exact m) λH' k' o=>?_;exact bu _ H' (c.trans (B0 vars _ _ _ _)) (hk.trans k') o f
    · rw[ai (by simpa using h)]at f;exact bu _ a c hk j f
   apply aB<;>intro h
   · rw[show(if e.kind=2 then s1.cB (s1.has e.E) 6 else s1)=s1.cB (s1.has e.E) 6 from af (by simpa using h)]at b;simp only[B2,X];refine rP Z a3 ((l.aO kk).still st1) (by rw[st1.1];exact m) ?_;refine gE Z a3 λa J a4=>?_;exact bG _ a (st1.trans (ee _ _ _)) (kk.trans J) a4 b
   · rw[show(if e.kind=2 then s1.cB (s1.has e.E) 6 else s1)=s1 from ai (by simpa using h)]at b;exact bG _ n st1 kk a3 b
end
end Rb

namespace Rb
open Go
variable{s:bc}{x:aG}{d:Int}{id:Nat}
section
variable{Φ:ad}{H:AH}{Q:ab}
theorem Vv(Z:Cl Φ S.bg)(q:∀H',Q (.bool (iI x)) H'):S.f119 Φ (.agg x.cells) H Q:=by
 have fin:∀(b:Bool) H',b=iI x→Q (.bool b) H':=λb H' h=>by rw[h];exact q H'
 clear q;unfold S.f119;simp only[n5,aK,gF,lf,X];refine S.SK Z (Vl λH1=>?_);simp only[bo,adW,adX,X,aK,aQ,aT];rw[cG _ _ _ 6 (Vj _) (Vk _) rfl];simp only[X];have at9:=At.new H1 (.row (kc x.kind));generalize H1.push (.row (kc x.kind))=H2 at *;generalize H1.n=f at *;by_cases hk:(decide (1≤x.kind)&&decide (x.kind≤10))=true
 · have hc:kc x.kind=[.bool (ed x.kind).1,.bool (ed x.kind).2.1,.bool (ed x.kind).2.2.1,I (ed x.kind).2.2.2.1,.bool (ed x.kind).2.2.2.2.1,.bool (ed x.kind).2.2.2.2.2]:=by
     unfold kc;rw[af (by simpa using hk)]
   rw[hc]at at9;unfold iI at fin;rw[hk]at fin ⊢;simp only[adQ]at fin;generalize ed x.kind=h at *;obtain⟨m,h1,k,j,i,g⟩:=h;simp only at at9 fin;have k1:∀(b:Bool)(H':AH),At H' f (.row [.bool m,.bool h1,.bool k,I j,.bool i,.bool g])→(∀c a,c=(b&&(g||x.bC.length==0))→Q (.bool c) a)→G (S.pN Φ (.ak x.cells) (.ptr f 0) Q) [.bool b] H':=by
    intro b H' d e;have l:W H' 1 false (.ptr f 5)=some (.bool g):=by rw[d.load];rfl
    simp only[aE,S.pN,ay,cx,ck,aa,abg,B6,X,dY,bL,l,KD];cases b
    ·exact e _ _ rfl
    · rw[af rfl];apply ie<;>intro h
      ·exact e _ _ (by rw[h];rfl)
      ·exact e _ _ (by rw[h];rfl)
   have k2:∀(b:Bool)(H':AH),At H' f (.row [.bool m,.bool h1,.bool k,I j,.bool i,.bool g])→(∀c a,c=(b&&(i||x.bj.length==0)&&(g||x.bC.length==0))→Q (.bool c) a)→G (S.rj Φ (.ak x.cells) (.ptr f 0) Q) [.bool b] H':=by
    intro b H' d e;have l:W H' 1 false (.ptr f 4)=some (.bool i):=by rw[d.load];rfl
    simp only[aE,S.rj,ay,cx,ck,aa,abg,xL,X,dY,bL,l,KD];cases b
    ·exact k1 _ _ d λc a hc=>e c a (by rw[hc];rfl)
    · rw[af rfl];apply ie<;>intro h
      ·exact k1 _ _ d λc a hc=>e c a (by rw[hc,h];rfl)
      ·exact k1 _ _ d λc a hc=>e c a (by rw[hc,h];rfl)
   have o:∀(b:Bool)(H':AH),At H' f (.row [.bool m,.bool h1,.bool k,I j,.bool i,.bool g])→(∀c a,c=(b&&((x.bh.length:Int)==j)&&(i||x.bj.length==0)&&(g||x.bC.length==0))→Q (.bool c) a) →
     G (S.pO Φ (.ak x.cells) (.ptr f 0) Q) [.bool b] H':=by
    intro b H' d e;have l:W H' 1 false (.ptr f 3)=some (I j):=by rw[d.load];rfl
    simp only[aE,S.pO,ay,cx,ck,aa,abg,mK,X,dY,bL,l];cases b
    ·exact k2 _ _ d λc a hc=>e c a (by rw[hc];rfl)
    · rw[af rfl];exact k2 _ _ d λc a hc=>e c a (by rw[hc];rfl)
   have p:∀(b:Bool)(H':AH),At H' f (.row [.bool m,.bool h1,.bool k,I j,.bool i,.bool g])→(∀c a,c=(b&&(k||ka x.place)&&((x.bh.length:Int)==j)&&(i||x.bj.length==0)&&(g||x.bC.length==0))→Q (.bool c) a) →
     G (S.pP Φ (.ak x.cells) (.ptr f 0) Q) [.bool b] H':=by
    intro b H' d e;have l:W H' 1 false (.ptr f 2)=some (.bool k):=by rw[d.load];rfl
    simp only[aE,S.pP,ay,cx,ck,aa,abg,n9,X,l];cases b
    ·exact o _ _ d λc a hc=>e c a (by rw[hc];rfl)
    · rw [af rfl];apply ie<;>intro h
      · refine S.Jr Z (Kx ?_);exact o _ _ d λc a hc=>e c a (by rw[hc,h];rfl)
      ·exact o _ _ d λc a hc=>e c a (by rw[hc,h];rfl)
   have r:∀(b:Bool)(H':AH),At H' f (.row [.bool m,.bool h1,.bool k,I j,.bool i,.bool g])→(∀c a,c=(b&&(h1||x.cp==[])&&(k||ka x.place)&&((x.bh.length:Int)==j)&&(i||x.bj.length==0)&&(g||x.bC.length==0))→Q (.bool c) a) →
     G (S.pQ Φ (.ak x.cells) (.ptr f 0) Q) [.bool b] H':=by
    intro b H' d e;have l:W H' 1 false (.ptr f 1)=some (.bool h1):=by rw[d.load];rfl
    simp only[aE,S.pQ,ay,cx,ck,aa,abg,B5,X,l,jH];cases b
    ·exact p _ _ d λc a hc=>e c a (by rw[hc];rfl)
    · rw[af rfl];apply ie<;>intro h
      ·exact p _ _ d λc a hc=>e c a (by rw[hc,h];rfl)
      ·exact p _ _ d λc a hc=>e c a (by rw[hc,h];rfl)
   have l:W H2 1 false (.ptr f 0)=some (.bool m):=by rw[at9.load];rfl
   simp only[cx,ck,aa,abg,aa6,l,X,mJ,jH,aT];apply ie<;>intro h
   ·exact r _ _ at9 λc a hc=>fin c a (by rw[hc,h];rfl)
   ·exact r _ _ at9 λc a hc=>fin c a (by rw[hc,h];rfl)
 · simp only[aeo]at hk;rw[hk];simp only[cx,S.pN,S.rj,S.pO,S.pP,S.pQ,aE,ay,acq,bz];refine fin _ _ ?_;unfold iI;rw[hk];rfl
end
def iK(s:bc):Prop:=(s.aX.length:Int)≤s.lets∧s.lets≤41∧(s.bK=0→s.lets≤40)
theorem Vw{a:Bool}{e:Int}(b:e≠0)(h:(s.cB a e).bK=0):s.bK=0∧a=true:=by
 unfold bc.cB at h;split at h
 ·exact absurd h b
 · rename_i c;refine⟨h,?_⟩;cases a with
   |true=>rfl
   |false=>exact absurd ⟨rfl,h⟩ c
section
variable(vars:List B)(kw:List UInt8→Bool)
theorem KI(s:bc)(d:Int)(x:aG):c8 s (gb vars kw s d x):=by
 unfold gb;split
 ·exact(ee _ _ _).trans ((ee _ _ _).trans (ee _ _ _))
 · split
   ·exact ee _ _ _
   · split
     ·exact B0 vars _ _ _ _
     ·exact c8.refl s
theorem Vx(a:x.kind=1)(h:(gb vars kw s d x).bK=0):s.lets<40:=by unfold gb at h;rw[af a]at h;have:=(Vw (by decide) h).2;exact of_decide_eq_true this
theorem Vy{l:List U}(h:(d_ vars s d l).bK=0):s.bK=0:=by
 by_cases a:s.bK=0
 ·exact a
 ·rw[Kr vars a]at h;exact absurd h a
theorem Vz(a:x.kind≠1):c8 s (iJ s x):=by
 unfold iJ;rw[ai a];split
 ·exact(ee _ _ _).trans ((ee _ _ _).trans (ee _ _ _))
 ·exact c8.refl s
theorem KJ(a:s.bK=0)(hi:iK s):iK (fq vars kw s d x)∧s.lets≤(fq vars kw s d x).lets∧s.aX.length≤(fq vars kw s d x).aX.length:=by
 obtain⟨i1,i2,i3⟩:=hi;have i4:=i3 a;have s1:c8 s (d_ vars (gb vars kw (fp s d x) d x) d x.bh):=(BZ s d x).trans ((KI vars kw _ d x).trans (xI vars _ _ _));unfold fq;by_cases hk:x.kind=1
 · have hl:(d_ vars (gb vars kw (fp s d x) d x) d x.bh).bK=0→s.lets<40:=by
     intro h;have:=Vx vars kw hk (Vy vars h);rw[(BZ s d x).2]at this;exact this
   generalize d_ vars (gb vars kw (fp s d x) d x) d x.bh=t at *;unfold iJ;rw[af hk];unfold bc.BW iK;simp only[ad9,ae2];obtain⟨s2,b⟩:=s1;rw[s2,b];have e:aH (s.lets+1)=s.lets+1:=bJ;rw[e];refine⟨⟨by omega,by omega,λk=>?_⟩,by omega,by omega⟩;have:=hl k;omega
 · have s2:=s1.trans (Vz (s:=d_ vars (gb vars kw (fp s d x) d x) d x.bh) hk);refine⟨⟨by rw[s2.1,s2.2];exact i1,by rw[s2.2];exact i2,λ_=>by rw[s2.2];exact i4⟩,by rw[s2.2];exact aeQ _,by rw[s2.1];exact hT _⟩
mutual
theorem KK:∀(x:aG)(s:bc)(d:Int),s.bK=0→iK s→iK (stM vars kw s d x)∧s.lets≤(stM vars kw s d x).lets∧s.aX.length≤(stM vars kw s d x).aX.length
 | .mk kind V E cp aW place bh bj bC,s,d,a,hi=>by rw[stM];have h1:=KJ vars kw (d:=d) (x:= .mk kind V E cp aW place bh bj bC) a hi;generalize fq vars kw s d (.mk kind V E cp aW place bh bj bC)=s1 at *;have b:=rS bj s1 s1.aX.length (aH (d+1)) h1.1 (hT _);generalize eS vars kw s1 s1.aX.length (aH (d+1)) bj=s2 at *;have e1:(s2.at V).lets=s2.lets:=rfl;have c:(s2.at V).aX.length=s2.aX.length:=rfl;have g:iK (s2.at V):=b.1;generalize s2.at V=t at *;have h:=rS bC t t.aX.length (aH (d+1)) g (hT _);exact⟨h.1,by omega,by omega⟩
theorem rS:∀(l:List aG)(s:bc)(n:Nat)(d:Int),iK s→n≤s.aX.length→iK (eS vars kw s n d l)∧s.lets≤(eS vars kw s n d l).lets∧(eS vars kw s n d l).aX.length=n
 | [],s,n,d,hi,f=>by
  rw[eS];obtain⟨i1,i2,i3⟩:=hi;have e:(s.back n).aX.length=n:=by show(s.aX.take n).length=n;rw[aen];omega
  exact⟨⟨by rw[e];show(n:Int)≤s.lets;omega,i2,i3⟩,aeQ _,e⟩
 | x :: r,s,n,d,hi,f=>by
  rw[eS];by_cases a:s.bK=0
  · rw[ai (by simpa using a)];have h1:=KK x (s.at x.V) d a hi;have e1:(s.at x.V).lets=s.lets:=rfl;have c:(s.at x.V).aX=s.aX:=rfl;rw[e1,c]at h1;have b:=rS r (stM vars kw (s.at x.V) d x) n d h1.1 (by omega);exact⟨b.1,by omega,b.2.2⟩
  · rw[af a];exact rS r s n d hi f
end
theorem VA{l:List aG}(hi:iK s):iK (hd vars kw s d l)∧s.lets≤(hd vars kw s d l).lets∧(hd vars kw s d l).aX.length=s.aX.length:=rS vars kw l s _ d hi (hT _)
end
def Frame(id:Nat)(a:J)(H:AH)(b:J)(H':AH):Prop:=H.n≤H'.n∧(∀i o,i≠id→(∀n,a ≠ .row i 0 n 1)→At H i o→At H' i o)∧∀j n,b = .row j 0 n 1→(∃m,a = .row j 0 m 1)∨H.n≤j
theorem Frame.of{a:J}{H H':AH}(h:cu id H H'):Frame id a H a H':=⟨h.1,λi o hi _ b=>h.2 i o hi b,λj n e=> .inl ⟨n,e⟩⟩
theorem Frame.trans{l0 l1 l2:J}{a b c:AH}(h:Frame id l0 a l1 b)(k:Frame id l1 b l2 c):Frame id l0 a l2 c:=by
 refine⟨np h.1 k.1,λi o hi f g=>k.2.1 i o hi (λn e=>?_) (h.2.1 i o hi f g),λj n e=>?_⟩
 · rcases h.2.2 i n e with⟨m,d⟩|l
   ·exact f m d
   ·exact absurd g.1 (by omega)
 · rcases k.2.2 j n e with⟨m,d⟩|l
   ·exact h.2.2 j m d
   ·right;have:=h.1;omega
end Rb

namespace Rb
open Go
variable{H:AH}{loc:J}
theorem aG.fP{x:aG}(h:x.ok):x.place.ok∧(x.bh.length≤9223372036854775807∧∀e∈x.bh,e.ok)∧(x.bj.length≤9223372036854775807∧∀y∈x.bj,y.ok)∧(x.bC.length≤9223372036854775807∧∀y∈x.bC,y.ok):=by
 rw[←n_];cases x with
 | mk kind V E cp aW place bh bj bC=>obtain⟨_,_,_,_,_,a,b,c,d,f,g,i⟩:=h;exact⟨a,⟨b,U.dT.1 c⟩,⟨d,aG.dT.1 f⟩,g,aG.dT.1 i⟩
theorem aG.ind{P:aG→Prop}(h:∀x:aG,(∀y∈x.bj,P y)→(∀y∈x.bC,P y)→P x):∀x,P x:=by
 have main:∀(n:Nat)(x:aG),sizeOf x<n→P x:=by
  intro n;induction n with
  |zero=>intro x a;omega
  | succ n c=>
   intro x a;refine h x (λy b=>c _ ?_) λy b=>c _ ?_
   · cases x with
     | mk kind V E cp aW place bh bj bC=>have:=aei b;simp at this a ⊢;omega
   · cases x with
     | mk kind V E cp aW place bh bj bC=>have:=aei b;simp at this a ⊢;omega
 exact λx=>main _ x (adn _)
theorem VB(cs:List J)(n:Nat)(v:J):setCells cs n [v]=cs.set n v:=rfl
theorem VC{id:Nat}{l:List (List UInt8)}{x:List UInt8}{m:List J}(a:At H id (.row m))(q:ft H id loc l)(s:l.length≤1000){K:ab}
  (b:∀c H',Frame id loc H c H'→At H' id (.row m)→ft H' id c (l++[x])→K c H'):aw (bR H true 1 16 loc (.ax .full 1 [.str x])) K:=by
 have p:ef H 1 (.ax .full 1 [.str x])=some (1,[.str x]):=rfl;rcases q with⟨rfl,rfl⟩|⟨j,cs,rfl,d,f,t,g⟩
 · refine⟨.row H.n 0 1 1,H.push (.row [.str x]),rfl,?_⟩;refine b _ _ ⟨aa_ _,λi o _ _ h=>h.push _,λj n e=>?_⟩ (a.push _) (.inr ⟨H.n,[.str x],rfl,abj a.jF,At.new H _,hT _,rfl⟩);cases e;right;exact hT _
 · by_cases hc:l.length+1≤cs.length
   · refine ⟨.row j 0 (l.length+1) 1,H.set j (.row (setCells cs (l.length*1) [.str x])),?_,?_⟩
     · simp only[bR,p,f.2];simp only[adk,ae3,J.scalar,ae4,not_true_eq_false,bz];rw[dC,ai (by simp only[ad8];exact⟨trivial,trivial,by omega,by omega⟩),cA]
     · rw [ae5,VB];refine b _ _ ⟨hT _,λi o hi k h=>h.cd (λe=>k l.length (by rw[e])) _,λi n e=>?_⟩ (a.cd (abj d) _) (.inr ⟨j,cs.set l.length (.str x),by simp,d,f.set _,by simpa using hc,?_⟩)
       · cases e;left;exact⟨_,rfl⟩
       · rw[ad9,ae2,aeE,List.getElem?_set_self (by omega),List.take_set_of_le (by omega),g];simp
   · have r:cs.length=l.length:=by omega
     refine⟨.row H.n 0 (l.length+1) 1,(H.set j .gone).push (.row (cs++[.str x])),?_,?_⟩
     · simp only[bR,p,f.2];simp only[adk,ae3,J.scalar,ae4,not_true_eq_false,bz];rw[dC,ai (by simp only[ad8];exact⟨trivial,trivial,by omega,by omega⟩),bO,cA]
     · refine b _ _ ⟨by simp,λi o hi k h=>(h.cd (λe=>k l.length (by rw[e])) _).push _,λi n e=>?_⟩ ((a.cd (abj d) _).push _) (.inr ⟨H.n,cs++[.str x],by simp,abj a.jF,?_,by simp;omega,?_⟩)
       · cases e;right;exact hT _
       ·exact At.new (H.set j .gone) _
       · rw[ad9,ae2,aeb (by simp;omega)];rw[←r,aey]at g;rw[g];simp
def KL(C:Ctx)(id:Nat)(vars:List B)(kw:List UInt8→Bool)(x:aG):Prop:=
 ∀ (s:bc) (d:Int) (loc:J) (H:AH) (Q:ab),s.bK=0→iK s→At H id (.row (b8 vars s loc))→ft H id loc s.aX →
  (∀H' a,Frame id loc H a H'→At H' id (.row (b8 vars (stM vars kw s d x) a))→ft H' id a (stM vars kw s d x).aX→Q (.ar []) H')→ae C 75 [.ptr id 0,.agg x.cells,I d] H Q
section
variable{C:Ctx}(aj:bX C)(Z:Cl (ae C) S.bg){id:Nat}{vars:List B}{kw:List UInt8→Bool}
include aj Z
theorem VD(x:aG):bF (ae C) 119 [.agg x.cells] (.bool (iI x)):=bF.of aj (by simp[J.b7,J.bI,aG.bI]) rfl λQ a=>S.Sg Z (Vv Z a)
theorem B7{l:List aG}(hl:l.length≤9223372036854775807)(hS:∀x∈l,KL C id vars kw x){s:bc}{d:Int}{Q:ab}(hi:iK s)(w:At H id (.row (b8 vars s loc)))(y:ft H id loc s.aX)
  (K:∀H' t,Frame id loc H t H'→At H' id (.row (b8 vars (hd vars kw s d l) t))→ft H' id t (hd vars kw s d l).aX→Q (.ar []) H'):ae C 37 [.ptr id 0,aZ aG.cells l,I d] H Q:=by
 refine S.Q0 Z ?_;unfold S.f37;simp only[aC,aa,X,abg];rw[w.load,show bE (b8 vars s loc) 1 1 false=some loc from rfl];simp only[X];have hlen:∀{H:AH}{lc:J}{xs:List (List UInt8)},ft H id lc xs→aY false lc=some (I xs.length):=by
  intro H lc xs h;rcases h with⟨rfl,rfl⟩|⟨j,cs,rfl,_⟩
  ·rfl
  ·rfl
 rw[hlen y];simp only[X,dY];have main:∀(r:List aG)(i:Nat)(s':bc)(a:J)(H1:AH),l.drop i=r→iK s'→s.aX.length≤s'.aX.length→Frame id loc H a H1→At H1 id (.row (b8 vars s' a))→ft H1 id a s'.aX→eS vars kw s' s.aX.length d r=hd vars kw s d l →
   av (S.q4 (ae C) (.ptr id 0) (aZ aG.cells l) (I d) (I s.aX.length) (I l.length) Q) ([I i],H1):=by
  intro r;induction r with
  | nil =>
   intro i s' a H1 u o c hf g p he;have hle:=fb u;refine av.step ?_;simp only[S.q4,ay,aU,X,F];rw[fO];simp only[aE,S.Gg,aC,aa,X,abg];rw[g.load,show bE (b8 vars s' a) 1 1 false=some a from rfl];simp only[X];rw[eS]at he;have cut:∃b,c6 1 a none (some (I s.aX.length)) none=some b∧Frame id a H1 b H1∧(∀cs,At (H1.set id (.row cs)) id (.row cs)→ft (H1.set id (.row cs)) id b (s'.aX.take s.aX.length))∧b.known=true∧b.cells=[b]∧b.scalar=true:=by
    rcases p with⟨rfl,h⟩|⟨j,cs,rfl,z,L,am,M⟩
    · have k:s.aX.length=0:=by rw[h]at c;simpa using c
      refine⟨aA,?_,⟨hT _,λ_ _ _ _ h=>h,λ_ _ e=>by cases e⟩,λ_ _=> .inl ⟨rfl,by rw[h];simp⟩,rfl,rfl,rfl⟩;rw[k];rfl
    · refine ⟨.row j 0 s.aX.length 1,?_,⟨hT _,λ_ _ _ _ h=>h,λi n e=>by cases e;exact .inl ⟨_,rfl⟩⟩,λan _=> .inr ⟨j,cs,?_,z,L.cd z _,?_,?_⟩,rfl,rfl,rfl⟩
      · simp only[c6,dV];rw[cA];simp only[aex];rw[af ⟨aa2 _,by omega,trivial⟩,af (.inl trivial)];simp
      ·rw[aen,aez c]
      ·rw[aen];omega
      ·rw[aen,aez c,ae6,←M,ae7,aez c]
   obtain⟨b,e1,f2,l2,g1,g2,g3⟩:=cut;rw[e1];simp only[X];rw[g.store,af ⟨g1,by rw[g2];rfl,by rw[g2];simp[g3],by simp[b8]⟩,g2];simp only[X];have N:setCells (b8 vars s' a) 1 [b]=b8 vars (s'.back s.aX.length) b:=rfl;rw[N];refine K _ b ((hf.trans f2).trans (Frame.of (cu.set id H1 _))) (by rw[←he];exact g.set _) ?_;rw[←he];exact l2 _ (g.set _)
  | cons x r O=>
   intro i s' a H1 u o c hf g p he;obtain⟨P,A,R⟩:=eN u;have T:=adl A;refine av.step ?_;simp only[S.q4,ay,aU,X,F];rw[fc,dF P];simp only[X];rw[eh aG.len (by decide) _ A];simp only[X,aK,aQ,aT];rw[cG _ _ _ 10 x.len x.scalar rfl];simp only[X,aa,abg];have q:=g.push (.row x.cells);have v:cu id H1 (H1.push (.row x.cells)):=cu.push id H1 (.row x.cells);have B:=At.new H1 (.row x.cells);have U:H1.n≠id:=abj g.jF;have next:∀(s2:bc)(m:J)(f:AH),iK s2→s.aX.length≤s2.aX.length→Frame id loc H m f→At f id (.row (b8 vars s2 m))→ft f id m s2.aX→eS vars kw s2 s.aX.length d r=hd vars kw s d l →
     G (S.u_ (ae C) ([I i],H1) (av (S.q4 (ae C) (.ptr id 0) (aZ aG.cells l) (I d) (I s.aX.length) (I l.length) Q)) Q) [] f:=by
    intro s2 m f i3 Y f3 a3 l3 ac;simp only[aE,S.u_,ay,br,X];rw[bJ,iY i];exact O (i+1) s2 m f R i3 Y f3 a3 l3 ac
   rw[eS]at he;generalize H1.push (.row x.cells)=H2 at *;generalize H1.n=D at *;refine S.nM Z (nZ q ?_);simp only[dO,X,F];apply aB<;>intro h
   · have k:s'.bK=0:=by simpa using h
     rw[ai (by simpa using k)]at he;have ad:W H2 1 false (.ptr D 1)=some (I x.V):=by rw[B.load,aG.bQ,ba.bQ];rfl
     simp only[ad,X,aC];rw[q.store,af ⟨rfl,rfl,rfl,by simp[b8]⟩];simp only[X];have ag:setCells (b8 vars s' a) 3 (I x.V).cells=b8 vars (s'.at x.V) a:=rfl;rw[ag];have a4:At (H2.set id (.row (b8 vars (s'.at x.V) a))) id (.row (b8 vars (s'.at x.V) a)):=q.set _;have E:cu id H1 (H2.set id (.row (b8 vars (s'.at x.V) a))):=v.trans (cu.set id H2 _);have ah:At (H2.set id (.row (b8 vars (s'.at x.V) a))) D (.row x.cells):=B.cd U _;generalize H2.set id (.row (b8 vars (s'.at x.V) a))=f at *;rw[ah.load,dP x.len];simp only[X];have inv:=KK vars kw x (s'.at x.V) d k o;refine hS x T (s'.at x.V) d a f _ k o a4 (p.aO E) λaj ak f5 a5 al=>?_;exact next _ ak aj inv.1 (np c inv.2.2) ((hf.trans (Frame.of E)).trans f5) a5 al he
   · have k:s'.bK≠0:=by simpa using h
     rw[af k]at he;exact next s' a H2 o c (hf.trans (Frame.of v)) q (p.aO v) he
 exact main l 0 s loc H rfl hi (hT _) (Frame.of (cu.refl id H)) w y rfl
theorem VE(ah:vars.length≤maxLen)(hv:∀v∈vars,v.ok)(hg:∀x,bF (ae C) 72 [.str x] (.bool (kw x))):∀x:aG,x.ok→KL C id vars kw x:=by
 refine aG.ind λx az aA aD=>?_;obtain⟨al,⟨aF,aI⟩,⟨aJ,aL⟩,aM,aN⟩:=aG.fP aD;have aP:=ba.fP al;have am:∀e:U,e.ok→xM C id vars e:=Vu aj Z ah hv;intro s d loc H Q aQ hi aR m an;have o:s.aX.length≤1000:=by have:=hi.1;have:=hi.2.1;omega
 have ao:=KJ vars kw (d:=d) (x:=x) aQ hi;rw[stM_eq]at an;refine S.RE Z ?_;unfold S.f75;simp only[n5,aK,gy,X];refine gE Z aR λH1 k1 Y=>?_;simp only[KC,X];refine VD aj Z x _ _ ?_;refine gE Z Y λH2 k2 a2=>?_;simp only[gF,lf,xK,X];refine KE aj Z _ _ _ _ ?_;refine gE Z a2 λR aS a3=>?_;have kk:=k1.trans (k2.trans aS);change At R id (.row (b8 vars (fp s d x) loc))at a3;have st1:=BZ s d x;have tail:∀(A:J)(c:AH),Frame id loc H A c→At c id (.row (b8 vars (fq vars kw s d x) A))→ft c id A (fq vars kw s d x).aX→G (S.q9 (ae C) (.ptr id 0) (I d) (.ak x.cells) Q) [] c:=by intro A c f4 a4 l4;generalize fq vars kw s d x=ap at *;simp only[aE,S.q9,gF,xL,X,br];have b1:=VA vars kw (d:=aH (d+1)) (l:=x.bj) ao.1;refine B7 aj Z aJ (λy u=>az y u (aL y u)) ao.1 a4 l4 λn T f5 a5 aT=>?_;simp only[B4,X,aC,aa,abg];change At n id (.row (b8 vars (hd vars kw ap (aH (d+1)) x.bj) T))at a5;generalize hd vars kw ap (aH (d+1)) x.bj=a at *;rw[a5.store,af ⟨rfl,rfl,rfl,by simp[b8]⟩];simp only[X];have aV:setCells (b8 vars a T) 3 (I x.V).cells=b8 vars (a.at x.V) T:=rfl;rw[aV];simp only[X,gF,B6];refine B7 aj Z aM (λy u=>aA y u (aN y u)) (s:=a.at x.V) b1.1 (a5.set _) (aT.aO (cu.set id n _)) λk f f6 a6 B=>?_;exact an k f (((f4.trans f5).trans (Frame.of (cu.set id n _))).trans f6) a6 B
 have bG:∀(c:AH),cu id H c→At c id (.row (b8 vars (gb vars kw (fp s d x) d x) loc))→G (S.pK (ae C) (.ptr id 0) (I d) (.ak x.cells) Q) [] c:=by
  intro c g a4;have st2:=st1.trans (KI vars kw (fp s d x) d x);simp only[aE,S.pK,gF,mK,X];refine KG aj Z aF (λe he=>am e (aI e he)) a4 ((m.aO g).still st2) (by rw[st2.1];exact o) λn W a5=>?_;have t:=st2.trans (xI vars x.bh (gb vars kw (fp s d x) d x) d);have q:=g.trans W;have aW:fq vars kw s d x=iJ (d_ vars (gb vars kw (fp s d x) d x) d x.bh) x:=rfl;rw[aW]at tail;generalize d_ vars (gb vars kw (fp s d x) d x) d x.bh=a at *;simp only[lf,X,bL,F];apply aB<;>intro h
  · have D:x.kind=1:=by simpa using h
    have w:iJ a x=a.BW x.E:=by unfold iJ;rw[af D]
    rw[w]at tail;simp only[aC,aa,X,abg];rw[a5.load,show bE (b8 vars a loc) 1 1 false=some loc from rfl];simp only[X,gF,mJ];rw[show cb n false 1 1 [.str []] [(0,1,.str x.E)]=some (.ax .full 1 [.str x.E],n)from rfl];simp only[aK];refine VC a5 ((m.aO q).still t) (by rw[t.1];exact o) λf k f6 a6 B=>?_;have z:f.known=true∧f.cells=[f]∧f.scalar=true:=by
     rcases B with⟨rfl,_⟩|⟨j,cs,rfl,_⟩
     ·exact⟨rfl,rfl,rfl⟩
     ·exact⟨rfl,rfl,rfl⟩
    rw[a6.store,af ⟨z.1,by rw[z.2.1];rfl,by rw[z.2.1];simp[z.2.2],by simp[b8]⟩,z.2.1];simp only[X];have aY:setCells (b8 vars a loc) 1 [f]=b8 vars a f:=rfl;rw[aY];have a7:At (k.set id (.row (b8 vars a f))) id (.row (b8 vars a f)):=a6.set _;have ab:cu id k (k.set id (.row (b8 vars a f))):=cu.set id k _;generalize k.set id (.row (b8 vars a f))=aq at *;rw[a7.load,show bE (b8 vars a f) 2 1 false=some (I a.lets)from rfl];simp only[X,br];rw[a7.store,af ⟨rfl,rfl,rfl,by simp[b8]⟩];simp only[X];have K:=ab.trans (cu.set id aq (.row (setCells (b8 vars a f) 2 (I (abF .i64 (a.lets+1))).cells)));exact tail f _ (((Frame.of q).trans f6).trans (Frame.of K)) (a7.set _) (B.aO K)
  · have D:x.kind≠1:=by simpa using h
    apply aB<;>intro r
    · have ac:x.kind=5:=by simpa using r
      have w:iJ a x=((a.cB (a.has x.E) 6).cB ((a.cB (a.has x.E) 6).has x.cp) 6).cB (!(x.E==x.cp)) 7:=by
       unfold iJ;rw[ai D,af ac];have:(a.cB (a.has x.E) 6).has x.cp=a.has x.cp:=by unfold bc.has;rw[(ee a _ _).1]
       rw[this]
      rw[w]at tail;simp only[mJ,B5,X];refine rP Z a5 ((m.aO q).still t) (by rw[t.1];exact o) ?_;refine gE Z a5 λk L a6=>?_;have ad:=t.trans (ee a (a.has x.E) 6);refine rP Z a6 ((m.aO (q.trans L)).still ad) (by rw[ad.1];exact o) ?_;refine gE Z a6 λaq ab a7=>?_;simp only[rG,X];refine gE Z a7 λaZ K a8=>?_;have ar:=q.trans (L.trans (ab.trans K));refine tail loc aZ (Frame.of ar) a8 ((m.aO ar).still (ad.trans ((ee _ _ _).trans (ee _ _ _))))
    · have ac:x.kind≠5:=by simpa using r
      have w:iJ a x=a:=by unfold iJ;rw[ai D,ai ac]
      rw[w]at tail;exact tail loc n (Frame.of q) a5 ((m.aO q).still t)
 have ag:gb vars kw (fp s d x) d x=gb vars kw (fp s d x) d x:=rfl
 conv at ag=>rhs;unfold gb
 rw[ag]at bG;clear ag;generalize fp s d x=s1 at *;simp only[lf,X,bL,F];apply aB<;>intro h
 · rw [af (by simpa using h)]at bG;have au:∀(b:Bool)(c:AH),b=(eP x.E&&!kw x.E)→cu id H c→At c id (.row (b8 vars (s1.cB b 6) loc))→G (S.vu (ae C) (.ptr id 0) (I d) (.ak x.cells) Q) [] c:=by
    intro b c M g a4;rw[←M]at bG;have st2:=st1.trans (ee s1 b 6);have a0:(s1.cB b 6).has x.E=s1.has x.E:=by unfold bc.has;rw[(ee s1 b 6).1]
    have a1:((s1.cB b 6).cB (!s1.has x.E) 7).lets=s1.lets:=((ee s1 b 6).trans (ee _ _ _)).2;simp only[aE,S.vu,gF,mJ,X];refine rP Z a4 ((m.aO g).still st2) (by rw[st2.1];exact o) ?_;rw[a0];simp only[dO,X];refine gE Z a4 λn W a5=>?_;simp only[aC,aa,X,abg];rw[a5.load,show bE (b8 vars ((s1.cB b 6).cB (!s1.has x.E) 7) loc) 2 1 false=some (I ((s1.cB b 6).cB (!s1.has x.E) 7).lets)from rfl,a1];simp only[X,aU];refine gE Z a5 λk L a6=>?_;exact bG k (g.trans (W.trans L)) a6
   simp only[mJ,X];refine BB aj Z x.E _ _ ?_;simp only[cx];apply ite_bool<;>intro av
   · refine hg x.E _ _ ?_;simp only[dO,X];refine gE Z a3 λc g a4=>?_;exact au _ c (by rw[av];rfl) (kk.trans g) a4
   · refine gE Z a3 λc g a4=>?_;exact au _ c (by rw[av];rfl) (kk.trans g) a4
 · rw [ai (by simpa using h)]at bG;apply aB<;>intro aw
   · rw[af (by simpa using aw)]at bG;simp only[mJ,X];refine rP Z a3 ((m.aO kk).still st1) (by rw[st1.1];exact o) ?_;refine gE Z a3 λc g a4=>?_;exact bG c (kk.trans g) a4
   · rw [ai (by simpa using aw)]at bG;have N:∀b:Bool,(b=true↔(x.kind=3∨x.kind=4∨x.kind=5∨x.kind=6))→G (S.pL (ae C) (.ptr id 0) (I d) (.ak x.cells) Q) [.bool b] R:=by
      intro b M;simp only[aE,S.pL,ay,F,gF,lf,n9,X];apply aB<;>intro h
      · rw[af (M.1 h)]at bG;refine KH aj Z ah hv al (λp a9 i hi=>am i ((aP.2 p a9).2 i hi)) a3 ((m.aO kk).still st1) (by rw[st1.1];exact o) λH' k' a_=>?_;exact bG H' (kk.trans k') a_
      · rw[ai λy=>h (M.2 y)]at bG;exact bG R kk a3
     apply aB<;>intro O
     · refine N _ ?_;simp only[bq]at O;simp[O]
     · apply aB<;>intro P
       · refine N _ ?_;simp only[bq]at P;simp[P]
       · apply aB<;>intro r
         · refine N _ ?_;simp only[bq]at r;simp[r]
         · refine N _ ?_;simp only[bq]at O P r;simp[O,P,r]
end
end Rb

namespace Rb
open Go
variable{n k:Int}{p:PL}
theorem rT{n step:Int}(a:0≤n)(b:n≤1000000000)(c:1≤step)(d:step≤1000000):n≤cf n step∧cf n step≤n+step-1:=by rw[UU a b c d];have e:=Int.mul_ediv_add_emod (n+step-1) step;have f:=aeU (n+step-1) (show 0<step by omega);have g:=aeS (n+step-1) (show step≠0 by omega);rw[aeV]at e;omega
def rU(k:Int)(p:PL):Prop:=0≤p.bit∧p.bit≤k*1000000∧0≤p.size∧p.size≤k*1000000∧1≤p.bZ∧p.bZ≤16
theorem KM(a:0≤n)(b:n≤1000000000):aH (n.tdiv 8)=n/8:=by rw[aeN a];exact bJ
theorem B8(c:0≤p.bit)(d:p.bit≤(k+1)*1000000)(h:0≤p.size)(i:p.size≤k*1000000)(f:1≤p.bZ)(g:p.bZ≤16)(j:0≤k)(l:k≤40):rU (k+1) (k5 p):=by
 obtain⟨a,b⟩:=rT (n:=p.bit) (step:=8) c (by omega) (by omega) (by omega);have e:aH ((cf p.bit 8).tdiv 8)=cf p.bit 8/8:=KM (by omega) (by omega);refine⟨c,d,?_,?_,f,g⟩
 · show 0≤max p.size _;omega
 · show max p.size (aH ((cf p.bit 8).tdiv 8))≤_;rw[e];omega
theorem VF{packed:Bool}{kind:Int}{s:List (List UInt8)}{f:aJ}{g:Int×Int}(i:rU k p)(b:0≤k)(j:k≤40)(hs:f_ packed s f=0)(A:0≤g.1)(B:g.1≤65536)(C:1≤g.2)(D:g.2≤16):rU (k+1) (hM packed kind p f g):=by
 obtain⟨b1,b2,s1,s2,Y,a2⟩:=i;have o:f.bits=true→(f.type.size=1∨f.type.size=2∨f.type.size=4∨f.type.size=8)∧0≤f.be∧f.be≤64:=by
  intro a;rw[nS]at hs;split at hs
  ·cases hs
  split at hs
  ·cases hs
  split at hs
  ·rename_i l;exact absurd hs l
  rename_i l;split at hs
  ·cases hs
  rename_i t;split at hs
  ·cases hs
  rename_i hw;have u:f.type.kind=1:=by
   by_cases b:f.type.kind=1
   ·exact b
   ·exact absurd (.inr ⟨a,.inl b⟩) t
  have c:cQ f.type=0:=by simpa using l
  have q:f.type.size=1∨f.type.size=2∨f.type.size=4∨f.type.size=8:=by
   rw[gB,u]at c;split at c
   ·cases c
   · simp only[aT]at c;split at c
     · rename_i i;simp[eQ]at i;omega
     ·cases c
  have E:¬f.be<0∧¬8*f.type.size<f.be:=⟨λh=>hw ⟨a,.inl h⟩,λh=>hw ⟨a,.inr (.inl h)⟩⟩
  exact⟨q,by omega,by omega⟩
 have v:1≤ek packed f g.2∧ek packed f g.2≤16:=by
  unfold ek;split
  ·omega
  · split
    · rename_i a;have:=o a;omega
    ·omega
 unfold hM;simp only;generalize e:({p with bZ:=max p.bZ (ek packed f g.2),bit:=if kind=4 then 0 else p.bit}:PL)=p1;have c1:0≤p1.bit:=by rw[←e];show 0≤(if kind=4 then 0 else p.bit);split<;>omega
 have c2:p1.bit≤k*1000000:=by rw[←e];show(if kind=4 then 0 else p.bit)≤_;split<;>omega
 have c3:p1.size=p.size:=by rw[←e]
 have d:1≤p1.bZ∧p1.bZ≤16:=by rw[←e];show 1≤max p.bZ _∧max p.bZ _≤16;omega
 by_cases a:f.bits=true
 · rw [af a];obtain⟨q,w1,w2⟩:=o a;have m:aH (8*f.type.size)=8*f.type.size:=bJ;obtain⟨w,x⟩:=rT (n:=p1.bit) (step:=8*f.type.size) c1 (by omega) (by omega) (by omega);unfold k4;split
   · refine B8 ?_ ?_ ?_ ?_ ?_ ?_ b j
     ·show 0≤cf p1.bit (aH (8*f.type.size));rw[m];omega
     ·show cf p1.bit (aH (8*f.type.size))≤_;rw[m];omega
     ·show 0≤p1.size;omega
     ·show p1.size≤_;omega
     ·exact d.1
     ·exact d.2
   · have o1:p1.bit≤ha p1 f∧ha p1 f≤p1.bit+63:=by
       unfold ha;rw[m];split<;>omega
     have r:aH (ha p1 f+f.be)=ha p1 f+f.be:=bJ;refine B8 ?_ ?_ ?_ ?_ ?_ ?_ b j
     ·show 0≤aH (ha p1 f+f.be);rw[r];omega
     ·show aH (ha p1 f+f.be)≤_;rw[r];omega
     ·show 0≤p1.size;omega
     ·show p1.size≤_;omega
     ·exact d.1
     ·exact d.2
 · rw[ai a];unfold xz;obtain⟨w,x⟩:=rT (n:=p1.bit) (step:=8) c1 (by omega) (by omega) (by omega);have e1:aH ((cf p1.bit 8).tdiv 8)=cf p1.bit 8/8:=KM (by omega) (by omega);obtain⟨v1,v2⟩:=rT (n:=cf p1.bit 8/8) (step:=ek packed f g.2) (by omega) (by omega) v.1 (by omega);have y:aH (cf (cf p1.bit 8/8) (ek packed f g.2)+g.1)=cf (cf p1.bit 8/8) (ek packed f g.2)+g.1:=bJ;have z:aH (8*(cf (cf p1.bit 8/8) (ek packed f g.2)+g.1))=8*(cf (cf p1.bit 8/8) (ek packed f g.2)+g.1):=bJ;rw[e1,y,z];refine B8 ?_ ?_ ?_ ?_ ?_ ?_ b j
   ·show 0≤8*(cf (cf p1.bit 8/8) (ek packed f g.2)+g.1);omega
   ·show 8*(cf (cf p1.bit 8/8) (ek packed f g.2)+g.1)≤_;omega
   ·show 0≤p1.size;omega
   ·show p1.size≤_;omega
   ·exact d.1
   ·exact d.2
theorem KN{packed:Bool}{kind:Int}:∀{l:List aJ}{a:List (List UInt8)}{k:Int}{p q:PL},rU k p→0≤k→k+l.length≤40→fe packed a l=0 →
  (∀f∈l,cQ f.type=0→(bb f.type).2=true→0≤(bb f.type).1.1∧(bb f.type).1.1≤65536∧1≤(bb f.type).1.2∧(bb f.type).1.2≤16)→dQ packed kind p l=some q→rU 40 q
 | [],a,k,p,q,c,hk,d,_,_,h=>by simp only[dQ,aaK.injEq]at h;subst h;obtain⟨b1,b2,s1,s2,Y,a2⟩:=c;simp at d;exact⟨b1,by omega,s1,by omega,Y,a2⟩
 | f :: r,a,k,p,q,c,hk,d,hs,hf,h=>by
  simp only[dQ]at h;split at h
  · rename_i e;rw[rJ]at e h;have g:f_ packed a f=0∧fe packed (a++[f.E]) r=0:=by
     simp only[fe]at hs;by_cases b:f_ packed a f=0
     ·rw[ai (by simpa using b)]at hs;exact⟨b,hs⟩
     ·rw[af b]at hs;exact absurd hs b
    have i:cQ f.type=0:=rH hs f (by simp);obtain⟨g1,g2,g3,g4⟩:=hf f (by simp) i e;simp only[aeO]at d;exact KN (k:=k+1) (VF c hk (by omega) g.1 g1 g2 g3 g4) (by omega) (by omega) g.2 (λj m=>hf j (by simp[m])) h
  ·cases h
theorem VG:∀t:T,cQ t=0→(bb t).2=true→0≤(bb t).1.1∧(bb t).1.1≤65536∧1≤(bb t).1.2∧(bb t).1.2≤16:=by
 refine T.ind λt d g hs h=>?_;rw[mG]at h ⊢;split at h
 · rename_i c;rw[af c];rw[gB]at hs;split at hs
   ·cases hs
   · have a:eQ t.size 8=true∨eQ t.size 16=true:=by
       rcases c with h1|h1
       · rw[af h1]at hs;split at hs
         ·exact .inl ‹_›
         ·cases hs
       · rw[bO,af h1]at hs;split at hs
         ·exact .inr ‹_›
         ·cases hs
     show 0≤t.size∧t.size≤65536∧1≤t.size∧t.size≤16;rcases a with a|a<;>(simp[eQ]at a;omega)
 · rename_i c;rw[ai c];split at h
   · rename_i b;rw[af b];obtain⟨e,he,i⟩:=mF hs b;have hc:1≤t.b5∧t.b5≤65536:=by
      rw[gB,b]at hs;split at hs
      ·cases hs
      · simp at hs;split at hs
        ·cases hs
        ·omega
     rw[he]at h ⊢;simp only[i6,aaz]at h ⊢;obtain⟨h,hle⟩:=h;have hle:=of_decide_eq_true hle;obtain⟨g1,g2,g3,g4⟩:=g e (by rw[he];simp) i h;have hm:0≤(bb e).1.1*t.b5:=aeM g1 (by omega);have m:(bb e).1.1*t.b5≤65536*65536:=ae0 g2 hc.2 (by omega) (by omega);have e1:aH ((bb e).1.1*t.b5)=(bb e).1.1*t.b5:=bJ;rw[e1]at hle ⊢;exact⟨hm,hle,g3,g4⟩
   · rename_i b;rw[ai b];cases a:dQ t.packed t.kind ⟨0,1,[],0⟩ t.aP with
     |none=>rw[a]at h;cases h
     | some p =>
      rw[a]at h;simp only[dM]at h ⊢;have j:t.kind=3∨t.kind=4:=by rcases rL hs with h|h|h|h|h<;>omega
      have l:fe t.packed [] t.aP=0:=by
       rw[gB]at hs;split at hs
       ·cases hs
       · rw [bO,bO,bO]at hs;first
          |exact hs
          | (split at hs
             ·cases hs
             ·exact hs)
      obtain⟨b1,b2,s1,s2,Y,a2⟩:=KN (k:=0) (p:=⟨0,1,[],0⟩) ⟨by decide,by decide,by decide,by decide,by decide,by decide⟩ (by omega) (by have:=(nT hs j).2;omega) l (λf hf=>d f hf) a;obtain⟨o,q⟩:=rT (n:=p.size) (step:=p.bZ) s1 (by omega) Y (by omega);exact⟨by omega,h,Y,a2⟩
theorem VH{t:T}(h:(bx t).2=0):0≤(bx t).1.1∧(bx t).1.1≤65536∧1≤(bx t).1.2∧(bx t).1.2≤16:=by
 unfold bx at h ⊢;split at h
 ·rename_i hs;exact absurd h hs
 · rename_i hs;split at h
   ·cases h
   · rename_i ht;split at h
     ·cases h
     · rename_i a;rw[ai hs,ai ht,ai a];exact VG t (j_ (by simpa using hs)) (by simpa using a)
def z5:List UInt8:=[122,122,122,122,122]
def xN(a b:bc):Prop:=a=b∨a.bK=6
theorem xN.refl(a:bc):xN a a:= .inl rfl
theorem xN.bad{a b:bc}(h:a.bK=6):xN a b:= .inr h
section
variable(vars:List B)(z:B)
variable(kw:List UInt8→Bool)
end
end Rb

namespace Rb
open Go
theorem VI(a b:List J):J.e4 (a++b)=J.e4 a++J.e4 b:=by rw[pv,pv,pv,ae8]
section
variable{Φ:ad}{H:AH}{Q:ab}
theorem VJ(Z:Cl Φ S.bg){p:B→Bool}{key:Nat}{bH:List J}{xs:List B}(hf:∀x∈xs,∀(R:ab),R (.bool (p x)) H→Φ key ([.agg x.cells]++bH) H R)(hl:xs.length≤9223372036854775807)
  (a:Q (.bool (xs.any p)) H) (b:fC key=none:=by first|assumption|rfl):Φ 73 [aZ B.cells xs,.fn key bH] H Q:=by
 refine S.RC Z ?_;unfold S.f73;refine S.Be Z (BI hf hl ?_);simp only[ec,X,xr];exact a
theorem VK{w:B}{id:Nat}{v:B}(a:At H id (.row v.cells))(b:Q (.bool (w.E==v.E)) H):S.f74 Φ (.agg w.cells) (.ptr id 0) H Q:=by
 unfold S.f74;have c:aM H false 7 (.agg w.cells)=some (.ak w.cells,H):=by unfold aM;rw[af ⟨rfl,w.len⟩];rfl
 have l0:W H 1 false (.ak (w.cells.drop 0))=some (.str w.E):=rI w;have l1:W H 1 false (.ptr id 0)=some (.str v.E):=by rw[a.load];exact rI v
 rw[c];simp only[aK,aa,X,l0,aa6,l1,jH];exact b
end
section
variable{C:Ctx}(aj:bX C)(Z:Cl (ae C) S.bg){kw:List UInt8→Bool}(hg:∀x,bF (ae C) 72 [.str x] (.bool (kw x)))
include aj Z hg
theorem VL{vars:List B}(hv:∀v∈vars,v.ok){H:AH}{Q:ab}(j:∀H',Q (I (k_ kw vars)) H'):S.f36 (ae C) (aZ B.cells vars) H Q:=by
 have fin:∀z H',z=k_ kw vars→Q (I z) H':=λz H' h=>by rw[h];exact j H'
 clear j;unfold S.f36;simp only[dY,X,dy,F];unfold k_ at fin;apply aB<;>intro h
 ·exact fin _ _ (by rw[af (by simp only[dM,gt_iff_lt]at h;omega)])
 · have hl : vars.length≤32:=by simp only[dM,gt_iff_lt]at h;omega
   rw[bO]at fin;have main:∀(r:List B)(i:Nat)(a:Int)(H1:AH),vars.drop i=r→k9 kw ((vars.take i).map B.E) a r=k9 kw [] 0 vars →
     av (S.pI (ae C) (aZ B.cells vars) (I vars.length) Q) ([I a,I i],H1):=by
    intro r;induction r with
    | nil=>
     intro i a H1 d he;have hle:=fb d;refine av.step ?_;simp only[S.pI,ay,bY,aU,X,F];rw[fO];simp only[aE,S.Ge,ay,dy,X,F];rw[k9]at he;apply aB<;>intro h
     ·exact fin _ _ (by rw[←he,af (by simpa using h)])
     ·exact fin _ _ (by rw[←he,ai (by simpa using h)])
    | cons v r o=>
     intro i a H1 d he;obtain⟨k,e,q⟩:=eN d;have s:=adl e;refine av.step ?_;simp only[S.pI,ay,bY,aU,X,F];rw[fc,dF k];simp only[X];rw[eh B.len (by decide) _ e];simp only[X,aK,aQ,aT];rw[cG _ _ _ 7 v.len v.scalar rfl];simp only[X,aa,abg,aa6];have f:=At.new H1 (.row v.cells);generalize H1.push (.row v.cells)=H2 at *;generalize H1.n=c at *;have l0:W H2 1 false (.ptr c 0)=some (.str v.E):=by rw[f.load];exact rI v
     have l1:W H2 6 true (.ptr c 1)=some (.agg v.type.cells):=by rw[f.load,JE (by rw[v.len];omega)];show bE (v.cells.drop 1) 0 6 true=_;exact dP v.type.len
     simp only[l0,X];rw[k9]at he;have k2:¬(eP v.E=false∨kw v.E=true)→¬((vars.take i).map B.E).contains v.E=true →
       G (S.Av (ae C) (.ptr c 0) ([I a,I i],H1) (av (S.pI (ae C) (aZ B.cells vars) (I vars.length) Q)) Q) [] H2:=by
      intro n1 n2;rw[ai n1,ai n2]at he;simp only[aE,S.Av,aa,abg,X,l1];refine BQ aj Z v.type (hv v s).2 _ _ ?_;simp only[bo,adW,adX,X,dA,F];apply aB<;>intro h
      · rw[af (by simpa using h)]at he;exact fin _ _ he
      · have l:(bx v.type).2=0:=by simpa using h
        rw[ai (by simpa using l)]at he;have g:=VH l;simp only[ay,br,cM,fY,X];rw[k0 _ _ _ (by omega)];simp only[X,fY,br,aE,S.Gc,ay,bY];rw[wrap_i64 (n:=(i:Int)+1) (by omega) (by omega),iY i];refine o (i+1) _ H2 q ?_;rw[←he,aeE,e];simp[cf]
     have m:∀b:Bool,(b=true↔(eP v.E=false∨kw v.E=true))→G (S.u9 (ae C) (aZ B.cells vars) (.ptr c 0) ([I a,I i],H1) (av (S.pI (ae C) (aZ B.cells vars) (I vars.length) Q)) Q) [.bool b] H2:=by
      intro b g;simp only[aE,S.u9,ay,bY,F];apply aB<;>intro h
      · rw[af (g.1 h)]at he;exact fin _ _ he
      · have n1:¬(eP v.E=false∨kw v.E=true):=λy=>h (g.2 y);rw[JV B.len (aeB k)];simp only[X];refine VJ Z (p:=λw=>w.E==v.E) (λw _ R t=>S.RD Z (VK f t)) (by rw[aen];omega) ?_;simp only[F];have hc:((vars.take i).any λw=>w.E==v.E)=true↔((vars.take i).map B.E).contains v.E=true:=by
         rw[ac8,aeC,ada];simp only[bq]
        apply aB<;>intro h
        · rw[ai n1,af (hc.1 h)]at he;exact fin _ _ he
        ·exact k2 n1 λy=>h (hc.2 y)
     refine BB aj Z v.E _ _ ?_;simp only[dO,X,ck];apply ie<;>intro h
     · simp only[l0,X];refine hg v.E _ _ ?_;refine m _ ?_;simp only[aeD]at h;simp[h]
     · refine m _ ?_;simp only[acG]at h;simp[h]
   exact main vars 0 0 H rfl rfl
def KO(r:Int×Int):J:= .agg [I r.1,I r.2]
theorem VM(p:ew)(L:p.ok):bF (ae C) 10 [.agg p.cells] (KO (ic kw p)):=by
 obtain⟨⟨M,hv⟩,al,ht⟩:=L;refine bF.of aj (by simp[J.b7,J.bI,ew.bI]) rfl λQ v=>S.QA Z ?_;have fin:∀(a b:Int) H',(a,b)=ic kw p→Q (.agg [I a,I b]) H':=λa b H' h=>by have:=v H';rw[←h]at this;exact this
 clear v;have N:aM AH.mt false 2 (.agg p.cells)=some (.ak p.cells,AH.mt):=by unfold aM;rw[af ⟨rfl,rfl⟩];rfl
 have k:∀H,W H 1 false (.ak (p.cells.drop 0))=some (aZ B.cells p.vars):=λ_=>rfl;have m:∀H,W H 1 false (.ak (p.cells.drop 1))=some (aZ jE p.dL):=λ_=>rfl;unfold S.f10;simp only[N,aK,aQ,aT,aa,X,k,dY,dy,ck];generalize am:AH.mt=H0;have o:=At.new H0 (.row [O,O]);generalize H0.push (.row [O,O])=j at *;generalize H0.n=d at *;have out:∀(a b:Int)(H1:AH),At H1 d (.row [O,O])→(a,b)=ic kw p→Do (au H1 2 (.ptr d 0) (.agg [I a,I b])) λH2=>Do (W H2 2 true (.ptr d 0)) λx=>Q x H2:=by intro a b H1 f he;rw[f.put (n:=2) rfl rfl rfl];simp only[X];rw[(f.set _).all (n:=2) rfl];simp only[X];exact fin a b _ he
 unfold ic at out;have P : ¬(32<p.vars.length∨p.dL.length<1∨8<p.dL.length)→G (S.As (ae C) (.ak p.cells) (.ptr d 0) Q) [] j:=by
  intro w;rw[ai w]at out;simp only[aE,S.As,aa,X,k];refine bF.of aj (by simp[J.b7,nO B.bI]) rfl (λan R=>S.QZ Z (VL aj Z hg hv R)) _ _ ?_;simp only[dA,X,F];apply aB<;>intro h
  · rw[af (by simpa using h)]at out;rw[show aD [O,O] [(1,1,I (k_ kw p.vars))]=some (.agg [O,I (k_ kw p.vars)])from rfl];simp only[X];exact out 0 _ j o rfl
  · rw [ai (by simpa using h)]at out;simp only[m,X,dY];have main:∀(r:List (List aG)) (i:Nat) (H1:AH),p.dL.drop i=r→At H1 d (.row [O,O])→mI kw p.vars r=mI kw p.vars p.dL →
      av (S.uM (ae C) (.ak p.cells) (.ptr d 0) (aZ jE p.dL) (I p.dL.length) Q) ([I i],H1):=by
     intro r;induction r with
     | nil=>intro i H1 q f he;have hle:=fb q;refine av.step ?_;simp only[S.uM,ay,aU,X,F];rw[fO];simp only[aE,S.FE];rw[show aD [O,O] []=some (.agg [O,O])from rfl];simp only[X];exact out 0 0 H1 f he
     | cons t r T=>
      intro i H1 q f he;obtain⟨U,z,V⟩:=eN q;obtain⟨ao,Y⟩:=ht t (adl z);refine av.step ?_;simp only[S.uM,ay,aU,X,F];rw[fc,dF U];simp only[X];have ab:W H1 1 false (eO jE 1 p.dL i)=some (aZ aG.cells t):=JF (c:=λl=>aZ aG.cells l) H1 z;rw[ab];simp only[X,aa,k];rw[show aD [aA,aA,O,O,O,O] [(0,1,aZ B.cells p.vars)]=some (.agg (b8 p.vars s0 aA))from rfl];simp only[X];have g:aM H1 true 6 (.agg (b8 p.vars s0 aA))=some (.ptr H1.n 0,H1.push (.row (b8 p.vars s0 aA))):=by unfold aM;rw[af ⟨rfl,rfl⟩];rfl
      rw[g];simp only[aK];have ac:=At.new H1 (.row (b8 p.vars s0 aA));have ad:d≠H1.n:=f.jF;have a3:=f.push (.row (b8 p.vars s0 aA));generalize H1.push (.row (b8 p.vars s0 aA))=H2 at *;generalize H1.n=id at *;have hm:=n_;refine B7 aj Z (kw:=kw) (by omega) (λx ag=>VE aj Z M hv hg x (Y x ag)) (s:=s0) ⟨by decide,by decide,by decide⟩ ac (.inl ⟨rfl,rfl⟩) λA ah f5 a5 ap=>?_;have D:=f5.2.1 d _ ad (λn e=>by cases e) a3;rw[mI]at he;generalize hd p.vars kw s0 1 t=u at *;refine S.nM Z (nZ a5 ?_);simp only[F];apply aB<;>intro h
      · rw[af (by simpa using h)]at he;simp only[aC,aa,X,abg];rw[a5.load,show bE (b8 p.vars u ah) 4 2 true=some (.agg [I u.k6,I u.bK])from rfl];simp only[X];exact out _ _ A D he
      · rw[ai (by simpa using h)]at he;simp only[br,X];rw[bJ,iY i];exact T (i+1) A V D he
    exact main p.dL 0 j rfl o rfl
 have E:∀b:Bool,(b=true↔(32<p.vars.length∨p.dL.length<1∨8<p.dL.length))→G (S.uN (ae C) (.ak p.cells) (.ptr d 0) Q) [.bool b] j:=by
  intro b g;simp only[aE,S.uN,ay,F];apply aB<;>intro h
  · rw[af (g.1 h)]at out;rw[show aD [O,O] [(1,1,I 12)]=some (.agg [O,I 12])from rfl];simp only[X];exact out 0 12 j o rfl
  ·exact P λy=>h (g.2 y)
 have K:∀b:Bool,(b=true↔(32<p.vars.length∨p.dL.length<1))→G (S.uO (ae C) (.ak p.cells) (.ptr d 0) Q) [.bool b] j:=by
  intro b g;simp only[aE,S.uO,ay,ck,aa,X,m,dY,dy];apply ie<;>intro h
  · refine E _ ?_;have w:¬(32<p.vars.length∨p.dL.length<1):=λy=>by have:=g.2 y;rw[h]at this;cases this
    simp only[dM,gt_iff_lt];omega
  · refine E _ ?_;have:=g.1 h;simp only[true_iff];omega
 apply ie<;>intro h
 · simp only[m,X,dY,aU];refine K _ ?_;simp only[decide_eq_false_iff_not,gt_iff_lt]at h;simp only[dM];omega
 · refine K _ ?_;simp only[dM,gt_iff_lt]at h;simp only[true_iff];omega
end
end Rb

namespace Rb
open Go
abbrev KP(n:Int):Int:=abF .u64 n
mutual
def B9:U→Int→Int
 | .mk kind n E op aW place bu,m=>if kind≥4 then aH (aH (m+aH (jM place+kd bu 0))+1)else aH (m+aH (jM place+kd bu 0))
def kd:List U→Int→Int
 |[],m=>m
 |e::r,m=>kd r (B9 e m)
def jM:ba→Int
 | .mk var bm=>KQ bm 0
def KQ:List a_→Int→Int
 |[],m=>m
 |p::r,m=>KQ r (KS p m)
def KS:a_→Int→Int
 | .mk field bD,m=>aH (m+kd bD 0)
end
mutual
def B_:aG→Int→Int
 | .mk kind V E cp aW place bh bj bC,m=>
  if 3≤kind∧kind≤7 then aH (aH (m+aH (aH (aH (jM place+kd bh 0)+oa bj 0)+oa bC 0))+1)
  else aH (m+aH (aH (aH (jM place+kd bh 0)+oa bj 0)+oa bC 0))
def oa:List aG→Int→Int
 |[],m=>m
 |x::r,m=>oa r (B_ x m)
end
structure lU where
 kind:Int
 site:Int
 V:Int
 spot:cm
 aW:Int
 op:Int
 d0:Int
 d1:Int
def ig:cm:=⟨0,0,0,false,0,0⟩
def rV:lU:=⟨0,0,0,ig,0,0,0,0⟩
def lU.cells(w:lU):List J:= I w.kind :: I w.site :: I w.V::(w.spot.cells++[I w.aW,I w.op,u w.d0,u w.d1])
structure RS where
 c9:List (Int×Int)
 cI:List (List UInt8×Int)
 pr:List Int
 V:Int
 fuel:Int
 fin:Int
 want:lU
 stop:Bool
 empty:Bool
def RS.get(s:RS)(x:List UInt8):Int:=match s.cI.find? (λl=>l.1==x)with|some l=>l.2|none=>0
def RS.put(s:RS)(x:List UInt8)(v:Int):RS:=match s.cI.findIdx? (λl=>l.1==x)with|some i=>{s with cI:=s.cI.set i (x,v)}|none=>s
def xO(a b:Int):Int:=abF .u64 (KT 64 a &&& KT 64 b).toNat
def KU(a b:Int):Int:=abF .u64 (KT 64 a ||| KT 64 b).toNat
def VN(a b:Int):Int:=abF .u64 (KT 64 a ^^^ KT 64 b).toNat
def VO(a b:Int):Int:=abF .u64 (KT 64 a &&& ~~~KT 64 b).toNat
def xP(a b:Int):Int:=abF .u64 (a*2^(min b.toNat 64))
def KV(a b:Int):Int:=a.fdiv (2^(min b.toNat 64))
def xQ(n:Int):Int:=if n<1 then 0 else if n≥64 then 18446744073709551615 else abF .u64 (xP 1 n-1)
def KW(n:Int):Bool:=decide (n≥0)&&decide (n<64)
def VP(x a n:Int):Int:=if KW a=true then xO (KV x a) (xQ n)else 0
def VQ(x a n v:Int):Int:=if KW a=true then KU (VO x (xP (xQ n) a)) (xP (xO v (xQ n)) a)else x
def VS(op a b:Int):Int:=
 if op=1 then abF .u64 (a+b)else if op=2 then abF .u64 (a-b)else if op=3 then abF .u64 (a*b)
 else if op=4 then xO a b else if op=5 then KU a b else if op=6 then VN a b
 else if op=7 then xP a (b.tmod 64)else if op=8 then KV a (b.tmod 64)
 else if(if op=9 then a==b else if op=10 then a != b else decide (a<b))=true then 1 else 0
def eT:List B→Int→List cm→Int×Int×List cm
 |[],at',acc=>(0,at',acc)
 | v::r,at',acc=>if(bx v.type).2≠0 then((bx v.type).2,0,[])else
  let x:=aH (aH (ae9 (aH (aH (at'+(bx v.type).1.2)-1)) (bx v.type).1.2)*(bx v.type).1.2);let y:=if x>65536 then 65537 else x
  eT r (aH (y+(bx v.type).1.1)) (acc++[⟨aH (65536+y),(bx v.type).1.1,0,false,0,0⟩])
def mapM(vars:List B):Int×Int×List cm:=if(eT vars 0 []).1≠0 then((eT vars 0 []).1,0,[])else if(eT vars 0 []).2.1>65536 then(9,0,[])else eT vars 0 []
def ke:List a_→Int→Int
 |[],n=>n
 |p::r,n=>ke r (aH (n+p.bD.length))
def jb(t:T):List cm:=match dQ t.packed t.kind ⟨0,1,[],0⟩ t.aP with|some p=>p.de|none=>[]
def Ca:List a_→T→cm→List Int→Option cm
 |[],_,sp,_=>some sp
 | p :: r,t,sp,idx=>
  if p.bD.length=1 then(match idx with
    |[]=>none
    | i::q=>if i≥KP t.b5 then none else match t.bw with
     |[]=>none
     |e::_=>Ca r e {sp with at_:=aH (sp.at_+aH (abF .i64 i*(bx e).1.1)),len:=(bx e).1.1} q)
  else match t.aP.findIdx? (λf=>f.E==p.field)with
   |none=>none
   | some n=>match t.aP[n]?,(jb t)[n]? with
    |some f,some s=>Ca r f.type {s with at_:=aH (s.at_+sp.at_)} idx
    |_,_=>none
def ih(vars:List B)(x:ba)(a:List Int):cm:=
 if(mapM vars).1≠0 then ig else if(cS vars x).1≠0 then ig else if ¬((cS vars x).2.kind=1∨(cS vars x).2.kind=2)then ig
 else if(a.length:Int)≠ke x.bm 0 then ig else
 match vars.findIdx? (λv=>v.E==x.var)with
 |none=>ig
 | some n=>match vars[n]?,(mapM vars).2.2[n]? with
  | some v,some g=>match Ca x.bm v.type {ig with at_:=g.at_,len:=g.len} a with
   |some sp=>{sp with kind:=(cS vars x).2.kind}
   |none=>ig
  |_,_=>ig
def VT(vars:List B)(x:ba):Int:=if(cS vars x).1=0 then(cS vars x).2.b5 else 0
section
variable(vars:List B)
def KY(sp:cm)(o v:Int):Int:=xO (if sp.bits=true then VQ o sp.bit sp.be v else v) (xQ (aH (8*sp.len)))
variable(c:Nat)
end
end Rb

namespace Rb
open Go
section
variable{H:AH}{id:Nat}
end
theorem Cb(x:ba)(H:AH):aM H false 2 (.agg x.cells)=some (.ak x.cells,H):=by unfold aM;rw[af ⟨rfl,x.len⟩];rfl
theorem VU(x:ba)(H:AH):W H 1 false (.ak (x.cells.drop 0))=some (.str x.var):=by rw[ba.bQ];rfl
theorem VV(x:ba)(H:AH):W H 1 false (.ak (x.cells.drop 1))=some (aZ a_.cells x.bm):=by rw[ba.bQ];rfl
theorem KZ(x:ba)(H:AH):W H 2 true (.ak x.cells)=some (.agg x.cells):=dP x.len
section
variable{C:Ctx}(aj:bX C)(Z:Cl (ae C) S.bg)
include aj Z
end
end Rb

namespace Rb
open Go
variable{s s':RS}
structure Kp(s s':RS):Prop where
 cI:s'.cI=s.cI
 pr:s'.pr=s.pr
 V:s'.V=s.V
 st:s.stop=true→s'=s
 fu:0≤s.fuel→s.fuel≤1000000→s'.stop=false→0≤s'.fuel∧s'.fuel≤s.fuel
theorem Kp.refl(s:RS):Kp s s:=⟨rfl,rfl,rfl,λ_=>rfl,λh _ _=>⟨h,aeQ _⟩⟩
theorem Kp.stop(h:Kp s s')(a:s'.stop=false):s.stop=false:=by
 cases hs:s.stop with
 |false=>rfl
 |true=>rw[h.st hs,hs]at a;cases a
theorem Kp.trans{a b c:RS}(h:Kp a b)(k:Kp b c):Kp a c where
 cI:=k.cI.trans h.cI
 pr:=k.pr.trans h.pr
 V:=k.V.trans h.V
 st:=λe=>by have e1:=h.st e;rw[e1]at k;exact k.st e
 fu:=λf h1 d=>by have g:=k.stop d;have x:=h.fu f h1 g;have y:=k.fu x.1 (by omega) d;exact⟨y.1,by omega⟩
section
variable(vars:List B)
end
structure Ks(s s':RS):Prop where
 pr:s.pr <+: s'.pr
 st:s.stop=true→s'=s
 fu:0≤s.fuel→s.fuel≤1000000→s'.stop=false→0≤s'.fuel∧s'.fuel≤s.fuel
theorem Kp.ks(h:Kp s s'):Ks s s':=⟨by rw[h.pr];exact List.prefix_refl _,h.st,h.fu⟩
theorem Ks.refl(s:RS):Ks s s:=(Kp.refl s).ks
theorem Ks.stop(h:Ks s s')(a:s'.stop=false):s.stop=false:=by
 cases hs:s.stop with
 |false=>rfl
 |true=>rw[h.st hs,hs]at a;cases a
theorem Ks.trans{a b c:RS}(h:Ks a b)(k:Ks b c):Ks a c where
 pr:=h.pr.trans k.pr
 st:=λe=>by have e1:=h.st e;rw[e1]at k;exact k.st e
 fu:=λf h1 d=>by have g:=k.stop d;have x:=h.fu f h1 g;have y:=k.fu x.1 (by omega) d;exact⟨y.1,by omega⟩
section
variable(vars:List B)
theorem VW(s:RS)(x:List UInt8)(v:Int):(s.put x v).pr=s.pr∧(s.put x v).fuel=s.fuel∧(s.put x v).stop=s.stop∧(s.put x v).c9=s.c9∧(s.put x v).V=s.V∧(s.put x v).fin=s.fin∧(s.put x v).want=s.want∧(s.put x v).empty=s.empty:=by unfold RS.put;split<;>exact⟨rfl,rfl,rfl,rfl,rfl,rfl,rfl,rfl⟩
variable(c:Nat)
end
end Rb

namespace Rb
open Go
def VX(a:Int×Int):List J:=[u a.1,u a.2]
def rW(l:List UInt8×Int):List J:=[.str l.1,u l.2]
def xR(vars:List B)(s:RS)(lx px:J):List J:=aZ B.cells vars::aZ VX s.c9::lx::px :: I s.V :: I s.fuel :: I s.fin::(s.want.cells++[.bool s.stop,.bool s.empty])
def jN(H:AH)(id:Nat)(L:List (List UInt8×Int))(x:J):Prop:=(x = aA∧L=[])∨∃j cs m,x = .row j 0 L.length 2∧j≠id∧At H j (.row cs)∧cs.length=m*2∧L.length≤m∧cs.take (L.length*2)=L.flatMap rW
theorem jN.aO{H H':AH}{id:Nat}{L:List (List UInt8×Int)}{x:J}(h:jN H id L x)(k:cu id H H'):jN H' id L x:=by
 rcases h with h|⟨j,cs,m,h1,a,b,c⟩
 ·exact .inl h
 ·exact .inr ⟨j,cs,m,h1,a,k.2 j _ a b,c⟩
structure RS.ok(s:RS):Prop where
 c9:∀x∈s.c9,mC x.1∧mC x.2
 cI:∀l∈s.cI,mC l.2
theorem VY:mC 0:=⟨by decide,by decide⟩
theorem RS.ok.get{s:RS}(h:s.ok)(x:List UInt8):mC (s.get x):=by
 unfold RS.get;split
 · rename_i l hl;exact h.cI l (aeG hl)
 ·exact VY
theorem RS.ok.put{s:RS}(h:s.ok)(x:List UInt8){v:Int}(hv:mC v):(s.put x v).ok:=by
 unfold RS.put;split
 · refine⟨h.c9,λl hl=>?_⟩;rcases List.mem_or_eq_of_mem_set hl with hl|rfl
   ·exact h.cI l hl
   ·exact hv
 ·exact h
section
variable(vars:List B)
end
section
variable{vars:List B}{s:RS}{lx px:J}{H:AH}{id:Nat}(h:At H id (.row (xR vars s lx px)))
include h
end
end Rb

namespace Rb
open Go
section
variable{Φ:ad}{H:AH}{Q:ab}
end
section
variable{C:Ctx}(aj:bX C)(Z:Cl (ae C) S.bg)
include aj Z
variable{vars:List B}{s:RS}{lx px:J}{H:AH}{id:Nat}{Q:ab}
end
end Rb

namespace Rb
open Go
theorem Cc{m:Nat}:∀{l:List aJ}{f:aJ},f∈l→ei m f.type≤fj m l
 | g::r,f,h=>by
  rw[fj];rcases acU.1 h with rfl|h
  ·rw[xq];omega
  ·have:=Cc (m:=m) h;omega
theorem Cd{m:Nat}:∀{l:List T}{f:T},f∈l→ei m f≤e5 m l
 | g::r,f,h=>by
  rw[e5];rcases acU.1 h with rfl|h
  ·omega
  ·have:=Cd (m:=m) h;omega
theorem K0{m k:Nat}:∀{l:List aJ},(∀f∈l,ei m f.type=ei k f.type)→fj m l=fj k l
 |[],_=>by rw[fj,fj]
 |g::r,h=>by rw[fj,fj,xq,xq,h g (acW ..),K0 λf hf=>h f (acV _ hf)]
theorem K1{m k:Nat}:∀{l:List T},(∀f∈l,ei m f=ei k f)→e5 m l=e5 k l
 |[],_=>by rw[e5,e5]
 |g::r,h=>by rw[e5,e5,h g (acW ..),K1 λf hf=>h f (acV _ hf)]
theorem VZ:∀(t:T)(m:Nat),ei m t<m→ei (m+1) t=ei m t:=by
 refine T.ind λt a b m h=>?_;rw[p3]at h;by_cases h1:1<m
 · rw [af h1]at h;rw[p3,p3,cA,af h1,Nat.add_sub_cancel];have e1:fj m t.aP=fj (m-1) t.aP:=K0 λf hf=>by
    have:=Cc (m:=m-1) hf;have:=a f hf (m-1) (by omega);rw[show m-1+1=m by omega]at this;exact this
   have c:e5 m t.bw=e5 (m-1) t.bw:=K1 λf hf=>by have:=Cd (m:=m-1) hf;have:=b f hf (m-1) (by omega);rw[show m-1+1=m by omega]at this;exact this
   rw[e1,c]
 ·rw[ai h1]at h;omega
theorem K2{t u:T}(h:eR t=0)(a:(∃f∈t.aP,f.type=u)∨u∈t.bw)(hs:cQ u=0):eR u=0:=by
 have b:¬64<ei 65 t:=by intro e;unfold eR at h;rw[af e]at h;cases h
 rw[p3,mL]at b;have:ei 64 u≤63:=by
  rcases a with⟨f,hf,rfl⟩|a
  · have:=Cc (m:=64) hf;simp only[show 65-1=64 from rfl]at b;omega
  · have:=Cd (m:=64) a;simp only[show 65-1=64 from rfl]at b;omega
 have e:=VZ u 64 (by omega);unfold eR;rw[ai (by rw[show(65:Nat)=64+1 from rfl,e];omega),hs]
theorem Ce{packed:Bool}{kind:Int}:∀{l:List aJ}{p q:PL},dQ packed kind p l=some q→(∀f∈l,(bb f.type).2=true)∧q.de.length=p.de.length+l.length
 | [],p,q,h=>by simp only[dQ,aaK.injEq]at h;subst h;exact⟨λf hf=>(by cases hf),rfl⟩
 | f :: r, p,q,h=>by
  simp only[dQ,rJ]at h;by_cases h1:(bb f.type).2=true
  · rw [af h1]at h;obtain⟨b,c⟩:=Ce h;refine⟨λg a=>?_,?_⟩
    · rcases acU.1 a with rfl|a
      ·exact h1
      ·exact b g a
    · have hl:(hM packed kind p f (bb f.type).1).de.length=p.de.length+1:=by
        unfold hM;dsimp only;split
        · unfold k4;split<;>simp[k5]
        ·simp[k5,xz]
      rw[c,hl,aeO];omega
  ·rw[ai h1]at h;cases h
structure T.lay(t:T):Prop where
 ok:t.ok
 snd:eR t=0
 Cf:fo t=false
 of:(bb t).2=true
theorem K3{t:T}(c:t.ok)(h:(bx t).2=0):t.lay:=by
 unfold bx at h;by_cases h1:eR t≠0
 ·rw[af h1]at h;exact absurd h h1
 · rw [ai h1]at h;by_cases a:fo t=true
   · rw[af a]at h;have:(10:Int)=0:=h;omega
   · rw [ai a]at h;by_cases b:(bb t).2=false
     · rw[af b]at h;have:(9:Int)=0:=h;omega
     ·exact⟨c,by omega,by simpa using a,by simpa using b⟩
theorem T.lay.zero{t:T}(h:t.lay):bx t=((bb t).1,0):=by unfold bx;rw[ai (by rw[h.snd];decide),ai (by rw[h.Cf];decide),ai (by rw[h.of];decide)]
theorem T.Cg{t:T}(h:t.ok):(∀f∈t.aP,f.type.ok)∧(∀e∈t.bw,e.ok)∧t.aP.length≤9223372036854775807:=by
 cases t with
 | mk kind size packed aP b5 bw=>obtain⟨_,_,h1,a,_,c,b⟩:=h;refine⟨λf hf=>?_,T.dT.1 b,by rw[←n_];exact h1⟩;have:=aJ.dT.1 a f hf;cases f;exact this.2.1
theorem V0{t e:T}(h:t.lay)(c:t.kind=5)(a:e∈t.bw):e.lay:=by
 have hs:=j_ h.snd;obtain⟨f,d,g⟩:=mF hs c;have i:e=f:=by rw[d]at a;simpa using a
 subst i;refine⟨(T.Cg h.ok).2.1 e a,K2 h.snd (.inr a) g,?_,?_⟩
 · have ht:=h.Cf;cases t with
   | mk kind size packed aP b5 bw=>rw[fo]at ht;simp only[acX]at ht;have:=ht.1.2;rw[BJ,ae_]at this;simpa using this e a
 · have b:=h.of;rw[mG,bO,af c,d]at b;simp only[i6,aaz]at b;exact b.1
theorem xS{t:T}(h:t.lay)(c:t.kind=3∨t.kind=4):∃p,dQ t.packed t.kind ⟨0,1,[],0⟩ t.aP=some p∧cf p.size p.bZ≤65536∧p.de.length=t.aP.length:=by
 have a:=h.of;rw[mG,bO,bO]at a;cases b:dQ t.packed t.kind ⟨0,1,[],0⟩ t.aP with
 |none=>rw[b]at a;cases a
 | some p=>rw[b]at a;refine⟨p,rfl,by simpa using a,?_⟩;have:=(Ce b).2;simpa using this
theorem Ch{t:T}{f:aJ}(h:t.lay)(a:t.kind=3∨t.kind=4)(hf:f∈t.aP):f.type.lay:=by
 have hs:=j_ h.snd;obtain⟨p,b,_⟩:=xS h a;refine⟨(T.Cg h.ok).1 f hf,K2 h.snd (.inl ⟨f,hf,rfl⟩) ((nT hs a).1 f hf),?_,(Ce b).1 f hf⟩;have ht:=h.Cf;cases t with
 | mk kind size packed aP b5 bw=>rw[fo]at ht;simp only[acX]at ht;have:=ht.2;rw[BK,ae_]at this;simpa using this f hf
theorem V1{t:T}(h:t.lay)(a:t.kind=3∨t.kind=4):(jb t).length=t.aP.length:=by obtain⟨p,b,_,hl⟩:=xS h a;unfold jb;rw[b];exact hl
theorem V2{t:T}{p:a_}(h:t.lay)(a:(du t p).1=0) :
  (p.bD.length=1∧t.kind=5∧∃e r,t.bw=e::r∧du t p=(0,e)∧e.lay) ∨
  (p.bD=[]∧(t.kind=3∨t.kind=4)∧∃n f s,t.aP.findIdx? (λf=>f.E==p.field)=some n∧t.aP[n]?=some f∧(jb t)[n]?=some s∧du t p=(0,f.type)∧f.type.lay):=by
 unfold du at a ⊢;by_cases c1:1<p.bD.length∨(p.bD.length=1↔p.field≠[])
 · rw[af c1]at a;have:(8:Int)=0:=a;omega
 rw[ai c1]at a;by_cases c2:p.bD.length=1∧t.kind=5
 · rw [af c2]at a;left;cases he:t.bw with
   | nil=>rw[he]at a;have:(8:Int)=0:=a;omega
   |cons e r=>exact⟨c2.1,c2.2,e,r,rfl,by rw[ai c1,af c2],V0 h c2.2 (by rw[he];exact acW ..)⟩
 rw[ai c2]at a;by_cases c3:p.bD.length=1∨¬(t.kind=3∨t.kind=4)
 · rw[af c3]at a;have:(8:Int)=0:=a;omega
 rw[ai c3]at a;have hk:t.kind=3∨t.kind=4:=by omega
 right;rcases p4 (λf:aJ=>f.E==p.field) t.aP with⟨i,f,h1,b,c⟩|⟨h1,b⟩
 · have d:=(aat.1 c).1;have hl:i<(jb t).length:=by rw[V1 h hk];exact d
   refine⟨abS.1 (by omega),hk,i,f,(jb t)[i],h1,c,abm hl,?_,Ch h hk (adl c)⟩;rw[ai c1,ai c2,ai c3,b]
 · rw[b]at a;have:(6:Int)=0:=a;omega
end Rb

namespace Rb
open Go
variable{vars:List B}{v:B}
def fS:List B→List cm→List J
 |v::r,s::t=> .str v.E :: I s.at_ :: I s.len::fS r t
 |_,_=>[]
theorem K4:∀(a:List B)(s:List cm)(v:B)(g:cm),a.length=s.length→fS (a++[v]) (s++[g])=fS a s++[.str v.E,I g.at_,I g.len]
 |[],[],v,g,_=>rfl
 | x::a,y::s,v,g,h=>by rw[acu,acu,fS,fS,K4 a s v g (by simpa using h)];rfl
theorem K5:∀(a:List B)(s:List cm),J.e4 (fS a s)=fS a s
 |v::r,s::t=>by rw[fS,J.e4,J.e4,J.e4,K5 r t];rfl
 |[],[]=>rfl
 |[],_::_=>rfl
 |_::_,[]=>rfl
theorem K6:∀(a:List B)(s:List cm),J.b7 (fS a s)=true
 |v::r,s::t=>by rw[fS];simp only[J.b7,J.bI,K6 r t];rfl
 |[],[]=>rfl
 |[],_::_=>rfl
 |_::_,[]=>rfl
def lV(vars:List B):J:=if(mapM vars).1≠0 then .ar [.ax .dead 0 [],O,I (mapM vars).1]else .ar [.ax .dead vars.length (fS vars (mapM vars).2.2),I (mapM vars).2.1,O]
def ob(a:Int)(v:B):Int:=if aH (aH (ae9 (aH (aH (a+(bx v.type).1.2)-1)) (bx v.type).1.2)*(bx v.type).1.2)>65536 then 65537 else aH (aH (ae9 (aH (aH (a+(bx v.type).1.2)-1)) (bx v.type).1.2)*(bx v.type).1.2)
theorem K7(v:B)(r:List B)(a:Int)(b:List cm):eT (v::r) a b=if(bx v.type).2≠0 then((bx v.type).2,0,[])else eT r (aH (ob a v+(bx v.type).1.1)) (b++[⟨aH (65536+ob a v),(bx v.type).1.1,0,false,0,0⟩]):=rfl
theorem V3(h:(eT vars 0 []).1≠0):lV vars = .ar [.ax .dead 0 [],O,I (eT vars 0 []).1]:=by
 have e:mapM vars=((eT vars 0 []).1,0,[]):=by unfold mapM;rw[af h]
 unfold lV;rw[e];exact af h
theorem V4(h:(eT vars 0 []).1=0)(a:(eT vars 0 []).2.1>65536):lV vars = .ar [.ax .dead 0 [],O,I 9]:=by
 have e:mapM vars=(9,0,[]):=by unfold mapM;rw[bO,af a]
 unfold lV;rw[e];exact af (show(9:Int)≠0 by decide)
theorem V5(h:(eT vars 0 []).1=0)(a:¬(eT vars 0 []).2.1>65536):lV vars = .ar [.ax .dead vars.length (fS vars (eT vars 0 []).2.2),I (eT vars 0 []).2.1,O]:=by
 have e:mapM vars=eT vars 0 []:=by unfold mapM;rw[bO,ai a]
 unfold lV;rw[e];exact bO
section
variable{H:AH}{id:Nat}
theorem V6(h:At H id (.row v.cells)):W H 1 false (.ptr id 0)=some (.str v.E):=by rw[h.load];cases v;rfl
theorem V7(h:At H id (.row v.cells)):W H 6 true (.ptr id 1)=some (.agg v.type.cells):=by
 rw[h.load];cases v with
 | mk E type=>show bE (.str E::type.cells) 1 6 true=_;unfold bE;rw[af (by rw[aeO,type.len];omega),af rfl];show some (J.agg (type.cells.take 6))=_;rw[aeb (by rw[type.len];omega)]
end
section
variable{C:Ctx}(aj:bX C)(Z:Cl (ae C) S.bg)
include aj Z
theorem V8(hl:vars.length≤1000000)(hv:∀v∈vars,v.ok):bF (ae C) 11 [aZ B.cells vars] (lV vars):=by
 refine bF.of aj (by simp[J.b7,nO B.bI]) (by
   unfold lV;split
   ·rfl
   ·simp[J.bI,J.b7,K6,Tok.free]) λQ c=>?_
 refine ae.e3 ?_;refine S.QB Z ?_;unfold S.f11;simp only[dY,X];have main:∀(r:List B)(k:Nat)(at':Int)(acc:List cm)(x:J)(H:AH),vars.drop k=r→k≤vars.length→acc.length=k→cH 0 H 3 x k (fS (vars.take k) acc)→eT r at' acc=eT vars 0 [] →
   av (S.q0 (ae C) (aZ B.cells vars) (I vars.length) λv H'=>Q v.e3 H') ([x,I at',I k],H):=by
  intro r;induction r with
  | nil=>
   intro k at' acc x H f hk g d he;have hle:=fb f;have s:k=vars.length:=by omega
   subst s;rw[aey]at d;refine av.step ?_;simp only[S.q0,ay,bY,aU,X,F,aE,S.FH,dy];rw[jt];have e1:(eT vars 0 []).1=0:=by rw[←he];rfl
   have i:(eT vars 0 []).2.1=at':=by rw[←he];rfl
   have t:(eT vars 0 []).2.2=acc:=by rw[←he];rfl
   obtain⟨tk,rfl,_,_⟩:=d;apply aB<;>intro h
   · rw[V4 e1 (by rw[i];simpa using h)]at c;exact c _
   · rw[V5 e1 (by rw[i];simpa using h),i,t]at c;have:=c H;simp only[J.e3,J.e4,K5];exact this
  | cons v r u=>
   intro k at' acc x H f hk g d he;obtain⟨o,j,w⟩:=eN f;have z:=hv v (adl j);have p:v.type.ok:=by cases v;exact z.2
   refine av.step ?_;simp only[S.q0,ay,bY,aU,X,F];rw[fc,dF o];simp only[X];rw[eh B.len (by decide) _ j];simp only[X,aK,aQ,aT];rw[cG _ _ _ 7 v.len v.scalar rfl];have a2:=At.new H (.row v.cells);have A:cH 0 (H.push (.row v.cells)) 3 x k (fS (vars.take k) acc):=d.frame λ_ _ _ q=>q.push _;simp only[X,aa,abg];rw[V7 a2];simp only[X];generalize H.push (.row v.cells)=H2 at *;refine BQ aj Z v.type p _ _ ?_;simp only[bo,adW,adX,X,dA,F];rw[K7]at he;apply aB<;>intro h
   · have e:(bx v.type).2≠0:=by simpa using h
     rw[af e]at he;rw[V3 (by rw[←he];exact e),←he]at c;exact c H2
   · have e:¬(bx v.type).2≠0:=by simpa using h
     rw[ai e]at he;have M:1≤(bx v.type).1.2:=by have l:=K3 p (by omega);rw[l.zero];exact BP _ (j_ l.snd) l.of
     simp only[br,cM,X,k0 _ _ _ (show(bx v.type).1.2≠0 by omega),fY,dy,F,aE];have k2:∀y:Int,y=ob at' v →
       S.uP (ae C) (.ptr H.n 0) (I (bx v.type).1.1) ([x,I at',I k],H) (av (S.q0 (ae C) (aZ B.cells vars) (I vars.length) λv H'=>Q v.e3 H')) (λv H'=>Q v.e3 H') [I y] H2:=by
      intro y D;simp only[S.uP,ay,bY,aa,abg,X,V6 a2,br];rw[show ∀a b:Int,aD [O,O] [(0,1,I a),(1,1,I b)]=some (.agg [I a,I b])from λ_ _=>rfl];simp only[X];refine⟨.agg [.str v.E,I (aH (65536+y)),I (bx v.type).1.1],rfl,?_⟩;dsimp only;rw[show cb H2 false 3 1 [.str [],O,O] [(0,3,J.agg [.str v.E,I (aH (65536+y)),I (bx v.type).1.1])]=some (.ax .full 1 [.str v.E,I (aH (65536+y)),I (bx v.type).1.1],H2)from rfl];simp only[aK];refine A.app (aa2 _) (m:=1) (news:=[.str v.E,I (aH (65536+y)),I (bx v.type).1.1]) rfl rfl rfl (by decide) (by omega) (by omega) λG K L _=>?_;simp only[aE,S.FG,ay,bY,br,X];rw[wrap_i64 (n:=(k:Int)+1) (by omega) (by omega),show(k:Int)+1=((k+1:Nat):Int) by simp];have ht:vars.take (k+1)=vars.take k++[v]:=by rw[aeE,j];rfl
      refine u (k+1) _ (acc++[⟨aH (65536+y),(bx v.type).1.1,0,false,0,0⟩]) G K w o (by simp[g]) ?_ ?_
      · rw[ht,K4 _ _ _ _ (by rw[aen,g];omega)];exact L
      ·rw[D];exact he
     apply aB<;>intro h
     ·exact k2 _ (by unfold ob;rw[af (by simpa using h)])
     ·exact k2 _ (by unfold ob;rw[ai (by simpa using h)])
 exact main vars 0 0 [] _ _ rfl (aa2 _) rfl (cH.nil _ _ _) rfl
end
end Rb

namespace Rb
open Go
theorem K8:∀l:List cm,J.e4 (l.flatMap cm.cells)=l.flatMap cm.cells
 |[]=>rfl
 |s::r=>by rw[adR,VI,K8 r];rfl
theorem K9:∀l:List cm,J.b7 (l.flatMap cm.cells)=true
 |[]=>rfl
 | s::r=>by rw[adR];show J.b7 ([I s.at_,I s.len,I s.kind,.bool s.bits,I s.bit,I s.be]++r.flatMap cm.cells)=true;simp only[acu,afa,J.b7,J.bI,K9 r];rfl
def V9(t:T)(sp:cm)(ix:J):List J:=t.cells++(sp.cells++[ix])
section
variable{H:AH}{id:Nat}{t:T}{sp:cm}{ix:J}(h:At H id (.row (V9 t sp ix)))
include h
end
theorem K_{fs:List aJ}{i:Nat}{f:aJ}(H:AH)(h:fs[i]?=some f):W H 6 true (.ak (((fs.flatMap aJ.cells).drop (i*9)).drop 1))=some (.agg f.type.cells):=by
 have e:=eh aJ.len (by decide) H h;have a:(fs.flatMap aJ.cells).drop (i*9)=f.cells++(fs.drop (i+1)).flatMap aJ.cells:=by
  have key:∀(xs:List aJ)(i:Nat)(f:aJ),xs[i]?=some f→(xs.flatMap aJ.cells).drop (i*9)=f.cells++(xs.drop (i+1)).flatMap aJ.cells:=by
   intro xs;induction xs with
   |nil=>intro i f h;simp at h
   | cons x r c=>
    intro i f h;cases i with
    |zero=>simp at h;subst h;simp
    | succ i=>rw[adR,show(i+1)*9=x.cells.length+i*9 by rw[x.len];omega,List.drop_length_add_append];exact c i f (by simpa using h)
  exact key fs i f h
 rw[a];show bE (List.drop 1 (f.cells++_)) 0 6 true=_;cases f with
 |mk n t b w=>cases t;rfl
section
variable{C:Ctx}(aj:bX C)(Z:Cl (ae C) S.bg)
include aj Z
theorem V_{t:T}(h:t.lay)(a:t.kind=3∨t.kind=4):bF (ae C) 174 [.agg t.cells] (.ar [aZ cm.cells (jb t),O]):=by
 refine bF.of aj (by simp[J.b7,J.bI,T.bI]) (by show J.bI (.ar [.ax .dead (jb t).length ((jb t).flatMap cm.cells),O])=true;simp[J.bI,J.b7,K9,Tok.free]) λQ c=>?_
 refine ae.e3 ?_;refine S.SY Z ?_;unfold S.f174;simp only[gZ,aK,j9,X];refine S.Jn Z (Kf aj Z t h.ok λH1=>?_);rw[h.zero];simp only[bo,adW,adX,X,aK,aQ,aT];rw[cG _ _ _ 2 rfl rfl rfl];simp only[X,dA,F];rw[dC];simp only[eA,lQ,X,dA,cx,aE];have hs:=j_ h.snd;obtain⟨p,b,hle,hlen⟩:=xS h a;have k2:S.wF (ae C) (.ak t.cells) (λv H'=>Q v.e3 H') [P] (H1.push (.row [I (bb t).1.1,I (bb t).1.2])):=by
  simp only[S.wF,ay,F,acq,bz,aE,S.II,j9,X];refine S.Js Z (Kc Z hs a (λf hf=>Ke aj Z f.type (j_ (Ch h a hf).snd)) (λf hf=>BP f.type (j_ (Ch h a hf).snd)) (λe=>by rw[b]at e;cases e) λq d x H2 g=>?_);rw[b]at d;cases d;obtain⟨_,tk,rfl,_⟩:=g;simp only[bo,adW,adX,X,aK,aQ,aT];rw[cG _ _ _ 4 rfl rfl rfl];simp only[X,aa,abg,ey];rw[show bE [I (cf p.size p.bZ),I p.bZ,.ax tk p.de.length (p.de.flatMap cm.cells),I p.bit] 2 1 false=some (.ax tk p.de.length (p.de.flatMap cm.cells))from rfl];simp only[X,J.e3,J.e4,K8];have i:jb t=p.de:=by unfold jb;rw[b]
  rw[i]at c;exact c _
 rcases a with a|a
 · rw[ai (by rw[a];decide)];exact k2
 · rw[af (by rw[a];decide),show((t.kind != 4):Bool)=false by rw[a];decide];exact k2
end
end Rb

namespace Rb
open Go
theorem cH.La{n0 sz bytes a m:Nat}{H:AH}{x y:J}{cells news:List J}{K:ab}(h:cH n0 H sz x a cells)(b:n0≤H.n)(d:ef H sz y=some (m,news))(k:news.length=m*sz)(hs:news.all J.scalar=true)(f:m≠0)
  (g:(a+m)*bytes≤140737488355328) (hl:a+m≤9223372036854775807) (j:∀H',cH n0 H' sz (.ax (.own H.n) (a+m) (cells++news)) (a+m) (cells++news)→H.n<H'.n→(∀i o,At H i o→(∀l c,x ≠ .ax (.own i) l c)→At H' i o)→K (.ax (.own H.n) (a+m) (cells++news)) H'):aw (bR H false sz bytes x y) K:=by
 obtain⟨tk,rfl,hc,p⟩:=h;have hlen:(cells++news).length=(a+m)*sz:=by simp[hc,k,aa3]
 have grow:∀tk:Tok,tk = .full∨(tk = .nil∧a=0)→bR H false sz bytes (.ax tk a cells) y=some (.ax (.own H.n) (a+m) (cells++news),H.push (.tok ((a+m)*sz) sz)):=by intro tk ht;simp only[bR,d,hs,not_true_eq_false,bz,ai f];rw[ai (by simp only[ad8];exact⟨hc,g,hl⟩)];rcases ht with rfl|⟨rfl,_⟩<;>rfl
 have fresh:K (.ax (.own H.n) (a+m) (cells++news)) (H.push (.tok ((a+m)*sz) sz)):=
  j _ ⟨_,rfl,hlen,.inr (.inr ⟨H.n,rfl,b,At.new H _⟩)⟩ (adn _) (λi o h _=>h.push _)
 rcases p with ht|ht|⟨t,rfl,h1,q⟩
 ·exact⟨_,_,grow tk (.inr ht),fresh⟩
 ·exact⟨_,_,grow tk (.inl ht),fresh⟩
 · refine ⟨.ax (.own H.n) (a+m) (cells++news),(H.set t .gone).push (.tok ((a+m)*sz) sz),?_,j _ ⟨_,rfl,hlen,.inr (.inr ⟨H.n,rfl,b,At.new (H.set t .gone) _⟩)⟩ (adn _) (λi o hi r=>(hi.cd (λe=>?_) _).push _)⟩
   · simp only[bR,d,hs,not_true_eq_false,bz,ai f];rw[ai (by simp only[ad8];exact⟨hc,g,hl⟩)];simp[q.2]
   · subst e;exact r _ _ rfl
def Lb(ix:J)(l:List Int):Prop:=∃tk,ix = .ax tk l.length (l.map (I))
theorem Lb.sc{x:J}{l:List Int}(h:Lb x l):x.scalar=true∧x.known=true∧x.cells=[x]:=by obtain⟨tk,rfl⟩:=h;exact⟨rfl,rfl,rfl⟩
end Rb

namespace Rb
open Go
section
variable{C:Ctx}(aj:bX C)(Z:Cl (ae C) S.bg)
include aj Z
end
end Rb

namespace Rb
open Go
theorem cH.move{n0 sz a:Nat}{H H':AH}{x y:J}{cells:List J}(h:cH n0 H sz x a cells)(k:∀i o,At H i o→(∀l c,y ≠ .ax (.own i) l c)→At H' i o)(d:∀i l c,y = .ax (.own i) l c→∀l' c',x ≠ .ax (.own i) l' c'):cH n0 H' sz x a cells:=by
 obtain⟨tk,b,hc,ht⟩:=h;refine⟨tk,b,hc,?_⟩;rcases ht with q|q|⟨t,q,f,g⟩
 ·exact .inl q
 ·exact .inr (.inl q)
 · refine .inr (.inr ⟨t,q,f,k t _ g λl c e=>?_⟩);exact d t l c e _ _ (by rw[b,q])
theorem Ext.aO{H a b:AH}(E:AH.Ext H a)(c:a.n≤b.n)(k:∀i o,i<H.n→At a i o→At b i o):AH.Ext H b:=⟨np E.1 c,λi hi=>((k i _ hi ⟨sl hi E.1,rfl⟩).2).trans (E.2 i hi)⟩
section
variable{C:Ctx}(aj:bX C)(Z:Cl (ae C) S.bg)
include aj Z
end
end Rb

namespace Rb
open Go
section
variable{Φ:ad}{H:AH}{Q:ab}
end
end Rb

namespace Rb
open Go
section
variable{Φ:ad}{H:AH}{Q:ab}
end
section
variable{C:Ctx}(aj:bX C)(Z:Cl (ae C) S.bg)
include aj Z
end
end Rb

namespace Rb
open Go
section
variable{C:Ctx}(aj:bX C)(Z:Cl (ae C) S.bg)
include aj Z
end
end Rb

namespace Rb
open Go
theorem Wa{t:T}{p:a_}{r:List a_}(h:(g_ t (p::r)).1=0):(du t p).1=0∧(g_ (du t p).2 r).1=0:=by
 rw[g_]at h;by_cases c:(du t p).1≠0
 ·rw[af c]at h;exact absurd h c
 ·rw[ai c]at h;exact⟨by omega,h⟩
section
variable{C:Ctx}(aj:bX C)(Z:Cl (ae C) S.bg)
include aj Z
end
end Rb

namespace Rb
open Go
variable{E:List UInt8}{i:Nat}
theorem Lc:∀(L:List (List UInt8×Int)) (k:Nat) (l:List UInt8×Int) (v:Int),L[k]?=some l→(L.flatMap rW).set (k*2+1) (u v)=(L.set k (l.1,v)).flatMap rW
 |[],k,l,v,h=>by simp at h
 | x::r,0,l,v,h=>by simp at h;subst h;rfl
 | x::r,k+1,l,v,h=>by have:=Lc r k l v (by simpa using h);rw[show(k+1)*2+1=k*2+1+1+1 by omega,List.set_cons_succ,adR,adR,←this];rfl
section
variable{C:Ctx}(aj:bX C)(Z:Cl (ae C) S.bg)
include aj Z
variable{vars:List B}{s:RS}{lx px:J}{H:AH}{id:Nat}{Q:ab}
end
theorem Ld{s:RS}(hi:s.cI.findIdx? (λl=>l.1==E)=some i):∃l,s.cI[i]?=some l∧l.1=E∧s.get E=l.2∧∀v,s.put E v={s with cI:=s.cI.set i (l.1,v)}:=by
 rcases p4 (λl:List UInt8×Int=>l.1==E) s.cI with⟨j,l,h1,a,c⟩|⟨h1,a⟩
 · rw [hi]at h1;cases h1;have b:l.1=E:=by
    have:=List.find?_some a;simpa using this
   refine⟨l,c,b,by unfold RS.get;rw[a],λv=>?_⟩;unfold RS.put;rw[hi,b]
 ·rw[hi]at h1;cases h1
theorem Wb{L:List (List UInt8×Int)}(h:E∈L.map (·.1)):∃i,L.findIdx? (λl=>l.1==E)=some i:=by
 rcases p4 (λl:List UInt8×Int=>l.1==E) L with⟨j,l,h1,a,b⟩|⟨h1,a⟩
 ·exact⟨j,h1⟩
 · rw[List.find?_eq_none]at a;obtain⟨l,hl,rfl⟩:=ada.1 h;exact absurd (by simp) (a l hl)
theorem jN.put{H:AH}{id j m i:Nat}{L:List (List UInt8×Int)}{cs:List J}{l:List UInt8×Int}(b:j≠id)(a:At H j (.row cs))(c:cs.length=m*2)(d:L.length≤m)(e:cs.take (L.length*2)=L.flatMap rW)(hi:L[i]?=some l)(v:Int) :
  au H 1 (.ptr j (i*2+1)) (u v)=some (H.set j (.row (cs.set (i*2+1) (u v))))∧jN (H.set j (.row (cs.set (i*2+1) (u v)))) id (L.set i (l.1,v)) (.row j 0 L.length 2):=by
 have f:=(aat.1 hi).1;refine⟨?_,.inr ⟨j,_,m,by simp,b,a.set _,by simpa using c,by simpa using d,?_⟩⟩
 ·rw[a.store,af ⟨rfl,rfl,rfl,by omega⟩];rfl
 ·rw[acT,List.take_set,e,Lc L i l v hi]
theorem jN.app{H:AH}{id:Nat}{L:List (List UInt8×Int)}{x:J}(h:jN H id L x)(C:id<H.n)(hl:L.length≤1000000)(E:List UInt8)(v:Int){K:ab}
  (f:∀a H',H.n≤H'.n→(∀j o,j≤id→(∀c d e,x ≠ .row j c d e)→At H j o→At H' j o)→jN H' id (L++[(E,v)]) a→(∀c d e,a ≠ .row id c d e)→a.known=true→a.cells=[a]→a.scalar=true→(∀j c d e,a = .row j c d e→(∃c' z A,x = .row j c' z A)∨H.n≤j)→(∀j o,(∀cs,o ≠ .row cs)→At H j o→At H' j o)→K a H') :
  aw (bR H true 2 24 x (.ax .full 1 [.str E,u v])) K:=by
 have r:ef H 2 (.ax .full 1 [.str E,u v])=some (1,[.str E,u v]):=rfl;rcases h with⟨rfl,rfl⟩|⟨j,cs,m,rfl,s,b,B,D,g⟩
 · refine⟨.row H.n 0 1 2,H.push (.row [.str E,u v]),rfl,?_⟩;refine f _ _ (aa_ _) (λj o _ _ h=>h.push _) (.inr ⟨H.n,_,1,rfl,by omega,At.new H _,rfl,hT _,rfl⟩) (λc d e h=>?_) rfl rfl rfl (λj c d e h=>?_) (λj o _ h=>h.push _)
   ·simp only[J.row.injEq]at h;omega
   ·simp only[J.row.injEq]at h;right;omega
 · by_cases hc : L.length+1≤m
   · refine ⟨.row j 0 (L.length+1) 2,H.set j (.row (setCells cs (L.length*2) [.str E,u v])),?_,?_⟩
     · simp only[bR,r,b.2];simp only[adk,ae3,J.scalar,ae4,not_true_eq_false,bz];rw[dC,ai (by simp only[ad8];exact⟨trivial,trivial,by omega,by omega⟩),cA]
     · refine f _ _ (hT _) (λq o _ i h=>h.cd (λe=>i 0 L.length 2 (by rw[e])) _) (.inr ⟨j,_,m,by simp,s,b.set _,?_,by simpa using hc,?_⟩) (λc d e h=>?_) rfl rfl rfl (λq c d e h=>?_) (λq o k h=>h.cd (λe=>by subst e;exact k cs (h.2.symm.trans b.2)) _)
       · show((cs.set (L.length*2) (.str E)).set (L.length*2+1) (u v)).length=_;simpa using B
       · rw [ad9,ae2];show((cs.set (L.length*2) (.str E)).set (L.length*2+1) (u v)).take ((L.length+1)*2)=_;have e1 : ((cs.set (L.length*2) (J.str E)).set (L.length*2+1) (u v)).take ((L.length+1)*2)=cs.take (L.length*2)++[.str E,u v]:=by
          apply afb;intro q;rw[aav];have l:(cs.take (L.length*2)).length=L.length*2:=by rw[aen];omega
          by_cases t:q<(L.length+1)*2
          · rw [af t,aaV,aaV];by_cases w:L.length*2+1=q
            · subst w;rw[af rfl,e_,ab9 (by omega),l,show L.length*2+1-L.length*2=1 by omega];rfl
            · rw [ai w];by_cases y:L.length*2=q
              · subst y;rw[af rfl,cA,ab9 (by omega),l,afc];rfl
              ·rw[ai y,ab8 (by omega),aav,cA]
          ·rw[ai t,acO (by simp[l];omega)]
         rw[e1,g,afd];rfl
       ·simp only[J.row.injEq]at h;exact s h.1
       ·simp only[J.row.injEq]at h;exact .inl ⟨0,L.length,2,by rw[h.1]⟩
   · have p:cs.length=L.length*2:=by omega
     refine⟨.row H.n 0 (L.length+1) 2,(H.set j .gone).push (.row (cs++[.str E,u v])),?_,?_⟩
     · simp only[bR,r,b.2];simp only[adk,ae3,J.scalar,ae4,not_true_eq_false,bz];rw[dC,ai (by simp only[ad8];exact⟨trivial,trivial,by omega,by omega⟩),bO,cA]
     · refine f _ _ (aa_ _) (λq o _ i h=>(h.cd (λe=>i 0 L.length 2 (by rw[e])) _).push _) (.inr ⟨H.n,_,L.length+1,by simp,by omega,At.new (H.set j .gone) _,by simp[p];omega,by simp,?_⟩) (λc d e h=>?_) rfl rfl rfl (λq c d e h=>?_) (λq o k h=>(h.cd (λe=>by subst e;exact k cs (h.2.symm.trans b.2)) _).push _)
       · rw[ad9,ae2,aeb (by simp[p];omega)];rw[←p,aey]at g;rw[g,afd];rfl
       ·simp only[J.row.injEq]at h;omega
       ·simp only[J.row.injEq]at h;right;omega
end Rb

namespace Rb
open Go
variable{H H':AH}{s:RS}{lx px:J}
section
variable{α:Type}{cells:α→List J}{sz:Nat}(hc:∀x,(cells x).length=sz)
include hc
theorem Le:∀xs:List α,(xs.flatMap cells).length=xs.length*sz
 |[]=>by simp
 |x::r=>by rw[adR,ad9,hc,Le r,aeO,aa3];omega
theorem Lf:∀(xs:List α)(k:Nat),(xs.flatMap cells).take (k*sz)=(xs.take k).flatMap cells
 |[],k=>by simp
 |x::r,0=>by simp
 | x::r,k+1=>by rw[adR,aeu,adR,show(k+1)*sz=(cells x).length+k*sz by rw[hc,aa3];omega,aew,Lf r k]
end
theorem cu.left{id:Nat}{H0 H H':AH}(h:cu id H0 H)(k:Left H0.n H H'):cu id H0 H':=⟨np h.1 k.1,λj o b a=>k.2 j o (h.2 j o b a) (.inl a.1)⟩
structure kf(H:AH)(id:Nat)(vars:List B)(L:List (List UInt8))(s:RS)(lx px:J):Prop where
 row:At H id (.row (xR vars s lx px))
 loc:jN H id s.cI lx
 ok:s.ok
 len:s.cI.length≤1000000
 nm:s.stop=false→s.cI.map (·.1)=L
 fl:s.stop=false→0≤s.fuel∧s.fuel+s.cI.length≤1000000∧s.fuel+s.pr.length≤1000000
 pl:s.pr.length≤1000000
theorem kf.aO{id:Nat}{vars:List B}{L:List (List UInt8)}(h:kf H id vars L s lx px)(k:cu id H H')(a:At H' id (.row (xR vars s lx px))):kf H' id vars L s lx px:=⟨a,h.loc.aO k,h.ok,h.len,h.nm,h.fl,h.pl⟩
theorem kf.next{id:Nat}{vars:List B}{L:List (List UInt8)}{s s':RS}(h:kf H id vars L s lx px)(k:cu id H H')(b:At H' id (.row (xR vars s' lx px)))(a:Kp s s')(c:s'.ok):kf H' id vars L s' lx px:=
 ⟨b,by rw[a.cI];exact h.loc.aO k,c,by rw[a.cI];exact h.len,λe=>by rw[a.cI];exact h.nm (a.stop e),λe=>by have h1:=h.fl (a.stop e);have d:=a.fu h1.1 (by omega) e;rw[a.cI,a.pr];exact⟨d.1,by omega,by omega⟩,by rw[a.pr];exact h.pl⟩
section
variable{C:Ctx}(aj:bX C)(Z:Cl (ae C) S.bg){id:Nat}{vars:List B}{L:List (List UInt8)}
include aj Z
end
end Rb

namespace Rb
open Go
def hR(a:Int)(v:B):Int:=bV a (bx v.type).1.2
def hU:Int→List B→Int
 |a,[]=>a
 |a,v::r=>hU (hR a v+(bx v.type).1.1) r
theorem Wc{t:T}(h:(bx t).2=0):eR t=0∧(bb t).2=true∧(bx t).1=(bb t).1:=by
 unfold bx at h ⊢;split at h
 ·rename_i q;exact absurd h q
 · rename_i q;rw[ai q];split at h
   ·cases h
   · rename_i b;rw[ai b];split at h
     ·cases h
     · rename_i a;rw[ai a];exact⟨by simpa using q,by simpa using a,rfl⟩
theorem Ci{t:T}(h:(bx t).2=0):0≤(bx t).1.1∧(bx t).1.1≤65536∧1≤(bx t).1.2∧(bx t).1.2≤16:=by obtain⟨h1,a,b⟩:=Wc h;rw[b];exact Ko t (j_ h1) a
theorem Lg:∀{l:List B}{a:Int},(∀v∈l,(bx v.type).2=0)→a≤hU a l
 |[],a,_=>aeQ _
 | v::r,a,h=>by have b:=Ci (h v (acW ..));have hu:=jI (n:=a) (step:=(bx v.type).1.2) (by omega);have:=Lg (l:=r) (a:=hR a v+(bx v.type).1.1) (λw hw=>h w (acV _ hw));rw[hU];unfold hR at this ⊢;omega
section
variable{C:Ctx}(aj:bX C)(Z:Cl (ae C) S.bg)
include aj Z
end
end Rb

namespace Rb
open Go
end Rb

namespace Rb
open Go
def bt(a:Int)(i:Nat):Bool:=a.toNat.testBit i
section
variable{C:Ctx}(aj:bX C)(Z:Cl (ae C) S.bg)
include aj Z
end
end Rb

namespace Rb
open Go
def ij:Int→List B→List cm
 |_,[]=>[]
 |a,v::r=>⟨65536+hR a v,(bx v.type).1.1,0,false,0,0⟩::ij (hR a v+(bx v.type).1.1) r
theorem Lh:∀{l:List B}{a:Int}{b:List cm},0≤a→a≤65536→(∀v∈l,(bx v.type).2=0)→hU a l≤65536→eT l a b=(0,hU a l,b++ij a l)
 |[],a,b,c,h1,hv,he=>by rw[eT,hU,ij,aee]
 | v::r,a,b,c,h1,hv,he=>by
  have d:=hv v (acW ..);have f:∀v∈r,(bx v.type).2=0:=λw hw=>hv w (acV _ hw);obtain⟨b1,b2,b3,h⟩:=Ci d;have hu:=jI (n:=a) (step:=(bx v.type).1.2) (by omega);rw[hU]at he ⊢;have hle:=Lg (a:=hR a v+(bx v.type).1.1) f;have i:hR a v=bV a (bx v.type).1.2:=rfl;have g:ob a v=hR a v:=by have e:aH (aH (ae9 (aH (aH (a+(bx v.type).1.2)-1)) (bx v.type).1.2)*(bx v.type).1.2)=hR a v:=nV c (by omega) (by omega) (by omega);unfold ob;rw[e,bO]
  rw[K7,ai (by rw[d];decide),g,show aH (hR a v+(bx v.type).1.1)=hR a v+(bx v.type).1.1 from bJ,show aH (65536+hR a v)=65536+hR a v from bJ,Lh (by omega) (by omega) f he,ij,aeI];rfl
theorem Wd{vars:List B}(hv:∀v∈vars,(bx v.type).2=0)(a:hU 0 vars≤65536):mapM vars=(0,hU 0 vars,ij 0 vars):=by unfold mapM;rw[Lh (by decide) (by decide) hv a];simp only[afa];rw[dC,bO]
theorem Li:∀{l:List B}{a:Int}{n:Nat}{v:B},l[n]?=some v→∃g b,(ij a l)[n]?=some g∧g={ig with at_:=g.at_,len:=g.len}∧(fS l (ij a l)).drop (n*3) = .str v.E :: I g.at_ :: I g.len::b
 | w::r,a,0,v,h=>by simp at h;subst h;exact⟨_,_,rfl,rfl,rfl⟩
 | w::r,a,n+1,v,h=>by obtain⟨g,b,h1,c,d⟩:=Li (l:=r) (a:=hR a w+(bx w.type).1.1) (n:=n) (by simpa using h);refine⟨g,b,h1,c,?_⟩;rw[ij,fS,show(n+1)*3=n*3+3 by omega];exact d
def We(H:AH)(ix:J)(a:List Int):Prop:=∀H',AH.Ext H H'→∀(k:Nat)(v:Int),a[k]?=some v→∃p,aL none 1 ix (I k)=some p∧W H' 1 false p=some (u v)
section
variable{C:Ctx}(aj:bX C)(Z:Cl (ae C) S.bg)
include aj Z
end
end Rb

namespace Rb
open Go
section
variable{C:Ctx}(aj:bX C)(Z:Cl (ae C) S.bg){id:Nat}{vars:List B}{L:List (List UInt8)}
include aj Z
end
end Rb

namespace Rb
open Go
section
variable{C:Ctx}(aj:bX C)(Z:Cl (ae C) S.bg){id:Nat}{vars:List B}{L:List (List UInt8)}
include aj Z
end
end Rb

namespace Rb
open Go
section
variable{C:Ctx}(aj:bX C)(Z:Cl (ae C) S.bg){id:Nat}{vars:List B}{L:List (List UInt8)}
include aj Z
end
end Rb

namespace Rb
open Go
section
variable{C:Ctx}(aj:bX C)(Z:Cl (ae C) S.bg){id:Nat}{vars:List B}{L:List (List UInt8)}
include aj Z
end
end Rb

namespace Rb
open Go
variable{id:Nat}{H a b H':AH}{s:RS}{lx px:J}
section
variable(vars:List B)
variable(c:Nat)
end
def gd(L:List (List UInt8))(x:aG):List (List UInt8):=if x.kind=1 then L++[x.E]else L
def lW(id:Nat)(H H':AH):Prop:=H.n≤H'.n∧∀j o,j<id→At H j o→At H' j o
theorem lW.refl(id:Nat)(H:AH):lW id H H:=⟨hT _,λ_ _ _ h=>h⟩
theorem lW.trans{a b c:AH}(h:lW id a b)(k:lW id b c):lW id a c:=⟨np h.1 k.1,λj o d e=>k.2 j o d (h.2 j o d e)⟩
theorem cu.fr(h:cu id a b):lW id a b:=⟨h.1,λj o c d=>h.2 j o (Nat.ne_of_lt c) d⟩
theorem lW.set{id j:Nat}(c:id≤j)(x:bS):lW id a (a.set j x):=⟨hT _,λi o hi b=>b.cd (by omega) x⟩
structure p6(H:AH)(id:Nat)(vars:List B)(L:List (List UInt8))(s:RS)(lx px:J):Prop where
 m:kf H id vars L s lx px
 p:cH (id+1) H 1 px s.pr.length (s.pr.map (u))
 lj:∀j c d e,lx = .row j c d e→id<j
theorem cH.Wf{sz a:Nat}{x:J}{cells:List J}(h:cH (id+1) H sz x a cells)(k:cu id H H'):cH (id+1) H' sz x a cells:=by
 obtain⟨tk,b,hc,ht⟩:=h;refine⟨tk,b,hc,?_⟩;rcases ht with ht|ht|⟨t,h1,c,d⟩
 ·exact .inl ht
 ·exact .inr (.inl ht)
 ·exact .inr (.inr ⟨t,h1,c,k.2 t _ (by omega) d⟩)
theorem p6.kp{vars:List B}{L a:List (List UInt8)}{s s':RS}(h:p6 H id vars L s lx px)(k:cu id H H')(b:kf H' id vars a s' lx px)(c:s'.pr=s.pr):p6 H' id vars a s' lx px:=⟨b,by rw[c];exact cH.Wf h.p k,h.lj⟩
theorem kf.over{vars:List B}{L a:List (List UInt8)}(h:kf H id vars L s lx px)(hs:s.stop=true):kf H id vars a s lx px:=⟨h.row,h.loc,h.ok,h.len,λe=>(by rw[hs]at e;cases e),h.fl,h.pl⟩
theorem p6.over{vars:List B}{L a:List (List UInt8)}(h:p6 H id vars L s lx px)(hs:s.stop=true):p6 H id vars a s lx px:=⟨h.m.over hs,h.p,h.lj⟩
end Rb

namespace Rb
open Go
variable{s:bc}{d:Int}
theorem gG{a:Bool}{e:Int}(h:(s.cB a e).bK=0)(b:e≠0):s.bK=0∧a=true:=by
 unfold bc.cB at h;split at h
 ·exact absurd h b
 · rename_i q;refine⟨h,?_⟩;cases a
   ·exact absurd ⟨rfl,h⟩ q
   ·rfl
theorem hV(s:bc)(a:Bool)(e:Int):(s.cB a e).aX=s.aX:=by unfold bc.cB;split<;>rfl
theorem xT{x:List UInt8}(h:s.has x=true):x∈s.aX:=by
 unfold bc.has at h;obtain⟨y,a,e⟩:=ac8.1 h;have:x=y:=by simpa using e
 rw[this];exact a
theorem Wg{e:U}(h:(dZ s d e).bK=0):s.bK=0∧hb e=true:=by unfold dZ at h;have h1:=gG h (by decide);have a:=gG h1.1 (by decide);have b:=gG a.1 (by decide);exact⟨b.1,a.2⟩
theorem Wh(s:bc)(d:Int)(e:U):(dZ s d e).aX=s.aX:=by unfold dZ;rw[hV,hV,hV]
theorem Wi{e:aG}(h:(fp s d e).bK=0):s.bK=0∧iI e=true:=by unfold fp at h;have h1:=gG h (by decide);have a:=gG h1.1 (by decide);have b:=gG a.1 (by decide);exact⟨b.1,a.2⟩
theorem Lj(s:bc)(d:Int)(e:aG):(fp s d e).aX=s.aX:=by unfold fp;rw[hV,hV,hV]
section
variable(vars:List B)
theorem Wj(s:bc)(k:Int)(x:ba):(jK vars s k x).aX=s.aX:=by unfold jK;dsimp only;rw[hV,hV]
variable(kw:List UInt8→Bool)
theorem Wk{x:aG}(h:iI x=true):1≤x.kind∧x.kind≤10∧x.bh.length≤2∧(¬(3≤x.kind∧x.kind≤7)→1≤x.bh.length)∧(x.kind=1→x.bj=[]∧x.bC=[]):=by
 unfold iI at h;simp only[aaz,dM,aaA,bq]at h;obtain⟨⟨⟨⟨⟨⟨⟨h1,d⟩,_⟩,_⟩,_⟩,a⟩,b⟩,c⟩:=h;unfold ed at a b c;refine⟨h1,d,?_,λe=>?_,λe=>?_⟩
 · repeat' split at a
   all_goals (dsimp only at a;omega)
 · repeat' split at a
   all_goals (dsimp only at a;omega)
 · rw[af (.inl e)]at b c;simp at b c;exact⟨b,c⟩
theorem Wl(L:List (List UInt8))(x:aG){n:Nat}(h:n≤L.length):(gd L x).take n=L.take n∧n≤(gd L x).length:=by
 unfold gd;split
 ·exact⟨by rw[List.take_append_of_le_length h],by rw[ad9];omega⟩
 ·exact⟨rfl,h⟩
end
end Rb

namespace Rb
open Go
variable{s:bc}{d:Int}{x:aG}
section
variable(vars:List B)
mutual
def vE(L:List (List UInt8)):U→Prop
 | .mk kind n E op aW place bu=>hb (.mk kind n E op aW place bu)=true∧hP (aH (10+kind)) aW=true∧(kind=2→E∈L)∧(kind≥4→vP L (aH (10+kind)) place)∧ik L bu
def ik(L:List (List UInt8)):List U→Prop
 |[]=>True
 |e::r=>vE L e∧ik L r
def vP(L:List (List UInt8))(k:Int):ba→Prop
 | .mk var bm=>(cS vars (.mk var bm)).1=0∧k7 k (cS vars (.mk var bm)).2=true∧mM L bm
def mM(L:List (List UInt8)):List a_→Prop
 |[]=>True
 |p::r=>vR L p∧mM L r
def vR(L:List (List UInt8)):a_→Prop
 | .mk field bD=>ik L bD
end
mutual
def vS(L:List (List UInt8)):aG→Prop
 | .mk kind V E cp aW place bh bj bC=>iI (.mk kind V E cp aW place bh bj bC)=true∧hP kind aW=true∧(kind=1→E∉L)∧(kind=2→E∈L)∧(kind=5→E∈L∧cp∈L∧E≠cp)∧(3≤kind∧kind≤6→vP vars L kind place)∧ik vars L bh∧vB L bj∧vB L bC
def vB(L:List (List UInt8)):List aG→Prop
 |[]=>True
 |x::r=>vS L x∧vB (gd L x) r
end
theorem Wm(L:List (List UInt8))(e:U):vE vars L e↔hb e=true∧hP (aH (10+e.kind)) e.aW=true∧(e.kind=2→e.E∈L)∧(e.kind≥4→vP vars L (aH (10+e.kind)) e.place)∧ik vars L e.bu:=by cases e;rw[vE]
theorem p7(L:List (List UInt8))(k:Int)(x:ba):vP vars L k x↔(cS vars x).1=0∧k7 k (cS vars x).2=true∧mM vars L x.bm:=by cases x;rw[vP]
theorem Wn(L:List (List UInt8))(p:a_):vR vars L p↔ik vars L p.bD:=by cases p;rw[vR]
theorem Wo(L:List (List UInt8))(x:aG):vS vars L x↔iI x=true∧hP x.kind x.aW=true∧(x.kind=1→x.E∉L)∧(x.kind=2→x.E∈L)∧(x.kind=5→x.E∈L∧x.cp∈L∧x.E≠x.cp)∧(3≤x.kind∧x.kind≤6→vP vars L x.kind x.place)∧ik vars L x.bh∧vB vars L x.bj∧vB vars L x.bC:=by cases x;rw[vS]
theorem Wp{k:Int}{x:ba}(h:(jK vars s k x).bK=0):(cS vars x).1=0∧k7 k (cS vars x).2=true:=by
 unfold jK at h;dsimp only at h;have h1:=gG h (by decide);refine⟨?_,?_⟩
 · by_cases a:(cS vars x).1=0
   ·exact a
   · have:=(gG h1.1 a).2;simpa using this
 · have b:=h1.2;rw[h1.1]at b;simpa using b
theorem Wq{e:U}(h:(dZ s d e).bK=0):hP (aH (10+e.kind)) e.aW=true:=by unfold dZ at h;exact(gG h (by decide)).2
theorem Wr(h:(fp s d x).bK=0):hP x.kind x.aW=true:=by unfold fp at h;exact(gG h (by decide)).2
theorem Ws{x:List UInt8}(h:(!s.has x)=true):x∉s.aX:=by
 intro a;have:s.has x=true:=by unfold bc.has;rw[ac8];exact⟨x,a,by simp⟩
 rw[this]at h;cases h
mutual
theorem Lk:∀(e:U)(s:bc)(d:Int),(k8 vars s d e).bK=0→s.bK=0∧(k8 vars s d e).aX=s.aX∧vE vars s.aX e
 | .mk kind n E op aW place bu,s,d,h=>by
  rw[k8]at h ⊢;by_cases i:(dZ s d (.mk kind n E op aW place bu)).bK≠0
  ·rw[af i]at h;exact absurd h i
  · rw [ai i]at h ⊢;have o:(dZ s d (.mk kind n E op aW place bu)).bK=0:=by simpa using i
    have hl:=Wh s d (.mk kind n E op aW place bu);obtain⟨j,z2⟩:=Wg o;have z3:=Wq o;obtain⟨e1,b,a⟩:=Cj bu _ d h;rw[b,vE];by_cases hk:kind≥4
    · rw[af hk,ai (show ¬kind=2 by omega)]at e1 b a ⊢;obtain⟨p1,p2,t⟩:=Ll place _ _ d e1;rw[p2,hl]at a ⊢;rw[hl]at t;exact⟨j,rfl,z2,z3,λq=>absurd q (by omega),λ_=>t,a⟩
    · rw [ai hk]at e1 b a ⊢;by_cases m:kind=2
      · rw[af m]at e1 b a ⊢;rw[hV,hl]at a ⊢;have:=xT (gG e1 (by decide)).2;rw[hl]at this;exact⟨j,rfl,z2,z3,λ_=>this,λq=>absurd q (by omega),a⟩
      · rw[ai m,hl]at a ⊢;exact⟨j,rfl,z2,z3,λe=>absurd e m,λq=>absurd q (by omega),a⟩
theorem Cj:∀(l:List U)(s:bc)(d:Int),(d_ vars s d l).bK=0→s.bK=0∧(d_ vars s d l).aX=s.aX∧ik vars s.aX l
 |[],s,d,h=>by rw[d_]at h ⊢;exact⟨h,rfl,trivial⟩
 | e :: r,s,d,h=>by
  rw[d_]at h ⊢;obtain⟨e1,b,a⟩:=Cj r _ d h;by_cases hs:s.bK≠0
  ·rw[af hs]at e1;exact absurd e1 hs
  · rw[ai hs]at e1 b a ⊢;obtain⟨f,c,g⟩:=Lk e s _ e1;rw[b,c];rw[c]at a;rw[ik];exact⟨f,rfl,g,a⟩
theorem Ll:∀(x:ba)(s:bc)(k d:Int),(jL vars s k d x).bK=0→s.bK=0∧(jL vars s k d x).aX=s.aX∧vP vars s.aX k x
 | .mk var bm,s,k,d,h=>by
  rw[jL]at h ⊢;by_cases hs:s.bK≠0
  ·rw[af hs]at h;exact absurd h hs
  · rw[ai hs]at h ⊢;obtain⟨e1,b,a⟩:=Lm bm _ d h;obtain⟨f1,f2⟩:=Wp vars e1;rw[Wj]at b a;rw[vP];exact⟨by simpa using hs,b,f1,f2,a⟩
theorem Lm:∀(l:List a_)(s:bc)(d:Int),(gD vars s d l).bK=0→s.bK=0∧(gD vars s d l).aX=s.aX∧mM vars s.aX l
 |[],s,d,h=>by rw[gD]at h ⊢;exact⟨h,rfl,trivial⟩
 | p::r,s,d,h=>by rw[gD]at h ⊢;obtain⟨e1,b,a⟩:=Lm r _ d h;obtain⟨f,c,g⟩:=Wt p s d e1;rw[b,c];rw[c]at a;rw[mM];exact⟨f,rfl,g,a⟩
theorem Wt:∀(p:a_)(s:bc)(d:Int),(mH vars s d p).bK=0→s.bK=0∧(mH vars s d p).aX=s.aX∧vR vars s.aX p
 | .mk field bD,s,d,h=>by rw[mH]at h ⊢;rw[vR];exact Ln bD s d h
theorem Ln:∀(l:List U)(s:bc)(d:Int),(i_ vars s d l).bK=0→s.bK=0∧(i_ vars s d l).aX=s.aX∧ik vars s.aX l
 |[],s,d,h=>by rw[i_]at h ⊢;exact⟨h,rfl,trivial⟩
 | e::r,s,d,h=>by rw[i_]at h ⊢;obtain⟨e1,b,a⟩:=Ln r _ d h;obtain⟨f,c,g⟩:=Lk e s _ e1;rw[b,c];rw[c]at a;rw[ik];exact⟨f,rfl,g,a⟩
end
variable(kw:List UInt8→Bool)
theorem Wu(h:(gb vars kw s d x).bK=0):s.bK=0∧(gb vars kw s d x).aX=s.aX∧(x.kind=1→x.E∉s.aX)∧(x.kind=2→x.E∈s.aX)∧(3≤x.kind∧x.kind≤6→vP vars s.aX x.kind x.place):=by
 unfold gb at h ⊢;by_cases h1:x.kind=1
 · rw[af h1]at h ⊢;rw[hV,hV,hV];have a:=gG h (by decide);have z2:=gG a.1 (by decide);have z3:=gG z2.1 (by decide);refine⟨z3.1,rfl,λ_=>?_,λe=>by omega,λe=>by omega⟩;have:=Ws z2.2;exact this
 · rw [ai h1]at h ⊢;by_cases b:x.kind=2
   · rw[af b]at h ⊢;rw[hV];have a:=gG h (by decide);exact⟨a.1,rfl,λe=>absurd e h1,λ_=>xT a.2,λe=>by omega⟩
   · rw [ai b]at h ⊢;by_cases c:x.kind=3∨x.kind=4∨x.kind=5∨x.kind=6
     · rw[af c]at h ⊢;obtain⟨p1,p2,f⟩:=Ll vars x.place s _ d h;exact⟨p1,p2,λe=>absurd e h1,λe=>absurd e b,λ_=>f⟩
     · rw[ai c]at h ⊢;exact⟨h,rfl,λe=>absurd e h1,λe=>absurd e b,λe=>by omega⟩
theorem Wv(h:(iJ s x).bK=0):s.bK=0∧(iJ s x).aX=gd s.aX x∧(x.kind=5→x.E∈s.aX∧x.cp∈s.aX∧x.E≠x.cp):=by
 unfold iJ at h ⊢;unfold gd;by_cases h1:x.kind=1
 · rw[af h1]at h ⊢;rw[af h1];exact⟨h,rfl,λe=>by omega⟩
 · rw [ai h1]at h ⊢;rw[ai h1];by_cases a:x.kind=5
   · rw [af a]at h ⊢;rw[hV,hV,hV];have b:=gG h (by decide);have z2:=gG b.1 (by decide);have z3:=gG z2.1 (by decide);refine⟨z3.1,rfl,λ_=>⟨xT z3.2,?_,?_⟩⟩
     ·exact xT z2.2
     · have:=b.2;simpa using this
   · rw[ai a]at h ⊢;exact⟨h,rfl,λe=>absurd e a⟩
theorem Ww(h:(fq vars kw s d x).bK=0):s.bK=0∧(fq vars kw s d x).aX=gd s.aX x∧iI x=true∧hP x.kind x.aW=true∧(x.kind=1→x.E∉s.aX)∧(x.kind=2→x.E∈s.aX)∧(x.kind=5→x.E∈s.aX∧x.cp∈s.aX∧x.E≠x.cp)∧(3≤x.kind∧x.kind≤6→vP vars s.aX x.kind x.place)∧ik vars s.aX x.bh:=by unfold fq at h ⊢;obtain⟨r1,a,b⟩:=Wv h;obtain⟨e1,c,e⟩:=Cj vars x.bh _ d r1;obtain⟨f1,f2,f0,f3,f4⟩:=Wu vars kw e1;obtain⟨f,z2⟩:=Wi f1;have z3:=Wr f1;rw[f2,Lj]at c e;rw[Lj]at f0 f3 f4;rw[c]at a b;exact⟨f,a,z2,z3,f0,f3,b,f4,e⟩
mutual
theorem Wx:∀(x:aG)(s:bc)(d:Int),(stM vars kw s d x).bK=0→s.bK=0∧(stM vars kw s d x).aX=gd s.aX x∧vS vars s.aX x
 | .mk kind V E cp aW place bh bj bC,s,d,h=>by
  rw[stM]at h ⊢;obtain⟨b1,b2,b3⟩:=xU bC _ _ _ (hT _) h;obtain⟨Y,a2,a3⟩:=xU bj _ _ _ (hT _) b1;have j:=b2.trans (show(List.take _ _)=_ from aey);obtain⟨c1,c2,c3,k,c5,m,o,p,t⟩:=Ww vars kw Y;have c:(eS vars kw (fq vars kw s d (.mk kind V E cp aW place bh bj bC)) (fq vars kw s d (.mk kind V E cp aW place bh bj bC)).aX.length (aH (d+1)) bj).aX=gd s.aX (.mk kind V E cp aW place bh bj bC):=by rw[a2,aey,c2]
  have b:vB vars (eS vars kw (fq vars kw s d (.mk kind V E cp aW place bh bj bC)) (fq vars kw s d (.mk kind V E cp aW place bh bj bC)).aX.length (aH (d+1)) bj).aX bC:=b3;rw[c]at b;rw[c2]at a3;obtain⟨g1,g2,g3,g4,g5⟩:=Wk c3;refine⟨c1,j.trans c,?_⟩;rw[vS];refine⟨c3,k,c5,m,o,p,t,?_,?_⟩
  · by_cases hk:kind=1
    · have:bj=[]:=(g5 hk).1;subst this;rw[vB];trivial
    · have e:gd s.aX (.mk kind V E cp aW place bh bj bC)=s.aX:=by unfold gd;rw[ai hk]
      rw[e]at a3;exact a3
  · by_cases hk:kind=1
    · have:bC=[]:=(g5 hk).2;subst this;rw[vB];trivial
    · have e:gd s.aX (.mk kind V E cp aW place bh bj bC)=s.aX:=by unfold gd;rw[ai hk]
      rw[e]at b;exact b
theorem xU:∀(l:List aG)(s:bc)(n:Nat)(d:Int),n≤s.aX.length→(eS vars kw s n d l).bK=0→s.bK=0∧(eS vars kw s n d l).aX=s.aX.take n∧vB vars s.aX l
 |[],s,n,d,f,h=>by rw[eS]at h ⊢;rw[vB];exact⟨h,rfl,trivial⟩
 | x :: r,s,n,d,f,h=>by
  rw[eS]at h ⊢;by_cases hs:s.bK≠0
  ·rw[af hs,BX vars kw hs]at h;exact absurd h hs
  · rw [ai hs]at h ⊢;have u:(stM vars kw (s.at x.V) d x).bK=0:=by
     by_cases q:(stM vars kw (s.at x.V) d x).bK=0
     ·exact q
     ·rw[BX vars kw q]at h;exact absurd h q
    obtain⟨w,a,v⟩:=Wx x (s.at x.V) d u;have a:(stM vars kw (s.at x.V) d x).aX=gd s.aX x:=a;obtain⟨t1,t2⟩:=Wl s.aX x f;obtain⟨r1,g,i⟩:=xU r (stM vars kw (s.at x.V) d x) n d (by rw[a];exact t2) h;rw[a]at g i;rw[vB];exact⟨by simpa using hs,g.trans t1,v,i⟩
end
theorem Wy{p:ew}(h:(ic kw p).2=0):p.vars.length≤32∧k_ kw p.vars=0∧∀t∈p.dL,vB p.vars [] t:=by
 unfold ic at h;split at h
 ·cases h
 · rename_i h1;split at h
   ·rename_i a;exact absurd h a
   · rename_i a;rw[Kt]at h;refine⟨by omega,by simpa using a,λt ht=>?_⟩;exact(xU p.vars kw t s0 0 1 (hT _) (h t ht)).2.2
end
end Rb

namespace Rb
open Go
structure RS.A(d:Int)(rest:List (Int×Int))(s1 s2:RS):Prop where
 eq:s2={s1 with fuel:=s1.fuel+d,c9:=s1.c9++rest}
 d0:0≤d
 fu:s1.stop=false→0≤s1.fuel∧s1.fuel+d≤1000000
 em:s1.empty=true→s1.stop=true
structure RS.D(d:Int)(rest:List (Int×Int))(s1 s2:RS):Prop where
 st:s1.stop=true
 pr:s1.pr <+: s2.pr
 em:s1.empty=true→0<d
 an:s1.empty=false→rest≠[]
theorem RS.D.right{d:Int}{rest:List (Int×Int)}{a b c:RS}(h:RS.D d rest a b)(e:b.pr <+: c.pr):RS.D d rest a c:=⟨h.st,h.pr.trans e,h.em,h.an⟩
theorem RS.A.stop{d:Int}{rest:List (Int×Int)}{a b:RS}(h:RS.A d rest a b):b.stop=a.stop:=by rw[h.eq]
theorem RS.A.cI{d:Int}{rest:List (Int×Int)}{a b:RS}(h:RS.A d rest a b):b.cI=a.cI:=by rw[h.eq]
section
variable{d:Int}{rest:List (Int×Int)}
variable(vars:List B)
end
end Rb

namespace Rb
open Go
section
variable{d:Int}{rest:List (Int×Int)}
theorem RS.D.step{a b c t2:RS}(h:RS.D d rest a b)(k1:Ks a c)(k2:Ks b t2):RS.D d rest c t2:=by rw[k1.st h.st];exact h.right k2.pr
variable(vars:List B)
variable(c:Nat)
end
end Rb

namespace Rb
open Go
structure bT where
 what:Int
 n:Int
 k:Int
 j:Int
 x:ba
 kind:Int
 aW:Int
 site:Int
 V:Int
def Lo:ba:=⟨[],[]⟩
def jc(ln a n k:Int):bT:=⟨a,n,k,0,Lo,0,0,0,ln⟩
def kg(o:Int)(L:List (List UInt8×Nat))(x:List UInt8):Int:=L.foldl (λo p=>if p.1=x then(p.2:Int)else o) o
def Wz(L:List (List UInt8×Nat))(ln kind n:Int)(E:List UInt8)(op aW:Int)(place:ba)(a:Int):bT:=
 if kind=1 then jc ln 2 n 0 else if kind=2 then jc ln 3 0 (kg (-1) L E)else if kind=3 then jc ln 5 0 op
 else⟨7,0,0,0,place,kind,aW,a,ln⟩
section
variable(vars:List B)(L:List (List UInt8×Nat))(ln:Int)
mutual
def Ck:U→Int→List bT
 | .mk kind n E op aW place bu,a=>jc ln 1 0 0::(xV place a++Cm bu (aH (a+jM place))++[Wz L ln kind n E op aW place (aH (aH (aH (a+jM place)+kd bu 0)+1))])
def Cm:List U→Int→List bT
 |[],a=>[]
 |e::r,a=>Ck e a++Cm r (aH (a+B9 e 0))
def xV:ba→Int→List bT
 | .mk var bm,a=>Cn (.mk var bm) bm 0 a
def Cn(x:ba):List a_→Nat→Int→List bT
 |[],k,a=>[]
 | p::r,k,a=>match WA p a with
  |none=>Cn x r (k+1) a
  |some l=>l++(jc ln 6 (KP (VT vars ⟨x.var,x.bm.take k⟩)) 0::Cn x r (k+1) (aH (a+KS p 0)))
def WA:a_→Int→Option (List bT)
 | .mk field bD,a=>WB bD a
def WB:List U→Int→Option (List bT)
 |[],_=>none
 |e::_,a=>some (Ck e a)
end
end
mutual
def rX:U→Nat
 | .mk kind n E op aW place bu=>1+mN place+lg bu
def lg:List U→Nat
 |[]=>0
 |e::r=>rX e+lg r
def mN:ba→Nat
 | .mk var bm=>mO bm
def mO:List a_→Nat
 |[]=>0
 |p::r=>rY p+mO r
def rY:a_→Nat
 | .mk field bD=>1+lg bD
end
structure Lp where
 want:lU
 fin:Int
 pr:List Int
 empty:Bool
def Mx:Nat:=1000000000
def lX(vars:List B)(x:ba):Prop:=(cS vars x).1=0∧((cS vars x).2.kind=1∨(cS vars x).2.kind=2)
structure Co(vars:List B)(A:List bT)(c9:List (Int×Int))(P:Nat→List Int→List Int→Nat→Int→List Int→Prop)(R:Lp→Prop):Prop where
 aac:∀{pc:Nat}{st D:List Int}{u:Nat}{f:Int}{pr:List Int}{a:bT},A[pc]?=some a→a.what=1→f<1→R ⟨rV,0,[],true⟩→P pc st D u f pr
 aad:∀{pc:Nat}{st D:List Int}{u:Nat}{f:Int}{pr:List Int}{a:bT},A[pc]?=some a→a.what=1→¬f<1→P (pc+1) st D u (aH (f-1)) pr→P pc st D u f pr
 push:∀{pc:Nat}{st D:List Int}{u:Nat}{f:Int}{pr:List Int}{a:bT},A[pc]?=some a→a.what=2→st.length≤Mx→P (pc+1) (st++[a.n]) D u f pr→P pc st D u f pr
 loc:∀{pc:Nat}{st D:List Int}{u:Nat}{f:Int}{pr:List Int}{a:bT}{k:Nat}{v:Int},A[pc]?=some a→a.what=3→a.k=(k:Int)→D[k]?=some v→st.length≤Mx→P (pc+1) (st++[v]) D u f pr→P pc st D u f pr
 aO:∀{pc:Nat}{st D:List Int}{u:Nat}{f:Int}{pr:List Int}{a:bT}{k:Nat}{v:Int},A[pc]?=some a→a.what=4→a.k=(k:Int)→k<D.length→P (pc+1) st (D.set k v) u f pr→P pc (st++[v]) D u f pr
 bin:∀{pc:Nat}{st D:List Int}{u:Nat}{f:Int}{pr:List Int}{a:bT}{x:Int}{y:Int},A[pc]?=some a→a.what=5→1≤a.k→a.k≤11→P (pc+1) (st++[VS a.k x y]) D u f pr→P pc (st++[x,y]) D u f pr
 aae:∀{pc:Nat}{st D:List Int}{u:Nat}{f:Int}{pr:List Int}{a:bT}{v:Int},A[pc]?=some a→a.what=6→v≥a.n→R ⟨rV,2,pr,false⟩→P pc (st++[v]) D u f pr
 aaf:∀{pc:Nat}{st D:List Int}{u:Nat}{f:Int}{pr:List Int}{a:bT}{v:Int},A[pc]?=some a→a.what=6→¬v≥a.n→P (pc+1) (st++[v]) D u f pr→P pc (st++[v]) D u f pr
 jump:∀{pc:Nat}{st D:List Int}{u:Nat}{f:Int}{pr:List Int}{a:bT}{k:Nat},A[pc]?=some a→a.what=11→a.k=(k:Int)→k≤A.length→P k st D u f pr→P pc st D u f pr
 aag:∀{pc:Nat}{st D:List Int}{u:Nat}{f:Int}{pr:List Int}{a:bT}{k:Nat},A[pc]?=some a→a.what=12→a.k=(k:Int)→k≤A.length→P k st D u f pr→P pc (st++[0]) D u f pr
 aah:∀{pc:Nat}{st D:List Int}{u:Nat}{f:Int}{pr:List Int}{a:bT}{v:Int},A[pc]?=some a→a.what=12→v≠0→P (pc+1) st D u f pr→P pc (st++[v]) D u f pr
 print:∀{pc:Nat}{st D:List Int}{u:Nat}{f:Int}{pr:List Int}{a:bT}{v:Int},A[pc]?=some a→a.what=13→pr.length≤Mx→P (pc+1) st D u f (pr++[v])→P pc (st++[v]) D u f pr
 aai:∀{pc:Nat}{st D:List Int}{u:Nat}{f:Int}{pr:List Int}{a:bT},A[pc]?=some a→a.what=10→u=c9.length→R ⟨⟨4,a.site,a.V,ig,a.aW,0,0,0⟩,0,pr,false⟩→P pc st D u f pr
 aaj:∀{pc:Nat}{st D:List Int}{u:Nat}{f:Int}{pr:List Int}{a:bT}{g:Int×Int},A[pc]?=some a→a.what=10→c9[u]?=some g→P (pc+1) st D (u+1) f pr→P pc st D u f pr
 aak:∀{pc:Nat}{st D:List Int}{u:Nat}{f:Int}{pr:List Int}{a:bT}{idx:List Int}{vs:List Int},A[pc]?=some a→a.what=7→4≤a.kind→a.kind≤8→lX vars a.x→(idx.length:Int)=ke a.x.bm 0→(vs.length:Int)=(hQ a.kind).1→u=c9.length →
  R ⟨⟨if a.kind≥6 then 3 else 1,a.site,a.V,ih vars a.x idx,a.aW,if a.kind≥6 then a.kind else 0,vs.getD 0 0,vs.getD 1 0⟩,0,pr,false⟩→P pc (st++idx++vs) D u f pr
 aal:∀{pc:Nat}{st D:List Int}{u:Nat}{f:Int}{pr:List Int}{a:bT}{idx:List Int}{vs:List Int}{g:Int×Int},A[pc]?=some a→a.what=7→4≤a.kind→a.kind≤8→lX vars a.x→(idx.length:Int)=ke a.x.bm 0→(vs.length:Int)=(hQ a.kind).1→c9[u]?=some g→st.length≤Mx →
  P (pc+1) (st++[if(ih vars a.x idx).bits=true then VP g.1 (ih vars a.x idx).bit (ih vars a.x idx).be else g.1]) D (u+1) f pr→P pc (st++idx++vs) D u f pr
 aam:∀{pc:Nat}{st D:List Int}{u:Nat}{f:Int}{pr:List Int}{a:bT}{idx:List Int}{vs:List Int},A[pc]?=some a→a.what=8→lX vars a.x→(idx.length:Int)=ke a.x.bm 0→vs.length=(if a.kind=6 then 2 else 1)→(ih vars a.x idx).bits=false→u=c9.length →
  R ⟨⟨2,a.site,a.V,ih vars a.x idx,a.aW,0,KY (ih vars a.x idx) 0 (vs.getD 0 0),vs.getD 1 0⟩,0,pr,false⟩→P pc (st++idx++vs) D u f pr
 aan:∀{pc:Nat}{st D:List Int}{u:Nat}{f:Int}{pr:List Int}{a:bT}{idx:List Int}{vs:List Int}{g:Int×Int},A[pc]?=some a→a.what=8→lX vars a.x→(idx.length:Int)=ke a.x.bm 0→vs.length=(if a.kind=6 then 2 else 1)→(ih vars a.x idx).bits=false→c9[u]?=some g →
  P (pc+1) st D (u+1) f pr→P pc (st++idx++vs) D u f pr
 aao:∀{pc:Nat}{st D:List Int}{u:Nat}{f:Int}{pr:List Int}{a:bT}{idx:List Int}{vs:List Int},A[pc]?=some a→a.what=8→lX vars a.x→(idx.length:Int)=ke a.x.bm 0→vs.length=(if a.kind=6 then 2 else 1)→(ih vars a.x idx).bits=true→u=c9.length →
  R ⟨⟨1,a.site,a.V,ih vars a.x idx,a.aW,0,0,0⟩,0,pr,false⟩→P pc (st++idx++vs) D u f pr
 aap:∀{pc:Nat}{st D:List Int}{u:Nat}{f:Int}{pr:List Int}{a:bT}{idx:List Int}{vs:List Int}{g:Int×Int},A[pc]?=some a→a.what=8→lX vars a.x→(idx.length:Int)=ke a.x.bm 0→vs.length=(if a.kind=6 then 2 else 1)→(ih vars a.x idx).bits=true→c9[u]?=some g→u+1=c9.length →
  R ⟨⟨2,a.site,a.V,ih vars a.x idx,a.aW,0,KY (ih vars a.x idx) g.1 (vs.getD 0 0),vs.getD 1 0⟩,0,pr,false⟩→P pc (st++idx++vs) D u f pr
 aaq:∀{pc:Nat}{st D:List Int}{u:Nat}{f:Int}{pr:List Int}{a:bT}{idx:List Int}{vs:List Int}{g:Int×Int}{g':Int×Int},A[pc]?=some a→a.what=8→lX vars a.x→(idx.length:Int)=ke a.x.bm 0→vs.length=(if a.kind=6 then 2 else 1)→(ih vars a.x idx).bits=true→c9[u]?=some g→c9[u+1]?=some g' →
  P (pc+1) st D (u+2) f pr→P pc (st++idx++vs) D u f pr
 xA:∀{pc:Nat}{st D:List Int}{u:Nat}{f:Int}{pr:List Int}{a:bT}{idx:List Int},A[pc]?=some a→a.what=9→lX vars a.x→(idx.length:Int)=ke a.x.bm 0→u=c9.length →
  R ⟨⟨1,a.site,a.V,ih vars a.x idx,a.aW,0,0,0⟩,0,pr,false⟩→P pc (st++idx) D u f pr
 BM:∀{pc:Nat}{st D:List Int}{u:Nat}{f:Int}{pr:List Int}{a:bT}{idx:List Int}{g:Int×Int}{k j:Nat},A[pc]?=some a→a.what=9→lX vars a.x→(idx.length:Int)=ke a.x.bm 0→a.k=(k:Int)→a.j=(j:Int)→k<D.length→j<D.length→c9[u]?=some g →
  P (pc+1) st ((D.set k g.1).set j g.2) (u+1) f pr→P pc (st++idx) D u f pr
 fin:∀{pc:Nat}{st D:List Int}{u:Nat}{f:Int}{pr:List Int},pc=A.length→R ⟨rV,1,pr,false⟩→P pc st D u f pr
def lY(A:List bT)(pc:Nat)(l:List bT):Prop:=∀i x,l[i]?=some x→A[pc+i]?=some x
theorem lY.cons{A:List bT}{pc:Nat}{x:bT}{l:List bT}(h:lY A pc (x::l)):A[pc]?=some x∧lY A (pc+1) l:=⟨h 0 x rfl,λi y a=>by have:=h (i+1) y (by simpa using a);rw[show pc+1+i=pc+(i+1) by omega];exact this⟩
theorem lY.app{A:List bT}{pc:Nat}{l m:List bT}(h:lY A pc (l++m)):lY A pc l∧lY A (pc+l.length) m:=by
 refine⟨λi y a=>h i y ?_,λi y a=>?_⟩
 ·rw[ab8 (aat.1 a).1];exact a
 · have:=h (l.length+i) y (by rw[ab9 (by omega),Nat.add_sub_cancel_left];exact a);rw[Nat.add_assoc];exact this
structure St(c9:List (Int×Int))(s:RS)(u:Nat):Prop where
 go:s.stop=false
 em:s.empty=false
 wz:s.want=rV
 fz:s.fin=0
 an:s.c9=c9.drop u
 le:u≤c9.length
structure LR(L:List (List UInt8×Nat))(cI:List (List UInt8×Int))(D:List Int):Prop where
 nm:cI.map (·.1)=L.map (·.1)
 vl:∀(i:Nat)(p:List UInt8×Nat)(l:List UInt8×Int),L[i]?=some p→cI[i]?=some l→D[p.2]?=some l.2
 nd:(L.map (·.1)).Nodup
theorem Lq{o:Int}{x:List UInt8}:∀{L:List (List UInt8×Nat)},x∉L.map (·.1)→kg o L x=o
 |[],_=>rfl
 | p::r,h=>by simp only[abT,acU,not_or]at h;unfold kg;rw[aa4,ai (λe=>h.1 e.symm)];exact Lq h.2
theorem Lr:∀{L:List (List UInt8×Nat)}{o:Int}{i:Nat}{p:List UInt8×Nat},(L.map (·.1)).Nodup→L[i]?=some p→kg o L p.1=p.2
 | q::r,o,0,p,a,h=>by simp at h;subst h;simp only[abT,afe]at a;unfold kg;rw[aa4,af rfl];exact Lq a.1
 | q::r,o,i+1,p,a,h=>by simp only[abT,afe]at a;unfold kg;rw[aa4];exact Lr (i:=i) a.2 (by simpa using h)
theorem LR.get{L:List (List UInt8×Nat)}{s:RS}{D:List Int}(h:LR L s.cI D){x:List UInt8}(c:x∈L.map (·.1)):∃k i,kg (-1) L x=(k:Nat)∧D[k]?=some (s.get x)∧L[i]?=some (x,k)∧s.cI.findIdx? (λl=>l.1==x)=some i:=by
 rw[←h.nm]at c;obtain⟨i,hi⟩:=Wb c;obtain⟨l,h1,e,f,_⟩:=Ld hi;have a:(L.map (·.1))[i]?=some x:=by rw[←h.nm,abl,h1,←e];rfl
 rw[abl]at a;cases b:L[i]? with
 |none=>rw[b]at a;cases a
 | some p=>
  rw[b]at a;have d:p.1=x:=by simpa using a
  refine⟨p.2,i,?_,?_,?_,hi⟩
  ·rw[←d];exact Lr h.nd b
  ·rw[f];exact h.vl i p l b h1
  ·rw[←d];exact b
end Rb

namespace Rb
open Go
theorem St.next{c9:List (Int×Int)}{s:RS}{u:Nat}(h:St c9 s u):u=c9.length∨∃g,c9[u]?=some g:=by
 by_cases e:u=c9.length
 ·exact .inl e
 · right;have:=h.le;exact ⟨c9[u]'(by omega), abm _⟩
structure Cp where
 vars:List B
 A:List bT
 c9:List (Int×Int)
 P:Nat→List Int→List Int→Nat→Int→List Int→Prop
 R:Lp→Prop
section
variable{E:Cp}(S:Co E.vars E.A E.c9 E.P E.R){L:List (List UInt8×Nat)}{D:List Int}{ln:Int}
include S
end
end Rb

namespace Rb
open Go
theorem xW(vars:List B)(L:List (List UInt8)):∀{l:List U},ik vars L l↔∀e∈l,vE vars L e
 |[]=>by simp[ik]
 |e::r=>by simp[ik,xW vars L (l:=r)]
theorem Lt(vars:List B)(L:List (List UInt8)):∀{l:List a_},mM vars L l↔∀p∈l,∀e∈p.bD,vE vars L e
 |[]=>by simp[mM]
 |p::r=>by simp[mM,Wn,xW,Lt vars L (l:=r)]
theorem p8{e:U}(h:hb e=true):1≤e.kind∧e.kind≤8∧(e.kind≤3→e.place.bm=[])∧(e.bu.length:Int)=(hQ e.kind).1∧(e.kind=3→1≤e.op∧e.op≤11):=by
 unfold hb at h;simp only[aaz,dM]at h;obtain⟨⟨⟨⟨⟨⟨h1,d⟩,_⟩,_⟩,b⟩,a⟩,f⟩:=h;refine⟨h1,d,λc=>?_,by simpa using f,λc=>by rw[af c]at b;simpa using b⟩;have hk:(hQ e.kind).2=false:=by
  unfold hQ;by_cases e1:e.kind=3
  ·rw[af e1]
  ·rw[ai e1,bO,bO,bO]
 rw[hk,acP]at a;unfold ka at a;simp only[aaz,bq]at a;exact abS.1 a.2
section
variable{E:Cp}(S:Co E.vars E.A E.c9 E.P E.R){L:List (List UInt8×Nat)}{D:List Int}{ln:Int}
include S
end
end Rb

namespace Rb
open Go
variable{D:List Int}{x:List UInt8}
mutual
def Cq:aG→Nat
 | .mk kind V E cp aW place bh bj bC=>(if kind=1 then 1 else 0)+(rZ bj+rZ bC)
def rZ:List aG→Nat
 |[]=>0
 |x::r=>Cq x+rZ r
end
mutual
def r2:aG→Nat
 | .mk kind V E cp aW place bh bj bC=>8+(mN place+lg bh)+(lh bj+lh bC)
def lh:List aG→Nat
 |[]=>0
 |x::r=>r2 x+lh r
end
mutual
def Lu:aG→Int
 | .mk kind V E cp aW place bh bj bC=>p9 bC (p9 bj V)
def p9:List aG→Int→Int
 |[],l=>l
 |x::r,l=>p9 r (Lu x)
end
def r3(vars:List B)(L:List (List UInt8×Nat))(ln:Int)(place:ba)(bh:List U)(a:Int):List bT:=jc ln 1 0 0::(xV vars L ln place a++Cm vars L ln bh (aH (a+jM place)))
def WC(L:List (List UInt8×Nat))(n:Nat)(kind ln:Int)(E cp:List UInt8)(aW:Int)(place:ba)(a:Int):bT:=
 if kind=1 then jc ln 4 0 n else if kind=2 then jc ln 4 0 (kg (-1) L E)
 else if kind=3∨kind=4∨kind=6 then⟨8,0,0,0,place,kind,aW,a,ln⟩
 else if kind=5 then⟨9,0,kg (-1) L E,kg (-1) L cp,place,0,aW,a,ln⟩
 else if kind=7 then⟨10,0,0,0,Lo,0,aW,a,ln⟩
 else jc ln 13 0 0
def WD(ln l2:Int)(p:Nat)(T:List bT)(F:Nat→List bT):List bT:=jc ln 12 0 ((p+1+T.length+1:Nat):Int)::(T++(jc l2 11 0 ((p+1+T.length+1+(F (p+1+T.length+1)).length:Nat):Int)::F (p+1+T.length+1)))
def WE(ln l2:Int)(p a:Nat)(T:List bT):List bT:=jc ln 12 0 ((p+1+T.length+1:Nat):Int)::(T++[jc l2 11 0 (a:Int)])
def Lv(L:List (List UInt8×Nat))(n:Nat)(x:aG):List (List UInt8×Nat):=if x.kind=1 then L++[(x.E,n)]else L
section
variable(vars:List B)
mutual
def Cr:aG→Nat→Nat→List (List UInt8×Nat)→Int→List bT
 | .mk kind V E cp aW place bh bj bC,base,n,L,a=>
  r3 vars L V place bh a ++
  (if kind=8 then WD V (p9 bj V) (base+(r3 vars L V place bh a).length) (r5 bj (base+(r3 vars L V place bh a).length+1) n L (aH (aH (a+jM place)+kd bh 0)))
      (λb=>r5 bC b (n+rZ bj) L (aH (aH (aH (a+jM place)+kd bh 0)+oa bj 0)))
    else if kind=9 then WE V (p9 bj V) (base+(r3 vars L V place bh a).length) (base+1+(xV vars L V place a).length) (r5 bj (base+(r3 vars L V place bh a).length+1) n L (aH (aH (a+jM place)+kd bh 0)))
    else [WC L n kind V E cp aW place (aH (aH (aH (a+jM place)+kd bh 0)+1))])
def r5:List aG→Nat→Nat→List (List UInt8×Nat)→Int→List bT
 |[],base,n,L,a=>[]
 |x::r,base,n,L,a=>Cr x base n L a++r5 r (base+(Cr x base n L a).length) (n+Cq x) (Lv L n x) (aH (a+B_ x 0))
end
end
theorem WG{x:aG}(h:iI x=true):1≤x.kind∧x.kind≤10∧(¬(3≤x.kind∧x.kind≤6)→x.place.bm=[])∧(x.bh.length:Int)=(ed x.kind).2.2.2.1∧(x.kind≠8→x.bC=[])∧(x.kind≠8→x.kind≠9→x.bj=[]):=by
 unfold iI at h;simp only[aaz,dM,aaA,bq]at h;obtain⟨⟨⟨⟨⟨⟨⟨h1,d⟩,_⟩,_⟩,a⟩,f⟩,b⟩,c⟩:=h;refine⟨h1,d,λe=>?_,f,λe=>?_,λe g=>?_⟩
 · have:(ed x.kind).2.2.1=false:=by
     unfold ed
     repeat' split
     all_goals first|rfl|(exfalso;omega)
   rw[this]at a;rcases a with a|a
   ·cases a
   · unfold ka at a;simp only[aaz,bq]at a;exact abS.1 a.2
 · have:(ed x.kind).2.2.2.2.2=false:=by
     unfold ed
     repeat' split
     all_goals first|rfl|(exfalso;omega)
   rw[this]at c;rcases c with c|c
   ·cases c
   ·exact abS.1 c
 · have:(ed x.kind).2.2.2.2.1=false:=by
     unfold ed
     repeat' split
     all_goals first|rfl|(exfalso;omega)
   rw[this]at b;rcases b with b|b
   ·cases b
   ·exact abS.1 b
theorem LR.take{L:List (List UInt8×Nat)}{cI:List (List UInt8×Int)}(h:LR L cI D)(n:Nat):LR (L.take n) (cI.take n) D:=by
 refine⟨by rw[ae6,ae6,h.nm],λi p l a hl=>?_,?_⟩
 · rw [aav]at a hl;by_cases hi:i<n
   · rw[af hi]at a hl;exact h.vl i p l a hl
   ·rw[ai hi]at a;cases a
 · rw[ae6];exact aff (List.take_sublist _ _) h.nd
theorem LR.app{L:List (List UInt8×Nat)}{cI:List (List UInt8×Int)}(h:LR L cI D){n:Nat}(f:∀p∈L,p.2<n)(g:n<D.length)(j:x∉L.map (·.1))(v:Int):LR (L++[(x,n)]) (cI++[(x,v)]) (D.set n v):=by
 have hlen:cI.length=L.length:=by have:=congrArg afg h.nm;simpa using this
 refine⟨by rw[ae8,ae8,h.nm];rfl,λi p l c hl=>?_,?_⟩
 · by_cases hi:i<L.length
   · rw[ab8 hi]at c;rw[ab8 (by omega)]at hl;have o:=f p (adl c);rw[aaV,bO];exact h.vl i p l c hl
   · have k:i=L.length:=by
       have:=(aat.1 c).1;simp at this;omega
     subst k;rw[ab9 (hT _),afc]at c;rw[ab9 (by omega),←hlen,afc]at hl;simp at c hl;subst c hl;rw[aaV,af rfl,af g]
 · rw[ae8,List.nodup_append];refine⟨h.nd,by simp,λa m b d e=>?_⟩;simp at d;subst d;exact j (e▸m)
theorem LR.put{L:List (List UInt8×Nat)}{s:RS}(h:LR L s.cI D)(hi:(L.map (·.2)).Nodup)(d:x∈L.map (·.1))(f:∀p∈L,p.2<D.length)(v:Int):∃k:Nat,kg (-1) L x=k∧k<D.length∧LR L (s.put x v).cI (D.set k v):=by
 obtain⟨k,i,h1,r,c,g⟩:=h.get d;have hk:k<D.length:=f (x,k) (adl c);obtain⟨l,g1,g2,g3,g4⟩:=Ld g;refine⟨k,h1,hk,?_⟩;rw[g4 v];show LR L (s.cI.set i (l.1,v)) (D.set k v);have hlen:s.cI.length=L.length:=by have:=congrArg afg h.nm;simpa using this
 refine⟨?_,λj p q b a=>?_,h.nd⟩
 · rw [List.map_set,←h.nm];apply afb;intro j;rw[aaV];by_cases e:i=j
   · subst e;have:i<s.cI.length:=(aat.1 g1).1;rw[af rfl,af (by simpa using this),abl,g1];rfl
   ·rw[ai e]
 · rw [aaV]at a;by_cases e:i=j
   · subst e;rw[af rfl]at a;split at a
     · cases a;rw[c]at b;cases b;rw[aaV,af rfl,af hk]
     ·cases a
   · rw [ai e]at a;have m:k≠p.2:=by
      intro n;have p1:(L.map (·.2))[i]?=some k:=by rw[abl,c];rfl
      have p2:(L.map (·.2))[j]?=some k:=by rw[abl,b,n];rfl
      have i1:=(aat.1 p1)
      have i2:=(aat.1 p2)
      obtain⟨l1,e1⟩:=i1;obtain⟨l2,o⟩:=i2;exact e ((List.getElem_inj hi).1 (e1.trans o.symm))
     rw[aaV,ai m];exact h.vl j p q b a
end Rb

namespace Rb
open Go
section
variable{C:Ctx}(aj:bX C)(Z:Cl (ae C) S.bg){id:Nat}{vars:List B}{L:List (List UInt8)}
include aj Z
end
end Rb

namespace Rb
open Go
theorem WH{j n m:Nat}(h:n≤m):c6 2 (.row j 0 m 2) none (some (I n)) none=some (.row j 0 n 2):=by simp only[c6,dV];rw[cA];simp only[abG];rw[af ⟨aa2 _,h,trivial⟩,af (.inl trivial)];simp
theorem jN.take{H:AH}{id:Nat}{L:List (List UInt8×Int)}{x:J}(h:jN H id L x){n:Nat}(b:n≤L.length):∃a,c6 2 x none (some (I n)) none=some a∧jN H id (L.take n) a∧a.known=true∧a.cells=[a]∧a.scalar=true∧∀j c d e,a = .row j c d e→∃c' f g,x = .row j c' f g:=by
 rcases h with⟨rfl,rfl⟩|⟨j,cs,m,rfl,i,k,l,p,o⟩
 · have:n=0:=by simpa using b
   subst this;exact⟨aA,rfl,.inl ⟨rfl,rfl⟩,rfl,rfl,rfl,λj c d e h=>by cases h⟩
 · have hl:(L.take n).length=n:=by rw[aen];omega
   refine⟨.row j 0 n 2,WH b,.inr ⟨j,cs,m,by rw[hl],i,k,l,by omega,?_⟩,rfl,rfl,rfl,λq c d e h=>?_⟩
   ·rw[hl,←Lf (cells:=rW) (sz:=2) (λ_=>rfl),←o,ae7,aez (by omega)]
   · simp only[J.row.injEq]at h;exact⟨0,L.length,2,by rw[h.1]⟩
section
variable{C:Ctx}(aj:bX C)(Z:Cl (ae C) S.bg){id:Nat}{vars:List B}{c:Nat}
include aj Z
end
end Rb

namespace Rb
open Go
section
variable{C:Ctx}(aj:bX C)(Z:Cl (ae C) S.bg){id:Nat}{vars:List B}{L:List (List UInt8)}{c:Nat}
include aj Z
end
end Rb

namespace Rb
open Go
theorem lY.le{A:List bT}{pc:Nat}{l:List bT}(h:lY A pc l)(hl:l≠[]):pc+l.length≤A.length:=by have a:0<l.length:=List.length_pos_iff.2 hl;have:=h (l.length-1) l[l.length-1] (abm _);have:=(aat.1 this).1;omega
theorem St.put{c9:List (Int×Int)}{s:RS}{u:Nat}(h:St c9 s u)(x:List UInt8)(v:Int):St c9 (s.put x v) u:=by obtain⟨e1,f,a,b,g,c,d,e⟩:=VW s x v;exact⟨by rw[a];exact h.go,by rw[e];exact h.em,by rw[d];exact h.wz,by rw[c];exact h.fz,by rw[b];exact h.an,h.le⟩
section
variable{E:Cp}(S:Co E.vars E.A E.c9 E.P E.R){c:Nat}
include S
end
end Rb

namespace Rb
open Go
section
variable{C:Ctx}(aj:bX C)(Z:Cl (ae C) S.bg)
include aj Z
end
end Rb

namespace Rb
open Go
variable{H H':AH}{n sz k:Nat}{x:J}{cells:List J}
def cn:J→Option Nat
 | .row j _ _ _=>some j
 |_=>none
def cO(H:AH)(sz:Nat)(x:J)(n:Nat)(cells:List J):Prop:=cells.length=n*sz∧((∃tk,(tk = .nil∨tk = .full)∧n=0∧x = .ax tk 0 [])∨∃j cs m,x = .row j 0 n sz∧At H j (.row cs)∧cs.length=m*sz∧n≤m∧cs.take (n*sz)=cells)
theorem cO.nil(H:AH)(sz:Nat):cO H sz aA 0 []:=⟨by simp,.inl ⟨.nil,.inl rfl,rfl,rfl⟩⟩
theorem cO.full(H:AH)(sz:Nat):cO H sz (.ax .full 0 []) 0 []:=⟨by simp,.inl ⟨.full,.inr rfl,rfl,rfl⟩⟩
theorem cO.aO(h:cO H sz x n cells)(k:∀j cs,cn x=some j→At H j (.row cs)→At H' j (.row cs)):cO H' sz x n cells:=by
 refine⟨h.1,?_⟩;rcases h.2 with h|⟨j,cs,m,rfl,a,b⟩
 ·exact .inl h
 ·exact .inr ⟨j,cs,m,rfl,k j cs rfl a,b⟩
theorem cO.ext(h:cO H sz x n cells)(k:AH.Ext H H'):cO H' sz x n cells:=h.aO λj cs _ h=>h.ext k
theorem cO.set{sz n i:Nat}(h:cO H sz x n cells)(hi:cn x≠some i)(o:bS):cO (H.set i o) sz x n cells:=h.aO λj cs a h=>h.cd (λe=>hi (by rw[←e];exact a)) o
theorem cO.lt{sz n j:Nat}(h:cO H sz x n cells)(a:cn x=some j):j<H.n:=by
 rcases h.2 with⟨tk,_,_,rfl⟩|⟨c,cs,m,rfl,b,d⟩
 ·cases a
 ·cases a;exact b.1
theorem cO.len(h:cO H sz x n cells):aY false x=some (I n):=by
 rcases h.2 with⟨tk,_,rfl,rfl⟩|⟨a,cs,m,rfl,b,c⟩
 ·rfl
 ·rfl
theorem cO.known(h:cO H sz x n cells):x.known=true∧x.cells=[x]∧x.scalar=true:=by
 rcases h.2 with⟨tk,_,rfl,rfl⟩|⟨a,cs,m,rfl,b,c⟩
 ·exact⟨rfl,rfl,rfl⟩
 ·exact⟨rfl,rfl,rfl⟩
theorem cO.addr(h:cO H sz x n cells)(e:k<n):∃j cs,cn x=some j∧At H j (.row cs)∧aL none sz x (I k)=some (.ptr j (k*sz))∧cs.take (n*sz)=cells∧n*sz≤cs.length:=by
 rcases h.2 with⟨tk,_,rfl,rfl⟩|⟨j,cs,m,rfl,a,b,c,d⟩
 ·omega
 · refine⟨j,cs,rfl,a,?_,d,by rw[b];exact abK _ c⟩;show(if 0≤(k:Int)∧(k:Int)<(n:Nat)then some (J.ptr j (0+(k:Int).toNat*sz))else none)=_;rw[af ⟨by omega,by omega⟩,abG,abg]
theorem cO.get(h:cO H 1 x n cells){v:J}(hv:cells[k]?=some v):∃p,aL none 1 x (I k)=some p∧∀H',AH.Ext H H'→W H' 1 false p=some v:=by
 have hk:k<n:=by have:=(aat.1 hv).1;rw[h.1]at this;omega
 obtain⟨j,cs,h1,a,b,c,d⟩:=h.addr hk;refine⟨_,b,λH' E=>?_⟩;rw[(a.ext E).load];unfold bE;rw[←c,aav,cA]at hv;rw[cA,dC,ae5];exact hv
theorem cO.cut(h:cO H sz x n cells)(hk:k≤n):∃a,c6 sz x none (some (I k)) none=some a∧cO H sz a k (cells.take (k*sz))∧cn a=cn x:=by
 rcases h.2 with⟨tk,ht,rfl,rfl⟩|⟨j,cs,m,rfl,b,c,e,d⟩
 · have:k=0:=by omega
   subst this;refine⟨.ax tk 0 [],by simp[c6,dV],⟨by simp,.inl ⟨tk,ht,rfl,rfl⟩⟩,rfl⟩
 · refine ⟨.row j 0 k sz,?_,⟨?_,.inr ⟨j,cs,m,rfl,b,c,by omega,?_⟩⟩,rfl⟩
   · simp only[c6,dV];rw[cA];simp only[abG,aex];rw[af ⟨aa2 _,hk,trivial⟩,sU];simp
   · rw[aen,h.1];exact aez (abK _ hk)
   ·rw[←d,ae7,aez (abK _ hk)]
theorem cO.bG{l:List Int}(h:cO H 1 x n (l.map (u))){a b:Nat}(c:a≤b)(d:b≤n):∃y,c6 1 x (some (I a)) (some (I b)) none=some y∧We H y ((l.take b).drop a):=by
 rcases h.2 with⟨tk,ht,rfl,rfl⟩|⟨j,cs,m,rfl,f,i,o,g⟩
 · have:a=0:=by omega
   have:b=0:=by omega
   subst_vars
   refine⟨.ax tk 0 [],by simp[c6,dV],λH' _ k v hv=>by simp at hv⟩
 · by_cases hc:a=0∨a<b
   · refine ⟨.row j (0+a*1) (b-a) 1,?_,λH' E k v hv=>?_⟩
     · simp only[c6,dV];rw[cA,cA];simp only[abG,aex];rw[af ⟨c,d,trivial⟩,af hc]
     · rw [List.getElem?_drop,aav]at hv;split at hv
       · rename_i p;refine⟨.ptr j (0+a*1+k*1),?_,?_⟩
         · show(if 0≤(k:Int)∧(k:Int)<((b-a:Nat):Int)then some (J.ptr j (0+a*1+(k:Int).toNat*1))else none)=_;rw[af ⟨by omega,by omega⟩,abG]
         · rw[(f.ext E).load];unfold bE;have e:(l.map (u))[a+k]?=some (u v):=by rw[abl,hv];rfl
           rw[←g,aav,cA]at e;rw[cA,dC];rw[show 0+a*1+k*1=a+k by omega];exact e
       ·cases hv
   · refine ⟨.ax .dead 0 [],?_,λH' E k v hv=>?_⟩
     · simp only[c6,dV];rw[cA,cA];simp only[abG,aex];rw[af ⟨c,d,trivial⟩,ai hc]
     · have:=(aat.1 hv).1;rw[aef,aen]at this;omega
theorem Cs:∀(news:List J)(o:Nat)(cs:List J),(setCells cs o news).length=cs.length
 |[],o,cs=>rfl
 |v::r,o,cs=>by rw[setCells,Cs r,acT]
theorem cO.app{n sz bytes:Nat}{cells news:List J}(h:cO H sz x n cells)(t:0<sz)(a:news.length=sz)(c:news.all J.scalar=true)(d:(n+1)*bytes≤140737488355328)(hl:n+1≤9223372036854775807){K:ab}
  (f:∀b H',cO H' sz b (n+1) (cells++news)→H.n≤H'.n→(∀i o,cn x≠some i→At H i o→At H' i o)→(cn b=cn x∨cn b=some H.n)→K b H'):aw (bR H true sz bytes x (.ax .full 1 news)) K:=by
 have g:ef H sz (.ax .full 1 news)=some (1,news):=by simp[ef,a]
 have hlen:(cells++news).length=(n+1)*sz:=by rw[ad9,h.1,a,aa3,aev]
 rcases h.2 with⟨tk,ht,rfl,rfl⟩|⟨j,cs,m,rfl,k,l,w,r⟩
 · have hc:cells=[]:=abS.1 (by rw[h.1];simp);subst hc;have e:bR H true sz bytes (.ax tk 0 []) (.ax .full 1 news)=some (.row H.n 0 (0+1) sz,H.push (.row ([]++news))):=by
    simp only[bR,g,c,not_true_eq_false,bz];rw[dC,ai (by simp only[ad8];exact⟨by simp,d,hl⟩)];rcases ht with rfl|rfl<;>rfl
   exact⟨_,_,e,f _ _ ⟨hlen,.inr ⟨H.n,[]++news,1,rfl,At.new H _,by simp[a],hT _,by rw[aeb (by rw[hlen];exact hT _)]⟩⟩ (aa_ _) (λi o _ h=>h.push _) (.inr rfl)⟩
 · by_cases hc:(n+1)*sz≤cs.length
   · have e:bR H true sz bytes (.row j 0 n sz) (.ax .full 1 news)=some (.row j 0 (n+1) sz,H.set j (.row (setCells cs (n*sz) news))):=by
       simp only[bR,g,c,not_true_eq_false,bz,k.2];rw[dC,ai (by simp only[ad8];exact⟨trivial,trivial,d,hl⟩),af hc]
     refine⟨_,_,e,f _ _ ⟨hlen,.inr ⟨j,_,m,rfl,k.set _,?_,?_,?_⟩⟩ (hT _) (λi o hi h=>h.cd (λe=>hi (by rw[e];rfl)) _) (.inl rfl)⟩
     ·rw[Cs];exact l
     · rw[l]at hc;exact Nat.le_of_mul_le_mul_right hc t
     · apply afb;intro q;rw[aav];have u:cells.length=n*sz:=h.1;have y:(n+1)*sz=n*sz+sz:=by rw[aa3,aev]
       by_cases s:q<(n+1)*sz
       · rw[af s,m_ news cs _ _ (by rw[a];omega)];by_cases h1:n*sz≤q∧q<n*sz+news.length
         ·rw[af h1,ab9 (by omega),u]
         ·rw[ai h1,ab8 (by omega),←r,aav,cA]
       ·rw[ai s,acO (by rw[hlen];omega)]
   · have v:cs.length=n*sz:=by
       rw[l]at hc ⊢;have:¬n+1≤m:=λz=>hc (abK _ z);rw[show m=n by omega]
     have e:bR H true sz bytes (.row j 0 n sz) (.ax .full 1 news)=some (.row H.n 0 (n+1) sz,(H.set j .gone).push (.row (cs++news))):=by simp only[bR,g,c,not_true_eq_false,bz,k.2];rw[dC,ai (by simp only[ad8];exact⟨trivial,trivial,d,hl⟩),ai hc,af v]
     have p:cs=cells:=by rw[←r,aeb (by omega)]
     refine⟨_,_,e,f _ _ ⟨hlen,.inr ⟨H.n,cs++news,n+1,rfl,At.new (H.set j .gone) _,by rw[p];exact hlen,hT _,?_⟩⟩ (aa_ _) (λi o hi h=>(h.cd (λe=>hi (by rw[e];rfl)) _).push _) (.inr rfl)⟩;rw[aeb (by rw[p,hlen];exact hT _),p]
end Rb

namespace Rb
open Go
def fF(kw:List UInt8→Bool):List (List UInt8)→List B→Int
 |_,[]=>0
 |seen,v::r=>if eP v.E=false∨kw v.E=true then 6 else if seen.contains v.E=true then 7 else if(bx v.type).2≠0 then(bx v.type).2 else fF kw (seen++[v.E]) r
theorem Lw(kw:List UInt8→Bool)(K:Int)(g:K=70000):∀(l:List B)(b:List (List UInt8)) (a:Int) (n:Nat),0≤a→a≤n*K→n+l.length≤32→k9 kw b a l=if fF kw b l≠0 then fF kw b l else if hU a l>65536 then 9 else 0
 | [],b,a,n,i,h1,j=>by
  have e:hU a []=a:=by rw[hU]
  have f:fF kw b []=0:=by rw[fF]
  by_cases h:a>65536
  ·rw[k9,af h,f,ai (λz=>z rfl),af (by rw[e];exact h)]
  ·rw[k9,ai h,f,ai (λz=>z rfl),ai (by rw[e];exact h)]
 | v :: r,b,a,n,i,h1,j=>by
  rw[k9,fF,hU];by_cases e1:eP v.E=false∨kw v.E=true
  ·rw[af e1,af e1,mL]
  · rw [ai e1,ai e1];by_cases d:b.contains v.E=true
    ·rw[af d,af d,mL]
    · rw [ai d,ai d];by_cases c:(bx v.type).2≠0
      ·rw[af c,af c,af c]
      · rw [ai c,ai c];have k:(bx v.type).2=0:=by simpa using c
        obtain⟨b1,b2,b3,m⟩:=Ci k;rw[aeO]at j;have o:a≤n*70000:=by rw[←g];exact h1
        have hu:=jI (n:=a) (step:=(bx v.type).1.2) (by omega);have hw:aH (cf a (bx v.type).1.2+(bx v.type).1.1)=hR a v+(bx v.type).1.1:=by rw[nV i (by omega) (by omega) (by omega)];exact bJ
        rw[hw];unfold hR;exact Lw kw K g r _ _ (n+1) (by omega) (by subst g;push_cast;omega) (by omega)
theorem Lx(kw:List UInt8→Bool):∀{l:List B}{seen:List (List UInt8)},fF kw seen l=0→∀v∈l,(bx v.type).2=0
 | v :: r,seen,h,w,hw=>by
  rw[fF]at h;split at h
  ·cases h
  · split at h
    ·cases h
    · split at h
      ·rename_i e;exact absurd h e
      · rename_i e;rcases acU.1 hw with rfl|hw
        ·simpa using e
        ·exact Lx kw h w hw
end Rb

namespace Rb
open Go
section
variable{C:Ctx}(aj:bX C)(Z:Cl (ae C) S.bg)
include aj Z
end
end Rb

namespace Rb
open Go
section
variable{C:Ctx}(aj:bX C)(Z:Cl (ae C) S.bg)
include aj Z
end
end Rb

namespace Rb
open Go
def Ly(vars:List B)(s:bc):List J:=[aZ B.cells vars,I s.lets,I s.V,I s.k6,I s.bK]
section
variable{C:Ctx}(aj:bX C)(Z:Cl (ae C) S.bg)
include aj Z
end
end Rb

namespace Rb
open Go
section
variable{Φ:ad}{H:AH}{Q:ab}
end
section
variable{C:Ctx}(aj:bX C)(Z:Cl (ae C) S.bg)
include aj Z
end
end Rb

namespace Rb
open Go
section
variable{C:Ctx}(aj:bX C)(Z:Cl (ae C) S.bg){id:Nat}{vars:List B}
include aj Z
end
end Rb

namespace Rb
open Go
section
variable{Φ:ad}{k o:Int}{H:AH}{Q:ab}
end
section
variable{C:Ctx}(Z:Cl (ae C) S.bg)
include Z
end
end Rb

namespace Rb
open Go
section
variable{C:Ctx}(aj:bX C)(Z:Cl (ae C) S.bg){id:Nat}{vars:List B}
include aj Z
end
end Rb

namespace Rb
open Go
def r6:List UInt8:=[118,97,114,32,116,104,114,101,97,100,32,115,116,114,117,99,116,32,117,110,105,111,110,32,112,97,99,107,101,100,32,117,56,32,117,49,54,32,117,51,50,32,117,54,52,32,97,56,32,97,49,54,32,97,51,50,32,97,54,52,32,97,49,50,56,32,108,101,116,32,115,101,116,32,119,114,105,116,101,32,115,116,111,114,101,32,108,111,97,100,50,32,115,116,111,114,101,50,32,102,101,110,99,101,32,105,102,32,101,108,115,101,32,119,104,105,108,101,32,112,114,105,110,116,32,114,101,97,100,32,108,111,97,100,32,97,100,100,32,115,119,97,112,32,99,97,115,32,114,108,120,32,97,99,113,32,114,101,108,32,115,99]
def lZ:List (List UInt8):=[[118,97,114],[116,104,114,101,97,100],[115,116,114,117,99,116],[117,110,105,111,110],[112,97,99,107,101,100],[117,56],[117,49,54],[117,51,50],[117,54,52],[97,56],[97,49,54],[97,51,50],[97,54,52],[97,49,50,56],[108,101,116],[115,101,116],[119,114,105,116,101],[115,116,111,114,101],[108,111,97,100,50],[115,116,111,114,101,50],[102,101,110,99,101],[105,102],[101,108,115,101],[119,104,105,108,101],[112,114,105,110,116],[114,101,97,100],[108,111,97,100],[97,100,100],[115,119,97,112],[99,97,115],[114,108,120],[97,99,113],[114,101,108],[115,99]]
def fw(s:List UInt8):Bool:=lZ.any λx=>s==x
section
variable{C:Ctx}(aj:bX C)(Z:Cl (ae C) S.bg)
include aj Z
theorem WI(b:∀(H:AH)(Q:ab),Q (.ax .dead 34 (lZ.map .str)) H→ae C 116 [.str r6] H Q)(s:List UInt8):bF (ae C) 72 [.str s] (.bool (fw s)):=by
 intro H Q c;refine S.RB Z ?_;unfold S.f72;refine b _ _ ?_;refine B1 Z (xs:=lZ) rfl (λi x a=>?_) (by decide) c;have d:=(aat.1 a).1;refine⟨.ak ((lZ.map J.str).drop (i*1)),?_,?_⟩
 · simp only[aL];have hl:lZ.length=34:=rfl;rw[af ⟨by omega,by omega⟩];simp
 · show bE _ 0 1 false=_;unfold bE;rw[af (by rw[aef,List.length_map];omega)];simp[a]
end
end Rb

namespace Rb
open Go
section
variable{C:Ctx}(aj:bX C)(Z:Cl (ae C) S.bg)
include aj Z
end
end Rb

namespace Rb
open Go
def r7(H:AH)(id:Nat)(vars:List B)(s:bc):Prop:=∃s',At H id (.row (Ly vars s'))∧s'.bK=s.bK∧s'.k6=s.k6∧(s.bK=0→s'.lets=s.lets)
theorem r7.of{H:AH}{id:Nat}{vars:List B}{s:bc}(h:At H id (.row (Ly vars s))):r7 H id vars s:=⟨s,h,rfl,rfl,λ_=>rfl⟩
theorem r7.aO{H:AH}{id:Nat}{vars:List B}{s t:bc}(h:r7 H id vars s)(f:t.bK=s.bK)(g:t.k6=s.k6)(i:s.bK=0→t.lets=s.lets):r7 H id vars t:=by obtain⟨s',a,b,c,d⟩:=h;exact⟨s',a,b.trans f.symm,c.trans g.symm,λe=>(d (f▸e)).trans (i (f▸e)).symm⟩
section
variable(vars:List B)
end
section
variable{C:Ctx}(aj:bX C)(Z:Cl (ae C) S.bg){id:Nat}{vars:List B}
include aj Z
end
end Rb

namespace Rb
open Go
section
variable{C:Ctx}(aj:bX C)(Z:Cl (ae C) S.bg)
include aj Z
end
end Rb

namespace Rb
open Go
variable{w w' R S l0 l1 m:Nat}
structure bM where
 kind:Int
 dst:Int
 lk:Int
 a:Int
 b:Int
 c:Int
 n:Int
 op:Int
 size:Int
 aW:Int
 cW:Int
 site:Int
 V:Int
def bM.cells(o:bM):List J:=[.int .i64 o.kind,.int .i64 o.dst,.int .i64 o.lk,.int .i64 o.a,.int .i64 o.b,.int .i64 o.c,.int .u64 o.n,.int .i64 o.op,.int .i64 o.size,.int .i64 o.aW,.int .i64 o.cW,.int .i64 o.site,.int .i64 o.V]
theorem bM.len(o:bM):o.cells.length=13:=rfl
theorem bM.scalar(o:bM):o.cells.all J.scalar=true:=rfl
def Ct(k:Int):bM:=⟨k,-1,-1,-1,-1,-1,0,0,0,0,0,0,0⟩
structure LD where
 A:List bM
 K:Nat
 labels:Nat
 sn:Nat
 sc:List J
 V:Int
 L:List (List UInt8×Nat)
def iL(p:List UInt8×Nat):List J:=[.str p.1,.int .i64 (p.2:Int)]
def LD.add(c:LD)(o:bM):LD:={c with A:=c.A++[{o with V:=c.V}]}
def cX(R:Nat)(r:Int):Prop:= -1≤r∧r<(R:Nat)
theorem cX.mono{r:Int}(h:cX R r)(k:R≤S):cX S r:=⟨h.1,by have:=h.2;omega⟩
theorem cX.none(R:Nat):cX R (-1):=⟨aeQ _,by omega⟩
structure hh(R S:Nat)(o:bM):Prop where
 k1:1≤o.kind
 k2:o.kind≤18
 dst:cX R o.dst
 lk:cX R o.lk
 a:cX R o.a
 b:cX R o.b
 c:cX R o.c
 site:4≤o.kind→o.kind≤13→1≤o.site∧o.site≤(S:Nat)
 size:4≤o.kind→o.kind≤10→o.size=1∨o.size=2∨o.size=4∨o.size=8
theorem hh.mono{R S e S':Nat}{o:bM}(h:hh R S o)(d:R≤e)(hS:S≤S'):hh e S' o:=⟨h.k1,h.k2,h.dst.mono d,h.lk.mono d,h.a.mono d,h.b.mono d,h.c.mono d,λa b=>by have:=h.site a b;omega,h.size⟩
theorem hh.V{o:bM}(h:hh R S o)(l:Int):hh R S {o with V:=l}:=⟨h.k1,h.k2,h.dst,h.lk,h.a,h.b,h.c,h.site,h.size⟩
def l5(o:bM):Prop:=¬(14≤o.kind∧o.kind≤16)
def hW(t:Int)(l:List bM):Nat:=(l.filter λo=>o.kind==14&&o.cW==t).length
theorem Cu(t:Int)(a b:List bM):hW t (a++b)=hW t a+hW t b:=by simp[hW]
structure e6(l0 l1:Nat)(new:List bM):Prop where
 le:l0≤l1
 cW:∀o∈new,14≤o.kind→o.kind≤16→(l0:Int)<o.cW∧o.cW≤(l1:Int)
 one:∀t:Int,(l0:Int)<t→t≤(l1:Int)→hW t new=1
theorem oc{a:List bM}(h:e6 l0 l1 a){t:Int}(ht:t≤l0∨(l1:Int)<t):hW t a=0:=by unfold hW;rw[abS,List.filter_eq_nil_iff];intro o b c;simp only[aaz,bq]at c;have:=h.cW o b (by omega) (by omega);omega
theorem e6.nil(l:Nat):e6 l l []:=⟨hT _,λo a=>(by cases a),λt h1 b=>by omega⟩
theorem e6.trans{l0 l1 l2:Nat}{a b:List bM}(h:e6 l0 l1 a)(k:e6 l1 l2 b):e6 l0 l2 (a++b):=by
 have h1:=h.le;have k1:=k.le;refine⟨by omega,λo c d e=>?_,λt t0 t1=>?_⟩
 · rcases acN.1 c with c|c
   ·have:=h.cW o c d e;omega
   ·have:=k.cW o c d e;omega
 · rw[Cu];by_cases hm:t≤l1
   ·rw[h.one t t0 hm,oc k (.inl hm)]
   ·rw[oc h (.inr (by omega)),k.one t (by omega) t1]
theorem e6.none{l:Nat}{new:List bM}(h:∀o∈new,l5 o):e6 l l new:=⟨hT _,λo c a b=>absurd ⟨a,b⟩ (h o c),λt h1 d=>by omega⟩
structure BD(c:LD)(w:Nat):Prop where
 A:c.A.length+w≤1000000000000
 r:c.K+w≤1000000000000
 l:c.labels+w≤1000000000000
 s:c.sn+w≤1000000000000
 L:c.L.length+w≤1000000000000
structure dk where
 kind:Int
 aW:Int
 V:Int
 place:ba
def dk.cells(a:dk):List J:= .int .i64 a.kind :: .int .i64 a.aW :: .int .i64 a.V::(if a.kind=7 then [.str [],.ax .nil 0 []]else a.place.cells)
structure GE(c c':LD)(w:Nat)(k:List dk):Prop where
 new:∃new,c'.A=c.A++new∧new.length≤w∧(∀o∈new,hh c'.K c'.sn o∧l5 o)
 r0:c.K≤c'.K
 r1:c'.K≤c.K+w
 s1:c'.sn=c.sn+k.length
 sc:c'.sc=c.sc++k.flatMap dk.cells
 sw:k.length≤w
 kh:c'.labels=c.labels
 L:c'.L=c.L
 V:c'.V=c.V
theorem GE.s0{c c':LD}{k:List dk}(h:GE c c' w k):c.sn≤c'.sn:=by rw[h.s1];omega
theorem GE.s2{c c':LD}{k:List dk}(h:GE c c' w k):c'.sn≤c.sn+w:=by have:=h.sw;rw[h.s1];omega
theorem GE.refl(c:LD):GE c c 0 []:=⟨⟨[],by simp,hT _,λo a=>by cases a⟩,hT _,hT _,rfl,(aee _).symm,hT _,rfl,rfl,rfl⟩
theorem GE.trans{c b d:LD}{k k':List dk}(h:GE c b w k)(g:GE b d w' k'):GE c d (w+w') (k++k'):=by
 obtain⟨n1,Y,b1,d1⟩:=h.new;obtain⟨n2,a2,b2,d2⟩:=g.new;have h1:=h.r0;have e:=h.r1;have f:=h.s0;have i:=h.s1;have j:=h.sw;have g1:=g.r0;have g2:=g.r1;have g3:=g.s0;have g4:=g.s1;have g5:=g.sw;refine⟨⟨n1++n2,by rw[a2,Y,aeI],by rw[ad9];omega,λo a=>?_⟩,by omega,by omega,by rw[ad9];omega,by rw[g.sc,h.sc,afd,aeI],by rw[ad9];omega,g.kh.trans h.kh,g.L.trans h.L,g.V.trans h.V⟩;rcases acN.1 a with a|a
 ·exact⟨(d1 o a).1.mono g1 g3,(d1 o a).2⟩
 ·exact d2 o a
theorem GE.mono{c c':LD}{k k':List dk}(h:GE c c' w k)(b:w≤w')(a:k=k'):GE c c' w' k':=by obtain⟨n1,Y,b1,d1⟩:=h.new;subst a;have d:=h.r1;have e:=h.s1;have f:=h.sw;exact⟨⟨n1,Y,by omega,d1⟩,h.r0,by omega,h.s1,h.sc,by omega,h.kh,h.L,h.V⟩
theorem BD.mono{c:LD}(h:BD c w)(k:w'≤w):BD c w':=⟨by have:=h.A;omega,by have:=h.r;omega,by have:=h.l;omega,by have:=h.s;omega,by have:=h.L;omega⟩
theorem GE.bd{c c':LD}{k:List dk}(g:GE c c' w k)(h:BD c (w+m)):BD c' m:=by obtain⟨n1,Y,b1,d1⟩:=g.new;have h1:=h.A;have a:=h.r;have b:=h.l;have d:=h.s;have e:=h.L;have g2:=g.r1;have g5:=g.s2;refine⟨by rw[Y,ad9];omega,by omega,by rw[g.kh];omega,by omega,by rw[g.L];omega⟩
theorem GE.add{c:LD}{o:bM}(h:hh c.K c.sn o)(b:l5 o):GE c (c.add o) 1 []:=
 ⟨⟨[{o with V:=c.V}],rfl,hT _,λp a=>by rw[afh]at a;subst a;exact⟨h.V _,b⟩⟩,hT _,aa_ _,rfl,(aee _).symm,aa2 _,rfl,rfl,rfl⟩
theorem GE.Cv{c:LD}{o:bM}(h:hh (c.K+1) c.sn o)(b:l5 o):GE c ({c with K:=c.K+1}.add o) 1 []:=
 ⟨⟨[{o with V:=c.V}],rfl,hT _,λp a=>by rw[afh]at a;subst a;exact⟨h.V _,b⟩⟩,aa_ _,hT _,rfl,(aee _).symm,aa2 _,rfl,rfl,rfl⟩
structure GS(c c':LD)(w:Nat)(k:List dk):Prop where
 new:∃new,c'.A=c.A++new∧new.length≤w∧(∀o∈new,hh c'.K c'.sn o)∧e6 c.labels c'.labels new
 r0:c.K≤c'.K
 r1:c'.K≤c.K+w
 s1:c'.sn=c.sn+k.length
 sc:c'.sc=c.sc++k.flatMap dk.cells
 sw:k.length≤w
 l1:c'.labels≤c.labels+w
theorem GE.gs{c c':LD}{k:List dk}(h:GE c c' w k):GS c c' w k:=by obtain⟨n1,Y,b1,d1⟩:=h.new;exact⟨⟨n1,Y,b1,λo a=>(d1 o a).1,by rw[h.kh];exact e6.none λo a=>(d1 o a).2⟩,h.r0,h.r1,h.s1,h.sc,h.sw,by rw[h.kh];omega⟩
theorem GS.trans{c b d:LD}{k k':List dk}(h:GS c b w k)(g:GS b d w' k'):GS c d (w+w') (k++k'):=by
 obtain⟨n1,Y,b1,d1,e1⟩:=h.new;obtain⟨n2,a2,b2,d2,e⟩:=g.new;have h1:=h.r0;have f:=h.r1;have i:=h.s1;have j:=h.sw;have l:=h.l1;have g1:=g.r0;have g2:=g.r1;have g4:=g.s1;have g5:=g.sw;have g6:=g.l1;refine⟨⟨n1++n2,by rw[a2,Y,aeI],by rw[ad9];omega,λo a=>?_,e1.trans e⟩,by omega,by omega,by rw[ad9];omega,by rw[g.sc,h.sc,afd,aeI],by rw[ad9];omega,by omega⟩;rcases acN.1 a with a|a
 ·exact(d1 o a).mono g1 (by omega)
 ·exact d2 o a
theorem GS.mono{c c':LD}{k k':List dk}(h:GS c c' w k)(b:w≤w')(a:k=k'):GS c c' w' k':=by obtain⟨n1,Y,b1,d1,e1⟩:=h.new;subst a;have d:=h.r1;have e:=h.sw;have f:=h.l1;exact⟨⟨n1,Y,by omega,d1,e1⟩,h.r0,by omega,h.s1,h.sc,by omega,by omega⟩
theorem GS.A{c c':LD}{k:List dk}(g:GS c c' w k):c'.A.length≤c.A.length+w:=by obtain⟨n1,Y,b1,d1,e1⟩:=g.new;rw[Y,ad9];omega
theorem GS.bd{c c':LD}{k:List dk}(g:GS c c' w k)(h:BD c (w+m))(hL:c'.L.length≤c.L.length+w):BD c' m:=by have h1:=h.A;have a:=h.r;have b:=h.l;have d:=h.s;have e:=h.L;have g1:=g.A;have g2:=g.r1;have g4:=g.s1;have g5:=g.sw;have g6:=g.l1;exact⟨by omega,by omega,by omega,by omega,by omega⟩
mutual
def df:U→Nat
 | .mk kind n E op aW place bu=>16+(if kind≥4 then 256 else 0)+e7 place+c_ bu
def c_:List U→Nat
 |[]=>0
 |e::r=>df e+c_ r
def e7:ba→Nat
 | .mk var bm=>fU bm
def fU:List a_→Nat
 |[]=>0
 |p::r=>l6 p+fU r
def l6:a_→Nat
 | .mk field bD=>c_ bD
end
mutual
def gf(l:Int):U→List dk
 | .mk kind n E op aW place bu=>gH l place++dz l bu++(if kind≥4 then [⟨10+kind,aW,l,place⟩]else [])
def dz(l:Int):List U→List dk
 |[]=>[]
 |e::r=>gf l e++dz l r
def gH(l:Int):ba→List dk
 | .mk var bm=>ki l bm
def ki(l:Int):List a_→List dk
 |[]=>[]
 |p::r=>r8 l p++ki l r
def r8(l:Int):a_→List dk
 | .mk field bD=>dz l bD
end
mutual
def jO:aG→Nat
 | .mk kind V E cp aW place bh bj bC=>16+(if 3≤kind∧kind≤7 then 256 else 0)+e7 place+c_ bh+(cr bj+cr bC)
def cr:List aG→Nat
 |[]=>0
 |x::r=>jO x+cr r
end
mutual
def l8:aG→List dk
 | .mk kind V E cp aW place bh bj bC=>gH V place++dz V bh++(if 3≤kind∧kind≤7 then [⟨kind,aW,V,place⟩]else [])++(gI bj++gI bC)
def gI:List aG→List dk
 |[]=>[]
 |x::r=>l8 x++gI r
end
theorem Lz(e:U):df e=16+(if e.kind≥4 then 256 else 0)+e7 e.place+c_ e.bu:=by cases e;rw[df]
theorem WJ(x:ba):e7 x=fU x.bm:=by cases x;rw[e7]
theorem LA(p:a_):l6 p=c_ p.bD:=by cases p;rw[l6]
theorem xX(l:Int)(e:U):gf l e=gH l e.place++dz l e.bu++(if e.kind≥4 then [⟨10+e.kind,e.aW,l,e.place⟩]else []):=by cases e;rw[gf]
theorem r9(l:Int)(x:ba):gH l x=ki l x.bm:=by cases x;rw[gH]
theorem LB(l:Int)(p:a_):r8 l p=dz l p.bD:=by cases p;rw[r8]
theorem LC(x:aG):jO x=16+(if 3≤x.kind∧x.kind≤7 then 256 else 0)+e7 x.place+c_ x.bh+(cr x.bj+cr x.bC):=by cases x;rw[jO]
theorem LF(x:aG):l8 x=gH x.V x.place++dz x.V x.bh++(if 3≤x.kind∧x.kind≤7 then [⟨x.kind,x.aW,x.V,x.place⟩]else [])++(gI x.bj++gI x.bC):=by cases x;rw[l8]
end Rb

namespace Rb
open Go
variable{t:T}{f:aJ}{s:cm}
def XF(f:aJ)(x:Int×Int):Prop:=0≤x.1∧(f.bits=true→0≤x.2∧x.2≤64)∧(f.bits=false→x.2=8*(bb f.type).1.1)
theorem WK{packed:Bool}{kind a:Int}(d:0≤a)(g:rN packed f)(h:xG f.type)(ht:(bb f.type).2=true):XF f ((fQ packed kind a f (bb f.type).1).1,(fQ packed kind a f (bb f.type).1).2.1):=by
 obtain⟨b1,b2,b3,j⟩:=h ht;have i:0≤(if kind=4 then(0:Int)else a):=by split;decide;exact d
 unfold fQ;dsimp only;generalize (if kind=4 then(0:Int)else a)=b at *;by_cases c:f.bits=true
 · obtain ⟨k,l,m,y3,y4,_⟩:=g c;rw[af c];refine⟨?_,λ_=>⟨y3,?_⟩,λe=>by rw[c]at e;cases e⟩
   · show 0≤bV b _;split
     ·have:=jI (n:=b) (step:=8*f.type.size) (by omega);omega
     ·rw[xE];exact i
   ·show f.be≤64;omega
 · rw[ai c];refine⟨?_,λe=>absurd e c,λ_=>rfl⟩;show 0≤bV b _;split
   ·have:=jI (n:=b) (step:=8) (by omega);omega
   ·have:=jI (n:=b) (step:=8*(bb f.type).1.2) (by omega);omega
theorem LG{packed:Bool}{kind:Int}:∀{l:List aJ}{p q:PL}{n:Nat},n+l.length≤32→jJ p n→(∀f∈l,rN packed f∧xG f.type)→dQ packed kind p l=some q →
  ∃c:List cm,q.de=p.de++c∧∀(i:Nat)(f:aJ)(s:cm),l[i]?=some f→c[i]?=some s→∃x,s=nW f x∧XF f x
 | [],p,q,n,e,d,hl,h=>by simp only[dQ,aaK.injEq]at h;subst h;exact⟨[],by simp,λi f s hf=>by simp at hf⟩
 | f :: r,p,q,n,e,d,hl,h=>by
  obtain⟨o1,o2⟩:=hl f (acW ..);have k:n+1+r.length≤32:=by rw[aeO]at e;omega
  simp only[dQ,rJ]at h;by_cases ht:(bb f.type).2=true
  · rw [af ht]at h;obtain⟨b1,b2,b3,m⟩:=o2 ht;have a:f.bits=true→1≤f.type.size∧f.type.size≤8∧0≤f.be∧f.be≤8*f.type.size∧packed=false∧(bb f.type).1.2=f.type.size:=λa=>by
     obtain⟨o,z2,z3,z4,z5,t⟩:=o1 a;exact⟨z2,z3,z4,z5,t,by rw[rO (.inl o)]⟩
    obtain⟨e1,u⟩:=Kh (packed:=packed) (kind:=kind) (g:=(bb f.type).1) (by omega) d b1 b2 b3 m (λq=>⟨(a q).1,(a q).2.1,(a q).2.2.1,(a q).2.2.2.1⟩);have v:=Kj (kind:=kind) d (f:=f) (g:=(bb f.type).1) b3 (λq=>⟨(a q).1,(a q).2.2.1,(a q).2.2.2.1,(a q).2.2.2.2.1,(a q).2.2.2.2.2⟩);obtain⟨c,j,w⟩:=LG k u (λg b=>hl g (acV _ b)) h;rw[e1,v]at j;refine⟨nW f ((fQ packed kind p.bit f (bb f.type).1).1,(fQ packed kind p.bit f (bb f.type).1).2.1)::c,by rw[j,aeI];rfl,λi g s b hs=>?_⟩;cases i with
    | zero=>simp only[adW,aaK.injEq]at b hs;subst b;exact⟨_,hs.symm,WK d.b0 o1 o2 ht⟩
    | succ i=>simp only[adX]at b hs;exact w i g s b hs
  ·rw[ai ht]at h;cases h
structure od(t:T)(s:cm):Prop where
 bits:s.bits=true→t.kind=1∧0≤s.len∧s.len≤9
 len:s.bits=false→s.len=(bx t).1.1
 bit:0≤s.bit∧s.bit≤7
 wid:0≤s.be
theorem WL(h:t.lay)(b:t.kind=3∨t.kind=4){n:Nat}(hf:t.aP[n]?=some f)(hs:(jb t)[n]?=some s)(i:f.type.lay):od f.type s:=by
 obtain⟨p,d,_⟩:=xS h b;have c:=j_ h.snd;have hlen:=Kn c b;have g:∀f∈t.aP,rN t.packed f:=by
  have hs:=c;rw[gB]at hs;split at hs
  ·exact absurd hs (by decide)
  · rw[ai (show ¬t.kind=1 by omega),ai (show ¬t.kind=2 by omega),ai (show ¬t.kind=5 by omega),bO]at hs;exact Kl hs
 obtain⟨q,j,k⟩:=LG (n:=0) (by omega) jJ.zero (λf hf=>⟨g f hf,Ko f.type ((nT c b).1 f hf)⟩) d;unfold jb at hs;rw[d]at hs;dsimp only at hs;rw[j]at hs;obtain⟨x,e,r,l,m⟩:=k n f s hf (by simpa using hs);have o:=i.zero;rw[e];unfold nW;by_cases a:f.bits=true
 · rw[af a];obtain⟨z0,u⟩:=l a;refine⟨λ_=>⟨(g f (adl hf) a).1,?_,?_⟩,λe=>(by cases e),⟨?_,?_⟩,z0⟩
   ·show 0≤(if x.2>0 then _ else _);split<;>omega
   ·show(if x.2>0 then _ else _)≤_;split<;>omega
   ·show 0≤x.1%8;omega
   ·show x.1%8≤7;omega
 · rw[ai a];have:=m (by simpa using a);refine⟨λe=>(by cases e),λ_=>?_,⟨aeQ 0,(by decide:(0:Int)≤7)⟩,aeQ 0⟩;show x.2/8=(bx f.type).1.1;rw[o,this];dsimp only;omega
theorem xY(ht:t.lay)(h:od t s)(b:t.kind=1∨t.kind=2):0≤s.len∧s.len≤16∧(t.kind=2→s.len=t.size)∧(t.size=1∨t.size=2∨t.size=4∨t.size=8∨t.size=16):=by
 have hs:=j_ ht.snd;have d:=BV hs b;have a : t.size=1∨t.size=2∨t.size=4∨t.size=8∨t.size=16:=by
  rw[gB]at hs;split at hs
  ·cases hs
  · have a:eQ t.size 8=true∨eQ t.size 16=true:=by
      rcases b with h1|h1
      · rw[af h1]at hs;split at hs
        ·exact .inl ‹_›
        ·cases hs
      · rw[bO,af h1]at hs;split at hs
        ·exact .inr ‹_›
        ·cases hs
    rcases a with a|a<;>(simp[eQ]at a;omega)
 have hl:(bx t).1.1=t.size:=by rw[ht.zero,rO b]
 cases c:s.bits with
 | true=>have:=h.bits c;exact⟨this.2.1,by omega,λe=>by omega,a⟩
 | false=>have:=h.len c;rw[hl]at this;exact⟨by omega,by omega,λ_=>this,a⟩
theorem xZ{k:Int}(h:k7 k t=true):(t.kind=1∨t.kind=2)∧((k=3∨k=14)→t.kind=1)∧(¬(k=3∨k=14)→t.kind=2)∧(¬(k=3∨k=14)→¬(k=5∨k=6)→t.size≤8):=by
 unfold k7 at h;by_cases h1:k=3∨k=14
 · rw[af h1]at h;have:t.kind=1:=by simpa using h
   exact⟨.inl this,λ_=>this,λe=>absurd h1 e,λe=>absurd h1 e⟩
 · rw [ai h1]at h;by_cases a:k=5∨k=6
   · rw[af a]at h;simp only[aaz,bq]at h;exact⟨.inr h.1,λe=>absurd e h1,λ_=>h.1,λ_ e=>absurd a e⟩
   · rw[ai a]at h;simp only[aaz,bq,dM]at h;exact⟨.inr h.1,λe=>absurd e h1,λ_=>h.1,λ_ _=>h.2⟩
end Rb

namespace Rb
open Go
variable{x:J}{n0 sz len:Nat}{cells:List J}{n:Int}
def jd(vars:List B)(wh xo xs xl:J)(c:LD):List J:=[aZ B.cells vars,wh,xo,.int .i64 (c.K:Nat),.int .i64 (c.labels:Nat),xs,.int .i64 c.V,xl]
structure bB(H:AH)(id:Nat)(vars:List B)(wh xl:J)(c:LD):Prop where
 x:∃xo xs,At H id (.row (jd vars wh xo xs xl c))∧cH (id+1) H 13 xo c.A.length (c.A.flatMap bM.cells)∧cH (id+1) H 5 xs c.sn c.sc∧∀t l c1,xo = .ax (.own t) l c1→∀l2 c2,xs ≠ .ax (.own t) l2 c2
 l:cO H 2 xl c.L.length (c.L.flatMap iL)
 ld:∀j,cn xl=some j→id<j
 lo:∀p∈c.L,p.2<c.K
theorem bB.r_{H:AH}{id:Nat}{vars:List B}{wh xl:J}{c:LD}(h:bB H id vars wh xl c):cn xl≠some id:=λe=>Nat.lt_irrefl _ (h.ld _ e)
def KR(id:Nat)(H H':AH):Prop:=H.n≤H'.n∧∀i cs,i≠id→At H i (.row cs)→At H' i (.row cs)
section
variable{id j k N:Nat}{vars:List B}{wh xl v:J}{c c':LD}{H0 H H1 H2:AH}{cs:List J}
theorem KR.refl:KR id H H:=⟨hT _,λ_ _ _ h=>h⟩
theorem KR.trans(h:KR id H H1)(k:KR id H1 H2):KR id H H2:=⟨np h.1 k.1,λi cs hi a=>k.2 i cs hi (h.2 i cs hi a)⟩
theorem KR.ext(E:AH.Ext H H1):KR id H H1:=⟨E.1,λ_ _ _ h=>h.ext E⟩
theorem KR.set(o:bS):KR id H (H.set id o):=⟨hT _,λ_ _ hi h=>h.cd hi o⟩
theorem cH.LH(h:cH n0 H sz x len cells)(k:∀t l d a b,x = .ax (.own t) l d→At H t (.tok a b)→At H1 t (.tok a b)):cH n0 H1 sz x len cells:=by
 obtain⟨tk,c,hc,ht⟩:=h;refine⟨tk,c,hc,?_⟩;rcases ht with ht|ht|⟨t,rfl,e,f⟩
 ·exact .inl ht
 ·exact .inr (.inl ht)
 ·exact .inr (.inr ⟨t,rfl,e,k t _ _ _ _ c f⟩)
def One(v:J):Prop:=v.known=true∧v.cells=[v]∧v.scalar=true
theorem One.int{k:IntKind}:One (.int k n):=⟨rfl,rfl,rfl⟩
theorem cH.one(h:cH n0 H sz x len cells):One x∧aY false x=some (.int .i64 len):=by obtain⟨tk,rfl,_⟩:=h;exact⟨⟨rfl,rfl,rfl⟩,rfl⟩
theorem At.st1(h:At H j (.row cs))(a:k<cs.length)(hv:One v):au H 1 (.ptr j k) v=some (H.set j (.row (cs.set k v))):=by rw[h.store,af ⟨hv.1,by rw[hv.2.1];rfl,by rw[hv.2.1];simp[hv.2.2],a⟩,hv.2.1];rfl
theorem bB.ext(h:bB H id vars wh xl c)(E:AH.Ext H H1):bB H1 id vars wh xl c:=by obtain⟨xo,xs,a,b,d,e⟩:=h.x;exact⟨⟨xo,xs,a.ext E,b.frame λ_ _ _ h=>h.ext E,d.frame λ_ _ _ h=>h.ext E,e⟩,h.l.ext E,h.ld,h.lo⟩
theorem bB.other(h:bB H id vars wh xl c)(i:At H j (.row cs))(k:j≠id)(m:cn xl≠some j)(g:List J):bB (H.set j (.row g)) id vars wh xl c:=by obtain⟨xo,xs,a,b,d,e⟩:=h.x;have f:∀t a b,At H t (.tok a b)→At (H.set j (.row g)) t (.tok a b):=λt a b h=>h.cd (h.ne i (by intro e;cases e)) _;exact⟨⟨xo,xs,a.cd k.symm _,b.frame f,d.frame f,e⟩,h.l.set m _,h.ld,h.lo⟩
theorem bB.qS(h:bB H id vars wh xl c):W H 1 false (.ptr id 3)=some (.int .i64 (c.K:Nat)):=by obtain⟨xo,xs,a,_⟩:=h.x;rw[a.load];rfl
theorem bB.kh(h:bB H id vars wh xl c):W H 1 false (.ptr id 4)=some (.int .i64 (c.labels:Nat)):=by obtain⟨xo,xs,a,_⟩:=h.x;rw[a.load];rfl
theorem bB.ln(h:bB H id vars wh xl c):W H 1 false (.ptr id 6)=some (.int .i64 c.V):=by obtain⟨xo,xs,a,_⟩:=h.x;rw[a.load];rfl
theorem bB.lcs(h:bB H id vars wh xl c):W H 1 false (.ptr id 7)=some xl:=by obtain⟨xo,xs,a,_⟩:=h.x;rw[a.load];rfl
theorem bB.vs(h:bB H id vars wh xl c):W H 1 false (.ptr id 0)=some (aZ B.cells vars):=by obtain⟨xo,xs,a,_⟩:=h.x;rw[a.load];rfl
theorem bB.WM(h:bB H id vars wh xl c):W H 1 false (.ptr id 1)=some wh:=by obtain⟨xo,xs,a,_⟩:=h.x;rw[a.load];rfl
theorem bB.own(h:bB H id vars wh xl c)(f:(k=3∧n=c'.K∧c.K≤c'.K∧c'.labels=c.labels∧c'.V=c.V)∨(k=4∧n=c'.labels∧c'.K=c.K∧c'.V=c.V)∨(k=6∧n=c'.V∧c'.K=c.K∧c'.labels=c.labels))(i:c'.A=c.A)(j:c'.sn=c.sn)(m:c'.sc=c.sc)(g:c'.L=c.L) :
  ∃H',au H 1 (.ptr id k) (.int .i64 n)=some H'∧KR id H H'∧bB H' id vars wh xl c':=by
 obtain⟨xo,xs,a,b,d,e⟩:=h.x;refine⟨_,a.st1 (by rcases f with⟨rfl,_⟩|⟨rfl,_⟩|⟨rfl,_⟩<;>(show _<8;decide)) One.int,KR.set _,⟨xo,xs,?_,?_,?_,e⟩,by rw[g];exact h.l.set h.r_ _,h.ld,?_⟩
 · have:(jd vars wh xo xs xl c).set k (.int .i64 n)=jd vars wh xo xs xl c':=by
     unfold jd;rcases f with⟨rfl,rfl,_,k1,k2⟩|⟨rfl,rfl,k1,k2⟩|⟨rfl,rfl,k1,k2⟩<;>(rw[k1,k2];rfl)
   rw[this];exact a.set _
 ·rw[i];exact b.frame λt _ _ h=>h.cd (h.ne a (by intro e;cases e)) _
 ·rw[j,m];exact d.frame λt _ _ h=>h.cd (h.ne a (by intro e;cases e)) _
 · rw[g];intro p o;have:=h.lo p o;rcases f with⟨_,_,k1,_⟩|⟨_,_,k1,_⟩|⟨_,_,k1,_⟩<;>omega
structure Bx(H0:AH)(id:Nat)(xl:J)(H:AH)(j N:Nat)(cs:List J):Prop where
 a:At H j (.row cs)
 ne:j≠id
 nx:cn xl≠some j
 lo:H0.n≤j
 len:cs.length=N
theorem Bx.aO(b:Bx H0 id xl H j N cs)(k:KR id H H1):Bx H0 id xl H1 j N cs:=⟨k.2 _ _ b.ne b.a,b.ne,b.nx,b.lo,b.len⟩
theorem bB.box(h:bB H id vars wh xl c)(k:KR id H0 H)(hl:cs.length=N):Bx H0 id xl (H.push (.row cs)) H.n N cs:=by obtain⟨xo,xs,a,_⟩:=h.x;exact⟨At.new H _,by have:=a.1;omega,λe=>by have:=h.l.lt e;omega,k.1,hl⟩
theorem KR.box(k:KR id H0 H)(b:H0.n≤j)(o:bS):KR id H0 (H.set j o):=⟨k.1,λi cs hi a=>(k.2 i cs hi a).cd (by have:=a.1;omega) o⟩
theorem Bx.other{c:Nat}(b:Bx H0 id xl H j N cs)(h:j≠c)(o:bS):Bx H0 id xl (H.set c o) j N cs:=⟨b.a.cd h o,b.ne,b.nx,b.lo,b.len⟩
theorem Bx.set(b:Bx H0 id xl H j N cs)(ds:List J)(hl:ds.length=N):Bx H0 id xl (H.set j (.row ds)) j N ds:=⟨b.a.set _,b.ne,b.nx,b.lo,hl⟩
theorem Bx.lt(b:Bx H0 id xl H j N cs)(k:KR id H H1):j<H1.n:=sl b.a.1 k.1
theorem Bx.st(b:Bx H0 id xl H j N cs)(h:bB H id vars wh xl c)(e:KR id H0 H)(f:k<N)(hv:One v){P:AH→Prop}
  (g:∀H',KR id H0 H'→bB H' id vars wh xl c→Bx H0 id xl H' j N (cs.set k v)→(∀d M ds,d≠j→Bx H0 id xl H d M ds→Bx H0 id xl H' d M ds)→P H'):Do (au H 1 (.ptr j k) v) P:=by
 rw[b.a.st1 (by rw[b.len];exact f) hv,X];exact g _ (e.box b.lo _) (h.other b.a b.ne b.nx _) (b.set _ (by rw[acT];exact b.len)) λd M ds i b2=>b2.other i _
theorem Bx.ld(b:Bx H0 id xl H j N cs)(c:cs[k]?=some x):W H 1 false (.ptr j k)=some x:=by rw[b.a.load];unfold bE;have:=(aat.1 c).1;rw[cA,dC];exact c
theorem Bx.all(b:Bx H0 id xl H j N cs):W H N true (.ptr j 0)=some (.agg cs):=b.a.all b.len
end
section
variable{C:Ctx}(aj:bX C)(Z:Cl (ae C) S.bg){id:Nat}{vars:List B}{wh xl:J}{c:LD}{H0 H:AH}{Q:ab}
include aj Z
theorem je{P:J→AH→Prop}{k:Int}(h:bB H id vars wh xl c)(b:KR id H0 H)(d:∀j H',KR id H H'→bB H' id vars wh xl c→Bx H0 id xl H' j 13 (Ct k).cells→H.n≤j→P (.ptr j 0) H') :
  ae C 84 [.int .i64 k] H λe H2=>aw (some (aQ H2 true [.int .i64 0,.int .i64 0,.int .i64 0,.int .i64 0,.int .i64 0,.int .i64 0,.int .u64 0,.int .i64 0,.int .i64 0,.int .i64 0,.int .i64 0,.int .i64 0,.int .i64 0])) λa f=>Do (au f 13 a e) λg=>P a g:=by
 refine S.RN Z ?_;unfold S.f84;rw[show aD [.int .i64 0,.int .i64 0,.int .i64 0,.int .i64 0,.int .i64 0,.int .i64 0,.int .u64 0,.int .i64 0,.int .i64 0,.int .i64 0,.int .i64 0,.int .i64 0,.int .i64 0] [(0,1,.int .i64 k),(1,1,(.int .i64 (-1))),(2,1,(.int .i64 (-1))),(3,1,(.int .i64 (-1))),(4,1,(.int .i64 (-1))),(5,1,(.int .i64 (-1)))]=some (.agg (Ct k).cells)from rfl];simp only[aQ,aT,aK,X];rw[cG _ _ _ 13 rfl rfl rfl];simp only[X,ey];rw[dP (n:=13) rfl];simp only[X];rw[cG _ _ _ 13 rfl rfl rfl];simp only[X];have E:=AH.Ext.push H (.row (Ct k).cells);have h1:=h.ext E;have k1:=b.trans (KR.ext E);exact d _ _ ((KR.ext E).trans (KR.ext (AH.Ext.push _ _))) (h1.ext (AH.Ext.push _ _)) (h1.box k1 rfl) (aa_ _)
theorem iM(h:bB H id vars wh xl c)(hl:c.A.length≤1000000000000)(o:bM)(p:∀H',KR id H H'→bB H' id vars wh xl (c.add o)→Q (.ar []) H'):ae C 86 [.ptr id 0,.agg o.cells] H Q:=by
 refine S.RP Z ?_;unfold S.f86;have q:aM H true 13 (.agg o.cells)=some (.ptr H.n 0,H.push (.row o.cells)):=by unfold aM;rw[af ⟨rfl,o.len⟩];rfl
 rw[q];simp only[aK,aC,aa,abg,X];have b1:=h.box (KR.refl (id:=id)) o.len;have k1:KR id H (H.push (.row o.cells)):=KR.ext (AH.Ext.push _ _);have h1:=h.ext (AH.Ext.push H (.row o.cells));simp only[h1.ln,X];refine b1.st h1 k1 (by decide) One.int λH2 k2 f b2 _=>?_;have b:o.cells.set 12 (.int .i64 c.V)=({o with V:=c.V}:bM).cells:=rfl;rw[b]at b2;obtain⟨xo,xs,a,k,hs,r⟩:=f.x;rw[a.load,show bE (jd vars wh xo xs xl c) 2 1 false=some xo from rfl];simp only[X,b2.all];rw[show cb H2 false 13 1 [.int .i64 0,.int .i64 0,.int .i64 0,.int .i64 0,.int .i64 0,.int .i64 0,.int .u64 0,.int .i64 0,.int .i64 0,.int .i64 0,.int .i64 0,.int .i64 0,.int .i64 0] [(0,13,.agg ({o with V:=c.V}:bM).cells)]=some (.ax .full 1 ({o with V:=c.V}:bM).cells,H2)from rfl];simp only[aK];refine k.La (by have:=a.1;omega) (m:=1) (news:=({o with V:=c.V}:bM).cells) rfl rfl rfl (by decide) (by omega) (by omega) λs u v hk=>?_;have g:∀i ds,At H2 i (.row ds)→At s i (.row ds):=λi ds hi=>hk i _ hi λl cs e=>by
  subst e;obtain⟨tk,e1,_,b⟩:=k;cases e1;rcases b with⟨e,_⟩|e|⟨t,e,_,b⟩
  ·cases e
  ·cases e
  ·cases e;exact absurd (b.2.symm.trans hi.2) (by intro e;cases e)
 have a3:=g _ _ a;rw[a3.st1 (by show 2<8;decide) ⟨rfl,rfl,rfl⟩];simp only[X];refine p _ (k2.trans (KR.trans ⟨aeB v,λi ds _=>g i ds⟩ (KR.set _))) ⟨⟨_,xs,a3.set _,?_,?_,λt l c1 e l2 c2 b=>?_⟩,(f.l.aO λi cs _=>g i cs).set f.r_ _,f.ld,f.lo⟩
 · have e:(c.add o).A=c.A++[{o with V:=c.V}]:=rfl;rw[e,ad9,afd,List.flatMap_singleton];exact u.frame λt _ _ h=>h.cd (h.ne a3 (by intro e;cases e)) _
 ·exact hs.LH λt l d x y e ht=>(hk t _ ht λl1 c1 e1=>r t l1 c1 e1 _ _ e).cd (ht.ne a (by intro e;cases e)) _
 · cases e;obtain⟨tk,e1,_,j⟩:=hs;rw[b]at e1;cases e1;rcases j with⟨e,_⟩|e|⟨t,e,_,j⟩
   ·cases e
   ·cases e
   ·cases e;have:=j.1;omega
end
end Rb
