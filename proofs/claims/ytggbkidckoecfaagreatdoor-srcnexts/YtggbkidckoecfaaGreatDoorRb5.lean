/- A part of the proof (part 5): see the last text. -/
import Derived.Test.YtggbkidckoecfaaGreatDoorRb4
set_option linter.unusedVariables false
set_option linter.unusedSimpArgs false
set_option linter.unusedSectionVars false
open BitVec renaming ofInt→KT
open Bool renaming and_assoc→aaG, and_eq_false_iff→aao, and_eq_true→Wn, and_true→aar, eq_iff_iff→YG, false_and→aab, false_eq_true→Yf, not_eq_false→ZV, not_eq_true'→Yu, not_eq_true→ZU, or_eq_false_iff→YL, true_and→aaa, true_eq_false→ZY
open Classical renaming byContradiction→aal
open Decidable renaming not_not→ZC
open Go.IntKind renaming wrap→Xv
open Int renaming add_mul_ediv_left→aak, ediv_le_self→Z6, ediv_nonneg→Z5, emod_add_mul_ediv→aae, emod_eq_of_lt→aaD, emod_lt_of_pos→aah, emod_nonneg→aaf, le_of_lt→aaz, le_refl→aac, le_trans→aad, max_eq_left→aaF, max_eq_right→aaE, mul_add→aam, mul_comm→aai, mul_le_mul→aan, mul_nonneg→Z7, ne_of_gt→aag, sub_emod→aaC, tdiv_eq_ediv_of_nonneg→Z8, tdiv→aax, tmod_eq_emod_of_nonneg→aaj
open List renaming all_cons→Y6, all_nil→aaq, any_cons→Z4, any_eq_false→aaA, cons_append→Yi, contains_iff_mem→aaw, drop_eq_getElem_cons→ZH, drop_succ_cons→ZD, drop_zero→Zv, drop→aaB, findIdx?→ZL, flatMap_cons→Zi, getElem?_cons_succ→Zo, getElem?_cons_zero→Zn, getElem?_eq_getElem→Xc, getElem?_eq_some_iff→Wh, getElem?_take→Wj, length_append→ZG, length_cons→Z9, length_eq_zero_iff→XJ, length_nil→Z_, length_singleton→aap, length_take→Z1, map_append→aau, mem_append→YB, mem_cons_of_mem→YJ, mem_cons_self→YK, mem_cons→YI, mem_map→YX, mem_of_getElem?→Y7, prefix_refl→aay, sizeOf_lt_of_mem→ZT, take_add_one→ZP, take_length→Zw, take_of_length_le→ZJ
open Nat renaming add_mul→WT, add_zero→WW, le_of_lt→aav, le_refl→hT, le_succ→W4, le_trans→At, lt_succ_self→Y9, min_eq_left→aat, ne_of_lt→W5, zero_add→W7, zero_le→WS
open Ne renaming symm→W_
open Option renaming map_none→aas, some→Wy
namespace Rb
open Go
variable{B:List aE}{x:aW}
theorem QF:I.cv dm=true:=rfl
theorem A0(r:Int×aC):(gb r).b6=true:=by
 unfold gb;split
 ·simp[I.b6,I.cv,aC.b6]
 ·simp[I.b6,I.cv,QF]
theorem rE(v:aE):bW v.cells 0 1 false=some (.str v.name):=by unfold bW;rw[aa (by rw[v.len];omega)];rfl
theorem A1(v:aE)(H:Z){i:Nat}(h:B[i]?=some v):O H 6 true (.ak (((B.flatMap aE.cells).drop (i*7)).drop 1))=some (.agg v.type.cells):=by
 have a:=(Wh.1 h).1;show bW _ 0 6 true=_;rw[nI aE.len];have b:B.drop i=v::B.drop (i+1):=by rw[ZH a];rw[Xc a]at h;simp at h;rw[h]
 rw[b,Zi,aE.cells,Yi,ZD,Zv];exact k2 v.type.len
theorem xj(x:aW)(H:Z):bg H false 2 (.agg x.cells)=some (.ak x.cells,H):=by unfold bg;rw[aa ⟨rfl,x.len⟩];rfl
theorem nL(x:aW)(i:Nat):M i (.ak x.cells)=some (.ak (x.cells.drop i)):=rfl
theorem A2(x:aW)(H:Z):O H 1 false (.ak (x.cells.drop 0))=some (.str x.var):=by rw[aW.be];rfl
theorem nM(x:aW)(H:Z):O H 1 false (.ak (x.cells.drop 1))=some (aD aX.cells x.aK):=by rw[aW.be];rfl
section
variable{Φ:ae}{H:Z}{Q:ad}
theorem QG{v:aE}(a:Q (.bool (v.name==x.var)) H):S.f159 Φ (.agg v.cells) (.ak x.cells) H Q:=by
 unfold S.f159;have b:bg H false 7 (.agg v.cells)=some (.ak v.cells,H):=by unfold bg;rw[aa ⟨rfl,v.len⟩];rfl
 have c:O H 1 false (.ak (v.cells.drop 0))=some (.str v.name):=rE v;have l1:O H 1 false (.ak (x.cells.drop 0))=some (.str x.var):=A2 x H;rw[b];simp only[aV,M,G,c,l1,fc];exact a
theorem A3{p:aE→Bool}{a:Nat}{b_:List I}{xs:List aE}(hf:∀x∈xs,∀(R:ad),R (.bool (p x)) H→Φ a ([.agg x.cells]++b_) H R)(hl:xs.length≤9223372036854775807)
  (b:Q (D (e8 (xs.findIdx? p))) H) (c:gA a=none:=by first|assumption|rfl):S.f97 Φ (aD aE.cells xs) (.fn a b_) H Q:=by
 have h:rz 7 Φ (aD aE.cells xs) (.fn a b_) H Q:=AP aE.len (by decide) hf hl b;exact h
theorem QH(W:Cl Φ S.cr)(u:B.length≤maxLen)(I:x.aK.length≤maxLen)
  (K:∀v∈B,bR Φ 125 [.agg v.type.cells] (D (dP v.type)))
  (L:∀(t:aC)(p:aX),cO t=0→p∈x.aK→bR Φ 160 [.agg t.cells,.agg p.cells] (gb (de t p)))
  (w:∀H',Q (gb (bP B x)) H'):S.f133 Φ (aD aE.cells B) (.agg x.cells) H Q:=by
 have hm:maxLen=9223372036854775807:=by decide
 rw[hm]at u I;have fin:∀v H',v=gb (bP B x)→Q v H':=λv H' h=>by rw[h];exact w H'
 clear w;unfold S.f133;simp only[xj,aV,aR,aY];have f:T (H.push (.row dm)) H.n (.row dm):=T.new H _;change T (H.push (.row [J,J,P,ar,J,ar])) H.n _ at f;generalize (H.push (.row [J,J,P,ar,J,ar]))=a at *;generalize H.n=c at *;have bad:∀(e:Int)(H1:Z),T H1 c (.row dm)→e≠0→(bP B x).1=e→Do (ba [J,J,P,ar,J,ar] []) λN=>
   Do (ax H1 6 (.ptr c 0) N) λy=>
   Do (O y 6 true (.ptr c 0)) λU=>
   Q (.aM [U,(D e)]) y:=by
  intro e H1 z he h;rw[xi];simp only[G];rw[z.put (n:=6) rfl rfl rfl];simp only[G];rw[(z.set _).all (n:=6) rfl];simp only[G];refine fin _ _ ?_;unfold gb;rw[h,ab he]
 refine S.AJ W ?_;refine A3 (p:=λv=>v.name==x.var) (λv _ R V=>S.PA W (QG V)) u ?_;simp only[bb,G,ai];rcases lP (λv:aE=>v.name==x.var) B with⟨i,v,j,k,l⟩|⟨j,k⟩
 · have m:=(Wh.1 l).1;have X:=Y7 l;have o:bP B x=if dP v.type≠0 then(dP v.type,v.type)else eN v.type x.aK:=by unfold bP;rw[k]
   rw[j,ab (by show ¬(decide ((i:Int)<0)=true);rw[dh];omega)];simp only[e8];rw[cp m];simp only[G,d_,M,A1 v a l,aV,aR,aY];rw[bO _ _ _ 6 v.type.len v.type.scalar rfl];simp only[G];rw[e9,eM v.type.len];simp only[G];have Y:T (a.push (.row v.type.cells)) a.n (.row v.type.cells):=T.new a _;have ac:c≠a.n:=f.gS;have A:T (a.push (.row v.type.cells)) c (.row dm):=f.push _;generalize (a.push (.row v.type.cells))=ad at *;generalize a.n=C at *;refine K v X _ _ ?_;simp only[cU,G,ai];apply aH<;>intro h
   · have b:dP v.type≠0:=by simpa using h
     exact bad _ _ A b (by rw[o,aa b])
   · have b:dP v.type=0:=by simpa using h
     rw[ab (by simpa using b)]at o;have ae:cO v.type=0:=by
      unfold dP at b;split at b
      ·cases b
      ·exact b
     have main:∀(ps:List aX)(i:Nat)(t:aC)(H1:Z),x.aK.drop i=ps→T H1 c (.row dm)→T H1 C (.row t.cells)→cO t=0→eN t ps=bP B x →
       au (S.wC Φ (.ptr c 0) (.ptr C 0) (aD aX.cells x.aK) (D x.aK.length) Q) ([D i],H1):=by
      intro ps;induction ps with
      | nil=>intro i t H1 q a3 g r d;have hle:=db q;refine au.step ?_;simp only[S.wC,aq,bb,G,ai];rw[cZ];simp only[aB,S.GR];rw[g.all t.len];simp only[G];rw[a3.put (n:=6) rfl t.len t.scalar];simp only[G];rw[(a3.set _).all t.len];simp only[G];refine fin _ _ ?_;rw[←d];rfl
      | cons p ps af=>
       intro i t H1 q a3 g r d;obtain⟨m,E,ag⟩:=c8 q;refine au.step ?_;simp only[S.wC,aq,bb,G,ai];rw[ch,cp m];simp only[G];rw[dd aX.len (by decide) _ E];simp only[G,aV,aR,aY];rw[bO _ _ _ 2 p.len p.scalar rfl];simp only[G];rw[(g.push _).all t.len,e9,eM p.len];simp only[G];refine L t p r (Y7 E) _ _ ?_;simp only[eN]at d;have b3:=a3.push (.row p.cells);have F:=g.push (.row p.cells);generalize H1.push (.row p.cells)=ah at *;by_cases he:(de t p).1=0
       · rw[ab (by simpa using he)]at d;have s:gb (de t p) = .aM [.agg (de t p).2.cells,J]:=by unfold gb;rw[aa he]
         rw[s];simp only[bI,Zn,Zo,G];rw[bO _ _ _ 6 (de t p).2.len (de t p).2.scalar rfl];simp only[G,cU,ai];rw[aN,e9,eM (de t p).2.len];simp only[G];rw[(F.push _).put t.len (de t p).2.len (de t p).2.scalar];simp only[G,bu];rw[bM,fb i];exact af (i+1) _ _ ag ((b3.push _).br ac _) ((F.push _).set _) (Ib r he) d
       · rw[aa he]at d;have s:gb (de t p) = .aM [.agg dm,D (de t p).1]:=by unfold gb;rw[ab he]
         rw[s];simp only[bI,Zn,Zo,G];rw[bO _ _ _ 6 rfl rfl rfl];simp only[G,cU,ai];rw[aa (by simpa using he)];exact bad _ _ (b3.push _) he (by rw[←d])
     simp only[nL,nM,bH,G];exact main x.aK 0 v.type ad rfl A Y ae o.symm
 · rw[j,aa (by simp[e8])];exact bad 6 _ f (by decide) (by unfold bP;rw[k])
end
end Rb

namespace Rb
open Go
variable{t:aC}{p:aC→Bool}{key:Nat}{b_:List I}{xs:List aC}{n step:Int}
mutual
def ew:aC→Bool
 | .mk kind size packed aI bZ bf=>((kind==2&&decide (size>1))||xk bf)||xl aI
def QI:aT→Bool
 | .mk name type bits bn=>ew type
def xk:List aC→Bool
 |[]=>false
 |t::r=>ew t||xk r
def xl:List aT→Bool
 |[]=>false
 |f::r=>QI f||xl r
end
mutual
def eO:aC→Bool
 | .mk kind size packed aI bZ bf=>((packed&&ew (.mk kind size packed aI bZ bf))||xm bf)||xo aI
def QJ:aT→Bool
 | .mk name type bits bn=>eO type
def xm:List aC→Bool
 |[]=>false
 |t::r=>eO t||xm r
def xo:List aT→Bool
 |[]=>false
 |f::r=>QJ f||xo r
end
theorem Ie:∀l:List aC,xk l=l.any ew
 |[]=>rfl
 |t::r=>by rw[xk,Ie r,Z4]
theorem Ig:∀l:List aT,xl l=l.any λf=>ew f.type
 |[]=>rfl
 |f::r=>by rw[xl,Ig r,Z4];cases f;rfl
theorem A4:∀l:List aC,xm l=l.any eO
 |[]=>rfl
 |t::r=>by rw[xm,A4 r,Z4]
theorem A5:∀l:List aT,xo l=l.any λf=>eO f.type
 |[]=>rfl
 |f::r=>by rw[xo,A5 r,Z4];cases f;rfl
theorem Ih(t:aC):ew t=(((t.kind==2&&decide (t.size>1))||t.bf.any ew)||t.aI.any λf=>ew f.type):=by cases t;rw[ew,Ie,Ig]
theorem Ii(t:aC):eO t=(((t.packed&&ew t)||t.bf.any eO)||t.aI.any λf=>eO f.type):=by cases t;rw[eO,A4,A5]
theorem dc(ht:t.ok):t.aI.length≤9223372036854775807∧(∀f∈t.aI,f.type.ok)∧t.bf.length≤9223372036854775807∧∀e∈t.bf,e.ok:=by
 have hm:maxLen=9223372036854775807:=by decide
 cases t with
 | mk kind size packed aI bZ bf=>obtain⟨_,_,a,c,_,b,d⟩:=ht;rw[hm]at a b;exact⟨a,λf hf=>by have:=aT.ek.1 c f hf;cases f;exact this.2.1,b,aC.ek.1 d⟩
section
variable{Φ:ae}{H:Z}{Q:ad}
theorem QK(hf:∀x∈xs,∀(R:ad),R (.bool (p x)) H→Φ key ([.agg x.cells]++b_) H R)(hl:xs.length≤9223372036854775807)
  (a:Q (D (e8 (xs.findIdx? p))) H) (b:gA key=none:=by first|assumption|rfl):S.f181 Φ (aD aC.cells xs) (.fn key b_) H Q:=by
 have h:rz 6 Φ (aD aC.cells xs) (.fn key b_) H Q:=AP aC.len (by decide) hf hl a;exact h
theorem Ij(W:Cl Φ S.cr)(hf:∀x∈xs,∀(R:ad),R (.bool (p x)) H→Φ key ([.agg x.cells]++b_) H R)(hl:xs.length≤9223372036854775807)
  (a:Q (.bool (xs.any p)) H) (b:gA key=none:=by first|assumption|rfl):Φ 154 [aD aC.cells xs,.fn key b_] H Q:=by
 refine S.Px W ?_;unfold S.f154;refine S.PN W (QK hf hl ?_);simp only[eu,G,xf];exact a
theorem xp(f:aT)(H:Z):bg H false 9 (.agg f.cells)=some (.ak f.cells,H):=by unfold bg;rw[aa ⟨rfl,f.len⟩];rfl
theorem Ik(f:aT)(H:Z):O H 6 true (.ak (f.cells.drop 1))=some (.agg f.type.cells):=by show bW _ 0 6 true=_;rw[aT.be,ZD,Zv];exact k2 f.type.len
theorem QL(W:Cl Φ S.cr)(j:t.aI.length≤9223372036854775807)(k:t.bf.length≤9223372036854775807)(hf:∀f∈t.aI,bR Φ 153 [.agg f.type.cells] (.bool (ew f.type)))
  (he:∀e∈t.bf,bR Φ 153 [.agg e.cells] (.bool (ew e))) (g:Q (.bool (ew t)) H):S.f153 Φ (.agg t.cells) H Q:=by
 have fin:∀b,b=ew t→Q (.bool b) H:=λb h=>by rw[h];exact g
 clear g;rw[Ih]at fin;unfold S.f153;simp only[fH,aV,cw,ia,kx,bc,dv,G,bG];have a:∀b:Bool,b=((t.kind==2&&decide (t.size>1))||t.bf.any ew)→U (S.wL Φ (.ak t.cells) Q) [.bool b] H:=by
  intro b c;rw[←c]at fin;simp only[aB,S.wL,aq,b7,cw,fq,G];apply aH<;>intro h
  · refine AX W (p:=λf=>ew f.type) (λf l R d=>?_) j (fin _ (by rw[h];rfl));refine S.PM W ?_;unfold S.f180;simp only[xp,aV,M,G,Ik];exact hf f l _ _ d
  · simp only[ZV]at h;exact fin _ (by rw[h];rfl)
 have i:∀b:Bool,b=(t.kind==2&&decide (t.size>1))→U (S.wM Φ (.ak t.cells) Q) [.bool b] H:=by
  intro b c;rw[←c]at a;simp only[aB,S.wM,aq,b7,cw,gL,G];apply aH<;>intro h
  ·refine Ij W (p:=ew) (λe m R d=>he e m _ _ d) k (a _ (by rw[h];rfl))
  · simp only[ZV]at h;exact a _ (by rw[h];rfl)
 apply aH<;>intro h
 ·exact i _ (by rw[h];rfl)
 · simp only[ZU]at h;exact i _ (by rw[h];rfl)
theorem QM(W:Cl Φ S.cr)(j:t.aI.length≤9223372036854775807)(k:t.bf.length≤9223372036854775807)(l:bR Φ 153 [.agg t.cells] (.bool (ew t)))(hf:∀f∈t.aI,bR Φ 126 [.agg f.type.cells] (.bool (eO f.type)))
  (he:∀e∈t.bf,bR Φ 126 [.agg e.cells] (.bool (eO e))) (g:Q (.bool (eO t)) H):S.f126 Φ (.agg t.cells) H Q:=by
 have fin:∀b,b=eO t→Q (.bool b) H:=λb h=>by rw[h];exact g
 clear g;rw[Ii]at fin;unfold S.f126;simp only[fH,aV,cw,k3,iO,G,bG];have a:∀b:Bool,b=((t.packed&&ew t)||t.bf.any eO)→U (S.wx Φ (.ak t.cells) Q) [.bool b] H:=by
  intro b c;rw[←c]at fin;simp only[aB,S.wx,aq,b7,cw,fq,G];apply aH<;>intro h
  · refine AX W (p:=λf=>eO f.type) (λf m R d=>?_) j (fin _ (by rw[h];rfl));refine S.Pz W ?_;unfold S.f156;simp only[xp,aV,M,G,Ik];exact hf f m _ _ d
  · simp only[ZV]at h;exact fin _ (by rw[h];rfl)
 have i:∀b:Bool,b=(t.packed&&ew t)→U (S.wy Φ (.ak t.cells) Q) [.bool b] H:=by
  intro b c;rw[←c]at a;simp only[aB,S.wy,aq,b7,cw,gL,G];apply aH<;>intro h
  ·refine Ij W (p:=eO) (λe n R d=>he e n _ _ d) k (a _ (by rw[h];rfl))
  · simp only[ZV]at h;exact a _ (by rw[h];rfl)
 apply aH<;>intro h
 ·exact l _ _ (i _ (by rw[h];rfl))
 · simp only[ZU]at h;exact i _ (by rw[h];rfl)
def cJ(n step:Int):Int:=Xv .i64 (Xv .i64 ((Xv .i64 (Xv .i64 (n+step)-1)).tdiv step)*step)
theorem po(h:step≠0)(a:Q (D (cJ n step)) H):S.f185 Φ (D n) (D step) H Q:=by unfold S.f185;simp only[bu,dA,G];rw[jw _ _ _ h];simp only[G,fD];exact a
theorem QN(b:0≤n)(c:n≤1000000000)(d:1≤step)(e:step≤1000000):cJ n step=(n+step-1)/step*step:=by
 unfold cJ;have hs:step≠0:=by omega
 have e1:=Int.ediv_mul_le (n+step-1) hs;have a:0≤(n+step-1)/step:=Z5 (by omega) (by omega);have f:(n+step-1)/step≤n+step-1:=Z6 _ (by omega);have g:0≤(n+step-1)/step*step:=Z7 a (by omega);rw[wrap_i64 (n:=n+step) (by omega) (by omega),wrap_i64 (n:=n+step-1) (by omega) (by omega),Z8 (by omega),wrap_i64 (n:=(n+step-1)/step) (by omega) (by omega),bM]
end
section
variable{C:Ctx}(W:Cl (aj C) S.cr)
include W
theorem QO:∀t:aC,t.ok→bR (aj C) 153 [.agg t.cells] (.bool (ew t)):=by refine aC.ind λt a b ht=>?_;obtain⟨c,d,g,h⟩:=dc ht;exact λH Q i=>S.Pw W (QL W c g (λf hf=>a f hf (d f hf)) (λe he=>b e he (h e he)) i)
theorem QP:∀t:aC,t.ok→bR (aj C) 126 [.agg t.cells] (.bool (eO t)):=by refine aC.ind λt a b ht=>?_;obtain⟨c,d,g,h⟩:=dc ht;exact λH Q i=>S.Pf W (QM W c g (QO W t ht) (λf hf=>a f hf (d f hf)) (λe he=>b e he (h e he)) i)
end
end Rb

namespace Rb
open Go
variable{sz len:Nat}{x:I}{cs:List I}
structure bN where
 at_:Int
 len:Int
 kind:Int
 bits:Bool
 bit:Int
 bn:Int
def bN.cells(s:bN):List I:=[D s.at_,D s.len,D s.kind,.bool s.bits,D s.bit,D s.bn]
structure PL where
 size:Int
 bB:Int
 dM:List bN
 bit:Int
abbrev X(n:Int):Int:=Xv .i64 n
def hL(p:PL)(f:aT):Int:=if X (p.bit.tdiv (X (8*f.type.size)))≠X ((X (X (p.bit+f.bn)-1)).tdiv (X (8*f.type.size)))then cJ p.bit (X (8*f.type.size))else p.bit
def k6(p:PL)(f:aT):PL:=
 if f.bn=0 then
  {p with bit:=cJ p.bit (X (8*f.type.size)),dM:=p.dM++[⟨X ((cJ p.bit (X (8*f.type.size))).tdiv 8),0,1,true,(cJ p.bit (X (8*f.type.size))).tmod 8,0⟩]}
 else
  {p with bit:=X (hL p f+f.bn),dM:=p.dM++[⟨X ((hL p f).tdiv 8),X (X (X ((X (X (hL p f+f.bn)-1)).tdiv 8)-X ((hL p f).tdiv 8))+1),1,true,(hL p f).tmod 8,f.bn⟩]}
def e3(packed:Bool)(f:aT)(bB:Int):Int:=if packed=true∨(f.bits=true∧f.bn=0)then 1 else if f.bits=true then f.type.size else bB
def xq(p:PL)(f:aT)(size bB:Int):PL:={p with bit:=X (8*X (cJ (X ((cJ p.bit 8).tdiv 8)) bB+size)),dM:=p.dM++[⟨cJ (X ((cJ p.bit 8).tdiv 8)) bB,size,f.type.kind,false,0,0⟩]}
def k7(p:PL):PL:={p with size:=max p.size (X ((cJ p.bit 8).tdiv 8))}
def hM(packed:Bool)(kind:Int)(p:PL)(f:aT)(g:Int×Int):PL:=
 let a:PL:={p with bB:=max p.bB (e3 packed f g.2),bit:=if kind=4 then 0 else p.bit}
 k7 (if f.bits=true then k6 a f else xq a f g.1 (e3 packed f g.2))
mutual
def bp:aC→(Int×Int)×Bool
 | .mk kind size packed aI bZ bf=>
  if kind=1∨kind=2 then((size,size),true)
  else if kind=5 then((X ((jx bf).1.1*bZ),(jx bf).1.2),(jx bf).2&&decide (X ((jx bf).1.1*bZ)≤65536))
  else match dQ packed kind ⟨0,1,[],0⟩ aI with
   |none=>((0,0),false)
   |some p=>((cJ p.size p.bB,p.bB),decide (cJ p.size p.bB≤65536))
def jx:List aC→(Int×Int)×Bool
 |[]=>((0,0),false)
 |t::_=>bp t
def A6:aT→(Int×Int)×Bool
 | .mk name type bits bn=>bp type
def dQ(packed:Bool)(kind:Int)(p:PL):List aT→Option PL
 |[]=>some p
 |f::r=>if(A6 f).2=true then dQ packed kind (hM packed kind p f (A6 f).1) r else none
end
theorem pq(f:aT):A6 f=bp f.type:=by cases f;rfl
theorem kz(t:aC):bp t=if t.kind=1∨t.kind=2 then((t.size,t.size),true)
  else if t.kind=5 then((X ((jx t.bf).1.1*t.bZ),(jx t.bf).1.2),(jx t.bf).2&&decide (X ((jx t.bf).1.1*t.bZ)≤65536))
  else match dQ t.packed t.kind ⟨0,1,[],0⟩ t.aI with
   |none=>((0,0),false)
   |some p=>((cJ p.size p.bB,p.bB),decide (cJ p.size p.bB≤65536)):=by cases t;rfl
theorem hJ.QQ{H0 H:Z}{sz g len m:Nat}{x y:I}{cells news:List I}{K:ad}(h:hJ H0 H sz x len cells)(j:hC H sz y=some (m,news))(r:news.length=m*sz)(hs:news.all I.scalar=true)(k:m≠0)
  (l:(len+m)*g≤140737488355328) (hl:len+m≤9223372036854775807) (p:∀q H',hJ H0 H' sz q (len+m) (cells++news)→(∀i o,T H i o→(∀a b,o ≠ .tok a b)→T H' i o)→K q H'):aJ (cX H false sz g x y) K:=by
 obtain⟨c,tk,rfl,hc,s⟩:=h;have hlen:(cells++news).length=(len+m)*sz:=by simp[hc,r,WT]
 rcases s with⟨rfl,rfl⟩|⟨t,rfl,u,w,f⟩
 · refine⟨.av (.own H.n) (0+m) (cells++news),H.push (.tok ((0+m)*sz) sz),?_,p _ _ ⟨c.trans (Z.Ext.push _ _),_,rfl,hlen,.inr ⟨H.n,rfl,c.1,Y9 _,Z.pj _ _⟩⟩ λi o d _=>d.push _⟩;simp only[cX,j,hs,not_true_eq_false,cu,ab k];rw[ab (by simp only[ZC];exact⟨hc,l,hl⟩)]
 · refine ⟨.av (.own H.n) (len+m) (cells++news),(H.set t .gone).push (.tok ((len+m)*sz) sz),?_,p _ _ ⟨(c.set u _).trans (Z.Ext.push _ _),_,rfl,hlen,.inr ⟨H.n,rfl,c.1,Y9 _,Z.pj _ _⟩⟩ λi o d v=>?_⟩
   · simp only[cX,j,hs,not_true_eq_false,cu,ab k];rw[ab (by simp only[ZC];exact⟨hc,l,hl⟩)];simp[f]
   ·exact(d.br (λe=>by subst e;rw[d.2]at f;exact v _ _ f) _).push _
theorem hJ.other{H0 H:Z}{cells:List I}(h:hJ H0 H sz x len cells){id:Nat}(b:T H id (.row cs))(c:H0.n≤id)(y:cN):hJ H0 (H.set id y) sz x len cells:=by
 obtain⟨d,tk,rfl,hc,f⟩:=h;refine⟨d.set c y,tk,rfl,hc,?_⟩;rcases f with h|⟨t,rfl,g,i,a⟩
 ·exact .inl h
 ·exact .inr ⟨t,rfl,g,i,by rw[Z.br _ _ (λe=>by subst e;rw[b.2]at a;cases a)];exact a⟩
theorem hJ.push{H0 H:Z}{cells:List I}(h:hJ H0 H sz x len cells)(y:cN):hJ H0 (H.push y) sz x len cells:=by
 obtain⟨a,tk,rfl,hc,b⟩:=h;refine⟨a.trans (Z.Ext.push _ _),tk,rfl,hc,?_⟩;rcases b with h|⟨t,rfl,c,d,e⟩
 ·exact .inl h
 ·exact .inr ⟨t,rfl,c,Nat.lt_succ_of_lt d,by rw[Z.Qc _ _ (by omega)];exact e⟩
def eG(H0 H:Z)(id:Nat)(p:PL):Prop:=∃x,T H id (.row [D p.size,D p.bB,x,D p.bit])∧hJ H0 H 6 x p.dM.length (p.dM.flatMap bN.cells)∧H0.n≤id
theorem eG.push{H0 H:Z}{id:Nat}{p:PL}(h:eG H0 H id p)(y:cN):eG H0 (H.push y) id p:=by obtain⟨x,a,b,c⟩:=h;exact⟨x,a.push y,b.push y,c⟩
theorem eG.other{H0 H:Z}{id i:Nat}{p:PL}(h:eG H0 H id p)(a:T H i (.row cs))(hi:H0.n≤i)(b:id≠i)(y:cN):eG H0 (H.set i y) id p:=by obtain⟨x,c,d,e⟩:=h;exact⟨x,c.br b y,d.other a hi y,e⟩
def jy(H H':Z)(id:Nat):Prop:=∀i cs,i≠id→T H i (.row cs)→T H' i (.row cs)
theorem jy.refl(H:Z)(id:Nat):jy H H id:=λ_ _ _ h=>h
theorem jy.trans{H H' a:Z}{id:Nat}(h:jy H H' id)(k:jy H' a id):jy H a id:=λi cs hi b=>k i cs hi (h i cs hi b)
section
variable{H0 H:Z}{id:Nat}{p:PL}{K:Z→Prop}
theorem eG.rF(h:eG H0 H id p):O H 1 false (.ptr id 0)=some (D p.size):=by obtain⟨x,a,_⟩:=h;rw[a.load];rfl
theorem eG.xr(h:eG H0 H id p):O H 1 false (.ptr id 1)=some (D p.bB):=by obtain⟨x,a,_⟩:=h;rw[a.load];rfl
theorem eG.nN(h:eG H0 H id p):O H 1 false (.ptr id 3)=some (D p.bit):=by obtain⟨x,a,_⟩:=h;rw[a.load];rfl
theorem eG.Il(h:eG H0 H id p)(v:Int)(c:∀H',eG H0 H' id {p with size:=v}→jy H H' id→K H'):Do (ax H 1 (.ptr id 0) (D v)) K:=by obtain⟨x,a,d,b⟩:=h;refine⟨_,by rw[a.store,aa ⟨rfl,rfl,rfl,by simp⟩];rfl,c _ ⟨x,a.set _,d.other a b _,b⟩ λi cs hi e=>e.br hi _⟩
theorem eG.QR(h:eG H0 H id p)(v:Int)(c:∀H',eG H0 H' id {p with bB:=v}→jy H H' id→K H'):Do (ax H 1 (.ptr id 1) (D v)) K:=by obtain⟨x,a,d,b⟩:=h;refine⟨_,by rw[a.store,aa ⟨rfl,rfl,rfl,by simp⟩];rfl,c _ ⟨x,a.set _,d.other a b _,b⟩ λi cs hi e=>e.br hi _⟩
theorem eG.rG(h:eG H0 H id p)(v:Int)(c:∀H',eG H0 H' id {p with bit:=v}→jy H H' id→K H'):Do (ax H 1 (.ptr id 3) (D v)) K:=by obtain⟨x,a,d,b⟩:=h;refine⟨_,by rw[a.store,aa ⟨rfl,rfl,rfl,by simp⟩];rfl,c _ ⟨x,a.set _,d.other a b _,b⟩ λi cs hi e=>e.br hi _⟩
theorem eG.app(h:eG H0 H id p)(hl:p.dM.length<1000)(s:bN)(j:∀H',eG H0 H' id {p with dM:=p.dM++[s]}→jy H H' id→K H') :
  Do (O H 1 false (.ptr id 2)) λk=>
  aJ (c9 H false 6 1 [J,J,J,P,J,J] [(0,6,.agg s.cells)]) λl n=>
  aJ (cX n false 6 48 k l) λo q=>
  Do (ax q 1 (.ptr id 2) o) K:=by
 obtain⟨x,e,r,f⟩:=h;have e1:O H 1 false (.ptr id 2)=some x:=by rw[e.load];rfl
 have t:c9 H false 6 1 [J,J,J,P,J,J] [(0,6,.agg s.cells)]=some (.av .full 1 s.cells,H):=rfl;rw[e1,t];simp only[G,aV];refine r.QQ (m:=1) (news:=s.cells) rfl rfl rfl (by decide) (by omega) (by omega) λc H' g hk=>?_;have Y:=hk id _ e (by intro a b h;cases h);have d:c.scalar=true∧c.known=true∧c.cells=[c]:=by obtain⟨_,tk,rfl,_⟩:=g;exact⟨rfl,rfl,rfl⟩
 refine⟨_,by rw[Y.store,aa ⟨d.2.1,by rw[d.2.2];rfl,by rw[d.2.2];simp[d.1],by simp⟩,d.2.2];rfl,j _ ⟨c,Y.set _,?_,f⟩ λi cs hi u=>(hk i _ u (by intro a b h;cases h)).br hi _⟩;have:=g.other Y f (.row [D p.size,D p.bB,c,D p.bit]);simpa using this
end
end Rb

namespace Rb
open Go
theorem xt(a b:Int):ba [J,J] [(0,1,D a),(1,1,D b)]=some (.agg [D a,D b]):=rfl
theorem QS(a:Int):ba [J,J] [(0,1,D a)]=some (.agg [D a,J]):=rfl
theorem QT(a l k b:Int):ba [J,J,J,P,J,J] [(0,2,.agg [D a,D l]),(2,1,D k),(3,1,bd),(4,1,D b)]=some (.agg [D a,D l,D k,bd,D b,J]):=rfl
theorem QU(a l k b w:Int):ba [J,J,J,P,J,J] [(0,2,.agg [D a,D l]),(2,1,D k),(3,1,bd),(4,1,D b),(5,1,D w)]=some (.agg [D a,D l,D k,bd,D b,D w]):=rfl
theorem QV(a l k:Int):ba [J,J,J,P,J,J] [(0,2,.agg [D a,D l]),(2,1,D k)]=some (.agg [D a,D l,D k,P,J,J]):=rfl
theorem Im(f:aT)(i j:Nat):M i (.ak (f.cells.drop j))=some (.ak ((f.cells.drop j).drop i)):=rfl
theorem Io(f:aT)(i:Nat):M i (.ak f.cells)=some (.ak (f.cells.drop i)):=rfl
theorem QW(f:aT)(H:Z):O H 1 false (.ak (f.cells.drop 7))=some (.bool f.bits):=by cases f with|mk n t b w=>cases t;rfl
theorem A7(f:aT)(H:Z):O H 1 false (.ak (f.cells.drop 8))=some (D f.bn):=by cases f with|mk n t b w=>cases t;rfl
theorem Ip(f:aT)(H:Z):O H 1 false (.ak ((f.cells.drop 1).drop 1))=some (D f.type.size):=by cases f with|mk n t b w=>cases t;rfl
theorem Iq(i o:Nat):aO (.ptr i o)=some (.ptr i o):=rfl
section
variable{Φ:ae}{H0 H:Z}{Q:ad}
theorem QX(W:Cl Φ S.cr){f:aT}{p:PL}{id:Nat}(c:eG H0 H id p)(hl:p.dM.length<1000)(g:X (8*f.type.size)≠0)(k:∀H',eG H0 H' id (k6 p f)→jy H H' id→Q (.aM []) H'):S.f184 Φ (.ptr id 0) (.agg f.cells) H Q:=by
 unfold S.f184;simp only[xp,aV,Io,Im,Ip,A7,fD,bc,G,ai,Iq,M,W7];apply aH<;>intro h
 · have hw:f.bn=0:=by simpa using h
   simp only[c.nN,G];refine S.pg W (po g ?_);refine c.rG _ λH1 a d=>?_;have i:=a.nN;simp only[i,G,jw _ _ _ (show(8:Int)≠0 by decide),iN _ _ _ (show(8:Int)≠0 by decide),QS,QT];refine a.app hl ⟨X ((cJ p.bit (X (8*f.type.size))).tdiv 8),0,1,true,(cJ p.bit (X (8*f.type.size))).tmod 8,0⟩ λl e j=>k l ?_ (d.trans j);unfold k6;rw[aa hw];exact e
 · have hw:¬f.bn=0:=by simpa using h
   simp only[c.nN,G,jw _ _ _ g,bu,dA,cU,ai];have m:∀(b:Int)(H1:Z),b=hL p f→eG H0 H1 id {p with bit:=b}→jy H H1 id→U (S.w6 Φ (.ptr id 0) (.ak f.cells) Q) [] H1:=by intro b H1 n a d;have i:=a.nN;simp only[aB,S.w6,Iq,M,W7,G,i,jw _ _ _ (show(8:Int)≠0 by decide),iN _ _ _ (show(8:Int)≠0 by decide),A7,bu,dA,xt,QU];refine a.app hl ⟨X (b.tdiv 8),X (X (X ((X (X (b+f.bn)-1)).tdiv 8)-X (b.tdiv 8))+1),1,true,b.tmod 8,f.bn⟩ λl e j=>?_;have o:=e.nN;simp only[o,G,bu];refine e.rG _ λq r s=>k q ?_ ((d.trans j).trans s);unfold k6;rw[ab hw,←n];exact r
   apply aH<;>intro h
   · refine S.pg W (po g ?_);refine c.rG _ λH1 a d=>m _ H1 ?_ a d;unfold hL;rw[aa (by simpa using h)]
   · refine m p.bit H ?_ c (jy.refl _ _);unfold hL;rw[ab (by simpa using h)]
theorem QY{t:aC}{f:aT}{bB:Int}(a:Q (D (e3 t.packed f bB)) H):S.f183 Φ (.agg t.cells) (.agg f.cells) (D bB) H Q:=by
 have fin:∀v,v=e3 t.packed f bB→Q (D v) H:=λv h=>by rw[h];exact a
 clear a;unfold S.f183;simp only[fH,xp,aV,cw,k3,Io,QW,A7,bc,G,b7,bG,aB,S.w5,aq,ai,Im,Ip,Yf,cu,aY];unfold e3 at fin
 repeat' (apply aH<;>intro h)
 all_goals (refine fin _ ?_;simp_all)
end
end Rb

namespace Rb
open Go
def lQ(r:(Int×Int)×Bool):I:= .aM [.agg [D r.1.1,D r.1.2],.bool r.2]
theorem xu{packed:Bool}:∀{l:List aT}{seen:List (List UInt8)},fp packed seen l=0→∀f∈l,f.bits=true→f.type.kind=1∧1≤f.type.size∧f.type.size≤8
 |[],_,_,f,hf=>by cases hf
 | g :: r, seen,h,f,hf=>by
  intro c;have hs:=nK h f hf;simp only[fp]at h;have a:gp packed seen g=0:=by
   by_cases b:gp packed seen g=0
   ·exact b
   ·rw[aa b]at h;exact absurd h b
  rw[ab (by simpa using a)]at h;rcases YI.1 hf with rfl|hf
  · have hk : f.type.kind=1:=by
      by_cases hk:f.type.kind=1
      ·exact hk
      · exfalso;rw[k4]at a;split at a
        ·cases a
        · split at a
          ·cases a
          · split at a
            ·rename_i b;exact b a
            ·rw[aa (.inr ⟨c,.inl hk⟩)]at a;cases a
    refine⟨hk,?_⟩;rw[gT,hk]at hs;split at hs
    ·cases hs
    · simp only[aY]at hs;split at hs
      · rename_i d;simp[dU]at d;omega
      ·cases hs
  ·exact xu h f hf c
theorem A8{t:aC}(h:cO t=0)(hk:t.kind=3∨t.kind=4):fp t.packed [] t.aI=0:=by
 rw[gT]at h;have a:t.kind≠1:=by omega
 have b:t.kind≠2:=by omega
 have c:t.kind≠5:=by omega
 rw[ab a,ab b,ab c]at h;split at h
 ·cases h
 · split at h
   ·cases h
   ·exact h
theorem Ir(a b:Int):ka true [D a,D b]=some (D (max a b)):=AU a b
section
variable{Φ:ae}{H:Z}{Q:ad}
def ib:List I:=[J,J,ar,J]
theorem Is(W:Cl Φ S.cr){t:aC}(hs:cO t=0)(hk:t.kind=3∨t.kind=4)
  (al:∀f∈t.aI,bR Φ 127 [.agg f.type.cells] (lQ (bp f.type))) (am:∀f∈t.aI,(bp f.type).2=true→1≤(bp f.type).1.2)
  (an:dQ t.packed t.kind ⟨0,1,[],0⟩ t.aI=none→∀H',Z.Ext H H'→Q (.aM [.agg ib,P]) H')
  (ao:∀p,dQ t.packed t.kind ⟨0,1,[],0⟩ t.aI=some p→∀x H',hJ H H' 6 x p.dM.length (p.dM.flatMap bN.cells) →
    Q (.aM [.agg [D (cJ p.size p.bB),D p.bB,x,D p.bit],.bool (decide (cJ p.size p.bB≤65536))]) H'):S.f157 Φ (.agg t.cells) H Q:=by
 obtain⟨a4,hlen⟩:=mF hs hk;have L:=A8 hs hk;unfold S.f157;have ap:ba [J,J,ar,J] [(0,2,.agg [J,D 1])]=some (.agg [J,D 1,ar,J]):=rfl;simp only[fH,aV,aR,aY,xt,ap,G];rw[bO _ _ _ 4 rfl rfl rfl];simp only[G,cw,fq,bH];have a3:T ((H.push (.row ib)).push (.row [J,D 1,ar,J])) H.n (.row ib):=(T.new H _).push _;have av:eG H ((H.push (.row ib)).push (.row [J,D 1,ar,J])) (H.push (.row ib)).n ⟨0,1,[],0⟩:=⟨_,T.new _ _,((hJ.nil H 6).push _).push _,W4 _⟩
 have d:H.n≠(H.push (.row ib)).n:=by simp
 have N:H.n≤H.n:=hT _;change au (S.nD Φ (.ak t.cells) (.ptr H.n 0) (.ptr (H.push (.row ib)).n 0) (aD aT.cells t.aI) (D t.aI.length) Q) ([J],(H.push (.row ib)).push (.row [J,D 1,ar,J]));generalize ((H.push (.row ib)).push (.row [J,D 1,ar,J]))=aw at *;generalize (H.push (.row ib)).n=a at *;have main : ∀(fs:List aT)(i:Nat)(p:PL)(H1:Z),t.aI.drop i=fs→T H1 H.n (.row ib)→eG H H1 a p→p.dM.length≤i→1≤p.bB→dQ t.packed t.kind p fs=dQ t.packed t.kind ⟨0,1,[],0⟩ t.aI →
   au (S.nD Φ (.ak t.cells) (.ptr H.n 0) (.ptr a 0) (aD aT.cells t.aI) (D t.aI.length) Q) ([D i],H1):=by
  intro fs;induction fs with
  | nil=>
   intro i p H1 A b3 m ax ay g;have hle:=db A;simp only[dQ]at g;refine au.step ?_;simp only[S.nD,aq,bb,G,ai];rw[cZ];simp only[aB,S.Hf,M,W7,G,m.rF,m.xr];refine S.pg W (po (by omega) ?_);refine m.Il _ λo s hk=>?_;have c3:=hk H.n _ d b3;obtain⟨x,d1,d2,d3⟩:=s;have B:x.scalar=true:=by obtain⟨_,tk,rfl,_⟩:=d2;rfl
   rw[d1.all (n:=4) rfl];simp only[G];have az:O o 1 false (.ptr a 0)=some (D (cJ p.size p.bB)):=by rw[d1.load];rfl
   rw[az];simp only[G,gR];rw[c3.put (n:=4) rfl rfl (by simp only[Y6,B];rfl)];simp only[G];refine⟨by rw[(d1.br (λe=>d e.symm) _).load];rfl,?_⟩;rw[(c3.set _).all (n:=4) rfl];simp only[G];exact ao p g.symm x _ (d2.other c3 N _)
  | cons f fs aA=>
   intro i p H1 A b3 m ax ay g;obtain⟨aE,hf,aF⟩:=c8 A;have u:=Y7 hf;simp only[dQ,pq]at g;refine au.step ?_;simp only[S.nD,aq,bb,G,ai];rw[ch,cp aE];simp only[G];rw[dd aT.len (by decide) _ hf];simp only[G,aV,aR,aY];rw[bO _ _ _ 9 f.len f.scalar rfl];simp only[G,M,W7];rw[e9,xd];simp only[G];have R:a≠H1.n:=by obtain⟨x,d1,_⟩:=m;exact d1.gS
   have aG:=T.new H1 (.row f.cells);have c3:=b3.push (.row f.cells);have s:=m.push (.row f.cells);generalize H1.push (.row f.cells)=o at *;generalize H1.n=q at *;refine al f u _ _ ?_;simp only[lQ,bI,Zn,Zo,G,aV];rw[bO _ _ _ 2 rfl rfl rfl];simp only[G,cV,ai];have C:a≠o.n:=by obtain⟨x,d1,_⟩:=s;exact d1.gS
   have d31:=T.new o (.row [D (bp f.type).1.1,D (bp f.type).1.2]);have d22:=aG.push (.row [D (bp f.type).1.1,D (bp f.type).1.2]);have d3:=c3.push (.row [D (bp f.type).1.1,D (bp f.type).1.2]);have d7:=s.push (.row [D (bp f.type).1.1,D (bp f.type).1.2]);generalize o.push (.row [D (bp f.type).1.1,D (bp f.type).1.2])=aJ at *;generalize o.n=j at *;apply aH<;>intro h
   · have aK:(bp f.type).2=false:=by simpa using h
     rw[ab (by simp[aK])]at g;have aL:ba [J,J,ar,J] []=some (.agg ib):=rfl;rw[aL];simp only[G];rw[d3.put (n:=4) rfl rfl rfl];simp only[G];rw[(d3.set _).all (n:=4) rfl];simp only[G];obtain⟨a5,_,⟨B,_⟩,_⟩:=d7;exact an g.symm _ (B.set N _)
   · have U:(bp f.type).2=true:=by simpa using h
     rw[aa U]at g;have aN:=am f u U;have aO:O aJ 1 false (.ptr j 1)=some (D (bp f.type).1.2):=by rw[d31.load];rfl
     simp only[iO,d22.all f.len,aO,G];have a6:1≤e3 t.packed f (bp f.type).1.2:=by
      unfold e3;split
      ·omega
      · split
        ·rename_i v;exact(xu L f u v).2.1
        ·exact aN
     refine S.PO W (QY ?_);simp only[d7.xr,G,Ir];refine d7.QR _ λaP V w=>?_;have Y:=w H.n _ d d3;have ac:=w q _ (λe=>R e.symm) d22;have ad:=w j _ (λe=>C e.symm) d31;clear w d7 d3 d22 d31;have ae:∀(b:Int)(c:Z),b=(if t.kind=4 then 0 else p.bit)→eG H c a {p with bB:=max p.bB (e3 t.packed f (bp f.type).1.2),bit:=b}→T c H.n (.row ib)→T c q (.row f.cells)→T c j (.row [D (bp f.type).1.1,D (bp f.type).1.2]) →
       S.wO Φ (.ptr a 0) (.ptr q 0) (.ptr j 0) (D (e3 t.packed f (bp f.type).1.2)) ([D i],H1) (au (S.nD Φ (.ak t.cells) (.ptr H.n 0) (.ptr a 0) (aD aT.cells t.aI) (D t.aI.length) Q)) Q [] c:=by
      intro b c v g7 g3 g22 af;have ag:∀(r:PL)(k:Z),k7 r=hM t.packed t.kind p f (bp f.type).1→eG H k a r→T k H.n (.row ib)→r.dM.length≤i+1→1≤r.bB →
        S.wN Φ (.ptr a 0) ([D i],H1) (au (S.nD Φ (.ak t.cells) (.ptr H.n 0) (.ptr a 0) (aD aT.cells t.aI) (D t.aI.length) Q)) Q [] k:=by
       intro r k aQ l aS aU aW;simp only[S.wN,M,W7,G,l.rF,l.nN];refine S.pg W (po (by decide) ?_);refine⟨l.rF,?_⟩;simp only[jw _ _ _ (show(8:Int)≠0 by decide),G,Ir];refine l.Il _ λE F I=>?_;simp only[aB,S.He,aq,bu,G];rw[bM,fb i];refine aA (i+1) (k7 r) E aF (I H.n _ d aS) F aU aW ?_;rw[aQ];exact g
      have ah:1≤max p.bB (e3 t.packed f (bp f.type).1.2):=by omega
      have aX:O c 1 false (.ptr q 7)=some (.bool f.bits):=by rw[g22.load,AQ]
      simp only[S.wO,M,W7,G,aX,ai];apply aH<;>intro y
      · obtain ⟨a7,a8,a9⟩:=xu L f u y;have hu:X (8*f.type.size)≠0:=by
         show Xv .i64 (8*f.type.size)≠0;rw[bM];omega
        rw[g22.all f.len];simp only[G];refine S.PQ W (QX W g7 (by show p.dM.length<1000;omega) hu λk l z=>?_);simp only[aB];refine ag _ k ?_ l (z H.n _ d g3) ?_ ?_
        · unfold hM;simp only[y,aY,v]
        · unfold k6;split<;>(simp only[ZG,Z9,Z_];omega)
        · unfold k6;split<;>exact ah
      · simp only[ZU]at y;have aZ:O c 1 false (.ptr j 0)=some (D (bp f.type).1.1):=by rw[af.load];rfl
        have a0:O c 1 false (.ptr q 1)=some (D f.type.kind):=by rw[g22.load,AR]
        simp only[g7.nN,G];refine S.pg W (po (by decide) ?_);simp only[jw _ _ _ (show(8:Int)≠0 by decide),G];refine S.pg W (po (by omega) ?_);simp only[aZ,a0,G,xt,QV];refine g7.app (by show p.dM.length<1000;omega) ⟨cJ (X ((cJ b 8).tdiv 8)) (e3 t.packed f (bp f.type).1.2),(bp f.type).1.1,f.type.kind,false,0,0⟩ λk l z=>?_;have a1:=z j _ (λe=>C e.symm) af;have a2:O k 1 false (.ptr j 0)=some (D (bp f.type).1.1):=by rw[a1.load];rfl
        simp only[a2,G,bu,fD];refine l.rG _ λE F I=>?_;simp only[aB];refine ag _ E ?_ F (I H.n _ d (z H.n _ d g3)) ?_ ah
        · unfold hM;simp only[y,Yf,cu,v];rfl
        · show(p.dM++[_]).length≤i+1;simp only[ZG,Z9,Z_];omega
     simp only[cw,ia,bc,G,ai,aB];apply aH<;>intro aj
     · refine V.rG _ λc g7 K=>ae _ c ?_ g7 (K H.n _ d Y) (K q _ (λe=>R e.symm) ac) (K j _ (λe=>C e.symm) ad);rw[aa (by simpa using aj)]
     · refine ae p.bit aP ?_ V Y ac ad;rw[ab (by simpa using aj)]
 exact main t.aI 0 _ aw rfl a3 av (hT _) (by decide) rfl
end
end Rb

namespace Rb
open Go
theorem pt{t:aC}(h:cO t=0):t.kind=1∨t.kind=2∨t.kind=5∨t.kind=3∨t.kind=4:=by
 rw[gT]at h;split at h
 ·cases h
 · rename_i a;simp only[ZV]at a;unfold fG at a;by_cases b:t.kind=1
   ·exact .inl b
   by_cases c:t.kind=2
   ·exact .inr (.inl c)
   by_cases d:t.kind=3
   ·exact .inr (.inr (.inr (.inl d)))
   by_cases e:t.kind=4
   ·exact .inr (.inr (.inr (.inr e)))
   by_cases f:t.kind=5
   ·exact .inr (.inr (.inl f))
   simp[b,c,d,e,f]at a
section
variable{Φ:ae}{H:Z}{Q:ad}
theorem A9:ba [J,J] []=some (.agg [J,J]):=rfl
theorem QZ(W:Cl Φ S.cr){t:aC}(hs:cO t=0)
  (A:∀f∈t.aI,bR Φ 127 [.agg f.type.cells] (lQ (bp f.type))) (B:∀f∈t.aI,(bp f.type).2=true→1≤(bp f.type).1.2)
  (C:∀e∈t.bf,bR Φ 127 [.agg e.cells] (lQ (bp e))) (q:∀H',Q (lQ (bp t)) H'):S.f127 Φ (.agg t.cells) H Q:=by
 have fin:∀r,r=bp t→∀H',Q (lQ r) H':=λr h=>by rw[h];exact q
 clear q;rw[kz]at fin;unfold S.f127;simp only[fH,aV,aR,aY,cw,ia,bc,G,ai];have a3:=T.new H (.row [J,J]);generalize H.push (.row [J,J])=c at *;generalize H.n=s at *;have u : ∀b:Bool,(b=true↔(t.kind=1∨t.kind=2))→U (S.wA Φ (.ak t.cells) (.ptr s 0) (D t.kind) Q) [.bool b] c:=by
  intro b v;simp only[aB,S.wA,aq,ai];apply aH<;>intro h
  · have d:=v.1 h;rw[aa d]at fin;simp only[cw,kx,G,xt];rw[a3.put (n:=2) rfl rfl rfl];simp only[G];rw[(a3.set _).all (n:=2) rfl];simp only[G];exact fin _ rfl _
  · have d:¬(t.kind=1∨t.kind=2):=λy=>h (v.2 y);rw[ab d]at fin;simp only[bc,G,ai];apply aH<;>intro h
    · have g:t.kind=5:=by simpa using h
      rw[aa g]at fin;obtain⟨e,he,_⟩:=k5 hs g;simp only[cw,gL,G];have E:aU none 6 (aD aC.cells t.bf) (J)=some (d_ aC.cells 6 t.bf 0):=cp (by rw[he];simp);rw[E];simp only[G];rw[dd aC.len (by decide) _ (show t.bf[0]?=some e by rw[he];rfl)];simp only[G];refine C e (by rw[he];simp) _ _ ?_;rw[he]at fin;simp only[jx]at fin;simp only[lQ,bI,Zn,Zo,G,aV,aR,aY];rw[bO _ _ _ 2 rfl rfl rfl];simp only[G,M,W7,cw,mD];have w:s≠c.n:=a3.gS;have l:=T.new c (.row [D (bp e).1.1,D (bp e).1.2]);have b3:=a3.push (.row [D (bp e).1.1,D (bp e).1.2]);generalize c.push (.row [D (bp e).1.1,D (bp e).1.2])=k at *;generalize c.n=i at *;have l1:O k 1 false (.ptr i 0)=some (D (bp e).1.1):=by rw[l.load];rfl
      simp only[l1,G,fD];have s1:ax k 1 (.ptr i 0) (D (X ((bp e).1.1*t.bZ)))=some (k.set i (.row [D (X ((bp e).1.1*t.bZ)),D (bp e).1.2])):=by rw[l.store,aa ⟨rfl,rfl,rfl,by simp⟩];rfl
      rw[s1];simp only[G];have m:=l.set (.row [D (X ((bp e).1.1*t.bZ)),D (bp e).1.2]);have c3:=b3.br w (.row [D (X ((bp e).1.1*t.bZ)),D (bp e).1.2]);generalize k.set i (.row [D (X ((bp e).1.1*t.bZ)),D (bp e).1.2])=F at *;rw[m.all (n:=2) rfl];have l2:O F 1 false (.ptr i 0)=some (D (X ((bp e).1.1*t.bZ))):=by rw[m.load];rfl
      simp only[G,bG];apply aH<;>intro h
      · simp only[l2,G,gR];rw[c3.put (n:=2) rfl rfl rfl];simp only[G];refine⟨λ_=>?_,?_⟩
        ·rw[(m.br w.symm _).load];rfl
        · rw[(c3.set _).all (n:=2) rfl];simp only[G];exact fin ((X ((bp e).1.1*t.bZ),(bp e).1.2),decide (X ((bp e).1.1*t.bZ)≤65536)) (by rw[h,aaa];rfl) _
      · simp only[ZU]at h;rw[c3.put (n:=2) rfl rfl rfl];simp only[G];refine And.intro (λy=>nomatch y) ?_;rw[(c3.set _).all (n:=2) rfl];simp only[G];exact fin ((X ((bp e).1.1*t.bZ),(bp e).1.2),false) (by rw[h,aab]) _
    · have g:¬t.kind=5:=by simpa using h
      rw[ab g]at fin;have hk:t.kind=3∨t.kind=4:=by
       rcases pt hs with h|h|h|h
       ·exact absurd (.inl h) d
       ·exact absurd (.inr h) d
       ·exact absurd h g
       ·exact h
      simp only[aB,S.GL,iO,G];refine S.HP W (Is W hs hk A B ?_ ?_)
      · intro I H' o;rw[I]at fin;simp only[bI,Zn,Zo,G,aV,aR,aY];rw[bO _ _ _ 4 rfl rfl rfl];simp only[G,M,W7];rw[e9];have tk:bW ib 0 2 true=some (.agg [J,J]):=rfl;rw[tk];simp only[G];have j:=(a3.ext o).push (.row ib);rw[j.put (n:=2) rfl rfl rfl];simp only[G];rw[(j.set _).all (n:=2) rfl];simp only[G];exact fin ((0,0),false) rfl _
      · intro p K x H' z;rw[K]at fin;have o:=z.1;have L:x.scalar=true:=by obtain⟨_,tk,rfl,_⟩:=z;rfl
        simp only[bI,Zn,Zo,G,aV,aR,aY];rw[bO _ _ _ 4 rfl (by simp only[Y6,L];rfl) rfl];simp only[G,M,W7];rw[e9];have tk:bW [D (cJ p.size p.bB),D p.bB,x,D p.bit] 0 2 true=some (.agg [D (cJ p.size p.bB),D p.bB]):=rfl;rw[tk];simp only[G];have j:=(a3.ext o).push (.row [D (cJ p.size p.bB),D p.bB,x,D p.bit]);rw[j.put (n:=2) rfl rfl rfl];simp only[G];rw[(j.set _).all (n:=2) rfl];simp only[G];exact fin ((cJ p.size p.bB,p.bB),decide (cJ p.size p.bB≤65536)) rfl _
 apply aH<;>intro h
 ·exact u _ ⟨λ_=> .inl (by simpa using h),λ_=>h⟩
 · refine u _ ⟨λa=> .inr (by simpa using a),λa=>?_⟩;rcases a with a|a
   ·exact absurd (by simpa using a) h
   ·simpa using a
end
end Rb

namespace Rb
open Go
theorem Q0(packed:Bool)(kind:Int)(p:PL)(f:aT)(g:Int×Int):p.bB≤(hM packed kind p f g).bB:=by
 have h:(hM packed kind p f g).bB=max p.bB (e3 packed f g.2):=by
  unfold hM;simp only;split
  · unfold k7 k6;split<;>rfl
  ·rfl
 rw[h];omega
theorem It{packed:Bool}{kind:Int}:∀{l:List aT}{p q:PL},dQ packed kind p l=some q→p.bB≤q.bB
 |[],p,q,h=>by simp only[dQ,Wy.injEq]at h;rw[h];exact aac _
 | f::r,p,q,h=>by
  simp only[dQ]at h;split at h
  ·exact aad (Q0 packed kind p f _) (It h)
  ·cases h
theorem A_:∀t:aC,cO t=0→(bp t).2=true→1≤(bp t).1.2:=by
 refine aC.ind λt i f hs h=>?_;rw[kz]at h ⊢;split at h
 · rename_i b;rw[aa b];rw[gT]at hs;split at hs
   ·cases hs
   · have a:dU t.size 8=true∨dU t.size 16=true:=by
       rcases b with d|d
       · rw[aa d]at hs;split at hs
         ·exact .inl ‹_›
         ·cases hs
       · rw[bF,aa d]at hs;split at hs
         ·exact .inr ‹_›
         ·cases hs
     show 1≤t.size;rcases a with a|a<;>(simp[dU]at a;omega)
 · rename_i b;rw[ab b];split at h
   · rename_i c;rw[aa c];obtain⟨e,he,g⟩:=k5 hs c;rw[he]at h ⊢;simp only[jx,Wn]at h ⊢;exact f e (by rw[he];simp) g h.1
   · rename_i c;rw[ab c];cases a:dQ t.packed t.kind ⟨0,1,[],0⟩ t.aI with
     |none=>rw[a]at h;cases h
     |some p=>exact It a
section
variable{C:Ctx}(aw:cY C)(W:Cl (aj C) S.cr)
include aw W
theorem Iu:∀t:aC,cO t=0→bR (aj C) 127 [.agg t.cells] (lQ (bp t)):=by
 refine aC.ind λt c d hs=>?_;refine bR.of aw (by simp[I.cv,I.b6,aC.b6]) rfl λQ g=>S.Pg W ?_;have a:fG t.kind t.size t.packed t.aI.length t.bZ t.bf.length=true:=by
  rw[gT]at hs;split at hs
  ·cases hs
  ·rename_i h;simpa using h
 unfold fG at a;have b:∀f∈t.aI,cO f.type=0:=by
  intro f hf;rcases pt hs with h|h|h|h
  · simp only[h,true_or,aY,Wn,b9,XJ]at a;rw[a.1.1.2]at hf;cases hf
  · simp only[h,or_true,aY,Wn,b9,XJ]at a;rw[a.1.1.2]at hf;cases hf
  · rw[bF,bF,aa h]at a;simp only[Wn,b9,XJ]at a;rw[a.1.2]at hf;cases hf
  ·exact(mF hs h).1 f hf
 have i:∀e∈t.bf,cO e=0:=by
  intro e he;rcases pt hs with h|h|h|h
  · simp only[h,true_or,aY,Wn,b9,XJ]at a;rw[a.2]at he;cases he
  · simp only[h,or_true,aY,Wn,b9,XJ]at a;rw[a.2]at he;cases he
  · obtain⟨l,j,k⟩:=k5 hs h;rw[j]at he;rcases YI.1 he with rfl|he
    ·exact k
    ·cases he
  · rw[bF,aa h]at a;simp only[Wn,b9,XJ]at a;rw[a.2]at he;cases he
 exact QZ W hs (λf hf=>c f hf (b f hf)) (λf hf=>A_ f.type (b f hf)) (λe he=>d e he (i e he)) g
end
end Rb

namespace Rb
open Go
def bT(t:aC):(Int×Int)×Int:=if dP t≠0 then((0,0),dP t)else if eO t=true then((0,0),10)else if(bp t).2=false then((0,0),9)else((bp t).1,0)
theorem ja{t:aC}(h:dP t=0):cO t=0:=by
 unfold dP at h;split at h
 ·cases h
 ·exact h
section
variable{C:Ctx}(aw:cY C)(W:Cl (aj C) S.cr)
include aw W
theorem Iv(t:aC)(ht:t.ok){H:Z}{Q:ad}(b:∀H',Q (.aM [.agg [D (bT t).1.1,D (bT t).1.2],D (bT t).2]) H'):S.f93 (aj C) (.agg t.cells) H Q:=by
 have fin:∀r,r=bT t→∀H',Q (.aM [.agg [D r.1.1,D r.1.2],D r.2]) H':=λr h=>by rw[h];exact b
 clear b;unfold bT at fin;unfold S.f93;simp only[fH,aV,aR,aY,iO,G];have a3:=T.new H (.row [J,J]);generalize H.push (.row [J,J])=a at *;generalize H.n=d at *;refine Ia aw W t ht _ _ ?_;simp only[cU,G,ai];apply aH<;>intro h
 · have hs:dP t≠0:=by simpa using h
   rw[aa hs]at fin;simp only[A9,G];rw[a3.put (n:=2) rfl rfl rfl];simp only[G];rw[(a3.set _).all (n:=2) rfl];simp only[G];exact fin _ rfl _
 · have hs:dP t=0:=by simpa using h
   rw[ab (by simpa using hs)]at fin;refine QP W t ht _ _ ?_;simp only[ai];apply aH<;>intro h
   · rw[aa h]at fin;simp only[A9,G];rw[a3.put (n:=2) rfl rfl rfl];simp only[G];rw[(a3.set _).all (n:=2) rfl];simp only[G];exact fin _ rfl _
   · rw [ab h]at fin;refine Iu aw W t (ja hs) _ _ ?_;simp only[lQ,bI,Zn,Zo,G,aV,aR,aY];rw[bO _ _ _ 2 rfl rfl rfl];simp only[G,cV,ai];have c:=T.new a (.row [D (bp t).1.1,D (bp t).1.2]);have b3:=a3.push (.row [D (bp t).1.1,D (bp t).1.2]);generalize a.push (.row [D (bp t).1.1,D (bp t).1.2])=e at *;generalize a.n=f at *;apply aH<;>intro h
     · rw[aa (by simpa using h)]at fin;simp only[A9,G];rw[b3.put (n:=2) rfl rfl rfl];simp only[G];rw[(b3.set _).all (n:=2) rfl];simp only[G];exact fin _ rfl _
     · rw[ab (by simpa using h)]at fin;rw[c.all (n:=2) rfl];simp only[G];rw[b3.put (n:=2) rfl rfl rfl];simp only[G];rw[(b3.set _).all (n:=2) rfl];simp only[G];exact fin _ rfl _
theorem Ba(t:aC)(ht:t.ok):bR (aj C) 67 [.agg t.cells] (.aM [D (bT t).1.1,D (bT t).1.2,D (bT t).2]):=by refine bR.of aw (by simp[I.cv,I.b6,aC.b6]) rfl λQ a=>S.OI W ?_;unfold S.f67;simp only[fH,aV,iO,G];refine S.HL W (Iv aw W t ht λH'=>?_);simp only[bI,Zn,Zo,G,aV,aR,aY];rw[bO _ _ _ 2 rfl rfl rfl];simp only[G,M,W7,e9];exact⟨_,rfl,_,rfl,a _⟩
end
end Rb

namespace Rb
open Go
variable{n step:Int}
def bC(n step:Int):Int:=(n+step-1)/step*step
theorem mG(h:0<step):bC n step%step=0:=by unfold bC;exact Int.mul_emod_left _ _
theorem fI(a:0<step):n≤bC n step∧bC n step≤n+step-1:=by unfold bC;have b:=aae (n+step-1) step;have c:=aaf (n+step-1) (aag a);have d:=aah (n+step-1) a;rw[aai]at b;omega
theorem mH(b:0≤n)(c:n≤1000000000)(a:0<step)(d:step≤1000000):cJ n step=bC n step:=by have e:=fI (n:=n) a;unfold cJ;rw[wrap_i64 (n:=n+step) (by omega) (by omega),wrap_i64 (n:=n+step-1) (by omega) (by omega),Z8 (by omega)];have f:0≤(n+step-1)/step:=Z5 (by omega) (by omega);have g:(n+step-1)/step≤n+step-1:=Z6 _ (by omega);rw[wrap_i64 (n:=(n+step-1)/step) (by omega) (by omega)];show Xv .i64 (bC n step)=_;exact bM
theorem Iw{packed:Bool}:∀{l:List aT}{seen:List (List UInt8)},fp packed seen l=0→∀f∈l,(f.bits=true→0≤f.bn∧f.bn≤8*f.type.size∧packed=false)∧(f.bits=false→f.bn=0)
 |[],_,_,f,hf=>by cases hf
 | g :: r, seen, h,f,hf=>by
  simp only[fp]at h;have a:gp packed seen g=0:=by
   by_cases b:gp packed seen g=0
   ·exact b
   ·rw[aa b]at h;exact absurd h b
  rw[ab (by simpa using a)]at h;rcases YI.1 hf with rfl|hf
  · rw [k4] at a;split at a
    ·cases a
    · split at a
      ·cases a
      · split at a
        ·rename_i b;exact absurd a b
        · split at a
          ·cases a
          · rename_i d;split at a
            ·cases a
            · rename_i e;refine⟨λc=>?_,λc=>?_⟩
              · have Y:¬f.bn<0:=λq=>e ⟨c,.inl q⟩;have a2:¬8*f.type.size<f.bn:=λq=>e ⟨c,.inr (.inl q)⟩;refine⟨by omega,by omega,?_⟩;cases packed
                ·rfl
                ·exact absurd (.inr ⟨c,.inr rfl⟩) d
              · by_cases hw:f.bn=0
                ·exact hw
                ·exact absurd (.inl ⟨c,hw⟩) d
  ·exact Iw h f hf
structure jb(p:PL)(n:Nat):Prop where
 b0:0≤p.bit
 b1:p.bit≤n*600000
 s0:0≤p.size
 s1:p.size≤n*75000
 a0:1≤p.bB
 Y:p.bB≤16
def xv(packed:Bool)(kind:Int)(p:PL)(f:aT)(g:Int×Int):PL:=
 let b0:=if kind=4 then 0 else p.bit
 let w:=e3 packed f g.2;let r:Int×bN:=
  if f.bits=true then
   if f.bn=0 then(bC b0 (8*f.type.size),⟨bC b0 (8*f.type.size)/8,0,1,true,bC b0 (8*f.type.size)%8,0⟩)
   else
    let b:=if b0/(8*f.type.size)≠(b0+f.bn-1)/(8*f.type.size)then bC b0 (8*f.type.size)else b0
    (b+f.bn,⟨b/8,(b+f.bn-1)/8-b/8+1,1,true,b%8,f.bn⟩)
  else(8*(bC (bC b0 8/8) w+g.1),⟨bC (bC b0 8/8) w,g.1,f.type.kind,false,0,0⟩)
 ⟨max p.size (bC r.1 8/8),max p.bB w,p.dM++[r.2],r.1⟩
theorem Ix{packed:Bool}{kind:Int}{p:PL}{n:Nat}(y:n≤32)(m:jb p n){f:aT}{g:Int×Int}(z:0≤g.1)(A:g.1≤65536)(a0:1≤g.2)(Y:g.2≤16)(j:f.bits=true→1≤f.type.size∧f.type.size≤8∧0≤f.bn∧f.bn≤8*f.type.size) :
  hM packed kind p f g=xv packed kind p f g∧jb (hM packed kind p f g) (n+1):=by
 obtain⟨b0,b1,s0,s1,B,C⟩:=m;have o:∃b,(if kind=4 then(0:Int)else p.bit)=b∧0≤b∧b≤n*600000:=by
  split
  ·exact⟨0,rfl,aac _,by omega⟩
  ·exact⟨p.bit,rfl,b0,b1⟩
 obtain⟨b,q,c,c1⟩:=o;have r:∃w,e3 packed f g.2=w∧1≤w∧w≤16:=by
  unfold e3;split
  ·exact⟨1,rfl,by omega,by omega⟩
  · split
    ·rename_i h;have:=j h;exact⟨_,rfl,by omega,by omega⟩
    ·exact⟨_,rfl,a0,Y⟩
 obtain⟨w,s,w0,w1⟩:=r;unfold hM xv;dsimp only;rw[q,s];have size:∀x:Int,0≤x→x≤(n+1)*600000→X ((cJ x 8).tdiv 8)=bC x 8/8∧bC x 8/8≤(n+1)*75000∧0≤bC x 8/8:=by intro x i t;have hu:=fI (n:=x) (step:=8) (by decide);rw[mH i (by omega) (by decide) (by decide),Z8 (by omega)];have D:=mG (n:=x) (step:=8) (by decide);refine⟨bM,by omega,by omega⟩
 by_cases d:f.bits=true
 · obtain ⟨t0,t1,v0,v1⟩:=j d;rw[aa d,aa d];have k:X (8*f.type.size)=8*f.type.size:=bM;have E:=fI (n:=b) (step:=8*f.type.size) (by omega);have l:cJ b (8*f.type.size)=bC b (8*f.type.size):=mH c (by omega) (by omega) (by omega);unfold k6;dsimp only;by_cases hw:f.bn=0
   · rw[aa hw,aa hw];unfold k7;dsimp only;rw[k,l];obtain⟨e,z2,z3⟩:=size (bC b (8*f.type.size)) (by omega) (by omega);rw[e,Z8 (a:=bC b (8*f.type.size)) (by omega),aaj (a:=bC b (8*f.type.size)) (by omega),show X (bC b (8*f.type.size)/8)=bC b (8*f.type.size)/8 from bM];exact⟨rfl,by show 0≤bC b (8*f.type.size);omega,by show bC b (8*f.type.size)≤_;push_cast;omega,by show 0≤max _ _;omega,by show max _ _≤_;push_cast;omega,by show 1≤max _ _;omega,by show max _ _≤_;omega⟩
   · rw [ab hw,ab hw];unfold k7;dsimp only;have u:hL {p with bB:=max p.bB w,bit:=b} f=if b/(8*f.type.size)≠(b+f.bn-1)/(8*f.type.size)then bC b (8*f.type.size)else b:=by
      unfold hL;dsimp only;rw[k,show X (b+f.bn)=b+f.bn from bM,show X (b+f.bn-1)=b+f.bn-1 from bM,Z8 c,Z8 (by omega),l];have F:0≤b/(8*f.type.size):=Z5 c (by omega);have G:b/(8*f.type.size)≤b:=Z6 _ c;have H:0≤(b+f.bn-1)/(8*f.type.size):=Z5 (by omega) (by omega);have I:(b+f.bn-1)/(8*f.type.size)≤b+f.bn-1:=Z6 _ (by omega);rw[show X (b/(8*f.type.size))=b/(8*f.type.size)from bM,show X ((b+f.bn-1)/(8*f.type.size))=(b+f.bn-1)/(8*f.type.size)from bM]
     rw[u];have v:∃x,(if b/(8*f.type.size)≠(b+f.bn-1)/(8*f.type.size)then bC b (8*f.type.size)else b)=x∧0≤x∧x≤b+64:=by
      split
      ·exact⟨_,rfl,by omega,by omega⟩
      ·exact⟨_,rfl,c,by omega⟩
     obtain⟨x,ex,i,t⟩:=v;rw[ex,show X (x+f.bn)=x+f.bn from bM,show X (x+f.bn-1)=x+f.bn-1 from bM];obtain⟨e,z2,z3⟩:=size (x+f.bn) (by omega) (by omega);rw[e,Z8 i,Z8 (by omega),aaj i,show X (x/8)=x/8 from bM,show X ((x+f.bn-1)/8)=(x+f.bn-1)/8 from bM,show X ((x+f.bn-1)/8-x/8)=(x+f.bn-1)/8-x/8 from bM,show X ((x+f.bn-1)/8-x/8+1)=(x+f.bn-1)/8-x/8+1 from bM];exact⟨rfl,by show 0≤x+f.bn;omega,by show x+f.bn≤_;push_cast;omega,by show 0≤max _ _;omega,by show max _ _≤_;push_cast;omega,by show 1≤max _ _;omega,by show max _ _≤_;omega⟩
 · rw[ab d,ab d];unfold k7 xq;dsimp only;have J:=fI (n:=b) (step:=8) (by decide);have K:=mG (n:=b) (step:=8) (by decide);rw[mH c (by omega) (by decide) (by decide),Z8 (a:=bC b 8) (by omega),show X (bC b 8/8)=bC b 8/8 from bM];have L:=fI (n:=bC b 8/8) (step:=w) (by omega);rw[mH (n:=bC b 8/8) (by omega) (by omega) (by omega) (by omega),show X (bC (bC b 8/8) w+g.1)=bC (bC b 8/8) w+g.1 from bM,show X (8*(bC (bC b 8/8) w+g.1))=8*(bC (bC b 8/8) w+g.1)from bM];obtain⟨e,z2,z3⟩:=size (8*(bC (bC b 8/8) w+g.1)) (by omega) (by omega);rw[e];exact⟨rfl,by show 0≤8*_;omega,by show 8*(bC (bC b 8/8) w+g.1)≤_;push_cast;omega,by show 0≤max _ _;omega,by show max _ _≤_;push_cast;omega,by show 1≤max _ _;omega,by show max _ _≤_;omega⟩
end Rb

namespace Rb
open Go
theorem Bb{b w:Int}(c:0<w):bC b (8*w)=8*bC (bC b 8/8) w:=by
 unfold bC;have e1:(b+8-1)/8*8/8=(b+8-1)/8:=Int.mul_ediv_cancel _ (by decide);have a:(b+8-1)/8+w-1=(b+8*w-1)/8:=by
  have:b+8*w-1=(b+8-1)+8*(w-1):=by omega
  rw[this,aak _ _ (by decide)];omega
 rw[e1,a,Int.ediv_ediv_of_nonneg (by decide),Int.mul_left_comm]
theorem xw(b:Int):bC b 1=b:=by unfold bC;simp
def eC(packed:Bool)(kind:Int)(a:Int)(f:aT)(g:Int×Int):Int×Int×Int:=
 let b0:=if kind=4 then 0 else a
 if f.bits=true then
  (bC b0 (if f.bn=0∨b0%(8*f.type.size)+f.bn>8*f.type.size then 8*f.type.size else 1),f.bn,if packed=true∨f.bn=0 then 1 else g.2)
 else(bC b0 (if packed=true then 8 else 8*g.2),8*g.1,if packed=true then 1 else g.2)
def gU(f:aT)(x:Int×Int):bN:=if f.bits=true then⟨x.1/8,if x.2>0 then(x.1+x.2-1)/8-x.1/8+1 else 0,1,true,x.1%8,x.2⟩else⟨x.1/8,x.2/8,f.type.kind,false,0,0⟩
theorem Q1{b n u:Int}(d:0≤b)(f:1≤n)(g:n≤u):b/u≠(b+n-1)/u↔b%u+n>u:=by
 have a:0<u:=by omega
 have i:=aae b u;have j:=aaf b (aag a);have k:=aah b a;have e:b+n-1=(b%u+n-1)+u*(b/u):=by omega
 rw[e,aak _ _ (aag a)];constructor
 · intro h;apply aal;intro hc;have:(b%u+n-1)/u=0:=Int.ediv_eq_zero_of_lt (by omega) (by omega);omega
 · intro h hc;have c:(b%u+n-1)/u=0:=by omega
   have:=aae (b%u+n-1) u;have l:=aah (b%u+n-1) a;rw[c]at this;omega
theorem Iy{packed:Bool}{kind:Int}{p:PL}{n:Nat}(h:jb p n){f:aT}{g:Int×Int}(a0:1≤g.2)(i:f.bits=true→1≤f.type.size∧0≤f.bn∧f.bn≤8*f.type.size∧packed=false∧g.2=f.type.size) :
  xv packed kind p f g=⟨max p.size (bC ((eC packed kind p.bit f g).1+(eC packed kind p.bit f g).2.1) 8/8),max p.bB (eC packed kind p.bit f g).2.2,p.dM++[gU f ((eC packed kind p.bit f g).1,(eC packed kind p.bit f g).2.1)],(eC packed kind p.bit f g).1+(eC packed kind p.bit f g).2.1⟩:=by
 obtain⟨b0,b1,s0,s1,q,r⟩:=h;have j:∃b,(if kind=4 then(0:Int)else p.bit)=b∧0≤b:=by
  split
  ·exact⟨0,rfl,aac _⟩
  ·exact⟨p.bit,rfl,b0⟩
 obtain⟨b,k,l⟩:=j;unfold xv eC gU;dsimp only;rw[k];by_cases a:f.bits=true
 · obtain ⟨t0,v0,v1,m,e⟩:=i a;simp only[a,aY];unfold e3;by_cases hw:f.bn=0
   · simp only[hw,a,true_or,aY,or_true,and_self,Int.add_zero];simp
   · rw[ab hw];have hu:=Q1 (u:=8*f.type.size) l (show 1≤f.bn by omega) v1;simp only[m,hw,a,Yf,false_or,cu,aY,and_false];have o:f.bn>0:=by omega
     rw[aa o];by_cases d:b%(8*f.type.size)+f.bn>8*f.type.size
     ·rw[aa (hu.2 d),aa d,e]
     ·rw[ab (λz=>d (hu.1 z)),ab d,xw,e]
 · have a:f.bits=false:=by simpa using a
   simp only[a,Yf,cu];unfold e3;simp only[a,Yf,false_and,or_false,cu];cases packed
   · simp only[Yf,cu];have c:=Bb (b:=b) (w:=g.2) (by omega);rw[c];have d1:8*bC (bC b 8/8) g.2/8=bC (bC b 8/8) g.2:=by omega
     have d2:8*g.1/8=g.1:=by omega
     rw[d1,d2,←aam]
   · simp only[aY];have c:=Bb (b:=b) (w:=1) (by decide);rw[Int.mul_one]at c;rw[c];have d1:8*bC (bC b 8/8) 1/8=bC (bC b 8/8) 1:=by omega
     have d2:8*g.1/8=g.1:=by omega
     rw[←c]at d1 ⊢;rw[xw]at d1 ⊢;have d3:8*(bC b 8/8)=bC b 8:=by have:=mG (n:=b) (step:=8) (by decide);omega
     rw[d2,←d3,←aam];have d4:bC (8*(bC b 8/8)/8) 1=bC b 8/8:=by rw[xw];omega
     simp
end Rb

namespace Rb
open Go
variable{t:aC}{packed:Bool}
structure mI where
 bit:Int
 end_:Int
 bB:Int
 first:List Int
 bits:List Int
def xx(packed:Bool)(kind:Int)(s:mI)(f:aT)(g:Int×Int):mI:=⟨(eC packed kind s.bit f g).1+(eC packed kind s.bit f g).2.1,max s.end_ ((eC packed kind s.bit f g).1+(eC packed kind s.bit f g).2.1),max s.bB (eC packed kind s.bit f g).2.2,s.first++[(eC packed kind s.bit f g).1],s.bits++[(eC packed kind s.bit f g).2.1]⟩
def xy(packed:Bool)(kind:Int)(s:mI):List aT→Option mI
 |[]=>some s
 |f::r=>if(bp f.type).2=true then xy packed kind (xx packed kind s f (bp f.type).1) r else none
def k8:List aT→List Int→List Int→List bN
 |f::r,a::x,b::y=>gU f (a,b)::k8 r x y
 |_,_,_=>[]
theorem Iz:∀(fs:List aT)(x y:List Int)(f:aT)(a b:Int),x.length=fs.length→y.length=fs.length→k8 (fs++[f]) (x++[a]) (y++[b])=k8 fs x y++[gU f (a,b)]
 |[],[],[],f,a,b,_,_=>rfl
 | g::r,c::x,d::y,f,a,b,e,h=>by simp only[Yi,k8];rw[Iz r x y f a b (by simpa using e) (by simpa using h)]
structure lS(p:PL)(s:mI)(fs:List aT):Prop where
 bit:s.bit=p.bit
 e0:0≤s.end_
 size:p.size=bC s.end_ 8/8
 bB:s.bB=p.bB
 l1:s.first.length=fs.length
 l2:s.bits.length=fs.length
 dM:p.dM=k8 fs s.first s.bits
theorem xz(n:Int):bC n 8/8=(n+7)/8:=by unfold bC;omega
theorem IA{kind:Int}{p:PL}{s:mI}{fs:List aT}{n:Nat}(i:n≤32)(b:jb p n)(h:lS p s fs){f:aT}{g:Int×Int}(j:0≤g.1)(k:g.1≤65536)(a0:1≤g.2)(Y:g.2≤16)(a:f.bits=true→1≤f.type.size∧f.type.size≤8∧0≤f.bn∧f.bn≤8*f.type.size∧packed=false∧g.2=f.type.size) :
  lS (hM packed kind p f g) (xx packed kind s f g) (fs++[f])∧jb (hM packed kind p f g) (n+1):=by
 obtain⟨e1,c⟩:=Ix (packed:=packed) (kind:=kind) i b j k a0 Y (λq=>⟨(a q).1,(a q).2.1,(a q).2.2.1,(a q).2.2.2.1⟩);refine⟨?_,c⟩;have d:=Iy (kind:=kind) b (f:=f) (g:=g) a0 (λq=>⟨(a q).1,(a q).2.2.1,(a q).2.2.2.1,(a q).2.2.2.2.1,(a q).2.2.2.2.2⟩);have e:=c.b0;rw[e1]at e;rw[e1,d];rw[d]at e;unfold xx;rw[h.bit];have hs:=h.size;have he:=h.e0;refine⟨rfl,?_,?_,?_,?_,?_,?_⟩
 ·show 0≤max _ _;omega
 · show max p.size _=bC (max _ _) 8/8;rw[hs,xz,xz,xz];omega
 ·show max s.bB _=max p.bB _;rw[h.bB]
 ·show(s.first++[_]).length=(fs++[f]).length;simp[h.l1]
 ·show(s.bits++[_]).length=(fs++[f]).length;simp[h.l2]
 · show p.dM++[_]=_;rw[h.dM,Iz _ _ _ _ _ _ h.l1 h.l2]
def rH(packed:Bool)(f:aT):Prop:=(f.bits=true→f.type.kind=1∧1≤f.type.size∧f.type.size≤8∧0≤f.bn∧f.bn≤8*f.type.size∧packed=false)
theorem Bc{l:List aT}{b:List (List UInt8)}(h:fp packed b l=0):∀f∈l,rH packed f:=λf hf a=>by obtain⟨c,d,e⟩:=xu h f hf a;obtain⟨w1,w2,w3⟩:=(Iw h f hf).1 a;exact⟨c,d,e,w1,w2,w3⟩
def Bd(t:aC):Prop:=(bp t).2=true→0≤(bp t).1.1∧(bp t).1.1≤65536∧1≤(bp t).1.2∧(bp t).1.2≤16
theorem nO(h:t.kind=1∨t.kind=2):bp t=((t.size,t.size),true):=by rw[kz,aa h]
theorem IB{packed:Bool}{kind:Int}:∀{l:List aT}{p:PL}{s:mI}{fs:List aT}{n:Nat},n+l.length≤32→jb p n→lS p s fs→(∀f∈l,rH packed f∧Bd f.type) →
  (∀q,dQ packed kind p l=some q→∃A,xy packed kind s l=some A∧lS q A (fs++l)∧jb q (n+l.length))∧(dQ packed kind p l=none→xy packed kind s l=none)
 | [],p,s,fs,n,c,b,h,hl=>by
  refine⟨λq a=>?_,λa=>?_⟩
  · simp only[dQ,Wy.injEq]at a;subst a;exact⟨s,rfl,by simpa using h,b⟩
  ·simp only[dQ]at a;cases a
 | f :: r,p,s,fs,n,c,b,h,hl=>by
  obtain⟨o1,o2⟩:=hl f (YK ..);have d:n+1+r.length≤32:=by rw[Z9]at c;omega
  simp only[dQ,xy,pq];by_cases ht:(bp f.type).2=true
  · rw [aa ht,aa ht];obtain⟨b1,b2,b3,e⟩:=o2 ht;obtain ⟨i,j⟩:=IA (packed:=packed) (kind:=kind) (by omega) b h b1 b2 b3 e (λk=>by
      obtain⟨m,z2,z3,z4,z5,o⟩:=o1 k;exact⟨z2,z3,z4,z5,o,by rw[nO (.inl m)]⟩)
    obtain⟨i1,t⟩:=IB (kind:=kind) d j i (λg u=>hl g (YJ _ u));refine⟨λq a=>?_,t⟩;obtain⟨A,v,w,x⟩:=i1 q a;refine⟨A,v,by simpa using w,?_⟩;rw[Z9,show n+(r.length+1)=n+1+r.length by omega];exact x
  · rw[ab ht,ab ht];exact⟨λq a=>(by cases a),λ_=>rfl⟩
theorem jb.zero:jb ⟨0,1,[],0⟩ 0:=⟨aac _,by simp,aac _,by simp,aac _,by decide⟩
theorem lS.zero:lS ⟨0,1,[],0⟩ ⟨0,0,1,[],[]⟩ []:=⟨rfl,aac _,by decide,rfl,rfl,rfl,rfl⟩
theorem Be(h:cO t=0)(hk:t.kind=3∨t.kind=4):1≤t.aI.length∧t.aI.length≤32:=by
 rw[gT]at h;split at h
 ·cases h
 · rw[bF,bF,bF]at h;split at h
   ·cases h
   ·omega
theorem IC(h:cO t=0)(hk:t.kind=1∨t.kind=2):1≤t.size∧t.size≤16:=by
 rw[gT]at h;split at h
 ·cases h
 · have a:dU t.size 8=true∨dU t.size 16=true:=by
     rcases hk with b|b
     · rw[aa b]at h;split at h
       ·exact .inl ‹_›
       ·cases h
     · rw[bF,aa b]at h;split at h
       ·exact .inr ‹_›
       ·cases h
   rcases a with a|a<;>(simp[dU]at a;omega)
theorem ID(h:cO t=0)(hk:t.kind=5):1≤t.bZ∧t.bZ≤65536:=by
 rw[gT]at h;split at h
 ·cases h
 · rw[bF,bF]at h;split at h
   ·cases h
   ·omega
theorem Bf:∀t:aC,cO t=0→Bd t:=by
 refine aC.ind λt g i hs=>?_;intro h;rcases pt hs with k|k|k|k
 ·have:=IC hs (.inl k);rw[nO (.inl k)];dsimp only;omega
 ·have:=IC hs (.inr k);rw[nO (.inr k)];dsimp only;omega
 · obtain⟨e,he,j⟩:=k5 hs k;have hc:=ID hs k;rw[kz,bF,aa k,he]at h ⊢;simp only[jx,Wn,dh]at h ⊢;obtain⟨b1,b2,b3,l⟩:=i e (by rw[he];simp) j h.1;have hm:0≤(bp e).1.1*t.bZ:=Z7 b1 (by omega);have o:(bp e).1.1*t.bZ≤65536*65536:=aan b2 hc.2 (by omega) (by decide);have hw:X ((bp e).1.1*t.bZ)=(bp e).1.1*t.bZ:=bM;have c:X ((bp e).1.1*t.bZ)≤65536:=of_decide_eq_true h.2;rw[hw]at c ⊢;exact⟨hm,c,b3,l⟩
 · have hk:t.kind=3∨t.kind=4:=k;have hl:=Be hs hk;have d:=A8 hs hk;rw[kz,bF,bF]at h ⊢;cases b:dQ t.packed t.kind ⟨0,1,[],0⟩ t.aI with
   |none=>rw[b]at h;cases h
   | some p=>rw[b]at h;dsimp only at h ⊢;obtain⟨A,q,r,a⟩:=(IB (packed:=t.packed) (kind:=t.kind) (by omega) jb.zero lS.zero (λf hf=>⟨Bc d f hf,g f hf (nK d f hf)⟩)).1 p b;have hu:=fI (n:=p.size) (step:=p.bB) (by have:=a.a0;omega);have m:=mH (n:=p.size) (step:=p.bB) a.s0 (by have:=a.s1;omega) (by have:=a.a0;omega) (by have:=a.Y;omega);rw[m]at h ⊢;have:=a.s0;exact⟨by omega,by simpa using h,a.a0,a.Y⟩
end Rb

namespace Rb
open Go
variable{n0 sz len:Nat}{H H':Z}{x:I}{cells:List I}
def cD(n0:Nat)(H:Z)(sz:Nat)(x:I)(len:Nat)(cells:List I):Prop:=∃tk,x = .av tk len cells∧cells.length=len*sz∧((tk = .nil∧len=0)∨tk = .full∨∃t,tk = .own t∧n0≤t∧T H t (.tok (len*sz) sz))
theorem cD.nil(n0:Nat)(H:Z)(sz:Nat):cD n0 H sz (.av .nil 0 []) 0 []:=⟨.nil,rfl,by simp,.inl ⟨rfl,rfl⟩⟩
theorem cD.frame(h:cD n0 H sz x len cells)(k:∀t a b,T H t (.tok a b)→T H' t (.tok a b)):cD n0 H' sz x len cells:=by
 obtain⟨tk,c,hc,ht⟩:=h;refine⟨tk,c,hc,?_⟩;rcases ht with ht|ht|⟨t,d,e,f⟩
 ·exact .inl ht
 ·exact .inr (.inl ht)
 ·exact .inr (.inr ⟨t,d,e,k t _ _ f⟩)
def Left(n0:Nat)(H H':Z):Prop:=H.n≤H'.n∧∀i o,T H i o→(i<n0∨∀a b,o ≠ .tok a b)→T H' i o
theorem cD.app{n0 sz b len m:Nat}{x y:I}{cells news:List I}{K:ad}(h:cD n0 H sz x len cells)(c:n0≤H.n)(d:hC H sz y=some (m,news))(p:news.length=m*sz)(hs:news.all I.scalar=true)(f:m≠0)
  (g:(len+m)*b≤140737488355328) (hl:len+m≤9223372036854775807) (j:∀k H',cD n0 H' sz k (len+m) (cells++news)→Left n0 H H'→K k H'):aJ (cX H false sz b x y) K:=by
 obtain⟨tk,rfl,hc,q⟩:=h;have hlen:(cells++news).length=(len+m)*sz:=by simp[hc,p,WT]
 have grow:∀tk:Tok,tk = .full∨(tk = .nil∧len=0)→cX H false sz b (.av tk len cells) y=some (.av (.own H.n) (len+m) (cells++news),H.push (.tok ((len+m)*sz) sz)):=by intro tk ht;simp only[cX,d,hs,not_true_eq_false,cu,ab f];rw[ab (by simp only[ZC];exact⟨hc,g,hl⟩)];rcases ht with rfl|⟨rfl,_⟩<;>rfl
 have fresh:K (.av (.own H.n) (len+m) (cells++news)) (H.push (.tok ((len+m)*sz) sz)):=
  j _ _ ⟨_,rfl,hlen,.inr (.inr ⟨H.n,rfl,c,T.new H _⟩)⟩ ⟨W4 _,λi o h _=>h.push _⟩
 rcases q with ht|ht|⟨t,rfl,r,l⟩
 ·exact⟨_,_,grow tk (.inr ht),fresh⟩
 ·exact⟨_,_,grow tk (.inl ht),fresh⟩
 · refine ⟨.av (.own H.n) (len+m) (cells++news),(H.set t .gone).push (.tok ((len+m)*sz) sz),?_,j _ _ ⟨_,rfl,hlen,.inr (.inr ⟨H.n,rfl,c,T.new (H.set t .gone) _⟩)⟩ ⟨W4 _,λi o hi a=>(hi.br (λe=>?_) _).push _⟩⟩
   · simp only[cX,d,hs,not_true_eq_false,cu,ab f];rw[ab (by simp only[ZC];exact⟨hc,g,hl⟩)];simp[l.2]
   · subst e;rcases a with a|a
     ·omega
     ·exact a _ _ (hi.2.symm.trans l.2)
theorem Left.row{i:Nat}{cs:List I}(k:Left n0 H H')(h:T H i (.row cs)):T H' i (.row cs):=k.2 _ _ h (.inr λ_ _ e=>by cases e)
end Rb

namespace Rb
open Go
structure w where
 f:List (List UInt8)
 lets:Int
 V:Int
 gV:Int
 u:Int
def w.ck(s:w)(a:Bool)(e:Int):w:=if a=false∧s.u=0 then {s with gV:=s.V,u:=e} else s
def w.back(s:w)(n:Nat):w:={s with f:=s.f.take n}
def w.at(s:w)(l:Int):w:={s with V:=l}
def w.k9(s:w)(x:List UInt8):w:={s with f:=s.f++[x],lets:=X (s.lets+1)}
def w.has(s:w)(x:List UInt8):Bool:=s.f.any λy=>x==y
def fe(k o:Int):Bool:=
 if k=4∨k=6 then o==1||o==3||o==4
 else if k=5∨k=15 then o==1||o==2||o==4
 else if k=16∨k=17∨k=18 then decide (1≤o)&&decide (o≤4)
 else if k=7 then decide (2≤o)&&decide (o≤4)
 else o==0
def e4(x:aW):Bool:=x.var==[]&&x.aK.length==0
def dG(k:Int):Bool×Bool×Bool×Int×Bool×Bool:=
 if k=1∨k=2 then(true,false,false,1,false,false)
 else if k=3∨k=4 then(false,false,true,1,false,false)
 else if k=5 then(true,true,true,0,false,false)
 else if k=6 then(false,false,true,2,false,false)
 else if k=7 then(false,false,false,0,false,false)
 else if k=8 then(false,false,false,1,true,true)
 else if k=9 then(false,false,false,1,true,false)
 else(false,false,false,1,false,false)
def fJ(x:ay):Bool:=decide (1≤x.kind)&&decide (x.kind≤10)&&((dG x.kind).1||x.name==[])&&((dG x.kind).2.1||x.bQ==[])&&((dG x.kind).2.2.1||e4 x.place)&&((x.aF.length:Int)==(dG x.kind).2.2.2.1)&&((dG x.kind).2.2.2.2.1||x.aP.length==0)&&((dG x.kind).2.2.2.2.2||x.bq.length==0)
def ft(k:Int):Int×Bool:=if k=3 then(2,false)else if k=4∨k=5 then(0,true)else if k=6∨k=7 then(1,true)else if k=8 then(2,true)else(0,false)
def gd(e:aA):Bool:=decide (1≤e.kind)&&decide (e.kind≤8)&&(e.kind==1||e.n==0)&&(e.kind==2||e.name==[])&&(if e.kind=3 then decide (1≤e.op)&&decide (e.op≤11)else e.op==0)&&((ft e.kind).2||e4 e.place)&&((e.a_.length:Int)==(ft e.kind).1)
def gf(k:Int)(t:aC):Bool:=if k=3∨k=14 then t.kind==1 else if k=5∨k=6 then t.kind==2&&t.size==16 else t.kind==2&&decide (t.size≤8)
section
variable(B:List aE)
def iP(s:w)(k:Int)(x:aW):w:=
 let s1:=s.ck ((bP B x).1==0) (bP B x).1
 s1.ck (s1.u != 0||gf k (bP B x).2) 8
def dC(s:w)(d:Int)(e:aA):w:=((s.ck (decide (d≤64)) 5).ck (gd e) 4).ck (fe (X (10+e.kind)) e.aG) 11
mutual
def ic(s:w)(d:Int):aA→w
 | .mk kind n name op aG place a_=>
  if(dC s d (.mk kind n name op aG place a_)).u≠0 then dC s d (.mk kind n name op aG place a_)
  else c0 (if kind≥4 then gg (if kind=2 then(dC s d (.mk kind n name op aG place a_)).ck ((dC s d (.mk kind n name op aG place a_)).has name) 6 else dC s d (.mk kind n name op aG place a_)) (X (10+kind)) d place
    else(if kind=2 then(dC s d (.mk kind n name op aG place a_)).ck ((dC s d (.mk kind n name op aG place a_)).has name) 6 else dC s d (.mk kind n name op aG place a_))) d a_
def c0(s:w)(d:Int):List aA→w
 |[]=>s
 |e::r=>c0 (if s.u≠0 then s else ic s (X (d+1)) e) d r
def gg(s:w)(k:Int)(d:Int):aW→w
 | .mk var aK=>if s.u≠0 then s else eD (iP B s k (.mk var aK)) d aK
def eD(s:w)(d:Int):List aX→w
 |[]=>s
 |p::r=>eD (jz s d p) d r
def jz(s:w)(d:Int):aX→w
 | .mk field aZ=>ff s d aZ
def ff(s:w)(d:Int):List aA→w
 |[]=>s
 |e::r=>ff (ic s (X (d+1)) e) d r
end
variable(kw:List UInt8→Bool)
def dV(s:w)(d:Int)(x:ay):w:=((s.ck (decide (d≤64)) 5).ck (fJ x) 4).ck (fe x.kind x.aG) 11
def dK(s:w)(d:Int)(x:ay):w:=
 if x.kind=1 then((s.ck (dL x.name&&!kw x.name) 6).ck (!s.has x.name) 7).ck (decide (s.lets<40)) 12
 else if x.kind=2 then s.ck (s.has x.name) 6
 else if x.kind=3∨x.kind=4∨x.kind=5∨x.kind=6 then gg B s x.kind d x.place
 else s
def fK(s:w)(x:ay):w:=
 if x.kind=1 then s.k9 x.name
 else if x.kind=5 then((s.ck (s.has x.name) 6).ck (s.has x.bQ) 6).ck (!(x.name==x.bQ)) 7
 else s
def dq(s:w)(d:Int)(x:ay):w:=fK (c0 B (dK B kw (dV s d x) d x) d x.aF) x
mutual
def stM(s:w)(d:Int):ay→w
 | .mk kind V name bQ aG place aF aP bq=>
  el ((el (dq B kw s d (.mk kind V name bQ aG place aF aP bq)) (dq B kw s d (.mk kind V name bQ aG place aF aP bq)).f.length (X (d+1)) aP).at V)
   (((el (dq B kw s d (.mk kind V name bQ aG place aF aP bq)) (dq B kw s d (.mk kind V name bQ aG place aF aP bq)).f.length (X (d+1)) aP).at V).f.length) (X (d+1)) bq
def el(s:w)(n:Nat)(d:Int):List ay→w
 |[]=>s.back n
 |x::r=>el (if s.u≠0 then s else stM (s.at x.V) d x) n d r
end
def dN(s:w)(d:Int)(l:List ay):w:=el B kw s s.f.length d l
def k_(a:List (List UInt8))(b:Int):List aE→Int
 |[]=>if b>65536 then 9 else 0
 | v::r=>if dL v.name=false∨kw v.name=true then 6 else if a.contains v.name=true then 7
  else if(bT v.type).2≠0 then(bT v.type).2 else k_ (a++[v.name]) (X (cJ b (bT v.type).1.2+(bT v.type).1.1)) r
end
section
variable(kw:List UInt8→Bool)
def iQ(a:List aE):Int:=if 32<a.length then 12 else k_ kw [] 0 a
def s0:w:=⟨[],0,0,0,0⟩
def kA(B:List aE):List (List ay)→Int×Int
 |[]=>(0,0)
 |t::r=>if(dN B kw s0 1 t).u≠0 then((dN B kw s0 1 t).gV,(dN B kw s0 1 t).u)else kA B r
def eg(p:eA):Int×Int:=
 if 32<p.B.length∨p.cG.length<1∨8<p.cG.length then(0,12)
 else if iQ kw p.B≠0 then(0,iQ kw p.B)else kA kw p.B p.cG
end
theorem Bg(B:List aE)(s:w)(d:Int)(e:aA):ic B s d e=if(dC s d e).u≠0 then dC s d e
  else c0 B (if e.kind≥4 then gg B (if e.kind=2 then(dC s d e).ck ((dC s d e).has e.name) 6 else dC s d e) (X (10+e.kind)) d e.place else(if e.kind=2 then(dC s d e).ck ((dC s d e).has e.name) 6 else dC s d e)) d e.a_:=by
 cases e;rw[ic]
theorem Bh(B:List aE)(s:w)(k d:Int)(x:aW):gg B s k d x=if s.u≠0 then s else eD B (iP B s k x) d x.aK:=by cases x;rw[gg]
theorem Bi(B:List aE)(s:w)(d:Int)(p:aX):jz B s d p=ff B s d p.aZ:=by cases p;rw[jz]
theorem stM_eq(B:List aE)(kw:List UInt8→Bool)(s:w)(d:Int)(x:ay):stM B kw s d x=dN B kw ((dN B kw (dq B kw s d x) (X (d+1)) x.aP).at x.V) (X (d+1)) x.bq:=by cases x;rw[stM];rfl
theorem hN{s:w}(h:s.u≠0)(a:Bool)(e:Int):s.ck a e=s:=by unfold w.ck;rw[ab λx=>h x.2]
theorem Q2{s:w}(h:s.u≠0)(d:Int)(e:aA):dC s d e=s:=by unfold dC;rw[hN h,hN h,hN h]
section
variable(B:List aE)(kw:List UInt8→Bool)
theorem IE{s:w}(h:s.u≠0)(d:Int)(e:aA):ic B s d e=s:=by rw[Bg,Q2 h,aa h]
theorem rI{s:w}(h:s.u≠0)(d:Int):∀l,c0 B s d l=s
 |[]=>by rw[c0]
 |e::r=>by rw[c0,aa h,rI h d r]
theorem IF{s:w}(h:s.u≠0)(d:Int):∀l,ff B s d l=s
 |[]=>by rw[ff]
 |e::r=>by rw[ff,IE B h,IF h d r]
theorem IG{s:w}(h:s.u≠0)(d:Int):∀l,eD B s d l=s
 |[]=>by rw[eD]
 |p::r=>by rw[eD,Bi,IF B h,IG h d r]
theorem Q3{s:w}(h:s.u≠0)(k d:Int)(x:aW):gg B s k d x=s:=by rw[Bh,aa h]
theorem kB{s:w}(h:s.u≠0)(n:Nat)(d:Int):∀l,el B kw s n d l=s.back n
 |[]=>by rw[el]
 |x::r=>by rw[el,aa h,kB h n d r]
theorem Bj:∀{l:List (List ay)},(kA kw B l).2=0↔∀t∈l,(dN B kw s0 1 t).u=0
 |[]=>by simp[kA]
 | t :: r=>by
  rw[kA];by_cases h:(dN B kw s0 1 t).u=0
  · rw[ab (by simpa using h),Bj (l:=r)];simp[h]
  · rw[aa h];simp[h]
end
section
variable(kw:List UInt8→Bool)(p:eA)
end
end Rb

namespace Rb
open Go
def cx(B:List aE)(s:w)(loc:I):List I:=[aD aE.cells B,loc,D s.lets,D s.V,D s.gV,D s.u]
def E(id:Nat)(H H':Z):Prop:=H.n≤H'.n∧∀i o,i≠id→T H i o→T H' i o
theorem E.refl(id:Nat)(H:Z):E id H H:=⟨hT _,λ_ _ _ h=>h⟩
theorem E.trans{id:Nat}{a b c:Z}(h:E id a b)(k:E id b c):E id a c:=⟨At h.1 k.1,λi o hi d=>k.2 i o hi (h.2 i o hi d)⟩
theorem E.push(id:Nat)(H:Z)(x:cN):E id H (H.push x):=⟨W4 _,λi o _ h=>h.push x⟩
theorem E.set(id:Nat)(H:Z)(x:cN):E id H (H.set id x):=⟨hT _,λi o hi h=>h.br hi x⟩
def gq(H:Z)(id:Nat)(loc:I)(l:List (List UInt8)):Prop:=(loc = ar∧l=[])∨∃j cs,loc = .row j 0 l.length 1∧j≠id∧T H j (.row cs)∧l.length≤cs.length∧cs.take l.length=l.map .str
theorem gq.ca{H H':Z}{id:Nat}{loc:I}{l:List (List UInt8)}(h:gq H id loc l)(k:E id H H'):gq H' id loc l:=by
 rcases h with h|⟨j,cs,b,a,c,d,e⟩
 ·exact .inl h
 ·exact .inr ⟨j,cs,b,a,k.2 j _ a c,d,e⟩
def dO(a b:w):Prop:=b.f=a.f∧b.lets=a.lets
theorem dO.refl(a:w):dO a a:=⟨rfl,rfl⟩
theorem dO.trans{a b c:w}(h:dO a b)(k:dO b c):dO a c:=⟨k.1.trans h.1,k.2.trans h.2⟩
theorem eV(s:w)(a:Bool)(e:Int):dO s (s.ck a e):=by
 unfold w.ck;split
 ·exact⟨rfl,rfl⟩
 ·exact dO.refl s
theorem IH(s:w)(d:Int)(e:aA):dO s (dC s d e):=(eV _ _ _).trans ((eV _ _ _).trans (eV _ _ _))
theorem Bk(s:w)(d:Int)(x:ay):dO s (dV s d x):=(eV _ _ _).trans ((eV _ _ _).trans (eV _ _ _))
section
variable(B:List aE)
theorem Q4(s:w)(k:Int)(x:aW):dO s (iP B s k x):=(eV _ _ _).trans (eV _ _ _)
mutual
theorem xA:∀(e:aA)(s:w)(d:Int),dO s (ic B s d e)
 | .mk kind n name op aG place a_,s,d=>by
  have a:=IH s d (.mk kind n name op aG place a_);rw[ic];split
  ·exact a
  · have b:dO s (if kind=2 then(dC s d (.mk kind n name op aG place a_)).ck ((dC s d (.mk kind n name op aG place a_)).has name) 6 else dC s d (.mk kind n name op aG place a_)):=by
      split
      ·exact a.trans (eV _ _ _)
      ·exact a
    refine dO.trans ?_ (xB a_ _ d);split
    ·exact b.trans (Bl place _ _ d)
    ·exact b
theorem xB:∀(l:List aA)(s:w)(d:Int),dO s (c0 B s d l)
 |[],s,d=>by rw[c0];exact dO.refl s
 | e::r,s,d=>by
  rw[c0];refine dO.trans ?_ (xB r _ d);split
  ·exact dO.refl s
  ·exact xA e s _
theorem Bl:∀(x:aW)(s:w)(k d:Int),dO s (gg B s k d x)
 | .mk var aK,s,k,d=>by
  rw[gg];split
  ·exact dO.refl s
  ·exact(Q4 B s k _).trans (II aK _ d)
theorem II:∀(l:List aX)(s:w)(d:Int),dO s (eD B s d l)
 |[],s,d=>by rw[eD];exact dO.refl s
 |p::r,s,d=>by rw[eD];exact(Q5 p s d).trans (II r _ d)
theorem Q5:∀(p:aX)(s:w)(d:Int),dO s (jz B s d p)
 | .mk field aZ,s,d=>by rw[jz];exact IJ aZ s d
theorem IJ:∀(l:List aA)(s:w)(d:Int),dO s (ff B s d l)
 |[],s,d=>by rw[ff];exact dO.refl s
 |e::r,s,d=>by rw[ff];exact(xA e s _).trans (IJ r _ d)
end
end
theorem gq.still{H:Z}{id:Nat}{loc:I}{a b:w}(h:gq H id loc a.f)(k:dO a b):gq H id loc b.f:=by rw[k.1];exact h
section
variable{Φ:ae}{H:Z}{Q:ad}{id:Nat}{B:List aE}{s:w}{loc:I}
theorem nP(a:T H id (.row (cx B s loc)))(b:Q (.bool (s.u != 0)) H):S.f47 Φ (.ptr id 0) H Q:=by unfold S.f47;simp only[aO,M,G,W7];rw[a.load,show bW (cx B s loc) (4+1) 1 false=some (D s.u)from rfl];simp only[G,cU];exact b
theorem ho(W:Cl Φ S.cr){a:Bool}{e:Int}(c:T H id (.row (cx B s loc)))(d:∀H',E id H H'→T H' id (.row (cx B (s.ck a e) loc))→Q (.aM []) H') :
  Φ 98 [.ptr id 0,.bool a,D e] H Q:=by
 refine S.O0 W ?_;unfold S.f98;have f:∀b:Bool,(b=true↔a=false∧s.u=0)→U (S.wh Φ (.ptr id 0) (D e) Q) [.bool b] H:=by
  intro b g;simp only[aB,S.wh,aq,ai,aO,M,W7,G];apply aH<;>intro h
  · rw[c.load,show bW (cx B s loc) 3 1 false=some (D s.V)from rfl];simp only[G];rw[show ba [J,J] [(0,1,D s.V),(1,1,D e)]=some (.agg [D s.V,D e])from rfl];simp only[G];rw[c.store,aa ⟨rfl,rfl,rfl,by simp[cx]⟩];simp only[G];refine d _ (E.set id H _) ?_;have:s.ck a e={s with gV:=s.V,u:=e}:=by unfold w.ck;rw[aa (g.1 h)]
    rw[this];exact c.set _
  · refine d H (E.refl _ _) ?_;have:s.ck a e=s:=by unfold w.ck;rw[ab λx=>h (g.2 x)]
    rw[this];exact c
 simp only[cV,G,bG];apply aH<;>intro h
 · refine S.nG W (nP c ?_);simp only[cV,G];refine f _ ?_;simp only[Yu]at h;simp[h]
 · refine f _ ?_;simp only[Yu,ZV]at h;simp[h]
theorem Q6{a:I}{xs:List (List UInt8)}{t:List UInt8}(d:bj false a=some (D xs.length))(e:∀(i:Nat) x,xs[i]?=some x→∃p,aU none 1 a (D i)=some p∧O H 1 false p=some (.str x))(n:xs.length≤9223372036854775807)
  (f:Q (D (e8 (xs.findIdx? λx=>t==x))) H):S.f128 Φ a (.str t) H Q:=by
 unfold S.f128;rw[d];simp only[G];have main:∀(b:List (List UInt8)) (i:Nat),xs.drop i=b→Q (D (e8 ((b.findIdx? λx=>t==x).map (·+ i)))) H→au (S.wB Φ a (.str t) (D xs.length) Q) ([D i],H):=by
  intro b;induction b with
  | nil=>intro i hi c;have hle:=db hi;refine au.step ?_;simp only[S.wB,aq,bb,G,ai];rw[cZ];simpa[e8]using c
  | cons y b g=>
   intro i hi c;obtain⟨o,h,j⟩:=c8 hi;obtain⟨p,l,m⟩:=e i y h;refine au.step ?_;simp only[S.wB,aq,bb,G,ai];rw[ch,l];simp only[G];rw[m];simp only[G,fc,ai];rw[List.findIdx?_cons]at c;by_cases he:(t==y)=true
   · rw[aa he];rw[aa he]at c;simpa[e8]using c
   · rw [ab he];rw[ab he]at c;simp only[bu,G];rw[bM,fb i];refine g (i+1) j ?_;have:(ZL (λx=>t==x) b).map (·+ (i+1))=((ZL (λx=>t==x) b).map (·+ 1)).map (·+ i):=by
      rw[Option.map_map];congr 1;funext k;simp only[Function.comp];omega
     rw[this];exact c
 refine main xs 0 rfl ?_;simpa using f
theorem Bm(W:Cl Φ S.cr){a:I}{xs:List (List UInt8)}{t:List UInt8}(b:bj false a=some (D xs.length))(c:∀(i:Nat) x,xs[i]?=some x→∃p,aU none 1 a (D i)=some p∧O H 1 false p=some (.str x))(d:xs.length≤9223372036854775807)
  (e:Q (.bool (xs.any λx=>t==x)) H):Φ 95 [a,.str t] H Q:=by
 refine S.OZ W ?_;unfold S.f95;refine S.Ph W (Q6 b c d ?_);simp only[eu,G,xf];exact e
theorem rJ(W:Cl Φ S.cr){x:List UInt8}(c:T H id (.row (cx B s loc)))(d:gq H id loc s.f)(o:s.f.length≤1000)(a:Q (.bool (s.has x)) H):Φ 101 [.ptr id 0,.str x] H Q:=by
 refine S.O3 W ?_;unfold S.f101;simp only[aO,M,G,W7];rw[c.load,show bW (cx B s loc) 1 1 false=some loc from rfl];simp only[G];rcases d with⟨rfl,h⟩|⟨j,cs,rfl,p,g,q,k⟩
 · unfold w.has at a;rw[h]at a;exact Bm W (xs:=[]) rfl (λi x m=>by cases m) (by simp) a
 · refine Bm W (xs:=s.f) rfl (λi y b=>?_) (by omega) a;have n:=(Wh.1 b).1;refine⟨.ptr j i,?_,?_⟩
   · simp only[aU];rw[aa ⟨by omega,by omega⟩];simp
   · rw [g.load];unfold bW;rw[df];have e:cs[i]?=some (.str y):=by
      have:=congrArg (λl=>l[i]?) k;simp only[Wj,List.getElem?_map,b,aa n,Option.map_some]at this;exact this
     simp[e]
end
end Rb

namespace Rb
open Go
variable{k:Int}{b:Bool}{A B:Prop}
section
variable{Φ:ae}{H:Z}{Q:ad}
theorem Q7{k o:Int}(a:Q (.bool (fe k o)) H):S.f100 Φ (D k) (D o) H Q:=by
 have e:∀b:Bool,b=fe k o→Q (.bool b) H:=λb h=>by rw[h];exact a
 simp only[S.f100,S.Al,S.Am,S.Gs,S.wi,S.An,S.Ao,aB,aq,bc,eu,gR,G,ai,bG,b7,Yf,cu,aY]
 repeat' (apply aH<;>intro h)
 all_goals (refine e _ ?_;simp only[b9,dh,ge_iff_le,beq_eq_false_iff_ne,ne_eq]at *;first|(subst_vars;simp[fe];done)|(simp_all [fe];done)|(simp_all [fe];omega)|skip)
theorem IK{x:aW}(a:Q (.bool (e4 x)) H):S.f132 Φ (.agg x.cells) H Q:=by
 unfold S.f132;simp only[xj,aV,nL,G,A2,nM,bH,fc,bc,bG];unfold e4 at a;apply aH<;>intro h
 · rw[h]at a;have e:((x.aK.length:Int)==0)=(x.aK.length==0):=by rw[YG];simp
   rw[e];simpa using a
 · simp only[ZU]at h;rw[h]at a;exact a
theorem Q8{t:aC}(a:Q (.bool (gf k t)) H):S.f134 Φ (D k) (.agg t.cells) H Q:=by
 have e:∀b:Bool,b=gf k t→Q (.bool b) H:=λb h=>by rw[h];exact a
 simp only[S.f134,S.GU,S.Ar,S.As,fH,aV,cw,G,ia,kx,aB,aq,bc,gR,ai,bG]
 repeat' (apply aH<;>intro h)
 all_goals (refine e _ ?_;unfold gf;simp only[b9]at *;first|(exfalso;omega)|(subst_vars;simp[*];done)|(simp[*];done)|(subst_vars;simp_all;done)|skip)
def kC(k:Int):List I:=if 1≤k∧k≤10 then [.bool (dG k).1,.bool (dG k).2.1,.bool (dG k).2.2.1,D (dG k).2.2.2.1,.bool (dG k).2.2.2.2.1,.bool (dG k).2.2.2.2.2]else [P,P,P,J,P,P]
theorem Q9(k:Int):(kC k).length=6:=by unfold kC;split<;>rfl
theorem Q_(k:Int):(kC k).all I.scalar=true:=by unfold kC;split<;>rfl
theorem Ra(a:∀H',Q (.aM [.agg (kC k),.bool (decide (1≤k)&&decide (k≤10))]) H'):S.f131 Φ (D k) H Q:=by
 have fin:∀(cs:List I)(b:Bool) H',kC k=cs→(decide (1≤k)&&decide (k≤10))=b→Q (.aM [.agg cs,.bool b]) H':=λcs b H' c d=>by rw[←c,←d];exact a H'
 clear a;simp only[S.f131,S.GO,S.Ap,S.Aq,aV,aR,aY,G,aB,aq,bc,ai]
 repeat' (apply aH<;>intro h)
 all_goals (refine⟨_,rfl,_,bO _ _ _ 6 rfl rfl rfl,_,by rw[e9];exact eM rfl,fin _ _ _ ?_ ?_⟩)
 all_goals (simp only[b9]at *;first|(exfalso;omega)|(subst_vars;rfl)|skip)
 ·unfold kC;rw[bF]
 ·rw[aao,decide_eq_false_iff_not,decide_eq_false_iff_not];omega
theorem rK(e:aA)(H:Z):bg H false 8 (.agg e.cells)=some (.ak e.cells,H):=by unfold bg;rw[aa ⟨rfl,e.len⟩];rfl
theorem gW(e:aA)(i:Nat):M i (.ak e.cells)=some (.ak (e.cells.drop i)):=rfl
theorem ie(e:aA)(H:Z):O H 1 false (.ak (e.cells.drop 0))=some (D e.kind):=by rw[aA.be,aW.be];rfl
theorem Bn(e:aA)(H:Z):O H 1 false (.ak (e.cells.drop 1))=some (af e.n):=by rw[aA.be,aW.be];rfl
theorem xC(e:aA)(H:Z):O H 1 false (.ak (e.cells.drop 2))=some (.str e.name):=by rw[aA.be,aW.be];rfl
theorem rL(e:aA)(H:Z):O H 1 false (.ak (e.cells.drop 3))=some (D e.op):=by rw[aA.be,aW.be];rfl
theorem IL(e:aA)(H:Z):O H 1 false (.ak (e.cells.drop 4))=some (D e.aG):=by rw[aA.be,aW.be];rfl
theorem xD(e:aA)(H:Z):O H 2 true (.ak (e.cells.drop 5))=some (.agg e.place.cells):=by rw[aA.be,aW.be];rfl
theorem rM(e:aA)(H:Z):O H 1 false (.ak (e.cells.drop 7))=some (aD aA.cells e.a_):=by rw[aA.be,aW.be];rfl
theorem IM(e:aA)(H:Z):O H 8 true (.ak e.cells)=some (.agg e.cells):=eM e.len
theorem pv(e:ay)(H:Z):bg H false 10 (.agg e.cells)=some (.ak e.cells,H):=by unfold bg;rw[aa ⟨rfl,e.len⟩];rfl
theorem fM(e:ay)(i:Nat):M i (.ak e.cells)=some (.ak (e.cells.drop i)):=rfl
theorem hO(e:ay)(H:Z):O H 1 false (.ak (e.cells.drop 0))=some (D e.kind):=by rw[ay.be,aW.be];rfl
theorem IP(e:ay)(H:Z):O H 1 false (.ak (e.cells.drop 1))=some (D e.V):=by rw[ay.be,aW.be];rfl
theorem la(e:ay)(H:Z):O H 1 false (.ak (e.cells.drop 2))=some (.str e.name):=by rw[ay.be,aW.be];rfl
theorem rN(e:ay)(H:Z):O H 1 false (.ak (e.cells.drop 3))=some (.str e.bQ):=by rw[ay.be,aW.be];rfl
theorem rO(e:ay)(H:Z):O H 1 false (.ak (e.cells.drop 4))=some (D e.aG):=by rw[ay.be,aW.be];rfl
theorem pw(e:ay)(H:Z):O H 2 true (.ak (e.cells.drop 5))=some (.agg e.place.cells):=by rw[ay.be,aW.be];rfl
theorem py(e:ay)(H:Z):O H 1 false (.ak (e.cells.drop 7))=some (aD aA.cells e.aF):=by rw[ay.be,aW.be];rfl
theorem nQ(e:ay)(H:Z):O H 1 false (.ak (e.cells.drop 8))=some (aD ay.cells e.aP):=by rw[ay.be,aW.be];rfl
theorem rP(e:ay)(H:Z):O H 1 false (.ak (e.cells.drop 9))=some (aD ay.cells e.bq):=by rw[ay.be,aW.be];rfl
theorem Bo(e:ay)(H:Z):O H 10 true (.ak e.cells)=some (.agg e.cells):=eM e.len
theorem IQ{α:Type}(l:List α):((l.length:Int)==0)=(l.length==0):=by rw[YG];simp
theorem ite_bool(a:b=true→A)(c:b=false→B):if b=true then A else B:=aH a λh=>c (by simpa using h)
theorem dD(a:b=false→A)(c:b=true→B):if b=false then A else B:=aH a λh=>c (by simpa using h)
theorem Rc(W:Cl Φ S.cr){e:aA}(l:Q (.bool (gd e)) H):S.f161 Φ (.agg e.cells) H Q:=by
 have fin:∀b:Bool,b=gd e→Q (.bool b) H:=λb h=>by rw[h];exact l
 clear l;have p : (decide (1≤e.kind)&&decide (e.kind≤8))=true→S.mC Φ (.ak e.cells) Q [D (ft e.kind).1,.bool (ft e.kind).2] H:=by
  intro hk;unfold gd at fin;rw[hk]at fin;simp only[aaa]at fin;generalize q:ft e.kind=d at fin ⊢;have j:∀b:Bool,(∀c,c=(b&&((e.a_.length:Int)==d.1))→Q (.bool c) H)→U (S.rm Φ (.ak e.cells) [D d.1,.bool d.2] Q) [.bool b] H:=by
   intro b a;simp only[aB,S.rm,aq,bh,bG,gW,rM,bH,bc,G];cases b
   ·exact a _ rfl
   ·exact a _ rfl
  have i:∀b:Bool,(∀c,c=((b&&(d.2||e4 e.place))&&((e.a_.length:Int)==d.1))→Q (.bool c) H)→U (S.k0 Φ (.ak e.cells) [D d.1,.bool d.2] Q) [.bool b] H:=by
   intro b a;simp only[aB,S.k0,aq,bh,bG,b7,gW,xD,G];cases b
   ·exact j _ λc hc=>a c (by rw[hc];rfl)
   · rw [aa rfl];apply dD<;>intro h
     · refine S.HO W (IK ?_);exact j _ λc hc=>a c (by rw[hc,h];rfl)
     ·exact j _ λc hc=>a c (by rw[hc,h];rfl)
  have k : ∀b:Bool,(∀c,c=(((b&&(if e.kind=3 then decide (1≤e.op)&&decide (e.op≤11)else e.op==0))&&(d.2||e4 e.place))&&((e.a_.length:Int)==d.1))→Q (.bool c) H) →
    U (S.rp Φ (.ak e.cells) (.bool (e.kind==3)) [D d.1,.bool d.2] Q) [.bool b] H:=by
   intro b a;simp only[aB,S.rp,aq,bh,bG,b7,gW,rL,G,eu,gR,bc,cV];cases b
   ·exact i _ λc hc=>a c (by rw[hc];rfl)
   · rw [aa rfl];apply ite_bool<;>intro h
     · rw [aa (by simpa using h)]at a;apply ite_bool<;>intro f
       · apply dD<;>intro m
         · rw[h,aN];exact i _ λc hc=>a c (by rw[hc];simp only[ge_iff_le]at f;rw[f,m];rfl)
         ·exact i _ λc hc=>a c (by rw[hc];simp only[ge_iff_le]at f;rw[f,m];rfl)
       · rw[h,aN];exact i _ λc hc=>a c (by rw[hc];simp only[ge_iff_le]at f;rw[f];rfl)
     · rw[ab (by simpa using h)]at a;rw[h,dW];exact i _ λc hc=>a c (by rw[hc];rfl)
  have o:∀b:Bool,(∀c,c=((((b&&(e.kind==2||e.name==[]))&&(if e.kind=3 then decide (1≤e.op)&&decide (e.op≤11)else e.op==0))&&(d.2||e4 e.place))&&((e.a_.length:Int)==d.1))→Q (.bool c) H) →
    U (S.wT Φ (.ak e.cells) (.bool (e.kind==3)) [D d.1,.bool d.2] Q) [.bool b] H:=by
   intro b a;simp only[aB,S.wT,aq,bh,bG,b7,gW,ie,xC,G,bc,fc];cases b
   ·exact k _ λc hc=>a c (by rw[hc];rfl)
   · rw[aa rfl];apply dD<;>intro h
     ·exact k _ λc hc=>a c (by rw[hc,h];rfl)
     ·exact k _ λc hc=>a c (by rw[hc,h];rfl)
  simp only[S.mC,gW,ie,Bn,G,bc,b7];apply dD<;>intro h
  ·exact o _ λc hc=>fin c (by rw[hc,h];rfl)
  ·exact o _ λc hc=>fin c (by rw[hc,h];rfl)
 simp only[S.f161,S.Av,S.Aw,S.Ax,rK,aV,gW,ie,G,aB,aq,bc,ai,b9];have g:∀n b,ft e.kind=(n,b)→(decide (1≤e.kind)&&decide (e.kind≤8))=true→S.mC Φ (.ak e.cells) Q [D n,.bool b] H:=λn b h hk=>by have:=p hk;rw[h]at this;exact this
 repeat' (apply aH<;>intro h)
 all_goals first
  |(exfalso;omega)
  | (refine g _ _ ?_ ?_
     · unfold ft;simp[*]
     ·simp[*])
  |skip
 refine fin _ ?_;have:(decide (1≤e.kind)&&decide (e.kind≤8))=false:=by rw[aao,decide_eq_false_iff_not,decide_eq_false_iff_not];omega
 unfold gd;rw[this];rfl
end
end Rb

namespace Rb
open Go
variable{s:w}{loc:I}{H:Z}
theorem jc:maxLen=9223372036854775807:=by decide
theorem aA.dc{e:aA}(h:e.ok):(e.a_.length≤9223372036854775807∧∀k∈e.a_,k.ok)∧e.place.ok:=by
 rw[←jc];cases e with
 | mk kind n name op aG place a_=>obtain⟨_,_,_,_,_,a,b,c⟩:=h;exact⟨⟨b,aA.ek.1 c⟩,a⟩
theorem aW.dc{x:aW}(h:x.ok):x.aK.length≤9223372036854775807∧∀p∈x.aK,p.aZ.length≤9223372036854775807∧∀i∈p.aZ,i.ok:=by
 rw[←jc];cases x with
 | mk var aK=>
  obtain⟨_,a,b⟩:=h;refine⟨a,λp c=>?_⟩;have:=aX.ek.1 b p c;cases p with
  | mk field aZ=>obtain⟨_,d,e⟩:=this;exact⟨d,aA.ek.1 e⟩
theorem aA.ind{P:aA→Prop}(h:∀e:aA,(∀k∈e.a_,P k)→(∀p∈e.place.aK,∀i∈p.aZ,P i)→P e):∀e,P e:=by
 have main:∀(n:Nat)(e:aA),sizeOf e<n→P e:=by
  intro n;induction n with
  |zero=>intro e he;omega
  | succ n a=>
   intro e he;refine h e (λk hk=>a _ ?_) λp b i hi=>a _ ?_
   · cases e with
     | mk kind n name op aG place a_=>have:=ZT hk;simp at this he ⊢;omega
   · cases e with
     | mk kind n name op aG place a_=>
      cases place with
      | mk var aK=>
       have c:=ZT b;cases p with
       | mk field aZ=>have d:=ZT hi;simp at c d he ⊢;omega
 exact λe=>main _ e (Y9 _)
section
variable{C:Ctx}(aw:cY C)(W:Cl (aj C) S.cr)
include aw W
theorem IU(k o:Int):bR (aj C) 100 [D k,D o] (.bool (fe k o)):=λH Q a=>S.O2 W (Q7 a)
theorem Rd(e:aA):bR (aj C) 161 [.agg e.cells] (.bool (gd e)):=λH Q a=>S.PC W (Rc W a)
theorem Re(k:Int)(t:aC):bR (aj C) 134 [D k,.agg t.cells] (.bool (gf k t)):=λH Q a=>S.Pl W (Q8 a)
theorem Rf(t:aC)(p:aX)(hs:cO t=0)(hl:p.aZ.length≤maxLen):bR (aj C) 160 [.agg t.cells,.agg p.cells] (gb (de t p)):=bR.of aw (by simp[I.cv,I.b6,aC.b6,aX.b6]) (A0 _) λQ a=>S.PB W (QE W hs hl a)
theorem Bp(B:List aE)(x:aW)(hl:B.length≤maxLen)(hv:∀v∈B,v.ok)(b:x.ok):bR (aj C) 133 [aD aE.cells B,.agg x.cells] (gb (bP B x)):=by
 have a:=aW.dc b;rw[←jc]at a;exact bR.of aw (by simp[I.cv,I.b6,aW.b6,k1 aE.b6]) (A0 _) λQ c=>S.Pk W (QH W hl a.1 (λv d=>Ia aw W v.type (hv v d).2) (λt p hs e=>Rf aw W t p hs (a.2 p e).1) c)
end
def xE(C:Ctx)(id:Nat)(B:List aE)(e:aA):Prop:=
 ∀ (s:w) (d:Int) (loc:I) (H:Z) (Q:ad),T H id (.row (cx B s loc))→gq H id loc s.f→s.f.length≤1000 →
  (∀H',E id H H'→T H' id (.row (cx B (ic B s d e) loc))→Q (.aM []) H')→aj C 135 [.ptr id 0,.agg e.cells,D d] H Q
def dH(r:Int×aC):List I:=if r.1=0 then r.2.cells else dm
theorem mJ(r:Int×aC):(dH r).length=6:=by unfold dH;split;exact r.2.len;rfl
theorem rQ(r:Int×aC):(dH r).all I.scalar=true:=by unfold dH;split;exact r.2.scalar;rfl
theorem rR(r:Int×aC):gb r = .aM [.agg (dH r),D r.1]:=by unfold gb dH;split;rename_i h;rw[h];rfl
section
variable{C:Ctx}(aw:cY C)(W:Cl (aj C) S.cr){id:Nat}{B:List aE}
include aw W
theorem IV{l:List aA}(hl:l.length≤9223372036854775807)(t:∀e∈l,xE C id B e){d:Int}{Q:ad}(v:T H id (.row (cx B s loc)))(x:gq H id loc s.f)(y:s.f.length≤1000)
  (z:∀H',E id H H'→T H' id (.row (cx B (c0 B s d l) loc))→Q (.aM []) H'):aj C 103 [.ptr id 0,aD aA.cells l,D d] H Q:=by
 refine S.O5 W ?_;unfold S.f103;simp only[bH,G];have main:∀(r:List aA)(i:Nat)(A:w)(H1:Z),l.drop i=r→dO s A→E id H H1→T H1 id (.row (cx B A loc))→c0 B A d r=c0 B s d l →
   au (S.rk (aj C) (.ptr id 0) (aD aA.cells l) (D d) (D l.length) Q) ([D i],H1):=by
  intro r;induction r with
  | nil=>intro i A H1 c b hk g he;have hle:=db c;refine au.step ?_;simp only[S.rk,aq,bb,G,ai];rw[cZ];rw[c0]at he;exact z H1 hk (by rw[←he];exact g)
  | cons e r F=>
   intro i A H1 c b hk g he;obtain⟨I,p,J⟩:=c8 c;refine au.step ?_;simp only[S.rk,aq,bb,G,ai];rw[ch,cp I];simp only[G];rw[dd aA.len (by decide) _ p];simp only[G,aV,aR,aY];rw[bO _ _ _ 8 e.len e.scalar rfl];simp only[G];have j:=g.push (.row e.cells);have k:=hk.trans (E.push id H1 (.row e.cells));have K:O (H1.push (.row e.cells)) 8 true (.ptr H1.n 0)=some (.agg e.cells):=by rw[e9,eM e.len]
   have next:∀(s2:w)(a:Z),E id H a→T a id (.row (cx B s2 loc))→dO s s2→c0 B s2 d r=c0 B s d l →
     U (S.wm (aj C) ([D i],H1) (au (S.rk (aj C) (.ptr id 0) (aD aA.cells l) (D d) (D l.length) Q)) Q) [] a:=by
    intro s2 a m a3 L M;simp only[aB,S.wm,aq,bu,G];rw[bM,fb i];exact F (i+1) s2 a J L m a3 M
   rw[c0]at he;generalize H1.push (.row e.cells)=q at *;refine S.nG W (nP j ?_);simp only[cV,G,ai];apply aH<;>intro h
   · have o:A.u=0:=by simpa using h
     rw[ab (by simpa using o)]at he;simp only[K,G,bu];refine t e (Y7 p) A _ loc q _ j ((x.ca k).still b) (by rw[b.1];exact y) λa m a3=>?_;exact next _ a (k.trans m) a3 (b.trans (xA B e A _)) he
   · have o:A.u≠0:=by simpa using h
     rw[aa o]at he;exact next A q k j b he
 exact main l 0 s H rfl (dO.refl s) (E.refl id H) v rfl
theorem IW(af:B.length≤maxLen)(hv:∀v∈B,v.ok){x:aW}(N:x.ok)(ag:∀p∈x.aK,∀i∈p.aZ,xE C id B i){k d:Int}{Q:ad}(c:T H id (.row (cx B s loc)))(ah:gq H id loc s.f)(al:s.f.length≤1000)
  (g:∀H',E id H H'→T H' id (.row (cx B (gg B s k d x) loc))→Q (.aM []) H'):aj C 102 [.ptr id 0,D k,.agg x.cells,D d] H Q:=by
 obtain⟨aU,am⟩:=aW.dc N;refine S.O4 W ?_;unfold S.f102;simp only[xj,aV];refine S.nG W (nP c ?_);simp only[ai];rw[Bh]at g;apply aH<;>intro h
 · rw[aa (by simpa using h)]at g;exact g H (E.refl _ _) c
 · have P : s.u=0:=by simpa using h
   rw[ab (by simpa using P)]at g;simp only[aO,M,G,W7,WW];have an:O H 1 false (.ptr id 0)=some (aD aE.cells B):=by rw[c.load];rfl
   have ao:O H 2 true (.ak x.cells)=some (.agg x.cells):=eM x.len;simp only[an,ao,G];refine Bp aw W B x af hv N _ _ ?_;rw[rR];simp only[bI,Zn,Zo,G,aV,aR,aY];have a2:=c.push (.row dm);refine⟨(a2.load 1 0 false).trans rfl,eM x.len,?_⟩;change Do (ax (H.push (.row dm)) 6 (.ptr H.n 0) (.agg (dH (bP B x)))) _;rw[bO _ _ _ 6 (mJ _) (rQ _) rfl];simp only[G,bc];have a3:=c.push (.row (dH (bP B x)));have ap:=E.push id H (.row (dH (bP B x)));have ar:=T.new H (.row (dH (bP B x)));have av:H.n≠id:=W_ c.gS;generalize H.push (.row (dH (bP B x)))=a0 at *;generalize H.n=a1 at *;refine ho W a3 λa7 R a4=>?_;have ay:=R.2 _ _ av ar;have V:=ap.trans R;have aK:∀(s1:w)(b:Z),dO s s1→E id H b→T b id (.row (cx B s1 loc))→eD B s1 d x.aK=eD B (iP B s k x) d x.aK→U (S.wk (aj C) (.ptr id 0) (D d) (.ak x.cells) Q) [] b:=by
    intro s1 b y hk l he;simp only[aB,S.wk,nL,nM,bH,G];have main:∀(r:List aX)(i:Nat)(A:w)(H1:Z),x.aK.drop i=r→dO s A→E id H H1→T H1 id (.row (cx B A loc))→eD B A d r=eD B (iP B s k x) d x.aK →
      au (S.rj (aj C) (.ptr id 0) (D d) (aD aX.cells x.aK) (D x.aK.length) Q) ([D i],H1):=by
     intro r;induction r with
     | nil=>intro i A H1 z y hk l he;have hle:=db z;refine au.step ?_;simp only[S.rj,aq,bb,G,ai];rw[cZ];rw[eD]at he;exact g H1 hk (by rw[←he];exact l)
     | cons p r az=>
      intro i A H1 z y hk l he;obtain⟨aC,X,aF⟩:=c8 z;have Y:=Y7 X;refine au.step ?_;simp only[S.rj,aq,bb,G,ai];rw[ch,cp aC];simp only[G];rw[dd aX.len (by decide) _ X];simp only[G,aV,aR,aY];rw[bO _ _ _ 2 p.len p.scalar rfl];simp only[G,M,W7];have aG:=l.push (.row p.cells);have aI:=hk.trans (E.push id H1 (.row p.cells));have aJ:O (H1.push (.row p.cells)) 1 false (.ptr H1.n 1)=some (aD aA.cells p.aZ):=by rw[e9,aX.be];rfl
      simp only[aJ,G,bH];rw[eD,Bi]at he;have inner:∀(q:List aA)(j:Nat)(s2:w)(a:Z),p.aZ.drop j=q→dO s s2→E id H a→T a id (.row (cx B s2 loc))→eD B (ff B s2 d q) d r=eD B (iP B s k x) d x.aK →
        au (S.wj (aj C) (.ptr id 0) (D d) (aD aA.cells p.aZ) (D p.aZ.length) ([D i],H1) (au (S.rj (aj C) (.ptr id 0) (D d) (aD aX.cells x.aK) (D x.aK.length) Q)) Q) ([D j],a):=by
       intro q;induction q with
       | nil=>intro j s2 a F m I J o;have hle:=db F;refine au.step ?_;simp only[S.wj,aq,bb,G,ai];rw[cZ];simp only[aB,S.Gv,aq,bu,G];rw[bM,fb i];rw[ff]at o;exact az (i+1) s2 a aF m I J o
       | cons e q aL=>
        intro j s2 a F m I J o;obtain⟨aN,ac,aP⟩:=c8 F;have a8:=(am p Y).1;refine au.step ?_;simp only[S.wj,aq,bb,G,ai];rw[ch,cp aN];simp only[G];rw[dd aA.len (by decide) _ ac];simp only[G,aV,aR,aY];rw[bO _ _ _ 8 e.len e.scalar rfl];simp only[G];have aQ:=J.push (.row e.cells);have ae:=I.trans (E.push id a (.row e.cells));have aS:O (a.push (.row e.cells)) 8 true (.ptr a.n 0)=some (.agg e.cells):=by rw[e9,eM e.len]
        simp only[aS,G,bu];rw[ff]at o;refine ag p Y e (Y7 ac) s2 _ loc _ _ aQ ((ah.ca ae).still m) (by rw[m.1];exact al) λb aT a5=>?_;rw[bM,fb j];exact aL (j+1) _ b aP (m.trans (xA B e s2 _)) (ae.trans aT) a5 o
      exact inner p.aZ 0 A _ rfl y aI aG he
    exact main x.aK 0 s1 b rfl y hk l he
   refine S.nG W (nP a4 ?_);simp only[b7];apply dD<;>intro h
   · rw [ay.load,eM (mJ _)];simp only[G];have t:(bP B x).1=0:=by
      by_cases t:(bP B x).1=0
      ·exact t
      · have:(s.ck ((bP B x).1==0) (bP B x).1).u=(bP B x).1:=by
          unfold w.ck;rw[aa ⟨by simpa using t,P⟩]
        rw[this]at h;simp at h;exact absurd h t
     have hc:dH (bP B x)=(bP B x).2.cells:=by unfold dH;rw[aa t]
     rw[hc];refine Re aw W _ _ _ _ ?_;refine ho W a4 λK L a6=>?_;refine aK _ K ((eV _ _ _).trans (eV _ _ _)) (V.trans L) a6 ?_;unfold iP;simp only[h,Bool.false_or]
   · refine ho W a4 λK L a6=>?_;refine aK _ K ((eV _ _ _).trans (eV _ _ _)) (V.trans L) a6 ?_;unfold iP;simp only[h,Bool.true_or]
theorem Rg(y:B.length≤maxLen)(hv:∀v∈B,v.ok):∀e:aA,e.ok→xE C id B e:=by
 refine aA.ind λe z A he=>?_;obtain⟨⟨F,I⟩,t⟩:=aA.dc he;have J:=aW.dc t;intro s d loc H Q K m n b;refine S.Pm W ?_;unfold S.f135;simp only[rK,aV,gR,G];refine ho W K λH1 L Y=>?_;simp only[IM,G];refine Rd aw W e _ _ ?_;refine ho W Y λP M a2=>?_;simp only[gW,ie,IL,G,bu];refine IU aw W _ _ _ _ ?_;refine ho W a2 λo N a3=>?_;have kk:=L.trans (M.trans N);rw[Bg]at b;change T o id (.row (cx B (dC s d e) loc))at a3;have g:=IH s d e;generalize dC s d e=s1 at *;refine S.nG W (nP a3 ?_);simp only[ai];apply aH<;>intro h
 · rw[aa (by simpa using h)]at b;exact b o kk a3
 · rw [ab (by simpa using h)]at b;simp only[bc,G,ai];have a_:∀(j:w)(a:Z),dO s j→E id H a→T a id (.row (cx B j loc))→(∀H',E id H H'→T H' id (.row (cx B (c0 B j d e.a_) loc))→Q (.aM []) H')→U (S.wD (aj C) (.ptr id 0) (D d) (.ak e.cells) Q) [] a:=by
    intro j a c hk l f;simp only[aB,S.wD,gW,rM,G];exact IV aw W F (λk u=>z k u (I k u)) l ((m.ca hk).still c) (by rw[c.1];exact n) λH' q r=>f H' (hk.trans q) r
   have hP:∀(s2:w)(a:Z),dO s s2→E id H a→T a id (.row (cx B s2 loc))→(∀H',E id H H'→T H' id (.row (cx B (c0 B (if e.kind≥4 then gg B s2 (X (10+e.kind)) d e.place else s2) d e.a_) loc))→Q (.aM []) H') →
     U (S.wE (aj C) (.ptr id 0) (D d) (.ak e.cells) Q) [] a:=by
    intro s2 a c hk l f;simp only[aB,S.wE,gW,ie,xD,G,eu,ai,bu];apply aH<;>intro h
    · rw[aa (by simpa using h)]at f;refine IW aw W y hv t (λp x i hi=>A p x i hi ((J.2 p x).2 i hi)) l ((m.ca hk).still c) (by rw[c.1];exact n) λH' q r=>?_;exact a_ _ H' (c.trans (Bl B _ _ _ _)) (hk.trans q) r f
    · rw[ab (by simpa using h)]at f;exact a_ _ a c hk l f
   apply aH<;>intro h
   · rw[show(if e.kind=2 then s1.ck (s1.has e.name) 6 else s1)=s1.ck (s1.has e.name) 6 from aa (by simpa using h)]at b;simp only[xC,G];refine rJ W a3 ((m.ca kk).still g) (by rw[g.1];exact n) ?_;refine ho W a3 λa O a4=>?_;exact hP _ a (g.trans (eV _ _ _)) (kk.trans O) a4 b
   · rw[show(if e.kind=2 then s1.ck (s1.has e.name) 6 else s1)=s1 from ab (by simpa using h)]at b;exact hP _ o g kk a3 b
end
end Rb

namespace Rb
open Go
variable{s:w}{x:ay}{d:Int}{id:Nat}
section
variable{Φ:ae}{H:Z}{Q:ad}
theorem Rh(W:Cl Φ S.cr)(s:∀H',Q (.bool (fJ x)) H'):S.f99 Φ (.agg x.cells) H Q:=by
 have fin:∀(b:Bool) H',b=fJ x→Q (.bool b) H':=λb H' h=>by rw[h];exact s H'
 clear s;unfold S.f99;simp only[pv,aV,fM,hO,G];refine S.Pj W (Ra λH1=>?_);simp only[bI,Zn,Zo,G,aV,aR,aY];rw[bO _ _ _ 6 (Q9 _) (Q_ _) rfl];simp only[G];have at9:=T.new H1 (.row (kC x.kind));generalize H1.push (.row (kC x.kind))=v at *;generalize H1.n=f at *;by_cases hk:(decide (1≤x.kind)&&decide (x.kind≤10))=true
 · have hc:kC x.kind=[.bool (dG x.kind).1,.bool (dG x.kind).2.1,.bool (dG x.kind).2.2.1,D (dG x.kind).2.2.2.1,.bool (dG x.kind).2.2.2.2.1,.bool (dG x.kind).2.2.2.2.2]:=by
     unfold kC;rw[aa (by simpa using hk)]
   rw[hc]at at9;unfold fJ at fin;rw[hk]at fin ⊢;simp only[aaa]at fin;generalize dG x.kind=h at *;obtain⟨o,m,k,j,i,g⟩:=h;simp only at at9 fin;have p:∀(b:Bool)(H':Z),T H' f (.row [.bool o,.bool m,.bool k,D j,.bool i,.bool g])→(∀c a,c=(b&&(g||x.bq.length==0))→Q (.bool c) a)→U (S.o_ Φ (.ak x.cells) (.ptr f 0) Q) [.bool b] H':=by
    intro b H' d e;have l:O H' 1 false (.ptr f 5)=some (.bool g):=by rw[d.load];rfl
    simp only[aB,S.o_,aq,bG,b7,M,W7,rP,G,bH,bc,l,IQ];cases b
    ·exact e _ _ rfl
    · rw[aa rfl];apply dD<;>intro h
      ·exact e _ _ (by rw[h];rfl)
      ·exact e _ _ (by rw[h];rfl)
   have t:∀(b:Bool)(H':Z),T H' f (.row [.bool o,.bool m,.bool k,D j,.bool i,.bool g])→(∀c a,c=(b&&(i||x.aP.length==0)&&(g||x.bq.length==0))→Q (.bool c) a)→U (S.ri Φ (.ak x.cells) (.ptr f 0) Q) [.bool b] H':=by
    intro b H' d e;have l:O H' 1 false (.ptr f 4)=some (.bool i):=by rw[d.load];rfl
    simp only[aB,S.ri,aq,bG,b7,M,W7,nQ,G,bH,bc,l,IQ];cases b
    ·exact p _ _ d λc a hc=>e c a (by rw[hc];rfl)
    · rw[aa rfl];apply dD<;>intro h
      ·exact p _ _ d λc a hc=>e c a (by rw[hc,h];rfl)
      ·exact p _ _ d λc a hc=>e c a (by rw[hc,h];rfl)
   have q:∀(b:Bool)(H':Z),T H' f (.row [.bool o,.bool m,.bool k,D j,.bool i,.bool g])→(∀c a,c=(b&&((x.aF.length:Int)==j)&&(i||x.aP.length==0)&&(g||x.bq.length==0))→Q (.bool c) a) →
     U (S.pa Φ (.ak x.cells) (.ptr f 0) Q) [.bool b] H':=by
    intro b H' d e;have l:O H' 1 false (.ptr f 3)=some (D j):=by rw[d.load];rfl
    simp only[aB,S.pa,aq,bG,b7,M,W7,py,G,bH,bc,l];cases b
    ·exact t _ _ d λc a hc=>e c a (by rw[hc];rfl)
    · rw[aa rfl];exact t _ _ d λc a hc=>e c a (by rw[hc];rfl)
   have r:∀(b:Bool)(H':Z),T H' f (.row [.bool o,.bool m,.bool k,D j,.bool i,.bool g])→(∀c a,c=(b&&(k||e4 x.place)&&((x.aF.length:Int)==j)&&(i||x.aP.length==0)&&(g||x.bq.length==0))→Q (.bool c) a) →
     U (S.pb Φ (.ak x.cells) (.ptr f 0) Q) [.bool b] H':=by
    intro b H' d e;have l:O H' 1 false (.ptr f 2)=some (.bool k):=by rw[d.load];rfl
    simp only[aB,S.pb,aq,bG,b7,M,W7,pw,G,l];cases b
    ·exact q _ _ d λc a hc=>e c a (by rw[hc];rfl)
    · rw [aa rfl];apply dD<;>intro h
      · refine S.HO W (IK ?_);exact q _ _ d λc a hc=>e c a (by rw[hc,h];rfl)
      ·exact q _ _ d λc a hc=>e c a (by rw[hc,h];rfl)
   have u:∀(b:Bool)(H':Z),T H' f (.row [.bool o,.bool m,.bool k,D j,.bool i,.bool g])→(∀c a,c=(b&&(m||x.bQ==[])&&(k||e4 x.place)&&((x.aF.length:Int)==j)&&(i||x.aP.length==0)&&(g||x.bq.length==0))→Q (.bool c) a) →
     U (S.pd Φ (.ak x.cells) (.ptr f 0) Q) [.bool b] H':=by
    intro b H' d e;have l:O H' 1 false (.ptr f 1)=some (.bool m):=by rw[d.load];rfl
    simp only[aB,S.pd,aq,bG,b7,M,W7,rN,G,l,fc];cases b
    ·exact r _ _ d λc a hc=>e c a (by rw[hc];rfl)
    · rw[aa rfl];apply dD<;>intro h
      ·exact r _ _ d λc a hc=>e c a (by rw[hc,h];rfl)
      ·exact r _ _ d λc a hc=>e c a (by rw[hc,h];rfl)
   have l:O v 1 false (.ptr f 0)=some (.bool o):=by rw[at9.load];rfl
   simp only[bG,b7,M,W7,WW,l,G,la,fc,aY];apply dD<;>intro h
   ·exact u _ _ at9 λc a hc=>fin c a (by rw[hc,h];rfl)
   ·exact u _ _ at9 λc a hc=>fin c a (by rw[hc,h];rfl)
 · simp only[ZU]at hk;rw[hk];simp only[bG,S.o_,S.ri,S.pa,S.pb,S.pd,aB,aq,Yf,cu];refine fin _ _ ?_;unfold fJ;rw[hk];rfl
end
def jd(s:w):Prop:=(s.f.length:Int)≤s.lets∧s.lets≤41∧(s.u=0→s.lets≤40)
theorem Ri{a:Bool}{e:Int}(b:e≠0)(h:(s.ck a e).u=0):s.u=0∧a=true:=by
 unfold w.ck at h;split at h
 ·exact absurd h b
 · rename_i c;refine⟨h,?_⟩;cases a with
   |true=>rfl
   |false=>exact absurd ⟨rfl,h⟩ c
section
variable(B:List aE)(kw:List UInt8→Bool)
theorem IX(s:w)(d:Int)(x:ay):dO s (dK B kw s d x):=by
 unfold dK;split
 ·exact(eV _ _ _).trans ((eV _ _ _).trans (eV _ _ _))
 · split
   ·exact eV _ _ _
   · split
     ·exact Bl B _ _ _ _
     ·exact dO.refl s
theorem Rj(hk:x.kind=1)(h:(dK B kw s d x).u=0):s.lets<40:=by unfold dK at h;rw[aa hk]at h;have:=(Ri (by decide) h).2;exact of_decide_eq_true this
theorem Rk{l:List aA}(h:(c0 B s d l).u=0):s.u=0:=by
 by_cases a:s.u=0
 ·exact a
 ·rw[rI B a]at h;exact absurd h a
theorem Rl(hk:x.kind≠1):dO s (fK s x):=by
 unfold fK;rw[ab hk];split
 ·exact(eV _ _ _).trans ((eV _ _ _).trans (eV _ _ _))
 ·exact dO.refl s
theorem IY(a:s.u=0)(hi:jd s):jd (dq B kw s d x)∧s.lets≤(dq B kw s d x).lets∧s.f.length≤(dq B kw s d x).f.length:=by
 obtain⟨i1,b,c⟩:=hi;have i4:=c a;have s1:dO s (c0 B (dK B kw (dV s d x) d x) d x.aF):=(Bk s d x).trans ((IX B kw _ d x).trans (xB B _ _ _));unfold dq;by_cases hk:x.kind=1
 · have hl:(c0 B (dK B kw (dV s d x) d x) d x.aF).u=0→s.lets<40:=by
     intro h;have:=Rj B kw hk (Rk B h);rw[(Bk s d x).2]at this;exact this
   generalize c0 B (dK B kw (dV s d x) d x) d x.aF=t at *;unfold fK;rw[aa hk];unfold w.k9 jd;simp only[ZG,aap];obtain⟨s2,g⟩:=s1;rw[s2,g];have e:X (s.lets+1)=s.lets+1:=bM;rw[e];refine⟨⟨by omega,by omega,λk=>?_⟩,by omega,by omega⟩;have:=hl k;omega
 · have s2:=s1.trans (Rl (s:=c0 B (dK B kw (dV s d x) d x) d x.aF) hk);refine⟨⟨by rw[s2.1,s2.2];exact i1,by rw[s2.2];exact b,λ_=>by rw[s2.2];exact i4⟩,by rw[s2.2];exact aac _,by rw[s2.1];exact hT _⟩
mutual
theorem IZ:∀(x:ay)(s:w)(d:Int),s.u=0→jd s→jd (stM B kw s d x)∧s.lets≤(stM B kw s d x).lets∧s.f.length≤(stM B kw s d x).f.length
 | .mk kind V name bQ aG place aF aP bq,s,d,a,hi=>by rw[stM];have b:=IY B kw (d:=d) (x:= .mk kind V name bQ aG place aF aP bq) a hi;generalize dq B kw s d (.mk kind V name bQ aG place aF aP bq)=s1 at *;have c:=rS aP s1 s1.f.length (X (d+1)) b.1 (hT _);generalize el B kw s1 s1.f.length (X (d+1)) aP=s2 at *;have e1:(s2.at V).lets=s2.lets:=rfl;have g:(s2.at V).f.length=s2.f.length:=rfl;have i:jd (s2.at V):=c.1;generalize s2.at V=t at *;have j:=rS bq t t.f.length (X (d+1)) i (hT _);exact⟨j.1,by omega,by omega⟩
theorem rS:∀(l:List ay)(s:w)(n:Nat)(d:Int),jd s→n≤s.f.length→jd (el B kw s n d l)∧s.lets≤(el B kw s n d l).lets∧(el B kw s n d l).f.length=n
 | [],s,n,d,hi,h=>by
  rw[el];obtain⟨i1,k,m⟩:=hi;have e:(s.back n).f.length=n:=by show(s.f.take n).length=n;rw[Z1];omega
  exact⟨⟨by rw[e];show(n:Int)≤s.lets;omega,k,m⟩,aac _,e⟩
 | x :: r,s,n,d,hi,h=>by
  rw[el];by_cases a:s.u=0
  · rw[ab (by simpa using a)];have b:=IZ x (s.at x.V) d a hi;have e1:(s.at x.V).lets=s.lets:=rfl;have g:(s.at x.V).f=s.f:=rfl;rw[e1,g]at b;have c:=rS r (stM B kw (s.at x.V) d x) n d b.1 (by omega);exact⟨c.1,by omega,c.2.2⟩
  · rw[aa a];exact rS r s n d hi h
end
theorem Rm{l:List ay}(hi:jd s):jd (dN B kw s d l)∧s.lets≤(dN B kw s d l).lets∧(dN B kw s d l).f.length=s.f.length:=rS B kw l s _ d hi (hT _)
end
def Frame(id:Nat)(a:I)(H:Z)(b:I)(H':Z):Prop:=H.n≤H'.n∧(∀i o,i≠id→(∀n,a ≠ .row i 0 n 1)→T H i o→T H' i o)∧∀j n,b = .row j 0 n 1→(∃m,a = .row j 0 m 1)∨H.n≤j
theorem Frame.of{a:I}{H H':Z}(h:E id H H'):Frame id a H a H':=⟨h.1,λi o hi _ b=>h.2 i o hi b,λj n e=> .inl ⟨n,e⟩⟩
theorem Frame.trans{f l1 l2:I}{a b c:Z}(h:Frame id f a l1 b)(k:Frame id l1 b l2 c):Frame id f a l2 c:=by
 refine⟨At h.1 k.1,λi o hi g l=>k.2.1 i o hi (λn e=>?_) (h.2.1 i o hi g l),λj n e=>?_⟩
 · rcases h.2.2 i n e with⟨m,d⟩|p
   ·exact g m d
   ·exact absurd l.1 (by omega)
 · rcases k.2.2 j n e with⟨m,d⟩|p
   ·exact h.2.2 j m d
   ·right;have:=h.1;omega
end Rb

namespace Rb
open Go
variable{H:Z}{loc:I}
theorem ay.dc{x:ay}(h:x.ok):x.place.ok∧(x.aF.length≤9223372036854775807∧∀e∈x.aF,e.ok)∧(x.aP.length≤9223372036854775807∧∀y∈x.aP,y.ok)∧(x.bq.length≤9223372036854775807∧∀y∈x.bq,y.ok):=by
 rw[←jc];cases x with
 | mk kind V name bQ aG place aF aP bq=>obtain⟨_,_,_,_,_,a,b,c,d,f,g,i⟩:=h;exact⟨a,⟨b,aA.ek.1 c⟩,⟨d,ay.ek.1 f⟩,g,ay.ek.1 i⟩
theorem ay.ind{P:ay→Prop}(h:∀x:ay,(∀y∈x.aP,P y)→(∀y∈x.bq,P y)→P x):∀x,P x:=by
 have main:∀(n:Nat)(x:ay),sizeOf x<n→P x:=by
  intro n;induction n with
  |zero=>intro x a;omega
  | succ n c=>
   intro x a;refine h x (λy b=>c _ ?_) λy b=>c _ ?_
   · cases x with
     | mk kind V name bQ aG place aF aP bq=>have:=ZT b;simp at this a ⊢;omega
   · cases x with
     | mk kind V name bQ aG place aF aP bq=>have:=ZT b;simp at this a ⊢;omega
 exact λx=>main _ x (Y9 _)
theorem Rn(cs:List I)(n:Nat)(v:I):setCells cs n [v]=cs.set n v:=rfl
theorem Ro{id:Nat}{l:List (List UInt8)}{x:List UInt8}{m:List I}(a:T H id (.row m))(q:gq H id loc l)(s:l.length≤1000){K:ad}
  (b:∀c H',Frame id loc H c H'→T H' id (.row m)→gq H' id c (l++[x])→K c H'):aJ (cX H true 1 16 loc (.av .full 1 [.str x])) K:=by
 have p:hC H 1 (.av .full 1 [.str x])=some (1,[.str x]):=rfl;rcases q with⟨rfl,rfl⟩|⟨j,cs,rfl,d,f,t,g⟩
 · refine⟨.row H.n 0 1 1,H.push (.row [.str x]),rfl,?_⟩;refine b _ _ ⟨W4 _,λi o _ _ h=>h.push _,λj n e=>?_⟩ (a.push _) (.inr ⟨H.n,[.str x],rfl,W_ a.gS,T.new H _,hT _,rfl⟩);cases e;right;exact hT _
 · by_cases hc:l.length+1≤cs.length
   · refine ⟨.row j 0 (l.length+1) 1,H.set j (.row (setCells cs (l.length*1) [.str x])),?_,?_⟩
     · simp only[cX,p,f.2];simp only[Y6,aaq,I.scalar,aar,not_true_eq_false,cu];rw[aN,ab (by simp only[ZC];exact⟨trivial,trivial,by omega,by omega⟩),df]
     · rw [Nat.mul_one,Rn];refine b _ _ ⟨hT _,λi o hi k h=>h.br (λe=>k l.length (by rw[e])) _,λi n e=>?_⟩ (a.br (W_ d) _) (.inr ⟨j,cs.set l.length (.str x),by simp,d,f.set _,by simpa using hc,?_⟩)
       · cases e;left;exact⟨_,rfl⟩
       · rw[ZG,aap,ZP,List.getElem?_set_self (by omega),List.take_set_of_le (by omega),g];simp
   · have r:cs.length=l.length:=by omega
     refine⟨.row H.n 0 (l.length+1) 1,(H.set j .gone).push (.row (cs++[.str x])),?_,?_⟩
     · simp only[cX,p,f.2];simp only[Y6,aaq,I.scalar,aar,not_true_eq_false,cu];rw[aN,ab (by simp only[ZC];exact⟨trivial,trivial,by omega,by omega⟩),bF,df]
     · refine b _ _ ⟨by simp,λi o hi k h=>(h.br (λe=>k l.length (by rw[e])) _).push _,λi n e=>?_⟩ ((a.br (W_ d) _).push _) (.inr ⟨H.n,cs++[.str x],by simp,W_ a.gS,?_,by simp;omega,?_⟩)
       · cases e;right;exact hT _
       ·exact T.new (H.set j .gone) _
       · rw[ZG,aap,ZJ (by simp;omega)];rw[←r,Zw]at g;rw[g];simp
def I0(C:Ctx)(id:Nat)(B:List aE)(kw:List UInt8→Bool)(x:ay):Prop:=
 ∀ (s:w) (d:Int) (loc:I) (H:Z) (Q:ad),s.u=0→jd s→T H id (.row (cx B s loc))→gq H id loc s.f →
  (∀H' a,Frame id loc H a H'→T H' id (.row (cx B (stM B kw s d x) a))→gq H' id a (stM B kw s d x).f→Q (.aM []) H')→aj C 75 [.ptr id 0,.agg x.cells,D d] H Q
section
variable{C:Ctx}(aw:cY C)(W:Cl (aj C) S.cr){id:Nat}{B:List aE}{kw:List UInt8→Bool}
include aw W
theorem Rp(x:ay):bR (aj C) 99 [.agg x.cells] (.bool (fJ x)):=bR.of aw (by simp[I.cv,I.b6,ay.b6]) rfl λQ a=>S.O1 W (Rh W a)
theorem Bq{l:List ay}(hl:l.length≤9223372036854775807)(Y:∀x∈l,I0 C id B kw x){s:w}{d:Int}{Q:ad}(hi:jd s)(J:T H id (.row (cx B s loc)))(K:gq H id loc s.f)
  (ac:∀H' y,Frame id loc H y H'→T H' id (.row (cx B (dN B kw s d l) y))→gq H' id y (dN B kw s d l).f→Q (.aM []) H'):aj C 46 [.ptr id 0,aD ay.cells l,D d] H Q:=by
 refine S.Om W ?_;unfold S.f46;simp only[aO,M,G,W7];rw[J.load,show bW (cx B s loc) 1 1 false=some loc from rfl];simp only[G];have hlen:∀{H:Z}{lc:I}{xs:List (List UInt8)},gq H id lc xs→bj false lc=some (D xs.length):=by
  intro H lc xs h;rcases h with⟨rfl,rfl⟩|⟨j,cs,rfl,_⟩
  ·rfl
  ·rfl
 rw[hlen K];simp only[G,bH];have main:∀(r:List ay)(i:Nat)(A:w)(a:I)(H1:Z),l.drop i=r→jd A→s.f.length≤A.f.length→Frame id loc H a H1→T H1 id (.row (cx B A a))→gq H1 id a A.f→el B kw A s.f.length d r=dN B kw s d l →
   au (S.qO (aj C) (.ptr id 0) (aD ay.cells l) (D d) (D s.f.length) (D l.length) Q) ([D i],H1):=by
  intro r;induction r with
  | nil =>
   intro i A a H1 z q c hf k t he;have hle:=db z;refine au.step ?_;simp only[S.qO,aq,bb,G,ai];rw[cZ];simp only[aB,S.Fi,aO,M,G,W7];rw[k.load,show bW (cx B A a) 1 1 false=some a from rfl];simp only[G];rw[el]at he;have cut:∃b,c6 1 a none (some (D s.f.length)) none=some b∧Frame id a H1 b H1∧(∀cs,T (H1.set id (.row cs)) id (.row cs)→gq (H1.set id (.row cs)) id b (A.f.take s.f.length))∧b.known=true∧b.cells=[b]∧b.scalar=true:=by
    rcases t with⟨rfl,h⟩|⟨j,cs,rfl,L,ae,aG,af⟩
    · have m:s.f.length=0:=by rw[h]at c;simpa using c
      refine⟨ar,?_,⟨hT _,λ_ _ _ _ h=>h,λ_ _ e=>by cases e⟩,λ_ _=> .inl ⟨rfl,by rw[h];simp⟩,rfl,rfl,rfl⟩;rw[m];rfl
    · refine ⟨.row j 0 s.f.length 1,?_,⟨hT _,λ_ _ _ _ h=>h,λi n e=>by cases e;exact .inl ⟨_,rfl⟩⟩,λaI _=> .inr ⟨j,cs,?_,L,ae.br L _,?_,?_⟩,rfl,rfl,rfl⟩
      · simp only[c6,eJ];rw[df];simp only[aas];rw[aa ⟨WS _,by omega,trivial⟩,aa (.inl trivial)];simp
      ·rw[Z1,aat c]
      ·rw[Z1];omega
      ·rw[Z1,aat c,List.map_take,←af,List.take_take,aat c]
   obtain⟨b,e1,f2,l2,g1,g2,g3⟩:=cut;rw[e1];simp only[G];rw[k.store,aa ⟨g1,by rw[g2];rfl,by rw[g2];simp[g3],by simp[cx]⟩,g2];simp only[G];have ag:setCells (cx B A a) 1 [b]=cx B (A.back s.f.length) b:=rfl;rw[ag];refine ac _ b ((hf.trans f2).trans (Frame.of (E.set id H1 _))) (by rw[←he];exact k.set _) ?_;rw[←he];exact l2 _ (k.set _)
  | cons x r ah=>
   intro i A a H1 z q c hf k t he;obtain⟨ak,N,al⟩:=c8 z;have am:=Y7 N;refine au.step ?_;simp only[S.qO,aq,bb,G,ai];rw[ch,cp ak];simp only[G];rw[dd ay.len (by decide) _ N];simp only[G,aV,aR,aY];rw[bO _ _ _ 10 x.len x.scalar rfl];simp only[G,M,W7];have v:=k.push (.row x.cells);have F:E id H1 (H1.push (.row x.cells)):=E.push id H1 (.row x.cells);have P:=T.new H1 (.row x.cells);have an:H1.n≠id:=W_ k.gS;have next:∀(s2:w)(p:I)(g:Z),jd s2→s.f.length≤s2.f.length→Frame id loc H p g→T g id (.row (cx B s2 p))→gq g id p s2.f→el B kw s2 s.f.length d r=dN B kw s d l →
     U (S.uE (aj C) ([D i],H1) (au (S.qO (aj C) (.ptr id 0) (aD ay.cells l) (D d) (D s.f.length) (D l.length) Q)) Q) [] g:=by
    intro s2 p g ao ap f3 a3 av aw;simp only[aB,S.uE,aq,bu,G];rw[bM,fb i];exact ah (i+1) s2 p g al ao ap f3 a3 av aw
   rw[el]at he;generalize H1.push (.row x.cells)=o at *;generalize H1.n=R at *;refine S.nG W (nP v ?_);simp only[cV,G,ai];apply aH<;>intro h
   · have m:A.u=0:=by simpa using h
     rw[ab (by simpa using m)]at he;have ax:O o 1 false (.ptr R 1)=some (D x.V):=by rw[P.load,ay.be,aW.be];rfl
     simp only[ax,G,aO];rw[v.store,aa ⟨rfl,rfl,rfl,by simp[cx]⟩];simp only[G];have az:setCells (cx B A a) 3 (D x.V).cells=cx B (A.at x.V) a:=rfl;rw[az];have a4:T (o.set id (.row (cx B (A.at x.V) a))) id (.row (cx B (A.at x.V) a)):=v.set _;have X:E id H1 (o.set id (.row (cx B (A.at x.V) a))):=F.trans (E.set id o _);have aA:T (o.set id (.row (cx B (A.at x.V) a))) R (.row x.cells):=P.br an _;generalize o.set id (.row (cx B (A.at x.V) a))=g at *;rw[aA.load,eM x.len];simp only[G];have inv:=IZ B kw x (A.at x.V) d m q;refine Y x am (A.at x.V) d a g _ m q a4 (t.ca X) λaC aE f5 a5 aF=>?_;exact next _ aE aC inv.1 (At c inv.2.2) ((hf.trans (Frame.of X)).trans f5) a5 aF he
   · have m:A.u≠0:=by simpa using h
     rw[aa m]at he;exact next A a o q c (hf.trans (Frame.of F)) v (t.ca F) he
 exact main l 0 s loc H rfl hi (hT _) (Frame.of (E.refl id H)) J K rfl
theorem Rq(ar:B.length≤maxLen)(hv:∀v∈B,v.ok)(je:∀x,bR (aj C) 72 [.str x] (.bool (kw x))):∀x:ay,x.ok→I0 C id B kw x:=by
 refine ay.ind λx aL aM aN=>?_;obtain⟨au,⟨aQ,aR⟩,⟨aS,aT⟩,aU,aX⟩:=ay.dc aN;have aY:=aW.dc au;have ax:∀e:aA,e.ok→xE C id B e:=Rg aw W ar hv;intro s d loc H Q aZ hi a0 n az;have q:s.f.length≤1000:=by have:=hi.1;have:=hi.2.1;omega
 have aC:=IY B kw (d:=d) (x:=x) aZ hi;rw[stM_eq]at az;refine S.OO W ?_;unfold S.f75;simp only[pv,aV,gR,G];refine ho W a0 λH1 a1 Y=>?_;simp only[Bo,G];refine Rp aw W x _ _ ?_;refine ho W Y λbm a9 a2=>?_;simp only[fM,hO,rO,G];refine IU aw W _ _ _ _ ?_;refine ho W a2 λag a_ a3=>?_;have kk:=a1.trans (a9.trans a_);change T ag id (.row (cx B (dV s d x) loc))at a3;have u:=Bk s d x;have tail:∀(L:I)(c:Z),Frame id loc H L c→T c id (.row (cx B (dq B kw s d x) L))→gq c id L (dq B kw s d x).f→U (S.q1 (aj C) (.ptr id 0) (D d) (.ak x.cells) Q) [] c:=by intro L c f4 a4 l4;generalize dq B kw s d x=aD at *;simp only[aB,S.q1,fM,nQ,G,bu];have b1:=Rm B kw (d:=X (d+1)) (l:=x.aP) aC.1;refine Bq aw W aS (λy F=>aL y F (aT y F)) aC.1 a4 l4 λo ah f5 a5 ba=>?_;simp only[IP,G,aO,M,W7];change T o id (.row (cx B (dN B kw aD (X (d+1)) x.aP) ah))at a5;generalize dN B kw aD (X (d+1)) x.aP=a at *;rw[a5.store,aa ⟨rfl,rfl,rfl,by simp[cx]⟩];simp only[G];have bd:setCells (cx B a ah) 3 (D x.V).cells=cx B (a.at x.V) ah:=rfl;rw[bd];simp only[G,fM,rP];refine Bq aw W aU (λy F=>aM y F (aX y F)) (s:=a.at x.V) b1.1 (a5.set _) (ba.ca (E.set id o _)) λm g f6 a6 N=>?_;exact az m g (((f4.trans f5).trans (Frame.of (E.set id o _))).trans f6) a6 N
 have hP:∀(c:Z),E id H c→T c id (.row (cx B (dK B kw (dV s d x) d x) loc))→U (S.o3 (aj C) (.ptr id 0) (D d) (.ak x.cells) Q) [] c:=by
  intro c k a4;have z:=u.trans (IX B kw (dV s d x) d x);simp only[aB,S.o3,fM,py,G];refine IV aw W aQ (λe he=>ax e (aR e he)) a4 ((n.ca k).still z) (by rw[z.1];exact q) λo al a5=>?_;have A:=z.trans (xB B x.aF (dK B kw (dV s d x) d x) d);have r:=k.trans al;have be:dq B kw s d x=fK (c0 B (dK B kw (dV s d x) d x) d x.aF) x:=rfl;rw[be]at tail;generalize c0 B (dK B kw (dV s d x) d x) d x.aF=a at *;simp only[hO,G,bc,ai];apply aH<;>intro h
  · have O:x.kind=1:=by simpa using h
    have J:fK a x=a.k9 x.name:=by unfold fK;rw[aa O]
    rw[J]at tail;simp only[aO,M,G,W7];rw[a5.load,show bW (cx B a loc) 1 1 false=some loc from rfl];simp only[G,fM,la];rw[show c9 o false 1 1 [.str []] [(0,1,.str x.name)]=some (.av .full 1 [.str x.name],o)from rfl];simp only[aV];refine Ro a5 ((n.ca r).still A) (by rw[A.1];exact q) λg m f6 a6 N=>?_;have K:g.known=true∧g.cells=[g]∧g.scalar=true:=by
     rcases N with⟨rfl,_⟩|⟨j,cs,rfl,_⟩
     ·exact⟨rfl,rfl,rfl⟩
     ·exact⟨rfl,rfl,rfl⟩
    rw[a6.store,aa ⟨K.1,by rw[K.2.1];rfl,by rw[K.2.1];simp[K.2.2],by simp[cx]⟩,K.2.1];simp only[G];have bf:setCells (cx B a loc) 1 [g]=cx B a g:=rfl;rw[bf];have a7:T (m.set id (.row (cx B a g))) id (.row (cx B a g)):=a6.set _;have am:E id m (m.set id (.row (cx B a g))):=E.set id m _;generalize m.set id (.row (cx B a g))=aE at *;rw[a7.load,show bW (cx B a g) 2 1 false=some (D a.lets)from rfl];simp only[G,bu];rw[a7.store,aa ⟨rfl,rfl,rfl,by simp[cx]⟩];simp only[G];have P:=am.trans (E.set id aE (.row (setCells (cx B a g) 2 (D (Xv .i64 (a.lets+1))).cells)));exact tail g _ (((Frame.of r).trans f6).trans (Frame.of P)) (a7.set _) (N.ca P)
  · have O:x.kind≠1:=by simpa using h
    apply aH<;>intro t
    · have an:x.kind=5:=by simpa using t
      have J:fK a x=((a.ck (a.has x.name) 6).ck ((a.ck (a.has x.name) 6).has x.bQ) 6).ck (!(x.name==x.bQ)) 7:=by
       unfold fK;rw[ab O,aa an];have:(a.ck (a.has x.name) 6).has x.bQ=a.has x.bQ:=by unfold w.has;rw[(eV a _ _).1]
       rw[this]
      rw[J]at tail;simp only[la,rN,G];refine rJ W a5 ((n.ca r).still A) (by rw[A.1];exact q) ?_;refine ho W a5 λm R a6=>?_;have ao:=A.trans (eV a (a.has x.name) 6);refine rJ W a6 ((n.ca (r.trans R)).still ao) (by rw[ao.1];exact q) ?_;refine ho W a6 λaE am a7=>?_;simp only[ky,G];refine ho W a7 λbg P a8=>?_;have aG:=r.trans (R.trans (am.trans P));refine tail loc bg (Frame.of aG) a8 ((n.ca aG).still (ao.trans ((eV _ _ _).trans (eV _ _ _))))
    · have an:x.kind≠5:=by simpa using t
      have J:fK a x=a:=by unfold fK;rw[ab O,ab an]
      rw[J]at tail;exact tail loc o (Frame.of r) a5 ((n.ca r).still A)
 have ap:dK B kw (dV s d x) d x=dK B kw (dV s d x) d x:=rfl
 conv at ap=>rhs;unfold dK
 rw[ap]at hP;clear ap;generalize dV s d x=s1 at *;simp only[hO,G,bc,ai];apply aH<;>intro h
 · rw [aa (by simpa using h)]at hP;have aI:∀(b:Bool)(c:Z),b=(dL x.name&&!kw x.name)→E id H c→T c id (.row (cx B (s1.ck b 6) loc))→U (S.vq (aj C) (.ptr id 0) (D d) (.ak x.cells) Q) [] c:=by
    intro b c ac k a4;rw[←ac]at hP;have z:=u.trans (eV s1 b 6);have bh:(s1.ck b 6).has x.name=s1.has x.name:=by unfold w.has;rw[(eV s1 b 6).1]
    have bi:((s1.ck b 6).ck (!s1.has x.name) 7).lets=s1.lets:=((eV s1 b 6).trans (eV _ _ _)).2;simp only[aB,S.vq,fM,la,G];refine rJ W a4 ((n.ca k).still z) (by rw[z.1];exact q) ?_;rw[bh];simp only[cV,G];refine ho W a4 λo al a5=>?_;simp only[aO,M,G,W7];rw[a5.load,show bW (cx B ((s1.ck b 6).ck (!s1.has x.name) 7) loc) 2 1 false=some (D ((s1.ck b 6).ck (!s1.has x.name) 7).lets)from rfl,bi];simp only[G,bb];refine ho W a5 λm R a6=>?_;exact hP m (k.trans (al.trans R)) a6
   simp only[la,G];refine AY aw W x.name _ _ ?_;simp only[bG];apply ite_bool<;>intro aJ
   · refine je x.name _ _ ?_;simp only[cV,G];refine ho W a3 λc k a4=>?_;exact aI _ c (by rw[aJ];rfl) (kk.trans k) a4
   · refine ho W a3 λc k a4=>?_;exact aI _ c (by rw[aJ];rfl) (kk.trans k) a4
 · rw [ab (by simpa using h)]at hP;apply aH<;>intro aK
   · rw[aa (by simpa using aK)]at hP;simp only[la,G];refine rJ W a3 ((n.ca kk).still u) (by rw[u.1];exact q) ?_;refine ho W a3 λc k a4=>?_;exact hP c (kk.trans k) a4
   · rw [ab (by simpa using aK)]at hP;have ad:∀b:Bool,(b=true↔(x.kind=3∨x.kind=4∨x.kind=5∨x.kind=6))→U (S.o4 (aj C) (.ptr id 0) (D d) (.ak x.cells) Q) [.bool b] ag:=by
      intro b ac;simp only[aB,S.o4,aq,ai,fM,hO,pw,G];apply aH<;>intro h
      · rw[aa (ac.1 h)]at hP;refine IW aw W ar hv au (λp bj i hi=>ax i ((aY.2 p bj).2 i hi)) a3 ((n.ca kk).still u) (by rw[u.1];exact q) λH' bk bl=>?_;exact hP H' (kk.trans bk) bl
      · rw[ab λy=>h (ac.2 y)]at hP;exact hP ag kk a3
     apply aH<;>intro ae
     · refine ad _ ?_;simp only[b9]at ae;simp[ae]
     · apply aH<;>intro af
       · refine ad _ ?_;simp only[b9]at af;simp[af]
       · apply aH<;>intro t
         · refine ad _ ?_;simp only[b9]at t;simp[t]
         · refine ad _ ?_;simp only[b9]at ae af t;simp[ae,af,t]
end
end Rb

namespace Rb
open Go
variable{n k:Int}{p:PL}
theorem rT{n step:Int}(a:0≤n)(b:n≤1000000000)(c:1≤step)(d:step≤1000000):n≤cJ n step∧cJ n step≤n+step-1:=by rw[QN a b c d];have e:=Int.mul_ediv_add_emod (n+step-1) step;have f:=aah (n+step-1) (show 0<step by omega);have g:=aaf (n+step-1) (show step≠0 by omega);rw[aai]at e;omega
def rU(k:Int)(p:PL):Prop:=0≤p.bit∧p.bit≤k*1000000∧0≤p.size∧p.size≤k*1000000∧1≤p.bB∧p.bB≤16
theorem I1(a:0≤n)(b:n≤1000000000):X (n.tdiv 8)=n/8:=by rw[Z8 a];exact bM
theorem Br(c:0≤p.bit)(d:p.bit≤(k+1)*1000000)(h:0≤p.size)(i:p.size≤k*1000000)(f:1≤p.bB)(g:p.bB≤16)(hk:0≤k)(j:k≤40):rU (k+1) (k7 p):=by
 obtain⟨a,b⟩:=rT (n:=p.bit) (step:=8) c (by omega) (by omega) (by omega);have e:X ((cJ p.bit 8).tdiv 8)=cJ p.bit 8/8:=I1 (by omega) (by omega);refine⟨c,d,?_,?_,f,g⟩
 · show 0≤max p.size _;omega
 · show max p.size (X ((cJ p.bit 8).tdiv 8))≤_;rw[e];omega
theorem Rr{packed:Bool}{kind:Int}{s:List (List UInt8)}{f:aT}{g:Int×Int}(i:rU k p)(hk:0≤k)(j:k≤40)(hs:gp packed s f=0)(A:0≤g.1)(B:g.1≤65536)(C:1≤g.2)(D:g.2≤16):rU (k+1) (hM packed kind p f g):=by
 obtain⟨b1,b2,s1,s2,Y,a2⟩:=i;have o:f.bits=true→(f.type.size=1∨f.type.size=2∨f.type.size=4∨f.type.size=8)∧0≤f.bn∧f.bn≤64:=by
  intro b;rw[k4]at hs;split at hs
  ·cases hs
  split at hs
  ·cases hs
  split at hs
  ·rename_i l;exact absurd hs l
  rename_i l;split at hs
  ·cases hs
  rename_i t;split at hs
  ·cases hs
  rename_i hw;have u:f.type.kind=1:=by
   by_cases hk:f.type.kind=1
   ·exact hk
   ·exact absurd (.inr ⟨b,.inl hk⟩) t
  have c:cO f.type=0:=by simpa using l
  have q:f.type.size=1∨f.type.size=2∨f.type.size=4∨f.type.size=8:=by
   rw[gT,u]at c;split at c
   ·cases c
   · simp only[aY]at c;split at c
     · rename_i i;simp[dU]at i;omega
     ·cases c
  have E:¬f.bn<0∧¬8*f.type.size<f.bn:=⟨λh=>hw ⟨b,.inl h⟩,λh=>hw ⟨b,.inr (.inl h)⟩⟩
  exact⟨q,by omega,by omega⟩
 have v:1≤e3 packed f g.2∧e3 packed f g.2≤16:=by
  unfold e3;split
  ·omega
  · split
    · rename_i b;have:=o b;omega
    ·omega
 unfold hM;simp only;generalize e:({p with bB:=max p.bB (e3 packed f g.2),bit:=if kind=4 then 0 else p.bit}:PL)=a;have c1:0≤a.bit:=by rw[←e];show 0≤(if kind=4 then 0 else p.bit);split<;>omega
 have F:a.bit≤k*1000000:=by rw[←e];show(if kind=4 then 0 else p.bit)≤_;split<;>omega
 have c3:a.size=p.size:=by rw[←e]
 have d:1≤a.bB∧a.bB≤16:=by rw[←e];show 1≤max p.bB _∧max p.bB _≤16;omega
 by_cases b:f.bits=true
 · rw [aa b];obtain⟨q,w1,w2⟩:=o b;have m:X (8*f.type.size)=8*f.type.size:=bM;obtain⟨w,x⟩:=rT (n:=a.bit) (step:=8*f.type.size) c1 (by omega) (by omega) (by omega);unfold k6;split
   · refine Br ?_ ?_ ?_ ?_ ?_ ?_ hk j
     ·show 0≤cJ a.bit (X (8*f.type.size));rw[m];omega
     ·show cJ a.bit (X (8*f.type.size))≤_;rw[m];omega
     ·show 0≤a.size;omega
     ·show a.size≤_;omega
     ·exact d.1
     ·exact d.2
   · have o1:a.bit≤hL a f∧hL a f≤a.bit+63:=by
       unfold hL;rw[m];split<;>omega
     have r:X (hL a f+f.bn)=hL a f+f.bn:=bM;refine Br ?_ ?_ ?_ ?_ ?_ ?_ hk j
     ·show 0≤X (hL a f+f.bn);rw[r];omega
     ·show X (hL a f+f.bn)≤_;rw[r];omega
     ·show 0≤a.size;omega
     ·show a.size≤_;omega
     ·exact d.1
     ·exact d.2
 · rw[ab b];unfold xq;obtain⟨w,x⟩:=rT (n:=a.bit) (step:=8) c1 (by omega) (by omega) (by omega);have e1:X ((cJ a.bit 8).tdiv 8)=cJ a.bit 8/8:=I1 (by omega) (by omega);obtain⟨v1,v2⟩:=rT (n:=cJ a.bit 8/8) (step:=e3 packed f g.2) (by omega) (by omega) v.1 (by omega);have y:X (cJ (cJ a.bit 8/8) (e3 packed f g.2)+g.1)=cJ (cJ a.bit 8/8) (e3 packed f g.2)+g.1:=bM;have z:X (8*(cJ (cJ a.bit 8/8) (e3 packed f g.2)+g.1))=8*(cJ (cJ a.bit 8/8) (e3 packed f g.2)+g.1):=bM;rw[e1,y,z];refine Br ?_ ?_ ?_ ?_ ?_ ?_ hk j
   ·show 0≤8*(cJ (cJ a.bit 8/8) (e3 packed f g.2)+g.1);omega
   ·show 8*(cJ (cJ a.bit 8/8) (e3 packed f g.2)+g.1)≤_;omega
   ·show 0≤a.size;omega
   ·show a.size≤_;omega
   ·exact d.1
   ·exact d.2
theorem I2{packed:Bool}{kind:Int}:∀{l:List aT}{a:List (List UInt8)}{k:Int}{p q:PL},rU k p→0≤k→k+l.length≤40→fp packed a l=0 →
  (∀f∈l,cO f.type=0→(bp f.type).2=true→0≤(bp f.type).1.1∧(bp f.type).1.1≤65536∧1≤(bp f.type).1.2∧(bp f.type).1.2≤16)→dQ packed kind p l=some q→rU 40 q
 | [],a,k,p,q,c,hk,d,_,_,h=>by simp only[dQ,Wy.injEq]at h;subst h;obtain⟨b1,b2,s1,s2,Y,a2⟩:=c;simp at d;exact⟨b1,by omega,s1,by omega,Y,a2⟩
 | f :: r,a,k,p,q,c,hk,d,hs,hf,h=>by
  simp only[dQ]at h;split at h
  · rename_i e;rw[pq]at e h;have g:gp packed a f=0∧fp packed (a++[f.name]) r=0:=by
     simp only[fp]at hs;by_cases b:gp packed a f=0
     ·rw[ab (by simpa using b)]at hs;exact⟨b,hs⟩
     ·rw[aa b]at hs;exact absurd hs b
    have i:cO f.type=0:=nK hs f (by simp);obtain⟨g1,g2,g3,g4⟩:=hf f (by simp) i e;simp only[Z9]at d;exact I2 (k:=k+1) (Rr c hk (by omega) g.1 g1 g2 g3 g4) (by omega) (by omega) g.2 (λj m=>hf j (by simp[m])) h
  ·cases h
theorem Rs:∀t:aC,cO t=0→(bp t).2=true→0≤(bp t).1.1∧(bp t).1.1≤65536∧1≤(bp t).1.2∧(bp t).1.2≤16:=by
 refine aC.ind λt g i hs h=>?_;rw[kz]at h ⊢;split at h
 · rename_i c;rw[aa c];rw[gT]at hs;split at hs
   ·cases hs
   · have a:dU t.size 8=true∨dU t.size 16=true:=by
       rcases c with d|d
       · rw[aa d]at hs;split at hs
         ·exact .inl ‹_›
         ·cases hs
       · rw[bF,aa d]at hs;split at hs
         ·exact .inr ‹_›
         ·cases hs
     show 0≤t.size∧t.size≤65536∧1≤t.size∧t.size≤16;rcases a with a|a<;>(simp[dU]at a;omega)
 · rename_i c;rw[ab c];split at h
   · rename_i b;rw[aa b];obtain⟨e,he,j⟩:=k5 hs b;have hc:1≤t.bZ∧t.bZ≤65536:=by
      rw[gT,b]at hs;split at hs
      ·cases hs
      · simp at hs;split at hs
        ·cases hs
        ·omega
     rw[he]at h ⊢;simp only[jx,Wn]at h ⊢;obtain⟨h,hle⟩:=h;have hle:=of_decide_eq_true hle;obtain⟨g1,g2,g3,g4⟩:=i e (by rw[he];simp) j h;have hm:0≤(bp e).1.1*t.bZ:=Z7 g1 (by omega);have o:(bp e).1.1*t.bZ≤65536*65536:=aan g2 hc.2 (by omega) (by omega);have e1:X ((bp e).1.1*t.bZ)=(bp e).1.1*t.bZ:=bM;rw[e1]at hle ⊢;exact⟨hm,hle,g3,g4⟩
   · rename_i b;rw[ab b];cases a:dQ t.packed t.kind ⟨0,1,[],0⟩ t.aI with
     |none=>rw[a]at h;cases h
     | some p =>
      rw[a]at h;simp only[dh]at h ⊢;have l:t.kind=3∨t.kind=4:=by rcases pt hs with h|h|h|h|h<;>omega
      have m:fp t.packed [] t.aI=0:=by
       rw[gT]at hs;split at hs
       ·cases hs
       · rw [bF,bF,bF]at hs;first
          |exact hs
          | (split at hs
             ·cases hs
             ·exact hs)
      obtain⟨b1,b2,s1,s2,Y,a2⟩:=I2 (k:=0) (p:=⟨0,1,[],0⟩) ⟨by decide,by decide,by decide,by decide,by decide,by decide⟩ (by omega) (by have:=(mF hs l).2;omega) m (λf hf=>g f hf) a;obtain⟨q,r⟩:=rT (n:=p.size) (step:=p.bB) s1 (by omega) Y (by omega);exact⟨by omega,h,Y,a2⟩
theorem Rt{t:aC}(h:(bT t).2=0):0≤(bT t).1.1∧(bT t).1.1≤65536∧1≤(bT t).1.2∧(bT t).1.2≤16:=by
 unfold bT at h ⊢;split at h
 ·rename_i hs;exact absurd h hs
 · rename_i hs;split at h
   ·cases h
   · rename_i ht;split at h
     ·cases h
     · rename_i a;rw[ab hs,ab ht,ab a];exact Rs t (ja (by simpa using hs)) (by simpa using a)
def z5:List UInt8:=[122,122,122,122,122]
def xF(a b:w):Prop:=a=b∨a.u=6
theorem xF.refl(a:w):xF a a:= .inl rfl
theorem xF.bad{a b:w}(h:a.u=6):xF a b:= .inr h
section
variable(B:List aE)(z:aE)
variable(kw:List UInt8→Bool)
end
end Rb

namespace Rb
open Go
theorem Ru(a b:List I):I.fS (a++b)=I.fS a++I.fS b:=by rw[oM,oM,oM,aau]
section
variable{Φ:ae}{H:Z}{Q:ad}
theorem Rv(W:Cl Φ S.cr){p:aE→Bool}{a:Nat}{b_:List I}{xs:List aE}(hf:∀x∈xs,∀(R:ad),R (.bool (p x)) H→Φ a ([.agg x.cells]++b_) H R)(hl:xs.length≤9223372036854775807)
  (b:Q (.bool (xs.any p)) H) (c:gA a=none:=by first|assumption|rfl):Φ 73 [aD aE.cells xs,.fn a b_] H Q:=by
 refine S.OM W ?_;unfold S.f73;refine S.AJ W (A3 hf hl ?_);simp only[eu,G,xf];exact b
theorem Rw{w:aE}{id:Nat}{v:aE}(a:T H id (.row v.cells))(b:Q (.bool (w.name==v.name)) H):S.f74 Φ (.agg w.cells) (.ptr id 0) H Q:=by
 unfold S.f74;have c:bg H false 7 (.agg w.cells)=some (.ak w.cells,H):=by unfold bg;rw[aa ⟨rfl,w.len⟩];rfl
 have d:O H 1 false (.ak (w.cells.drop 0))=some (.str w.name):=rE w;have l1:O H 1 false (.ptr id 0)=some (.str v.name):=by rw[a.load];exact rE v
 rw[c];simp only[aV,M,G,d,WW,l1,fc];exact b
end
section
variable{C:Ctx}(aw:cY C)(W:Cl (aj C) S.cr){kw:List UInt8→Bool}(je:∀x,bR (aj C) 72 [.str x] (.bool (kw x)))
include aw W je
theorem Rx{B:List aE}(hv:∀v∈B,v.ok){H:Z}{Q:ad}(l:∀H',Q (D (iQ kw B)) H'):S.f45 (aj C) (aD aE.cells B) H Q:=by
 have fin:∀z H',z=iQ kw B→Q (D z) H':=λz H' h=>by rw[h];exact l H'
 clear l;unfold S.f45;simp only[bH,G,dv,ai];unfold iQ at fin;apply aH<;>intro h
 ·exact fin _ _ (by rw[aa (by simp only[dh,gt_iff_lt]at h;omega)])
 · have hl : B.length≤32:=by simp only[dh,gt_iff_lt]at h;omega
   rw[bF]at fin;have main:∀(r:List aE)(i:Nat)(a:Int)(H1:Z),B.drop i=r→k_ kw ((B.take i).map aE.name) a r=k_ kw [] 0 B →
     au (S.oX (aj C) (aD aE.cells B) (D B.length) Q) ([D a,D i],H1):=by
    intro r;induction r with
    | nil=>
     intro i a H1 f he;have hle:=db f;refine au.step ?_;simp only[S.oX,aq,bh,bb,G,ai];rw[cZ];simp only[aB,S.Fg,aq,dv,G,ai];rw[k_]at he;apply aH<;>intro h
     ·exact fin _ _ (by rw[←he,aa (by simpa using h)])
     ·exact fin _ _ (by rw[←he,ab (by simpa using h)])
    | cons v r t=>
     intro i a H1 f he;obtain⟨m,g,u⟩:=c8 f;have x:=Y7 g;refine au.step ?_;simp only[S.oX,aq,bh,bb,G,ai];rw[ch,cp m];simp only[G];rw[dd aE.len (by decide) _ g];simp only[G,aV,aR,aY];rw[bO _ _ _ 7 v.len v.scalar rfl];simp only[G,M,W7,WW];have j:=T.new H1 (.row v.cells);generalize H1.push (.row v.cells)=c at *;generalize H1.n=d at *;have o:O c 1 false (.ptr d 0)=some (.str v.name):=by rw[j.load];exact rE v
     have l1:O c 6 true (.ptr d 1)=some (.agg v.type.cells):=by rw[j.load,Qi (by rw[v.len];omega)];show bW (v.cells.drop 1) 0 6 true=_;exact eM v.type.len
     simp only[o,G];rw[k_]at he;have A:¬(dL v.name=false∨kw v.name=true)→¬((B.take i).map aE.name).contains v.name=true →
       U (S.zY (aj C) (.ptr d 0) ([D a,D i],H1) (au (S.oX (aj C) (aD aE.cells B) (D B.length) Q)) Q) [] c:=by
      intro e E;rw[ab e,ab E]at he;simp only[aB,S.zY,M,W7,G,l1];refine Ba aw W v.type (hv v x).2 _ _ ?_;simp only[bI,Zn,Zo,G,cU,ai];apply aH<;>intro h
      · rw[aa (by simpa using h)]at he;exact fin _ _ he
      · have q:(bT v.type).2=0:=by simpa using h
        rw[ab (by simpa using q)]at he;have k:=Rt q;simp only[aq,bu,dA,fD,G];rw[jw _ _ _ (by omega)];simp only[G,fD,bu,aB,S.Ff,aq,bh];rw[wrap_i64 (n:=(i:Int)+1) (by omega) (by omega),fb i];refine t (i+1) _ c u ?_;rw[←he,ZP,g];simp[cJ]
     have s:∀b:Bool,(b=true↔(dL v.name=false∨kw v.name=true))→U (S.uD (aj C) (aD aE.cells B) (.ptr d 0) ([D a,D i],H1) (au (S.oX (aj C) (aD aE.cells B) (D B.length) Q)) Q) [.bool b] c:=by
      intro b k;simp only[aB,S.uD,aq,bh,ai];apply aH<;>intro h
      · rw[aa (k.1 h)]at he;exact fin _ _ he
      · have e:¬(dL v.name=false∨kw v.name=true):=λy=>h (k.2 y);rw[H_ aE.len (aav m)];simp only[G];refine Rv W (p:=λw=>w.name==v.name) (λw _ R F=>S.ON W (Rw j F)) (by rw[Z1];omega) ?_;simp only[ai];have hc:((B.take i).any λw=>w.name==v.name)=true↔((B.take i).map aE.name).contains v.name=true:=by
         rw[List.any_eq_true,aaw,YX];simp only[b9]
        apply aH<;>intro h
        · rw[ab e,aa (hc.1 h)]at he;exact fin _ _ he
        ·exact A e λy=>h (hc.2 y)
     refine AY aw W v.name _ _ ?_;simp only[cV,G,b7];apply dD<;>intro h
     · simp only[o,G];refine je v.name _ _ ?_;refine s _ ?_;simp only[Bool.not_eq_false']at h;simp[h]
     · refine s _ ?_;simp only[Yu]at h;simp[h]
   exact main B 0 0 H rfl rfl
def xG(r:Int×Int):I:= .agg [D r.1,D r.2]
theorem Ry(p:eA)(P:p.ok):bR (aj C) 18 [.agg p.cells] (xG (eg kw p)):=by
 obtain⟨⟨R,hv⟩,ao,ht⟩:=P;refine bR.of aw (by simp[I.cv,I.b6,eA.b6]) rfl λQ z=>S.Ob W ?_;have fin:∀(a b:Int) H',(a,b)=eg kw p→Q (.agg [D a,D b]) H':=λa b H' h=>by have:=z H';rw[←h]at this;exact this
 clear z;have V:bg Z.mt false 2 (.agg p.cells)=some (.ak p.cells,Z.mt):=by unfold bg;rw[aa ⟨rfl,rfl⟩];rfl
 have k:∀H,O H 1 false (.ak (p.cells.drop 0))=some (aD aE.cells p.B):=λ_=>rfl;have m:∀H,O H 1 false (.ak (p.cells.drop 1))=some (aD gK p.cG):=λ_=>rfl;unfold S.f18;simp only[V,aV,aR,aY,M,G,k,bH,dv,b7];generalize ap:Z.mt=H0;have o:=T.new H0 (.row [J,J]);generalize H0.push (.row [J,J])=j at *;generalize H0.n=d at *;have out:∀(a b:Int)(H1:Z),T H1 d (.row [J,J])→(a,b)=eg kw p→Do (ax H1 2 (.ptr d 0) (.agg [D a,D b])) λq=>Do (O q 2 true (.ptr d 0)) λx=>Q x q:=by intro a b H1 f he;rw[f.put (n:=2) rfl rfl rfl];simp only[G];rw[(f.set _).all (n:=2) rfl];simp only[G];exact fin a b _ he
 unfold eg at out;have X : ¬(32<p.B.length∨p.cG.length<1∨8<p.cG.length)→U (S.zT (aj C) (.ak p.cells) (.ptr d 0) Q) [] j:=by
  intro A;rw[ab A]at out;simp only[aB,S.zT,M,G,k];refine bR.of aw (by simp[I.cv,k1 aE.b6]) rfl (λav Y=>S.Ol W (Rx aw W je hv Y)) _ _ ?_;simp only[cU,G,ai];apply aH<;>intro h
  · rw[aa (by simpa using h)]at out;rw[show ba [J,J] [(1,1,D (iQ kw p.B))]=some (.agg [J,D (iQ kw p.B)])from rfl];simp only[G];exact out 0 _ j o rfl
  · rw [ab (by simpa using h)]at out;simp only[m,G,bH];have main:∀(r:List (List ay)) (i:Nat) (H1:Z),p.cG.drop i=r→T H1 d (.row [J,J])→kA kw p.B r=kA kw p.B p.cG →
      au (S.tX (aj C) (.ak p.cells) (.ptr d 0) (aD gK p.cG) (D p.cG.length) Q) ([D i],H1):=by
     intro r;induction r with
     | nil=>intro i H1 v f he;have hle:=db v;refine au.step ?_;simp only[S.tX,aq,bb,G,ai];rw[cZ];simp only[aB,S.EN];rw[show ba [J,J] []=some (.agg [J,J])from rfl];simp only[G];exact out 0 0 H1 f he
     | cons t r ac=>
      intro i H1 v f he;obtain⟨ad,E,ae⟩:=c8 v;obtain⟨az,af⟩:=ht t (Y7 E);refine au.step ?_;simp only[S.tX,aq,bb,G,ai];rw[ch,cp ad];simp only[G];have ag:O H1 1 false (d_ gK 1 p.cG i)=some (aD ay.cells t):=rA (c:=λl=>aD ay.cells l) H1 E;rw[ag];simp only[G,M,k];rw[show ba [ar,ar,J,J,J,J] [(0,1,aD aE.cells p.B)]=some (.agg (cx p.B s0 ar))from rfl];simp only[G];have g:bg H1 true 6 (.agg (cx p.B s0 ar))=some (.ptr H1.n 0,H1.push (.row (cx p.B s0 ar))):=by unfold bg;rw[aa ⟨rfl,rfl⟩];rfl
      rw[g];simp only[aV];have ah:=T.new H1 (.row (cx p.B s0 ar));have al:d≠H1.n:=f.gS;have a3:=f.push (.row (cx p.B s0 ar));generalize H1.push (.row (cx p.B s0 ar))=q at *;generalize H1.n=id at *;have hm:=jc;refine Bq aw W (kw:=kw) (by omega) (λx am=>Rq aw W R hv je x (af x am)) (s:=s0) ⟨by decide,by decide,by decide⟩ ah (.inl ⟨rfl,rfl⟩) λF an f5 a5 aA=>?_;have K:=f5.2.1 d _ al (λn e=>by cases e) a3;rw[kA]at he;generalize dN p.B kw s0 1 t=w at *;refine S.nG W (nP a5 ?_);simp only[ai];apply aH<;>intro h
      · rw[aa (by simpa using h)]at he;simp only[aO,M,G,W7];rw[a5.load,show bW (cx p.B w an) 4 2 true=some (.agg [D w.gV,D w.u])from rfl];simp only[G];exact out _ _ F K he
      · rw[ab (by simpa using h)]at he;simp only[bu,G];rw[bM,fb i];exact ac (i+1) F ae K he
    exact main p.cG 0 j rfl o rfl
 have L:∀b:Bool,(b=true↔(32<p.B.length∨p.cG.length<1∨8<p.cG.length))→U (S.tY (aj C) (.ak p.cells) (.ptr d 0) Q) [.bool b] j:=by
  intro b g;simp only[aB,S.tY,aq,ai];apply aH<;>intro h
  · rw[aa (g.1 h)]at out;rw[show ba [J,J] [(1,1,D 12)]=some (.agg [J,D 12])from rfl];simp only[G];exact out 0 12 j o rfl
  ·exact X λy=>h (g.2 y)
 have N:∀b:Bool,(b=true↔(32<p.B.length∨p.cG.length<1))→U (S.tZ (aj C) (.ak p.cells) (.ptr d 0) Q) [.bool b] j:=by
  intro b g;simp only[aB,S.tZ,aq,b7,M,G,m,bH,dv];apply dD<;>intro h
  · refine L _ ?_;have A:¬(32<p.B.length∨p.cG.length<1):=λy=>by have:=g.2 y;rw[h]at this;cases this
    simp only[dh,gt_iff_lt];omega
  · refine L _ ?_;have:=g.1 h;simp only[true_iff];omega
 apply dD<;>intro h
 · simp only[m,G,bH,bb];refine N _ ?_;simp only[decide_eq_false_iff_not,gt_iff_lt]at h;simp only[dh];omega
 · refine N _ ?_;simp only[dh,gt_iff_lt]at h;simp only[true_iff];omega
end
end Rb

namespace Rb
open Go
abbrev iR(n:Int):Int:=Xv .u64 n
mutual
def gh:aA→Int→Int
 | .mk kind n name op aG place a_,m=>if kind≥4 then X (X (m+X (bS place+bU a_ 0))+1)else X (m+X (bS place+bU a_ 0))
def bU:List aA→Int→Int
 |[],m=>m
 |e::r,m=>bU r (gh e m)
def bS:aW→Int
 | .mk var aK=>gX aK 0
def gX:List aX→Int→Int
 |[],m=>m
 |p::r,m=>gX r (iS p m)
def iS:aX→Int→Int
 | .mk field aZ,m=>X (m+bU aZ 0)
end
mutual
def hp:ay→Int→Int
 | .mk kind V name bQ aG place aF aP bq,m=>
  if 3≤kind∧kind≤7 then X (X (m+X (X (X (bS place+bU aF 0)+c_ aP 0)+c_ bq 0))+1)
  else X (m+X (X (X (bS place+bU aF 0)+c_ aP 0)+c_ bq 0))
def c_:List ay→Int→Int
 |[],m=>m
 |x::r,m=>c_ r (hp x m)
end
structure bE where
 kind:Int
 site:Int
 V:Int
 spot:bN
 aG:Int
 op:Int
 d0:Int
 d1:Int
def bz:bN:=⟨0,0,0,false,0,0⟩
def cc:bE:=⟨0,0,0,bz,0,0,0,0⟩
def bE.cells(w:bE):List I:= D w.kind :: D w.site :: D w.V::(w.spot.cells++[D w.aG,D w.op,af w.d0,af w.d1])
structure RS where
 aL:List (Int×Int)
 aS:List (List UInt8×Int)
 pr:List Int
 V:Int
 fuel:Int
 fin:Int
 want:bE
 stop:Bool
 empty:Bool
def RS.bY(s:RS):RS:=if s.stop=true then s else if s.fuel<1 then {s with stop:=true,empty:=true,fuel:=X (s.fuel-1)} else {s with fuel:=X (s.fuel-1)}
def RS.ask(s:RS)(w:bE):RS×Int×Int:=
 if s.stop=true then(s,0,0)else match s.aL with
 |[]=>({s with want:={w with V:=s.V},stop:=true},0,0)
 |x::r=>({s with aL:=r},x.1,x.2)
def RS.get(s:RS)(x:List UInt8):Int:=match s.aS.find? (λl=>l.1==x)with|some l=>l.2|none=>0
def RS.put(s:RS)(x:List UInt8)(v:Int):RS:=match s.aS.findIdx? (λl=>l.1==x)with|some i=>{s with aS:=s.aS.set i (x,v)}|none=>s
def hq(a b:Int):Int:=Xv .u64 (KT 64 a &&& KT 64 b).toNat
def lU(a b:Int):Int:=Xv .u64 (KT 64 a ||| KT 64 b).toNat
def Rz(a b:Int):Int:=Xv .u64 (KT 64 a ^^^ KT 64 b).toNat
def rV(a b:Int):Int:=Xv .u64 (KT 64 a &&& ~~~KT 64 b).toNat
def hr(a b:Int):Int:=Xv .u64 (a*2^(min b.toNat 64))
def mK(a b:Int):Int:=a.fdiv (2^(min b.toNat 64))
def fg(n:Int):Int:=if n<1 then 0 else if n≥64 then 18446744073709551615 else Xv .u64 (hr 1 n-1)
def jf(n:Int):Bool:=decide (n≥0)&&decide (n<64)
def hQ(x a n:Int):Int:=if jf a=true then hq (mK x a) (fg n)else 0
def ig(x a n v:Int):Int:=if jf a=true then lU (rV x (hr (fg n) a)) (hr (hq v (fg n)) a)else x
def lb(op a b:Int):Int:=
 if op=1 then Xv .u64 (a+b)else if op=2 then Xv .u64 (a-b)else if op=3 then Xv .u64 (a*b)
 else if op=4 then hq a b else if op=5 then lU a b else if op=6 then Rz a b
 else if op=7 then hr a (b.tmod 64)else if op=8 then mK a (b.tmod 64)
 else if(if op=9 then a==b else if op=10 then a != b else decide (a<b))=true then 1 else 0
def eH:List aE→Int→List bN→Int×Int×List bN
 |[],at',acc=>(0,at',acc)
 | v::r,at',acc=>if(bT v.type).2≠0 then((bT v.type).2,0,[])else
  let x:=X (X (aax (X (X (at'+(bT v.type).1.2)-1)) (bT v.type).1.2)*(bT v.type).1.2);let y:=if x>65536 then 65537 else x
  eH r (X (y+(bT v.type).1.1)) (acc++[⟨X (65536+y),(bT v.type).1.1,0,false,0,0⟩])
def mapM(B:List aE):Int×Int×List bN:=if(eH B 0 []).1≠0 then((eH B 0 []).1,0,[])else if(eH B 0 []).2.1>65536 then(9,0,[])else eH B 0 []
def eP:List aX→Int→Int
 |[],n=>n
 |p::r,n=>eP r (X (n+p.aZ.length))
def gr(t:aC):List bN:=match dQ t.packed t.kind ⟨0,1,[],0⟩ t.aI with|some p=>p.dM|none=>[]
def gi:List aX→aC→bN→List Int→Option bN
 |[],_,sp,_=>some sp
 | p :: r,t,sp,idx=>
  if p.aZ.length=1 then(match idx with
    |[]=>none
    | i::q=>if i≥iR t.bZ then none else match t.bf with
     |[]=>none
     |e::_=>gi r e {sp with at_:=X (sp.at_+X (Xv .i64 i*(bT e).1.1)),len:=(bT e).1.1} q)
  else match t.aI.findIdx? (λf=>f.name==p.field)with
   |none=>none
   | some n=>match t.aI[n]?,(gr t)[n]? with
    |some f,some s=>gi r f.type {s with at_:=X (s.at_+sp.at_)} idx
    |_,_=>none
def F(B:List aE)(x:aW)(a:List Int):bN:=
 if(mapM B).1≠0 then bz else if(bP B x).1≠0 then bz else if ¬((bP B x).2.kind=1∨(bP B x).2.kind=2)then bz
 else if(a.length:Int)≠eP x.aK 0 then bz else
 match B.findIdx? (λv=>v.name==x.var)with
 |none=>bz
 | some n=>match B[n]?,(mapM B).2.2[n]? with
  | some v,some g=>match gi x.aK v.type {bz with at_:=g.at_,len:=g.len} a with
   |some sp=>{sp with kind:=(bP B x).2.kind}
   |none=>bz
  |_,_=>bz
def j1(B:List aE)(x:aW):Int:=if(bP B x).1=0 then(bP B x).2.bZ else 0
def iT(kind aG:Int)(sp:bN)(Y:Int)(a_:List aA)(vs:List Int):bE:=⟨if kind≥6 then 3 else 1,X (X (Y+bU a_ 0)+1),0,sp,aG,if kind≥6 then kind else 0,vs.getD 0 0,vs.getD 1 0⟩
def pz(sp:bN)(g:RS×Int×Int):RS×Int:=(g.1,if sp.bits=true then hQ g.2.1 sp.bit sp.bn else g.2.1)
section
variable(B:List aE)
mutual
def cq:aA→Int→RS→RS×Int
 | .mk kind n name op aG place a_,a,s=>
  if s.bY.stop=true then(s.bY,0)
  else if kind=1 then(s.bY,n)
  else if kind=2 then(s.bY,s.bY.get name)
  else if kind=3 then((cl a_ a s.bY).1,lb op ((cl a_ a s.bY).2.getD 0 0) ((cl a_ a s.bY).2.getD 1 0))
  else match (cH place a s.bY).2 with
   |none=>((cH place a s.bY).1,0)
   |some sp=>pz sp ((cl a_ (X (a+bS place)) (cH place a s.bY).1).1.ask (iT kind aG sp (X (a+bS place)) a_ (cl a_ (X (a+bS place)) (cH place a s.bY).1).2))
def cl:List aA→Int→RS→RS×List Int
 |[],a,s=>(s,[])
 |x::r,a,s=>((cl r (X (a+gh x 0)) (cq x a s).1).1,(cq x a s).2::(cl r (X (a+gh x 0)) (cq x a s).1).2)
def cH:aW→Int→RS→RS×Option bN
 | .mk var aK,a,s=>((eh (.mk var aK) aK 0 a [] s).1,(eh (.mk var aK) aK 0 a [] s).2.map λidx=>F B (.mk var aK) idx)
def eh(x:aW):List aX→Nat→Int→List Int→RS→RS×Option (List Int)
 |[],k,a,idx,s=>(s,some idx)
 | p::r,k,a,idx,s=>match ld p a s with
  |none=>eh x r (k+1) a idx s
  |some q=>if q.1.stop=true then(q.1,none)else if q.2≥iR (j1 B ⟨x.var,x.aK.take k⟩)then({q.1 with fin:=2,stop:=true},none)else eh x r (k+1) (X (a+iS p 0)) (idx++[q.2]) q.1
def ld:aX→Int→RS→Option (RS×Int)
 | .mk field aZ,a,s=>lV aZ a s
def lV:List aA→Int→RS→Option (RS×Int)
 |[],_,_=>none
 |e::_,a,s=>some (cq e a s)
end
def cW(l:List aA)(a:Int)(s:RS):RS×Int:=match l with|[]=>(s,0)|e::_=>cq B e a s
def lW(sp:bN)(a:Int)(s:RS):RS×Int×Int:=if sp.bits=true then s.ask ⟨1,a,0,sp,0,0,0,0⟩else(s,0,0)
def hx(sp:bN)(o v:Int):Int:=hq (if sp.bits=true then ig o sp.bit sp.bn v else v) (fg (X (8*sp.len)))
def pA(aF:List aA)(aG Y:Int)(sp:bN)(s:RS):RS:=((lW sp (X (X (Y+bU aF 0)+1)) (cl B aF Y s).1).1.ask ⟨2,X (X (Y+bU aF 0)+1),0,sp,aG,0,hx sp (lW sp (X (X (Y+bU aF 0)+1)) (cl B aF Y s).1).2.1 ((cl B aF Y s).2.getD 0 0),(cl B aF Y s).2.getD 1 0⟩).1
def nR(place:aW)(aF:List aA)(aG a:Int)(s:RS):RS:=
 match (cH B place a s).2 with
 |none=>(cH B place a s).1
 |some sp=>pA B aF aG (X (a+bS place)) sp (cH B place a s).1
def lX(name bQ:List UInt8)(g:RS×Int×Int):RS:=if g.1.stop=true then g.1 else(g.1.put name g.2.1).put bQ g.2.2
def kD(name bQ:List UInt8)(place:aW)(aG a:Int)(s:RS):RS:=
 match (cH B place a s).2 with
 |none=>(cH B place a s).1
 |some sp=>lX name bQ ((cH B place a s).1.ask ⟨1,X (X (a+bS place)+1),0,sp,aG,0,0,0⟩)
def fU(cond:RS→RS×Int)(body:RS→RS):Nat→RS→RS
 |0,s=>s
 |c+1,s=>if(cond s).2≠0∧(cond s).1.stop=false then fU cond body c (body (cond s).1)else(cond s).1
variable(c:Nat)
mutual
def eI:ay→Int→RS→RS
 | .mk kind V name bQ aG place aF aP bq,a,s=>
  if kind=3∨kind=4∨kind=6 then nR B place aF aG a s
  else if kind=5 then kD B name bQ place aG a s
  else if kind=7 then(s.ask ⟨4,X (a+1),0,bz,aG,0,0,0⟩).1
  else if kind=9 then fU (cW B aF a) (λs1=>{bV aP (X (a+bU aF 0)) s1.aS.length s1 with V:=V}) c s
  else if(cW B aF a s).1.stop=true then(cW B aF a s).1
  else if kind=1 then {(cW B aF a s).1 with aS:=(cW B aF a s).1.aS++[(name,(cW B aF a s).2)]}
  else if kind=2 then(cW B aF a s).1.put name (cW B aF a s).2
  else if kind=10 then {(cW B aF a s).1 with pr:=(cW B aF a s).1.pr++[(cW B aF a s).2]}
  else if(cW B aF a s).2≠0 then bV aP (X (a+bU aF 0)) (cW B aF a s).1.aS.length (cW B aF a s).1
  else bV bq (X (X (a+bU aF 0)+c_ aP 0)) (cW B aF a s).1.aS.length (cW B aF a s).1
def bV:List ay→Int→Nat→RS→RS
 |[],a,n,s=>{s with aS:=s.aS.take n}
 |x::r,a,n,s=>if s.stop=true then s else bV r (X (a+hp x 0)) n (eI x a ({s with V:=x.V}:RS).bY)
end
end
def RS.init(aL:List (Int×Int))(fuel:Int):RS:=⟨aL,[],[],0,fuel,0,cc,false,false⟩
def eW(B:List aE)(c:Nat)(l:List ay)(aL:List (Int×Int))(fuel:Int):bE×Int×List Int×Int:=
 let s:=bV B c l 0 0 (RS.init aL fuel)
 if s.empty=true then(cc,0,[],16)else if s.stop=false then(s.want,1,s.pr,0)else(s.want,s.fin,s.pr,0)
end Rb

namespace Rb
open Go
variable{e:ay}{l:List aA}{x:aW}
section
variable{H:Z}{id:Nat}
theorem xH{e:aA}(h:T H id (.row e.cells)):O H 1 false (.ptr id 0)=some (D e.kind):=by rw[h.load,aA.be,aW.be];rfl
theorem I3{e:aA}(h:T H id (.row e.cells)):O H 2 true (.ptr id 5)=some (.agg e.place.cells):=by rw[h.load,aA.be,aW.be];rfl
theorem Bs{e:aA}(h:T H id (.row e.cells)):O H 1 false (.ptr id 7)=some (aD aA.cells e.a_):=by rw[h.load,aA.be,aW.be];rfl
theorem I4{e:aA}(h:T H id (.row e.cells)):O H 8 true (.ptr id 0)=some (.agg e.cells):=by rw[h.load,eM e.len]
theorem lf(h:T H id (.row e.cells)):O H 1 false (.ptr id 0)=some (D e.kind):=by rw[h.load,ay.be,aW.be];rfl
theorem xI(h:T H id (.row e.cells)):O H 1 false (.ptr id 1)=some (D e.V):=by rw[h.load,ay.be,aW.be];rfl
theorem nS(h:T H id (.row e.cells)):O H 2 true (.ptr id 5)=some (.agg e.place.cells):=by rw[h.load,ay.be,aW.be];rfl
theorem rW(h:T H id (.row e.cells)):O H 1 false (.ptr id 7)=some (aD aA.cells e.aF):=by rw[h.load,ay.be,aW.be];rfl
theorem rX(h:T H id (.row e.cells)):O H 1 false (.ptr id 8)=some (aD ay.cells e.aP):=by rw[h.load,ay.be,aW.be];rfl
theorem pB(h:T H id (.row e.cells)):O H 1 false (.ptr id 9)=some (aD ay.cells e.bq):=by rw[h.load,ay.be,aW.be];rfl
theorem Bt(h:T H id (.row e.cells)):O H 10 true (.ptr id 0)=some (.agg e.cells):=by rw[h.load,eM e.len]
theorem xJ{e:aX}(h:T H id (.row e.cells)):O H 1 false (.ptr id 1)=some (aD aA.cells e.aZ):=by rw[h.load,aX.be];rfl
end
theorem lY(x:aW)(H:Z):bg H false 2 (.agg x.cells)=some (.ak x.cells,H):=by unfold bg;rw[aa ⟨rfl,x.len⟩];rfl
theorem hR(x:aW)(i:Nat):M i (.ak x.cells)=some (.ak (x.cells.drop i)):=rfl
theorem rY(x:aW)(H:Z):O H 1 false (.ak (x.cells.drop 0))=some (.str x.var):=by rw[aW.be];rfl
theorem ih(x:aW)(H:Z):O H 1 false (.ak (x.cells.drop 1))=some (aD aX.cells x.aK):=by rw[aW.be];rfl
theorem xK(x:aW)(H:Z):O H 2 true (.ak x.cells)=some (.agg x.cells):=eM x.len
theorem rZ(e:aA)(m:Int):gh e m=if e.kind≥4 then X (X (m+X (bS e.place+bU e.a_ 0))+1)else X (m+X (bS e.place+bU e.a_ 0)):=by cases e;rw[gh]
theorem Bu(x:aW):bS x=gX x.aK 0:=by cases x;rw[bS]
theorem pC(p:aX)(m:Int):iS p m=X (m+bU p.aZ 0):=by cases p;rw[iS]
theorem pD(x:ay)(m:Int):hp x m=if 3≤x.kind∧x.kind≤7 then X (X (m+X (X (X (bS x.place+bU x.aF 0)+c_ x.aP 0)+c_ x.bq 0))+1)
  else X (m+X (X (X (bS x.place+bU x.aF 0)+c_ x.aP 0)+c_ x.bq 0)):=by cases x;rw[hp]
section
variable{C:Ctx}(aw:cY C)(W:Cl (aj C) S.cr)
include aw W
def Bv(C:Ctx)(e:aA):Prop:=bR (aj C) 110 [aD aA.cells e.a_] (D (bU e.a_ 0))∧bR (aj C) 107 [.agg e.place.cells] (D (bS e.place))
theorem Bw(hl:l.length≤9223372036854775807)(h:∀e∈l,Bv C e):bR (aj C) 110 [aD aA.cells l] (D (bU l 0)):=by
 refine bR.of aw (by simp[I.cv,k1 aA.b6]) rfl λQ f=>S.Pb W ?_;unfold S.f110;simp only[bH,G];have main:∀(r:List aA)(i:Nat)(m:Int)(H1:Z),l.drop i=r→bU r m=bU l 0→au (S.wv (aj C) (aD aA.cells l) (D l.length) Q) ([D m,D i],H1):=by
  intro r;induction r with
  | nil=>intro i m H1 a he;have hle:=db a;refine au.step ?_;simp only[S.wv,aq,bh,bb,G,ai];rw[cZ];rw[bU]at he;rw[he];exact f _
  | cons e r b=>
   intro i m H1 a he;obtain⟨g,c,d⟩:=c8 a;obtain⟨c1,j⟩:=h e (Y7 c);refine au.step ?_;simp only[S.wv,aq,bh,bb,G,ai];rw[ch,cp g];simp only[G];rw[dd aA.len (by decide) _ c];simp only[G,aV,aR,aY];rw[bO _ _ _ 8 e.len e.scalar rfl];have a2:=T.new H1 (.row e.cells);simp only[G,M,W7];rw[I3 a2,Bs a2];simp only[G];refine j _ _ ?_;refine⟨Bs a2,?_⟩;refine c1 _ _ ?_;rw[bU,rZ]at he;simp only[bu,G,xH a2,eu,ai];have hw:Xv .i64 ((i:Int)+1)=((i+1:Nat):Int):=by rw[bM];simp
   apply aH<;>intro hk
   · rw[aa (by simpa using hk)]at he;simp only[aB,S.wu,aq,bh,bu,G,hw];exact b (i+1) _ _ d he
   · rw[ab (by simpa using hk)]at he;simp only[aB,S.wu,aq,bh,bu,G,hw];exact b (i+1) _ _ d he
 exact main l 0 0 _ rfl rfl
theorem I5(a:x.ok)(h:∀p∈x.aK,∀e∈p.aZ,Bv C e):bR (aj C) 107 [.agg x.cells] (D (bS x)):=by
 obtain⟨hl,f⟩:=aW.dc a;refine bR.of aw (by simp[I.cv,I.b6,aW.b6]) rfl λQ c=>S.O9 W ?_;unfold S.f107;simp only[lY,aV,hR,ih,bH,G];rw[Bu]at c;have main:∀(r:List aX)(i:Nat)(m:Int)(H1:Z),x.aK.drop i=r→gX r m=gX x.aK 0→au (S.wt (aj C) (aD aX.cells x.aK) (D x.aK.length) Q) ([D m,D i],H1):=by
  intro r;induction r with
  | nil=>intro i m H1 b he;have hle:=db b;refine au.step ?_;simp only[S.wt,aq,bh,bb,G,ai];rw[cZ];rw[gX]at he;rw[he];exact c _
  | cons p r g=>
   intro i m H1 b he;obtain⟨j,a,k⟩:=c8 b;have d:=Y7 a;refine au.step ?_;simp only[S.wt,aq,bh,bb,G,ai];rw[ch,cp j];simp only[G];rw[dd aX.len (by decide) _ a];simp only[G,aV,aR,aY];rw[bO _ _ _ 2 p.len p.scalar rfl];have a2:=T.new H1 (.row p.cells);simp only[G,M,W7];rw[xJ a2];simp only[G];refine Bw aw W (f p d).1 (λe he=>h p d e he) _ _ ?_;rw[gX,pC]at he;simp only[bu,G];have hw:Xv .i64 ((i:Int)+1)=((i+1:Nat):Int):=by rw[bM];simp
   rw[hw];exact g (i+1) _ _ k he
 exact main x.aK 0 0 _ rfl rfl
theorem I6:∀e:aA,e.ok→Bv C e:=by refine aA.ind λe c d he=>?_;obtain⟨⟨f,g⟩,a⟩:=aA.dc he;have h:=aW.dc a;exact⟨Bw aw W f λk hk=>c k hk (g k hk),I5 aw W a λp b i hi=>d p b i hi ((h.2 p b).2 i hi)⟩
theorem mL(hl:l.length≤9223372036854775807)(h:∀e∈l,e.ok):bR (aj C) 110 [aD aA.cells l] (D (bU l 0)):=Bw aw W hl λe he=>I6 aw W e (h e he)
theorem xL(a:x.ok):bR (aj C) 107 [.agg x.cells] (D (bS x)):=I5 aw W a λp b e he=>I6 aw W e ((aW.dc a).2 p b |>.2 e he)
def I7(C:Ctx)(x:ay):Prop:=bR (aj C) 78 [aD ay.cells x.aP] (D (c_ x.aP 0))∧bR (aj C) 78 [aD ay.cells x.bq] (D (c_ x.bq 0))
theorem Bx{l:List ay}(hl:l.length≤9223372036854775807)(o:∀x∈l,x.ok)(h:∀x∈l,I7 C x):bR (aj C) 78 [aD ay.cells l] (D (c_ l 0)):=by
 refine bR.of aw (by simp[I.cv,k1 ay.b6]) rfl λQ p=>S.OR W ?_;unfold S.f78;simp only[bH,G];have main:∀(r:List ay)(i:Nat)(m:Int)(H1:Z),l.drop i=r→c_ r m=c_ l 0→au (S.q2 (aj C) (aD ay.cells l) (D l.length) Q) ([D m,D i],H1):=by
  intro r;induction r with
  | nil=>intro i m H1 c he;have hle:=db c;refine au.step ?_;simp only[S.q2,aq,bh,bb,G,ai];rw[cZ];rw[c_]at he;rw[he];exact p _
  | cons e r d=>
   intro i m H1 c he;obtain⟨q,f,g⟩:=c8 c;have j:=Y7 f;obtain⟨c1,s⟩:=h e j;obtain⟨o1,o2,t,u⟩:=ay.dc (o e j);refine au.step ?_;simp only[S.q2,aq,bh,bb,G,ai];rw[ch,cp q];simp only[G];rw[dd ay.len (by decide) _ f];simp only[G,aV,aR,aY];rw[bO _ _ _ 10 e.len e.scalar rfl];have a2:=T.new H1 (.row e.cells);simp only[G,M,W7];rw[nS a2,rW a2,rX a2,pB a2];simp only[G];refine xL aw W o1 _ _ ?_;refine⟨rW a2,rX a2,pB a2,?_⟩;refine mL aw W o2.1 o2.2 _ _ ?_;refine⟨rX a2,pB a2,?_⟩;simp only[bu,G];refine c1 _ _ ?_;refine⟨pB a2,?_⟩;simp only[bu,G];refine s _ _ ?_;rw[c_,pD]at he;simp only[bu,G,lf a2,eu,gR,bG];have hw:Xv .i64 ((i:Int)+1)=((i+1:Nat):Int):=by rw[bM];simp
   have k:∀b:Bool,(b=true↔3≤e.kind∧e.kind≤7)→S.vu (aj C) (D (X (m+X (X (X (bS e.place+bU e.aF 0)+c_ e.aP 0)+c_ e.bq 0)))) ([D m,D i],H1) (au (S.q2 (aj C) (aD ay.cells l) (D l.length) Q)) Q [.bool b] (H1.push (.row e.cells)):=by
    intro b n;simp only[S.vu,aq,ai,bu,G,aB,S.Ab,bh,hw];apply aH<;>intro hk
    · rw[aa (n.1 hk)]at he;exact d (i+1) _ _ g he
    · rw[ab (λa=>hk (n.2 a))]at he;exact d (i+1) _ _ g he
   apply aH<;>intro hk
   · refine k _ ?_;simp only[dh]at hk ⊢;omega
   · refine k false ⟨λa=>(by cases a),λa=>?_⟩;simp only[dh]at hk;omega
 exact main l 0 0 _ rfl rfl
theorem RA:∀x:ay,x.ok→I7 C x:=by refine ay.ind λx d e f=>?_;obtain⟨_,_,b,c⟩:=ay.dc f;exact⟨Bx aw W b.1 b.2 λy a=>d y a (b.2 y a),Bx aw W c.1 c.2 λy a=>e y a (c.2 y a)⟩
theorem Bz{l:List ay}(hl:l.length≤9223372036854775807)(h:∀x∈l,x.ok):bR (aj C) 78 [aD ay.cells l] (D (c_ l 0)):=Bx aw W hl h λx a=>RA aw W x (h x a)
end
end Rb

namespace Rb
open Go
variable{s A:RS}
theorem I8{n:Int}(a:0≤n)(b:n≤1000000):X (n-1)=n-1:=bM
structure Kp(s A:RS):Prop where
 aS:A.aS=s.aS
 pr:A.pr=s.pr
 V:A.V=s.V
 st:s.stop=true→A=s
 fu:0≤s.fuel→s.fuel≤1000000→A.stop=false→0≤A.fuel∧A.fuel≤s.fuel
theorem Kp.refl(s:RS):Kp s s:=⟨rfl,rfl,rfl,λ_=>rfl,λh _ _=>⟨h,aac _⟩⟩
theorem Kp.stop(h:Kp s A)(a:A.stop=false):s.stop=false:=by
 cases hs:s.stop with
 |false=>rfl
 |true=>rw[h.st hs,hs]at a;cases a
theorem Kp.trans{a b c:RS}(h:Kp a b)(k:Kp b c):Kp a c where
 aS:=k.aS.trans h.aS
 pr:=k.pr.trans h.pr
 V:=k.V.trans h.V
 st:=λe=>by have e1:=h.st e;rw[e1]at k;exact k.st e
 fu:=λf g d=>by have i:=k.stop d;have x:=h.fu f g i;have y:=k.fu x.1 (by omega) d;exact⟨y.1,by omega⟩
theorem Kp.bY(s:RS):Kp s s.bY:=by
 unfold RS.bY;split
 ·exact Kp.refl s
 · rename_i hs;split
   ·exact⟨rfl,rfl,rfl,λe=>absurd e hs,λ_ _ h=>by cases h⟩
   · exact ⟨rfl,rfl,rfl,λe=>absurd e hs,λa b _=>by show 0≤X (s.fuel-1)∧X (s.fuel-1)≤s.fuel;rw[I8 a b];omega⟩
theorem RB(a:0≤s.fuel)(b:s.fuel≤1000000)(h:s.bY.stop=false):s.bY.fuel=s.fuel-1∧1≤s.fuel:=by
 unfold RS.bY at h ⊢;split at h
 ·rename_i hs;rw[hs]at h;cases h
 · rename_i hs;rw[ab hs];split at h
   ·cases h
   · rename_i hf;rw[ab hf];exact⟨I8 a b,by omega⟩
theorem Kp.ask(s:RS)(w:bE):Kp s (s.ask w).1:=by
 unfold RS.ask;split
 ·exact Kp.refl s
 · rename_i hs;split
   ·exact⟨rfl,rfl,rfl,λe=>absurd e hs,λ_ _ h=>by cases h⟩
   ·exact⟨rfl,rfl,rfl,λe=>absurd e hs,λh _ _=>⟨h,aac _⟩⟩
section
variable(B:List aE)
mutual
theorem jg:∀(e:aA)(a:Int)(s:RS),Kp s (cq B e a s).1
 | .mk kind n name op aG place a_,a,s=>by
  rw[cq];have b:=Kp.bY s;split
  ·exact b
  · split
    ·exact b
    · split
      ·exact b
      · split
        ·exact b.trans (jA a_ a s.bY)
        · have d:=jB place a s.bY;split
          ·exact b.trans d
          ·exact(b.trans d).trans ((jA a_ _ _).trans (Kp.ask _ _))
theorem jA:∀(l:List aA)(a:Int)(s:RS),Kp s (cl B l a s).1
 |[],a,s=>by rw[cl];exact Kp.refl s
 | x::r,a,s=>by rw[cl];exact(jg x a s).trans (jA r _ _)
theorem jB:∀(x:aW)(a:Int)(s:RS),Kp s (cH B x a s).1
 | .mk var aK,a,s=>by rw[cH];exact BA (.mk var aK) aK 0 a [] s
theorem BA(x:aW):∀(l:List aX)(k:Nat)(a:Int)(idx:List Int)(s:RS),Kp s (eh B x l k a idx s).1
 |[],k,a,idx,s=>by rw[eh];exact Kp.refl s
 | p :: r,k,a,idx,s=>by
  rw[eh];have d:=RC p a s;cases f:ld B p a s with
  |none=>exact BA x r (k+1) a idx s
  | some q=>
   dsimp only;have c:=d q f;split
   ·exact c
   · rename_i hs;split
     · exact ⟨c.aS,c.pr,c.V,λe=>by have:=c.st e;rw[this]at hs;exact absurd e hs,λ_ _ h=>by cases h⟩
     ·exact c.trans (BA x r (k+1) _ _ _)
theorem RC:∀(p:aX)(a:Int)(s:RS)(q:RS×Int),ld B p a s=some q→Kp s q.1
 | .mk field aZ,a,s,q,h=>by rw[ld]at h;exact RD aZ a s q h
theorem RD:∀(l:List aA)(a:Int)(s:RS)(q:RS×Int),lV B l a s=some q→Kp s q.1
 |[],a,s,q,h=>by rw[lV]at h;cases h
 | e::r,a,s,q,h=>by rw[lV]at h;cases h;exact jg e a s
end
theorem r0(e:aA)(a:Int)(s:RS)(c:0≤s.fuel)(d:s.fuel≤1000000)(h:(cq B e a s).1.stop=false):(cq B e a s).1.fuel≤s.fuel-1∧1≤s.fuel:=by
 have hk : Kp s.bY (cq B e a s).1:=by
  cases e with
  | mk kind n name op aG place a_=>
   rw[cq];split
   ·exact Kp.refl _
   · split
     ·exact Kp.refl _
     · split
       ·exact Kp.refl _
       · split
         ·exact jA B a_ a s.bY
         · have b:=jB B place a s.bY;split
           ·exact b
           ·exact b.trans ((jA B a_ _ _).trans (Kp.ask _ _))
 have f:=hk.stop h;obtain⟨e1,g⟩:=RB c d f;have:=hk.fu (by omega) (by omega) h;exact⟨by omega,g⟩
theorem pE(l:List aA)(a:Int)(s:RS):Kp s (cW B l a s).1:=by
 unfold cW;split
 ·exact Kp.refl s
 ·exact jg B _ a s
end
structure Ks(s A:RS):Prop where
 pr:s.pr <+: A.pr
 st:s.stop=true→A=s
 fu:0≤s.fuel→s.fuel≤1000000→A.stop=false→0≤A.fuel∧A.fuel≤s.fuel
theorem Kp.ks(h:Kp s A):Ks s A:=⟨by rw[h.pr];exact aay _,h.st,h.fu⟩
theorem Ks.refl(s:RS):Ks s s:=(Kp.refl s).ks
theorem Ks.stop(h:Ks s A)(a:A.stop=false):s.stop=false:=by
 cases hs:s.stop with
 |false=>rfl
 |true=>rw[h.st hs,hs]at a;cases a
theorem Ks.trans{a b c:RS}(h:Ks a b)(k:Ks b c):Ks a c where
 pr:=h.pr.trans k.pr
 st:=λe=>by have e1:=h.st e;rw[e1]at k;exact k.st e
 fu:=λf g d=>by have i:=k.stop d;have x:=h.fu f g i;have y:=k.fu x.1 (by omega) d;exact⟨y.1,by omega⟩
theorem Ks.r2{s a A:RS}(h:Kp s a)(hs:a.stop=false)(b:a.pr <+: A.pr)(hf:A.fuel=a.fuel):Ks s A:=⟨by rw[←h.pr];exact b,λe=>(by have:=h.st e;rw[this,e]at hs;cases hs),λc d _=>(by have:=h.fu c d hs;rw[hf];exact this)⟩
section
variable(B:List aE)
theorem RE(sp:bN)(a:Int)(s:RS):Kp s (lW sp a s).1:=by
 unfold lW;split
 ·exact Kp.ask _ _
 ·exact Kp.refl s
theorem RF(aF:List aA)(aG Y:Int)(sp:bN)(s:RS):Kp s (pA B aF aG Y sp s):=by unfold pA;exact(jA B aF _ _).trans ((RE _ _ _).trans (Kp.ask _ _))
theorem xM(place:aW)(aF:List aA)(aG a:Int)(s:RS):Kp s (nR B place aF aG a s):=by
 unfold nR;have b:=jB B place a s;split
 ·exact b
 ·exact b.trans (RF B _ _ _ _ _)
theorem ij(s:RS)(x:List UInt8)(v:Int):(s.put x v).pr=s.pr∧(s.put x v).fuel=s.fuel∧(s.put x v).stop=s.stop∧(s.put x v).aL=s.aL∧(s.put x v).V=s.V∧(s.put x v).fin=s.fin∧(s.put x v).want=s.want∧(s.put x v).empty=s.empty:=by unfold RS.put;split<;>exact⟨rfl,rfl,rfl,rfl,rfl,rfl,rfl,rfl⟩
theorem RG(name bQ:List UInt8){g:RS×Int×Int}(hk:Kp s g.1):Ks s (lX name bQ g):=by
 unfold lX;split
 ·exact hk.ks
 · rename_i hs;have e1:=ij g.1 name g.2.1;have a:=ij (g.1.put name g.2.1) bQ g.2.2;exact Ks.r2 hk (by simpa using hs) (by rw[a.1,e1.1];exact aay _) (by rw[a.2.1,e1.2.1])
theorem I9(name bQ:List UInt8)(place:aW)(aG a:Int)(s:RS):Ks s (kD B name bQ place aG a s):=by
 unfold kD;have b:=jB B place a s;split
 ·exact b.ks
 ·exact RG name bQ (b.trans (Kp.ask _ _))
theorem xN{cond:RS→RS×Int}{body:RS→RS}(hc:∀s,Kp s (cond s).1)(a:∀s,s.stop=false→Ks s (body s)):∀(c:Nat)(s:RS),Ks s (fU cond body c s)
 |0,s=>Ks.refl s
 | c + 1,s=>by
  unfold fU;split
  · rename_i h;exact(hc s).ks.trans ((a _ h.2).trans (xN hc a c _))
  ·exact(hc s).ks
variable(c:Nat)
mutual
theorem pF : ∀ (x : ay) (a:Int) (s:RS),Ks s (eI B c x a s)
 | .mk kind V name bQ aG place aF aP bq,a,s=>by
  rw[eI];have hf:=pE B aF a s;split
  ·exact(xM B place aF aG a s).ks
  · split
    ·exact I9 B name bQ place aG a s
    · split
      ·exact(Kp.ask _ _).ks
      · split
        · refine xN (pE B aF a) (λs1 d=>?_) c s;have g:=lZ aP (X (a+bU aF 0)) s1.aS.length s1 d;exact⟨g.1,λe=>(by rw[d]at e;cases e),g.2⟩
        · split
          ·exact hf.ks
          · rename_i hs;have hs:(cW B aF a s).1.stop=false:=by simpa using hs
            split
            ·exact Ks.r2 hf hs (aay _) rfl
            · split
              · have e1:=ij (cW B aF a s).1 name (cW B aF a s).2;exact Ks.r2 hf hs (by rw[e1.1];exact aay _) e1.2.1
              · split
                ·exact Ks.r2 hf hs (List.prefix_append _ _) rfl
                · have bl:∀(l:List ay)(b:Int)(hl:∀b n s1,s1.stop=false→s1.pr <+: (bV B c l b n s1).pr∧(0≤s1.fuel→s1.fuel≤1000000→(bV B c l b n s1).stop=false→0≤(bV B c l b n s1).fuel∧(bV B c l b n s1).fuel≤s1.fuel)),Ks s (bV B c l b (cW B aF a s).1.aS.length (cW B aF a s).1):=by
                    intro l b hl;have g:=hl b (cW B aF a s).1.aS.length (cW B aF a s).1 hs;refine⟨by rw[←hf.pr];exact g.1,λe=>?_,λi d f=>?_⟩
                    · have:=hf.st e;rw[this,e]at hs;cases hs
                    · have x:=hf.fu i d hs;have y:=g.2 x.1 (by omega) f;exact⟨y.1,by omega⟩
                  split
                  ·exact bl aP _ (λb n s1 d=>lZ aP b n s1 d)
                  ·exact bl bq _ (λb n s1 d=>lZ bq b n s1 d)
theorem lZ:∀(l:List ay)(a:Int)(n:Nat)(s:RS),s.stop=false→s.pr <+: (bV B c l a n s).pr∧(0≤s.fuel→s.fuel≤1000000→(bV B c l a n s).stop=false→0≤(bV B c l a n s).fuel∧(bV B c l a n s).fuel≤s.fuel)
 |[],a,n,s,h=>by rw[bV];exact⟨aay _,λi _ _=>⟨i,aac _⟩⟩
 | x :: r,a,n,s,h=>by
  rw[bV,ab (by rw[h];decide)];have j:Ks ({s with V:=x.V}:RS) (eI B c x a ({s with V:=x.V}:RS).bY):=(Kp.bY _).ks.trans (pF x a _);cases hs:(eI B c x a ({s with V:=x.V}:RS).bY).stop with
  | false=>obtain⟨k,o⟩:=lZ r (X (a+hp x 0)) n (eI B c x a ({s with V:=x.V}:RS).bY) hs;refine⟨j.pr.trans k,λi d f=>?_⟩;have y:=j.fu i d hs;have q:(eI B c x a ({s with V:=x.V}:RS).bY).fuel≤s.fuel:=y.2;have z:=o y.1 (by omega) f;exact⟨z.1,by omega⟩
  | true=>
   have e:∀(l:List ay)(b:Int)(m:Nat)(u:RS),u.stop=true→(bV B c l b m u).pr=u.pr∧(bV B c l b m u).stop=true:=by
    intro l b m u hu;cases l with
    |nil=>rw[bV];exact⟨rfl,hu⟩
    |cons y t=>rw[bV,aa hu];exact⟨rfl,hu⟩
   obtain⟨e1,p⟩:=e r (X (a+hp x 0)) n _ hs;refine⟨by rw[e1];exact j.pr,λ_ _ f=>?_⟩;rw[p]at f;cases f
end
end
end Rb

namespace Rb
open Go
def b5(a:Int×Int):List I:=[af a.1,af a.2]
def gu(l:List UInt8×Int):List I:=[.str l.1,af l.2]
def cK(B:List aE)(s:RS)(lx px:I):List I:=aD aE.cells B::aD b5 s.aL::lx::px :: D s.V :: D s.fuel :: D s.fin::(s.want.cells++[.bool s.stop,.bool s.empty])
def iU(H:Z)(id:Nat)(L:List (List UInt8×Int))(x:I):Prop:=(x = ar∧L=[])∨∃j cs m,x = .row j 0 L.length 2∧j≠id∧T H j (.row cs)∧cs.length=m*2∧L.length≤m∧cs.take (L.length*2)=L.flatMap gu
theorem iU.ca{H H':Z}{id:Nat}{L:List (List UInt8×Int)}{x:I}(h:iU H id L x)(k:E id H H'):iU H' id L x:=by
 rcases h with h|⟨j,cs,m,b,a,c,d⟩
 ·exact .inl h
 ·exact .inr ⟨j,cs,m,b,a,k.2 j _ a c,d⟩
theorem hS{α:Type}{c:Prop}[Decidable c]{a b:α}(P:α→Prop)(d:c→P a)(e:¬c→P b):P (if c then a else b):=by
 split
 ·exact d ‹_›
 ·exact e ‹_›
structure RS.ok(s:RS):Prop where
 aL:∀x∈s.aL,bx x.1∧bx x.2
 aS:∀l∈s.aS,bx l.2
theorem RH(n:Int):0≤Xv .u64 n∧Xv .u64 n<18446744073709551616:=by unfold Xv;simp only[IntKind.signed,IntKind.bits];have:=aaf n (show(18446744073709551616:Int)≠0 by decide);have:=aah n (show(0:Int)<18446744073709551616 by decide);first|exact⟨by simpa using ‹0≤n%18446744073709551616›,by simpa using ‹n%18446744073709551616<18446744073709551616›⟩|omega
theorem l0(n:Int):bx (Xv .u64 n):=by have:=RH n;unfold bx;omega
theorem ei:bx 0:=⟨by decide,by decide⟩
theorem I_{a b:Int}(h:bx a):bx (mK a b):=by unfold mK bx;have c:(0:Int)<2^(min b.toNat 64):=Int.pow_pos (by decide);rw[Int.fdiv_eq_ediv_of_nonneg _ (aaz c)];have d:=Z5 h.1 (aaz c);have e:=Z6 (2^(min b.toNat 64)) h.1;exact⟨d,aad e h.2⟩
theorem Ja{op a b:Int}(c:bx a):bx (lb op a b):=by
 have one:bx 1:=⟨by decide,by decide⟩
 unfold lb
 iterate 6 (refine hS bx (λ_=>l0 _) (λ_=>?_))
 refine hS bx (λ_=>l0 _) (λ_=>?_);refine hS bx (λ_=>I_ c) (λ_=>?_);exact hS bx (λ_=>one) (λ_=>ei)
theorem r3(x a n:Int):bx (hQ x a n):=by unfold hQ;exact hS bx (λ_=>l0 _) (λ_=>ei)
theorem RS.ok.bY{s:RS}(h:s.ok):s.bY.ok:=by unfold RS.bY;exact hS RS.ok (λ_=>h) (λ_=>hS RS.ok (λ_=>⟨h.aL,h.aS⟩) (λ_=>⟨h.aL,h.aS⟩))
theorem RS.ok.ask{s:RS}(h:s.ok)(w:bE):(s.ask w).1.ok∧bx (s.ask w).2.1∧bx (s.ask w).2.2:=by
 unfold RS.ask;refine hS (λz:RS×Int×Int=>z.1.ok∧bx z.2.1∧bx z.2.2) (λ_=>⟨h,ei,ei⟩) (λ_=>?_);cases b:s.aL with
 |nil=>exact⟨⟨λx c=>(by cases c),h.aS⟩,ei,ei⟩
 | cons x r=>have a:=h.aL;rw[b]at a;exact⟨⟨λy d=>a y (YJ _ d),h.aS⟩,(a x (YK ..)).1,(a x (YK ..)).2⟩
theorem RS.ok.get{s:RS}(h:s.ok)(x:List UInt8):bx (s.get x):=by
 unfold RS.get;split
 · rename_i l hl;exact h.aS l (List.mem_of_find?_eq_some hl)
 ·exact ei
theorem RS.ok.put{s:RS}(h:s.ok)(x:List UInt8){v:Int}(hv:bx v):(s.put x v).ok:=by
 unfold RS.put;split
 · refine⟨h.aL,λl hl=>?_⟩;rcases List.mem_or_eq_of_mem_set hl with hl|rfl
   ·exact h.aS l hl
   ·exact hv
 ·exact h
section
variable(B:List aE)
def BB(e:aA):Prop:=∀(a:Int)(s:RS),s.ok→(cq B e a s).1.ok∧bx (cq B e a s).2
theorem Jb:∀{l:List aA},(∀e∈l,BB B e)→∀(a:Int)(s:RS),s.ok→(cl B l a s).1.ok∧∀v∈(cl B l a s).2,bx v
 |[],_,a,s,h=>by rw[cl];exact⟨h,λv hv=>by cases hv⟩
 | x::r,b,a,s,h=>by
  obtain⟨c,d⟩:=b x (YK ..) a s h;obtain⟨f,g⟩:=Jb (λe he=>b e (YJ _ he)) (X (a+gh x 0)) _ c;rw[cl];refine⟨f,λv hv=>?_⟩;rcases YI.1 hv with rfl|hv
  ·exact d
  ·exact g v hv
theorem Jc(p:aX)(a:Int)(s:RS):ld B p a s=match p.aZ with|[]=>none|e::_=>some (cq B e a s):=by
 cases p with
 | mk field aZ=>rw[ld];cases aZ<;>rw[lV]
theorem Jd(x:aW):∀{l:List aX},(∀p∈l,∀e∈p.aZ,BB B e)→∀(k:Nat)(a:Int)(idx:List Int)(s:RS),s.ok→(∀v∈idx,bx v)→(eh B x l k a idx s).1.ok∧∀i,(eh B x l k a idx s).2=some i→∀v∈i,bx v
 |[],_,k,a,idx,s,h,hi=>by rw[eh];exact⟨h,λi e=>by cases e;exact hi⟩
 | p :: r,c,k,a,idx,s,h,hi=>by
  have d:=Jd x (l:=r) (λq f=>c q (YJ _ f));rw[eh,Jc];cases g:p.aZ with
  |nil=>exact d _ _ _ _ h hi
  | cons e t=>
   dsimp only;obtain⟨b,j⟩:=c p (YK ..) e (by rw[g];exact YK ..) a s h;split
   ·exact⟨b,λi e=>by cases e⟩
   · split
     ·exact⟨⟨b.aL,b.aS⟩,λi e=>by cases e⟩
     · refine d _ _ _ _ b λv hv=>?_;rcases YB.1 hv with hv|hv
       ·exact hi v hv
       ·rw[List.mem_singleton.1 hv];exact j
theorem Je(x:aW)(a:Int)(s:RS):cH B x a s=((eh B x x.aK 0 a [] s).1,(eh B x x.aK 0 a [] s).2.map λidx=>F B x idx):=by cases x;rw[cH]
theorem Jf(e:aA)(a:Int)(s:RS):cq B e a s =
  if s.bY.stop=true then(s.bY,0)
  else if e.kind=1 then(s.bY,e.n)
  else if e.kind=2 then(s.bY,s.bY.get e.name)
  else if e.kind=3 then((cl B e.a_ a s.bY).1,lb e.op ((cl B e.a_ a s.bY).2.getD 0 0) ((cl B e.a_ a s.bY).2.getD 1 0))
  else match (cH B e.place a s.bY).2 with
   |none=>((cH B e.place a s.bY).1,0)
   |some sp=>pz sp ((cl B e.a_ (X (a+bS e.place)) (cH B e.place a s.bY).1).1.ask (iT e.kind e.aG sp (X (a+bS e.place)) e.a_ (cl B e.a_ (X (a+bS e.place)) (cH B e.place a s.bY).1).2)):=by cases e;first|(rw[cq];done)|(rw[cq];rfl)
theorem RJ{l:List Int}(h:∀v∈l,bx v)(k:Nat):bx (l.getD k 0):=by
 rw[List.getD_eq_getElem?_getD];cases hk:l[k]? with
 |none=>exact ei
 |some v=>exact h v (Y7 hk)
theorem RK(sp:bN){g:RS×Int×Int}(a:g.1.ok)(b:bx g.2.1):(pz sp g).1.ok∧bx (pz sp g).2:=by refine⟨a,?_⟩;show bx (if sp.bits=true then _ else _);exact hS bx (λ_=>r3 _ _ _) (λ_=>b)
theorem Jg:∀e:aA,e.ok→BB B e:=by
 refine aA.ind λe j m he=>?_;obtain⟨⟨w,o⟩,q⟩:=aA.dc he;have r:=aW.dc q;have t:bx e.n:=by cases e;exact he.2.1
 intro a s h;have b:=h.bY;have c:=Jb B (λk hk=>j k hk (o k hk));have u:=Jd B e.place (l:=e.place.aK) (λp d i hi=>m p d i hi ((r.2 p d).2 i hi)) 0 a [] s.bY b (λv hv=>by cases hv);rw[Jf];refine hS (λz:RS×Int=>z.1.ok∧bx z.2) (λ_=>⟨b,ei⟩) (λ_=>?_);refine hS (λz:RS×Int=>z.1.ok∧bx z.2) (λ_=>⟨b,t⟩) (λ_=>?_);refine hS (λz:RS×Int=>z.1.ok∧bx z.2) (λ_=>⟨b,b.get _⟩) (λ_=>?_);refine hS (λz:RS×Int=>z.1.ok∧bx z.2) (λ_=>⟨(c a _ b).1,Ja (RJ (c a _ b).2 0)⟩) (λ_=>?_);have f:(cH B e.place a s.bY).1.ok:=by rw[Je];exact u.1
 cases (cH B e.place a s.bY).2 with
 |none=>exact⟨f,ei⟩
 | some sp=>have hk:=c (X (a+bS e.place)) _ f;have g:=hk.1.ask (iT e.kind e.aG sp (X (a+bS e.place)) e.a_ (cl B e.a_ (X (a+bS e.place)) (cH B e.place a s.bY).1).2);exact RK sp g.1 g.2.1
end
section
variable{B:List aE}{s:RS}{lx px:I}{H:Z}{id:Nat}(h:T H id (.row (cK B s lx px)))
include h
theorem xO:O H 1 false (.ptr id 0)=some (aD aE.cells B):=by rw[h.load];rfl
theorem Jh:O H 1 false (.ptr id 1)=some (aD b5 s.aL):=by rw[h.load];rfl
theorem mM:O H 1 false (.ptr id 2)=some lx:=by rw[h.load];rfl
theorem r5:O H 1 false (.ptr id 3)=some px:=by rw[h.load];rfl
theorem RL:O H 1 false (.ptr id 4)=some (D s.V):=by rw[h.load];rfl
theorem BC:O H 1 false (.ptr id 5)=some (D s.fuel):=by rw[h.load];rfl
theorem xP:O H 1 false (.ptr id 6)=some (D s.fin):=by rw[h.load];rfl
theorem Ji:O H 13 true (.ptr id 7)=some (.agg s.want.cells):=by rw[h.load];rfl
theorem j2:O H 1 false (.ptr id 20)=some (.bool s.stop):=by rw[h.load];rfl
theorem Jj:O H 1 false (.ptr id 21)=some (.bool s.empty):=by rw[h.load];rfl
theorem RM(l:List (Int×Int)):ax H 1 (.ptr id 1) (aD b5 l)=some (H.set id (.row (cK B {s with aL:=l} lx px))):=by rw[h.store,aa ⟨rfl,rfl,rfl,(by decide:1+1≤22)⟩];rfl
theorem xQ{v:I}(b:v.known=true)(a:v.cells=[v])(c:v.scalar=true):ax H 1 (.ptr id 2) v=some (H.set id (.row (cK B s v px))):=by rw[h.store,aa ⟨b,by rw[a];rfl,by rw[a];simpa using c,(by show 2+1≤22;decide)⟩,a];rfl
theorem RN{v:I}(b:v.known=true)(a:v.cells=[v])(c:v.scalar=true):ax H 1 (.ptr id 3) v=some (H.set id (.row (cK B s lx v))):=by rw[h.store,aa ⟨b,by rw[a];rfl,by rw[a];simpa using c,(by show 3+1≤22;decide)⟩,a];rfl
theorem BD(v:Int):ax H 1 (.ptr id 4) (D v)=some (H.set id (.row (cK B {s with V:=v} lx px))):=by rw[h.store,aa ⟨rfl,rfl,rfl,(by decide:4+1≤22)⟩];rfl
theorem Jk(v:Int):ax H 1 (.ptr id 5) (D v)=some (H.set id (.row (cK B {s with fuel:=v} lx px))):=by rw[h.store,aa ⟨rfl,rfl,rfl,(by decide:5+1≤22)⟩];rfl
theorem BE(v:Int):ax H 1 (.ptr id 6) (D v)=some (H.set id (.row (cK B {s with fin:=v} lx px))):=by rw[h.store,aa ⟨rfl,rfl,rfl,(by decide:6+1≤22)⟩];rfl
theorem RO(w:bE):ax H 13 (.ptr id 7) (.agg w.cells)=some (H.set id (.row (cK B {s with want:=w} lx px))):=by rw[h.store,aa ⟨rfl,rfl,rfl,(by decide:7+13≤22)⟩];rfl
theorem RP(v:Int):ax H 1 (.ptr id 9) (D v)=some (H.set id (.row (cK B {s with want:={s.want with V:=v}} lx px))):=by rw[h.store,aa ⟨rfl,rfl,rfl,(by decide:9+1≤22)⟩];rfl
theorem BF(b:Bool):ax H 1 (.ptr id 20) (.bool b)=some (H.set id (.row (cK B {s with stop:=b} lx px))):=by rw[h.store,aa ⟨rfl,rfl,rfl,(by decide:20+1≤22)⟩];rfl
theorem RQ(b:Bool):ax H 1 (.ptr id 21) (.bool b)=some (H.set id (.row (cK B {s with empty:=b} lx px))):=by rw[h.store,aa ⟨rfl,rfl,rfl,(by decide:21+1≤22)⟩];rfl
end
end Rb

namespace Rb
open Go
theorem RR(k:IntKind)(a b:Int):N .andNot (.int k a) (.int k b)=some (.int k (k.wrap (KT k.bits a &&& ~~~KT k.bits b).toNat)):=by simp[N,gO,m3]
section
variable{Φ:ae}{H:Z}{Q:ad}
theorem RT{n:Int}(a:Q (af (fg n)) H):S.f70 Φ (D n) H Q:=by
 unfold S.f70;unfold fg at a;simp only[bb,eu,G,ai];apply aH<;>intro h
 ·rw[aa (by simpa using h)]at a;exact a
 have b:¬n<1:=by simpa using h
 rw[ab b]at a;apply aH<;>intro h
 ·rw[aa (by simpa using h)]at a;exact a
 have c:¬n≥64:=by simpa using h
 rw[ab c]at a;rw[lN _ _ _ _ (by omega)];simp only[G,dA];exact a
theorem RU{op a b:Int}(g:bx b)(d:Q (af (lb op a b)) H):S.f141 Φ (D op) (af a) (af b) H Q:=by
 have e:0≤b.tmod 64:=Int.tmod_nonneg _ g.1;unfold S.f141;unfold lb at d;simp only[bc,G,ai,bu,dA,fD,nH,rv,HZ,iN _ _ _ (show(64:Int)≠0 by decide),lN _ _ _ _ e,ry _ _ _ _ e,cU,bb,aB,S.wI,aq];apply aH<;>intro h
 ·rw[aa (by simpa using h)]at d;exact d
 rw[ab (by simpa using h)]at d;apply aH<;>intro h
 ·rw[aa (by simpa using h)]at d;exact d
 rw[ab (by simpa using h)]at d;apply aH<;>intro h
 ·rw[aa (by simpa using h)]at d;exact d
 rw[ab (by simpa using h)]at d;apply aH<;>intro h
 ·rw[aa (by simpa using h)]at d;exact d
 rw[ab (by simpa using h)]at d;apply aH<;>intro h
 ·rw[aa (by simpa using h)]at d;exact d
 rw[ab (by simpa using h)]at d;apply aH<;>intro h
 ·rw[aa (by simpa using h)]at d;exact d
 rw[ab (by simpa using h)]at d;apply aH<;>intro h
 ·rw[aa (by simpa using h)]at d;exact d
 rw[ab (by simpa using h)]at d;apply aH<;>intro h
 ·rw[aa (by simpa using h)]at d;exact d
 rw[ab (by simpa using h)]at d;have fin:∀c:Bool,(if op=9 then a==b else if op=10 then a != b else decide (a<b))=c→if c=true then Q (af 1) H else Q (af 0) H:=by
  intro c hc;rw[hc]at d;cases c
  ·rw[aN]at d ⊢;exact d
  ·rw[aa rfl]at d ⊢;exact d
 apply aH<;>intro h
 ·exact fin _ (by rw[aa (by simpa using h)])
 have f:¬op=9:=by simpa using h
 apply aH<;>intro h
 ·exact fin _ (by rw[ab f,aa (by simpa using h)])
 ·exact fin _ (by rw[ab f,ab (by simpa using h)])
end
section
variable{C:Ctx}(aw:cY C)(W:Cl (aj C) S.cr)
include aw W
theorem r6(n:Int):bR (aj C) 70 [D n] (af (fg n)):=λH Q a=>S.OJ W (RT a)
theorem Jl(n:Int):bR (aj C) 162 [D n] (.bool (jf n)):=λH Q a=>S.PD W (by
  unfold S.f162;unfold jf at a;simp only[eu,bb,G,bG];apply aH<;>intro h
  ·rw[h]at a;exact a
  · have h:decide (n≥0)=false:=by simpa using h
    rw[h]at a;exact a)
theorem RV(x a n:Int):bR (aj C) 166 [af x,D a,D n] (af (hQ x a n)):=λH Q b=>S.PH W (by
  unfold S.f166;refine Jl aw W _ _ _ ?_;simp only[cV,G,ai];unfold hQ at b;apply aH<;>intro h
  · have h:jf a=false:=by simpa using h
    rw[h]at b;exact b
  · have h:jf a=true:=by simpa using h
    rw[aa h]at b;have c:0≤a:=by unfold jf at h;simp only[Wn,dh]at h;exact h.1
    first
     |(rw[ry _ _ _ _ c];simp only[G];refine r6 aw W _ _ _ ?_;simp only[nH,G];exact b)
     |(refine r6 aw W _ _ _ ?_;rw[ry _ _ _ _ c];simp only[G,nH];exact b))
theorem RW(x a n v:Int):bR (aj C) 137 [af x,D a,D n,af v] (af (ig x a n v)):=λH Q b=>S.Po W (by
  unfold S.f137;refine Jl aw W _ _ _ ?_;simp only[cV,G,ai];unfold ig at b;apply aH<;>intro h
  · have h:jf a=false:=by simpa using h
    rw[h]at b;exact b
  · have h:jf a=true:=by simpa using h
    rw[aa h]at b;have c:0≤a:=by unfold jf at h;simp only[Wn,dh]at h;exact h.1
    refine r6 aw W _ _ _ ?_;rw[lN _ _ _ _ c];simp only[G];rw[RR];simp only[G];refine r6 aw W _ _ _ ?_;simp only[nH,G];rw[lN _ _ _ _ c];simp only[G,rv];exact b)
theorem RX(op a:Int){b:Int}(c:bx b):bR (aj C) 141 [D op,af a,af b] (af (lb op a b)):=λH Q d=>S.Ps W (RU c d)
variable{B:List aE}{s:RS}{lx px:I}{H:Z}{id:Nat}{Q:ad}
theorem BG(h:T H id (.row (cK B s lx px)))(a:∀H',E id H H'→T H' id (.row (cK B s.bY lx px))→Q (.aM []) H'):aj C 76 [.ptr id 0] H Q:=by
 refine S.OP W ?_;unfold S.f76;unfold RS.bY at a;simp only[aO,M,W7,j2 h,G,ai,BC h,bb,aB];apply aH<;>intro e
 · rw[aa e]at a;exact a H (E.refl id H) h
 rw[ab e]at a;apply aH<;>intro c
 · rw[aa (by simpa using c)]at a;have d:=h.set (.row (cK B {s with stop:=true} lx px));rw[BF h];simp only[G];rw[RQ d];simp only[G];have b:=d.set (.row (cK B {s with stop:=true,empty:=true} lx px));simp only[S.vr,aO,M,W7,BC b,G,dA,Jk b];exact a _ ((E.set id H _).trans ((E.set id _ _).trans (E.set id _ _))) (b.set _)
 · rw[ab (by simpa using c)]at a;simp only[S.vr,aO,M,W7,BC h,G,dA,Jk h];exact a _ (E.set id H _) (h.set _)
theorem Jm(l:List (Int×Int)):(l.flatMap b5).length=l.length*2:=by
 induction l with
 |nil=>rfl
 | cons x r a=>rw[Zi,ZG,a,Z9];show 2+_=_;omega
theorem r7(h:T H id (.row (cK B s lx px)))(w:bE)(k:∀H',E id H H'→T H' id (.row (cK B (s.ask w).1 lx px))→Q (.agg [af (s.ask w).2.1,af (s.ask w).2.2]) H'):aj C 106 [.ptr id 0,.agg w.cells] H Q:=by
 refine S.O8 W ?_;unfold S.f106;have F:bg H false 13 (.agg w.cells)=some (.ak w.cells,H):=by unfold bg;rw[aa ⟨rfl,rfl⟩];rfl
 simp only[F,aV,aR,aY];have g:=h.push (.row [af 0,af 0]);have v:=E.push id H (.row [af 0,af 0]);have r1:=T.new H (.row [af 0,af 0]);have l:H.n≠id:=W_ h.gS;generalize H.push (.row [af 0,af 0])=H1 at *;have z2:ba [af 0,af 0] []=some (.agg [af 0,af 0]):=rfl;have ret:∀(j:Z)(a b c d:Int)(A:RS),E id H1 j→T j H.n (.row [af c,af d])→T j id (.row (cK B A lx px))→(∀H',E id H H'→T H' id (.row (cK B A lx px))→Q (.agg [af a,af b]) H') →
   Do (ax j 2 (.ptr H.n 0) (.agg [af a,af b])) λy=>Do (O y 2 true (.ptr H.n 0)) λx=>Q x y:=by
  intro j a b c d A p q f K;rw[q.store,aa ⟨rfl,rfl,rfl,(by decide:0+2≤2)⟩];simp only[G];rw[(q.set _).load,show bW (setCells [af c,af d] 0 (I.agg [af a,af b]).cells) 0 2 true=some (.agg [af a,af b])from rfl];simp only[G];refine K _ ⟨At v.1 p.1,λi o hi z=>((p.2 i o hi (v.2 i o hi z))).br (W5 z.1) _⟩ (f.br l.symm _)
 simp only[aO,M,W7,j2 g,G,ai,Jh g,bH,bc,z2];apply aH<;>intro e
 · have m:s.ask w=(s,0,0):=by unfold RS.ask;rw[aa e]
   rw[m]at k;exact ret H1 0 0 0 0 s (E.refl id H1) r1 g k
 cases t:s.aL with
 | nil=>
  have m:s.ask w=({s with want:={w with V:=s.V},stop:=true},0,0):=by unfold RS.ask;rw[ab e,t]
  rw[m]at k;rw[ki];have L:O H1 13 true (.ak w.cells)=some (.agg w.cells):=eM (n:=13) rfl;rw[L];simp only[G];rw[RO g];simp only[G];have f:=g.set (.row (cK B {s with want:=w} lx px));rw[BF f];simp only[G];have u:=f.set (.row (cK B {s with want:=w,stop:=true} lx px));rw[RL u];simp only[G];rw[RP u];simp only[G];have N:=u.set (.row (cK B {s with want:={w with V:=s.V},stop:=true} lx px));exact ret _ 0 0 0 0 _ ((E.set id _ _).trans ((E.set id _ _).trans (E.set id _ _))) (((r1.br l _).br l _).br l _) N k
 | cons x r=>
  have m:s.ask w=({s with aL:=r},x.1,x.2):=by unfold RS.ask;rw[ab e,t]
  rw[m]at k;rw[jo];have P:aU none 2 (aD b5 (x::r)) (J)=some (.ak ((x::r).flatMap b5)):=by show(if 0≤(0:Int)∧(0:Int)<((x::r).length:Nat)then some (I.ak (((x::r).flatMap b5).drop ((0:Int).toNat*2)))else none)=_;rw[aa ⟨aac _,by simp⟩];rfl
  have R:∀H,O H 2 true (.ak ((x::r).flatMap b5))=some (.agg (b5 x)):=λH=>by show bW (b5 x++r.flatMap b5) 0 2 true=_;exact k2 rfl
  have U:c6 2 (aD b5 (x::r)) (some (D 1)) none none=some (aD b5 r):=by show c6 2 (.av .dead (x::r).length ((x::r).flatMap b5)) (some (D 1)) none none=some (.av .dead r.length (r.flatMap b5));simp only[c6,eJ,aas];rw[df];simp only[show(1:Int).toNat=1 from rfl];rw[aa ⟨by simp,hT _,Jm aw W _⟩,iE,iE];have e1:((x::r).flatMap b5).take ((x::r).length*2)=(x::r).flatMap b5:=ZJ (by rw[Jm aw W];exact hT _);rw[e1];rfl
  simp only[P,R,G];rw[bO H1 [af 0,af 0] (b5 x) 2 rfl rfl rfl];simp only[G];have f:=g.push (.row (b5 x));have q:=r1.push (.row (b5 x));have X:=T.new H1 (.row (b5 x));have p:=E.push id H1 (.row (b5 x));have Y:H1.n≠id:=W_ g.gS;have ae:H1.n≠H.n:=W_ r1.gS;generalize H1.push (.row (b5 x))=j at *;have ac:O j 1 false (.ptr id 1)=some (aD b5 (x::r)):=by rw[Jh f,t]
  rw[ac];simp only[G,U];rw[RM f];simp only[G];have ad:=X.br Y (.row (cK B {s with aL:=r} lx px));rw[ad.load,show bW (b5 x) 0 2 true=some (.agg [af x.1,af x.2])from rfl];simp only[G];exact ret _ x.1 x.2 0 0 _ (p.trans (E.set id _ _)) (q.br l _) (f.set _) k
end
end Rb

namespace Rb
open Go
theorem BH{m:Nat}:∀{l:List aT}{f:aT},f∈l→ea m f.type≤e2 m l
 | g::r,f,h=>by
  rw[e2];rcases YI.1 h with rfl|h
  ·rw[rD];omega
  ·have:=BH (m:=m) h;omega
theorem BI{m:Nat}:∀{l:List aC}{f:aC},f∈l→ea m f≤eB m l
 | g::r,f,h=>by
  rw[eB];rcases YI.1 h with rfl|h
  ·omega
  ·have:=BI (m:=m) h;omega
theorem Jn{m k:Nat}:∀{l:List aT},(∀f∈l,ea m f.type=ea k f.type)→e2 m l=e2 k l
 |[],_=>by rw[e2,e2]
 |g::r,h=>by rw[e2,e2,rD,rD,h g (YK ..),Jn λf hf=>h f (YJ _ hf)]
theorem Jo{m k:Nat}:∀{l:List aC},(∀f∈l,ea m f=ea k f)→eB m l=eB k l
 |[],_=>by rw[eB,eB]
 |g::r,h=>by rw[eB,eB,h g (YK ..),Jo λf hf=>h f (YJ _ hf)]
theorem RY:∀(t:aC)(m:Nat),ea m t<m→ea (m+1) t=ea m t:=by
 refine aC.ind λt b c m h=>?_;rw[nJ]at h;by_cases a:1<m
 · rw [aa a]at h;rw[nJ,nJ,df,aa a,Nat.add_sub_cancel];have e1:e2 m t.aI=e2 (m-1) t.aI:=Jn λf hf=>by
    have:=BH (m:=m-1) hf;have:=b f hf (m-1) (by omega);rw[show m-1+1=m by omega]at this;exact this
   have d:eB m t.bf=eB (m-1) t.bf:=Jo λf hf=>by have:=BI (m:=m-1) hf;have:=c f hf (m-1) (by omega);rw[show m-1+1=m by omega]at this;exact this
   rw[e1,d]
 ·rw[ab a]at h;omega
theorem Jp{t u:aC}(h:dP t=0)(a:(∃f∈t.aI,f.type=u)∨u∈t.bf)(hs:cO u=0):dP u=0:=by
 have b:¬64<ea 65 t:=by intro e;unfold dP at h;rw[aa e]at h;cases h
 rw[nJ,dW]at b;have:ea 64 u≤63:=by
  rcases a with⟨f,hf,rfl⟩|a
  · have:=BH (m:=64) hf;simp only[show 65-1=64 from rfl]at b;omega
  · have:=BI (m:=64) a;simp only[show 65-1=64 from rfl]at b;omega
 have e:=RY u 64 (by omega);unfold dP;rw[ab (by rw[show(65:Nat)=64+1 from rfl,e];omega),hs]
theorem BJ{packed:Bool}{kind:Int}:∀{l:List aT}{p q:PL},dQ packed kind p l=some q→(∀f∈l,(bp f.type).2=true)∧q.dM.length=p.dM.length+l.length
 | [],p,q,h=>by simp only[dQ,Wy.injEq]at h;subst h;exact⟨λf hf=>(by cases hf),rfl⟩
 | f :: r, p,q,h=>by
  simp only[dQ,pq]at h;by_cases a:(bp f.type).2=true
  · rw [aa a]at h;obtain⟨c,d⟩:=BJ h;refine⟨λg b=>?_,?_⟩
    · rcases YI.1 b with rfl|b
      ·exact a
      ·exact c g b
    · have hl:(hM packed kind p f (bp f.type).1).dM.length=p.dM.length+1:=by
        unfold hM;dsimp only;split
        · unfold k6;split<;>simp[k7]
        ·simp[k7,xq]
      rw[d,hl,Z9];omega
  ·rw[ab a]at h;cases h
structure aC.lay(t:aC):Prop where
 ok:t.ok
 snd:dP t=0
 BK:eO t=false
 of:(bp t).2=true
theorem r8{t:aC}(d:t.ok)(h:(bT t).2=0):t.lay:=by
 unfold bT at h;by_cases a:dP t≠0
 ·rw[aa a]at h;exact absurd h a
 · rw [ab a]at h;by_cases b:eO t=true
   · rw[aa b]at h;have:(10:Int)=0:=h;omega
   · rw [ab b]at h;by_cases c:(bp t).2=false
     · rw[aa c]at h;have:(9:Int)=0:=h;omega
     ·exact⟨d,by omega,by simpa using b,by simpa using c⟩
theorem aC.lay.zero{t:aC}(h:t.lay):bT t=((bp t).1,0):=by unfold bT;rw[ab (by rw[h.snd];decide),ab (by rw[h.BK];decide),ab (by rw[h.of];decide)]
theorem aC.xR{t:aC}(h:t.ok):(∀f∈t.aI,f.type.ok)∧(∀e∈t.bf,e.ok)∧t.aI.length≤9223372036854775807:=by
 cases t with
 | mk kind size packed aI bZ bf=>obtain⟨_,_,a,b,_,d,c⟩:=h;refine⟨λf hf=>?_,aC.ek.1 c,by rw[←jc];exact a⟩;have:=aT.ek.1 b f hf;cases f;exact this.2.1
theorem RZ{t e:aC}(h:t.lay)(hk:t.kind=5)(a:e∈t.bf):e.lay:=by
 have hs:=ja h.snd;obtain⟨d,c,f⟩:=k5 hs hk;have g:e=d:=by rw[c]at a;simpa using a
 subst g;refine⟨(aC.xR h.ok).2.1 e a,Jp h.snd (.inr a) f,?_,?_⟩
 · have ht:=h.BK;cases t with
   | mk kind size packed aI bZ bf=>rw[eO]at ht;simp only[YL]at ht;have:=ht.1.2;rw[A4,aaA]at this;simpa using this e a
 · have b:=h.of;rw[kz,bF,aa hk,c]at b;simp only[jx,Wn]at b;exact b.1
theorem xS{t:aC}(h:t.lay)(hk:t.kind=3∨t.kind=4):∃p,dQ t.packed t.kind ⟨0,1,[],0⟩ t.aI=some p∧cJ p.size p.bB≤65536∧p.dM.length=t.aI.length:=by
 have a:=h.of;rw[kz,bF,bF]at a;cases b:dQ t.packed t.kind ⟨0,1,[],0⟩ t.aI with
 |none=>rw[b]at a;cases a
 | some p=>rw[b]at a;refine⟨p,rfl,by simpa using a,?_⟩;have:=(BJ b).2;simpa using this
theorem BL{t:aC}{f:aT}(h:t.lay)(hk:t.kind=3∨t.kind=4)(hf:f∈t.aI):f.type.lay:=by
 have hs:=ja h.snd;obtain⟨p,a,_⟩:=xS h hk;refine⟨(aC.xR h.ok).1 f hf,Jp h.snd (.inl ⟨f,hf,rfl⟩) ((mF hs hk).1 f hf),?_,(BJ a).1 f hf⟩;have ht:=h.BK;cases t with
 | mk kind size packed aI bZ bf=>rw[eO]at ht;simp only[YL]at ht;have:=ht.2;rw[A5,aaA]at this;simpa using this f hf
theorem R0{t:aC}(h:t.lay)(hk:t.kind=3∨t.kind=4):(gr t).length=t.aI.length:=by obtain⟨p,a,_,hl⟩:=xS h hk;unfold gr;rw[a];exact hl
theorem BM{t:aC}{p:aX}(h:t.lay)(a:(de t p).1=0) :
  (p.aZ.length=1∧t.kind=5∧∃e r,t.bf=e::r∧de t p=(0,e)∧e.lay) ∨
  (p.aZ=[]∧(t.kind=3∨t.kind=4)∧∃n f s,t.aI.findIdx? (λf=>f.name==p.field)=some n∧t.aI[n]?=some f∧(gr t)[n]?=some s∧de t p=(0,f.type)∧f.type.lay):=by
 unfold de at a ⊢;by_cases c1:1<p.aZ.length∨(p.aZ.length=1↔p.field≠[])
 · rw[aa c1]at a;have:(8:Int)=0:=a;omega
 rw[ab c1]at a;by_cases b:p.aZ.length=1∧t.kind=5
 · rw [aa b]at a;left;cases he:t.bf with
   | nil=>rw[he]at a;have:(8:Int)=0:=a;omega
   |cons e r=>exact⟨b.1,b.2,e,r,rfl,by rw[ab c1,aa b],RZ h b.2 (by rw[he];exact YK ..)⟩
 rw[ab b]at a;by_cases c3:p.aZ.length=1∨¬(t.kind=3∨t.kind=4)
 · rw[aa c3]at a;have:(8:Int)=0:=a;omega
 rw[ab c3]at a;have hk:t.kind=3∨t.kind=4:=by omega
 right;rcases lP (λf:aT=>f.name==p.field) t.aI with⟨i,f,g,c,d⟩|⟨g,c⟩
 · have j:=(Wh.1 d).1;have hl:i<(gr t).length:=by rw[R0 h hk];exact j
   refine⟨XJ.1 (by omega),hk,i,f,(gr t)[i],g,d,Xc hl,?_,BL h hk (Y7 d)⟩;rw[ab c1,ab b,ab c3,c]
 · rw[c]at a;have:(6:Int)=0:=a;omega
end Rb

namespace Rb
open Go
variable{B:List aE}{v:aE}
def eX:List aE→List bN→List I
 |v::r,s::t=> .str v.name :: D s.at_ :: D s.len::eX r t
 |_,_=>[]
theorem Jq:∀(a:List aE)(s:List bN)(v:aE)(g:bN),a.length=s.length→eX (a++[v]) (s++[g])=eX a s++[.str v.name,D g.at_,D g.len]
 |[],[],v,g,_=>rfl
 | x::a,y::s,v,g,h=>by rw[Yi,Yi,eX,eX,Jq a s v g (by simpa using h)];rfl
theorem Jr:∀(a:List aE)(s:List bN),I.fS (eX a s)=eX a s
 |v::r,s::t=>by rw[eX,I.fS,I.fS,I.fS,Jr r t];rfl
 |[],[]=>rfl
 |[],_::_=>rfl
 |_::_,[]=>rfl
theorem Js:∀(a:List aE)(s:List bN),I.cv (eX a s)=true
 |v::r,s::t=>by rw[eX];simp only[I.cv,I.b6,Js r t];rfl
 |[],[]=>rfl
 |[],_::_=>rfl
 |_::_,[]=>rfl
def l3(B:List aE):I:=if(mapM B).1≠0 then .aM [.av .dead 0 [],J,D (mapM B).1]else .aM [.av .dead B.length (eX B (mapM B).2.2),D (mapM B).2.1,J]
def nT(a:Int)(v:aE):Int:=if X (X (aax (X (X (a+(bT v.type).1.2)-1)) (bT v.type).1.2)*(bT v.type).1.2)>65536 then 65537 else X (X (aax (X (X (a+(bT v.type).1.2)-1)) (bT v.type).1.2)*(bT v.type).1.2)
theorem BN(v:aE)(r:List aE)(a:Int)(b:List bN):eH (v::r) a b=if(bT v.type).2≠0 then((bT v.type).2,0,[])else eH r (X (nT a v+(bT v.type).1.1)) (b++[⟨X (65536+nT a v),(bT v.type).1.1,0,false,0,0⟩]):=rfl
theorem R1(h:(eH B 0 []).1≠0):l3 B = .aM [.av .dead 0 [],J,D (eH B 0 []).1]:=by
 have e:mapM B=((eH B 0 []).1,0,[]):=by unfold mapM;rw[aa h]
 unfold l3;rw[e];exact aa h
theorem R2(h:(eH B 0 []).1=0)(a:(eH B 0 []).2.1>65536):l3 B = .aM [.av .dead 0 [],J,D 9]:=by
 have e:mapM B=(9,0,[]):=by unfold mapM;rw[bF,aa a]
 unfold l3;rw[e];exact aa (show(9:Int)≠0 by decide)
theorem R3(h:(eH B 0 []).1=0)(a:¬(eH B 0 []).2.1>65536):l3 B = .aM [.av .dead B.length (eX B (eH B 0 []).2.2),D (eH B 0 []).2.1,J]:=by
 have e:mapM B=eH B 0 []:=by unfold mapM;rw[bF,ab a]
 unfold l3;rw[e];exact bF
theorem Jt:∀(l:List aE)(at':Int)(acc:List bN),(eH l at' acc).1=0→(eH l at' acc).2.2.length=acc.length+l.length∧∀v∈l,(bT v.type).2=0
 |[],at',acc,_=>⟨rfl,λv hv=>(by cases hv)⟩
 | v :: r,at',acc,h=>by
  unfold eH at h ⊢;by_cases a:(bT v.type).2≠0
  ·rw[aa a]at h;exact absurd h a
  · rw[ab a]at h ⊢;obtain⟨b,c⟩:=Jt r _ _ h;refine⟨by rw[b];simp;omega,λu hu=>?_⟩;rcases YI.1 hu with rfl|hu
    ·omega
    ·exact c u hu
theorem Ju(h:(mapM B).1=0):(mapM B).2.2.length=B.length∧∀v∈B,(bT v.type).2=0:=by
 unfold mapM at h ⊢;by_cases a:(eH B 0 []).1≠0
 ·rw[aa a]at h;exact absurd h a
 · rw [ab a]at h ⊢;by_cases b:(eH B 0 []).2.1>65536
   · rw[aa b]at h;have:(9:Int)=0:=h;omega
   · rw[ab b]at h ⊢;obtain⟨c,d⟩:=Jt B 0 [] h;exact⟨by simpa using c,d⟩
section
variable{H:Z}{id:Nat}
theorem R4(h:T H id (.row v.cells)):O H 1 false (.ptr id 0)=some (.str v.name):=by rw[h.load];cases v;rfl
theorem R5(h:T H id (.row v.cells)):O H 6 true (.ptr id 1)=some (.agg v.type.cells):=by
 rw[h.load];cases v with
 | mk name type=>show bW (.str name::type.cells) 1 6 true=_;unfold bW;rw[aa (by rw[Z9,type.len];omega),aa rfl];show some (I.agg (type.cells.take 6))=_;rw[ZJ (by rw[type.len];omega)]
end
section
variable{C:Ctx}(aw:cY C)(W:Cl (aj C) S.cr)
include aw W
theorem R6(hl:B.length≤1000000)(hv:∀v∈B,v.ok):bR (aj C) 32 [aD aE.cells B] (l3 B):=by
 refine bR.of aw (by simp[I.cv,k1 aE.b6]) (by
   unfold l3;split
   ·rfl
   ·simp[I.b6,I.cv,Js,Tok.free]) λQ c=>?_
 refine aj.fQ ?_;refine S.Ok W ?_;unfold S.f32;simp only[bH,G];have main:∀(r:List aE)(k:Nat)(at':Int)(acc:List bN)(x:I)(H:Z),B.drop k=r→k≤B.length→acc.length=k→cD 0 H 3 x k (eX (B.take k) acc)→eH r at' acc=eH B 0 [] →
   au (S.qN (aj C) (aD aE.cells B) (D B.length) λv H'=>Q v.fQ H') ([x,D at',D k],H):=by
  intro r;induction r with
  | nil=>
   intro k at' acc x H g hk i d he;have hle:=db g;have u:k=B.length:=by omega
   subst u;rw[Zw]at d;refine au.step ?_;simp only[S.qN,aq,bh,bb,G,ai,aB,S.Fc,dv];rw[iE];have e1:(eH B 0 []).1=0:=by rw[←he];rfl
   have j:(eH B 0 []).2.1=at':=by rw[←he];rfl
   have w:(eH B 0 []).2.2=acc:=by rw[←he];rfl
   obtain⟨tk,rfl,_,_⟩:=d;apply aH<;>intro h
   · rw[R2 e1 (by rw[j];simpa using h)]at c;exact c _
   · rw[R3 e1 (by rw[j];simpa using h),j,w]at c;have:=c H;simp only[I.fQ,I.fS,Jr];exact this
  | cons v r z=>
   intro k at' acc x H g hk i d he;obtain⟨p,l,A⟩:=c8 g;have E:=hv v (Y7 l);have s:v.type.ok:=by cases v;exact E.2
   refine au.step ?_;simp only[S.qN,aq,bh,bb,G,ai];rw[ch,cp p];simp only[G];rw[dd aE.len (by decide) _ l];simp only[G,aV,aR,aY];rw[bO _ _ _ 7 v.len v.scalar rfl];have a2:=T.new H (.row v.cells);have F:cD 0 (H.push (.row v.cells)) 3 x k (eX (B.take k) acc):=d.frame λ_ _ _ q=>q.push _;simp only[G,M,W7];rw[R5 a2];simp only[G];generalize H.push (.row v.cells)=e at *;refine Ba aw W v.type s _ _ ?_;simp only[bI,Zn,Zo,G,cU,ai];rw[BN]at he;apply aH<;>intro h
   · have f:(bT v.type).2≠0:=by simpa using h
     rw[aa f]at he;rw[R1 (by rw[←he];exact f),←he]at c;exact c e
   · have f:¬(bT v.type).2≠0:=by simpa using h
     rw[ab f]at he;have P:1≤(bT v.type).1.2:=by have o:=r8 s (by omega);rw[o.zero];exact A_ _ (ja o.snd) o.of
     simp only[bu,dA,G,jw _ _ _ (show(bT v.type).1.2≠0 by omega),fD,dv,ai,aB];have t:∀y:Int,y=nT at' v →
       S.uC (aj C) (.ptr H.n 0) (D (bT v.type).1.1) ([x,D at',D k],H) (au (S.qN (aj C) (aD aE.cells B) (D B.length) λv H'=>Q v.fQ H')) (λv H'=>Q v.fQ H') [D y] e:=by
      intro y K;simp only[S.uC,aq,bh,M,W7,G,R4 a2,bu];rw[show ∀a b:Int,ba [J,J] [(0,1,D a),(1,1,D b)]=some (.agg [D a,D b])from λ_ _=>rfl];simp only[G];refine⟨.agg [.str v.name,D (X (65536+y)),D (bT v.type).1.1],rfl,?_⟩;dsimp only;rw[show c9 e false 3 1 [.str [],J,J] [(0,3,I.agg [.str v.name,D (X (65536+y)),D (bT v.type).1.1])]=some (.av .full 1 [.str v.name,D (X (65536+y)),D (bT v.type).1.1],e)from rfl];simp only[aV];refine F.app (WS _) (m:=1) (news:=[.str v.name,D (X (65536+y)),D (bT v.type).1.1]) rfl rfl rfl (by decide) (by omega) (by omega) λL N O _=>?_;simp only[aB,S.Fb,aq,bh,bu,G];rw[wrap_i64 (n:=(k:Int)+1) (by omega) (by omega),show(k:Int)+1=((k+1:Nat):Int) by simp];have ht:B.take (k+1)=B.take k++[v]:=by rw[ZP,l];rfl
      refine z (k+1) _ (acc++[⟨X (65536+y),(bT v.type).1.1,0,false,0,0⟩]) L N A p (by simp[i]) ?_ ?_
      · rw[ht,Jq _ _ _ _ (by rw[Z1,i];omega)];exact O
      ·rw[K];exact he
     apply aH<;>intro h
     ·exact t _ (by unfold nT;rw[aa (by simpa using h)])
     ·exact t _ (by unfold nT;rw[ab (by simpa using h)])
 exact main B 0 0 [] _ _ rfl (WS _) rfl (cD.nil _ _ _) rfl
theorem R7{x:aW}(a:x.ok):bR (aj C) 163 [.agg x.cells] (D (eP x.aK 0)):=by
 obtain⟨hl,g⟩:=aW.dc a;refine bR.of aw (by simp[I.cv,I.b6,aW.b6]) rfl λQ c=>S.PE W ?_;unfold S.f163;simp only[lY,aV,hR,ih,bH,G];have main:∀(r:List aX)(i:Nat)(m:Int)(H1:Z),x.aK.drop i=r→eP r m=eP x.aK 0→au (S.wU (aj C) (aD aX.cells x.aK) (D x.aK.length) Q) ([D m,D i],H1):=by
  intro r;induction r with
  | nil=>intro i m H1 b he;have hle:=db b;refine au.step ?_;simp only[S.wU,aq,bh,bb,G,ai];rw[cZ];rw[eP]at he;rw[he];exact c _
  | cons p r d=>
   intro i m H1 b he;obtain⟨e,a,f⟩:=c8 b;refine au.step ?_;simp only[S.wU,aq,bh,bb,G,ai];rw[ch,cp e];simp only[G];rw[dd aX.len (by decide) _ a];simp only[G,aV,aR,aY];rw[bO _ _ _ 2 p.len p.scalar rfl];have a2:=T.new H1 (.row p.cells);simp only[G,M,W7];rw[xJ a2];simp only[G,bH,bu];rw[eP]at he;have hw:Xv .i64 ((i:Int)+1)=((i+1:Nat):Int):=by rw[bM];simp
   rw[hw];exact d (i+1) _ _ f he
 exact main x.aK 0 0 _ rfl rfl
end
end Rb

namespace Rb
open Go
theorem Jv:∀l:List bN,I.fS (l.flatMap bN.cells)=l.flatMap bN.cells
 |[]=>rfl
 |s::r=>by rw[Zi,Ru,Jv r];rfl
theorem Jw:∀l:List bN,I.cv (l.flatMap bN.cells)=true
 |[]=>rfl
 | s::r=>by rw[Zi];show I.cv ([D s.at_,D s.len,D s.kind,.bool s.bits,D s.bit,D s.bn]++r.flatMap bN.cells)=true;simp only[Yi,List.nil_append,I.cv,I.b6,Jw r];rfl
def fh(t:aC)(sp:bN)(ix:I):List I:=t.cells++(sp.cells++[ix])
theorem gv(t:aC)(sp:bN)(ix:I):fh t sp ix=[D t.kind,D t.size,.bool t.packed,aD aT.cells t.aI,D t.bZ,aD aC.cells t.bf,D sp.at_,D sp.len,D sp.kind,.bool sp.bits,D sp.bit,D sp.bn,ix]:=by unfold fh;rw[aC.be];rfl
section
variable{H:Z}{id:Nat}{t:aC}{sp:bN}{ix:I}(h:T H id (.row (fh t sp ix)))
include h
theorem R8:O H 1 false (.ptr id 12)=some ix:=by rw[h.load,gv];rfl
theorem R9:O H 1 false (.ptr id 4)=some (D t.bZ):=by rw[h.load,gv];rfl
theorem R_:O H 1 false (.ptr id 5)=some (aD aC.cells t.bf):=by rw[h.load,gv];rfl
theorem Jx:O H 1 false (.ptr id 3)=some (aD aT.cells t.aI):=by rw[h.load,gv];rfl
theorem Jy:O H 6 true (.ptr id 0)=some (.agg t.cells):=by rw[h.load,gv,aC.be];rfl
theorem Jz:O H 1 false (.ptr id 6)=some (D sp.at_):=by rw[h.load,gv];rfl
theorem Sa:O H 6 true (.ptr id 6)=some (.agg sp.cells):=by rw[h.load,gv];rfl
theorem Sb{v:I}(b:v.known=true)(a:v.cells=[v])(c:v.scalar=true):ax H 1 (.ptr id 12) v=some (H.set id (.row (fh t sp v))):=by rw[h.store,gv,gv,aa ⟨b,by rw[a];rfl,by rw[a];simpa using c,(by show 12+1≤13;decide)⟩,a];rfl
theorem JA(u:aC):ax H 6 (.ptr id 0) (.agg u.cells)=some (H.set id (.row (fh u sp ix))):=by rw[h.store,gv,gv,aa ⟨rfl,u.len,u.scalar,(by show 0+6≤13;decide)⟩,aC.be];rfl
theorem Sc(s:bN):ax H 6 (.ptr id 6) (.agg s.cells)=some (H.set id (.row (fh t s ix))):=by rw[h.store,gv,gv,aa ⟨rfl,rfl,rfl,(by show 6+6≤13;decide)⟩];rfl
theorem Sd(v:Int):ax H 1 (.ptr id 6) (D v)=some (H.set id (.row (fh t {sp with at_:=v} ix))):=by rw[h.store,gv,gv,aa ⟨rfl,rfl,rfl,(by show 6+1≤13;decide)⟩];rfl
theorem Se(v:Int):ax H 1 (.ptr id 7) (D v)=some (H.set id (.row (fh t {sp with len:=v} ix))):=by rw[h.store,gv,gv,aa ⟨rfl,rfl,rfl,(by show 7+1≤13;decide)⟩];rfl
theorem Sf(v:Int):ax H 1 (.ptr id 8) (D v)=some (H.set id (.row (fh t {sp with kind:=v} ix))):=by rw[h.store,gv,gv,aa ⟨rfl,rfl,rfl,(by show 8+1≤13;decide)⟩];rfl
end
def j3(ix:I)(l:List Int):Prop:=∃tk,ix = .av tk l.length (l.map (af))
theorem BO{fs:List aT}{i:Nat}{f:aT}(H:Z)(h:fs[i]?=some f):O H 6 true (.ak (((fs.flatMap aT.cells).drop (i*9)).drop 1))=some (.agg f.type.cells):=by
 have e:=dd aT.len (by decide) H h;have a:(fs.flatMap aT.cells).drop (i*9)=f.cells++(fs.drop (i+1)).flatMap aT.cells:=by
  have key:∀(xs:List aT)(i:Nat)(f:aT),xs[i]?=some f→(xs.flatMap aT.cells).drop (i*9)=f.cells++(xs.drop (i+1)).flatMap aT.cells:=by
   intro xs;induction xs with
   |nil=>intro i f h;simp at h
   | cons x r c=>
    intro i f h;cases i with
    |zero=>simp at h;subst h;simp
    | succ i=>rw[Zi,show(i+1)*9=x.cells.length+i*9 by rw[x.len];omega,List.drop_length_add_append];exact c i f (by simpa using h)
  exact key fs i f h
 rw[a];show bW (aaB 1 (f.cells++_)) 0 6 true=_;cases f with
 |mk n t b w=>cases t;rfl
section
variable{C:Ctx}(aw:cY C)(W:Cl (aj C) S.cr)
include aw W
theorem Sg{t:aC}(h:t.lay)(hk:t.kind=3∨t.kind=4):bR (aj C) 190 [.agg t.cells] (.aM [aD bN.cells (gr t),J]):=by
 refine bR.of aw (by simp[I.cv,I.b6,aC.b6]) (by show I.b6 (.aM [.av .dead (gr t).length ((gr t).flatMap bN.cells),J])=true;simp[I.b6,I.cv,Jw,Tok.free]) λQ b=>?_
 refine aj.fQ ?_;refine S.PT W ?_;unfold S.f190;simp only[fH,aV,iO,G];refine S.HL W (Iv aw W t h.ok λH1=>?_);rw[h.zero];simp only[bI,Zn,Zo,G,aV,aR,aY];rw[bO _ _ _ 2 rfl rfl rfl];simp only[G,cU,ai];rw[aN];simp only[cw,ia,G,cU,bG,aB];have hs:=ja h.snd;obtain⟨p,a,hle,hlen⟩:=xS h hk;have c:S.w7 (aj C) (.ak t.cells) (λv H'=>Q v.fQ H') [P] (H1.push (.row [D (bp t).1.1,D (bp t).1.2])):=by
  simp only[S.w7,aq,ai,Yf,cu,aB,S.HD,iO,G];refine S.HP W (Is W hs hk (λf hf=>Iu aw W f.type (ja (BL h hk hf).snd)) (λf hf=>A_ f.type (ja (BL h hk hf).snd)) (λe=>by rw[a]at e;cases e) λq d x j g=>?_);rw[a]at d;cases d;obtain⟨_,tk,rfl,_⟩:=g;simp only[bI,Zn,Zo,G,aV,aR,aY];rw[bO _ _ _ 4 rfl rfl rfl];simp only[G,M,W7,e9];rw[show bW [D (cJ p.size p.bB),D p.bB,.av tk p.dM.length (p.dM.flatMap bN.cells),D p.bit] 2 1 false=some (.av tk p.dM.length (p.dM.flatMap bN.cells))from rfl];simp only[G,I.fQ,I.fS,Jv];have i:gr t=p.dM:=by unfold gr;rw[a]
  rw[i]at b;exact b _
 rcases hk with hk|hk
 · rw[ab (by rw[hk];decide)];exact c
 · rw[aa (by rw[hk];decide),show((t.kind != 4):Bool)=false by rw[hk];decide];exact c
theorem Sh{t:aC}{sp:bN}{ix:I}{b:List Int}{p:aX}{H:Z}{id:Nat}(h:T H id (.row (fh t sp ix)))(ht:t.lay)(F:j3 ix b)(K:(de t p).1=0)(x:p.aZ.length≤b.length){Q:ad}
  (L:∀i q e r H',p.aZ.length=1→b=i::q→t.bf=e::r→i≥iR t.bZ→E id H H'→Q P H')
  (N:∀i q e r a H',p.aZ.length=1→b=i::q→t.bf=e::r→¬i≥iR t.bZ→de t p=(0,e)→j3 a q→e.lay→E id H H'→T H' id (.row (fh e {sp with at_:=X (sp.at_+X (Xv .i64 i*(bT e).1.1)),len:=(bT e).1.1} a))→Q bd H')
  (U:∀n f s H',p.aZ.length≠1→p.aZ=[]→t.aI.findIdx? (λf=>f.name==p.field)=some n→t.aI[n]?=some f→(gr t)[n]?=some s→de t p=(0,f.type)→f.type.lay→E id H H'→T H' id (.row (fh f.type {s with at_:=X (s.at_+sp.at_)} ix))→Q bd H') :
  aj C 165 [.ptr id 0,.agg p.cells] H Q:=by
 refine S.PG W ?_;unfold S.f165;simp only[Ic,aV,xg,xh,bH,G,bc,ai];rcases BM ht K with⟨d,hk,e,r,he,k,y⟩|⟨l,hk,n,f,s,z,m,u,k,V⟩
 · rw [aa (by rw[d];decide)];obtain ⟨i,q,ac⟩:∃i q,b=i::q:=by
    cases b with
    |nil=>rw[d]at x;simp at x
    |cons i q=>exact⟨i,q,rfl⟩
   subst ac;obtain⟨tk,rfl⟩:=F;have ae:aU none 1 (.av tk (i::q).length ((i::q).map (af))) (J)=some (.ak ((i::q).map (af))):=by show(if 0≤(0:Int)∧(0:Int)<((i::q).length:Nat)then some (I.ak (((i::q).map (af)).drop ((0:Int).toNat*1)))else none)=_;rw[aa ⟨aac _,by simp⟩];rfl
   have ag:∀H,O H 1 false (.ak ((i::q).map (af)))=some (af i):=λH=>by show bW ((i::q).map (af)) 0 1 false=_;unfold bW;rw[ki,aN];rfl
   obtain ⟨a,ah,w⟩:∃a,c6 1 (.av tk (i::q).length ((i::q).map (af))) (some (D 1)) none none=some a∧j3 a q∧a.known=true∧a.cells=[a]∧a.scalar=true:=by refine⟨.av .dead q.length (q.map (af)),?_,⟨_,rfl⟩,rfl,rfl,rfl⟩;simp only[c6,eJ,aas];rw[df];simp only[show(1:Int).toNat=1 from rfl];rw[aa ⟨by simp,hT _,by simp⟩,iE,iE];have e1:((i::q).map (af)).take ((i::q).length*1)=(i::q).map (af):=ZJ (by simp);rw[e1];rfl
   obtain⟨w,g1,g2,g3⟩:=w;simp only[aO,M,W7,R8 h,G,ae,ag,ah];rw[Sb h g1 g2 g3];simp only[G];have Y:=h.set (.row (fh t sp a));have c:=E.set id H (.row (fh t sp a));rw[R9 Y];simp only[G,j0,eu,ai];apply aH<;>intro j
   ·exact L i q e r _ d rfl he (by simpa using j) c
   · rw[R_ Y,he];have al:aU none 6 (aD aC.cells (e::r)) (J)=some (d_ aC.cells 6 (e::r) 0):=cp (by simp);simp only[G,al,dd aC.len (by decide) _ (show(e::r)[0]?=some e from rfl)];rw[JA Y e];simp only[G];have a2:=Y.set (.row (fh e sp a));rw[Jy a2];simp only[G];refine Ba aw W e y.ok _ _ ?_;simp only[bI,Zn,Zo,G,Jz a2,fD,bu];rw[Sd a2];simp only[G];have a3:=a2.set (.row (fh e {sp with at_:=X (sp.at_+X (Xv .i64 i*(bT e).1.1))} a));rw[Se a3];simp only[G];exact N i q e r a _ d rfl he (by simpa using j) k w y (c.trans ((E.set id _ _).trans ((E.set id _ _).trans (E.set id _ _)))) (a3.set _)
 · rw [ab (by rw[l];decide)];have am:=(Wh.1 m).1;have an:=(Wh.1 u).1;simp only[aO,M,W7,Jx h,G];refine S.AK W ?_;refine fieldIndex (p:=λf=>f.name==p.field) (λg _ R ao=>S.PS W (by
     unfold S.f189;have j:bg H false 9 (.agg g.cells)=some (.ak g.cells,H):=by unfold bg;rw[aa ⟨rfl,g.len⟩];rfl
     have ap:O H 1 false (.ak (g.cells.drop 0))=some (.str g.name):=pk g;have l1:O H 1 false (.ak (p.cells.drop 0))=some (.str p.field):=AZ p H;rw[j];simp only[aV,M,G,ap,l1,fc];exact ao)) (aC.xR ht.ok).2.2 ?_
   rw[z];simp only[e8,Jy h,G];refine Sg aw W ht hk _ _ ?_;simp only[bI,Zn,Zo,G];rw[cp an];simp only[G];rw[dd (cells:=bN.cells) (λ_=>rfl) (by decide) _ u];simp only[G,aV,aR,aY];rw[bO _ _ _ 6 rfl rfl rfl];have b1:=T.new H (.row s.cells);have Y:=h.push (.row s.cells);have c:=E.push id H (.row s.cells);have aq:H.n≠id:=W_ h.gS;generalize H.push (.row s.cells)=H1 at *;have ar:O H1 1 false (.ptr H.n 0)=some (D s.at_):=by rw[b1.load];rfl
   simp only[G,M,W7,ar,Jz Y,bu];have au:∀v:Int,ax H1 1 (.ptr H.n 0) (D v)=some (H1.set H.n (.row ({s with at_:=v}:bN).cells)):=λv=>by rw[b1.store,aa ⟨rfl,rfl,rfl,(by show 0+1≤6;decide)⟩];rfl
   rw[au];simp only[G];have b2:=b1.set (.row ({s with at_:=X (s.at_+sp.at_)}:bN).cells);have a2:=Y.br aq.symm (.row ({s with at_:=X (s.at_+sp.at_)}:bN).cells);have ay:E id H (H1.set H.n (.row ({s with at_:=X (s.at_+sp.at_)}:bN).cells)):=⟨c.1,λi o hi A=>(c.2 i o hi A).br (W5 A.1) _⟩
   generalize H1.set H.n (.row ({s with at_:=X (s.at_+sp.at_)}:bN).cells)=B at *;have az:O B 6 true (.ptr H.n 0)=some (.agg ({s with at_:=X (s.at_+sp.at_)}:bN).cells):=by rw[b2.load];rfl
   simp only[az,G,Jx a2];rw[cp am];simp only[G,d_];rw[show(I.ak (aaB 1 (aaB (n*9) (List.flatMap aT.cells t.aI)))) = .ak (((t.aI.flatMap aT.cells).drop (n*9)).drop 1)from rfl,BO B m];simp only[G];rw[Sc a2];simp only[G];have a3:=a2.set (.row (fh t {s with at_:=X (s.at_+sp.at_)} ix));rw[JA a3 f.type];simp only[G];exact U n f s _ (by rw[l];decide) l z m u k V (ay.trans ((E.set id _ _).trans (E.set id _ _))) (a3.set _)
end
end Rb

namespace Rb
open Go
variable{b s:Int}{H:Z}
theorem JB{b s x:Int}(hs:0<s)(a:x%s=0)(c:b≤x)(d:x≤b+s-1):bC b s=x:=by
 have hu:=fI (n:=b) hs;have hm:=mG (n:=b) hs;rcases Int.le_total x (bC b s)with h|h
 · have e:(bC b s-x)%s=0:=by rw[aaC,a,hm];simp
   rw[aaD (by omega) (by omega)]at e;omega
 · have e:(x-bC b s)%s=0:=by rw[aaC,a,hm];simp
   rw[aaD (by omega) (by omega)]at e;omega
theorem BP(hs:0<s)(h:b%s=0):bC b s=b:=JB hs h (aac _) (by omega)
theorem BQ(hs:0<s)(h:b%s≠0):bC (b+1) s=bC b s:=by have hu:=fI (n:=b) hs;have hm:=mG (n:=b) hs;have a:bC b s≠b:=λe=>h (by rw[←e];exact hm);exact JB hs hm (by omega) (by omega)
theorem cD.BR{n0 sz a len m:Nat}{x y:I}{cells news:List I}{K:ad}(h:cD n0 H sz x len cells)(b:n0≤H.n)(d:hC H sz y=some (m,news))(k:news.length=m*sz)(hs:news.all I.scalar=true)(f:m≠0)
  (g:(len+m)*a≤140737488355328) (hl:len+m≤9223372036854775807) (j:∀H',cD n0 H' sz (.av (.own H.n) (len+m) (cells++news)) (len+m) (cells++news)→H.n<H'.n→(∀i o,T H i o→(∀l c,x ≠ .av (.own i) l c)→T H' i o)→K (.av (.own H.n) (len+m) (cells++news)) H'):aJ (cX H false sz a x y) K:=by
 obtain⟨tk,rfl,hc,p⟩:=h;have hlen:(cells++news).length=(len+m)*sz:=by simp[hc,k,WT]
 have grow:∀tk:Tok,tk = .full∨(tk = .nil∧len=0)→cX H false sz a (.av tk len cells) y=some (.av (.own H.n) (len+m) (cells++news),H.push (.tok ((len+m)*sz) sz)):=by intro tk ht;simp only[cX,d,hs,not_true_eq_false,cu,ab f];rw[ab (by simp only[ZC];exact⟨hc,g,hl⟩)];rcases ht with rfl|⟨rfl,_⟩<;>rfl
 have fresh:K (.av (.own H.n) (len+m) (cells++news)) (H.push (.tok ((len+m)*sz) sz)):=
  j _ ⟨_,rfl,hlen,.inr (.inr ⟨H.n,rfl,b,T.new H _⟩)⟩ (Y9 _) (λi o h _=>h.push _)
 rcases p with ht|ht|⟨t,rfl,s,q⟩
 ·exact⟨_,_,grow tk (.inr ht),fresh⟩
 ·exact⟨_,_,grow tk (.inl ht),fresh⟩
 · refine ⟨.av (.own H.n) (len+m) (cells++news),(H.set t .gone).push (.tok ((len+m)*sz) sz),?_,j _ ⟨_,rfl,hlen,.inr (.inr ⟨H.n,rfl,b,T.new (H.set t .gone) _⟩)⟩ (Y9 _) (λi o hi r=>(hi.br (λe=>?_) _).push _)⟩
   · simp only[cX,d,hs,not_true_eq_false,cu,ab f];rw[ab (by simp only[ZC];exact⟨hc,g,hl⟩)];simp[q.2]
   · subst e;exact r _ _ rfl
def b8(sz al:Int)(o1 o2:I)(lg:Bool):List I:=[D sz,D al,o1,o2,.bool lg]
def lh(ix:I)(l:List Int):Prop:=∃tk,ix = .av tk l.length (l.map (D))
theorem hU{i:Nat}{sz al:Int}{o1 o2:I}{lg:Bool}(h:T H i (.row (b8 sz al o1 o2 lg))) :
  O H 1 false (.ptr i 0)=some (D sz)∧O H 1 false (.ptr i 1)=some (D al)∧O H 1 false (.ptr i 2)=some o1∧O H 1 false (.ptr i 3)=some o2∧O H 1 false (.ptr i 4)=some (.bool lg)∧O H 5 true (.ptr i 0)=some (.agg (b8 sz al o1 o2 lg)):=by
 refine⟨?_,?_,?_,?_,?_,?_⟩<;>(rw[h.load];rfl)
def xT(C:Ctx)(t:aC):Prop:=∀(H:Z)(Q:ad),(∀sz al l1 l2 o1 o2 lg H',Z.Ext H H'→lh o1 l1→lh o2 l2→((bp t).2=true→lg=false∧sz=(bp t).1.1∧al=(bp t).1.2∧(t.kind=3∨t.kind=4→gr t=k8 t.aI l1 l2∧l1.length=t.aI.length∧l2.length=t.aI.length))→((bp t).2=false→lg=true)→Q (.agg (b8 sz al o1 o2 lg)) H')→aj C 52 [.agg t.cells] H Q
end Rb

namespace Rb
open Go
variable{t:aC}{i:Nat}
section
variable{C:Ctx}(aw:cY C)(W:Cl (aj C) S.cr)
include aw W
theorem BS{e:aC}(h:t.bf[i]?=some e):∃p,aU none 6 (aD aC.cells t.bf) (D i)=some p∧∀H,O H 6 true p=some (.agg e.cells):=⟨_,cp (Wh.1 h).1,λH=>dd aC.len (by decide) H h⟩
theorem JC{f:aT}(h:t.aI[i]?=some f):∃p q,aU none 9 (aD aT.cells t.aI) (D i)=some p∧M 1 p=some q∧∀H,O H 6 true q=some (.agg f.type.cells):=⟨_,_,cp (Wh.1 h).1,rfl,λH=>BO H h⟩
theorem Si(u:t.aI.length≤9223372036854775807)(hle:t.bf.length≤9223372036854775807)(hf:∀f∈t.aI,bR (aj C) 81 [.agg f.type.cells] (.bool (ew f.type)))(n:∀e∈t.bf,bR (aj C) 81 [.agg e.cells] (.bool (ew e))):bR (aj C) 81 [.agg t.cells] (.bool (ew t)):=by
 intro H Q l;refine S.OU W ?_;unfold S.f81;rw[Ih]at l;have aI:∀(r:List aT)(k:Nat)(b:Bool),t.aI.drop k=r→(b||r.any λf=>ew f.type)=(((t.kind==2&&decide (t.size>1))||t.bf.any ew)||t.aI.any λf=>ew f.type)→au (S.vU (aj C) (.ak t.cells) Q) ([.bool b,D k],H):=by
  intro r;induction r with
  | nil=>intro k b c a;have hle:=db c;refine au.step ?_;simp only[S.vU,cw,fq,G,bH,aq,bh,bb,ai];rw[cZ];rw[←a]at l;simpa using l
  | cons f r d=>
   intro k b c a;obtain⟨o,g,i⟩:=c8 c;obtain⟨p,q,e1,s,m⟩:=JC aw W g;have hw:Xv .i64 ((k:Int)+1)=((k+1:Nat):Int):=by rw[bM];simp
   rw[Z4]at a;refine au.step ?_;simp only[S.vU,cw,fq,G,bH,aq,bh,bb,ai];rw[ch];cases b with
   | false=>simp only[b7,aY,e1,s,m,G];refine hf f (Y7 g) _ _ ?_;simp only[aB,S.vT,aq,bh,bu,G,hw];exact d (k+1) _ i (by simpa using a)
   | true=>simp only[b7,aB,S.vT,aq,bh,bu,G,hw];rw[aN];exact d (k+1) _ i (by simpa using a)
 have elems:∀(r:List aC)(k:Nat)(b:Bool),t.bf.drop k=r→(b||r.any ew)=((t.kind==2&&decide (t.size>1))||t.bf.any ew)→au (S.vV (aj C) (.ak t.cells) Q) ([.bool b,D k],H):=by
  intro r;induction r with
  | nil=>intro k b c a;have hle:=db c;refine au.step ?_;simp only[S.vV,cw,gL,G,bH,aq,bh,bb,ai];rw[cZ];simp only[aB,S.Gc,aq];exact aI t.aI 0 b rfl (by rw[←a];simp)
  | cons e r d=>
   intro k b c a;obtain⟨o,g,i⟩:=c8 c;obtain⟨p,e1,m⟩:=BS aw W g;have hw:Xv .i64 ((k:Int)+1)=((k+1:Nat):Int):=by rw[bM];simp
   rw[Z4]at a;refine au.step ?_;simp only[S.vV,cw,gL,G,bH,aq,bh,bb,ai];rw[ch];cases b with
   | false=>simp only[b7,aY,e1,m,G];refine n e (Y7 g) _ _ ?_;simp only[aB,S.vQ,aq,bh,bu,G,hw];exact d (k+1) _ i (by simpa using a)
   | true=>simp only[b7,aB,S.vQ,aq,bh,bu,G,hw];rw[aN];exact d (k+1) _ i (by simpa using a)
 have j:S.vW (aj C) (.ak t.cells) Q [.bool (t.kind==2&&decide (t.size>1))] H:=by unfold S.vW;simp only[aq];exact elems t.bf 0 _ rfl rfl
 simp only[fH,aV,cw,ia,G,bc,bG,aB];apply aH<;>intro h
 · simp only[kx,G,dv];rw[h,aaa]at j;exact j
 · have h:(t.kind==2)=false:=by simpa using h
   rw[h,aab]at j;exact j
theorem Sj:∀t:aC,t.ok→bR (aj C) 81 [.agg t.cells] (.bool (ew t)):=by refine aC.ind λt a b ht=>?_;obtain⟨c,d,g,h⟩:=dc ht;exact Si aw W c g (λf hf=>a f hf (d f hf)) (λe he=>b e he (h e he))
theorem Sk(ht:t.ok)(u:t.aI.length≤9223372036854775807)(hle:t.bf.length≤9223372036854775807)(hf:∀f∈t.aI,bR (aj C) 51 [.agg f.type.cells] (.bool (eO f.type)))(n:∀e∈t.bf,bR (aj C) 51 [.agg e.cells] (.bool (eO e))):bR (aj C) 51 [.agg t.cells] (.bool (eO t)):=by
 intro H Q l;refine S.Oq W ?_;unfold S.f51;rw[Ii]at l;have aI:∀(r:List aT)(k:Nat)(b:Bool),t.aI.drop k=r→(b||r.any λf=>eO f.type)=(((t.packed&&ew t)||t.bf.any eO)||t.aI.any λf=>eO f.type)→au (S.uI (aj C) (.ak t.cells) Q) ([.bool b,D k],H):=by
  intro r;induction r with
  | nil=>intro k b c a;have hle:=db c;refine au.step ?_;simp only[S.uI,cw,fq,G,bH,aq,bh,bb,ai];rw[cZ];rw[←a]at l;simpa using l
  | cons f r d=>
   intro k b c a;obtain⟨o,g,i⟩:=c8 c;obtain⟨p,q,e1,s,m⟩:=JC aw W g;have hw:Xv .i64 ((k:Int)+1)=((k+1:Nat):Int):=by rw[bM];simp
   rw[Z4]at a;refine au.step ?_;simp only[S.uI,cw,fq,G,bH,aq,bh,bb,ai];rw[ch];cases b with
   | false=>simp only[b7,aY,e1,s,m,G];refine hf f (Y7 g) _ _ ?_;simp only[aB,S.uH,aq,bh,bu,G,hw];exact d (k+1) _ i (by simpa using a)
   | true=>simp only[b7,aB,S.uH,aq,bh,bu,G,hw];rw[aN];exact d (k+1) _ i (by simpa using a)
 have elems:∀(r:List aC)(k:Nat)(b:Bool),t.bf.drop k=r→(b||r.any eO)=((t.packed&&ew t)||t.bf.any eO)→au (S.uJ (aj C) (.ak t.cells) Q) ([.bool b,D k],H):=by
  intro r;induction r with
  | nil=>intro k b c a;have hle:=db c;refine au.step ?_;simp only[S.uJ,cw,gL,G,bH,aq,bh,bb,ai];rw[cZ];simp only[aB,S.Fp,aq];exact aI t.aI 0 b rfl (by rw[←a];simp)
  | cons e r d=>
   intro k b c a;obtain⟨o,g,i⟩:=c8 c;obtain⟨p,e1,m⟩:=BS aw W g;have hw:Xv .i64 ((k:Int)+1)=((k+1:Nat):Int):=by rw[bM];simp
   rw[Z4]at a;refine au.step ?_;simp only[S.uJ,cw,gL,G,bH,aq,bh,bb,ai];rw[ch];cases b with
   | false=>simp only[b7,aY,e1,m,G];refine n e (Y7 g) _ _ ?_;simp only[aB,S.uG,aq,bh,bu,G,hw];exact d (k+1) _ i (by simpa using a)
   | true=>simp only[b7,aB,S.uG,aq,bh,bu,G,hw];rw[aN];exact d (k+1) _ i (by simpa using a)
 have j:S.uK (aj C) (.ak t.cells) Q [.bool (t.packed&&ew t)] H:=by unfold S.uK;simp only[aq];exact elems t.bf 0 _ rfl rfl
 simp only[fH,aV,cw,k3,G,bG,aB];apply aH<;>intro h
 · simp only[iO,G];refine Sj aw W t ht _ _ ?_;rw[h,aaa]at j;exact j
 · have h:t.packed=false:=by simpa using h
   rw[h,aab]at j;exact j
theorem Sl:∀t:aC,t.ok→bR (aj C) 51 [.agg t.cells] (.bool (eO t)):=by refine aC.ind λt a b ht=>?_;obtain⟨c,d,g,h⟩:=dc ht;exact Sk aw W ht c g (λf hf=>a f hf (d f hf)) (λe he=>b e he (h e he))
end
end Rb

namespace Rb
open Go
variable{H:Z}{i:Nat}{sz al:Int}{o1 o2 x:I}{lg:Bool}{f:aT}{cells cs:List I}
theorem r9{l1 l2:List Int}(a:lh o1 l1)(b:lh o2 l2):(b8 sz al o1 o2 lg).all I.scalar=true:=by obtain⟨t1,rfl⟩:=a;obtain⟨t2,rfl⟩:=b;rfl
theorem Sm(h:T H i (.row (b8 sz al o1 o2 lg)))(v:Int):ax H 1 (.ptr i 0) (D v)=some (H.set i (.row (b8 v al o1 o2 lg))):=by rw[h.store,aa ⟨rfl,rfl,rfl,(by show 0+1≤5;decide)⟩];rfl
theorem Sn(h:T H i (.row (b8 sz al o1 o2 lg)))(v:Int):ax H 1 (.ptr i 1) (D v)=some (H.set i (.row (b8 sz v o1 o2 lg))):=by rw[h.store,aa ⟨rfl,rfl,rfl,(by show 1+1≤5;decide)⟩];rfl
theorem So(h:T H i (.row (b8 sz al o1 o2 lg)))(tk:Tok)(n:Nat)(cs:List I):ax H 1 (.ptr i 2) (.av tk n cs)=some (H.set i (.row (b8 sz al (.av tk n cs) o2 lg))):=by rw[h.store,aa ⟨rfl,rfl,rfl,(by show 2+1≤5;decide)⟩];rfl
theorem Sp(h:T H i (.row (b8 sz al o1 o2 lg)))(tk:Tok)(n:Nat)(cs:List I):ax H 1 (.ptr i 3) (.av tk n cs)=some (H.set i (.row (b8 sz al o1 (.av tk n cs) lg))):=by rw[h.store,aa ⟨rfl,rfl,rfl,(by show 3+1≤5;decide)⟩];rfl
theorem Sq(h:T H i (.row (b8 sz al o1 o2 lg)))(v:Bool):ax H 1 (.ptr i 4) (.bool v)=some (H.set i (.row (b8 sz al o1 o2 v))):=by rw[h.store,aa ⟨rfl,rfl,rfl,(by show 4+1≤5;decide)⟩];rfl
theorem Sr(h:T H i (.row f.cells)):O H 6 true (.ptr i 1)=some (.agg f.type.cells):=by rw[h.load];cases f with|mk n t b w=>cases t;rfl
theorem Ss(h:T H i (.row f.cells)):O H 1 false (.ptr i 2)=some (D f.type.size):=by rw[h.load];cases f with|mk n t b w=>cases t;rfl
theorem BU(h:T H i (.row f.cells)):O H 1 false (.ptr i 7)=some (.bool f.bits):=by rw[h.load];cases f with|mk n t b w=>cases t;rfl
theorem Su(h:T H i (.row f.cells)):O H 1 false (.ptr i 8)=some (D f.bn):=by rw[h.load];cases f with|mk n t b w=>cases t;rfl
theorem cD.l5{n0 sz len i:Nat}(h:cD n0 H sz x len cells)(a:T H i (.row cs)):∀l c,x ≠ .av (.own i) l c:=by
 intro l c e;obtain⟨tk,b,hc,ht⟩:=h;rw[b]at e;simp only[I.av.injEq]at e;rcases ht with⟨q,_⟩|q|⟨t,q,_,d⟩
 ·rw[q]at e;cases e.1
 ·rw[q]at e;cases e.1
 · rw[q]at e;have:t=i:=by simpa using e.1
   subst this;have:=d.2.symm.trans a.2;cases this
theorem cD.low{n0 sz len i:Nat}(h:cD n0 H sz x len cells)(hi:i<n0):∀l c,x ≠ .av (.own i) l c:=by
 intro l c e;obtain⟨tk,a,hc,ht⟩:=h;rw[a]at e;simp only[I.av.injEq]at e;rcases ht with⟨q,_⟩|q|⟨t,q,b,_⟩
 ·rw[q]at e;cases e.1
 ·rw[q]at e;cases e.1
 · rw[q]at e;have:t=i:=by simpa using e.1
   omega
theorem cD.move{n0 sz len:Nat}{H H':Z}{x y:I}(h:cD n0 H sz x len cells)(k:∀i o,T H i o→(∀l c,y ≠ .av (.own i) l c)→T H' i o)(b:∀i l c,y = .av (.own i) l c→∀d c',x ≠ .av (.own i) d c'):cD n0 H' sz x len cells:=by
 obtain⟨tk,a,hc,ht⟩:=h;refine⟨tk,a,hc,?_⟩;rcases ht with q|q|⟨t,q,f,g⟩
 ·exact .inl q
 ·exact .inr (.inl q)
 · refine .inr (.inr ⟨t,q,f,k t _ g λl c e=>?_⟩);exact b t l c e _ _ (by rw[a,q])
theorem cD.pG{n0 sz len i:Nat}(h:cD n0 H sz x len cells)(c:T H i (.row cs))(o:cN):cD n0 (H.set i o) sz x len cells:=h.frame λt a b ht=>ht.br (λe=>by subst e;have:=ht.2.symm.trans c.2;cases this) _
theorem Ext.ca{H a b:Z}(E:Z.Ext H a)(c:a.n≤b.n)(k:∀i o,i<H.n→T a i o→T b i o):Z.Ext H b:=⟨At E.1 c,λi hi=>((k i _ hi ⟨Nat.lt_of_lt_of_le hi E.1,rfl⟩).2).trans (E.2 i hi)⟩
section
variable{C:Ctx}(aw:cY C)(W:Cl (aj C) S.cr)
include aw W
theorem Sv{t:aC}(hs:cO t=0)(cg:∀f∈t.aI,cO f.type=0→xT C f.type)(ci:∀e∈t.bf,cO e=0→xT C e):xT C t:=by
 intro H Q cj;refine S.Ot W ?_;unfold S.f52;simp only[fH,aV,cw,ia,G,aR,aY,bc,ai,aB];have a_:=Z.Ext.push H (.row (b8 0 0 ar ar false));have r1:=T.new H (.row (b8 0 0 ar ar false));have dL:(H.push (.row (b8 0 0 ar ar false))).n=H.n+1:=rfl;rw[show H.push (.row [J,J,ar,ar,P])=H.push (.row (b8 0 0 ar ar false))from rfl];generalize H.push (.row (b8 0 0 ar ar false))=H1 at *;have nil:lh ar []:=⟨.nil,rfl⟩
 have ret:∀sz al l1 l2 o1 o2 lg a,Z.Ext H a→T a H.n (.row (b8 0 0 ar ar false))→lh o1 l1→lh o2 l2→((bp t).2=true→lg=false∧sz=(bp t).1.1∧al=(bp t).1.2∧(t.kind=3∨t.kind=4→gr t=k8 t.aI l1 l2∧l1.length=t.aI.length∧l2.length=t.aI.length))→((bp t).2=false→lg=true) →
   Do (ax a 5 (.ptr H.n 0) (.agg (b8 sz al o1 o2 lg))) λR=>Do (O R 5 true (.ptr H.n 0)) λy=>Q y R:=by
  intro sz al l1 l2 o1 o2 lg a U ay az aA af u;rw[ay.store,aa ⟨rfl,rfl,r9 az aA,(by decide:0+5≤5)⟩];simp only[G];have aE:T (a.set H.n (.row (b8 sz al o1 o2 lg))) H.n (.row (b8 sz al o1 o2 lg)):=ay.set _;change Do (O (a.set H.n (.row (b8 sz al o1 o2 lg))) 5 true (.ptr H.n 0)) _;rw[(hU aE).2.2.2.2.2];simp only[G];exact cj sz al l1 l2 o1 o2 lg _ (U.set (hT _) _) az aA af u
 have num:t.kind=1∨t.kind=2→S.qR (aj C) (.ak t.cells) (.ptr H.n 0) (D t.kind) Q [bd] H1:=by
  intro hk;unfold S.qR;simp only[aq,ai,aY,cw,kx,G];rw[show ba [J,J,ar,ar,P] [(0,1,D t.size),(1,1,D t.size)]=some (.agg (b8 t.size t.size ar ar false))from rfl];simp only[G];refine ret _ _ [] [] _ _ _ H1 a_ r1 nil nil (λ_=>?_) (λh=>?_)
  ·rw[nO hk];exact⟨rfl,rfl,rfl,λq=>by omega⟩
  ·rw[nO hk]at h;cases h
 apply aH<;>intro hc
 ·rw[hc];exact num (.inl (by simpa using hc))
 have dN:¬t.kind=1:=by simpa using hc
 by_cases be:t.kind=2
 ·rw[show(t.kind==2)=true by simpa using be];exact num (.inr be)
 rw[show(t.kind==2)=false by simpa using be];unfold S.qR;simp only[aq,ai,bc,G,aB];rw[aN];apply aH<;>intro hc
 · have V:t.kind=5:=by simpa using hc
   obtain⟨e,he,ck⟩:=k5 hs V;have dO:=ID hs V;have cl:t.bf[0]?=some e:=by rw[he];rfl
   obtain⟨p,e1,cm⟩:=BS aw W cl;have cn:aU none 6 (aD aC.cells t.bf) (J)=some p:=e1;have v:bp t=((X ((bp e).1.1*t.bZ),(bp e).1.2),(bp e).2&&decide (X ((bp e).1.1*t.bZ)≤65536)):=by rw[kz,bF,aa V,he];rfl
   simp only[cw,gL,G,cn,cm];refine ci e (by rw[he];simp) ck _ _ λsz al l1 l2 o1 o2 lg a U i1 bg af u=>?_;simp only[aR,aY,aV];rw[bO a _ (b8 sz al o1 o2 lg) 5 rfl (r9 i1 bg) rfl];simp only[G];have ag:=T.new a (.row (b8 sz al o1 o2 lg));have aE:=(r1.ext U).push (.row (b8 sz al o1 o2 lg));have a1:=(a_.trans U).trans (Z.Ext.push a (.row (b8 sz al o1 o2 lg)));generalize a.push (.row (b8 sz al o1 o2 lg))=R at *;obtain⟨v0,v1,v2,v3,v4,v5⟩:=hU ag;have bI:∀b:Bool,(b=true→(bp t).2=false)→(b=false→(bp t).2=true∧sz=(bp e).1.1∧al=(bp e).1.2)→S.uL (aj C) (.ak t.cells) (.ptr H.n 0) (.ptr a.n 0) Q [.bool b] R:=by
    intro b ac bJ;unfold S.uL;simp only[aq,ai,M,W7,v1,G];apply aH<;>intro h
    · rw[show ba [J,J,ar,ar,P] [(1,1,D al),(4,1,bd)]=some (.agg (b8 0 al ar ar true))from rfl];simp only[G];refine ret _ _ [] [] _ _ _ R a1 aE nil nil (λq=>?_) (λ_=>rfl);rw[ac h]at q;cases q
    · obtain⟨co,cq,cr⟩:=bJ (by simpa using h);simp only[aB,S.Fs,M,W7,v0,v1,G,cw,mD,fD];rw[show ba [J,J,ar,ar,P] [(0,1,D (Xv .i64 (sz*t.bZ))),(1,1,D al)]=some (.agg (b8 (X (sz*t.bZ)) al ar ar false))from rfl];simp only[G];refine ret _ _ [] [] _ _ _ R a1 aE nil nil (λ_=>?_) (λq=>?_)
      ·rw[v,cq,cr];exact⟨rfl,rfl,rfl,λq=>by omega⟩
      ·rw[co]at q;cases q
   simp only[M,W7,v4,G,b7];apply dD<;>intro h
   · cases ah:(bp e).2 with
     |false=>rw[u ah]at h;cases h
     | true=>
      obtain⟨g1,g2,g3,_⟩:=af ah;simp only[v0,G,cw,mD,fD,dv,aB];refine bI _ (λq=>?_) (λq=>?_)
      · have q:X (sz*t.bZ)>65536:=of_decide_eq_true q;rw[v,ah,←g2,aaa];exact decide_eq_false (by show ¬X (sz*t.bZ)≤65536;omega)
      · have q:¬X (sz*t.bZ)>65536:=of_decide_eq_false q;refine⟨?_,g2,g3⟩;rw[v,ah,←g2,aaa];exact decide_eq_true (by show X (sz*t.bZ)≤65536;omega)
   · refine bI true (λ_=>?_) (λq=>by cases q);cases ah:(bp e).2 with
     |false=>rw[v,ah];rfl
     |true=>obtain⟨g1,_⟩:=af ah;rw[g1]at h;cases h
 have V:¬t.kind=5:=by simpa using hc
 have hk:t.kind=3∨t.kind=4:=by have:=pt hs;omega
 have dP:=Be hs hk;have bi:=A8 hs hk;have cs:∀p,dQ t.packed t.kind ⟨0,1,[],0⟩ t.aI=some p→bp t=((cJ p.size p.bB,p.bB),decide (cJ p.size p.bB≤65536)):=by intro p B;rw[kz,bF,bF,B]
 have ct:dQ t.packed t.kind ⟨0,1,[],0⟩ t.aI=none→bp t=((0,0),false):=by intro B;rw[kz,bF,bF,B]
 simp only[aB,S.Fu];rw[show ba [J,J,ar,ar,P] [(1,1,D 1)]=some (.agg (b8 0 1 ar ar false))from rfl];simp only[G,aR,aY,aV];rw[bO H1 _ (b8 0 1 ar ar false) 5 rfl rfl rfl];simp only[G];have w2:=T.new H1 (.row (b8 0 1 ar ar false));have cu:=r1.push (.row (b8 0 1 ar ar false));have cv:=a_.trans (Z.Ext.push H1 (.row (b8 0 1 ar ar false)));generalize H1.push (.row (b8 0 1 ar ar false))=bK at *;have main : ∀(r:List aT)(k:Nat)(p:PL)(s:mI)(o1 o2:I)(a:Z),t.aI.drop k=r→k≤t.aI.length→Z.Ext H a→T a H.n (.row (b8 0 0 ar ar false))→T a H1.n (.row (b8 0 s.bB o1 o2 false)) →
   cD H1.n a 1 o1 s.first.length (s.first.map (D))→cD H1.n a 1 o2 s.bits.length (s.bits.map (D))→(∀i l c,o1 = .av (.own i) l c→∀am c',o2 ≠ .av (.own i) am c') →
   jb p k→lS p s (t.aI.take k)→dQ t.packed t.kind p r=dQ t.packed t.kind ⟨0,1,[],0⟩ t.aI →
   au (S.i9 (aj C) (.ak t.cells) (.ptr H.n 0) (.ptr H1.n 0) Q) ([D s.bit,D s.end_,D k],a):=by
  intro r;induction r with
  | nil=>
   intro k p s o1 o2 a bj cx U ay an az aA bL B w he;have hle:=db bj;have cy:t.aI.take k=t.aI:=ZJ hle;rw[cy]at w;simp only[dQ]at he;have v:=cs p he.symm;refine au.step ?_;simp only[S.i9,aq,bh,cw,fq,G,bH,bb,ai,aB,S.Ft];rw[cZ];have dR:=B.a0;have dS:=B.Y;have gJ:=B.s0;have ef:=B.s1;have cz:=w.size;have cA:=w.e0;have bk:=w.bB;rw[xz]at cz;have hu:=fI (n:=s.end_) (step:=8*p.bB) (by omega);have cB:bC s.end_ (8*p.bB)/8=bC p.size p.bB:=by rw[Bb (by omega),w.size];omega
   have bN:=mH (n:=p.size) (step:=p.bB) gJ (by omega) (by omega) (by omega);obtain⟨cC,e1,dT,_⟩:=az;obtain⟨cE,cF,dU,_⟩:=aA;have cG:S.z1 (aj C) (.ptr H.n 0) (.ptr H1.n 0) Q [D (bC s.end_ (8*p.bB))] a:=by
    unfold S.z1;rw[aq,jw .i64 _ _ (by decide),Z8 (by omega),cB];have bJ:=fI (n:=p.size) (step:=p.bB) (by omega);rw[wrap_i64 (n:=bC p.size p.bB) (by omega) (by omega)];simp only[G,M,W7];rw[Sm an];simp only[G];have ag:T (a.set H1.n (.row (b8 (bC p.size p.bB) s.bB o1 o2 false))) H1.n (.row (b8 (bC p.size p.bB) s.bB o1 o2 false)):=an.set _;rw[(hU ag).1];simp only[G,dv];rw[Sq ag];simp only[G];have cH:T ((a.set H1.n (.row (b8 (bC p.size p.bB) s.bB o1 o2 false))).set H1.n (.row (b8 (bC p.size p.bB) s.bB o1 o2 (decide (bC p.size p.bB>65536))))) H1.n (.row (b8 (bC p.size p.bB) s.bB o1 o2 (decide (bC p.size p.bB>65536)))):=ag.set _;rw[(hU cH).2.2.2.2.2];simp only[G];refine ret _ _ s.first s.bits _ _ _ _ ((U.set (by omega) _).set (by omega) _) ((ay.br (by omega) _).br (by omega) _) ⟨cC,e1⟩ ⟨cE,cF⟩ (λq=>?_) (λq=>?_)
    · rw[v,bN]at q ⊢;have q:bC p.size p.bB≤65536:=of_decide_eq_true q;refine⟨decide_eq_false (by omega),rfl,bk,λ_=>⟨?_,w.l1,w.l2⟩⟩;rw[←w.dM];unfold gr;rw[←he]
    · rw[v,bN]at q;have q:¬bC p.size p.bB≤65536:=of_decide_eq_false q;exact decide_eq_true (by omega)
   have cI:∀(m:Nat)(b:Int),0≤b→bC b (8*p.bB)=bC s.end_ (8*p.bB)→(bC s.end_ (8*p.bB)-b).toNat=m→au (S.uT (aj C) (.ptr H.n 0) (.ptr H1.n 0) Q) ([D b],a):=by
    intro m;induction m with
    | zero=>
     intro b ao ac hm;have u:=fI (n:=b) (step:=8*p.bB) (by omega);have bl:=mG (n:=b) (step:=8*p.bB) (by omega);have a2:b=bC s.end_ (8*p.bB):=by omega
     refine au.step ?_;simp only[S.uT,aq,M,W7,(hU an).2.1,G,fD,bk];rw[bM,iN .i64 _ _ (by omega),aaj ao];have E:b%(8*p.bB)=0:=by rw[a2,←ac];exact bl
     simp only[G,cU,E,ai];rw[aN,a2];exact cG
    | succ m bm=>
     intro b ao ac hm;have u:=fI (n:=b) (step:=8*p.bB) (by omega);refine au.step ?_;simp only[S.uT,aq,M,W7,(hU an).2.1,G,fD,bk];rw[bM,iN .i64 _ _ (by omega),aaj ao];have E:b%(8*p.bB)≠0:=λq=>by have:=BP (b:=b) (s:=8*p.bB) (by omega) q;omega
     simp only[G,cU,ai];rw[aa (by simpa using E)];simp only[bu,G];rw[bM];exact bm (b+1) (by omega) (by rw[BQ (by omega) E];exact ac) (by omega)
   exact cI _ s.end_ cA rfl rfl
  | cons f r bm=>
   intro k p s o1 o2 a bj cx U ay an az aA bL B w he;obtain⟨cK,bo,cL⟩:=c8 bj;have a3:=Y7 bo;have bP:=Bc bi f a3;have cM:=Bf f.type (nK bi f a3);have cN:Xv .i64 ((k:Int)+1)=((k+1:Nat):Int):=by rw[bM];simp
   have cP:t.aI.take (k+1)=t.aI.take k++[f]:=by rw[ZP,bo];rfl
   have dV:=an.1;simp only[dQ,pq]at he;refine au.step ?_;simp only[S.i9,aq,bh,cw,fq,G,bH,bb,ai];rw[ch,cp cK];simp only[G];rw[dd aT.len (by decide) _ bo];simp only[G,aV,aR,aY];rw[bO _ _ _ 9 f.len f.scalar rfl];have bQ:=T.new a (.row f.cells);have aE:=ay.push (.row f.cells);have ag:=an.push (.row f.cells);have a1:=U.trans (Z.Ext.push a (.row f.cells));have cQ:=az.frame (H':=a.push (.row f.cells)) (λt _ _ h=>h.push _);have cR:=aA.frame (H':=a.push (.row f.cells)) (λt _ _ h=>h.push _);have n6:a.n<(a.push (.row f.cells)).n:=Y9 _;simp only[G,M,W7];rw[Sr bQ];simp only[G];generalize a.push (.row f.cells)=R at *;refine cg f a3 (nK bi f a3) _ _ λsz al l1 l2 K L lg g ap i1 bg af u=>?_;rw[bO g _ (b8 sz al K L lg) 5 rfl (r9 i1 bg) rfl];have aQ:=(bQ.ext ap).push (.row (b8 sz al K L lg));have bq:=(aE.ext ap).push (.row (b8 sz al K L lg));have bs:=(ag.ext ap).push (.row (b8 sz al K L lg));have aS:=T.new g (.row (b8 sz al K L lg));have bR:=a1.trans (ap.trans (Z.Ext.push g (.row (b8 sz al K L lg))));have aF:=cQ.frame (H':=g.push (.row (b8 sz al K L lg))) (λt _ _ h=>(h.ext ap).push _);have bS:=cR.frame (H':=g.push (.row (b8 sz al K L lg))) (λt _ _ h=>(h.ext ap).push _);have dW:R.n≤g.n:=ap.1;have dX:g.n<(g.push (.row (b8 sz al K L lg))).n:=Y9 _;simp only[G,M,W7];generalize g.push (.row (b8 sz al K L lg))=d at *;rw[(hU aS).2.2.2.2.1];simp only[G,ai];apply aH<;>intro hl
   · have v:(bp f.type).2=false:=by
       cases q:(bp f.type).2 with
       |false=>rfl
       |true=>rw[(af q).1]at hl;cases hl
     rw[ab (by rw[v];decide)]at he;rw[show ba [J,J,ar,ar,P] [(1,1,D 1),(4,1,bd)]=some (.agg (b8 0 1 ar ar true))from rfl];simp only[G];refine ret _ _ [] [] _ _ _ d bR bq nil nil (λq=>?_) (λ_=>rfl);rw[ct he.symm]at q;cases q
   have v:(bp f.type).2=true:=by
    cases q:(bp f.type).2 with
    |true=>rfl
    |false=>exact absurd (u q) hl
   obtain⟨g1,g2,g3,_⟩:=af v;rw[aa v]at he;obtain⟨b1,b2,b3,bt⟩:=cM v;have cS:=IA (packed:=t.packed) (kind:=t.kind) (by omega) B w b1 b2 b3 bt (λcT=>by obtain⟨aW,z2,z3,z4,z5,bT⟩:=bP cT;exact⟨z2,z3,z4,z5,bT,by rw[nO (.inl aW)]⟩)
   obtain⟨a4,a5⟩:=cS;have cV:(bp f.type).1=(sz,al):=Prod.ext g2.symm g3.symm;rw[cV]at b1 b2 b3 bt a4 a5 he;dsimp only at b1 b2 b3 bt;have dY:=w.bit;have dZ:=B.b0;have d0:=B.b1;have d1:=a5.b0;have d2:=a5.b1;have cW:=a4.bit;have d3:=a4.e0;have d4:(eC t.packed t.kind s.bit f (sz,al)).1+(eC t.packed t.kind s.bit f (sz,al)).2.1=(hM t.packed t.kind p f (sz,al)).bit:=cW;obtain ⟨b0,aX,bU,c1⟩:∃b0:Int,(if t.kind=4 then 0 else s.bit)=b0∧0≤b0∧b0≤19200000:=by
    split
    ·exact⟨0,rfl,by omega,by omega⟩
    ·exact⟨s.bit,rfl,by omega,by omega⟩
   generalize aZ:xx t.packed t.kind s f (sz,al)=A at *;have bv:A.bit=(eC t.packed t.kind s.bit f (sz,al)).1+(eC t.packed t.kind s.bit f (sz,al)).2.1:=by rw[←aZ];rfl
   have bV:A.end_=max s.end_ ((eC t.packed t.kind s.bit f (sz,al)).1+(eC t.packed t.kind s.bit f (sz,al)).2.1):=by rw[←aZ];rfl
   have bW:A.bB=max s.bB (eC t.packed t.kind s.bit f (sz,al)).2.2:=by rw[←aZ];rfl
   have cX:A.first=s.first++[(eC t.packed t.kind s.bit f (sz,al)).1]:=by rw[←aZ];rfl
   have cY:A.bits=s.bits++[(eC t.packed t.kind s.bit f (sz,al)).2.1]:=by rw[←aZ];rfl
   have N:eC t.packed t.kind s.bit f (sz,al)=if f.bits=true then
    (bC b0 (if f.bn=0∨b0%(8*f.type.size)+f.bn>8*f.type.size then 8*f.type.size else 1),f.bn,if t.packed=true∨f.bn=0 then 1 else al)
    else(bC b0 (if t.packed=true then 8 else 8*al),8*sz,if t.packed=true then 1 else al):=by unfold eC;rw[aX]
   generalize eC t.packed t.kind s.bit f (sz,al)=F at *;have d5:s.first.length=k:=by rw[w.l1,Z1];omega
   have d6:s.bits.length=k:=by rw[w.l2,Z1];omega
   have c0:∀step n:Int,n=F.2.1→S.zZ (aj C) (.ak t.cells) (.ptr H1.n 0) (.ptr a.n 0) (.ptr g.n 0) ([D s.bit,D s.end_,D k],a) (au (S.i9 (aj C) (.ak t.cells) (.ptr H.n 0) (.ptr H1.n 0) Q)) [D step,D n] Q [D F.1] d:=by
    intro step n ad;unfold S.zZ;simp only[aq,bh,M,W7,(hU bs).2.2.1,G];rw[show c9 d false 1 1 [J] [(0,1,D F.1)]=some (.av .full 1 [D F.1],d)from rfl];simp only[aV];refine aF.BR (by omega) (m:=1) (news:=[D F.1]) rfl rfl rfl (by decide) (by omega) (by omega) λbw c2 c3 aG=>?_;have a6:=aG _ _ bs (aF.l5 bs);have c4:=aG _ _ bq (aF.l5 bq);have c5:=aG _ _ aQ (aF.l5 aQ);have c6:=aG _ _ aS (aF.l5 aS);have c7:=bS.move aG bL;have c_:=Ext.ca bR (aav c3) (λi o hi h=>aG i o h (aF.low (by omega)));rw[So a6];simp only[G];have bx:=a6.set (.row (b8 0 s.bB (.av (.own d.n) (s.first.length+1) (s.first.map (D)++[D F.1])) o2 false));have bX:=c4.br (i:=H1.n) (by omega) (.row (b8 0 s.bB (.av (.own d.n) (s.first.length+1) (s.first.map (D)++[D F.1])) o2 false));have bY:=c5.br (i:=H1.n) (by omega) (.row (b8 0 s.bB (.av (.own d.n) (s.first.length+1) (s.first.map (D)++[D F.1])) o2 false));have b4:=c6.br (i:=H1.n) (by omega) (.row (b8 0 s.bB (.av (.own d.n) (s.first.length+1) (s.first.map (D)++[D F.1])) o2 false));have da:=c2.pG a6 (.row (b8 0 s.bB (.av (.own d.n) (s.first.length+1) (s.first.map (D)++[D F.1])) o2 false));have aJ:=c7.pG a6 (.row (b8 0 s.bB (.av (.own d.n) (s.first.length+1) (s.first.map (D)++[D F.1])) o2 false));have dc:=c_.set (i:=H1.n) (by omega) (.row (b8 0 s.bB (.av (.own d.n) (s.first.length+1) (s.first.map (D)++[D F.1])) o2 false));have d7:(bw.set H1.n (.row (b8 0 s.bB (.av (.own d.n) (s.first.length+1) (s.first.map (D)++[D F.1])) o2 false))).n=bw.n:=rfl;generalize bw.set H1.n (.row (b8 0 s.bB (.av (.own d.n) (s.first.length+1) (s.first.map (D)++[D F.1])) o2 false))=x at *;have de:∀i l c,o2 = .av (.own i) l c→∀am c',(I.av (.own d.n) (s.first.length+1) (s.first.map (D)++[D F.1])) ≠ .av (.own i) am c':=by
     intro i l c e am c' bz;simp only[I.av.injEq,Tok.own.injEq]at bz;obtain⟨tk,df,_,ht⟩:=bS;rw[df]at e;simp only[I.av.injEq]at e;rcases ht with⟨q,_⟩|q|⟨t',q,_,dg⟩
     ·rw[q]at e;cases e.1
     ·rw[q]at e;cases e.1
     · rw[q]at e;have:t'=i:=by simpa using e.1
       have:=dg.1;omega
    rw[(hU bx).2.2.2.1];simp only[G];rw[show c9 x false 1 1 [J] [(0,1,D n)]=some (.av .full 1 [D n],x)from rfl];simp only[aV];refine aJ.BR (by omega) (m:=1) (news:=[D n]) rfl rfl rfl (by decide) (by omega) (by omega) λdh di dj aK=>?_;have a7:=aK _ _ bx (aJ.l5 bx);have dk:=aK _ _ bX (aJ.l5 bX);have dl:=aK _ _ bY (aJ.l5 bY);have dm:=aK _ _ b4 (aJ.l5 b4);have dn:=da.move aK de;have dp:=Ext.ca dc (aav dj) (λi o hi h=>aK i o h (aJ.low (by omega)));rw[Sp a7];simp only[G,bu];have aL:=a7.set (.row (b8 0 s.bB (.av (.own d.n) (s.first.length+1) (s.first.map (D)++[D F.1])) (.av (.own x.n) (s.bits.length+1) (s.bits.map (D)++[D n])) false));have b5:=dk.br (i:=H1.n) (by omega) (.row (b8 0 s.bB (.av (.own d.n) (s.first.length+1) (s.first.map (D)++[D F.1])) (.av (.own x.n) (s.bits.length+1) (s.bits.map (D)++[D n])) false));have dq:=dl.br (i:=H1.n) (by omega) (.row (b8 0 s.bB (.av (.own d.n) (s.first.length+1) (s.first.map (D)++[D F.1])) (.av (.own x.n) (s.bits.length+1) (s.bits.map (D)++[D n])) false));have dr:=dm.br (i:=H1.n) (by omega) (.row (b8 0 s.bB (.av (.own d.n) (s.first.length+1) (s.first.map (D)++[D F.1])) (.av (.own x.n) (s.bits.length+1) (s.bits.map (D)++[D n])) false));have ds:=dn.pG a7 (.row (b8 0 s.bB (.av (.own d.n) (s.first.length+1) (s.first.map (D)++[D F.1])) (.av (.own x.n) (s.bits.length+1) (s.bits.map (D)++[D n])) false));have dt:=di.pG a7 (.row (b8 0 s.bB (.av (.own d.n) (s.first.length+1) (s.first.map (D)++[D F.1])) (.av (.own x.n) (s.bits.length+1) (s.bits.map (D)++[D n])) false));have b6:=dp.set (i:=H1.n) (by omega) (.row (b8 0 s.bB (.av (.own d.n) (s.first.length+1) (s.first.map (D)++[D F.1])) (.av (.own x.n) (s.bits.length+1) (s.bits.map (D)++[D n])) false));generalize dh.set H1.n (.row (b8 0 s.bB (.av (.own d.n) (s.first.length+1) (s.first.map (D)++[D F.1])) (.av (.own x.n) (s.bits.length+1) (s.bits.map (D)++[D n])) false))=aM at *;have du:∀i l c,(I.av (.own d.n) (s.first.length+1) (s.first.map (D)++[D F.1])) = .av (.own i) l c→∀am c',(I.av (.own x.n) (s.bits.length+1) (s.bits.map (D)++[D n])) ≠ .av (.own i) am c':=by intro i l c e am c' bz;simp only[I.av.injEq,Tok.own.injEq]at e bz;omega
    have b9:cD H1.n aM 1 (.av (.own d.n) (s.first.length+1) (s.first.map (D)++[D F.1])) A.first.length (A.first.map (D)):=by rw[cX,ZG,aau];exact ds
    have b_:cD H1.n aM 1 (.av (.own x.n) (s.bits.length+1) (s.bits.map (D)++[D n])) A.bits.length (A.bits.map (D)):=by rw[cY,ZG,aau,←ad];exact dt
    generalize (I.av (.own d.n) (s.first.length+1) (s.first.map (D)++[D F.1]))=bA at *;generalize (I.av (.own x.n) (s.bits.length+1) (s.bits.map (D)++[D n]))=bD at *;have dw:Xv .i64 (F.1+n)=A.bit:=by rw[ad,bv];exact bM
    rw[dw];have cb:∀ae,Z.Ext H ae→T ae H.n (.row (b8 0 0 ar ar false))→T ae H1.n (.row (b8 0 A.bB bA bD false))→cD H1.n ae 1 bA A.first.length (A.first.map (D))→cD H1.n ae 1 bD A.bits.length (A.bits.map (D))→S.uM (aj C) ([D s.bit,D s.end_,D k],a) (au (S.i9 (aj C) (.ak t.cells) (.ptr H.n 0) (.ptr H1.n 0) Q)) Q [D A.bit,D A.end_] ae:=by intro ae dx dy dz dA dB;unfold S.uM;simp only[aq,bh,bu,G,cN];exact bm (k+1) _ A bA bD ae cL (by omega) dx dy dz dA dB du a5 (by rw[cP];exact a4) he
    have cc:S.uN (aj C) (.ptr H1.n 0) (D A.bit) ([D s.bit,D s.end_,D k],a) (au (S.i9 (aj C) (.ak t.cells) (.ptr H.n 0) (.ptr H1.n 0) Q)) [D A.end_] Q [D F.2.2] aM:=by
     unfold S.uN;simp only[aq,M,W7,(hU aL).2.1,G,dv,ai,aB];apply aH<;>intro q
     · have q:F.2.2>s.bB:=of_decide_eq_true q;rw[Sn aL];simp only[G];refine cb _ (b6.set (by omega) _) (b5.br (by omega) _) ?_ (b9.pG aL _) (b_.pG aL _);rw[bW,aaE (by omega)];exact aL.set _
     · have q:¬F.2.2>s.bB:=λz=>q (decide_eq_true z);refine cb aM b6 b5 ?_ b9 b_;rw[bW,aaF (by omega)];exact aL
    have a8:S.uO (aj C) (.ak t.cells) (.ptr H1.n 0) (.ptr a.n 0) (.ptr g.n 0) (D A.bit) ([D s.bit,D s.end_,D k],a) (au (S.i9 (aj C) (.ak t.cells) (.ptr H.n 0) (.ptr H1.n 0) Q)) [D step,D n] Q [D A.end_] aM:=by
     unfold S.uO;have V:∀b:Bool,(if b=true then(1:Int)else al)=F.2.2→S.qP (aj C) (.ptr H1.n 0) (D A.bit) (D al) ([D s.bit,D s.end_,D k],a) (au (S.i9 (aj C) (.ak t.cells) (.ptr H.n 0) (.ptr H1.n 0) Q)) [D A.end_] Q [.bool b] aM:=by
      intro b u;unfold S.qP;simp only[aq,ai,aB];cases b with
      |true=>rw[aa rfl];rw[aa rfl]at u;rw[u];exact cc
      |false=>rw[aN];rw[aN]at u;rw[u];exact cc
     simp only[M,W7,(hU dr).2.1,G,cw,k3,b7,aB,aq,bh];apply dD<;>intro aO
     · simp only[BU dq,G,bG,bc];apply aH<;>intro j
       · refine V _ ?_;rw[N,aa j,aO];have dC:n=f.bn:=by rw[ad,N,aa j]
         rw[dC];by_cases E:f.bn=0
         ·simp[E]
         ·simp[E]
       · refine V false ?_;rw[N,ab j,aO]
     · refine V true ?_;rw[N];cases j:f.bits<;>simp[aO]
    simp only[dv,G,ai,aB,aq,bh];apply aH<;>intro q
    · have q:A.bit>s.end_:=of_decide_eq_true q;have:A.end_=A.bit:=by rw[bV,←bv];exact aaE (by omega)
      rw[this]at a8;exact a8
    · have q:¬A.bit>s.end_:=λz=>q (decide_eq_true z);have:A.end_=s.end_:=by rw[bV,←bv];exact aaF (by omega)
      rw[this]at a8;exact a8
   have bE:∀step n:Int,0<step→step≤1000000→F.1=bC b0 step→n=F.2.1→S.qQ (aj C) (.ak t.cells) (.ptr H1.n 0) (.ptr a.n 0) (.ptr g.n 0) ([D s.bit,D s.end_,D k],a) (au (S.i9 (aj C) (.ak t.cells) (.ptr H.n 0) (.ptr H1.n 0) Q)) [D b0] Q [D step,D n] d:=by
    intro step n s0 s1 aP ad;unfold S.qQ;simp only[aq];have cd:=c0 step n ad;rw[aP]at cd;have d8:=fI (n:=b0) s0;have loop:∀(m:Nat)(b:Int),0≤b→bC b step=bC b0 step→(bC b0 step-b).toNat=m→au (S.uP (aj C) (.ak t.cells) (.ptr H1.n 0) (.ptr a.n 0) (.ptr g.n 0) ([D s.bit,D s.end_,D k],a) (au (S.i9 (aj C) (.ak t.cells) (.ptr H.n 0) (.ptr H1.n 0) Q)) [D step,D n] Q) ([D b],d):=by
     intro m;induction m with
     | zero=>
      intro b ao ac hm;have u:=fI (n:=b) s0;have bl:=mG (n:=b) s0;have a2:b=bC b0 step:=by omega
      refine au.step ?_;simp only[S.uP,aq];rw[iN .i64 _ _ (by omega),aaj ao];have E:b%step=0:=by
       have:b=bC b step:=by omega
       rw[this];exact bl
      simp only[G,cU,E,ai];rw[aN,a2];exact cd
     | succ m dE=>
      intro b ao ac hm;have u:=fI (n:=b) s0;refine au.step ?_;simp only[S.uP,aq];rw[iN .i64 _ _ (by omega),aaj ao];have E:b%step≠0:=λq=>by have:=BP (b:=b) s0 q;omega
      simp only[G,cU,ai];rw[aa (by simpa using E)];simp only[bu,G];rw[bM];exact dE (b+1) (by omega) (by rw[BQ s0 E];exact ac) (by omega)
    exact loop _ b0 bU rfl rfl
   have a9:S.uS (aj C) (.ak t.cells) (.ptr H1.n 0) (.ptr a.n 0) (.ptr g.n 0) ([D s.bit,D s.end_,D k],a) (au (S.i9 (aj C) (.ak t.cells) (.ptr H.n 0) (.ptr H1.n 0) Q)) Q [D b0] d:=by
    unfold S.uS;have dF:Xv .i64 (8*al)=8*al:=bM;have dG:Xv .i64 (8*sz)=8*sz:=bM;have ce:∀st:Int,(f.bits=false→0<st∧st≤1000000∧F.1=bC b0 st∧8*sz=F.2.1)→S.uR (aj C) (.ak t.cells) (.ptr H1.n 0) (.ptr a.n 0) (.ptr g.n 0) (D (8*sz)) ([D s.bit,D s.end_,D k],a) (au (S.i9 (aj C) (.ak t.cells) (.ptr H.n 0) (.ptr H1.n 0) Q)) [D b0] Q [D st] d:=by
     intro st dH;unfold S.uR;simp only[aq,M,W7,BU aQ,G,ai];apply aH<;>intro j
     · obtain ⟨aW,z2,z3,z4,z5,bT⟩:=bP j;have dI:Xv .i64 (8*f.type.size)=8*f.type.size:=bM;have ad:f.bn=F.2.1:=by rw[N,aa j]
       have aP:F.1=bC b0 (if f.bn=0∨b0%(8*f.type.size)+f.bn>8*f.type.size then 8*f.type.size else 1):=by rw[N,aa j]
       simp only[Su aQ,G,M];rw[show(1+1:Nat)=2 from rfl,Ss aQ];simp only[G,fD,dI,bc,b7,aB];have cf:∀c:Bool,(c=true↔(f.bn=0∨b0%(8*f.type.size)+f.bn>8*f.type.size))→S.uQ (aj C) (.ak t.cells) (.ptr H1.n 0) (.ptr a.n 0) (.ptr g.n 0) (D f.bn) (D (8*f.type.size)) ([D s.bit,D s.end_,D k],a) (au (S.i9 (aj C) (.ak t.cells) (.ptr H.n 0) (.ptr H1.n 0) Q)) [D b0] Q [.bool c] d:=by
        intro c hc;unfold S.uQ;simp only[aq,ai,aB];apply aH<;>intro q
        · rw[aa (hc.1 q)]at aP;exact bE _ _ (by omega) (by omega) aP ad
        · rw[ab (λz=>q (hc.2 z))]at aP;exact bE _ _ (by omega) (by omega) aP ad
       apply dD<;>intro q
       · have q:¬f.bn=0:=by simpa using q
         rw[iN .i64 _ _ (by omega),aaj bU];have d9:=aaf b0 (show(8*f.type.size)≠0 by omega);have d_:=aah b0 (show 0<8*f.type.size by omega);simp only[G,bu];rw[bM];simp only[G,dv];refine cf _ ⟨λz=> .inr (of_decide_eq_true z),λz=>?_⟩;rcases z with z|z
         ·exact absurd z q
         ·exact decide_eq_true z
       · have q:f.bn=0:=by simpa using q
         exact cf true ⟨λ_=> .inl q,λ_=>rfl⟩
     · obtain⟨dJ,dK,y3,y4⟩:=dH (by simpa using j);simp only[aB];exact bE st _ dJ dK y3 y4
    simp only[M,W7,(hU aS).1,(hU aS).2.1,G,fD,dF,dG,cw,k3,ai,aB];apply aH<;>intro aO
    · refine ce 8 λj=>⟨by decide,by decide,?_,?_⟩
      ·rw[N,ab (by rw[j];decide),aO];rfl
      ·rw[N,ab (by rw[j];decide)]
    · refine ce (8*al) λj=>⟨by omega,by omega,?_,?_⟩
      · rw[N,ab (by rw[j];decide)];show _=bC b0 _;rw[ab aO]
      ·rw[N,ab (by rw[j];decide)]
   simp only[cw,ia,G,bc,ai,aB];apply aH<;>intro q
   · have q:t.kind=4:=by simpa using q
     rw[aa q]at aX;rw[←aX]at a9;exact a9
   · have q:¬t.kind=4:=by simpa using q
     rw[ab q]at aX;rw[←aX]at a9;exact a9
 have aW:cD H1.n bK 1 ar 0 []:=cD.nil _ _ _;exact main t.aI 0 ⟨0,1,[],0⟩ ⟨0,0,1,[],[]⟩ _ _ bK rfl (WS _) cv cu w2 aW aW (λi l c q=>by cases q) jb.zero lS.zero rfl
theorem xU:∀t:aC,cO t=0→xT C t:=by refine aC.ind λt a b hs=>?_;exact Sv aw W hs a b
end
end Rb

namespace Rb
open Go
variable{t:aC}{b:Bool}{A B:Prop}{i:Nat}{f:aT}
theorem fv(a:b=true→A)(c:b=false→B):if b=true then A else B:=aH a λh=>c (by simpa using h)
theorem iV(a:b=false→A)(c:b=true→B):if b=false then A else B:=aH a λh=>c (by simpa using h)
def r_:List UInt8→Bool
 |[]=>true
 |c::r=>isLet c&&r.all hK
section
variable{Φ:ae}{H:Z}{Q:ad}
theorem BV{s:List UInt8}(n:Q (.bool (dL s)) H):S.f20 Φ (.str s) H Q:=by
 have fin:∀b:Bool,b=dL s→Q (.bool b) H:=λb h=>by rw[h];exact n
 clear n;unfold S.f20;simp only[ph,G,bc,b7];have v : s ≠ []→s.length≤16→U (S.zU Φ (.str s) Q) [] H:=by
  intro l hl;simp only[aB,S.zU];have w:r_ s=dL s:=by
   clear fin;cases s with
   |nil=>exact absurd rfl l
   | cons c r=>
    simp only[Z9]at hl;have:r.length<16:=by omega
    simp[dL,r_,this]
  have main : ∀(f:List UInt8)(i:Nat),s.drop i=f→(if i=0 then r_ f else f.all hK)=dL s →
    au (S.oS Φ (.str s) Q) ([D i],H):=by
   intro f;induction f with
   | nil=>intro i hi j;have hle:=db hi;refine au.step ?_;simp only[S.oS,aq,ph,bb,G,ai];rw[cZ];exact fin _ (by rw[←j];split<;>rfl)
   | cons y f x=>
    intro i hi j;obtain⟨F,z,A⟩:=c8 hi;refine au.step ?_;simp only[S.oS,aq,ph,bb,G,ai];rw[ch];have B:iZ (.str s) (D i)=some (.int .u8 y.toNat):=by simp only[iZ];rw[df];simp[z]
    rw[B];have g:∀b:Bool,b=!(if i=0 then isLet y else hK y)→U (S.nu Φ ([D i],H) (au (S.oS Φ (.str s) Q)) Q) [.bool b] H:=by
     intro b a;simp only[aB,S.nu,aq,ai];apply fv<;>intro h
     · refine fin _ ?_;rw[←j];rw[h]at a;by_cases d:i=0
       · rw[aa d]at a ⊢;simp at a;simp[a,r_]
       · rw[ab d]at a ⊢;simp at a;simp[a]
     · simp only[S.ER,aq,bu,G];rw[bM,fb i];refine x (i+1) A ?_;rw[←j];rw[h]at a;by_cases d:i=0
       · rw[aa d]at a ⊢;simp at a;simp[a,r_]
       · rw[ab d]at a ⊢;simp at a;simp[a]
    have o : ∀b:Bool,b=isLet y→U (S.t_ Φ (.int .u8 y.toNat) ([D i],H) (au (S.oS Φ (.str s) Q)) Q) [.bool b] H:=by
     intro b a;simp only[aB,S.t_,aq,cV,G,bG];apply fv<;>intro h
     · have hl:isLet y=false:=by rw[←a];simpa using h
       simp only[bc,G,b7];apply iV<;>intro p
       · have d:i≠0:=by simp only[beq_eq_false_iff_ne,ne_eq]at p;omega
         simp only[cU,G,bG];apply fv<;>intro q
         · have k:y.toNat≠95:=by simp only[bne_iff_ne,ne_eq]at q;omega
           simp only[bb,G,b7];apply iV<;>intro t
           · have C:¬y.toNat<48:=by simp only[decide_eq_false_iff_not]at t;omega
             simp only[dv,G];refine g _ ?_;rw[ab d];unfold hK;rw[hl,YG];simp[rB,k];omega
           · have C:y.toNat<48:=by simp only[dh]at t;omega
             refine g _ ?_;rw[ab d];unfold hK;rw[hl,YG];simp[rB,k];omega
         · have k:y.toNat=95:=by simp only[bne_eq_false_iff_eq]at q;omega
           refine g _ ?_;rw[ab d];simp[hK,k]
       · have d:i=0:=by simp only[b9]at p;omega
         refine g _ ?_;rw[aa d,hl];rfl
     · have hl:isLet y=true:=by rw[←a];simpa using h
       refine g _ ?_;have:hK y=true:=by simp[hK,hl]
       rw[hl,this];simp
    simp only[G,eu,gR,bG];refine fv (λh=>o _ ?_) (λh=>o _ ?_)
    · have m:97≤y.toNat:=by simp only[ge_iff_le,dh]at h;omega
      rw[YG];simp[isLet,m];omega
    · have m:¬97≤y.toNat:=by simp only[ge_iff_le,decide_eq_false_iff_not]at h;omega
      simp[isLet,m]
  exact main s 0 rfl w
 have u:∀b:Bool,(b=true↔(s=[]∨16<s.length))→U (S.ua Φ (.str s) Q) [.bool b] H:=by
  intro b a;simp only[aB,S.ua,aq,ai];apply aH<;>intro h
  · refine fin _ ?_;rcases a.1 h with rfl|h
    ·rfl
    · cases s with
      |nil=>rfl
      | cons c r=>
       simp at h;have:¬r.length<16:=by omega
       simp[dL,this]
  · have E:¬(s=[]∨16<s.length):=λy=>h (a.2 y);exact v (λe=>E (.inl e)) (by omega)
 apply iV<;>intro h
 · simp only[dv,G];refine u _ ?_;have l:s≠[]:=by rintro rfl;simp at h
   simp only[dh,gt_iff_lt,l,false_or];omega
 · refine u _ ?_;have he:s=[]:=by simpa using h
   simp[he]
theorem JD{n a:Int}(f:a=8∨a=16)(d:Q (.bool (dU n a)) H):S.f112 Φ (D n) (D a) H Q:=by
 have e:∀b:Bool,b=dU n a→Q (.bool b) H:=λb h=>by rw[h];exact d
 clear d;unfold S.f112;have step:∀k:Int,1≤k→k≤a→(n=k→dU n a=true)→(n≠k→au (S.pe Φ (D n) (D a) Q) ([D (2*k)],H))→au (S.pe Φ (D n) (D a) Q) ([D k],H):=by
  intro k g c i j;refine au.step ?_;simp only[S.pe,aq,gR,bc,fD,G,ai];rw[aa (by simpa using c)];apply fv<;>intro h
  ·exact e _ (i (by simpa using h)).symm
  · rw[bM];exact j (by simpa using h)
 have stop:∀k:Int,a<k→dU n a=false→au (S.pe Φ (D n) (D a) Q) ([D k],H):=by intro k g c;refine au.step ?_;simp only[S.pe,aq,gR,bc,fD,G,ai];rw[cZ];exact e _ c.symm
 refine step 1 (by omega) (by omega) (λh=>by subst h;simp[dU];omega) λl=>?_;refine step (2*1) (by omega) (by omega) (λh=>by subst h;simp[dU];omega) λm=>?_;refine step (2*(2*1)) (by omega) (by omega) (λh=>by subst h;simp[dU];omega) λn4=>?_;refine step (2*(2*(2*1))) (by omega) (by omega) (λh=>by subst h;simp[dU];omega) λo=>?_;rcases f with rfl|rfl
 · refine stop _ (by omega) ?_;by_cases h:n≤8
   · have:n≠1∧n≠2∧n≠4∧n≠8∧n≠16:=by omega
     simp[dU,this]
   ·simp[dU,h]
 · refine step (2*(2*(2*(2*1)))) (by omega) (by omega) (λh=>by subst h;simp[dU]) λp=>?_;refine stop _ (by omega) ?_;have:n≠1∧n≠2∧n≠4∧n≠8∧n≠16:=by omega
   simp[dU,this]
theorem JE(H:Z)(hi:t.aI[i]?=some f):O H 6 true (.ak (((t.aI.flatMap aT.cells).drop (i*9)).drop 1))=some (.agg f.type.cells):=by
 have a:=(Wh.1 hi).1;show bW _ 0 6 true=_;rw[nI aT.len];have b:t.aI.drop i=f::t.aI.drop (i+1):=by rw[ZH a];rw[Xc a]at hi;simp at hi;rw[hi]
 rw[b,Zi,aT.be,Yi,ZD,Zv,List.append_assoc];exact k2 f.type.len
theorem JF(H:Z)(hi:t.aI[i]?=some f):O H 1 false (.ak (((t.aI.flatMap aT.cells).drop (i*9)).drop 0))=some (.str f.name):=by
 have a:=(Wh.1 hi).1;show bW _ 0 1 false=_;rw[Zv,nI aT.len];have b:t.aI.drop i=f::t.aI.drop (i+1):=by rw[ZH a];rw[Xc a]at hi;simp at hi;rw[hi]
 rw[b,Zi,aT.be];rfl
theorem Sw{m:Nat}(w:1≤m)(y:m≤65)(z:t.aI.length≤9223372036854775807)(A:t.bf.length≤9223372036854775807)
  (hf:1<m→∀f∈t.aI,bR Φ 79 [.agg f.type.cells,D ((m-1:Nat):Int)] (D (ea (m-1) f.type)))
  (he:1<m→∀x∈t.bf,bR Φ 79 [.agg x.cells,D ((m-1:Nat):Int)] (D (ea (m-1) x)))
  (o:Q (D (ea m t)) H):S.f79 Φ (.agg t.cells) (D m) H Q:=by
 have l:1<m→Xv .i64 ((m:Int)-1)=((m-1:Nat):Int):=λh=>by rw[bM];omega
 have e:∀v:Int,0≤v→v≤64→v+1=ea m t→U (S.Ac Φ Q) [D v] H:=by intro v B C hv;simp only[aB,S.Ac,aq,bu,G];rw[bM,hv];exact o
 have p:ea m t=(if 1<m then max (e2 (m-1) t.aI) (eB (m-1) t.bf)else 0)+1:=by rw[nJ];split<;>rfl
 rw[p]at e;have q:∀(xs:List aC)(i:Nat)(acc:Int),t.bf.drop i=xs→0≤acc→acc≤64→max acc (if 1<m then eB (m-1) xs else 0)=(if 1<m then max (e2 (m-1) t.aI) (eB (m-1) t.bf)else 0) →
   au (S.q3 Φ (D m) (.ak t.cells) Q) ([D acc,D i],H):=by
  intro xs;induction xs with
  | nil=>
   intro i acc c a0 Y a;have r:=db c;refine au.step ?_;simp only[S.q3,aq,bh,cw,gL,bH,G,bb,bG];rw[cZ];simp only[aB,S.vx,aq,ai,Yf,cu];refine e acc a0 Y ?_;have:(if 1<m then eB (m-1) ([]:List aC)else 0)=0:=by split<;>rfl
   rw[this]at a;omega
  | cons x xs g=>
   intro i acc c a0 Y a;obtain⟨j,d,k⟩:=c8 c;refine au.step ?_;simp only[S.q3,aq,bh,cw,gL,bH,G,bb,bG];rw[ch];simp only[dv,G,aB,S.vx,aq,ai];apply fv<;>intro h
   · have b:1<m:=by simp only[dh,gt_iff_lt]at h;omega
     rw[aa b]at a;simp only[eB]at a;have s:=pn x (m-1) (by omega);simp only[S.F5,aq,bh,cw,gL,G];rw[cp j];simp only[G];rw[dd aC.len (by decide) _ d];simp only[G,dA];rw[l b];refine he b x (Y7 d) _ _ ?_;simp only[dv,G,ai];have next:∀v:Int,v=max acc (ea (m-1) x)→U (S.vw Φ ([D acc,D i],H) (au (S.q3 Φ (D m) (.ak t.cells) Q)) Q) [D v] H:=by intro v hv;simp only[aB,S.vw,aq,bh,bu,G];rw[bM,fb i];exact g (i+1) v k (by omega) (by omega) (by rw[aa b,hv];omega)
     refine fv (λh=>next _ ?_) (λh=>next _ ?_)
     ·simp only[dh,gt_iff_lt]at h;omega
     ·simp only[decide_eq_false_iff_not,gt_iff_lt]at h;omega
   · have b:¬1<m:=by simp only[decide_eq_false_iff_not,gt_iff_lt]at h;omega
     refine e acc a0 Y ?_;rw[ab b]at a ⊢;omega
 have n:∀acc:Int,0≤acc→acc≤64→max acc (if 1<m then eB (m-1) t.bf else 0)=(if 1<m then max (e2 (m-1) t.aI) (eB (m-1) t.bf)else 0)→U (S.Ad Φ (D m) (.ak t.cells) Q) [D acc] H:=by intro acc a0 Y a;simp only[aB,S.Ad,aq];exact q t.bf 0 acc rfl a0 Y a
 have u:∀(xs:List aT)(i:Nat)(acc:Int),t.aI.drop i=xs→0≤acc→acc≤64→max (max acc (if 1<m then e2 (m-1) xs else 0)) (if 1<m then eB (m-1) t.bf else 0)=(if 1<m then max (e2 (m-1) t.aI) (eB (m-1) t.bf)else 0) →
   au (S.q4 Φ (D m) (.ak t.cells) Q) ([D acc,D i],H):=by
  intro xs;induction xs with
  | nil=>
   intro i acc c a0 Y a;have r:=db c;refine au.step ?_;simp only[S.q4,aq,bh,cw,fq,bH,G,bb,bG];rw[cZ];simp only[aB,S.vy,aq,ai,Yf,cu];refine n acc a0 Y ?_;have:(if 1<m then e2 (m-1) ([]:List aT)else 0)=0:=by split<;>rfl
   rw[this]at a;omega
  | cons x xs g=>
   intro i acc c a0 Y a;obtain⟨j,d,k⟩:=c8 c;refine au.step ?_;simp only[S.q4,aq,bh,cw,fq,bH,G,bb,bG];rw[ch];simp only[dv,G,aB,S.vy,aq,ai];apply fv<;>intro h
   · have b:1<m:=by simp only[dh,gt_iff_lt]at h;omega
     rw[aa b]at a;simp only[e2,rD]at a;have s:=pn x.type (m-1) (by omega);simp only[S.F4,aq,bh,cw,fq,G];rw[cp j];simp only[G,d_,M,JE H d,dA];rw[l b];refine hf b x (Y7 d) _ _ ?_;simp only[dv,G,ai];have next:∀v:Int,v=max acc (ea (m-1) x.type)→U (S.vv Φ ([D acc,D i],H) (au (S.q4 Φ (D m) (.ak t.cells) Q)) Q) [D v] H:=by intro v hv;simp only[aB,S.vv,aq,bh,bu,G];rw[bM,fb i];refine g (i+1) v k (by omega) (by omega) ?_;rw[aa b]at a ⊢;rw[hv,←a];omega
     refine fv (λh=>next _ ?_) (λh=>next _ ?_)
     ·simp only[dh,gt_iff_lt]at h;omega
     ·simp only[decide_eq_false_iff_not,gt_iff_lt]at h;omega
   · have b:¬1<m:=by simp only[decide_eq_false_iff_not,gt_iff_lt]at h;omega
     refine n acc a0 Y ?_;simp only[ab b]at a ⊢;omega
 unfold S.f79;simp only[fH,aV];refine u t.aI 0 0 rfl (by omega) (by omega) ?_;split
 · have:=xe t.aI (m-1) (by omega);omega
 ·omega
end
end Rb

namespace Rb
open Go
theorem ik{x:Bool}(h:true=!x):x=false:=by cases x;rfl;cases h
theorem il{x:Bool}(h:false=!x):x=true:=by cases x;cases h;rfl
section
variable{Φ:ae}{H:Z}{Q:ad}
theorem Sx(W:Cl Φ S.cr){t:aC}(be:t.aI.length≤9223372036854775807)(hf:∀f∈t.aI,bR Φ 80 [.agg f.type.cells] (D (cO f.type)))
  (he:∀e∈t.bf,bR Φ 80 [.agg e.cells] (D (cO e))) (ah:∀H',Q (D (cO t)) H'):S.f80 Φ (.agg t.cells) H Q:=by
 have fin:∀v H',v=cO t→Q (D v) H':=λv H' h=>by rw[h];exact ah H'
 clear ah;rw[gT]at fin;unfold S.f80;simp only[fH,aV,cw,ia,G,bc,ai];have B:∀n:Nat,decide ((n:Int)>0)=!(n==0):=λn=>by rw[YG];simp;omega
 have num:(t.kind=1∨t.kind=2)→U (S.o7 Φ (.ak t.cells) (D t.kind) Q) [bd] H:=by
  intro hk;have m:fG t.kind t.size t.packed t.aI.length t.bZ t.bf.length=(!t.packed&&t.aI.length==0&&t.bZ==0&&t.bf.length==0):=by unfold fG;rw[aa hk]
  rw[m]at fin;clear m;have X:∀b:Bool,(∀H',Q (D (if b=true then 9 else 0)) H')→U (S.q5 Φ Q) [.bool b] H:=by
   intro b a;simp only[aB,S.q5,aq,ai];cases b
   ·exact a H
   ·exact a H
  have aM:(!t.packed&&t.aI.length==0&&t.bZ==0&&t.bf.length==0)=true→U (S.Ae Φ (.ak t.cells) Q) [] H:=by
   intro hc;rw[hc]at fin;simp only[ZY,cu]at fin;simp only[aB,S.Ae,cw,ia,kx,G,bc,bG];apply fv<;>intro h
   · have j:t.kind=1:=by simpa using h
     rw[aa j]at fin;refine S.HN W (JD (.inl rfl) ?_);simp only[cV,G,S.vz,aq,b7,cw,ia,bc,bG,j];apply iV<;>intro h
     · rw[aN];refine X _ λH'=>fin _ _ ?_;have:dU t.size 8=true:=by simpa using h
       rw[aa this];rfl
     · refine X _ λH'=>fin _ _ ?_;have:dU t.size 8=false:=by simpa using h
       rw[this];rfl
   · have j:t.kind≠1:=by simpa using h
     have o:t.kind=2:=by omega
     rw[ab j,aa o]at fin;simp only[S.vz,aq,b7,cw,ia,kx,bc,bG,o,G,aY,BEq.rfl];refine S.HN W (JD (.inr rfl) ?_);simp only[cV,G];refine X _ λH'=>fin _ _ ?_;cases dU t.size 16<;>rfl
  have aj:∀b:Bool,b=!(!t.packed&&t.aI.length==0&&t.bZ==0&&t.bf.length==0)→U (S.vA Φ (.ak t.cells) Q) [.bool b] H:=by
   intro b a;simp only[aB,S.vA,aq,ai];apply fv<;>intro h
   · refine fin _ _ ?_;rw[h]at a;rw[aa (by first|exact ik a|exact il a)]
   · rw[h]at a;exact aM (by first|exact ik a|exact il a)
  have al:∀b:Bool,b=!(!t.packed&&t.aI.length==0&&t.bZ==0)→U (S.vC Φ (.ak t.cells) Q) [.bool b] H:=by
   intro b a;simp only[aB,S.vC,aq,b7,cw,gL,bH,dv,G,B];apply iV<;>intro h
   · refine aj _ ?_;rw[h]at a;have:(!t.packed&&t.aI.length==0&&t.bZ==0)=true:=by first|exact ik a|exact il a
     rw[this];rfl
   · refine aj _ ?_;rw[h]at a;have:(!t.packed&&t.aI.length==0&&t.bZ==0)=false:=by first|exact ik a|exact il a
     rw[this];rfl
  have am:∀b:Bool,b=!(!t.packed&&t.aI.length==0)→U (S.vD Φ (.ak t.cells) Q) [.bool b] H:=by
   intro b a;simp only[aB,S.vD,aq,b7,cw,mD,cU,G];apply iV<;>intro h
   · refine al _ ?_;rw[h]at a;have:(!t.packed&&t.aI.length==0)=true:=by first|exact ik a|exact il a
     rw[this];rfl
   · refine al _ ?_;rw[h]at a;have:(!t.packed&&t.aI.length==0)=false:=by first|exact ik a|exact il a
     rw[this];rfl
  simp only[aB,S.o7,aq,ai,aY,cw,k3,fq,G,b7,bH,dv,B];apply iV<;>intro h
  ·exact am _ (by rw[h];rfl)
  ·exact am _ (by rw[h];rfl)
 apply fv<;>intro Y
 ·rw[Y];exact num (.inl (by simpa using Y))
 have j:t.kind≠1:=by simpa using Y
 refine(λ(x:∀b:Bool,b=(t.kind==2)→U (S.o7 Φ (.ak t.cells) (D t.kind) Q) [.bool b] H)=>x _ rfl) λb a=>?_;by_cases o:t.kind=2
 ·rw[a,show(t.kind==2)=true by simpa using o];exact num (.inr o)
 have aO:b=false:=by rw[a];simpa using o
 subst aO;simp only[aB,S.o7,aq,ai,Yf,cu,bc,G];apply fv<;>intro an
 ·
   have s:t.kind=5:=by simpa using an
   have m:fG t.kind t.size t.packed t.aI.length t.bZ t.bf.length=(t.size==0&&!t.packed&&t.aI.length==0&&t.bf.length==1):=by unfold fG;rw[bF,bF,aa s]
   rw[m,ab j,ab o,aa s]at fin;clear m;have aP:(t.size==0&&!t.packed&&t.aI.length==0&&t.bf.length==1)=true→U (S.Af Φ (.ak t.cells) Q) [] H:=by
    intro hc;rw[hc]at fin;simp only[ZY,cu]at fin;obtain ⟨e,C⟩:∃e,t.bf=[e]:=by simp only[Wn,b9]at hc;exact List.length_eq_one_iff.1 hc.2
    have ao:∀b:Bool,(b=true↔(t.bZ<1∨65536<t.bZ))→U (S.vF Φ (.ak t.cells) Q) [.bool b] H:=by
     intro b a;simp only[aB,S.vF,aq,ai];apply aH<;>intro h
     ·exact fin _ _ (by rw[aa (a.1 h)])
     · rw[ab λx=>h (a.2 x)]at fin;simp only[S.F7,cw,gL,G];have aQ:aU none 6 (aD aC.cells t.bf) (J)=some (d_ aC.cells 6 t.bf 0):=cp (by rw[C];simp);rw[aQ];simp only[G];rw[dd aC.len (by decide) _ (show t.bf[0]?=some e by rw[C];rfl)];simp only[G];refine he e (by rw[C];simp) _ _ ?_;exact fin _ _ (by rw[C];rfl)
    simp only[aB,S.Af,cw,mD,G,bb,b7,dv];apply iV<;>intro h
    · refine ao _ ?_;have E:¬t.bZ<1:=by simpa using h
      simp only[dh,gt_iff_lt];omega
    · refine ao _ ?_;have E:t.bZ<1:=by simpa using h
      simp only[true_iff];omega
   have ap:∀b:Bool,b=!(t.size==0&&!t.packed&&t.aI.length==0&&t.bf.length==1)→U (S.vG Φ (.ak t.cells) Q) [.bool b] H:=by
    intro b a;simp only[aB,S.vG,aq,ai];apply fv<;>intro h
    · refine fin _ _ ?_;rw[h]at a;rw[aa (by first|exact ik a|exact il a)]
    · rw[h]at a;exact aP (by first|exact ik a|exact il a)
   have aS:((t.bf.length:Int) != 1)=!(t.bf.length==1):=by rw[YG];simp;omega
   have ar:∀b:Bool,b=!(t.size==0&&!t.packed&&t.aI.length==0)→U (S.vH Φ (.ak t.cells) Q) [.bool b] H:=by
    intro b a;simp only[aB,S.vH,aq,b7,cw,gL,bH,cU,G,aS];apply iV<;>intro h
    · refine ap _ ?_;rw[h]at a;have:(t.size==0&&!t.packed&&t.aI.length==0)=true:=by first|exact ik a|exact il a
      rw[this];rfl
    · refine ap _ ?_;rw[h]at a;have:(t.size==0&&!t.packed&&t.aI.length==0)=false:=by first|exact ik a|exact il a
      rw[this];rfl
   have av:∀b:Bool,b=!(!t.packed&&t.aI.length==0)→U (S.vI Φ (.ak t.cells) Q) [.bool b] H:=by
    intro b a;simp only[aB,S.vI,aq,b7,cw,kx,cU,G];apply iV<;>intro h
    · refine ar _ ?_;rw[h]at a;have:(!t.packed&&t.aI.length==0)=true:=by first|exact ik a|exact il a
      rw[aaG,this,aar];rfl
    · refine ar _ ?_;rw[h]at a;have:(!t.packed&&t.aI.length==0)=false:=by first|exact ik a|exact il a
      rw[aaG,this,Bool.and_false];rfl
   simp only[cw,k3,fq,G,b7,bH,dv,B];apply iV<;>intro h
   ·exact av _ (by rw[h];rfl)
   ·exact av _ (by rw[h];rfl)
 have s:t.kind≠5:=by simpa using an
 rw[ab j,ab o,ab s]at fin;have aw : ∀ b : Bool, (b=true↔(t.kind=3∨t.kind=4))→U (S.vO Φ (.ak t.cells) Q) [.bool b] H:=by
  intro b a;simp only[aB,S.vO,aq,ai];apply aH<;>intro ax
  · have hk := a.1 ax;have m:fG t.kind t.size t.packed t.aI.length t.bZ t.bf.length=(t.size==0&&t.bZ==0&&t.bf.length==0):=by
     unfold fG;rw[bF,aa hk]
    rw[m]at fin;clear m;have aW : (t.size == 0&&t.bZ==0&&t.bf.length==0)=true→U (S.Ai Φ (.ak t.cells) Q) [] H:=by
     intro hc;rw[hc]at fin;simp only[ZY,cu]at fin;have ay : ∀ b : Bool,(b=true↔(t.aI.length<1∨32<t.aI.length))→U (S.vL Φ (.ak t.cells) Q) [.bool b] H:=by
      intro b a;simp only[aB,S.vL,aq,ai];apply aH<;>intro h
      ·exact fin _ _ (by rw[aa (a.1 h)])
      · have p : ¬ (t.aI.length<1∨32<t.aI.length):=λx=>h (a.2 x);rw[ab p]at fin;simp only[S.Ga];have main : ∀ (r : List aT) (i:Nat) (H1:Z),t.aI.drop i=r→fp t.packed ((t.aI.take i).map aT.name) r=fp t.packed [] t.aI→au (S.o6 Φ (.ak t.cells) Q) ([D i],H1):=by
         intro r;induction r with
         | nil=>intro i H1 ac hs;have hle:=db ac;refine au.step ?_;simp only[S.o6,aq,cw,fq,bH,G,bb,ai];rw[cZ];exact fin _ _ (by rw[←hs];rfl)
         | cons f r aX =>
          intro i H1 ac hs;obtain⟨aZ,hi,a0⟩:=c8 ac;refine au.step ?_;simp only[S.o6,aq,cw,fq,bH,G,bb,ai];rw[ch,cp aZ];simp only[G];rw[dd aT.len (by decide) _ hi];simp only[G,aV,aR,aY];rw[bO _ _ _ 9 f.len f.scalar rfl];simp only[G,M,WW,W7];have u:O (H1.push (.row f.cells)) 1 false (.ptr H1.n 0)=some (.str f.name):=by rw[e9,pk]
          have F:O (H1.push (.row f.cells)) 1 false (.ptr H1.n 7)=some (.bool f.bits):=by rw[e9,AQ]
          have az:O (H1.push (.row f.cells)) 1 false (.ptr H1.n 8)=some (D f.bn):=by rw[e9,H5]
          have r1:O (H1.push (.row f.cells)) 6 true (.ptr H1.n 1)=some (.agg f.type.cells):=by rw[e9,xd]
          have a1:O (H1.push (.row f.cells)) 1 false (.ptr H1.n 1)=some (D f.type.kind):=by rw[e9,AR]
          have rs:O (H1.push (.row f.cells)) 1 false (.ptr H1.n 2)=some (D f.type.size):=by rw[e9,H6]
          generalize H1.push (.row f.cells)=g at *;generalize H1.n=id at *;simp only[fp]at hs;have bad:∀v H',v=gp t.packed ((t.aI.take i).map aT.name) f→v≠0→Q (D v) H':=λv H' hv a2=>by refine fin _ _ ?_;rw[←hs,aa (by rw[←hv];exact a2),hv]
          have I:gp t.packed ((t.aI.take i).map aT.name) f=0→U (S.Ag Φ ([D i],H1) (au (S.o6 Φ (.ak t.cells) Q)) Q) [] g:=by intro a3;rw[ab (by simpa using a3)]at hs;simp only[aB,S.Ag,aq,bu,G];rw[bM,fb i];refine aX (i+1) g a0 ?_;rw[ZP,hi];simpa using hs
          generalize bg:(au (S.o6 Φ (.ak t.cells) Q))=L at *;have a4 : ¬ (dL f.name=false∧(f.name≠[]∨f.bits=false))→¬(f.name≠[]∧((t.aI.take i).map aT.name).contains f.name=true)→U (S.Ah Φ (.ak t.cells) (.ptr id 0) ([D i],H1) L Q) [] g:=by
           intro K a5;rw[k4,ab K,ab a5]at bad I;simp only[aB,S.Ah,M,W7,G,r1];refine hf f (Y7 hi) _ _ ?_;simp only[cU,G,ai];apply aH<;>intro h
           · have E:cO f.type≠0:=by simpa using h
             exact bad _ _ (by rw[aa E]) E
           · have l : cO f.type=0:=by simpa using h
             rw[ab (by simpa using l)]at bad I;have N : ∀b:Bool,(b=true↔((f.bits=false∧f.bn≠0)∨(f.bits=true∧(f.type.kind≠1∨t.packed=true))))→U (S.o5 Φ (.ptr id 0) ([D i],H1) L Q) [.bool b] g:=by
              intro b a;simp only[aB,S.o5,aq,ai];apply aH<;>intro h
              ·exact bad _ _ (by rw[aa (a.1 h)]) (by decide)
              · have aA : ¬((f.bits=false∧f.bn≠0)∨(f.bits=true∧(f.type.kind≠1∨t.packed=true))):=λx=>h (a.2 x);rw[ab aA]at bad I;have y:∀b:Bool,(b=true↔(f.bits=true∧(f.bn<0∨8*f.type.size<f.bn∨(f.bn=0∧f.name≠[]))))→U (S.nA Φ ([D i],H1) L Q) [.bool b] g:=by
                 intro b a;simp only[aB,S.nA,aq,ai];apply aH<;>intro h
                 ·exact bad _ _ (by rw[aa (a.1 h)]) (by decide)
                 ·exact I (by rw[ab λx=>h (a.2 x)])
                simp only[S.F9,M,W7,G,F,bG];apply aH<;>intro c
                · have j:f.type.kind=1:=by
                    by_cases hk:f.type.kind=1
                    ·exact hk
                    ·exact absurd (.inr ⟨c,.inl hk⟩) aA
                  have bh:1≤f.type.size∧f.type.size≤8:=by
                   rw[gT,j]at l;split at l
                   ·cases l
                   · simp only[aY]at l;split at l
                     · rename_i z;simp[dU]at z;omega
                     ·cases l
                  simp only[az,bb,G,b7];apply aH<;>intro hw
                  · simp only[rs,G,fD];rw[bM];simp only[dv,G,b7];apply aH<;>intro P
                    · simp only[bc,G,bG];apply aH<;>intro T
                      · simp only[WW,u,G,ky];refine y _ ?_;simp only[decide_eq_false_iff_not,gt_iff_lt,b9]at hw P T;simp[c,T];omega
                      · refine y _ ?_;simp only[decide_eq_false_iff_not,gt_iff_lt,b9]at hw P T;simp[c,T];omega
                    · refine y _ ?_;simp only[decide_eq_false_iff_not,ZC,gt_iff_lt]at P;simp[c,P]
                  · refine y _ ?_;simp only[decide_eq_false_iff_not,ZC]at hw;simp[c,hw]
                · refine y _ ?_;simp[c]
             have aE:∀b:Bool,(b=true↔(f.bits=false∧f.bn≠0))→U (S.vK Φ (.ak t.cells) (.ptr id 0) ([D i],H1) L Q) [.bool b] g:=by
              intro b a;simp only[aB,S.vK,aq,b7,M,W7,G,F];apply aH<;>intro h
              · have p:¬(f.bits=false∧f.bn≠0):=λx=>by rw[a.2 x]at h;cases h
                simp only[bG];apply aH<;>intro c
                · have a6:O g 1 false (.ak (t.cells.drop 2))=some (.bool t.packed):=k3 t g;simp only[a6,G];apply aH<;>intro z
                  · simp only[WW,a1,G,cU];refine N _ ?_;simp[c,z]
                  · refine N _ ?_;simp only[ZV]at z;simp[c,z]
                · refine N _ ?_;simp only[ZU]at c;simp only[c]at p ⊢;simp at p;simp[p]
              · refine N _ ?_;have:=a.1 (by simpa using h);simp[this]
             simp only[F,cV,G,bG,az,cU];apply aH<;>intro c
             · refine aE _ ?_;simp only[Yu]at c;simp[c]
             · refine aE _ ?_;simp only[Yu,ZV]at c;simp[c]
          have ad : ∀b:Bool,(b=true↔(dL f.name=false∧(f.name≠[]∨f.bits=false)))→U (S.q7 Φ (.ak t.cells) (.ptr id 0) ([D i],H1) L Q) [.bool b] g:=by
           intro b a;simp only[aB,S.q7,aq,ai];apply aH<;>intro h
           ·exact bad _ _ (by rw[k4,aa (a.1 h)]) (by decide)
           · have K : ¬(dL f.name=false∧(f.name≠[]∨f.bits=false)):=λx=>h (a.2 x);simp only[S.F_];have inner:∀(d k:Nat),k+d=i→(∀w∈t.aI.take k,¬(f.name≠[]∧w.name=f.name))→au (S.q6 Φ (.ak t.cells) (.ptr id 0) ([D i],H1) L Q) ([D k],g):=by
              intro d;induction d with
              | zero=>
               intro k hk hw;refine au.step ?_;simp only[S.q6,aq,bb,G,ai];rw[cZ];refine a4 K λx=>?_;obtain⟨ae,V⟩:=x;rw[aaw,YX]at V;obtain⟨w,a7,a8⟩:=V;have a9:k=i:=by omega
               rw[a9]at hw;exact hw w a7 ⟨ae,a8⟩
              | succ d a_=>
               intro k hk hw;have aF:k<t.aI.length:=by omega
               obtain⟨w,af⟩:∃w,t.aI[k]?=some w:=⟨_,Xc aF⟩
               refine au.step ?_;simp only[S.q6,aq,bb,G,ai];rw[ch];simp only[M,WW,u,G,ky,bG];have aG:∀b:Bool,(b=true↔(f.name≠[]∧w.name=f.name))→U (S.vJ Φ ([D k],g) (au (S.q6 Φ (.ak t.cells) (.ptr id 0) ([D i],H1) L Q)) Q) [.bool b] g:=by
                intro b a;simp only[aB,S.vJ,aq,ai];apply aH<;>intro h
                · obtain ⟨ae,V⟩:=a.1 h;refine bad _ _ ?_ (by decide);have hc:((t.aI.take i).map aT.name).contains f.name=true:=by
                   rw[aaw,YX];refine⟨w,?_,V⟩;have:(t.aI.take i)[k]?=some w:=by rw[Wj,df];exact af
                   exact Y7 this
                  rw[k4,ab K,aa ⟨ae,hc⟩]
                · simp only[S.F8,aq,bu,G];rw[bM,fb k];refine a_ (k+1) (by omega) λR q=>?_;rw[ZP,af]at q;rcases YB.1 q with q|q
                  ·exact hw R q
                  · simp at q;subst q;exact λx=>h (a.2 x)
               apply fv<;>intro aJ
               · have ba:O g 1 false (.ak (t.cells.drop 3))=some (aD aT.cells t.aI):=fq t g;simp only[ba,G];rw[cp aF];simp only[G,d_,M,JF g af,WW,u,fc];refine aG _ ?_;have:f.name≠[]:=by simpa using aJ
                 simp[this]
               · refine aG _ ?_;have:f.name=[]:=by simpa using aJ
                 simp[this]
             exact inner i 0 (by omega) λw hw=>by simp at hw
          simp only[u,G];refine S.AG W (BV ?_);simp only[cV,G,bG];apply fv<;>intro p
          · have ag:dL f.name=false:=by simpa using p
            simp only[u,G,fc,bG];apply fv<;>intro he
            · simp only[F,G,cV];refine ad _ ?_;have:f.name=[]:=by simpa using he
              have l:dL []=false:=rfl;simp[this,l]
            · refine ad _ ?_;have:f.name≠[]:=by simpa using he
              simp[ag,this]
          · refine ad _ ?_;have ag:dL f.name=true:=by simpa using p
            simp[ag]
        exact main t.aI 0 H rfl rfl
     simp only[aB,S.Ai,cw,fq,bH,G,bc,b7,dv];apply iV<;>intro h
     · refine ay _ ?_;simp only[beq_eq_false_iff_ne,ne_eq]at h;simp only[dh,gt_iff_lt];omega
     · refine ay _ ?_;simp only[b9]at h;simp only[true_iff];omega
    have aK:∀b:Bool,b=!(t.size==0&&t.bZ==0&&t.bf.length==0)→U (S.vM Φ (.ak t.cells) Q) [.bool b] H:=by
     intro b a;simp only[aB,S.vM,aq,ai];apply fv<;>intro h
     · refine fin _ _ ?_;rw[h]at a;rw[aa (by first|exact ik a|exact il a)]
     · rw[h]at a;exact aW (by first|exact ik a|exact il a)
    have aL:∀b:Bool,b=!(t.size==0&&t.bZ==0)→U (S.vN Φ (.ak t.cells) Q) [.bool b] H:=by
     intro b a;simp only[aB,S.vN,aq,b7,cw,gL,bH,dv,G,B];apply iV<;>intro h
     · refine aK _ ?_;rw[h]at a;have:(t.size==0&&t.bZ==0)=true:=by first|exact ik a|exact il a
       rw[this];rfl
     · refine aK _ ?_;rw[h]at a;have:(t.size==0&&t.bZ==0)=false:=by first|exact ik a|exact il a
       rw[this];rfl
    simp only[cw,kx,mD,G,cU,b7];apply iV<;>intro h
    · refine aL _ ?_;have:(t.size==0)=true:=by simpa using h
      rw[this];rfl
    · refine aL _ ?_;have:(t.size==0)=false:=by simpa using h
      rw[this];rfl
  · have hk:¬(t.kind=3∨t.kind=4):=λx=>ax (a.2 x);refine fin _ _ ?_;have:fG t.kind t.size t.packed t.aI.length t.bZ t.bf.length=false:=by unfold fG;rw[bF,ab hk,ab s]
    rw[aa this]
 apply fv<;>intro A
 · refine aw _ ?_;rw[A];simp only[b9]at A;simp[A]
 · refine aw _ ?_;simp only[beq_eq_false_iff_ne,ne_eq]at A;simp[A]
end
section
variable{C:Ctx}(aw:cY C)(W:Cl (aj C) S.cr)
include aw W
theorem Sy:∀(m:Nat),1≤m→m≤65→∀t:aC,t.ok→bR (aj C) 79 [.agg t.cells,D m] (D (ea m t)):=by
 intro m;induction m with
 |zero=>intro h;omega
 | succ m a=>intro _ hm t ht;obtain⟨b,c,d,g⟩:=Rb.dc ht;exact λH Q i=>S.OS W (Sw (by omega) hm b d (λh f hf=>a (by omega) (by omega) f.type (c f hf)) (λh e he=>a (by omega) (by omega) e (g e he)) i)
theorem Sz:∀t:aC,t.ok→bR (aj C) 80 [.agg t.cells] (D (cO t)):=by refine aC.ind λt a b ht=>?_;obtain⟨c,d,i,g⟩:=Rb.dc ht;exact bR.of aw (by simp[I.cv,I.b6,aC.b6]) rfl λQ h=>S.OT W (Sx W c (λf hf=>a f hf (d f hf)) (λe he=>b e he (g e he)) h)
theorem JG(t:aC)(ht:t.ok):bR (aj C) 50 [.agg t.cells] (D (dP t)):=by
 intro H Q a;refine S.Oo W ?_;unfold S.f50;simp only[fH,aV,iO,G];refine Sy aw W 65 (by omega) (by omega) t ht _ _ ?_;simp only[dv,G,ai];unfold dP at a;apply aH<;>intro h
 ·rw[aa (by simpa using h)]at a;exact a
 · rw[ab (by simpa using h)]at a;exact Sz aw W t ht _ _ a
end
end Rb

namespace Rb
open Go
section
variable{C:Ctx}(aw:cY C)(W:Cl (aj C) S.cr)
include aw W
theorem JH(t:aC)(ht:t.ok):bR (aj C) 22 [.agg t.cells] (D (bT t).2):=by
 refine bR.of aw (by simp[I.cv,I.b6,aC.b6]) rfl λQ a=>S.Od W ?_;unfold S.f22;unfold bT at a;simp only[fH,aV,iO,G];refine JG aw W t ht _ _ ?_;simp only[bc,G,bG,aB];apply aH<;>intro h
 · have h:dP t=0:=by simpa using h
   rw[ab (by simpa using h)]at a;refine Sl aw W t ht _ _ ?_;unfold S.uc;simp only[aq,ai,aB];apply aH<;>intro q
   · rw[aa q]at a;unfold S.qG;simp only[aq,bc,G,bG,aB,S.qF,ai];rw[aN,aN];exact a _
   · rw [ab q]at a;unfold S.qG;simp only[aq,bc,G,bG,aB,h];rw[dW,iO];simp only[G];refine xU aw W t (ja h) _ _ λsz al l1 l2 o1 o2 lg H' E i1 f d e=>?_;rw[show j_ 4 1 false (.agg (b8 sz al o1 o2 lg))=some (.bool lg)from rfl];simp only[G,S.qF,aq,ai];cases b:(bp t).2 with
     | true=>rw[(d b).1,aN];rw[ab (by rw[b];decide)]at a;exact a _
     | false=>rw[e b,aa rfl];rw[aa b]at a;exact a _
 · have c:dP t≠0:=by simpa using h
   rw[aa c]at a;unfold S.uc;simp only[aq,ai,aB];rw[aN];unfold S.qG;simp only[aq,bc,G,bG,aB,S.qF,ai];rw[ab (by simpa using c),aN];exact a _
end
end Rb
