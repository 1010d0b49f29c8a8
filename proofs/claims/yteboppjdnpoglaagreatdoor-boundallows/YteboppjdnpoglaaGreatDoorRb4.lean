/- A part of the proof (part 4): see the last text. -/
import Derived.Test.YteboppjdnpoglaaGreatDoorRb3
set_option linter.unusedVariables false
set_option linter.unusedSimpArgs false
set_option linter.unusedSectionVars false
open Bool renaming and_assoc→aep, and_eq_false_iff→ad7, and_eq_true→aar, and_true→aea, eq_iff_iff→acm, false_and→adQ, false_eq_true→abW, not_eq_false→adC, not_eq_true'→ab_, not_eq_true→adB, not_true→adH, or_eq_false_iff→acr, true_and→adP, true_eq_false→adF
open Classical renaming byContradiction→ad3
open Decidable renaming not_not→adJ
open Go.IntKind renaming wrap→abu
open Int renaming add_mul_ediv_left→ad2, ediv_le_self→ad0, ediv_nonneg→adZ, emod_add_mul_ediv→adT, emod_eq_of_lt→ael, emod_lt_of_pos→adW, emod_nonneg→adU, le_refl→adR, max_eq_left→aen, max_eq_right→aem, mul_add→ad4, mul_comm→adX, mul_le_mul→ad6, mul_nonneg→ad5, ne_of_gt→adV, sub_emod→aek, tdiv_eq_ediv_of_nonneg→adY, tdiv→adS, tmod_eq_emod_of_nonneg→ad1, toNat_natCast→aeq
open List renaming all_cons→acP, all_nil→ad_, any_cons→adM, any_eq_false→aeg, any_eq_true→acj, append_assoc→aeo, append_nil→adv, cons_append→abZ, contains_iff_mem→aef, drop_eq_getElem_cons→adn, drop_length_add_append→aei, drop_succ_cons→adj, drop_zero→adf, drop→aej, findIdx?→ads, flatMap_cons→ac0, foldl_cons→aaW, getElem?_cons_succ→ac6, getElem?_cons_zero→ac5, getElem?_eq_getElem→abb, getElem?_eq_some_iff→aal, getElem?_map→aba, getElem?_take→aan, length_append→adm, length_cons→adN, length_eq_zero_iff→abF, length_nil→adO, length_singleton→ad9, length_take→adI, map_append→aed, map_cons→abG, mem_append→acf, mem_cons_of_mem→acp, mem_cons_self→acs, mem_cons→aco, mem_map→acF, mem_of_getElem?→adq, nil_append→aeh, nodup_cons→aet, range'→abQ, sizeOf_lt_of_mem→adA, take_add_one→adw, take_length→adg, take_of_length_le→adp, take→aes, zipWith→aer
open Nat renaming add_mul→aaV, add_zero→aaY, le_of_lt→aee, le_refl→hb, le_succ→aa2, le_trans→sl, lt_of_lt_of_le→xl, lt_succ_self→acR, min_eq_left→aec, zero_add→aa8, zero_le→aaU
open Ne renaming symm→ad8
open Option renaming map_none→aeb, some→aaC
open Bool renaming false→acJ, true→acI
open Option renaming none→acL, some→acK
namespace Rb
open Go
def lY(r:(Int×Int)×Bool):I:= .aA [.agg [D r.1.1,D r.1.2],.bool r.2]
theorem yq{packed:Bool}:∀{l:List aE}{seen:List (List UInt8)},fB packed seen l=0->∀f∈l,f.bits=acI->f.type.kind=1/\1<=f.type.size/\f.type.size<=8
 |[],_,_,f,hf=>by cases hf
 | g :: r, seen,h,f,hf=>by
  intro U;have hs:=oe h f hf;simp only[fB]at h;have a:gA packed seen g=0:=by
   by_cases hz:gA packed seen g=0
   ·exact hz
   ·rw[ab hz]at h;exact absurd h hz
  rw[af (by simpa using a)]at h;rcases aco.1 hf with rfl|hf
  . have hk : f.type.kind=1:=by
      by_cases hk:f.type.kind=1
      ·exact hk
      . exfalso;rw[kV]at a;split at a
        ·cases a
        . split at a
          ·cases a
          . split at a
            ·rename_i hz;exact hz a
            ·rw[ab (.inr ⟨U,.inl hk⟩)]at a;cases a
    refine⟨hk,?_⟩;rw[gB,hk]at hs;split at hs
    ·cases hs
    . simp only[bc]at hs;split at hs
      . rename_i hp;simp[el]at hp;omega
      ·cases hs
  ·exact yq h f hf U
theorem yr{t:X}(h:cW t=0)(b:t.kind=3\/t.kind=4):fB t.packed [] t.Y=0:=by
 rw[gB]at h;have k1:t.kind≠1:=by omega
 have k2:t.kind≠2:=by omega
 have a:t.kind≠5:=by omega
 rw[af k1,af k2,af a]at h;split at h
 ·cases h
 . split at h
   ·cases h
   ·exact h
theorem JY(a b:Int):gH acI [D a,D b]=acK (D (max a b)):=BV a b
section
variable{Φ:ad}{H:Z}{Q:aa}
def iN:List I:=[J,J,A,J]
theorem B8(hT:Cl Φ S.b7){t:X}(hs:cW t=0)(r:t.kind=3\/t.kind=4)
  (ak:∀f∈t.Y,bD Φ 84 [.agg f.type.cells] (lY (L f.type))) (al:∀f∈t.Y,(L f.type).2=acI->1<=(L f.type).1.2)
  (am:dQ t.packed t.kind ⟨0,1,[],0⟩ t.Y=acL->∀H',Z.Ext H H'->Q (.aA [.agg iN,P]) H')
  (an:∀p,dQ t.packed t.kind ⟨0,1,[],0⟩ t.Y=acK p->∀x H',jA H H' 6 x p.dP.length (p.dP.flatMap bj.cells) ->
    Q (.aA [.agg [D (cA p.size p.bp),D p.bp,x,D p.bit],.bool (decide (cA p.size p.bp<=65536))]) H'):S.f112 Φ (.agg t.cells) H Q:=by
 obtain⟨aX,hlen⟩:=lV hs r;have K:=yr hs r;unfold S.f112;simp only[ag];have ao:bS [J,J,A,J] [(0,2,.agg [J,D 1])]=acK (.agg [J,D 1,A,J]):=rfl;simp only[fC,aN,bQ,bc,yp,ao,O];rw[cn _ _ _ 4 rfl rfl rfl];simp only[O,ca,fN,bC];have a3:At ((H.push (.row iN)).push (.row [J,D 1,A,J])) H.n (.row iN):=(At.new H _).push _;have ap:fl H ((H.push (.row iN)).push (.row [J,D 1,A,J])) (H.push (.row iN)).n ⟨0,1,[],0⟩:=⟨_,At.new _ _,((jA.nil H 6).push _).push _,aa2 _⟩
 have d:H.n≠(H.push (.row iN)).n:=by simp
 have M:H.n<=H.n:=hb _;change ar (S.nW Φ (.ae t.cells) (.ptr H.n 0) (.ptr (H.push (.row iN)).n 0) (av aE.cells t.Y) (D t.Y.length) Q) ([J],(H.push (.row iN)).push (.row [J,D 1,A,J]));generalize ((H.push (.row iN)).push (.row [J,D 1,A,J]))=aq at *;generalize (H.push (.row iN)).n=a at *;have main : ∀(fs:List aE)(i:Nat)(p:PL)(H1:Z),t.Y.drop i=fs->At H1 H.n (.row iN)->fl H H1 a p->p.dP.length<=i->1<=p.bp->dQ t.packed t.kind p fs=dQ t.packed t.kind ⟨0,1,[],0⟩ t.Y ->
   ar (S.nW Φ (.ae t.cells) (.ptr H.n 0) (.ptr a 0) (av aE.cells t.Y) (D t.Y.length) Q) ([D i],H1):=by
  intro fs;induction fs with
  | nil=>
   intro i p H1 z b3 m ax ay g;have hle:=c7 z;simp only[dQ]at g;refine ar.step ?_;simp only[ag,S.nW,T,aY,O,au];rw[cQ];simp only[ag,aw,S.H_,aH,aa8,O,m.B6,m.JS];refine S.pS hT (pW (by omega) ?_);refine m.JT _ λH2 s r=>?_;have c3:=r H.n _ d b3;obtain⟨x,d1,d2,d3⟩:=s;have C:x.scalar=acI:=by obtain⟨_,tk,rfl,_⟩:=d2;rfl
   rw[d1.all (n:=4) rfl];simp only[O];have l0:aj H2 1 acJ (.ptr a 0)=acK (D (cA p.size p.bp)):=by rw[d1.load];rfl
   rw[l0];simp only[O,gl];rw[c3.put (n:=4) rfl rfl (by simp only[acP,C];rfl)];simp only[O];refine⟨by rw[(d1.bR (λe=>d e.symm) _).load];rfl,?_⟩;rw[(c3.set _).all (n:=4) rfl];simp only[O];exact an p g.symm x _ (d2.other c3 M _)
  | cons f fs az=>
   intro i p H1 z b3 m ax ay g;obtain⟨aB,hf,aC⟩:=c4 z;have u:=adq hf;simp only[dQ,na]at g;refine ar.step ?_;simp only[ag,S.nW,T,aY,O,au];rw[cM,b6 aB];simp only[O];rw[c8 aE.len (by decide) _ hf];simp only[O,aN,bQ,bc];rw[cn _ _ _ 9 f.len f.scalar rfl];simp only[O,aH,aa8];rw[eE,rX];simp only[O];have n7:a≠H1.n:=by obtain⟨x,d1,_⟩:=m;exact d1.h2
   have aD:=At.new H1 (.row f.cells);have c3:=b3.push (.row f.cells);have s:=m.push (.row f.cells);generalize H1.push _=H2 at *;generalize H1.n=o at *;refine ak f u _ _ ?_;simp only[lY,bA,ac5,ac6,O,aN];rw[cn _ _ _ 2 rfl rfl rfl];simp only[O,dg,au];have n31:a≠H2.n:=by obtain⟨x,d1,_⟩:=s;exact d1.h2
   have d31:=At.new H2 (.row [D (L f.type).1.1,D (L f.type).1.2]);have d22:=aD.push (.row [D (L f.type).1.1,D (L f.type).1.2]);have d3:=c3.push (.row [D (L f.type).1.1,D (L f.type).1.2]);have d7:=s.push (.row [D (L f.type).1.1,D (L f.type).1.2]);generalize H2.push _=aF at *;generalize H2.n=j at *;apply aG<;>intro h
   . have aI:(L f.type).2=acJ:=by simpa using h
     rw[af (by simp[aI])]at g;have aJ:bS [J,J,A,J] []=acK (.agg iN):=rfl;rw[aJ];simp only[O];rw[d3.put (n:=4) rfl rfl rfl];simp only[O];rw[(d3.set _).all (n:=4) rfl];simp only[O];obtain⟨aZ,_,⟨C,_⟩,_⟩:=d7;exact am g.symm _ (C.set M _)
   . have N:(L f.type).2=acI:=by simpa using h
     rw[ab N]at g;have aK:=al f u N;have aL:aj aF 1 acJ (.ptr j 1)=acK (D (L f.type).1.2):=by rw[d31.load];rfl
     simp only[hD,d22.all f.len,aL,O];have a0:1<=fk t.packed f (L f.type).1.2:=by
      unfold fk;split
      ·omega
      . split
        ·rename_i U;exact(yq K f u U).2.1
        ·exact aK
     refine S.Sr hT (TP ?_);simp only[d7.JS,O,JY];refine d7.TI _ λaM R v=>?_;have V:=v H.n _ d d3;have W:=v o _ (λe=>n7 e.symm) d22;have aa:=v j _ (λe=>n31 e.symm) d31;clear v d7 d3 d22 d31;have ac:∀(b:Int)(c:Z),b=(if t.kind=4 then 0 else p.bit)->fl H c a {p with bp:=max p.bp (fk t.packed f (L f.type).1.2),bit:=b}->At c H.n (.row iN)->At c o (.row f.cells)->At c j (.row [D (L f.type).1.1,D (L f.type).1.2]) ->
       S.xq Φ (.ptr a 0) (.ptr o 0) (.ptr j 0) (D (fk t.packed f (L f.type).1.2)) ([D i],H1) (ar (S.nW Φ (.ae t.cells) (.ptr H.n 0) (.ptr a 0) (av aE.cells t.Y) (D t.Y.length) Q)) Q [] c:=by
      intro b c U g7 g3 g22 ad;have k2:∀(q:PL)(k:Z),lX q=ij t.packed t.kind p f (L f.type).1->fl H k a q->At k H.n (.row iN)->q.dP.length<=i+1->1<=q.bp ->
        S.xp Φ (.ptr a 0) ([D i],H1) (ar (S.nW Φ (.ae t.cells) (.ptr H.n 0) (.ptr a 0) (av aE.cells t.Y) (D t.Y.length) Q)) Q [] k:=by
       intro q k aO l aP aQ aR;simp only[ag,S.xp,aH,aa8,O,l.B6,l.oi];refine S.pS hT (pW (by decide) ?_);refine⟨l.B6,?_⟩;simp only[jg _ _ _ (show(8:Int)≠0 by decide),O,JY];refine l.JT _ λE F G=>?_;simp only[ag,aw,S.H9,T,bz,O];rw[bo,fj i];refine az (i+1) (lX q) E aC (G H.n _ d aP) F aQ aR ?_;rw[aO];exact g
      have ah:1<=max p.bp (fk t.packed f (L f.type).1.2):=by omega
      have aS:aj c 1 acJ (.ptr o 7)=acK (.bool f.bits):=by rw[g22.load,ya]
      simp only[ag,S.xq,aH,aa8,O,aS,au];apply aG<;>intro w
      . obtain ⟨a1,a2,a4⟩:=yq K f u w;have hu:B (8*f.type.size)≠0:=by
         show abu .i64 (8*f.type.size)≠0;rw[bo];omega
        rw[g22.all f.len];simp only[O];refine S.Ss hT (TO hT g7 (by show p.dP.length<1000;omega) hu λk l y=>?_);simp only[aw];refine k2 _ k ?_ l (y H.n _ d g3) ?_ ?_
        . unfold ij;simp only[w,bc,U]
        . unfold lW;split<;>(simp only[adm,adN,adO];omega)
        . unfold lW;split<;>exact ah
      . simp only[adB]at w;have aT:aj c 1 acJ (.ptr j 0)=acK (D (L f.type).1.1):=by rw[ad.load];rfl
        have aU:aj c 1 acJ (.ptr o 1)=acK (D f.type.kind):=by rw[g22.load,BU]
        simp only[g7.oi,O];refine S.pS hT (pW (by decide) ?_);simp only[jg _ _ _ (show(8:Int)≠0 by decide),O];refine S.pS hT (pW (by omega) ?_);simp only[aT,aU,O,yp,TM];refine g7.app (by show p.dP.length<1000;omega) ⟨cA (B ((cA b 8).tdiv 8)) (fk t.packed f (L f.type).1.2),(L f.type).1.1,f.type.kind,acJ,0,0⟩ λk l y=>?_;have aV:=y j _ (λe=>n31 e.symm) ad;have aW:aj k 1 acJ (.ptr j 0)=acK (D (L f.type).1.1):=by rw[aV.load];rfl
        simp only[aW,O,bz,gk];refine l.rZ _ λE F G=>?_;simp only[aw];refine k2 _ E ?_ F (G H.n _ d (y H.n _ d g3)) ?_ ah
        . unfold ij;simp only[w,abW,b4,U];rfl
        . show(p.dP++[_]).length<=i+1;simp only[adm,adN,adO];omega
     simp only[ca,h3,bI,O,au,aw];apply aG<;>intro ai
     . refine R.rZ _ λc g7 I=>ac _ c ?_ g7 (I H.n _ d V) (I o _ (λe=>n7 e.symm) W) (I j _ (λe=>n31 e.symm) aa);rw[ab (by simpa using ai)]
     . refine ac p.bit aM ?_ R V W aa;rw[af (by simpa using ai)]
 exact main t.Y 0 _ aq rfl a3 ap (hb _) (by decide) rfl
end
theorem nb{t:X}(h:cW t=0):t.kind=1\/t.kind=2\/t.kind=5\/t.kind=3\/t.kind=4:=by
 rw[gB]at h;split at h
 ·cases h
 . rename_i a;simp only[adC]at a;unfold gm at a;by_cases h1:t.kind=1
   ·exact .inl h1
   by_cases b:t.kind=2
   ·exact .inr (.inl b)
   by_cases c:t.kind=3
   ·exact .inr (.inr (.inr (.inl c)))
   by_cases d:t.kind=4
   ·exact .inr (.inr (.inr (.inr d)))
   by_cases e:t.kind=5
   ·exact .inr (.inr (.inl e))
   simp[h1,b,c,d,e]at a
section
variable{Φ:ad}{H:Z}{Q:aa}
theorem B9:bS [J,J] []=acK (.agg [J,J]):=rfl
theorem TQ(hT:Cl Φ S.b7){t:X}(hs:cW t=0)
  (u:∀f∈t.Y,bD Φ 84 [.agg f.type.cells] (lY (L f.type))) (v:∀f∈t.Y,(L f.type).2=acI->1<=(L f.type).1.2)
  (w:∀e∈t.aK,bD Φ 84 [.agg e.cells] (lY (L e))) (hQ:∀H',Q (lY (L t)) H'):S.f84 Φ (.agg t.cells) H Q:=by
 have fin:∀r,r=L t->∀H',Q (lY r) H':=λr h=>by rw[h];exact hQ
 clear hQ;rw[jW]at fin;unfold S.f84;simp only[ag];simp only[fC,aN,bQ,bc,ca,h3,bI,O,au];have a3:=At.new H (.row [J,J]);generalize H.push _=c at *;generalize H.n=q at *;have k2 : ∀b:Bool,(b=acI↔(t.kind=1\/t.kind=2))->G (S.w7 Φ (.ae t.cells) (.ptr q 0) (D t.kind) Q) [.bool b] c:=by
  intro b U;simp only[ag,aw,S.w7,T,au];apply aG<;>intro h
  . have d:=U.1 h;rw[ab d]at fin;simp only[ca,kp,O,yp];rw[a3.put (n:=2) rfl rfl rfl];simp only[O];rw[(a3.set _).all (n:=2) rfl];simp only[O];exact fin _ rfl _
  . have d:¬(t.kind=1\/t.kind=2):=λy=>h (U.2 y);rw[af d]at fin;simp only[bI,O,au];apply aG<;>intro h
    . have g:t.kind=5:=by simpa using h
      rw[ab g]at fin;obtain⟨e,he,_⟩:=kq hs g;simp only[ca,gK,O];have ha:aL acL 6 (av X.cells t.aK) (J)=acK (di X.cells 6 t.aK 0):=b6 (by rw[he];simp);rw[ha];simp only[O];rw[c8 X.len (by decide) _ (show t.aK[0]?=acK e by rw[he];rfl)];simp only[O];refine w e (by rw[he];simp) _ _ ?_;rw[he]at fin;simp only[f_]at fin;simp only[lY,bA,ac5,ac6,O,aN,bQ,bc];rw[cn _ _ _ 2 rfl rfl rfl];simp only[O,aH,aa8,ca,lU];have n28:q≠c.n:=a3.h2;have l:=At.new c (.row [D (L e).1.1,D (L e).1.2]);have b3:=a3.push (.row [D (L e).1.1,D (L e).1.2]);generalize c.push _=k at *;generalize c.n=i at *;have l1:aj k 1 acJ (.ptr i 0)=acK (D (L e).1.1):=by rw[l.load];rfl
      simp only[l1,O,gk];have s1:cf k 1 (.ptr i 0) (D (B ((L e).1.1*t.bg)))=acK (k.set i (.row [D (B ((L e).1.1*t.bg)),D (L e).1.2])):=by rw[l.store,ab ⟨rfl,rfl,rfl,by simp⟩];rfl
      rw[s1];simp only[O];have m:=l.set (.row [D (B ((L e).1.1*t.bg)),D (L e).1.2]);have c3:=b3.bR n28 (.row [D (B ((L e).1.1*t.bg)),D (L e).1.2]);generalize k.set i (.row [D (B ((L e).1.1*t.bg)),D (L e).1.2])=z at *;rw[m.all (n:=2) rfl];have l2:aj z 1 acJ (.ptr i 0)=acK (D (B ((L e).1.1*t.bg))):=by rw[m.load];rfl
      simp only[O,bP];apply aG<;>intro h
      . simp only[l2,O,gl];rw[c3.put (n:=2) rfl rfl rfl];simp only[O];refine⟨λ_=>?_,?_⟩
        ·rw[(m.bR n28.symm _).load];rfl
        . rw[(c3.set _).all (n:=2) rfl];simp only[O];exact fin ((B ((L e).1.1*t.bg),(L e).1.2),decide (B ((L e).1.1*t.bg)<=65536)) (by rw[h,adP];rfl) _
      . simp only[adB]at h;rw[c3.put (n:=2) rfl rfl rfl];simp only[O];refine And.intro (λy=>nomatch y) ?_;rw[(c3.set _).all (n:=2) rfl];simp only[O];exact fin ((B ((L e).1.1*t.bg),(L e).1.2),acJ) (by rw[h,adQ]) _
    . have g:¬t.kind=5:=by simpa using h
      rw[af g]at fin;have hk:t.kind=3\/t.kind=4:=by
       rcases nb hs with h|h|h|h
       ·exact absurd (.inl h) d
       ·exact absurd (.inr h) d
       ·exact absurd h g
       ·exact h
      simp only[ag,aw,S.HA,hD,O];refine S.BM hT (B8 hT hs hk u v ?_ ?_)
      . intro hn H' o;rw[hn]at fin;simp only[bA,ac5,ac6,O,aN,bQ,bc];rw[cn _ _ _ 4 rfl rfl rfl];simp only[O,aH,aa8];rw[eE];have tk:bO iN 0 2 acI=acK (.agg [J,J]):=rfl;rw[tk];simp only[O];have j:=(a3.ext o).push (.row iN);rw[j.put (n:=2) rfl rfl rfl];simp only[O];rw[(j.set _).all (n:=2) rfl];simp only[O];exact fin ((0,0),acJ) rfl _
      . intro p hp x H' s;rw[hp]at fin;have o:=s.1;have A:x.scalar=acI:=by obtain⟨_,tk,rfl,_⟩:=s;rfl
        simp only[bA,ac5,ac6,O,aN,bQ,bc];rw[cn _ _ _ 4 rfl (by simp only[acP,A];rfl) rfl];simp only[O,aH,aa8];rw[eE];have tk:bO [D (cA p.size p.bp),D p.bp,x,D p.bit] 0 2 acI=acK (.agg [D (cA p.size p.bp),D p.bp]):=rfl;rw[tk];simp only[O];have j:=(a3.ext o).push (.row [D (cA p.size p.bp),D p.bp,x,D p.bit]);rw[j.put (n:=2) rfl rfl rfl];simp only[O];rw[(j.set _).all (n:=2) rfl];simp only[O];exact fin ((cA p.size p.bp,p.bp),decide (cA p.size p.bp<=65536)) rfl _
 apply aG<;>intro h
 ·exact k2 _ ⟨λ_=> .inl (by simpa using h),λ_=>h⟩
 . refine k2 _ ⟨λa=> .inr (by simpa using a),λa=>?_⟩;rcases a with a|a
   ·exact absurd (by simpa using a) h
   ·simpa using a
end
theorem TR(packed:Bool)(kind:Int)(p:PL)(f:aE)(g:Int×Int):p.bp<=(ij packed kind p f g).bp:=by
 have h:(ij packed kind p f g).bp=max p.bp (fk packed f g.2):=by
  unfold ij;simp only;split
  . unfold lX lW;split<;>rfl
  ·rfl
 rw[h];omega
theorem JZ{packed:Bool}{kind:Int}:∀{l:List aE}{p q:PL},dQ packed kind p l=acK q->p.bp<=q.bp
 |[],p,q,h=>by simp only[dQ,aaC.injEq]at h;rw[h];exact adR _
 | f::r,p,q,h=>by
  simp only[dQ]at h;split at h
  ·exact Int.le_trans (TR packed kind p f _) (JZ h)
  ·cases h
theorem ys:∀t:X,cW t=0->(L t).2=acI->1<=(L t).1.2:=by
 refine X.ind λt f c hs h=>?_;rw[jW]at h ⊢;split at h
 . rename_i a;rw[ab a];rw[gB]at hs;split at hs
   ·cases hs
   . have hp:el t.size 8=acI\/el t.size 16=acI:=by
       rcases a with h1|h1
       . rw[ab h1]at hs;split at hs
         ·exact .inl ‹_›
         ·cases hs
       . rw[bL,ab h1]at hs;split at hs
         ·exact .inr ‹_›
         ·cases hs
     show 1<=t.size;rcases hp with hp|hp<;>(simp[el]at hp;omega)
 . rename_i a;rw[af a];split at h
   . rename_i b;rw[ab b];obtain⟨e,he,d⟩:=kq hs b;rw[he]at h ⊢;simp only[f_,aar]at h ⊢;exact c e (by rw[he];simp) d h.1
   . rename_i b;rw[af b];cases hp:dQ t.packed t.kind ⟨0,1,[],0⟩ t.Y with
     |none=>rw[hp]at h;cases h
     |some p=>exact JZ hp
section
variable{C:Ctx}(ak:cP C)(hT:Cl (ai C) S.b7)
include ak hT
theorem yt:∀t:X,cW t=0->bD (ai C) 84 [.agg t.cells] (lY (L t)):=by
 refine X.ind λt c d hs=>?_;refine bD.of ak (by simp[I.bV,I.bu,X.bu]) rfl λQ hQ=>S.Ru hT ?_;have a:gm t.kind t.size t.packed t.Y.length t.bg t.aK.length=acI:=by
  rw[gB]at hs;split at hs
  ·cases hs
  ·rename_i h;simpa using h
 unfold gm at a;have b:∀f∈t.Y,cW f.type=0:=by
  intro f hf;rcases nb hs with h|h|h|h
  . simp only[h,true_or,bc,aar,bZ,abF]at a;rw[a.1.1.2]at hf;cases hf
  . simp only[h,or_true,bc,aar,bZ,abF]at a;rw[a.1.1.2]at hf;cases hf
  . rw[bL,bL,ab h]at a;simp only[aar,bZ,abF]at a;rw[a.1.2]at hf;cases hf
  ·exact(lV hs h).1 f hf
 have g:∀e∈t.aK,cW e=0:=by
  intro e he;rcases nb hs with h|h|h|h
  . simp only[h,true_or,bc,aar,bZ,abF]at a;rw[a.2]at he;cases he
  . simp only[h,or_true,bc,aar,bZ,abF]at a;rw[a.2]at he;cases he
  . obtain⟨k,i,j⟩:=kq hs h;rw[i]at he;rcases aco.1 he with rfl|he
    ·exact j
    ·cases he
  . rw[bL,ab h]at a;simp only[aar,bZ,abF]at a;rw[a.2]at he;cases he
 exact TQ hT hs (λf hf=>c f hf (b f hf)) (λf hf=>ys f.type (b f hf)) (λe he=>d e he (g e he)) hQ
end
def bm(t:X):(Int×Int)×Int:=if dK t≠0 then((0,0),dK t)else if e3 t=acI then((0,0),10)else if(L t).2=acJ then((0,0),9)else((L t).1,0)
theorem fm{t:X}(h:dK t=0):cW t=0:=by
 unfold dK at h;split at h
 ·cases h
 ·exact h
section
variable{C:Ctx}(ak:cP C)(hT:Cl (ai C) S.b7)
include ak hT
theorem B_(t:X)(ht:t.ok){H:Z}{Q:aa}(hQ:∀H',Q (.aA [.agg [D (bm t).1.1,D (bm t).1.2],D (bm t).2]) H'):S.f54 (ai C) (.agg t.cells) H Q:=by
 have fin:∀r,r=bm t->∀H',Q (.aA [.agg [D r.1.1,D r.1.2],D r.2]) H':=λr h=>by rw[h];exact hQ
 clear hQ;unfold bm at fin;unfold S.f54;simp only[ag];simp only[fC,aN,bQ,bc,hD,O];have a3:=At.new H (.row [J,J]);generalize H.push _=a at *;generalize H.n=c at *;refine JJ ak hT t ht _ _ ?_;simp only[cC,O,au];apply aG<;>intro h
 . have hs:dK t≠0:=by simpa using h
   rw[ab hs]at fin;simp only[B9,O];rw[a3.put (n:=2) rfl rfl rfl];simp only[O];rw[(a3.set _).all (n:=2) rfl];simp only[O];exact fin _ rfl _
 . have hs:dK t=0:=by simpa using h
   rw[af (by simpa using hs)]at fin;refine TF hT t ht _ _ ?_;simp only[au];apply aG<;>intro h
   . rw[ab h]at fin;simp only[B9,O];rw[a3.put (n:=2) rfl rfl rfl];simp only[O];rw[(a3.set _).all (n:=2) rfl];simp only[O];exact fin _ rfl _
   . rw [af h]at fin;refine yt ak hT t (fm hs) _ _ ?_;simp only[lY,bA,ac5,ac6,O,aN,bQ,bc];rw[cn _ _ _ 2 rfl rfl rfl];simp only[O,dg,au];have b:=At.new a (.row [D (L t).1.1,D (L t).1.2]);have b3:=a3.push (.row [D (L t).1.1,D (L t).1.2]);generalize a.push _=d at *;generalize a.n=e at *;apply aG<;>intro h
     . rw[ab (by simpa using h)]at fin;simp only[B9,O];rw[b3.put (n:=2) rfl rfl rfl];simp only[O];rw[(b3.set _).all (n:=2) rfl];simp only[O];exact fin _ rfl _
     . rw[af (by simpa using h)]at fin;rw[b.all (n:=2) rfl];simp only[O];rw[b3.put (n:=2) rfl rfl rfl];simp only[O];rw[(b3.set _).all (n:=2) rfl];simp only[O];exact fin _ rfl _
theorem yu(t:X)(ht:t.ok):bD (ai C) 53 [.agg t.cells] (.aA [D (bm t).1.1,D (bm t).1.2,D (bm t).2]):=by refine bD.of ak (by simp[I.bV,I.bu,X.bu]) rfl λQ hQ=>S.Q8 hT ?_;unfold S.f53;simp only[ag];simp only[fC,aN,hD,O];refine S.BL hT (B_ ak hT t ht λH'=>?_);simp only[bA,ac5,ac6,O,aN,bQ,bc];rw[cn _ _ _ 2 rfl rfl rfl];simp only[O,aH,aa8,eE];exact⟨_,rfl,_,rfl,hQ _⟩
end
structure aV where
 u:List (List UInt8)
 lets:Int
 ay:Int
 hE:Int
 aR:Int
def aV.b_(s:aV)(a:Bool)(e:Int):aV:=if a=acJ/\s.aR=0 then {s with hE:=s.ay,aR:=e} else s
def aV.back(s:aV)(n:Nat):aV:={s with u:=s.u.take n}
def aV.at(s:aV)(l:Int):aV:={s with ay:=l}
def aV.lZ(s:aV)(x:List UInt8):aV:={s with u:=s.u++[x],lets:=B (s.lets+1)}
def aV.has(s:aV)(x:List UInt8):Bool:=s.u.any λy=>x==y
def fO(k o:Int):Bool:=
 if k=4\/k=6 then o==1||o==3||o==4
 else if k=5\/k=15 then o==1||o==2||o==4
 else if k=16\/k=17\/k=18 then decide (1<=o)&&decide (o<=4)
 else if k=7 then decide (2<=o)&&decide (o<=4)
 else o==0
def fo(x:aJ):Bool:=x.var==[]&&x.ax.length==0
def eN(k:Int):Bool×Bool×Bool×Int×Bool×Bool:=
 if k=1\/k=2 then(acI,acJ,acJ,1,acJ,acJ)
 else if k=3\/k=4 then(acJ,acJ,acI,1,acJ,acJ)
 else if k=5 then(acI,acI,acI,0,acJ,acJ)
 else if k=6 then(acJ,acJ,acI,2,acJ,acJ)
 else if k=7 then(acJ,acJ,acJ,0,acJ,acJ)
 else if k=8 then(acJ,acJ,acJ,1,acI,acI)
 else if k=9 then(acJ,acJ,acJ,1,acI,acJ)
 else(acJ,acJ,acJ,1,acJ,acJ)
def gp(x:aC):Bool:=decide (1<=x.kind)&&decide (x.kind<=10)&&((eN x.kind).1||x.V==[])&&((eN x.kind).2.1||x.b9==[])&&((eN x.kind).2.2.1||fo x.place)&&((x.bn.length:Int)==(eN x.kind).2.2.2.1)&&((eN x.kind).2.2.2.2.1||x.aZ.length==0)&&((eN x.kind).2.2.2.2.2||x.bw.length==0)
def hh(k:Int):Int×Bool:=if k=3 then(2,acJ)else if k=4\/k=5 then(0,acI)else if k=6\/k=7 then(1,acI)else if k=8 then(2,acI)else(0,acJ)
def fp(e:E):Bool:=decide (1<=e.kind)&&decide (e.kind<=8)&&(e.kind==1||e.n==0)&&(e.kind==2||e.V==[])&&(if e.kind=3 then decide (1<=e.op)&&decide (e.op<=11)else e.op==0)&&((hh e.kind).2||fo e.place)&&((e.br.length:Int)==(hh e.kind).1)
def ga(k:Int)(t:X):Bool:=if k=3\/k=14 then t.kind==1 else if k=5\/k=6 then t.kind==2&&t.size==16 else t.kind==2&&decide (t.size<=8)
section
variable(vars:List aB)
def jh(s:aV)(k:Int)(x:aJ):aV:=
 let s1:=s.b_ ((bG vars x).1==0) (bG vars x).1
 s1.b_ (s1.aR != 0||ga k (bG vars x).2) 8
def dY(s:aV)(d:Int)(e:E):aV:=((s.b_ (decide (d<=64)) 5).b_ (fp e) 4).b_ (fO (B (10+e.kind)) e.a_) 11
mutual
def iO(s:aV)(d:Int):E->aV
 | .mk kind n V op a_ place br=>
  if(dY s d (.mk kind n V op a_ place br)).aR≠0 then dY s d (.mk kind n V op a_ place br)
  else c_ (if kind>=4 then gL (if kind=2 then(dY s d (.mk kind n V op a_ place br)).b_ ((dY s d (.mk kind n V op a_ place br)).has V) 6 else dY s d (.mk kind n V op a_ place br)) (B (10+kind)) d place
    else(if kind=2 then(dY s d (.mk kind n V op a_ place br)).b_ ((dY s d (.mk kind n V op a_ place br)).has V) 6 else dY s d (.mk kind n V op a_ place br))) d br
def c_(s:aV)(d:Int):List E->aV
 |[]=>s
 |e::r=>c_ (if s.aR≠0 then s else iO s (B (d+1)) e) d r
def gL(s:aV)(k:Int)(d:Int):aJ->aV
 | .mk var ax=>if s.aR≠0 then s else eT (jh vars s k (.mk var ax)) d ax
def eT(s:aV)(d:Int):List aI->aV
 |[]=>s
 |p::r=>eT (jY s d p) d r
def jY(s:aV)(d:Int):aI->aV
 | .mk field aS=>fP s d aS
def fP(s:aV)(d:Int):List E->aV
 |[]=>s
 |e::r=>fP (iO s (B (d+1)) e) d r
end
variable(kw:List UInt8->Bool)
def eB(s:aV)(d:Int)(x:aC):aV:=((s.b_ (decide (d<=64)) 5).b_ (gp x) 4).b_ (fO x.kind x.a_) 11
def eg(s:aV)(d:Int)(x:aC):aV:=
 if x.kind=1 then((s.b_ (ek x.V&&!kw x.V) 6).b_ (!s.has x.V) 7).b_ (decide (s.lets<40)) 12
 else if x.kind=2 then s.b_ (s.has x.V) 6
 else if x.kind=3\/x.kind=4\/x.kind=5\/x.kind=6 then gL vars s x.kind d x.place
 else s
def gq(s:aV)(x:aC):aV:=
 if x.kind=1 then s.lZ x.V
 else if x.kind=5 then((s.b_ (s.has x.V) 6).b_ (s.has x.b9) 6).b_ (!(x.V==x.b9)) 7
 else s
def dA(s:aV)(d:Int)(x:aC):aV:=gq (c_ vars (eg vars kw (eB s d x) d x) d x.bn) x
mutual
def stM(s:aV)(d:Int):aC->aV
 | .mk kind ay V b9 a_ place bn aZ bw=>
  eI ((eI (dA vars kw s d (.mk kind ay V b9 a_ place bn aZ bw)) (dA vars kw s d (.mk kind ay V b9 a_ place bn aZ bw)).u.length (B (d+1)) aZ).at ay)
   (((eI (dA vars kw s d (.mk kind ay V b9 a_ place bn aZ bw)) (dA vars kw s d (.mk kind ay V b9 a_ place bn aZ bw)).u.length (B (d+1)) aZ).at ay).u.length) (B (d+1)) bw
def eI(s:aV)(n:Nat)(d:Int):List aC->aV
 |[]=>s.back n
 |x::r=>eI (if s.aR≠0 then s else stM (s.at x.ay) d x) n d r
end
def et(s:aV)(d:Int)(l:List aC):aV:=eI vars kw s s.u.length d l
def l5(a:List (List UInt8))(b:Int):List aB->Int
 |[]=>if b>65536 then 9 else 0
 | v::r=>if ek v.V=acJ\/kw v.V=acI then 6 else if a.contains v.V=acI then 7
  else if(bm v.type).2≠0 then(bm v.type).2 else l5 (a++[v.V]) (B (cA b (bm v.type).1.2+(bm v.type).1.1)) r
end
section
variable(kw:List UInt8->Bool)
def ji(a:List aB):Int:=if 32<a.length then 12 else l5 kw [] 0 a
def s0:aV:=⟨[],0,0,0,0⟩
def kW(vars:List aB):List (List aC)->Int×Int
 |[]=>(0,0)
 |t::r=>if(et vars kw s0 1 t).aR≠0 then((et vars kw s0 1 t).hE,(et vars kw s0 1 t).aR)else kW vars r
def eO(p:dy):Int×Int:=
 if 32<p.vars.length\/p.cO.length<1\/8<p.cO.length then(0,12)
 else if ji kw p.vars≠0 then(0,ji kw p.vars)else kW kw p.vars p.cO
end
theorem Ca(vars:List aB)(s:aV)(d:Int)(e:E):iO vars s d e=if(dY s d e).aR≠0 then dY s d e
  else c_ vars (if e.kind>=4 then gL vars (if e.kind=2 then(dY s d e).b_ ((dY s d e).has e.V) 6 else dY s d e) (B (10+e.kind)) d e.place else(if e.kind=2 then(dY s d e).b_ ((dY s d e).has e.V) 6 else dY s d e)) d e.br:=by
 cases e;rw[iO]
theorem Cb(vars:List aB)(s:aV)(k d:Int)(x:aJ):gL vars s k d x=if s.aR≠0 then s else eT vars (jh vars s k x) d x.ax:=by cases x;rw[gL]
theorem Cc(vars:List aB)(s:aV)(d:Int)(p:aI):jY vars s d p=fP vars s d p.aS:=by cases p;rw[jY]
theorem stM_eq(vars:List aB)(kw:List UInt8->Bool)(s:aV)(d:Int)(x:aC):stM vars kw s d x=et vars kw ((et vars kw (dA vars kw s d x) (B (d+1)) x.aZ).at x.ay) (B (d+1)) x.bw:=by cases x;rw[stM];rfl
theorem ik{s:aV}(h:s.aR≠0)(a:Bool)(e:Int):s.b_ a e=s:=by unfold aV.b_;rw[af λx=>h x.2]
theorem TS{s:aV}(h:s.aR≠0)(d:Int)(e:E):dY s d e=s:=by unfold dY;rw[ik h,ik h,ik h]
section
variable(vars:List aB)(kw:List UInt8->Bool)
theorem J0{s:aV}(h:s.aR≠0)(d:Int)(e:E):iO vars s d e=s:=by rw[Ca,TS h,ab h]
theorem r2{s:aV}(h:s.aR≠0)(d:Int):∀l,c_ vars s d l=s
 |[]=>by rw[c_]
 |e::r=>by rw[c_,ab h,r2 h d r]
theorem J1{s:aV}(h:s.aR≠0)(d:Int):∀l,fP vars s d l=s
 |[]=>by rw[fP]
 |e::r=>by rw[fP,J0 vars h,J1 h d r]
theorem J2{s:aV}(h:s.aR≠0)(d:Int):∀l,eT vars s d l=s
 |[]=>by rw[eT]
 |p::r=>by rw[eT,Cc,J1 vars h,J2 h d r]
theorem TU{s:aV}(h:s.aR≠0)(k d:Int)(x:aJ):gL vars s k d x=s:=by rw[Cb,ab h]
theorem kX{s:aV}(h:s.aR≠0)(n:Nat)(d:Int):∀l,eI vars kw s n d l=s.back n
 |[]=>by rw[eI]
 |x::r=>by rw[eI,ab h,kX h n d r]
theorem J3:∀{l:List (List aC)},(kW kw vars l).2=0↔∀t∈l,(et vars kw s0 1 t).aR=0
 |[]=>by simp[kW]
 | t :: r=>by
  rw[kW];by_cases h:(et vars kw s0 1 t).aR=0
  . rw[af (by simpa using h),J3 (l:=r)];simp[h]
  . rw[ab h];simp[h]
end
end Rb
namespace Rb
open Go
abbrev kr(n:Int):Int:=abu .u64 n
mutual
def J4:E->Int->Int
 | .mk kind n V op a_ place br,m=>if kind>=4 then B (B (m+B (kY place+kZ br 0))+1)else B (m+B (kY place+kZ br 0))
def kZ:List E->Int->Int
 |[],m=>m
 |e::r,m=>kZ r (J4 e m)
def kY:aJ->Int
 | .mk var ax=>J5 ax 0
def J5:List aI->Int->Int
 |[],m=>m
 |p::r,m=>J5 r (J6 p m)
def J6:aI->Int->Int
 | .mk field aS,m=>B (m+kZ aS 0)
end
mutual
def Cd:aC->Int->Int
 | .mk kind ay V b9 a_ place bn aZ bw,m=>
  if 3<=kind/\kind<=7 then B (B (m+B (B (B (kY place+kZ bn 0)+pX aZ 0)+pX bw 0))+1)
  else B (m+B (B (B (kY place+kZ bn 0)+pX aZ 0)+pX bw 0))
def pX:List aC->Int->Int
 |[],m=>m
 |x::r,m=>pX r (Cd x m)
end
structure r3 where
 kind:Int
 site:Int
 ay:Int
 spot:bj
 a_:Int
 op:Int
 d0:Int
 d1:Int
def ct:bj:=⟨0,0,0,acJ,0,0⟩
def J7:r3:=⟨0,0,0,ct,0,0,0,0⟩
def r3.cells(w:r3):List I:= D w.kind :: D w.site :: D w.ay::(w.spot.cells++[D w.a_,D w.op,cY w.d0,cY w.d1])
structure RS where
 jB:List (Int×Int)
 ba:List (List UInt8×Int)
 pr:List Int
 ay:Int
 fuel:Int
 fin:Int
 want:r3
 stop:Bool
 empty:Bool
def RS.get(s:RS)(x:List UInt8):Int:=match s.ba.find? (λl=>l.1==x)with|some l=>l.2|none=>0
def RS.put(s:RS)(x:List UInt8)(v:Int):RS:=match s.ba.findIdx? (λl=>l.1==x)with|some i=>{s with ba:=s.ba.set i (x,v)}|none=>s
def fc:List aB->Int->List bj->Int×Int×List bj
 |[],at',acc=>(0,at',acc)
 | v::r,at',acc=>if(bm v.type).2≠0 then((bm v.type).2,0,[])else
  let x:=B (B (adS (B (B (at'+(bm v.type).1.2)-1)) (bm v.type).1.2)*(bm v.type).1.2);let y:=if x>65536 then 65537 else x
  fc r (B (y+(bm v.type).1.1)) (acc++[⟨B (65536+y),(bm v.type).1.1,0,acJ,0,0⟩])
def mapM(vars:List aB):Int×Int×List bj:=if(fc vars 0 []).1≠0 then((fc vars 0 []).1,0,[])else if(fc vars 0 []).2.1>65536 then(9,0,[])else fc vars 0 []
def jC:List aI->Int->Int
 |[],n=>n
 |p::r,n=>jC r (B (n+p.aS.length))
def cD(t:X):List bj:=match dQ t.packed t.kind ⟨0,1,[],0⟩ t.Y with|some p=>p.dP|none=>[]
def eY:List aI->X->bj->List Int->Option bj
 |[],_,sp,_=>acK sp
 | p :: r,t,sp,idx=>
  if p.aS.length=1 then(match idx with
    |[]=>acL
    | i::q=>if i>=kr t.bg then acL else match t.aK with
     |[]=>acL
     |e::_=>eY r e {sp with at_:=B (sp.at_+B (abu .i64 i*(bm e).1.1)),len:=(bm e).1.1} q)
  else match t.Y.findIdx? (λf=>f.V==p.field)with
   |none=>acL
   | some n=>match t.Y[n]?,(cD t)[n]? with
    |some f,acK s=>eY r f.type {s with at_:=B (s.at_+sp.at_)} idx
    |_,_=>acL
def eu(vars:List aB)(x:aJ)(idx:List Int):bj:=
 if(mapM vars).1≠0 then ct else if(bG vars x).1≠0 then ct else if ¬((bG vars x).2.kind=1\/(bG vars x).2.kind=2)then ct
 else if(idx.length:Int)≠jC x.ax 0 then ct else
 match vars.findIdx? (λv=>v.V==x.var)with
 |none=>ct
 | some n=>match vars[n]?,(mapM vars).2.2[n]? with
  | some v,acK g=>match eY x.ax v.type {ct with at_:=g.at_,len:=g.len} idx with
   |some sp=>{sp with kind:=(bG vars x).2.kind}
   |none=>ct
  |_,_=>ct
def kt(vars:List aB)(x:aJ):Int:=if(bG vars x).1=0 then(bG vars x).2.bg else 0
end Rb
namespace Rb
open Go
structure Bk where
 l:List (Int×Int)
 full:Bool
def dc:List (Int×Int)->List (Int×Int)
 |[]=>[]
 |[x]=>[x]
 |x::y::r=>if x=y then dc (y::r)else x::dc (y::r)
def Bk.tidy(b:Bk):Bk:=⟨dc (eL b.l),b.full||decide ((dc (eL b.l)).length>4096)⟩
def Bk.put(b:Bk)(s:Int×Int):Bk:=if b.full then b else⟨b.l++[s],acJ⟩
def Bk.add(b:Bk)(s:Int×Int):Bk:=if(b.put s).l.length>8192 then(b.put s).tidy else b.put s
def ku(step:Nat->Bk->Bk):Nat->Nat->Bk->Bk
 |0,_,b=>b
 |n+1,i,b=>if b.full then b else ku step n (i+1) (step i b)
def jj(a:Int×Int)(b:Bk):Bk:=if a.2>0 then b.add a else b
mutual
def gu:X->Int->Bk->Bk
 | .mk kind size packed Y bg aK,at_,b=>
  if kind=1\/kind=2 then b.add (at_,size)
  else if kind=5 then(if(f_ aK).1.1>0 then ku (λi b=>oj aK (B (at_+B (i*(f_ aK).1.1))) b) bg.toNat 0 b else b)
  else let r:=fq kind at_ Y (cD (.mk kind size packed Y bg aK)) (0,0) b
   jj r.1 r.2
def oj:List X->Int->Bk->Bk
 |[],_,b=>b
 |t::_,at_,b=>gu t at_ b
def pY:aE->Int->Bk->Bk
 | .mk V type bits aQ,at_,b=>gu type at_ b
def fq(kind at_:Int):List aE->List bj->Int×Int->Bk->(Int×Int)×Bk
 |[],_,run,b=>(run,b)
 |_::_,[],run,b=>(run,b)
 | f::r,s::ss,run,b=>
  let e:=f.bits=acJ\/f.aQ=0\/kind=4;let a:=if e then(0,0)else run
  let b1:=if e then jj run b else b
  if f.bits=acJ then fq kind at_ r ss a (pY f (B (s.at_+at_)) b1)
  else if a.2>0 then fq kind at_ r ss (a.1,B (B (B (s.at_+at_)+s.len)-a.1)) b1
  else if f.aQ>0 then fq kind at_ r ss (B (s.at_+at_),s.len) b1
  else fq kind at_ r ss a b1
end
theorem TV(f:aE)(a:Int)(b:Bk):pY f a b=gu f.type a b:=by cases f;rfl
def e4(t:X):List (Int×Int)×Int:=
 if(bm t).2≠0 then([],(bm t).2)
 else if((gu t 0 ⟨[],acJ⟩).tidy).full then([],12)else(((gu t 0 ⟨[],acJ⟩).tidy).l,0)
end Rb
namespace Rb
open Go
theorem Ce(s:Int×Int):∀l:List (Int×Int),s∈dc l↔s∈l
 |[]=>by rw[dc]
 |[x]=>by rw[dc]
 | x :: y::r=>by
  rw[dc];split
  . rename_i h;subst h;rw[Ce s (x::r)];simp
  ·rw[aco,Ce s (y::r),<-aco]
theorem TW(s:Int×Int)(l:List (Int×Int)):s∈eL l↔s∈l:=(List.mergeSort_perm l _).mem_iff
def Has(b c:Bk)(n:List (Int×Int)):Prop:=c.full=acJ->b.full=acJ/\∀s,s∈c.l↔s∈b.l\/s∈n
theorem Has.refl(b:Bk):Has b b []:=λh=>⟨h,λs=>by simp⟩
theorem Has.trans{b c d:Bk}{n m:List (Int×Int)}(h:Has b c n)(k:Has c d m):Has b d (n++m):=λa=>by obtain⟨k1,k2⟩:=k a;obtain⟨h1,e⟩:=h k1;exact⟨h1,λs=>by rw[k2,e,acf,or_assoc]⟩
theorem Bk.J8(b:Bk):Has b b.tidy []:=λh=>by have h1:(b.full||decide ((dc (eL b.l)).length>4096))=acJ:=h;rw[acr]at h1;exact⟨h1.1,λs=>by show s∈dc (eL b.l)↔_;rw[Ce,TW];simp⟩
theorem Bk.J9(b:Bk)(s:Int×Int):Has b (b.put s) [s]:=λh=>by
 unfold Bk.put at h ⊢;by_cases U:b.full=acI
 ·rw[ab U,U]at h;cases h
 . rw[af U];exact⟨by simpa using U,λx=>by show x∈b.l++[s]↔_;rw[acf]⟩
theorem Bk.J_(b:Bk)(s:Int×Int):Has b (b.add s) [s]:=by
 unfold Bk.add;split
 ·exact(b.J9 s).trans (Bk.J8 _)
 ·exact b.J9 s
def gv(a:Int×Int):List (Int×Int):=if a.2>0 then [a]else []
theorem Ka(a:Int×Int)(b:Bk):Has b (jj a b) (gv a):=by
 unfold jj gv;split
 ·exact b.J_ a
 ·exact Has.refl b
theorem Kb{step:Nat->Bk->Bk}{g:Nat->List (Int×Int)}(hs:∀i b,Has b (step i b) (g i)):∀(n i:Nat)(b:Bk),Has b (ku step n i b) ((abQ i n).flatMap g)
 |0,i,b=>Has.refl b
 | n + 1,i,b=>by
  rw[ku,List.range'_succ,ac0];by_cases U:b.full=acI
  . rw[ab U];intro h;rw[U]at h;cases h
  . rw[af U];exact(hs i b).trans (Kb hs n (i+1) (step i b))
mutual
def ba:X->Int->List (Int×Int)
 | .mk kind size packed Y bg aK,a=>
  if kind=1\/kind=2 then [(a,size)]
  else if kind=5 then(if(f_ aK).1.1>0 then(abQ 0 bg.toNat).flatMap λi:Nat=>om aK (B (a+B ((i:Int)*(f_ aK).1.1)))else [])
  else(eZ kind a Y (cD (.mk kind size packed Y bg aK)) (0,0)).2++gv (eZ kind a Y (cD (.mk kind size packed Y bg aK)) (0,0)).1
def om:List X->Int->List (Int×Int)
 |[],_=>[]
 |t::_,a=>ba t a
def yv:aE->Int->List (Int×Int)
 | .mk V type bits aQ,a=>ba type a
def eZ(kind a:Int):List aE->List bj->Int×Int->(Int×Int)×List (Int×Int)
 |[],_,run=>(run,[])
 |_::_,[],run=>(run,[])
 | f::r,s::ss,run=>
  let e:=f.bits=acJ\/f.aQ=0\/kind=4;let b:=if e then(0,0)else run
  let l1:=if e then gv run else []
  if f.bits=acJ then((eZ kind a r ss b).1,l1++(yv f (B (s.at_+a))++(eZ kind a r ss b).2))
  else if b.2>0 then((eZ kind a r ss (b.1,B (B (B (s.at_+a)+s.len)-b.1))).1,l1++(eZ kind a r ss (b.1,B (B (B (s.at_+a)+s.len)-b.1))).2)
  else if f.aQ>0 then((eZ kind a r ss (B (s.at_+a),s.len)).1,l1++(eZ kind a r ss (B (s.at_+a),s.len)).2)
  else((eZ kind a r ss b).1,l1++(eZ kind a r ss b).2)
end
theorem TX(f:aE)(a:Int):yv f a=ba f.type a:=by cases f;rfl
mutual
theorem Cf:∀(t:X)(a:Int)(b:Bk),Has b (gu t a b) (ba t a)
 | .mk kind size packed Y bg aK,a,b=>by
  rw[gu,ba];split
  ·exact b.J_ _
  . split
    . split
      ·exact Kb (λi b=>TY aK (B (a+B ((i:Int)*(f_ aK).1.1))) b) _ _ b
      ·exact Has.refl b
    . obtain⟨h1,d⟩:=r5 kind a Y (cD (.mk kind size packed Y bg aK)) (0,0) b;dsimp only;rw[h1];exact d.trans (Ka _ _)
theorem TY:∀(l:List X)(a:Int)(b:Bk),Has b (oj l a b) (om l a)
 |[],a,b=>by rw[oj,om];exact Has.refl b
 |t::_,a,b=>by rw[oj,om];exact Cf t a b
theorem TZ:∀(f:aE)(a:Int)(b:Bk),Has b (pY f a b) (yv f a)
 | .mk V type bits aQ,a,b=>by rw[pY,yv];exact Cf type a b
theorem r5(kind a:Int):∀(l:List aE)(ss:List bj)(run:Int×Int)(b:Bk),(fq kind a l ss run b).1=(eZ kind a l ss run).1/\Has b (fq kind a l ss run b).2 (eZ kind a l ss run).2
 |[],_,run,b=>by rw[fq,eZ];exact⟨rfl,Has.refl b⟩
 |_::_,[],run,b=>by rw[fq,eZ];exact⟨rfl,Has.refl b⟩
 | f :: r,s::ss,run,b=>by
  rw[fq,eZ];have h1:Has b (if f.bits=acJ\/f.aQ=0\/kind=4 then jj run b else b) (if f.bits=acJ\/f.aQ=0\/kind=4 then gv run else []):=by
   split
   ·exact Ka run b
   ·exact Has.refl b
  generalize (if f.bits=acJ\/f.aQ=0\/kind=4 then jj run b else b)=b1 at *;generalize (if f.bits=acJ\/f.aQ=0\/kind=4 then gv run else [])=l1 at *;generalize (if f.bits=acJ\/f.aQ=0\/kind=4 then((0,0):Int×Int)else run)=c;split
  . obtain⟨k1,k2⟩:=r5 kind a r ss c (pY f (B (s.at_+a)) b1);exact⟨k1,h1.trans ((TZ f _ _).trans k2)⟩
  . split
    . obtain⟨k1,k2⟩:=r5 kind a r ss (c.1,B (B (B (s.at_+a)+s.len)-c.1)) b1;exact⟨k1,h1.trans k2⟩
    . split
      . obtain⟨k1,k2⟩:=r5 kind a r ss (B (s.at_+a),s.len) b1;exact⟨k1,h1.trans k2⟩
      . obtain⟨k1,k2⟩:=r5 kind a r ss c b1;exact⟨k1,h1.trans k2⟩
end
theorem Kc{t:X}(h:(e4 t).2=0)(s:Int×Int):s∈(e4 t).1↔s∈ba t 0:=by
 unfold e4 at h ⊢;split at h
 ·rename_i a;exact absurd h a
 . rename_i a;rw[af a];split at h
   ·cases h
   . rename_i hf;rw[af hf];have b:((gu t 0 ⟨[],acJ⟩).tidy).full=acJ:=by simpa using hf
     have:=((Cf t 0 ⟨[],acJ⟩).trans (Bk.J8 _)) b;rw[this.2 s];simp
end Rb
namespace Rb
open Go
variable{n step:Int}
def bq(n step:Int):Int:=(n+step-1)/step*step
theorem k0(h:0<step):bq n step%step=0:=by unfold bq;exact Int.mul_emod_left _ _
theorem eJ(a:0<step):n<=bq n step/\bq n step<=n+step-1:=by unfold bq;have h1:=adT (n+step-1) step;have b:=adU (n+step-1) (adV a);have c:=adW (n+step-1) a;rw[adX]at h1;omega
theorem mr(b:0<=n)(c:n<=1000000000)(a:0<step)(d:step<=1000000):cA n step=bq n step:=by have U:=eJ (n:=n) a;unfold cA;rw[wrap_i64 (n:=n+step) (by omega) (by omega),wrap_i64 (n:=n+step-1) (by omega) (by omega),adY (by omega)];have e:0<=(n+step-1)/step:=adZ (by omega) (by omega);have f:(n+step-1)/step<=n+step-1:=ad0 _ (by omega);rw[wrap_i64 (n:=(n+step-1)/step) (by omega) (by omega)];show abu .i64 (bq n step)=_;exact bo
theorem Kd{packed:Bool}:∀{l:List aE}{seen:List (List UInt8)},fB packed seen l=0->∀f∈l,(f.bits=acI->0<=f.aQ/\f.aQ<=8*f.type.size/\packed=acJ)/\(f.bits=acJ->f.aQ=0)
 |[],_,_,f,hf=>by cases hf
 | g :: r, seen, h,f,hf=>by
  simp only[fB]at h;have a:gA packed seen g=0:=by
   by_cases hz:gA packed seen g=0
   ·exact hz
   ·rw[ab hz]at h;exact absurd h hz
  rw[af (by simpa using a)]at h;rcases aco.1 hf with rfl|hf
  . rw [kV] at a;split at a
    ·cases a
    . split at a
      ·cases a
      . split at a
        ·rename_i hz;exact absurd a hz
        . split at a
          ·cases a
          . rename_i b;split at a
            ·cases a
            . rename_i h9;refine⟨λU=>?_,λU=>?_⟩
              . have M:¬f.aQ<0:=λq=>h9 ⟨U,.inl q⟩;have a2:¬8*f.type.size<f.aQ:=λq=>h9 ⟨U,.inr (.inl q)⟩;refine⟨by omega,by omega,?_⟩;cases packed
                ·rfl
                ·exact absurd (.inr ⟨U,.inr rfl⟩) b
              . by_cases hw:f.aQ=0
                ·exact hw
                ·exact absurd (.inl ⟨U,hw⟩) b
  ·exact Kd h f hf
structure hI(p:PL)(n:Nat):Prop where
 b0:0<=p.bit
 b1:p.bit<=n*600000
 s0:0<=p.size
 s1:p.size<=n*75000
 a0:1<=p.bp
 M:p.bp<=16
def yw(packed:Bool)(kind:Int)(p:PL)(f:aE)(g:Int×Int):PL:=
 let b0:=if kind=4 then 0 else p.bit
 let w:=fk packed f g.2;let r:Int×bj:=
  if f.bits=acI then
   if f.aQ=0 then(bq b0 (8*f.type.size),⟨bq b0 (8*f.type.size)/8,0,1,acI,bq b0 (8*f.type.size)%8,0⟩)
   else
    let b:=if b0/(8*f.type.size)≠(b0+f.aQ-1)/(8*f.type.size)then bq b0 (8*f.type.size)else b0
    (b+f.aQ,⟨b/8,(b+f.aQ-1)/8-b/8+1,1,acI,b%8,f.aQ⟩)
  else(8*(bq (bq b0 8/8) w+g.1),⟨bq (bq b0 8/8) w,g.1,f.type.kind,acJ,0,0⟩)
 ⟨max p.size (bq r.1 8/8),max p.bp w,p.dP++[r.2],r.1⟩
theorem yx{packed:Bool}{kind:Int}{p:PL}{n:Nat}(hn:n<=32)(hp:hI p n){f:aE}{g:Int×Int}(s:0<=g.1)(t:g.1<=65536)(a0:1<=g.2)(M:g.2<=16)(U:f.bits=acI->1<=f.type.size/\f.type.size<=8/\0<=f.aQ/\f.aQ<=8*f.type.size) :
  ij packed kind p f g=yw packed kind p f g/\hI (ij packed kind p f g) (n+1):=by
 obtain⟨b0,b1,s0,s1,u,pZ⟩:=hp;have hB:∃b,(if kind=4 then(0:Int)else p.bit)=b/\0<=b/\b<=n*600000:=by
  split
  ·exact⟨0,rfl,adR _,by omega⟩
  ·exact⟨p.bit,rfl,b0,b1⟩
 obtain⟨b,l,c,c1⟩:=hB;have hW:∃w,fk packed f g.2=w/\1<=w/\w<=16:=by
  unfold fk;split
  ·exact⟨1,rfl,by omega,by omega⟩
  . split
    ·rename_i h;have:=U h;exact⟨_,rfl,by omega,by omega⟩
    ·exact⟨_,rfl,a0,M⟩
 obtain⟨w,m,w0,w1⟩:=hW;unfold ij yw;dsimp only;rw[l,m];have size:∀x:Int,0<=x->x<=(n+1)*600000->B ((cA x 8).tdiv 8)=bq x 8/8/\bq x 8/8<=(n+1)*75000/\0<=bq x 8/8:=by intro x i o;have hu:=eJ (n:=x) (step:=8) (by decide);rw[mr i (by omega) (by decide) (by decide),adY (by omega)];have v:=k0 (n:=x) (step:=8) (by decide);refine⟨bo,by omega,by omega⟩
 by_cases d:f.bits=acI
 . obtain ⟨t0,t1,v0,v1⟩:=U d;rw[ab d,ab d];have j:B (8*f.type.size)=8*f.type.size:=bo;have y:=eJ (n:=b) (step:=8*f.type.size) (by omega);have k:cA b (8*f.type.size)=bq b (8*f.type.size):=mr c (by omega) (by omega) (by omega);unfold lW;dsimp only;by_cases hw:f.aQ=0
   . rw[ab hw,ab hw];unfold lX;dsimp only;rw[j,k];obtain⟨e,z2,z3⟩:=size (bq b (8*f.type.size)) (by omega) (by omega);rw[e,adY (a:=bq b (8*f.type.size)) (by omega),ad1 (a:=bq b (8*f.type.size)) (by omega),show B (bq b (8*f.type.size)/8)=bq b (8*f.type.size)/8 from bo];exact⟨rfl,by show 0<=bq b (8*f.type.size);omega,by show bq b (8*f.type.size)<=_;push_cast;omega,by show 0<=max _ _;omega,by show max _ _<=_;push_cast;omega,by show 1<=max _ _;omega,by show max _ _<=_;omega⟩
   . rw [af hw,af hw];unfold lX;dsimp only;have q:ih {p with bp:=max p.bp w,bit:=b} f=if b/(8*f.type.size)≠(b+f.aQ-1)/(8*f.type.size)then bq b (8*f.type.size)else b:=by
      unfold ih;dsimp only;rw[j,show B (b+f.aQ)=b+f.aQ from bo,show B (b+f.aQ-1)=b+f.aQ-1 from bo,adY c,adY (by omega),k];have z:0<=b/(8*f.type.size):=adZ c (by omega);have A:b/(8*f.type.size)<=b:=ad0 _ c;have C:0<=(b+f.aQ-1)/(8*f.type.size):=adZ (by omega) (by omega);have D:(b+f.aQ-1)/(8*f.type.size)<=b+f.aQ-1:=ad0 _ (by omega);rw[show B (b/(8*f.type.size))=b/(8*f.type.size)from bo,show B ((b+f.aQ-1)/(8*f.type.size))=(b+f.aQ-1)/(8*f.type.size)from bo]
     rw[q];have r:∃x,(if b/(8*f.type.size)≠(b+f.aQ-1)/(8*f.type.size)then bq b (8*f.type.size)else b)=x/\0<=x/\x<=b+64:=by
      split
      ·exact⟨_,rfl,by omega,by omega⟩
      ·exact⟨_,rfl,c,by omega⟩
     obtain⟨x,ex,i,o⟩:=r;rw[ex,show B (x+f.aQ)=x+f.aQ from bo,show B (x+f.aQ-1)=x+f.aQ-1 from bo];obtain⟨e,z2,z3⟩:=size (x+f.aQ) (by omega) (by omega);rw[e,adY i,adY (by omega),ad1 i,show B (x/8)=x/8 from bo,show B ((x+f.aQ-1)/8)=(x+f.aQ-1)/8 from bo,show B ((x+f.aQ-1)/8-x/8)=(x+f.aQ-1)/8-x/8 from bo,show B ((x+f.aQ-1)/8-x/8+1)=(x+f.aQ-1)/8-x/8+1 from bo];exact⟨rfl,by show 0<=x+f.aQ;omega,by show x+f.aQ<=_;push_cast;omega,by show 0<=max _ _;omega,by show max _ _<=_;push_cast;omega,by show 1<=max _ _;omega,by show max _ _<=_;omega⟩
 . rw[af d,af d];unfold lX yo;dsimp only;have E:=eJ (n:=b) (step:=8) (by decide);have F:=k0 (n:=b) (step:=8) (by decide);rw[mr c (by omega) (by decide) (by decide),adY (a:=bq b 8) (by omega),show B (bq b 8/8)=bq b 8/8 from bo];have G:=eJ (n:=bq b 8/8) (step:=w) (by omega);rw[mr (n:=bq b 8/8) (by omega) (by omega) (by omega) (by omega),show B (bq (bq b 8/8) w+g.1)=bq (bq b 8/8) w+g.1 from bo,show B (8*(bq (bq b 8/8) w+g.1))=8*(bq (bq b 8/8) w+g.1)from bo];obtain⟨e,z2,z3⟩:=size (8*(bq (bq b 8/8) w+g.1)) (by omega) (by omega);rw[e];exact⟨rfl,by show 0<=8*_;omega,by show 8*(bq (bq b 8/8) w+g.1)<=_;push_cast;omega,by show 0<=max _ _;omega,by show max _ _<=_;push_cast;omega,by show 1<=max _ _;omega,by show max _ _<=_;omega⟩
end Rb
namespace Rb
open Go
theorem Cg{b w:Int}(c:0<w):bq b (8*w)=8*bq (bq b 8/8) w:=by
 unfold bq;have e1:(b+8-1)/8*8/8=(b+8-1)/8:=Int.mul_ediv_cancel _ (by decide);have a:(b+8-1)/8+w-1=(b+8*w-1)/8:=by
  have:b+8*w-1=(b+8-1)+8*(w-1):=by omega
  rw[this,ad2 _ _ (by decide)];omega
 rw[e1,a,Int.ediv_ediv_of_nonneg (by decide),Int.mul_left_comm]
theorem p1(b:Int):bq b 1=b:=by unfold bq;simp
def dR(packed:Bool)(kind:Int)(a:Int)(f:aE)(g:Int×Int):Int×Int×Int:=
 let b0:=if kind=4 then 0 else a
 if f.bits=acI then
  (bq b0 (if f.aQ=0\/b0%(8*f.type.size)+f.aQ>8*f.type.size then 8*f.type.size else 1),f.aQ,if packed=acI\/f.aQ=0 then 1 else g.2)
 else(bq b0 (if packed=acI then 8 else 8*g.2),8*g.1,if packed=acI then 1 else g.2)
def ft(f:aE)(x:Int×Int):bj:=if f.bits=acI then⟨x.1/8,if x.2>0 then(x.1+x.2-1)/8-x.1/8+1 else 0,1,acI,x.1%8,x.2⟩else⟨x.1/8,x.2/8,f.type.kind,acJ,0,0⟩
theorem T0{b n u:Int}(U:0<=b)(hn:1<=n)(c:n<=u):b/u≠(b+n-1)/u↔b%u+n>u:=by
 have a:0<u:=by omega
 have h1:=adT b u;have d:=adU b (adV a);have f:=adW b a;have e:b+n-1=(b%u+n-1)+u*(b/u):=by omega
 rw[e,ad2 _ _ (adV a)];constructor
 . intro h;apply ad3;intro hc;have:(b%u+n-1)/u=0:=Int.ediv_eq_zero_of_lt (by omega) (by omega);omega
 . intro h hc;have hz:(b%u+n-1)/u=0:=by omega
   have:=adT (b%u+n-1) u;have g:=adW (b%u+n-1) a;rw[hz]at this;omega
theorem yy{packed:Bool}{kind:Int}{p:PL}{n:Nat}(hp:hI p n){f:aE}{g:Int×Int}(a0:1<=g.2)(U:f.bits=acI->1<=f.type.size/\0<=f.aQ/\f.aQ<=8*f.type.size/\packed=acJ/\g.2=f.type.size) :
  yw packed kind p f g=⟨max p.size (bq ((dR packed kind p.bit f g).1+(dR packed kind p.bit f g).2.1) 8/8),max p.bp (dR packed kind p.bit f g).2.2,p.dP++[ft f ((dR packed kind p.bit f g).1,(dR packed kind p.bit f g).2.1)],(dR packed kind p.bit f g).1+(dR packed kind p.bit f g).2.1⟩:=by
 obtain⟨b0,b1,s0,s1,l,pZ⟩:=hp;have hB:∃b,(if kind=4 then(0:Int)else p.bit)=b/\0<=b:=by
  split
  ·exact⟨0,rfl,adR _⟩
  ·exact⟨p.bit,rfl,b0⟩
 obtain⟨b,h,i⟩:=hB;unfold yw dR ft;dsimp only;rw[h];by_cases a:f.bits=acI
 . obtain ⟨t0,v0,v1,j,e⟩:=U a;simp only[a,bc];unfold fk;by_cases hw:f.aQ=0
   . simp only[hw,a,true_or,bc,or_true,and_self,Int.add_zero];simp
   . rw[af hw];have hu:=T0 (u:=8*f.type.size) i (show 1<=f.aQ by omega) v1;simp only[j,hw,a,abW,false_or,b4,bc,and_false];have k:f.aQ>0:=by omega
     rw[ab k];by_cases d:b%(8*f.type.size)+f.aQ>8*f.type.size
     ·rw[ab (hu.2 d),ab d,e]
     ·rw[af (λz=>d (hu.1 z)),af d,p1,e]
 . have a:f.bits=acJ:=by simpa using a
   simp only[a,abW,b4];unfold fk;simp only[a,abW,false_and,or_false,b4];cases packed
   . simp only[abW,b4];have c:=Cg (b:=b) (w:=g.2) (by omega);rw[c];have d1:8*bq (bq b 8/8) g.2/8=bq (bq b 8/8) g.2:=by omega
     have d2:8*g.1/8=g.1:=by omega
     rw[d1,d2,<-ad4]
   . simp only[bc];have c:=Cg (b:=b) (w:=1) (by decide);rw[Int.mul_one]at c;rw[c];have d1:8*bq (bq b 8/8) 1/8=bq (bq b 8/8) 1:=by omega
     have d2:8*g.1/8=g.1:=by omega
     rw[<-c]at d1 ⊢;rw[p1]at d1 ⊢;have d3:8*(bq b 8/8)=bq b 8:=by have:=k0 (n:=b) (step:=8) (by decide);omega
     rw[d2,<-d3,<-ad4];have d4:bq (8*(bq b 8/8)/8) 1=bq b 8/8:=by rw[p1];omega
     simp
variable{t:X}{packed:Bool}
structure nc where
 bit:Int
 end_:Int
 bp:Int
 first:List Int
 bits:List Int
def yz(packed:Bool)(kind:Int)(s:nc)(f:aE)(g:Int×Int):nc:=⟨(dR packed kind s.bit f g).1+(dR packed kind s.bit f g).2.1,max s.end_ ((dR packed kind s.bit f g).1+(dR packed kind s.bit f g).2.1),max s.bp (dR packed kind s.bit f g).2.2,s.first++[(dR packed kind s.bit f g).1],s.bits++[(dR packed kind s.bit f g).2.1]⟩
def yA(packed:Bool)(kind:Int)(s:nc):List aE->Option nc
 |[]=>acK s
 |f::r=>if(L f.type).2=acI then yA packed kind (yz packed kind s f (L f.type).1) r else acL
def l6:List aE->List Int->List Int->List bj
 |f::r,a::x,b::y=>ft f (a,b)::l6 r x y
 |_,_,_=>[]
theorem Ke:∀(fs:List aE)(x y:List Int)(f:aE)(a b:Int),x.length=fs.length->y.length=fs.length->l6 (fs++[f]) (x++[a]) (y++[b])=l6 fs x y++[ft f (a,b)]
 |[],[],[],f,a,b,_,_=>rfl
 | g::r,c::x,d::y,f,a,b,h1,e=>by simp only[abZ,l6];rw[Ke r x y f a b (by simpa using h1) (by simpa using e)]
structure mw(p:PL)(s:nc)(fs:List aE):Prop where
 bit:s.bit=p.bit
 e0:0<=s.end_
 size:p.size=bq s.end_ 8/8
 bp:s.bp=p.bp
 l1:s.first.length=fs.length
 l2:s.bits.length=fs.length
 dP:p.dP=l6 fs s.first s.bits
theorem yB(n:Int):bq n 8/8=(n+7)/8:=by unfold bq;omega
theorem Kf{kind:Int}{p:PL}{s:nc}{fs:List aE}{n:Nat}(hn:n<=32)(hp:hI p n)(h:mw p s fs){f:aE}{g:Int×Int}(d:0<=g.1)(e:g.1<=65536)(a0:1<=g.2)(M:g.2<=16)(U:f.bits=acI->1<=f.type.size/\f.type.size<=8/\0<=f.aQ/\f.aQ<=8*f.type.size/\packed=acJ/\g.2=f.type.size) :
  mw (ij packed kind p f g) (yz packed kind s f g) (fs++[f])/\hI (ij packed kind p f g) (n+1):=by
 obtain⟨e1,a⟩:=yx (packed:=packed) (kind:=kind) hn hp d e a0 M (λq=>⟨(U q).1,(U q).2.1,(U q).2.2.1,(U q).2.2.2.1⟩);refine⟨?_,a⟩;have b:=yy (kind:=kind) hp (f:=f) (g:=g) a0 (λq=>⟨(U q).1,(U q).2.2.1,(U q).2.2.2.1,(U q).2.2.2.2.1,(U q).2.2.2.2.2⟩);have c:=a.b0;rw[e1]at c;rw[e1,b];rw[b]at c;unfold yz;rw[h.bit];have hs:=h.size;have he:=h.e0;refine⟨rfl,?_,?_,?_,?_,?_,?_⟩
 ·show 0<=max _ _;omega
 . show max p.size _=bq (max _ _) 8/8;rw[hs,yB,yB,yB];omega
 ·show max s.bp _=max p.bp _;rw[h.bp]
 ·show(s.first++[_]).length=(fs++[f]).length;simp[h.l1]
 ·show(s.bits++[_]).length=(fs++[f]).length;simp[h.l2]
 . show p.dP++[_]=_;rw[h.dP,Ke _ _ _ _ _ _ h.l1 h.l2]
def k3(packed:Bool)(f:aE):Prop:=(f.bits=acI->f.type.kind=1/\1<=f.type.size/\f.type.size<=8/\0<=f.aQ/\f.aQ<=8*f.type.size/\packed=acJ)
theorem r6{l:List aE}{a:List (List UInt8)}(h:fB packed a l=0):∀f∈l,k3 packed f:=λf hf U=>by obtain⟨b,c,d⟩:=yq h f hf U;obtain⟨w1,w2,w3⟩:=(Kd h f hf).1 U;exact⟨b,c,d,w1,w2,w3⟩
def oo(t:X):Prop:=(L t).2=acI->0<=(L t).1.1/\(L t).1.1<=65536/\1<=(L t).1.2/\(L t).1.2<=16
theorem jZ(h:t.kind=1\/t.kind=2):L t=((t.size,t.size),acI):=by rw[jW,ab h]
theorem Kg{packed:Bool}{kind:Int}:∀{l:List aE}{p:PL}{s:nc}{fs:List aE}{n:Nat},n+l.length<=32->hI p n->mw p s fs->(∀f∈l,k3 packed f/\oo f.type) ->
  (∀q,dQ packed kind p l=acK q->∃R,yA packed kind s l=acK R/\mw q R (fs++l)/\hI q (n+l.length))/\(dQ packed kind p l=acL->yA packed kind s l=acL)
 | [],p,s,fs,n,hn,hp,h,hl=>by
  refine⟨λq a=>?_,λa=>?_⟩
  . simp only[dQ,aaC.injEq]at a;subst a;exact⟨s,rfl,by simpa using h,hp⟩
  ·simp only[dQ]at a;cases a
 | f :: r,p,s,fs,n,hn,hp,h,hl=>by
  obtain⟨o1,o2⟩:=hl f (acs ..);have b:n+1+r.length<=32:=by rw[adN]at hn;omega
  simp only[dQ,yA,na];by_cases ht:(L f.type).2=acI
  . rw [ab ht,ab ht];obtain⟨b1,b2,b3,c⟩:=o2 ht;obtain ⟨h1,d⟩:=Kf (packed:=packed) (kind:=kind) (by omega) hp h b1 b2 b3 c (λU=>by
      obtain⟨e,z2,z3,z4,z5,i⟩:=o1 U;exact⟨z2,z3,z4,z5,i,by rw[jZ (.inl e)]⟩)
    obtain⟨i1,i2⟩:=Kg (kind:=kind) b d h1 (λg j=>hl g (acp _ j));refine⟨λq a=>?_,i2⟩;obtain⟨R,k,m,o⟩:=i1 q a;refine⟨R,k,by simpa using m,?_⟩;rw[adN,show n+(r.length+1)=n+1+r.length by omega];exact o
  . rw[af ht,af ht];exact⟨λq a=>(by cases a),λ_=>rfl⟩
theorem hI.zero:hI ⟨0,1,[],0⟩ 0:=⟨adR _,by simp,adR _,by simp,adR _,by decide⟩
theorem mw.zero:mw ⟨0,1,[],0⟩ ⟨0,0,1,[],[]⟩ []:=⟨rfl,adR _,by decide,rfl,rfl,rfl,rfl⟩
theorem r7(h:cW t=0)(a:t.kind=3\/t.kind=4):1<=t.Y.length/\t.Y.length<=32:=by
 rw[gB]at h;split at h
 ·cases h
 . rw[bL,bL,bL]at h;split at h
   ·cases h
   ·omega
theorem yC(h:cW t=0)(a:t.kind=1\/t.kind=2):1<=t.size/\t.size<=16:=by
 rw[gB]at h;split at h
 ·cases h
 . have hp:el t.size 8=acI\/el t.size 16=acI:=by
     rcases a with h1|h1
     . rw[ab h1]at h;split at h
       ·exact .inl ‹_›
       ·cases h
     . rw[bL,ab h1]at h;split at h
       ·exact .inr ‹_›
       ·cases h
   rcases hp with hp|hp<;>(simp[el]at hp;omega)
theorem Kh(h:cW t=0)(a:t.kind=5):1<=t.bg/\t.bg<=65536:=by
 rw[gB]at h;split at h
 ·cases h
 . rw[bL,bL]at h;split at h
   ·cases h
   ·omega
theorem r8:∀t:X,cW t=0->oo t:=by
 refine X.ind λt d g hs=>?_;intro h;rcases nb hs with k|k|k|k
 ·have:=yC hs (.inl k);rw[jZ (.inl k)];dsimp only;omega
 ·have:=yC hs (.inr k);rw[jZ (.inr k)];dsimp only;omega
 . obtain⟨e,he,i⟩:=kq hs k;have hc:=Kh hs k;rw[jW,bL,ab k,he]at h ⊢;simp only[f_,aar,dJ]at h ⊢;obtain⟨b1,b2,b3,j⟩:=g e (by rw[he];simp) i h.1;have hm:0<=(L e).1.1*t.bg:=ad5 b1 (by omega);have m:(L e).1.1*t.bg<=65536*65536:=ad6 b2 hc.2 (by omega) (by decide);have hw:B ((L e).1.1*t.bg)=(L e).1.1*t.bg:=bo;have b:B ((L e).1.1*t.bg)<=65536:=of_decide_eq_true h.2;rw[hw]at b ⊢;exact⟨hm,b,b3,j⟩
 . have hk:t.kind=3\/t.kind=4:=k;have hl:=r7 hs hk;have c:=yr hs hk;rw[jW,bL,bL]at h ⊢;cases hp:dQ t.packed t.kind ⟨0,1,[],0⟩ t.Y with
   |none=>rw[hp]at h;cases h
   | some p=>rw[hp]at h;dsimp only at h ⊢;obtain⟨R,o,q,a⟩:=(Kg (packed:=t.packed) (kind:=t.kind) (by omega) hI.zero mw.zero (λf hf=>⟨r6 c f hf,d f hf (oe c f hf)⟩)).1 p hp;have hu:=eJ (n:=p.size) (step:=p.bp) (by have:=a.a0;omega);have l:=mr (n:=p.size) (step:=p.bp) a.s0 (by have:=a.s1;omega) (by have:=a.a0;omega) (by have:=a.M;omega);rw[l]at h ⊢;have:=a.s0;exact⟨by omega,by simpa using h,a.a0,a.M⟩
end Rb
namespace Rb
open Go
variable{n0 sz len:Nat}{H H':Z}{x:I}{cells:List I}
def cc(n0:Nat)(H:Z)(sz:Nat)(x:I)(len:Nat)(cells:List I):Prop:=∃tk,x = .aq tk len cells/\cells.length=len*sz/\((tk = .nil/\len=0)\/tk = .full\/∃t,tk = .own t/\n0<=t/\At H t (.tok (len*sz) sz))
theorem cc.nil(n0:Nat)(H:Z)(sz:Nat):cc n0 H sz (.aq .nil 0 []) 0 []:=⟨.nil,rfl,by simp,.inl ⟨rfl,rfl⟩⟩
theorem cc.frame(h:cc n0 H sz x len cells)(k:∀t a b,At H t (.tok a b)->At H' t (.tok a b)):cc n0 H' sz x len cells:=by
 obtain⟨tk,c,hc,ht⟩:=h;refine⟨tk,c,hc,?_⟩;rcases ht with ht|ht|⟨t,h1,d,e⟩
 ·exact .inl ht
 ·exact .inr (.inl ht)
 ·exact .inr (.inr ⟨t,h1,d,k t _ _ e⟩)
def Left(n0:Nat)(H H':Z):Prop:=H.n<=H'.n/\∀i o,At H i o->(i<n0\/∀a b,o ≠ .tok a b)->At H' i o
theorem cc.app{n0 sz b len m:Nat}{x y:I}{cells news:List I}{K:aa}(h:cc n0 H sz x len cells)(c:n0<=H.n)(d:hL H sz y=acK (m,news))(hn:news.length=m*sz)(hs:news.all I.scalar=acI)(f:m≠0)
  (U:(len+m)*b<=140737488355328) (hl:len+m<=9223372036854775807) (g:∀j H',cc n0 H' sz j (len+m) (cells++news)->Left n0 H H'->K j H'):bs (cZ H acJ sz b x y) K:=by
 obtain⟨tk,rfl,hc,l⟩:=h;have hlen:(cells++news).length=(len+m)*sz:=by simp[hc,hn,aaV]
 have grow:∀tk:Tok,tk = .full\/(tk = .nil/\len=0)->cZ H acJ sz b (.aq tk len cells) y=acK (.aq (.own H.n) (len+m) (cells++news),H.push (.tok ((len+m)*sz) sz)):=by intro tk ht;simp only[cZ,d,hs,not_true_eq_false,b4,af f];rw[af (by simp only[adJ];exact⟨hc,U,hl⟩)];rcases ht with rfl|⟨rfl,_⟩<;>rfl
 have fresh:K (.aq (.own H.n) (len+m) (cells++news)) (H.push (.tok ((len+m)*sz) sz)):=
  g _ _ ⟨_,rfl,hlen,.inr (.inr ⟨H.n,rfl,c,At.new H _⟩)⟩ ⟨aa2 _,λi o h _=>h.push _⟩
 rcases l with ht|ht|⟨t,rfl,h1,k⟩
 ·exact⟨_,_,grow tk (.inr ht),fresh⟩
 ·exact⟨_,_,grow tk (.inl ht),fresh⟩
 . refine ⟨.aq (.own H.n) (len+m) (cells++news),(H.set t .gone).push (.tok ((len+m)*sz) sz),?_,g _ _ ⟨_,rfl,hlen,.inr (.inr ⟨H.n,rfl,c,At.new (H.set t .gone) _⟩)⟩ ⟨aa2 _,λi o hi a=>(hi.bR (λe=>?_) _).push _⟩⟩
   . simp only[cZ,d,hs,not_true_eq_false,b4,af f];rw[af (by simp only[adJ];exact⟨hc,U,hl⟩)];simp[k.2]
   . subst e;rcases a with a|a
     ·omega
     ·exact a _ _ (hi.2.symm.trans k.2)
theorem Left.row{i:Nat}{cs:List I}(k:Left n0 H H')(h:At H i (.row cs)):At H' i (.row cs):=k.2 _ _ h (.inr λ_ _ e=>by cases e)
end Rb
namespace Rb
open Go
def cr(vars:List aB)(s:aV)(loc:I):List I:=[av aB.cells vars,loc,D s.lets,D s.ay,D s.hE,D s.aR]
def bX(id:Nat)(H H':Z):Prop:=H.n<=H'.n/\∀i o,i≠id->At H i o->At H' i o
theorem bX.refl(id:Nat)(H:Z):bX id H H:=⟨hb _,λ_ _ _ h=>h⟩
theorem bX.trans{id:Nat}{a b c:Z}(h:bX id a b)(k:bX id b c):bX id a c:=⟨sl h.1 k.1,λi o hi d=>k.2 i o hi (h.2 i o hi d)⟩
theorem bX.push(id:Nat)(H:Z)(x:cx):bX id H (H.push x):=⟨aa2 _,λi o _ h=>h.push x⟩
theorem bX.set(id:Nat)(H:Z)(x:cx):bX id H (H.set id x):=⟨hb _,λi o hi h=>h.bR hi x⟩
def gT(H:Z)(id:Nat)(loc:I)(l:List (List UInt8)):Prop:=(loc = A/\l=[])\/∃j cs,loc = .row j 0 l.length 1/\j≠id/\At H j (.row cs)/\l.length<=cs.length/\cs.take l.length=l.map .str
theorem gT.bh{H H':Z}{id:Nat}{loc:I}{l:List (List UInt8)}(h:gT H id loc l)(k:bX id H H'):gT H' id loc l:=by
 rcases h with h|⟨j,cs,h1,a,b,c,d⟩
 ·exact .inl h
 ·exact .inr ⟨j,cs,h1,a,k.2 j _ a b,c,d⟩
def ew(a b:aV):Prop:=b.u=a.u/\b.lets=a.lets
theorem ew.refl(a:aV):ew a a:=⟨rfl,rfl⟩
theorem ew.trans{a b c:aV}(h:ew a b)(k:ew b c):ew a c:=⟨k.1.trans h.1,k.2.trans h.2⟩
theorem fe(s:aV)(a:Bool)(e:Int):ew s (s.b_ a e):=by
 unfold aV.b_;split
 ·exact⟨rfl,rfl⟩
 ·exact ew.refl s
theorem Ki(s:aV)(d:Int)(e:E):ew s (dY s d e):=(fe _ _ _).trans ((fe _ _ _).trans (fe _ _ _))
theorem Ch(s:aV)(d:Int)(x:aC):ew s (eB s d x):=(fe _ _ _).trans ((fe _ _ _).trans (fe _ _ _))
section
variable(vars:List aB)
theorem T1(s:aV)(k:Int)(x:aJ):ew s (jh vars s k x):=(fe _ _ _).trans (fe _ _ _)
mutual
theorem yD:∀(e:E)(s:aV)(d:Int),ew s (iO vars s d e)
 | .mk kind n V op a_ place br,s,d=>by
  have a:=Ki s d (.mk kind n V op a_ place br);rw[iO];split
  ·exact a
  . have h1:ew s (if kind=2 then(dY s d (.mk kind n V op a_ place br)).b_ ((dY s d (.mk kind n V op a_ place br)).has V) 6 else dY s d (.mk kind n V op a_ place br)):=by
      split
      ·exact a.trans (fe _ _ _)
      ·exact a
    refine ew.trans ?_ (yE br _ d);split
    ·exact h1.trans (Ci place _ _ d)
    ·exact h1
theorem yE:∀(l:List E)(s:aV)(d:Int),ew s (c_ vars s d l)
 |[],s,d=>by rw[c_];exact ew.refl s
 | e::r,s,d=>by
  rw[c_];refine ew.trans ?_ (yE r _ d);split
  ·exact ew.refl s
  ·exact yD e s _
theorem Ci:∀(x:aJ)(s:aV)(k d:Int),ew s (gL vars s k d x)
 | .mk var ax,s,k,d=>by
  rw[gL];split
  ·exact ew.refl s
  ·exact(T1 vars s k _).trans (Kj ax _ d)
theorem Kj:∀(l:List aI)(s:aV)(d:Int),ew s (eT vars s d l)
 |[],s,d=>by rw[eT];exact ew.refl s
 |p::r,s,d=>by rw[eT];exact(T2 p s d).trans (Kj r _ d)
theorem T2:∀(p:aI)(s:aV)(d:Int),ew s (jY vars s d p)
 | .mk field aS,s,d=>by rw[jY];exact Kk aS s d
theorem Kk:∀(l:List E)(s:aV)(d:Int),ew s (fP vars s d l)
 |[],s,d=>by rw[fP];exact ew.refl s
 |e::r,s,d=>by rw[fP];exact(yD e s _).trans (Kk r _ d)
end
end
theorem gT.still{H:Z}{id:Nat}{loc:I}{a b:aV}(h:gT H id loc a.u)(k:ew a b):gT H id loc b.u:=by rw[k.1];exact h
section
variable{Φ:ad}{H:Z}{Q:aa}{id:Nat}{vars:List aB}{s:aV}{loc:I}
theorem oq(a:At H id (.row (cr vars s loc)))(hQ:Q (.bool (s.aR != 0)) H):S.f59 Φ (.ptr id 0) H Q:=by unfold S.f59;simp only[ag];simp only[b8,aH,O,aa8];rw[a.load,show bO (cr vars s loc) (4+1) 1 acJ=acK (D s.aR)from rfl];simp only[O,cC];exact hQ
theorem h4(hT:Cl Φ S.b7){a:Bool}{e:Int}(c:At H id (.row (cr vars s loc)))(hQ:∀H',bX id H H'->At H' id (.row (cr vars (s.b_ a e) loc))->Q (.aA []) H') :
  Φ 138 [.ptr id 0,.bool a,D e] H Q:=by
 refine S.R3 hT ?_;unfold S.f138;have k1:∀b:Bool,(b=acI↔a=acJ/\s.aR=0)->G (S.xx Φ (.ptr id 0) (D e) Q) [.bool b] H:=by
  intro b U;simp only[ag,aw,S.xx,T,au,b8,aH,aa8,O];apply aG<;>intro h
  . rw[c.load,show bO (cr vars s loc) 3 1 acJ=acK (D s.ay)from rfl];simp only[O];rw[show bS [J,J] [(0,1,D s.ay),(1,1,D e)]=acK (.agg [D s.ay,D e])from rfl];simp only[O];rw[c.store,ab ⟨rfl,rfl,rfl,by simp[cr]⟩];simp only[O];refine hQ _ (bX.set id H _) ?_;have:s.b_ a e={s with hE:=s.ay,aR:=e}:=by unfold aV.b_;rw[ab (U.1 h)]
    rw[this];exact c.set _
  . refine hQ H (bX.refl _ _) ?_;have:s.b_ a e=s:=by unfold aV.b_;rw[af λx=>h (U.2 x)]
    rw[this];exact c
 simp only[dg,O,bP];apply aG<;>intro h
 . refine S.n5 hT (oq c ?_);simp only[dg,O];refine k1 _ ?_;simp only[ab_]at h;simp[h]
 . refine k1 _ ?_;simp only[ab_,adC]at h;simp[h]
theorem T3{a:I}{xs:List (List UInt8)}{t:List UInt8}(d:ea acJ a=acK (D xs.length))(e:∀(i:Nat) x,xs[i]?=acK x->∃p,aL acL 1 a (D i)=acK p/\aj H 1 acJ p=acK (.str x))(U:xs.length<=9223372036854775807)
  (hQ:Q (D (fb (xs.findIdx? λx=>t==x))) H):S.f186 Φ a (.str t) H Q:=by
 unfold S.f186;simp only[ag];rw[d];simp only[O];have main:∀(b:List (List UInt8)) (i:Nat),xs.drop i=b->Q (D (fb ((b.findIdx? λx=>t==x).map (·+ i)))) H->ar (S.xT Φ a (.str t) (D xs.length) Q) ([D i],H):=by
  intro b;induction b with
  | nil=>intro i hi c;have hle:=c7 hi;refine ar.step ?_;simp only[ag,S.xT,T,aY,O,au];rw[cQ];simpa[fb]using c
  | cons y b f=>
   intro i hi c;obtain⟨l,g,h⟩:=c4 hi;obtain⟨p,h1,j⟩:=e i y g;refine ar.step ?_;simp only[ag,S.xT,T,aY,O,au];rw[cM,h1];simp only[O];rw[j];simp only[O,fD,au];rw[List.findIdx?_cons]at c;by_cases he:(t==y)=acI
   . rw[ab he];rw[ab he]at c;simpa[fb]using c
   . rw [af he];rw[af he]at c;simp only[bz,O];rw[bo,fj i];refine f (i+1) h ?_;have:(ads (λx=>t==x) b).map (·+ (i+1))=((ads (λx=>t==x) b).map (·+ 1)).map (·+ i):=by
      rw[Option.map_map];congr 1;funext k;simp only[Function.comp];omega
     rw[this];exact c
 refine main xs 0 rfl ?_;simpa using hQ
theorem Cj(hT:Cl Φ S.b7){a:I}{xs:List (List UInt8)}{t:List UInt8}(b:ea acJ a=acK (D xs.length))(c:∀(i:Nat) x,xs[i]?=acK x->∃p,aL acL 1 a (D i)=acK p/\aj H 1 acJ p=acK (.str x))(U:xs.length<=9223372036854775807)
  (hQ:Q (.bool (xs.any λx=>t==x)) H):Φ 136 [a,.str t] H Q:=by
 refine S.R2 hT ?_;unfold S.f136;simp only[ag];refine S.Sw hT (T3 b c U ?_);simp only[eD,O,yc];exact hQ
theorem r9(hT:Cl Φ S.b7){x:List UInt8}(b:At H id (.row (cr vars s loc)))(c:gT H id loc s.u)(U:s.u.length<=1000)(hQ:Q (.bool (s.has x)) H):Φ 141 [.ptr id 0,.str x] H Q:=by
 refine S.R6 hT ?_;unfold S.f141;simp only[ag];simp only[b8,aH,O,aa8];rw[b.load,show bO (cr vars s loc) 1 1 acJ=acK loc from rfl];simp only[O];rcases c with⟨rfl,h⟩|⟨j,cs,rfl,m,d,n,f⟩
 . unfold aV.has at hQ;rw[h]at hQ;exact Cj hT (xs:=[]) rfl (λi x g=>by cases g) (by simp) hQ
 . refine Cj hT (xs:=s.u) rfl (λi y a=>?_) (by omega) hQ;have k:=(aal.1 a).1;refine⟨.ptr j i,?_,?_⟩
   . simp only[aL];rw[ab ⟨by omega,by omega⟩];simp
   . rw [d.load];unfold bO;rw[dN];have e:cs[i]?=acK (.str y):=by
      have:=congrArg (λl=>l[i]?) f;simp only[aan,aba,a,ab k,Option.map_some]at this;exact this
     simp[e]
end
end Rb
namespace Rb
open Go
variable{k:Int}{b:Bool}{A B:Prop}
section
variable{Φ:ad}{H:Z}{Q:aa}
theorem T4{k o:Int}(hQ:Q (.bool (fO k o)) H):S.f140 Φ (D k) (D o) H Q:=by
 have e:∀b:Bool,b=fO k o->Q (.bool b) H:=λb h=>by rw[h];exact hQ
 simp only[ag,S.f140,S.Bj,S.Bl,S.Iq,S.xy,S.Bm,S.Bn,aw,T,bI,eD,gl,O,au,bP,bF,abW,b4,bc]
 repeat' (apply aG<;>intro h)
 all_goals (refine e _ ?_;simp only[bZ,dJ,ge_iff_le,beq_eq_false_iff_ne,ne_eq]at *;first|(subst_vars;simp[fO];done)|(simp_all [fO];done)|(simp_all [fO];omega)|skip)
theorem Kl{x:aJ}(hQ:Q (.bool (fo x)) H):S.f190 Φ (.agg x.cells) H Q:=by
 unfold S.f190;simp only[ag];simp only[yh,aN,og,O,B2,oh,bC,fD,bI,bP];unfold fo at hQ;apply aG<;>intro h
 . rw[h]at hQ;have e:((x.ax.length:Int)==0)=(x.ax.length==0):=by rw[acm];simp
   rw[e];simpa using hQ
 . simp only[adB]at h;rw[h]at hQ;exact hQ
theorem T5{t:X}(hQ:Q (.bool (ga k t)) H):S.f191 Φ (D k) (.agg t.cells) H Q:=by
 have e:∀b:Bool,b=ga k t->Q (.bool b) H:=λb h=>by rw[h];exact hQ
 simp only[ag,S.f191,S.I5,S.BB,S.BC,fC,aN,ca,O,h3,kp,aw,T,bI,gl,au,bP]
 repeat' (apply aG<;>intro h)
 all_goals (refine e _ ?_;unfold ga;simp only[bZ]at *;first|(exfalso;omega)|(subst_vars;simp[*];done)|(simp[*];done)|(subst_vars;simp_all;done)|skip)
def l7(k:Int):List I:=if 1<=k/\k<=10 then [.bool (eN k).1,.bool (eN k).2.1,.bool (eN k).2.2.1,D (eN k).2.2.2.1,.bool (eN k).2.2.2.2.1,.bool (eN k).2.2.2.2.2]else [P,P,P,J,P,P]
theorem T6(k:Int):(l7 k).length=6:=by unfold l7;split<;>rfl
theorem T7(k:Int):(l7 k).all I.scalar=acI:=by unfold l7;split<;>rfl
theorem T8(hQ:∀H',Q (.aA [.agg (l7 k),.bool (decide (1<=k)&&decide (k<=10))]) H'):S.f189 Φ (D k) H Q:=by
 have fin:∀(cs:List I)(b:Bool) H',l7 k=cs->(decide (1<=k)&&decide (k<=10))=b->Q (.aA [.agg cs,.bool b]) H':=λcs b H' h1 a=>by rw[<-h1,<-a];exact hQ H'
 clear hQ;simp only[ag,S.f189,S.I2,S.Bz,S.BA,aN,bQ,bc,O,aw,T,bI,au]
 repeat' (apply aG<;>intro h)
 all_goals (refine⟨_,rfl,_,cn _ _ _ 6 rfl rfl rfl,_,by rw[eE];exact gJ rfl,fin _ _ _ ?_ ?_⟩)
 all_goals (simp only[bZ]at *;first|(exfalso;omega)|(subst_vars;rfl)|skip)
 ·unfold l7;rw[bL]
 ·rw[ad7,decide_eq_false_iff_not,decide_eq_false_iff_not];omega
theorem p2(e:E)(H:Z):b5 H acJ 8 (.agg e.cells)=acK (.ae e.cells,H):=by unfold b5;rw[ab ⟨rfl,e.len⟩];rfl
theorem il(e:E)(i:Nat):aH i (.ae e.cells)=acK (.ae (e.cells.drop i)):=rfl
theorem im(e:E)(H:Z):aj H 1 acJ (.ae (e.cells.drop 0))=acK (D e.kind):=by rw[E.aX,aJ.aX];rfl
theorem Ck(e:E)(H:Z):aj H 1 acJ (.ae (e.cells.drop 1))=acK (cY e.n):=by rw[E.aX,aJ.aX];rfl
theorem yF(e:E)(H:Z):aj H 1 acJ (.ae (e.cells.drop 2))=acK (.str e.V):=by rw[E.aX,aJ.aX];rfl
theorem r_(e:E)(H:Z):aj H 1 acJ (.ae (e.cells.drop 3))=acK (D e.op):=by rw[E.aX,aJ.aX];rfl
theorem Km(e:E)(H:Z):aj H 1 acJ (.ae (e.cells.drop 4))=acK (D e.a_):=by rw[E.aX,aJ.aX];rfl
theorem p3(e:E)(H:Z):aj H 2 acI (.ae (e.cells.drop 5))=acK (.agg e.place.cells):=by rw[E.aX,aJ.aX];rfl
theorem sa(e:E)(H:Z):aj H 1 acJ (.ae (e.cells.drop 7))=acK (av E.cells e.br):=by rw[E.aX,aJ.aX];rfl
theorem Cm(e:E)(H:Z):aj H 8 acI (.ae e.cells)=acK (.agg e.cells):=gJ e.len
theorem nf(e:aC)(H:Z):b5 H acJ 10 (.agg e.cells)=acK (.ae e.cells,H):=by unfold b5;rw[ab ⟨rfl,e.len⟩];rfl
theorem fG(e:aC)(i:Nat):aH i (.ae e.cells)=acK (.ae (e.cells.drop i)):=rfl
theorem hj(e:aC)(H:Z):aj H 1 acJ (.ae (e.cells.drop 0))=acK (D e.kind):=by rw[aC.aX,aJ.aX];rfl
theorem Cn(e:aC)(H:Z):aj H 1 acJ (.ae (e.cells.drop 1))=acK (D e.ay):=by rw[aC.aX,aJ.aX];rfl
theorem my(e:aC)(H:Z):aj H 1 acJ (.ae (e.cells.drop 2))=acK (.str e.V):=by rw[aC.aX,aJ.aX];rfl
theorem yG(e:aC)(H:Z):aj H 1 acJ (.ae (e.cells.drop 3))=acK (.str e.b9):=by rw[aC.aX,aJ.aX];rfl
theorem yH(e:aC)(H:Z):aj H 1 acJ (.ae (e.cells.drop 4))=acK (D e.a_):=by rw[aC.aX,aJ.aX];rfl
theorem ng(e:aC)(H:Z):aj H 2 acI (.ae (e.cells.drop 5))=acK (.agg e.place.cells):=by rw[aC.aX,aJ.aX];rfl
theorem mz(e:aC)(H:Z):aj H 1 acJ (.ae (e.cells.drop 7))=acK (av E.cells e.bn):=by rw[aC.aX,aJ.aX];rfl
theorem sb(e:aC)(H:Z):aj H 1 acJ (.ae (e.cells.drop 8))=acK (av aC.cells e.aZ):=by rw[aC.aX,aJ.aX];rfl
theorem yI(e:aC)(H:Z):aj H 1 acJ (.ae (e.cells.drop 9))=acK (av aC.cells e.bw):=by rw[aC.aX,aJ.aX];rfl
theorem Kn(e:aC)(H:Z):aj H 10 acI (.ae e.cells)=acK (.agg e.cells):=gJ e.len
theorem Ko{α:Type}(l:List α):((l.length:Int)==0)=(l.length==0):=by rw[acm];simp
theorem ite_bool(a:b=acI->A)(c:b=acJ->B):if b=acI then A else B:=aG a λh=>c (by simpa using h)
theorem dC(a:b=acJ->A)(c:b=acI->B):if b=acJ then A else B:=aG a λh=>c (by simpa using h)
theorem T9(hT:Cl Φ S.b7){e:E}(hQ:Q (.bool (fp e)) H):S.f213 Φ (.agg e.cells) H Q:=by
 have fin:∀b:Bool,b=fp e->Q (.bool b) H:=λb h=>by rw[h];exact hQ
 clear hQ;have j : (decide (1<=e.kind)&&decide (e.kind<=8))=acI->S.mY Φ (.ae e.cells) Q [D (hh e.kind).1,.bool (hh e.kind).2] H:=by
  intro hk;unfold fp at fin;rw[hk]at fin;simp only[adP]at fin;generalize k:hh e.kind=a at fin ⊢;have k1:∀b:Bool,(∀c,c=(b&&((e.br.length:Int)==a.1))->Q (.bool c) H)->G (S.rS Φ (.ae e.cells) [D a.1,.bool a.2] Q) [.bool b] H:=by
   intro b U;simp only[ag,aw,S.rS,T,bE,bP,il,sa,bC,bI,O];cases b
   ·exact U _ rfl
   ·exact U _ rfl
  have k2:∀b:Bool,(∀c,c=((b&&(a.2||fo e.place))&&((e.br.length:Int)==a.1))->Q (.bool c) H)->G (S.lO Φ (.ae e.cells) [D a.1,.bool a.2] Q) [.bool b] H:=by
   intro b U;simp only[ag,aw,S.lO,T,bE,bP,bF,il,p3,O];cases b
   ·exact k1 _ λc hc=>U c (by rw[hc];rfl)
   . rw [ab rfl];apply dC<;>intro h
     . refine S.Jo hT (Kl ?_);exact k1 _ λc hc=>U c (by rw[hc,h];rfl)
     ·exact k1 _ λc hc=>U c (by rw[hc,h];rfl)
  have d : ∀b:Bool,(∀c,c=(((b&&(if e.kind=3 then decide (1<=e.op)&&decide (e.op<=11)else e.op==0))&&(a.2||fo e.place))&&((e.br.length:Int)==a.1))->Q (.bool c) H) ->
    G (S.rT Φ (.ae e.cells) (.bool (e.kind==3)) [D a.1,.bool a.2] Q) [.bool b] H:=by
   intro b U;simp only[ag,aw,S.rT,T,bE,bP,bF,il,r_,O,eD,gl,bI,dg];cases b
   ·exact k2 _ λc hc=>U c (by rw[hc];rfl)
   . rw [ab rfl];apply ite_bool<;>intro h
     . rw [ab (by simpa using h)]at U;apply ite_bool<;>intro h1
       . apply dC<;>intro f
         . rw[h,cw];exact k2 _ λc hc=>U c (by rw[hc];simp only[ge_iff_le]at h1;rw[h1,f];rfl)
         ·exact k2 _ λc hc=>U c (by rw[hc];simp only[ge_iff_le]at h1;rw[h1,f];rfl)
       . rw[h,cw];exact k2 _ λc hc=>U c (by rw[hc];simp only[ge_iff_le]at h1;rw[h1];rfl)
     . rw[af (by simpa using h)]at U;rw[h,jD];exact k2 _ λc hc=>U c (by rw[hc];rfl)
  have i:∀b:Bool,(∀c,c=((((b&&(e.kind==2||e.V==[]))&&(if e.kind=3 then decide (1<=e.op)&&decide (e.op<=11)else e.op==0))&&(a.2||fo e.place))&&((e.br.length:Int)==a.1))->Q (.bool c) H) ->
    G (S.x2 Φ (.ae e.cells) (.bool (e.kind==3)) [D a.1,.bool a.2] Q) [.bool b] H:=by
   intro b U;simp only[ag,aw,S.x2,T,bE,bP,bF,il,im,yF,O,bI,fD];cases b
   ·exact d _ λc hc=>U c (by rw[hc];rfl)
   . rw[ab rfl];apply dC<;>intro h
     ·exact d _ λc hc=>U c (by rw[hc,h];rfl)
     ·exact d _ λc hc=>U c (by rw[hc,h];rfl)
  simp only[ag,S.mY,il,im,Ck,O,bI,bF];apply dC<;>intro h
  ·exact i _ λc hc=>fin c (by rw[hc,h];rfl)
  ·exact i _ λc hc=>fin c (by rw[hc,h];rfl)
 simp only[ag,S.f213,S.BG,S.BH,S.BI,p2,aN,il,im,O,aw,T,bI,au,bZ];have g:∀n b,hh e.kind=(n,b)->(decide (1<=e.kind)&&decide (e.kind<=8))=acI->S.mY Φ (.ae e.cells) Q [D n,.bool b] H:=λn b h hk=>by have:=j hk;rw[h]at this;exact this
 repeat' (apply aG<;>intro h)
 all_goals first
  |(exfalso;omega)
  | (refine g _ _ ?_ ?_
     . unfold hh;simp[*]
     ·simp[*])
  |skip
 refine fin _ ?_;have:(decide (1<=e.kind)&&decide (e.kind<=8))=acJ:=by rw[ad7,decide_eq_false_iff_not,decide_eq_false_iff_not];omega
 unfold fp;rw[this];rfl
end
end Rb
namespace Rb
open Go
variable{s:aV}{loc:I}{H:Z}
theorem nh:maxLen=9223372036854775807:=by decide
theorem E.dL{e:E}(h:e.ok):(e.br.length<=9223372036854775807/\∀k∈e.br,k.ok)/\e.place.ok:=by
 rw[<-nh];cases e with
 | mk kind n V op a_ place br=>obtain⟨_,_,_,_,_,a,b,c⟩:=h;exact⟨⟨b,E.eG.1 c⟩,a⟩
theorem aJ.dL{x:aJ}(h:x.ok):x.ax.length<=9223372036854775807/\∀p∈x.ax,p.aS.length<=9223372036854775807/\∀i∈p.aS,i.ok:=by
 rw[<-nh];cases x with
 | mk var ax=>
  obtain⟨_,a,b⟩:=h;refine⟨a,λp hp=>?_⟩;have:=aI.eG.1 b p hp;cases p with
  | mk field aS=>obtain⟨_,c,d⟩:=this;exact⟨c,E.eG.1 d⟩
theorem E.ind{P:E->Prop}(h:∀e:E,(∀k∈e.br,P k)->(∀p∈e.place.ax,∀i∈p.aS,P i)->P e):∀e,P e:=by
 have main:∀(n:Nat)(e:E),sizeOf e<n->P e:=by
  intro n;induction n with
  |zero=>intro e he;omega
  | succ n a=>
   intro e he;refine h e (λk hk=>a _ ?_) λp hp i hi=>a _ ?_
   . cases e with
     | mk kind n V op a_ place br=>have:=adA hk;simp at this he ⊢;omega
   . cases e with
     | mk kind n V op a_ place br=>
      cases place with
      | mk var ax=>
       have h1:=adA hp;cases p with
       | mk field aS=>have b:=adA hi;simp at h1 b he ⊢;omega
 exact λe=>main _ e (acR _)
section
variable{C:Ctx}(ak:cP C)(hT:Cl (ai C) S.b7)
include ak hT
theorem Kr(k o:Int):bD (ai C) 140 [D k,D o] (.bool (fO k o)):=λH Q hQ=>S.R5 hT (T4 hQ)
theorem T_(e:E):bD (ai C) 213 [.agg e.cells] (.bool (fp e)):=λH Q hQ=>S.SF hT (T9 hT hQ)
theorem Ua(k:Int)(t:X):bD (ai C) 191 [D k,.agg t.cells] (.bool (ga k t)):=λH Q hQ=>S.Sy hT (T5 hQ)
theorem Ub(t:X)(p:aI)(hs:cW t=0)(hl:p.aS.length<=maxLen):bD (ai C) 63 [.agg t.cells,.agg p.cells] (gn (c6 t p)):=bD.of ak (by simp[I.bV,I.bu,X.bu,aI.bu]) (B1 _) λQ hQ=>S.Rh hT (Tu hT hs hl hQ)
theorem Co(vars:List aB)(x:aJ)(hl:vars.length<=maxLen)(hv:∀v∈vars,v.ok)(a:x.ok):bD (ai C) 33 [av aB.cells vars,.agg x.cells] (gn (bG vars x)):=by
 have hp:=aJ.dL a;rw[<-nh]at hp;exact bD.of ak (by simp[I.bV,I.bu,aJ.bu,ko aB.bu]) (B1 _) λQ hQ=>S.QT hT (Tx hT hl hp.1 (λv b=>JJ ak hT v.type (hv v b).2) (λt p hs c=>Ub ak hT t p hs (hp.2 p c).1) hQ)
end
def yJ(C:Ctx)(id:Nat)(vars:List aB)(e:E):Prop:=
 ∀ (s:aV) (d:Int) (loc:I) (H:Z) (Q:aa),At H id (.row (cr vars s loc))->gT H id loc s.u->s.u.length<=1000 ->
  (∀H',bX id H H'->At H' id (.row (cr vars (iO vars s d e) loc))->Q (.aA []) H')->ai C 192 [.ptr id 0,.agg e.cells,D d] H Q
def fH(r:Int×X):List I:=if r.1=0 then r.2.cells else dG
theorem sd(r:Int×X):(fH r).length=6:=by unfold fH;split;exact r.2.len;rfl
theorem yK(r:Int×X):(fH r).all I.scalar=acI:=by unfold fH;split;exact r.2.scalar;rfl
theorem yL(r:Int×X):gn r = .aA [.agg (fH r),D r.1]:=by unfold gn fH;split;rename_i h;rw[h];rfl
section
variable{C:Ctx}(ak:cP C)(hT:Cl (ai C) S.b7){id:Nat}{vars:List aB}
include ak hT
theorem Kt{l:List E}(hl:l.length<=9223372036854775807)(m:∀e∈l,yJ C id vars e){d:Int}{Q:aa}(o:At H id (.row (cr vars s loc)))(p:gT H id loc s.u)(U:s.u.length<=1000)
  (hQ:∀H',bX id H H'->At H' id (.row (cr vars (c_ vars s d l) loc))->Q (.aA []) H'):ai C 143 [.ptr id 0,av E.cells l,D d] H Q:=by
 refine S.R8 hT ?_;unfold S.f143;simp only[ag];simp only[bC,O];have main:∀(r:List E)(i:Nat)(R:aV)(H1:Z),l.drop i=r->ew s R->bX id H H1->At H1 id (.row (cr vars R loc))->c_ vars R d r=c_ vars s d l ->
   ar (S.rO (ai C) (.ptr id 0) (av E.cells l) (D d) (D l.length) Q) ([D i],H1):=by
  intro r;induction r with
  | nil=>intro i R H1 c b hk ha he;have hle:=c7 c;refine ar.step ?_;simp only[ag,S.rO,T,aY,O,au];rw[cQ];rw[c_]at he;exact hQ H1 hk (by rw[<-he];exact ha)
  | cons e r q=>
   intro i R H1 c b hk ha he;obtain⟨t,k,v⟩:=c4 c;refine ar.step ?_;simp only[ag,S.rO,T,aY,O,au];rw[cM,b6 t];simp only[O];rw[c8 E.len (by decide) _ k];simp only[O,aN,bQ,bc];rw[cn _ _ _ 8 e.len e.scalar rfl];simp only[O];have fy:=ha.push (.row e.cells);have f:=hk.trans (bX.push id H1 (.row e.cells));have w:aj (H1.push (.row e.cells)) 8 acI (.ptr H1.n 0)=acK (.agg e.cells):=by rw[eE,gJ e.len]
   have next:∀(s2:aV)(a:Z),bX id H a->At a id (.row (cr vars s2 loc))->ew s s2->c_ vars s2 d r=c_ vars s d l ->
     G (S.xB (ai C) ([D i],H1) (ar (S.rO (ai C) (.ptr id 0) (av E.cells l) (D d) (D l.length) Q)) Q) [] a:=by
    intro s2 a g a3 x y;simp only[ag,aw,S.xB,T,bz,O];rw[bo,fj i];exact q (i+1) s2 a v x g a3 y
   rw[c_]at he;generalize H1.push _=H2 at *;refine S.n5 hT (oq fy ?_);simp only[dg,O,au];apply aG<;>intro h
   . have j:R.aR=0:=by simpa using h
     rw[af (by simpa using j)]at he;simp only[w,O,bz];refine m e (adq k) R _ loc H2 _ fy ((p.bh f).still b) (by rw[b.1];exact U) λa g a3=>?_;exact next _ a (f.trans g) a3 (b.trans (yD vars e R _)) he
   . have j:R.aR≠0:=by simpa using h
     rw[ab j]at he;exact next R H2 f fy b he
 exact main l 0 s H rfl (ew.refl s) (bX.refl id H) o rfl
theorem Ku(N:vars.length<=maxLen)(hv:∀v∈vars,v.ok){x:aJ}(B:x.ok)(P:∀p∈x.ax,∀i∈p.aS,yJ C id vars i){k d:Int}{Q:aa}(c:At H id (.row (cr vars s loc)))(V:gT H id loc s.u)(U:s.u.length<=1000)
  (hQ:∀H',bX id H H'->At H' id (.row (cr vars (gL vars s k d x) loc))->Q (.aA []) H'):ai C 142 [.ptr id 0,D k,.agg x.cells,D d] H Q:=by
 obtain⟨aF,W⟩:=aJ.dL B;refine S.R7 hT ?_;unfold S.f142;simp only[ag];simp only[yh,aN];refine S.n5 hT (oq c ?_);simp only[au];rw[Cb]at hQ;apply aG<;>intro h
 . rw[ab (by simpa using h)]at hQ;exact hQ H (bX.refl _ _) c
 . have F : s.aR=0:=by simpa using h
   rw[af (by simpa using F)]at hQ;simp only[b8,aH,O,aa8,aaY];have l0:aj H 1 acJ (.ptr id 0)=acK (av aB.cells vars):=by rw[c.load];rfl
   have X:aj H 2 acI (.ae x.cells)=acK (.agg x.cells):=gJ x.len;simp only[l0,X,O];refine Co ak hT vars x N hv B _ _ ?_;rw[yL];simp only[bA,ac5,ac6,O,aN,bQ,bc];have a2:=c.push (.row dG);refine⟨(a2.load 1 0 acJ).trans rfl,gJ x.len,?_⟩;change Do (cf (H.push (.row dG)) 6 (.ptr H.n 0) (.agg (fH (bG vars x)))) _;rw[cn _ _ _ 6 (sd _) (yK _) rfl];simp only[O,bI];have a3:=c.push (.row (fH (bG vars x)));have Y:=bX.push id H (.row (fH (bG vars x)));have ac:=At.new H (.row (fH (bG vars x)));have ad:H.n≠id:=ad8 c.h2;generalize H.push _=H2 at *;generalize H.n=aK at *;refine h4 hT a3 λaL I a4=>?_;have ah:=I.2 _ _ ad ac;have J:=Y.trans I;have ax:∀(s1:aV)(b:Z),ew s s1->bX id H b->At b id (.row (cr vars s1 loc))->eT vars s1 d x.ax=eT vars (jh vars s k x) d x.ax->G (S.xA (ai C) (.ptr id 0) (D d) (.ae x.cells) Q) [] b:=by
    intro s1 b m hk ha he;simp only[ag,aw,S.xA,og,oh,bC,O];have main:∀(r:List aI)(i:Nat)(R:aV)(H1:Z),x.ax.drop i=r->ew s R->bX id H H1->At H1 id (.row (cr vars R loc))->eT vars R d r=eT vars (jh vars s k x) d x.ax ->
      ar (S.rN (ai C) (.ptr id 0) (D d) (av aI.cells x.ax) (D x.ax.length) Q) ([D i],H1):=by
     intro r;induction r with
     | nil=>intro i R H1 o m hk ha he;have hle:=c7 o;refine ar.step ?_;simp only[ag,S.rN,T,aY,O,au];rw[cQ];rw[eT]at he;exact hQ H1 hk (by rw[<-he];exact ha)
     | cons p r al=>
      intro i R H1 o m hk ha he;obtain⟨am,hp,an⟩:=c4 o;have K:=adq hp;refine ar.step ?_;simp only[ag,S.rN,T,aY,O,au];rw[cM,b6 am];simp only[O];rw[c8 aI.len (by decide) _ hp];simp only[O,aN,bQ,bc];rw[cn _ _ _ 2 p.len p.scalar rfl];simp only[O,aH,aa8];have fy:=ha.push (.row p.cells);have ao:=hk.trans (bX.push id H1 (.row p.cells));have ap:aj (H1.push (.row p.cells)) 1 acJ (.ptr H1.n 1)=acK (av E.cells p.aS):=by rw[eE,aI.aX];rfl
      simp only[ap,O,bC];rw[eT,Cc]at he;have inner:∀(q:List E)(j:Nat)(s2:aV)(a:Z),p.aS.drop j=q->ew s s2->bX id H a->At a id (.row (cr vars s2 loc))->eT vars (fP vars s2 d q) d r=eT vars (jh vars s k x) d x.ax ->
        ar (S.xz (ai C) (.ptr id 0) (D d) (av E.cells p.aS) (D p.aS.length) ([D i],H1) (ar (S.rN (ai C) (.ptr id 0) (D d) (av aI.cells x.ax) (D x.ax.length) Q)) Q) ([D j],a):=by
       intro q;induction q with
       | nil=>intro j s2 a t f w y g;have hle:=c7 t;refine ar.step ?_;simp only[ag,S.xz,T,aY,O,au];rw[cQ];simp only[ag,aw,S.It,T,bz,O];rw[bo,fj i];rw[fP]at g;exact al (i+1) s2 a an f w y g
       | cons e q aq=>
        intro j s2 a t f w y g;obtain⟨ay,L,az⟩:=c4 t;have aM:=(W p K).1;refine ar.step ?_;simp only[ag,S.xz,T,aY,O,au];rw[cM,b6 ay];simp only[O];rw[c8 E.len (by decide) _ L];simp only[O,aN,bQ,bc];rw[cn _ _ _ 8 e.len e.scalar rfl];simp only[O];have aC:=y.push (.row e.cells);have M:=w.trans (bX.push id a (.row e.cells));have aD:aj (a.push (.row e.cells)) 8 acI (.ptr a.n 0)=acK (.agg e.cells):=by rw[eE,gJ e.len]
        simp only[aD,O,bz];rw[fP]at g;refine P p K e (adq L) s2 _ loc _ _ aC ((V.bh M).still f) (by rw[f.1];exact U) λb aE a5=>?_;rw[bo,fj j];exact aq (j+1) _ b az (f.trans (yD vars e s2 _)) (M.trans aE) a5 g
      exact inner p.aS 0 R _ rfl m ao fy he
    exact main x.ax 0 s1 b rfl m hk ha he
   refine S.n5 hT (oq a4 ?_);simp only[bF];apply dC<;>intro h
   . rw [ah.load,gJ (sd _)];simp only[O];have l:(bG vars x).1=0:=by
      by_cases l:(bG vars x).1=0
      ·exact l
      . have:(s.b_ ((bG vars x).1==0) (bG vars x).1).aR=(bG vars x).1:=by
          unfold aV.b_;rw[ab ⟨by simpa using l,F⟩]
        rw[this]at h;simp at h;exact absurd h l
     have hc:fH (bG vars x)=(bG vars x).2.cells:=by unfold fH;rw[ab l]
     rw[hc];refine Ua ak hT _ _ _ _ ?_;refine h4 hT a4 λz A a6=>?_;refine ax _ z ((fe _ _ _).trans (fe _ _ _)) (J.trans A) a6 ?_;unfold jh;simp only[h,Bool.false_or]
   . refine h4 hT a4 λz A a6=>?_;refine ax _ z ((fe _ _ _).trans (fe _ _ _)) (J.trans A) a6 ?_;unfold jh;simp only[h,Bool.true_or]
theorem Uc(q:vars.length<=maxLen)(hv:∀v∈vars,v.ok):∀e:E,e.ok->yJ C id vars e:=by
 refine E.ind λe r t he=>?_;obtain⟨⟨u,w⟩,m⟩:=E.dL he;have x:=aJ.dL m;intro s d loc H Q y j U hQ;refine S.Sz hT ?_;unfold S.f192;simp only[ag];simp only[p2,aN,gl,O];refine h4 hT y λH1 k1 M=>?_;simp only[Cm,O];refine T_ ak hT e _ _ ?_;refine h4 hT M λH2 k2 a2=>?_;simp only[il,im,Km,O,bz];refine Kr ak hT _ _ _ _ ?_;refine h4 hT a2 λl z a3=>?_;have f:=k1.trans (k2.trans z);rw[Ca]at hQ;change At l id (.row (cr vars (dY s d e) loc))at a3;have st1:=Ki s d e;generalize dY s d e=s1 at *;refine S.n5 hT (oq a3 ?_);simp only[au];apply aG<;>intro h
 . rw[ab (by simpa using h)]at hQ;exact hQ l f a3
 . rw [af (by simpa using h)]at hQ;simp only[bI,O,au];have br:∀(g:aV)(a:Z),ew s g->bX id H a->At a id (.row (cr vars g loc))->(∀H',bX id H H'->At H' id (.row (cr vars (c_ vars g d e.br) loc))->Q (.aA []) H')->G (S.xU (ai C) (.ptr id 0) (D d) (.ae e.cells) Q) [] a:=by
    intro g a b hk ha c;simp only[ag,aw,S.xU,il,sa,O];exact Kt ak hT u (λk n=>r k n (w k n)) ha ((j.bh hk).still b) (by rw[b.1];exact U) λH' k' a'=>c H' (hk.trans k') a'
   have o:∀(s2:aV)(a:Z),ew s s2->bX id H a->At a id (.row (cr vars s2 loc))->(∀H',bX id H H'->At H' id (.row (cr vars (c_ vars (if e.kind>=4 then gL vars s2 (B (10+e.kind)) d e.place else s2) d e.br) loc))->Q (.aA []) H') ->
     G (S.xV (ai C) (.ptr id 0) (D d) (.ae e.cells) Q) [] a:=by
    intro s2 a b hk ha c;simp only[ag,aw,S.xV,il,im,p3,O,eD,au,bz];apply aG<;>intro h
    . rw[ab (by simpa using h)]at c;refine Ku ak hT q hv m (λp hp i hi=>t p hp i hi ((x.2 p hp).2 i hi)) ha ((j.bh hk).still b) (by rw[b.1];exact U) λH' k' a'=>?_;exact br _ H' (b.trans (Ci vars _ _ _ _)) (hk.trans k') a' c
    . rw[af (by simpa using h)]at c;exact br _ a b hk ha c
   apply aG<;>intro h
   . rw[show(if e.kind=2 then s1.b_ (s1.has e.V) 6 else s1)=s1.b_ (s1.has e.V) 6 from ab (by simpa using h)]at hQ;simp only[yF,O];refine r9 hT a3 ((j.bh f).still st1) (by rw[st1.1];exact U) ?_;refine h4 hT a3 λa A a4=>?_;exact o _ a (st1.trans (fe _ _ _)) (f.trans A) a4 hQ
   . rw[show(if e.kind=2 then s1.b_ (s1.has e.V) 6 else s1)=s1 from af (by simpa using h)]at hQ;exact o _ l st1 f a3 hQ
end
end Rb
namespace Rb
open Go
variable{s:aV}{x:aC}{d:Int}{id:Nat}
section
variable{Φ:ad}{H:Z}{Q:aa}
theorem Ud(hT:Cl Φ S.b7)(hQ:∀H',Q (.bool (gp x)) H'):S.f139 Φ (.agg x.cells) H Q:=by
 have fin:∀(b:Bool) H',b=gp x->Q (.bool b) H':=λb H' h=>by rw[h];exact hQ H'
 clear hQ;unfold S.f139;simp only[ag];simp only[nf,aN,fG,hj,O];refine S.Sx hT (T8 λH1=>?_);simp only[bA,ac5,ac6,O,aN,bQ,bc];rw[cn _ _ _ 6 (T6 _) (T7 _) rfl];simp only[O];have at9:=At.new H1 (.row (l7 x.kind));generalize H1.push _=H2 at *;generalize H1.n=d at *;by_cases hk:(decide (1<=x.kind)&&decide (x.kind<=10))=acI
 . have hc:l7 x.kind=[.bool (eN x.kind).1,.bool (eN x.kind).2.1,.bool (eN x.kind).2.2.1,D (eN x.kind).2.2.2.1,.bool (eN x.kind).2.2.2.2.1,.bool (eN x.kind).2.2.2.2.2]:=by
     unfold l7;rw[ab (by simpa using hk)]
   rw[hc]at at9;unfold gp at fin;rw[hk]at fin ⊢;simp only[adP]at fin;generalize eN x.kind=h at *;obtain⟨j,h1,i,g,f,e⟩:=h;simp only at at9 fin;have k1:∀(b:Bool)(H':Z),At H' d (.row [.bool j,.bool h1,.bool i,D g,.bool f,.bool e])->(∀c a,c=(b&&(e||x.bw.length==0))->Q (.bool c) a)->G (S.pL Φ (.ae x.cells) (.ptr d 0) Q) [.bool b] H':=by
    intro b H' ha U;have l:aj H' 1 acJ (.ptr d 5)=acK (.bool e):=by rw[ha.load];rfl
    simp only[ag,aw,S.pL,T,bP,bF,aH,aa8,yI,O,bC,bI,l,Ko];cases b
    ·exact U _ _ rfl
    . rw[ab rfl];apply dC<;>intro h
      ·exact U _ _ (by rw[h];rfl)
      ·exact U _ _ (by rw[h];rfl)
   have k2:∀(b:Bool)(H':Z),At H' d (.row [.bool j,.bool h1,.bool i,D g,.bool f,.bool e])->(∀c a,c=(b&&(f||x.aZ.length==0)&&(e||x.bw.length==0))->Q (.bool c) a)->G (S.rM Φ (.ae x.cells) (.ptr d 0) Q) [.bool b] H':=by
    intro b H' ha U;have l:aj H' 1 acJ (.ptr d 4)=acK (.bool f):=by rw[ha.load];rfl
    simp only[ag,aw,S.rM,T,bP,bF,aH,aa8,sb,O,bC,bI,l,Ko];cases b
    ·exact k1 _ _ ha λc a hc=>U c a (by rw[hc];rfl)
    . rw[ab rfl];apply dC<;>intro h
      ·exact k1 _ _ ha λc a hc=>U c a (by rw[hc,h];rfl)
      ·exact k1 _ _ ha λc a hc=>U c a (by rw[hc,h];rfl)
   have k:∀(b:Bool)(H':Z),At H' d (.row [.bool j,.bool h1,.bool i,D g,.bool f,.bool e])->(∀c a,c=(b&&((x.bn.length:Int)==g)&&(f||x.aZ.length==0)&&(e||x.bw.length==0))->Q (.bool c) a) ->
     G (S.pM Φ (.ae x.cells) (.ptr d 0) Q) [.bool b] H':=by
    intro b H' ha U;have l:aj H' 1 acJ (.ptr d 3)=acK (D g):=by rw[ha.load];rfl
    simp only[ag,aw,S.pM,T,bP,bF,aH,aa8,mz,O,bC,bI,l];cases b
    ·exact k2 _ _ ha λc a hc=>U c a (by rw[hc];rfl)
    . rw[ab rfl];exact k2 _ _ ha λc a hc=>U c a (by rw[hc];rfl)
   have m:∀(b:Bool)(H':Z),At H' d (.row [.bool j,.bool h1,.bool i,D g,.bool f,.bool e])->(∀c a,c=(b&&(i||fo x.place)&&((x.bn.length:Int)==g)&&(f||x.aZ.length==0)&&(e||x.bw.length==0))->Q (.bool c) a) ->
     G (S.pN Φ (.ae x.cells) (.ptr d 0) Q) [.bool b] H':=by
    intro b H' ha U;have l:aj H' 1 acJ (.ptr d 2)=acK (.bool i):=by rw[ha.load];rfl
    simp only[ag,aw,S.pN,T,bP,bF,aH,aa8,ng,O,l];cases b
    ·exact k _ _ ha λc a hc=>U c a (by rw[hc];rfl)
    . rw [ab rfl];apply dC<;>intro h
      . refine S.Jo hT (Kl ?_);exact k _ _ ha λc a hc=>U c a (by rw[hc,h];rfl)
      ·exact k _ _ ha λc a hc=>U c a (by rw[hc,h];rfl)
   have o:∀(b:Bool)(H':Z),At H' d (.row [.bool j,.bool h1,.bool i,D g,.bool f,.bool e])->(∀c a,c=(b&&(h1||x.b9==[])&&(i||fo x.place)&&((x.bn.length:Int)==g)&&(f||x.aZ.length==0)&&(e||x.bw.length==0))->Q (.bool c) a) ->
     G (S.pO Φ (.ae x.cells) (.ptr d 0) Q) [.bool b] H':=by
    intro b H' ha U;have l:aj H' 1 acJ (.ptr d 1)=acK (.bool h1):=by rw[ha.load];rfl
    simp only[ag,aw,S.pO,T,bP,bF,aH,aa8,yG,O,l,fD];cases b
    ·exact m _ _ ha λc a hc=>U c a (by rw[hc];rfl)
    . rw[ab rfl];apply dC<;>intro h
      ·exact m _ _ ha λc a hc=>U c a (by rw[hc,h];rfl)
      ·exact m _ _ ha λc a hc=>U c a (by rw[hc,h];rfl)
   have l:aj H2 1 acJ (.ptr d 0)=acK (.bool j):=by rw[at9.load];rfl
   simp only[bP,bF,aH,aa8,aaY,l,O,my,fD,bc];apply dC<;>intro h
   ·exact o _ _ at9 λc a hc=>fin c a (by rw[hc,h];rfl)
   ·exact o _ _ at9 λc a hc=>fin c a (by rw[hc,h];rfl)
 . simp only[adB]at hk;rw[hk];simp only[ag,bP,S.pL,S.rM,S.pM,S.pN,S.pO,aw,T,abW,b4];refine fin _ _ ?_;unfold gp;rw[hk];rfl
end
def jE(s:aV):Prop:=(s.u.length:Int)<=s.lets/\s.lets<=41/\(s.aR=0->s.lets<=40)
theorem Ue{a:Bool}{e:Int}(b:e≠0)(h:(s.b_ a e).aR=0):s.aR=0/\a=acI:=by
 unfold aV.b_ at h;split at h
 ·exact absurd h b
 . rename_i hn;refine⟨h,?_⟩;cases a with
   |true=>rfl
   |false=>exact absurd ⟨rfl,h⟩ hn
section
variable(vars:List aB)(kw:List UInt8->Bool)
theorem Kv(s:aV)(d:Int)(x:aC):ew s (eg vars kw s d x):=by
 unfold eg;split
 ·exact(fe _ _ _).trans ((fe _ _ _).trans (fe _ _ _))
 . split
   ·exact fe _ _ _
   . split
     ·exact Ci vars _ _ _ _
     ·exact ew.refl s
theorem Uf(a:x.kind=1)(h:(eg vars kw s d x).aR=0):s.lets<40:=by unfold eg at h;rw[ab a]at h;have:=(Ue (by decide) h).2;exact of_decide_eq_true this
theorem Ug{l:List E}(h:(c_ vars s d l).aR=0):s.aR=0:=by
 by_cases a:s.aR=0
 ·exact a
 ·rw[r2 vars a]at h;exact absurd h a
theorem Uh(a:x.kind≠1):ew s (gq s x):=by
 unfold gq;rw[af a];split
 ·exact(fe _ _ _).trans ((fe _ _ _).trans (fe _ _ _))
 ·exact ew.refl s
theorem Kw(a:s.aR=0)(hi:jE s):jE (dA vars kw s d x)/\s.lets<=(dA vars kw s d x).lets/\s.u.length<=(dA vars kw s d x).u.length:=by
 obtain⟨i1,i2,i3⟩:=hi;have i4:=i3 a;have s1:ew s (c_ vars (eg vars kw (eB s d x) d x) d x.bn):=(Ch s d x).trans ((Kv vars kw _ d x).trans (yE vars _ _ _));unfold dA;by_cases hk:x.kind=1
 . have hl:(c_ vars (eg vars kw (eB s d x) d x) d x.bn).aR=0->s.lets<40:=by
     intro h;have:=Uf vars kw hk (Ug vars h);rw[(Ch s d x).2]at this;exact this
   generalize c_ vars (eg vars kw (eB s d x) d x) d x.bn=t at *;unfold gq;rw[ab hk];unfold aV.lZ jE;simp only[adm,ad9];obtain⟨s2,b⟩:=s1;rw[s2,b];have e:B (s.lets+1)=s.lets+1:=bo;rw[e];refine⟨⟨by omega,by omega,λk=>?_⟩,by omega,by omega⟩;have:=hl k;omega
 . have s2:=s1.trans (Uh (s:=c_ vars (eg vars kw (eB s d x) d x) d x.bn) hk);refine⟨⟨by rw[s2.1,s2.2];exact i1,by rw[s2.2];exact i2,λ_=>by rw[s2.2];exact i4⟩,by rw[s2.2];exact adR _,by rw[s2.1];exact hb _⟩
mutual
theorem Kx:∀(x:aC)(s:aV)(d:Int),s.aR=0->jE s->jE (stM vars kw s d x)/\s.lets<=(stM vars kw s d x).lets/\s.u.length<=(stM vars kw s d x).u.length
 | .mk kind ay V b9 a_ place bn aZ bw,s,d,a,hi=>by rw[stM];have h1:=Kw vars kw (d:=d) (x:= .mk kind ay V b9 a_ place bn aZ bw) a hi;generalize dA vars kw s d (.mk kind ay V b9 a_ place bn aZ bw)=s1 at *;have b:=se aZ s1 s1.u.length (B (d+1)) h1.1 (hb _);generalize eI vars kw s1 s1.u.length (B (d+1)) aZ=s2 at *;have e1:(s2.at ay).lets=s2.lets:=rfl;have c:(s2.at ay).u.length=s2.u.length:=rfl;have f:jE (s2.at ay):=b.1;generalize s2.at ay=t at *;have g:=se bw t t.u.length (B (d+1)) f (hb _);exact⟨g.1,by omega,by omega⟩
theorem se:∀(l:List aC)(s:aV)(n:Nat)(d:Int),jE s->n<=s.u.length->jE (eI vars kw s n d l)/\s.lets<=(eI vars kw s n d l).lets/\(eI vars kw s n d l).u.length=n
 | [],s,n,d,hi,hn=>by
  rw[eI];obtain⟨i1,i2,i3⟩:=hi;have e:(s.back n).u.length=n:=by show(s.u.take n).length=n;rw[adI];omega
  exact⟨⟨by rw[e];show(n:Int)<=s.lets;omega,i2,i3⟩,adR _,e⟩
 | x :: r,s,n,d,hi,hn=>by
  rw[eI];by_cases a:s.aR=0
  . rw[af (by simpa using a)];have h1:=Kx x (s.at x.ay) d a hi;have e1:(s.at x.ay).lets=s.lets:=rfl;have c:(s.at x.ay).u=s.u:=rfl;rw[e1,c]at h1;have b:=se r (stM vars kw (s.at x.ay) d x) n d h1.1 (by omega);exact⟨b.1,by omega,b.2.2⟩
  . rw[ab a];exact se r s n d hi hn
end
theorem Ui{l:List aC}(hi:jE s):jE (et vars kw s d l)/\s.lets<=(et vars kw s d l).lets/\(et vars kw s d l).u.length=s.u.length:=se vars kw l s _ d hi (hb _)
end
def Frame(id:Nat)(a:I)(H:Z)(b:I)(H':Z):Prop:=H.n<=H'.n/\(∀i o,i≠id->(∀n,a ≠ .row i 0 n 1)->At H i o->At H' i o)/\∀j n,b = .row j 0 n 1->(∃m,a = .row j 0 m 1)\/H.n<=j
theorem Frame.of{a:I}{H H':Z}(h:bX id H H'):Frame id a H a H':=⟨h.1,λi o hi _ b=>h.2 i o hi b,λj n e=> .inl ⟨n,e⟩⟩
theorem Frame.trans{l0 l1 l2:I}{a b c:Z}(h:Frame id l0 a l1 b)(k:Frame id l1 b l2 c):Frame id l0 a l2 c:=by
 refine⟨sl h.1 k.1,λi o hi hn f=>k.2.1 i o hi (λn e=>?_) (h.2.1 i o hi hn f),λj n e=>?_⟩
 . rcases h.2.2 i n e with⟨m,d⟩|g
   ·exact hn m d
   ·exact absurd f.1 (by omega)
 . rcases k.2.2 j n e with⟨m,d⟩|g
   ·exact h.2.2 j m d
   ·right;have:=h.1;omega
end Rb
namespace Rb
open Go
variable{H:Z}{loc:I}
theorem aC.dL{x:aC}(h:x.ok):x.place.ok/\(x.bn.length<=9223372036854775807/\∀e∈x.bn,e.ok)/\(x.aZ.length<=9223372036854775807/\∀y∈x.aZ,y.ok)/\(x.bw.length<=9223372036854775807/\∀y∈x.bw,y.ok):=by
 rw[<-nh];cases x with
 | mk kind ay V b9 a_ place bn aZ bw=>obtain⟨_,_,_,_,_,a,b,c,h9,d,f,g⟩:=h;exact⟨a,⟨b,E.eG.1 c⟩,⟨h9,aC.eG.1 d⟩,f,aC.eG.1 g⟩
theorem aC.ind{P:aC->Prop}(h:∀x:aC,(∀y∈x.aZ,P y)->(∀y∈x.bw,P y)->P x):∀x,P x:=by
 have main:∀(n:Nat)(x:aC),sizeOf x<n->P x:=by
  intro n;induction n with
  |zero=>intro x a;omega
  | succ n c=>
   intro x a;refine h x (λy b=>c _ ?_) λy b=>c _ ?_
   . cases x with
     | mk kind ay V b9 a_ place bn aZ bw=>have:=adA b;simp at this a ⊢;omega
   . cases x with
     | mk kind ay V b9 a_ place bn aZ bw=>have:=adA b;simp at this a ⊢;omega
 exact λx=>main _ x (acR _)
theorem Uj(cs:List I)(n:Nat)(v:I):setCells cs n [v]=cs.set n v:=rfl
theorem Uk{id:Nat}{l:List (List UInt8)}{x:List UInt8}{k:List I}(a:At H id (.row k))(p:gT H id loc l)(U:l.length<=1000){K:aa}
  (b:∀c H',Frame id loc H c H'->At H' id (.row k)->gT H' id c (l++[x])->K c H'):bs (cZ H acI 1 16 loc (.aq .full 1 [.str x])) K:=by
 have m:hL H 1 (.aq .full 1 [.str x])=acK (1,[.str x]):=rfl;rcases p with⟨rfl,rfl⟩|⟨j,cs,rfl,d,f,r,g⟩
 . refine⟨.row H.n 0 1 1,H.push (.row [.str x]),rfl,?_⟩;refine b _ _ ⟨aa2 _,λi o _ _ h=>h.push _,λj n e=>?_⟩ (a.push _) (.inr ⟨H.n,[.str x],rfl,ad8 a.h2,At.new H _,hb _,rfl⟩);cases e;right;exact hb _
 . by_cases hc:l.length+1<=cs.length
   . refine ⟨.row j 0 (l.length+1) 1,H.set j (.row (setCells cs (l.length*1) [.str x])),?_,?_⟩
     . simp only[cZ,m,f.2];simp only[acP,ad_,I.scalar,aea,not_true_eq_false,b4];rw[cw,af (by simp only[adJ];exact⟨trivial,trivial,by omega,by omega⟩),dN]
     . rw [Nat.mul_one,Uj];refine b _ _ ⟨hb _,λi o hi hn h=>h.bR (λe=>hn l.length (by rw[e])) _,λi n e=>?_⟩ (a.bR (ad8 d) _) (.inr ⟨j,cs.set l.length (.str x),by simp,d,f.set _,by simpa using hc,?_⟩)
       . cases e;left;exact⟨_,rfl⟩
       . rw[adm,ad9,adw,List.getElem?_set_self (by omega),List.take_set_of_le (by omega),g];simp
   . have q:cs.length=l.length:=by omega
     refine⟨.row H.n 0 (l.length+1) 1,(H.set j .gone).push (.row (cs++[.str x])),?_,?_⟩
     . simp only[cZ,m,f.2];simp only[acP,ad_,I.scalar,aea,not_true_eq_false,b4];rw[cw,af (by simp only[adJ];exact⟨trivial,trivial,by omega,by omega⟩),bL,dN]
     . refine b _ _ ⟨by simp,λi o hi hn h=>(h.bR (λe=>hn l.length (by rw[e])) _).push _,λi n e=>?_⟩ ((a.bR (ad8 d) _).push _) (.inr ⟨H.n,cs++[.str x],by simp,ad8 a.h2,?_,by simp;omega,?_⟩)
       . cases e;right;exact hb _
       ·exact At.new (H.set j .gone) _
       . rw[adm,ad9,adp (by simp;omega)];rw[<-q,adg]at g;rw[g];simp
def Ky(C:Ctx)(id:Nat)(vars:List aB)(kw:List UInt8->Bool)(x:aC):Prop:=
 ∀ (s:aV) (d:Int) (loc:I) (H:Z) (Q:aa),s.aR=0->jE s->At H id (.row (cr vars s loc))->gT H id loc s.u ->
  (∀H' a,Frame id loc H a H'->At H' id (.row (cr vars (stM vars kw s d x) a))->gT H' id a (stM vars kw s d x).u->Q (.aA []) H')->ai C 96 [.ptr id 0,.agg x.cells,D d] H Q
section
variable{C:Ctx}(ak:cP C)(hT:Cl (ai C) S.b7){id:Nat}{vars:List aB}{kw:List UInt8->Bool}
include ak hT
theorem Ul(x:aC):bD (ai C) 139 [.agg x.cells] (.bool (gp x)):=bD.of ak (by simp[I.bV,I.bu,aC.bu]) rfl λQ hQ=>S.R4 hT (Ud hT hQ)
theorem Cp{l:List aC}(hl:l.length<=9223372036854775807)(hS:∀x∈l,Ky C id vars kw x){s:aV}{d:Int}{Q:aa}(hi:jE s)(v:At H id (.row (cr vars s loc)))(w:gT H id loc s.u)
  (hQ:∀H' p,Frame id loc H p H'->At H' id (.row (cr vars (et vars kw s d l) p))->gT H' id p (et vars kw s d l).u->Q (.aA []) H'):ai C 58 [.ptr id 0,av aC.cells l,D d] H Q:=by
 refine S.Rc hT ?_;unfold S.f58;simp only[ag];simp only[b8,aH,O,aa8];rw[v.load,show bO (cr vars s loc) 1 1 acJ=acK loc from rfl];simp only[O];have hlen:∀{H:Z}{lc:I}{xs:List (List UInt8)},gT H id lc xs->ea acJ lc=acK (D xs.length):=by
  intro H lc xs h;rcases h with⟨rfl,rfl⟩|⟨j,cs,rfl,_⟩
  ·rfl
  ·rfl
 rw[hlen w];simp only[O,bC];have main:∀(r:List aC)(i:Nat)(R:aV)(a:I)(H1:Z),l.drop i=r->jE R->s.u.length<=R.u.length->Frame id loc H a H1->At H1 id (.row (cr vars R a))->gT H1 id a R.u->eI vars kw R s.u.length d r=et vars kw s d l ->
   ar (S.rA (ai C) (.ptr id 0) (av aC.cells l) (D d) (D s.u.length) (D l.length) Q) ([D i],H1):=by
  intro r;induction r with
  | nil =>
   intro i R a H1 q m c hf ha o he;have hle:=c7 q;refine ar.step ?_;simp only[ag,S.rA,T,aY,O,au];rw[cQ];simp only[ag,aw,S.G8,b8,aH,O,aa8];rw[ha.load,show bO (cr vars R a) 1 1 acJ=acK a from rfl];simp only[O];rw[eI]at he;have cut:∃b,eC 1 a acL (acK (D s.u.length)) acL=acK b/\Frame id a H1 b H1/\(∀cs,At (H1.set id (.row cs)) id (.row cs)->gT (H1.set id (.row cs)) id b (R.u.take s.u.length))/\b.known=acI/\b.cells=[b]/\b.scalar=acI:=by
    rcases o with⟨rfl,h⟩|⟨j,cs,rfl,y,J,al,K⟩
    . have g:s.u.length=0:=by rw[h]at c;simpa using c
      refine⟨A,?_,⟨hb _,λ_ _ _ _ h=>h,λ_ _ e=>by cases e⟩,λ_ _=> .inl ⟨rfl,by rw[h];simp⟩,rfl,rfl,rfl⟩;rw[g];rfl
    . refine ⟨.row j 0 s.u.length 1,?_,⟨hb _,λ_ _ _ _ h=>h,λi n e=>by cases e;exact .inl ⟨_,rfl⟩⟩,λcs' _=> .inr ⟨j,cs,?_,y,J.bR y _,?_,?_⟩,rfl,rfl,rfl⟩
      . simp only[eC,fg];rw[dN];simp only[aeb];rw[ab ⟨aaU _,by omega,trivial⟩,ab (.inl trivial)];simp
      ·rw[adI,aec c]
      ·rw[adI];omega
      ·rw[adI,aec c,List.map_take,<-K,List.take_take,aec c]
   obtain⟨b,e1,f2,l2,g1,g2,g3⟩:=cut;rw[e1];simp only[O];rw[ha.store,ab ⟨g1,by rw[g2];rfl,by rw[g2];simp[g3],by simp[cr]⟩,g2];simp only[O];have L:setCells (cr vars R a) 1 [b]=cr vars (R.back s.u.length) b:=rfl;rw[L];refine hQ _ b ((hf.trans f2).trans (Frame.of (bX.set id H1 _))) (by rw[<-he];exact ha.set _) ?_;rw[<-he];exact l2 _ (ha.set _)
  | cons x r M=>
   intro i R a H1 q m c hf ha o he;obtain⟨N,z,P⟩:=c4 q;have U:=adq z;refine ar.step ?_;simp only[ag,S.rA,T,aY,O,au];rw[cM,b6 N];simp only[O];rw[c8 aC.len (by decide) _ z];simp only[O,aN,bQ,bc];rw[cn _ _ _ 10 x.len x.scalar rfl];simp only[O,aH,aa8];have fy:=ha.push (.row x.cells);have t:bX id H1 (H1.push (.row x.cells)):=bX.push id H1 (.row x.cells);have B:=At.new H1 (.row x.cells);have V:H1.n≠id:=ad8 ha.h2;have next:∀(s2:aV)(k:I)(f:Z),jE s2->s.u.length<=s2.u.length->Frame id loc H k f->At f id (.row (cr vars s2 k))->gT f id k s2.u->eI vars kw s2 s.u.length d r=et vars kw s d l ->
     G (S.wo (ai C) ([D i],H1) (ar (S.rA (ai C) (.ptr id 0) (av aC.cells l) (D d) (D s.u.length) (D l.length) Q)) Q) [] f:=by
    intro s2 k f i3 W f3 a3 l3 X;simp only[ag,aw,S.wo,T,bz,O];rw[bo,fj i];exact M (i+1) s2 k f P i3 W f3 a3 l3 X
   rw[eI]at he;generalize H1.push _=H2 at *;generalize H1.n=E at *;refine S.n5 hT (oq fy ?_);simp only[dg,O,au];apply aG<;>intro h
   . have g:R.aR=0:=by simpa using h
     rw[af (by simpa using g)]at he;have Y:aj H2 1 acJ (.ptr E 1)=acK (D x.ay):=by rw[B.load,aC.aX,aJ.aX];rfl
     simp only[Y,O,b8];rw[fy.store,ab ⟨rfl,rfl,rfl,by simp[cr]⟩];simp only[O];have ac:setCells (cr vars R a) 3 (D x.ay).cells=cr vars (R.at x.ay) a:=rfl;rw[ac];have a4:At (H2.set id (.row (cr vars (R.at x.ay) a))) id (.row (cr vars (R.at x.ay) a)):=fy.set _;have F:bX id H1 (H2.set id (.row (cr vars (R.at x.ay) a))):=t.trans (bX.set id H2 _);have ad:At (H2.set id (.row (cr vars (R.at x.ay) a))) E (.row x.cells):=B.bR V _;generalize H2.set id (.row (cr vars (R.at x.ay) a))=f at *;rw[ad.load,gJ x.len];simp only[O];have inv:=Kx vars kw x (R.at x.ay) d g m;refine hS x U (R.at x.ay) d a f _ g m a4 (o.bh F) λae ah f5 a5 ak=>?_;exact next _ ah ae inv.1 (sl c inv.2.2) ((hf.trans (Frame.of F)).trans f5) a5 ak he
   . have g:R.aR≠0:=by simpa using h
     rw[ab g]at he;exact next R a H2 m c (hf.trans (Frame.of t)) fy (o.bh t) he
 exact main l 0 s loc H rfl hi (hb _) (Frame.of (bX.refl id H)) v w rfl
theorem Um(an:vars.length<=maxLen)(hv:∀v∈vars,v.ok)(iq:∀x,bD (ai C) 93 [.str x] (.bool (kw x))):∀x:aC,x.ok->Ky C id vars kw x:=by
 refine aC.ind λx aD aE aF=>?_;obtain⟨ao,⟨aI,aK⟩,⟨aL,aM⟩,aO,aP⟩:=aC.dL aF;have aQ:=aJ.dL ao;have ap:∀e:E,e.ok->yJ C id vars e:=Uc ak hT an hv;intro s d loc H Q aR hi aS n hQ;have U:s.u.length<=1000:=by have:=hi.1;have:=hi.2.1;omega
 have ar:=Kw vars kw (d:=d) (x:=x) aR hi;rw[stM_eq]at hQ;refine S.RE hT ?_;unfold S.f96;simp only[ag];simp only[nf,aN,gl,O];refine h4 hT aS λH1 k1 M=>?_;simp only[Kn,O];refine Ul ak hT x _ _ ?_;refine h4 hT M λH2 k2 a2=>?_;simp only[fG,hj,yH,O];refine Kr ak hT _ _ _ _ ?_;refine h4 hT a2 λaa aT a3=>?_;have q:=k1.trans (k2.trans aT);change At aa id (.row (cr vars (eB s d x) loc))at a3;have st1:=Ch s d x;have tail:∀(J:I)(c:Z),Frame id loc H J c->At c id (.row (cr vars (dA vars kw s d x) J))->gT c id J (dA vars kw s d x).u->G (S.rL (ai C) (.ptr id 0) (D d) (.ae x.cells) Q) [] c:=by intro J c f4 a4 l4;generalize dA vars kw s d x=av at *;simp only[ag,aw,S.rL,fG,sb,O,bz];have b1:=Ui vars kw (d:=B (d+1)) (l:=x.aZ) ar.1;refine Cp ak hT aL (λy z=>aD y z (aM y z)) ar.1 a4 l4 λo ac f5 a5 aU=>?_;simp only[Cn,O,b8,aH,aa8];change At o id (.row (cr vars (et vars kw av (B (d+1)) x.aZ) ac))at a5;generalize et vars kw av (B (d+1)) x.aZ=a at *;rw[a5.store,ab ⟨rfl,rfl,rfl,by simp[cr]⟩];simp only[O];have aW:setCells (cr vars a ac) 3 (D x.ay).cells=cr vars (a.at x.ay) ac:=rfl;rw[aW];simp only[O,fG,yI];refine Cp ak hT aO (λy z=>aE y z (aP y z)) (s:=a.at x.ay) b1.1 (a5.set _) (aU.bh (bX.set id o _)) λm f f6 a6 K=>?_;exact hQ m f (((f4.trans f5).trans (Frame.of (bX.set id o _))).trans f6) a6 K
 have g:∀(c:Z),bX id H c->At c id (.row (cr vars (eg vars kw (eB s d x) d x) loc))->G (S.pI (ai C) (.ptr id 0) (D d) (.ae x.cells) Q) [] c:=by
  intro c k a4;have st2:=st1.trans (Kv vars kw (eB s d x) d x);simp only[ag,aw,S.pI,fG,mz,O];refine Kt ak hT aI (λe he=>ap e (aK e he)) a4 ((n.bh k).still st2) (by rw[st2.1];exact U) λo ad a5=>?_;have w:=st2.trans (yE vars x.bn (eg vars kw (eB s d x) d x) d);have r:=k.trans ad;have aX:dA vars kw s d x=gq (c_ vars (eg vars kw (eB s d x) d x) d x.bn) x:=rfl;rw[aX]at tail;generalize c_ vars (eg vars kw (eB s d x) d x) d x.bn=a at *;simp only[hj,O,bI,au];apply aG<;>intro h
  . have L:x.kind=1:=by simpa using h
    have A:gq a x=a.lZ x.V:=by unfold gq;rw[ab L]
    rw[A]at tail;simp only[b8,aH,O,aa8];rw[a5.load,show bO (cr vars a loc) 1 1 acJ=acK loc from rfl];simp only[O,fG,my];rw[show cI o acJ 1 1 [.str []] [(0,1,.str x.V)]=acK (.aq .full 1 [.str x.V],o)from rfl];simp only[aN];refine Uk a5 ((n.bh r).still w) (by rw[w.1];exact U) λf m f6 a6 K=>?_;have F:f.known=acI/\f.cells=[f]/\f.scalar=acI:=by
     rcases K with⟨rfl,_⟩|⟨j,cs,rfl,_⟩
     ·exact⟨rfl,rfl,rfl⟩
     ·exact⟨rfl,rfl,rfl⟩
    rw[a6.store,ab ⟨F.1,by rw[F.2.1];rfl,by rw[F.2.1];simp[F.2.2],by simp[cr]⟩,F.2.1];simp only[O];have a0:setCells (cr vars a loc) 1 [f]=cr vars a f:=rfl;rw[a0];have a7:At (m.set id (.row (cr vars a f))) id (.row (cr vars a f)):=a6.set _;have ah:bX id m (m.set id (.row (cr vars a f))):=bX.set id m _;generalize m.set id (.row (cr vars a f))=ax at *;rw[a7.load,show bO (cr vars a f) 2 1 acJ=acK (D a.lets)from rfl];simp only[O,bz];rw[a7.store,ab ⟨rfl,rfl,rfl,by simp[cr]⟩];simp only[O];have N:=ah.trans (bX.set id ax (.row (setCells (cr vars a f) 2 (D (abu .i64 (a.lets+1))).cells)));exact tail f _ (((Frame.of r).trans f6).trans (Frame.of N)) (a7.set _) (K.bh N)
  . have L:x.kind≠1:=by simpa using h
    apply aG<;>intro t
    . have aj:x.kind=5:=by simpa using t
      have A:gq a x=((a.b_ (a.has x.V) 6).b_ ((a.b_ (a.has x.V) 6).has x.b9) 6).b_ (!(x.V==x.b9)) 7:=by
       unfold gq;rw[af L,ab aj];have:(a.b_ (a.has x.V) 6).has x.b9=a.has x.b9:=by unfold aV.has;rw[(fe a _ _).1]
       rw[this]
      rw[A]at tail;simp only[my,yG,O];refine r9 hT a5 ((n.bh r).still w) (by rw[w.1];exact U) ?_;refine h4 hT a5 λm P a6=>?_;have al:=w.trans (fe a (a.has x.V) 6);refine r9 hT a6 ((n.bh (r.trans P)).still al) (by rw[al.1];exact U) ?_;refine h4 hT a6 λax ah a7=>?_;simp only[kU,O];refine h4 hT a7 λa1 N a8=>?_;have az:=r.trans (P.trans (ah.trans N));refine tail loc a1 (Frame.of az) a8 ((n.bh az).still (al.trans ((fe _ _ _).trans (fe _ _ _))))
    . have aj:x.kind≠5:=by simpa using t
      have A:gq a x=a:=by unfold gq;rw[af L,af aj]
      rw[A]at tail;exact tail loc o (Frame.of r) a5 ((n.bh r).still w)
 have am:eg vars kw (eB s d x) d x=eg vars kw (eB s d x) d x:=rfl
 conv at am=>rhs;unfold eg
 rw[am]at g;clear am;generalize eB s d x=s1 at *;simp only[hj,O,bI,au];apply aG<;>intro h
 . rw [ab (by simpa using h)]at g;have aA:∀(b:Bool)(c:Z),b=(ek x.V&&!kw x.V)->bX id H c->At c id (.row (cr vars (s1.b_ b 6) loc))->G (S.xi (ai C) (.ptr id 0) (D d) (.ae x.cells) Q) [] c:=by
    intro b c R k a4;rw[<-R]at g;have st2:=st1.trans (fe s1 b 6);have a9:(s1.b_ b 6).has x.V=s1.has x.V:=by unfold aV.has;rw[(fe s1 b 6).1]
    have a_:((s1.b_ b 6).b_ (!s1.has x.V) 7).lets=s1.lets:=((fe s1 b 6).trans (fe _ _ _)).2;simp only[ag,aw,S.xi,fG,my,O];refine r9 hT a4 ((n.bh k).still st2) (by rw[st2.1];exact U) ?_;rw[a9];simp only[dg,O];refine h4 hT a4 λo ad a5=>?_;simp only[b8,aH,O,aa8];rw[a5.load,show bO (cr vars ((s1.b_ b 6).b_ (!s1.has x.V) 7) loc) 2 1 acJ=acK (D ((s1.b_ b 6).b_ (!s1.has x.V) 7).lets)from rfl,a_];simp only[O,aY];refine h4 hT a5 λm P a6=>?_;exact g m (k.trans (ad.trans P)) a6
   simp only[my,O];refine BZ ak hT x.V _ _ ?_;simp only[bP];apply ite_bool<;>intro hn
   . refine iq x.V _ _ ?_;simp only[dg,O];refine h4 hT a3 λc k a4=>?_;exact aA _ c (by rw[hn];rfl) (q.trans k) a4
   . refine h4 hT a3 λc k a4=>?_;exact aA _ c (by rw[hn];rfl) (q.trans k) a4
 . rw [af (by simpa using h)]at g;apply aG<;>intro aB
   . rw[ab (by simpa using aB)]at g;simp only[my,O];refine r9 hT a3 ((n.bh q).still st1) (by rw[st1.1];exact U) ?_;refine h4 hT a3 λc k a4=>?_;exact g c (q.trans k) a4
   . rw [af (by simpa using aB)]at g;have W:∀b:Bool,(b=acI↔(x.kind=3\/x.kind=4\/x.kind=5\/x.kind=6))->G (S.pJ (ai C) (.ptr id 0) (D d) (.ae x.cells) Q) [.bool b] aa:=by
      intro b R;simp only[ag,aw,S.pJ,T,au,fG,hj,ng,O];apply aG<;>intro h
      . rw[ab (R.1 h)]at g;refine Ku ak hT an hv ao (λp hp i hi=>ap i ((aQ.2 p hp).2 i hi)) a3 ((n.bh q).still st1) (by rw[st1.1];exact U) λH' k' a'=>?_;exact g H' (q.trans k') a'
      . rw[af λy=>h (R.2 y)]at g;exact g aa q a3
     apply aG<;>intro X
     . refine W _ ?_;simp only[bZ]at X;simp[X]
     . apply aG<;>intro Y
       . refine W _ ?_;simp only[bZ]at Y;simp[Y]
       . apply aG<;>intro t
         . refine W _ ?_;simp only[bZ]at t;simp[t]
         . refine W _ ?_;simp only[bZ]at X Y t;simp[X,Y,t]
end
end Rb
namespace Rb
open Go
variable{n k:Int}{p:PL}
theorem sf{n step:Int}(a:0<=n)(b:n<=1000000000)(c:1<=step)(d:step<=1000000):n<=cA n step/\cA n step<=n+step-1:=by rw[TD a b c d];have e:=Int.mul_ediv_add_emod (n+step-1) step;have f:=adW (n+step-1) (show 0<step by omega);have g:=adU (n+step-1) (show step≠0 by omega);rw[adX]at e;omega
def sg(k:Int)(p:PL):Prop:=0<=p.bit/\p.bit<=k*1000000/\0<=p.size/\p.size<=k*1000000/\1<=p.bp/\p.bp<=16
theorem Kz(a:0<=n)(b:n<=1000000000):B (n.tdiv 8)=n/8:=by rw[adY a];exact bo
theorem Cq(c:0<=p.bit)(d:p.bit<=(k+1)*1000000)(h:0<=p.size)(i:p.size<=k*1000000)(f:1<=p.bp)(g:p.bp<=16)(j:0<=k)(l:k<=40):sg (k+1) (lX p):=by
 obtain⟨a,b⟩:=sf (n:=p.bit) (step:=8) c (by omega) (by omega) (by omega);have e:B ((cA p.bit 8).tdiv 8)=cA p.bit 8/8:=Kz (by omega) (by omega);refine⟨c,d,?_,?_,f,g⟩
 . show 0<=max p.size _;omega
 . show max p.size (B ((cA p.bit 8).tdiv 8))<=_;rw[e];omega
theorem Un{packed:Bool}{kind:Int}{q:List (List UInt8)}{f:aE}{g:Int×Int}(hp:sg k p)(c:0<=k)(j:k<=40)(hs:gA packed q f=0)(x:0<=g.1)(y:g.1<=65536)(z:1<=g.2)(A:g.2<=16):sg (k+1) (ij packed kind p f g):=by
 obtain⟨b1,b2,s1,s2,M,a2⟩:=hp;have U:f.bits=acI->(f.type.size=1\/f.type.size=2\/f.type.size=4\/f.type.size=8)/\0<=f.aQ/\f.aQ<=64:=by
  intro b;rw[kV]at hs;split at hs
  ·cases hs
  split at hs
  ·cases hs
  split at hs
  ·rename_i hz;exact absurd hs hz
  rename_i hz;split at hs
  ·cases hs
  rename_i hn;split at hs
  ·cases hs
  rename_i hw;have r:f.type.kind=1:=by
   by_cases c:f.type.kind=1
   ·exact c
   ·exact absurd (.inr ⟨b,.inl c⟩) hn
  have d:cW f.type=0:=by simpa using hz
  have m:f.type.size=1\/f.type.size=2\/f.type.size=4\/f.type.size=8:=by
   rw[gB,r]at d;split at d
   ·cases d
   . simp only[bc]at d;split at d
     . rename_i hp;simp[el]at hp;omega
     ·cases d
  have C:¬f.aQ<0/\¬8*f.type.size<f.aQ:=⟨λh=>hw ⟨b,.inl h⟩,λh=>hw ⟨b,.inr (.inl h)⟩⟩
  exact⟨m,by omega,by omega⟩
 have s:1<=fk packed f g.2/\fk packed f g.2<=16:=by
  unfold fk;split
  ·omega
  . split
    . rename_i b;have:=U b;omega
    ·omega
 unfold ij;simp only;generalize i:({p with bp:=max p.bp (fk packed f g.2),bit:=if kind=4 then 0 else p.bit}:PL)=a;have c1:0<=a.bit:=by rw[<-i];show 0<=(if kind=4 then 0 else p.bit);split<;>omega
 have c2:a.bit<=k*1000000:=by rw[<-i];show(if kind=4 then 0 else p.bit)<=_;split<;>omega
 have c3:a.size=p.size:=by rw[<-i]
 have e:1<=a.bp/\a.bp<=16:=by rw[<-i];show 1<=max p.bp _/\max p.bp _<=16;omega
 by_cases b:f.bits=acI
 . rw [ab b];obtain⟨m,w1,w2⟩:=U b;have l:B (8*f.type.size)=8*f.type.size:=bo;obtain⟨t,u⟩:=sf (n:=a.bit) (step:=8*f.type.size) c1 (by omega) (by omega) (by omega);unfold lW;split
   . refine Cq ?_ ?_ ?_ ?_ ?_ ?_ c j
     ·show 0<=cA a.bit (B (8*f.type.size));rw[l];omega
     ·show cA a.bit (B (8*f.type.size))<=_;rw[l];omega
     ·show 0<=a.size;omega
     ·show a.size<=_;omega
     ·exact e.1
     ·exact e.2
   . have o1:a.bit<=ih a f/\ih a f<=a.bit+63:=by
       unfold ih;rw[l];split<;>omega
     have o:B (ih a f+f.aQ)=ih a f+f.aQ:=bo;refine Cq ?_ ?_ ?_ ?_ ?_ ?_ c j
     ·show 0<=B (ih a f+f.aQ);rw[o];omega
     ·show B (ih a f+f.aQ)<=_;rw[o];omega
     ·show 0<=a.size;omega
     ·show a.size<=_;omega
     ·exact e.1
     ·exact e.2
 . rw[af b];unfold yo;obtain⟨t,u⟩:=sf (n:=a.bit) (step:=8) c1 (by omega) (by omega) (by omega);have e1:B ((cA a.bit 8).tdiv 8)=cA a.bit 8/8:=Kz (by omega) (by omega);obtain⟨v1,v2⟩:=sf (n:=cA a.bit 8/8) (step:=fk packed f g.2) (by omega) (by omega) s.1 (by omega);have v:B (cA (cA a.bit 8/8) (fk packed f g.2)+g.1)=cA (cA a.bit 8/8) (fk packed f g.2)+g.1:=bo;have w:B (8*(cA (cA a.bit 8/8) (fk packed f g.2)+g.1))=8*(cA (cA a.bit 8/8) (fk packed f g.2)+g.1):=bo;rw[e1,v,w];refine Cq ?_ ?_ ?_ ?_ ?_ ?_ c j
   ·show 0<=8*(cA (cA a.bit 8/8) (fk packed f g.2)+g.1);omega
   ·show 8*(cA (cA a.bit 8/8) (fk packed f g.2)+g.1)<=_;omega
   ·show 0<=a.size;omega
   ·show a.size<=_;omega
   ·exact e.1
   ·exact e.2
theorem KC{packed:Bool}{kind:Int}:∀{l:List aE}{a:List (List UInt8)}{k:Int}{p q:PL},sg k p->0<=k->k+l.length<=40->fB packed a l=0 ->
  (∀f∈l,cW f.type=0->(L f.type).2=acI->0<=(L f.type).1.1/\(L f.type).1.1<=65536/\1<=(L f.type).1.2/\(L f.type).1.2<=16)->dQ packed kind p l=acK q->sg 40 q
 | [],a,k,p,q,hp,hk,b,_,_,h=>by simp only[dQ,aaC.injEq]at h;subst h;obtain⟨b1,b2,s1,s2,M,a2⟩:=hp;simp at b;exact⟨b1,by omega,s1,by omega,M,a2⟩
 | f :: r,a,k,p,q,hp,hk,b,hs,hf,h=>by
  simp only[dQ]at h;split at h
  . rename_i c;rw[na]at c h;have d:gA packed a f=0/\fB packed (a++[f.V]) r=0:=by
     simp only[fB]at hs;by_cases hz:gA packed a f=0
     ·rw[af (by simpa using hz)]at hs;exact⟨hz,hs⟩
     ·rw[ab hz]at hs;exact absurd hs hz
    have e:cW f.type=0:=oe hs f (by simp);obtain⟨g1,g2,g3,g4⟩:=hf f (by simp) e c;simp only[adN]at b;exact KC (k:=k+1) (Un hp hk (by omega) d.1 g1 g2 g3 g4) (by omega) (by omega) d.2 (λg i=>hf g (by simp[i])) h
  ·cases h
theorem Cr:∀t:X,cW t=0->(L t).2=acI->0<=(L t).1.1/\(L t).1.1<=65536/\1<=(L t).1.2/\(L t).1.2<=16:=by
 refine X.ind λt c d hs h=>?_;rw[jW]at h ⊢;split at h
 . rename_i b;rw[ab b];rw[gB]at hs;split at hs
   ·cases hs
   . have hp:el t.size 8=acI\/el t.size 16=acI:=by
       rcases b with h1|h1
       . rw[ab h1]at hs;split at hs
         ·exact .inl ‹_›
         ·cases hs
       . rw[bL,ab h1]at hs;split at hs
         ·exact .inr ‹_›
         ·cases hs
     show 0<=t.size/\t.size<=65536/\1<=t.size/\t.size<=16;rcases hp with hp|hp<;>(simp[el]at hp;omega)
 . rename_i b;rw[af b];split at h
   . rename_i a;rw[ab a];obtain⟨e,he,g⟩:=kq hs a;have hc:1<=t.bg/\t.bg<=65536:=by
      rw[gB,a]at hs;split at hs
      ·cases hs
      . simp at hs;split at hs
        ·cases hs
        ·omega
     rw[he]at h ⊢;simp only[f_,aar]at h ⊢;obtain⟨h,hle⟩:=h;have hle:=of_decide_eq_true hle;obtain⟨g1,g2,g3,g4⟩:=d e (by rw[he];simp) g h;have hm:0<=(L e).1.1*t.bg:=ad5 g1 (by omega);have l:(L e).1.1*t.bg<=65536*65536:=ad6 g2 hc.2 (by omega) (by omega);have e1:B ((L e).1.1*t.bg)=(L e).1.1*t.bg:=bo;rw[e1]at hle ⊢;exact⟨hm,hle,g3,g4⟩
   . rename_i a;rw[af a];cases hp:dQ t.packed t.kind ⟨0,1,[],0⟩ t.Y with
     |none=>rw[hp]at h;cases h
     | some p =>
      rw[hp]at h;simp only[dJ]at h ⊢;have i:t.kind=3\/t.kind=4:=by rcases nb hs with h|h|h|h|h<;>omega
      have j:fB t.packed [] t.Y=0:=by
       rw[gB]at hs;split at hs
       ·cases hs
       . rw [bL,bL,bL]at hs;first
          |exact hs
          | (split at hs
             ·cases hs
             ·exact hs)
      obtain⟨b1,b2,s1,s2,M,a2⟩:=KC (k:=0) (p:=⟨0,1,[],0⟩) ⟨by decide,by decide,by decide,by decide,by decide,by decide⟩ (by omega) (by have:=(lV hs i).2;omega) j (λf hf=>c f hf) hp;obtain⟨m,o⟩:=sf (n:=p.size) (step:=p.bp) s1 (by omega) M (by omega);exact⟨by omega,h,M,a2⟩
theorem Uo{t:X}(h:(bm t).2=0):0<=(bm t).1.1/\(bm t).1.1<=65536/\1<=(bm t).1.2/\(bm t).1.2<=16:=by
 unfold bm at h ⊢;split at h
 ·rename_i hs;exact absurd h hs
 . rename_i hs;split at h
   ·cases h
   . rename_i ht;split at h
     ·cases h
     . rename_i a;rw[af hs,af ht,af a];exact Cr t (fm (by simpa using hs)) (by simpa using a)
def z5:List UInt8:=[122,122,122,122,122]
def KD(a b:aV):Prop:=a=b\/a.aR=6
theorem KD.refl(a:aV):KD a a:= .inl rfl
end Rb
namespace Rb
open Go
theorem ot(a b:List I):I.ec (a++b)=I.ec a++I.ec b:=by rw[lJ,lJ,lJ,aed]
mutual
theorem E.p4:∀x:E,I.ec x.cells=x.cells
 | .mk kind n V op a_ place br=>by simp only[E.cells,I.ec,I.cU,ot,aJ.p4 place,E.p5 br]
theorem E.p5:∀xs:List E,I.ec (E.all xs)=E.all xs
 |[]=>rfl
 |x::r=>by rw[E.all,ot,E.p4 x,E.p5 r]
theorem aJ.p4:∀x:aJ,I.ec x.cells=x.cells
 | .mk var ax=>by simp only[aJ.cells,I.ec,I.cU,aI.p5 ax]
theorem aI.p4:∀x:aI,I.ec x.cells=x.cells
 | .mk field aS=>by simp only[aI.cells,I.ec,I.cU,E.p5 aS]
theorem aI.p5:∀xs:List aI,I.ec (aI.all xs)=aI.all xs
 |[]=>rfl
 |x::r=>by rw[aI.all,ot,aI.p4 x,aI.p5 r]
end
section
variable{Φ:ad}{H:Z}{Q:aa}
theorem Up(hT:Cl Φ S.b7){p:aB->Bool}{key:Nat}{cd:List I}{xs:List aB}(hf:∀x∈xs,∀(R:aa),R (.bool (p x)) H->Φ key ([.agg x.cells]++cd) H R)(hl:xs.length<=9223372036854775807)
  (hQ:Q (.bool (xs.any p)) H) (a:iC key=acL:=by first|assumption|rfl):Φ 94 [av aB.cells xs,.fn key cd] H Q:=by
 refine S.RC hT ?_;unfold S.f94;simp only[ag];refine S.x6 hT (yi hf hl ?_);simp only[eD,O,yc];exact hQ
theorem Uq{w:aB}{id:Nat}{v:aB}(a:At H id (.row v.cells))(hQ:Q (.bool (w.V==v.V)) H):S.f95 Φ (.agg w.cells) (.ptr id 0) H Q:=by
 unfold S.f95;simp only[ag];have U:b5 H acJ 7 (.agg w.cells)=acK (.ae w.cells,H):=by unfold b5;rw[ab ⟨rfl,w.len⟩];rfl
 have l0:aj H 1 acJ (.ae (w.cells.drop 0))=acK (.str w.V):=pV w;have l1:aj H 1 acJ (.ptr id 0)=acK (.str v.V):=by rw[a.load];exact pV v
 rw[U];simp only[aN,aH,O,l0,aaY,l1,fD];exact hQ
end
section
variable{C:Ctx}(ak:cP C)(hT:Cl (ai C) S.b7){kw:List UInt8->Bool}(iq:∀x,bD (ai C) 93 [.str x] (.bool (kw x)))
include ak hT iq
theorem Ur{vars:List aB}(hv:∀v∈vars,v.ok){H:Z}{Q:aa}(hQ:∀H',Q (D (ji kw vars)) H'):S.f57 (ai C) (av aB.cells vars) H Q:=by
 have fin:∀z H',z=ji kw vars->Q (D z) H':=λz H' h=>by rw[h];exact hQ H'
 clear hQ;unfold S.f57;simp only[ag];simp only[bC,O,cV,au];unfold ji at fin;apply aG<;>intro h
 ·exact fin _ _ (by rw[ab (by simp only[dJ,gt_iff_lt]at h;omega)])
 . have hl : vars.length<=32:=by simp only[dJ,gt_iff_lt]at h;omega
   rw[bL]at fin;have main:∀(r:List aB)(i:Nat)(a:Int)(H1:Z),vars.drop i=r->l5 kw ((vars.take i).map aB.V) a r=l5 kw [] 0 vars ->
     ar (S.pC (ai C) (av aB.cells vars) (D vars.length) Q) ([D a,D i],H1):=by
    intro r;induction r with
    | nil=>
     intro i a H1 d he;have hle:=c7 d;refine ar.step ?_;simp only[ag,S.pC,T,bE,aY,O,au];rw[cQ];simp only[ag,aw,S.G6,T,cV,O,au];rw[l5]at he;apply aG<;>intro h
     ·exact fin _ _ (by rw[<-he,ab (by simpa using h)])
     ·exact fin _ _ (by rw[<-he,af (by simpa using h)])
    | cons v r l=>
     intro i a H1 d he;obtain⟨g,e,m⟩:=c4 d;have o:=adq e;refine ar.step ?_;simp only[ag,S.pC,T,bE,aY,O,au];rw[cM,b6 g];simp only[O];rw[c8 aB.len (by decide) _ e];simp only[O,aN,bQ,bc];rw[cn _ _ _ 7 v.len v.scalar rfl];simp only[O,aH,aa8,aaY];have f:=At.new H1 (.row v.cells);generalize H1.push _=H2 at *;generalize H1.n=c at *;have l0:aj H2 1 acJ (.ptr c 0)=acK (.str v.V):=by rw[f.load];exact pV v
     have l1:aj H2 6 acI (.ptr c 1)=acK (.agg v.type.cells):=by rw[f.load,S6 (by rw[v.len];omega)];show bO (v.cells.drop 1) 0 6 acI=_;exact gJ v.type.len
     simp only[l0,O];rw[l5]at he;have k2:¬(ek v.V=acJ\/kw v.V=acI)->¬((vars.take i).map aB.V).contains v.V=acI ->
       G (S.Ba (ai C) (.ptr c 0) ([D a,D i],H1) (ar (S.pC (ai C) (av aB.cells vars) (D vars.length) Q)) Q) [] H2:=by
      intro n1 n2;rw[af n1,af n2]at he;simp only[ag,aw,S.Ba,aH,aa8,O,l1];refine yu ak hT v.type (hv v o).2 _ _ ?_;simp only[bA,ac5,ac6,O,cC,au];apply aG<;>intro h
      . rw[ab (by simpa using h)]at he;exact fin _ _ he
      . have j:(bm v.type).2=0:=by simpa using h
        rw[af (by simpa using j)]at he;have U:=Uo j;simp only[T,bz,eH,gk,O];rw[jg _ _ _ (by omega)];simp only[ag,O,gk,bz,aw,S.G5,T,bE];rw[wrap_i64 (n:=(i:Int)+1) (by omega) (by omega),fj i];refine l (i+1) _ H2 m ?_;rw[<-he,adw,e];simp[cA]
     have k:∀b:Bool,(b=acI↔(ek v.V=acJ\/kw v.V=acI))->G (S.wm (ai C) (av aB.cells vars) (.ptr c 0) ([D a,D i],H1) (ar (S.pC (ai C) (av aB.cells vars) (D vars.length) Q)) Q) [.bool b] H2:=by
      intro b U;simp only[aw,S.wm,T,bE,au];apply aG<;>intro h
      . rw[ab (U.1 h)]at he;exact fin _ _ he
      . have n1:¬(ek v.V=acJ\/kw v.V=acI):=λy=>h (U.2 y);rw[JI aB.len (aee g)];simp only[O];refine Up hT (p:=λw=>w.V==v.V) (λw _ R q=>S.RD hT (Uq f q)) (by rw[adI];omega) ?_;simp only[au];have hc:((vars.take i).any λw=>w.V==v.V)=acI↔((vars.take i).map aB.V).contains v.V=acI:=by
         rw[acj,aef,acF];simp only[bZ]
        apply aG<;>intro h
        . rw[af n1,ab (hc.1 h)]at he;exact fin _ _ he
        ·exact k2 n1 λy=>h (hc.2 y)
     refine BZ ak hT v.V _ _ ?_;simp only[dg,O,bF];apply dC<;>intro h
     . simp only[l0,O];refine iq v.V _ _ ?_;refine k _ ?_;simp only[Bool.not_eq_false']at h;simp[h]
     . refine k _ ?_;simp only[ab_]at h;simp[h]
   exact main vars 0 0 H rfl rfl
def yM(r:Int×Int):I:= .agg [D r.1,D r.2]
theorem Us(p:dy)(hp:p.ok):bD (ai C) 31 [.agg p.cells] (yM (eO kw p)):=by
 obtain⟨⟨B,hv⟩,aa,ht⟩:=hp;refine bD.of ak (by simp[I.bV,I.bu,dy.bu]) rfl λQ hQ=>S.QR hT ?_;have fin:∀(a b:Int) H',(a,b)=eO kw p->Q (.agg [D a,D b]) H':=λa b H' h=>by have:=hQ H';rw[<-h]at this;exact this
 clear hQ;have E:b5 Z.mt acJ 2 (.agg p.cells)=acK (.ae p.cells,Z.mt):=by unfold b5;rw[ab ⟨rfl,rfl⟩];rfl
 have g:∀H,aj H 1 acJ (.ae (p.cells.drop 0))=acK (av aB.cells p.vars):=λ_=>rfl;have j:∀H,aj H 1 acJ (.ae (p.cells.drop 1))=acK (av iK p.cO):=λ_=>rfl;unfold S.f31;simp only[ag];simp only[E,aN,bQ,bc,aH,O,g,bC,cV,bF];generalize ac:Z.mt=H0;have k:=At.new H0 (.row [J,J]);generalize H0.push _=f at *;generalize H0.n=d at *;have out:∀(a b:Int)(H1:Z),At H1 d (.row [J,J])->(a,b)=eO kw p->Do (cf H1 2 (.ptr d 0) (.agg [D a,D b])) λH2=>Do (aj H2 2 acI (.ptr d 0)) λx=>Q x H2:=by intro a b H1 ha he;rw[ha.put (n:=2) rfl rfl rfl];simp only[O];rw[(ha.set _).all (n:=2) rfl];simp only[O];exact fin a b _ he
 unfold eO at out;have F : ¬(32<p.vars.length\/p.cO.length<1\/8<p.cO.length)->G (S.A7 (ai C) (.ae p.cells) (.ptr d 0) Q) [] f:=by
  intro hn;rw[af hn]at out;simp only[ag,aw,S.A7,aH,O,g];refine bD.of ak (by simp[I.bV,ko aB.bu]) rfl (λad K=>S.Ra hT (Ur ak hT iq hv K)) _ _ ?_;simp only[cC,O,au];apply aG<;>intro h
  . rw[ab (by simpa using h)]at out;rw[show bS [J,J] [(1,1,D (ji kw p.vars))]=acK (.agg [J,D (ji kw p.vars)])from rfl];simp only[O];exact out 0 _ f k rfl
  . rw [af (by simpa using h)]at out;simp only[j,O,bC];have main:∀(r:List (List aC)) (i:Nat) (H1:Z),p.cO.drop i=r->At H1 d (.row [J,J])->kW kw p.vars r=kW kw p.vars p.cO ->
      ar (S.vA (ai C) (.ae p.cells) (.ptr d 0) (av iK p.cO) (D p.cO.length) Q) ([D i],H1):=by
     intro r;induction r with
     | nil=>intro i H1 m ha he;have hle:=c7 m;refine ar.step ?_;simp only[ag,S.vA,T,aY,O,au];rw[cQ];simp only[ag,aw,S.Gv];rw[show bS [J,J] []=acK (.agg [J,J])from rfl];simp only[O];exact out 0 0 H1 ha he
     | cons t r L=>
      intro i H1 m ha he;obtain⟨M,q,N⟩:=c4 m;obtain⟨ah,P⟩:=ht t (adq q);refine ar.step ?_;simp only[ag,S.vA,T,aY,O,au];rw[cM,b6 M];simp only[O];have R:aj H1 1 acJ (di iK 1 p.cO i)=acK (av aC.cells t):=mZ (c:=λl=>av aC.cells l) H1 q;rw[R];simp only[O,aH,g];rw[show bS [A,A,J,J,J,J] [(0,1,av aB.cells p.vars)]=acK (.agg (cr p.vars s0 A))from rfl];simp only[O];have U:b5 H1 acI 6 (.agg (cr p.vars s0 A))=acK (.ptr H1.n 0,H1.push (.row (cr p.vars s0 A))):=by unfold b5;rw[ab ⟨rfl,rfl⟩];rfl
      rw[U];simp only[aN];have V:=At.new H1 (.row (cr p.vars s0 A));have W:d≠H1.n:=ha.h2;have a3:=ha.push (.row (cr p.vars s0 A));generalize H1.push _=H2 at *;generalize H1.n=id at *;have hm:=nh;refine Cp ak hT (kw:=kw) (by omega) (λx X=>Um ak hT B hv iq x (P x X)) (s:=s0) ⟨by decide,by decide,by decide⟩ V (.inl ⟨rfl,rfl⟩) λu Y f5 a5 al=>?_;have v:=f5.2.1 d _ W (λn e=>by cases e) a3;rw[kW]at he;generalize et p.vars kw s0 1 t=o at *;refine S.n5 hT (oq a5 ?_);simp only[au];apply aG<;>intro h
      . rw[ab (by simpa using h)]at he;simp only[b8,aH,O,aa8];rw[a5.load,show bO (cr p.vars o Y) 4 2 acI=acK (.agg [D o.hE,D o.aR])from rfl];simp only[O];exact out _ _ u v he
      . rw[af (by simpa using h)]at he;simp only[bz,O];rw[bo,fj i];exact L (i+1) u N v he
    exact main p.cO 0 f rfl k rfl
 have w:∀b:Bool,(b=acI↔(32<p.vars.length\/p.cO.length<1\/8<p.cO.length))->G (S.vC (ai C) (.ae p.cells) (.ptr d 0) Q) [.bool b] f:=by
  intro b U;simp only[ag,aw,S.vC,T,au];apply aG<;>intro h
  . rw[ab (U.1 h)]at out;rw[show bS [J,J] [(1,1,D 12)]=acK (.agg [J,D 12])from rfl];simp only[O];exact out 0 12 f k rfl
  ·exact F λy=>h (U.2 y)
 have z:∀b:Bool,(b=acI↔(32<p.vars.length\/p.cO.length<1))->G (S.vD (ai C) (.ae p.cells) (.ptr d 0) Q) [.bool b] f:=by
  intro b U;simp only[ag,aw,S.vD,T,bF,aH,O,j,bC,cV];apply dC<;>intro h
  . refine w _ ?_;have hn:¬(32<p.vars.length\/p.cO.length<1):=λy=>by have:=U.2 y;rw[h]at this;cases this
    simp only[dJ,gt_iff_lt];omega
  . refine w _ ?_;have:=U.1 h;simp only[true_iff];omega
 apply dC<;>intro h
 . simp only[j,O,bC,aY];refine z _ ?_;simp only[decide_eq_false_iff_not,gt_iff_lt]at h;simp only[dJ];omega
 . refine z _ ?_;simp only[dJ,gt_iff_lt]at h;simp only[true_iff];omega
end
end Rb
namespace Rb
open Go
variable{e:aC}
section
variable{H:Z}{id:Nat}
theorem Cs{e:E}(h:At H id (.row e.cells)):aj H 1 acJ (.ptr id 0)=acK (D e.kind):=by rw[h.load,E.aX,aJ.aX];rfl
theorem Ut{e:E}(h:At H id (.row e.cells)):aj H 2 acI (.ptr id 5)=acK (.agg e.place.cells):=by rw[h.load,E.aX,aJ.aX];rfl
theorem Uu{e:E}(h:At H id (.row e.cells)):aj H 1 acJ (.ptr id 7)=acK (av E.cells e.br):=by rw[h.load,E.aX,aJ.aX];rfl
theorem Uv{e:E}(h:At H id (.row e.cells)):aj H 8 acI (.ptr id 0)=acK (.agg e.cells):=by rw[h.load,gJ e.len]
theorem p6(h:At H id (.row e.cells)):aj H 1 acJ (.ptr id 0)=acK (D e.kind):=by rw[h.load,aC.aX,aJ.aX];rfl
theorem Uw(h:At H id (.row e.cells)):aj H 1 acJ (.ptr id 1)=acK (D e.ay):=by rw[h.load,aC.aX,aJ.aX];rfl
theorem Ux(h:At H id (.row e.cells)):aj H 2 acI (.ptr id 5)=acK (.agg e.place.cells):=by rw[h.load,aC.aX,aJ.aX];rfl
theorem Uy(h:At H id (.row e.cells)):aj H 1 acJ (.ptr id 7)=acK (av E.cells e.bn):=by rw[h.load,aC.aX,aJ.aX];rfl
theorem Uz(h:At H id (.row e.cells)):aj H 1 acJ (.ptr id 8)=acK (av aC.cells e.aZ):=by rw[h.load,aC.aX,aJ.aX];rfl
theorem UA(h:At H id (.row e.cells)):aj H 1 acJ (.ptr id 9)=acK (av aC.cells e.bw):=by rw[h.load,aC.aX,aJ.aX];rfl
theorem UB(h:At H id (.row e.cells)):aj H 10 acI (.ptr id 0)=acK (.agg e.cells):=by rw[h.load,gJ e.len]
theorem KE{e:aI}(h:At H id (.row e.cells)):aj H 1 acJ (.ptr id 1)=acK (av E.cells e.aS):=by rw[h.load,aI.aX];rfl
end
theorem k4(x:aJ)(H:Z):b5 H acJ 2 (.agg x.cells)=acK (.ae x.cells,H):=by unfold b5;rw[ab ⟨rfl,x.len⟩];rfl
theorem iP(x:aJ)(i:Nat):aH i (.ae x.cells)=acK (.ae (x.cells.drop i)):=rfl
theorem p7(x:aJ)(H:Z):aj H 1 acJ (.ae (x.cells.drop 0))=acK (.str x.var):=by rw[aJ.aX];rfl
theorem ir(x:aJ)(H:Z):aj H 1 acJ (.ae (x.cells.drop 1))=acK (av aI.cells x.ax):=by rw[aJ.aX];rfl
theorem si(x:aJ)(H:Z):aj H 2 acI (.ae x.cells)=acK (.agg x.cells):=gJ x.len
end Rb
namespace Rb
open Go
variable{s R:RS}
structure Kp(s R:RS):Prop where
 ba:R.ba=s.ba
 pr:R.pr=s.pr
 ay:R.ay=s.ay
 st:s.stop=acI->R=s
 fu:0<=s.fuel->s.fuel<=1000000->R.stop=acJ->0<=R.fuel/\R.fuel<=s.fuel
theorem Kp.refl(s:RS):Kp s s:=⟨rfl,rfl,rfl,λ_=>rfl,λh _ _=>⟨h,adR _⟩⟩
theorem Kp.stop(h:Kp s R)(a:R.stop=acJ):s.stop=acJ:=by
 cases hs:s.stop with
 |false=>rfl
 |true=>rw[h.st hs,hs]at a;cases a
theorem Kp.trans{a b c:RS}(h:Kp a b)(k:Kp b c):Kp a c where
 ba:=k.ba.trans h.ba
 pr:=k.pr.trans h.pr
 ay:=k.ay.trans h.ay
 st:=λe=>by have e1:=h.st e;rw[e1]at k;exact k.st e
 fu:=λf h1 d=>by have U:=k.stop d;have x:=h.fu f h1 U;have y:=k.fu x.1 (by omega) d;exact⟨y.1,by omega⟩
structure Ks(s R:RS):Prop where
 pr:s.pr <+: R.pr
 st:s.stop=acI->R=s
 fu:0<=s.fuel->s.fuel<=1000000->R.stop=acJ->0<=R.fuel/\R.fuel<=s.fuel
theorem Kp.ks(h:Kp s R):Ks s R:=⟨by rw[h.pr];exact List.prefix_refl _,h.st,h.fu⟩
theorem Ks.refl(s:RS):Ks s s:=(Kp.refl s).ks
theorem Ks.stop(h:Ks s R)(a:R.stop=acJ):s.stop=acJ:=by
 cases hs:s.stop with
 |false=>rfl
 |true=>rw[h.st hs,hs]at a;cases a
theorem Ks.trans{a b c:RS}(h:Ks a b)(k:Ks b c):Ks a c where
 pr:=h.pr.trans k.pr
 st:=λe=>by have e1:=h.st e;rw[e1]at k;exact k.st e
 fu:=λf h1 d=>by have U:=k.stop d;have x:=h.fu f h1 U;have y:=k.fu x.1 (by omega) d;exact⟨y.1,by omega⟩
section
variable(vars:List aB)
theorem UC(s:RS)(x:List UInt8)(v:Int):(s.put x v).pr=s.pr/\(s.put x v).fuel=s.fuel/\(s.put x v).stop=s.stop/\(s.put x v).jB=s.jB/\(s.put x v).ay=s.ay/\(s.put x v).fin=s.fin/\(s.put x v).want=s.want/\(s.put x v).empty=s.empty:=by unfold RS.put;split<;>exact⟨rfl,rfl,rfl,rfl,rfl,rfl,rfl,rfl⟩
variable(c:Nat)
end
end Rb
namespace Rb
open Go
def sj(l:List UInt8×Int):List I:=[.str l.1,cY l.2]
def sk(H:Z)(id:Nat)(L:List (List UInt8×Int))(x:I):Prop:=(x = A/\L=[])\/∃j cs m,x = .row j 0 L.length 2/\j≠id/\At H j (.row cs)/\cs.length=m*2/\L.length<=m/\cs.take (L.length*2)=L.flatMap sj
structure RS.ok(s:RS):Prop where
 jB:∀x∈s.jB,ml x.1/\ml x.2
 ba:∀l∈s.ba,ml l.2
theorem UD:ml 0:=⟨by decide,by decide⟩
theorem RS.ok.get{s:RS}(h:s.ok)(x:List UInt8):ml (s.get x):=by
 unfold RS.get;split
 . rename_i l hl;exact h.ba l (List.mem_of_find?_eq_some hl)
 ·exact UD
theorem RS.ok.put{s:RS}(h:s.ok)(x:List UInt8){v:Int}(hv:ml v):(s.put x v).ok:=by
 unfold RS.put;split
 . refine⟨h.jB,λl hl=>?_⟩;rcases List.mem_or_eq_of_mem_set hl with hl|rfl
   ·exact h.ba l hl
   ·exact hv
 ·exact h
theorem Ct{m:Nat}:∀{l:List aE}{f:aE},f∈l->dz m f.type<=eS m l
 | g::r,f,h=>by
  rw[eS];rcases aco.1 h with rfl|h
  ·rw[rY];omega
  ·have:=Ct (m:=m) h;omega
theorem Cu{m:Nat}:∀{l:List X}{f:X},f∈l->dz m f<=eF m l
 | g::r,f,h=>by
  rw[eF];rcases aco.1 h with rfl|h
  ·omega
  ·have:=Cu (m:=m) h;omega
theorem KF{m k:Nat}:∀{l:List aE},(∀f∈l,dz m f.type=dz k f.type)->eS m l=eS k l
 |[],_=>by rw[eS,eS]
 |g::r,h=>by rw[eS,eS,rY,rY,h g (acs ..),KF λf hf=>h f (acp _ hf)]
theorem KG{m k:Nat}:∀{l:List X},(∀f∈l,dz m f=dz k f)->eF m l=eF k l
 |[],_=>by rw[eF,eF]
 |g::r,h=>by rw[eF,eF,h g (acs ..),KG λf hf=>h f (acp _ hf)]
theorem UE:∀(t:X)(m:Nat),dz m t<m->dz (m+1) t=dz m t:=by
 refine X.ind λt a b m h=>?_;rw[od]at h;by_cases h1:1<m
 . rw [ab h1]at h;rw[od,od,dN,ab h1,Nat.add_sub_cancel];have e1:eS m t.Y=eS (m-1) t.Y:=KF λf hf=>by
    have:=Ct (m:=m-1) hf;have:=a f hf (m-1) (by omega);rw[show m-1+1=m by omega]at this;exact this
   have c:eF m t.aK=eF (m-1) t.aK:=KG λf hf=>by have:=Cu (m:=m-1) hf;have:=b f hf (m-1) (by omega);rw[show m-1+1=m by omega]at this;exact this
   rw[e1,c]
 ·rw[af h1]at h;omega
theorem KH{t u:X}(h:dK t=0)(a:(∃f∈t.Y,f.type=u)\/u∈t.aK)(hs:cW u=0):dK u=0:=by
 have b:¬64<dz 65 t:=by intro e;unfold dK at h;rw[ab e]at h;cases h
 rw[od,jD]at b;have:dz 64 u<=63:=by
  rcases a with⟨f,hf,rfl⟩|a
  . have:=Ct (m:=64) hf;simp only[show 65-1=64 from rfl]at b;omega
  . have:=Cu (m:=64) a;simp only[show 65-1=64 from rfl]at b;omega
 have e:=UE u 64 (by omega);unfold dK;rw[af (by rw[show(65:Nat)=64+1 from rfl,e];omega),hs]
theorem Cv{packed:Bool}{kind:Int}:∀{l:List aE}{p q:PL},dQ packed kind p l=acK q->(∀f∈l,(L f.type).2=acI)/\q.dP.length=p.dP.length+l.length
 | [],p,q,h=>by simp only[dQ,aaC.injEq]at h;subst h;exact⟨λf hf=>(by cases hf),rfl⟩
 | f :: r, p,q,h=>by
  simp only[dQ,na]at h;by_cases h1:(L f.type).2=acI
  . rw [ab h1]at h;obtain⟨b,c⟩:=Cv h;refine⟨λg a=>?_,?_⟩
    . rcases aco.1 a with rfl|a
      ·exact h1
      ·exact b g a
    . have hl:(ij packed kind p f (L f.type).1).dP.length=p.dP.length+1:=by
        unfold ij;dsimp only;split
        . unfold lW;split<;>simp[lX]
        ·simp[lX,yo]
      rw[c,hl,adN];omega
  ·rw[af h1]at h;cases h
structure X.lay(t:X):Prop where
 ok:t.ok
 snd:dK t=0
 Cw:e3 t=acJ
 of:(L t).2=acI
theorem mA{t:X}(c:t.ok)(h:(bm t).2=0):t.lay:=by
 unfold bm at h;by_cases h1:dK t≠0
 ·rw[ab h1]at h;exact absurd h h1
 . rw [af h1]at h;by_cases a:e3 t=acI
   . rw[ab a]at h;have:(10:Int)=0:=h;omega
   . rw [af a]at h;by_cases b:(L t).2=acJ
     . rw[ab b]at h;have:(9:Int)=0:=h;omega
     ·exact⟨c,by omega,by simpa using a,by simpa using b⟩
theorem X.lay.zero{t:X}(h:t.lay):bm t=((L t).1,0):=by unfold bm;rw[af (by rw[h.snd];decide),af (by rw[h.Cw];decide),af (by rw[h.of];decide)]
theorem X.p8{t:X}(h:t.ok):(∀f∈t.Y,f.type.ok)/\(∀e∈t.aK,e.ok)/\t.Y.length<=9223372036854775807:=by
 cases t with
 | mk kind size packed Y bg aK=>obtain⟨_,_,h1,a,_,c,b⟩:=h;refine⟨λf hf=>?_,X.eG.1 b,by rw[<-nh];exact h1⟩;have:=aE.eG.1 a f hf;cases f;exact this.2.1
theorem yN{t e:X}(h:t.lay)(c:t.kind=5)(a:e∈t.aK):e.lay:=by
 have hs:=fm h.snd;obtain⟨f,d,g⟩:=kq hs c;have i:e=f:=by rw[d]at a;simpa using a
 subst i;refine⟨(X.p8 h.ok).2.1 e a,KH h.snd (.inr a) g,?_,?_⟩
 . have ht:=h.Cw;cases t with
   | mk kind size packed Y bg aK=>rw[e3]at ht;simp only[acr]at ht;have:=ht.1.2;rw[B3,aeg]at this;simpa using this e a
 . have b:=h.of;rw[jW,bL,ab c,d]at b;simp only[f_,aar]at b;exact b.1
theorem ou{t:X}(h:t.lay)(b:t.kind=3\/t.kind=4):∃p,dQ t.packed t.kind ⟨0,1,[],0⟩ t.Y=acK p/\cA p.size p.bp<=65536/\p.dP.length=t.Y.length:=by
 have a:=h.of;rw[jW,bL,bL]at a;cases hp:dQ t.packed t.kind ⟨0,1,[],0⟩ t.Y with
 |none=>rw[hp]at a;cases a
 | some p=>rw[hp]at a;refine⟨p,rfl,by simpa using a,?_⟩;have:=(Cv hp).2;simpa using this
theorem ov{t:X}{f:aE}(h:t.lay)(a:t.kind=3\/t.kind=4)(hf:f∈t.Y):f.type.lay:=by
 have hs:=fm h.snd;obtain⟨p,hp,_⟩:=ou h a;refine⟨(X.p8 h.ok).1 f hf,KH h.snd (.inl ⟨f,hf,rfl⟩) ((lV hs a).1 f hf),?_,(Cv hp).1 f hf⟩;have ht:=h.Cw;cases t with
 | mk kind size packed Y bg aK=>rw[e3]at ht;simp only[acr]at ht;have:=ht.2;rw[B4,aeg]at this;simpa using this f hf
theorem KI{t:X}(h:t.lay)(a:t.kind=3\/t.kind=4):(cD t).length=t.Y.length:=by obtain⟨p,hp,_,hl⟩:=ou h a;unfold cD;rw[hp];exact hl
theorem kv{t:X}{p:aI}(h:t.lay)(a:(c6 t p).1=0) :
  (p.aS.length=1/\t.kind=5/\∃e r,t.aK=e::r/\c6 t p=(0,e)/\e.lay) \/
  (p.aS=[]/\(t.kind=3\/t.kind=4)/\∃n f s,t.Y.findIdx? (λf=>f.V==p.field)=acK n/\t.Y[n]?=acK f/\(cD t)[n]?=acK s/\c6 t p=(0,f.type)/\f.type.lay):=by
 unfold c6 at a ⊢;by_cases c1:1<p.aS.length\/(p.aS.length=1↔p.field≠[])
 . rw[ab c1]at a;have:(8:Int)=0:=a;omega
 rw[af c1]at a;by_cases c2:p.aS.length=1/\t.kind=5
 . rw [ab c2]at a;left;cases he:t.aK with
   | nil=>rw[he]at a;have:(8:Int)=0:=a;omega
   |cons e r=>exact⟨c2.1,c2.2,e,r,rfl,by rw[af c1,ab c2],yN h c2.2 (by rw[he];exact acs ..)⟩
 rw[af c2]at a;by_cases c3:p.aS.length=1\/¬(t.kind=3\/t.kind=4)
 . rw[ab c3]at a;have:(8:Int)=0:=a;omega
 rw[af c3]at a;have hk:t.kind=3\/t.kind=4:=by omega
 right;rcases mq (λf:aE=>f.V==p.field) t.Y with⟨i,f,h1,b,c⟩|⟨h1,b⟩
 . have d:=(aal.1 c).1;have hl:i<(cD t).length:=by rw[KI h hk];exact d
   refine⟨abF.1 (by omega),hk,i,f,(cD t)[i],h1,c,abb hl,?_,ov h hk (adq c)⟩;rw[af c1,af c2,af c3,b]
 . rw[b]at a;have:(6:Int)=0:=a;omega
variable{vars:List aB}{v:aB}
def en:List aB->List bj->List I
 |v::r,s::t=> .str v.V :: D s.at_ :: D s.len::en r t
 |_,_=>[]
theorem KJ:∀(a:List aB)(s:List bj)(v:aB)(g:bj),a.length=s.length->en (a++[v]) (s++[g])=en a s++[.str v.V,D g.at_,D g.len]
 |[],[],v,g,_=>rfl
 | x::a,y::s,v,g,h=>by rw[abZ,abZ,en,en,KJ a s v g (by simpa using h)];rfl
theorem KK:∀(a:List aB)(s:List bj),I.ec (en a s)=en a s
 |v::r,s::t=>by rw[en,I.ec,I.ec,I.ec,KK r t];rfl
 |[],[]=>rfl
 |[],_::_=>rfl
 |_::_,[]=>rfl
theorem KL:∀(a:List aB)(s:List bj),I.bV (en a s)=acI
 |v::r,s::t=>by rw[en];simp only[I.bV,I.bu,KL r t];rfl
 |[],[]=>rfl
 |[],_::_=>rfl
 |_::_,[]=>rfl
def kx(vars:List aB):I:=if(mapM vars).1≠0 then .aA [.aq .dead 0 [],J,D (mapM vars).1]else .aA [.aq .dead vars.length (en vars (mapM vars).2.2),D (mapM vars).2.1,J]
def ow(a:Int)(v:aB):Int:=if B (B (adS (B (B (a+(bm v.type).1.2)-1)) (bm v.type).1.2)*(bm v.type).1.2)>65536 then 65537 else B (B (adS (B (B (a+(bm v.type).1.2)-1)) (bm v.type).1.2)*(bm v.type).1.2)
theorem KM(v:aB)(r:List aB)(a:Int)(b:List bj):fc (v::r) a b=if(bm v.type).2≠0 then((bm v.type).2,0,[])else fc r (B (ow a v+(bm v.type).1.1)) (b++[⟨B (65536+ow a v),(bm v.type).1.1,0,acJ,0,0⟩]):=rfl
theorem UF(h:(fc vars 0 []).1≠0):kx vars = .aA [.aq .dead 0 [],J,D (fc vars 0 []).1]:=by
 have e:mapM vars=((fc vars 0 []).1,0,[]):=by unfold mapM;rw[ab h]
 unfold kx;rw[e];exact ab h
theorem UG(h:(fc vars 0 []).1=0)(a:(fc vars 0 []).2.1>65536):kx vars = .aA [.aq .dead 0 [],J,D 9]:=by
 have e:mapM vars=(9,0,[]):=by unfold mapM;rw[bL,ab a]
 unfold kx;rw[e];exact ab (show(9:Int)≠0 by decide)
theorem UH(h:(fc vars 0 []).1=0)(a:¬(fc vars 0 []).2.1>65536):kx vars = .aA [.aq .dead vars.length (en vars (fc vars 0 []).2.2),D (fc vars 0 []).2.1,J]:=by
 have e:mapM vars=fc vars 0 []:=by unfold mapM;rw[bL,af a]
 unfold kx;rw[e];exact bL
theorem KN:∀(l:List aB)(at':Int)(acc:List bj),(fc l at' acc).1=0->(fc l at' acc).2.2.length=acc.length+l.length/\∀v∈l,(bm v.type).2=0
 |[],at',acc,_=>⟨rfl,λv hv=>(by cases hv)⟩
 | v :: r,at',acc,h=>by
  unfold fc at h ⊢;by_cases h1:(bm v.type).2≠0
  ·rw[ab h1]at h;exact absurd h h1
  . rw[af h1]at h ⊢;obtain⟨a,b⟩:=KN r _ _ h;refine⟨by rw[a];simp;omega,λu hu=>?_⟩;rcases aco.1 hu with rfl|hu
    ·omega
    ·exact b u hu
theorem UI(h:(mapM vars).1=0):(mapM vars).2.2.length=vars.length/\∀v∈vars,(bm v.type).2=0:=by
 unfold mapM at h ⊢;by_cases h1:(fc vars 0 []).1≠0
 ·rw[ab h1]at h;exact absurd h h1
 . rw [af h1]at h ⊢;by_cases a:(fc vars 0 []).2.1>65536
   . rw[ab a]at h;have:(9:Int)=0:=h;omega
   . rw[af a]at h ⊢;obtain⟨b,c⟩:=KN vars 0 [] h;exact⟨by simpa using b,c⟩
section
variable{H:Z}{id:Nat}
theorem UJ(h:At H id (.row v.cells)):aj H 1 acJ (.ptr id 0)=acK (.str v.V):=by rw[h.load];cases v;rfl
theorem KO(h:At H id (.row v.cells)):aj H 6 acI (.ptr id 1)=acK (.agg v.type.cells):=by
 rw[h.load];cases v with
 | mk V type=>show bO (.str V::type.cells) 1 6 acI=_;unfold bO;rw[ab (by rw[adN,type.len];omega),ab rfl];show acK (I.agg (type.cells.take 6))=_;rw[adp (by rw[type.len];omega)]
end
section
variable{C:Ctx}(ak:cP C)(hT:Cl (ai C) S.b7)
include ak hT
theorem Cx(hl:vars.length<=1000000)(hv:∀v∈vars,v.ok):bD (ai C) 27 [av aB.cells vars] (kx vars):=by
 refine bD.of ak (by simp[I.bV,ko aB.bu]) (by
   unfold kx;split
   ·rfl
   ·simp[I.bu,I.bV,KL,Tok.free]) λQ hQ=>?_
 refine ai.cU ?_;refine S.QN hT ?_;unfold S.f27;simp only[ag];simp only[bC,O];have main:∀(r:List aB)(k:Nat)(at':Int)(acc:List bj)(x:I)(H:Z),vars.drop k=r->k<=vars.length->acc.length=k->cc 0 H 3 x k (en (vars.take k) acc)->fc r at' acc=fc vars 0 [] ->
   ar (S.rk (ai C) (av aB.cells vars) (D vars.length) λv H'=>Q v.cU H') ([x,D at',D k],H):=by
  intro r;induction r with
  | nil=>
   intro k at' acc x H e hk ha c he;have hle:=c7 e;have o:k=vars.length:=by omega
   subst o;rw[adg]at c;refine ar.step ?_;simp only[ag,S.rk,T,bE,aY,O,au,aw,S.Gm,cV];rw[ka];have e1:(fc vars 0 []).1=0:=by rw[<-he];rfl
   have f:(fc vars 0 []).2.1=at':=by rw[<-he];rfl
   have p:(fc vars 0 []).2.2=acc:=by rw[<-he];rfl
   obtain⟨tk,rfl,_,_⟩:=c;apply aG<;>intro h
   . rw[UG e1 (by rw[f];simpa using h)]at hQ;exact hQ _
   . rw[UH e1 (by rw[f];simpa using h),f,p]at hQ;have:=hQ H;simp only[I.cU,I.ec,KK];exact this
  | cons v r s=>
   intro k at' acc x H e hk ha c he;obtain⟨j,g,t⟩:=c4 e;have u:=hv v (adq g);have l:v.type.ok:=by cases v;exact u.2
   refine ar.step ?_;simp only[ag,S.rk,T,bE,aY,O,au];rw[cM,b6 j];simp only[O];rw[c8 aB.len (by decide) _ g];simp only[O,aN,bQ,bc];rw[cn _ _ _ 7 v.len v.scalar rfl];have a2:=At.new H (.row v.cells);have w:cc 0 (H.push (.row v.cells)) 3 x k (en (vars.take k) acc):=c.frame λ_ _ _ q=>q.push _;simp only[O,aH,aa8];rw[KO a2];simp only[O];generalize H.push _=H2 at *;refine yu ak hT v.type l _ _ ?_;simp only[bA,ac5,ac6,O,cC,au];rw[KM]at he;apply aG<;>intro h
   . have d:(bm v.type).2≠0:=by simpa using h
     rw[ab d]at he;rw[UF (by rw[<-he];exact d),<-he]at hQ;exact hQ H2
   . have d:¬(bm v.type).2≠0:=by simpa using h
     rw[af d]at he;have G:1<=(bm v.type).1.2:=by have i:=mA l (by omega);rw[i.zero];exact ys _ (fm i.snd) i.of
     simp only[bz,eH,O,jg _ _ _ (show(bm v.type).1.2≠0 by omega),gk,cV,au,aw];have k2:∀y:Int,y=ow at' v ->
       S.vo (ai C) (.ptr H.n 0) (D (bm v.type).1.1) ([x,D at',D k],H) (ar (S.rk (ai C) (av aB.cells vars) (D vars.length) λv H'=>Q v.cU H')) (λv H'=>Q v.cU H') [D y] H2:=by
      intro y z;simp only[ag,S.vo,T,bE,aH,aa8,O,UJ a2,bz];rw[show ∀a b:Int,bS [J,J] [(0,1,D a),(1,1,D b)]=acK (.agg [D a,D b])from λ_ _=>rfl];simp only[O];refine⟨.agg [.str v.V,D (B (65536+y)),D (bm v.type).1.1],rfl,?_⟩;dsimp only;rw[show cI H2 acJ 3 1 [.str [],J,J] [(0,3,I.agg [.str v.V,D (B (65536+y)),D (bm v.type).1.1])]=acK (.aq .full 1 [.str v.V,D (B (65536+y)),D (bm v.type).1.1],H2)from rfl];simp only[aN];refine w.app (aaU _) (m:=1) (news:=[.str v.V,D (B (65536+y)),D (bm v.type).1.1]) rfl rfl rfl (by decide) (by omega) (by omega) λA E F _=>?_;simp only[ag,aw,S.Gl,T,bE,bz,O];rw[wrap_i64 (n:=(k:Int)+1) (by omega) (by omega),show(k:Int)+1=((k+1:Nat):Int) by simp];have ht:vars.take (k+1)=vars.take k++[v]:=by rw[adw,g];rfl
      refine s (k+1) _ (acc++[⟨B (65536+y),(bm v.type).1.1,0,acJ,0,0⟩]) A E t j (by simp[ha]) ?_ ?_
      . rw[ht,KJ _ _ _ _ (by rw[adI,ha];omega)];exact F
      ·rw[z];exact he
     apply aG<;>intro h
     ·exact k2 _ (by unfold ow;rw[ab (by simpa using h)])
     ·exact k2 _ (by unfold ow;rw[af (by simpa using h)])
 exact main vars 0 0 [] _ _ rfl (aaU _) rfl (cc.nil _ _ _) rfl
theorem UK{x:aJ}(a:x.ok):bD (ai C) 36 [.agg x.cells] (D (jC x.ax 0)):=by
 obtain⟨hl,hp⟩:=aJ.dL a;refine bD.of ak (by simp[I.bV,I.bu,aJ.bu]) rfl λQ hQ=>S.QV hT ?_;unfold S.f36;simp only[ag];simp only[k4,aN,iP,ir,bC,O];have main:∀(r:List aI)(i:Nat)(m:Int)(H1:Z),x.ax.drop i=r->jC r m=jC x.ax 0->ar (S.vH (ai C) (av aI.cells x.ax) (D x.ax.length) Q) ([D m,D i],H1):=by
  intro r;induction r with
  | nil=>intro i m H1 b he;have hle:=c7 b;refine ar.step ?_;simp only[ag,S.vH,T,bE,aY,O,au];rw[cQ];rw[jC]at he;rw[he];exact hQ _
  | cons p r c=>
   intro i m H1 b he;obtain⟨d,a,e⟩:=c4 b;refine ar.step ?_;simp only[ag,S.vH,T,bE,aY,O,au];rw[cM,b6 d];simp only[O];rw[c8 aI.len (by decide) _ a];simp only[O,aN,bQ,bc];rw[cn _ _ _ 2 p.len p.scalar rfl];have a2:=At.new H1 (.row p.cells);simp only[O,aH,aa8];rw[KE a2];simp only[O,bC,bz];rw[jC]at he;have hw:abu .i64 ((i:Int)+1)=((i+1:Nat):Int):=by rw[bo];simp
   rw[hw];exact c (i+1) _ _ e he
 exact main x.ax 0 0 _ rfl rfl
end
end Rb
namespace Rb
open Go
theorem Cy:∀l:List bj,I.ec (l.flatMap bj.cells)=l.flatMap bj.cells
 |[]=>rfl
 |s::r=>by rw[ac0,ot,Cy r];rfl
theorem Cz:∀l:List bj,I.bV (l.flatMap bj.cells)=acI
 |[]=>rfl
 | s::r=>by rw[ac0];show I.bV ([D s.at_,D s.len,D s.kind,.bool s.bits,D s.bit,D s.aQ]++r.flatMap bj.cells)=acI;simp only[abZ,aeh,I.bV,I.bu,Cz r];rfl
def fQ(t:X)(sp:bj)(ix:I):List I:=t.cells++(sp.cells++[ix])
theorem gU(t:X)(sp:bj)(ix:I):fQ t sp ix=[D t.kind,D t.size,.bool t.packed,av aE.cells t.Y,D t.bg,av X.cells t.aK,D sp.at_,D sp.len,D sp.kind,.bool sp.bits,D sp.bit,D sp.aQ,ix]:=by unfold fQ;rw[X.aX];rfl
section
variable{H:Z}{id:Nat}{t:X}{sp:bj}{ix:I}(h:At H id (.row (fQ t sp ix)))
include h
theorem UL:aj H 1 acJ (.ptr id 12)=acK ix:=by rw[h.load,gU];rfl
theorem UM:aj H 1 acJ (.ptr id 4)=acK (D t.bg):=by rw[h.load,gU];rfl
theorem UN:aj H 1 acJ (.ptr id 5)=acK (av X.cells t.aK):=by rw[h.load,gU];rfl
theorem KP:aj H 1 acJ (.ptr id 3)=acK (av aE.cells t.Y):=by rw[h.load,gU];rfl
theorem KQ:aj H 6 acI (.ptr id 0)=acK (.agg t.cells):=by rw[h.load,gU,X.aX];rfl
theorem KS:aj H 1 acJ (.ptr id 6)=acK (D sp.at_):=by rw[h.load,gU];rfl
theorem UO:aj H 6 acI (.ptr id 6)=acK (.agg sp.cells):=by rw[h.load,gU];rfl
theorem UP{v:I}(b:v.known=acI)(a:v.cells=[v])(c:v.scalar=acI):cf H 1 (.ptr id 12) v=acK (H.set id (.row (fQ t sp v))):=by rw[h.store,gU,gU,ab ⟨b,by rw[a];rfl,by rw[a];simpa using c,(by show 12+1<=13;decide)⟩,a];rfl
theorem KU(u:X):cf H 6 (.ptr id 0) (.agg u.cells)=acK (H.set id (.row (fQ u sp ix))):=by rw[h.store,gU,gU,ab ⟨rfl,u.len,u.scalar,(by show 0+6<=13;decide)⟩,X.aX];rfl
theorem UQ(s:bj):cf H 6 (.ptr id 6) (.agg s.cells)=acK (H.set id (.row (fQ t s ix))):=by rw[h.store,gU,gU,ab ⟨rfl,rfl,rfl,(by show 6+6<=13;decide)⟩];rfl
theorem UR(v:Int):cf H 1 (.ptr id 6) (D v)=acK (H.set id (.row (fQ t {sp with at_:=v} ix))):=by rw[h.store,gU,gU,ab ⟨rfl,rfl,rfl,(by show 6+1<=13;decide)⟩];rfl
theorem US(v:Int):cf H 1 (.ptr id 7) (D v)=acK (H.set id (.row (fQ t {sp with len:=v} ix))):=by rw[h.store,gU,gU,ab ⟨rfl,rfl,rfl,(by show 7+1<=13;decide)⟩];rfl
theorem UT(v:Int):cf H 1 (.ptr id 8) (D v)=acK (H.set id (.row (fQ t {sp with kind:=v} ix))):=by rw[h.store,gU,gU,ab ⟨rfl,rfl,rfl,(by show 8+1<=13;decide)⟩];rfl
end
def sm(ix:I)(l:List Int):Prop:=∃tk,ix = .aq tk l.length (l.map (cY))
theorem so{fs:List aE}{i:Nat}{f:aE}(H:Z)(h:fs[i]?=acK f):aj H 6 acI (.ae (((fs.flatMap aE.cells).drop (i*9)).drop 1))=acK (.agg f.type.cells):=by
 have e:=c8 aE.len (by decide) H h;have a:(fs.flatMap aE.cells).drop (i*9)=f.cells++(fs.drop (i+1)).flatMap aE.cells:=by
  have key:∀(xs:List aE)(i:Nat)(f:aE),xs[i]?=acK f->(xs.flatMap aE.cells).drop (i*9)=f.cells++(xs.drop (i+1)).flatMap aE.cells:=by
   intro xs;induction xs with
   |nil=>intro i f h;simp at h
   | cons x r c=>
    intro i f h;cases i with
    |zero=>simp at h;subst h;simp
    | succ i=>rw[ac0,show(i+1)*9=x.cells.length+i*9 by rw[x.len];omega,aei];exact c i f (by simpa using h)
  exact key fs i f h
 rw[a];show bO (aej 1 (f.cells++_)) 0 6 acI=_;cases f with
 |mk n t b w=>cases t;rfl
section
variable{C:Ctx}(ak:cP C)(hT:Cl (ai C) S.b7)
include ak hT
theorem KV{t:X}(h:t.lay)(a:t.kind=3\/t.kind=4):bD (ai C) 66 [.agg t.cells] (.aA [av bj.cells (cD t),J]):=by
 refine bD.of ak (by simp[I.bV,I.bu,X.bu]) (by show I.bu (.aA [.aq .dead (cD t).length ((cD t).flatMap bj.cells),J])=acI;simp[I.bu,I.bV,Cz,Tok.free]) λQ hQ=>?_
 refine ai.cU ?_;refine S.Rj hT ?_;unfold S.f66;simp only[ag];simp only[fC,aN,hD,O];refine S.BL hT (B_ ak hT t h.ok λH1=>?_);rw[h.zero];simp only[bA,ac5,ac6,O,aN,bQ,bc];rw[cn _ _ _ 2 rfl rfl rfl];simp only[O,cC,au];rw[cw];simp only[ca,h3,O,cC,bP,aw];have hs:=fm h.snd;obtain⟨p,hp,hle,hlen⟩:=ou h a;have k2:S.wy (ai C) (.ae t.cells) (λv H'=>Q v.cU H') [P] (H1.push (.row [D (L t).1.1,D (L t).1.2])):=by
  simp only[ag,S.wy,T,au,abW,b4,aw,S.Hh,hD,O];refine S.BM hT (B8 hT hs a (λf hf=>yt ak hT f.type (fm (ov h a hf).snd)) (λf hf=>ys f.type (fm (ov h a hf).snd)) (λe=>by rw[hp]at e;cases e) λq b x H2 c=>?_);rw[hp]at b;cases b;obtain⟨_,tk,rfl,_⟩:=c;simp only[bA,ac5,ac6,O,aN,bQ,bc];rw[cn _ _ _ 4 rfl rfl rfl];simp only[O,aH,aa8,eE];rw[show bO [D (cA p.size p.bp),D p.bp,.aq tk p.dP.length (p.dP.flatMap bj.cells),D p.bit] 2 1 acJ=acK (.aq tk p.dP.length (p.dP.flatMap bj.cells))from rfl];simp only[O,I.cU,I.ec,Cy];have d:cD t=p.dP:=by unfold cD;rw[hp]
  rw[d]at hQ;exact hQ _
 rcases a with a|a
 . rw[af (by rw[a];decide)];exact k2
 . rw[ab (by rw[a];decide),show((t.kind != 4):Bool)=acJ by rw[a];decide];exact k2
theorem UU{t:X}{sp:bj}{ix:I}{idx:List Int}{p:aI}{H:Z}{id:Nat}(h:At H id (.row (fQ t sp ix)))(ht:t.lay)(x:sm ix idx)(y:(c6 t p).1=0)(m:p.aS.length<=idx.length){Q:aa}
  (z:∀i q e r H',p.aS.length=1->idx=i::q->t.aK=e::r->i>=kr t.bg->bX id H H'->Q P H')
  (A:∀i q e r a H',p.aS.length=1->idx=i::q->t.aK=e::r->¬i>=kr t.bg->c6 t p=(0,e)->sm a q->e.lay->bX id H H'->At H' id (.row (fQ e {sp with at_:=B (sp.at_+B (abu .i64 i*(bm e).1.1)),len:=(bm e).1.1} a))->Q aT H')
  (E:∀n f s H',p.aS.length≠1->p.aS=[]->t.Y.findIdx? (λf=>f.V==p.field)=acK n->t.Y[n]?=acK f->(cD t)[n]?=acK s->c6 t p=(0,f.type)->f.type.lay->bX id H H'->At H' id (.row (fQ f.type {s with at_:=B (s.at_+sp.at_)} ix))->Q aT H') :
  ai C 39 [.ptr id 0,.agg p.cells] H Q:=by
 refine S.QX hT ?_;unfold S.f39;simp only[ag];simp only[JL,aN,yd,ye,bC,O,bI,au];rcases kv ht y with⟨b,hk,e,r,he,c,u⟩|⟨d,hk,n,f,s,h1,j,k,c,F⟩
 . rw [ab (by rw[b];decide)];obtain ⟨i,q,G⟩:∃i q,idx=i::q:=by
    cases idx with
    |nil=>rw[b]at m;simp at m
    |cons i q=>exact⟨i,q,rfl⟩
   subst G;obtain⟨tk,rfl⟩:=x;have ni:aL acL 1 (.aq tk (i::q).length ((i::q).map (cY))) (J)=acK (.ae ((i::q).map (cY))):=by show(if 0<=(0:Int)/\(0:Int)<((i::q).length:Nat)then acK (I.ae (((i::q).map (cY)).drop ((0:Int).toNat*1)))else acL)=_;rw[ab ⟨adR _,by simp⟩];rfl
   have ld1:∀H,aj H 1 acJ (.ae ((i::q).map (cY)))=acK (cY i):=λH=>by show bO ((i::q).map (cY)) 0 1 acJ=_;unfold bO;rw[lu,cw];rfl
   obtain ⟨a,K,l⟩:∃a,eC 1 (.aq tk (i::q).length ((i::q).map (cY))) (acK (D 1)) acL acL=acK a/\sm a q/\a.known=acI/\a.cells=[a]/\a.scalar=acI:=by refine⟨.aq .dead q.length (q.map (cY)),?_,⟨_,rfl⟩,rfl,rfl,rfl⟩;simp only[eC,fg,aeb];rw[dN];simp only[show(1:Int).toNat=1 from rfl];rw[ab ⟨by simp,hb _,by simp⟩,ka,ka];have e1:((i::q).map (cY)).take ((i::q).length*1)=(i::q).map (cY):=adp (by simp);rw[e1];rfl
   obtain⟨l,g1,g2,g3⟩:=l;simp only[b8,aH,aa8,UL h,O,ni,ld1,K];rw[UP h g1 g2 g3];simp only[O];have M:=h.set (.row (fQ t sp a));have k1:=bX.set id H (.row (fQ t sp a));rw[UM M];simp only[O,iL,eD,au];apply aG<;>intro U
   ·exact z i q e r _ b rfl he (by simpa using U) k1
   . rw[UN M,he];have L:aL acL 6 (av X.cells (e::r)) (J)=acK (di X.cells 6 (e::r) 0):=b6 (by simp);simp only[O,L,c8 X.len (by decide) _ (show(e::r)[0]?=acK e from rfl)];rw[KU M e];simp only[O];have a2:=M.set (.row (fQ e sp a));rw[KQ a2];simp only[O];refine yu ak hT e u.ok _ _ ?_;simp only[bA,ac5,ac6,O,KS a2,gk,bz];rw[UR a2];simp only[O];have a3:=a2.set (.row (fQ e {sp with at_:=B (sp.at_+B (abu .i64 i*(bm e).1.1))} a));rw[US a3];simp only[O];exact A i q e r a _ b rfl he (by simpa using U) c l u (k1.trans ((bX.set id _ _).trans ((bX.set id _ _).trans (bX.set id _ _)))) (a3.set _)
 . rw [af (by rw[d];decide)];have N:=(aal.1 j).1;have T:=(aal.1 k).1;simp only[b8,aH,aa8,KP h,O];refine S.x7 hT ?_;refine fieldIndex (p:=λf=>f.V==p.field) (λg _ R W=>S.Ri hT (by
     unfold S.f65;simp only[ag];have U:b5 H acJ 9 (.agg g.cells)=acK (.ae g.cells,H):=by unfold b5;rw[ab ⟨rfl,g.len⟩];rfl
     have l0:aj H 1 acJ (.ae (g.cells.drop 0))=acK (.str g.V):=oc g;have l1:aj H 1 acJ (.ae (p.cells.drop 0))=acK (.str p.field):=B0 p H;rw[U];simp only[aN,aH,O,l0,l1,fD];exact W)) (X.p8 ht.ok).2.2 ?_
   rw[h1];simp only[fb,KQ h,O];refine KV ak hT ht hk _ _ ?_;simp only[bA,ac5,ac6,O];rw[b6 T];simp only[O];rw[c8 (cells:=bj.cells) (λ_=>rfl) (by decide) _ k];simp only[O,aN,bQ,bc];rw[cn _ _ _ 6 rfl rfl rfl];have b1:=At.new H (.row s.cells);have M:=h.push (.row s.cells);have k1:=bX.push id H (.row s.cells);have ac:H.n≠id:=ad8 h.h2;generalize H.push _=H1 at *;have lb:aj H1 1 acJ (.ptr H.n 0)=acK (D s.at_):=by rw[b1.load];rfl
   simp only[O,aH,aa8,lb,KS M,bz];have ad:∀v:Int,cf H1 1 (.ptr H.n 0) (D v)=acK (H1.set H.n (.row ({s with at_:=v}:bj).cells)):=λv=>by rw[b1.store,ab ⟨rfl,rfl,rfl,(by show 0+1<=6;decide)⟩];rfl
   rw[ad];simp only[O];have b2:=b1.set (.row ({s with at_:=B (s.at_+sp.at_)}:bj).cells);have a2:=M.bR ac.symm (.row ({s with at_:=B (s.at_+sp.at_)}:bj).cells);have k2:bX id H (H1.set H.n (.row ({s with at_:=B (s.at_+sp.at_)}:bj).cells)):=⟨k1.1,λi o hi w=>(k1.2 i o hi w).bR (Nat.ne_of_lt w.1) _⟩
   generalize H1.set H.n (.row ({s with at_:=B (s.at_+sp.at_)}:bj).cells)=H2 at *;have ah:aj H2 6 acI (.ptr H.n 0)=acK (.agg ({s with at_:=B (s.at_+sp.at_)}:bj).cells):=by rw[b2.load];rfl
   simp only[ah,O,KP a2];rw[b6 N];simp only[O,di];rw[show(I.ae (aej 1 (aej (n*9) (List.flatMap aE.cells t.Y)))) = .ae (((t.Y.flatMap aE.cells).drop (n*9)).drop 1)from rfl,so H2 j];simp only[O];rw[UQ a2];simp only[O];have a3:=a2.set (.row (fQ t {s with at_:=B (s.at_+sp.at_)} ix));rw[KU a3 f.type];simp only[O];exact E n f s _ (by rw[d];decide) d h1 j k c F (k2.trans ((bX.set id _ _).trans (bX.set id _ _))) (a3.set _)
end
variable{b s:Int}{H:Z}
theorem KW{b s x:Int}(hs:0<s)(a:x%s=0)(c:b<=x)(d:x<=b+s-1):bq b s=x:=by
 have hu:=eJ (n:=b) hs;have hm:=k0 (n:=b) hs;rcases Int.le_total x (bq b s)with h|h
 . have e:(bq b s-x)%s=0:=by rw[aek,a,hm];simp
   rw[ael (by omega) (by omega)]at e;omega
 . have e:(x-bq b s)%s=0:=by rw[aek,a,hm];simp
   rw[ael (by omega) (by omega)]at e;omega
theorem CA(hs:0<s)(h:b%s=0):bq b s=b:=KW hs h (adR _) (by omega)
theorem CB(hs:0<s)(h:b%s≠0):bq (b+1) s=bq b s:=by have hu:=eJ (n:=b) hs;have hm:=k0 (n:=b) hs;have a:bq b s≠b:=λe=>h (by rw[<-e];exact hm);exact KW hs hm (by omega) (by omega)
theorem cc.sq{n0 sz a len m:Nat}{x y:I}{cells news:List I}{K:aa}(h:cc n0 H sz x len cells)(b:n0<=H.n)(d:hL H sz y=acK (m,news))(hn:news.length=m*sz)(hs:news.all I.scalar=acI)(f:m≠0)
  (U:(len+m)*a<=140737488355328) (hl:len+m<=9223372036854775807) (g:∀H',cc n0 H' sz (.aq (.own H.n) (len+m) (cells++news)) (len+m) (cells++news)->H.n<H'.n->(∀i o,At H i o->(∀l c,x ≠ .aq (.own i) l c)->At H' i o)->K (.aq (.own H.n) (len+m) (cells++news)) H'):bs (cZ H acJ sz a x y) K:=by
 obtain⟨tk,rfl,hc,j⟩:=h;have hlen:(cells++news).length=(len+m)*sz:=by simp[hc,hn,aaV]
 have grow:∀tk:Tok,tk = .full\/(tk = .nil/\len=0)->cZ H acJ sz a (.aq tk len cells) y=acK (.aq (.own H.n) (len+m) (cells++news),H.push (.tok ((len+m)*sz) sz)):=by intro tk ht;simp only[cZ,d,hs,not_true_eq_false,b4,af f];rw[af (by simp only[adJ];exact⟨hc,U,hl⟩)];rcases ht with rfl|⟨rfl,_⟩<;>rfl
 have fresh:K (.aq (.own H.n) (len+m) (cells++news)) (H.push (.tok ((len+m)*sz) sz)):=
  g _ ⟨_,rfl,hlen,.inr (.inr ⟨H.n,rfl,b,At.new H _⟩)⟩ (acR _) (λi o h _=>h.push _)
 rcases j with ht|ht|⟨t,rfl,h1,k⟩
 ·exact⟨_,_,grow tk (.inr ht),fresh⟩
 ·exact⟨_,_,grow tk (.inl ht),fresh⟩
 . refine ⟨.aq (.own H.n) (len+m) (cells++news),(H.set t .gone).push (.tok ((len+m)*sz) sz),?_,g _ ⟨_,rfl,hlen,.inr (.inr ⟨H.n,rfl,b,At.new (H.set t .gone) _⟩)⟩ (acR _) (λi o hi p=>(hi.bR (λe=>?_) _).push _)⟩
   . simp only[cZ,d,hs,not_true_eq_false,b4,af f];rw[af (by simp only[adJ];exact⟨hc,U,hl⟩)];simp[k.2]
   . subst e;exact p _ _ rfl
def bY(sz al:Int)(o1 o2:I)(lg:Bool):List I:=[D sz,D al,o1,o2,.bool lg]
def l8(ix:I)(l:List Int):Prop:=∃tk,ix = .aq tk l.length (l.map (D))
theorem iu{i:Nat}{sz al:Int}{o1 o2:I}{lg:Bool}(h:At H i (.row (bY sz al o1 o2 lg))) :
  aj H 1 acJ (.ptr i 0)=acK (D sz)/\aj H 1 acJ (.ptr i 1)=acK (D al)/\aj H 1 acJ (.ptr i 2)=acK o1/\aj H 1 acJ (.ptr i 3)=acK o2/\aj H 1 acJ (.ptr i 4)=acK (.bool lg)/\aj H 5 acI (.ptr i 0)=acK (.agg (bY sz al o1 o2 lg)):=by
 refine⟨?_,?_,?_,?_,?_,?_⟩<;>(rw[h.load];rfl)
def yO(C:Ctx)(t:X):Prop:=∀(H:Z)(Q:aa),(∀sz al l1 l2 o1 o2 lg H',Z.Ext H H'->l8 o1 l1->l8 o2 l2->((L t).2=acI->lg=acJ/\sz=(L t).1.1/\al=(L t).1.2/\(t.kind=3\/t.kind=4->cD t=l6 t.Y l1 l2/\l1.length=t.Y.length/\l2.length=t.Y.length))->((L t).2=acJ->lg=acI)->Q (.agg (bY sz al o1 o2 lg)) H')->ai C 29 [.agg t.cells] H Q
end Rb
namespace Rb
open Go
variable{t:X}{i:Nat}
section
variable{C:Ctx}(ak:cP C)(hT:Cl (ai C) S.b7)
include ak hT
theorem CC{e:X}(h:t.aK[i]?=acK e):∃p,aL acL 6 (av X.cells t.aK) (D i)=acK p/\∀H,aj H 6 acI p=acK (.agg e.cells):=⟨_,b6 (aal.1 h).1,λH=>c8 X.len (by decide) H h⟩
theorem KY{f:aE}(h:t.Y[i]?=acK f):∃p q,aL acL 9 (av aE.cells t.Y) (D i)=acK p/\aH 1 p=acK q/\∀H,aj H 6 acI q=acK (.agg f.type.cells):=⟨_,_,b6 (aal.1 h).1,rfl,λH=>so H h⟩
theorem UW(o:t.Y.length<=9223372036854775807)(hle:t.aK.length<=9223372036854775807)(hf:∀f∈t.Y,bD (ai C) 72 [.agg f.type.cells] (.bool (eM f.type)))(l:∀e∈t.aK,bD (ai C) 72 [.agg e.cells] (.bool (eM e))):bD (ai C) 72 [.agg t.cells] (.bool (eM t)):=by
 intro H Q hQ;refine S.Rp hT ?_;unfold S.f72;simp only[ag];rw[JO]at hQ;have Y:∀(r:List aE)(k:Nat)(b:Bool),t.Y.drop k=r->(b||r.any λf=>eM f.type)=(((t.kind==2&&decide (t.size>1))||t.aK.any eM)||t.Y.any λf=>eM f.type)->ar (S.wU (ai C) (.ae t.cells) Q) ([.bool b,D k],H):=by
  intro r;induction r with
  | nil=>intro k b a U;have hle:=c7 a;refine ar.step ?_;simp only[ag,S.wU,ca,fN,O,bC,T,bE,aY,au];rw[cQ];rw[<-U]at hQ;simpa using hQ
  | cons f r c=>
   intro k b a U;obtain⟨m,d,g⟩:=c4 a;obtain⟨p,q,e1,n,j⟩:=KY ak hT d;have hw:abu .i64 ((k:Int)+1)=((k+1:Nat):Int):=by rw[bo];simp
   rw[adM]at U;refine ar.step ?_;simp only[ag,S.wU,ca,fN,O,bC,T,bE,aY,au];rw[cM];cases b with
   | false=>simp only[bF,bc,e1,n,j,O];refine hf f (adq d) _ _ ?_;simp only[ag,aw,S.wT,T,bE,bz,O,hw];exact c (k+1) _ g (by simpa using U)
   | true=>simp only[ag,bF,aw,S.wT,T,bE,bz,O,hw];rw[cw];exact c (k+1) _ g (by simpa using U)
 have elems:∀(r:List X)(k:Nat)(b:Bool),t.aK.drop k=r->(b||r.any eM)=((t.kind==2&&decide (t.size>1))||t.aK.any eM)->ar (S.wV (ai C) (.ae t.cells) Q) ([.bool b,D k],H):=by
  intro r;induction r with
  | nil=>intro k b a U;have hle:=c7 a;refine ar.step ?_;simp only[ag,S.wV,ca,gK,O,bC,T,bE,aY,au];rw[cQ];simp only[aw,S.Hv,T];exact Y t.Y 0 b rfl (by rw[<-U];simp)
  | cons e r c=>
   intro k b a U;obtain⟨m,d,g⟩:=c4 a;obtain⟨p,e1,j⟩:=CC ak hT d;have hw:abu .i64 ((k:Int)+1)=((k+1:Nat):Int):=by rw[bo];simp
   rw[adM]at U;refine ar.step ?_;simp only[ag,S.wV,ca,gK,O,bC,T,bE,aY,au];rw[cM];cases b with
   | false=>simp only[bF,bc,e1,j,O];refine l e (adq d) _ _ ?_;simp only[ag,aw,S.wS,T,bE,bz,O,hw];exact c (k+1) _ g (by simpa using U)
   | true=>simp only[ag,bF,aw,S.wS,T,bE,bz,O,hw];rw[cw];exact c (k+1) _ g (by simpa using U)
 have i:S.wW (ai C) (.ae t.cells) Q [.bool (t.kind==2&&decide (t.size>1))] H:=by unfold S.wW;simp only[T];exact elems t.aK 0 _ rfl rfl
 simp only[fC,aN,ca,h3,O,bI,bP,aw];apply aG<;>intro h
 . simp only[kp,O,cV];rw[h,adP]at i;exact i
 . have h:(t.kind==2)=acJ:=by simpa using h
   rw[h,adQ]at i;exact i
theorem UX:∀t:X,t.ok->bD (ai C) 72 [.agg t.cells] (.bool (eM t)):=by refine X.ind λt a b ht=>?_;obtain⟨h1,c,d,g⟩:=dL ht;exact UW ak hT h1 d (λf hf=>a f hf (c f hf)) (λe he=>b e he (g e he))
theorem UY(ht:t.ok)(o:t.Y.length<=9223372036854775807)(hle:t.aK.length<=9223372036854775807)(hf:∀f∈t.Y,bD (ai C) 43 [.agg f.type.cells] (.bool (e3 f.type)))(l:∀e∈t.aK,bD (ai C) 43 [.agg e.cells] (.bool (e3 e))):bD (ai C) 43 [.agg t.cells] (.bool (e3 t)):=by
 intro H Q hQ;refine S.Q1 hT ?_;unfold S.f43;simp only[ag];rw[JP]at hQ;have Y:∀(r:List aE)(k:Nat)(b:Bool),t.Y.drop k=r->(b||r.any λf=>e3 f.type)=(((t.packed&&eM t)||t.aK.any e3)||t.Y.any λf=>e3 f.type)->ar (S.vK (ai C) (.ae t.cells) Q) ([.bool b,D k],H):=by
  intro r;induction r with
  | nil=>intro k b a U;have hle:=c7 a;refine ar.step ?_;simp only[ag,S.vK,ca,fN,O,bC,T,bE,aY,au];rw[cQ];rw[<-U]at hQ;simpa using hQ
  | cons f r c=>
   intro k b a U;obtain⟨m,d,g⟩:=c4 a;obtain⟨p,q,e1,n,j⟩:=KY ak hT d;have hw:abu .i64 ((k:Int)+1)=((k+1:Nat):Int):=by rw[bo];simp
   rw[adM]at U;refine ar.step ?_;simp only[ag,S.vK,ca,fN,O,bC,T,bE,aY,au];rw[cM];cases b with
   | false=>simp only[bF,bc,e1,n,j,O];refine hf f (adq d) _ _ ?_;simp only[ag,aw,S.vJ,T,bE,bz,O,hw];exact c (k+1) _ g (by simpa using U)
   | true=>simp only[ag,bF,aw,S.vJ,T,bE,bz,O,hw];rw[cw];exact c (k+1) _ g (by simpa using U)
 have elems:∀(r:List X)(k:Nat)(b:Bool),t.aK.drop k=r->(b||r.any e3)=((t.packed&&eM t)||t.aK.any e3)->ar (S.vL (ai C) (.ae t.cells) Q) ([.bool b,D k],H):=by
  intro r;induction r with
  | nil=>intro k b a U;have hle:=c7 a;refine ar.step ?_;simp only[ag,S.vL,ca,gK,O,bC,T,bE,aY,au];rw[cQ];simp only[aw,S.GL,T];exact Y t.Y 0 b rfl (by rw[<-U];simp)
  | cons e r c=>
   intro k b a U;obtain⟨m,d,g⟩:=c4 a;obtain⟨p,e1,j⟩:=CC ak hT d;have hw:abu .i64 ((k:Int)+1)=((k+1:Nat):Int):=by rw[bo];simp
   rw[adM]at U;refine ar.step ?_;simp only[ag,S.vL,ca,gK,O,bC,T,bE,aY,au];rw[cM];cases b with
   | false=>simp only[bF,bc,e1,j,O];refine l e (adq d) _ _ ?_;simp only[ag,aw,S.vI,T,bE,bz,O,hw];exact c (k+1) _ g (by simpa using U)
   | true=>simp only[ag,bF,aw,S.vI,T,bE,bz,O,hw];rw[cw];exact c (k+1) _ g (by simpa using U)
 have i:S.vM (ai C) (.ae t.cells) Q [.bool (t.packed&&eM t)] H:=by unfold S.vM;simp only[T];exact elems t.aK 0 _ rfl rfl
 simp only[fC,aN,ca,lS,O,bP,aw];apply aG<;>intro h
 . simp only[hD,O];refine UX ak hT t ht _ _ ?_;rw[h,adP]at i;exact i
 . have h:t.packed=acJ:=by simpa using h
   rw[h,adQ]at i;exact i
theorem UZ:∀t:X,t.ok->bD (ai C) 43 [.agg t.cells] (.bool (e3 t)):=by refine X.ind λt a b ht=>?_;obtain⟨h1,c,d,g⟩:=dL ht;exact UY ak hT ht h1 d (λf hf=>a f hf (c f hf)) (λe he=>b e he (g e he))
end
end Rb
namespace Rb
open Go
variable{H:Z}{i:Nat}{sz al:Int}{o1 o2 x:I}{lg:Bool}{f:aE}{cells cs:List I}
theorem sr{l1 l2:List Int}(a:l8 o1 l1)(b:l8 o2 l2):(bY sz al o1 o2 lg).all I.scalar=acI:=by obtain⟨t1,rfl⟩:=a;obtain⟨t2,rfl⟩:=b;rfl
theorem U0(h:At H i (.row (bY sz al o1 o2 lg)))(v:Int):cf H 1 (.ptr i 0) (D v)=acK (H.set i (.row (bY v al o1 o2 lg))):=by rw[h.store,ab ⟨rfl,rfl,rfl,(by show 0+1<=5;decide)⟩];rfl
theorem U1(h:At H i (.row (bY sz al o1 o2 lg)))(v:Int):cf H 1 (.ptr i 1) (D v)=acK (H.set i (.row (bY sz v o1 o2 lg))):=by rw[h.store,ab ⟨rfl,rfl,rfl,(by show 1+1<=5;decide)⟩];rfl
theorem U2(h:At H i (.row (bY sz al o1 o2 lg)))(tk:Tok)(n:Nat)(cs:List I):cf H 1 (.ptr i 2) (.aq tk n cs)=acK (H.set i (.row (bY sz al (.aq tk n cs) o2 lg))):=by rw[h.store,ab ⟨rfl,rfl,rfl,(by show 2+1<=5;decide)⟩];rfl
theorem U3(h:At H i (.row (bY sz al o1 o2 lg)))(tk:Tok)(n:Nat)(cs:List I):cf H 1 (.ptr i 3) (.aq tk n cs)=acK (H.set i (.row (bY sz al o1 (.aq tk n cs) lg))):=by rw[h.store,ab ⟨rfl,rfl,rfl,(by show 3+1<=5;decide)⟩];rfl
theorem U4(h:At H i (.row (bY sz al o1 o2 lg)))(v:Bool):cf H 1 (.ptr i 4) (.bool v)=acK (H.set i (.row (bY sz al o1 o2 v))):=by rw[h.store,ab ⟨rfl,rfl,rfl,(by show 4+1<=5;decide)⟩];rfl
theorem U5(h:At H i (.row f.cells)):aj H 6 acI (.ptr i 1)=acK (.agg f.type.cells):=by rw[h.load];cases f with|mk n t b w=>cases t;rfl
theorem U6(h:At H i (.row f.cells)):aj H 1 acJ (.ptr i 2)=acK (D f.type.size):=by rw[h.load];cases f with|mk n t b w=>cases t;rfl
theorem CE(h:At H i (.row f.cells)):aj H 1 acJ (.ptr i 7)=acK (.bool f.bits):=by rw[h.load];cases f with|mk n t b w=>cases t;rfl
theorem U7(h:At H i (.row f.cells)):aj H 1 acJ (.ptr i 8)=acK (D f.aQ):=by rw[h.load];cases f with|mk n t b w=>cases t;rfl
theorem cc.mB{n0 sz len i:Nat}(h:cc n0 H sz x len cells)(a:At H i (.row cs)):∀l c,x ≠ .aq (.own i) l c:=by
 intro l c e;obtain⟨tk,b,hc,ht⟩:=h;rw[b]at e;simp only[I.aq.injEq]at e;rcases ht with⟨q,_⟩|q|⟨t,q,_,d⟩
 ·rw[q]at e;cases e.1
 ·rw[q]at e;cases e.1
 . rw[q]at e;have:t=i:=by simpa using e.1
   subst this;have:=d.2.symm.trans a.2;cases this
theorem cc.low{n0 sz len i:Nat}(h:cc n0 H sz x len cells)(hi:i<n0):∀l c,x ≠ .aq (.own i) l c:=by
 intro l c e;obtain⟨tk,a,hc,ht⟩:=h;rw[a]at e;simp only[I.aq.injEq]at e;rcases ht with⟨q,_⟩|q|⟨t,q,b,_⟩
 ·rw[q]at e;cases e.1
 ·rw[q]at e;cases e.1
 . rw[q]at e;have:t=i:=by simpa using e.1
   omega
theorem cc.move{n0 sz len:Nat}{H H':Z}{x y:I}(h:cc n0 H sz x len cells)(k:∀i o,At H i o->(∀l c,y ≠ .aq (.own i) l c)->At H' i o)(b:∀i l c,y = .aq (.own i) l c->∀l' c',x ≠ .aq (.own i) l' c'):cc n0 H' sz x len cells:=by
 obtain⟨tk,a,hc,ht⟩:=h;refine⟨tk,a,hc,?_⟩;rcases ht with q|q|⟨t,q,d,f⟩
 ·exact .inl q
 ·exact .inr (.inl q)
 . refine .inr (.inr ⟨t,q,d,k t _ f λl c e=>?_⟩);exact b t l c e _ _ (by rw[a,q])
theorem cc.ox{n0 sz len i:Nat}(h:cc n0 H sz x len cells)(c:At H i (.row cs))(o:cx):cc n0 (H.set i o) sz x len cells:=h.frame λt a b ht=>ht.bR (λe=>by subst e;have:=ht.2.symm.trans c.2;cases this) _
theorem Ext.bh{H a b:Z}(E:Z.Ext H a)(hn:a.n<=b.n)(k:∀i o,i<H.n->At a i o->At b i o):Z.Ext H b:=⟨sl E.1 hn,λi hi=>((k i _ hi ⟨xl hi E.1,rfl⟩).2).trans (E.2 i hi)⟩
section
variable{C:Ctx}(ak:cP C)(hT:Cl (ai C) S.b7)
include ak hT
theorem U8{t:X}(hs:cW t=0)(bZ:∀f∈t.Y,cW f.type=0->yO C f.type)(b4:∀e∈t.aK,cW e=0->yO C e):yO C t:=by
 intro H Q hQ;refine S.QP hT ?_;unfold S.f29;simp only[ag];simp only[fC,aN,ca,h3,O,bQ,bc,bI,au,aw];have a3:=Z.Ext.push H (.row (bY 0 0 A A acJ));have r1:=At.new H (.row (bY 0 0 A A acJ));have n1:(H.push (.row (bY 0 0 A A acJ))).n=H.n+1:=rfl;rw[show H.push (.row [J,J,A,A,P])=H.push (.row (bY 0 0 A A acJ))from rfl];generalize H.push _=H1 at *;have nil:l8 A []:=⟨.nil,rfl⟩
 have ret:∀sz al l1 l2 o1 o2 lg a,Z.Ext H a->At a H.n (.row (bY 0 0 A A acJ))->l8 o1 l1->l8 o2 l2->((L t).2=acI->lg=acJ/\sz=(L t).1.1/\al=(L t).1.2/\(t.kind=3\/t.kind=4->cD t=l6 t.Y l1 l2/\l1.length=t.Y.length/\l2.length=t.Y.length))->((L t).2=acJ->lg=acI) ->
   Do (cf a 5 (.ptr H.n 0) (.agg (bY sz al o1 o2 lg))) λK=>Do (aj K 5 acI (.ptr H.n 0)) λy=>Q y K:=by
  intro sz al l1 l2 o1 o2 lg a N ap h1 ax ac U;rw[ap.store,ab ⟨rfl,rfl,sr h1 ax,(by decide:0+5<=5)⟩];simp only[O];have ay:At (a.set H.n (.row (bY sz al o1 o2 lg))) H.n (.row (bY sz al o1 o2 lg)):=ap.set _;change Do (aj (a.set H.n (.row (bY sz al o1 o2 lg))) 5 acI (.ptr H.n 0)) _;rw[(iu ay).2.2.2.2.2];simp only[O];exact hQ sz al l1 l2 o1 o2 lg _ (N.set (hb _) _) h1 ax ac U
 have num:t.kind=1\/t.kind=2->S.rp (ai C) (.ae t.cells) (.ptr H.n 0) (D t.kind) Q [aT] H1:=by
  intro hk;unfold S.rp;simp only[ag];simp only[T,au,bc,ca,kp,O];rw[show bS [J,J,A,A,P] [(0,1,D t.size),(1,1,D t.size)]=acK (.agg (bY t.size t.size A A acJ))from rfl];simp only[O];refine ret _ _ [] [] _ _ _ H1 a3 r1 nil nil (λ_=>?_) (λh=>?_)
  ·rw[jZ hk];exact⟨rfl,rfl,rfl,λq=>by omega⟩
  ·rw[jZ hk]at h;cases h
 apply aG<;>intro hc
 ·rw[hc];exact num (.inl (by simpa using hc))
 have k1:¬t.kind=1:=by simpa using hc
 by_cases k2:t.kind=2
 ·rw[show(t.kind==2)=acI by simpa using k2];exact num (.inr k2)
 rw[show(t.kind==2)=acJ by simpa using k2];unfold S.rp;simp only[ag];simp only[T,au,bI,O,aw];rw[cw];apply aG<;>intro hc
 . have V:t.kind=5:=by simpa using hc
   obtain⟨e,he,b5⟩:=kq hs V;have dx:=Kh hs V;have b7:t.aK[0]?=acK e:=by rw[he];rfl
   obtain⟨p,e1,b8⟩:=CC ak hT b7;have b9:aL acL 6 (av X.cells t.aK) (J)=acK p:=e1;have u:L t=((B ((L e).1.1*t.bg),(L e).1.2),(L e).2&&decide (B ((L e).1.1*t.bg)<=65536)):=by rw[jW,bL,ab V,he];rfl
   simp only[ca,gK,O,b9,b8];refine b4 e (by rw[he];simp) b5 _ _ λsz al l1 l2 o1 o2 lg a N i1 i2 ac U=>?_;simp only[bQ,bc,aN];rw[cn a _ (bY sz al o1 o2 lg) 5 rfl (sr i1 i2) rfl];simp only[O];have ad:=At.new a (.row (bY sz al o1 o2 lg));have ay:=(r1.ext N).push (.row (bY sz al o1 o2 lg));have aU:=(a3.trans N).trans (Z.Ext.push a (.row (bY sz al o1 o2 lg)));generalize a.push _=K at *;obtain⟨v0,v1,v2,v3,v4,v5⟩:=iu ad;have bm:∀b:Bool,(b=acI->(L t).2=acJ)->(b=acJ->(L t).2=acI/\sz=(L e).1.1/\al=(L e).1.2)->S.vp (ai C) (.ae t.cells) (.ptr H.n 0) (.ptr a.n 0) Q [.bool b] K:=by
    intro b W bn;unfold S.vp;simp only[ag];simp only[T,au,aH,aa8,v1,O];apply aG<;>intro h
    . rw[show bS [J,J,A,A,P] [(1,1,D al),(4,1,aT)]=acK (.agg (bY 0 al A A acI))from rfl];simp only[O];refine ret _ _ [] [] _ _ _ K aU ay nil nil (λq=>?_) (λ_=>rfl);rw[W h]at q;cases q
    . obtain⟨b_,cb,cd⟩:=bn (by simpa using h);simp only[ag,aw,S.Gq,aH,aa8,v0,v1,O,ca,lU,gk];rw[show bS [J,J,A,A,P] [(0,1,D (abu .i64 (sz*t.bg))),(1,1,D al)]=acK (.agg (bY (B (sz*t.bg)) al A A acJ))from rfl];simp only[O];refine ret _ _ [] [] _ _ _ K aU ay nil nil (λ_=>?_) (λq=>?_)
      ·rw[u,cb,cd];exact⟨rfl,rfl,rfl,λq=>by omega⟩
      ·rw[b_]at q;cases q
   simp only[aH,aa8,v4,O,bF];apply dC<;>intro h
   . cases ah:(L e).2 with
     |false=>rw[U ah]at h;cases h
     | true=>
      obtain⟨g1,g2,g3,_⟩:=ac ah;simp only[v0,O,ca,lU,gk,cV,aw];refine bm _ (λq=>?_) (λq=>?_)
      . have q:B (sz*t.bg)>65536:=of_decide_eq_true q;rw[u,ah,<-g2,adP];exact decide_eq_false (by show ¬B (sz*t.bg)<=65536;omega)
      . have q:¬B (sz*t.bg)>65536:=of_decide_eq_false q;refine⟨?_,g2,g3⟩;rw[u,ah,<-g2,adP];exact decide_eq_true (by show B (sz*t.bg)<=65536;omega)
   . refine bm acI (λ_=>?_) (λq=>by cases q);cases ah:(L e).2 with
     |false=>rw[u,ah];rfl
     |true=>obtain⟨g1,_⟩:=ac ah;rw[g1]at h;cases h
 have V:¬t.kind=5:=by simpa using hc
 have hk:t.kind=3\/t.kind=4:=by have:=nb hs;omega
 have dy:=r7 hs hk;have a4:=yr hs hk;have ce:∀p,dQ t.packed t.kind ⟨0,1,[],0⟩ t.Y=acK p->L t=((cA p.size p.bp,p.bp),decide (cA p.size p.bp<=65536)):=by intro p hp;rw[jW,bL,bL,hp]
 have cg:dQ t.packed t.kind ⟨0,1,[],0⟩ t.Y=acL->L t=((0,0),acJ):=by intro hp;rw[jW,bL,bL,hp]
 simp only[ag,aw,S.Gs];rw[show bS [J,J,A,A,P] [(1,1,D 1)]=acK (.agg (bY 0 1 A A acJ))from rfl];simp only[O,bQ,bc,aN];rw[cn H1 _ (bY 0 1 A A acJ) 5 rfl rfl rfl];simp only[O];have w2:=At.new H1 (.row (bY 0 1 A A acJ));have ch:=r1.push (.row (bY 0 1 A A acJ));have ci:=a3.trans (Z.Ext.push H1 (.row (bY 0 1 A A acJ)));generalize H1.push _=H2 at *;have main : ∀(r:List aE)(k:Nat)(p:PL)(s:nc)(o1 o2:I)(a:Z),t.Y.drop k=r->k<=t.Y.length->Z.Ext H a->At a H.n (.row (bY 0 0 A A acJ))->At a H1.n (.row (bY 0 s.bp o1 o2 acJ)) ->
   cc H1.n a 1 o1 s.first.length (s.first.map (D))->cc H1.n a 1 o2 s.bits.length (s.bits.map (D))->(∀i l c,o1 = .aq (.own i) l c->∀l' c',o2 ≠ .aq (.own i) l' c') ->
   hI p k->mw p s (t.Y.take k)->dQ t.packed t.kind p r=dQ t.packed t.kind ⟨0,1,[],0⟩ t.Y ->
   ar (S.jz (ai C) (.ae t.cells) (.ptr H.n 0) (.ptr H1.n 0) Q) ([D s.bit,D s.end_,D k],a):=by
  intro r;induction r with
  | nil=>
   intro k p s o1 o2 a a5 cj N ap am h1 ax br hp v he;have hle:=c7 a5;have ck:t.Y.take k=t.Y:=adp hle;rw[ck]at v;simp only[dQ]at he;have u:=ce p he.symm;refine ar.step ?_;simp only[ag,S.jz,T,bE,ca,fN,O,bC,aY,au,aw,S.Gr];rw[cQ];have dz:=hp.a0;have dA:=hp.M;have lK:=hp.s0;have lM:=hp.s1;have cl:=v.size;have cm:=v.e0;have a6:=v.bp;rw[yB]at cl;have hu:=eJ (n:=s.end_) (step:=8*p.bp) (by omega);have co:bq s.end_ (8*p.bp)/8=bq p.size p.bp:=by rw[Cg (by omega),v.size];omega
   have bs:=mr (n:=p.size) (step:=p.bp) lK (by omega) (by omega) (by omega);obtain⟨cp,e1,dB,_⟩:=h1;obtain⟨cq,cr,dD,_⟩:=ax;have cs:S.A6 (ai C) (.ptr H.n 0) (.ptr H1.n 0) Q [D (bq s.end_ (8*p.bp))] a:=by
    unfold S.A6;simp only[ag];rw[T,jg .i64 _ _ (by decide),adY (by omega),co];have bn:=eJ (n:=p.size) (step:=p.bp) (by omega);rw[wrap_i64 (n:=bq p.size p.bp) (by omega) (by omega)];simp only[O,aH,aa8];rw[U0 am];simp only[O];have ad:At (a.set H1.n (.row (bY (bq p.size p.bp) s.bp o1 o2 acJ))) H1.n (.row (bY (bq p.size p.bp) s.bp o1 o2 acJ)):=am.set _;rw[(iu ad).1];simp only[O,cV];rw[U4 ad];simp only[O];have ct:At ((a.set H1.n (.row (bY (bq p.size p.bp) s.bp o1 o2 acJ))).set H1.n (.row (bY (bq p.size p.bp) s.bp o1 o2 (decide (bq p.size p.bp>65536))))) H1.n (.row (bY (bq p.size p.bp) s.bp o1 o2 (decide (bq p.size p.bp>65536)))):=ad.set _;rw[(iu ct).2.2.2.2.2];simp only[O];refine ret _ _ s.first s.bits _ _ _ _ ((N.set (by omega) _).set (by omega) _) ((ap.bR (by omega) _).bR (by omega) _) ⟨cp,e1⟩ ⟨cq,cr⟩ (λq=>?_) (λq=>?_)
    . rw[u,bs]at q ⊢;have q:bq p.size p.bp<=65536:=of_decide_eq_true q;refine⟨decide_eq_false (by omega),rfl,a6,λ_=>⟨?_,v.l1,v.l2⟩⟩;rw[<-v.dP];unfold cD;rw[<-he]
    . rw[u,bs]at q;have q:¬bq p.size p.bp<=65536:=of_decide_eq_false q;exact decide_eq_true (by omega)
   have cu:∀(m:Nat)(b:Int),0<=b->bq b (8*p.bp)=bq s.end_ (8*p.bp)->(bq s.end_ (8*p.bp)-b).toNat=m->ar (S.vy (ai C) (.ptr H.n 0) (.ptr H1.n 0) Q) ([D b],a):=by
    intro m;induction m with
    | zero=>
     intro b an W hm;have U:=eJ (n:=b) (step:=8*p.bp) (by omega);have a7:=k0 (n:=b) (step:=8*p.bp) (by omega);have aV:b=bq s.end_ (8*p.bp):=by omega
     refine ar.step ?_;simp only[ag,S.vy,T,aH,aa8,(iu am).2.1,O,gk,a6];rw[bo,jV .i64 _ _ (by omega),ad1 an];have hz:b%(8*p.bp)=0:=by rw[aV,<-W];exact a7
     simp only[O,cC,hz,au];rw[cw,aV];exact cs
    | succ m a8=>
     intro b an W hm;have U:=eJ (n:=b) (step:=8*p.bp) (by omega);refine ar.step ?_;simp only[ag,S.vy,T,aH,aa8,(iu am).2.1,O,gk,a6];rw[bo,jV .i64 _ _ (by omega),ad1 an];have hz:b%(8*p.bp)≠0:=λq=>by have:=CA (b:=b) (s:=8*p.bp) (by omega) q;omega
     simp only[O,cC,au];rw[ab (by simpa using hz)];simp only[bz,O];rw[bo];exact a8 (b+1) (by omega) (by rw[CB (by omega) hz];exact W) (by omega)
   exact cu _ s.end_ cm rfl rfl
  | cons f r a8=>
   intro k p s o1 o2 a a5 cj N ap am h1 ax br hp v he;obtain⟨cv,a9,cx⟩:=c4 a5;have aW:=adq a9;have bt:=r6 a4 f aW;have cy:=r8 f.type (oe a4 f aW);have cz:abu .i64 ((k:Int)+1)=((k+1:Nat):Int):=by rw[bo];simp
   have cB:t.Y.take (k+1)=t.Y.take k++[f]:=by rw[adw,a9];rfl
   have dE:=am.1;simp only[dQ,na]at he;refine ar.step ?_;simp only[ag,S.jz,T,bE,ca,fN,O,bC,aY,au];rw[cM,b6 cv];simp only[O];rw[c8 aE.len (by decide) _ a9];simp only[O,aN,bQ,bc];rw[cn _ _ _ 9 f.len f.scalar rfl];have bu:=At.new a (.row f.cells);have ay:=ap.push (.row f.cells);have ad:=am.push (.row f.cells);have aU:=N.trans (Z.Ext.push a (.row f.cells));have cE:=h1.frame (H':=a.push (.row f.cells)) (λt _ _ h=>h.push _);have cF:=ax.frame (H':=a.push (.row f.cells)) (λt _ _ h=>h.push _);have n6:a.n<(a.push (.row f.cells)).n:=acR _;simp only[O,aH,aa8];rw[U5 bu];simp only[O];generalize a.push _=K at *;refine bZ f aW (oe a4 f aW) _ _ λsz al l1 l2 E G lg g ao i1 i2 ac U=>?_;rw[cn g _ (bY sz al E G lg) 5 rfl (sr i1 i2) rfl];have aM:=(bu.ext ao).push (.row (bY sz al E G lg));have a_:=(ay.ext ao).push (.row (bY sz al E G lg));have ba:=(ad.ext ao).push (.row (bY sz al E G lg));have aO:=At.new g (.row (bY sz al E G lg));have bv:=aU.trans (ao.trans (Z.Ext.push g (.row (bY sz al E G lg))));have az:=cE.frame (H':=g.push (.row (bY sz al E G lg))) (λt _ _ h=>(h.ext ao).push _);have bw:=cF.frame (H':=g.push (.row (bY sz al E G lg))) (λt _ _ h=>(h.ext ao).push _);have n7:K.n<=g.n:=ao.1;have n8:g.n<(g.push (.row (bY sz al E G lg))).n:=acR _;simp only[O,aH,aa8];generalize g.push _=d at *;rw[(iu aO).2.2.2.2.1];simp only[O,au];apply aG<;>intro hl
   . have u:(L f.type).2=acJ:=by
       cases q:(L f.type).2 with
       |false=>rfl
       |true=>rw[(ac q).1]at hl;cases hl
     rw[af (by rw[u];decide)]at he;rw[show bS [J,J,A,A,P] [(1,1,D 1),(4,1,aT)]=acK (.agg (bY 0 1 A A acI))from rfl];simp only[O];refine ret _ _ [] [] _ _ _ d bv a_ nil nil (λq=>?_) (λ_=>rfl);rw[cg he.symm]at q;cases q
   have u:(L f.type).2=acI:=by
    cases q:(L f.type).2 with
    |true=>rfl
    |false=>exact absurd (U q) hl
   obtain⟨g1,g2,g3,_⟩:=ac u;rw[ab u]at he;obtain⟨b1,b2,b3,bb⟩:=cy u;have cG:=Kf (packed:=t.packed) (kind:=t.kind) (by omega) hp v b1 b2 b3 bb (λcH=>by obtain⟨aP,z2,z3,z4,z5,bx⟩:=bt cH;exact⟨z2,z3,z4,z5,bx,by rw[jZ (.inl aP)]⟩)
   obtain⟨st1,st2⟩:=cG;have cJ:(L f.type).1=(sz,al):=Prod.ext g2.symm g3.symm;rw[cJ]at b1 b2 b3 bb st1 st2 he;dsimp only at b1 b2 b3 bb;have dF:=v.bit;have dG:=hp.b0;have dH:=hp.b1;have dI:=st2.b0;have dJ:=st2.b1;have cK:=st1.bit;have dK:=st1.e0;have dL:(dR t.packed t.kind s.bit f (sz,al)).1+(dR t.packed t.kind s.bit f (sz,al)).2.1=(ij t.packed t.kind p f (sz,al)).bit:=cK;obtain ⟨b0,aR,bA,c1⟩:∃b0:Int,(if t.kind=4 then 0 else s.bit)=b0/\0<=b0/\b0<=19200000:=by
    split
    ·exact⟨0,rfl,by omega,by omega⟩
    ·exact⟨s.bit,rfl,by omega,by omega⟩
   generalize aS:yz t.packed t.kind s f (sz,al)=R at *;have bd:R.bit=(dR t.packed t.kind s.bit f (sz,al)).1+(dR t.packed t.kind s.bit f (sz,al)).2.1:=by rw[<-aS];rfl
   have bB:R.end_=max s.end_ ((dR t.packed t.kind s.bit f (sz,al)).1+(dR t.packed t.kind s.bit f (sz,al)).2.1):=by rw[<-aS];rfl
   have bD:R.bp=max s.bp (dR t.packed t.kind s.bit f (sz,al)).2.2:=by rw[<-aS];rfl
   have cL:R.first=s.first++[(dR t.packed t.kind s.bit f (sz,al)).1]:=by rw[<-aS];rfl
   have cN:R.bits=s.bits++[(dR t.packed t.kind s.bit f (sz,al)).2.1]:=by rw[<-aS];rfl
   have x:dR t.packed t.kind s.bit f (sz,al)=if f.bits=acI then
    (bq b0 (if f.aQ=0\/b0%(8*f.type.size)+f.aQ>8*f.type.size then 8*f.type.size else 1),f.aQ,if t.packed=acI\/f.aQ=0 then 1 else al)
    else(bq b0 (if t.packed=acI then 8 else 8*al),8*sz,if t.packed=acI then 1 else al):=by unfold dR;rw[aR]
   generalize dR t.packed t.kind s.bit f (sz,al)=F at *;have dM:s.first.length=k:=by rw[v.l1,adI];omega
   have dN:s.bits.length=k:=by rw[v.l2,adI];omega
   have cO:∀step n:Int,n=F.2.1->S.A5 (ai C) (.ae t.cells) (.ptr H1.n 0) (.ptr a.n 0) (.ptr g.n 0) ([D s.bit,D s.end_,D k],a) (ar (S.jz (ai C) (.ae t.cells) (.ptr H.n 0) (.ptr H1.n 0) Q)) [D step,D n] Q [D F.1] d:=by
    intro step n hn;unfold S.A5;simp only[ag];simp only[T,bE,aH,aa8,(iu ba).2.2.1,O];rw[show cI d acJ 1 1 [J] [(0,1,D F.1)]=acK (.aq .full 1 [D F.1],d)from rfl];simp only[aN];refine az.sq (by omega) (m:=1) (news:=[D F.1]) rfl rfl rfl (by decide) (by omega) (by omega) λbe cP n9 aA=>?_;have aX:=aA _ _ ba (az.mB ba);have cR:=aA _ _ a_ (az.mB a_);have cS:=aA _ _ aM (az.mB aM);have cT:=aA _ _ aO (az.mB aO);have cU:=bw.move aA br;have cX:=Ext.bh bv (aee n9) (λi o hi h=>aA i o h (az.low (by omega)));rw[U2 aX];simp only[O];have bf:=aX.set (.row (bY 0 s.bp (.aq (.own d.n) (s.first.length+1) (s.first.map (D)++[D F.1])) o2 acJ));have bG:=cR.bR (i:=H1.n) (by omega) (.row (bY 0 s.bp (.aq (.own d.n) (s.first.length+1) (s.first.map (D)++[D F.1])) o2 acJ));have bH:=cS.bR (i:=H1.n) (by omega) (.row (bY 0 s.bp (.aq (.own d.n) (s.first.length+1) (s.first.map (D)++[D F.1])) o2 acJ));have bJ:=cT.bR (i:=H1.n) (by omega) (.row (bY 0 s.bp (.aq (.own d.n) (s.first.length+1) (s.first.map (D)++[D F.1])) o2 acJ));have cY:=cP.ox aX (.row (bY 0 s.bp (.aq (.own d.n) (s.first.length+1) (s.first.map (D)++[D F.1])) o2 acJ));have aB:=cU.ox aX (.row (bY 0 s.bp (.aq (.own d.n) (s.first.length+1) (s.first.map (D)++[D F.1])) o2 acJ));have cZ:=cX.set (i:=H1.n) (by omega) (.row (bY 0 s.bp (.aq (.own d.n) (s.first.length+1) (s.first.map (D)++[D F.1])) o2 acJ));have n10:(be.set H1.n (.row (bY 0 s.bp (.aq (.own d.n) (s.first.length+1) (s.first.map (D)++[D F.1])) o2 acJ))).n=be.n:=rfl;generalize be.set H1.n (.row (bY 0 s.bp (.aq (.own d.n) (s.first.length+1) (s.first.map (D)++[D F.1])) o2 acJ))=w at *;have c0:∀i l c,o2 = .aq (.own i) l c->∀l' c',(I.aq (.own d.n) (s.first.length+1) (s.first.map (D)++[D F.1])) ≠ .aq (.own i) l' c':=by
     intro i l c e l' c' bi;simp only[I.aq.injEq,Tok.own.injEq]at bi;obtain⟨tk,c2,_,ht⟩:=bw;rw[c2]at e;simp only[I.aq.injEq]at e;rcases ht with⟨q,_⟩|q|⟨c3,q,_,c5⟩
     ·rw[q]at e;cases e.1
     ·rw[q]at e;cases e.1
     . rw[q]at e;have:c3=i:=by simpa using e.1
       have:=c5.1;omega
    rw[(iu bf).2.2.2.1];simp only[O];rw[show cI w acJ 1 1 [J] [(0,1,D n)]=acK (.aq .full 1 [D n],w)from rfl];simp only[aN];refine aB.sq (by omega) (m:=1) (news:=[D n]) rfl rfl rfl (by decide) (by omega) (by omega) λc6 c9 n11 aC=>?_;have aZ:=aC _ _ bf (aB.mB bf);have c_:=aC _ _ bG (aB.mB bG);have da:=aC _ _ bH (aB.mB bH);have db:=aC _ _ bJ (aB.mB bJ);have dc:=cY.move aC c0;have dd:=Ext.bh cZ (aee n11) (λi o hi h=>aC i o h (aB.low (by omega)));rw[U3 aZ];simp only[O,bz];have aD:=aZ.set (.row (bY 0 s.bp (.aq (.own d.n) (s.first.length+1) (s.first.map (D)++[D F.1])) (.aq (.own w.n) (s.bits.length+1) (s.bits.map (D)++[D n])) acJ));have bK:=c_.bR (i:=H1.n) (by omega) (.row (bY 0 s.bp (.aq (.own d.n) (s.first.length+1) (s.first.map (D)++[D F.1])) (.aq (.own w.n) (s.bits.length+1) (s.bits.map (D)++[D n])) acJ));have de:=da.bR (i:=H1.n) (by omega) (.row (bY 0 s.bp (.aq (.own d.n) (s.first.length+1) (s.first.map (D)++[D F.1])) (.aq (.own w.n) (s.bits.length+1) (s.bits.map (D)++[D n])) acJ));have df:=db.bR (i:=H1.n) (by omega) (.row (bY 0 s.bp (.aq (.own d.n) (s.first.length+1) (s.first.map (D)++[D F.1])) (.aq (.own w.n) (s.bits.length+1) (s.bits.map (D)++[D n])) acJ));have dg:=dc.ox aZ (.row (bY 0 s.bp (.aq (.own d.n) (s.first.length+1) (s.first.map (D)++[D F.1])) (.aq (.own w.n) (s.bits.length+1) (s.bits.map (D)++[D n])) acJ));have dh:=c9.ox aZ (.row (bY 0 s.bp (.aq (.own d.n) (s.first.length+1) (s.first.map (D)++[D F.1])) (.aq (.own w.n) (s.bits.length+1) (s.bits.map (D)++[D n])) acJ));have bM:=dd.set (i:=H1.n) (by omega) (.row (bY 0 s.bp (.aq (.own d.n) (s.first.length+1) (s.first.map (D)++[D F.1])) (.aq (.own w.n) (s.bits.length+1) (s.bits.map (D)++[D n])) acJ));generalize c6.set H1.n (.row (bY 0 s.bp (.aq (.own d.n) (s.first.length+1) (s.first.map (D)++[D F.1])) (.aq (.own w.n) (s.bits.length+1) (s.bits.map (D)++[D n])) acJ))=aF at *;have hO:∀i l c,(I.aq (.own d.n) (s.first.length+1) (s.first.map (D)++[D F.1])) = .aq (.own i) l c->∀l' c',(I.aq (.own w.n) (s.bits.length+1) (s.bits.map (D)++[D n])) ≠ .aq (.own i) l' c':=by intro i l c e l' c' bi;simp only[I.aq.injEq,Tok.own.injEq]at e bi;omega
    have bN:cc H1.n aF 1 (.aq (.own d.n) (s.first.length+1) (s.first.map (D)++[D F.1])) R.first.length (R.first.map (D)):=by rw[cL,adm,aed];exact dg
    have bO:cc H1.n aF 1 (.aq (.own w.n) (s.bits.length+1) (s.bits.map (D)++[D n])) R.bits.length (R.bits.map (D)):=by rw[cN,adm,aed,<-hn];exact dh
    generalize (I.aq (.own d.n) (s.first.length+1) (s.first.map (D)++[D F.1]))=bj at *;generalize (I.aq (.own w.n) (s.bits.length+1) (s.bits.map (D)++[D n]))=bk at *;have di:abu .i64 (F.1+n)=R.bit:=by rw[hn,bd];exact bo
    rw[di];have bT:∀aa,Z.Ext H aa->At aa H.n (.row (bY 0 0 A A acJ))->At aa H1.n (.row (bY 0 R.bp bj bk acJ))->cc H1.n aa 1 bj R.first.length (R.first.map (D))->cc H1.n aa 1 bk R.bits.length (R.bits.map (D))->S.vq (ai C) ([D s.bit,D s.end_,D k],a) (ar (S.jz (ai C) (.ae t.cells) (.ptr H.n 0) (.ptr H1.n 0) Q)) Q [D R.bit,D R.end_] aa:=by intro aa dj dk dl dm dn;unfold S.vq;simp only[ag];simp only[T,bE,bz,O,cz];exact a8 (k+1) _ R bj bk aa cx (by omega) dj dk dl dm dn hO st2 (by rw[cB];exact st1) he
    have bU:S.vr (ai C) (.ptr H1.n 0) (D R.bit) ([D s.bit,D s.end_,D k],a) (ar (S.jz (ai C) (.ae t.cells) (.ptr H.n 0) (.ptr H1.n 0) Q)) [D R.end_] Q [D F.2.2] aF:=by
     unfold S.vr;simp only[ag];simp only[T,aH,aa8,(iu aD).2.1,O,cV,au,aw];apply aG<;>intro q
     . have q:F.2.2>s.bp:=of_decide_eq_true q;rw[U1 aD];simp only[O];refine bT _ (bM.set (by omega) _) (bK.bR (by omega) _) ?_ (bN.ox aD _) (bO.ox aD _);rw[bD,aem (by omega)];exact aD.set _
     . have q:¬F.2.2>s.bp:=λz=>q (decide_eq_true z);refine bT aF bM bK ?_ bN bO;rw[bD,aen (by omega)];exact aD
    have a1:S.vt (ai C) (.ae t.cells) (.ptr H1.n 0) (.ptr a.n 0) (.ptr g.n 0) (D R.bit) ([D s.bit,D s.end_,D k],a) (ar (S.jz (ai C) (.ae t.cells) (.ptr H.n 0) (.ptr H1.n 0) Q)) [D step,D n] Q [D R.end_] aF:=by
     unfold S.vt;simp only[ag];have V:∀b:Bool,(if b=acI then(1:Int)else al)=F.2.2->S.rl (ai C) (.ptr H1.n 0) (D R.bit) (D al) ([D s.bit,D s.end_,D k],a) (ar (S.jz (ai C) (.ae t.cells) (.ptr H.n 0) (.ptr H1.n 0) Q)) [D R.end_] Q [.bool b] aF:=by
      intro b U;unfold S.rl;simp only[T,au,aw];cases b with
      |true=>rw[ab rfl];rw[ab rfl]at U;rw[U];exact bU
      |false=>rw[cw];rw[cw]at U;rw[U];exact bU
     simp only[aH,aa8,(iu df).2.1,O,ca,lS,bF,aw,T,bE];apply dC<;>intro aI
     . simp only[CE de,O,bP,bI];apply aG<;>intro j
       . refine V _ ?_;rw[x,ab j,aI];have dp:n=f.aQ:=by rw[hn,x,ab j]
         rw[dp];by_cases hz:f.aQ=0
         ·simp[hz]
         ·simp[hz]
       . refine V acJ ?_;rw[x,af j,aI]
     . refine V acI ?_;rw[x];cases j:f.bits<;>simp[aI]
    simp only[cV,O,au,aw,T,bE];apply aG<;>intro q
    . have q:R.bit>s.end_:=of_decide_eq_true q;have:R.end_=R.bit:=by rw[bB,<-bd];exact aem (by omega)
      rw[this]at a1;exact a1
    . have q:¬R.bit>s.end_:=λz=>q (decide_eq_true z);have:R.end_=s.end_:=by rw[bB,<-bd];exact aen (by omega)
      rw[this]at a1;exact a1
   have bl:∀step n:Int,0<step->step<=1000000->F.1=bq b0 step->n=F.2.1->S.rm (ai C) (.ae t.cells) (.ptr H1.n 0) (.ptr a.n 0) (.ptr g.n 0) ([D s.bit,D s.end_,D k],a) (ar (S.jz (ai C) (.ae t.cells) (.ptr H.n 0) (.ptr H1.n 0) Q)) [D b0] Q [D step,D n] d:=by
    intro step n s0 s1 aJ hn;unfold S.rm;simp only[T];have bV:=cO step n hn;rw[aJ]at bV;have hB:=eJ (n:=b0) s0;have loop:∀(m:Nat)(b:Int),0<=b->bq b step=bq b0 step->(bq b0 step-b).toNat=m->ar (S.vu (ai C) (.ae t.cells) (.ptr H1.n 0) (.ptr a.n 0) (.ptr g.n 0) ([D s.bit,D s.end_,D k],a) (ar (S.jz (ai C) (.ae t.cells) (.ptr H.n 0) (.ptr H1.n 0) Q)) [D step,D n] Q) ([D b],d):=by
     intro m;induction m with
     | zero=>
      intro b an W hm;have U:=eJ (n:=b) s0;have a7:=k0 (n:=b) s0;have aV:b=bq b0 step:=by omega
      refine ar.step ?_;simp only[ag,S.vu,T];rw[jV .i64 _ _ (by omega),ad1 an];have hz:b%step=0:=by
       have:b=bq b step:=by omega
       rw[this];exact a7
      simp only[O,cC,hz,au];rw[cw,aV];exact bV
     | succ m dq=>
      intro b an W hm;have U:=eJ (n:=b) s0;refine ar.step ?_;simp only[ag,S.vu,T];rw[jV .i64 _ _ (by omega),ad1 an];have hz:b%step≠0:=λq=>by have:=CA (b:=b) s0 q;omega
      simp only[O,cC,au];rw[ab (by simpa using hz)];simp only[bz,O];rw[bo];exact dq (b+1) (by omega) (by rw[CB s0 hz];exact W) (by omega)
    exact loop _ b0 bA rfl rfl
   have a2:S.vx (ai C) (.ae t.cells) (.ptr H1.n 0) (.ptr a.n 0) (.ptr g.n 0) ([D s.bit,D s.end_,D k],a) (ar (S.jz (ai C) (.ae t.cells) (.ptr H.n 0) (.ptr H1.n 0) Q)) Q [D b0] d:=by
    unfold S.vx;simp only[ag];have dr:abu .i64 (8*al)=8*al:=bo;have ds:abu .i64 (8*sz)=8*sz:=bo;have bW:∀st:Int,(f.bits=acJ->0<st/\st<=1000000/\F.1=bq b0 st/\8*sz=F.2.1)->S.vw (ai C) (.ae t.cells) (.ptr H1.n 0) (.ptr a.n 0) (.ptr g.n 0) (D (8*sz)) ([D s.bit,D s.end_,D k],a) (ar (S.jz (ai C) (.ae t.cells) (.ptr H.n 0) (.ptr H1.n 0) Q)) [D b0] Q [D st] d:=by
     intro st dt;unfold S.vw;simp only[ag];simp only[T,aH,aa8,CE aM,O,au];apply aG<;>intro j
     . obtain ⟨aP,z2,z3,z4,z5,bx⟩:=bt j;have du:abu .i64 (8*f.type.size)=8*f.type.size:=bo;have hn:f.aQ=F.2.1:=by rw[x,ab j]
       have aJ:F.1=bq b0 (if f.aQ=0\/b0%(8*f.type.size)+f.aQ>8*f.type.size then 8*f.type.size else 1):=by rw[x,ab j]
       simp only[U7 aM,O,aH];rw[show(1+1:Nat)=2 from rfl,U6 aM];simp only[O,gk,du,bI,bF,aw];have bX:∀c:Bool,(c=acI↔(f.aQ=0\/b0%(8*f.type.size)+f.aQ>8*f.type.size))->S.vv (ai C) (.ae t.cells) (.ptr H1.n 0) (.ptr a.n 0) (.ptr g.n 0) (D f.aQ) (D (8*f.type.size)) ([D s.bit,D s.end_,D k],a) (ar (S.jz (ai C) (.ae t.cells) (.ptr H.n 0) (.ptr H1.n 0) Q)) [D b0] Q [.bool c] d:=by
        intro c hc;unfold S.vv;simp only[T,au,aw];apply aG<;>intro q
        . rw[ab (hc.1 q)]at aJ;exact bl _ _ (by omega) (by omega) aJ hn
        . rw[af (λz=>q (hc.2 z))]at aJ;exact bl _ _ (by omega) (by omega) aJ hn
       apply dC<;>intro q
       . have q:¬f.aQ=0:=by simpa using q
         rw[jV .i64 _ _ (by omega),ad1 bA];have dO:=adU b0 (show(8*f.type.size)≠0 by omega);have dS:=adW b0 (show 0<8*f.type.size by omega);simp only[O,bz];rw[bo];simp only[O,cV];refine bX _ ⟨λz=> .inr (of_decide_eq_true z),λz=>?_⟩;rcases z with z|z
         ·exact absurd z q
         ·exact decide_eq_true z
       . have q:f.aQ=0:=by simpa using q
         exact bX acI ⟨λ_=> .inl q,λ_=>rfl⟩
     . obtain⟨dv,dw,y3,y4⟩:=dt (by simpa using j);simp only[aw];exact bl st _ dv dw y3 y4
    simp only[aH,aa8,(iu aO).1,(iu aO).2.1,O,gk,dr,ds,ca,lS,au,aw];apply aG<;>intro aI
    . refine bW 8 λj=>⟨by decide,by decide,?_,?_⟩
      ·rw[x,af (by rw[j];decide),aI];rfl
      ·rw[x,af (by rw[j];decide)]
    . refine bW (8*al) λj=>⟨by omega,by omega,?_,?_⟩
      . rw[x,af (by rw[j];decide)];show _=bq b0 _;rw[af aI]
      ·rw[x,af (by rw[j];decide)]
   simp only[ca,h3,O,bI,au,aw];apply aG<;>intro q
   . have q:t.kind=4:=by simpa using q
     rw[ab q]at aR;rw[<-aR]at a2;exact a2
   . have q:¬t.kind=4:=by simpa using q
     rw[af q]at aR;rw[<-aR]at a2;exact a2
 have aP:cc H1.n H2 1 A 0 []:=cc.nil _ _ _;exact main t.Y 0 ⟨0,1,[],0⟩ ⟨0,0,1,[],[]⟩ _ _ H2 rfl (aaU _) ci ch w2 aP aP (λi l c q=>by cases q) hI.zero mw.zero rfl
theorem yP:∀t:X,cW t=0->yO C t:=by refine X.ind λt a b hs=>?_;exact U8 ak hT hs a b
end
end Rb
namespace Rb
open Go
variable{t:X}{b:Bool}{A B:Prop}{i:Nat}{f:aE}
theorem gb(a:b=acI->A)(c:b=acJ->B):if b=acI then A else B:=aG a λh=>c (by simpa using h)
theorem jk(a:b=acJ->A)(c:b=acI->B):if b=acJ then A else B:=aG a λh=>c (by simpa using h)
def su:List UInt8->Bool
 |[]=>acI
 |c::r=>isLet c&&r.all ig
section
variable{Φ:ad}{H:Z}{Q:aa}
theorem CG{s:List UInt8}(hQ:Q (.bool (ek s)) H):S.f17 Φ (.str s) H Q:=by
 have fin:∀b:Bool,b=ek s->Q (.bool b) H:=λb h=>by rw[h];exact hQ
 clear hQ;unfold S.f17;simp only[ag];simp only[pT,O,bI,bF];have p : s ≠ []->s.length<=16->G (S.A1 Φ (.str s) Q) [] H:=by
  intro j hl;simp only[aw,S.A1];have q:su s=ek s:=by
   clear fin;cases s with
   |nil=>exact absurd rfl j
   | cons c r=>
    simp only[adN]at hl;have:r.length<16:=by omega
    simp[ek,su,this]
  have main : ∀(d:List UInt8)(i:Nat),s.drop i=d->(if i=0 then su d else d.all ig)=ek s ->
    ar (S.ps Φ (.str s) Q) ([D i],H):=by
   intro d;induction d with
   | nil=>intro i hi f;have hle:=c7 hi;refine ar.step ?_;simp only[ag,S.ps,T,pT,aY,O,au];rw[cQ];exact fin _ (by rw[<-f];split<;>rfl)
   | cons y d t=>
    intro i hi f;obtain⟨z,u,v⟩:=c4 hi;refine ar.step ?_;simp only[ag,S.ps,T,pT,aY,O,au];rw[cM];have w:ju (.str s) (D i)=acK (.int .u8 y.toNat):=by simp only[ju];rw[dN];simp[u]
    rw[w];have k2:∀b:Bool,b=!(if i=0 then isLet y else ig y)->G (S.nS Φ ([D i],H) (ar (S.ps Φ (.str s) Q)) Q) [.bool b] H:=by
     intro b U;simp only[aw,S.nS,T,au];apply gb<;>intro h
     . refine fin _ ?_;rw[<-f];rw[h]at U;by_cases a:i=0
       . rw[ab a]at U ⊢;simp at U;simp[U,su]
       . rw[af a]at U ⊢;simp at U;simp[U]
     . simp only[ag,S.F5,T,bz,O];rw[bo,fj i];refine t (i+1) v ?_;rw[<-f];rw[h]at U;by_cases a:i=0
       . rw[ab a]at U ⊢;simp at U;simp[U,su]
       . rw[af a]at U ⊢;simp at U;simp[U]
    have l : ∀b:Bool,b=isLet y->G (S.u1 Φ (.int .u8 y.toNat) ([D i],H) (ar (S.ps Φ (.str s) Q)) Q) [.bool b] H:=by
     intro b U;simp only[ag,aw,S.u1,T,dg,O,bP];apply gb<;>intro h
     . have hl:isLet y=acJ:=by rw[<-U];simpa using h
       simp only[bI,O,bF];apply jk<;>intro h1
       . have a:i≠0:=by simp only[beq_eq_false_iff_ne,ne_eq]at h1;omega
         simp only[cC,O,bP];apply gb<;>intro m
         . have g:y.toNat≠95:=by simp only[bne_iff_ne,ne_eq]at m;omega
           simp only[aY,O,bF];apply jk<;>intro n
           . have x:¬y.toNat<48:=by simp only[decide_eq_false_iff_not]at n;omega
             simp only[cV,O];refine k2 _ ?_;rw[af a];unfold ig;rw[hl,acm];simp[rW,g];omega
           . have x:y.toNat<48:=by simp only[dJ]at n;omega
             refine k2 _ ?_;rw[af a];unfold ig;rw[hl,acm];simp[rW,g];omega
         . have g:y.toNat=95:=by simp only[bne_eq_false_iff_eq]at m;omega
           refine k2 _ ?_;rw[af a];simp[ig,g]
       . have a:i=0:=by simp only[bZ]at h1;omega
         refine k2 _ ?_;rw[ab a,hl];rfl
     . have hl:isLet y=acI:=by rw[<-U];simpa using h
       refine k2 _ ?_;have:ig y=acI:=by simp[ig,hl]
       rw[hl,this];simp
    simp only[O,eD,gl,bP];refine gb (λh=>l _ ?_) (λh=>l _ ?_)
    . have k:97<=y.toNat:=by simp only[ge_iff_le,dJ]at h;omega
      rw[acm];simp[isLet,k];omega
    . have k:¬97<=y.toNat:=by simp only[ge_iff_le,decide_eq_false_iff_not]at h;omega
      simp[isLet,k]
  exact main s 0 rfl q
 have o:∀b:Bool,(b=acI↔(s=[]\/16<s.length))->G (S.u2 Φ (.str s) Q) [.bool b] H:=by
  intro b U;simp only[aw,S.u2,T,au];apply aG<;>intro h
  . refine fin _ ?_;rcases U.1 h with rfl|h
    ·rfl
    . cases s with
      |nil=>rfl
      | cons c r=>
       simp at h;have:¬r.length<16:=by omega
       simp[ek,this]
  . have hn:¬(s=[]\/16<s.length):=λy=>h (U.2 y);exact p (λe=>hn (.inl e)) (by omega)
 apply jk<;>intro h
 . simp only[cV,O];refine o _ ?_;have j:s≠[]:=by rintro rfl;simp at h
   simp only[dJ,gt_iff_lt,j,false_or];omega
 . refine o _ ?_;have he:s=[]:=by simpa using h
   simp[he]
theorem K0{n a:Int}(d:a=8\/a=16)(hQ:Q (.bool (el n a)) H):S.f114 Φ (D n) (D a) H Q:=by
 have e:∀b:Bool,b=el n a->Q (.bool b) H:=λb h=>by rw[h];exact hQ
 clear hQ;unfold S.f114;have step:∀k:Int,1<=k->k<=a->(n=k->el n a=acI)->(n≠k->ar (S.pK Φ (D n) (D a) Q) ([D (2*k)],H))->ar (S.pK Φ (D n) (D a) Q) ([D k],H):=by
  intro k h1 c f g;refine ar.step ?_;simp only[ag,S.pK,T,gl,bI,gk,O,au];rw[ab (by simpa using c)];apply gb<;>intro h
  ·exact e _ (f (by simpa using h)).symm
  . rw[bo];exact g (by simpa using h)
 have stop:∀k:Int,a<k->el n a=acJ->ar (S.pK Φ (D n) (D a) Q) ([D k],H):=by intro k h1 c;refine ar.step ?_;simp only[ag,S.pK,T,gl,bI,gk,O,au];rw[cQ];exact e _ c.symm
 refine step 1 (by omega) (by omega) (λh=>by subst h;simp[el];omega) λn1=>?_;refine step (2*1) (by omega) (by omega) (λh=>by subst h;simp[el];omega) λn2=>?_;refine step (2*(2*1)) (by omega) (by omega) (λh=>by subst h;simp[el];omega) λn4=>?_;refine step (2*(2*(2*1))) (by omega) (by omega) (λh=>by subst h;simp[el];omega) λn8=>?_;rcases d with rfl|rfl
 . refine stop _ (by omega) ?_;by_cases h:n<=8
   . have:n≠1/\n≠2/\n≠4/\n≠8/\n≠16:=by omega
     simp[el,this]
   ·simp[el,h]
 . refine step (2*(2*(2*(2*1)))) (by omega) (by omega) (λh=>by subst h;simp[el]) λn16=>?_;refine stop _ (by omega) ?_;have:n≠1/\n≠2/\n≠4/\n≠8/\n≠16:=by omega
   simp[el,this]
theorem K1(H:Z)(hi:t.Y[i]?=acK f):aj H 6 acI (.ae (((t.Y.flatMap aE.cells).drop (i*9)).drop 1))=acK (.agg f.type.cells):=by
 have a:=(aal.1 hi).1;show bO _ 0 6 acI=_;rw[mm aE.len];have b:t.Y.drop i=f::t.Y.drop (i+1):=by rw[adn a];rw[abb a]at hi;simp at hi;rw[hi]
 rw[b,ac0,aE.aX,abZ,adj,adf,aeo];exact mo f.type.len
theorem K2(H:Z)(hi:t.Y[i]?=acK f):aj H 1 acJ (.ae (((t.Y.flatMap aE.cells).drop (i*9)).drop 0))=acK (.str f.V):=by
 have a:=(aal.1 hi).1;show bO _ 0 1 acJ=_;rw[adf,mm aE.len];have b:t.Y.drop i=f::t.Y.drop (i+1):=by rw[adn a];rw[abb a]at hi;simp at hi;rw[hi]
 rw[b,ac0,aE.aX];rfl
theorem U9{m:Nat}(r:1<=m)(s:m<=65)(u:t.Y.length<=9223372036854775807)(w:t.aK.length<=9223372036854775807)
  (hf:1<m->∀f∈t.Y,bD Φ 70 [.agg f.type.cells,D ((m-1:Nat):Int)] (D (dz (m-1) f.type)))
  (he:1<m->∀x∈t.aK,bD Φ 70 [.agg x.cells,D ((m-1:Nat):Int)] (D (dz (m-1) x)))
  (hQ:Q (D (dz m t)) H):S.f70 Φ (.agg t.cells) (D m) H Q:=by
 have k:1<m->abu .i64 ((m:Int)-1)=((m-1:Nat):Int):=λh=>by rw[bo];omega
 have d:∀v:Int,0<=v->v<=64->v+1=dz m t->G (S.Bb Φ Q) [D v] H:=by intro v y z hv;simp only[ag,aw,S.Bb,T,bz,O];rw[bo,hv];exact hQ
 have n:dz m t=(if 1<m then max (eS (m-1) t.Y) (eF (m-1) t.aK)else 0)+1:=by rw[od];split<;>rfl
 rw[n]at d;have o:∀(xs:List X)(i:Nat)(acc:Int),t.aK.drop i=xs->0<=acc->acc<=64->max acc (if 1<m then eF (m-1) xs else 0)=(if 1<m then max (eS (m-1) t.Y) (eF (m-1) t.aK)else 0) ->
   ar (S.rB Φ (D m) (.ae t.cells) Q) ([D acc,D i],H):=by
  intro xs;induction xs with
  | nil=>
   intro i acc b a0 M ha;have p:=c7 b;refine ar.step ?_;simp only[ag,S.rB,T,bE,ca,gK,bC,O,aY,bP];rw[cQ];simp only[aw,S.wC,T,au,abW,b4];refine d acc a0 M ?_;have:(if 1<m then eF (m-1) ([]:List X)else 0)=0:=by split<;>rfl
   rw[this]at ha;omega
  | cons x xs e=>
   intro i acc b a0 M ha;obtain⟨g,c,j⟩:=c4 b;refine ar.step ?_;simp only[ag,S.rB,T,bE,ca,gK,bC,O,aY,bP];rw[cM];simp only[cV,O,aw,S.wC,T,au];apply gb<;>intro h
   . have a:1<m:=by simp only[dJ,gt_iff_lt]at h;omega
     rw[ab a]at ha;simp only[eF]at ha;have U:=pU x (m-1) (by omega);simp only[ag,S.Hn,T,bE,ca,gK,O];rw[b6 g];simp only[O];rw[c8 X.len (by decide) _ c];simp only[O,eH];rw[k a];refine he a x (adq c) _ _ ?_;simp only[cV,O,au];have next:∀v:Int,v=max acc (dz (m-1) x)->G (S.wB Φ ([D acc,D i],H) (ar (S.rB Φ (D m) (.ae t.cells) Q)) Q) [D v] H:=by intro v hv;simp only[ag,aw,S.wB,T,bE,bz,O];rw[bo,fj i];exact e (i+1) v j (by omega) (by omega) (by rw[ab a,hv];omega)
     refine gb (λh=>next _ ?_) (λh=>next _ ?_)
     ·simp only[dJ,gt_iff_lt]at h;omega
     ·simp only[decide_eq_false_iff_not,gt_iff_lt]at h;omega
   . have a:¬1<m:=by simp only[decide_eq_false_iff_not,gt_iff_lt]at h;omega
     refine d acc a0 M ?_;rw[af a]at ha ⊢;omega
 have l:∀acc:Int,0<=acc->acc<=64->max acc (if 1<m then eF (m-1) t.aK else 0)=(if 1<m then max (eS (m-1) t.Y) (eF (m-1) t.aK)else 0)->G (S.Bc Φ (D m) (.ae t.cells) Q) [D acc] H:=by intro acc a0 M ha;simp only[aw,S.Bc,T];exact o t.aK 0 acc rfl a0 M ha
 have q:∀(xs:List aE)(i:Nat)(acc:Int),t.Y.drop i=xs->0<=acc->acc<=64->max (max acc (if 1<m then eS (m-1) xs else 0)) (if 1<m then eF (m-1) t.aK else 0)=(if 1<m then max (eS (m-1) t.Y) (eF (m-1) t.aK)else 0) ->
   ar (S.rC Φ (D m) (.ae t.cells) Q) ([D acc,D i],H):=by
  intro xs;induction xs with
  | nil=>
   intro i acc b a0 M ha;have p:=c7 b;refine ar.step ?_;simp only[ag,S.rC,T,bE,ca,fN,bC,O,aY,bP];rw[cQ];simp only[aw,S.wD,T,au,abW,b4];refine l acc a0 M ?_;have:(if 1<m then eS (m-1) ([]:List aE)else 0)=0:=by split<;>rfl
   rw[this]at ha;omega
  | cons x xs e=>
   intro i acc b a0 M ha;obtain⟨g,c,j⟩:=c4 b;refine ar.step ?_;simp only[ag,S.rC,T,bE,ca,fN,bC,O,aY,bP];rw[cM];simp only[cV,O,aw,S.wD,T,au];apply gb<;>intro h
   . have a:1<m:=by simp only[dJ,gt_iff_lt]at h;omega
     rw[ab a]at ha;simp only[eS,rY]at ha;have U:=pU x.type (m-1) (by omega);simp only[ag,S.Hm,T,bE,ca,fN,O];rw[b6 g];simp only[O,di,aH,K1 H c,eH];rw[k a];refine hf a x (adq c) _ _ ?_;simp only[cV,O,au];have next:∀v:Int,v=max acc (dz (m-1) x.type)->G (S.wA Φ ([D acc,D i],H) (ar (S.rC Φ (D m) (.ae t.cells) Q)) Q) [D v] H:=by intro v hv;simp only[ag,aw,S.wA,T,bE,bz,O];rw[bo,fj i];refine e (i+1) v j (by omega) (by omega) ?_;rw[ab a]at ha ⊢;rw[hv,<-ha];omega
     refine gb (λh=>next _ ?_) (λh=>next _ ?_)
     ·simp only[dJ,gt_iff_lt]at h;omega
     ·simp only[decide_eq_false_iff_not,gt_iff_lt]at h;omega
   . have a:¬1<m:=by simp only[decide_eq_false_iff_not,gt_iff_lt]at h;omega
     refine l acc a0 M ?_;simp only[af a]at ha ⊢;omega
 unfold S.f70;simp only[ag];simp only[fC,aN];refine q t.Y 0 0 rfl (by omega) (by omega) ?_;split
 . have:=yb t.Y (m-1) (by omega);omega
 ·omega
end
end Rb
namespace Rb
open Go
theorem iQ{x:Bool}(h:acI=!x):x=acJ:=by cases x;rfl;cases h
theorem iR{x:Bool}(h:acJ=!x):x=acI:=by cases x;cases h;rfl
section
variable{Φ:ad}{H:Z}{Q:aa}
theorem U_(hT:Cl Φ S.b7){t:X}(a2:t.Y.length<=9223372036854775807)(hf:∀f∈t.Y,bD Φ 71 [.agg f.type.cells] (D (cW f.type)))
  (he:∀e∈t.aK,bD Φ 71 [.agg e.cells] (D (cW e))) (hQ:∀H',Q (D (cW t)) H'):S.f71 Φ (.agg t.cells) H Q:=by
 have fin:∀v H',v=cW t->Q (D v) H':=λv H' h=>by rw[h];exact hQ H'
 clear hQ;rw[gB]at fin;unfold S.f71;simp only[ag];simp only[fC,aN,ca,h3,O,bI,au];have s:∀n:Nat,decide ((n:Int)>0)=!(n==0):=λn=>by rw[acm];simp;omega
 have num:(t.kind=1\/t.kind=2)->G (S.pF Φ (.ae t.cells) (D t.kind) Q) [aT] H:=by
  intro hk;have j:gm t.kind t.size t.packed t.Y.length t.bg t.aK.length=(!t.packed&&t.Y.length==0&&t.bg==0&&t.aK.length==0):=by unfold gm;rw[ab hk]
  rw[j]at fin;clear j;have k1:∀b:Bool,(∀H',Q (D (if b=acI then 9 else 0)) H')->G (S.rD Φ Q) [.bool b] H:=by
   intro b U;simp only[aw,S.rD,T,au];cases b
   ·exact U H
   ·exact U H
  have aC:(!t.packed&&t.Y.length==0&&t.bg==0&&t.aK.length==0)=acI->G (S.Bd Φ (.ae t.cells) Q) [] H:=by
   intro hc;rw[hc]at fin;simp only[adF,b4]at fin;simp only[ag,aw,S.Bd,ca,h3,kp,O,bI,bP];apply gb<;>intro h
   . have c:t.kind=1:=by simpa using h
     rw[ab c]at fin;refine S.Jl hT (K0 (.inl rfl) ?_);simp only[ag,dg,O,S.wE,T,bF,ca,h3,bI,bP,c];apply jk<;>intro h
     . rw[cw];refine k1 _ λH'=>fin _ _ ?_;have:el t.size 8=acI:=by simpa using h
       rw[ab this];rfl
     . refine k1 _ λH'=>fin _ _ ?_;have:el t.size 8=acJ:=by simpa using h
       rw[this];rfl
   . have c:t.kind≠1:=by simpa using h
     have l:t.kind=2:=by omega
     rw[af c,ab l]at fin;simp only[ag,S.wE,T,bF,ca,h3,kp,bI,bP,l,O,bc,BEq.rfl];refine S.Jl hT (K0 (.inr rfl) ?_);simp only[dg,O];refine k1 _ λH'=>fin _ _ ?_;cases el t.size 16<;>rfl
  have R:∀b:Bool,b=!(!t.packed&&t.Y.length==0&&t.bg==0&&t.aK.length==0)->G (S.wF Φ (.ae t.cells) Q) [.bool b] H:=by
   intro b U;simp only[aw,S.wF,T,au];apply gb<;>intro h
   . refine fin _ _ ?_;rw[h]at U;rw[ab (by first|exact iQ U|exact iR U)]
   . rw[h]at U;exact aC (by first|exact iQ U|exact iR U)
  have W:∀b:Bool,b=!(!t.packed&&t.Y.length==0&&t.bg==0)->G (S.wG Φ (.ae t.cells) Q) [.bool b] H:=by
   intro b U;simp only[ag,aw,S.wG,T,bF,ca,gK,bC,cV,O,s];apply jk<;>intro h
   . refine R _ ?_;rw[h]at U;have:(!t.packed&&t.Y.length==0&&t.bg==0)=acI:=by first|exact iQ U|exact iR U
     rw[this];rfl
   . refine R _ ?_;rw[h]at U;have:(!t.packed&&t.Y.length==0&&t.bg==0)=acJ:=by first|exact iQ U|exact iR U
     rw[this];rfl
  have aa:∀b:Bool,b=!(!t.packed&&t.Y.length==0)->G (S.wH Φ (.ae t.cells) Q) [.bool b] H:=by
   intro b U;simp only[ag,aw,S.wH,T,bF,ca,lU,cC,O];apply jk<;>intro h
   . refine W _ ?_;rw[h]at U;have:(!t.packed&&t.Y.length==0)=acI:=by first|exact iQ U|exact iR U
     rw[this];rfl
   . refine W _ ?_;rw[h]at U;have:(!t.packed&&t.Y.length==0)=acJ:=by first|exact iQ U|exact iR U
     rw[this];rfl
  simp only[ag,aw,S.pF,T,au,bc,ca,lS,fN,O,bF,bC,cV,s];apply jk<;>intro h
  ·exact aa _ (by rw[h];rfl)
  ·exact aa _ (by rw[h];rfl)
 apply gb<;>intro h1
 ·rw[h1];exact num (.inl (by simpa using h1))
 have c:t.kind≠1:=by simpa using h1
 refine(λ(x:∀b:Bool,b=(t.kind==2)->G (S.pF Φ (.ae t.cells) (D t.kind) Q) [.bool b] H)=>x _ rfl) λb U=>?_;by_cases l:t.kind=2
 ·rw[U,show(t.kind==2)=acI by simpa using l];exact num (.inr l)
 have aD:b=acJ:=by rw[U];simpa using l
 subst aD;simp only[ag,aw,S.pF,T,au,abW,b4,bI,O];apply gb<;>intro ac
 ·
   have o:t.kind=5:=by simpa using ac
   have j:gm t.kind t.size t.packed t.Y.length t.bg t.aK.length=(t.size==0&&!t.packed&&t.Y.length==0&&t.aK.length==1):=by unfold gm;rw[bL,bL,ab o]
   rw[j,af c,af l,ab o]at fin;clear j;have aF:(t.size==0&&!t.packed&&t.Y.length==0&&t.aK.length==1)=acI->G (S.Be Φ (.ae t.cells) Q) [] H:=by
    intro hc;rw[hc]at fin;simp only[adF,b4]at fin;obtain ⟨e,u⟩:∃e,t.aK=[e]:=by simp only[aar,bZ]at hc;exact List.length_eq_one_iff.1 hc.2
    have ad:∀b:Bool,(b=acI↔(t.bg<1\/65536<t.bg))->G (S.wI Φ (.ae t.cells) Q) [.bool b] H:=by
     intro b U;simp only[aw,S.wI,T,au];apply aG<;>intro h
     ·exact fin _ _ (by rw[ab (U.1 h)])
     . rw[af λx=>h (U.2 x)]at fin;simp only[ag,S.Hp,ca,gK,O];have ha:aL acL 6 (av X.cells t.aK) (J)=acK (di X.cells 6 t.aK 0):=b6 (by rw[u];simp);rw[ha];simp only[O];rw[c8 X.len (by decide) _ (show t.aK[0]?=acK e by rw[u];rfl)];simp only[O];refine he e (by rw[u];simp) _ _ ?_;exact fin _ _ (by rw[u];rfl)
    simp only[ag,aw,S.Be,ca,lU,O,aY,bF,cV];apply jk<;>intro h
    . refine ad _ ?_;have y:¬t.bg<1:=by simpa using h
      simp only[dJ,gt_iff_lt];omega
    . refine ad _ ?_;have y:t.bg<1:=by simpa using h
      simp only[true_iff];omega
   have ah:∀b:Bool,b=!(t.size==0&&!t.packed&&t.Y.length==0&&t.aK.length==1)->G (S.wJ Φ (.ae t.cells) Q) [.bool b] H:=by
    intro b U;simp only[aw,S.wJ,T,au];apply gb<;>intro h
    . refine fin _ _ ?_;rw[h]at U;rw[ab (by first|exact iQ U|exact iR U)]
    . rw[h]at U;exact aF (by first|exact iQ U|exact iR U)
   have aI:((t.aK.length:Int) != 1)=!(t.aK.length==1):=by rw[acm];simp;omega
   have ai:∀b:Bool,b=!(t.size==0&&!t.packed&&t.Y.length==0)->G (S.wK Φ (.ae t.cells) Q) [.bool b] H:=by
    intro b U;simp only[ag,aw,S.wK,T,bF,ca,gK,bC,cC,O,aI];apply jk<;>intro h
    . refine ah _ ?_;rw[h]at U;have:(t.size==0&&!t.packed&&t.Y.length==0)=acI:=by first|exact iQ U|exact iR U
      rw[this];rfl
    . refine ah _ ?_;rw[h]at U;have:(t.size==0&&!t.packed&&t.Y.length==0)=acJ:=by first|exact iQ U|exact iR U
      rw[this];rfl
   have ak:∀b:Bool,b=!(!t.packed&&t.Y.length==0)->G (S.wL Φ (.ae t.cells) Q) [.bool b] H:=by
    intro b U;simp only[ag,aw,S.wL,T,bF,ca,kp,cC,O];apply jk<;>intro h
    . refine ai _ ?_;rw[h]at U;have:(!t.packed&&t.Y.length==0)=acI:=by first|exact iQ U|exact iR U
      rw[aep,this,aea];rfl
    . refine ai _ ?_;rw[h]at U;have:(!t.packed&&t.Y.length==0)=acJ:=by first|exact iQ U|exact iR U
      rw[aep,this,Bool.and_false];rfl
   simp only[ca,lS,fN,O,bF,bC,cV,s];apply jk<;>intro h
   ·exact ak _ (by rw[h];rfl)
   ·exact ak _ (by rw[h];rfl)
 have o:t.kind≠5:=by simpa using ac
 rw[af c,af l,af o]at fin;have al : ∀ b : Bool, (b=acI↔(t.kind=3\/t.kind=4))->G (S.wR Φ (.ae t.cells) Q) [.bool b] H:=by
  intro b U;simp only[ag,aw,S.wR,T,au];apply aG<;>intro am
  . have hk := U.1 am;have j:gm t.kind t.size t.packed t.Y.length t.bg t.aK.length=(t.size==0&&t.bg==0&&t.aK.length==0):=by
     unfold gm;rw[bL,ab hk]
    rw[j]at fin;clear j;have aJ : (t.size == 0&&t.bg==0&&t.aK.length==0)=acI->G (S.Bh Φ (.ae t.cells) Q) [] H:=by
     intro hc;rw[hc]at fin;simp only[adF,b4]at fin;have an : ∀ b : Bool,(b=acI↔(t.Y.length<1\/32<t.Y.length))->G (S.wO Φ (.ae t.cells) Q) [.bool b] H:=by
      intro b U;simp only[aw,S.wO,T,au];apply aG<;>intro h
      ·exact fin _ _ (by rw[ab (U.1 h)])
      . have hn : ¬ (t.Y.length<1\/32<t.Y.length):=λx=>h (U.2 x);rw[af hn]at fin;simp only[S.Ht];have main : ∀ (r : List aE) (i:Nat) (H1:Z),t.Y.drop i=r->fB t.packed ((t.Y.take i).map aE.V) r=fB t.packed [] t.Y->ar (S.pE Φ (.ae t.cells) Q) ([D i],H1):=by
         intro r;induction r with
         | nil=>intro i H1 I hs;have hle:=c7 I;refine ar.step ?_;simp only[ag,S.pE,T,ca,fN,bC,O,aY,au];rw[cQ];exact fin _ _ (by rw[<-hs];rfl)
         | cons f r aM =>
          intro i H1 I hs;obtain⟨aO,hi,aP⟩:=c4 I;refine ar.step ?_;simp only[ag,S.pE,T,ca,fN,bC,O,aY,au];rw[cM,b6 aO];simp only[O];rw[c8 aE.len (by decide) _ hi];simp only[O,aN,bQ,bc];rw[cn _ _ _ 9 f.len f.scalar rfl];simp only[O,aH,aaY,aa8];have r0:aj (H1.push (.row f.cells)) 1 acJ (.ptr H1.n 0)=acK (.str f.V):=by rw[eE,oc]
          have z:aj (H1.push (.row f.cells)) 1 acJ (.ptr H1.n 7)=acK (.bool f.bits):=by rw[eE,ya]
          have ao:aj (H1.push (.row f.cells)) 1 acJ (.ptr H1.n 8)=acK (D f.aQ):=by rw[eE,BS]
          have r1:aj (H1.push (.row f.cells)) 6 acI (.ptr H1.n 1)=acK (.agg f.type.cells):=by rw[eE,rX]
          have aR:aj (H1.push (.row f.cells)) 1 acJ (.ptr H1.n 1)=acK (D f.type.kind):=by rw[eE,BU]
          have rs:aj (H1.push (.row f.cells)) 1 acJ (.ptr H1.n 2)=acK (D f.type.size):=by rw[eE,JE]
          generalize H1.push _=H2 at *;generalize H1.n=id at *;simp only[fB]at hs;have bad:∀v H',v=gA t.packed ((t.Y.take i).map aE.V) f->v≠0->Q (D v) H':=λv H' hv aS=>by refine fin _ _ ?_;rw[<-hs,ab (by rw[<-hv];exact aS),hv]
          have A:gA t.packed ((t.Y.take i).map aE.V) f=0->G (S.Bf Φ ([D i],H1) (ar (S.pE Φ (.ae t.cells) Q)) Q) [] H2:=by intro hz;rw[af (by simpa using hz)]at hs;simp only[ag,aw,S.Bf,T,bz,O];rw[bo,fj i];refine aM (i+1) H2 aP ?_;rw[adw,hi];simpa using hs
          generalize a3:(ar (S.pE Φ (.ae t.cells) Q))=L at *;have aU : ¬ (ek f.V=acJ/\(f.V≠[]\/f.bits=acJ))->¬(f.V≠[]/\((t.Y.take i).map aE.V).contains f.V=acI)->G (S.Bg Φ (.ae t.cells) (.ptr id 0) ([D i],H1) L Q) [] H2:=by
           intro n1 n2;rw[kV,af n1,af n2]at bad A;simp only[ag,aw,S.Bg,aH,aa8,O,r1];refine hf f (adq hi) _ _ ?_;simp only[cC,O,au];apply aG<;>intro h
           . have y:cW f.type≠0:=by simpa using h
             exact bad _ _ (by rw[ab y]) y
           . have g : cW f.type=0:=by simpa using h
             rw[af (by simpa using g)]at bad A;have B : ∀b:Bool,(b=acI↔((f.bits=acJ/\f.aQ≠0)\/(f.bits=acI/\(f.type.kind≠1\/t.packed=acI))))->G (S.pD Φ (.ptr id 0) ([D i],H1) L Q) [.bool b] H2:=by
              intro b U;simp only[aw,S.pD,T,au];apply aG<;>intro h
              ·exact bad _ _ (by rw[ab (U.1 h)]) (by decide)
              . have ap : ¬((f.bits=acJ/\f.aQ≠0)\/(f.bits=acI/\(f.type.kind≠1\/t.packed=acI))):=λx=>h (U.2 x);rw[af ap]at bad A;have p:∀b:Bool,(b=acI↔(f.bits=acI/\(f.aQ<0\/8*f.type.size<f.aQ\/(f.aQ=0/\f.V≠[]))))->G (S.nV Φ ([D i],H1) L Q) [.bool b] H2:=by
                 intro b U;simp only[aw,S.nV,T,au];apply aG<;>intro h
                 ·exact bad _ _ (by rw[ab (U.1 h)]) (by decide)
                 ·exact A (by rw[af λx=>h (U.2 x)])
                simp only[ag,S.Hr,aH,aa8,O,z,bP];apply aG<;>intro a
                . have c:f.type.kind=1:=by
                    by_cases hk:f.type.kind=1
                    ·exact hk
                    ·exact absurd (.inr ⟨a,.inl hk⟩) ap
                  have a4:1<=f.type.size/\f.type.size<=8:=by
                   rw[gB,c]at g;split at g
                   ·cases g
                   . simp only[bc]at g;split at g
                     . rename_i hp;simp[el]at hp;omega
                     ·cases g
                  simp only[ao,aY,O,bF];apply aG<;>intro hw
                  . simp only[rs,O,gk];rw[bo];simp only[cV,O,bF];apply aG<;>intro C
                    . simp only[bI,O,bP];apply aG<;>intro E
                      . simp only[aaY,r0,O,kU];refine p _ ?_;simp only[decide_eq_false_iff_not,gt_iff_lt,bZ]at hw C E;simp[a,E];omega
                      . refine p _ ?_;simp only[decide_eq_false_iff_not,gt_iff_lt,bZ]at hw C E;simp[a,E];omega
                    . refine p _ ?_;simp only[decide_eq_false_iff_not,adJ,gt_iff_lt]at C;simp[a,C]
                  . refine p _ ?_;simp only[decide_eq_false_iff_not,adJ]at hw;simp[a,hw]
                . refine p _ ?_;simp[a]
             have aq:∀b:Bool,(b=acI↔(f.bits=acJ/\f.aQ≠0))->G (S.wN Φ (.ae t.cells) (.ptr id 0) ([D i],H1) L Q) [.bool b] H2:=by
              intro b U;simp only[ag,aw,S.wN,T,bF,aH,aa8,O,z];apply aG<;>intro h
              . have hn:¬(f.bits=acJ/\f.aQ≠0):=λx=>by rw[U.2 x]at h;cases h
                simp only[bP];apply aG<;>intro a
                . have aV:aj H2 1 acJ (.ae (t.cells.drop 2))=acK (.bool t.packed):=lS t H2;simp only[aV,O];apply aG<;>intro hp
                  . simp only[aaY,aR,O,cC];refine B _ ?_;simp[a,hp]
                  . refine B _ ?_;simp only[adC]at hp;simp[a,hp]
                . refine B _ ?_;simp only[adB]at a;simp only[a]at hn ⊢;simp at hn;simp[hn]
              . refine B _ ?_;have:=U.1 (by simpa using h);simp[this]
             simp only[z,dg,O,bP,ao,cC];apply aG<;>intro a
             . refine aq _ ?_;simp only[ab_]at a;simp[a]
             . refine aq _ ?_;simp only[ab_,adC]at a;simp[a]
          have K : ∀b:Bool,(b=acI↔(ek f.V=acJ/\(f.V≠[]\/f.bits=acJ)))->G (S.rF Φ (.ae t.cells) (.ptr id 0) ([D i],H1) L Q) [.bool b] H2:=by
           intro b U;simp only[aw,S.rF,T,au];apply aG<;>intro h
           ·exact bad _ _ (by rw[kV,ab (U.1 h)]) (by decide)
           . have n1 : ¬(ek f.V=acJ/\(f.V≠[]\/f.bits=acJ)):=λx=>h (U.2 x);simp only[S.Hs];have inner:∀(d k:Nat),k+d=i->(∀w∈t.Y.take k,¬(f.V≠[]/\w.V=f.V))->ar (S.rE Φ (.ae t.cells) (.ptr id 0) ([D i],H1) L Q) ([D k],H2):=by
              intro d;induction d with
              | zero=>
               intro k hk hw;refine ar.step ?_;simp only[ag,S.rE,T,aY,O,au];rw[cQ];refine aU n1 λx=>?_;obtain⟨M,F⟩:=x;rw[aef,acF]at F;obtain⟨w,aW,aX⟩:=F;have aZ:k=i:=by omega
               rw[aZ]at hw;exact hw w aW ⟨M,aX⟩
              | succ d a0=>
               intro k hk hw;have ax:k<t.Y.length:=by omega
               obtain⟨w,N⟩:∃w,t.Y[k]?=acK w:=⟨_,abb ax⟩
               refine ar.step ?_;simp only[ag,S.rE,T,aY,O,au];rw[cM];simp only[aH,aaY,r0,O,kU,bP];have ay:∀b:Bool,(b=acI↔(f.V≠[]/\w.V=f.V))->G (S.wM Φ ([D k],H2) (ar (S.rE Φ (.ae t.cells) (.ptr id 0) ([D i],H1) L Q)) Q) [.bool b] H2:=by
                intro b U;simp only[aw,S.wM,T,au];apply aG<;>intro h
                . obtain ⟨M,F⟩:=U.1 h;refine bad _ _ ?_ (by decide);have hc:((t.Y.take i).map aE.V).contains f.V=acI:=by
                   rw[aef,acF];refine⟨w,?_,F⟩;have:(t.Y.take i)[k]?=acK w:=by rw[aan,dN];exact N
                   exact adq this
                  rw[kV,af n1,ab ⟨M,hc⟩]
                . simp only[ag,S.Hq,T,bz,O];rw[bo,fj k];refine a0 (k+1) (by omega) λw' m=>?_;rw[adw,N]at m;rcases acf.1 m with m|m
                  ·exact hw w' m
                  . simp at m;subst m;exact λx=>h (U.2 x)
               apply gb<;>intro az
               . have a1:aj H2 1 acJ (.ae (t.cells.drop 3))=acK (av aE.cells t.Y):=fN t H2;simp only[a1,O];rw[b6 ax];simp only[O,di,aH,K2 H2 N,aaY,r0,fD];refine ay _ ?_;have:f.V≠[]:=by simpa using az
                 simp[this]
               . refine ay _ ?_;have:f.V=[]:=by simpa using az
                 simp[this]
             exact inner i 0 (by omega) λw hw=>by simp at hw
          simp only[r0,O];refine S.BK hT (CG ?_);simp only[dg,O,bP];apply gb<;>intro hn
          . have P:ek f.V=acJ:=by simpa using hn
            simp only[r0,O,fD,bP];apply gb<;>intro he
            . simp only[z,O,dg];refine K _ ?_;have:f.V=[]:=by simpa using he
              have g:ek []=acJ:=rfl;simp[this,g]
            . refine K _ ?_;have:f.V≠[]:=by simpa using he
              simp[P,this]
          . refine K _ ?_;have P:ek f.V=acI:=by simpa using hn
            simp[P]
        exact main t.Y 0 H rfl rfl
     simp only[ag,aw,S.Bh,ca,fN,bC,O,bI,bF,cV];apply jk<;>intro h
     . refine an _ ?_;simp only[beq_eq_false_iff_ne,ne_eq]at h;simp only[dJ,gt_iff_lt];omega
     . refine an _ ?_;simp only[bZ]at h;simp only[true_iff];omega
    have aA:∀b:Bool,b=!(t.size==0&&t.bg==0&&t.aK.length==0)->G (S.wP Φ (.ae t.cells) Q) [.bool b] H:=by
     intro b U;simp only[aw,S.wP,T,au];apply gb<;>intro h
     . refine fin _ _ ?_;rw[h]at U;rw[ab (by first|exact iQ U|exact iR U)]
     . rw[h]at U;exact aJ (by first|exact iQ U|exact iR U)
    have aB:∀b:Bool,b=!(t.size==0&&t.bg==0)->G (S.wQ Φ (.ae t.cells) Q) [.bool b] H:=by
     intro b U;simp only[ag,aw,S.wQ,T,bF,ca,gK,bC,cV,O,s];apply jk<;>intro h
     . refine aA _ ?_;rw[h]at U;have:(t.size==0&&t.bg==0)=acI:=by first|exact iQ U|exact iR U
       rw[this];rfl
     . refine aA _ ?_;rw[h]at U;have:(t.size==0&&t.bg==0)=acJ:=by first|exact iQ U|exact iR U
       rw[this];rfl
    simp only[ca,kp,lU,O,cC,bF];apply jk<;>intro h
    . refine aB _ ?_;have:(t.size==0)=acI:=by simpa using h
      rw[this];rfl
    . refine aB _ ?_;have:(t.size==0)=acJ:=by simpa using h
      rw[this];rfl
  . have hk:¬(t.kind=3\/t.kind=4):=λx=>am (U.2 x);refine fin _ _ ?_;have:gm t.kind t.size t.packed t.Y.length t.bg t.aK.length=acJ:=by unfold gm;rw[bL,af hk,af o]
    rw[ab this]
 apply gb<;>intro q
 . refine al _ ?_;rw[q];simp only[bZ]at q;simp[q]
 . refine al _ ?_;simp only[beq_eq_false_iff_ne,ne_eq]at q;simp[q]
end
section
variable{C:Ctx}(ak:cP C)(hT:Cl (ai C) S.b7)
include ak hT
theorem Va:∀(m:Nat),1<=m->m<=65->∀t:X,t.ok->bD (ai C) 70 [.agg t.cells,D m] (D (dz m t)):=by
 intro m;induction m with
 |zero=>intro h;omega
 | succ m a=>intro _ hm t ht;obtain⟨h1,b,c,d⟩:=Rb.dL ht;exact λH Q hQ=>S.Rn hT (U9 (by omega) hm h1 c (λh f hf=>a (by omega) (by omega) f.type (b f hf)) (λh e he=>a (by omega) (by omega) e (d e he)) hQ)
theorem Vb:∀t:X,t.ok->bD (ai C) 71 [.agg t.cells] (D (cW t)):=by refine X.ind λt a b ht=>?_;obtain⟨h1,c,g,d⟩:=Rb.dL ht;exact bD.of ak (by simp[I.bV,I.bu,X.bu]) rfl λQ hQ=>S.Ro hT (U_ hT h1 (λf hf=>a f hf (c f hf)) (λe he=>b e he (d e he)) hQ)
theorem K3(t:X)(ht:t.ok):bD (ai C) 42 [.agg t.cells] (D (dK t)):=by
 intro H Q hQ;refine S.Q0 hT ?_;unfold S.f42;simp only[ag];simp only[fC,aN,hD,O];refine Va ak hT 65 (by omega) (by omega) t ht _ _ ?_;simp only[cV,O,au];unfold dK at hQ;apply aG<;>intro h
 ·rw[ab (by simpa using h)]at hQ;exact hQ
 . rw[af (by simpa using h)]at hQ;exact Vb ak hT t ht _ _ hQ
theorem K4(t:X)(ht:t.ok):bD (ai C) 19 [.agg t.cells] (D (bm t).2):=by
 refine bD.of ak (by simp[I.bV,I.bu,X.bu]) rfl λQ hQ=>S.QH hT ?_;unfold S.f19;simp only[ag];unfold bm at hQ;simp only[fC,aN,hD,O];refine K3 ak hT t ht _ _ ?_;simp only[bI,O,bP,aw];apply aG<;>intro h
 . have h:dK t=0:=by simpa using h
   rw[af (by simpa using h)]at hQ;refine UZ ak hT t ht _ _ ?_;unfold S.u4;simp only[T,au,aw];apply aG<;>intro q
   . rw[ab q]at hQ;unfold S.q_;simp only[ag];simp only[T,bI,O,bP,aw,S.q9,au];rw[cw,cw];exact hQ _
   . rw [af q]at hQ;unfold S.q_;simp only[ag];simp only[T,bI,O,bP,aw,h];rw[jD,hD];simp only[O];refine yP ak hT t (fm h) _ _ λsz al l1 l2 o1 o2 lg H' E i1 i2 c U=>?_;rw[show kF 4 1 acJ (.agg (bY sz al o1 o2 lg))=acK (.bool lg)from rfl];simp only[O,S.q9,T,au];cases a:(L t).2 with
     | true=>rw[(c a).1,cw];rw[af (by rw[a];decide)]at hQ;exact hQ _
     | false=>rw[U a,ab rfl];rw[ab a]at hQ;exact hQ _
 . have b:dK t≠0:=by simpa using h
   rw[ab b]at hQ;unfold S.u4;simp only[T,au,aw];rw[cw];unfold S.q_;simp only[ag];simp only[T,bI,O,bP,aw,S.q9,au];rw[af (by simpa using b),cw];exact hQ _
end
variable{t:X}{p:aI}{r:List aI}{sp:bj}{i:Int}{q idx:List Int}
def gM:List aI->Nat
 |[]=>0
 |p::r=>p.aS.length+gM r
theorem Vd(h:(c6 t p).1=0):p.aS.length<=1:=by
 unfold c6 at h;by_cases c1:1<p.aS.length\/(p.aS.length=1↔p.field≠[])
 . rw[ab c1]at h;have:(8:Int)=0:=h;omega
 ·omega
theorem j0(h:(cj t (p::r)).1=0):(c6 t p).1=0/\(cj (c6 t p).2 r).1=0:=by
 rw[cj]at h;by_cases c:(c6 t p).1≠0
 ·rw[ab c]at h;exact absurd h c
 ·rw[af c]at h;exact⟨by omega,h⟩
theorem p9:∀{r:List aI}{t:X},(cj t r).1=0->gM r<=r.length
 |[],_,_=>hb _
 | p::r,t,h=>by obtain⟨h1,a⟩:=j0 h;have:=Vd h1;have:=p9 a;rw[gM,adN];omega
theorem p_:∀(r:List aI)(n:Int),0<=n->n+gM r<=9223372036854775807->jC r n=n+gM r
 |[],n,_,_=>by rw[jC,gM];simp
 | p::r,n,a,h1=>by rw[gM]at h1;have hw:B (n+(p.aS.length:Nat))=n+(p.aS.length:Nat):=bo;rw[jC,hw,p_ r _ (by omega) (by omega),gM];omega
theorem K5(h:p.aS.length=1)(hi:i>=kr t.bg):eY (p::r) t sp (i::q)=acL:=by unfold eY;rw[ab h];dsimp only;rw[ab hi]
theorem K6{t e:X}{a:List X}(h:p.aS.length=1)(hi:¬i>=kr t.bg)(b:t.aK=e::a):eY (p::r) t sp (i::q)=eY r e {sp with at_:=B (sp.at_+B (abu .i64 i*(bm e).1.1)),len:=(bm e).1.1} q:=by
 conv=>lhs;unfold eY
 rw[ab h];dsimp only;rw[af hi,b]
theorem K7{f:aE}{s sp:bj}{n:Nat}(h:p.aS.length≠1)(a:t.Y.findIdx? (λf=>f.V==p.field)=acK n)(b:t.Y[n]?=acK f)(c:(cD t)[n]?=acK s):eY (p::r) t sp idx=eY r f.type {s with at_:=B (s.at_+sp.at_)} idx:=by
 conv=>lhs;unfold eY
 rw[af h,a];dsimp only;rw[b,c]
section
variable{C:Ctx}(ak:cP C)(hT:Cl (ai C) S.b7)
include ak hT
theorem Ve{vars:List aB}(hl:vars.length<=1000000)(hv:∀v∈vars,v.ok){x:aJ}(ah:x.ok){ix:I}(aE:sm ix idx){H:Z}{Q:aa}(hQ:∀e H',Z.Ext H H'->Q (.aA [.agg (eu vars x idx).cells,D e]) H'):ai C 15 [av aB.cells vars,.agg x.cells,ix] H Q:=by
 obtain⟨bx,bB⟩:=aJ.dL ah;refine S.QE hT ?_;unfold S.f15;simp only[ag];simp only[k4,aN,bQ,bc];have aF:=Z.Ext.push H (.row ct.cells);have r1:=At.new H (.row ct.cells);change ai C 27 [av aB.cells vars] (H.push (.row ct.cells)) _;have n1:(H.push (.row ct.cells)).n=H.n+1:=rfl;generalize H.push _=H1 at *;have ret:∀(sp:bj)(e:Int)(H2:Z),Z.Ext H H2->At H2 H.n (.row ct.cells)->eu vars x idx=sp->Do (cf H2 6 (.ptr H.n 0) (.agg sp.cells)) λaK=>Do (aj aK 6 acI (.ptr H.n 0)) λy=>Q (.aA [y,D e]) aK:=by intro sp e H2 B m he;rw[m.put (n:=6) rfl rfl rfl];simp only[O];rw[(m.set _).all (n:=6) rfl];simp only[O];rw[he]at hQ;exact hQ e _ (B.set (hb _) _)
 have K:bS [J,J,J,P,J,J] []=acK (.agg ct.cells):=rfl;refine Cx ak hT hl hv _ _ ?_;unfold kx;by_cases hm:(mapM vars).1≠0
 . rw[ab hm];simp only[bA,ac5,ac6,O,cC,au];rw[ab (by simpa using hm),K];simp only[O];exact ret ct _ H1 aF r1 (by unfold eu;rw[ab hm])
 rw[af hm];obtain⟨a0,a1⟩:=UI (show(mapM vars).1=0 by omega);simp only[bA,ac5,ac6,O,cC,au];rw[cw];simp only[si,O];refine Co ak hT vars x (by rw[show maxLen=9223372036854775807 from by decide];omega) hv ah _ _ ?_;rw[yL];simp only[bA,ac5,ac6,O,aN,bQ,bc];rw[cn _ _ _ 6 (sd _) (yK _) rfl];have b2:=At.new H1 (.row (fH (bG vars x)));have m:=r1.push (.row (fH (bG vars x)));have B:=aF.trans (Z.Ext.push H1 (.row (fH (bG vars x))));have bD:H1.n≠H.n:=by omega
 generalize H1.push _=H2 at *;simp only[O,cC,au];by_cases hp:(bG vars x).1≠0
 . rw[ab (by simpa using hp),K];simp only[O];exact ret ct _ H2 B m (by unfold eu;rw[af hm,ab hp])
 rw[af (by simpa using hp)];have al:(bG vars x).1=0:=by omega
 have l0:aj H2 1 acJ (.ptr H1.n 0)=acK (D (bG vars x).2.kind):=by rw[b2.load];unfold fH;rw[ab al,X.aX];rfl
 simp only[aH,aa8,O,l0,cC,bP,aw];have aM : ∀b:Bool,(b=acI↔¬((bG vars x).2.kind=1\/(bG vars x).2.kind=2))->S.uZ (ai C) (av aB.cells vars) ix (.ae x.cells) (.ptr H.n 0) (.aq .dead vars.length (en vars (mapM vars).2.2)) (.ptr H1.n 0) Q [.bool b] H2:=by
  intro b U;simp only[ag,S.uZ,T,au];apply aG<;>intro hk
  . rw[K];simp only[O];exact ret ct _ H2 B m (by unfold eu;rw[af hm,af hp,ab (U.1 hk)])
  have am:¬¬((bG vars x).2.kind=1\/(bG vars x).2.kind=2):=λe=>hk (U.2 e);have a2:ea acJ ix=acK (D idx.length):=by obtain⟨tk,rfl⟩:=aE;rfl
  simp only[a2,si,O];refine UK ak hT ah _ _ ?_;simp only[cC,O,au];apply aG<;>intro hc
  . rw[K];simp only[O];exact ret ct _ H2 B m (by unfold eu;rw[af hm,af hp,af am,ab (by simpa using hc)])
  have aO:¬(idx.length:Int)≠jC x.ax 0:=by simpa using hc
  have u:eu vars x idx=match vars.findIdx? (λv=>v.V==x.var)with
    |none=>ct
    | some n=>match vars[n]?,(mapM vars).2.2[n]? with
     | some v,acK g=>match eY x.ax v.type {ct with at_:=g.at_,len:=g.len} idx with
      |some sp=>{sp with kind:=(bG vars x).2.kind}
      |none=>ct
     |_,_=>ct:=by
   unfold eu;first|(rw[af hm,af hp,af am,af aO];done)|(rw[af hm,af hp,af am,af aO];rfl)
  have c:(bG vars x).1=0:=al;obtain ⟨n,v,aP,L,bE,bF,a4⟩:∃n v,vars.findIdx? (λv=>v.V==x.var)=acK n/\vars[n]?=acK v/\vars.find? (λv=>v.V==x.var)=acK v/\dK v.type=0/\bG vars x=cj v.type x.ax:=by
   rcases mq (λv:aB=>v.V==x.var) vars with⟨i,v,h1,j,a8⟩|⟨h1,j⟩
   . refine ⟨i,v,h1,a8,j,?_,?_⟩
     . unfold bG at c;rw[j]at c;dsimp only at c;by_cases hs:dK v.type≠0
       ·rw[ab hs]at c;exact absurd c hs
       ·omega
     . unfold bG;unfold bG at c;rw[j]at c ⊢;dsimp only at c ⊢;by_cases hs:dK v.type≠0
       ·rw[ab hs]at c;exact absurd c hs
       ·rw[af hs]
   . unfold bG at c;rw[j]at c;have:(6:Int)=0:=c;omega
  have aQ:=(aal.1 L).1;have aR:=adq L;have a9:n<(mapM vars).2.2.length:=by rw[a0];exact aQ
  obtain⟨g,aS⟩:∃g,(mapM vars).2.2[n]?=acK g:=⟨_,abb a9⟩
  rw[aP]at u;dsimp only at u;rw[L,aS]at u;dsimp only at u;have a_:v.type.lay:=mA (by have:=hv v aR;cases v;exact this.2) (a1 v aR);rw[a4]at c;have ba:idx.length=gM x.ax:=by have h1:=p9 c;have j:=p_ x.ax 0 (adR _) (by omega);omega
  simp only[ag,aw,S.F1];refine S.x6 hT ?_;refine yi (p:=λv=>v.V==x.var) (λw _ R bb=>S.QW hT (by
    unfold S.f38;simp only[ag];have U:b5 H2 acJ 7 (.agg w.cells)=acK (.ae w.cells,H2):=by unfold b5;rw[ab ⟨rfl,w.len⟩];rfl
    have l0:aj H2 1 acJ (.ae (w.cells.drop 0))=acK (.str w.V):=pV w;have l1:aj H2 1 acJ (.ae (x.cells.drop 0))=acK (.str x.var):=p7 x H2;rw[U];simp only[aN,aH,O,l0,l1,fD];exact bb)) (by omega) ?_
  rw[aP];simp only[fb];rw[b6 aQ];simp only[O,di,aH];rw[yg v H2 L];have bd:aL acL 3 (.aq .dead vars.length (en vars (mapM vars).2.2)) (D n)=acK (.ae ((en vars (mapM vars).2.2).drop (n*3))):=by show(if 0<=(n:Int)/\(n:Int)<(vars.length:Nat)then acK (I.ae ((en vars (mapM vars).2.2).drop ((n:Int).toNat*3)))else acL)=_;rw[ab ⟨by omega,by omega⟩,aeq]
  have be:∀(a:List aB)(s:List bj)(n:Nat)(v:aB)(g:bj),a[n]?=acK v->s[n]?=acK g->∃tl,(en a s).drop (n*3) = .str v.V :: D g.at_ :: D g.len::tl:=by
   intro a;induction a with
   |nil=>intro s n v g h;simp at h
   | cons y a W=>
    intro s n v g h1 j;cases s with
    |nil=>simp at j
    | cons z s=>
     cases n with
     | zero=>simp at h1 j;subst h1;subst j;exact⟨en a s,rfl⟩
     | succ n=>obtain⟨tl,e⟩:=W s n v g (by simpa using h1) (by simpa using j);refine⟨tl,?_⟩;rw[en,show(n+1)*3=n*3+3 by omega];exact e
  obtain⟨tl,bf⟩:=be vars (mapM vars).2.2 n v g L aS;simp only[O,bd,bf,adj,adf];have bg:aj H2 2 acI (.ae (D g.at_ :: D g.len::tl))=acK (.agg [D g.at_,D g.len]):=by show bO _ 0 2 acI=_;exact mo (a:=[D g.at_,D g.len]) rfl
  simp only[bg,O];refine⟨.agg ({ct with at_:=g.at_,len:=g.len}:bj).cells,rfl,?_⟩;dsimp only;obtain⟨tk,aT⟩:=aE;have bi:bS [J,J,P,A,J,A,J,J,J,P,J,J,A] [(0,6,.agg v.type.cells),(6,6,.agg ({ct with at_:=g.at_,len:=g.len}:bj).cells),(12,1,ix)]=acK (.agg (fQ v.type {ct with at_:=g.at_,len:=g.len} ix)):=by rw[gU,X.aX,aT];rfl
  rw[bi];simp only[O];have bk:b5 H2 acI 13 (.agg (fQ v.type {ct with at_:=g.at_,len:=g.len} ix))=acK (.ptr H2.n 0,H2.push (.row (fQ v.type {ct with at_:=g.at_,len:=g.len} ix))):=by unfold b5;rw[ab ⟨rfl,by rw[gU];rfl⟩];rfl
  rw[bk,aN];simp only[iP,ir,O,bC];have a3:=At.new H2 (.row (fQ v.type {ct with at_:=g.at_,len:=g.len} ix));have bl:=m.push (.row (fQ v.type {ct with at_:=g.at_,len:=g.len} ix));have b3:=b2.push (.row (fQ v.type {ct with at_:=g.at_,len:=g.len} ix));have bm:=B.trans (Z.Ext.push H2 (.row (fQ v.type {ct with at_:=g.at_,len:=g.len} ix)));have bH:H.n<H2.n/\H1.n<H2.n:=⟨m.1,b2.1⟩
  have E:H.n≠H2.n/\H1.n≠H2.n:=⟨by omega,by omega⟩
  have bh:∀{d Y:Z},Z.Ext H d->bX H2.n d Y->Z.Ext H Y:=λ{d Y} e k=>⟨sl e.1 k.1,λi hi=>((k.2 i (d.o i) (by omega) ⟨xl hi e.1,rfl⟩).2).trans (e.2 i hi)⟩
  have main:∀(r:List aI)(i:Nat)(t:X)(sp:bj)(F:I)(G:List Int)(d:Z),x.ax.drop i=r->t.lay->(cj t r).1=0->sm F G->G.length=gM r->Z.Ext H d->At d H2.n (.row (fQ t sp F))->At d H.n (.row ct.cells)->At d H1.n (.row (fH (bG vars x))) ->
    eY r t sp G=eY x.ax v.type {ct with at_:=g.at_,len:=g.len} idx ->
    ar (S.uY (ai C) (.ptr H.n 0) (.ptr H1.n 0) (.ptr H2.n 0) (av aI.cells x.ax) (D x.ax.length) Q) ([D i],d):=by
   intro r;induction r with
   | nil=>
    intro i t sp F G d an ht aU hi ac ao a5 ap ay hw;have hle:=c7 an;refine ar.step ?_;simp only[ag,S.uY,T,aY,O,au,aw,S.F0];rw[cQ];have bn:aj d 1 acJ (.ptr H1.n 0)=acK (D (bG vars x).2.kind):=by rw[ay.load];unfold fH;rw[ab al,X.aX];rfl
    simp only[b8,aH,aa8,bn,O];rw[UT a5];simp only[O];have a6:=a5.set (.row (fQ t {sp with kind:=(bG vars x).2.kind} F));rw[UO a6];simp only[O];rw[eY]at hw;rw[<-hw]at u;exact ret _ _ _ (bh ao (bX.set _ _ _)) (ap.bR E.1 _) u
   | cons p r W=>
    intro i t sp F G d an ht aU hi ac ao a5 ap ay hw;obtain⟨bp,bq,aV⟩:=c4 an;obtain⟨br,ad⟩:=j0 aU;rw[gM]at ac;refine ar.step ?_;simp only[ag,S.uY,T,aY,O,au];rw[cM,b6 bp];simp only[O];rw[c8 aI.len (by decide) _ bq];simp only[O,aN,bQ,bc];rw[cn _ _ _ 2 p.len p.scalar rfl];have bs:=At.new d (.row p.cells);have a6:=a5.push (.row p.cells);have az:=ap.push (.row p.cells);have aW:=ay.push (.row p.cells);have aC:=ao.trans (Z.Ext.push d (.row p.cells));simp only[O];rw[bs.load,gJ p.len];simp only[O];generalize d.push _=Y at *;have aZ:abu .i64 ((i:Int)+1)=((i+1:Nat):Int):=by rw[bo];simp
    refine UU ak hT a6 ht hi br (by omega) (λi0 q e bt M c1 c2 c3 N l=>?_) (λi0 q e bt bu M c1 c2 c3 N c5 aD bv l a7=>?_) (λn' f s M bw c1 c2 c3 N c5 aD l a7=>?_)
    . simp only[dg,O,au,Bool.not_false,bc,K];refine ret ct _ M (bh aC l) (l.2 _ _ E.1 az) ?_;rw[c2,K5 c1 N]at hw;rw[<-hw]at u;exact u
    . simp only[dg,O,au,adH,abW,b4,bz,aZ];refine W (i+1) e _ bu q M aV bv ?_ aD ?_ (bh aC l) a7 (l.2 _ _ E.1 az) (l.2 _ _ E.2 aW) ?_
      ·rw[c5]at ad;exact ad
      ·rw[c2,adN]at ac;omega
      . rw[c2,K6 c1 N c3]at hw;exact hw
    . simp only[dg,O,au,adH,abW,b4,bz,aZ];refine W (i+1) f.type _ F G M aV aD ?_ hi ?_ (bh aC l) a7 (l.2 _ _ E.1 az) (l.2 _ _ E.2 aW) ?_
      ·rw[c5]at ad;exact ad
      ·rw[c1,adO]at ac;omega
      . rw[K7 bw c2 c3 N]at hw;exact hw
  exact main x.ax 0 v.type _ ix idx _ rfl a_ c ⟨tk,aT⟩ ba bm a3 bl b3 rfl
 apply aG<;>intro h1
 . refine aM _ ?_;simp only[bne_iff_ne,ne_eq]at h1 ⊢;omega
 . refine aM acJ ⟨λe=>(by cases e),λe=>?_⟩;simp only[bne_iff_ne,ne_eq]at h1;omega
end
end Rb
namespace Rb
open Go
variable{V:List UInt8}{i:Nat}
theorem K8:∀(L:List (List UInt8×Int)) (k:Nat) (l:List UInt8×Int) (v:Int),L[k]?=acK l->(L.flatMap sj).set (k*2+1) (cY v)=(L.set k (l.1,v)).flatMap sj
 |[],k,l,v,h=>by simp at h
 | x::r,0,l,v,h=>by simp at h;subst h;rfl
 | x::r,k+1,l,v,h=>by have:=K8 r k l v (by simpa using h);rw[show(k+1)*2+1=k*2+1+1+1 by omega,List.set_cons_succ,ac0,ac0,<-this];rfl
theorem K9{s:RS}(hi:s.ba.findIdx? (λl=>l.1==V)=acK i):∃l,s.ba[i]?=acK l/\l.1=V/\s.get V=l.2/\∀v,s.put V v={s with ba:=s.ba.set i (l.1,v)}:=by
 rcases mq (λl:List UInt8×Int=>l.1==V) s.ba with⟨j,l,h1,a,b⟩|⟨h1,a⟩
 . rw [hi]at h1;cases h1;have hn:l.1=V:=by
    have:=List.find?_some a;simpa using this
   refine⟨l,b,hn,by unfold RS.get;rw[a],λv=>?_⟩;unfold RS.put;rw[hi,hn]
 ·rw[hi]at h1;cases h1
theorem Vf{L:List (List UInt8×Int)}(h:V∈L.map (·.1)):∃i,L.findIdx? (λl=>l.1==V)=acK i:=by
 rcases mq (λl:List UInt8×Int=>l.1==V) L with⟨j,l,h1,a,b⟩|⟨h1,a⟩
 ·exact⟨j,h1⟩
 . rw[List.find?_eq_none]at a;obtain⟨l,hl,rfl⟩:=acF.1 h;exact absurd (by simp) (a l hl)
theorem sk.put{H:Z}{id j m i:Nat}{L:List (List UInt8×Int)}{cs:List I}{l:List UInt8×Int}(b:j≠id)(a:At H j (.row cs))(c:cs.length=m*2)(d:L.length<=m)(e:cs.take (L.length*2)=L.flatMap sj)(hi:L[i]?=acK l)(v:Int) :
  cf H 1 (.ptr j (i*2+1)) (cY v)=acK (H.set j (.row (cs.set (i*2+1) (cY v))))/\sk (H.set j (.row (cs.set (i*2+1) (cY v)))) id (L.set i (l.1,v)) (.row j 0 L.length 2):=by
 have f:=(aal.1 hi).1;refine⟨?_,.inr ⟨j,_,m,by simp,b,a.set _,by simpa using c,by simpa using d,?_⟩⟩
 ·rw[a.store,ab ⟨rfl,rfl,rfl,by omega⟩];rfl
 ·rw[List.length_set,List.take_set,e,K8 L i l v hi]
end Rb
namespace Rb
open Go
section
variable{α:Type}{cells:α->List I}{sz:Nat}(hc:∀x,(cells x).length=sz)
include hc
theorem K_:∀xs:List α,(xs.flatMap cells).length=xs.length*sz
 |[]=>by simp
 |x::r=>by rw[ac0,adm,hc,K_ r,adN,aaV];omega
theorem CH:∀(xs:List α)(k:Nat),(xs.flatMap cells).take (k*sz)=(xs.take k).flatMap cells
 |[],k=>by simp
 |x::r,0=>by simp
 | x::r,k+1=>by rw[ac0,List.take_succ_cons,ac0,show(k+1)*sz=(cells x).length+k*sz by rw[hc,aaV];omega,List.take_length_add_append,CH r k]
theorem sv:∀(xs:List α)(k:Nat),(xs.flatMap cells).drop (k*sz)=(xs.drop k).flatMap cells
 |[],k=>by simp
 |x::r,0=>by simp
 | x::r,k+1=>by rw[ac0,adj,show(k+1)*sz=(cells x).length+k*sz by rw[hc,aaV];omega,aei,sv r k]
theorem La(xs:List α){k:Nat}(a:k<=xs.length):eC sz (av cells xs) acL (acK (D k)) acL=acK (av cells (xs.take k)):=by
 show eC sz (.aq .dead xs.length (xs.flatMap cells)) acL (acK (D k)) acL=acK (.aq .dead (xs.take k).length ((xs.take k).flatMap cells));simp only[eC,fg,aeb];rw[dN];simp only[aeq];rw[ab ⟨aaU _,a,K_ hc xs⟩];by_cases e:k=xs.length
 . subst e;rw[ab ⟨trivial,rfl⟩,adg]
 ·rw[af (λh=>e h.2),Nat.zero_mul,adf,CH hc,ab trivial,Nat.sub_zero,adI,aec a]
end
theorem bX.left{id:Nat}{H0 H H':Z}(h:bX id H0 H)(k:Left H0.n H H'):bX id H0 H':=⟨sl h.1 k.1,λj o b a=>k.2 j o (h.2 j o b a) (.inl a.1)⟩
mutual
def CI(L:List (List UInt8)):E->Prop
 | .mk kind n V op a_ place br=>(kind=2->V∈L)/\(kind=3->br.length=2)/\br.length<=2/\(kind≠1/\kind≠2/\kind≠3->qa L place)/\mC L br
def mC(L:List (List UInt8)):List E->Prop
 |[]=>True
 |e::r=>CI L e/\mC L r
def qa(L:List (List UInt8)):aJ->Prop
 | .mk var ax=>yQ L ax
def yQ(L:List (List UInt8)):List aI->Prop
 |[]=>True
 |p::r=>CJ L p/\yQ L r
def CJ(L:List (List UInt8)):aI->Prop
 | .mk field aS=>mC L aS
end
end Rb
namespace Rb
open Go
variable{t:X}{vars:List aB}
def eP(a:Int)(v:aB):Int:=bq a (bm v.type).1.2
def e5:Int->List aB->Int
 |a,[]=>a
 |a,v::r=>e5 (eP a v+(bm v.type).1.1) r
def mD:Int->List aB->List I
 |_,[]=>[]
 |a,v::r=> .str v.V :: D (65536+eP a v) :: D (bm v.type).1.1::mD (eP a v+(bm v.type).1.1) r
theorem Lb(h:(bm t).2=0):dK t=0/\(L t).2=acI/\(bm t).1=(L t).1:=by
 unfold bm at h ⊢;split at h
 ·rename_i q;exact absurd h q
 . rename_i q;rw[af q];split at h
   ·cases h
   . rename_i b;rw[af b];split at h
     ·cases h
     . rename_i a;rw[af a];exact⟨by simpa using q,by simpa using a,rfl⟩
theorem oy(h:(bm t).2=0):0<=(bm t).1.1/\(bm t).1.1<=65536/\1<=(bm t).1.2/\(bm t).1.2<=16:=by obtain⟨h1,a,b⟩:=Lb h;rw[b];exact r8 t (fm h1) a
theorem sx:∀{l:List aB}{a:Int},(∀v∈l,(bm v.type).2=0)->a<=e5 a l
 |[],a,_=>adR _
 | v::r,a,h=>by have U:=oy (h v (acs ..));have hu:=eJ (n:=a) (step:=(bm v.type).1.2) (by omega);have:=sx (l:=r) (a:=eP a v+(bm v.type).1.1) (λw hw=>h w (acp _ hw));rw[e5];unfold eP at this ⊢;omega
section
variable{C:Ctx}(ak:cP C)(hT:Cl (ai C) S.b7)
include ak hT
theorem yR{i:Nat}{v:aB}(h:vars[i]?=acK v):∃p q r,aL acL 7 (av aB.cells vars) (D i)=acK p/\aH 0 p=acK q/\aH 1 p=acK r/\(∀H,aj H 1 acJ q=acK (.str v.V))/\∀H,aj H 6 acI r=acK (.agg v.type.cells):=by
 have a:=(aal.1 h).1;have b:(vars.flatMap aB.cells).drop (i*7)=v.cells++(vars.drop (i+1)).flatMap aB.cells:=by rw[sv aB.len,adn a,ac0];rw[abb a]at h;cases h;rfl
 refine⟨_,_,_,b6 a,rfl,rfl,λH=>?_,λH=>?_⟩
 . show bO (((vars.flatMap aB.cells).drop (i*7)).drop 0) 0 1 acJ=_;rw[b];cases v with
   |mk V type=>rfl
 . show bO (((vars.flatMap aB.cells).drop (i*7)).drop 1) 0 6 acI=_;rw[b];cases v with
   | mk V type=>show bO (type.cells++_) 0 6 acI=_;exact mo type.len
theorem Lc(hl:vars.length<=32)(ao:∀v∈vars,v.ok)(hv:∀v∈vars,(bm v.type).2=0){H:Z}{Q:aa}
  (hQ:∀d H',Z.Ext H H'->(∃tk,d = .aq tk vars.length (mD 0 vars))->e5 0 vars<=65536->Q (.aA [d,D (e5 0 vars),J]) H') (ap:∀H',Z.Ext H H'->¬e5 0 vars<=65536->Q (.aA [A,J,D 9]) H') :
  ai C 20 [av aB.cells vars] H Q:=by
 refine S.QI hT ?_;unfold S.f20;have second:∀(r:List aB)(k:Nat)(a:Int)(d:I)(done:List I)(f:Z),vars.drop k=r->k<=vars.length->Z.Ext H f->cc H.n f 3 d k done->0<=a->a<=65536->e5 a r=e5 0 vars->done++mD a r=mD 0 vars ->
   ar (S.pt (ai C) (av aB.cells vars) Q) ([d,D a,D k],f):=by
  intro r;induction r with
  | nil=>intro k a d done f j hk N h1 a0 M he x;have hle:=c7 j;refine ar.step ?_;simp only[ag,S.pt,T,bE,bC,O,aY,au,aw,S.F_];rw[cQ];obtain⟨tk,e,_⟩:=h1;rw[e5]at he;rw[he];refine hQ _ _ N ⟨tk,?_⟩ (by rw[<-he];exact M);rw[mD,adv]at x;rw[e,x,show k=vars.length by omega]
  | cons v r P=>
   intro k a d done f j hk N h1 a0 M he x;obtain⟨ax,B,F⟩:=c4 j;have E:=adq B;obtain⟨p,q,ay,e1,ac,R,ad,W⟩:=yR ak hT B;obtain⟨g1,g2,g3⟩:=Lb (hv v E);obtain⟨b1,b2,b3,aJ⟩:=oy (hv v E);refine ar.step ?_;simp only[ag,S.pt,T,bE,bC,O,aY,au];rw[cM];simp only[e1,R,W,O];refine yP ak hT v.type (fm g1) _ _ λsz al l1 l2 G K lg u ae i1 i2 az U=>?_;obtain⟨-,z2,z3,-⟩:=az g2;rw[<-g3]at z2 z3;simp only[bQ,bc,aN];rw[cn u _ (bY sz al G K lg) 5 rfl (sr i1 i2) rfl];have y:=At.new u (.row (bY sz al G K lg));have af:=N.trans (ae.trans (Z.Ext.push u (.row (bY sz al G K lg))));have X:=h1.frame (H':=u.push (.row (bY sz al G K lg))) (λt _ _ h=>(h.ext ae).push _);simp only[O];generalize u.push _=L at *;rw[z2,z3]at y;rw[e5]at he;rw[mD]at x;unfold eP at he x;generalize (bm v.type).1=g at *;obtain⟨gs,c⟩:=g;dsimp only at *;have hu:=eJ (n:=a) (step:=c) (by omega);have k2:S.A2 (ai C) (av aB.cells vars) (.ptr u.n 0) ([d,D a,D k],f) (ar (S.pt (ai C) (av aB.cells vars) Q)) Q [D (bq a c)] L:=by
    unfold S.A2;simp only[ag];simp only[T,bE,e1,ac,ad,O,bz];simp only[aH,aa8,(iu y).1,O];rw[wrap_i64 (n:=65536+bq a c) (by omega) (by omega),show bS [J,J] [(0,1,D (65536+bq a c)),(1,1,D gs)]=acK (.agg [D (65536+bq a c),D gs])from rfl];simp only[O];rw[show bS [.str [],J,J] [(0,1,.str v.V),(1,2,.agg [D (65536+bq a c),D gs])]=acK (.agg [.str v.V,D (65536+bq a c),D gs])from rfl];simp only[O];rw[show cI L acJ 3 1 [.str [],J,J] [(0,3,.agg [.str v.V,D (65536+bq a c),D gs])]=acK (.aq .full 1 [.str v.V,D (65536+bq a c),D gs],L)from rfl];simp only[aN];refine X.sq af.1 (m:=1) (news:=[.str v.V,D (65536+bq a c),D gs]) rfl rfl rfl (by decide) (by omega) (by omega) λah aC n9 aj=>?_;have aD:=aj _ _ y (X.mB y);have am:=Ext.bh af (aee n9) (λi o hi h=>aj i o h (X.low hi));simp only[aH,aa8,(iu aD).1,O,bz];rw[wrap_i64 (n:=bq a c+gs) (by omega) (by omega)];simp only[O,cV,au];apply aG<;>intro z
    . have z:bq a c+gs>65536:=of_decide_eq_true z;have:=sx (l:=r) (a:=bq a c+gs) (λw hw=>hv w (by
        have:w∈vars.drop (k+1):=by rw[F];exact hw
        exact List.mem_of_mem_drop this))
      exact ap ah am (by omega)
    . have z:¬bq a c+gs>65536:=λq=>z (decide_eq_true q);simp only[ag,aw,S.F9,T,bE,bz,O];rw[wrap_i64 (n:=(k:Int)+1) (by omega) (by omega),show(k:Int)+1=((k+1:Nat):Int) by simp];refine P (k+1) _ _ (done++[.str v.V,D (65536+bq a c),D gs]) ah F (by omega) am aC (by omega) (by omega) he ?_;rw[<-x];simp
   have loop:∀(m:Nat)(b:Int),0<=b->bq b c=bq a c->(bq a c-b).toNat=m->ar (S.u5 (ai C) (av aB.cells vars) (.ptr u.n 0) ([d,D a,D k],f) (ar (S.pt (ai C) (av aB.cells vars) Q)) Q) ([D b],L):=by
    intro m;induction m with
    | zero=>
     intro b Y an hm;have U:=eJ (n:=b) (step:=c) (by omega);have aE:=k0 (n:=b) (step:=c) (by omega);have aF:b=bq a c:=by omega
     refine ar.step ?_;simp only[ag,S.u5,T,aH,aa8,(iu y).2.1,O];rw[jV .i64 _ _ (by omega),ad1 Y];have hz:b%c=0:=by
      have:b=bq b c:=by omega
      rw[this];exact aE
     simp only[O,cC,hz,au];rw[cw,aF];exact k2
    | succ m aI=>
     intro b Y an hm;have U:=eJ (n:=b) (step:=c) (by omega);refine ar.step ?_;simp only[ag,S.u5,T,aH,aa8,(iu y).2.1,O];rw[jV .i64 _ _ (by omega),ad1 Y];have hz:b%c≠0:=λq=>by have:=CA (b:=b) (s:=c) (by omega) q;omega
     simp only[O,cC,au];rw[ab (by simpa using hz)];simp only[bz,O];rw[bo];exact aI (b+1) (by omega) (by rw[CB (by omega) hz];exact an) (by omega)
   exact loop _ a a0 rfl rfl
 have first:∀(r:List aB)(k:Nat),vars.drop k=r->ar (S.u6 (ai C) (av aB.cells vars) Q) ([D k],H):=by
  intro r;induction r with
  | nil=>intro k j;have hle:=c7 j;refine ar.step ?_;simp only[ag,S.u6,T,bC,O,aY,au,aw,S.Ga];rw[cQ];exact second vars 0 0 _ [] H rfl (aaU _) (Z.Ext.refl H) (cc.nil _ _ _) (adR _) (by decide) rfl rfl
  | cons v r P=>intro k j;obtain⟨ax,B,F⟩:=c4 j;have E:=adq B;obtain⟨p,q,ay,e1,ac,R,ad,W⟩:=yR ak hT B;refine ar.step ?_;simp only[ag,S.u6,T,bC,O,aY,au];rw[cM];simp only[e1,R,W,O];refine K4 ak hT v.type (ao v E).2 _ _ ?_;rw[hv v E];simp only[cC,O,au];rw[cw];simp only[bz,O];rw[bo,show(k:Int)+1=((k+1:Nat):Int) by simp];exact P (k+1) F
 exact first vars 0 rfl
end
end Rb
namespace Rb
open Go
def XB(x:Int×Int):Prop:=0<=x.1/\x.1<=20000000/\0<=x.2/\x.2<=20000000
theorem Ld{packed:Bool}{kind:Int}:∀{l:List aE}{p q:PL}{n:Nat},n+l.length<=32->hI p n->(∀f∈l,k3 packed f/\oo f.type)->dQ packed kind p l=acK q ->
  ∃xs:List (Int×Int),xs.length=l.length/\q.dP=p.dP++aer ft l xs/\∀x∈xs,XB x
 | [],p,q,n,hn,hp,hl,h=>by simp only[dQ,aaC.injEq]at h;subst h;exact⟨[],rfl,by simp,λx a=>by cases a⟩
 | f :: r, p,q,n,hn,hp,hl,h=>by
  obtain⟨o1,o2⟩:=hl f (acs ..);have i:n+1+r.length<=32:=by rw[adN]at hn;omega
  simp only[dQ,na]at h;by_cases ht:(L f.type).2=acI
  . rw [ab ht]at h;obtain⟨b1,b2,b3,j⟩:=o2 ht;have U:f.bits=acI->1<=f.type.size/\f.type.size<=8/\0<=f.aQ/\f.aQ<=8*f.type.size/\packed=acJ/\(L f.type).1.2=f.type.size:=λU=>by
     obtain⟨k,z2,z3,z4,z5,m⟩:=o1 U;exact⟨z2,z3,z4,z5,m,by rw[jZ (.inl k)]⟩
    obtain⟨e1,c⟩:=yx (packed:=packed) (kind:=kind) (g:=(L f.type).1) (by omega) hp b1 b2 b3 j (λq=>⟨(U q).1,(U q).2.1,(U q).2.2.1,(U q).2.2.2.1⟩);have o:=yy (kind:=kind) hp (f:=f) (g:=(L f.type).1) b3 (λq=>⟨(U q).1,(U q).2.2.1,(U q).2.2.2.1,(U q).2.2.2.2.1,(U q).2.2.2.2.2⟩);obtain⟨xs,s,e,t⟩:=Ld i c (λg u=>hl g (acp _ u)) h;have c1:=c.b0;have c2:=c.b1;rw[e1,o]at e c1 c2;refine⟨((dR packed kind p.bit f (L f.type).1).1,(dR packed kind p.bit f (L f.type).1).2.1)::xs,by simp[s],?_,λx a=>?_⟩
    ·rw[e,List.zipWith_cons_cons,aeo];rfl
    . rcases aco.1 a with rfl|a
      . have v:=hp.b0;have h1:0<=(dR packed kind p.bit f (L f.type).1).1/\0<=(dR packed kind p.bit f (L f.type).1).2.1:=by
         have w:0<=(if kind=4 then(0:Int)else p.bit):=by split;decide;exact v
         unfold dR;dsimp only;generalize (if kind=4 then(0:Int)else p.bit)=b at *;by_cases d:f.bits=acI
         . obtain⟨y,z,y3,y4,_⟩:=U d;rw[ab d];refine⟨?_,y3⟩;show 0<=bq b _;split
           ·have:=eJ (n:=b) (step:=8*f.type.size) (by omega);omega
           ·rw[p1];exact w
         . rw[af d];refine⟨?_,by show 0<=8*_;omega⟩;show 0<=bq b _;split
           ·have:=eJ (n:=b) (step:=8) (by omega);omega
           ·have:=eJ (n:=b) (step:=8*(L f.type).1.2) (by omega);omega
        dsimp only at c1 c2;have A:((n+1:Nat):Int)*600000<=32*600000:=by rw[adN]at hn;omega
        unfold XB;dsimp only;omega
      ·exact t x a
  ·rw[af ht]at h;cases h
theorem Vg{t:X}(h:t.lay)(a:t.kind=3\/t.kind=4):∃xs:List (Int×Int),xs.length=t.Y.length/\cD t=aer ft t.Y xs/\(∀x∈xs,XB x)/\∀f∈t.Y,k3 t.packed f:=by
 obtain⟨p,hp,_⟩:=ou h a;have hs:=fm h.snd;have hlen:=r7 hs a;have b:∀f∈t.Y,k3 t.packed f:=by
  rw[gB]at hs;split at hs
  ·exact absurd hs (by decide)
  . rw[af (show ¬t.kind=1 by omega),af (show ¬t.kind=2 by omega),af (show ¬t.kind=5 by omega),bL]at hs;exact r6 hs
 obtain⟨xs,c,d,e⟩:=Ld (n:=0) (by omega) hI.zero (λf hf=>⟨b f hf,r8 f.type ((lV hs a).1 f hf)⟩) hp;refine⟨xs,c,?_,e,b⟩;unfold cD;rw[hp];exact d
def Vh(t:X)(s:bj):Prop:=(s.bits=acI->t.kind=1)/\0<=s.len/\s.len<=10000000/\0<=s.bit/\s.bit<=7
theorem Vi{t:X}(h:t.lay)(d:t.kind=3\/t.kind=4){n:Nat}{f:aE}{s:bj}(hf:t.Y[n]?=acK f)(hs:(cD t)[n]?=acK s):Vh f.type s/\∃x,s=ft f x/\XB x:=by
 obtain⟨xs,l,g,i,j⟩:=Vg h d;rw[g,List.getElem?_zipWith,hf]at hs;cases a:xs[n]? with
 |none=>rw[a]at hs;cases hs
 | some x=>
  rw[a]at hs;have c:s=ft f x:=by simpa using hs.symm
  have U:=i x (adq a);refine⟨?_,x,c,U⟩;obtain⟨c1,c2,c3,m⟩:=U;rw[c];unfold ft;by_cases b:f.bits=acI
  . rw[ab b];have k:=(j f (adq hf) b).1;refine⟨λ_=>k,?_,?_,?_,?_⟩
    ·show 0<=(if x.2>0 then _ else _);split<;>omega
    ·show(if x.2>0 then _ else _)<=_;split<;>omega
    ·show 0<=x.1%8;omega
    ·show x.1%8<=7;omega
  . rw[af b];refine⟨λe=>(by cases e),?_,?_,adR 0,(by decide:(0:Int)<=7)⟩
    ·show 0<=x.2/8;omega
    ·show x.2/8<=_;omega
def bt(a:Int)(i:Nat):Bool:=a.toNat.testBit i
def ck:Int->List aB->List bj
 |_,[]=>[]
 |a,v::r=>⟨65536+eP a v,(bm v.type).1.1,0,acJ,0,0⟩::ck (eP a v+(bm v.type).1.1) r
theorem Le:∀{l:List aB}{a:Int}{b:List bj},0<=a->a<=65536->(∀v∈l,(bm v.type).2=0)->e5 a l<=65536->fc l a b=(0,e5 a l,b++ck a l)
 |[],a,b,c,h1,hv,he=>by rw[fc,e5,ck,adv]
 | v::r,a,b,c,h1,hv,he=>by
  have hz:=hv v (acs ..);have d:∀v∈r,(bm v.type).2=0:=λw hw=>hv w (acp _ hw);obtain⟨b1,b2,b3,g⟩:=oy hz;have hu:=eJ (n:=a) (step:=(bm v.type).1.2) (by omega);rw[e5]at he ⊢;have hle:=sx (a:=eP a v+(bm v.type).1.1) d;have h:eP a v=bq a (bm v.type).1.2:=rfl;have f:ow a v=eP a v:=by have e:B (B (adS (B (B (a+(bm v.type).1.2)-1)) (bm v.type).1.2)*(bm v.type).1.2)=eP a v:=mr c (by omega) (by omega) (by omega);unfold ow;rw[e,bL]
  rw[KM,af (by rw[hz];decide),f,show B (eP a v+(bm v.type).1.1)=eP a v+(bm v.type).1.1 from bo,show B (65536+eP a v)=65536+eP a v from bo,Le (by omega) (by omega) d he,ck,aeo];rfl
theorem Lf:∀(l:List aB)(a:Int),mD a l=en l (ck a l)
 |[],a=>by rw[mD,ck];rfl
 | v::r,a=>by rw[mD,ck,en,<-Lf r]
theorem yS{vars:List aB}(hv:∀v∈vars,(bm v.type).2=0)(a:e5 0 vars<=65536):mapM vars=(0,e5 0 vars,ck 0 vars):=by unfold mapM;rw[Le (by decide) (by decide) hv a];simp only[aeh];rw[cw,bL]
theorem qb:∀{l:List aB}{a:Int}{n:Nat}{v:aB},l[n]?=acK v->∃g tl,(ck a l)[n]?=acK g/\g={ct with at_:=g.at_,len:=g.len}/\(en l (ck a l)).drop (n*3) = .str v.V :: D g.at_ :: D g.len::tl
 | w::r,a,0,v,h=>by simp at h;subst h;exact⟨_,_,rfl,rfl,rfl⟩
 | w::r,a,n+1,v,h=>by obtain⟨g,tl,h1,b,c⟩:=qb (l:=r) (a:=eP a w+(bm w.type).1.1) (n:=n) (by simpa using h);refine⟨g,tl,h1,b,?_⟩;rw[ck,en,show(n+1)*3=n*3+3 by omega];exact c
theorem Vj{H:Z}{i:Nat}{f:aE}(h:At H i (.row f.cells)):aj H 1 acJ (.ptr i 1)=acK (D f.type.kind):=by rw[h.load];cases f with|mk n t b w=>cases t;rfl
def Lg(H:Z)(ix:I)(idx:List Int):Prop:=∀H',Z.Ext H H'->∀(k:Nat)(v:Int),idx[k]?=acK v->∃p,aL acL 1 ix (D k)=acK p/\aj H' 1 acJ p=acK (cY v)
section
variable{C:Ctx}(ak:cP C)(hT:Cl (ai C) S.b7)
include ak hT
theorem Vk{t:X}(hl:t.Y.length<=9223372036854775807){n:Nat}{f:aE}(hf:t.Y[n]?=acK f){sz al:Int}{o1 o2:I}{lg:Bool}{l1 l2:List Int}(z:l8 o1 l1)(A:l8 o2 l2){a b:Int}(ha:l1[n]?=acK a)(U:l2[n]?=acK b)(a0:0<=a)(M:a<=1000000000)(b0:0<=b)(b1:b<=1000000000){H:Z}{Q:aa}
  (hQ:∀H',Z.Ext H H'->Q (.agg (ft f (a,b)).cells) H'):ai C 30 [.agg t.cells,.agg (bY sz al o1 o2 lg),D n] H Q:=by
 refine S.QQ hT ?_;unfold S.f30;simp only[ag];have B:=(aal.1 hf).1;have E:b5 H acJ 6 (.agg t.cells)=acK (.ae t.cells,H):=by unfold b5;rw[ab ⟨rfl,t.len⟩];rfl
 have F:b5 H acJ 5 (.agg (bY sz al o1 o2 lg))=acK (.ae (bY sz al o1 o2 lg),H):=by unfold b5;rw[ab ⟨rfl,rfl⟩];rfl
 have t3:∀H,aj H 1 acJ (.ae (t.cells.drop 3))=acK (av aE.cells t.Y):=λH=>by rw[X.aX];rfl
 have G:∀H,aj H 1 acJ (.ae ((bY sz al o1 o2 lg).drop 2))=acK o1:=λ_=>rfl;have K:∀H,aj H 1 acJ (.ae ((bY sz al o1 o2 lg).drop 3))=acK o2:=λ_=>rfl;have idx:∀{o:I}{l:List Int}{v:Int},l8 o l->l[n]?=acK v->∃p,aL acL 1 o (D n)=acK p/\∀H,aj H 1 acJ p=acK (D v):=by
  rintro o l v ⟨tk,rfl⟩ hv;have V:=(aal.1 hv).1;refine⟨.ae ((l.map (D)).drop (n*1)),?_,λH=>?_⟩
  . show(if 0<=(n:Int)/\(n:Int)<(l.length:Nat)then acK (I.ae ((l.map (D)).drop ((n:Int).toNat*1)))else acL)=_;rw[ab ⟨by omega,by omega⟩,aeq]
  . show bO _ 0 1 acJ=_;unfold bO;rw[ab (by rw[List.length_drop,List.length_map];omega)];simp[hv]
 obtain⟨W,i1,i2⟩:=idx z ha;obtain⟨ac,i3,i4⟩:=idx A U;simp only[E,F,aN,bQ,bc];have L:=Z.Ext.push H (.row ct.cells);have r1:=At.new H (.row ct.cells);rw[show(H.push (.row [J,J,J,P,J,J]))=H.push (.row ct.cells)from rfl];have n1:(H.push (.row ct.cells)).n=H.n+1:=rfl;generalize H.push _=H1 at *;simp only[show aH 3 (.ae t.cells)=acK (.ae (t.cells.drop 3))from rfl,t3,O];rw[b6 B];simp only[O];rw[c8 aE.len (by decide) _ hf];simp only[O];rw[cn _ _ _ 9 f.len f.scalar rfl];have q:=At.new H1 (.row f.cells);have r:=r1.push (.row f.cells);have s:=L.trans (Z.Ext.push H1 (.row f.cells));have n2:(H1.push (.row f.cells)).n=H1.n+1:=rfl;generalize H1.push _=H2 at *;simp only[O,show ∀i,aH i (.ae (bY sz al o1 o2 lg))=acK (.ae ((bY sz al o1 o2 lg).drop i))from λ_=>rfl,G,K,i1,i2,i3,i4];simp only[aH,aa8,CE q,O,dg,au];have ret:∀(sp:bj)(d:Z),Z.Ext H d->At d H.n (.row ct.cells)->ft f (a,b)=sp->Do (cf d 6 (.ptr H.n 0) (.agg sp.cells)) λc=>Do (aj c 6 acI (.ptr H.n 0)) λy=>Q y c:=by intro sp d g e he;rw[e.put (n:=6) rfl rfl rfl];simp only[O];rw[(e.set _).all (n:=6) rfl];simp only[O];rw[he]at hQ;exact hQ _ (g.set (hb _) _)
 have h:∀x:Int,0<=x->x<=4000000000->abu .i64 (x.tdiv 8)=x/8:=λx N ad=>by rw[adY N];exact bo
 apply aG<;>intro hc
 . have j:f.bits=acJ:=by simpa using hc
   rw[jg _ _ _ (show(8:Int)≠0 by decide),jg _ _ _ (show(8:Int)≠0 by decide)];simp only[O];rw[h a a0 (by omega),h b b0 (by omega),show bS [J,J] [(0,1,D (a/8)),(1,1,D (b/8))]=acK (.agg [D (a/8),D (b/8)])from rfl];simp only[O,aaY,Vj q];rw[show bS [J,J,J,P,J,J] [(0,2,.agg [D (a/8),D (b/8)]),(2,1,D f.type.kind)]=acK (.agg (⟨a/8,b/8,f.type.kind,acJ,0,0⟩:bj).cells)from rfl];simp only[O];refine ret _ H2 s r ?_;unfold ft;rw[af (by rw[j];decide)]
 . have j:f.bits=acI:=by simpa using hc
   have u:ft f (a,b)=⟨a/8,if b>0 then(a+b-1)/8-a/8+1 else 0,1,acI,a%8,b⟩:=by unfold ft;rw[ab j]
   rw[jg _ _ _ (show(8:Int)≠0 by decide),jV _ _ _ (show(8:Int)≠0 by decide)];simp only[O];rw[h a a0 (by omega),ad1 a0,show bS [J,J] [(0,1,D (a/8))]=acK (.agg [D (a/8),J])from rfl];simp only[O];rw[show bS [J,J,J,P,J,J] [(0,2,.agg [D (a/8),J]),(2,1,D 1),(3,1,aT),(4,1,D (a%8)),(5,1,D b)]=acK (.agg (⟨a/8,0,1,acI,a%8,b⟩:bj).cells)from rfl];simp only[O];rw[cn _ _ ((⟨a/8,0,1,acI,a%8,b⟩:bj).cells) 6 rfl rfl rfl];have k:=At.new H2 (.row (⟨a/8,0,1,acI,a%8,b⟩:bj).cells);have e:=r.push (.row (⟨a/8,0,1,acI,a%8,b⟩:bj).cells);have g:=s.trans (Z.Ext.push H2 (.row (⟨a/8,0,1,acI,a%8,b⟩:bj).cells));have hn:H.n<H2.n:=by omega
   generalize H2.push _=d at *;simp only[O,cV,au,aw];have k1:∀(sp:bj)(c:Z),Z.Ext H c->At c H.n (.row ct.cells)->At c H2.n (.row sp.cells)->ft f (a,b)=sp->S.vz (ai C) (.ptr H.n 0) (.ptr H2.n 0) Q [] c:=by intro sp c R r4 T he;unfold S.vz;simp only[ag];rw[T.all (n:=6) rfl];simp only[O];exact ret sp c R r4 he
   apply aG<;>intro w
   . have m:b>0:=by simpa using w
     simp only[bz,eH,O];rw[wrap_i64 (n:=a+b) (by omega) (by omega),wrap_i64 (n:=a+b-1) (by omega) (by omega),jg _ _ _ (show(8:Int)≠0 by decide)];simp only[bz,eH,O];rw[h (a+b-1) (by omega) (by omega),wrap_i64 (n:=(a+b-1)/8-a/8) (by omega) (by omega),wrap_i64 (n:=(a+b-1)/8-a/8+1) (by omega) (by omega)];rw [show cf d 1 (.ptr H2.n 1) (D ((a+b-1)/8-a/8+1))=acK (d.set H2.n (.row (⟨a/8,(a+b-1)/8-a/8+1,1,acI,a%8,b⟩:bj).cells)) by rw[k.store,ab ⟨rfl,rfl,rfl,(by show 0+1+1<=6;decide)⟩];rfl]
     simp only[O];refine k1 ⟨a/8,(a+b-1)/8-a/8+1,1,acI,a%8,b⟩ _ (g.set (by omega) _) (e.bR (by omega) _) (k.set _) ?_;rw[u,ab m]
   . have m:¬b>0:=by simpa using w
     refine k1 _ d g e k ?_;rw[u,af m]
end
def e6(L:List (List UInt8))(x:aC):List (List UInt8):=if x.kind=1 then L++[x.V]else L
mutual
def CK(L:List (List UInt8)):aC->Prop
 | .mk kind ay V b9 a_ place bn aZ bw=>(kind=2->V∈L)/\(kind=5->V∈L/\b9∈L)/\(3<=kind/\kind<=6->qa L place)/\bn.length<=2/\(¬(3<=kind/\kind<=7)->1<=bn.length)/\mC L bn/\mE L aZ/\mE L bw
def mE(L:List (List UInt8)):List aC->Prop
 |[]=>True
 |x::r=>CK L x/\mE (e6 L x) r
end
def nj(id:Nat)(H H':Z):Prop:=H.n<=H'.n/\∀j o,j<id->At H j o->At H' j o
theorem nj.refl(id:Nat)(H:Z):nj id H H:=⟨hb _,λ_ _ _ h=>h⟩
theorem nj.trans{id:Nat}{a b c:Z}(h:nj id a b)(k:nj id b c):nj id a c:=⟨sl h.1 k.1,λj o d e=>k.2 j o d (h.2 j o d e)⟩
theorem nj.set{id j:Nat}{a:Z}(c:id<=j)(x:cx):nj id a (a.set j x):=⟨hb _,λi o hi b=>b.bR (by omega) x⟩
end Rb
namespace Rb
open Go
variable{s:aV}{d:Int}{x:aC}
theorem e7{a:Bool}{e:Int}(h:(s.b_ a e).aR=0)(b:e≠0):s.aR=0/\a=acI:=by
 unfold aV.b_ at h;split at h
 ·exact absurd h b
 . rename_i q;refine⟨h,?_⟩;cases a
   ·exact absurd ⟨rfl,h⟩ q
   ·rfl
theorem eK(s:aV)(a:Bool)(e:Int):(s.b_ a e).u=s.u:=by unfold aV.b_;split<;>rfl
theorem nk{x:List UInt8}(h:s.has x=acI):x∈s.u:=by
 unfold aV.has at h;obtain⟨y,a,e⟩:=acj.1 h;have:x=y:=by simpa using e
 rw[this];exact a
theorem Lh{e:E}(h:(dY s d e).aR=0):s.aR=0/\fp e=acI:=by unfold dY at h;have h1:=e7 h (by decide);have a:=e7 h1.1 (by decide);have b:=e7 a.1 (by decide);exact⟨b.1,a.2⟩
theorem yT(s:aV)(d:Int)(e:E):(dY s d e).u=s.u:=by unfold dY;rw[eK,eK,eK]
theorem Li{e:aC}(h:(eB s d e).aR=0):s.aR=0/\gp e=acI:=by unfold eB at h;have h1:=e7 h (by decide);have a:=e7 h1.1 (by decide);have b:=e7 a.1 (by decide);exact⟨b.1,a.2⟩
theorem sy(s:aV)(d:Int)(e:aC):(eB s d e).u=s.u:=by unfold eB;rw[eK,eK,eK]
section
variable(vars:List aB)
theorem Lj(s:aV)(k:Int)(x:aJ):(jh vars s k x).u=s.u:=by unfold jh;dsimp only;rw[eK,eK]
theorem Vl{kind n:Int}{V:List UInt8}{op a_:Int}{place:aJ}{br:List E}(h:fp (.mk kind n V op a_ place br)=acI):1<=kind/\kind<=8/\br.length<=2/\(kind=3->br.length=2):=by
 unfold fp at h;simp only[aar,dJ]at h;obtain⟨⟨⟨⟨⟨⟨h1,b⟩,_⟩,_⟩,_⟩,_⟩,a⟩:=h;have a:((br.length:Int))=(hh kind).1:=by simpa using a
 have h1:1<=kind:=h1;have b:kind<=8:=b;unfold hh at a;refine⟨h1,b,?_,λe=>?_⟩
 . split at a
   ·dsimp only at a;omega
   . split at a
     ·dsimp only at a;omega
     . split at a
       ·dsimp only at a;omega
       . split at a
         ·dsimp only at a;omega
         ·dsimp only at a;omega
 ·rw[ab e]at a;dsimp only at a;omega
mutual
theorem Lk:∀(e:E)(s:aV)(d:Int),(iO vars s d e).aR=0->s.aR=0/\(iO vars s d e).u=s.u/\CI s.u e
 | .mk kind n V op a_ place br,s,d,h=>by
  rw[iO]at h ⊢;by_cases i:(dY s d (.mk kind n V op a_ place br)).aR≠0
  ·rw[ab i]at h;exact absurd h i
  . rw [af i]at h ⊢;have hz:(dY s d (.mk kind n V op a_ place br)).aR=0:=by simpa using i
    have hl:=yT s d (.mk kind n V op a_ place br);obtain⟨j,z2⟩:=Lh hz;obtain⟨f1,f2,f3,f4⟩:=Vl z2;obtain⟨e1,b,a⟩:=yU br _ d h;rw[b,CI];by_cases hk:kind>=4
    . rw[ab hk,af (show ¬kind=2 by omega)]at e1 b a ⊢;obtain⟨v,t,o⟩:=Ll place _ _ d e1;rw[t,hl]at a ⊢;rw[hl]at o;exact⟨j,rfl,λe=>absurd e (by omega),f4,f3,λ_=>o,a⟩
    . rw [af hk]at e1 b a ⊢;by_cases m:kind=2
      . rw[ab m]at e1 b a ⊢;rw[eK,hl]at a ⊢;have:=nk (e7 e1 (by decide)).2;rw[hl]at this;exact⟨j,rfl,λ_=>this,f4,f3,λq=>absurd q (by omega),a⟩
      . rw[af m,hl]at a ⊢;exact⟨j,rfl,λe=>absurd e m,f4,f3,λq=>absurd q (by omega),a⟩
theorem yU:∀(l:List E)(s:aV)(d:Int),(c_ vars s d l).aR=0->s.aR=0/\(c_ vars s d l).u=s.u/\mC s.u l
 |[],s,d,h=>by rw[c_]at h ⊢;exact⟨h,rfl,trivial⟩
 | e :: r,s,d,h=>by
  rw[c_]at h ⊢;obtain⟨e1,b,a⟩:=yU r _ d h;by_cases hs:s.aR≠0
  ·rw[ab hs]at e1;exact absurd e1 hs
  . rw[af hs]at e1 b a ⊢;obtain⟨f,c,g⟩:=Lk e s _ e1;rw[b,c];rw[c]at a;rw[mC];exact⟨f,rfl,g,a⟩
theorem Ll:∀(x:aJ)(s:aV)(k d:Int),(gL vars s k d x).aR=0->s.aR=0/\(gL vars s k d x).u=s.u/\qa s.u x
 | .mk var ax,s,k,d,h=>by
  rw[gL]at h ⊢;by_cases hs:s.aR≠0
  ·rw[ab hs]at h;exact absurd h hs
  . rw[af hs]at h ⊢;obtain⟨e1,b,a⟩:=Lm ax _ d h;rw[Lj]at b a;rw[qa];exact⟨by simpa using hs,b,a⟩
theorem Lm:∀(l:List aI)(s:aV)(d:Int),(eT vars s d l).aR=0->s.aR=0/\(eT vars s d l).u=s.u/\yQ s.u l
 |[],s,d,h=>by rw[eT]at h ⊢;exact⟨h,rfl,trivial⟩
 | p::r,s,d,h=>by rw[eT]at h ⊢;obtain⟨e1,b,a⟩:=Lm r _ d h;obtain⟨f,c,g⟩:=Vm p s d e1;rw[b,c];rw[c]at a;rw[yQ];exact⟨f,rfl,g,a⟩
theorem Vm:∀(p:aI)(s:aV)(d:Int),(jY vars s d p).aR=0->s.aR=0/\(jY vars s d p).u=s.u/\CJ s.u p
 | .mk field aS,s,d,h=>by rw[jY]at h ⊢;rw[CJ];exact Ln aS s d h
theorem Ln:∀(l:List E)(s:aV)(d:Int),(fP vars s d l).aR=0->s.aR=0/\(fP vars s d l).u=s.u/\mC s.u l
 |[],s,d,h=>by rw[fP]at h ⊢;exact⟨h,rfl,trivial⟩
 | e::r,s,d,h=>by rw[fP]at h ⊢;obtain⟨e1,b,a⟩:=Ln r _ d h;obtain⟨f,c,g⟩:=Lk e s _ e1;rw[b,c];rw[c]at a;rw[mC];exact⟨f,rfl,g,a⟩
end
variable(kw:List UInt8->Bool)
theorem Vn(h:(eg vars kw s d x).aR=0):s.aR=0/\(eg vars kw s d x).u=s.u/\(x.kind=2->x.V∈s.u)/\(3<=x.kind/\x.kind<=6->qa s.u x.place):=by
 unfold eg at h ⊢;by_cases h1:x.kind=1
 . rw[ab h1]at h ⊢;rw[eK,eK,eK];have a:=e7 h (by decide);have z2:=e7 a.1 (by decide);have z3:=e7 z2.1 (by decide);exact⟨z3.1,rfl,λe=>by omega,λe=>by omega⟩
 . rw [af h1]at h ⊢;by_cases b:x.kind=2
   . rw[ab b]at h ⊢;rw[eK];have a:=e7 h (by decide);exact⟨a.1,rfl,λ_=>nk a.2,λe=>by omega⟩
   . rw [af b]at h ⊢;by_cases c:x.kind=3\/x.kind=4\/x.kind=5\/x.kind=6
     . rw[ab c]at h ⊢;obtain⟨f,g,i⟩:=Ll vars x.place s _ d h;exact⟨f,g,λe=>absurd e b,λ_=>i⟩
     . rw[af c]at h ⊢;exact⟨h,rfl,λe=>absurd e b,λe=>by omega⟩
theorem Vo(h:(gq s x).aR=0):s.aR=0/\(gq s x).u=e6 s.u x/\(x.kind=5->x.V∈s.u/\x.b9∈s.u):=by
 unfold gq at h ⊢;unfold e6;by_cases h1:x.kind=1
 . rw[ab h1]at h ⊢;rw[ab h1];exact⟨h,rfl,λe=>by omega⟩
 . rw [af h1]at h ⊢;rw[af h1];by_cases a:x.kind=5
   . rw[ab a]at h ⊢;rw[eK,eK,eK];have b:=e7 h (by decide);have z2:=e7 b.1 (by decide);have z3:=e7 z2.1 (by decide);refine⟨z3.1,rfl,λ_=>⟨nk z3.2,?_⟩⟩;exact nk z2.2
   . rw[af a]at h ⊢;exact⟨h,rfl,λe=>absurd e a⟩
theorem Lo(h:gp x=acI):1<=x.kind/\x.kind<=10/\x.bn.length<=2/\(¬(3<=x.kind/\x.kind<=7)->1<=x.bn.length)/\(x.kind=1->x.aZ=[]/\x.bw=[]):=by
 unfold gp at h;simp only[aar,dJ,Bool.or_eq_true,bZ]at h;obtain⟨⟨⟨⟨⟨⟨⟨h1,d⟩,_⟩,_⟩,_⟩,a⟩,b⟩,c⟩:=h;unfold eN at a b c;refine⟨h1,d,?_,λe=>?_,λe=>?_⟩
 . repeat' split at a
   all_goals (dsimp only at a;omega)
 . repeat' split at a
   all_goals (dsimp only at a;omega)
 . rw[ab (.inl e)]at b c;simp at b c;exact⟨b,c⟩
theorem Vp(h:(dA vars kw s d x).aR=0):s.aR=0/\(dA vars kw s d x).u=e6 s.u x/\gp x=acI/\(x.kind=2->x.V∈s.u)/\(x.kind=5->x.V∈s.u/\x.b9∈s.u)/\(3<=x.kind/\x.kind<=6->qa s.u x.place)/\mC s.u x.bn:=by unfold dA at h ⊢;obtain⟨r1,a,b⟩:=Vo h;obtain⟨e1,c,e⟩:=yU vars x.bn _ d r1;obtain⟨f1,f2,f3,f4⟩:=Vn vars kw e1;obtain⟨f,z2⟩:=Li f1;rw[f2,sy]at c e;rw[sy]at f3 f4;rw[c]at a b;exact⟨f,a,z2,f3,b,f4,e⟩
theorem Lp(L:List (List UInt8))(x:aC){n:Nat}(h:n<=L.length):(e6 L x).take n=L.take n/\n<=(e6 L x).length:=by
 unfold e6;split
 ·exact⟨by rw[List.take_append_of_le_length h],by rw[adm];omega⟩
 ·exact⟨rfl,h⟩
mutual
theorem Vq:∀(x:aC)(s:aV)(d:Int),(stM vars kw s d x).aR=0->s.aR=0/\(stM vars kw s d x).u=e6 s.u x/\CK s.u x
 | .mk kind ay V b9 a_ place bn aZ bw,s,d,h=>by
  rw[stM]at h ⊢;obtain⟨b1,b2,b3⟩:=sA bw _ _ _ (hb _) h;obtain⟨M,a2,a3⟩:=sA aZ _ _ _ (hb _) b1;have i:=b2.trans (show(aes _ _)=_ from adg);obtain⟨c1,c2,c3,j,c5,k,m⟩:=Vp vars kw M;have c:(eI vars kw (dA vars kw s d (.mk kind ay V b9 a_ place bn aZ bw)) (dA vars kw s d (.mk kind ay V b9 a_ place bn aZ bw)).u.length (B (d+1)) aZ).u=e6 s.u (.mk kind ay V b9 a_ place bn aZ bw):=by rw[a2,adg,c2]
  have b:mE (eI vars kw (dA vars kw s d (.mk kind ay V b9 a_ place bn aZ bw)) (dA vars kw s d (.mk kind ay V b9 a_ place bn aZ bw)).u.length (B (d+1)) aZ).u bw:=b3;rw[c]at b;rw[c2]at a3;obtain⟨g1,g2,g3,g4,g5⟩:=Lo c3;refine⟨c1,i.trans c,?_⟩;rw[CK];refine⟨j,c5,k,g3,g4,m,?_,?_⟩
  . by_cases hk:kind=1
    . have:aZ=[]:=(g5 hk).1;subst this;rw[mE];trivial
    . have e:e6 s.u (.mk kind ay V b9 a_ place bn aZ bw)=s.u:=by unfold e6;rw[af hk]
      rw[e]at a3;exact a3
  . by_cases hk:kind=1
    . have:bw=[]:=(g5 hk).2;subst this;rw[mE];trivial
    . have e:e6 s.u (.mk kind ay V b9 a_ place bn aZ bw)=s.u:=by unfold e6;rw[af hk]
      rw[e]at b;exact b
theorem sA:∀(l:List aC)(s:aV)(n:Nat)(d:Int),n<=s.u.length->(eI vars kw s n d l).aR=0->s.aR=0/\(eI vars kw s n d l).u=s.u.take n/\mE s.u l
 |[],s,n,d,hn,h=>by rw[eI]at h ⊢;rw[mE];exact⟨h,rfl,trivial⟩
 | x :: r,s,n,d,hn,h=>by
  rw[eI]at h ⊢;by_cases hs:s.aR≠0
  ·rw[ab hs,kX vars kw hs]at h;exact absurd h hs
  . rw [af hs]at h ⊢;have hz:(stM vars kw (s.at x.ay) d x).aR=0:=by
     by_cases q:(stM vars kw (s.at x.ay) d x).aR=0
     ·exact q
     ·rw[kX vars kw q]at h;exact absurd h q
    obtain⟨p,a,o⟩:=Vq x (s.at x.ay) d hz;have a:(stM vars kw (s.at x.ay) d x).u=e6 s.u x:=a;obtain⟨t1,t2⟩:=Lp s.u x hn;obtain⟨r1,f,g⟩:=sA r (stM vars kw (s.at x.ay) d x) n d (by rw[a];exact t2) h;rw[a]at f g;rw[mE];exact⟨by simpa using hs,f.trans t1,o,g⟩
end
end
end Rb
namespace Rb
open Go
variable{s:aV}{d:Int}{x:aC}
section
variable(vars:List aB)
mutual
def vE(L:List (List UInt8)):E->Prop
 | .mk kind n V op a_ place br=>fp (.mk kind n V op a_ place br)=acI/\fO (B (10+kind)) a_=acI/\(kind=2->V∈L)/\(kind>=4->vP L (B (10+kind)) place)/\iv L br
def iv(L:List (List UInt8)):List E->Prop
 |[]=>True
 |e::r=>vE L e/\iv L r
def vP(L:List (List UInt8))(k:Int):aJ->Prop
 | .mk var ax=>(bG vars (.mk var ax)).1=0/\ga k (bG vars (.mk var ax)).2=acI/\l9 L ax
def l9(L:List (List UInt8)):List aI->Prop
 |[]=>True
 |p::r=>vR L p/\l9 L r
def vR(L:List (List UInt8)):aI->Prop
 | .mk field aS=>iv L aS
end
mutual
def vS(L:List (List UInt8)):aC->Prop
 | .mk kind ay V b9 a_ place bn aZ bw=>gp (.mk kind ay V b9 a_ place bn aZ bw)=acI/\fO kind a_=acI/\(kind=1->V∉L)/\(kind=2->V∈L)/\(kind=5->V∈L/\b9∈L/\V≠b9)/\(3<=kind/\kind<=6->vP vars L kind place)/\iv vars L bn/\vB L aZ/\vB L bw
def vB(L:List (List UInt8)):List aC->Prop
 |[]=>True
 |x::r=>vS L x/\vB (e6 L x) r
end
theorem Lq(L:List (List UInt8))(e:E):vE vars L e↔fp e=acI/\fO (B (10+e.kind)) e.a_=acI/\(e.kind=2->e.V∈L)/\(e.kind>=4->vP vars L (B (10+e.kind)) e.place)/\iv vars L e.br:=by cases e;rw[vE]
theorem nl(L:List (List UInt8))(k:Int)(x:aJ):vP vars L k x↔(bG vars x).1=0/\ga k (bG vars x).2=acI/\l9 vars L x.ax:=by cases x;rw[vP]
theorem Vr(L:List (List UInt8))(p:aI):vR vars L p↔iv vars L p.aS:=by cases p;rw[vR]
theorem Lr(L:List (List UInt8))(x:aC):vS vars L x↔gp x=acI/\fO x.kind x.a_=acI/\(x.kind=1->x.V∉L)/\(x.kind=2->x.V∈L)/\(x.kind=5->x.V∈L/\x.b9∈L/\x.V≠x.b9)/\(3<=x.kind/\x.kind<=6->vP vars L x.kind x.place)/\iv vars L x.bn/\vB vars L x.aZ/\vB vars L x.bw:=by cases x;rw[vS]
theorem Vt{k:Int}{x:aJ}(h:(jh vars s k x).aR=0):(bG vars x).1=0/\ga k (bG vars x).2=acI:=by
 unfold jh at h;dsimp only at h;have h1:=e7 h (by decide);refine⟨?_,?_⟩
 . by_cases hp:(bG vars x).1=0
   ·exact hp
   . have:=(e7 h1.1 hp).2;simpa using this
 . have a:=h1.2;rw[h1.1]at a;simpa using a
theorem Vu{e:E}(h:(dY s d e).aR=0):fO (B (10+e.kind)) e.a_=acI:=by unfold dY at h;exact(e7 h (by decide)).2
theorem Vv(h:(eB s d x).aR=0):fO x.kind x.a_=acI:=by unfold eB at h;exact(e7 h (by decide)).2
theorem Vw{x:List UInt8}(h:(!s.has x)=acI):x∉s.u:=by
 intro a;have:s.has x=acI:=by unfold aV.has;rw[acj];exact⟨x,a,by simp⟩
 rw[this]at h;cases h
mutual
theorem Ls:∀(e:E)(s:aV)(d:Int),(iO vars s d e).aR=0->s.aR=0/\(iO vars s d e).u=s.u/\vE vars s.u e
 | .mk kind n V op a_ place br,s,d,h=>by
  rw[iO]at h ⊢;by_cases i:(dY s d (.mk kind n V op a_ place br)).aR≠0
  ·rw[ab i]at h;exact absurd h i
  . rw [af i]at h ⊢;have hz:(dY s d (.mk kind n V op a_ place br)).aR=0:=by simpa using i
    have hl:=yT s d (.mk kind n V op a_ place br);obtain⟨j,z2⟩:=Lh hz;have z3:=Vu hz;obtain⟨e1,b,a⟩:=CL br _ d h;rw[b,vE];by_cases hk:kind>=4
    . rw[ab hk,af (show ¬kind=2 by omega)]at e1 b a ⊢;obtain⟨v,t,o⟩:=Lt place _ _ d e1;rw[t,hl]at a ⊢;rw[hl]at o;exact⟨j,rfl,z2,z3,λq=>absurd q (by omega),λ_=>o,a⟩
    . rw [af hk]at e1 b a ⊢;by_cases m:kind=2
      . rw[ab m]at e1 b a ⊢;rw[eK,hl]at a ⊢;have:=nk (e7 e1 (by decide)).2;rw[hl]at this;exact⟨j,rfl,z2,z3,λ_=>this,λq=>absurd q (by omega),a⟩
      . rw[af m,hl]at a ⊢;exact⟨j,rfl,z2,z3,λe=>absurd e m,λq=>absurd q (by omega),a⟩
theorem CL:∀(l:List E)(s:aV)(d:Int),(c_ vars s d l).aR=0->s.aR=0/\(c_ vars s d l).u=s.u/\iv vars s.u l
 |[],s,d,h=>by rw[c_]at h ⊢;exact⟨h,rfl,trivial⟩
 | e :: r,s,d,h=>by
  rw[c_]at h ⊢;obtain⟨e1,b,a⟩:=CL r _ d h;by_cases hs:s.aR≠0
  ·rw[ab hs]at e1;exact absurd e1 hs
  . rw[af hs]at e1 b a ⊢;obtain⟨f,c,g⟩:=Ls e s _ e1;rw[b,c];rw[c]at a;rw[iv];exact⟨f,rfl,g,a⟩
theorem Lt:∀(x:aJ)(s:aV)(k d:Int),(gL vars s k d x).aR=0->s.aR=0/\(gL vars s k d x).u=s.u/\vP vars s.u k x
 | .mk var ax,s,k,d,h=>by
  rw[gL]at h ⊢;by_cases hs:s.aR≠0
  ·rw[ab hs]at h;exact absurd h hs
  . rw[af hs]at h ⊢;obtain⟨e1,b,a⟩:=Lu ax _ d h;obtain⟨f1,f2⟩:=Vt vars e1;rw[Lj]at b a;rw[vP];exact⟨by simpa using hs,b,f1,f2,a⟩
theorem Lu:∀(l:List aI)(s:aV)(d:Int),(eT vars s d l).aR=0->s.aR=0/\(eT vars s d l).u=s.u/\l9 vars s.u l
 |[],s,d,h=>by rw[eT]at h ⊢;exact⟨h,rfl,trivial⟩
 | p::r,s,d,h=>by rw[eT]at h ⊢;obtain⟨e1,b,a⟩:=Lu r _ d h;obtain⟨f,c,g⟩:=Vx p s d e1;rw[b,c];rw[c]at a;rw[l9];exact⟨f,rfl,g,a⟩
theorem Vx:∀(p:aI)(s:aV)(d:Int),(jY vars s d p).aR=0->s.aR=0/\(jY vars s d p).u=s.u/\vR vars s.u p
 | .mk field aS,s,d,h=>by rw[jY]at h ⊢;rw[vR];exact Lv aS s d h
theorem Lv:∀(l:List E)(s:aV)(d:Int),(fP vars s d l).aR=0->s.aR=0/\(fP vars s d l).u=s.u/\iv vars s.u l
 |[],s,d,h=>by rw[fP]at h ⊢;exact⟨h,rfl,trivial⟩
 | e::r,s,d,h=>by rw[fP]at h ⊢;obtain⟨e1,b,a⟩:=Lv r _ d h;obtain⟨f,c,g⟩:=Ls e s _ e1;rw[b,c];rw[c]at a;rw[iv];exact⟨f,rfl,g,a⟩
end
variable(kw:List UInt8->Bool)
theorem Vy(h:(eg vars kw s d x).aR=0):s.aR=0/\(eg vars kw s d x).u=s.u/\(x.kind=1->x.V∉s.u)/\(x.kind=2->x.V∈s.u)/\(3<=x.kind/\x.kind<=6->vP vars s.u x.kind x.place):=by
 unfold eg at h ⊢;by_cases h1:x.kind=1
 . rw[ab h1]at h ⊢;rw[eK,eK,eK];have a:=e7 h (by decide);have z2:=e7 a.1 (by decide);have z3:=e7 z2.1 (by decide);refine⟨z3.1,rfl,λ_=>?_,λe=>by omega,λe=>by omega⟩;have:=Vw z2.2;exact this
 . rw [af h1]at h ⊢;by_cases b:x.kind=2
   . rw[ab b]at h ⊢;rw[eK];have a:=e7 h (by decide);exact⟨a.1,rfl,λe=>absurd e h1,λ_=>nk a.2,λe=>by omega⟩
   . rw [af b]at h ⊢;by_cases c:x.kind=3\/x.kind=4\/x.kind=5\/x.kind=6
     . rw[ab c]at h ⊢;obtain⟨f,g,i⟩:=Lt vars x.place s _ d h;exact⟨f,g,λe=>absurd e h1,λe=>absurd e b,λ_=>i⟩
     . rw[af c]at h ⊢;exact⟨h,rfl,λe=>absurd e h1,λe=>absurd e b,λe=>by omega⟩
theorem Vz(h:(gq s x).aR=0):s.aR=0/\(gq s x).u=e6 s.u x/\(x.kind=5->x.V∈s.u/\x.b9∈s.u/\x.V≠x.b9):=by
 unfold gq at h ⊢;unfold e6;by_cases h1:x.kind=1
 . rw[ab h1]at h ⊢;rw[ab h1];exact⟨h,rfl,λe=>by omega⟩
 . rw [af h1]at h ⊢;rw[af h1];by_cases a:x.kind=5
   . rw [ab a]at h ⊢;rw[eK,eK,eK];have b:=e7 h (by decide);have z2:=e7 b.1 (by decide);have z3:=e7 z2.1 (by decide);refine⟨z3.1,rfl,λ_=>⟨nk z3.2,?_,?_⟩⟩
     ·exact nk z2.2
     . have:=b.2;simpa using this
   . rw[af a]at h ⊢;exact⟨h,rfl,λe=>absurd e a⟩
theorem VA(h:(dA vars kw s d x).aR=0):s.aR=0/\(dA vars kw s d x).u=e6 s.u x/\gp x=acI/\fO x.kind x.a_=acI/\(x.kind=1->x.V∉s.u)/\(x.kind=2->x.V∈s.u)/\(x.kind=5->x.V∈s.u/\x.b9∈s.u/\x.V≠x.b9)/\(3<=x.kind/\x.kind<=6->vP vars s.u x.kind x.place)/\iv vars s.u x.bn:=by unfold dA at h ⊢;obtain⟨r1,a,b⟩:=Vz h;obtain⟨e1,c,e⟩:=CL vars x.bn _ d r1;obtain⟨f1,f2,f0,f3,f4⟩:=Vy vars kw e1;obtain⟨f,z2⟩:=Li f1;have z3:=Vv f1;rw[f2,sy]at c e;rw[sy]at f0 f3 f4;rw[c]at a b;exact⟨f,a,z2,z3,f0,f3,b,f4,e⟩
mutual
theorem VB:∀(x:aC)(s:aV)(d:Int),(stM vars kw s d x).aR=0->s.aR=0/\(stM vars kw s d x).u=e6 s.u x/\vS vars s.u x
 | .mk kind ay V b9 a_ place bn aZ bw,s,d,h=>by
  rw[stM]at h ⊢;obtain⟨b1,b2,b3⟩:=yV bw _ _ _ (hb _) h;obtain⟨M,a2,a3⟩:=yV aZ _ _ _ (hb _) b1;have i:=b2.trans (show(aes _ _)=_ from adg);obtain⟨c1,c2,c3,j,c5,k,m,o,p⟩:=VA vars kw M;have c:(eI vars kw (dA vars kw s d (.mk kind ay V b9 a_ place bn aZ bw)) (dA vars kw s d (.mk kind ay V b9 a_ place bn aZ bw)).u.length (B (d+1)) aZ).u=e6 s.u (.mk kind ay V b9 a_ place bn aZ bw):=by rw[a2,adg,c2]
  have b:vB vars (eI vars kw (dA vars kw s d (.mk kind ay V b9 a_ place bn aZ bw)) (dA vars kw s d (.mk kind ay V b9 a_ place bn aZ bw)).u.length (B (d+1)) aZ).u bw:=b3;rw[c]at b;rw[c2]at a3;obtain⟨g1,g2,g3,g4,g5⟩:=Lo c3;refine⟨c1,i.trans c,?_⟩;rw[vS];refine⟨c3,j,c5,k,m,o,p,?_,?_⟩
  . by_cases hk:kind=1
    . have:aZ=[]:=(g5 hk).1;subst this;rw[vB];trivial
    . have e:e6 s.u (.mk kind ay V b9 a_ place bn aZ bw)=s.u:=by unfold e6;rw[af hk]
      rw[e]at a3;exact a3
  . by_cases hk:kind=1
    . have:bw=[]:=(g5 hk).2;subst this;rw[vB];trivial
    . have e:e6 s.u (.mk kind ay V b9 a_ place bn aZ bw)=s.u:=by unfold e6;rw[af hk]
      rw[e]at b;exact b
theorem yV:∀(l:List aC)(s:aV)(n:Nat)(d:Int),n<=s.u.length->(eI vars kw s n d l).aR=0->s.aR=0/\(eI vars kw s n d l).u=s.u.take n/\vB vars s.u l
 |[],s,n,d,hn,h=>by rw[eI]at h ⊢;rw[vB];exact⟨h,rfl,trivial⟩
 | x :: r,s,n,d,hn,h=>by
  rw[eI]at h ⊢;by_cases hs:s.aR≠0
  ·rw[ab hs,kX vars kw hs]at h;exact absurd h hs
  . rw [af hs]at h ⊢;have hz:(stM vars kw (s.at x.ay) d x).aR=0:=by
     by_cases q:(stM vars kw (s.at x.ay) d x).aR=0
     ·exact q
     ·rw[kX vars kw q]at h;exact absurd h q
    obtain⟨v,a,t⟩:=VB x (s.at x.ay) d hz;have a:(stM vars kw (s.at x.ay) d x).u=e6 s.u x:=a;obtain⟨t1,t2⟩:=Lp s.u x hn;obtain⟨r1,f,g⟩:=yV r (stM vars kw (s.at x.ay) d x) n d (by rw[a];exact t2) h;rw[a]at f g;rw[vB];exact⟨by simpa using hs,f.trans t1,t,g⟩
end
theorem VC{p:dy}(h:(eO kw p).2=0):p.vars.length<=32/\ji kw p.vars=0/\∀t∈p.cO,vB p.vars [] t:=by
 unfold eO at h;split at h
 ·cases h
 . rename_i h1;split at h
   ·rename_i a;exact absurd h a
   . rename_i a;rw[J3]at h;refine⟨by omega,by simpa using a,λt ht=>?_⟩;exact(yV p.vars kw t s0 0 1 (hb _) (h t ht)).2.2
end
end Rb
namespace Rb
open Go
structure RS.A(d:Int)(rest:List (Int×Int))(s1 s2:RS):Prop where
 eq:s2={s1 with fuel:=s1.fuel+d,jB:=s1.jB++rest}
 d0:0<=d
 fu:s1.stop=acJ->0<=s1.fuel/\s1.fuel+d<=1000000
 em:s1.empty=acI->s1.stop=acI
theorem RS.A.stop{d:Int}{rest:List (Int×Int)}{a b:RS}(h:RS.A d rest a b):b.stop=a.stop:=by rw[h.eq]
theorem RS.A.ba{d:Int}{rest:List (Int×Int)}{a b:RS}(h:RS.A d rest a b):b.ba=a.ba:=by rw[h.eq]
structure eU where
 what:Int
 n:Int
 k:Int
 j:Int
 x:aJ
 kind:Int
 a_:Int
 site:Int
 ay:Int
def Lw:aJ:=⟨[],[]⟩
def j1(ln a n k:Int):eU:=⟨a,n,k,0,Lw,0,0,0,ln⟩
def k5(o:Int)(L:List (List UInt8×Nat))(x:List UInt8):Int:=L.foldl (λo p=>if p.1=x then(p.2:Int)else o) o
def VD(L:List (List UInt8×Nat))(ln kind n:Int)(V:List UInt8)(op a_:Int)(place:aJ)(a:Int):eU:=
 if kind=1 then j1 ln 2 n 0 else if kind=2 then j1 ln 3 0 (k5 (-1) L V)else if kind=3 then j1 ln 5 0 op
 else⟨7,0,0,0,place,kind,a_,a,ln⟩
section
variable(vars:List aB)(L:List (List UInt8×Nat))(ln:Int)
mutual
def Lx:E->Int->List eU
 | .mk kind n V op a_ place br,a=>j1 ln 1 0 0::(CM place a++CN br (B (a+kY place))++[VD L ln kind n V op a_ place (B (B (B (a+kY place)+kZ br 0)+1))])
def CN:List E->Int->List eU
 |[],a=>[]
 |e::r,a=>Lx e a++CN r (B (a+J4 e 0))
def CM:aJ->Int->List eU
 | .mk var ax,a=>CO (.mk var ax) ax 0 a
def CO(x:aJ):List aI->Nat->Int->List eU
 |[],k,a=>[]
 | p::r,k,a=>match VE p a with
  |none=>CO x r (k+1) a
  |some l=>l++(j1 ln 6 (kr (kt vars ⟨x.var,x.ax.take k⟩)) 0::CO x r (k+1) (B (a+J6 p 0)))
def VE:aI->Int->Option (List eU)
 | .mk field aS,a=>VF aS a
def VF:List E->Int->Option (List eU)
 |[],_=>acL
 |e::_,a=>acK (Lx e a)
end
end
mutual
def sB:E->Nat
 | .mk kind n V op a_ place br=>1+nn place+l_ br
def l_:List E->Nat
 |[]=>0
 |e::r=>sB e+l_ r
def nn:aJ->Nat
 | .mk var ax=>np ax
def np:List aI->Nat
 |[]=>0
 |p::r=>sC p+np r
def sC:aI->Nat
 | .mk field aS=>1+l_ aS
end
def Mx:Nat:=1000000000
def VG(vars:List aB)(x:aJ):Prop:=(bG vars x).1=0/\((bG vars x).2.kind=1\/(bG vars x).2.kind=2)
def Ly(A:List eU)(pc:Nat)(l:List eU):Prop:=∀i x,l[i]?=acK x->A[pc+i]?=acK x
structure St(jB:List (Int×Int))(s:RS)(u:Nat):Prop where
 go:s.stop=acJ
 em:s.empty=acJ
 wz:s.want=J7
 fz:s.fin=0
 an:s.jB=jB.drop u
 le:u<=jB.length
structure LR(L:List (List UInt8×Nat))(ba:List (List UInt8×Int))(N:List Int):Prop where
 nm:ba.map (·.1)=L.map (·.1)
 vl:∀(i:Nat)(p:List UInt8×Nat)(l:List UInt8×Int),L[i]?=acK p->ba[i]?=acK l->N[p.2]?=acK l.2
 nd:(L.map (·.1)).Nodup
theorem Lz{o:Int}{x:List UInt8}:∀{L:List (List UInt8×Nat)},x∉L.map (·.1)->k5 o L x=o
 |[],_=>rfl
 | p::r,h=>by simp only[abG,aco,not_or]at h;unfold k5;rw[aaW,af (λe=>h.1 e.symm)];exact Lz h.2
theorem LA:∀{L:List (List UInt8×Nat)}{o:Int}{i:Nat}{p:List UInt8×Nat},(L.map (·.1)).Nodup->L[i]?=acK p->k5 o L p.1=p.2
 | q::r,o,0,p,hn,h=>by simp at h;subst h;simp only[abG,aet]at hn;unfold k5;rw[aaW,ab rfl];exact Lz hn.1
 | q::r,o,i+1,p,hn,h=>by simp only[abG,aet]at hn;unfold k5;rw[aaW];exact LA (i:=i) hn.2 (by simpa using h)
theorem LR.get{L:List (List UInt8×Nat)}{s:RS}{N:List Int}(h:LR L s.ba N){x:List UInt8}(a:x∈L.map (·.1)):∃k i,k5 (-1) L x=(k:Nat)/\N[k]?=acK (s.get x)/\L[i]?=acK (x,k)/\s.ba.findIdx? (λl=>l.1==x)=acK i:=by
 rw[<-h.nm]at a;obtain⟨i,hi⟩:=Vf a;obtain⟨l,h1,c,d,_⟩:=K9 hi;have hn:(L.map (·.1))[i]?=acK x:=by rw[<-h.nm,aba,h1,<-c];rfl
 rw[aba]at hn;cases hp:L[i]? with
 |none=>rw[hp]at hn;cases hn
 | some p=>
  rw[hp]at hn;have b:p.1=x:=by simpa using hn
  refine⟨p.2,i,?_,?_,?_,hi⟩
  ·rw[<-b];exact LA h.nd hp
  ·rw[d];exact h.vl i p l hp h1
  ·rw[<-b];exact hp
end Rb
