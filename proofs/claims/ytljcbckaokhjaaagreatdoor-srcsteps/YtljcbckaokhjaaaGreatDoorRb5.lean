/- A part of the proof (part 5): see the last text. -/
import Derived.Test.YtljcbckaokhjaaaGreatDoorRb4
set_option linter.unusedVariables false
set_option linter.unusedSimpArgs false
set_option linter.unusedSectionVars false
open BitVec renaming ofInt→AH
open Bool renaming and_eq_false_iff→adg, and_eq_true→ZL, and_true→adk, eq_iff_iff→abE, false_and→ac_, false_eq_true→abe, not_eq_false→acW, not_eq_true'→abr, not_eq_true→acV, not_true→ac1, or_eq_false_iff→abJ, true_and→ac9
open Classical renaming byContradiction→adN
open Decidable renaming not_not→ac3
open Function renaming comp→adf
open Go.IntKind renaming bits→ZT, signed→ZS, wrap→aaN
open Int renaming add_mul_ediv_left→adM, ediv_le_self→adA, ediv_nonneg→adz, emod_add_mul_ediv→adJ, emod_eq_of_lt→adQ, emod_lt_of_pos→ado, emod_nonneg→adp, le_of_lt→ady, le_refl→ada, le_trans→adb, mul_add→adO, mul_comm→adq, mul_le_mul→adt, mul_nonneg→ads, ne_of_gt→adK, sub_emod→adP, tdiv_eq_ediv_of_nonneg→adr, tdiv→adw, tmod_eq_emod_of_nonneg→adL, toNat_natCast→adF
open List renaming all_cons→ab4, all_nil→adj, any_cons→ac6, any_eq_false→adC, any_eq_true→abC, cons_append→abh, drop_length_add_append→adD, drop_succ_cons→acg, drop_zero→acy, drop→adE, ext_getElem?→adG, findIdx?_cons→acL, findIdx?→acM, flatMap_append→adH, flatMap_cons→ach, getElem?_append_right→acq, getElem?_cons_succ→aco, getElem?_cons_zero→acn, getElem?_eq_getElem→aav, getElem?_eq_none→abz, getElem?_eq_some_iff→ZF, getElem?_set→Z7, getElem?_take→ZH, length_append→acG, length_cons→ac7, length_eq_zero_iff→aaY, length_nil→ac8, length_set→abF, length_singleton→adi, length_take→ac2, map_append→adu, mem_cons_of_mem→abH, mem_cons_self→abK, mem_cons→abG, mem_map→abW, mem_of_getElem?→acK, mem_singleton→adB, prefix_refl→adx, sizeOf_lt_of_mem→acU, take_add_one→acQ, take_length→acz, take_of_length_le→acJ
open Nat renaming add_mul→aae, add_zero→aah, le_of_lt→adv, le_refl→hT, le_succ→aal, le_trans→h1, lt_succ_self→ab6, min_eq_left→adn, mul_one→adl, ne_of_lt→aap, zero_add→aar, zero_le→aad
open Ne renaming symm→adh
open Option renaming getD→adI, map_map→ade, map_none→adm, some→ZW
open Bool renaming false→ab0, true→abZ
open Option renaming none→ab2, some→ab1
namespace Rb
open Go
theorem yn(a b:Int):bI [J,J] [(0,1,D a),(1,1,D b)]=ab1 (.agg [D a,D b]):=rfl
theorem Tw(a:Int):bI [J,J] [(0,1,D a)]=ab1 (.agg [D a,J]):=rfl
theorem Tx(a l k b:Int):bI [J,J,J,av,J,J] [(0,2,.agg [D a,D l]),(2,1,D k),(3,1,aZ),(4,1,D b)]=ab1 (.agg [D a,D l,D k,aZ,D b,J]):=rfl
theorem Ty(a l k b w:Int):bI [J,J,J,av,J,J] [(0,2,.agg [D a,D l]),(2,1,D k),(3,1,aZ),(4,1,D b),(5,1,D w)]=ab1 (.agg [D a,D l,D k,aZ,D b,D w]):=rfl
theorem Tz(a l k:Int):bI [J,J,J,av,J,J] [(0,2,.agg [D a,D l]),(2,1,D k)]=ab1 (.agg [D a,D l,D k,av,J,J]):=rfl
theorem Ka(f:aL)(i j:Nat):aJ i (.ak (f.cells.drop j))=ab1 (.ak ((f.cells.drop j).drop i)):=rfl
theorem Kb(f:aL)(i:Nat):aJ i (.ak f.cells)=ab1 (.ak (f.cells.drop i)):=rfl
theorem TA(f:aL)(H:O):af H 1 ab0 (.ak (f.cells.drop 7))=ab1 (.bool f.bits):=by cases f with|mk n t b w=>cases t;rfl
theorem Cf(f:aL)(H:O):af H 1 ab0 (.ak (f.cells.drop 8))=ab1 (D f.bo):=by cases f with|mk n t b w=>cases t;rfl
theorem Kc(f:aL)(H:O):af H 1 ab0 (.ak ((f.cells.drop 1).drop 1))=ab1 (D f.type.size):=by cases f with|mk n t b w=>cases t;rfl
theorem Kd(i o:Nat):br (.ptr i o)=ab1 (.ptr i o):=rfl
section
variable{Φ:Z}{H0 H:O}{Q:ab}
theorem TB(M:Cl Φ S.cn){f:aL}{p:PL}{id:Nat}(c:fw H0 H id p)(hl:p.eh.length<1000)(g:B (8*f.type.size)≠0)(k:∀H',fw H0 H' id (l6 p f)->j8 H H' id->Q (.aH []) H'):S.f161 Φ (.ptr id 0) (.agg f.cells) H Q:=by
 unfold S.f161;simp only[ae];simp only[yk,aM,Kb,Ka,Kc,Cf,e2,bc,G,ai,Kd,aJ,aar];apply aF<;>intro h
 . have hw:f.bo=0:=by simpa using h
   simp only[c.oF,G];refine S.p2 M (p7 g ?_);refine c.sf _ λH1 a d=>?_;have i:=a.oF;simp only[i,G,jw _ _ _ (show(8:Int)≠0 by decide),iu _ _ _ (show(8:Int)≠0 by decide),Tw,Tx];refine a.app hl ⟨B ((c7 p.bit (B (8*f.type.size))).tdiv 8),0,1,abZ,(c7 p.bit (B (8*f.type.size))).tmod 8,0⟩ λl e j=>k l ?_ (d.trans j);unfold l6;rw[aa hw];exact e
 . have hw:¬f.bo=0:=by simpa using h
   simp only[c.oF,G,jw _ _ _ g,bu,dC,cJ,ai];have m:∀(b:Int)(H1:O),b=iw p f->fw H0 H1 id {p with bit:=b}->j8 H H1 id->V (S.xX Φ (.ptr id 0) (.ak f.cells) Q) [] H1:=by intro b H1 n a d;have i:=a.oF;simp only[ae,aw,S.xX,Kd,aJ,aar,G,i,jw _ _ _ (show(8:Int)≠0 by decide),iu _ _ _ (show(8:Int)≠0 by decide),Cf,bu,dC,yn,Ty];refine a.app hl ⟨B (b.tdiv 8),B (B (B ((B (B (b+f.bo)-1)).tdiv 8)-B (b.tdiv 8))+1),1,abZ,b.tmod 8,f.bo⟩ λl e j=>?_;have o:=e.oF;simp only[o,G,bu];refine e.sf _ λq r s=>k q ?_ ((d.trans j).trans s);unfold l6;rw[ad hw,<-n];exact r
   apply aF<;>intro h
   . refine S.p2 M (p7 g ?_);refine c.sf _ λH1 a d=>m _ H1 ?_ a d;unfold iw;rw[aa (by simpa using h)]
   . refine m p.bit H ?_ c (j8.refl _ _);unfold iw;rw[ad (by simpa using h)]
theorem TC{t:ay}{f:aL}{bF:Int}(a:Q (D (fv t.packed f bF)) H):S.f160 Φ (.agg t.cells) (.agg f.cells) (D bF) H Q:=by
 have fin:∀v,v=fv t.packed f bF->Q (D v) H:=λv h=>by rw[h];exact a
 clear a;unfold S.f160;simp only[ae];simp only[ae,gr,yk,aM,cN,l3,Kb,TA,Cf,bc,G,b4,bR,aw,S.xW,aq,ai,Ka,Kc,abe,cc,aQ];unfold fv at fin
 repeat' (apply aF<;>intro h)
 all_goals (refine fin _ ?_;simp_all)
end
def mO(r:(Int×Int)×Bool):I:= .aH [.agg [D r.1.1,D r.1.2],.bool r.2]
theorem yo{packed:Bool}:∀{l:List aL}{seen:List (List UInt8)},fJ packed seen l=0->∀f∈l,f.bits=abZ->f.type.kind=1/\1<=f.type.size/\f.type.size<=8
 |[],_,_,f,hf=>by cases hf
 | g :: r, seen,h,f,hf=>by
  intro c;have hs:=oB h f hf;simp only[fJ]at h;have a:gE packed seen g=0:=by
   by_cases b:gE packed seen g=0
   ·exact b
   ·rw[aa b]at h;exact absurd h b
  rw[ad (by simpa using a)]at h;rcases abG.1 hf with rfl|hf
  . have hk : f.type.kind=1:=by
      by_cases hk:f.type.kind=1
      ·exact hk
      . exfalso;rw[k8]at a;split at a
        ·cases a
        . split at a
          ·cases a
          . split at a
            ·rename_i b;exact b a
            ·rw[aa (.inr ⟨c,.inl hk⟩)]at a;cases a
    refine⟨hk,?_⟩;rw[gF,hk]at hs;split at hs
    ·cases hs
    . simp only[aQ]at hs;split at hs
      . rename_i d;simp[ep]at d;omega
      ·cases hs
  ·exact yo h f hf c
theorem yp{t:ay}(h:dc t=0)(hk:t.kind=3\/t.kind=4):fJ t.packed [] t.aG=0:=by
 rw[gF]at h;have a:t.kind≠1:=by omega
 have b:t.kind≠2:=by omega
 have c:t.kind≠5:=by omega
 rw[ad a,ad b,ad c]at h;split at h
 ·cases h
 . split at h
   ·cases h
   ·exact h
theorem Ke(a b:Int):hj abZ [D a,D b]=ab1 (D (max a b)):=B4 a b
section
variable{Φ:Z}{H:O}{Q:ab}
def iY:List I:=[J,J,Y,J]
theorem Kf(M:Cl Φ S.cn){t:ay}(hs:dc t=0)(hk:t.kind=3\/t.kind=4)
  (aj:∀f∈t.aG,bX Φ 101 [.agg f.type.cells] (mO (a_ f.type))) (al:∀f∈t.aG,(a_ f.type).2=abZ->1<=(a_ f.type).1.2)
  (am:ei t.packed t.kind ⟨0,1,[],0⟩ t.aG=ab2->∀H',O.Ext H H'->Q (.aH [.agg iY,av]) H')
  (an:∀p,ei t.packed t.kind ⟨0,1,[],0⟩ t.aG=ab1 p->∀x H',jN H H' 6 x p.eh.length (p.eh.flatMap bM.cells) ->
    Q (.aH [.agg [D (c7 p.size p.bF),D p.bF,x,D p.bit],.bool (decide (c7 p.size p.bF<=65536))]) H'):S.f132 Φ (.agg t.cells) H Q:=by
 obtain⟨a4,hlen⟩:=mM hs hk;have N:=yp hs hk;unfold S.f132;simp only[ae];have ao:bI [J,J,Y,J] [(0,2,.agg [J,D 1])]=ab1 (.agg [J,D 1,Y,J]):=rfl;simp only[gr,aM,bx,aQ,yn,ao,G];rw[bU _ _ _ 4 rfl rfl rfl];simp only[G,cN,gh,bP];have a3:At ((H.push (.row iY)).push (.row [J,D 1,Y,J])) H.n (.row iY):=(At.new H _).push _;have ap:fw H ((H.push (.row iY)).push (.row [J,D 1,Y,J])) (H.push (.row iY)).n ⟨0,1,[],0⟩:=⟨_,At.new _ _,((jN.nil H 6).push _).push _,aal _⟩
 have d:H.n≠(H.push (.row iY)).n:=by simp
 have P:H.n<=H.n:=hT _;change au (S.ou Φ (.ak t.cells) (.ptr H.n 0) (.ptr (H.push (.row iY)).n 0) (aD aL.cells t.aG) (D t.aG.length) Q) ([J],(H.push (.row iY)).push (.row [J,D 1,Y,J]));generalize ((H.push (.row iY)).push (.row [J,D 1,Y,J]))=ar at *;generalize (H.push (.row iY)).n=a at *;have main : ∀(fs:List aL)(i:Nat)(p:PL)(H1:O),t.aG.drop i=fs->At H1 H.n (.row iY)->fw H H1 a p->p.eh.length<=i->1<=p.bF->ei t.packed t.kind p fs=ei t.packed t.kind ⟨0,1,[],0⟩ t.aG ->
   au (S.ou Φ (.ak t.cells) (.ptr H.n 0) (.ptr a 0) (aD aL.cells t.aG) (D t.aG.length) Q) ([D i],H1):=by
  intro fs;induction fs with
  | nil=>
   intro i p H1 A b3 m ax az g;have hle:=dx A;simp only[ei]at g;refine au.step ?_;simp only[ae,S.ou,aq,aX,G,ai];rw[dg];simp only[ae,aw,S.IJ,aJ,aar,G,m.se,m.ym];refine S.p2 M (p7 (by omega) ?_);refine m.J_ _ λo s hk=>?_;have c3:=hk H.n _ d b3;obtain⟨x,d1,d2,d3⟩:=s;have C:x.scalar=abZ:=by obtain⟨_,tk,rfl,_⟩:=d2;rfl
   rw[d1.all (n:=4) rfl];simp only[G];have aA:af o 1 ab0 (.ptr a 0)=ab1 (D (c7 p.size p.bF)):=by rw[d1.load];rfl
   rw[aA];simp only[G,hO];rw[c3.put (n:=4) rfl rfl (by simp only[ab4,C];rfl)];simp only[G];refine⟨by rw[(d1.bq (λe=>d e.symm) _).load];rfl,?_⟩;rw[(c3.set _).all (n:=4) rfl];simp only[G];exact an p g.symm x _ (d2.other c3 P _)
  | cons f fs aB=>
   intro i p H1 A b3 m ax az g;obtain⟨aC,hf,aE⟩:=di A;have u:=acK hf;simp only[ei,oE]at g;refine au.step ?_;simp only[ae,S.ou,aq,aX,G,ai];rw[cp,cG aC];simp only[G];rw[dH aL.len (by decide) _ hf];simp only[G,aM,bx,aQ];rw[bU _ _ _ 9 f.len f.scalar rfl];simp only[G,aJ,aar];rw[fI,x_];simp only[G];have R:a≠H1.n:=by obtain⟨x,d1,_⟩:=m;exact d1.hP
   have aI:=At.new H1 (.row f.cells);have c3:=b3.push (.row f.cells);have s:=m.push (.row f.cells);generalize H1.push _=o at *;generalize H1.n=q at *;refine aj f u _ _ ?_;simp only[mO,bL,acn,aco,G,aM];rw[bU _ _ _ 2 rfl rfl rfl];simp only[G,c_,ai];have E:a≠o.n:=by obtain⟨x,d1,_⟩:=s;exact d1.hP
   have d31:=At.new o (.row [D (a_ f.type).1.1,D (a_ f.type).1.2]);have d22:=aI.push (.row [D (a_ f.type).1.1,D (a_ f.type).1.2]);have d3:=c3.push (.row [D (a_ f.type).1.1,D (a_ f.type).1.2]);have d7:=s.push (.row [D (a_ f.type).1.1,D (a_ f.type).1.2]);generalize o.push _=aK at *;generalize o.n=j at *;apply aF<;>intro h
   . have aN:(a_ f.type).2=ab0:=by simpa using h
     rw[ad (by simp[aN])]at g;have aO:bI [J,J,Y,J] []=ab1 (.agg iY):=rfl;rw[aO];simp only[G];rw[d3.put (n:=4) rfl rfl rfl];simp only[G];rw[(d3.set _).all (n:=4) rfl];simp only[G];obtain⟨a5,_,⟨C,_⟩,_⟩:=d7;exact am g.symm _ (C.set P _)
   . have T:(a_ f.type).2=abZ:=by simpa using h
     rw[aa T]at g;have aP:=al f u T;have aR:af aK 1 ab0 (.ptr j 1)=ab1 (D (a_ f.type).1.2):=by rw[d31.load];rfl
     simp only[jx,d22.all f.len,aR,G];have a6:1<=fv t.packed f (a_ f.type).1.2:=by
      unfold fv;split
      ·omega
      . split
        ·rename_i v;exact(yo N f u v).2.1
        ·exact aP
     refine S.Sd M (TC ?_);simp only[d7.ym,G,Ke];refine d7.Tv _ λaS U w=>?_;have V:=w H.n _ d d3;have W:=w q _ (λe=>R e.symm) d22;have X:=w j _ (λe=>E e.symm) d31;clear w d7 d3 d22 d31;have Z:∀(b:Int)(c:O),b=(if t.kind=4 then 0 else p.bit)->fw H c a {p with bF:=max p.bF (fv t.packed f (a_ f.type).1.2),bit:=b}->At c H.n (.row iY)->At c q (.row f.cells)->At c j (.row [D (a_ f.type).1.1,D (a_ f.type).1.2]) ->
       S.xF Φ (.ptr a 0) (.ptr q 0) (.ptr j 0) (D (fv t.packed f (a_ f.type).1.2)) ([D i],H1) (au (S.ou Φ (.ak t.cells) (.ptr H.n 0) (.ptr a 0) (aD aL.cells t.aG) (D t.aG.length) Q)) Q [] c:=by
      intro b c v g7 g3 g22 ab;have ac:∀(r:PL)(k:O),l7 r=iy t.packed t.kind p f (a_ f.type).1->fw H k a r->At k H.n (.row iY)->r.eh.length<=i+1->1<=r.bF ->
        S.xE Φ (.ptr a 0) ([D i],H1) (au (S.ou Φ (.ak t.cells) (.ptr H.n 0) (.ptr a 0) (aD aL.cells t.aG) (D t.aG.length) Q)) Q [] k:=by
       intro r k aT l aU aV aW;simp only[ae,S.xE,aJ,aar,G,l.se,l.oF];refine S.p2 M (p7 (by decide) ?_);refine⟨l.se,?_⟩;simp only[jw _ _ _ (show(8:Int)≠0 by decide),G,Ke];refine l.J_ _ λF I K=>?_;simp only[ae,aw,S.II,aq,bu,G];rw[bD,fq i];refine aB (i+1) (l7 r) F aE (K H.n _ d aU) I aV aW ?_;rw[aT];exact g
      have ag:1<=max p.bF (fv t.packed f (a_ f.type).1.2):=by omega
      have aY:af c 1 ab0 (.ptr q 7)=ab1 (.bool f.bits):=by rw[g22.load,B2]
      simp only[ae,S.xF,aJ,aar,G,aY,ai];apply aF<;>intro y
      . obtain ⟨a7,a8,a9⟩:=yo N f u y;have hu:B (8*f.type.size)≠0:=by
         show aaN .i64 (8*f.type.size)≠0;rw[bD];omega
        rw[g22.all f.len];simp only[G];refine S.Se M (TB M g7 (by show p.eh.length<1000;omega) hu λk l z=>?_);simp only[aw];refine ac _ k ?_ l (z H.n _ d g3) ?_ ?_
        . unfold iy;simp only[y,aQ,v]
        . unfold l6;split<;>(simp only[acG,ac7,ac8];omega)
        . unfold l6;split<;>exact ag
      . simp only[acV]at y;have aZ:af c 1 ab0 (.ptr j 0)=ab1 (D (a_ f.type).1.1):=by rw[ab.load];rfl
        have a0:af c 1 ab0 (.ptr q 1)=ab1 (D f.type.kind):=by rw[g22.load,B3]
        simp only[g7.oF,G];refine S.p2 M (p7 (by decide) ?_);simp only[jw _ _ _ (show(8:Int)≠0 by decide),G];refine S.p2 M (p7 (by omega) ?_);simp only[aZ,a0,G,yn,Tz];refine g7.app (by show p.eh.length<1000;omega) ⟨c7 (B ((c7 b 8).tdiv 8)) (fv t.packed f (a_ f.type).1.2),(a_ f.type).1.1,f.type.kind,ab0,0,0⟩ λk l z=>?_;have a1:=z j _ (λe=>E e.symm) ab;have a2:af k 1 ab0 (.ptr j 0)=ab1 (D (a_ f.type).1.1):=by rw[a1.load];rfl
        simp only[a2,G,bu,e2];refine l.sf _ λF I K=>?_;simp only[aw];refine ac _ F ?_ I (K H.n _ d (z H.n _ d g3)) ?_ ag
        . unfold iy;simp only[y,abe,cc,v];rfl
        . show(p.eh++[_]).length<=i+1;simp only[acG,ac7,ac8];omega
     simp only[cN,iX,bc,G,ai,aw];apply aF<;>intro ah
     . refine U.sf _ λc g7 L=>Z _ c ?_ g7 (L H.n _ d V) (L q _ (λe=>R e.symm) W) (L j _ (λe=>E e.symm) X);rw[aa (by simpa using ah)]
     . refine Z p.bit aS ?_ U V W X;rw[ad (by simpa using ah)]
 exact main t.aG 0 _ ar rfl a3 ap (hT _) (by decide) rfl
end
theorem p8{t:ay}(h:dc t=0):t.kind=1\/t.kind=2\/t.kind=5\/t.kind=3\/t.kind=4:=by
 rw[gF]at h;split at h
 ·cases h
 . rename_i ho;simp only[acW]at ho;unfold gq at ho;by_cases U:t.kind=1
   ·exact .inl U
   by_cases a:t.kind=2
   ·exact .inr (.inl a)
   by_cases b:t.kind=3
   ·exact .inr (.inr (.inr (.inl b)))
   by_cases c:t.kind=4
   ·exact .inr (.inr (.inr (.inr c)))
   by_cases d:t.kind=5
   ·exact .inr (.inr (.inl d))
   simp[U,a,b,c,d]at ho
section
variable{Φ:Z}{H:O}{Q:ab}
theorem Cg:bI [J,J] []=ab1 (.agg [J,J]):=rfl
theorem TD(M:Cl Φ S.cn){t:ay}(hs:dc t=0)
  (A:∀f∈t.aG,bX Φ 101 [.agg f.type.cells] (mO (a_ f.type))) (C:∀f∈t.aG,(a_ f.type).2=abZ->1<=(a_ f.type).1.2)
  (E:∀e∈t.bf,bX Φ 101 [.agg e.cells] (mO (a_ e))) (q:∀H',Q (mO (a_ t)) H'):S.f101 Φ (.agg t.cells) H Q:=by
 have fin:∀r,r=a_ t->∀H',Q (mO r) H':=λr h=>by rw[h];exact q
 clear q;rw[j7]at fin;unfold S.f101;simp only[ae];simp only[gr,aM,bx,aQ,cN,iX,bc,G,ai];have a3:=At.new H (.row [J,J]);generalize H.push _=c at *;generalize H.n=s at *;have u : ∀b:Bool,(b=abZ↔(t.kind=1\/t.kind=2))->V (S.xr Φ (.ak t.cells) (.ptr s 0) (D t.kind) Q) [.bool b] c:=by
  intro b v;simp only[ae,aw,S.xr,aq,ai];apply aF<;>intro h
  . have d:=v.1 h;rw[aa d]at fin;simp only[cN,k6,G,yn];rw[a3.put (n:=2) rfl rfl rfl];simp only[G];rw[(a3.set _).all (n:=2) rfl];simp only[G];exact fin _ rfl _
  . have d:¬(t.kind=1\/t.kind=2):=λy=>h (v.2 y);rw[ad d]at fin;simp only[bc,G,ai];apply aF<;>intro h
    . have g:t.kind=5:=by simpa using h
      rw[aa g]at fin;obtain⟨e,he,_⟩:=l5 hs g;simp only[cN,hB,G];have F:aP ab2 6 (aD ay.cells t.bf) (J)=ab1 (eP ay.cells 6 t.bf 0):=cG (by rw[he];simp);rw[F];simp only[G];rw[dH ay.len (by decide) _ (show t.bf[0]?=ab1 e by rw[he];rfl)];simp only[G];refine E e (by rw[he];simp) _ _ ?_;rw[he]at fin;simp only[j6]at fin;simp only[mO,bL,acn,aco,G,aM,bx,aQ];rw[bU _ _ _ 2 rfl rfl rfl];simp only[G,aJ,aar,cN,nt];have w:s≠c.n:=a3.hP;have l:=At.new c (.row [D (a_ e).1.1,D (a_ e).1.2]);have b3:=a3.push (.row [D (a_ e).1.1,D (a_ e).1.2]);generalize c.push _=k at *;generalize c.n=i at *;have l1:af k 1 ab0 (.ptr i 0)=ab1 (D (a_ e).1.1):=by rw[l.load];rfl
      simp only[l1,G,e2];have s1:bZ k 1 (.ptr i 0) (D (B ((a_ e).1.1*t.bO)))=ab1 (k.set i (.row [D (B ((a_ e).1.1*t.bO)),D (a_ e).1.2])):=by rw[l.store,aa ⟨rfl,rfl,rfl,by simp⟩];rfl
      rw[s1];simp only[G];have m:=l.set (.row [D (B ((a_ e).1.1*t.bO)),D (a_ e).1.2]);have c3:=b3.bq w (.row [D (B ((a_ e).1.1*t.bO)),D (a_ e).1.2]);generalize k.set i (.row [D (B ((a_ e).1.1*t.bO)),D (a_ e).1.2])=I at *;rw[m.all (n:=2) rfl];have l2:af I 1 ab0 (.ptr i 0)=ab1 (D (B ((a_ e).1.1*t.bO))):=by rw[m.load];rfl
      simp only[G,bR];apply aF<;>intro h
      . simp only[l2,G,hO];rw[c3.put (n:=2) rfl rfl rfl];simp only[G];refine⟨λ_=>?_,?_⟩
        ·rw[(m.bq w.symm _).load];rfl
        . rw[(c3.set _).all (n:=2) rfl];simp only[G];exact fin ((B ((a_ e).1.1*t.bO),(a_ e).1.2),decide (B ((a_ e).1.1*t.bO)<=65536)) (by rw[h,ac9];rfl) _
      . simp only[acV]at h;rw[c3.put (n:=2) rfl rfl rfl];simp only[G];refine And.intro (λy=>nomatch y) ?_;rw[(c3.set _).all (n:=2) rfl];simp only[G];exact fin ((B ((a_ e).1.1*t.bO),(a_ e).1.2),ab0) (by rw[h,ac_]) _
    . have g:¬t.kind=5:=by simpa using h
      rw[ad g]at fin;have hk:t.kind=3\/t.kind=4:=by
       rcases p8 hs with h|h|h|h
       ·exact absurd (.inl h) d
       ·exact absurd (.inr h) d
       ·exact absurd h g
       ·exact h
      simp only[ae,aw,S.Ik,jx,G];refine S.JF M (Kf M hs hk A C ?_ ?_)
      . intro hn H' o;rw[hn]at fin;simp only[bL,acn,aco,G,aM,bx,aQ];rw[bU _ _ _ 4 rfl rfl rfl];simp only[G,aJ,aar];rw[fI];have tk:bY iY 0 2 abZ=ab1 (.agg [J,J]):=rfl;rw[tk];simp only[G];have j:=(a3.ext o).push (.row iY);rw[j.put (n:=2) rfl rfl rfl];simp only[G];rw[(j.set _).all (n:=2) rfl];simp only[G];exact fin ((0,0),ab0) rfl _
      . intro p K x H' z;rw[K]at fin;have o:=z.1;have L:x.scalar=abZ:=by obtain⟨_,tk,rfl,_⟩:=z;rfl
        simp only[bL,acn,aco,G,aM,bx,aQ];rw[bU _ _ _ 4 rfl (by simp only[ab4,L];rfl) rfl];simp only[G,aJ,aar];rw[fI];have tk:bY [D (c7 p.size p.bF),D p.bF,x,D p.bit] 0 2 abZ=ab1 (.agg [D (c7 p.size p.bF),D p.bF]):=rfl;rw[tk];simp only[G];have j:=(a3.ext o).push (.row [D (c7 p.size p.bF),D p.bF,x,D p.bit]);rw[j.put (n:=2) rfl rfl rfl];simp only[G];rw[(j.set _).all (n:=2) rfl];simp only[G];exact fin ((c7 p.size p.bF,p.bF),decide (c7 p.size p.bF<=65536)) rfl _
 apply aF<;>intro h
 ·exact u _ ⟨λ_=> .inl (by simpa using h),λ_=>h⟩
 . refine u _ ⟨λa=> .inr (by simpa using a),λa=>?_⟩;rcases a with a|a
   ·exact absurd (by simpa using a) h
   ·simpa using a
end
theorem TE(packed:Bool)(kind:Int)(p:PL)(f:aL)(g:Int×Int):p.bF<=(iy packed kind p f g).bF:=by
 have h:(iy packed kind p f g).bF=max p.bF (fv packed f g.2):=by
  unfold iy;simp only;split
  . unfold l7 l6;split<;>rfl
  ·rfl
 rw[h];omega
theorem Kg{packed:Bool}{kind:Int}:∀{l:List aL}{p q:PL},ei packed kind p l=ab1 q->p.bF<=q.bF
 |[],p,q,h=>by simp only[ei,ZW.injEq]at h;rw[h];exact ada _
 | f::r,p,q,h=>by
  simp only[ei]at h;split at h
  ·exact adb (TE packed kind p f _) (Kg h)
  ·cases h
theorem Ch:∀t:ay,dc t=0->(a_ t).2=abZ->1<=(a_ t).1.2:=by
 refine ay.ind λt g d hs h=>?_;rw[j7]at h ⊢;split at h
 . rename_i b;rw[aa b];rw[gF]at hs;split at hs
   ·cases hs
   . have a:ep t.size 8=abZ\/ep t.size 16=abZ:=by
       rcases b with U|U
       . rw[aa U]at hs;split at hs
         ·exact .inl ‹_›
         ·cases hs
       . rw[bg,aa U]at hs;split at hs
         ·exact .inr ‹_›
         ·cases hs
     show 1<=t.size;rcases a with a|a<;>(simp[ep]at a;omega)
 . rename_i b;rw[ad b];split at h
   . rename_i c;rw[aa c];obtain⟨e,he,f⟩:=l5 hs c;rw[he]at h ⊢;simp only[j6,ZL]at h ⊢;exact d e (by rw[he];simp) f h.1
   . rename_i c;rw[ad c];cases a:ei t.packed t.kind ⟨0,1,[],0⟩ t.aG with
     |none=>rw[a]at h;cases h
     |some p=>exact Kg a
section
variable{C:Ctx}(ar:cY C)(M:Cl (ag C) S.cn)
include ar M
theorem Kh:∀t:ay,dc t=0->bX (ag C) 101 [.agg t.cells] (mO (a_ t)):=by
 refine ay.ind λt b c hs=>?_;refine bX.of ar (by simp[I.cD,I.cj,ay.cj]) rfl λQ d=>S.RH M ?_;have ho:gq t.kind t.size t.packed t.aG.length t.bO t.bf.length=abZ:=by
  rw[gF]at hs;split at hs
  ·cases hs
  ·rename_i h;simpa using h
 unfold gq at ho;have a:∀f∈t.aG,dc f.type=0:=by
  intro f hf;rcases p8 hs with h|h|h|h
  . simp only[h,true_or,aQ,ZL,cq,aaY]at ho;rw[ho.1.1.2]at hf;cases hf
  . simp only[h,or_true,aQ,ZL,cq,aaY]at ho;rw[ho.1.1.2]at hf;cases hf
  . rw[bg,bg,aa h]at ho;simp only[ZL,cq,aaY]at ho;rw[ho.1.2]at hf;cases hf
  ·exact(mM hs h).1 f hf
 have g:∀e∈t.bf,dc e=0:=by
  intro e he;rcases p8 hs with h|h|h|h
  . simp only[h,true_or,aQ,ZL,cq,aaY]at ho;rw[ho.2]at he;cases he
  . simp only[h,or_true,aQ,ZL,cq,aaY]at ho;rw[ho.2]at he;cases he
  . obtain⟨k,i,j⟩:=l5 hs h;rw[i]at he;rcases abG.1 he with rfl|he
    ·exact j
    ·cases he
  . rw[bg,aa h]at ho;simp only[ZL,cq,aaY]at ho;rw[ho.2]at he;cases he
 exact TD M hs (λf hf=>b f hf (a f hf)) (λf hf=>Ch f.type (a f hf)) (λe he=>c e he (g e he)) d
end
def bT(t:ay):(Int×Int)×Int:=if dW t≠0 then((0,0),dW t)else if fe t=abZ then((0,0),10)else if(a_ t).2=ab0 then((0,0),9)else((a_ t).1,0)
theorem hC{t:ay}(h:dW t=0):dc t=0:=by
 unfold dW at h;split at h
 ·cases h
 ·exact h
section
variable{C:Ctx}(ar:cY C)(M:Cl (ag C) S.cn)
include ar M
theorem Ki(t:ay)(ht:t.ok){H:O}{Q:ab}(b:∀H',Q (.aH [.agg [D (bT t).1.1,D (bT t).1.2],D (bT t).2]) H'):S.f73 (ag C) (.agg t.cells) H Q:=by
 have fin:∀r,r=bT t->∀H',Q (.aH [.agg [D r.1.1,D r.1.2],D r.2]) H':=λr h=>by rw[h];exact b
 clear b;unfold bT at fin;unfold S.f73;simp only[ae];simp only[gr,aM,bx,aQ,jx,G];have a3:=At.new H (.row [J,J]);generalize H.push _=a at *;generalize H.n=d at *;refine J1 ar M t ht _ _ ?_;simp only[cJ,G,ai];apply aF<;>intro h
 . have hs:dW t≠0:=by simpa using h
   rw[aa hs]at fin;simp only[Cg,G];rw[a3.put (n:=2) rfl rfl rfl];simp only[G];rw[(a3.set _).all (n:=2) rfl];simp only[G];exact fin _ rfl _
 . have hs:dW t=0:=by simpa using h
   rw[ad (by simpa using hs)]at fin;refine Tt M t ht _ _ ?_;simp only[ai];apply aF<;>intro h
   . rw[aa h]at fin;simp only[Cg,G];rw[a3.put (n:=2) rfl rfl rfl];simp only[G];rw[(a3.set _).all (n:=2) rfl];simp only[G];exact fin _ rfl _
   . rw [ad h]at fin;refine Kh ar M t (hC hs) _ _ ?_;simp only[mO,bL,acn,aco,G,aM,bx,aQ];rw[bU _ _ _ 2 rfl rfl rfl];simp only[G,c_,ai];have c:=At.new a (.row [D (a_ t).1.1,D (a_ t).1.2]);have b3:=a3.push (.row [D (a_ t).1.1,D (a_ t).1.2]);generalize a.push _=e at *;generalize a.n=f at *;apply aF<;>intro h
     . rw[aa (by simpa using h)]at fin;simp only[Cg,G];rw[b3.put (n:=2) rfl rfl rfl];simp only[G];rw[(b3.set _).all (n:=2) rfl];simp only[G];exact fin _ rfl _
     . rw[ad (by simpa using h)]at fin;rw[c.all (n:=2) rfl];simp only[G];rw[b3.put (n:=2) rfl rfl rfl];simp only[G];rw[(b3.set _).all (n:=2) rfl];simp only[G];exact fin _ rfl _
theorem Ci(t:ay)(ht:t.ok):bX (ag C) 45 [.agg t.cells] (.aH [D (bT t).1.1,D (bT t).1.2,D (bT t).2]):=by refine bX.of ar (by simp[I.cD,I.cj,ay.cj]) rfl λQ a=>S.QZ M ?_;unfold S.f45;simp only[ae];simp only[gr,aM,jx,G];refine S.JB M (Ki ar M t ht λH'=>?_);simp only[bL,acn,aco,G,aM,bx,aQ];rw[bU _ _ _ 2 rfl rfl rfl];simp only[G,aJ,aar,fI];exact⟨_,rfl,_,rfl,a _⟩
end
structure be where
 f:List (List UInt8)
 lets:Int
 X:Int
 hQ:Int
 bb:Int
def be.cx(s:be)(a:Bool)(e:Int):be:=if a=ab0/\s.bb=0 then {s with hQ:=s.X,bb:=e} else s
def be.back(s:be)(n:Nat):be:={s with f:=s.f.take n}
def be.at(s:be)(l:Int):be:={s with X:=l}
def be.l8(s:be)(x:List UInt8):be:={s with f:=s.f++[x],lets:=B (s.lets+1)}
def be.has(s:be)(x:List UInt8):Bool:=s.f.any λy=>x==y
def fS(k o:Int):Bool:=
 if k=4\/k=6 then o==1||o==3||o==4
 else if k=5\/k=15 then o==1||o==2||o==4
 else if k=16\/k=17\/k=18 then decide (1<=o)&&decide (o<=4)
 else if k=7 then decide (2<=o)&&decide (o<=4)
 else o==0
def fx(x:aR):Bool:=x.var==[]&&x.aE.length==0
def ec(k:Int):Bool×Bool×Bool×Int×Bool×Bool:=
 if k=1\/k=2 then(abZ,ab0,ab0,1,ab0,ab0)
 else if k=3\/k=4 then(ab0,ab0,abZ,1,ab0,ab0)
 else if k=5 then(abZ,abZ,abZ,0,ab0,ab0)
 else if k=6 then(ab0,ab0,abZ,2,ab0,ab0)
 else if k=7 then(ab0,ab0,ab0,0,ab0,ab0)
 else if k=8 then(ab0,ab0,ab0,1,abZ,abZ)
 else if k=9 then(ab0,ab0,ab0,1,abZ,ab0)
 else(ab0,ab0,ab0,1,ab0,ab0)
def gu(x:ax):Bool:=decide (1<=x.kind)&&decide (x.kind<=10)&&((ec x.kind).1||x.name==[])&&((ec x.kind).2.1||x.bW==[])&&((ec x.kind).2.2.1||fx x.place)&&((x.aC.length:Int)==(ec x.kind).2.2.2.1)&&((ec x.kind).2.2.2.2.1||x.aK.length==0)&&((ec x.kind).2.2.2.2.2||x.bB.length==0)
def gi(k:Int):Int×Bool:=if k=3 then(2,ab0)else if k=4\/k=5 then(0,abZ)else if k=6\/k=7 then(1,abZ)else if k=8 then(2,abZ)else(0,ab0)
def gG(e:N):Bool:=decide (1<=e.kind)&&decide (e.kind<=8)&&(e.kind==1||e.n==0)&&(e.kind==2||e.name==[])&&(if e.kind=3 then decide (1<=e.op)&&decide (e.op<=11)else e.op==0)&&((gi e.kind).2||fx e.place)&&((e.aY.length:Int)==(gi e.kind).1)
def gj(k:Int)(t:ay):Bool:=if k=3\/k=14 then t.kind==1 else if k=5\/k=6 then t.kind==2&&t.size==16 else t.kind==2&&decide (t.size<=8)
section
variable(vars:List aA)
def jy(s:be)(k:Int)(x:aR):be:=
 let s1:=s.cx ((bQ vars x).1==0) (bQ vars x).1
 s1.cx (s1.bb != 0||gj k (bQ vars x).2) 8
def dX(s:be)(d:Int)(e:N):be:=((s.cx (decide (d<=64)) 5).cx (gG e) 4).cx (fS (B (10+e.kind)) e.aB) 11
mutual
def iZ(s:be)(d:Int):N->be
 | .mk kind n name op aB place aY=>
  if(dX s d (.mk kind n name op aB place aY)).bb≠0 then dX s d (.mk kind n name op aB place aY)
  else dt (if kind>=4 then gP (if kind=2 then(dX s d (.mk kind n name op aB place aY)).cx ((dX s d (.mk kind n name op aB place aY)).has name) 6 else dX s d (.mk kind n name op aB place aY)) (B (10+kind)) d place
    else(if kind=2 then(dX s d (.mk kind n name op aB place aY)).cx ((dX s d (.mk kind n name op aB place aY)).has name) 6 else dX s d (.mk kind n name op aB place aY))) d aY
def dt(s:be)(d:Int):List N->be
 |[]=>s
 |e::r=>dt (if s.bb≠0 then s else iZ s (B (d+1)) e) d r
def gP(s:be)(k:Int)(d:Int):aR->be
 | .mk var aE=>if s.bb≠0 then s else e4 (jy vars s k (.mk var aE)) d aE
def e4(s:be)(d:Int):List aO->be
 |[]=>s
 |p::r=>e4 (j9 s d p) d r
def j9(s:be)(d:Int):aO->be
 | .mk field aV=>fU s d aV
def fU(s:be)(d:Int):List N->be
 |[]=>s
 |e::r=>fU (iZ s (B (d+1)) e) d r
end
variable(kw:List UInt8->Bool)
def eE(s:be)(d:Int)(x:ax):be:=((s.cx (decide (d<=64)) 5).cx (gu x) 4).cx (fS x.kind x.aB) 11
def ej(s:be)(d:Int)(x:ax):be:=
 if x.kind=1 then((s.cx (en x.name&&!kw x.name) 6).cx (!s.has x.name) 7).cx (decide (s.lets<40)) 12
 else if x.kind=2 then s.cx (s.has x.name) 6
 else if x.kind=3\/x.kind=4\/x.kind=5\/x.kind=6 then gP vars s x.kind d x.place
 else s
def gv(s:be)(x:ax):be:=
 if x.kind=1 then s.l8 x.name
 else if x.kind=5 then((s.cx (s.has x.name) 6).cx (s.has x.bW) 6).cx (!(x.name==x.bW)) 7
 else s
def dJ(s:be)(d:Int)(x:ax):be:=gv (dt vars (ej vars kw (eE s d x) d x) d x.aC) x
mutual
def stM(s:be)(d:Int):ax->be
 | .mk kind X name bW aB place aC aK bB=>
  eR ((eR (dJ vars kw s d (.mk kind X name bW aB place aC aK bB)) (dJ vars kw s d (.mk kind X name bW aB place aC aK bB)).f.length (B (d+1)) aK).at X)
   (((eR (dJ vars kw s d (.mk kind X name bW aB place aC aK bB)) (dJ vars kw s d (.mk kind X name bW aB place aC aK bB)).f.length (B (d+1)) aK).at X).f.length) (B (d+1)) bB
def eR(s:be)(n:Nat)(d:Int):List ax->be
 |[]=>s.back n
 |x::r=>eR (if s.bb≠0 then s else stM (s.at x.X) d x) n d r
end
def er(s:be)(d:Int)(l:List ax):be:=eR vars kw s s.f.length d l
def l9(a:List (List UInt8))(b:Int):List aA->Int
 |[]=>if b>65536 then 9 else 0
 | v::r=>if en v.name=ab0\/kw v.name=abZ then 6 else if a.contains v.name=abZ then 7
  else if(bT v.type).2≠0 then(bT v.type).2 else l9 (a++[v.name]) (B (c7 b (bT v.type).1.2+(bT v.type).1.1)) r
end
section
variable(kw:List UInt8->Bool)
def jz(a:List aA):Int:=if 32<a.length then 12 else l9 kw [] 0 a
def s0:be:=⟨[],0,0,0,0⟩
def k9(vars:List aA):List (List ax)->Int×Int
 |[]=>(0,0)
 |t::r=>if(er vars kw s0 1 t).bb≠0 then((er vars kw s0 1 t).hQ,(er vars kw s0 1 t).bb)else k9 vars r
def dz(p:dy):Int×Int:=
 if 32<p.vars.length\/p.b6.length<1\/8<p.b6.length then(0,12)
 else if jz kw p.vars≠0 then(0,jz kw p.vars)else k9 kw p.vars p.b6
end
theorem Cj(vars:List aA)(s:be)(d:Int)(e:N):iZ vars s d e=if(dX s d e).bb≠0 then dX s d e
  else dt vars (if e.kind>=4 then gP vars (if e.kind=2 then(dX s d e).cx ((dX s d e).has e.name) 6 else dX s d e) (B (10+e.kind)) d e.place else(if e.kind=2 then(dX s d e).cx ((dX s d e).has e.name) 6 else dX s d e)) d e.aY:=by
 cases e;rw[iZ]
theorem Ck(vars:List aA)(s:be)(k d:Int)(x:aR):gP vars s k d x=if s.bb≠0 then s else e4 vars (jy vars s k x) d x.aE:=by cases x;rw[gP]
theorem Cm(vars:List aA)(s:be)(d:Int)(p:aO):j9 vars s d p=fU vars s d p.aV:=by cases p;rw[j9]
theorem stM_eq(vars:List aA)(kw:List UInt8->Bool)(s:be)(d:Int)(x:ax):stM vars kw s d x=er vars kw ((er vars kw (dJ vars kw s d x) (B (d+1)) x.aK).at x.X) (B (d+1)) x.bB:=by cases x;rw[stM];rfl
theorem iz{s:be}(h:s.bb≠0)(a:Bool)(e:Int):s.cx a e=s:=by unfold be.cx;rw[ad λx=>h x.2]
theorem TF{s:be}(h:s.bb≠0)(d:Int)(e:N):dX s d e=s:=by unfold dX;rw[iz h,iz h,iz h]
section
variable(vars:List aA)(kw:List UInt8->Bool)
theorem Kj{s:be}(h:s.bb≠0)(d:Int)(e:N):iZ vars s d e=s:=by rw[Cj,TF h,aa h]
theorem sg{s:be}(h:s.bb≠0)(d:Int):∀l,dt vars s d l=s
 |[]=>by rw[dt]
 |e::r=>by rw[dt,aa h,sg h d r]
theorem Kk{s:be}(h:s.bb≠0)(d:Int):∀l,fU vars s d l=s
 |[]=>by rw[fU]
 |e::r=>by rw[fU,Kj vars h,Kk h d r]
theorem Kl{s:be}(h:s.bb≠0)(d:Int):∀l,e4 vars s d l=s
 |[]=>by rw[e4]
 |p::r=>by rw[e4,Cm,Kk vars h,Kl h d r]
theorem TG{s:be}(h:s.bb≠0)(k d:Int)(x:aR):gP vars s k d x=s:=by rw[Ck,aa h]
theorem k_{s:be}(h:s.bb≠0)(n:Nat)(d:Int):∀l,eR vars kw s n d l=s.back n
 |[]=>by rw[eR]
 |x::r=>by rw[eR,aa h,k_ h n d r]
theorem Cn:∀{l:List (List ax)},(k9 kw vars l).2=0↔∀t∈l,(er vars kw s0 1 t).bb=0
 |[]=>by simp[k9]
 | t :: r=>by
  rw[k9];by_cases h:(er vars kw s0 1 t).bb=0
  . rw[ad (by simpa using h),Cn (l:=r)];simp[h]
  . rw[aa h];simp[h]
end
end Rb
namespace Rb
open Go
def cP(vars:List aA)(s:be)(loc:I):List I:=[aD aA.cells vars,loc,D s.lets,D s.X,D s.hQ,D s.bb]
def bj(id:Nat)(H H':O):Prop:=H.n<=H'.n/\∀i o,i≠id->At H i o->At H' i o
theorem bj.refl(id:Nat)(H:O):bj id H H:=⟨hT _,λ_ _ _ h=>h⟩
theorem bj.trans{id:Nat}{a b c:O}(h:bj id a b)(k:bj id b c):bj id a c:=⟨h1 h.1 k.1,λi o hi ho=>k.2 i o hi (h.2 i o hi ho)⟩
theorem bj.push(id:Nat)(H:O)(x:c0):bj id H (H.push x):=⟨aal _,λi o _ h=>h.push x⟩
theorem bj.set(id:Nat)(H:O)(x:c0):bj id H (H.set id x):=⟨hT _,λi o hi h=>h.bq hi x⟩
def gW(H:O)(id:Nat)(loc:I)(l:List (List UInt8)):Prop:=(loc = Y/\l=[])\/∃j cs,loc = .row j 0 l.length 1/\j≠id/\At H j (.row cs)/\l.length<=cs.length/\cs.take l.length=l.map .str
theorem gW.cv{H H':O}{id:Nat}{loc:I}{l:List (List UInt8)}(h:gW H id loc l)(k:bj id H H'):gW H' id loc l:=by
 rcases h with h|⟨j,cs,U,a,b,c,d⟩
 ·exact .inl h
 ·exact .inr ⟨j,cs,U,a,k.2 j _ a b,c,d⟩
def et(a b:be):Prop:=b.f=a.f/\b.lets=a.lets
theorem et.refl(a:be):et a a:=⟨rfl,rfl⟩
theorem et.trans{a b c:be}(h:et a b)(k:et b c):et a c:=⟨k.1.trans h.1,k.2.trans h.2⟩
theorem fj(s:be)(a:Bool)(e:Int):et s (s.cx a e):=by
 unfold be.cx;split
 ·exact⟨rfl,rfl⟩
 ·exact et.refl s
theorem Km(s:be)(d:Int)(e:N):et s (dX s d e):=(fj _ _ _).trans ((fj _ _ _).trans (fj _ _ _))
theorem Co(s:be)(d:Int)(x:ax):et s (eE s d x):=(fj _ _ _).trans ((fj _ _ _).trans (fj _ _ _))
section
variable(vars:List aA)
theorem TI(s:be)(k:Int)(x:aR):et s (jy vars s k x):=(fj _ _ _).trans (fj _ _ _)
mutual
theorem yq:∀(e:N)(s:be)(d:Int),et s (iZ vars s d e)
 | .mk kind n name op aB place aY,s,d=>by
  have a:=Km s d (.mk kind n name op aB place aY);rw[iZ];split
  ·exact a
  . have U:et s (if kind=2 then(dX s d (.mk kind n name op aB place aY)).cx ((dX s d (.mk kind n name op aB place aY)).has name) 6 else dX s d (.mk kind n name op aB place aY)):=by
      split
      ·exact a.trans (fj _ _ _)
      ·exact a
    refine et.trans ?_ (yr aY _ d);split
    ·exact U.trans (Cp place _ _ d)
    ·exact U
theorem yr:∀(l:List N)(s:be)(d:Int),et s (dt vars s d l)
 |[],s,d=>by rw[dt];exact et.refl s
 | e::r,s,d=>by
  rw[dt];refine et.trans ?_ (yr r _ d);split
  ·exact et.refl s
  ·exact yq e s _
theorem Cp:∀(x:aR)(s:be)(k d:Int),et s (gP vars s k d x)
 | .mk var aE,s,k,d=>by
  rw[gP];split
  ·exact et.refl s
  ·exact(TI vars s k _).trans (Kn aE _ d)
theorem Kn:∀(l:List aO)(s:be)(d:Int),et s (e4 vars s d l)
 |[],s,d=>by rw[e4];exact et.refl s
 |p::r,s,d=>by rw[e4];exact(TJ p s d).trans (Kn r _ d)
theorem TJ:∀(p:aO)(s:be)(d:Int),et s (j9 vars s d p)
 | .mk field aV,s,d=>by rw[j9];exact Ko aV s d
theorem Ko:∀(l:List N)(s:be)(d:Int),et s (fU vars s d l)
 |[],s,d=>by rw[fU];exact et.refl s
 |e::r,s,d=>by rw[fU];exact(yq e s _).trans (Ko r _ d)
end
end
theorem gW.still{H:O}{id:Nat}{loc:I}{a b:be}(h:gW H id loc a.f)(k:et a b):gW H id loc b.f:=by rw[k.1];exact h
section
variable{Φ:Z}{H:O}{Q:ab}{id:Nat}{vars:List aA}{s:be}{loc:I}
theorem oG(a:At H id (.row (cP vars s loc)))(b:Q (.bool (s.bb != 0)) H):S.f44 Φ (.ptr id 0) H Q:=by unfold S.f44;simp only[ae];simp only[br,aJ,G,aar];rw[a.load,show bY (cP vars s loc) (4+1) 1 ab0=ab1 (D s.bb)from rfl];simp only[G,cJ];exact b
theorem h5(M:Cl Φ S.cn){a:Bool}{e:Int}(c:At H id (.row (cP vars s loc)))(d:∀H',bj id H H'->At H' id (.row (cP vars (s.cx a e) loc))->Q (.aH []) H') :
  Φ 93 [.ptr id 0,.bool a,D e] H Q:=by
 refine S.Rz M ?_;unfold S.f93;have f:∀b:Bool,(b=abZ↔a=ab0/\s.bb=0)->V (S.xj Φ (.ptr id 0) (D e) Q) [.bool b] H:=by
  intro b g;simp only[ae,aw,S.xj,aq,ai,br,aJ,aar,G];apply aF<;>intro h
  . rw[c.load,show bY (cP vars s loc) 3 1 ab0=ab1 (D s.X)from rfl];simp only[G];rw[show bI [J,J] [(0,1,D s.X),(1,1,D e)]=ab1 (.agg [D s.X,D e])from rfl];simp only[G];rw[c.store,aa ⟨rfl,rfl,rfl,by simp[cP]⟩];simp only[G];refine d _ (bj.set id H _) ?_;have:s.cx a e={s with hQ:=s.X,bb:=e}:=by unfold be.cx;rw[aa (g.1 h)]
    rw[this];exact c.set _
  . refine d H (bj.refl _ _) ?_;have:s.cx a e=s:=by unfold be.cx;rw[ad λx=>h (g.2 x)]
    rw[this];exact c
 simp only[c_,G,bR];apply aF<;>intro h
 . refine S.ox M (oG c ?_);simp only[c_,G];refine f _ ?_;simp only[abr]at h;simp[h]
 . refine f _ ?_;simp only[abr,acW]at h;simp[h]
theorem TK{a:I}{xs:List (List UInt8)}{t:List UInt8}(c:eV ab0 a=ab1 (D xs.length))(d:∀(i:Nat) x,xs[i]?=ab1 x->∃p,aP ab2 1 a (D i)=ab1 p/\af H 1 ab0 p=ab1 (.str x))(l:xs.length<=9223372036854775807)
  (e:Q (D (fH (xs.findIdx? λx=>t==x))) H):S.f118 Φ a (.str t) H Q:=by
 unfold S.f118;simp only[ae];rw[c];simp only[G];have main:∀(ys:List (List UInt8)) (i:Nat),xs.drop i=ys->Q (D (fH ((ys.findIdx? λx=>t==x).map (·+ i)))) H->au (S.xx Φ a (.str t) (D xs.length) Q) ([D i],H):=by
  intro ys;induction ys with
  | nil=>intro i hi b;have hle:=dx hi;refine au.step ?_;simp only[ae,S.xx,aq,aX,G,ai];rw[dg];simpa[fH]using b
  | cons y ys f=>
   intro i hi b;obtain⟨m,g,h⟩:=di hi;obtain⟨p,U,j⟩:=d i y g;refine au.step ?_;simp only[ae,S.xx,aq,aX,G,ai];rw[cp,U];simp only[G];rw[j];simp only[G,fQ,ai];rw[acL]at b;by_cases he:(t==y)=abZ
   . rw[aa he];rw[aa he]at b;simpa[fH]using b
   . rw [ad he];rw[ad he]at b;simp only[bu,G];rw[bD,fq i];refine f (i+1) h ?_;have:(acM (λx=>t==x) ys).map (·+ (i+1))=((acM (λx=>t==x) ys).map (·+ 1)).map (·+ i):=by
      rw[ade];congr 1;funext k;simp only[adf];omega
     rw[this];exact b
 refine main xs 0 rfl ?_;simpa using e
theorem Cq(M:Cl Φ S.cn){a:I}{xs:List (List UInt8)}{t:List UInt8}(b:eV ab0 a=ab1 (D xs.length))(c:∀(i:Nat) x,xs[i]?=ab1 x->∃p,aP ab2 1 a (D i)=ab1 p/\af H 1 ab0 p=ab1 (.str x))(d:xs.length<=9223372036854775807)
  (e:Q (.bool (xs.any λx=>t==x)) H):Φ 90 [a,.str t] H Q:=by
 refine S.Ry M ?_;unfold S.f90;simp only[ae];refine S.RM M (TK b c d ?_);simp only[eD,G,yb];exact e
theorem si(M:Cl Φ S.cn){x:List UInt8}(c:At H id (.row (cP vars s loc)))(d:gW H id loc s.f)(o:s.f.length<=1000)(a:Q (.bool (s.has x)) H):Φ 96 [.ptr id 0,.str x] H Q:=by
 refine S.RC M ?_;unfold S.f96;simp only[ae];simp only[br,aJ,G,aar];rw[c.load,show bY (cP vars s loc) 1 1 ab0=ab1 loc from rfl];simp only[G];rcases d with⟨rfl,h⟩|⟨j,cs,rfl,p,g,q,k⟩
 . unfold be.has at a;rw[h]at a;exact Cq M (xs:=[]) rfl (λi x m=>by cases m) (by simp) a
 . refine Cq M (xs:=s.f) rfl (λi y b=>?_) (by omega) a;have n:=(ZF.1 b).1;refine⟨.ptr j i,?_,?_⟩
   . simp only[aP];rw[aa ⟨by omega,by omega⟩];simp
   . rw [g.load];unfold bY;rw[cX];have e:cs[i]?=ab1 (.str y):=by
      have:=congrArg (λl=>l[i]?) k;simp only[ZH,List.getElem?_map,b,aa n,Option.map_some]at this;exact this
     simp[e]
end
end Rb
namespace Rb
open Go
variable{k:Int}{b:Bool}{A B:Prop}
section
variable{Φ:Z}{H:O}{Q:ab}
theorem TL{k o:Int}(a:Q (.bool (fS k o)) H):S.f95 Φ (D k) (D o) H Q:=by
 have e:∀b:Bool,b=fS k o->Q (.bool b) H:=λb h=>by rw[h];exact a
 simp only[ae,S.f95,S.Bu,S.Bv,S.Ia,S.xk,S.Bw,S.Bx,aw,aq,bc,eD,hO,G,ai,bR,b4,abe,cc,aQ]
 repeat' (apply aF<;>intro h)
 all_goals (refine e _ ?_;simp only[cq,du,ge_iff_le,beq_eq_false_iff_ne,ne_eq]at *;first|(subst_vars;simp[fS];done)|(simp_all [fS];done)|(simp_all [fS];omega)|skip)
theorem Kr{x:aR}(a:Q (.bool (fx x)) H):S.f122 Φ (.agg x.cells) H Q:=by
 unfold S.f122;simp only[ae];simp only[yf,aM,oC,G,Ca,oD,bP,fQ,bc,bR];unfold fx at a;apply aF<;>intro h
 . rw[h]at a;have e:((x.aE.length:Int)==0)=(x.aE.length==0):=by rw[abE];simp
   rw[e];simpa using a
 . simp only[acV]at h;rw[h]at a;exact a
theorem TM{t:ay}(a:Q (.bool (gj k t)) H):S.f124 Φ (D k) (.agg t.cells) H Q:=by
 have e:∀b:Bool,b=gj k t->Q (.bool b) H:=λb h=>by rw[h];exact a
 simp only[ae,S.f124,S.Iy,S.BD,S.BE,gr,aM,cN,G,iX,k6,aw,aq,bc,hO,ai,bR]
 repeat' (apply aF<;>intro h)
 all_goals (refine e _ ?_;unfold gj;simp only[cq]at *;first|(exfalso;omega)|(subst_vars;simp[*];done)|(simp[*];done)|(subst_vars;simp_all;done)|skip)
def l_(k:Int):List I:=if 1<=k/\k<=10 then [.bool (ec k).1,.bool (ec k).2.1,.bool (ec k).2.2.1,D (ec k).2.2.2.1,.bool (ec k).2.2.2.2.1,.bool (ec k).2.2.2.2.2]else [av,av,av,J,av,av]
theorem TN(k:Int):(l_ k).length=6:=by unfold l_;split<;>rfl
theorem TO(k:Int):(l_ k).all I.scalar=abZ:=by unfold l_;split<;>rfl
theorem TP(a:∀H',Q (.aH [.agg (l_ k),.bool (decide (1<=k)&&decide (k<=10))]) H'):S.f121 Φ (D k) H Q:=by
 have fin:∀(cs:List I)(b:Bool) H',l_ k=cs->(decide (1<=k)&&decide (k<=10))=b->Q (.aH [.agg cs,.bool b]) H':=λcs b H' U c=>by rw[<-U,<-c];exact a H'
 clear a;simp only[ae,S.f121,S.It,S.BB,S.BC,aM,bx,aQ,G,aw,aq,bc,ai]
 repeat' (apply aF<;>intro h)
 all_goals (refine⟨_,rfl,_,bU _ _ _ 6 rfl rfl rfl,_,by rw[fI];exact eK rfl,fin _ _ _ ?_ ?_⟩)
 all_goals (simp only[cq]at *;first|(exfalso;omega)|(subst_vars;rfl)|skip)
 ·unfold l_;rw[bg]
 ·rw[adg,decide_eq_false_iff_not,decide_eq_false_iff_not];omega
theorem sj(e:N)(H:O):cg H ab0 8 (.agg e.cells)=ab1 (.ak e.cells,H):=by unfold cg;rw[aa ⟨rfl,e.len⟩];rfl
theorem hR(e:N)(i:Nat):aJ i (.ak e.cells)=ab1 (.ak (e.cells.drop i)):=rfl
theorem i0(e:N)(H:O):af H 1 ab0 (.ak (e.cells.drop 0))=ab1 (D e.kind):=by rw[N.bh,aR.bh];rfl
theorem Cr(e:N)(H:O):af H 1 ab0 (.ak (e.cells.drop 1))=ab1 (T e.n):=by rw[N.bh,aR.bh];rfl
theorem yt(e:N)(H:O):af H 1 ab0 (.ak (e.cells.drop 2))=ab1 (.str e.name):=by rw[N.bh,aR.bh];rfl
theorem sk(e:N)(H:O):af H 1 ab0 (.ak (e.cells.drop 3))=ab1 (D e.op):=by rw[N.bh,aR.bh];rfl
theorem Kt(e:N)(H:O):af H 1 ab0 (.ak (e.cells.drop 4))=ab1 (D e.aB):=by rw[N.bh,aR.bh];rfl
theorem yu(e:N)(H:O):af H 2 abZ (.ak (e.cells.drop 5))=ab1 (.agg e.place.cells):=by rw[N.bh,aR.bh];rfl
theorem sm(e:N)(H:O):af H 1 ab0 (.ak (e.cells.drop 7))=ab1 (aD N.cells e.aY):=by rw[N.bh,aR.bh];rfl
theorem Ku(e:N)(H:O):af H 8 abZ (.ak e.cells)=ab1 (.agg e.cells):=eK e.len
theorem p9(e:ax)(H:O):cg H ab0 10 (.agg e.cells)=ab1 (.ak e.cells,H):=by unfold cg;rw[aa ⟨rfl,e.len⟩];rfl
theorem gw(e:ax)(i:Nat):aJ i (.ak e.cells)=ab1 (.ak (e.cells.drop i)):=rfl
theorem iA(e:ax)(H:O):af H 1 ab0 (.ak (e.cells.drop 0))=ab1 (D e.kind):=by rw[ax.bh,aR.bh];rfl
theorem Kv(e:ax)(H:O):af H 1 ab0 (.ak (e.cells.drop 1))=ab1 (D e.X):=by rw[ax.bh,aR.bh];rfl
theorem ma(e:ax)(H:O):af H 1 ab0 (.ak (e.cells.drop 2))=ab1 (.str e.name):=by rw[ax.bh,aR.bh];rfl
theorem sn(e:ax)(H:O):af H 1 ab0 (.ak (e.cells.drop 3))=ab1 (.str e.bW):=by rw[ax.bh,aR.bh];rfl
theorem so(e:ax)(H:O):af H 1 ab0 (.ak (e.cells.drop 4))=ab1 (D e.aB):=by rw[ax.bh,aR.bh];rfl
theorem p_(e:ax)(H:O):af H 2 abZ (.ak (e.cells.drop 5))=ab1 (.agg e.place.cells):=by rw[ax.bh,aR.bh];rfl
theorem qa(e:ax)(H:O):af H 1 ab0 (.ak (e.cells.drop 7))=ab1 (aD N.cells e.aC):=by rw[ax.bh,aR.bh];rfl
theorem oH(e:ax)(H:O):af H 1 ab0 (.ak (e.cells.drop 8))=ab1 (aD ax.cells e.aK):=by rw[ax.bh,aR.bh];rfl
theorem sq(e:ax)(H:O):af H 1 ab0 (.ak (e.cells.drop 9))=ab1 (aD ax.cells e.bB):=by rw[ax.bh,aR.bh];rfl
theorem Cs(e:ax)(H:O):af H 10 abZ (.ak e.cells)=ab1 (.agg e.cells):=eK e.len
theorem Kw{α:Type}(l:List α):((l.length:Int)==0)=(l.length==0):=by rw[abE];simp
theorem ite_bool(U:b=abZ->A)(a:b=ab0->B):if b=abZ then A else B:=aF U λh=>a (by simpa using h)
theorem ek(U:b=ab0->A)(a:b=abZ->B):if b=ab0 then A else B:=aF U λh=>a (by simpa using h)
theorem TQ(M:Cl Φ S.cn){e:N}(k:Q (.bool (gG e)) H):S.f152 Φ (.agg e.cells) H Q:=by
 have fin:∀b:Bool,b=gG e->Q (.bool b) H:=λb h=>by rw[h];exact k
 clear k;have o : (decide (1<=e.kind)&&decide (e.kind<=8))=abZ->S.nr Φ (.ak e.cells) Q [D (gi e.kind).1,.bool (gi e.kind).2] H:=by
  intro hk;unfold gG at fin;rw[hk]at fin;simp only[ac9]at fin;generalize p:gi e.kind=d at fin ⊢;have i:∀b:Bool,(∀c,c=(b&&((e.aY.length:Int)==d.1))->Q (.bool c) H)->V (S.r2 Φ (.ak e.cells) [D d.1,.bool d.2] Q) [.bool b] H:=by
   intro b a;simp only[ae,aw,S.r2,aq,bp,bR,hR,sm,bP,bc,G];cases b
   ·exact a _ rfl
   ·exact a _ rfl
  have f:∀b:Bool,(∀c,c=((b&&(d.2||fx e.place))&&((e.aY.length:Int)==d.1))->Q (.bool c) H)->V (S.lX Φ (.ak e.cells) [D d.1,.bool d.2] Q) [.bool b] H:=by
   intro b a;simp only[ae,aw,S.lX,aq,bp,bR,b4,hR,yu,G];cases b
   ·exact i _ λc hc=>a c (by rw[hc];rfl)
   . rw [aa rfl];apply ek<;>intro h
     . refine S.JE M (Kr ?_);exact i _ λc hc=>a c (by rw[hc,h];rfl)
     ·exact i _ λc hc=>a c (by rw[hc,h];rfl)
  have j : ∀b:Bool,(∀c,c=(((b&&(if e.kind=3 then decide (1<=e.op)&&decide (e.op<=11)else e.op==0))&&(d.2||fx e.place))&&((e.aY.length:Int)==d.1))->Q (.bool c) H) ->
    V (S.r3 Φ (.ak e.cells) (.bool (e.kind==3)) [D d.1,.bool d.2] Q) [.bool b] H:=by
   intro b a;simp only[ae,aw,S.r3,aq,bp,bR,b4,hR,sk,G,eD,hO,bc,c_];cases b
   ·exact f _ λc hc=>a c (by rw[hc];rfl)
   . rw [aa rfl];apply ite_bool<;>intro h
     . rw [aa (by simpa using h)]at a;apply ite_bool<;>intro U
       . apply ek<;>intro l
         . rw[h,aI];exact f _ λc hc=>a c (by rw[hc];simp only[ge_iff_le]at U;rw[U,l];rfl)
         ·exact f _ λc hc=>a c (by rw[hc];simp only[ge_iff_le]at U;rw[U,l];rfl)
       . rw[h,aI];exact f _ λc hc=>a c (by rw[hc];simp only[ge_iff_le]at U;rw[U];rfl)
     . rw[ad (by simpa using h)]at a;rw[h,eu];exact f _ λc hc=>a c (by rw[hc];rfl)
  have m:∀b:Bool,(∀c,c=((((b&&(e.kind==2||e.name==[]))&&(if e.kind=3 then decide (1<=e.op)&&decide (e.op<=11)else e.op==0))&&(d.2||fx e.place))&&((e.aY.length:Int)==d.1))->Q (.bool c) H) ->
    V (S.xP Φ (.ak e.cells) (.bool (e.kind==3)) [D d.1,.bool d.2] Q) [.bool b] H:=by
   intro b a;simp only[ae,aw,S.xP,aq,bp,bR,b4,hR,i0,yt,G,bc,fQ];cases b
   ·exact j _ λc hc=>a c (by rw[hc];rfl)
   . rw[aa rfl];apply ek<;>intro h
     ·exact j _ λc hc=>a c (by rw[hc,h];rfl)
     ·exact j _ λc hc=>a c (by rw[hc,h];rfl)
  simp only[ae,S.nr,hR,i0,Cr,G,bc,b4];apply ek<;>intro h
  ·exact m _ λc hc=>fin c (by rw[hc,h];rfl)
  ·exact m _ λc hc=>fin c (by rw[hc,h];rfl)
 simp only[ae,S.f152,S.BF,S.BG,S.BH,sj,aM,hR,i0,G,aw,aq,bc,ai,cq];have g:∀n b,gi e.kind=(n,b)->(decide (1<=e.kind)&&decide (e.kind<=8))=abZ->S.nr Φ (.ak e.cells) Q [D n,.bool b] H:=λn b h hk=>by have:=o hk;rw[h]at this;exact this
 repeat' (apply aF<;>intro h)
 all_goals first
  |(exfalso;omega)
  | (refine g _ _ ?_ ?_
     . unfold gi;simp[*]
     ·simp[*])
  |skip
 refine fin _ ?_;have:(decide (1<=e.kind)&&decide (e.kind<=8))=ab0:=by rw[adg,decide_eq_false_iff_not,decide_eq_false_iff_not];omega
 unfold gG;rw[this];rfl
end
end Rb
namespace Rb
open Go
variable{s:be}{loc:I}{H:O}
theorem la:maxLen=9223372036854775807:=by decide
theorem N.dq{e:N}(h:e.ok):(e.aY.length<=9223372036854775807/\∀k∈e.aY,k.ok)/\e.place.ok:=by
 rw[<-la];cases e with
 | mk kind n name op aB place aY=>obtain⟨_,_,_,_,_,a,b,c⟩:=h;exact⟨⟨b,N.eQ.1 c⟩,a⟩
theorem aR.dq{x:aR}(h:x.ok):x.aE.length<=9223372036854775807/\∀p∈x.aE,p.aV.length<=9223372036854775807/\∀i∈p.aV,i.ok:=by
 rw[<-la];cases x with
 | mk var aE=>
  obtain⟨_,a,b⟩:=h;refine⟨a,λp c=>?_⟩;have:=aO.eQ.1 b p c;cases p with
  | mk field aV=>obtain⟨_,d,e⟩:=this;exact⟨d,N.eQ.1 e⟩
theorem N.ind{P:N->Prop}(h:∀e:N,(∀k∈e.aY,P k)->(∀p∈e.place.aE,∀i∈p.aV,P i)->P e):∀e,P e:=by
 have main:∀(n:Nat)(e:N),sizeOf e<n->P e:=by
  intro n;induction n with
  |zero=>intro e he;omega
  | succ n a=>
   intro e he;refine h e (λk hk=>a _ ?_) λp b i hi=>a _ ?_
   . cases e with
     | mk kind n name op aB place aY=>have:=acU hk;simp at this he ⊢;omega
   . cases e with
     | mk kind n name op aB place aY=>
      cases place with
      | mk var aE=>
       have U:=acU b;cases p with
       | mk field aV=>have c:=acU hi;simp at U c he ⊢;omega
 exact λe=>main _ e (ab6 _)
section
variable{C:Ctx}(ar:cY C)(M:Cl (ag C) S.cn)
include ar M
theorem Kx(k o:Int):bX (ag C) 95 [D k,D o] (.bool (fS k o)):=λH Q a=>S.RB M (TL a)
theorem TR(e:N):bX (ag C) 152 [.agg e.cells] (.bool (gG e)):=λH Q a=>S.R8 M (TQ M a)
theorem TS(k:Int)(t:ay):bX (ag C) 124 [D k,.agg t.cells] (.bool (gj k t)):=λH Q a=>S.RP M (TM a)
theorem TU(t:ay)(p:aO)(hs:dc t=0)(hl:p.aV.length<=maxLen):bX (ag C) 151 [.agg t.cells,.agg p.cells] (gO (dm t p)):=bX.of ar (by simp[I.cD,I.cj,ay.cj,aO.cj]) (B9 _) λQ a=>S.R7 M (Ti M hs hl a)
theorem Ct(vars:List aA)(x:aR)(hl:vars.length<=maxLen)(hv:∀v∈vars,v.ok)(b:x.ok):bX (ag C) 123 [aD aA.cells vars,.agg x.cells] (gO (bQ vars x)):=by
 have a:=aR.dq b;rw[<-la]at a;exact bX.of ar (by simp[I.cD,I.cj,aR.cj,lZ aA.cj]) (B9 _) λQ c=>S.RO M (Tl M hl a.1 (λv d=>J1 ar M v.type (hv v d).2) (λt p hs e=>TU ar M t p hs (a.2 p e).1) c)
end
def yv(C:Ctx)(id:Nat)(vars:List aA)(e:N):Prop:=
 ∀ (s:be) (d:Int) (loc:I) (H:O) (Q:ab),At H id (.row (cP vars s loc))->gW H id loc s.f->s.f.length<=1000 ->
  (∀H',bj id H H'->At H' id (.row (cP vars (iZ vars s d e) loc))->Q (.aH []) H')->ag C 125 [.ptr id 0,.agg e.cells,D d] H Q
def eF(r:Int×ay):List I:=if r.1=0 then r.2.cells else dQ
theorem nw(r:Int×ay):(eF r).length=6:=by unfold eF;split;exact r.2.len;rfl
theorem sr(r:Int×ay):(eF r).all I.scalar=abZ:=by unfold eF;split;exact r.2.scalar;rfl
theorem ss(r:Int×ay):gO r = .aH [.agg (eF r),D r.1]:=by unfold gO eF;split;rename_i h;rw[h];rfl
section
variable{C:Ctx}(ar:cY C)(M:Cl (ag C) S.cn){id:Nat}{vars:List aA}
include ar M
theorem Ky{l:List N}(hl:l.length<=9223372036854775807)(t:∀e∈l,yv C id vars e){d:Int}{Q:ab}(u:At H id (.row (cP vars s loc)))(v:gW H id loc s.f)(w:s.f.length<=1000)
  (x:∀H',bj id H H'->At H' id (.row (cP vars (dt vars s d l) loc))->Q (.aH []) H'):ag C 98 [.ptr id 0,aD N.cells l,D d] H Q:=by
 refine S.RE M ?_;unfold S.f98;simp only[ae];simp only[bP,G];have main:∀(r:List N)(i:Nat)(A:be)(H1:O),l.drop i=r->et s A->bj id H H1->At H1 id (.row (cP vars A loc))->dt vars A d r=dt vars s d l ->
   au (S.rY (ag C) (.ptr id 0) (aD N.cells l) (D d) (D l.length) Q) ([D i],H1):=by
  intro r;induction r with
  | nil=>intro i A H1 c b hk g he;have hle:=dx c;refine au.step ?_;simp only[ae,S.rY,aq,aX,G,ai];rw[dg];rw[dt]at he;exact x H1 hk (by rw[<-he];exact g)
  | cons e r y=>
   intro i A H1 c b hk g he;obtain⟨z,p,B⟩:=di c;refine au.step ?_;simp only[ae,S.rY,aq,aX,G,ai];rw[cp,cG z];simp only[G];rw[dH N.len (by decide) _ p];simp only[G,aM,bx,aQ];rw[bU _ _ _ 8 e.len e.scalar rfl];simp only[G];have j:=g.push (.row e.cells);have k:=hk.trans (bj.push id H1 (.row e.cells));have E:af (H1.push (.row e.cells)) 8 abZ (.ptr H1.n 0)=ab1 (.agg e.cells):=by rw[fI,eK e.len]
   have next:∀(s2:be)(a:O),bj id H a->At a id (.row (cP vars s2 loc))->et s s2->dt vars s2 d r=dt vars s d l ->
     V (S.xo (ag C) ([D i],H1) (au (S.rY (ag C) (.ptr id 0) (aD N.cells l) (D d) (D l.length) Q)) Q) [] a:=by
    intro s2 a m a3 F I;simp only[ae,aw,S.xo,aq,bu,G];rw[bD,fq i];exact y (i+1) s2 a B F m a3 I
   rw[dt]at he;generalize H1.push _=q at *;refine S.ox M (oG j ?_);simp only[c_,G,ai];apply aF<;>intro h
   . have o:A.bb=0:=by simpa using h
     rw[ad (by simpa using o)]at he;simp only[E,G,bu];refine t e (acK p) A _ loc q _ j ((v.cv k).still b) (by rw[b.1];exact w) λa m a3=>?_;exact next _ a (k.trans m) a3 (b.trans (yq vars e A _)) he
   . have o:A.bb≠0:=by simpa using h
     rw[aa o]at he;exact next A q k j b he
 exact main l 0 s H rfl (et.refl s) (bj.refl id H) u rfl
theorem Kz(W:vars.length<=maxLen)(hv:∀v∈vars,v.ok){x:aR}(I:x.ok)(X:∀p∈x.aE,∀i∈p.aV,yv C id vars i){k d:Int}{Q:ab}(c:At H id (.row (cP vars s loc)))(Y:gW H id loc s.f)(Z:s.f.length<=1000)
  (g:∀H',bj id H H'->At H' id (.row (cP vars (gP vars s k d x) loc))->Q (.aH []) H'):ag C 97 [.ptr id 0,D k,.agg x.cells,D d] H Q:=by
 obtain⟨aP,ac⟩:=aR.dq I;refine S.RD M ?_;unfold S.f97;simp only[ae];simp only[yf,aM];refine S.ox M (oG c ?_);simp only[ai];rw[Ck]at g;apply aF<;>intro h
 . rw[aa (by simpa using h)]at g;exact g H (bj.refl _ _) c
 . have J : s.bb=0:=by simpa using h
   rw[ad (by simpa using J)]at g;simp only[br,aJ,G,aar,aah];have ah:af H 1 ab0 (.ptr id 0)=ab1 (aD aA.cells vars):=by rw[c.load];rfl
   have aj:af H 2 abZ (.ak x.cells)=ab1 (.agg x.cells):=eK x.len;simp only[ah,aj,G];refine Ct ar M vars x W hv I _ _ ?_;rw[ss];simp only[bL,acn,aco,G,aM,bx,aQ];have a2:=c.push (.row dQ);refine⟨(a2.load 1 0 ab0).trans rfl,eK x.len,?_⟩;change Do (bZ (H.push (.row dQ)) 6 (.ptr H.n 0) (.agg (eF (bQ vars x)))) _;rw[bU _ _ _ 6 (nw _) (sr _) rfl];simp only[G,bc];have a3:=c.push (.row (eF (bQ vars x)));have al:=bj.push id H (.row (eF (bQ vars x)));have am:=At.new H (.row (eF (bQ vars x)));have an:H.n≠id:=adh c.hP;generalize H.push _=aS at *;generalize H.n=aT at *;refine h5 M a3 λaU K a4=>?_;have ao:=K.2 _ _ an am;have L:=al.trans K;have aE:∀(s1:be)(b:O),et s s1->bj id H b->At b id (.row (cP vars s1 loc))->e4 vars s1 d x.aE=e4 vars (jy vars s k x) d x.aE->V (S.xm (ag C) (.ptr id 0) (D d) (.ak x.cells) Q) [] b:=by
    intro s1 b u hk l he;simp only[ae,aw,S.xm,oC,oD,bP,G];have main:∀(r:List aO)(i:Nat)(A:be)(H1:O),x.aE.drop i=r->et s A->bj id H H1->At H1 id (.row (cP vars A loc))->e4 vars A d r=e4 vars (jy vars s k x) d x.aE ->
      au (S.rX (ag C) (.ptr id 0) (D d) (aD aO.cells x.aE) (D x.aE.length) Q) ([D i],H1):=by
     intro r;induction r with
     | nil=>intro i A H1 w u hk l he;have hle:=dx w;refine au.step ?_;simp only[ae,S.rX,aq,aX,G,ai];rw[dg];rw[e4]at he;exact g H1 hk (by rw[<-he];exact l)
     | cons p r ap=>
      intro i A H1 w u hk l he;obtain⟨av,P,ax⟩:=di w;have R:=acK P;refine au.step ?_;simp only[ae,S.rX,aq,aX,G,ai];rw[cp,cG av];simp only[G];rw[dH aO.len (by decide) _ P];simp only[G,aM,bx,aQ];rw[bU _ _ _ 2 p.len p.scalar rfl];simp only[G,aJ,aar];have ay:=l.push (.row p.cells);have az:=hk.trans (bj.push id H1 (.row p.cells));have aB:af (H1.push (.row p.cells)) 1 ab0 (.ptr H1.n 1)=ab1 (aD N.cells p.aV):=by rw[fI,aO.bh];rfl
      simp only[aB,G,bP];rw[e4,Cm]at he;have inner:∀(q:List N)(j:Nat)(s2:be)(a:O),p.aV.drop j=q->et s s2->bj id H a->At a id (.row (cP vars s2 loc))->e4 vars (fU vars s2 d q) d r=e4 vars (jy vars s k x) d x.aE ->
        au (S.xl (ag C) (.ptr id 0) (D d) (aD N.cells p.aV) (D p.aV.length) ([D i],H1) (au (S.rX (ag C) (.ptr id 0) (D d) (aD aO.cells x.aE) (D x.aE.length) Q)) Q) ([D j],a):=by
       intro q;induction q with
       | nil=>intro j s2 a y m z B o;have hle:=dx y;refine au.step ?_;simp only[ae,S.xl,aq,aX,G,ai];rw[dg];simp only[ae,aw,S.Ie,aq,bu,G];rw[bD,fq i];rw[fU]at o;exact ap (i+1) s2 a ax m z B o
       | cons e q aC=>
        intro j s2 a y m z B o;obtain⟨aG,T,aI⟩:=di y;have aW:=(ac p R).1;refine au.step ?_;simp only[ae,S.xl,aq,aX,G,ai];rw[cp,cG aG];simp only[G];rw[dH N.len (by decide) _ T];simp only[G,aM,bx,aQ];rw[bU _ _ _ 8 e.len e.scalar rfl];simp only[G];have aK:=B.push (.row e.cells);have U:=z.trans (bj.push id a (.row e.cells));have aL:af (a.push (.row e.cells)) 8 abZ (.ptr a.n 0)=ab1 (.agg e.cells):=by rw[fI,eK e.len]
        simp only[aL,G,bu];rw[fU]at o;refine X p R e (acK T) s2 _ loc _ _ aK ((Y.cv U).still m) (by rw[m.1];exact Z) λb aN a5=>?_;rw[bD,fq j];exact aC (j+1) _ b aI (m.trans (yq vars e s2 _)) (U.trans aN) a5 o
      exact inner p.aV 0 A _ rfl u az ay he
    exact main x.aE 0 s1 b rfl u hk l he
   refine S.ox M (oG a4 ?_);simp only[b4];apply ek<;>intro h
   . rw [ao.load,eK (nw _)];simp only[G];have t:(bQ vars x).1=0:=by
      by_cases t:(bQ vars x).1=0
      ·exact t
      . have:(s.cx ((bQ vars x).1==0) (bQ vars x).1).bb=(bQ vars x).1:=by
          unfold be.cx;rw[aa ⟨by simpa using t,J⟩]
        rw[this]at h;simp at h;exact absurd h t
     have hc:eF (bQ vars x)=(bQ vars x).2.cells:=by unfold eF;rw[aa t]
     rw[hc];refine TS ar M _ _ _ _ ?_;refine h5 M a4 λE F a6=>?_;refine aE _ E ((fj _ _ _).trans (fj _ _ _)) (L.trans F) a6 ?_;unfold jy;simp only[h,Bool.false_or]
   . refine h5 M a4 λE F a6=>?_;refine aE _ E ((fj _ _ _).trans (fj _ _ _)) (L.trans F) a6 ?_;unfold jy;simp only[h,Bool.true_or]
theorem TV(y:vars.length<=maxLen)(hv:∀v∈vars,v.ok):∀e:N,e.ok->yv C id vars e:=by
 refine N.ind λe z A he=>?_;obtain⟨⟨E,F⟩,u⟩:=N.dq he;have I:=aR.dq u;intro s d loc H Q J n o b;refine S.RQ M ?_;unfold S.f125;simp only[ae];simp only[sj,aM,hO,G];refine h5 M J λH1 K W=>?_;simp only[Ku,G];refine TR ar M e _ _ ?_;refine h5 M W λT L a2=>?_;simp only[hR,i0,Kt,G,bu];refine Kx ar M _ _ _ _ ?_;refine h5 M a2 λq P a3=>?_;have g:=K.trans (L.trans P);rw[Cj]at b;change At q id (.row (cP vars (dX s d e) loc))at a3;have j:=Km s d e;generalize dX s d e=s1 at *;refine S.ox M (oG a3 ?_);simp only[ai];apply aF<;>intro h
 . rw[aa (by simpa using h)]at b;exact b q g a3
 . rw [ad (by simpa using h)]at b;simp only[bc,G,ai];have aY:∀(l:be)(a:O),et s l->bj id H a->At a id (.row (cP vars l loc))->(∀H',bj id H H'->At H' id (.row (cP vars (dt vars l d e.aY) loc))->Q (.aH []) H')->V (S.xz (ag C) (.ptr id 0) (D d) (.ak e.cells) Q) [] a:=by
    intro l a c hk m f;simp only[ae,aw,S.xz,hR,sm,G];exact Ky ar M E (λk w=>z k w (F k w)) m ((n.cv hk).still c) (by rw[c.1];exact o) λH' r t=>f H' (hk.trans r) t
   have iB:∀(s2:be)(a:O),et s s2->bj id H a->At a id (.row (cP vars s2 loc))->(∀H',bj id H H'->At H' id (.row (cP vars (dt vars (if e.kind>=4 then gP vars s2 (B (10+e.kind)) d e.place else s2) d e.aY) loc))->Q (.aH []) H') ->
     V (S.xA (ag C) (.ptr id 0) (D d) (.ak e.cells) Q) [] a:=by
    intro s2 a c hk m f;simp only[ae,aw,S.xA,hR,i0,yu,G,eD,ai,bu];apply aF<;>intro h
    . rw[aa (by simpa using h)]at f;refine Kz ar M y hv u (λp x i hi=>A p x i hi ((I.2 p x).2 i hi)) m ((n.cv hk).still c) (by rw[c.1];exact o) λH' r t=>?_;exact aY _ H' (c.trans (Cp vars _ _ _ _)) (hk.trans r) t f
    . rw[ad (by simpa using h)]at f;exact aY _ a c hk m f
   apply aF<;>intro h
   . rw[show(if e.kind=2 then s1.cx (s1.has e.name) 6 else s1)=s1.cx (s1.has e.name) 6 from aa (by simpa using h)]at b;simp only[yt,G];refine si M a3 ((n.cv g).still j) (by rw[j.1];exact o) ?_;refine h5 M a3 λa R a4=>?_;exact iB _ a (j.trans (fj _ _ _)) (g.trans R) a4 b
   . rw[show(if e.kind=2 then s1.cx (s1.has e.name) 6 else s1)=s1 from ad (by simpa using h)]at b;exact iB _ q j g a3 b
end
end Rb
namespace Rb
open Go
variable{s:be}{x:ax}{d:Int}{id:Nat}
section
variable{Φ:Z}{H:O}{Q:ab}
theorem TW(M:Cl Φ S.cn)(r:∀H',Q (.bool (gu x)) H'):S.f94 Φ (.agg x.cells) H Q:=by
 have fin:∀(b:Bool) H',b=gu x->Q (.bool b) H':=λb H' h=>by rw[h];exact r H'
 clear r;unfold S.f94;simp only[ae];simp only[p9,aM,gw,iA,G];refine S.RN M (TP λH1=>?_);simp only[bL,acn,aco,G,aM,bx,aQ];rw[bU _ _ _ 6 (TN _) (TO _) rfl];simp only[G];have at9:=At.new H1 (.row (l_ x.kind));generalize H1.push _=u at *;generalize H1.n=f at *;by_cases hk:(decide (1<=x.kind)&&decide (x.kind<=10))=abZ
 . have hc:l_ x.kind=[.bool (ec x.kind).1,.bool (ec x.kind).2.1,.bool (ec x.kind).2.2.1,D (ec x.kind).2.2.2.1,.bool (ec x.kind).2.2.2.2.1,.bool (ec x.kind).2.2.2.2.2]:=by
     unfold l_;rw[aa (by simpa using hk)]
   rw[hc]at at9;unfold gu at fin;rw[hk]at fin ⊢;simp only[ac9]at fin;generalize ec x.kind=h at *;obtain⟨m,U,k,j,i,g⟩:=h;simp only at at9 fin;have o:∀(b:Bool)(H':O),At H' f (.row [.bool m,.bool U,.bool k,D j,.bool i,.bool g])->(∀c a,c=(b&&(g||x.bB.length==0))->Q (.bool c) a)->V (S.pW Φ (.ak x.cells) (.ptr f 0) Q) [.bool b] H':=by
    intro b H' d e;have l:af H' 1 ab0 (.ptr f 5)=ab1 (.bool g):=by rw[d.load];rfl
    simp only[ae,aw,S.pW,aq,bR,b4,aJ,aar,sq,G,bP,bc,l,Kw];cases b
    ·exact e _ _ rfl
    . rw[aa rfl];apply ek<;>intro h
      ·exact e _ _ (by rw[h];rfl)
      ·exact e _ _ (by rw[h];rfl)
   have s:∀(b:Bool)(H':O),At H' f (.row [.bool m,.bool U,.bool k,D j,.bool i,.bool g])->(∀c a,c=(b&&(i||x.aK.length==0)&&(g||x.bB.length==0))->Q (.bool c) a)->V (S.rW Φ (.ak x.cells) (.ptr f 0) Q) [.bool b] H':=by
    intro b H' d e;have l:af H' 1 ab0 (.ptr f 4)=ab1 (.bool i):=by rw[d.load];rfl
    simp only[ae,aw,S.rW,aq,bR,b4,aJ,aar,oH,G,bP,bc,l,Kw];cases b
    ·exact o _ _ d λc a hc=>e c a (by rw[hc];rfl)
    . rw[aa rfl];apply ek<;>intro h
      ·exact o _ _ d λc a hc=>e c a (by rw[hc,h];rfl)
      ·exact o _ _ d λc a hc=>e c a (by rw[hc,h];rfl)
   have p:∀(b:Bool)(H':O),At H' f (.row [.bool m,.bool U,.bool k,D j,.bool i,.bool g])->(∀c a,c=(b&&((x.aC.length:Int)==j)&&(i||x.aK.length==0)&&(g||x.bB.length==0))->Q (.bool c) a) ->
     V (S.pX Φ (.ak x.cells) (.ptr f 0) Q) [.bool b] H':=by
    intro b H' d e;have l:af H' 1 ab0 (.ptr f 3)=ab1 (D j):=by rw[d.load];rfl
    simp only[ae,aw,S.pX,aq,bR,b4,aJ,aar,qa,G,bP,bc,l];cases b
    ·exact s _ _ d λc a hc=>e c a (by rw[hc];rfl)
    . rw[aa rfl];exact s _ _ d λc a hc=>e c a (by rw[hc];rfl)
   have q:∀(b:Bool)(H':O),At H' f (.row [.bool m,.bool U,.bool k,D j,.bool i,.bool g])->(∀c a,c=(b&&(k||fx x.place)&&((x.aC.length:Int)==j)&&(i||x.aK.length==0)&&(g||x.bB.length==0))->Q (.bool c) a) ->
     V (S.pY Φ (.ak x.cells) (.ptr f 0) Q) [.bool b] H':=by
    intro b H' d e;have l:af H' 1 ab0 (.ptr f 2)=ab1 (.bool k):=by rw[d.load];rfl
    simp only[ae,aw,S.pY,aq,bR,b4,aJ,aar,p_,G,l];cases b
    ·exact p _ _ d λc a hc=>e c a (by rw[hc];rfl)
    . rw [aa rfl];apply ek<;>intro h
      . refine S.JE M (Kr ?_);exact p _ _ d λc a hc=>e c a (by rw[hc,h];rfl)
      ·exact p _ _ d λc a hc=>e c a (by rw[hc,h];rfl)
   have t:∀(b:Bool)(H':O),At H' f (.row [.bool m,.bool U,.bool k,D j,.bool i,.bool g])->(∀c a,c=(b&&(U||x.bW==[])&&(k||fx x.place)&&((x.aC.length:Int)==j)&&(i||x.aK.length==0)&&(g||x.bB.length==0))->Q (.bool c) a) ->
     V (S.pZ Φ (.ak x.cells) (.ptr f 0) Q) [.bool b] H':=by
    intro b H' d e;have l:af H' 1 ab0 (.ptr f 1)=ab1 (.bool U):=by rw[d.load];rfl
    simp only[ae,aw,S.pZ,aq,bR,b4,aJ,aar,sn,G,l,fQ];cases b
    ·exact q _ _ d λc a hc=>e c a (by rw[hc];rfl)
    . rw[aa rfl];apply ek<;>intro h
      ·exact q _ _ d λc a hc=>e c a (by rw[hc,h];rfl)
      ·exact q _ _ d λc a hc=>e c a (by rw[hc,h];rfl)
   have l:af u 1 ab0 (.ptr f 0)=ab1 (.bool m):=by rw[at9.load];rfl
   simp only[bR,b4,aJ,aar,aah,l,G,ma,fQ,aQ];apply ek<;>intro h
   ·exact t _ _ at9 λc a hc=>fin c a (by rw[hc,h];rfl)
   ·exact t _ _ at9 λc a hc=>fin c a (by rw[hc,h];rfl)
 . simp only[acV]at hk;rw[hk];simp only[ae,bR,S.pW,S.rW,S.pX,S.pY,S.pZ,aw,aq,abe,cc];refine fin _ _ ?_;unfold gu;rw[hk];rfl
end
def jO(s:be):Prop:=(s.f.length:Int)<=s.lets/\s.lets<=41/\(s.bb=0->s.lets<=40)
theorem TX{a:Bool}{e:Int}(b:e≠0)(h:(s.cx a e).bb=0):s.bb=0/\a=abZ:=by
 unfold be.cx at h;split at h
 ·exact absurd h b
 . rename_i hn;refine⟨h,?_⟩;cases a with
   |true=>rfl
   |false=>exact absurd ⟨rfl,h⟩ hn
section
variable(vars:List aA)(kw:List UInt8->Bool)
theorem KA(s:be)(d:Int)(x:ax):et s (ej vars kw s d x):=by
 unfold ej;split
 ·exact(fj _ _ _).trans ((fj _ _ _).trans (fj _ _ _))
 . split
   ·exact fj _ _ _
   . split
     ·exact Cp vars _ _ _ _
     ·exact et.refl s
theorem TY(hk:x.kind=1)(h:(ej vars kw s d x).bb=0):s.lets<40:=by unfold ej at h;rw[aa hk]at h;have:=(TX (by decide) h).2;exact of_decide_eq_true this
theorem TZ{l:List N}(h:(dt vars s d l).bb=0):s.bb=0:=by
 by_cases a:s.bb=0
 ·exact a
 ·rw[sg vars a]at h;exact absurd h a
theorem T0(hk:x.kind≠1):et s (gv s x):=by
 unfold gv;rw[ad hk];split
 ·exact(fj _ _ _).trans ((fj _ _ _).trans (fj _ _ _))
 ·exact et.refl s
theorem KB(a:s.bb=0)(hi:jO s):jO (dJ vars kw s d x)/\s.lets<=(dJ vars kw s d x).lets/\s.f.length<=(dJ vars kw s d x).f.length:=by
 obtain⟨i1,b,c⟩:=hi;have i4:=c a;have s1:et s (dt vars (ej vars kw (eE s d x) d x) d x.aC):=(Co s d x).trans ((KA vars kw _ d x).trans (yr vars _ _ _));unfold dJ;by_cases hk:x.kind=1
 . have hl:(dt vars (ej vars kw (eE s d x) d x) d x.aC).bb=0->s.lets<40:=by
     intro h;have:=TY vars kw hk (TZ vars h);rw[(Co s d x).2]at this;exact this
   generalize dt vars (ej vars kw (eE s d x) d x) d x.aC=t at *;unfold gv;rw[aa hk];unfold be.l8 jO;simp only[acG,adi];obtain⟨s2,g⟩:=s1;rw[s2,g];have e:B (s.lets+1)=s.lets+1:=bD;rw[e];refine⟨⟨by omega,by omega,λk=>?_⟩,by omega,by omega⟩;have:=hl k;omega
 . have s2:=s1.trans (T0 (s:=dt vars (ej vars kw (eE s d x) d x) d x.aC) hk);refine⟨⟨by rw[s2.1,s2.2];exact i1,by rw[s2.2];exact b,λ_=>by rw[s2.2];exact i4⟩,by rw[s2.2];exact ada _,by rw[s2.1];exact hT _⟩
mutual
theorem KC:∀(x:ax)(s:be)(d:Int),s.bb=0->jO s->jO (stM vars kw s d x)/\s.lets<=(stM vars kw s d x).lets/\s.f.length<=(stM vars kw s d x).f.length
 | .mk kind X name bW aB place aC aK bB,s,d,a,hi=>by rw[stM];have U:=KB vars kw (d:=d) (x:= .mk kind X name bW aB place aC aK bB) a hi;generalize dJ vars kw s d (.mk kind X name bW aB place aC aK bB)=s1 at *;have b:=su aK s1 s1.f.length (B (d+1)) U.1 (hT _);generalize eR vars kw s1 s1.f.length (B (d+1)) aK=s2 at *;have e1:(s2.at X).lets=s2.lets:=rfl;have c:(s2.at X).f.length=s2.f.length:=rfl;have g:jO (s2.at X):=b.1;generalize s2.at X=t at *;have h:=su bB t t.f.length (B (d+1)) g (hT _);exact⟨h.1,by omega,by omega⟩
theorem su:∀(l:List ax)(s:be)(n:Nat)(d:Int),jO s->n<=s.f.length->jO (eR vars kw s n d l)/\s.lets<=(eR vars kw s n d l).lets/\(eR vars kw s n d l).f.length=n
 | [],s,n,d,hi,hn=>by
  rw[eR];obtain⟨i1,i,j⟩:=hi;have e:(s.back n).f.length=n:=by show(s.f.take n).length=n;rw[ac2];omega
  exact⟨⟨by rw[e];show(n:Int)<=s.lets;omega,i,j⟩,ada _,e⟩
 | x :: r,s,n,d,hi,hn=>by
  rw[eR];by_cases a:s.bb=0
  . rw[ad (by simpa using a)];have U:=KC x (s.at x.X) d a hi;have e1:(s.at x.X).lets=s.lets:=rfl;have c:(s.at x.X).f=s.f:=rfl;rw[e1,c]at U;have b:=su r (stM vars kw (s.at x.X) d x) n d U.1 (by omega);exact⟨b.1,by omega,b.2.2⟩
  . rw[aa a];exact su r s n d hi hn
end
theorem T1{l:List ax}(hi:jO s):jO (er vars kw s d l)/\s.lets<=(er vars kw s d l).lets/\(er vars kw s d l).f.length=s.f.length:=su vars kw l s _ d hi (hT _)
end
def Frame(id:Nat)(a:I)(H:O)(b:I)(H':O):Prop:=H.n<=H'.n/\(∀i o,i≠id->(∀n,a ≠ .row i 0 n 1)->At H i o->At H' i o)/\∀j n,b = .row j 0 n 1->(∃m,a = .row j 0 m 1)\/H.n<=j
theorem Frame.of{a:I}{H H':O}(h:bj id H H'):Frame id a H a H':=⟨h.1,λi o hi _ ho=>h.2 i o hi ho,λj n e=> .inl ⟨n,e⟩⟩
theorem Frame.trans{f l1 l2:I}{a b c:O}(h:Frame id f a l1 b)(k:Frame id l1 b l2 c):Frame id f a l2 c:=by
 refine⟨h1 h.1 k.1,λi o hi hn ho=>k.2.1 i o hi (λn e=>?_) (h.2.1 i o hi hn ho),λj n e=>?_⟩
 . rcases h.2.2 i n e with⟨m,d⟩|g
   ·exact hn m d
   ·exact absurd ho.1 (by omega)
 . rcases k.2.2 j n e with⟨m,d⟩|g
   ·exact h.2.2 j m d
   ·right;have:=h.1;omega
end Rb
namespace Rb
open Go
variable{H:O}{loc:I}
theorem ax.dq{x:ax}(h:x.ok):x.place.ok/\(x.aC.length<=9223372036854775807/\∀e∈x.aC,e.ok)/\(x.aK.length<=9223372036854775807/\∀y∈x.aK,y.ok)/\(x.bB.length<=9223372036854775807/\∀y∈x.bB,y.ok):=by
 rw[<-la];cases x with
 | mk kind X name bW aB place aC aK bB=>obtain⟨_,_,_,_,_,a,b,c,d,f,g,i⟩:=h;exact⟨a,⟨b,N.eQ.1 c⟩,⟨d,ax.eQ.1 f⟩,g,ax.eQ.1 i⟩
theorem ax.ind{P:ax->Prop}(h:∀x:ax,(∀y∈x.aK,P y)->(∀y∈x.bB,P y)->P x):∀x,P x:=by
 have main:∀(n:Nat)(x:ax),sizeOf x<n->P x:=by
  intro n;induction n with
  |zero=>intro x a;omega
  | succ n c=>
   intro x a;refine h x (λy b=>c _ ?_) λy b=>c _ ?_
   . cases x with
     | mk kind X name bW aB place aC aK bB=>have:=acU b;simp at this a ⊢;omega
   . cases x with
     | mk kind X name bW aB place aC aK bB=>have:=acU b;simp at this a ⊢;omega
 exact λx=>main _ x (ab6 _)
theorem T2(cs:List I)(n:Nat)(v:I):setCells cs n [v]=cs.set n v:=rfl
theorem T3{id:Nat}{l:List (List UInt8)}{x:List UInt8}{k:List I}(a:At H id (.row k))(p:gW H id loc l)(r:l.length<=1000){K:ab}
  (b:∀c H',Frame id loc H c H'->At H' id (.row k)->gW H' id c (l++[x])->K c H'):bJ (cI H abZ 1 16 loc (.aj .full 1 [.str x])) K:=by
 have m:fh H 1 (.aj .full 1 [.str x])=ab1 (1,[.str x]):=rfl;rcases p with⟨rfl,rfl⟩|⟨j,cs,rfl,d,f,s,g⟩
 . refine⟨.row H.n 0 1 1,H.push (.row [.str x]),rfl,?_⟩;refine b _ _ ⟨aal _,λi o _ _ h=>h.push _,λj n e=>?_⟩ (a.push _) (.inr ⟨H.n,[.str x],rfl,adh a.hP,At.new H _,hT _,rfl⟩);cases e;right;exact hT _
 . by_cases hc:l.length+1<=cs.length
   . refine ⟨.row j 0 (l.length+1) 1,H.set j (.row (setCells cs (l.length*1) [.str x])),?_,?_⟩
     . simp only[cI,m,f.2];simp only[ab4,adj,I.scalar,adk,not_true_eq_false,cc];rw[aI,ad (by simp only[ac3];exact⟨trivial,trivial,by omega,by omega⟩),cX]
     . rw [adl,T2];refine b _ _ ⟨hT _,λi o hi hn h=>h.bq (λe=>hn l.length (by rw[e])) _,λi n e=>?_⟩ (a.bq (adh d) _) (.inr ⟨j,cs.set l.length (.str x),by simp,d,f.set _,by simpa using hc,?_⟩)
       . cases e;left;exact⟨_,rfl⟩
       . rw[acG,adi,acQ,List.getElem?_set_self (by omega),List.take_set_of_le (by omega),g];simp
   . have q:cs.length=l.length:=by omega
     refine⟨.row H.n 0 (l.length+1) 1,(H.set j .gone).push (.row (cs++[.str x])),?_,?_⟩
     . simp only[cI,m,f.2];simp only[ab4,adj,I.scalar,adk,not_true_eq_false,cc];rw[aI,ad (by simp only[ac3];exact⟨trivial,trivial,by omega,by omega⟩),bg,cX]
     . refine b _ _ ⟨by simp,λi o hi hn h=>(h.bq (λe=>hn l.length (by rw[e])) _).push _,λi n e=>?_⟩ ((a.bq (adh d) _).push _) (.inr ⟨H.n,cs++[.str x],by simp,adh a.hP,?_,by simp;omega,?_⟩)
       . cases e;right;exact hT _
       ·exact At.new (H.set j .gone) _
       . rw[acG,adi,acJ (by simp;omega)];rw[<-q,acz]at g;rw[g];simp
def KD(C:Ctx)(id:Nat)(vars:List aA)(kw:List UInt8->Bool)(x:ax):Prop:=
 ∀ (s:be) (d:Int) (loc:I) (H:O) (Q:ab),s.bb=0->jO s->At H id (.row (cP vars s loc))->gW H id loc s.f ->
  (∀H' a,Frame id loc H a H'->At H' id (.row (cP vars (stM vars kw s d x) a))->gW H' id a (stM vars kw s d x).f->Q (.aH []) H')->ag C 72 [.ptr id 0,.agg x.cells,D d] H Q
section
variable{C:Ctx}(ar:cY C)(M:Cl (ag C) S.cn){id:Nat}{vars:List aA}{kw:List UInt8->Bool}
include ar M
theorem T4(x:ax):bX (ag C) 94 [.agg x.cells] (.bool (gu x)):=bX.of ar (by simp[I.cD,I.cj,ax.cj]) rfl λQ a=>S.RA M (TW M a)
theorem Cu{l:List ax}(hl:l.length<=9223372036854775807)(N:∀x∈l,KD C id vars kw x){s:be}{d:Int}{Q:ab}(hi:jO s)(z:At H id (.row (cP vars s loc)))(B:gW H id loc s.f)
  (P:∀H' v,Frame id loc H v H'->At H' id (.row (cP vars (er vars kw s d l) v))->gW H' id v (er vars kw s d l).f->Q (.aH []) H'):ag C 43 [.ptr id 0,aD ax.cells l,D d] H Q:=by
 refine S.QY M ?_;unfold S.f43;simp only[ae];simp only[br,aJ,G,aar];rw[z.load,show bY (cP vars s loc) 1 1 ab0=ab1 loc from rfl];simp only[G];have hlen:∀{H:O}{lc:I}{xs:List (List UInt8)},gW H id lc xs->eV ab0 lc=ab1 (D xs.length):=by
  intro H lc xs h;rcases h with⟨rfl,rfl⟩|⟨j,cs,rfl,_⟩
  ·rfl
  ·rfl
 rw[hlen B];simp only[G,bP];have main:∀(r:List ax)(i:Nat)(A:be)(a:I)(H1:O),l.drop i=r->jO A->s.f.length<=A.f.length->Frame id loc H a H1->At H1 id (.row (cP vars A a))->gW H1 id a A.f->eR vars kw A s.f.length d r=er vars kw s d l ->
   au (S.rv (ag C) (.ptr id 0) (aD ax.cells l) (D d) (D s.f.length) (D l.length) Q) ([D i],H1):=by
  intro r;induction r with
  | nil =>
   intro i A a H1 w q c hf k t he;have hle:=dx w;refine au.step ?_;simp only[ae,S.rv,aq,aX,G,ai];rw[dg];simp only[ae,aw,S.G3,br,aJ,G,aar];rw[k.load,show bY (cP vars A a) 1 1 ab0=ab1 a from rfl];simp only[G];rw[eR]at he;have cut:∃b,cC 1 a ab2 (ab1 (D s.f.length)) ab2=ab1 b/\Frame id a H1 b H1/\(∀cs,At (H1.set id (.row cs)) id (.row cs)->gW (H1.set id (.row cs)) id b (A.f.take s.f.length))/\b.known=abZ/\b.cells=[b]/\b.scalar=abZ:=by
    rcases t with⟨rfl,h⟩|⟨j,cs,rfl,E,R,aA,T⟩
    . have m:s.f.length=0:=by rw[h]at c;simpa using c
      refine⟨Y,?_,⟨hT _,λ_ _ _ _ h=>h,λ_ _ e=>by cases e⟩,λ_ _=> .inl ⟨rfl,by rw[h];simp⟩,rfl,rfl,rfl⟩;rw[m];rfl
    . refine ⟨.row j 0 s.f.length 1,?_,⟨hT _,λ_ _ _ _ h=>h,λi n e=>by cases e;exact .inl ⟨_,rfl⟩⟩,λaB _=> .inr ⟨j,cs,?_,E,R.bq E _,?_,?_⟩,rfl,rfl,rfl⟩
      . simp only[cC,eo];rw[cX];simp only[adm];rw[aa ⟨aad _,by omega,trivial⟩,aa (.inl trivial)];simp
      ·rw[ac2,adn c]
      ·rw[ac2];omega
      ·rw[ac2,adn c,List.map_take,<-T,List.take_take,adn c]
   obtain⟨b,e1,f2,l2,g1,g2,g3⟩:=cut;rw[e1];simp only[G];rw[k.store,aa ⟨g1,by rw[g2];rfl,by rw[g2];simp[g3],by simp[cP]⟩,g2];simp only[G];have U:setCells (cP vars A a) 1 [b]=cP vars (A.back s.f.length) b:=rfl;rw[U];refine P _ b ((hf.trans f2).trans (Frame.of (bj.set id H1 _))) (by rw[<-he];exact k.set _) ?_;rw[<-he];exact l2 _ (k.set _)
  | cons x r W=>
   intro i A a H1 w q c hf k t he;obtain⟨Z,F,ac⟩:=di w;have ah:=acK F;refine au.step ?_;simp only[ae,S.rv,aq,aX,G,ai];rw[cp,cG Z];simp only[G];rw[dH ax.len (by decide) _ F];simp only[G,aM,bx,aQ];rw[bU _ _ _ 10 x.len x.scalar rfl];simp only[G,aJ,aar];have u:=k.push (.row x.cells);have y:bj id H1 (H1.push (.row x.cells)):=bj.push id H1 (.row x.cells);have J:=At.new H1 (.row x.cells);have aj:H1.n≠id:=adh k.hP;have next:∀(s2:be)(p:I)(g:O),jO s2->s.f.length<=s2.f.length->Frame id loc H p g->At g id (.row (cP vars s2 p))->gW g id p s2.f->eR vars kw s2 s.f.length d r=er vars kw s d l ->
     V (S.vy (ag C) ([D i],H1) (au (S.rv (ag C) (.ptr id 0) (aD ax.cells l) (D d) (D s.f.length) (D l.length) Q)) Q) [] g:=by
    intro s2 p g ak al f3 a3 am an;simp only[ae,aw,S.vy,aq,bu,G];rw[bD,fq i];exact W (i+1) s2 p g ac ak al f3 a3 am an
   rw[eR]at he;generalize H1.push _=o at *;generalize H1.n=K at *;refine S.ox M (oG u ?_);simp only[c_,G,ai];apply aF<;>intro h
   . have m:A.bb=0:=by simpa using h
     rw[ad (by simpa using m)]at he;have ao:af o 1 ab0 (.ptr K 1)=ab1 (D x.X):=by rw[J.load,ax.bh,aR.bh];rfl
     simp only[ao,G,br];rw[u.store,aa ⟨rfl,rfl,rfl,by simp[cP]⟩];simp only[G];have ap:setCells (cP vars A a) 3 (D x.X).cells=cP vars (A.at x.X) a:=rfl;rw[ap];have a4:At (o.set id (.row (cP vars (A.at x.X) a))) id (.row (cP vars (A.at x.X) a)):=u.set _;have L:bj id H1 (o.set id (.row (cP vars (A.at x.X) a))):=y.trans (bj.set id o _);have ar:At (o.set id (.row (cP vars (A.at x.X) a))) K (.row x.cells):=J.bq aj _;generalize o.set id (.row (cP vars (A.at x.X) a))=g at *;rw[ar.load,eK x.len];simp only[G];have inv:=KC vars kw x (A.at x.X) d m q;refine N x ah (A.at x.X) d a g _ m q a4 (t.cv L) λav ay f5 a5 az=>?_;exact next _ ay av inv.1 (h1 c inv.2.2) ((hf.trans (Frame.of L)).trans f5) a5 az he
   . have m:A.bb≠0:=by simpa using h
     rw[aa m]at he;exact next A a o q c (hf.trans (Frame.of y)) u (t.cv y) he
 exact main l 0 s loc H rfl hi (hT _) (Frame.of (bj.refl id H)) z B rfl
theorem T5(ap:vars.length<=maxLen)(hv:∀v∈vars,v.ok)(j_:∀x,bX (ag C) 69 [.str x] (.bool (kw x))):∀x:ax,x.ok->KD C id vars kw x:=by
 refine ax.ind λx aH aI aL=>?_;obtain⟨au,⟨aN,aO⟩,⟨aP,aQ⟩,aS,aT⟩:=ax.dq aL;have aU:=aR.dq au;have av:∀e:N,e.ok->yv C id vars e:=TV ar M ap hv;intro s d loc H Q aV hi aW n ay;have q:s.f.length<=1000:=by have:=hi.1;have:=hi.2.1;omega
 have az:=KB vars kw (d:=d) (x:=x) aV hi;rw[stM_eq]at ay;refine S.Rp M ?_;unfold S.f72;simp only[ae];simp only[p9,aM,hO,G];refine h5 M aW λH1 aY W=>?_;simp only[Cs,G];refine T4 ar M x _ _ ?_;refine h5 M W λbk aZ a2=>?_;simp only[gw,iA,so,G];refine Kx ar M _ _ _ _ ?_;refine h5 M a2 λac a0 a3=>?_;have r:=aY.trans (aZ.trans a0);change At ac id (.row (cP vars (eE s d x) loc))at a3;have w:=Co s d x;have tail:∀(K:I)(c:O),Frame id loc H K c->At c id (.row (cP vars (dJ vars kw s d x) K))->gW c id K (dJ vars kw s d x).f->V (S.rK (ag C) (.ptr id 0) (D d) (.ak x.cells) Q) [] c:=by intro K c f4 a4 l4;generalize dJ vars kw s d x=aA at *;simp only[ae,aw,S.rK,gw,oH,G,bu];have b1:=T1 vars kw (d:=B (d+1)) (l:=x.aK) az.1;refine Cu ar M aP (λy E=>aH y E (aQ y E)) az.1 a4 l4 λo af f5 a5 a1=>?_;simp only[Kv,G,br,aJ,aar];change At o id (.row (cP vars (er vars kw aA (B (d+1)) x.aK) af))at a5;generalize er vars kw aA (B (d+1)) x.aK=a at *;rw[a5.store,aa ⟨rfl,rfl,rfl,by simp[cP]⟩];simp only[G];have a9:setCells (cP vars a af) 3 (D x.X).cells=cP vars (a.at x.X) af:=rfl;rw[a9];simp only[G,gw,sq];refine Cu ar M aS (λy E=>aI y E (aT y E)) (s:=a.at x.X) b1.1 (a5.set _) (a1.cv (bj.set id o _)) λm g f6 a6 L=>?_;exact ay m g (((f4.trans f5).trans (Frame.of (bj.set id o _))).trans f6) a6 L
 have iB:∀(c:O),bj id H c->At c id (.row (cP vars (ej vars kw (eE s d x) d x) loc))->V (S.pP (ag C) (.ptr id 0) (D d) (.ak x.cells) Q) [] c:=by
  intro c k a4;have z:=w.trans (KA vars kw (eE s d x) d x);simp only[ae,aw,S.pP,gw,qa,G];refine Ky ar M aN (λe he=>av e (aO e he)) a4 ((n.cv k).still z) (by rw[z.1];exact q) λo ah a5=>?_;have A:=z.trans (yr vars x.aC (ej vars kw (eE s d x) d x) d);have t:=k.trans ah;have a_:dJ vars kw s d x=gv (dt vars (ej vars kw (eE s d x) d x) d x.aC) x:=rfl;rw[a_]at tail;generalize dt vars (ej vars kw (eE s d x) d x) d x.aC=a at *;simp only[iA,G,bc,ai];apply aF<;>intro h
  . have P:x.kind=1:=by simpa using h
    have F:gv a x=a.l8 x.name:=by unfold gv;rw[aa P]
    rw[F]at tail;simp only[br,aJ,G,aar];rw[a5.load,show bY (cP vars a loc) 1 1 ab0=ab1 loc from rfl];simp only[G,gw,ma];rw[show cU o ab0 1 1 [.str []] [(0,1,.str x.name)]=ab1 (.aj .full 1 [.str x.name],o)from rfl];simp only[aM];refine T3 a5 ((n.cv t).still A) (by rw[A.1];exact q) λg m f6 a6 L=>?_;have J:g.known=abZ/\g.cells=[g]/\g.scalar=abZ:=by
     rcases L with⟨rfl,_⟩|⟨j,cs,rfl,_⟩
     ·exact⟨rfl,rfl,rfl⟩
     ·exact⟨rfl,rfl,rfl⟩
    rw[a6.store,aa ⟨J.1,by rw[J.2.1];rfl,by rw[J.2.1];simp[J.2.2],by simp[cP]⟩,J.2.1];simp only[G];have ba:setCells (cP vars a loc) 1 [g]=cP vars a g:=rfl;rw[ba];have a7:At (m.set id (.row (cP vars a g))) id (.row (cP vars a g)):=a6.set _;have al:bj id m (m.set id (.row (cP vars a g))):=bj.set id m _;generalize m.set id (.row (cP vars a g))=aB at *;rw[a7.load,show bY (cP vars a g) 2 1 ab0=ab1 (D a.lets)from rfl];simp only[G,bu];rw[a7.store,aa ⟨rfl,rfl,rfl,by simp[cP]⟩];simp only[G];have R:=al.trans (bj.set id aB (.row (setCells (cP vars a g) 2 (D (aaN .i64 (a.lets+1))).cells)));exact tail g _ (((Frame.of t).trans f6).trans (Frame.of R)) (a7.set _) (L.cv R)
  . have P:x.kind≠1:=by simpa using h
    apply aF<;>intro u
    . have am:x.kind=5:=by simpa using u
      have F:gv a x=((a.cx (a.has x.name) 6).cx ((a.cx (a.has x.name) 6).has x.bW) 6).cx (!(x.name==x.bW)) 7:=by
       unfold gv;rw[ad P,aa am];have:(a.cx (a.has x.name) 6).has x.bW=a.has x.bW:=by unfold be.has;rw[(fj a _ _).1]
       rw[this]
      rw[F]at tail;simp only[ma,sn,G];refine si M a5 ((n.cv t).still A) (by rw[A.1];exact q) ?_;refine h5 M a5 λm T a6=>?_;have an:=A.trans (fj a (a.has x.name) 6);refine si M a6 ((n.cv (t.trans T)).still an) (by rw[an.1];exact q) ?_;refine h5 M a6 λaB al a7=>?_;simp only[k7,G];refine h5 M a7 λbb R a8=>?_;have aD:=t.trans (T.trans (al.trans R));refine tail loc bb (Frame.of aD) a8 ((n.cv aD).still (an.trans ((fj _ _ _).trans (fj _ _ _))))
    . have am:x.kind≠5:=by simpa using u
      have F:gv a x=a:=by unfold gv;rw[ad P,ad am]
      rw[F]at tail;exact tail loc o (Frame.of t) a5 ((n.cv t).still A)
 have ao:ej vars kw (eE s d x) d x=ej vars kw (eE s d x) d x:=rfl
 conv at ao=>rhs;unfold ej
 rw[ao]at iB;clear ao;generalize eE s d x=s1 at *;simp only[iA,G,bc,ai];apply aF<;>intro h
 . rw [aa (by simpa using h)]at iB;have aE:∀(b:Bool)(c:O),b=(en x.name&&!kw x.name)->bj id H c->At c id (.row (cP vars (s1.cx b 6) loc))->V (S.wF (ag C) (.ptr id 0) (D d) (.ak x.cells) Q) [] c:=by
    intro b c U k a4;rw[<-U]at iB;have z:=w.trans (fj s1 b 6);have bd:(s1.cx b 6).has x.name=s1.has x.name:=by unfold be.has;rw[(fj s1 b 6).1]
    have bf:((s1.cx b 6).cx (!s1.has x.name) 7).lets=s1.lets:=((fj s1 b 6).trans (fj _ _ _)).2;simp only[ae,aw,S.wF,gw,ma,G];refine si M a4 ((n.cv k).still z) (by rw[z.1];exact q) ?_;rw[bd];simp only[c_,G];refine h5 M a4 λo ah a5=>?_;simp only[br,aJ,G,aar];rw[a5.load,show bY (cP vars ((s1.cx b 6).cx (!s1.has x.name) 7) loc) 2 1 ab0=ab1 (D ((s1.cx b 6).cx (!s1.has x.name) 7).lets)from rfl,bf];simp only[G,aX];refine h5 M a5 λm T a6=>?_;exact iB m (k.trans (ah.trans T)) a6
   simp only[ma,G];refine B7 ar M x.name _ _ ?_;simp only[bR];apply ite_bool<;>intro hn
   . refine j_ x.name _ _ ?_;simp only[c_,G];refine h5 M a3 λc k a4=>?_;exact aE _ c (by rw[hn];rfl) (r.trans k) a4
   . refine h5 M a3 λc k a4=>?_;exact aE _ c (by rw[hn];rfl) (r.trans k) a4
 . rw [ad (by simpa using h)]at iB;apply aF<;>intro aG
   . rw[aa (by simpa using aG)]at iB;simp only[ma,G];refine si M a3 ((n.cv r).still w) (by rw[w.1];exact q) ?_;refine h5 M a3 λc k a4=>?_;exact iB c (r.trans k) a4
   . rw [ad (by simpa using aG)]at iB;have Y:∀b:Bool,(b=abZ↔(x.kind=3\/x.kind=4\/x.kind=5\/x.kind=6))->V (S.pQ (ag C) (.ptr id 0) (D d) (.ak x.cells) Q) [.bool b] ac:=by
      intro b U;simp only[ae,aw,S.pQ,aq,ai,gw,iA,p_,G];apply aF<;>intro h
      . rw[aa (U.1 h)]at iB;refine Kz ar M ap hv au (λp bg i hi=>av i ((aU.2 p bg).2 i hi)) a3 ((n.cv r).still w) (by rw[w.1];exact q) λH' bh bi=>?_;exact iB H' (r.trans bh) bi
      . rw[ad λy=>h (U.2 y)]at iB;exact iB ac r a3
     apply aF<;>intro Z
     . refine Y _ ?_;simp only[cq]at Z;simp[Z]
     . apply aF<;>intro ab
       . refine Y _ ?_;simp only[cq]at ab;simp[ab]
       . apply aF<;>intro u
         . refine Y _ ?_;simp only[cq]at u;simp[u]
         . refine Y _ ?_;simp only[cq]at Z ab u;simp[Z,ab,u]
end
end Rb
namespace Rb
open Go
variable{n k:Int}{p:PL}
theorem sv{n step:Int}(U:0<=n)(a:n<=1000000000)(b:1<=step)(c:step<=1000000):n<=c7 n step/\c7 n step<=n+step-1:=by rw[Tr U a b c];have d:=Int.mul_ediv_add_emod (n+step-1) step;have e:=ado (n+step-1) (show 0<step by omega);have f:=adp (n+step-1) (show step≠0 by omega);rw[adq]at d;omega
def sw(k:Int)(p:PL):Prop:=0<=p.bit/\p.bit<=k*1000000/\0<=p.size/\p.size<=k*1000000/\1<=p.bF/\p.bF<=16
theorem KE(U:0<=n)(a:n<=1000000000):B (n.tdiv 8)=n/8:=by rw[adr U];exact bD
theorem Cv(U:0<=p.bit)(c:p.bit<=(k+1)*1000000)(g:0<=p.size)(h:p.size<=k*1000000)(d:1<=p.bF)(f:p.bF<=16)(hk:0<=k)(i:k<=40):sw (k+1) (l7 p):=by
 obtain⟨a,b⟩:=sv (n:=p.bit) (step:=8) U (by omega) (by omega) (by omega);have e:B ((c7 p.bit 8).tdiv 8)=c7 p.bit 8/8:=KE (by omega) (by omega);refine⟨U,c,?_,?_,d,f⟩
 . show 0<=max p.size _;omega
 . show max p.size (B ((c7 p.bit 8).tdiv 8))<=_;rw[e];omega
theorem T6{packed:Bool}{kind:Int}{s:List (List UInt8)}{f:aL}{g:Int×Int}(i:sw k p)(hk:0<=k)(j:k<=40)(hs:gE packed s f=0)(U:0<=g.1)(z:g.1<=65536)(A:1<=g.2)(C:g.2<=16):sw (k+1) (iy packed kind p f g):=by
 obtain⟨b1,b2,s1,s2,W,a2⟩:=i;have o:f.bits=abZ->(f.type.size=1\/f.type.size=2\/f.type.size=4\/f.type.size=8)/\0<=f.bo/\f.bo<=64:=by
  intro b;rw[k8]at hs;split at hs
  ·cases hs
  split at hs
  ·cases hs
  split at hs
  ·rename_i l;exact absurd hs l
  rename_i l;split at hs
  ·cases hs
  rename_i hn;split at hs
  ·cases hs
  rename_i hw;have t:f.type.kind=1:=by
   by_cases hk:f.type.kind=1
   ·exact hk
   ·exact absurd (.inr ⟨b,.inl hk⟩) hn
  have c:dc f.type=0:=by simpa using l
  have q:f.type.size=1\/f.type.size=2\/f.type.size=4\/f.type.size=8:=by
   rw[gF,t]at c;split at c
   ·cases c
   . simp only[aQ]at c;split at c
     . rename_i i;simp[ep]at i;omega
     ·cases c
  have D:¬f.bo<0/\¬8*f.type.size<f.bo:=⟨λh=>hw ⟨b,.inl h⟩,λh=>hw ⟨b,.inr (.inl h)⟩⟩
  exact⟨q,by omega,by omega⟩
 have u:1<=fv packed f g.2/\fv packed f g.2<=16:=by
  unfold fv;split
  ·omega
  . split
    . rename_i b;have:=o b;omega
    ·omega
 unfold iy;simp only;generalize e:({p with bF:=max p.bF (fv packed f g.2),bit:=if kind=4 then 0 else p.bit}:PL)=a;have c1:0<=a.bit:=by rw[<-e];show 0<=(if kind=4 then 0 else p.bit);split<;>omega
 have E:a.bit<=k*1000000:=by rw[<-e];show(if kind=4 then 0 else p.bit)<=_;split<;>omega
 have c3:a.size=p.size:=by rw[<-e]
 have d:1<=a.bF/\a.bF<=16:=by rw[<-e];show 1<=max p.bF _/\max p.bF _<=16;omega
 by_cases b:f.bits=abZ
 . rw [aa b];obtain⟨q,w1,w2⟩:=o b;have m:B (8*f.type.size)=8*f.type.size:=bD;obtain⟨v,w⟩:=sv (n:=a.bit) (step:=8*f.type.size) c1 (by omega) (by omega) (by omega);unfold l6;split
   . refine Cv ?_ ?_ ?_ ?_ ?_ ?_ hk j
     ·show 0<=c7 a.bit (B (8*f.type.size));rw[m];omega
     ·show c7 a.bit (B (8*f.type.size))<=_;rw[m];omega
     ·show 0<=a.size;omega
     ·show a.size<=_;omega
     ·exact d.1
     ·exact d.2
   . have o1:a.bit<=iw a f/\iw a f<=a.bit+63:=by
       unfold iw;rw[m];split<;>omega
     have r:B (iw a f+f.bo)=iw a f+f.bo:=bD;refine Cv ?_ ?_ ?_ ?_ ?_ ?_ hk j
     ·show 0<=B (iw a f+f.bo);rw[r];omega
     ·show B (iw a f+f.bo)<=_;rw[r];omega
     ·show 0<=a.size;omega
     ·show a.size<=_;omega
     ·exact d.1
     ·exact d.2
 . rw[ad b];unfold yl;obtain⟨v,w⟩:=sv (n:=a.bit) (step:=8) c1 (by omega) (by omega) (by omega);have e1:B ((c7 a.bit 8).tdiv 8)=c7 a.bit 8/8:=KE (by omega) (by omega);obtain⟨v1,v2⟩:=sv (n:=c7 a.bit 8/8) (step:=fv packed f g.2) (by omega) (by omega) u.1 (by omega);have x:B (c7 (c7 a.bit 8/8) (fv packed f g.2)+g.1)=c7 (c7 a.bit 8/8) (fv packed f g.2)+g.1:=bD;have y:B (8*(c7 (c7 a.bit 8/8) (fv packed f g.2)+g.1))=8*(c7 (c7 a.bit 8/8) (fv packed f g.2)+g.1):=bD;rw[e1,x,y];refine Cv ?_ ?_ ?_ ?_ ?_ ?_ hk j
   ·show 0<=8*(c7 (c7 a.bit 8/8) (fv packed f g.2)+g.1);omega
   ·show 8*(c7 (c7 a.bit 8/8) (fv packed f g.2)+g.1)<=_;omega
   ·show 0<=a.size;omega
   ·show a.size<=_;omega
   ·exact d.1
   ·exact d.2
theorem KF{packed:Bool}{kind:Int}:∀{l:List aL}{a:List (List UInt8)}{k:Int}{p q:PL},sw k p->0<=k->k+l.length<=40->fJ packed a l=0 ->
  (∀f∈l,dc f.type=0->(a_ f.type).2=abZ->0<=(a_ f.type).1.1/\(a_ f.type).1.1<=65536/\1<=(a_ f.type).1.2/\(a_ f.type).1.2<=16)->ei packed kind p l=ab1 q->sw 40 q
 | [],a,k,p,q,c,hk,d,_,_,h=>by simp only[ei,ZW.injEq]at h;subst h;obtain⟨b1,b2,s1,s2,W,a2⟩:=c;simp at d;exact⟨b1,by omega,s1,by omega,W,a2⟩
 | f :: r,a,k,p,q,c,hk,d,hs,hf,h=>by
  simp only[ei]at h;split at h
  . rename_i e;rw[oE]at e h;have g:gE packed a f=0/\fJ packed (a++[f.name]) r=0:=by
     simp only[fJ]at hs;by_cases b:gE packed a f=0
     ·rw[ad (by simpa using b)]at hs;exact⟨b,hs⟩
     ·rw[aa b]at hs;exact absurd hs b
    have i:dc f.type=0:=oB hs f (by simp);obtain⟨g1,g2,g3,g4⟩:=hf f (by simp) i e;simp only[ac7]at d;exact KF (k:=k+1) (T6 c hk (by omega) g.1 g1 g2 g3 g4) (by omega) (by omega) g.2 (λj m=>hf j (by simp[m])) h
  ·cases h
theorem Cw:∀t:ay,dc t=0->(a_ t).2=abZ->0<=(a_ t).1.1/\(a_ t).1.1<=65536/\1<=(a_ t).1.2/\(a_ t).1.2<=16:=by
 refine ay.ind λt d g hs h=>?_;rw[j7]at h ⊢;split at h
 . rename_i c;rw[aa c];rw[gF]at hs;split at hs
   ·cases hs
   . have a:ep t.size 8=abZ\/ep t.size 16=abZ:=by
       rcases c with U|U
       . rw[aa U]at hs;split at hs
         ·exact .inl ‹_›
         ·cases hs
       . rw[bg,aa U]at hs;split at hs
         ·exact .inr ‹_›
         ·cases hs
     show 0<=t.size/\t.size<=65536/\1<=t.size/\t.size<=16;rcases a with a|a<;>(simp[ep]at a;omega)
 . rename_i c;rw[ad c];split at h
   . rename_i b;rw[aa b];obtain⟨e,he,i⟩:=l5 hs b;have hc:1<=t.bO/\t.bO<=65536:=by
      rw[gF,b]at hs;split at hs
      ·cases hs
      . simp at hs;split at hs
        ·cases hs
        ·omega
     rw[he]at h ⊢;simp only[j6,ZL]at h ⊢;obtain⟨h,hle⟩:=h;have hle:=of_decide_eq_true hle;obtain⟨g1,g2,g3,g4⟩:=g e (by rw[he];simp) i h;have hm:0<=(a_ e).1.1*t.bO:=ads g1 (by omega);have m:(a_ e).1.1*t.bO<=65536*65536:=adt g2 hc.2 (by omega) (by omega);have e1:B ((a_ e).1.1*t.bO)=(a_ e).1.1*t.bO:=bD;rw[e1]at hle ⊢;exact⟨hm,hle,g3,g4⟩
   . rename_i b;rw[ad b];cases a:ei t.packed t.kind ⟨0,1,[],0⟩ t.aG with
     |none=>rw[a]at h;cases h
     | some p =>
      rw[a]at h;simp only[du]at h ⊢;have j:t.kind=3\/t.kind=4:=by rcases p8 hs with h|h|h|h|h<;>omega
      have l:fJ t.packed [] t.aG=0:=by
       rw[gF]at hs;split at hs
       ·cases hs
       . rw [bg,bg,bg]at hs;first
          |exact hs
          | (split at hs
             ·cases hs
             ·exact hs)
      obtain⟨b1,b2,s1,s2,W,a2⟩:=KF (k:=0) (p:=⟨0,1,[],0⟩) ⟨by decide,by decide,by decide,by decide,by decide,by decide⟩ (by omega) (by have:=(mM hs j).2;omega) l (λf hf=>d f hf) a;obtain⟨o,q⟩:=sv (n:=p.size) (step:=p.bF) s1 (by omega) W (by omega);exact⟨by omega,h,W,a2⟩
theorem T7{t:ay}(h:(bT t).2=0):0<=(bT t).1.1/\(bT t).1.1<=65536/\1<=(bT t).1.2/\(bT t).1.2<=16:=by
 unfold bT at h ⊢;split at h
 ·rename_i hs;exact absurd h hs
 . rename_i hs;split at h
   ·cases h
   . rename_i ht;split at h
     ·cases h
     . rename_i ho;rw[ad hs,ad ht,ad ho];exact Cw t (hC (by simpa using hs)) (by simpa using ho)
def z5:List UInt8:=[122,122,122,122,122]
end Rb
namespace Rb
open Go
theorem mb(a b:List I):I.dh (a++b)=I.dh a++I.dh b:=by rw[od,od,od,adu]
mutual
theorem ay.hD:∀x:ay,I.dh x.cells=x.cells
 | .mk kind size packed aG bO bf=>by simp only[ay.cells,I.dh,I.eB,aL.i2 aG,ay.i2 bf]
theorem ay.i2:∀xs:List ay,I.dh (ay.all xs)=ay.all xs
 |[]=>rfl
 |x::r=>by rw[ay.all,mb,ay.hD x,ay.i2 r]
theorem aL.hD:∀x:aL,I.dh x.cells=x.cells
 | .mk name type bits bo=>by simp only[aL.cells,I.dh,I.eB,mb,ay.hD type]
theorem aL.i2:∀xs:List aL,I.dh (aL.all xs)=aL.all xs
 |[]=>rfl
 |x::r=>by rw[aL.all,mb,aL.hD x,aL.i2 r]
end
mutual
theorem N.hD:∀x:N,I.dh x.cells=x.cells
 | .mk kind n name op aB place aY=>by simp only[N.cells,I.dh,I.eB,mb,aR.hD place,N.i2 aY]
theorem N.i2:∀xs:List N,I.dh (N.all xs)=N.all xs
 |[]=>rfl
 |x::r=>by rw[N.all,mb,N.hD x,N.i2 r]
theorem aR.hD:∀x:aR,I.dh x.cells=x.cells
 | .mk var aE=>by simp only[aR.cells,I.dh,I.eB,aO.i2 aE]
theorem aO.hD:∀x:aO,I.dh x.cells=x.cells
 | .mk field aV=>by simp only[aO.cells,I.dh,I.eB,N.i2 aV]
theorem aO.i2:∀xs:List aO,I.dh (aO.all xs)=aO.all xs
 |[]=>rfl
 |x::r=>by rw[aO.all,mb,aO.hD x,aO.i2 r]
end
theorem qb{α:Type}{cells:α->List I}(h:∀x,I.dh (cells x)=cells x)(xs:List α):(aD cells xs).eB=aD cells xs:=by
 have:I.dh (xs.flatMap cells)=xs.flatMap cells:=by
  induction xs with
  |nil=>rfl
  |cons x xs a=>rw[ach,mb,h,a]
 simp only[aD,I.eB,this]
theorem aA.hD(x:aA):I.dh x.cells=x.cells:=by simp only[aA.cells,I.dh,I.eB,ay.hD]
mutual
theorem ax.hD:∀x:ax,I.dh x.cells=x.cells
 | .mk kind X name bW aB place aC aK bB=>by simp only[ax.cells,I.dh,I.eB,mb,aR.hD place,qb N.hD aC,ax.i2 aK,ax.i2 bB]
theorem ax.i2:∀xs:List ax,I.dh (ax.all xs)=ax.all xs
 |[]=>rfl
 |x::r=>by rw[ax.all,mb,ax.hD x,ax.i2 r]
end
theorem T8(l:List ax):I.dh (gN l)=gN l:=by simp only[gN,I.dh,qb ax.hD]
theorem dy.hD(x:dy):I.dh x.cells=x.cells:=by simp only[dy.cells,I.dh,qb aA.hD,qb T8]
section
variable{Φ:Z}{H:O}{Q:ab}
theorem T9(M:Cl Φ S.cn){p:aA->Bool}{a:Nat}{cB:List I}{xs:List aA}(hf:∀x∈xs,∀(R:ab),R (.bool (p x)) H->Φ a ([.agg x.cells]++cB) H R)(hl:xs.length<=9223372036854775807)
  (b:Q (.bool (xs.any p)) H) (c:iM a=ab2:=by first|assumption|rfl):Φ 70 [aD aA.cells xs,.fn a cB] H Q:=by
 refine S.Rn M ?_;unfold S.f70;simp only[ae];refine S.BR M (Cb hf hl ?_);simp only[eD,G,yb];exact b
theorem T_{w:aA}{id:Nat}{v:aA}(a:At H id (.row v.cells))(b:Q (.bool (w.name==v.name)) H):S.f71 Φ (.agg w.cells) (.ptr id 0) H Q:=by
 unfold S.f71;simp only[ae];have c:cg H ab0 7 (.agg w.cells)=ab1 (.ak w.cells,H):=by unfold cg;rw[aa ⟨rfl,w.len⟩];rfl
 have d:af H 1 ab0 (.ak (w.cells.drop 0))=ab1 (.str w.name):=sd w;have l1:af H 1 ab0 (.ptr id 0)=ab1 (.str v.name):=by rw[a.load];exact sd v
 rw[c];simp only[aM,aJ,G,d,aah,l1,fQ];exact b
end
section
variable{C:Ctx}(ar:cY C)(M:Cl (ag C) S.cn){kw:List UInt8->Bool}(j_:∀x,bX (ag C) 69 [.str x] (.bool (kw x)))
include ar M j_
theorem Ua{vars:List aA}(hv:∀v∈vars,v.ok){H:O}{Q:ab}(l:∀H',Q (D (jz kw vars)) H'):S.f42 (ag C) (aD aA.cells vars) H Q:=by
 have fin:∀z H',z=jz kw vars->Q (D z) H':=λz H' h=>by rw[h];exact l H'
 clear l;unfold S.f42;simp only[ae];simp only[bP,G,dS,ai];unfold jz at fin;apply aF<;>intro h
 ·exact fin _ _ (by rw[aa (by simp only[du,gt_iff_lt]at h;omega)])
 . have hl : vars.length<=32:=by simp only[du,gt_iff_lt]at h;omega
   rw[bg]at fin;have main:∀(r:List aA)(i:Nat)(a:Int)(H1:O),vars.drop i=r->l9 kw ((vars.take i).map aA.name) a r=l9 kw [] 0 vars ->
     au (S.pL (ag C) (aD aA.cells vars) (D vars.length) Q) ([D a,D i],H1):=by
    intro r;induction r with
    | nil=>
     intro i a H1 f he;have hle:=dx f;refine au.step ?_;simp only[ae,S.pL,aq,bp,aX,G,ai];rw[dg];simp only[ae,aw,S.G1,aq,dS,G,ai];rw[l9]at he;apply aF<;>intro h
     ·exact fin _ _ (by rw[<-he,aa (by simpa using h)])
     ·exact fin _ _ (by rw[<-he,ad (by simpa using h)])
    | cons v r t=>
     intro i a H1 f he;obtain⟨m,g,u⟩:=di f;have x:=acK g;refine au.step ?_;simp only[ae,S.pL,aq,bp,aX,G,ai];rw[cp,cG m];simp only[G];rw[dH aA.len (by decide) _ g];simp only[G,aM,bx,aQ];rw[bU _ _ _ 7 v.len v.scalar rfl];simp only[G,aJ,aar,aah];have j:=At.new H1 (.row v.cells);generalize H1.push _=c at *;generalize H1.n=d at *;have o:af c 1 ab0 (.ptr d 0)=ab1 (.str v.name):=by rw[j.load];exact sd v
     have l1:af c 6 abZ (.ptr d 1)=ab1 (.agg v.type.cells):=by rw[j.load,SW (by rw[v.len];omega)];show bY (v.cells.drop 1) 0 6 abZ=_;exact eK v.type.len
     simp only[o,G];rw[l9]at he;have A:¬(en v.name=ab0\/kw v.name=abZ)->¬((vars.take i).map aA.name).contains v.name=abZ ->
       V (S.Be (ag C) (.ptr d 0) ([D a,D i],H1) (au (S.pL (ag C) (aD aA.cells vars) (D vars.length) Q)) Q) [] c:=by
      intro e B;rw[ad e,ad B]at he;simp only[ae,aw,S.Be,aJ,aar,G,l1];refine Ci ar M v.type (hv v x).2 _ _ ?_;simp only[bL,acn,aco,G,cJ,ai];apply aF<;>intro h
      . rw[aa (by simpa using h)]at he;exact fin _ _ he
      . have q:(bT v.type).2=0:=by simpa using h
        rw[ad (by simpa using q)]at he;have k:=T7 q;simp only[aq,bu,dC,e2,G];rw[jw _ _ _ (by omega)];simp only[ae,G,e2,bu,aw,S.GZ,aq,bp];rw[wrap_i64 (n:=(i:Int)+1) (by omega) (by omega),fq i];refine t (i+1) _ c u ?_;rw[<-he,acQ,g];simp[c7]
     have s:∀b:Bool,(b=abZ↔(en v.name=ab0\/kw v.name=abZ))->V (S.vx (ag C) (aD aA.cells vars) (.ptr d 0) ([D a,D i],H1) (au (S.pL (ag C) (aD aA.cells vars) (D vars.length) Q)) Q) [.bool b] c:=by
      intro b k;simp only[aw,S.vx,aq,bp,ai];apply aF<;>intro h
      . rw[aa (k.1 h)]at he;exact fin _ _ he
      . have e:¬(en v.name=ab0\/kw v.name=abZ):=λy=>h (k.2 y);rw[J0 aA.len (adv m)];simp only[G];refine T9 M (p:=λw=>w.name==v.name) (λw _ R E=>S.Ro M (T_ j E)) (by rw[ac2];omega) ?_;simp only[ai];have hc:((vars.take i).any λw=>w.name==v.name)=abZ↔((vars.take i).map aA.name).contains v.name=abZ:=by
         rw[abC,List.contains_iff_mem,abW];simp only[cq]
        apply aF<;>intro h
        . rw[ad e,aa (hc.1 h)]at he;exact fin _ _ he
        ·exact A e λy=>h (hc.2 y)
     refine B7 ar M v.name _ _ ?_;simp only[c_,G,b4];apply ek<;>intro h
     . simp only[o,G];refine j_ v.name _ _ ?_;refine s _ ?_;simp only[Bool.not_eq_false']at h;simp[h]
     . refine s _ ?_;simp only[abr]at h;simp[h]
   exact main vars 0 0 H rfl rfl
def oI(r:Int×Int):I:= .agg [D r.1,D r.2]
theorem Ub(p:dy)(K:p.ok):bX (ag C) 15 [.agg p.cells] (oI (dz kw p)):=by
 obtain⟨⟨L,hv⟩,al,ht⟩:=K;refine bX.of ar (by simp[I.cD,I.cj,dy.cj]) rfl λQ w=>S.QB M ?_;have fin:∀(a b:Int) H',(a,b)=dz kw p->Q (.agg [D a,D b]) H':=λa b H' h=>by have:=w H';rw[<-h]at this;exact this
 clear w;have N:cg O.mt ab0 2 (.agg p.cells)=ab1 (.ak p.cells,O.mt):=by unfold cg;rw[aa ⟨rfl,rfl⟩];rfl
 have k:∀H,af H 1 ab0 (.ak (p.cells.drop 0))=ab1 (aD aA.cells p.vars):=λ_=>rfl;have m:∀H,af H 1 ab0 (.ak (p.cells.drop 1))=ab1 (aD gN p.b6):=λ_=>rfl;unfold S.f15;simp only[ae];simp only[N,aM,bx,aQ,aJ,G,k,bP,dS,b4];generalize am:O.mt=H0;have o:=At.new H0 (.row [J,J]);generalize H0.push _=j at *;generalize H0.n=d at *;have out:∀(a b:Int)(H1:O),At H1 d (.row [J,J])->(a,b)=dz kw p->Do (bZ H1 2 (.ptr d 0) (.agg [D a,D b])) λq=>Do (af q 2 abZ (.ptr d 0)) λx=>Q x q:=by intro a b H1 f he;rw[f.put (n:=2) rfl rfl rfl];simp only[G];rw[(f.set _).all (n:=2) rfl];simp only[G];exact fin a b _ he
 unfold dz at out;have P : ¬(32<p.vars.length\/p.b6.length<1\/8<p.b6.length)->V (S.A9 (ag C) (.ak p.cells) (.ptr d 0) Q) [] j:=by
  intro hn;rw[ad hn]at out;simp only[ae,aw,S.A9,aJ,G,k];refine bX.of ar (by simp[I.cD,lZ aA.cj]) rfl (λan R=>S.QX M (Ua ar M j_ hv R)) _ _ ?_;simp only[cJ,G,ai];apply aF<;>intro h
  . rw[aa (by simpa using h)]at out;rw[show bI [J,J] [(1,1,D (jz kw p.vars))]=ab1 (.agg [J,D (jz kw p.vars)])from rfl];simp only[G];exact out 0 _ j o rfl
  . rw [ad (by simpa using h)]at out;simp only[m,G,bP];have main:∀(r:List (List ax)) (i:Nat) (H1:O),p.b6.drop i=r->At H1 d (.row [J,J])->k9 kw p.vars r=k9 kw p.vars p.b6 ->
      au (S.uY (ag C) (.ak p.cells) (.ptr d 0) (aD gN p.b6) (D p.b6.length) Q) ([D i],H1):=by
     intro r;induction r with
     | nil=>intro i H1 u f he;have hle:=dx u;refine au.step ?_;simp only[ae,S.uY,aq,aX,G,ai];rw[dg];simp only[ae,aw,S.Gj];rw[show bI [J,J] []=ab1 (.agg [J,J])from rfl];simp only[G];exact out 0 0 H1 f he
     | cons t r T=>
      intro i H1 u f he;obtain⟨U,z,W⟩:=di u;obtain⟨ao,X⟩:=ht t (acK z);refine au.step ?_;simp only[ae,S.uY,aq,aX,G,ai];rw[cp,cG U];simp only[G];have Z:af H1 1 ab0 (eP gN 1 p.b6 i)=ab1 (aD ax.cells t):=r_ (c:=λl=>aD ax.cells l) H1 z;rw[Z];simp only[G,aJ,k];rw[show bI [Y,Y,J,J,J,J] [(0,1,aD aA.cells p.vars)]=ab1 (.agg (cP p.vars s0 Y))from rfl];simp only[G];have g:cg H1 abZ 6 (.agg (cP p.vars s0 Y))=ab1 (.ptr H1.n 0,H1.push (.row (cP p.vars s0 Y))):=by unfold cg;rw[aa ⟨rfl,rfl⟩];rfl
      rw[g];simp only[aM];have ab:=At.new H1 (.row (cP p.vars s0 Y));have ac:d≠H1.n:=f.hP;have a3:=f.push (.row (cP p.vars s0 Y));generalize H1.push _=q at *;generalize H1.n=id at *;have hm:=la;refine Cu ar M (kw:=kw) (by omega) (λx ah=>T5 ar M L hv j_ x (X x ah)) (s:=s0) ⟨by decide,by decide,by decide⟩ ab (.inl ⟨rfl,rfl⟩) λA aj f5 a5 ap=>?_;have B:=f5.2.1 d _ ac (λn e=>by cases e) a3;rw[k9]at he;generalize er p.vars kw s0 1 t=v at *;refine S.ox M (oG a5 ?_);simp only[ai];apply aF<;>intro h
      . rw[aa (by simpa using h)]at he;simp only[br,aJ,G,aar];rw[a5.load,show bY (cP p.vars v aj) 4 2 abZ=ab1 (.agg [D v.hQ,D v.bb])from rfl];simp only[G];exact out _ _ A B he
      . rw[ad (by simpa using h)]at he;simp only[bu,G];rw[bD,fq i];exact T (i+1) A W B he
    exact main p.b6 0 j rfl o rfl
 have E:∀b:Bool,(b=abZ↔(32<p.vars.length\/p.b6.length<1\/8<p.b6.length))->V (S.uZ (ag C) (.ak p.cells) (.ptr d 0) Q) [.bool b] j:=by
  intro b g;simp only[ae,aw,S.uZ,aq,ai];apply aF<;>intro h
  . rw[aa (g.1 h)]at out;rw[show bI [J,J] [(1,1,D 12)]=ab1 (.agg [J,D 12])from rfl];simp only[G];exact out 0 12 j o rfl
  ·exact P λy=>h (g.2 y)
 have F:∀b:Bool,(b=abZ↔(32<p.vars.length\/p.b6.length<1))->V (S.u0 (ag C) (.ak p.cells) (.ptr d 0) Q) [.bool b] j:=by
  intro b g;simp only[ae,aw,S.u0,aq,b4,aJ,G,m,bP,dS];apply ek<;>intro h
  . refine E _ ?_;have hn:¬(32<p.vars.length\/p.b6.length<1):=λy=>by have:=g.2 y;rw[h]at this;cases this
    simp only[du,gt_iff_lt];omega
  . refine E _ ?_;have:=g.1 h;simp only[true_iff];omega
 apply ek<;>intro h
 . simp only[m,G,bP,aX];refine F _ ?_;simp only[decide_eq_false_iff_not,gt_iff_lt]at h;simp only[du];omega
 . refine F _ ?_;simp only[du,gt_iff_lt]at h;simp only[true_iff];omega
end
end Rb
namespace Rb
open Go
abbrev h6(n:Int):Int:=aaN .u64 n
mutual
def gQ:N->Int->Int
 | .mk kind n name op aB place aY,m=>if kind>=4 then B (B (m+B (bS place+b9 aY 0))+1)else B (m+B (bS place+b9 aY 0))
def b9:List N->Int->Int
 |[],m=>m
 |e::r,m=>b9 r (gQ e m)
def bS:aR->Int
 | .mk var aE=>hS aE 0
def hS:List aO->Int->Int
 |[],m=>m
 |p::r,m=>hS r (jA p m)
def jA:aO->Int->Int
 | .mk field aV,m=>B (m+b9 aV 0)
end
mutual
def h7:ax->Int->Int
 | .mk kind X name bW aB place aC aK bB,m=>
  if 3<=kind/\kind<=7 then B (B (m+B (B (B (bS place+b9 aC 0)+dv aK 0)+dv bB 0))+1)
  else B (m+B (B (B (bS place+b9 aC 0)+dv aK 0)+dv bB 0))
def dv:List ax->Int->Int
 |[],m=>m
 |x::r,m=>dv r (h7 x m)
end
structure bz where
 kind:Int
 site:Int
 X:Int
 spot:bM
 aB:Int
 op:Int
 d0:Int
 d1:Int
def bN:bM:=⟨0,0,0,ab0,0,0⟩
def cw:bz:=⟨0,0,0,bN,0,0,0,0⟩
def bz.cells(w:bz):List I:= D w.kind :: D w.site :: D w.X::(w.spot.cells++[D w.aB,D w.op,T w.d0,T w.d1])
structure RS where
 aW:List (Int×Int)
 aN:List (List UInt8×Int)
 pr:List Int
 X:Int
 fuel:Int
 fin:Int
 want:bz
 stop:Bool
 empty:Bool
def RS.b5(s:RS):RS:=if s.stop=abZ then s else if s.fuel<1 then {s with stop:=abZ,empty:=abZ,fuel:=B (s.fuel-1)} else {s with fuel:=B (s.fuel-1)}
def RS.ask(s:RS)(w:bz):RS×Int×Int:=
 if s.stop=abZ then(s,0,0)else match s.aW with
 |[]=>({s with want:={w with X:=s.X},stop:=abZ},0,0)
 |x::r=>({s with aW:=r},x.1,x.2)
def RS.get(s:RS)(x:List UInt8):Int:=match s.aN.find? (λl=>l.1==x)with|some l=>l.2|none=>0
def RS.put(s:RS)(x:List UInt8)(v:Int):RS:=match s.aN.findIdx? (λl=>l.1==x)with|some i=>{s with aN:=s.aN.set i (x,v)}|none=>s
def gX(a b:Int):Int:=aaN .u64 (AH 64 a &&& AH 64 b).toNat
def jB(a b:Int):Int:=aaN .u64 (AH 64 a ||| AH 64 b).toNat
def Uc(a b:Int):Int:=aaN .u64 (AH 64 a ^^^ AH 64 b).toNat
def sx(a b:Int):Int:=aaN .u64 (AH 64 a &&& ~~~AH 64 b).toNat
def hU(a b:Int):Int:=aaN .u64 (a*2^(min b.toNat 64))
def mc(a b:Int):Int:=a.fdiv (2^(min b.toNat 64))
def eS(n:Int):Int:=if n<1 then 0 else if n>=64 then 18446744073709551615 else aaN .u64 (hU 1 n-1)
def jP(n:Int):Bool:=decide (n>=0)&&decide (n<64)
def iC(x a n:Int):Int:=if jP a=abZ then gX (mc x a) (eS n)else 0
def i3(x a n v:Int):Int:=if jP a=abZ then jB (sx x (hU (eS n) a)) (hU (gX v (eS n)) a)else x
def me(op a b:Int):Int:=
 if op=1 then aaN .u64 (a+b)else if op=2 then aaN .u64 (a-b)else if op=3 then aaN .u64 (a*b)
 else if op=4 then gX a b else if op=5 then jB a b else if op=6 then Uc a b
 else if op=7 then hU a (b.tmod 64)else if op=8 then mc a (b.tmod 64)
 else if(if op=9 then a==b else if op=10 then a != b else decide (a<b))=abZ then 1 else 0
def e5:List aA->Int->List bM->Int×Int×List bM
 |[],at',acc=>(0,at',acc)
 | v::r,at',acc=>if(bT v.type).2≠0 then((bT v.type).2,0,[])else
  let x:=B (B (adw (B (B (at'+(bT v.type).1.2)-1)) (bT v.type).1.2)*(bT v.type).1.2);let y:=if x>65536 then 65537 else x
  e5 r (B (y+(bT v.type).1.1)) (acc++[⟨B (65536+y),(bT v.type).1.1,0,ab0,0,0⟩])
def mapM(vars:List aA):Int×Int×List bM:=if(e5 vars 0 []).1≠0 then((e5 vars 0 []).1,0,[])else if(e5 vars 0 []).2.1>65536 then(9,0,[])else e5 vars 0 []
def e6:List aO->Int->Int
 |[],n=>n
 |p::r,n=>e6 r (B (n+p.aV.length))
def gx(t:ay):List bM:=match ei t.packed t.kind ⟨0,1,[],0⟩ t.aG with|some p=>p.eh|none=>[]
def fk:List aO->ay->bM->List Int->Option bM
 |[],_,sp,_=>ab1 sp
 | p :: r,t,sp,idx=>
  if p.aV.length=1 then(match idx with
    |[]=>ab2
    | i::q=>if i>=h6 t.bO then ab2 else match t.bf with
     |[]=>ab2
     |e::_=>fk r e {sp with at_:=B (sp.at_+B (aaN .i64 i*(bT e).1.1)),len:=(bT e).1.1} q)
  else match t.aG.findIdx? (λf=>f.name==p.field)with
   |none=>ab2
   | some n=>match t.aG[n]?,(gx t)[n]? with
    |some f,ab1 s=>fk r f.type {s with at_:=B (s.at_+sp.at_)} idx
    |_,_=>ab2
def ba(vars:List aA)(x:aR)(a:List Int):bM:=
 if(mapM vars).1≠0 then bN else if(bQ vars x).1≠0 then bN else if ¬((bQ vars x).2.kind=1\/(bQ vars x).2.kind=2)then bN
 else if(a.length:Int)≠e6 x.aE 0 then bN else
 match vars.findIdx? (λv=>v.name==x.var)with
 |none=>bN
 | some n=>match vars[n]?,(mapM vars).2.2[n]? with
  | some v,ab1 g=>match fk x.aE v.type {bN with at_:=g.at_,len:=g.len} a with
   |some sp=>{sp with kind:=(bQ vars x).2.kind}
   |none=>bN
  |_,_=>bN
def jC(vars:List aA)(x:aR):Int:=if(bQ vars x).1=0 then(bQ vars x).2.bO else 0
def i5(kind aB:Int)(sp:bM)(W:Int)(aY:List N)(vs:List Int):bz:=⟨if kind>=6 then 3 else 1,B (B (W+b9 aY 0)+1),0,sp,aB,if kind>=6 then kind else 0,vs.getD 0 0,vs.getD 1 0⟩
def qc(sp:bM)(g:RS×Int×Int):RS×Int:=(g.1,if sp.bits=abZ then iC g.2.1 sp.bit sp.bo else g.2.1)
section
variable(vars:List aA)
mutual
def cA:N->Int->RS->RS×Int
 | .mk kind n name op aB place aY,a,s=>
  if s.b5.stop=abZ then(s.b5,0)
  else if kind=1 then(s.b5,n)
  else if kind=2 then(s.b5,s.b5.get name)
  else if kind=3 then((cr aY a s.b5).1,me op ((cr aY a s.b5).2.getD 0 0) ((cr aY a s.b5).2.getD 1 0))
  else match (cO place a s.b5).2 with
   |none=>((cO place a s.b5).1,0)
   |some sp=>qc sp ((cr aY (B (a+bS place)) (cO place a s.b5).1).1.ask (i5 kind aB sp (B (a+bS place)) aY (cr aY (B (a+bS place)) (cO place a s.b5).1).2))
def cr:List N->Int->RS->RS×List Int
 |[],a,s=>(s,[])
 |x::r,a,s=>((cr r (B (a+gQ x 0)) (cA x a s).1).1,(cA x a s).2::(cr r (B (a+gQ x 0)) (cA x a s).1).2)
def cO:aR->Int->RS->RS×Option bM
 | .mk var aE,a,s=>((ed (.mk var aE) aE 0 a [] s).1,(ed (.mk var aE) aE 0 a [] s).2.map λidx=>ba vars (.mk var aE) idx)
def ed(x:aR):List aO->Nat->Int->List Int->RS->RS×Option (List Int)
 |[],k,a,idx,s=>(s,ab1 idx)
 | p::r,k,a,idx,s=>match mf p a s with
  |none=>ed x r (k+1) a idx s
  |some q=>if q.1.stop=abZ then(q.1,ab2)else if q.2>=h6 (jC vars ⟨x.var,x.aE.take k⟩)then({q.1 with fin:=2,stop:=abZ},ab2)else ed x r (k+1) (B (a+jA p 0)) (idx++[q.2]) q.1
def mf:aO->Int->RS->Option (RS×Int)
 | .mk field aV,a,s=>mP aV a s
def mP:List N->Int->RS->Option (RS×Int)
 |[],_,_=>ab2
 |e::_,a,s=>ab1 (cA e a s)
end
def dd(l:List N)(a:Int)(s:RS):RS×Int:=match l with|[]=>(s,0)|e::_=>cA vars e a s
def lb(sp:bM)(a:Int)(s:RS):RS×Int×Int:=if sp.bits=abZ then s.ask ⟨1,a,0,sp,0,0,0,0⟩else(s,0,0)
def h8(sp:bM)(o v:Int):Int:=gX (if sp.bits=abZ then i3 o sp.bit sp.bo v else v) (eS (B (8*sp.len)))
def ny(aC:List N)(aB W:Int)(sp:bM)(s:RS):RS:=((lb sp (B (B (W+b9 aC 0)+1)) (cr vars aC W s).1).1.ask ⟨2,B (B (W+b9 aC 0)+1),0,sp,aB,0,h8 sp (lb sp (B (B (W+b9 aC 0)+1)) (cr vars aC W s).1).2.1 ((cr vars aC W s).2.getD 0 0),(cr vars aC W s).2.getD 1 0⟩).1
def mQ(place:aR)(aC:List N)(aB a:Int)(s:RS):RS:=
 match (cO vars place a s).2 with
 |none=>(cO vars place a s).1
 |some sp=>ny vars aC aB (B (a+bS place)) sp (cO vars place a s).1
def ld(name bW:List UInt8)(g:RS×Int×Int):RS:=if g.1.stop=abZ then g.1 else(g.1.put name g.2.1).put bW g.2.2
def ka(name bW:List UInt8)(place:aR)(aB a:Int)(s:RS):RS:=
 match (cO vars place a s).2 with
 |none=>(cO vars place a s).1
 |some sp=>ld name bW ((cO vars place a s).1.ask ⟨1,B (B (a+bS place)+1),0,sp,aB,0,0,0⟩)
def gk(cond:RS->RS×Int)(body:RS->RS):Nat->RS->RS
 |0,s=>s
 |c+1,s=>if(cond s).2≠0/\(cond s).1.stop=ab0 then gk cond body c (body (cond s).1)else(cond s).1
variable(c:Nat)
mutual
def e7:ax->Int->RS->RS
 | .mk kind X name bW aB place aC aK bB,a,s=>
  if kind=3\/kind=4\/kind=6 then mQ vars place aC aB a s
  else if kind=5 then ka vars name bW place aB a s
  else if kind=7 then(s.ask ⟨4,B (a+1),0,bN,aB,0,0,0⟩).1
  else if kind=9 then gk (dd vars aC a) (λs1=>{cl aK (B (a+b9 aC 0)) s1.aN.length s1 with X:=X}) c s
  else if(dd vars aC a s).1.stop=abZ then(dd vars aC a s).1
  else if kind=1 then {(dd vars aC a s).1 with aN:=(dd vars aC a s).1.aN++[(name,(dd vars aC a s).2)]}
  else if kind=2 then(dd vars aC a s).1.put name (dd vars aC a s).2
  else if kind=10 then {(dd vars aC a s).1 with pr:=(dd vars aC a s).1.pr++[(dd vars aC a s).2]}
  else if(dd vars aC a s).2≠0 then cl aK (B (a+b9 aC 0)) (dd vars aC a s).1.aN.length (dd vars aC a s).1
  else cl bB (B (B (a+b9 aC 0)+dv aK 0)) (dd vars aC a s).1.aN.length (dd vars aC a s).1
def cl:List ax->Int->Nat->RS->RS
 |[],a,n,s=>{s with aN:=s.aN.take n}
 |x::r,a,n,s=>if s.stop=abZ then s else cl r (B (a+h7 x 0)) n (e7 x a ({s with X:=x.X}:RS).b5)
end
end
def RS.init(aW:List (Int×Int))(fuel:Int):RS:=⟨aW,[],[],0,fuel,0,cw,ab0,ab0⟩
def hV(vars:List aA)(c:Nat)(l:List ax)(aW:List (Int×Int))(fuel:Int):bz×Int×List Int×Int:=
 let s:=cl vars c l 0 0 (RS.init aW fuel)
 if s.empty=abZ then(cw,0,[],16)else if s.stop=ab0 then(s.want,1,s.pr,0)else(s.want,s.fin,s.pr,0)
end Rb
namespace Rb
open Go
variable{e:ax}{l:List N}{x:aR}
section
variable{H:O}{id:Nat}
theorem yw{e:N}(h:At H id (.row e.cells)):af H 1 ab0 (.ptr id 0)=ab1 (D e.kind):=by rw[h.load,N.bh,aR.bh];rfl
theorem KG{e:N}(h:At H id (.row e.cells)):af H 2 abZ (.ptr id 5)=ab1 (.agg e.place.cells):=by rw[h.load,N.bh,aR.bh];rfl
theorem Cx{e:N}(h:At H id (.row e.cells)):af H 1 ab0 (.ptr id 7)=ab1 (aD N.cells e.aY):=by rw[h.load,N.bh,aR.bh];rfl
theorem KH{e:N}(h:At H id (.row e.cells)):af H 8 abZ (.ptr id 0)=ab1 (.agg e.cells):=by rw[h.load,eK e.len]
theorem mg(h:At H id (.row e.cells)):af H 1 ab0 (.ptr id 0)=ab1 (D e.kind):=by rw[h.load,ax.bh,aR.bh];rfl
theorem Cy(h:At H id (.row e.cells)):af H 1 ab0 (.ptr id 1)=ab1 (D e.X):=by rw[h.load,ax.bh,aR.bh];rfl
theorem oJ(h:At H id (.row e.cells)):af H 2 abZ (.ptr id 5)=ab1 (.agg e.place.cells):=by rw[h.load,ax.bh,aR.bh];rfl
theorem sy(h:At H id (.row e.cells)):af H 1 ab0 (.ptr id 7)=ab1 (aD N.cells e.aC):=by rw[h.load,ax.bh,aR.bh];rfl
theorem sA(h:At H id (.row e.cells)):af H 1 ab0 (.ptr id 8)=ab1 (aD ax.cells e.aK):=by rw[h.load,ax.bh,aR.bh];rfl
theorem qd(h:At H id (.row e.cells)):af H 1 ab0 (.ptr id 9)=ab1 (aD ax.cells e.bB):=by rw[h.load,ax.bh,aR.bh];rfl
theorem KI(h:At H id (.row e.cells)):af H 10 abZ (.ptr id 0)=ab1 (.agg e.cells):=by rw[h.load,eK e.len]
theorem yx{e:aO}(h:At H id (.row e.cells)):af H 1 ab0 (.ptr id 1)=ab1 (aD N.cells e.aV):=by rw[h.load,aO.bh];rfl
end
theorem mR(x:aR)(H:O):cg H ab0 2 (.agg x.cells)=ab1 (.ak x.cells,H):=by unfold cg;rw[aa ⟨rfl,x.len⟩];rfl
theorem iD(x:aR)(i:Nat):aJ i (.ak x.cells)=ab1 (.ak (x.cells.drop i)):=rfl
theorem sB(x:aR)(H:O):af H 1 ab0 (.ak (x.cells.drop 0))=ab1 (.str x.var):=by rw[aR.bh];rfl
theorem i6(x:aR)(H:O):af H 1 ab0 (.ak (x.cells.drop 1))=ab1 (aD aO.cells x.aE):=by rw[aR.bh];rfl
theorem yy(x:aR)(H:O):af H 2 abZ (.ak x.cells)=ab1 (.agg x.cells):=eK x.len
theorem sC(e:N)(m:Int):gQ e m=if e.kind>=4 then B (B (m+B (bS e.place+b9 e.aY 0))+1)else B (m+B (bS e.place+b9 e.aY 0)):=by cases e;rw[gQ]
theorem Cz(x:aR):bS x=hS x.aE 0:=by cases x;rw[bS]
theorem qe(p:aO)(m:Int):jA p m=B (m+b9 p.aV 0):=by cases p;rw[jA]
theorem qf(x:ax)(m:Int):h7 x m=if 3<=x.kind/\x.kind<=7 then B (B (m+B (B (B (bS x.place+b9 x.aC 0)+dv x.aK 0)+dv x.bB 0))+1)
  else B (m+B (B (B (bS x.place+b9 x.aC 0)+dv x.aK 0)+dv x.bB 0)):=by cases x;rw[h7]
section
variable{C:Ctx}(ar:cY C)(M:Cl (ag C) S.cn)
include ar M
def CA(C:Ctx)(e:N):Prop:=bX (ag C) 139 [aD N.cells e.aY] (D (b9 e.aY 0))/\bX (ag C) 136 [.agg e.place.cells] (D (bS e.place))
theorem CB(hl:l.length<=9223372036854775807)(h:∀e∈l,CA C e):bX (ag C) 139 [aD N.cells l] (D (b9 l 0)):=by
 refine bX.of ar (by simp[I.cD,lZ N.cj]) rfl λQ f=>S.R4 M ?_;unfold S.f139;simp only[ae];simp only[bP,G];have main:∀(r:List N)(i:Nat)(m:Int)(H1:O),l.drop i=r->b9 r m=b9 l 0->au (S.xK (ag C) (aD N.cells l) (D l.length) Q) ([D m,D i],H1):=by
  intro r;induction r with
  | nil=>intro i m H1 a he;have hle:=dx a;refine au.step ?_;simp only[ae,S.xK,aq,bp,aX,G,ai];rw[dg];rw[b9]at he;rw[he];exact f _
  | cons e r b=>
   intro i m H1 a he;obtain⟨g,c,d⟩:=di a;obtain⟨c1,j⟩:=h e (acK c);refine au.step ?_;simp only[ae,S.xK,aq,bp,aX,G,ai];rw[cp,cG g];simp only[G];rw[dH N.len (by decide) _ c];simp only[G,aM,bx,aQ];rw[bU _ _ _ 8 e.len e.scalar rfl];have a2:=At.new H1 (.row e.cells);simp only[G,aJ,aar];rw[KG a2,Cx a2];simp only[G];refine j _ _ ?_;refine⟨Cx a2,?_⟩;refine c1 _ _ ?_;rw[b9,sC]at he;simp only[bu,G,yw a2,eD,ai];have hw:aaN .i64 ((i:Int)+1)=((i+1:Nat):Int):=by rw[bD];simp
   apply aF<;>intro hk
   . rw[aa (by simpa using hk)]at he;simp only[ae,aw,S.xJ,aq,bp,bu,G,hw];exact b (i+1) _ _ d he
   . rw[ad (by simpa using hk)]at he;simp only[ae,aw,S.xJ,aq,bp,bu,G,hw];exact b (i+1) _ _ d he
 exact main l 0 0 _ rfl rfl
theorem KJ(a:x.ok)(h:∀p∈x.aE,∀e∈p.aV,CA C e):bX (ag C) 136 [.agg x.cells] (D (bS x)):=by
 obtain⟨hl,f⟩:=aR.dq a;refine bX.of ar (by simp[I.cD,I.cj,aR.cj]) rfl λQ c=>S.R1 M ?_;unfold S.f136;simp only[ae];simp only[mR,aM,iD,i6,bP,G];rw[Cz]at c;have main:∀(r:List aO)(i:Nat)(m:Int)(H1:O),x.aE.drop i=r->hS r m=hS x.aE 0->au (S.xI (ag C) (aD aO.cells x.aE) (D x.aE.length) Q) ([D m,D i],H1):=by
  intro r;induction r with
  | nil=>intro i m H1 b he;have hle:=dx b;refine au.step ?_;simp only[ae,S.xI,aq,bp,aX,G,ai];rw[dg];rw[hS]at he;rw[he];exact c _
  | cons p r g=>
   intro i m H1 b he;obtain⟨j,a,k⟩:=di b;have d:=acK a;refine au.step ?_;simp only[ae,S.xI,aq,bp,aX,G,ai];rw[cp,cG j];simp only[G];rw[dH aO.len (by decide) _ a];simp only[G,aM,bx,aQ];rw[bU _ _ _ 2 p.len p.scalar rfl];have a2:=At.new H1 (.row p.cells);simp only[G,aJ,aar];rw[yx a2];simp only[G];refine CB ar M (f p d).1 (λe he=>h p d e he) _ _ ?_;rw[hS,qe]at he;simp only[bu,G];have hw:aaN .i64 ((i:Int)+1)=((i+1:Nat):Int):=by rw[bD];simp
   rw[hw];exact g (i+1) _ _ k he
 exact main x.aE 0 0 _ rfl rfl
theorem KK:∀e:N,e.ok->CA C e:=by refine N.ind λe c d he=>?_;obtain⟨⟨f,g⟩,a⟩:=N.dq he;have h:=aR.dq a;exact⟨CB ar M f λk hk=>c k hk (g k hk),KJ ar M a λp b i hi=>d p b i hi ((h.2 p b).2 i hi)⟩
theorem nz(hl:l.length<=9223372036854775807)(h:∀e∈l,e.ok):bX (ag C) 139 [aD N.cells l] (D (b9 l 0)):=CB ar M hl λe he=>KK ar M e (h e he)
theorem yz(a:x.ok):bX (ag C) 136 [.agg x.cells] (D (bS x)):=KJ ar M a λp b e he=>KK ar M e ((aR.dq a).2 p b |>.2 e he)
def KL(C:Ctx)(x:ax):Prop:=bX (ag C) 104 [aD ax.cells x.aK] (D (dv x.aK 0))/\bX (ag C) 104 [aD ax.cells x.bB] (D (dv x.bB 0))
theorem CC{l:List ax}(hl:l.length<=9223372036854775807)(ho:∀x∈l,x.ok)(h:∀x∈l,KL C x):bX (ag C) 104 [aD ax.cells l] (D (dv l 0)):=by
 refine bX.of ar (by simp[I.cD,lZ ax.cj]) rfl λQ o=>S.RL M ?_;unfold S.f104;simp only[ae];simp only[bP,G];have main:∀(r:List ax)(i:Nat)(m:Int)(H1:O),l.drop i=r->dv r m=dv l 0->au (S.rZ (ag C) (aD ax.cells l) (D l.length) Q) ([D m,D i],H1):=by
  intro r;induction r with
  | nil=>intro i m H1 c he;have hle:=dx c;refine au.step ?_;simp only[ae,S.rZ,aq,bp,aX,G,ai];rw[dg];rw[dv]at he;rw[he];exact o _
  | cons e r d=>
   intro i m H1 c he;obtain⟨p,f,g⟩:=di c;have j:=acK f;obtain⟨c1,q⟩:=h e j;obtain⟨o1,o2,s,t⟩:=ax.dq (ho e j);refine au.step ?_;simp only[ae,S.rZ,aq,bp,aX,G,ai];rw[cp,cG p];simp only[G];rw[dH ax.len (by decide) _ f];simp only[G,aM,bx,aQ];rw[bU _ _ _ 10 e.len e.scalar rfl];have a2:=At.new H1 (.row e.cells);simp only[G,aJ,aar];rw[oJ a2,sy a2,sA a2,qd a2];simp only[G];refine yz ar M o1 _ _ ?_;refine⟨sy a2,sA a2,qd a2,?_⟩;refine nz ar M o2.1 o2.2 _ _ ?_;refine⟨sA a2,qd a2,?_⟩;simp only[bu,G];refine c1 _ _ ?_;refine⟨qd a2,?_⟩;simp only[bu,G];refine q _ _ ?_;rw[dv,qf]at he;simp only[bu,G,mg a2,eD,hO,bR];have hw:aaN .i64 ((i:Int)+1)=((i+1:Nat):Int):=by rw[bD];simp
   have k:∀b:Bool,(b=abZ↔3<=e.kind/\e.kind<=7)->S.xw (ag C) (D (B (m+B (B (B (bS e.place+b9 e.aC 0)+dv e.aK 0)+dv e.bB 0)))) ([D m,D i],H1) (au (S.rZ (ag C) (aD ax.cells l) (D l.length) Q)) Q [.bool b] (H1.push (.row e.cells)):=by
    intro b n;simp only[ae,S.xw,aq,ai,bu,G,aw,S.BA,bp,hw];apply aF<;>intro hk
    . rw[aa (n.1 hk)]at he;exact d (i+1) _ _ g he
    . rw[ad (λa=>hk (n.2 a))]at he;exact d (i+1) _ _ g he
   apply aF<;>intro hk
   . refine k _ ?_;simp only[du]at hk ⊢;omega
   . refine k ab0 ⟨λa=>(by cases a),λa=>?_⟩;simp only[du]at hk;omega
 exact main l 0 0 _ rfl rfl
theorem Ud:∀x:ax,x.ok->KL C x:=by refine ax.ind λx d e f=>?_;obtain⟨_,_,b,c⟩:=ax.dq f;exact⟨CC ar M b.1 b.2 λy a=>d y a (b.2 y a),CC ar M c.1 c.2 λy a=>e y a (c.2 y a)⟩
theorem KM{l:List ax}(hl:l.length<=9223372036854775807)(h:∀x∈l,x.ok):bX (ag C) 104 [aD ax.cells l] (D (dv l 0)):=CC ar M hl h λx a=>Ud ar M x (h x a)
end
end Rb
namespace Rb
open Go
variable{s A:RS}
theorem KN{n:Int}(a:0<=n)(U:n<=1000000):B (n-1)=n-1:=bD
structure Kp(s A:RS):Prop where
 aN:A.aN=s.aN
 pr:A.pr=s.pr
 X:A.X=s.X
 st:s.stop=abZ->A=s
 fu:0<=s.fuel->s.fuel<=1000000->A.stop=ab0->0<=A.fuel/\A.fuel<=s.fuel
theorem Kp.refl(s:RS):Kp s s:=⟨rfl,rfl,rfl,λ_=>rfl,λh _ _=>⟨h,ada _⟩⟩
theorem Kp.stop(h:Kp s A)(a:A.stop=ab0):s.stop=ab0:=by
 cases hs:s.stop with
 |false=>rfl
 |true=>rw[h.st hs,hs]at a;cases a
theorem Kp.trans{a b c:RS}(h:Kp a b)(k:Kp b c):Kp a c where
 aN:=k.aN.trans h.aN
 pr:=k.pr.trans h.pr
 X:=k.X.trans h.X
 st:=λe=>by have e1:=h.st e;rw[e1]at k;exact k.st e
 fu:=λf U d=>by have g:=k.stop d;have x:=h.fu f U g;have y:=k.fu x.1 (by omega) d;exact⟨y.1,by omega⟩
theorem Kp.b5(s:RS):Kp s s.b5:=by
 unfold RS.b5;split
 ·exact Kp.refl s
 . rename_i hs;split
   ·exact⟨rfl,rfl,rfl,λe=>absurd e hs,λ_ _ h=>by cases h⟩
   . exact ⟨rfl,rfl,rfl,λe=>absurd e hs,λa U _=>by show 0<=B (s.fuel-1)/\B (s.fuel-1)<=s.fuel;rw[KN a U];omega⟩
theorem Ue(a:0<=s.fuel)(U:s.fuel<=1000000)(h:s.b5.stop=ab0):s.b5.fuel=s.fuel-1/\1<=s.fuel:=by
 unfold RS.b5 at h ⊢;split at h
 ·rename_i hs;rw[hs]at h;cases h
 . rename_i hs;rw[ad hs];split at h
   ·cases h
   . rename_i hf;rw[ad hf];exact⟨KN a U,by omega⟩
theorem Kp.ask(s:RS)(w:bz):Kp s (s.ask w).1:=by
 unfold RS.ask;split
 ·exact Kp.refl s
 . rename_i hs;split
   ·exact⟨rfl,rfl,rfl,λe=>absurd e hs,λ_ _ h=>by cases h⟩
   ·exact⟨rfl,rfl,rfl,λe=>absurd e hs,λh _ _=>⟨h,ada _⟩⟩
section
variable(vars:List aA)
mutual
theorem jQ:∀(e:N)(a:Int)(s:RS),Kp s (cA vars e a s).1
 | .mk kind n name op aB place aY,a,s=>by
  rw[cA];have b:=Kp.b5 s;split
  ·exact b
  . split
    ·exact b
    . split
      ·exact b
      . split
        ·exact b.trans (kb aY a s.b5)
        . have d:=kc place a s.b5;split
          ·exact b.trans d
          ·exact(b.trans d).trans ((kb aY _ _).trans (Kp.ask _ _))
theorem kb:∀(l:List N)(a:Int)(s:RS),Kp s (cr vars l a s).1
 |[],a,s=>by rw[cr];exact Kp.refl s
 | x::r,a,s=>by rw[cr];exact(jQ x a s).trans (kb r _ _)
theorem kc:∀(x:aR)(a:Int)(s:RS),Kp s (cO vars x a s).1
 | .mk var aE,a,s=>by rw[cO];exact CE (.mk var aE) aE 0 a [] s
theorem CE(x:aR):∀(l:List aO)(k:Nat)(a:Int)(idx:List Int)(s:RS),Kp s (ed vars x l k a idx s).1
 |[],k,a,idx,s=>by rw[ed];exact Kp.refl s
 | p :: r,k,a,idx,s=>by
  rw[ed];have d:=Uf p a s;cases f:mf vars p a s with
  |none=>exact CE x r (k+1) a idx s
  | some q=>
   dsimp only;have c:=d q f;split
   ·exact c
   . rename_i hs;split
     . exact ⟨c.aN,c.pr,c.X,λe=>by have:=c.st e;rw[this]at hs;exact absurd e hs,λ_ _ h=>by cases h⟩
     ·exact c.trans (CE x r (k+1) _ _ _)
theorem Uf:∀(p:aO)(a:Int)(s:RS)(q:RS×Int),mf vars p a s=ab1 q->Kp s q.1
 | .mk field aV,a,s,q,h=>by rw[mf]at h;exact Ug aV a s q h
theorem Ug:∀(l:List N)(a:Int)(s:RS)(q:RS×Int),mP vars l a s=ab1 q->Kp s q.1
 |[],a,s,q,h=>by rw[mP]at h;cases h
 | e::r,a,s,q,h=>by rw[mP]at h;cases h;exact jQ e a s
end
theorem sD(e:N)(a:Int)(s:RS)(c:0<=s.fuel)(U:s.fuel<=1000000)(h:(cA vars e a s).1.stop=ab0):(cA vars e a s).1.fuel<=s.fuel-1/\1<=s.fuel:=by
 have hk : Kp s.b5 (cA vars e a s).1:=by
  cases e with
  | mk kind n name op aB place aY=>
   rw[cA];split
   ·exact Kp.refl _
   . split
     ·exact Kp.refl _
     . split
       ·exact Kp.refl _
       . split
         ·exact kb vars aY a s.b5
         . have b:=kc vars place a s.b5;split
           ·exact b
           ·exact b.trans ((kb vars aY _ _).trans (Kp.ask _ _))
 have d:=hk.stop h;obtain⟨e1,f⟩:=Ue c U d;have:=hk.fu (by omega) (by omega) h;exact⟨by omega,f⟩
theorem qg(l:List N)(a:Int)(s:RS):Kp s (dd vars l a s).1:=by
 unfold dd;split
 ·exact Kp.refl s
 ·exact jQ vars _ a s
end
structure Ks(s A:RS):Prop where
 pr:s.pr <+: A.pr
 st:s.stop=abZ->A=s
 fu:0<=s.fuel->s.fuel<=1000000->A.stop=ab0->0<=A.fuel/\A.fuel<=s.fuel
theorem Kp.ks(h:Kp s A):Ks s A:=⟨by rw[h.pr];exact adx _,h.st,h.fu⟩
theorem Ks.refl(s:RS):Ks s s:=(Kp.refl s).ks
theorem Ks.stop(h:Ks s A)(a:A.stop=ab0):s.stop=ab0:=by
 cases hs:s.stop with
 |false=>rfl
 |true=>rw[h.st hs,hs]at a;cases a
theorem Ks.trans{a b c:RS}(h:Ks a b)(k:Ks b c):Ks a c where
 pr:=h.pr.trans k.pr
 st:=λe=>by have e1:=h.st e;rw[e1]at k;exact k.st e
 fu:=λf U d=>by have g:=k.stop d;have x:=h.fu f U g;have y:=k.fu x.1 (by omega) d;exact⟨y.1,by omega⟩
theorem Ks.yA{s a A:RS}(h:Kp s a)(hs:a.stop=ab0)(b:a.pr <+: A.pr)(hf:A.fuel=a.fuel):Ks s A:=⟨by rw[<-h.pr];exact b,λe=>(by have:=h.st e;rw[this,e]at hs;cases hs),λc U _=>(by have:=h.fu c U hs;rw[hf];exact this)⟩
section
variable(vars:List aA)
theorem Uh(sp:bM)(a:Int)(s:RS):Kp s (lb sp a s).1:=by
 unfold lb;split
 ·exact Kp.ask _ _
 ·exact Kp.refl s
theorem Ui(aC:List N)(aB W:Int)(sp:bM)(s:RS):Kp s (ny vars aC aB W sp s):=by unfold ny;exact(kb vars aC _ _).trans ((Uh _ _ _).trans (Kp.ask _ _))
theorem yB(place:aR)(aC:List N)(aB a:Int)(s:RS):Kp s (mQ vars place aC aB a s):=by
 unfold mQ;have b:=kc vars place a s;split
 ·exact b
 ·exact b.trans (Ui vars _ _ _ _ _)
theorem iE(s:RS)(x:List UInt8)(v:Int):(s.put x v).pr=s.pr/\(s.put x v).fuel=s.fuel/\(s.put x v).stop=s.stop/\(s.put x v).aW=s.aW/\(s.put x v).X=s.X/\(s.put x v).fin=s.fin/\(s.put x v).want=s.want/\(s.put x v).empty=s.empty:=by unfold RS.put;split<;>exact⟨rfl,rfl,rfl,rfl,rfl,rfl,rfl,rfl⟩
theorem Uj(name bW:List UInt8){g:RS×Int×Int}(hk:Kp s g.1):Ks s (ld name bW g):=by
 unfold ld;split
 ·exact hk.ks
 . rename_i hs;have e1:=iE g.1 name g.2.1;have a:=iE (g.1.put name g.2.1) bW g.2.2;exact Ks.yA hk (by simpa using hs) (by rw[a.1,e1.1];exact adx _) (by rw[a.2.1,e1.2.1])
theorem KO(name bW:List UInt8)(place:aR)(aB a:Int)(s:RS):Ks s (ka vars name bW place aB a s):=by
 unfold ka;have b:=kc vars place a s;split
 ·exact b.ks
 ·exact Uj name bW (b.trans (Kp.ask _ _))
theorem yC{cond:RS->RS×Int}{body:RS->RS}(hc:∀s,Kp s (cond s).1)(a:∀s,s.stop=ab0->Ks s (body s)):∀(c:Nat)(s:RS),Ks s (gk cond body c s)
 |0,s=>Ks.refl s
 | c + 1,s=>by
  unfold gk;split
  . rename_i h;exact(hc s).ks.trans ((a _ h.2).trans (yC hc a c _))
  ·exact(hc s).ks
variable(c:Nat)
mutual
theorem sG : ∀ (x : ax) (a:Int) (s:RS),Ks s (e7 vars c x a s)
 | .mk kind X name bW aB place aC aK bB,a,s=>by
  rw[e7];have hf:=qg vars aC a s;split
  ·exact(yB vars place aC aB a s).ks
  . split
    ·exact KO vars name bW place aB a s
    . split
      ·exact(Kp.ask _ _).ks
      . split
        . refine yC (qg vars aC a) (λs1 U=>?_) c s;have f:=mS aK (B (a+b9 aC 0)) s1.aN.length s1 U;exact⟨f.1,λe=>(by rw[U]at e;cases e),f.2⟩
        . split
          ·exact hf.ks
          . rename_i hs;have hs:(dd vars aC a s).1.stop=ab0:=by simpa using hs
            split
            ·exact Ks.yA hf hs (adx _) rfl
            . split
              . have e1:=iE (dd vars aC a s).1 name (dd vars aC a s).2;exact Ks.yA hf hs (by rw[e1.1];exact adx _) e1.2.1
              . split
                ·exact Ks.yA hf hs (List.prefix_append _ _) rfl
                . have bl:∀(l:List ax)(b:Int)(hl:∀b n s1,s1.stop=ab0->s1.pr <+: (cl vars c l b n s1).pr/\(0<=s1.fuel->s1.fuel<=1000000->(cl vars c l b n s1).stop=ab0->0<=(cl vars c l b n s1).fuel/\(cl vars c l b n s1).fuel<=s1.fuel)),Ks s (cl vars c l b (dd vars aC a s).1.aN.length (dd vars aC a s).1):=by
                    intro l b hl;have f:=hl b (dd vars aC a s).1.aN.length (dd vars aC a s).1 hs;refine⟨by rw[<-hf.pr];exact f.1,λe=>?_,λg U d=>?_⟩
                    . have:=hf.st e;rw[this,e]at hs;cases hs
                    . have x:=hf.fu g U hs;have y:=f.2 x.1 (by omega) d;exact⟨y.1,by omega⟩
                  split
                  ·exact bl aK _ (λb n s1 U=>mS aK b n s1 U)
                  ·exact bl bB _ (λb n s1 U=>mS bB b n s1 U)
theorem mS:∀(l:List ax)(a:Int)(n:Nat)(s:RS),s.stop=ab0->s.pr <+: (cl vars c l a n s).pr/\(0<=s.fuel->s.fuel<=1000000->(cl vars c l a n s).stop=ab0->0<=(cl vars c l a n s).fuel/\(cl vars c l a n s).fuel<=s.fuel)
 |[],a,n,s,h=>by rw[cl];exact⟨adx _,λg _ _=>⟨g,ada _⟩⟩
 | x :: r,a,n,s,h=>by
  rw[cl,ad (by rw[h];decide)];have i:Ks ({s with X:=x.X}:RS) (e7 vars c x a ({s with X:=x.X}:RS).b5):=(Kp.b5 _).ks.trans (sG x a _);cases hs:(e7 vars c x a ({s with X:=x.X}:RS).b5).stop with
  | false=>obtain⟨j,k⟩:=mS r (B (a+h7 x 0)) n (e7 vars c x a ({s with X:=x.X}:RS).b5) hs;refine⟨i.pr.trans j,λg U d=>?_⟩;have y:=i.fu g U hs;have p:(e7 vars c x a ({s with X:=x.X}:RS).b5).fuel<=s.fuel:=y.2;have z:=k y.1 (by omega) d;exact⟨z.1,by omega⟩
  | true=>
   have e:∀(l:List ax)(b:Int)(m:Nat)(u:RS),u.stop=abZ->(cl vars c l b m u).pr=u.pr/\(cl vars c l b m u).stop=abZ:=by
    intro l b m u hu;cases l with
    |nil=>rw[cl];exact⟨rfl,hu⟩
    |cons y t=>rw[cl,aa hu];exact⟨rfl,hu⟩
   obtain⟨e1,o⟩:=e r (B (a+h7 x 0)) n _ hs;refine⟨by rw[e1];exact i.pr,λ_ _ d=>?_⟩;rw[o]at d;cases d
end
end
end Rb
namespace Rb
open Go
def b_(a:Int×Int):List I:=[T a.1,T a.2]
def gY(l:List UInt8×Int):List I:=[.str l.1,T l.2]
def dN(vars:List aA)(s:RS)(lx F:I):List I:=aD aA.cells vars::aD b_ s.aW::lx::F :: D s.X :: D s.fuel :: D s.fin::(s.want.cells++[.bool s.stop,.bool s.empty])
def jD(H:O)(id:Nat)(L:List (List UInt8×Int))(x:I):Prop:=(x = Y/\L=[])\/∃j cs m,x = .row j 0 L.length 2/\j≠id/\At H j (.row cs)/\cs.length=m*2/\L.length<=m/\cs.take (L.length*2)=L.flatMap gY
theorem jD.cv{H H':O}{id:Nat}{L:List (List UInt8×Int)}{x:I}(h:jD H id L x)(k:bj id H H'):jD H' id L x:=by
 rcases h with h|⟨j,cs,m,U,a,b,c⟩
 ·exact .inl h
 ·exact .inr ⟨j,cs,m,U,a,k.2 j _ a b,c⟩
theorem gZ{α:Type}{c:Prop}[Decidable c]{a b:α}(P:α->Prop)(U:c->P a)(d:¬c->P b):P (if c then a else b):=by
 split
 ·exact U ‹_›
 ·exact d ‹_›
structure RS.ok(s:RS):Prop where
 aW:∀x∈s.aW,bm x.1/\bm x.2
 aN:∀l∈s.aN,bm l.2
theorem Uk(n:Int):0<=aaN .u64 n/\aaN .u64 n<18446744073709551616:=by unfold aaN;simp only[ZS,ZT];have:=adp n (show(18446744073709551616:Int)≠0 by decide);have:=ado n (show(0:Int)<18446744073709551616 by decide);first|exact⟨by simpa using ‹0<=n%18446744073709551616›,by simpa using ‹n%18446744073709551616<18446744073709551616›⟩|omega
theorem lf(n:Int):bm (aaN .u64 n):=by have:=Uk n;unfold bm;omega
theorem dI:bm 0:=⟨by decide,by decide⟩
theorem KP{a b:Int}(h:bm a):bm (mc a b):=by unfold mc bm;have c:(0:Int)<2^(min b.toNat 64):=Int.pow_pos (by decide);rw[Int.fdiv_eq_ediv_of_nonneg _ (ady c)];have U:=adz h.1 (ady c);have d:=adA (2^(min b.toNat 64)) h.1;exact⟨U,adb d h.2⟩
theorem KQ{op a b:Int}(c:bm a):bm (me op a b):=by
 have one:bm 1:=⟨by decide,by decide⟩
 unfold me
 iterate 6 (refine gZ bm (λ_=>lf _) (λ_=>?_))
 refine gZ bm (λ_=>lf _) (λ_=>?_);refine gZ bm (λ_=>KP c) (λ_=>?_);exact gZ bm (λ_=>one) (λ_=>dI)
theorem sH(x a n:Int):bm (iC x a n):=by unfold iC;exact gZ bm (λ_=>lf _) (λ_=>dI)
theorem RS.ok.b5{s:RS}(h:s.ok):s.b5.ok:=by unfold RS.b5;exact gZ RS.ok (λ_=>h) (λ_=>gZ RS.ok (λ_=>⟨h.aW,h.aN⟩) (λ_=>⟨h.aW,h.aN⟩))
theorem RS.ok.ask{s:RS}(h:s.ok)(w:bz):(s.ask w).1.ok/\bm (s.ask w).2.1/\bm (s.ask w).2.2:=by
 unfold RS.ask;refine gZ (λz:RS×Int×Int=>z.1.ok/\bm z.2.1/\bm z.2.2) (λ_=>⟨h,dI,dI⟩) (λ_=>?_);cases a:s.aW with
 |nil=>exact⟨⟨λx b=>(by cases b),h.aN⟩,dI,dI⟩
 | cons x r=>have U:=h.aW;rw[a]at U;exact⟨⟨λy c=>U y (abH _ c),h.aN⟩,(U x (abK ..)).1,(U x (abK ..)).2⟩
theorem RS.ok.get{s:RS}(h:s.ok)(x:List UInt8):bm (s.get x):=by
 unfold RS.get;split
 . rename_i l hl;exact h.aN l (List.mem_of_find?_eq_some hl)
 ·exact dI
theorem RS.ok.put{s:RS}(h:s.ok)(x:List UInt8){v:Int}(hv:bm v):(s.put x v).ok:=by
 unfold RS.put;split
 . refine⟨h.aW,λl hl=>?_⟩;rcases List.mem_or_eq_of_mem_set hl with hl|rfl
   ·exact h.aN l hl
   ·exact hv
 ·exact h
section
variable(vars:List aA)
def CG(e:N):Prop:=∀(a:Int)(s:RS),s.ok->(cA vars e a s).1.ok/\bm (cA vars e a s).2
theorem CH:∀{l:List N},(∀e∈l,CG vars e)->∀(a:Int)(s:RS),s.ok->(cr vars l a s).1.ok/\∀v∈(cr vars l a s).2,bm v
 |[],_,a,s,h=>by rw[cr];exact⟨h,λv hv=>by cases hv⟩
 | x::r,b,a,s,h=>by
  obtain⟨U,c⟩:=b x (abK ..) a s h;obtain⟨d,f⟩:=CH (λe he=>b e (abH _ he)) (B (a+gQ x 0)) _ U;rw[cr];refine⟨d,λv hv=>?_⟩;rcases abG.1 hv with rfl|hv
  ·exact c
  ·exact f v hv
theorem yD(p:aO)(a:Int)(s:RS):mf vars p a s=match p.aV with|[]=>ab2|e::_=>ab1 (cA vars e a s):=by
 cases p with
 | mk field aV=>rw[mf];cases aV<;>rw[mP]
theorem CI(x:aR):∀{l:List aO},(∀p∈l,∀e∈p.aV,CG vars e)->∀(k:Nat)(a:Int)(idx:List Int)(s:RS),s.ok->(∀v∈idx,bm v)->(ed vars x l k a idx s).1.ok/\∀i,(ed vars x l k a idx s).2=ab1 i->∀v∈i,bm v
 |[],_,k,a,idx,s,h,hi=>by rw[ed];exact⟨h,λi e=>by cases e;exact hi⟩
 | p :: r,b,k,a,idx,s,h,hi=>by
  have c:=CI x (l:=r) (λq d=>b q (abH _ d));rw[ed,yD];cases f:p.aV with
  |nil=>exact c _ _ _ _ h hi
  | cons e t=>
   dsimp only;obtain⟨U,g⟩:=b p (abK ..) e (by rw[f];exact abK ..) a s h;split
   ·exact⟨U,λi e=>by cases e⟩
   . split
     ·exact⟨⟨U.aW,U.aN⟩,λi e=>by cases e⟩
     . refine c _ _ _ _ U λv hv=>?_;rcases List.mem_append.1 hv with hv|hv
       ·exact hi v hv
       ·rw[adB.1 hv];exact g
theorem CJ(x:aR)(a:Int)(s:RS):cO vars x a s=((ed vars x x.aE 0 a [] s).1,(ed vars x x.aE 0 a [] s).2.map λidx=>ba vars x idx):=by cases x;rw[cO]
theorem CK(e:N)(a:Int)(s:RS):cA vars e a s =
  if s.b5.stop=abZ then(s.b5,0)
  else if e.kind=1 then(s.b5,e.n)
  else if e.kind=2 then(s.b5,s.b5.get e.name)
  else if e.kind=3 then((cr vars e.aY a s.b5).1,me e.op ((cr vars e.aY a s.b5).2.getD 0 0) ((cr vars e.aY a s.b5).2.getD 1 0))
  else match (cO vars e.place a s.b5).2 with
   |none=>((cO vars e.place a s.b5).1,0)
   |some sp=>qc sp ((cr vars e.aY (B (a+bS e.place)) (cO vars e.place a s.b5).1).1.ask (i5 e.kind e.aB sp (B (a+bS e.place)) e.aY (cr vars e.aY (B (a+bS e.place)) (cO vars e.place a s.b5).1).2)):=by cases e;first|(rw[cA];done)|(rw[cA];rfl)
theorem yE{l:List Int}(h:∀v∈l,bm v)(k:Nat):bm (l.getD k 0):=by
 rw[List.getD_eq_getElem?_getD];cases hk:l[k]? with
 |none=>exact dI
 |some v=>exact h v (acK hk)
theorem Ul(sp:bM){g:RS×Int×Int}(U:g.1.ok)(a:bm g.2.1):(qc sp g).1.ok/\bm (qc sp g).2:=by refine⟨U,?_⟩;show bm (if sp.bits=abZ then _ else _);exact gZ bm (λ_=>sH _ _ _) (λ_=>a)
theorem sI:∀e:N,e.ok->CG vars e:=by
 refine N.ind λe j m he=>?_;obtain⟨⟨u,o⟩,q⟩:=N.dq he;have r:=aR.dq q;have hn:bm e.n:=by cases e;exact he.2.1
 intro a s h;have b:=h.b5;have c:=CH vars (λk hk=>j k hk (o k hk));have t:=CI vars e.place (l:=e.place.aE) (λp d i hi=>m p d i hi ((r.2 p d).2 i hi)) 0 a [] s.b5 b (λv hv=>by cases hv);rw[CK];refine gZ (λz:RS×Int=>z.1.ok/\bm z.2) (λ_=>⟨b,dI⟩) (λ_=>?_);refine gZ (λz:RS×Int=>z.1.ok/\bm z.2) (λ_=>⟨b,hn⟩) (λ_=>?_);refine gZ (λz:RS×Int=>z.1.ok/\bm z.2) (λ_=>⟨b,b.get _⟩) (λ_=>?_);refine gZ (λz:RS×Int=>z.1.ok/\bm z.2) (λ_=>⟨(c a _ b).1,KQ (yE (c a _ b).2 0)⟩) (λ_=>?_);have f:(cO vars e.place a s.b5).1.ok:=by rw[CJ];exact t.1
 cases (cO vars e.place a s.b5).2 with
 |none=>exact⟨f,dI⟩
 | some sp=>have hk:=c (B (a+bS e.place)) _ f;have g:=hk.1.ask (i5 e.kind e.aB sp (B (a+bS e.place)) e.aY (cr vars e.aY (B (a+bS e.place)) (cO vars e.place a s.b5).1).2);exact Ul sp g.1 g.2.1
theorem KR{l:List N}(h:∀e∈l,e.ok)(a:Int){s:RS}(hs:s.ok):(cr vars l a s).1.ok/\∀v∈(cr vars l a s).2,bm v:=CH vars (λe he=>sI vars e (h e he)) a s hs
end
section
variable{vars:List aA}{s:RS}{lx F:I}{H:O}{id:Nat}(h:At H id (.row (dN vars s lx F)))
include h
theorem yF:af H 1 ab0 (.ptr id 0)=ab1 (aD aA.cells vars):=by rw[h.load];rfl
theorem KS:af H 1 ab0 (.ptr id 1)=ab1 (aD b_ s.aW):=by rw[h.load];rfl
theorem sJ:af H 1 ab0 (.ptr id 2)=ab1 lx:=by rw[h.load];rfl
theorem CL:af H 1 ab0 (.ptr id 3)=ab1 F:=by rw[h.load];rfl
theorem Um:af H 1 ab0 (.ptr id 4)=ab1 (D s.X):=by rw[h.load];rfl
theorem CM:af H 1 ab0 (.ptr id 5)=ab1 (D s.fuel):=by rw[h.load];rfl
theorem KU:af H 1 ab0 (.ptr id 6)=ab1 (D s.fin):=by rw[h.load];rfl
theorem Un:af H 13 abZ (.ptr id 7)=ab1 (.agg s.want.cells):=by rw[h.load];rfl
theorem mT:af H 1 ab0 (.ptr id 20)=ab1 (.bool s.stop):=by rw[h.load];rfl
theorem Uo:af H 1 ab0 (.ptr id 21)=ab1 (.bool s.empty):=by rw[h.load];rfl
theorem Up(l:List (Int×Int)):bZ H 1 (.ptr id 1) (aD b_ l)=ab1 (H.set id (.row (dN vars {s with aW:=l} lx F))):=by rw[h.store,aa ⟨rfl,rfl,rfl,(by decide:1+1<=22)⟩];rfl
theorem KV{v:I}(U:v.known=abZ)(a:v.cells=[v])(b:v.scalar=abZ):bZ H 1 (.ptr id 2) v=ab1 (H.set id (.row (dN vars s v F))):=by rw[h.store,aa ⟨U,by rw[a];rfl,by rw[a];simpa using b,(by show 2+1<=22;decide)⟩,a];rfl
theorem Uq{v:I}(U:v.known=abZ)(a:v.cells=[v])(b:v.scalar=abZ):bZ H 1 (.ptr id 3) v=ab1 (H.set id (.row (dN vars s lx v))):=by rw[h.store,aa ⟨U,by rw[a];rfl,by rw[a];simpa using b,(by show 3+1<=22;decide)⟩,a];rfl
theorem KW(v:Int):bZ H 1 (.ptr id 4) (D v)=ab1 (H.set id (.row (dN vars {s with X:=v} lx F))):=by rw[h.store,aa ⟨rfl,rfl,rfl,(by decide:4+1<=22)⟩];rfl
theorem KX(v:Int):bZ H 1 (.ptr id 5) (D v)=ab1 (H.set id (.row (dN vars {s with fuel:=v} lx F))):=by rw[h.store,aa ⟨rfl,rfl,rfl,(by decide:5+1<=22)⟩];rfl
theorem KY(v:Int):bZ H 1 (.ptr id 6) (D v)=ab1 (H.set id (.row (dN vars {s with fin:=v} lx F))):=by rw[h.store,aa ⟨rfl,rfl,rfl,(by decide:6+1<=22)⟩];rfl
theorem Ur(w:bz):bZ H 13 (.ptr id 7) (.agg w.cells)=ab1 (H.set id (.row (dN vars {s with want:=w} lx F))):=by rw[h.store,aa ⟨rfl,rfl,rfl,(by decide:7+13<=22)⟩];rfl
theorem Us(v:Int):bZ H 1 (.ptr id 9) (D v)=ab1 (H.set id (.row (dN vars {s with want:={s.want with X:=v}} lx F))):=by rw[h.store,aa ⟨rfl,rfl,rfl,(by decide:9+1<=22)⟩];rfl
theorem CN(b:Bool):bZ H 1 (.ptr id 20) (.bool b)=ab1 (H.set id (.row (dN vars {s with stop:=b} lx F))):=by rw[h.store,aa ⟨rfl,rfl,rfl,(by decide:20+1<=22)⟩];rfl
theorem Ut(b:Bool):bZ H 1 (.ptr id 21) (.bool b)=ab1 (H.set id (.row (dN vars {s with empty:=b} lx F))):=by rw[h.store,aa ⟨rfl,rfl,rfl,(by decide:21+1<=22)⟩];rfl
end
theorem Uu(k:IntKind)(a b:Int):dA .andNot (.int k a) (.int k b)=ab1 (.int k (k.wrap (AH k.bits a &&& ~~~AH k.bits b).toNat)):=by simp[dA,hK,nS]
section
variable{Φ:Z}{H:O}{Q:ab}
theorem Uv{n:Int}(a:Q (T (eS n)) H):S.f60 Φ (D n) H Q:=by
 unfold S.f60;simp only[ae];unfold eS at a;simp only[aX,eD,G,ai];apply aF<;>intro h
 ·rw[aa (by simpa using h)]at a;exact a
 have U:¬n<1:=by simpa using h
 rw[ad U]at a;apply aF<;>intro h
 ·rw[aa (by simpa using h)]at a;exact a
 have b:¬n>=64:=by simpa using h
 rw[ad b]at a;rw[j5 _ _ _ _ (by omega)];simp only[G,dC];exact a
theorem Uw{op a b:Int}(g:bm b)(d:Q (T (me op a b)) H):S.f168 Φ (D op) (T a) (T b) H Q:=by
 have e:0<=b.tmod 64:=Int.tmod_nonneg _ g.1;unfold S.f168;simp only[ae];unfold me at d;simp only[bc,G,ai,bu,dC,e2,mK,ns,JQ,iu _ _ _ (show(64:Int)≠0 by decide),j5 _ _ _ _ e,oy _ _ _ _ e,cJ,aX,aw,S.x1,aq];apply aF<;>intro h
 ·rw[aa (by simpa using h)]at d;exact d
 rw[ad (by simpa using h)]at d;apply aF<;>intro h
 ·rw[aa (by simpa using h)]at d;exact d
 rw[ad (by simpa using h)]at d;apply aF<;>intro h
 ·rw[aa (by simpa using h)]at d;exact d
 rw[ad (by simpa using h)]at d;apply aF<;>intro h
 ·rw[aa (by simpa using h)]at d;exact d
 rw[ad (by simpa using h)]at d;apply aF<;>intro h
 ·rw[aa (by simpa using h)]at d;exact d
 rw[ad (by simpa using h)]at d;apply aF<;>intro h
 ·rw[aa (by simpa using h)]at d;exact d
 rw[ad (by simpa using h)]at d;apply aF<;>intro h
 ·rw[aa (by simpa using h)]at d;exact d
 rw[ad (by simpa using h)]at d;apply aF<;>intro h
 ·rw[aa (by simpa using h)]at d;exact d
 rw[ad (by simpa using h)]at d;have fin:∀c:Bool,(if op=9 then a==b else if op=10 then a != b else decide (a<b))=c->if c=abZ then Q (T 1) H else Q (T 0) H:=by
  intro c hc;rw[hc]at d;cases c
  ·rw[aI]at d ⊢;exact d
  ·rw[aa rfl]at d ⊢;exact d
 apply aF<;>intro h
 ·exact fin _ (by rw[aa (by simpa using h)])
 have f:¬op=9:=by simpa using h
 apply aF<;>intro h
 ·exact fin _ (by rw[ad f,aa (by simpa using h)])
 ·exact fin _ (by rw[ad f,ad (by simpa using h)])
end
section
variable{C:Ctx}(ar:cY C)(M:Cl (ag C) S.cn)
include ar M
theorem qh(n:Int):bX (ag C) 60 [D n] (T (eS n)):=λH Q a=>S.Rd M (Uv a)
theorem KZ(n:Int):bX (ag C) 183 [D n] (.bool (jP n)):=λH Q a=>S.So M (by
  unfold S.f183;simp only[ae];unfold jP at a;simp only[eD,aX,G,bR];apply aF<;>intro h
  ·rw[h]at a;exact a
  . have h:decide (n>=0)=ab0:=by simpa using h
    rw[h]at a;exact a)
theorem Ux(x a n:Int):bX (ag C) 187 [T x,D a,D n] (T (iC x a n)):=λH Q b=>S.Ss M (by
  unfold S.f187;simp only[ae];refine KZ ar M _ _ _ ?_;simp only[c_,G,ai];unfold iC at b;apply aF<;>intro h
  . have h:jP a=ab0:=by simpa using h
    rw[h]at b;exact b
  . have h:jP a=abZ:=by simpa using h
    rw[aa h]at b;have c:0<=a:=by unfold jP at h;simp only[ZL,du]at h;exact h.1
    first
     |(rw[oy _ _ _ _ c];simp only[G];refine qh ar M _ _ _ ?_;simp only[mK,G];exact b)
     |(refine qh ar M _ _ _ ?_;rw[oy _ _ _ _ c];simp only[G,mK];exact b))
theorem Uy(x a n v:Int):bX (ag C) 164 [T x,D a,D n,T v] (T (i3 x a n v)):=λH Q b=>S.Sg M (by
  unfold S.f164;simp only[ae];refine KZ ar M _ _ _ ?_;simp only[c_,G,ai];unfold i3 at b;apply aF<;>intro h
  . have h:jP a=ab0:=by simpa using h
    rw[h]at b;exact b
  . have h:jP a=abZ:=by simpa using h
    rw[aa h]at b;have c:0<=a:=by unfold jP at h;simp only[ZL,du]at h;exact h.1
    refine qh ar M _ _ _ ?_;rw[j5 _ _ _ _ c];simp only[G];rw[Uu];simp only[G];refine qh ar M _ _ _ ?_;simp only[mK,G];rw[j5 _ _ _ _ c];simp only[G,ns];exact b)
theorem Uz(op a:Int){b:Int}(c:bm b):bX (ag C) 168 [D op,T a,T b] (T (me op a b)):=λH Q d=>S.Sk M (Uw c d)
variable{vars:List aA}{s:RS}{lx F:I}{H:O}{id:Nat}{Q:ab}
theorem K0(h:At H id (.row (dN vars s lx F)))(a:∀H',bj id H H'->At H' id (.row (dN vars s.b5 lx F))->Q (.aH []) H'):ag C 102 [.ptr id 0] H Q:=by
 refine S.RJ M ?_;unfold S.f102;simp only[ae];unfold RS.b5 at a;simp only[br,aJ,aar,mT h,G,ai,CM h,aX,aw];apply aF<;>intro e
 . rw[aa e]at a;exact a H (bj.refl id H) h
 rw[ad e]at a;apply aF<;>intro c
 . rw[aa (by simpa using c)]at a;have U:=h.set (.row (dN vars {s with stop:=abZ} lx F));rw[CN h];simp only[G];rw[Ut U];simp only[G];have b:=U.set (.row (dN vars {s with stop:=abZ,empty:=abZ} lx F));simp only[ae,S.xu,br,aJ,aar,CM b,G,dC,KX b];exact a _ ((bj.set id H _).trans ((bj.set id _ _).trans (bj.set id _ _))) (b.set _)
 . rw[ad (by simpa using c)]at a;simp only[ae,S.xu,br,aJ,aar,CM h,G,dC,KX h];exact a _ (bj.set id H _) (h.set _)
theorem K1(l:List (Int×Int)):(l.flatMap b_).length=l.length*2:=by
 induction l with
 |nil=>rfl
 | cons x r a=>rw[ach,acG,a,ac7];show 2+_=_;omega
theorem sK(h:At H id (.row (dN vars s lx F)))(w:bz)(j:∀H',bj id H H'->At H' id (.row (dN vars (s.ask w).1 lx F))->Q (.agg [T (s.ask w).2.1,T (s.ask w).2.2]) H'):ag C 135 [.ptr id 0,.agg w.cells] H Q:=by
 refine S.R0 M ?_;unfold S.f135;simp only[ae];have y:cg H ab0 13 (.agg w.cells)=ab1 (.ak w.cells,H):=by unfold cg;rw[aa ⟨rfl,rfl⟩];rfl
 simp only[y,aM,bx,aQ];have U:=h.push (.row [T 0,T 0]);have u:=bj.push id H (.row [T 0,T 0]);have r1:=At.new H (.row [T 0,T 0]);have k:H.n≠id:=adh h.hP;generalize H.push _=H1 at *;have z2:bI [T 0,T 0] []=ab1 (.agg [T 0,T 0]):=rfl;have ret:∀(g:O)(a b c d:Int)(A:RS),bj id H1 g->At g H.n (.row [T c,T d])->At g id (.row (dN vars A lx F))->(∀H',bj id H H'->At H' id (.row (dN vars A lx F))->Q (.agg [T a,T b]) H') ->
   Do (bZ g 2 (.ptr H.n 0) (.agg [T a,T b])) λv=>Do (af v 2 abZ (.ptr H.n 0)) λx=>Q x v:=by
  intro g a b c d A m p f z;rw[p.store,aa ⟨rfl,rfl,rfl,(by decide:0+2<=2)⟩];simp only[G];rw[(p.set _).load,show bY (setCells [T c,T d] 0 (I.agg [T a,T b]).cells) 0 2 abZ=ab1 (.agg [T a,T b])from rfl];simp only[G];refine z _ ⟨h1 u.1 m.1,λi o hi ho=>((m.2 i o hi (u.2 i o hi ho))).bq (aap ho.1) _⟩ (f.bq k.symm _)
 simp only[br,aJ,aar,mT U,G,ai,KS U,bP,bc,z2];apply aF<;>intro e
 . have l:s.ask w=(s,0,0):=by unfold RS.ask;rw[aa e]
   rw[l]at j;exact ret H1 0 0 0 0 s (bj.refl id H1) r1 U j
 cases q:s.aW with
 | nil=>
  have l:s.ask w=({s with want:={w with X:=s.X},stop:=abZ},0,0):=by unfold RS.ask;rw[ad e,q]
  rw[l]at j;rw[km];have B:af H1 13 abZ (.ak w.cells)=ab1 (.agg w.cells):=eK (n:=13) rfl;rw[B];simp only[G];rw[Ur U];simp only[G];have f:=U.set (.row (dN vars {s with want:=w} lx F));rw[CN f];simp only[G];have t:=f.set (.row (dN vars {s with want:=w,stop:=abZ} lx F));rw[Um t];simp only[G];rw[Us t];simp only[G];have E:=t.set (.row (dN vars {s with want:={w with X:=s.X},stop:=abZ} lx F));exact ret _ 0 0 0 0 _ ((bj.set id _ _).trans ((bj.set id _ _).trans (bj.set id _ _))) (((r1.bq k _).bq k _).bq k _) E j
 | cons x r=>
  have l:s.ask w=({s with aW:=r},x.1,x.2):=by unfold RS.ask;rw[ad e,q]
  rw[l]at j;rw[jZ];have K:aP ab2 2 (aD b_ (x::r)) (J)=ab1 (.ak ((x::r).flatMap b_)):=by show(if 0<=(0:Int)/\(0:Int)<((x::r).length:Nat)then ab1 (I.ak (((x::r).flatMap b_).drop ((0:Int).toNat*2)))else ab2)=_;rw[aa ⟨ada _,by simp⟩];rfl
  have L:∀H,af H 2 abZ (.ak ((x::r).flatMap b_))=ab1 (.agg (b_ x)):=λH=>by show bY (b_ x++r.flatMap b_) 0 2 abZ=_;exact l0 rfl
  have N:cC 2 (aD b_ (x::r)) (ab1 (D 1)) ab2 ab2=ab1 (aD b_ r):=by show cC 2 (.aj .dead (x::r).length ((x::r).flatMap b_)) (ab1 (D 1)) ab2 ab2=ab1 (.aj .dead r.length (r.flatMap b_));simp only[cC,eo,adm];rw[cX];simp only[show(1:Int).toNat=1 from rfl];rw[aa ⟨by simp,hT _,K1 ar M _⟩,hZ,hZ];have e1:((x::r).flatMap b_).take ((x::r).length*2)=(x::r).flatMap b_:=acJ (by rw[K1 ar M];exact hT _);rw[e1];rfl
  simp only[K,L,G];rw[bU H1 [T 0,T 0] (b_ x) 2 rfl rfl rfl];simp only[G];have f:=U.push (.row (b_ x));have p:=r1.push (.row (b_ x));have P:=At.new H1 (.row (b_ x));have m:=bj.push id H1 (.row (b_ x));have R:H1.n≠id:=adh U.hP;have Y:H1.n≠H.n:=adh r1.hP;generalize H1.push _=g at *;have V:af g 1 ab0 (.ptr id 1)=ab1 (aD b_ (x::r)):=by rw[KS f,q]
  rw[V];simp only[G,N];rw[Up f];simp only[G];have W:=P.bq R (.row (dN vars {s with aW:=r} lx F));rw[W.load,show bY (b_ x) 0 2 abZ=ab1 (.agg [T x.1,T x.2])from rfl];simp only[G];exact ret _ x.1 x.2 0 0 _ (m.trans (bj.set id _ _)) (p.bq k _) (f.set _) j
end
variable{n0 sz len:Nat}{H H':O}{x:I}{cells:List I}
def cy(n0:Nat)(H:O)(sz:Nat)(x:I)(len:Nat)(cells:List I):Prop:=∃tk,x = .aj tk len cells/\cells.length=len*sz/\((tk = .nil/\len=0)\/tk = .full\/∃t,tk = .own t/\n0<=t/\At H t (.tok (len*sz) sz))
theorem cy.nil(n0:Nat)(H:O)(sz:Nat):cy n0 H sz (.aj .nil 0 []) 0 []:=⟨.nil,rfl,by simp,.inl ⟨rfl,rfl⟩⟩
theorem cy.frame(h:cy n0 H sz x len cells)(k:∀t a b,At H t (.tok a b)->At H' t (.tok a b)):cy n0 H' sz x len cells:=by
 obtain⟨tk,c,hc,ht⟩:=h;refine⟨tk,c,hc,?_⟩;rcases ht with ht|ht|⟨t,U,d,e⟩
 ·exact .inl ht
 ·exact .inr (.inl ht)
 ·exact .inr (.inr ⟨t,U,d,k t _ _ e⟩)
def Left(n0:Nat)(H H':O):Prop:=H.n<=H'.n/\∀i o,At H i o->(i<n0\/∀a b,o ≠ .tok a b)->At H' i o
theorem cy.app{n0 sz a len m:Nat}{x y:I}{cells news:List I}{K:ab}(h:cy n0 H sz x len cells)(b:n0<=H.n)(c:fh H sz y=ab1 (m,news))(hn:news.length=m*sz)(hs:news.all I.scalar=abZ)(d:m≠0)
  (f:(len+m)*a<=140737488355328) (hl:len+m<=9223372036854775807) (g:∀j H',cy n0 H' sz j (len+m) (cells++news)->Left n0 H H'->K j H'):bJ (cI H ab0 sz a x y) K:=by
 obtain⟨tk,rfl,hc,l⟩:=h;have hlen:(cells++news).length=(len+m)*sz:=by simp[hc,hn,aae]
 have grow:∀tk:Tok,tk = .full\/(tk = .nil/\len=0)->cI H ab0 sz a (.aj tk len cells) y=ab1 (.aj (.own H.n) (len+m) (cells++news),H.push (.tok ((len+m)*sz) sz)):=by intro tk ht;simp only[cI,c,hs,not_true_eq_false,cc,ad d];rw[ad (by simp only[ac3];exact⟨hc,f,hl⟩)];rcases ht with rfl|⟨rfl,_⟩<;>rfl
 have fresh:K (.aj (.own H.n) (len+m) (cells++news)) (H.push (.tok ((len+m)*sz) sz)):=
  g _ _ ⟨_,rfl,hlen,.inr (.inr ⟨H.n,rfl,b,At.new H _⟩)⟩ ⟨aal _,λi o h _=>h.push _⟩
 rcases l with ht|ht|⟨t,rfl,U,k⟩
 ·exact⟨_,_,grow tk (.inr ht),fresh⟩
 ·exact⟨_,_,grow tk (.inl ht),fresh⟩
 . refine ⟨.aj (.own H.n) (len+m) (cells++news),(H.set t .gone).push (.tok ((len+m)*sz) sz),?_,g _ _ ⟨_,rfl,hlen,.inr (.inr ⟨H.n,rfl,b,At.new (H.set t .gone) _⟩)⟩ ⟨aal _,λi o hi ho=>(hi.bq (λe=>?_) _).push _⟩⟩
   . simp only[cI,c,hs,not_true_eq_false,cc,ad d];rw[ad (by simp only[ac3];exact⟨hc,f,hl⟩)];simp[k.2]
   . subst e;rcases ho with ho|ho
     ·omega
     ·exact ho _ _ (hi.2.symm.trans k.2)
theorem Left.row{i:Nat}{cs:List I}(k:Left n0 H H')(h:At H i (.row cs)):At H' i (.row cs):=k.2 _ _ h (.inr λ_ _ e=>by cases e)
end Rb
namespace Rb
open Go
theorem CO{m:Nat}:∀{l:List aL}{f:aL},f∈l->eL m f.type<=ft m l
 | g::r,f,h=>by
  rw[ft];rcases abG.1 h with rfl|h
  ·rw[sc];omega
  ·have:=CO (m:=m) h;omega
theorem CP{m:Nat}:∀{l:List ay}{f:ay},f∈l->eL m f<=e3 m l
 | g::r,f,h=>by
  rw[e3];rcases abG.1 h with rfl|h
  ·omega
  ·have:=CP (m:=m) h;omega
theorem K2{m k:Nat}:∀{l:List aL},(∀f∈l,eL m f.type=eL k f.type)->ft m l=ft k l
 |[],_=>by rw[ft,ft]
 |g::r,h=>by rw[ft,ft,sc,sc,h g (abK ..),K2 λf hf=>h f (abH _ hf)]
theorem K3{m k:Nat}:∀{l:List ay},(∀f∈l,eL m f=eL k f)->e3 m l=e3 k l
 |[],_=>by rw[e3,e3]
 |g::r,h=>by rw[e3,e3,h g (abK ..),K3 λf hf=>h f (abH _ hf)]
theorem UA:∀(t:ay)(m:Nat),eL m t<m->eL (m+1) t=eL m t:=by
 refine ay.ind λt a b m h=>?_;rw[oA]at h;by_cases U:1<m
 . rw [aa U]at h;rw[oA,oA,cX,aa U,Nat.add_sub_cancel];have e1:ft m t.aG=ft (m-1) t.aG:=K2 λf hf=>by
    have:=CO (m:=m-1) hf;have:=a f hf (m-1) (by omega);rw[show m-1+1=m by omega]at this;exact this
   have c:e3 m t.bf=e3 (m-1) t.bf:=K3 λf hf=>by have:=CP (m:=m-1) hf;have:=b f hf (m-1) (by omega);rw[show m-1+1=m by omega]at this;exact this
   rw[e1,c]
 ·rw[ad U]at h;omega
theorem K4{t u:ay}(h:dW t=0)(a:(∃f∈t.aG,f.type=u)\/u∈t.bf)(hs:dc u=0):dW u=0:=by
 have b:¬64<eL 65 t:=by intro e;unfold dW at h;rw[aa e]at h;cases h
 rw[oA,eu]at b;have:eL 64 u<=63:=by
  rcases a with⟨f,hf,rfl⟩|a
  . have:=CO (m:=64) hf;simp only[show 65-1=64 from rfl]at b;omega
  . have:=CP (m:=64) a;simp only[show 65-1=64 from rfl]at b;omega
 have e:=UA u 64 (by omega);unfold dW;rw[ad (by rw[show(65:Nat)=64+1 from rfl,e];omega),hs]
theorem CQ{packed:Bool}{kind:Int}:∀{l:List aL}{p q:PL},ei packed kind p l=ab1 q->(∀f∈l,(a_ f.type).2=abZ)/\q.eh.length=p.eh.length+l.length
 | [],p,q,h=>by simp only[ei,ZW.injEq]at h;subst h;exact⟨λf hf=>(by cases hf),rfl⟩
 | f :: r, p,q,h=>by
  simp only[ei,oE]at h;by_cases U:(a_ f.type).2=abZ
  . rw [aa U]at h;obtain⟨b,c⟩:=CQ h;refine⟨λg a=>?_,?_⟩
    . rcases abG.1 a with rfl|a
      ·exact U
      ·exact b g a
    . have hl:(iy packed kind p f (a_ f.type).1).eh.length=p.eh.length+1:=by
        unfold iy;dsimp only;split
        . unfold l6;split<;>simp[l7]
        ·simp[l7,yl]
      rw[c,hl,ac7];omega
  ·rw[ad U]at h;cases h
structure ay.lay(t:ay):Prop where
 ok:t.ok
 snd:dW t=0
 CS:fe t=ab0
 of:(a_ t).2=abZ
theorem oK{t:ay}(ho:t.ok)(h:(bT t).2=0):t.lay:=by
 unfold bT at h;by_cases U:dW t≠0
 ·rw[aa U]at h;exact absurd h U
 . rw [ad U]at h;by_cases a:fe t=abZ
   . rw[aa a]at h;have:(10:Int)=0:=h;omega
   . rw [ad a]at h;by_cases b:(a_ t).2=ab0
     . rw[aa b]at h;have:(9:Int)=0:=h;omega
     ·exact⟨ho,by omega,by simpa using a,by simpa using b⟩
theorem ay.lay.zero{t:ay}(h:t.lay):bT t=((a_ t).1,0):=by unfold bT;rw[ad (by rw[h.snd];decide),ad (by rw[h.CS];decide),ad (by rw[h.of];decide)]
theorem ay.yG{t:ay}(h:t.ok):(∀f∈t.aG,f.type.ok)/\(∀e∈t.bf,e.ok)/\t.aG.length<=9223372036854775807:=by
 cases t with
 | mk kind size packed aG bO bf=>obtain⟨_,_,U,a,_,c,b⟩:=h;refine⟨λf hf=>?_,ay.eQ.1 b,by rw[<-la];exact U⟩;have:=aL.eQ.1 a f hf;cases f;exact this.2.1
theorem K5{t e:ay}(h:t.lay)(hk:t.kind=5)(a:e∈t.bf):e.lay:=by
 have hs:=hC h.snd;obtain⟨c,b,d⟩:=l5 hs hk;have f:e=c:=by rw[b]at a;simpa using a
 subst f;refine⟨(ay.yG h.ok).2.1 e a,K4 h.snd (.inr a) d,?_,?_⟩
 . have ht:=h.CS;cases t with
   | mk kind size packed aG bO bf=>rw[fe]at ht;simp only[abJ]at ht;have:=ht.1.2;rw[Cc,adC]at this;simpa using this e a
 . have ho:=h.of;rw[j7,bg,aa hk,b]at ho;simp only[j6,ZL]at ho;exact ho.1
theorem sL{t:ay}(h:t.lay)(hk:t.kind=3\/t.kind=4):∃p,ei t.packed t.kind ⟨0,1,[],0⟩ t.aG=ab1 p/\c7 p.size p.bF<=65536/\p.eh.length=t.aG.length:=by
 have ho:=h.of;rw[j7,bg,bg]at ho;cases a:ei t.packed t.kind ⟨0,1,[],0⟩ t.aG with
 |none=>rw[a]at ho;cases ho
 | some p=>rw[a]at ho;refine⟨p,rfl,by simpa using ho,?_⟩;have:=(CQ a).2;simpa using this
theorem CT{t:ay}{f:aL}(h:t.lay)(hk:t.kind=3\/t.kind=4)(hf:f∈t.aG):f.type.lay:=by
 have hs:=hC h.snd;obtain⟨p,a,_⟩:=sL h hk;refine⟨(ay.yG h.ok).1 f hf,K4 h.snd (.inl ⟨f,hf,rfl⟩) ((mM hs hk).1 f hf),?_,(CQ a).1 f hf⟩;have ht:=h.CS;cases t with
 | mk kind size packed aG bO bf=>rw[fe]at ht;simp only[abJ]at ht;have:=ht.2;rw[Cd,adC]at this;simpa using this f hf
theorem UB{t:ay}(h:t.lay)(hk:t.kind=3\/t.kind=4):(gx t).length=t.aG.length:=by obtain⟨p,a,_,hl⟩:=sL h hk;unfold gx;rw[a];exact hl
theorem qi{t:ay}{p:aO}(h:t.lay)(a:(dm t p).1=0) :
  (p.aV.length=1/\t.kind=5/\∃e r,t.bf=e::r/\dm t p=(0,e)/\e.lay) \/
  (p.aV=[]/\(t.kind=3\/t.kind=4)/\∃n f s,t.aG.findIdx? (λf=>f.name==p.field)=ab1 n/\t.aG[n]?=ab1 f/\(gx t)[n]?=ab1 s/\dm t p=(0,f.type)/\f.type.lay):=by
 unfold dm at a ⊢;by_cases c1:1<p.aV.length\/(p.aV.length=1↔p.field≠[])
 . rw[aa c1]at a;have:(8:Int)=0:=a;omega
 rw[ad c1]at a;by_cases b:p.aV.length=1/\t.kind=5
 . rw [aa b]at a;left;cases he:t.bf with
   | nil=>rw[he]at a;have:(8:Int)=0:=a;omega
   |cons e r=>exact⟨b.1,b.2,e,r,rfl,by rw[ad c1,aa b],K5 h b.2 (by rw[he];exact abK ..)⟩
 rw[ad b]at a;by_cases c3:p.aV.length=1\/¬(t.kind=3\/t.kind=4)
 . rw[aa c3]at a;have:(8:Int)=0:=a;omega
 rw[ad c3]at a;have hk:t.kind=3\/t.kind=4:=by omega
 right;rcases mN (λf:aL=>f.name==p.field) t.aG with⟨i,f,U,c,d⟩|⟨U,c⟩
 . have g:=(ZF.1 d).1;have hl:i<(gx t).length:=by rw[UB h hk];exact g
   refine⟨aaY.1 (by omega),hk,i,f,(gx t)[i],U,d,aav hl,?_,CT h hk (acK d)⟩;rw[ad c1,ad b,ad c3,c]
 . rw[c]at a;have:(6:Int)=0:=a;omega
variable{vars:List aA}{v:aA}
def fm:List aA->List bM->List I
 |v::r,s::t=> .str v.name :: D s.at_ :: D s.len::fm r t
 |_,_=>[]
theorem K6:∀(a:List aA)(s:List bM)(v:aA)(g:bM),a.length=s.length->fm (a++[v]) (s++[g])=fm a s++[.str v.name,D g.at_,D g.len]
 |[],[],v,g,_=>rfl
 | x::a,y::s,v,g,h=>by rw[abh,abh,fm,fm,K6 a s v g (by simpa using h)];rfl
theorem K7:∀(a:List aA)(s:List bM),I.dh (fm a s)=fm a s
 |v::r,s::t=>by rw[fm,I.dh,I.dh,I.dh,K7 r t];rfl
 |[],[]=>rfl
 |[],_::_=>rfl
 |_::_,[]=>rfl
theorem K8:∀(a:List aA)(s:List bM),I.cD (fm a s)=abZ
 |v::r,s::t=>by rw[fm];simp only[I.cD,I.cj,K8 r t];rfl
 |[],[]=>rfl
 |[],_::_=>rfl
 |_::_,[]=>rfl
def mh(vars:List aA):I:=if(mapM vars).1≠0 then .aH [.aj .dead 0 [],J,D (mapM vars).1]else .aH [.aj .dead vars.length (fm vars (mapM vars).2.2),D (mapM vars).2.1,J]
def oL(a:Int)(v:aA):Int:=if B (B (adw (B (B (a+(bT v.type).1.2)-1)) (bT v.type).1.2)*(bT v.type).1.2)>65536 then 65537 else B (B (adw (B (B (a+(bT v.type).1.2)-1)) (bT v.type).1.2)*(bT v.type).1.2)
theorem CU(v:aA)(r:List aA)(a:Int)(b:List bM):e5 (v::r) a b=if(bT v.type).2≠0 then((bT v.type).2,0,[])else e5 r (B (oL a v+(bT v.type).1.1)) (b++[⟨B (65536+oL a v),(bT v.type).1.1,0,ab0,0,0⟩]):=rfl
theorem UC(h:(e5 vars 0 []).1≠0):mh vars = .aH [.aj .dead 0 [],J,D (e5 vars 0 []).1]:=by
 have e:mapM vars=((e5 vars 0 []).1,0,[]):=by unfold mapM;rw[aa h]
 unfold mh;rw[e];exact aa h
theorem UD(h:(e5 vars 0 []).1=0)(a:(e5 vars 0 []).2.1>65536):mh vars = .aH [.aj .dead 0 [],J,D 9]:=by
 have e:mapM vars=(9,0,[]):=by unfold mapM;rw[bg,aa a]
 unfold mh;rw[e];exact aa (show(9:Int)≠0 by decide)
theorem UE(h:(e5 vars 0 []).1=0)(a:¬(e5 vars 0 []).2.1>65536):mh vars = .aH [.aj .dead vars.length (fm vars (e5 vars 0 []).2.2),D (e5 vars 0 []).2.1,J]:=by
 have e:mapM vars=e5 vars 0 []:=by unfold mapM;rw[bg,ad a]
 unfold mh;rw[e];exact bg
theorem K9:∀(l:List aA)(at':Int)(acc:List bM),(e5 l at' acc).1=0->(e5 l at' acc).2.2.length=acc.length+l.length/\∀v∈l,(bT v.type).2=0
 |[],at',acc,_=>⟨rfl,λv hv=>(by cases hv)⟩
 | v :: r,at',acc,h=>by
  unfold e5 at h ⊢;by_cases U:(bT v.type).2≠0
  ·rw[aa U]at h;exact absurd h U
  . rw[ad U]at h ⊢;obtain⟨a,b⟩:=K9 r _ _ h;refine⟨by rw[a];simp;omega,λu hu=>?_⟩;rcases abG.1 hu with rfl|hu
    ·omega
    ·exact b u hu
theorem K_(h:(mapM vars).1=0):(mapM vars).2.2.length=vars.length/\∀v∈vars,(bT v.type).2=0:=by
 unfold mapM at h ⊢;by_cases U:(e5 vars 0 []).1≠0
 ·rw[aa U]at h;exact absurd h U
 . rw [ad U]at h ⊢;by_cases a:(e5 vars 0 []).2.1>65536
   . rw[aa a]at h;have:(9:Int)=0:=h;omega
   . rw[ad a]at h ⊢;obtain⟨b,c⟩:=K9 vars 0 [] h;exact⟨by simpa using b,c⟩
section
variable{H:O}{id:Nat}
theorem UF(h:At H id (.row v.cells)):af H 1 ab0 (.ptr id 0)=ab1 (.str v.name):=by rw[h.load];cases v;rfl
theorem UG(h:At H id (.row v.cells)):af H 6 abZ (.ptr id 1)=ab1 (.agg v.type.cells):=by
 rw[h.load];cases v with
 | mk name type=>show bY (.str name::type.cells) 1 6 abZ=_;unfold bY;rw[aa (by rw[ac7,type.len];omega),aa rfl];show ab1 (I.agg (type.cells.take 6))=_;rw[acJ (by rw[type.len];omega)]
end
section
variable{C:Ctx}(ar:cY C)(M:Cl (ag C) S.cn)
include ar M
theorem La(hl:vars.length<=1000000)(hv:∀v∈vars,v.ok):bX (ag C) 16 [aD aA.cells vars] (mh vars):=by
 refine bX.of ar (by simp[I.cD,lZ aA.cj]) (by
   unfold mh;split
   ·rfl
   ·simp[I.cj,I.cD,K8,Tok.free]) λQ c=>?_
 refine ag.eB ?_;refine S.QC M ?_;unfold S.f16;simp only[ae];simp only[bP,G];have main:∀(r:List aA)(k:Nat)(at':Int)(acc:List bM)(x:I)(H:O),vars.drop k=r->k<=vars.length->acc.length=k->cy 0 H 3 x k (fm (vars.take k) acc)->e5 r at' acc=e5 vars 0 [] ->
   au (S.re (ag C) (aD aA.cells vars) (D vars.length) λv H'=>Q v.eB H') ([x,D at',D k],H):=by
  intro r;induction r with
  | nil=>
   intro k at' acc x H f hk g ho he;have hle:=dx f;have t:k=vars.length:=by omega
   subst t;rw[acz]at ho;refine au.step ?_;simp only[ae,S.re,aq,bp,aX,G,ai,aw,S.Gm,dS];rw[hZ];have e1:(e5 vars 0 []).1=0:=by rw[<-he];rfl
   have i:(e5 vars 0 []).2.1=at':=by rw[<-he];rfl
   have u:(e5 vars 0 []).2.2=acc:=by rw[<-he];rfl
   obtain⟨tk,rfl,_,_⟩:=ho;apply aF<;>intro h
   . rw[UD e1 (by rw[i];simpa using h)]at c;exact c _
   . rw[UE e1 (by rw[i];simpa using h),i,u]at c;have:=c H;simp only[I.eB,I.dh,K7];exact this
  | cons v r w=>
   intro k at' acc x H f hk g ho he;obtain⟨o,j,z⟩:=di f;have A:=hv v (acK j);have p:v.type.ok:=by cases v;exact A.2
   refine au.step ?_;simp only[ae,S.re,aq,bp,aX,G,ai];rw[cp,cG o];simp only[G];rw[dH aA.len (by decide) _ j];simp only[G,aM,bx,aQ];rw[bU _ _ _ 7 v.len v.scalar rfl];have a2:=At.new H (.row v.cells);have E:cy 0 (H.push (.row v.cells)) 3 x k (fm (vars.take k) acc):=ho.frame λ_ _ _ q=>q.push _;simp only[G,aJ,aar];rw[UG a2];simp only[G];generalize H.push _=d at *;refine Ci ar M v.type p _ _ ?_;simp only[bL,acn,aco,G,cJ,ai];rw[CU]at he;apply aF<;>intro h
   . have e:(bT v.type).2≠0:=by simpa using h
     rw[aa e]at he;rw[UC (by rw[<-he];exact e),<-he]at c;exact c d
   . have e:¬(bT v.type).2≠0:=by simpa using h
     rw[ad e]at he;have P:1<=(bT v.type).1.2:=by have l:=oK p (by omega);rw[l.zero];exact Ch _ (hC l.snd) l.of
     simp only[bu,dC,G,jw _ _ _ (show(bT v.type).1.2≠0 by omega),e2,dS,ai,aw];have s:∀y:Int,y=oL at' v ->
       S.u1 (ag C) (.ptr H.n 0) (D (bT v.type).1.1) ([x,D at',D k],H) (au (S.re (ag C) (aD aA.cells vars) (D vars.length) λv H'=>Q v.eB H')) (λv H'=>Q v.eB H') [D y] d:=by
      intro y F;simp only[ae,S.u1,aq,bp,aJ,aar,G,UF a2,bu];rw[show ∀a b:Int,bI [J,J] [(0,1,D a),(1,1,D b)]=ab1 (.agg [D a,D b])from λ_ _=>rfl];simp only[G];refine⟨.agg [.str v.name,D (B (65536+y)),D (bT v.type).1.1],rfl,?_⟩;dsimp only;rw[show cU d ab0 3 1 [.str [],J,J] [(0,3,I.agg [.str v.name,D (B (65536+y)),D (bT v.type).1.1])]=ab1 (.aj .full 1 [.str v.name,D (B (65536+y)),D (bT v.type).1.1],d)from rfl];simp only[aM];refine E.app (aad _) (m:=1) (news:=[.str v.name,D (B (65536+y)),D (bT v.type).1.1]) rfl rfl rfl (by decide) (by omega) (by omega) λK L N _=>?_;simp only[ae,aw,S.Gl,aq,bp,bu,G];rw[wrap_i64 (n:=(k:Int)+1) (by omega) (by omega),show(k:Int)+1=((k+1:Nat):Int) by simp];have ht:vars.take (k+1)=vars.take k++[v]:=by rw[acQ,j];rfl
      refine w (k+1) _ (acc++[⟨B (65536+y),(bT v.type).1.1,0,ab0,0,0⟩]) K L z o (by simp[g]) ?_ ?_
      . rw[ht,K6 _ _ _ _ (by rw[ac2,g];omega)];exact N
      ·rw[F];exact he
     apply aF<;>intro h
     ·exact s _ (by unfold oL;rw[aa (by simpa using h)])
     ·exact s _ (by unfold oL;rw[ad (by simpa using h)])
 exact main vars 0 0 [] _ _ rfl (aad _) rfl (cy.nil _ _ _) rfl
theorem UH{x:aR}(a:x.ok):bX (ag C) 184 [.agg x.cells] (D (e6 x.aE 0)):=by
 obtain⟨hl,g⟩:=aR.dq a;refine bX.of ar (by simp[I.cD,I.cj,aR.cj]) rfl λQ c=>S.Sp M ?_;unfold S.f184;simp only[ae];simp only[mR,aM,iD,i6,bP,G];have main:∀(r:List aO)(i:Nat)(m:Int)(H1:O),x.aE.drop i=r->e6 r m=e6 x.aE 0->au (S.x5 (ag C) (aD aO.cells x.aE) (D x.aE.length) Q) ([D m,D i],H1):=by
  intro r;induction r with
  | nil=>intro i m H1 b he;have hle:=dx b;refine au.step ?_;simp only[ae,S.x5,aq,bp,aX,G,ai];rw[dg];rw[e6]at he;rw[he];exact c _
  | cons p r d=>
   intro i m H1 b he;obtain⟨e,a,f⟩:=di b;refine au.step ?_;simp only[ae,S.x5,aq,bp,aX,G,ai];rw[cp,cG e];simp only[G];rw[dH aO.len (by decide) _ a];simp only[G,aM,bx,aQ];rw[bU _ _ _ 2 p.len p.scalar rfl];have a2:=At.new H1 (.row p.cells);simp only[G,aJ,aar];rw[yx a2];simp only[G,bP,bu];rw[e6]at he;have hw:aaN .i64 ((i:Int)+1)=((i+1:Nat):Int):=by rw[bD];simp
   rw[hw];exact d (i+1) _ _ f he
 exact main x.aE 0 0 _ rfl rfl
end
end Rb
namespace Rb
open Go
theorem Lb:∀l:List bM,I.dh (l.flatMap bM.cells)=l.flatMap bM.cells
 |[]=>rfl
 |s::r=>by rw[ach,mb,Lb r];rfl
theorem Lc:∀l:List bM,I.cD (l.flatMap bM.cells)=abZ
 |[]=>rfl
 | s::r=>by rw[ach];show I.cD ([D s.at_,D s.len,D s.kind,.bool s.bits,D s.bit,D s.bo]++r.flatMap bM.cells)=abZ;simp only[abh,List.nil_append,I.cD,I.cj,Lc r];rfl
def fV(t:ay)(sp:bM)(ix:I):List I:=t.cells++(sp.cells++[ix])
theorem g_(t:ay)(sp:bM)(ix:I):fV t sp ix=[D t.kind,D t.size,.bool t.packed,aD aL.cells t.aG,D t.bO,aD ay.cells t.bf,D sp.at_,D sp.len,D sp.kind,.bool sp.bits,D sp.bit,D sp.bo,ix]:=by unfold fV;rw[ay.bh];rfl
section
variable{H:O}{id:Nat}{t:ay}{sp:bM}{ix:I}(h:At H id (.row (fV t sp ix)))
include h
theorem UI:af H 1 ab0 (.ptr id 12)=ab1 ix:=by rw[h.load,g_];rfl
theorem UJ:af H 1 ab0 (.ptr id 4)=ab1 (D t.bO):=by rw[h.load,g_];rfl
theorem UK:af H 1 ab0 (.ptr id 5)=ab1 (aD ay.cells t.bf):=by rw[h.load,g_];rfl
theorem Ld:af H 1 ab0 (.ptr id 3)=ab1 (aD aL.cells t.aG):=by rw[h.load,g_];rfl
theorem Le:af H 6 abZ (.ptr id 0)=ab1 (.agg t.cells):=by rw[h.load,g_,ay.bh];rfl
theorem Lf:af H 1 ab0 (.ptr id 6)=ab1 (D sp.at_):=by rw[h.load,g_];rfl
theorem UL:af H 6 abZ (.ptr id 6)=ab1 (.agg sp.cells):=by rw[h.load,g_];rfl
theorem UM{v:I}(U:v.known=abZ)(a:v.cells=[v])(b:v.scalar=abZ):bZ H 1 (.ptr id 12) v=ab1 (H.set id (.row (fV t sp v))):=by rw[h.store,g_,g_,aa ⟨U,by rw[a];rfl,by rw[a];simpa using b,(by show 12+1<=13;decide)⟩,a];rfl
theorem Lg(u:ay):bZ H 6 (.ptr id 0) (.agg u.cells)=ab1 (H.set id (.row (fV u sp ix))):=by rw[h.store,g_,g_,aa ⟨rfl,u.len,u.scalar,(by show 0+6<=13;decide)⟩,ay.bh];rfl
theorem UN(s:bM):bZ H 6 (.ptr id 6) (.agg s.cells)=ab1 (H.set id (.row (fV t s ix))):=by rw[h.store,g_,g_,aa ⟨rfl,rfl,rfl,(by show 6+6<=13;decide)⟩];rfl
theorem UO(v:Int):bZ H 1 (.ptr id 6) (D v)=ab1 (H.set id (.row (fV t {sp with at_:=v} ix))):=by rw[h.store,g_,g_,aa ⟨rfl,rfl,rfl,(by show 6+1<=13;decide)⟩];rfl
theorem UP(v:Int):bZ H 1 (.ptr id 7) (D v)=ab1 (H.set id (.row (fV t {sp with len:=v} ix))):=by rw[h.store,g_,g_,aa ⟨rfl,rfl,rfl,(by show 7+1<=13;decide)⟩];rfl
theorem UQ(v:Int):bZ H 1 (.ptr id 8) (D v)=ab1 (H.set id (.row (fV t {sp with kind:=v} ix))):=by rw[h.store,g_,g_,aa ⟨rfl,rfl,rfl,(by show 8+1<=13;decide)⟩];rfl
end
def kd(ix:I)(l:List Int):Prop:=∃tk,ix = .aj tk l.length (l.map (T))
theorem CV{fs:List aL}{i:Nat}{f:aL}(H:O)(h:fs[i]?=ab1 f):af H 6 abZ (.ak (((fs.flatMap aL.cells).drop (i*9)).drop 1))=ab1 (.agg f.type.cells):=by
 have e:=dH aL.len (by decide) H h;have a:(fs.flatMap aL.cells).drop (i*9)=f.cells++(fs.drop (i+1)).flatMap aL.cells:=by
  have key:∀(xs:List aL)(i:Nat)(f:aL),xs[i]?=ab1 f->(xs.flatMap aL.cells).drop (i*9)=f.cells++(xs.drop (i+1)).flatMap aL.cells:=by
   intro xs;induction xs with
   |nil=>intro i f h;simp at h
   | cons x r c=>
    intro i f h;cases i with
    |zero=>simp at h;subst h;simp
    | succ i=>rw[ach,show(i+1)*9=x.cells.length+i*9 by rw[x.len];omega,adD];exact c i f (by simpa using h)
  exact key fs i f h
 rw[a];show bY (adE 1 (f.cells++_)) 0 6 abZ=_;cases f with
 |mk n t b w=>cases t;rfl
section
variable{C:Ctx}(ar:cY C)(M:Cl (ag C) S.cn)
include ar M
theorem UR{t:ay}(h:t.lay)(hk:t.kind=3\/t.kind=4):bX (ag C) 202 [.agg t.cells] (.aH [aD bM.cells (gx t),J]):=by
 refine bX.of ar (by simp[I.cD,I.cj,ay.cj]) (by show I.cj (.aH [.aj .dead (gx t).length ((gx t).flatMap bM.cells),J])=abZ;simp[I.cj,I.cD,Lc,Tok.free]) λQ b=>?_
 refine ag.eB ?_;refine S.Sw M ?_;unfold S.f202;simp only[ae];simp only[gr,aM,jx,G];refine S.JB M (Ki ar M t h.ok λH1=>?_);rw[h.zero];simp only[bL,acn,aco,G,aM,bx,aQ];rw[bU _ _ _ 2 rfl rfl rfl];simp only[G,cJ,ai];rw[aI];simp only[cN,iX,G,cJ,bR,aw];have hs:=hC h.snd;obtain⟨p,a,hle,hlen⟩:=sL h hk;have c:S.x6 (ag C) (.ak t.cells) (λv H'=>Q v.eB H') [av] (H1.push (.row [D (a_ t).1.1,D (a_ t).1.2])):=by
  simp only[ae,S.x6,aq,ai,abe,cc,aw,S.Jx,jx,G];refine S.JF M (Kf M hs hk (λf hf=>Kh ar M f.type (hC (CT h hk hf).snd)) (λf hf=>Ch f.type (hC (CT h hk hf).snd)) (λe=>by rw[a]at e;cases e) λq d x j g=>?_);rw[a]at d;cases d;obtain⟨_,tk,rfl,_⟩:=g;simp only[bL,acn,aco,G,aM,bx,aQ];rw[bU _ _ _ 4 rfl rfl rfl];simp only[G,aJ,aar,fI];rw[show bY [D (c7 p.size p.bF),D p.bF,.aj tk p.eh.length (p.eh.flatMap bM.cells),D p.bit] 2 1 ab0=ab1 (.aj tk p.eh.length (p.eh.flatMap bM.cells))from rfl];simp only[G,I.eB,I.dh,Lb];have i:gx t=p.eh:=by unfold gx;rw[a]
  rw[i]at b;exact b _
 rcases hk with hk|hk
 . rw[ad (by rw[hk];decide)];exact c
 . rw[aa (by rw[hk];decide),show((t.kind != 4):Bool)=ab0 by rw[hk];decide];exact c
theorem US{t:ay}{sp:bM}{ix:I}{b:List Int}{p:aO}{H:O}{id:Nat}(h:At H id (.row (fV t sp ix)))(ht:t.lay)(A:kd ix b)(E:(dm t p).1=0)(x:p.aV.length<=b.length){Q:ab}
  (F:∀i q e r H',p.aV.length=1->b=i::q->t.bf=e::r->i>=h6 t.bO->bj id H H'->Q av H')
  (K:∀i q e r a H',p.aV.length=1->b=i::q->t.bf=e::r->¬i>=h6 t.bO->dm t p=(0,e)->kd a q->e.lay->bj id H H'->At H' id (.row (fV e {sp with at_:=B (sp.at_+B (aaN .i64 i*(bT e).1.1)),len:=(bT e).1.1} a))->Q aZ H')
  (L:∀n f s H',p.aV.length≠1->p.aV=[]->t.aG.findIdx? (λf=>f.name==p.field)=ab1 n->t.aG[n]?=ab1 f->(gx t)[n]?=ab1 s->dm t p=(0,f.type)->f.type.lay->bj id H H'->At H' id (.row (fV f.type {s with at_:=B (s.at_+sp.at_)} ix))->Q aZ H') :
  ag C 186 [.ptr id 0,.agg p.cells] H Q:=by
 refine S.Sr M ?_;unfold S.f186;simp only[ae];simp only[J3,aM,yc,yd,bP,G,bc,ai];rcases qi ht E with⟨d,hk,e,r,he,k,y⟩|⟨l,hk,n,f,s,U,m,u,k,N⟩
 . rw [aa (by rw[d];decide)];obtain ⟨i,q,P⟩:∃i q,b=i::q:=by
    cases b with
    |nil=>rw[d]at x;simp at x
    |cons i q=>exact⟨i,q,rfl⟩
   subst P;obtain⟨tk,rfl⟩:=A;have V:aP ab2 1 (.aj tk (i::q).length ((i::q).map (T))) (J)=ab1 (.ak ((i::q).map (T))):=by show(if 0<=(0:Int)/\(0:Int)<((i::q).length:Nat)then ab1 (I.ak (((i::q).map (T)).drop ((0:Int).toNat*1)))else ab2)=_;rw[aa ⟨ada _,by simp⟩];rfl
   have X:∀H,af H 1 ab0 (.ak ((i::q).map (T)))=ab1 (T i):=λH=>by show bY ((i::q).map (T)) 0 1 ab0=_;unfold bY;rw[km,aI];rfl
   obtain ⟨a,Y,w⟩:∃a,cC 1 (.aj tk (i::q).length ((i::q).map (T))) (ab1 (D 1)) ab2 ab2=ab1 a/\kd a q/\a.known=abZ/\a.cells=[a]/\a.scalar=abZ:=by refine⟨.aj .dead q.length (q.map (T)),?_,⟨_,rfl⟩,rfl,rfl,rfl⟩;simp only[cC,eo,adm];rw[cX];simp only[show(1:Int).toNat=1 from rfl];rw[aa ⟨by simp,hT _,by simp⟩,hZ,hZ];have e1:((i::q).map (T)).take ((i::q).length*1)=(i::q).map (T):=acJ (by simp);rw[e1];rfl
   obtain⟨w,g1,g2,g3⟩:=w;simp only[br,aJ,aar,UI h,G,V,X,Y];rw[UM h g1 g2 g3];simp only[G];have W:=h.set (.row (fV t sp a));have c:=bj.set id H (.row (fV t sp a));rw[UJ W];simp only[G,h4,eD,ai];apply aF<;>intro j
   ·exact F i q e r _ d rfl he (by simpa using j) c
   . rw[UK W,he];have Z:aP ab2 6 (aD ay.cells (e::r)) (J)=ab1 (eP ay.cells 6 (e::r) 0):=cG (by simp);simp only[G,Z,dH ay.len (by decide) _ (show(e::r)[0]?=ab1 e from rfl)];rw[Lg W e];simp only[G];have a2:=W.set (.row (fV e sp a));rw[Le a2];simp only[G];refine Ci ar M e y.ok _ _ ?_;simp only[bL,acn,aco,G,Lf a2,e2,bu];rw[UO a2];simp only[G];have a3:=a2.set (.row (fV e {sp with at_:=B (sp.at_+B (aaN .i64 i*(bT e).1.1))} a));rw[UP a3];simp only[G];exact K i q e r a _ d rfl he (by simpa using j) k w y (c.trans ((bj.set id _ _).trans ((bj.set id _ _).trans (bj.set id _ _)))) (a3.set _)
 . rw [ad (by rw[l];decide)];have ac:=(ZF.1 m).1;have ah:=(ZF.1 u).1;simp only[br,aJ,aar,Ld h,G];refine S.BS M ?_;refine fieldIndex (p:=λf=>f.name==p.field) (λg _ R al=>S.Sv M (by
     unfold S.f201;simp only[ae];have j:cg H ab0 9 (.agg g.cells)=ab1 (.ak g.cells,H):=by unfold cg;rw[aa ⟨rfl,g.len⟩];rfl
     have am:af H 1 ab0 (.ak (g.cells.drop 0))=ab1 (.str g.name):=p5 g;have l1:af H 1 ab0 (.ak (p.cells.drop 0))=ab1 (.str p.field):=B8 p H;rw[j];simp only[aM,aJ,G,am,l1,fQ];exact al)) (ay.yG ht.ok).2.2 ?_
   rw[U];simp only[fH,Le h,G];refine UR ar M ht hk _ _ ?_;simp only[bL,acn,aco,G];rw[cG ah];simp only[G];rw[dH (cells:=bM.cells) (λ_=>rfl) (by decide) _ u];simp only[G,aM,bx,aQ];rw[bU _ _ _ 6 rfl rfl rfl];have b1:=At.new H (.row s.cells);have W:=h.push (.row s.cells);have c:=bj.push id H (.row s.cells);have an:H.n≠id:=adh h.hP;generalize H.push _=H1 at *;have ao:af H1 1 ab0 (.ptr H.n 0)=ab1 (D s.at_):=by rw[b1.load];rfl
   simp only[G,aJ,aar,ao,Lf W,bu];have ap:∀v:Int,bZ H1 1 (.ptr H.n 0) (D v)=ab1 (H1.set H.n (.row ({s with at_:=v}:bM).cells)):=λv=>by rw[b1.store,aa ⟨rfl,rfl,rfl,(by show 0+1<=6;decide)⟩];rfl
   rw[ap];simp only[G];have b2:=b1.set (.row ({s with at_:=B (s.at_+sp.at_)}:bM).cells);have a2:=W.bq an.symm (.row ({s with at_:=B (s.at_+sp.at_)}:bM).cells);have aq:bj id H (H1.set H.n (.row ({s with at_:=B (s.at_+sp.at_)}:bM).cells)):=⟨c.1,λi o hi ho=>(c.2 i o hi ho).bq (aap ho.1) _⟩
   generalize H1.set H.n (.row ({s with at_:=B (s.at_+sp.at_)}:bM).cells)=z at *;have au:af z 6 abZ (.ptr H.n 0)=ab1 (.agg ({s with at_:=B (s.at_+sp.at_)}:bM).cells):=by rw[b2.load];rfl
   simp only[au,G,Ld a2];rw[cG ac];simp only[G,eP];rw[show(I.ak (adE 1 (adE (n*9) (List.flatMap aL.cells t.aG)))) = .ak (((t.aG.flatMap aL.cells).drop (n*9)).drop 1)from rfl,CV z m];simp only[G];rw[UN a2];simp only[G];have a3:=a2.set (.row (fV t {s with at_:=B (s.at_+sp.at_)} ix));rw[Lg a3 f.type];simp only[G];exact L n f s _ (by rw[l];decide) l U m u k N (aq.trans ((bj.set id _ _).trans (bj.set id _ _))) (a3.set _)
end
variable{t:ay}{p:aO}{r:List aO}{sp:bM}{i:Int}{q idx:List Int}
def fy:List aO->Nat
 |[]=>0
 |p::r=>p.aV.length+fy r
theorem UT(h:(dm t p).1=0):p.aV.length<=1:=by
 unfold dm at h;by_cases c1:1<p.aV.length\/(p.aV.length=1↔p.field≠[])
 . rw[aa c1]at h;have:(8:Int)=0:=h;omega
 ·omega
theorem nA(h:(db t (p::r)).1=0):(dm t p).1=0/\(db (dm t p).2 r).1=0:=by
 rw[db]at h;by_cases c:(dm t p).1≠0
 ·rw[aa c]at h;exact absurd h c
 ·rw[ad c]at h;exact⟨by omega,h⟩
theorem sM:∀{r:List aO}{t:ay},(db t r).1=0->fy r<=r.length
 |[],_,_=>hT _
 | p::r,t,h=>by obtain⟨U,a⟩:=nA h;have:=UT U;have:=sM a;rw[fy,ac7];omega
theorem qj:∀(r:List aO)(n:Int),0<=n->n+fy r<=9223372036854775807->e6 r n=n+fy r
 |[],n,_,_=>by rw[e6,fy];simp
 | p::r,n,a,U=>by rw[fy]at U;have hw:B (n+(p.aV.length:Nat))=n+(p.aV.length:Nat):=bD;rw[e6,hw,qj r _ (by omega) (by omega),fy];omega
theorem CW(h:p.aV.length=1)(hi:i>=h6 t.bO):fk (p::r) t sp (i::q)=ab2:=by unfold fk;rw[aa h];dsimp only;rw[aa hi]
theorem CX{t e:ay}{a:List ay}(h:p.aV.length=1)(hi:¬i>=h6 t.bO)(b:t.bf=e::a):fk (p::r) t sp (i::q)=fk r e {sp with at_:=B (sp.at_+B (aaN .i64 i*(bT e).1.1)),len:=(bT e).1.1} q:=by
 conv=>lhs;unfold fk
 rw[aa h];dsimp only;rw[ad hi,b]
theorem CY{f:aL}{s sp:bM}{n:Nat}(h:p.aV.length≠1)(U:t.aG.findIdx? (λf=>f.name==p.field)=ab1 n)(a:t.aG[n]?=ab1 f)(b:(gx t)[n]?=ab1 s):fk (p::r) t sp idx=fk r f.type {s with at_:=B (s.at_+sp.at_)} idx:=by
 conv=>lhs;unfold fk
 rw[ad h,U];dsimp only;rw[a,b]
section
variable{C:Ctx}(ar:cY C)(M:Cl (ag C) S.cn)
include ar M
theorem UU{vars:List aA}(hl:vars.length<=1000000)(hv:∀v∈vars,v.ok){x:aR}(am:x.ok){ix:I}(aN:kd ix idx){H:O}{Q:ab}(aS:∀e H',O.Ext H H'->Q (.aH [.agg (ba vars x idx).cells,D e]) H'):ag C 165 [aD aA.cells vars,.agg x.cells,ix] H Q:=by
 obtain⟨bO,bS⟩:=aR.dq am;refine S.Sh M ?_;unfold S.f165;simp only[ae];simp only[mR,aM,bx,aQ];have aT:=O.Ext.push H (.row bN.cells);have r1:=At.new H (.row bN.cells);change ag C 16 [aD aA.cells vars] (H.push (.row bN.cells)) _;have bT:(H.push (.row bN.cells)).n=H.n+1:=rfl;generalize H.push _=H1 at *;have ret:∀(sp:bM)(e:Int)(c:O),O.Ext H c->At c H.n (.row bN.cells)->ba vars x idx=sp->Do (bZ c 6 (.ptr H.n 0) (.agg sp.cells)) λaU=>Do (af aU 6 abZ (.ptr H.n 0)) λy=>Q (.aH [y,D e]) aU:=by intro sp e c E u he;rw[u.put (n:=6) rfl rfl rfl];simp only[G];rw[(u.set _).all (n:=6) rfl];simp only[G];rw[he]at aS;exact aS e _ (E.set (hT _) _)
 have P:bI [J,J,J,av,J,J] []=ab1 (.agg bN.cells):=rfl;refine La ar M hl hv _ _ ?_;unfold mh;by_cases hm:(mapM vars).1≠0
 . rw[aa hm];simp only[bL,acn,aco,G,cJ,ai];rw[aa (by simpa using hm),P];simp only[G];exact ret bN _ H1 aT r1 (by unfold ba;rw[aa hm])
 rw[ad hm];obtain⟨bb,bc⟩:=K_ (show(mapM vars).1=0 by omega);simp only[bL,acn,aco,G,cJ,ai];rw[aI];simp only[yy,G];refine Ct ar M vars x (by rw[show maxLen=9223372036854775807 from by decide];omega) hv am _ _ ?_;rw[ss];simp only[bL,acn,aco,G,aM,bx,aQ];rw[bU _ _ _ 6 (nw _) (sr _) rfl];have b2:=At.new H1 (.row (eF (bQ vars x)));have u:=r1.push (.row (eF (bQ vars x)));have E:=aT.trans (O.Ext.push H1 (.row (eF (bQ vars x))));have bV:H1.n≠H.n:=by omega
 generalize H1.push _=c at *;simp only[G,cJ,ai];by_cases B:(bQ vars x).1≠0
 . rw[aa (by simpa using B),P];simp only[G];exact ret bN _ c E u (by unfold ba;rw[ad hm,aa B])
 rw[ad (by simpa using B)];have an:(bQ vars x).1=0:=by omega
 have ao:af c 1 ab0 (.ptr H1.n 0)=ab1 (D (bQ vars x).2.kind):=by rw[b2.load];unfold eF;rw[aa an,ay.bh];rfl
 simp only[aJ,aar,G,ao,cJ,bR,aw];have aV : ∀b:Bool,(b=abZ↔¬((bQ vars x).2.kind=1\/(bQ vars x).2.kind=2))->S.x0 (ag C) (aD aA.cells vars) ix (.ak x.cells) (.ptr H.n 0) (.aj .dead vars.length (fm vars (mapM vars).2.2)) (.ptr H1.n 0) Q [.bool b] c:=by
  intro b Z;simp only[ae,S.x0,aq,ai];apply aF<;>intro hk
  . rw[P];simp only[G];exact ret bN _ c E u (by unfold ba;rw[ad hm,ad B,aa (Z.1 hk)])
  have ap:¬¬((bQ vars x).2.kind=1\/(bQ vars x).2.kind=2):=λe=>hk (Z.2 e);have bd:eV ab0 ix=ab1 (D idx.length):=by obtain⟨tk,rfl⟩:=aN;rfl
  simp only[bd,yy,G];refine UH ar M am _ _ ?_;simp only[cJ,G,ai];apply aF<;>intro hc
  . rw[P];simp only[G];exact ret bN _ c E u (by unfold ba;rw[ad hm,ad B,ad ap,aa (by simpa using hc)])
  have aW:¬(idx.length:Int)≠e6 x.aE 0:=by simpa using hc
  have A:ba vars x idx=match vars.findIdx? (λv=>v.name==x.var)with
    |none=>bN
    | some n=>match vars[n]?,(mapM vars).2.2[n]? with
     | some v,ab1 g=>match fk x.aE v.type {bN with at_:=g.at_,len:=g.len} idx with
      |some sp=>{sp with kind:=(bQ vars x).2.kind}
      |none=>bN
     |_,_=>bN:=by
   unfold ba;first|(rw[ad hm,ad B,ad ap,ad aW];done)|(rw[ad hm,ad B,ad ap,ad aW];rfl)
  have d:(bQ vars x).1=0:=an;obtain ⟨n,v,aY,T,bW,bX,be⟩:∃n v,vars.findIdx? (λv=>v.name==x.var)=ab1 n/\vars[n]?=ab1 v/\vars.find? (λv=>v.name==x.var)=ab1 v/\dW v.type=0/\bQ vars x=db v.type x.aE:=by
   rcases mN (λv:aA=>v.name==x.var) vars with⟨i,v,U,l,bf⟩|⟨U,l⟩
   . refine ⟨i,v,U,bf,l,?_,?_⟩
     . unfold bQ at d;rw[l]at d;dsimp only at d;by_cases hs:dW v.type≠0
       ·rw[aa hs]at d;exact absurd d hs
       ·omega
     . unfold bQ;unfold bQ at d;rw[l]at d ⊢;dsimp only at d ⊢;by_cases hs:dW v.type≠0
       ·rw[aa hs]at d;exact absurd d hs
       ·rw[ad hs]
   . unfold bQ at d;rw[l]at d;have:(6:Int)=0:=d;omega
  have aZ:=(ZF.1 T).1;have a0:=acK T;have bg:n<(mapM vars).2.2.length:=by rw[bb];exact aZ
  obtain⟨g,a1⟩:∃g,(mapM vars).2.2[n]?=ab1 g:=⟨_,aav bg⟩
  rw[aY]at A;dsimp only at A;rw[T,a1]at A;dsimp only at A;have bi:v.type.lay:=oK (by have:=hv v a0;cases v;exact this.2) (bc v a0);rw[be]at d;have bk:idx.length=fy x.aE:=by have U:=sM d;have l:=qj x.aE 0 (ada _) (by omega);omega
  simp only[ae,aw,S.Ji];refine S.BR M ?_;refine Cb (p:=λv=>v.name==x.var) (λw _ R bl=>S.Sq M (by
    unfold S.f185;simp only[ae];have Z:cg c ab0 7 (.agg w.cells)=ab1 (.ak w.cells,c):=by unfold cg;rw[aa ⟨rfl,w.len⟩];rfl
    have ao:af c 1 ab0 (.ak (w.cells.drop 0))=ab1 (.str w.name):=sd w;have l1:af c 1 ab0 (.ak (x.cells.drop 0))=ab1 (.str x.var):=sB x c;rw[Z];simp only[aM,aJ,G,ao,l1,fQ];exact bl)) (by omega) ?_
  rw[aY];simp only[fH];rw[cG aZ];simp only[G,eP,aJ];rw[B_ v c T];have bm:aP ab2 3 (.aj .dead vars.length (fm vars (mapM vars).2.2)) (D n)=ab1 (.ak ((fm vars (mapM vars).2.2).drop (n*3))):=by show(if 0<=(n:Int)/\(n:Int)<(vars.length:Nat)then ab1 (I.ak ((fm vars (mapM vars).2.2).drop ((n:Int).toNat*3)))else ab2)=_;rw[aa ⟨by omega,by omega⟩,adF]
  have bn:∀(a:List aA)(s:List bM)(n:Nat)(v:aA)(g:bM),a[n]?=ab1 v->s[n]?=ab1 g->∃V,(fm a s).drop (n*3) = .str v.name :: D g.at_ :: D g.len::V:=by
   intro a;induction a with
   |nil=>intro s n v g h;simp at h
   | cons y a ac=>
    intro s n v g U l;cases s with
    |nil=>simp at l
    | cons z s=>
     cases n with
     | zero=>simp at U l;subst U;subst l;exact⟨fm a s,rfl⟩
     | succ n=>obtain⟨V,e⟩:=ac s n v g (by simpa using U) (by simpa using l);refine⟨V,?_⟩;rw[fm,show(n+1)*3=n*3+3 by omega];exact e
  obtain⟨V,bo⟩:=bn vars (mapM vars).2.2 n v g T a1;simp only[G,bm,bo,acg,acy];have bp:af c 2 abZ (.ak (D g.at_ :: D g.len::V))=ab1 (.agg [D g.at_,D g.len]):=by show bY _ 0 2 abZ=_;exact l0 (a:=[D g.at_,D g.len]) rfl
  simp only[bp,G];refine⟨.agg ({bN with at_:=g.at_,len:=g.len}:bM).cells,rfl,?_⟩;dsimp only;obtain⟨tk,a2⟩:=aN;have bs:bI [J,J,av,Y,J,Y,J,J,J,av,J,J,Y] [(0,6,.agg v.type.cells),(6,6,.agg ({bN with at_:=g.at_,len:=g.len}:bM).cells),(12,1,ix)]=ab1 (.agg (fV v.type {bN with at_:=g.at_,len:=g.len} ix)):=by rw[g_,ay.bh,a2];rfl
  rw[bs];simp only[G];have bt:cg c abZ 13 (.agg (fV v.type {bN with at_:=g.at_,len:=g.len} ix))=ab1 (.ptr c.n 0,c.push (.row (fV v.type {bN with at_:=g.at_,len:=g.len} ix))):=by unfold cg;rw[aa ⟨rfl,by rw[g_];rfl⟩];rfl
  rw[bt,aM];simp only[iD,i6,G,bP];have a3:=At.new c (.row (fV v.type {bN with at_:=g.at_,len:=g.len} ix));have bv:=u.push (.row (fV v.type {bN with at_:=g.at_,len:=g.len} ix));have b3:=b2.push (.row (fV v.type {bN with at_:=g.at_,len:=g.len} ix));have bw:=E.trans (O.Ext.push c (.row (fV v.type {bN with at_:=g.at_,len:=g.len} ix)));have b0:H.n<c.n/\H1.n<c.n:=⟨u.1,b2.1⟩
  have F:H.n≠c.n/\H1.n≠c.n:=⟨by omega,by omega⟩
  have cv:∀{j ah:O},O.Ext H j->bj c.n j ah->O.Ext H ah:=λ{j ah} e k=>⟨h1 e.1 k.1,λi hi=>((k.2 i (j.o i) (by omega) ⟨Nat.lt_of_lt_of_le hi e.1,rfl⟩).2).trans (e.2 i hi)⟩
  have main:∀(r:List aO)(i:Nat)(t:ay)(sp:bM)(K:I)(L:List Int)(j:O),x.aE.drop i=r->t.lay->(db t r).1=0->kd K L->L.length=fy r->O.Ext H j->At j c.n (.row (fV t sp K))->At j H.n (.row bN.cells)->At j H1.n (.row (eF (bQ vars x))) ->
    fk r t sp L=fk x.aE v.type {bN with at_:=g.at_,len:=g.len} idx ->
    au (S.xZ (ag C) (.ptr H.n 0) (.ptr H1.n 0) (.ptr c.n 0) (aD aO.cells x.aE) (D x.aE.length) Q) ([D i],j):=by
   intro r;induction r with
   | nil=>
    intro i t sp K L j ax ht a4 hi c8 az a5 aB aC hw;have hle:=dx ax;refine au.step ?_;simp only[ae,S.xZ,aq,aX,G,ai,aw,S.Jh];rw[dg];have bz:af j 1 ab0 (.ptr H1.n 0)=ab1 (D (bQ vars x).2.kind):=by rw[aC.load];unfold eF;rw[aa an,ay.bh];rfl
    simp only[br,aJ,aar,bz,G];rw[UQ a5];simp only[G];have a6:=a5.set (.row (fV t {sp with kind:=(bQ vars x).2.kind} K));rw[UL a6];simp only[G];rw[fk]at hw;rw[<-hw]at A;exact ret _ _ _ (cv az (bj.set _ _ _)) (aB.bq F.1 _) A
   | cons p r ac=>
    intro i t sp K L j ax ht a4 hi c8 az a5 aB aC hw;obtain⟨bA,bB,a8⟩:=di ax;obtain⟨bC,al⟩:=nA a4;rw[fy]at c8;refine au.step ?_;simp only[ae,S.xZ,aq,aX,G,ai];rw[cp,cG bA];simp only[G];rw[dH aO.len (by decide) _ bB];simp only[G,aM,bx,aQ];rw[bU _ _ _ 2 p.len p.scalar rfl];have bE:=At.new j (.row p.cells);have a6:=a5.push (.row p.cells);have aG:=aB.push (.row p.cells);have a9:=aC.push (.row p.cells);have aK:=az.trans (O.Ext.push j (.row p.cells));simp only[G];rw[bE.load,eK p.len];simp only[G];generalize j.push _=ah at *;have a_:aaN .i64 ((i:Int)+1)=((i+1:Nat):Int):=by rw[bD];simp
    refine US ar M a6 ht hi bC (by omega) (λbF q e bG W c1 N c3 X m=>?_) (λbF q e bG bH W c1 N c3 X c5 aL bJ m a7=>?_) (λb1 f s W bK c1 N c3 X c5 aL m a7=>?_)
    . simp only[c_,G,ai,Bool.not_false,aQ,P];refine ret bN _ W (cv aK m) (m.2 _ _ F.1 aG) ?_;rw[N,CW c1 X]at hw;rw[<-hw]at A;exact A
    . simp only[c_,G,ai,ac1,abe,cc,bu,a_];refine ac (i+1) e _ bH q W a8 bJ ?_ aL ?_ (cv aK m) a7 (m.2 _ _ F.1 aG) (m.2 _ _ F.2 a9) ?_
      ·rw[c5]at al;exact al
      ·rw[N,ac7]at c8;omega
      . rw[N,CX c1 X c3]at hw;exact hw
    . simp only[c_,G,ai,ac1,abe,cc,bu,a_];refine ac (i+1) f.type _ K L W a8 aL ?_ hi ?_ (cv aK m) a7 (m.2 _ _ F.1 aG) (m.2 _ _ F.2 a9) ?_
      ·rw[c5]at al;exact al
      ·rw[c1,ac8]at c8;omega
      . rw[CY bK N c3 X]at hw;exact hw
  exact main x.aE 0 v.type _ ix idx _ rfl bi d ⟨tk,a2⟩ bk bw a3 bv b3 rfl
 apply aF<;>intro U
 . refine aV _ ?_;simp only[bne_iff_ne,ne_eq]at U ⊢;omega
 . refine aV ab0 ⟨λe=>(by cases e),λe=>?_⟩;simp only[bne_iff_ne,ne_eq]at U;omega
end
end Rb
namespace Rb
open Go
variable{cs:List I}{l:List UInt8×Int}{name:List UInt8}{i k m:Nat}
theorem Lh:∀(L:List (List UInt8×Int)) (k:Nat) (l:List UInt8×Int),L[k]?=ab1 l->(L.flatMap gY)[k*2]?=ab1 (.str l.1)/\(L.flatMap gY)[k*2+1]?=ab1 (T l.2)
 |[],k,l,h=>by simp at h
 | x::r,0,l,h=>by simp at h;subst h;exact⟨rfl,rfl⟩
 | x::r,k+1,l,h=>by have:=Lh r k l (by simpa using h);rw[show(k+1)*2=k*2+2 by omega];exact this
theorem CZ:∀(L:List (List UInt8×Int)) (k:Nat) (l:List UInt8×Int) (v:Int),L[k]?=ab1 l->(L.flatMap gY).set (k*2+1) (T v)=(L.set k (l.1,v)).flatMap gY
 |[],k,l,v,h=>by simp at h
 | x::r,0,l,v,h=>by simp at h;subst h;rfl
 | x::r,k+1,l,v,h=>by have:=CZ r k l v (by simpa using h);rw[show(k+1)*2+1=k*2+1+1+1 by omega,List.set_cons_succ,ach,ach,<-this];rfl
theorem Li{L:List (List UInt8×Int)}(h:cs.take (L.length*2)=L.flatMap gY)(hk:L[k]?=ab1 l):cs[k*2]?=ab1 (.str l.1)/\cs[k*2+1]?=ab1 (T l.2):=by have a:=(ZF.1 hk).1;have:=Lh L k l hk;rw[<-h,ZH,ZH,cX,cX]at this;exact this
theorem UW{L:List (List UInt8×Int)}(h:cs.take (L.length*2)=L.flatMap gY)(c:cs.length=m*2)(hl:L.length<=m)(hk:L[k]?=ab1 l):bY cs (0+k*2) 2 abZ=ab1 (.agg (gY l)):=by
 have d:=(ZF.1 hk).1;obtain⟨U,b⟩:=Li h hk;unfold bY;rw[cX,aa rfl,aar];have e:(cs.drop (k*2)).take 2=gY l:=by
  apply adG;intro j;rw[ZH];by_cases a:j<2
  . rw[aa a,List.getElem?_drop];have:j=0\/j=1:=by omega
    rcases this with rfl|rfl
    ·exact U
    ·exact b
  . rw[ad a,abz (by show(gY l).length<=j;simp[gY];omega)]
 rw[e]
section
variable{C:Ctx}(ar:cY C)(M:Cl (ag C) S.cn)
include ar M
variable{vars:List aA}{s:RS}{lx F:I}{H:O}{id:Nat}{Q:ab}
theorem yH(h:At H id (.row (dN vars s lx F)))(o:jD H id s.aN lx)(O:s.aN.length<=1000000)(hi:s.aN.findIdx? (λl=>l.1==name)=ab1 i)(p:∀j cs m,lx = .row j 0 s.aN.length 2->j≠id->At H j (.row cs)->cs.length=m*2->s.aN.length<=m->cs.take (s.aN.length*2)=s.aN.flatMap gY->Q (.ptr j (i*2+1)) H) :
  ag C 137 [.ptr id 0,.str name] H Q:=by
 obtain⟨a,P,_⟩:=List.findIdx?_eq_some_iff_getElem.1 hi;rcases o with⟨rfl,he⟩|⟨j,cs,m,rfl,q,b,c,d,f⟩
 ·rw[he]at a;simp at a
 refine S.R2 M ?_;unfold S.f137;simp only[ae];have t:cg H ab0 1 (.str name)=ab1 (.ak [.str name],H):=rfl;simp only[t,aM,br,aJ,aar,sJ h,G];refine S.Si M ?_;unfold S.f166;simp only[ae];simp only[r8,G];have u:aP ab2 2 (.row j 0 s.aN.length 2) (D i)=ab1 (.ptr j (0+i*2)):=by show(if 0<=(i:Int)/\(i:Int)<(s.aN.length:Nat)then ab1 (I.ptr j (0+(i:Int).toNat*2))else ab2)=_;rw[aa ⟨by omega,by omega⟩,adF]
 have v:=p j cs m rfl q b c d f;have main:∀(r:List (List UInt8×Int)) (k:Nat),s.aN.drop k=r->(r.findIdx? (λl=>l.1==name)).map (·+ k)=ab1 i ->
   au (S.BO (ag C) (.row j 0 s.aN.length 2) (.fn 167 [.ak [.str name]]) (D s.aN.length) (λw g=>Do (af g 1 ab0 (.ptr id 2)) λx=>Do (aP ab2 2 x w) λy=>Do (aJ 1 y) λA=>Q A g)) ([D k],H):=by
  intro r;induction r with
  |nil=>intro k n he;simp at he
  | cons l r B=>
   intro k n he;obtain⟨hk,E,J⟩:=di n;refine au.step ?_;simp only[ae,S.BO,aq,aX,G,ai];rw[cp];have K:aP ab2 2 (.row j 0 s.aN.length 2) (D k)=ab1 (.ptr j (0+k*2)):=by show(if 0<=(k:Int)/\(k:Int)<(s.aN.length:Nat)then ab1 (I.ptr j (0+(k:Int).toNat*2))else ab2)=_;rw[aa ⟨by omega,by omega⟩,adF]
   simp only[K,G,b.load,UW f c d E];refine⟨167,[.ak [.str name]],rfl,?_⟩;rw[zF rfl,zG rfl];show ag C 167 [.agg (gY l),.ak [.str name]] H _;refine S.Sj M ?_;unfold S.f167;simp only[ae];have L:cg H ab0 2 (.agg (gY l))=ab1 (.ak (gY l),H):=by unfold cg;rw[aa ⟨rfl,rfl⟩];rfl
   have N:af H 1 ab0 (.ak (adE 0 (gY l)))=ab1 (.str l.1):=rfl;have l1:af H 1 ab0 (.ak [.str name])=ab1 (.str name):=rfl;simp only[L,aM,aJ,G,N,l1,fQ,ai];rw[acL]at he;apply aF<;>intro e
   . rw[aa e]at he;have:k=i:=by simpa using he
     subst this;simp only[sJ h,G,u,aJ];rw[aar];exact v
   . rw[ad e]at he;simp only[bu,G];rw[bD,show(k:Int)+1=((k+1:Nat):Int) by simp];refine B (k+1) J ?_;rw[<-he,ade];congr 1;funext z;simp only[adf];omega
 exact main s.aN 0 rfl (by rw[hi];simp)
end
theorem yI{s:RS}(hi:s.aN.findIdx? (λl=>l.1==name)=ab1 i):∃l,s.aN[i]?=ab1 l/\l.1=name/\s.get name=l.2/\∀v,s.put name v={s with aN:=s.aN.set i (l.1,v)}:=by
 rcases mN (λl:List UInt8×Int=>l.1==name) s.aN with⟨j,l,U,a,b⟩|⟨U,a⟩
 . rw [hi]at U;cases U;have hn:l.1=name:=by
    have:=List.find?_some a;simpa using this
   refine⟨l,b,hn,by unfold RS.get;rw[a],λv=>?_⟩;unfold RS.put;rw[hi,hn]
 ·rw[hi]at U;cases U
theorem sN{L:List (List UInt8×Int)}(h:name∈L.map (·.1)):∃i,L.findIdx? (λl=>l.1==name)=ab1 i:=by
 rcases mN (λl:List UInt8×Int=>l.1==name) L with⟨j,l,U,a,b⟩|⟨U,a⟩
 ·exact⟨j,U⟩
 . rw[List.find?_eq_none]at a;obtain⟨l,hl,rfl⟩:=abW.1 h;exact absurd (by simp) (a l hl)
theorem jD.put{H:O}{id j m i:Nat}{L:List (List UInt8×Int)}(b:j≠id)(a:At H j (.row cs))(c:cs.length=m*2)(d:L.length<=m)(e:cs.take (L.length*2)=L.flatMap gY)(hi:L[i]?=ab1 l)(v:Int) :
  bZ H 1 (.ptr j (i*2+1)) (T v)=ab1 (H.set j (.row (cs.set (i*2+1) (T v))))/\jD (H.set j (.row (cs.set (i*2+1) (T v)))) id (L.set i (l.1,v)) (.row j 0 L.length 2):=by
 have f:=(ZF.1 hi).1;refine⟨?_,.inr ⟨j,_,m,by simp,b,a.set _,by simpa using c,by simpa using d,?_⟩⟩
 ·rw[a.store,aa ⟨rfl,rfl,rfl,by omega⟩];rfl
 ·rw[abF,List.take_set,e,CZ L i l v hi]
theorem jD.app{H:O}{id:Nat}{L:List (List UInt8×Int)}{x:I}(h:jD H id L x)(z:id<H.n)(hl:L.length<=1000000)(name:List UInt8)(v:Int){K:ab}
  (f:∀a H',H.n<=H'.n->(∀j o,j<=id->(∀c d e,x ≠ .row j c d e)->At H j o->At H' j o)->jD H' id (L++[(name,v)]) a->(∀c d e,a ≠ .row id c d e)->a.known=abZ->a.cells=[a]->a.scalar=abZ->(∀j c d e,a = .row j c d e->(∃c' u w,x = .row j c' u w)\/H.n<=j)->(∀j o,(∀cs,o ≠ .row cs)->At H j o->At H' j o)->K a H') :
  bJ (cI H abZ 2 24 x (.aj .full 1 [.str name,T v])) K:=by
 have l:fh H 2 (.aj .full 1 [.str name,T v])=ab1 (1,[.str name,T v]):=rfl;rcases h with⟨rfl,rfl⟩|⟨j,cs,m,rfl,p,b,y,A,g⟩
 . refine⟨.row H.n 0 1 2,H.push (.row [.str name,T v]),rfl,?_⟩;refine f _ _ (aal _) (λj o _ _ h=>h.push _) (.inr ⟨H.n,_,1,rfl,by omega,At.new H _,rfl,hT _,rfl⟩) (λc d e h=>?_) rfl rfl rfl (λj c d e h=>?_) (λj o _ h=>h.push _)
   ·simp only[I.row.injEq]at h;omega
   ·simp only[I.row.injEq]at h;right;omega
 . by_cases hc : L.length+1<=m
   . refine ⟨.row j 0 (L.length+1) 2,H.set j (.row (setCells cs (L.length*2) [.str name,T v])),?_,?_⟩
     . simp only[cI,l,b.2];simp only[ab4,adj,I.scalar,adk,not_true_eq_false,cc];rw[aI,ad (by simp only[ac3];exact⟨trivial,trivial,by omega,by omega⟩),cX]
     . refine f _ _ (hT _) (λq o _ hn h=>h.bq (λe=>hn 0 L.length 2 (by rw[e])) _) (.inr ⟨j,_,m,by simp,p,b.set _,?_,by simpa using hc,?_⟩) (λc d e h=>?_) rfl rfl rfl (λq c d e h=>?_) (λq o ho h=>h.bq (λe=>by subst e;exact ho cs (h.2.symm.trans b.2)) _)
       . show((cs.set (L.length*2) (.str name)).set (L.length*2+1) (T v)).length=_;simpa using y
       . rw [acG,adi];show((cs.set (L.length*2) (.str name)).set (L.length*2+1) (T v)).take ((L.length+1)*2)=_;have e1 : ((cs.set (L.length*2) (I.str name)).set (L.length*2+1) (T v)).take ((L.length+1)*2)=cs.take (L.length*2)++[.str name,T v]:=by
          apply adG;intro q;rw[ZH];have i:(cs.take (L.length*2)).length=L.length*2:=by rw[ac2];omega
          by_cases r:q<(L.length+1)*2
          . rw [aa r,Z7,Z7];by_cases s:L.length*2+1=q
            . subst s;rw[aa rfl,nX,acq (by omega),i,show L.length*2+1-L.length*2=1 by omega];rfl
            . rw [ad s];by_cases t:L.length*2=q
              . subst t;rw[aa rfl,cX,acq (by omega),i,Nat.sub_self];rfl
              ·rw[ad t,List.getElem?_append_left (by omega),ZH,cX]
          ·rw[ad r,abz (by simp[i];omega)]
         rw[e1,g,adH];rfl
       ·simp only[I.row.injEq]at h;exact p h.1
       ·simp only[I.row.injEq]at h;exact .inl ⟨0,L.length,2,by rw[h.1]⟩
   . have k:cs.length=L.length*2:=by omega
     refine⟨.row H.n 0 (L.length+1) 2,(H.set j .gone).push (.row (cs++[.str name,T v])),?_,?_⟩
     . simp only[cI,l,b.2];simp only[ab4,adj,I.scalar,adk,not_true_eq_false,cc];rw[aI,ad (by simp only[ac3];exact⟨trivial,trivial,by omega,by omega⟩),bg,cX]
     . refine f _ _ (aal _) (λq o _ hn h=>(h.bq (λe=>hn 0 L.length 2 (by rw[e])) _).push _) (.inr ⟨H.n,_,L.length+1,by simp,by omega,At.new (H.set j .gone) _,by simp[k];omega,by simp,?_⟩) (λc d e h=>?_) rfl rfl rfl (λq c d e h=>?_) (λq o ho h=>(h.bq (λe=>by subst e;exact ho cs (h.2.symm.trans b.2)) _).push _)
       . rw[acG,adi,acJ (by simp[k];omega)];rw[<-k,acz]at g;rw[g,adH];rfl
       ·simp only[I.row.injEq]at h;omega
       ·simp only[I.row.injEq]at h;right;omega
end Rb
namespace Rb
open Go
variable{H H0 H':O}{s:RS}{lx F:I}{k:Nat}
section
variable{α:Type}{cells:α->List I}{sz:Nat}(hc:∀x,(cells x).length=sz)
include hc
theorem yJ:∀xs:List α,(xs.flatMap cells).length=xs.length*sz
 |[]=>by simp
 |x::r=>by rw[ach,acG,hc,yJ r,ac7,aae];omega
theorem yK:∀(xs:List α)(k:Nat),(xs.flatMap cells).take (k*sz)=(xs.take k).flatMap cells
 |[],k=>by simp
 |x::r,0=>by simp
 | x::r,k+1=>by rw[ach,List.take_succ_cons,ach,show(k+1)*sz=(cells x).length+k*sz by rw[hc,aae];omega,List.take_length_add_append,yK r k]
theorem mU:∀(xs:List α)(k:Nat),(xs.flatMap cells).drop (k*sz)=(xs.drop k).flatMap cells
 |[],k=>by simp
 |x::r,0=>by simp
 | x::r,k+1=>by rw[ach,acg,show(k+1)*sz=(cells x).length+k*sz by rw[hc,aae];omega,adD,mU r k]
theorem C0(xs:List α)(hk:k<=xs.length):cC sz (aD cells xs) ab2 (ab1 (D k)) ab2=ab1 (aD cells (xs.take k)):=by
 show cC sz (.aj .dead xs.length (xs.flatMap cells)) ab2 (ab1 (D k)) ab2=ab1 (.aj .dead (xs.take k).length ((xs.take k).flatMap cells));simp only[cC,eo,adm];rw[cX];simp only[adF];rw[aa ⟨aad _,hk,yJ hc xs⟩];by_cases e:k=xs.length
 . subst e;rw[aa ⟨trivial,rfl⟩,acz]
 ·rw[ad (λh=>e h.2),Nat.zero_mul,acy,yK hc,aa trivial,Nat.sub_zero,ac2,adn hk]
theorem Lj{xs:List α}{x:α}(a:xs[k]?=ab1 x):cC sz (aD cells xs) (ab1 (D k)) (ab1 (D ((k+1:Nat):Int))) ab2=ab1 (aD cells [x]):=by
 have b:=(ZF.1 a).1;show cC sz (.aj .dead xs.length (xs.flatMap cells)) (ab1 (D k)) (ab1 (D ((k+1:Nat):Int))) ab2=ab1 (.aj .dead 1 ([x].flatMap cells));simp only[cC,eo,adm];rw[cX,cX];simp only[adF];rw[aa ⟨by omega,by omega,yJ hc xs⟩];by_cases e:k=0/\k+1=xs.length
 . rw [aa e];have:xs=[x]:=by
    rw[e.1]at a;cases xs with
    |nil=>simp at a
    | cons y r=>simp at a;have:r=[]:=aaY.1 (by have:=e.2;simp at this;omega);rw[a,this]
   rw[this];rfl
 . rw [ad e];have U:((xs.flatMap cells).take ((k+1)*sz)).drop (k*sz)=[x].flatMap cells:=by
    rw[yK hc,mU hc,acQ,a];simp[List.drop_append,ac2,adn (adv b)]
   rw[U,show k+1-k=1 by omega];split<;>rfl
end
theorem bj.left{id:Nat}(h:bj id H0 H)(k:Left H0.n H H'):bj id H0 H':=⟨h1 h.1 k.1,λj o a ho=>k.2 j o (h.2 j o a ho) (.inl ho.1)⟩
theorem bj.oM{id i:Nat}(h:bj id H0 H)(hi:H0.n<=i)(x:c0):bj id H0 (H.set i x):=⟨h.1,λj o a ho=>(h.2 j o a ho).bq (by have:=ho.1;omega) x⟩
theorem bj.qk{id:Nat}(h:bj id H0 H)(x:c0):bj id H0 (H.push x):=h.trans (bj.push id H x)
mutual
def oN(L:List (List UInt8)):N->Prop
 | .mk kind n name op aB place aY=>(kind=2->name∈L)/\(kind=3->aY.length=2)/\aY.length<=2/\(kind≠1/\kind≠2/\kind≠3->mi L place)/\iF L aY
def iF(L:List (List UInt8)):List N->Prop
 |[]=>True
 |e::r=>oN L e/\iF L r
def mi(L:List (List UInt8)):aR->Prop
 | .mk var aE=>oO L aE
def oO(L:List (List UInt8)):List aO->Prop
 |[]=>True
 |p::r=>sO L p/\oO L r
def sO(L:List (List UInt8)):aO->Prop
 | .mk field aV=>iF L aV
end
theorem UX(L:List (List UInt8))(e:N):oN L e↔(e.kind=2->e.name∈L)/\(e.kind=3->e.aY.length=2)/\e.aY.length<=2/\(e.kind≠1/\e.kind≠2/\e.kind≠3->mi L e.place)/\iF L e.aY:=by cases e;rw[oN]
theorem sP(L:List (List UInt8)):∀{l:List N},iF L l↔∀e∈l,oN L e
 |[]=>by simp[iF]
 |e::r=>by simp[iF,sP L (l:=r)]
theorem Lk(L:List (List UInt8)):∀{l:List aO},oO L l↔∀p∈l,iF L p.aV
 |[]=>by simp[oO]
 | p::r=>by
  have:sO L p↔iF L p.aV:=by cases p;rw[sO]
  simp[oO,this,Lk L (l:=r)]
theorem Ll(L:List (List UInt8))(x:aR):mi L x↔∀p∈x.aE,iF L p.aV:=by cases x;rw[mi,Lk]
theorem h9(a b:Int):B (a+B b)=B (a+b):=by
 unfold B aaN;simp only[ZS,ZT,ac9,du,show((2:Int)^64)=18446744073709551616 from rfl,show((2:Int)^(64-1))=9223372036854775808 from rfl]
 repeat' split
 all_goals omega
structure gy(H:O)(id:Nat)(vars:List aA)(L:List (List UInt8))(s:RS)(lx F:I):Prop where
 row:At H id (.row (dN vars s lx F))
 loc:jD H id s.aN lx
 ok:s.ok
 len:s.aN.length<=1000000
 nm:s.stop=ab0->s.aN.map (·.1)=L
 fl:s.stop=ab0->0<=s.fuel/\s.fuel+s.aN.length<=1000000/\s.fuel+s.pr.length<=1000000
 pl:s.pr.length<=1000000
theorem gy.cv{id:Nat}{vars:List aA}{L:List (List UInt8)}(h:gy H id vars L s lx F)(k:bj id H H')(a:At H' id (.row (dN vars s lx F))):gy H' id vars L s lx F:=⟨a,h.loc.cv k,h.ok,h.len,h.nm,h.fl,h.pl⟩
theorem gy.next{id:Nat}{vars:List aA}{L:List (List UInt8)}{s A:RS}(h:gy H id vars L s lx F)(k:bj id H H')(a:At H' id (.row (dN vars A lx F)))(hk:Kp s A)(ho:A.ok):gy H' id vars L A lx F:=
 ⟨a,by rw[hk.aN];exact h.loc.cv k,ho,by rw[hk.aN];exact h.len,λe=>by rw[hk.aN];exact h.nm (hk.stop e),λe=>by have U:=h.fl (hk.stop e);have b:=hk.fu U.1 (by omega) e;rw[hk.aN,hk.pr];exact⟨b.1,by omega,by omega⟩,by rw[hk.pr];exact h.pl⟩
def jR(C:Ctx)(id:Nat)(vars:List aA)(L:List (List UInt8))(e:N):Prop:=∀(a:Int)(s:RS)(lx F:I)(H:O)(Q:ab),gy H id vars L s lx F->(∀H',bj id H H'->gy H' id vars L (cA vars e a s).1 lx F->Q (T (cA vars e a s).2) H')->ag C 138 [.ptr id 0,.agg e.cells,D a] H Q
section
variable{C:Ctx}(ar:cY C)(M:Cl (ag C) S.cn){id:Nat}{vars:List aA}{L:List (List UInt8)}
include ar M
theorem Lm{l:List N}(hl:l.length<=2)(R:∀e∈l,e.ok)(U:∀e∈l,jR C id vars L e){a:Int}{Q:ab}(h:gy H id vars L s lx F)
  (V:∀H',bj id H H'->gy H' id vars L (cr vars l a s).1 lx F->Q (.agg [T ((cr vars l a s).2.getD 0 0),T ((cr vars l a s).2.getD 1 0)]) H'):ag C 163 [.ptr id 0,aD N.cells l,D a] H Q:=by
 refine S.Sf M ?_;unfold S.f163;simp only[ae];simp only[bx,aQ,aM];have X:=h.row.1;have Y:=bj.push id H (.row [T 0,T 0]);have r1:=At.new H (.row [T 0,T 0]);have W:=h.row.push (.row [T 0,T 0]);have aC:(H.push (.row [T 0,T 0])).n=H.n+1:=rfl;generalize H.push _=H1 at *;have Z:=Y.qk (.row [T 0,T 0]);have ac:=r1.push (.row [T 0,T 0]);have ad:=At.new H1 (.row [T 0,T 0]);have a2:=W.push (.row [T 0,T 0]);generalize H1.push _=af at *;have ah:H.n≠H1.n:=by omega
 simp only[bP,G];have main:∀(r:List N)(k:Nat)(pre:List Int)(b:Int)(A:RS)(c o1:Int)(d:O),l.drop k=r->pre.length=k->bj id H d->At d id (.row (dN vars A lx F))->Kp s A->A.ok->At d H.n (.row [T 0,T 0])->At d H1.n (.row [T c,T o1]) ->
   (cr vars r b A).1=(cr vars l a s).1->(cr vars l a s).2=pre++(cr vars r b A).2->c=pre.getD 0 0->o1=pre.getD 1 0 ->
   au (S.xY (ag C) (.ptr id 0) (aD N.cells l) (.ptr H.n 0) (.ptr H1.n 0) (D l.length) Q) ([D b,D k],d):=by
  intro r;induction r with
  | nil=>
   intro k pre b A c o1 d p m q t hk ho o u he hv z0 v;have hle:=dx p;refine au.step ?_;simp only[ae,S.xY,aq,bp,aX,G,ai,aw,S.Je];rw[dg,u.load,show bY [T c,T o1] 0 2 abZ=ab1 (.agg [T c,T o1])from rfl];simp only[G];rw[o.store,aa ⟨rfl,rfl,rfl,(by decide:0+2<=2)⟩];simp only[G];rw[(o.set _).load,show bY (setCells [T 0,T 0] 0 (I.agg [T c,T o1]).cells) 0 2 abZ=ab1 (.agg [T c,T o1])from rfl];simp only[G];have w:A=(cr vars l a s).1:=by rw[cr]at he;exact he
   rw[cr,List.append_nil]at hv;have f:bj id H (d.set H.n (.row (setCells [T 0,T 0] 0 (I.agg [T c,T o1]).cells))):=q.oM (hT _) _;have:=V _ f (by rw[<-w];exact h.next f (t.bq (aap X) _) hk ho)
   rw[hv,<-z0,<-v]at this;exact this
  | cons e r aj=>
   intro k pre b A c o1 d p m q t hk ho o u he hv z0 v;obtain⟨ak,y,al⟩:=di p;have E:=acK y;refine au.step ?_;simp only[ae,S.xY,aq,bp,aX,G,ai];rw[cp,cG ak];simp only[G];rw[dH N.len (by decide) _ y];simp only[G,aM,bx,aQ];rw[bU _ _ _ 8 e.len e.scalar rfl];simp only[G];rw[KH (At.new d (.row e.cells))];simp only[G];have f:=q.qk (.row e.cells);have am:=t.push (.row e.cells);have an:=o.push (.row e.cells);have ao:=u.push (.row e.cells);generalize d.push _=ap at *;refine U e E b A lx F ap _ (h.next f am hk ho) λJ z K=>?_;have av:=z.2 _ _ (by omega) an;have B:=z.2 _ _ (by omega) ao;have P:k=0\/k=1:=by omega
   have ax:aP (ab1 2) 1 (.ptr H1.n 0) (D k)=ab1 (.ptr H1.n k):=by rcases P with rfl|rfl<;>rfl
   obtain ⟨g,j,ay,az,aA⟩:∃g j,bZ J 1 (.ptr H1.n k) (T (cA vars e b A).2)=ab1 (J.set H1.n (.row [T g,T j]))/\g=(pre++[(cA vars e b A).2]).getD 0 0/\j=(pre++[(cA vars e b A).2]).getD 1 0:=by
    rcases P with rfl|rfl
    . have:pre=[]:=aaY.1 m;subst this;exact⟨_,o1,by rw[B.store,aa ⟨rfl,rfl,rfl,(by decide:0+1<=2)⟩];rfl,rfl,v⟩
    . match pre,m with
      |[x],_=>exact⟨c,_,by rw[B.store,aa ⟨rfl,rfl,rfl,(by decide:1+1<=2)⟩];rfl,z0,rfl⟩
   have hw:aaN .i64 ((k:Int)+1)=((k+1:Nat):Int):=by rw[bD];simp
   simp only[ax,G,ay,bu,hw,Lj N.len y];have aB:=(f.trans z).oM (i:=H1.n) (by omega) (.row [T g,T j]);refine nz ar M (l:=[e]) (by simp) (λaE w=>by rw[adB.1 w];exact R e E) _ _ ?_;simp only[bu,G,hw];rw[cr]at he hv;rw[show b9 [e] 0=gQ e 0 by rw[b9,b9]];refine aj (k+1) (pre++[(cA vars e b A).2]) _ _ g j _ al (by simp[m]) aB (K.row.bq (by omega) _) (hk.trans (jQ vars e b A)) K.ok (av.bq ah _) (B.set _) he ?_ az aA;rw[hv];simp
 exact main l 0 [] a s 0 0 af rfl rfl Z a2 (Kp.refl s) h.ok ac ad rfl rfl rfl rfl
end
end Rb
namespace Rb
open Go
theorem UY{l:List Int}{v:Int}{tk:Tok}:aP ab2 1 (.aj tk (l++[v]).length ((l++[v]).map (T))) (D l.length)=ab1 (.ak [T v]):=by show(if 0<=(l.length:Int)/\(l.length:Int)<((l++[v]).length:Nat)then ab1 (I.ak (((l++[v]).map (T)).drop ((l.length:Int).toNat*1)))else ab2)=_;rw[aa ⟨by omega,by simp;omega⟩,adF,adl,adu,List.drop_left' (by simp)];rfl
theorem Ln(vars:List aA)(x:aR):(eF (bQ vars x))[4]?=ab1 (D (jC vars x)):=by
 unfold eF jC;split
 ·rw[ay.bh];rfl
 ·rfl
theorem aR.Lo{x:aR}(h:x.ok)(k:Nat):(⟨x.var,x.aE.take k⟩:aR).ok:=by
 cases x with
 | mk var aE=>obtain⟨U,a,b⟩:=h;exact⟨U,h1 (List.length_take_le' _ _) a,aO.eQ.2 λp c=>aO.eQ.1 b p (List.mem_of_mem_take c)⟩
section
variable{C:Ctx}(ar:cY C)(M:Cl (ag C) S.cn){id:Nat}{vars:List aA}{L:List (List UInt8)}
include ar M
theorem C1(a2:vars.length<=1000000)(hv:∀v∈vars,v.ok){x:aR}(am:x.ok)(a3:∀p∈x.aE,∀e∈p.aV,jR C id vars L e){a:Int}{s:RS}{lx F:I}{H:O}{Q:ab}(h:gy H id vars L s lx F)
  (an:∀H',bj id H H'->gy H' id vars L (cO vars x a s).1 lx F->Q (.aH [.agg ((cO vars x a s).2.getD bN).cells,.bool (cO vars x a s).2.isSome]) H'):ag C 134 [.ptr id 0,.agg x.cells,D a] H Q:=by
 obtain⟨bw,a4⟩:=aR.dq am;rw[CJ]at an;refine S.RZ M ?_;unfold S.f134;simp only[ae];simp only[mR,aM,bx,aQ,iD,i6,bP,G];have a5:=h.row.1;have a6:=bj.push id H (.row bN.cells);have r1:=At.new H (.row bN.cells);have W:=h.row.push (.row bN.cells);change au (S.r0 (ag C) (.ptr id 0) (.ak x.cells) (.ptr H.n 0) (aD aO.cells x.aE) (D x.aE.length) Q) ([D a,Y,J],H.push (.row bN.cells));have aA:bI [J,J,J,av,J,J] []=ab1 (.agg bN.cells):=rfl;have ret:∀(A:RS)(z:Option bM)(b:O),bj id H b->At b id (.row (dN vars A lx F))->Kp s A->A.ok->At b H.n (.row bN.cells)->(A,z)=((ed vars x x.aE 0 a [] s).1,(ed vars x x.aE 0 a [] s).2.map λidx=>ba vars x idx) ->
   Do (bZ b 6 (.ptr H.n 0) (.agg (z.getD bN).cells)) λd=>Do (af d 6 abZ (.ptr H.n 0)) λy=>Q (.aH [y,.bool z.isSome]) d:=by
  intro A z b B j hk ho l he;rw[<-he]at an;rw[l.store,aa ⟨rfl,rfl,rfl,(by decide:0+6<=6)⟩];simp only[G];rw[(l.set _).load,show bY (setCells bN.cells 0 (I.agg (z.getD bN).cells).cells) 0 6 abZ=ab1 (.agg (z.getD bN).cells)from rfl];simp only[G];have f:bj id H (b.set H.n (.row (setCells bN.cells 0 (I.agg (z.getD bN).cells).cells))):=B.oM (hT _) _;exact an _ f (h.next f (j.bq (aap a5) _) hk ho)
 have main:∀(r:List aO)(k:Nat)(c:Int)(A:RS)(ix:I)(idx:List Int)(b:O),x.aE.drop k=r->bj id H b->At b id (.row (dN vars A lx F))->Kp s A->A.ok->At b H.n (.row bN.cells)->cy H.n b 1 ix idx.length (idx.map (T))->(idx=[]\/(A.stop=ab0/\A.fuel+idx.length<=s.fuel)) ->
   ed vars x r k c idx A=ed vars x x.aE 0 a [] s ->
   au (S.r0 (ag C) (.ptr id 0) (.ak x.cells) (.ptr H.n 0) (aD aO.cells x.aE) (D x.aE.length) Q) ([D c,ix,D k],b):=by
  intro r;induction r with
  | nil=>
   intro k c A ix idx b ao B j hk ho l ap U he;have hle:=dx ao;rw[ed]at he;refine au.step ?_;simp only[ae,S.r0,aq,bp,aX,G,ai,aw,S.IM];rw[dg];simp only[br,aJ,aar,yF j,G,yy];obtain⟨tk,rfl,aB,-⟩:=ap;refine UU ar M a2 hv am ⟨tk,rfl⟩ λbz d V=>?_;simp only[bL,acn,aco,G,bx,aQ,aM];change _/\_/\(Do (bZ (d.push (.row bN.cells)) 6 (.ptr d.n 0) _) _)
   rw[bU d bN.cells (ba vars x idx).cells 6 rfl rfl rfl];change af (d.push (.row bN.cells)) 1 ab0 (.ptr id 0)=_/\_/\_;have u:=j.ext V;have Z:=l.ext V;have f:bj id H d:=B.trans ⟨V.1,λi o _ ho=>ho.ext V⟩;refine⟨yF (u.push _),trivial,?_⟩;have a7:=At.new d (.row (ba vars x idx).cells);simp only[G];rw[a7.load,eK (n:=6) rfl];simp only[G];exact ret A (ab1 (ba vars x idx)) _ (f.qk _) (u.push _) hk ho (Z.push _) (by rw[<-he];rfl)
  | cons p r aC=>
   intro k c A ix idx b ao B j hk ho l ap U he;obtain⟨aG,aI,aK⟩:=di ao;have aL:=acK aI;obtain⟨a8,a9⟩:=a4 p aL;have hw:aaN .i64 ((k:Int)+1)=((k+1:Nat):Int):=by rw[bD];simp
   rw[ed,yD]at he;refine au.step ?_;simp only[ae,S.r0,aq,bp,aX,G,ai];rw[cp,cG aG];simp only[G];rw[dH aO.len (by decide) _ aI];simp only[G,aM,bx,aQ];rw[bU _ _ _ 2 p.len p.scalar rfl];have aS:=At.new b (.row p.cells);have u:=j.push (.row p.cells);have Z:=l.push (.row p.cells);have f:=B.qk (.row p.cells);have aT:=ap.frame (H':=b.push (.row p.cells)) (λt _ _ h=>h.push _);have n6:H.n<=(b.push (.row p.cells)).n:=f.1;have bA:H.n<b.n:=l.1;simp only[G,aJ,aar];rw[yx aS];simp only[G,bP,bc,ai];generalize b.push _=d at *;cases E:p.aV with
   | nil=>rw[E]at he;rw[km];simp only[ae,aw,S.xH,aq,bp,bu,G,hw];exact aC (k+1) c A ix idx d aK f u hk ho Z aT U he
   | cons e t=>
    have a_:e∈p.aV:=by rw[E];exact abK ..
    rw[E]at he;dsimp only at he;rw[jZ];have bB:p.aV[0]?=ab1 e:=by rw[E];rfl
    have bb:aP ab2 8 (aD N.cells (e::t)) (J)=_:=cG (i:=0) (by simp);rw[bb];simp only[G];rw[dH N.len (by decide) _ (show(e::t)[0]?=ab1 e from rfl)];simp only[G];refine a3 p aL e a_ c A lx F d _ (h.next f u hk ho) λax K P=>?_;have w:Kp s (cA vars e c A).1:=hk.trans (jQ vars e c A);have bd:=sD vars e c A;have bC:idx.length<=1000000:=by
     rcases U with rfl|⟨f1,f2⟩
     ·simp
     . have f3:=h.fl (hk.stop f1);have f4:=hk.fu f3.1 (by omega) f1;omega
    have be:(cA vars e c A).1.stop=ab0->(cA vars e c A).1.fuel+((idx++[(cA vars e c A).2]).length:Nat)<=s.fuel:=by
     intro f0;have f1:A.stop=ab0:=(jQ vars e c A).stop f0;have f3:=h.fl (hk.stop f1);have f4:=hk.fu f3.1 (by omega) f1;have f5:=bd f4.1 (by omega) f0;rw[acG,adi];rcases U with rfl|⟨f6,f7⟩
     ·simp;omega
     ·omega
    generalize cA vars e c A=g at *;have bf:=aT.frame (H':=ax) (λt _ _ ac=>K.2 _ _ (λay=>by subst ay;have:=ac.2.symm.trans u.2;cases this) ac);have bg:=K.2 _ _ (by omega) Z;have bi:=K.2 _ _ (by have:=j.1;omega) aS;rw[show cU ax ab0 1 1 [T 0] [(0,1,T g.2)]=ab1 (.aj .full 1 [T g.2],ax)from rfl];simp only[aM];refine bf.app (by have:=K.1;omega) (m:=1) (news:=[T g.2]) rfl rfl rfl (by decide) (by omega) (by omega) λbk q bl ah=>?_;have aU:=ah.row bg;have bm:=ah.row bi;have R:=ah.row P.row;have aY:=(f.trans K).left ah;rw[yx bm];simp only[G];refine nz ar M a8 a9 _ _ ?_;simp only[bu,G,br,aJ,aar,mT R,ai];apply aF<;>intro hs
    . rw[aa hs]at he;rw[aA];simp only[G];exact ret g.1 ab2 _ aY R w P.ok aU (by rw[<-he];rfl)
    . have az:g.1.stop=ab0:=by simpa using hs
      rw[ad hs]at he;simp only[yF R,G,iD,sB,i6];rw[C0 aO.len x.aE (adv aG)];simp only[G];have bn:bI [.str [],Y] [(0,1,.str x.var),(1,1,aD aO.cells (x.aE.take k))]=ab1 (.agg (⟨x.var,x.aE.take k⟩:aR).cells):=by rw[aR.bh];rfl
      rw[bn];simp only[G];refine Ct ar M vars ⟨x.var,x.aE.take k⟩ (by rw[la];omega) hv (aR.Lo am k) _ _ ?_;rw[ss];simp only[bL,acn,aco,G,bx,aQ,aM];rw[bU q _ (eF (bQ vars ⟨x.var,x.aE.take k⟩)) 6 (nw _) (sr _) rfl];refine⟨yF (R.push _),trivial,trivial,?_⟩;have bo:=At.new q (.row (eF (bQ vars ⟨x.var,x.aE.take k⟩)));have aZ:=aU.push (.row (eF (bQ vars ⟨x.var,x.aE.take k⟩)));have al:=R.push (.row (eF (bQ vars ⟨x.var,x.aE.take k⟩)));have a0:=aY.qk (.row (eF (bQ vars ⟨x.var,x.aE.take k⟩)));have bs:cy H.n (q.push (.row (eF (bQ vars ⟨x.var,x.aE.take k⟩)))) 1 bk (idx++[g.2]).length ((idx++[g.2]).map (T)):=by have:=bl.frame (H':=q.push (.row (eF (bQ vars ⟨x.var,x.aE.take k⟩)))) (λt _ _ h=>h.push _);simpa using this
      have l4:af (q.push (.row (eF (bQ vars ⟨x.var,x.aE.take k⟩)))) 1 ab0 (.ptr q.n 4)=ab1 (D (jC vars ⟨x.var,x.aE.take k⟩)):=by
       rw[bo.load,<-Ln];generalize bQ vars ⟨x.var,x.aE.take k⟩=z;have:=nw z
       match eF z,this with
       |[_,_,_,_,_,_],_=>rfl
      generalize q.push _=a1 at *;obtain⟨tk,rfl,aB,hit⟩:=bs;have bt:aaN .i64 (((idx++[g.2]).length:Nat)-1:Int)=(idx.length:Nat):=by rw[wrap_i64 (by simp) (by simp;omega)];simp
      simp only[G];rw[show eV ab0 (.aj tk (idx++[g.2]).length ((idx++[g.2]).map (T)))=ab1 (D ((idx++[g.2]).length:Nat))from rfl];simp only[G,dC,bt,UY,l4,h4];rw[show af a1 1 ab0 (.ak [T g.2])=ab1 (T g.2)from rfl];simp only[G,eD,ai];apply aF<;>intro hc
      . rw [aa (by simpa using hc)]at he;rw[KY al];simp only[G];rw[CN (al.set _)];simp only[G,aA];have bv:=(al.set (.row (dN vars {g.1 with fin:=2} lx F))).set (.row (dN vars {g.1 with fin:=2,stop:=abZ} lx F));exact ret {g.1 with fin:=2,stop:=abZ} ab2 _ (a0.trans ((bj.set id _ _).trans (bj.set id _ _))) bv
         ⟨w.aN,w.pr,w.X,λay=>(by have:=w.stop az;rw[ay]at this;cases this),λ_ _ ac=>by cases ac⟩ ⟨P.ok.aW,P.ok.aN⟩ ((aZ.bq (by omega) _).bq (by omega) _) (by rw[<-he];rfl)
      . rw[ad (by simpa using hc)]at he;simp only[ae,aw,S.xH,aq,bp,bu,G,hw];refine aC (k+1) _ g.1 _ (idx++[g.2]) a1 aK a0 al w P.ok aZ ⟨tk,rfl,aB,hit⟩ (.inr ⟨az,be az⟩) ?_;rw[<-he,qe,E,Int.zero_add,h9]
 exact main x.aE 0 a s _ [] _ rfl a6 W (Kp.refl s) h.ok r1 (cy.nil _ _ _) (.inl rfl) rfl
end
variable{H:O}{i:Nat}{w:bM}
def C2(vars:List aA)(e:N)(a:Int)(s:RS):RS×Int:=
 match (cO vars e.place a s).2 with
 |none=>((cO vars e.place a s).1,0)
 |some sp=>qc sp ((cr vars e.aY (B (a+bS e.place)) (cO vars e.place a s).1).1.ask (i5 e.kind e.aB sp (B (a+bS e.place)) e.aY (cr vars e.aY (B (a+bS e.place)) (cO vars e.place a s).1).2))
theorem yL{w:bz}(h:At H i (.row w.cells)):af H 13 abZ (.ptr i 0)=ab1 (.agg w.cells):=by rw[h.load,eK (n:=13) rfl]
theorem kF(h:At H i (.row w.cells)):af H 6 abZ (.ptr i 0)=ab1 (.agg w.cells):=by rw[h.load,eK (n:=6) rfl]
theorem UZ(h:At H i (.row w.cells)):af H 1 ab0 (.ptr i 1)=ab1 (D w.len):=by rw[h.load];rfl
theorem Lp(h:At H i (.row w.cells)):af H 1 ab0 (.ptr i 3)=ab1 (.bool w.bits):=by rw[h.load];rfl
theorem Lq(h:At H i (.row w.cells)):af H 1 ab0 (.ptr i 4)=ab1 (D w.bit):=by rw[h.load];rfl
theorem Lr(h:At H i (.row w.cells)):af H 1 ab0 (.ptr i 5)=ab1 (D w.bo):=by rw[h.load];rfl
section
variable{C:Ctx}(ar:cY C)(M:Cl (ag C) S.cn){id:Nat}{vars:List aA}{L:List (List UInt8)}
include ar M
theorem U0(ah:vars.length<=1000000)(hv:∀v∈vars,v.ok){e:N}(aj:e.ok)(al:e.aY.length<=2)(am:∀k∈e.aY,jR C id vars L k)(an:∀p∈e.place.aE,∀k∈p.aV,jR C id vars L k){a:Int}{s:RS}{lx F:I}{Q:ab}(h:gy H id vars L s lx F)
  (c:∀H',bj id H H'->gy H' id vars L (C2 vars e a s).1 lx F->Q (T (C2 vars e a s).2) H'):ag C 169 [.ptr id 0,.agg e.cells,D a] H Q:=by
 obtain⟨⟨ao,K⟩,O⟩:=N.dq aj;refine S.Sl M ?_;unfold S.f169;simp only[ae];simp only[sj,aM,hR,yu,G];refine C1 ar M ah hv O an h λd ap l=>?_;unfold C2 at c;have P:=kc vars e.place a s;generalize cO vars e.place a s=aq at *;obtain⟨s1,z⟩:=aq;dsimp only at c l P ⊢;simp only[bL,acn,aco,G,bx,aQ,aM,c_,ai];rw[bU d _ (z.getD bN).cells 6 rfl rfl rfl];simp only[G];have R:=ap.trans (bj.push id d (.row (z.getD bN).cells));have U:=l.cv (bj.push id d (.row (z.getD bN).cells)) (l.row.push _);have u:=At.new d (.row (z.getD bN).cells);have n6:=l.row.1;generalize d.push _=au at *;cases z with
 | none=>rw[aa (show(!(ab2:Option bM).isSome)=abZ from rfl)];exact c au R U
 | some sp=>
  rw[ad (show ¬(!(ab1 sp).isSome)=abZ from λh=>by cases h)];dsimp only[adI]at u ⊢;dsimp only at c;refine yz ar M O _ _ ?_;simp only[bu,G,kF u,Kt,sm];rw[show aaN .i64 (a+bS e.place)=B (a+bS e.place)from rfl];generalize B (a+bS e.place)=W at *;refine Lm ar M al K am U λb V m=>?_;have g:=V.2 _ _ (by omega) u;have o:=R.trans V;simp only[kF g,true_and];refine nz ar M ao K _ _ ?_;have X:=P.trans (kb vars e.aY W s1);generalize cr vars e.aY W s1=ax at *;obtain⟨s2,vs⟩:=ax;dsimp only at c m X ⊢;simp only[kF g,true_and,bu,G];have ay:bI [J,J,J,J,J,J,av,J,J,J,J,T 0,T 0] [(0,1,(D 1)),(3,6,.agg sp.cells),(9,1,D e.aB),(11,2,.agg [T (vs.getD 0 0),T (vs.getD 1 0)]),(1,1,D (aaN .i64 (aaN .i64 (W+b9 e.aY 0)+1)))]=ab1 (.agg (bz.cells ⟨1,B (B (W+b9 e.aY 0)+1),0,sp,e.aB,0,vs.getD 0 0,vs.getD 1 0⟩)):=rfl;rw[ay];simp only[G,bx,aQ,aM];rw[bU b _ (bz.cells ⟨1,B (B (W+b9 e.aY 0)+1),0,sp,e.aB,0,vs.getD 0 0,vs.getD 1 0⟩) 13 rfl rfl rfl];refine⟨kF (g.push _),?_⟩;have w:=bj.push id b (.row (bz.cells ⟨1,B (B (W+b9 e.aY 0)+1),0,sp,e.aB,0,vs.getD 0 0,vs.getD 1 0⟩));have Y:=g.push (.row (bz.cells ⟨1,B (B (W+b9 e.aY 0)+1),0,sp,e.aB,0,vs.getD 0 0,vs.getD 1 0⟩));have q:=At.new b (.row (bz.cells ⟨1,B (B (W+b9 e.aY 0)+1),0,sp,e.aB,0,vs.getD 0 0,vs.getD 1 0⟩));have x:=m.cv w (m.row.push _);have n8:=m.row.1;have aI:=g.1;simp only[G];generalize b.push _=Z at *;have fin:∀f,bj id H f->gy f id vars L s2 lx F->At f d.n (.row sp.cells)->At f b.n (.row (i5 e.kind e.aB sp W e.aY vs).cells)->S.x2 (ag C) (.ptr id 0) (.ptr d.n 0) (.ptr b.n 0) Q [] f:=by
   intro f r y az aA;unfold S.x2;simp only[ae];rw[yL aA];simp only[G];refine sK ar M y.row _ λaC A ow=>?_;have E:=A.2 _ _ (by omega) az;have aD:=y.ok.ask (i5 e.kind e.aB sp W e.aY vs);have aG:=y.next A ow (Kp.ask _ _) aD.1;have aH:=r.trans A;rw[show lv 2 1 ab0 (.agg [T (s2.ask (i5 e.kind e.aB sp W e.aY vs)).2.1,T (s2.ask (i5 e.kind e.aB sp W e.aY vs)).2.2]) (J)=ab1 (T (s2.ask (i5 e.kind e.aB sp W e.aY vs)).2.1)from rfl];simp only[G,aJ,aar,Lp E,Lq E,Lr E,ai];unfold qc at c;have t:=c aC aH aG;apply aF<;>intro ac
   . rw[aa ac]at t;exact Ux ar M _ _ _ _ _ t
   . rw[ad ac]at t;exact t
  have aK:af Z 1 ab0 (.ak (e.cells.drop 0))=ab1 (D e.kind):=i0 e Z;simp only[i0,G,eD,ai,aJ,aar,aw];apply aF<;>intro hc
  . have j:e.kind>=6:=by simpa using hc
    rw[q.store,aa ⟨rfl,rfl,rfl,(by decide:0+1<=13)⟩];simp only[G];refine⟨trivial,?_⟩;rw[(q.set _).store,aa ⟨rfl,rfl,rfl,(by decide:10+1<=13)⟩];simp only[G];have r:=((o.trans w).oM (i:=b.n) (by have:=o.1;omega) (.row (setCells (bz.cells ⟨1,B (B (W+b9 e.aY 0)+1),0,sp,e.aB,0,vs.getD 0 0,vs.getD 1 0⟩) 0 (D 3).cells))).oM (i:=b.n) (by have:=o.1;omega) (.row (setCells (setCells (bz.cells ⟨1,B (B (W+b9 e.aY 0)+1),0,sp,e.aB,0,vs.getD 0 0,vs.getD 1 0⟩) 0 (D 3).cells) 10 (D e.kind).cells));refine fin _ r ?_ ((Y.bq (by omega) _).bq (by omega) _) ?_
    ·exact h.next r ((x.row.bq (by omega) _).bq (by omega) _) X x.ok
    . have:=(q.set (.row (setCells (bz.cells ⟨1,B (B (W+b9 e.aY 0)+1),0,sp,e.aB,0,vs.getD 0 0,vs.getD 1 0⟩) 0 (D 3).cells))).set (.row (setCells (setCells (bz.cells ⟨1,B (B (W+b9 e.aY 0)+1),0,sp,e.aB,0,vs.getD 0 0,vs.getD 1 0⟩) 0 (D 3).cells) 10 (D e.kind).cells));have e1:i5 e.kind e.aB sp W e.aY vs=⟨3,B (B (W+b9 e.aY 0)+1),0,sp,e.aB,e.kind,vs.getD 0 0,vs.getD 1 0⟩:=by unfold i5;rw[aa j,aa j]
      rw[e1];exact this
  . have j:¬e.kind>=6:=by simpa using hc
    refine fin _ (o.trans w) x Y ?_;have e1:i5 e.kind e.aB sp W e.aY vs=⟨1,B (B (W+b9 e.aY 0)+1),0,sp,e.aB,0,vs.getD 0 0,vs.getD 1 0⟩:=by unfold i5;rw[ad j,ad j]
    rw[e1];exact q
end
end Rb
namespace Rb
open Go
section
variable{C:Ctx}(ar:cY C)(M:Cl (ag C) S.cn){id:Nat}{vars:List aA}{L:List (List UInt8)}
include ar M
theorem U1(aq:vars.length<=1000000)(hv:∀v∈vars,v.ok){e:ax}(au:e.ok)(ay:e.aC.length<=2)(az:∀k∈e.aC,jR C id vars L k)(aA:∀p∈e.place.aE,∀k∈p.aV,jR C id vars L k){a:Int}{s:RS}{lx F:I}{H:O}{Q:ab}(h:gy H id vars L s lx F)
  (f:∀H',bj id H H'->gy H' id vars L (mQ vars e.place e.aC e.aB a s) lx F->Q (.aH []) H'):ag C 133 [.ptr id 0,.agg e.cells,D a] H Q:=by
 obtain⟨ah,⟨aD,aj⟩,_,_⟩:=ax.dq au;refine S.RY M ?_;unfold S.f133;simp only[ae];simp only[p9,aM,gw,p_,G];refine C1 ar M aq hv ah aA h λj aG u=>?_;unfold mQ at f;have ak:=kc vars e.place a s;generalize cO vars e.place a s=aI at *;obtain⟨s1,z⟩:=aI;dsimp only at f u ak ⊢;simp only[bL,acn,aco,G,bx,aQ,aM,c_,ai];rw[bU j _ (z.getD bN).cells 6 rfl rfl rfl];simp only[G];have al:=aG.trans (bj.push id j (.row (z.getD bN).cells));have am:=u.cv (bj.push id j (.row (z.getD bN).cells)) (u.row.push _);have N:=At.new j (.row (z.getD bN).cells);have n6:=u.row.1;generalize j.push _=aK at *;cases z with
 | none=>rw[aa (show(!(ab2:Option bM).isSome)=abZ from rfl)];exact f aK al am
 | some sp=>
  rw[ad (show ¬(!(ab1 sp).isSome)=abZ from λh=>by cases h)];dsimp only[adI]at N ⊢;dsimp only at f;refine yz ar M ah _ _ ?_;simp only[bu,G,kF N,so,qa];rw[show aaN .i64 (a+bS e.place)=B (a+bS e.place)from rfl];generalize B (a+bS e.place)=W at *;refine Lm ar M ay aj az am λc an w=>?_;have l:=an.2 _ _ (by omega) N;have P:=al.trans an;simp only[kF l,true_and];refine nz ar M aD aj _ _ ?_;unfold ny at f;have R:=ak.trans (kb vars e.aC W s1);generalize cr vars e.aC W s1=aL at *;obtain⟨s2,vs⟩:=aL;dsimp only at f w R ⊢;simp only[kF l,true_and,bu,G];rw[show aaN .i64 (aaN .i64 (W+b9 e.aC 0)+1)=B (B (W+b9 e.aC 0)+1)from rfl];generalize B (B (W+b9 e.aC 0)+1)=site at *;have aN:bI [J,J,J,J,J,J,av,J,J,J,J,T 0,T 0] [(0,1,(D 2)),(3,6,.agg sp.cells),(9,1,D e.aB),(11,2,.agg [T (vs.getD 0 0),T (vs.getD 1 0)]),(1,1,D site)]=ab1 (.agg (bz.cells ⟨2,site,0,sp,e.aB,0,vs.getD 0 0,vs.getD 1 0⟩)):=rfl;rw[aN];simp only[G,bx,aQ,aM];rw[bU c _ (bz.cells ⟨2,site,0,sp,e.aB,0,vs.getD 0 0,vs.getD 1 0⟩) 13 rfl rfl rfl];refine⟨kF (l.push _),?_⟩;have U:=bj.push id c (.row (bz.cells ⟨2,site,0,sp,e.aB,0,vs.getD 0 0,vs.getD 1 0⟩));have x:=l.push (.row (bz.cells ⟨2,site,0,sp,e.aB,0,vs.getD 0 0,vs.getD 1 0⟩));have V:=At.new c (.row (bz.cells ⟨2,site,0,sp,e.aB,0,vs.getD 0 0,vs.getD 1 0⟩));have y:=w.cv U (w.row.push _);have n8:=w.row.1;have a2:=l.1;simp only[G];generalize c.push _=aO at *;have a3:=P.1;have X:∀m:Nat,aP (ab1 2) 1 (.ptr m 11) (J)=ab1 (.ptr m 11):=λm=>rfl;have fin:∀b (o:RS) (d:Int),bj id H b->At b id (.row (dN vars o lx F))->Kp s o->o.ok->At b j.n (.row sp.cells)->At b c.n (.row (bz.cells ⟨2,site,0,sp,e.aB,0,d,vs.getD 1 0⟩))->(∀H',bj id H H'->gy H' id vars L (o.ask ⟨2,site,0,sp,e.aB,0,gX d (eS (B (8*sp.len))),vs.getD 1 0⟩).1 lx F->Q (.aH []) H')->S.xG (ag C) (.ptr id 0) (.ptr j.n 0) (.ptr c.n 0) Q [] b:=by
   intro b o d q aR Y uG Z r aS;have A:af b 1 ab0 (.ptr c.n 11)=ab1 (T d):=by rw[r.load];rfl
   unfold S.xG;simp only[ae];simp only[aJ,aar,G,X,A,UZ Z,e2];refine qh ar M _ _ _ ?_;simp only[A,true_and,mK,G,X];rw[r.store,aa ⟨rfl,rfl,rfl,(by decide:11+1<=13)⟩];simp only[G];have t:At (b.set c.n (.row (bz.cells ⟨2,site,0,sp,e.aB,0,gX d (eS (B (8*sp.len))),vs.getD 1 0⟩))) c.n (.row (bz.cells ⟨2,site,0,sp,e.aB,0,gX d (eS (B (8*sp.len))),vs.getD 1 0⟩)):=r.set _;change Do (af (b.set c.n (.row (bz.cells ⟨2,site,0,sp,e.aB,0,gX d (eS (B (8*sp.len))),vs.getD 1 0⟩))) 13 abZ (.ptr c.n 0)) _;have E:=q.oM (i:=c.n) (by omega) (.row (bz.cells ⟨2,site,0,sp,e.aB,0,gX d (eS (B (8*sp.len))),vs.getD 1 0⟩));have ao:=aR.bq (i:=c.n) (by omega) (.row (bz.cells ⟨2,site,0,sp,e.aB,0,gX d (eS (B (8*sp.len))),vs.getD 1 0⟩));rw[yL t];simp only[G];have aT:=h.next E ao Y uG;refine sK ar M ao _ λaU ap a12=>?_;exact aS aU (E.trans ap) (aT.next ap a12 (Kp.ask _ _) (uG.ask _).1)
  simp only[aJ,aar,Lp x,G,ai,aw];unfold lb h8 at f;apply aF<;>intro K
  . rw[aa K,aa K]at f;have aW:af aO 1 ab0 (.ptr c.n 1)=ab1 (D site):=by rw[V.load];rfl
    simp only[kF x,G,aW];have aX:bI [J,J,J,J,J,J,av,J,J,J,J,T 0,T 0] [(0,1,(D 1)),(3,6,.agg sp.cells),(1,1,D site)]=ab1 (.agg (bz.cells ⟨1,site,0,sp,0,0,0,0⟩)):=rfl;rw[aX];simp only[G];refine sK ar M y.row _ λb q Jz=>?_;have aY:=y.ok.ask ⟨1,site,0,sp,0,0,0,0⟩;have Z:=q.2 _ _ (by omega) x;have r:=q.2 _ _ (by omega) V;have Y:=R.trans (Kp.ask s2 ⟨1,site,0,sp,0,0,0,0⟩);have aZ:=(P.trans U).trans q;generalize s2.ask ⟨1,site,0,sp,0,0,0,0⟩=g at *;rw[bU b _ [T g.2.1,T g.2.2] 2 rfl rfl rfl];simp only[G];have a0:=At.new b (.row [T g.2.1,T g.2.2]);rw[show aP (ab1 2) 1 (.ptr b.n 0) (J)=ab1 (.ptr b.n 0)from rfl];simp only[G];rw[show af (b.push (.row [T g.2.1,T g.2.2])) 1 ab0 (.ptr b.n 0)=ab1 (T g.2.1) by rw[a0.load];rfl];have ac:=Z.push (.row [T g.2.1,T g.2.2]);have t:=r.push (.row [T g.2.1,T g.2.2]);have ow:=Jz.push (.row [T g.2.1,T g.2.2]);have E:=aZ.qk (.row [T g.2.1,T g.2.2]);generalize b.push _=a1 at *;have A:af a1 1 ab0 (.ptr c.n 11)=ab1 (T (vs.getD 0 0)):=by rw[t.load];rfl
    simp only[G,Lq ac,Lr ac,X,A];refine Uy ar M _ _ _ _ _ _ ?_;rw[t.store,aa ⟨rfl,rfl,rfl,(by decide:11+1<=13)⟩];simp only[G];exact fin _ g.1 (i3 g.2.1 sp.bit sp.bo (vs.getD 0 0)) (E.oM (by omega) _) (ow.bq (by omega) _) Y aY.1 (ac.bq (by omega) _) (t.set _) f
  . rw[ad K,ad K]at f;exact fin _ s2 (vs.getD 0 0) (P.trans U) y.row R y.ok x V f
theorem Ls(E:vars.length<=1000000)(hv:∀v∈vars,v.ok):∀e:N,e.ok->oN L e->jR C id vars L e:=by
 refine N.ind λe I K he O=>?_;obtain⟨⟨av,g⟩,P⟩:=N.dq he;have R:=aR.dq P;obtain⟨w1,w2,w3,V,W⟩:=(UX L e).1 O;have n:∀k∈e.aY,jR C id vars L k:=λk hk=>I k hk (g k hk) (sP L |>.1 W k hk);intro a s lx F H Q h b;refine S.R3 M ?_;unfold S.f138;simp only[ae];simp only[sj,aM];refine K0 ar M h.row λH1 c r1=>?_;have U:=h.next c r1 (Kp.b5 s) h.ok.b5;rw[CK]at b;generalize aw:s.b5=d at *;simp only[br,aJ,aar,mT r1,G,ai,i0,bc];change if d.stop=abZ then _ else _
 apply aF<;>intro hs
 . rw[aa hs]at b;exact b H1 c U
 have X:d.stop=ab0:=by simpa using hs
 rw[ad hs]at b;simp only[aJ,G,i0,bc,ai,Cr,yt];apply aF<;>intro hc
 . rw[aa (by simpa using hc)]at b;exact b H1 c U
 have c1:¬e.kind=1:=by simpa using hc
 rw[ad c1]at b;apply aF<;>intro hc
 . have f:e.kind=2:=by simpa using hc
   rw[aa f]at b;obtain⟨i,hi⟩:=sN (L:=d.aN) (name:=e.name) (by rw[U.nm X];exact w1 f);obtain⟨l,Y,ax,Z,ay⟩:=yI hi;refine yH ar M r1 U.loc U.len hi λj cs m az aA ab aB aC ac=>?_;simp only[br,G];rw [ab.load,show bY cs (i*2+1) 1 ab0=ab1 (T l.2)from by have:=(Li ac Y).2;have aG:=(ZF.1 this).1;unfold bY;rw[cX];simpa using this]
   simp only[G];rw[Z]at b;exact b H1 c U
 have f:¬e.kind=2:=by simpa using hc
 rw[ad f]at b;apply aF<;>intro hc
 . have c3:e.kind=3:=by simpa using hc
   rw[aa c3]at b
   match w:e.aY,w2 c3 with
   | [x,y],_=>
    rw[w]at b n g;have ag:=g x (by simp);have ah:=g y (by simp);have aj:aP ab2 8 (aD N.cells [x,y]) (J)=_:=cG (i:=0) (by simp);have al:aP ab2 8 (aD N.cells [x,y]) (D 1)=_:=cG (i:=1) (by simp);have am:∀H,af H 8 abZ (eP N.cells 8 [x,y] 0)=_:=λH=>dH N.len (by decide) H (show [x,y][0]?=ab1 x from rfl);have z:∀H,af H 8 abZ (eP N.cells 8 [x,y] 1)=_:=λH=>dH N.len (by decide) H (show [x,y][1]?=ab1 y from rfl);have an:cC 8 (aD N.cells [x,y]) ab2 (ab1 (D 1)) ab2=ab1 (aD N.cells [x]):=C0 N.len [x,y] (k:=1) (by simp);have q:∀H,af H 1 ab0 (.ak (e.cells.drop 7))=ab1 (aD N.cells [x,y]):=λH=>by rw[sm,w]
    simp only[hR,q,G,aj,am];refine n x (by simp) a d lx F H1 _ U λr t o=>?_;simp only[q,G,al,z,an];refine nz ar M (l:=[x]) (by simp) (λk hk=>by rw[adB.1 hk];exact ag) _ _ ?_;simp only[q,z,true_and,bu,G];rw[show b9 [x] 0=gQ x 0 by rw[b9,b9]];refine n y (by simp) _ _ lx F r _ o λA ao ap=>?_;simp only[hR,sk,G];have aq:=(sI vars y ah (B (a+gQ x 0)) (cA vars x a d).1 o.ok).2;refine Uz ar M _ _ aq _ _ ?_;refine b A ((c.trans t).trans ao) ?_;show gy A id vars L (cr vars [x,y] a d).1 lx F;rw[cr,cr,cr];exact ap
 have c3:¬e.kind=3:=by simpa using hc
 rw[ad c3]at b;simp only[Ku,G];have au:∀p∈e.place.aE,∀k∈p.aV,jR C id vars L k:=λp u k hk=>K p u k hk ((R.2 p u).2 k hk) (sP L |>.1 ((Ll L e.place).1 (V ⟨c1,f,c3⟩) p u) k hk);refine U0 ar M E hv he w3 n au U λr t o=>?_;exact b r (c.trans t) o
end
variable{id:Nat}{H a b H':O}{s:RS}{lx F:I}
theorem nB(s:RS)(x:List UInt8)(v:Int):(s.put x v).aN.length=s.aN.length:=by
 unfold RS.put;split
 ·exact abF
 ·rfl
section
variable(vars:List aA)
theorem U2(name bW:List UInt8)(place:aR)(aB a:Int)(s:RS):s.aN.length<=(ka vars name bW place aB a s).aN.length:=by
 unfold ka;have b:=kc vars place a s;split
 ·rw[b.aN];exact hT _
 . rename_i sp c;have hk:=b.trans (Kp.ask (cO vars place a s).1 ⟨1,B (B (a+bS place)+1),0,sp,aB,0,0,0⟩);unfold ld;split
   ·rw[hk.aN];exact hT _
   ·rw[nB,nB,hk.aN];exact hT _
theorem Lt{cond:RS->RS×Int}{body:RS->RS}(hc:∀s,(cond s).1.aN=s.aN)(a:∀s,s.aN.length<=(body s).aN.length):∀(c:Nat)(s:RS),s.aN.length<=(gk cond body c s).aN.length
 |0,s=>hT _
 | c + 1,s=>by
  unfold gk;split
  . have:=Lt hc a c (body (cond s).1);have b:=a (cond s).1;rw[hc]at b;omega
  ·rw[hc];exact hT _
variable(c:Nat)
mutual
theorem Lu : ∀ (x:ax) (a:Int) (s:RS),s.aN.length<=(e7 vars c x a s).aN.length
 | .mk kind X name bW aB place aC aK bB,a,s=>by
  rw[e7];have hf:=qg vars aC a s;split
  ·rw[(yB vars place aC aB a s).aN];exact hT _
  . split
    ·exact U2 vars name bW place aB a s
    . split
      ·rw[(Kp.ask _ _).aN];exact hT _
      . split
        . refine Lt (λs=>(qg vars aC a s).aN) (λs1=>?_) c s;have:=yM aK (B (a+b9 aC 0)) s1.aN.length s1 (hT _);exact this
        . split
          ·rw[hf.aN];exact hT _
          . split
            . show _<=(List.length (_++_));rw[acG,hf.aN];omega
            . split
              ·rw[nB,hf.aN];exact hT _
              . split
                . show _<=(dd vars aC a s).1.aN.length;rw[hf.aN];exact hT _
                . split
                  . have:=yM aK (B (a+b9 aC 0)) (dd vars aC a s).1.aN.length (dd vars aC a s).1 (hT _);rw[hf.aN]at this ⊢;exact this
                  . have:=yM bB (B (B (a+b9 aC 0)+dv aK 0)) (dd vars aC a s).1.aN.length (dd vars aC a s).1 (hT _);rw[hf.aN]at this ⊢;exact this
theorem yM:∀(l:List ax)(a:Int)(n:Nat)(s:RS),n<=s.aN.length->n<=(cl vars c l a n s).aN.length
 | [],a,n,s,h=>by rw[cl];show n<=(s.aN.take n).length;rw[ac2];omega
 | x :: r,a,n,s,h=>by
  rw[cl];split
  ·exact h
  . refine yM r _ n _ ?_;have:=Lu x a ({s with X:=x.X}:RS).b5;rw[(Kp.b5 _).aN]at this;exact h1 h this
end
end
def dY(L:List (List UInt8))(x:ax):List (List UInt8):=if x.kind=1 then L++[x.name]else L
mutual
def ql(L:List (List UInt8)):ax->Prop
 | .mk kind X name bW aB place aC aK bB=>(kind=2->name∈L)/\(kind=5->name∈L/\bW∈L)/\(3<=kind/\kind<=6->mi L place)/\aC.length<=2/\(¬(3<=kind/\kind<=7)->1<=aC.length)/\iF L aC/\gz L aK/\gz L bB
def gz(L:List (List UInt8)):List ax->Prop
 |[]=>True
 |x::r=>ql L x/\gz (dY L x) r
end
theorem U3(L:List (List UInt8))(x:ax):ql L x↔(x.kind=2->x.name∈L)/\(x.kind=5->x.name∈L/\x.bW∈L)/\(3<=x.kind/\x.kind<=6->mi L x.place)/\x.aC.length<=2/\(¬(3<=x.kind/\x.kind<=7)->1<=x.aC.length)/\iF L x.aC/\gz L x.aK/\gz L x.bB:=by cases x;rw[ql]
def e8(id:Nat)(H H':O):Prop:=H.n<=H'.n/\∀j o,j<id->At H j o->At H' j o
theorem e8.refl(id:Nat)(H:O):e8 id H H:=⟨hT _,λ_ _ _ h=>h⟩
theorem e8.trans{a b c:O}(h:e8 id a b)(k:e8 id b c):e8 id a c:=⟨h1 h.1 k.1,λj o d ho=>k.2 j o d (h.2 j o d ho)⟩
theorem bj.fr(h:bj id a b):e8 id a b:=⟨h.1,λj o c ho=>h.2 j o (aap c) ho⟩
theorem e8.set{id j:Nat}(b:id<=j)(x:c0):e8 id a (a.set j x):=⟨hT _,λi o hi ho=>ho.bq (by omega) x⟩
structure gR(H:O)(id:Nat)(vars:List aA)(L:List (List UInt8))(s:RS)(lx F:I):Prop where
 m:gy H id vars L s lx F
 p:cy (id+1) H 1 F s.pr.length (s.pr.map (T))
 lj:∀j c d e,lx = .row j c d e->id<j
theorem cy.qm{sz len:Nat}{x:I}{cells:List I}(h:cy (id+1) H sz x len cells)(k:bj id H H'):cy (id+1) H' sz x len cells:=by
 obtain⟨tk,a,hc,ht⟩:=h;refine⟨tk,a,hc,?_⟩;rcases ht with ht|ht|⟨t,U,b,c⟩
 ·exact .inl ht
 ·exact .inr (.inl ht)
 ·exact .inr (.inr ⟨t,U,b,k.2 t _ (by omega) c⟩)
theorem gR.kp{vars:List aA}{L a:List (List UInt8)}{s A:RS}(h:gR H id vars L s lx F)(k:bj id H H')(b:gy H' id vars a A lx F)(c:A.pr=s.pr):gR H' id vars a A lx F:=⟨b,by rw[c];exact cy.qm h.p k,h.lj⟩
theorem gy.over{vars:List aA}{L a:List (List UInt8)}(h:gy H id vars L s lx F)(hs:s.stop=abZ):gy H id vars a s lx F:=⟨h.row,h.loc,h.ok,h.len,λe=>(by rw[hs]at e;cases e),h.fl,h.pl⟩
theorem gR.over{vars:List aA}{L a:List (List UInt8)}(h:gR H id vars L s lx F)(hs:s.stop=abZ):gR H id vars a s lx F:=⟨h.m.over hs,h.p,h.lj⟩
end Rb
namespace Rb
open Go
variable{s:be}{d:Int}{x:ax}
theorem ff{a:Bool}{e:Int}(h:(s.cx a e).bb=0)(b:e≠0):s.bb=0/\a=abZ:=by
 unfold be.cx at h;split at h
 ·exact absurd h b
 . rename_i q;refine⟨h,?_⟩;cases a
   ·exact absurd ⟨rfl,h⟩ q
   ·rfl
theorem eT(s:be)(a:Bool)(e:Int):(s.cx a e).f=s.f:=by unfold be.cx;split<;>rfl
theorem nC{x:List UInt8}(h:s.has x=abZ):x∈s.f:=by
 unfold be.has at h;obtain⟨y,a,e⟩:=abC.1 h;have:x=y:=by simpa using e
 rw[this];exact a
theorem Lv{e:N}(h:(dX s d e).bb=0):s.bb=0/\gG e=abZ:=by unfold dX at h;have U:=ff h (by decide);have a:=ff U.1 (by decide);have b:=ff a.1 (by decide);exact⟨b.1,a.2⟩
theorem yN(s:be)(d:Int)(e:N):(dX s d e).f=s.f:=by unfold dX;rw[eT,eT,eT]
theorem Lw{e:ax}(h:(eE s d e).bb=0):s.bb=0/\gu e=abZ:=by unfold eE at h;have U:=ff h (by decide);have a:=ff U.1 (by decide);have b:=ff a.1 (by decide);exact⟨b.1,a.2⟩
theorem sQ(s:be)(d:Int)(e:ax):(eE s d e).f=s.f:=by unfold eE;rw[eT,eT,eT]
section
variable(vars:List aA)
theorem Lx(s:be)(k:Int)(x:aR):(jy vars s k x).f=s.f:=by unfold jy;dsimp only;rw[eT,eT]
theorem U4{kind n:Int}{name:List UInt8}{op aB:Int}{place:aR}{aY:List N}(h:gG (.mk kind n name op aB place aY)=abZ):1<=kind/\kind<=8/\aY.length<=2/\(kind=3->aY.length=2):=by
 unfold gG at h;simp only[ZL,du]at h;obtain⟨⟨⟨⟨⟨⟨U,b⟩,_⟩,_⟩,_⟩,_⟩,a⟩:=h;have a:((aY.length:Int))=(gi kind).1:=by simpa using a
 have U:1<=kind:=U;have b:kind<=8:=b;unfold gi at a;refine⟨U,b,?_,λe=>?_⟩
 . split at a
   ·dsimp only at a;omega
   . split at a
     ·dsimp only at a;omega
     . split at a
       ·dsimp only at a;omega
       . split at a
         ·dsimp only at a;omega
         ·dsimp only at a;omega
 ·rw[aa e]at a;dsimp only at a;omega
mutual
theorem Ly:∀(e:N)(s:be)(d:Int),(iZ vars s d e).bb=0->s.bb=0/\(iZ vars s d e).f=s.f/\oN s.f e
 | .mk kind n name op aB place aY,s,d,h=>by
  rw[iZ]at h ⊢;by_cases j:(dX s d (.mk kind n name op aB place aY)).bb≠0
  ·rw[aa j]at h;exact absurd h j
  . rw [ad j]at h ⊢;have u:(dX s d (.mk kind n name op aB place aY)).bb=0:=by simpa using j
    have hl:=yN s d (.mk kind n name op aB place aY);obtain⟨m,z2⟩:=Lv u;obtain⟨f1,f2,f3,f4⟩:=U4 z2;obtain⟨e1,b,a⟩:=yO aY _ d h;rw[b,oN];by_cases hk:kind>=4
    . rw[aa hk,ad (show ¬kind=2 by omega)]at e1 b a ⊢;obtain⟨w,v,t⟩:=Lz place _ _ d e1;rw[v,hl]at a ⊢;rw[hl]at t;exact⟨m,rfl,λe=>absurd e (by omega),f4,f3,λ_=>t,a⟩
    . rw [ad hk]at e1 b a ⊢;by_cases o:kind=2
      . rw[aa o]at e1 b a ⊢;rw[eT,hl]at a ⊢;have:=nC (ff e1 (by decide)).2;rw[hl]at this;exact⟨m,rfl,λ_=>this,f4,f3,λq=>absurd q (by omega),a⟩
      . rw[ad o,hl]at a ⊢;exact⟨m,rfl,λe=>absurd e o,f4,f3,λq=>absurd q (by omega),a⟩
theorem yO:∀(l:List N)(s:be)(d:Int),(dt vars s d l).bb=0->s.bb=0/\(dt vars s d l).f=s.f/\iF s.f l
 |[],s,d,h=>by rw[dt]at h ⊢;exact⟨h,rfl,trivial⟩
 | e :: r,s,d,h=>by
  rw[dt]at h ⊢;obtain⟨e1,b,a⟩:=yO r _ d h;by_cases hs:s.bb≠0
  ·rw[aa hs]at e1;exact absurd e1 hs
  . rw[ad hs]at e1 b a ⊢;obtain⟨g,c,i⟩:=Ly e s _ e1;rw[b,c];rw[c]at a;rw[iF];exact⟨g,rfl,i,a⟩
theorem Lz:∀(x:aR)(s:be)(k d:Int),(gP vars s k d x).bb=0->s.bb=0/\(gP vars s k d x).f=s.f/\mi s.f x
 | .mk var aE,s,k,d,h=>by
  rw[gP]at h ⊢;by_cases hs:s.bb≠0
  ·rw[aa hs]at h;exact absurd h hs
  . rw[ad hs]at h ⊢;obtain⟨e1,b,a⟩:=LA aE _ d h;rw[Lx]at b a;rw[mi];exact⟨by simpa using hs,b,a⟩
theorem LA:∀(l:List aO)(s:be)(d:Int),(e4 vars s d l).bb=0->s.bb=0/\(e4 vars s d l).f=s.f/\oO s.f l
 |[],s,d,h=>by rw[e4]at h ⊢;exact⟨h,rfl,trivial⟩
 | p::r,s,d,h=>by rw[e4]at h ⊢;obtain⟨e1,b,a⟩:=LA r _ d h;obtain⟨g,c,i⟩:=U5 p s d e1;rw[b,c];rw[c]at a;rw[oO];exact⟨g,rfl,i,a⟩
theorem U5:∀(p:aO)(s:be)(d:Int),(j9 vars s d p).bb=0->s.bb=0/\(j9 vars s d p).f=s.f/\sO s.f p
 | .mk field aV,s,d,h=>by rw[j9]at h ⊢;rw[sO];exact LB aV s d h
theorem LB:∀(l:List N)(s:be)(d:Int),(fU vars s d l).bb=0->s.bb=0/\(fU vars s d l).f=s.f/\iF s.f l
 |[],s,d,h=>by rw[fU]at h ⊢;exact⟨h,rfl,trivial⟩
 | e::r,s,d,h=>by rw[fU]at h ⊢;obtain⟨e1,b,a⟩:=LB r _ d h;obtain⟨g,c,i⟩:=Ly e s _ e1;rw[b,c];rw[c]at a;rw[iF];exact⟨g,rfl,i,a⟩
end
variable(kw:List UInt8->Bool)
theorem U6(h:(ej vars kw s d x).bb=0):s.bb=0/\(ej vars kw s d x).f=s.f/\(x.kind=2->x.name∈s.f)/\(3<=x.kind/\x.kind<=6->mi s.f x.place):=by
 unfold ej at h ⊢;by_cases U:x.kind=1
 . rw[aa U]at h ⊢;rw[eT,eT,eT];have a:=ff h (by decide);have z2:=ff a.1 (by decide);have z3:=ff z2.1 (by decide);exact⟨z3.1,rfl,λe=>by omega,λe=>by omega⟩
 . rw [ad U]at h ⊢;by_cases b:x.kind=2
   . rw[aa b]at h ⊢;rw[eT];have a:=ff h (by decide);exact⟨a.1,rfl,λ_=>nC a.2,λe=>by omega⟩
   . rw [ad b]at h ⊢;by_cases c:x.kind=3\/x.kind=4\/x.kind=5\/x.kind=6
     . rw[aa c]at h ⊢;obtain⟨g,i,j⟩:=Lz vars x.place s _ d h;exact⟨g,i,λe=>absurd e b,λ_=>j⟩
     . rw[ad c]at h ⊢;exact⟨h,rfl,λe=>absurd e b,λe=>by omega⟩
theorem U7(h:(gv s x).bb=0):s.bb=0/\(gv s x).f=dY s.f x/\(x.kind=5->x.name∈s.f/\x.bW∈s.f):=by
 unfold gv at h ⊢;unfold dY;by_cases U:x.kind=1
 . rw[aa U]at h ⊢;rw[aa U];exact⟨h,rfl,λe=>by omega⟩
 . rw [ad U]at h ⊢;rw[ad U];by_cases a:x.kind=5
   . rw[aa a]at h ⊢;rw[eT,eT,eT];have b:=ff h (by decide);have z2:=ff b.1 (by decide);have z3:=ff z2.1 (by decide);refine⟨z3.1,rfl,λ_=>⟨nC z3.2,?_⟩⟩;exact nC z2.2
   . rw[ad a]at h ⊢;exact⟨h,rfl,λe=>absurd e a⟩
theorem LC(h:gu x=abZ):1<=x.kind/\x.kind<=10/\x.aC.length<=2/\(¬(3<=x.kind/\x.kind<=7)->1<=x.aC.length)/\(x.kind=1->x.aK=[]/\x.bB=[]):=by
 unfold gu at h;simp only[ZL,du,Bool.or_eq_true,cq]at h;obtain⟨⟨⟨⟨⟨⟨⟨U,d⟩,_⟩,_⟩,_⟩,a⟩,b⟩,c⟩:=h;unfold ec at a b c;refine⟨U,d,?_,λe=>?_,λe=>?_⟩
 . repeat' split at a
   all_goals (dsimp only at a;omega)
 . repeat' split at a
   all_goals (dsimp only at a;omega)
 . rw[aa (.inl e)]at b c;simp at b c;exact⟨b,c⟩
theorem U8(h:(dJ vars kw s d x).bb=0):s.bb=0/\(dJ vars kw s d x).f=dY s.f x/\gu x=abZ/\(x.kind=2->x.name∈s.f)/\(x.kind=5->x.name∈s.f/\x.bW∈s.f)/\(3<=x.kind/\x.kind<=6->mi s.f x.place)/\iF s.f x.aC:=by unfold dJ at h ⊢;obtain⟨r1,a,b⟩:=U7 h;obtain⟨e1,c,e⟩:=yO vars x.aC _ d r1;obtain⟨f1,f2,f3,f4⟩:=U6 vars kw e1;obtain⟨g,z2⟩:=Lw f1;rw[f2,sQ]at c e;rw[sQ]at f3 f4;rw[c]at a b;exact⟨g,a,z2,f3,b,f4,e⟩
theorem LD(L:List (List UInt8))(x:ax){n:Nat}(h:n<=L.length):(dY L x).take n=L.take n/\n<=(dY L x).length:=by
 unfold dY;split
 ·exact⟨by rw[List.take_append_of_le_length h],by rw[acG];omega⟩
 ·exact⟨rfl,h⟩
mutual
theorem U9:∀(x:ax)(s:be)(d:Int),(stM vars kw s d x).bb=0->s.bb=0/\(stM vars kw s d x).f=dY s.f x/\ql s.f x
 | .mk kind X name bW aB place aC aK bB,s,d,h=>by
  rw[stM]at h ⊢;obtain⟨b1,b2,b3⟩:=qn bB _ _ _ (hT _) h;obtain⟨W,a2,a3⟩:=qn aK _ _ _ (hT _) b1;have k:=b2.trans (show(List.take _ _)=_ from acz);obtain⟨c1,c,c3,m,c5,o,p⟩:=U8 vars kw W;have g:(eR vars kw (dJ vars kw s d (.mk kind X name bW aB place aC aK bB)) (dJ vars kw s d (.mk kind X name bW aB place aC aK bB)).f.length (B (d+1)) aK).f=dY s.f (.mk kind X name bW aB place aC aK bB):=by rw[a2,acz,c]
  have b:gz (eR vars kw (dJ vars kw s d (.mk kind X name bW aB place aC aK bB)) (dJ vars kw s d (.mk kind X name bW aB place aC aK bB)).f.length (B (d+1)) aK).f bB:=b3;rw[g]at b;rw[c]at a3;obtain⟨g1,g2,g3,g4,g5⟩:=LC c3;refine⟨c1,k.trans g,?_⟩;rw[ql];refine⟨m,c5,o,g3,g4,p,?_,?_⟩
  . by_cases hk:kind=1
    . have:aK=[]:=(g5 hk).1;subst this;rw[gz];trivial
    . have e:dY s.f (.mk kind X name bW aB place aC aK bB)=s.f:=by unfold dY;rw[ad hk]
      rw[e]at a3;exact a3
  . by_cases hk:kind=1
    . have:bB=[]:=(g5 hk).2;subst this;rw[gz];trivial
    . have e:dY s.f (.mk kind X name bW aB place aC aK bB)=s.f:=by unfold dY;rw[ad hk]
      rw[e]at b;exact b
theorem qn:∀(l:List ax)(s:be)(n:Nat)(d:Int),n<=s.f.length->(eR vars kw s n d l).bb=0->s.bb=0/\(eR vars kw s n d l).f=s.f.take n/\gz s.f l
 |[],s,n,d,hn,h=>by rw[eR]at h ⊢;rw[gz];exact⟨h,rfl,trivial⟩
 | x :: r,s,n,d,hn,h=>by
  rw[eR]at h ⊢;by_cases hs:s.bb≠0
  ·rw[aa hs,k_ vars kw hs]at h;exact absurd h hs
  . rw [ad hs]at h ⊢;have t:(stM vars kw (s.at x.X) d x).bb=0:=by
     by_cases q:(stM vars kw (s.at x.X) d x).bb=0
     ·exact q
     ·rw[k_ vars kw q]at h;exact absurd h q
    obtain⟨v,a,u⟩:=U9 x (s.at x.X) d t;have a:(stM vars kw (s.at x.X) d x).f=dY s.f x:=a;obtain⟨t1,t2⟩:=LD s.f x hn;obtain⟨r1,i,j⟩:=qn r (stM vars kw (s.at x.X) d x) n d (by rw[a];exact t2) h;rw[a]at i j;rw[gz];exact⟨by simpa using hs,i.trans t1,u,j⟩
end
theorem LF{p:dy}(h:(dz kw p).2=0):p.vars.length<=32/\∀t∈p.b6,gz [] t:=by
 unfold dz at h;split at h
 ·cases h
 . rename_i U;split at h
   ·rename_i a;exact absurd h a
   . rw[Cn]at h;refine⟨by omega,λt ht=>?_⟩;exact(qn p.vars kw t s0 0 1 (hT _) (h t ht)).2.2
end
end Rb
namespace Rb
open Go
variable{n step:Int}
def bE(n step:Int):Int:=(n+step-1)/step*step
theorem lh(h:0<step):bE n step%step=0:=by unfold bE;exact Int.mul_emod_left _ _
theorem fg(a:0<step):n<=bE n step/\bE n step<=n+step-1:=by unfold bE;have U:=adJ (n+step-1) step;have b:=adp (n+step-1) (adK a);have c:=ado (n+step-1) a;rw[adq]at U;omega
theorem mV(b:0<=n)(U:n<=1000000000)(a:0<step)(c:step<=1000000):c7 n step=bE n step:=by have d:=fg (n:=n) a;unfold c7;rw[wrap_i64 (n:=n+step) (by omega) (by omega),wrap_i64 (n:=n+step-1) (by omega) (by omega),adr (by omega)];have e:0<=(n+step-1)/step:=adz (by omega) (by omega);have f:(n+step-1)/step<=n+step-1:=adA _ (by omega);rw[wrap_i64 (n:=(n+step-1)/step) (by omega) (by omega)];show aaN .i64 (bE n step)=_;exact bD
theorem LG{packed:Bool}:∀{l:List aL}{seen:List (List UInt8)},fJ packed seen l=0->∀f∈l,(f.bits=abZ->0<=f.bo/\f.bo<=8*f.type.size/\packed=ab0)/\(f.bits=ab0->f.bo=0)
 |[],_,_,f,hf=>by cases hf
 | g :: r, seen, h,f,hf=>by
  simp only[fJ]at h;have a:gE packed seen g=0:=by
   by_cases b:gE packed seen g=0
   ·exact b
   ·rw[aa b]at h;exact absurd h b
  rw[ad (by simpa using a)]at h;rcases abG.1 hf with rfl|hf
  . rw [k8] at a;split at a
    ·cases a
    . split at a
      ·cases a
      . split at a
        ·rename_i b;exact absurd a b
        . split at a
          ·cases a
          . rename_i d;split at a
            ·cases a
            . rename_i e;refine⟨λc=>?_,λc=>?_⟩
              . have W:¬f.bo<0:=λq=>e ⟨c,.inl q⟩;have a2:¬8*f.type.size<f.bo:=λq=>e ⟨c,.inr (.inl q)⟩;refine⟨by omega,by omega,?_⟩;cases packed
                ·rfl
                ·exact absurd (.inr ⟨c,.inr rfl⟩) d
              . by_cases hw:f.bo=0
                ·exact hw
                ·exact absurd (.inl ⟨c,hw⟩) d
  ·exact LG h f hf
structure iG(p:PL)(n:Nat):Prop where
 b0:0<=p.bit
 b1:p.bit<=n*600000
 s0:0<=p.size
 s1:p.size<=n*75000
 a0:1<=p.bF
 W:p.bF<=16
def yP(packed:Bool)(kind:Int)(p:PL)(f:aL)(g:Int×Int):PL:=
 let b0:=if kind=4 then 0 else p.bit
 let w:=fv packed f g.2;let r:Int×bM:=
  if f.bits=abZ then
   if f.bo=0 then(bE b0 (8*f.type.size),⟨bE b0 (8*f.type.size)/8,0,1,abZ,bE b0 (8*f.type.size)%8,0⟩)
   else
    let b:=if b0/(8*f.type.size)≠(b0+f.bo-1)/(8*f.type.size)then bE b0 (8*f.type.size)else b0
    (b+f.bo,⟨b/8,(b+f.bo-1)/8-b/8+1,1,abZ,b%8,f.bo⟩)
  else(8*(bE (bE b0 8/8) w+g.1),⟨bE (bE b0 8/8) w,g.1,f.type.kind,ab0,0,0⟩)
 ⟨max p.size (bE r.1 8/8),max p.bF w,p.eh++[r.2],r.1⟩
theorem C3{packed:Bool}{kind:Int}{p:PL}{n:Nat}(hn:n<=32)(m:iG p n){f:aL}{g:Int×Int}(y:0<=g.1)(z:g.1<=65536)(a0:1<=g.2)(W:g.2<=16)(j:f.bits=abZ->1<=f.type.size/\f.type.size<=8/\0<=f.bo/\f.bo<=8*f.type.size) :
  iy packed kind p f g=yP packed kind p f g/\iG (iy packed kind p f g) (n+1):=by
 obtain⟨b0,b1,s0,s1,A,C⟩:=m;have o:∃b,(if kind=4 then(0:Int)else p.bit)=b/\0<=b/\b<=n*600000:=by
  split
  ·exact⟨0,rfl,ada _,by omega⟩
  ·exact⟨p.bit,rfl,b0,b1⟩
 obtain⟨b,q,c,c1⟩:=o;have r:∃w,fv packed f g.2=w/\1<=w/\w<=16:=by
  unfold fv;split
  ·exact⟨1,rfl,by omega,by omega⟩
  . split
    ·rename_i h;have:=j h;exact⟨_,rfl,by omega,by omega⟩
    ·exact⟨_,rfl,a0,W⟩
 obtain⟨w,s,w0,w1⟩:=r;unfold iy yP;dsimp only;rw[q,s];have size:∀x:Int,0<=x->x<=(n+1)*600000->B ((c7 x 8).tdiv 8)=bE x 8/8/\bE x 8/8<=(n+1)*75000/\0<=bE x 8/8:=by intro x i t;have hu:=fg (n:=x) (step:=8) (by decide);rw[mV i (by omega) (by decide) (by decide),adr (by omega)];have D:=lh (n:=x) (step:=8) (by decide);refine⟨bD,by omega,by omega⟩
 by_cases d:f.bits=abZ
 . obtain ⟨t0,t1,v0,v1⟩:=j d;rw[aa d,aa d];have k:B (8*f.type.size)=8*f.type.size:=bD;have E:=fg (n:=b) (step:=8*f.type.size) (by omega);have l:c7 b (8*f.type.size)=bE b (8*f.type.size):=mV c (by omega) (by omega) (by omega);unfold l6;dsimp only;by_cases hw:f.bo=0
   . rw[aa hw,aa hw];unfold l7;dsimp only;rw[k,l];obtain⟨e,z2,z3⟩:=size (bE b (8*f.type.size)) (by omega) (by omega);rw[e,adr (a:=bE b (8*f.type.size)) (by omega),adL (a:=bE b (8*f.type.size)) (by omega),show B (bE b (8*f.type.size)/8)=bE b (8*f.type.size)/8 from bD];exact⟨rfl,by show 0<=bE b (8*f.type.size);omega,by show bE b (8*f.type.size)<=_;push_cast;omega,by show 0<=max _ _;omega,by show max _ _<=_;push_cast;omega,by show 1<=max _ _;omega,by show max _ _<=_;omega⟩
   . rw [ad hw,ad hw];unfold l7;dsimp only;have u:iw {p with bF:=max p.bF w,bit:=b} f=if b/(8*f.type.size)≠(b+f.bo-1)/(8*f.type.size)then bE b (8*f.type.size)else b:=by
      unfold iw;dsimp only;rw[k,show B (b+f.bo)=b+f.bo from bD,show B (b+f.bo-1)=b+f.bo-1 from bD,adr c,adr (by omega),l];have F:0<=b/(8*f.type.size):=adz c (by omega);have G:b/(8*f.type.size)<=b:=adA _ c;have H:0<=(b+f.bo-1)/(8*f.type.size):=adz (by omega) (by omega);have I:(b+f.bo-1)/(8*f.type.size)<=b+f.bo-1:=adA _ (by omega);rw[show B (b/(8*f.type.size))=b/(8*f.type.size)from bD,show B ((b+f.bo-1)/(8*f.type.size))=(b+f.bo-1)/(8*f.type.size)from bD]
     rw[u];have v:∃x,(if b/(8*f.type.size)≠(b+f.bo-1)/(8*f.type.size)then bE b (8*f.type.size)else b)=x/\0<=x/\x<=b+64:=by
      split
      ·exact⟨_,rfl,by omega,by omega⟩
      ·exact⟨_,rfl,c,by omega⟩
     obtain⟨x,ex,i,t⟩:=v;rw[ex,show B (x+f.bo)=x+f.bo from bD,show B (x+f.bo-1)=x+f.bo-1 from bD];obtain⟨e,z2,z3⟩:=size (x+f.bo) (by omega) (by omega);rw[e,adr i,adr (by omega),adL i,show B (x/8)=x/8 from bD,show B ((x+f.bo-1)/8)=(x+f.bo-1)/8 from bD,show B ((x+f.bo-1)/8-x/8)=(x+f.bo-1)/8-x/8 from bD,show B ((x+f.bo-1)/8-x/8+1)=(x+f.bo-1)/8-x/8+1 from bD];exact⟨rfl,by show 0<=x+f.bo;omega,by show x+f.bo<=_;push_cast;omega,by show 0<=max _ _;omega,by show max _ _<=_;push_cast;omega,by show 1<=max _ _;omega,by show max _ _<=_;omega⟩
 . rw[ad d,ad d];unfold l7 yl;dsimp only;have J:=fg (n:=b) (step:=8) (by decide);have K:=lh (n:=b) (step:=8) (by decide);rw[mV c (by omega) (by decide) (by decide),adr (a:=bE b 8) (by omega),show B (bE b 8/8)=bE b 8/8 from bD];have L:=fg (n:=bE b 8/8) (step:=w) (by omega);rw[mV (n:=bE b 8/8) (by omega) (by omega) (by omega) (by omega),show B (bE (bE b 8/8) w+g.1)=bE (bE b 8/8) w+g.1 from bD,show B (8*(bE (bE b 8/8) w+g.1))=8*(bE (bE b 8/8) w+g.1)from bD];obtain⟨e,z2,z3⟩:=size (8*(bE (bE b 8/8) w+g.1)) (by omega) (by omega);rw[e];exact⟨rfl,by show 0<=8*_;omega,by show 8*(bE (bE b 8/8) w+g.1)<=_;push_cast;omega,by show 0<=max _ _;omega,by show max _ _<=_;push_cast;omega,by show 1<=max _ _;omega,by show max _ _<=_;omega⟩
end Rb
namespace Rb
open Go
theorem C4{b w:Int}(c:0<w):bE b (8*w)=8*bE (bE b 8/8) w:=by
 unfold bE;have e1:(b+8-1)/8*8/8=(b+8-1)/8:=Int.mul_ediv_cancel _ (by decide);have a:(b+8-1)/8+w-1=(b+8*w-1)/8:=by
  have:b+8*w-1=(b+8-1)+8*(w-1):=by omega
  rw[this,adM _ _ (by decide)];omega
 rw[e1,a,Int.ediv_ediv_of_nonneg (by decide),Int.mul_left_comm]
theorem sS(b:Int):bE b 1=b:=by unfold bE;simp
def ew(packed:Bool)(kind:Int)(a:Int)(f:aL)(g:Int×Int):Int×Int×Int:=
 let b0:=if kind=4 then 0 else a
 if f.bits=abZ then
  (bE b0 (if f.bo=0\/b0%(8*f.type.size)+f.bo>8*f.type.size then 8*f.type.size else 1),f.bo,if packed=abZ\/f.bo=0 then 1 else g.2)
 else(bE b0 (if packed=abZ then 8 else 8*g.2),8*g.1,if packed=abZ then 1 else g.2)
def fW(f:aL)(x:Int×Int):bM:=if f.bits=abZ then⟨x.1/8,if x.2>0 then(x.1+x.2-1)/8-x.1/8+1 else 0,1,abZ,x.1%8,x.2⟩else⟨x.1/8,x.2/8,f.type.kind,ab0,0,0⟩
theorem U_{b n u:Int}(d:0<=b)(hn:1<=n)(f:n<=u):b/u≠(b+n-1)/u↔b%u+n>u:=by
 have a:0<u:=by omega
 have U:=adJ b u;have g:=adp b (adK a);have i:=ado b a;have e:b+n-1=(b%u+n-1)+u*(b/u):=by omega
 rw[e,adM _ _ (adK a)];constructor
 . intro h;apply adN;intro hc;have:(b%u+n-1)/u=0:=Int.ediv_eq_zero_of_lt (by omega) (by omega);omega
 . intro h hc;have c:(b%u+n-1)/u=0:=by omega
   have:=adJ (b%u+n-1) u;have j:=ado (b%u+n-1) a;rw[c]at this;omega
theorem C5{packed:Bool}{kind:Int}{p:PL}{n:Nat}(h:iG p n){f:aL}{g:Int×Int}(a0:1<=g.2)(i:f.bits=abZ->1<=f.type.size/\0<=f.bo/\f.bo<=8*f.type.size/\packed=ab0/\g.2=f.type.size) :
  yP packed kind p f g=⟨max p.size (bE ((ew packed kind p.bit f g).1+(ew packed kind p.bit f g).2.1) 8/8),max p.bF (ew packed kind p.bit f g).2.2,p.eh++[fW f ((ew packed kind p.bit f g).1,(ew packed kind p.bit f g).2.1)],(ew packed kind p.bit f g).1+(ew packed kind p.bit f g).2.1⟩:=by
 obtain⟨b0,b1,s0,s1,q,r⟩:=h;have j:∃b,(if kind=4 then(0:Int)else p.bit)=b/\0<=b:=by
  split
  ·exact⟨0,rfl,ada _⟩
  ·exact⟨p.bit,rfl,b0⟩
 obtain⟨b,k,l⟩:=j;unfold yP ew fW;dsimp only;rw[k];by_cases a:f.bits=abZ
 . obtain ⟨t0,v0,v1,m,e⟩:=i a;simp only[a,aQ];unfold fv;by_cases hw:f.bo=0
   . simp only[hw,a,true_or,aQ,or_true,and_self,Int.add_zero];simp
   . rw[ad hw];have hu:=U_ (u:=8*f.type.size) l (show 1<=f.bo by omega) v1;simp only[m,hw,a,abe,false_or,cc,aQ,and_false];have o:f.bo>0:=by omega
     rw[aa o];by_cases d:b%(8*f.type.size)+f.bo>8*f.type.size
     ·rw[aa (hu.2 d),aa d,e]
     ·rw[ad (λz=>d (hu.1 z)),ad d,sS,e]
 . have a:f.bits=ab0:=by simpa using a
   simp only[a,abe,cc];unfold fv;simp only[a,abe,false_and,or_false,cc];cases packed
   . simp only[abe,cc];have c:=C4 (b:=b) (w:=g.2) (by omega);rw[c];have d1:8*bE (bE b 8/8) g.2/8=bE (bE b 8/8) g.2:=by omega
     have d2:8*g.1/8=g.1:=by omega
     rw[d1,d2,<-adO]
   . simp only[aQ];have c:=C4 (b:=b) (w:=1) (by decide);rw[Int.mul_one]at c;rw[c];have d1:8*bE (bE b 8/8) 1/8=bE (bE b 8/8) 1:=by omega
     have d2:8*g.1/8=g.1:=by omega
     rw[<-c]at d1 ⊢;rw[sS]at d1 ⊢;have d3:8*(bE b 8/8)=bE b 8:=by have:=lh (n:=b) (step:=8) (by decide);omega
     rw[d2,<-d3,<-adO];have d4:bE (8*(bE b 8/8)/8) 1=bE b 8/8:=by rw[sS];omega
     simp
variable{t:ay}{packed:Bool}
structure nD where
 bit:Int
 end_:Int
 bF:Int
 first:List Int
 bits:List Int
def yQ(packed:Bool)(kind:Int)(s:nD)(f:aL)(g:Int×Int):nD:=⟨(ew packed kind s.bit f g).1+(ew packed kind s.bit f g).2.1,max s.end_ ((ew packed kind s.bit f g).1+(ew packed kind s.bit f g).2.1),max s.bF (ew packed kind s.bit f g).2.2,s.first++[(ew packed kind s.bit f g).1],s.bits++[(ew packed kind s.bit f g).2.1]⟩
def yR(packed:Bool)(kind:Int)(s:nD):List aL->Option nD
 |[]=>ab1 s
 |f::r=>if(a_ f.type).2=abZ then yR packed kind (yQ packed kind s f (a_ f.type).1) r else ab2
def mj:List aL->List Int->List Int->List bM
 |f::r,a::x,b::y=>fW f (a,b)::mj r x y
 |_,_,_=>[]
theorem LH:∀(fs:List aL)(x y:List Int)(f:aL)(a b:Int),x.length=fs.length->y.length=fs.length->mj (fs++[f]) (x++[a]) (y++[b])=mj fs x y++[fW f (a,b)]
 |[],[],[],f,a,b,_,_=>rfl
 | g::r,c::x,d::y,f,a,b,U,e=>by simp only[abh,mj];rw[LH r x y f a b (by simpa using U) (by simpa using e)]
structure mW(p:PL)(s:nD)(fs:List aL):Prop where
 bit:s.bit=p.bit
 e0:0<=s.end_
 size:p.size=bE s.end_ 8/8
 bF:s.bF=p.bF
 l1:s.first.length=fs.length
 l2:s.bits.length=fs.length
 eh:p.eh=mj fs s.first s.bits
theorem yS(n:Int):bE n 8/8=(n+7)/8:=by unfold bE;omega
theorem LJ{kind:Int}{p:PL}{s:nD}{fs:List aL}{n:Nat}(hn:n<=32)(b:iG p n)(h:mW p s fs){f:aL}{g:Int×Int}(i:0<=g.1)(j:g.1<=65536)(a0:1<=g.2)(W:g.2<=16)(a:f.bits=abZ->1<=f.type.size/\f.type.size<=8/\0<=f.bo/\f.bo<=8*f.type.size/\packed=ab0/\g.2=f.type.size) :
  mW (iy packed kind p f g) (yQ packed kind s f g) (fs++[f])/\iG (iy packed kind p f g) (n+1):=by
 obtain⟨e1,c⟩:=C3 (packed:=packed) (kind:=kind) hn b i j a0 W (λq=>⟨(a q).1,(a q).2.1,(a q).2.2.1,(a q).2.2.2.1⟩);refine⟨?_,c⟩;have d:=C5 (kind:=kind) b (f:=f) (g:=g) a0 (λq=>⟨(a q).1,(a q).2.2.1,(a q).2.2.2.1,(a q).2.2.2.2.1,(a q).2.2.2.2.2⟩);have e:=c.b0;rw[e1]at e;rw[e1,d];rw[d]at e;unfold yQ;rw[h.bit];have hs:=h.size;have he:=h.e0;refine⟨rfl,?_,?_,?_,?_,?_,?_⟩
 ·show 0<=max _ _;omega
 . show max p.size _=bE (max _ _) 8/8;rw[hs,yS,yS,yS];omega
 ·show max s.bF _=max p.bF _;rw[h.bF]
 ·show(s.first++[_]).length=(fs++[f]).length;simp[h.l1]
 ·show(s.bits++[_]).length=(fs++[f]).length;simp[h.l2]
 . show p.eh++[_]=_;rw[h.eh,LH _ _ _ _ _ _ h.l1 h.l2]
def mX(packed:Bool)(f:aL):Prop:=(f.bits=abZ->f.type.kind=1/\1<=f.type.size/\f.type.size<=8/\0<=f.bo/\f.bo<=8*f.type.size/\packed=ab0)
theorem sU{l:List aL}{b:List (List UInt8)}(h:fJ packed b l=0):∀f∈l,mX packed f:=λf hf a=>by obtain⟨c,d,e⟩:=yo h f hf a;obtain⟨w1,w2,w3⟩:=(LG h f hf).1 a;exact⟨c,d,e,w1,w2,w3⟩
def sV(t:ay):Prop:=(a_ t).2=abZ->0<=(a_ t).1.1/\(a_ t).1.1<=65536/\1<=(a_ t).1.2/\(a_ t).1.2<=16
theorem mY(h:t.kind=1\/t.kind=2):a_ t=((t.size,t.size),abZ):=by rw[j7,aa h]
theorem LK{packed:Bool}{kind:Int}:∀{l:List aL}{p:PL}{s:nD}{fs:List aL}{n:Nat},n+l.length<=32->iG p n->mW p s fs->(∀f∈l,mX packed f/\sV f.type) ->
  (∀q,ei packed kind p l=ab1 q->∃A,yR packed kind s l=ab1 A/\mW q A (fs++l)/\iG q (n+l.length))/\(ei packed kind p l=ab2->yR packed kind s l=ab2)
 | [],p,s,fs,n,hn,b,h,hl=>by
  refine⟨λq a=>?_,λa=>?_⟩
  . simp only[ei,ZW.injEq]at a;subst a;exact⟨s,rfl,by simpa using h,b⟩
  ·simp only[ei]at a;cases a
 | f :: r,p,s,fs,n,hn,b,h,hl=>by
  obtain⟨o1,o2⟩:=hl f (abK ..);have c:n+1+r.length<=32:=by rw[ac7]at hn;omega
  simp only[ei,yR,oE];by_cases ht:(a_ f.type).2=abZ
  . rw [aa ht,aa ht];obtain⟨b1,b2,b3,d⟩:=o2 ht;obtain ⟨U,e⟩:=LJ (packed:=packed) (kind:=kind) (by omega) b h b1 b2 b3 d (λi=>by
      obtain⟨j,z2,z3,z4,z5,k⟩:=o1 i;exact⟨z2,z3,z4,z5,k,by rw[mY (.inl j)]⟩)
    obtain⟨i1,m⟩:=LK (kind:=kind) c e U (λg o=>hl g (abH _ o));refine⟨λq a=>?_,m⟩;obtain⟨A,t,u,v⟩:=i1 q a;refine⟨A,t,by simpa using u,?_⟩;rw[ac7,show n+(r.length+1)=n+1+r.length by omega];exact v
  . rw[ad ht,ad ht];exact⟨λq a=>(by cases a),λ_=>rfl⟩
theorem iG.zero:iG ⟨0,1,[],0⟩ 0:=⟨ada _,by simp,ada _,by simp,ada _,by decide⟩
theorem mW.zero:mW ⟨0,1,[],0⟩ ⟨0,0,1,[],[]⟩ []:=⟨rfl,ada _,by decide,rfl,rfl,rfl,rfl⟩
theorem yT(h:dc t=0)(hk:t.kind=3\/t.kind=4):1<=t.aG.length/\t.aG.length<=32:=by
 rw[gF]at h;split at h
 ·cases h
 . rw[bg,bg,bg]at h;split at h
   ·cases h
   ·omega
theorem LL(h:dc t=0)(hk:t.kind=1\/t.kind=2):1<=t.size/\t.size<=16:=by
 rw[gF]at h;split at h
 ·cases h
 . have a:ep t.size 8=abZ\/ep t.size 16=abZ:=by
     rcases hk with U|U
     . rw[aa U]at h;split at h
       ·exact .inl ‹_›
       ·cases h
     . rw[bg,aa U]at h;split at h
       ·exact .inr ‹_›
       ·cases h
   rcases a with a|a<;>(simp[ep]at a;omega)
theorem LM(h:dc t=0)(hk:t.kind=5):1<=t.bO/\t.bO<=65536:=by
 rw[gF]at h;split at h
 ·cases h
 . rw[bg,bg]at h;split at h
   ·cases h
   ·omega
theorem yU:∀t:ay,dc t=0->sV t:=by
 refine ay.ind λt g i hs=>?_;intro h;rcases p8 hs with k|k|k|k
 ·have:=LL hs (.inl k);rw[mY (.inl k)];dsimp only;omega
 ·have:=LL hs (.inr k);rw[mY (.inr k)];dsimp only;omega
 . obtain⟨e,he,j⟩:=l5 hs k;have hc:=LM hs k;rw[j7,bg,aa k,he]at h ⊢;simp only[j6,ZL,du]at h ⊢;obtain⟨b1,b2,b3,l⟩:=i e (by rw[he];simp) j h.1;have hm:0<=(a_ e).1.1*t.bO:=ads b1 (by omega);have o:(a_ e).1.1*t.bO<=65536*65536:=adt b2 hc.2 (by omega) (by decide);have hw:B ((a_ e).1.1*t.bO)=(a_ e).1.1*t.bO:=bD;have c:B ((a_ e).1.1*t.bO)<=65536:=of_decide_eq_true h.2;rw[hw]at c ⊢;exact⟨hm,c,b3,l⟩
 . have hk:t.kind=3\/t.kind=4:=k;have hl:=yT hs hk;have d:=yp hs hk;rw[j7,bg,bg]at h ⊢;cases b:ei t.packed t.kind ⟨0,1,[],0⟩ t.aG with
   |none=>rw[b]at h;cases h
   | some p=>rw[b]at h;dsimp only at h ⊢;obtain⟨A,q,r,a⟩:=(LK (packed:=t.packed) (kind:=t.kind) (by omega) iG.zero mW.zero (λf hf=>⟨sU d f hf,g f hf (oB d f hf)⟩)).1 p b;have hu:=fg (n:=p.size) (step:=p.bF) (by have:=a.a0;omega);have m:=mV (n:=p.size) (step:=p.bF) a.s0 (by have:=a.s1;omega) (by have:=a.a0;omega) (by have:=a.W;omega);rw[m]at h ⊢;have:=a.s0;exact⟨by omega,by simpa using h,a.a0,a.W⟩
end Rb
namespace Rb
open Go
variable{b s:Int}{H:O}
theorem LN{b s x:Int}(hs:0<s)(a:x%s=0)(c:b<=x)(U:x<=b+s-1):bE b s=x:=by
 have hu:=fg (n:=b) hs;have hm:=lh (n:=b) hs;rcases Int.le_total x (bE b s)with h|h
 . have e:(bE b s-x)%s=0:=by rw[adP,a,hm];simp
   rw[adQ (by omega) (by omega)]at e;omega
 . have e:(x-bE b s)%s=0:=by rw[adP,a,hm];simp
   rw[adQ (by omega) (by omega)]at e;omega
theorem C6(hs:0<s)(h:b%s=0):bE b s=b:=LN hs h (ada _) (by omega)
theorem C7(hs:0<s)(h:b%s≠0):bE (b+1) s=bE b s:=by have hu:=fg (n:=b) hs;have hm:=lh (n:=b) hs;have a:bE b s≠b:=λe=>h (by rw[<-e];exact hm);exact LN hs hm (by omega) (by omega)
theorem cy.C8{n0 sz a len m:Nat}{x y:I}{cells news:List I}{K:ab}(h:cy n0 H sz x len cells)(b:n0<=H.n)(d:fh H sz y=ab1 (m,news))(hn:news.length=m*sz)(hs:news.all I.scalar=abZ)(f:m≠0)
  (g:(len+m)*a<=140737488355328) (hl:len+m<=9223372036854775807) (j:∀H',cy n0 H' sz (.aj (.own H.n) (len+m) (cells++news)) (len+m) (cells++news)->H.n<H'.n->(∀i o,At H i o->(∀l c,x ≠ .aj (.own i) l c)->At H' i o)->K (.aj (.own H.n) (len+m) (cells++news)) H'):bJ (cI H ab0 sz a x y) K:=by
 obtain⟨tk,rfl,hc,k⟩:=h;have hlen:(cells++news).length=(len+m)*sz:=by simp[hc,hn,aae]
 have grow:∀tk:Tok,tk = .full\/(tk = .nil/\len=0)->cI H ab0 sz a (.aj tk len cells) y=ab1 (.aj (.own H.n) (len+m) (cells++news),H.push (.tok ((len+m)*sz) sz)):=by intro tk ht;simp only[cI,d,hs,not_true_eq_false,cc,ad f];rw[ad (by simp only[ac3];exact⟨hc,g,hl⟩)];rcases ht with rfl|⟨rfl,_⟩<;>rfl
 have fresh:K (.aj (.own H.n) (len+m) (cells++news)) (H.push (.tok ((len+m)*sz) sz)):=
  j _ ⟨_,rfl,hlen,.inr (.inr ⟨H.n,rfl,b,At.new H _⟩)⟩ (ab6 _) (λi o h _=>h.push _)
 rcases k with ht|ht|⟨t,rfl,U,p⟩
 ·exact⟨_,_,grow tk (.inr ht),fresh⟩
 ·exact⟨_,_,grow tk (.inl ht),fresh⟩
 . refine ⟨.aj (.own H.n) (len+m) (cells++news),(H.set t .gone).push (.tok ((len+m)*sz) sz),?_,j _ ⟨_,rfl,hlen,.inr (.inr ⟨H.n,rfl,b,At.new (H.set t .gone) _⟩)⟩ (ab6 _) (λi o hi ho=>(hi.bq (λe=>?_) _).push _)⟩
   . simp only[cI,d,hs,not_true_eq_false,cc,ad f];rw[ad (by simp only[ac3];exact⟨hc,g,hl⟩)];simp[p.2]
   . subst e;exact ho _ _ rfl
def cm(sz al:Int)(o1 o2:I)(lg:Bool):List I:=[D sz,D al,o1,o2,.bool lg]
def ml(ix:I)(l:List Int):Prop:=∃tk,ix = .aj tk l.length (l.map (D))
theorem iH{i:Nat}{sz al:Int}{o1 o2:I}{lg:Bool}(h:At H i (.row (cm sz al o1 o2 lg))) :
  af H 1 ab0 (.ptr i 0)=ab1 (D sz)/\af H 1 ab0 (.ptr i 1)=ab1 (D al)/\af H 1 ab0 (.ptr i 2)=ab1 o1/\af H 1 ab0 (.ptr i 3)=ab1 o2/\af H 1 ab0 (.ptr i 4)=ab1 (.bool lg)/\af H 5 abZ (.ptr i 0)=ab1 (.agg (cm sz al o1 o2 lg)):=by
 refine⟨?_,?_,?_,?_,?_,?_⟩<;>(rw[h.load];rfl)
def yV(C:Ctx)(t:ay):Prop:=∀(H:O)(Q:ab),(∀sz al l1 l2 o1 o2 lg H',O.Ext H H'->ml o1 l1->ml o2 l2->((a_ t).2=abZ->lg=ab0/\sz=(a_ t).1.1/\al=(a_ t).1.2/\(t.kind=3\/t.kind=4->gx t=mj t.aG l1 l2/\l1.length=t.aG.length/\l2.length=t.aG.length))->((a_ t).2=ab0->lg=abZ)->Q (.agg (cm sz al o1 o2 lg)) H')->ag C 50 [.agg t.cells] H Q
end Rb
namespace Rb
open Go
variable{t:ay}{i:Nat}
section
variable{C:Ctx}(ar:cY C)(M:Cl (ag C) S.cn)
include ar M
theorem C9{e:ay}(h:t.bf[i]?=ab1 e):∃p,aP ab2 6 (aD ay.cells t.bf) (D i)=ab1 p/\∀H,af H 6 abZ p=ab1 (.agg e.cells):=⟨_,cG (ZF.1 h).1,λH=>dH ay.len (by decide) H h⟩
theorem LO{f:aL}(h:t.aG[i]?=ab1 f):∃p q,aP ab2 9 (aD aL.cells t.aG) (D i)=ab1 p/\aJ 1 p=ab1 q/\∀H,af H 6 abZ q=ab1 (.agg f.type.cells):=⟨_,_,cG (ZF.1 h).1,rfl,λH=>CV H h⟩
theorem Va(u:t.aG.length<=9223372036854775807)(hle:t.bf.length<=9223372036854775807)(hf:∀f∈t.aG,bX (ag C) 77 [.agg f.type.cells] (.bool (eX f.type)))(n:∀e∈t.bf,bX (ag C) 77 [.agg e.cells] (.bool (eX e))):bX (ag C) 77 [.agg t.cells] (.bool (eX t)):=by
 intro H Q l;refine S.Rt M ?_;unfold S.f77;simp only[ae];rw[J6]at l;have aG:∀(r:List aL)(k:Nat)(b:Bool),t.aG.drop k=r->(b||r.any λf=>eX f.type)=(((t.kind==2&&decide (t.size>1))||t.bf.any eX)||t.aG.any λf=>eX f.type)->au (S.w5 (ag C) (.ak t.cells) Q) ([.bool b,D k],H):=by
  intro r;induction r with
  | nil=>intro k b c a;have hle:=dx c;refine au.step ?_;simp only[ae,S.w5,cN,gh,G,bP,aq,bp,aX,ai];rw[dg];rw[<-a]at l;simpa using l
  | cons f r d=>
   intro k b c a;obtain⟨o,g,i⟩:=di c;obtain⟨p,q,e1,s,m⟩:=LO ar M g;have hw:aaN .i64 ((k:Int)+1)=((k+1:Nat):Int):=by rw[bD];simp
   rw[ac6]at a;refine au.step ?_;simp only[ae,S.w5,cN,gh,G,bP,aq,bp,aX,ai];rw[cp];cases b with
   | false=>simp only[b4,aQ,e1,s,m,G];refine hf f (acK g) _ _ ?_;simp only[ae,aw,S.w4,aq,bp,bu,G,hw];exact d (k+1) _ i (by simpa using a)
   | true=>simp only[ae,b4,aw,S.w4,aq,bp,bu,G,hw];rw[aI];exact d (k+1) _ i (by simpa using a)
 have elems:∀(r:List ay)(k:Nat)(b:Bool),t.bf.drop k=r->(b||r.any eX)=((t.kind==2&&decide (t.size>1))||t.bf.any eX)->au (S.w6 (ag C) (.ak t.cells) Q) ([.bool b,D k],H):=by
  intro r;induction r with
  | nil=>intro k b c a;have hle:=dx c;refine au.step ?_;simp only[ae,S.w6,cN,hB,G,bP,aq,bp,aX,ai];rw[dg];simp only[aw,S.HW,aq];exact aG t.aG 0 b rfl (by rw[<-a];simp)
  | cons e r d=>
   intro k b c a;obtain⟨o,g,i⟩:=di c;obtain⟨p,e1,m⟩:=C9 ar M g;have hw:aaN .i64 ((k:Int)+1)=((k+1:Nat):Int):=by rw[bD];simp
   rw[ac6]at a;refine au.step ?_;simp only[ae,S.w6,cN,hB,G,bP,aq,bp,aX,ai];rw[cp];cases b with
   | false=>simp only[b4,aQ,e1,m,G];refine n e (acK g) _ _ ?_;simp only[ae,aw,S.wZ,aq,bp,bu,G,hw];exact d (k+1) _ i (by simpa using a)
   | true=>simp only[ae,b4,aw,S.wZ,aq,bp,bu,G,hw];rw[aI];exact d (k+1) _ i (by simpa using a)
 have j:S.w7 (ag C) (.ak t.cells) Q [.bool (t.kind==2&&decide (t.size>1))] H:=by unfold S.w7;simp only[aq];exact elems t.bf 0 _ rfl rfl
 simp only[gr,aM,cN,iX,G,bc,bR,aw];apply aF<;>intro h
 . simp only[k6,G,dS];rw[h,ac9]at j;exact j
 . have h:(t.kind==2)=ab0:=by simpa using h
   rw[h,ac_]at j;exact j
theorem Vb:∀t:ay,t.ok->bX (ag C) 77 [.agg t.cells] (.bool (eX t)):=by refine ay.ind λt a b ht=>?_;obtain⟨U,c,d,g⟩:=dq ht;exact Va ar M U d (λf hf=>a f hf (c f hf)) (λe he=>b e he (g e he))
theorem Vc(ht:t.ok)(u:t.aG.length<=9223372036854775807)(hle:t.bf.length<=9223372036854775807)(hf:∀f∈t.aG,bX (ag C) 49 [.agg f.type.cells] (.bool (fe f.type)))(n:∀e∈t.bf,bX (ag C) 49 [.agg e.cells] (.bool (fe e))):bX (ag C) 49 [.agg t.cells] (.bool (fe t)):=by
 intro H Q l;refine S.Q3 M ?_;unfold S.f49;simp only[ae];rw[J7]at l;have aG:∀(r:List aL)(k:Nat)(b:Bool),t.aG.drop k=r->(b||r.any λf=>fe f.type)=(((t.packed&&eX t)||t.bf.any fe)||t.aG.any λf=>fe f.type)->au (S.vD (ag C) (.ak t.cells) Q) ([.bool b,D k],H):=by
  intro r;induction r with
  | nil=>intro k b c a;have hle:=dx c;refine au.step ?_;simp only[ae,S.vD,cN,gh,G,bP,aq,bp,aX,ai];rw[dg];rw[<-a]at l;simpa using l
  | cons f r d=>
   intro k b c a;obtain⟨o,g,i⟩:=di c;obtain⟨p,q,e1,s,m⟩:=LO ar M g;have hw:aaN .i64 ((k:Int)+1)=((k+1:Nat):Int):=by rw[bD];simp
   rw[ac6]at a;refine au.step ?_;simp only[ae,S.vD,cN,gh,G,bP,aq,bp,aX,ai];rw[cp];cases b with
   | false=>simp only[b4,aQ,e1,s,m,G];refine hf f (acK g) _ _ ?_;simp only[ae,aw,S.vC,aq,bp,bu,G,hw];exact d (k+1) _ i (by simpa using a)
   | true=>simp only[ae,b4,aw,S.vC,aq,bp,bu,G,hw];rw[aI];exact d (k+1) _ i (by simpa using a)
 have elems:∀(r:List ay)(k:Nat)(b:Bool),t.bf.drop k=r->(b||r.any fe)=((t.packed&&eX t)||t.bf.any fe)->au (S.vF (ag C) (.ak t.cells) Q) ([.bool b,D k],H):=by
  intro r;induction r with
  | nil=>intro k b c a;have hle:=dx c;refine au.step ?_;simp only[ae,S.vF,cN,hB,G,bP,aq,bp,aX,ai];rw[dg];simp only[aw,S.G_,aq];exact aG t.aG 0 b rfl (by rw[<-a];simp)
  | cons e r d=>
   intro k b c a;obtain⟨o,g,i⟩:=di c;obtain⟨p,e1,m⟩:=C9 ar M g;have hw:aaN .i64 ((k:Int)+1)=((k+1:Nat):Int):=by rw[bD];simp
   rw[ac6]at a;refine au.step ?_;simp only[ae,S.vF,cN,hB,G,bP,aq,bp,aX,ai];rw[cp];cases b with
   | false=>simp only[b4,aQ,e1,m,G];refine n e (acK g) _ _ ?_;simp only[ae,aw,S.vA,aq,bp,bu,G,hw];exact d (k+1) _ i (by simpa using a)
   | true=>simp only[ae,b4,aw,S.vA,aq,bp,bu,G,hw];rw[aI];exact d (k+1) _ i (by simpa using a)
 have j:S.vG (ag C) (.ak t.cells) Q [.bool (t.packed&&eX t)] H:=by unfold S.vG;simp only[aq];exact elems t.bf 0 _ rfl rfl
 simp only[gr,aM,cN,l3,G,bR,aw];apply aF<;>intro h
 . simp only[jx,G];refine Vb ar M t ht _ _ ?_;rw[h,ac9]at j;exact j
 . have h:t.packed=ab0:=by simpa using h
   rw[h,ac_]at j;exact j
theorem Vd:∀t:ay,t.ok->bX (ag C) 49 [.agg t.cells] (.bool (fe t)):=by refine ay.ind λt a b ht=>?_;obtain⟨U,c,d,g⟩:=dq ht;exact Vc ar M ht U d (λf hf=>a f hf (c f hf)) (λe he=>b e he (g e he))
end
end Rb
