/- A part of the proof (part 7): see the last text. -/
import Derived.Test.YteboppjdnpoglaaGreatDoorRb6
import Derived.Test.YteboppjdnpoglaaGreatDoorRb5
import Derived.Test.YteboppjdnpoglaaGreatDoorRb3
import Derived.Test.YteboppjdnpoglaaGreatDoorRb2
import Derived.Test.YteboppjdnpoglaaGreatDoorTie
import Derived.Test.YteboppjdnpoglaaGreatDoorCards
import Derived.SizedLaws
set_option linter.unusedVariables false
set_option linter.unusedSimpArgs false
set_option linter.unusedSectionVars false
open Bool renaming and_eq_true→aar, and_true→aea, false_eq_true→abW, not_false→adG, not_true→adH
open Go.IntKind renaming max→adi
open Go.Lib renaming TabIs→afw, cells_of_tab→afx, tabData→afv
open Int renaming le_refl→adR, le_trans→aft, mul_le_mul_of_nonneg_right→afi, toNat_natCast→aeq
open List renaming append_assoc→aeo, append_nil→adv, drop_length→afu, flatMap_append→aeD, flatMap_cons→ac0, foldl_cons→aaW, getElem?_cons_succ→ac6, getElem?_cons_zero→ac5, getElem?_eq_getElem→abb, getElem?_eq_some_iff→aal, getElem?_map→aba, length_append→adm, length_cons→adN, length_map→abI, length→afh, mem_cons_of_mem→acp, mem_cons_self→acs, mem_cons→aco, mem_map→acF, mem_of_getElem?→adq, nil_append→aeh, not_mem_nil→afy, range→aa_, replicate_succ→abn, replicate→KT
open Nat renaming div_le_self→afs, le_refl→hb, mod_lt→afr, mul_comm→afq, one_mul→adk, zero_le→aaU
open Option renaming some→aaC
open Bool renaming false→acJ, true→acI
open Option renaming some→acK
noncomputable section
namespace Go.Proofs.YteboppjdnpoglaaGreatDoor.rb
open Rb
noncomputable section
def ta:List (Nat×List I×I):=[
  (217,[.int .u8 (.ofNat 32)],.bool acJ),
  (137,[.str [118,97,114,32,116,104,114,101,97,100,32,115,116,114,117,99,116,32,117,110,105,111,110,32,112,97,99,107,101,100,32,117,56,32,117,49,54,32,117,51,50,32,117,54,52,32,97,56,32,97,49,54,32,97,51,50,32,97,54,52,32,97,49,50,56,32,108,101,116,32,115,101,116,32,119,114,105,116,101,32,115,116,111,114,101,32,108,111,97,100,50,32,115,116,111,114,101,50,32,102,101,110,99,101,32,105,102,32,101,108,115,101,32,119,104,105,108,101,32,112,114,105,110,116,32,114,101,97,100,32,108,111,97,100,32,97,100,100,32,115,119,97,112,32,99,97,115,32,114,108,120,32,97,99,113,32,114,101,108,32,115,99]],.aq .dead 34 [.str [118,97,114],.str [116,104,114,101,97,100],.str [115,116,114,117,99,116],.str [117,110,105,111,110],.str [112,97,99,107,101,100],.str [117,56],.str [117,49,54],.str [117,51,50],.str [117,54,52],.str [97,56],.str [97,49,54],.str [97,51,50],.str [97,54,52],.str [97,49,50,56],.str [108,101,116],.str [115,101,116],.str [119,114,105,116,101],.str [115,116,111,114,101],.str [108,111,97,100,50],.str [115,116,111,114,101,50],.str [102,101,110,99,101],.str [105,102],.str [101,108,115,101],.str [119,104,105,108,101],.str [112,114,105,110,116],.str [114,101,97,100],.str [108,111,97,100],.str [97,100,100],.str [115,119,97,112],.str [99,97,115],.str [114,108,120],.str [97,99,113],.str [114,101,108],.str [115,99]]),
  (186,[.aq .dead 34 [.str [118,97,114],.str [116,104,114,101,97,100],.str [115,116,114,117,99,116],.str [117,110,105,111,110],.str [112,97,99,107,101,100],.str [117,56],.str [117,49,54],.str [117,51,50],.str [117,54,52],.str [97,56],.str [97,49,54],.str [97,51,50],.str [97,54,52],.str [97,49,50,56],.str [108,101,116],.str [115,101,116],.str [119,114,105,116,101],.str [115,116,111,114,101],.str [108,111,97,100,50],.str [115,116,111,114,101,50],.str [102,101,110,99,101],.str [105,102],.str [101,108,115,101],.str [119,104,105,108,101],.str [112,114,105,110,116],.str [114,101,97,100],.str [108,111,97,100],.str [97,100,100],.str [115,119,97,112],.str [99,97,115],.str [114,108,120],.str [97,99,113],.str [114,101,108],.str [115,99]],.str [115]],.int .i64 (.negSucc 0))]
def DK:List (Nat×List I×I):=[
  (50,[.str [118,97,114,32,115,32,115,116,114,117,99,116,32,123,32,97,32,117,56,32,59,32,98,32,117,51,50,32,58,32,51,32,59,32,99,32,117,51,50,32,58,32,57,32,59,32,100,32,117,56,32,59,32,125,32,59,32,116,104,114,101,97,100,32,123,32,119,114,105,116,101,32,115,46,99,32,61,32,53,32,59,32,112,114,105,110,116,32,114,101,97,100,32,115,46,100,32,59,32,125]],.aA [.agg [.aq .dead 1 [.str [115],.int .i64 (.ofNat 3),.int .i64 (.ofNat 0),.bool acJ,.aq .dead 4 [.str [97],.int .i64 (.ofNat 1),.int .i64 (.ofNat 1),.bool acJ,.aq .dead 0 [],.int .i64 (.ofNat 0),.aq .dead 0 [],.bool acJ,.int .i64 (.ofNat 0),.str [98],.int .i64 (.ofNat 1),.int .i64 (.ofNat 4),.bool acJ,.aq .dead 0 [],.int .i64 (.ofNat 0),.aq .dead 0 [],.bool acI,.int .i64 (.ofNat 3),.str [99],.int .i64 (.ofNat 1),.int .i64 (.ofNat 4),.bool acJ,.aq .dead 0 [],.int .i64 (.ofNat 0),.aq .dead 0 [],.bool acI,.int .i64 (.ofNat 9),.str [100],.int .i64 (.ofNat 1),.int .i64 (.ofNat 1),.bool acJ,.aq .dead 0 [],.int .i64 (.ofNat 0),.aq .dead 0 [],.bool acJ,.int .i64 (.ofNat 0)],.int .i64 (.ofNat 0),.aq .dead 0 []],.aq .dead 1 [.aq .dead 2 [.int .i64 (.ofNat 3),.int .i64 (.ofNat 1),.str [],.str [],.int .i64 (.ofNat 0),.str [115],.aq .dead 1 [.str [99],.aq .dead 0 []],.aq .dead 1 [.int .i64 (.ofNat 1),.int .u64 (.ofNat 5),.str [],.int .i64 (.ofNat 0),.int .i64 (.ofNat 0),.str [],.aq .dead 0 [],.aq .dead 0 []],.aq .dead 0 [],.aq .dead 0 [],.int .i64 (.ofNat 10),.int .i64 (.ofNat 1),.str [],.str [],.int .i64 (.ofNat 0),.str [],.aq .dead 0 [],.aq .dead 1 [.int .i64 (.ofNat 4),.int .u64 (.ofNat 0),.str [],.int .i64 (.ofNat 0),.int .i64 (.ofNat 0),.str [115],.aq .dead 1 [.str [100],.aq .dead 0 []],.aq .dead 0 []],.aq .dead 0 [],.aq .dead 0 []]]],.agg [.int .i64 (.ofNat 0),.int .i64 (.ofNat 0)]])]
theorem Yy:forced (nR (qX RbNa) ta)=acI:=by kernel_rfl
theorem NF:h0 (ai C) (gS (ta++RbNa)):=qU km (uz ND) ND (er Yy)
theorem Yz:forced (nR (qX (ta++RbNa)) DK)=acI:=by kernel_rfl
theorem YA:h0 (ai C) (gS (DK++(ta++RbNa))):=qU km (uz NF) NF (er Yz)
theorem YB:forced (nR (qX (DK++(ta++RbNa))) [(6,[],.bool acI)])=acI:=by kernel_rfl
theorem YC:h0 (ai C) (gS [(6,[],.bool acI)]):=qU km (uz YA) ux (N:=[(6,[],.bool acI)]) (er YB)
end
end Go.Proofs.YteboppjdnpoglaaGreatDoor.rb
namespace Rb
open Go
variable{H:Z}{x:I}{A:List bH}{l:List E}
mutual
theorem YD:∀(l:Int)(e:E),(gE l e).length<=eo e
 | l,.mk kind n V op a_ place br=>by have h1:=NG l place;have a:=zC l br;rw[gE,eo,adm,adm];split<;>simp<;>omega
theorem zC:∀(l:Int)(x:List E),(dD l x).length<=ed x
 |l,[]=>by rw[dD,ed];simp
 | l,e::r=>by have h1:=YD l e;have a:=zC l r;rw[dD,ed,adm];omega
theorem NG:∀(l:Int)(x:aJ),(gw l x).length<=gd x
 | l,.mk var ax=>by have h1:=NH l ax;rw[gw,gd];omega
theorem NH:∀(l:Int)(x:List aI),(gV l x).length<=gD x
 |l,[]=>by rw[gV,gD];simp
 | l,e::r=>by have h1:=YE l e;have a:=NH l r;rw[gV,gD,adm];omega
theorem YE:∀(l:Int)(x:aI),(mH l x).length<=k8 x
 | l,.mk field aS=>by have h1:=zC l aS;rw[mH,k8];omega
end
mutual
theorem YF:∀x:aC,(j2 x).length<=jI x
 | .mk kind ay V b9 a_ place bn aZ bw=>by have h1:=NG ay place;have a:=zC ay bn;have b:=zD aZ;have c:=zD bw;rw[j2,jI];simp only[adm];split<;>simp<;>omega
theorem zD:∀l:List aC,(ey l).length<=cS l
 |[]=>by rw[ey,cS];simp
 | e::r=>by have h1:=YF e;have a:=zD r;rw[ey,cS,adm];omega
end
def gO(H H':Z):Prop:=H.n<=H'.n/\∀i cs,At H i (.row cs)->At H' i (.row cs)
theorem gO.refl(H:Z):gO H H:=⟨hb _,λ_ _ h=>h⟩
theorem gO.trans{a b c:Z}(h:gO a b)(k:gO b c):gO a c:=⟨Nat.le_trans h.1 k.1,λi cs hi=>k.2 i cs (h.2 i cs hi)⟩
theorem gO.push(H:Z)(o:cx):gO H (H.push o):=⟨Nat.le_succ _,λ_ _ h=>h.push _⟩
theorem Left.lf{H H':Z}(h:Left 0 H H'):gO H H':=⟨h.1,λi cs hi=>h.row hi⟩
def hq(a:bH):List I:= .int .i64 (B a.kind) :: .int .i64 a.a_ :: .int .i64 a.ay::a.place.cells
def j7(H:Z)(x:I)(A:List bH):Prop:=cc 0 H 5 x A.length (A.flatMap hq)
theorem NI(h:j7 H x A)(hn:A.length<=1000000000000)(a b d:Int)(y:aJ){a0:Int}(e:a0=B a){K:aa}(f:∀c H',gO H H'->j7 H' c (A++[⟨a,b,d,y⟩])->K c H') :
  Do (bS [.int .i64 0,.int .i64 0,.int .i64 0,.str [],.aq .nil 0 []] [(0,1,.int .i64 a0),(1,1,.int .i64 b),(2,1,.int .i64 d),(3,2,.agg y.cells)]) λz=>bs (cI H acJ 5 1 [.int .i64 0,.int .i64 0,.int .i64 0,.str [],.aq .nil 0 []] [(0,5,z)]) λz2 H2=>bs (cZ H2 acJ 5 64 x z2) K:=by
 subst e;rw[aJ.aX,show bS [.int .i64 0,.int .i64 0,.int .i64 0,.str [],.aq .nil 0 []] [(0,1,.int .i64 (B a)),(1,1,.int .i64 b),(2,1,.int .i64 d),(3,2,.agg [.str y.var,av aI.cells y.ax])]=acK (.agg [.int .i64 (B a),.int .i64 b,.int .i64 d,.str y.var,av aI.cells y.ax])from rfl,O,show cI H acJ 5 1 [.int .i64 0,.int .i64 0,.int .i64 0,.str [],.aq .nil 0 []] [(0,5,.agg [.int .i64 (B a),.int .i64 b,.int .i64 d,.str y.var,av aI.cells y.ax])]=acK (.aq .full 1 [.int .i64 (B a),.int .i64 b,.int .i64 d,.str y.var,av aI.cells y.ax],H)from rfl,aN];exact h.app (aaU _) (m:=1) rfl rfl rfl (by decide) (by omega) (by omega) λc H' g lf=>f c H' lf.lf (by unfold j7;rw[adm,aeD];simpa[hq,aJ.aX]using g)
section
variable{C:Ctx}(ak:cP C)(hT:Cl (ai C) S.b7)
def oJ(C:Ctx)(l:List E):Prop:=∀{H:Z}{Q:aa}{x:I}{A:List bH}{ay:Int},j7 H x A->A.length+(dD ay l).length<=1000000000000->(∀H' a,gO H H'->j7 H' a (A++dD ay l)->Q a H')->ai C 25 [av E.cells l,.int .i64 ay,x] H Q
def tc(C:Ctx)(l:List aC):Prop:=∀{H:Z}{Q:aa}{x:I}{A:List bH},j7 H x A->A.length+(ey l).length<=1000000000000->(∀H' a,gO H H'->j7 H' a (A++ey l)->Q a H')->ai C 7 [av aC.cells l,x] H Q
include ak hT
theorem NJ{y:aJ}(q:y.ax.length<=9223372036854775807)(h:∀p∈y.ax,oJ C p.aS){Q:aa}{ay:Int}(b:j7 H x A)(U:A.length+(gw ay y).length<=1000000000000)(hQ:∀H' e,gO H H'->j7 H' e (A++gw ay y)->Q e H'):ai C 24 [.agg y.cells,.int .i64 ay,x] H Q:=by
 refine S.QK hT ?_;unfold S.f24;simp only[ag];rw[nt]at U hQ;simp only[k4,aN];have main:∀(r:List aI)(i:Nat)(M:List bH)(H2:Z)(a:I),y.ax.drop i=r->gO H H2->j7 H2 a M->M++gV ay r=A++gV ay y.ax->ar (S.vd (ai C) (.int .i64 ay) (.ae y.cells) Q) ([a,.int .i64 i],H2):=by
  intro r;induction r with
  | nil=>intro i M H2 a c lf d ha;have hle:=c7 c;refine ar.step ?_;simp only[ag,S.vd,T,bE,iP,ir,bC,aY,O,au];rw[cQ];rw[gV,adv]at ha;exact hQ H2 a lf (by rw[<-ha];exact d)
  | cons p r f=>
   intro i M H2 a c lf d ha;obtain⟨g,b,j⟩:=c4 c;rw[gV,C4,<-aeo]at ha;have hlen:=congrArg afh ha;simp only[adm]at hlen;refine ar.step ?_;simp only[ag,S.vd,T,bE,iP,ir,bC,aY,O,au];rw[cM,b6 g];simp only[O,di,nw];rw [show aj H2 1 acJ (.ae (List.drop 1 (List.drop (i*2) (y.ax.flatMap aI.cells))))=acK (av E.cells p.aS) by show bO _ 0 1 acJ=_;rw[mm aI.len,drop_cons b,ac0,aI.aX];rfl]
   simp only[O];refine h p (adq b) d (by omega) λk l m o=>?_;simp only[bz,O];rw[wrap_i64 (n:=(i:Int)+1) (by omega) (by omega),cN];exact f (i+1) _ k l j (lf.trans m) o (by simpa[aeo]using ha)
 exact main y.ax 0 A H x rfl (gO.refl _) b rfl
theorem DL(hl:l.length<=9223372036854775807)(w:∀e∈l,e.place.ax.length<=9223372036854775807)(h:∀e∈l,oJ C e.br/\∀p∈e.place.ax,oJ C p.aS):oJ C l:=by
 intro H Q x A ay b U hQ;refine S.QL hT ?_;unfold S.f25;have main:∀(r:List E)(i:Nat)(M:List bH)(H2:Z)(a:I),l.drop i=r->gO H H2->j7 H2 a M->M++dD ay r=A++dD ay l->ar (S.vf (ai C) (av E.cells l) (.int .i64 ay) Q) ([a,.int .i64 i],H2):=by
  intro r;induction r with
  | nil=>intro i M H2 a c lf d ha;have hle:=c7 c;refine ar.step ?_;simp only[ag,S.vf,T,bE,bC,aY,O,au];rw[cQ];rw[dD,adv]at ha;exact hQ H2 a lf (by rw[<-ha];exact d)
  | cons e r j=>
   intro i M H2 a c lf d ha;obtain⟨y,b,k⟩:=c4 c;have hm:=adq b;rw[dD,sO,<-aeo]at ha;have hlen:=congrArg afh ha;simp only[adm]at hlen;refine ar.step ?_;simp only[ag,S.vf,T,bE,bC,aY,O,au];rw[cM,b6 y];simp only[O];rw[c8 E.len (by decide) _ b];simp only[O,bQ,bc,aN];rw[cn _ _ _ 8 e.len (E.scalar e) rfl];have m:=At.new H2 (.row e.cells);have z:=d.frame (H':=H2.push (.row e.cells)) (λt _ _ h=>h.push _);have B:=lf.trans (gO.push H2 (.row e.cells));simp only[O];generalize H2.push (.row e.cells)=R at *;have l0:∀{H:Z},At H H2.n (.row e.cells)->aj H 1 acJ (.ptr H2.n 0)=acK (.int .i64 e.kind):=λh=>by rw[h.load,E.aX,aJ.aX];rfl
   have l4:∀{H:Z},At H H2.n (.row e.cells)->aj H 1 acJ (.ptr H2.n 4)=acK (.int .i64 e.a_):=λh=>by rw[h.load,E.aX,aJ.aX];rfl
   have o:∀{H:Z},At H H2.n (.row e.cells)->aj H 2 acI (.ptr H2.n 5)=acK (.agg e.place.cells):=λh=>by rw[h.load,E.aX,aJ.aX];rfl
   have D:∀{H:Z},At H H2.n (.row e.cells)->aj H 1 acJ (.ptr H2.n 7)=acK (av E.cells e.br):=λh=>by rw[h.load,E.aX,aJ.aX];rfl
   simp only[dM,O,o m];refine NJ ak hT (w e hm) (h e hm).2 z (by omega) λV W q F=>?_;have r4:=q.2 _ _ m;simp only[dM,O,D r4];refine(h e hm).1 F (by simp only[adm];omega) λG J s u=>?_;have f:=s.2 _ _ r4;simp only[dM,O,l0 f,l4 f,o f,eD,au,bz];have v:=(B.trans q).trans s;apply aG<;>intro hk
   . have g:e.kind>=4:=by simpa using hk
     rw[ab g]at ha;refine NI u (by simp only[adm];omega) _ _ _ _ rfl λK L N P=>?_;simp only[ag,aw,S.ve,T,bE,bz,O];rw[wrap_i64 (n:=(i:Int)+1) (by omega) (by omega),cN];exact j (i+1) _ L K k (v.trans N) P (by simpa[aeo]using ha)
   . have g:¬e.kind>=4:=by simpa using hk
     rw[af g]at ha;simp only[ag,aw,S.ve,T,bE,bz,O];rw[wrap_i64 (n:=(i:Int)+1) (by omega) (by omega),cN];exact j (i+1) _ G J k v u (by simpa[aeo]using ha)
 exact main l 0 A H x rfl (gO.refl _) b rfl
theorem YG:∀e:E,e.ok->oJ C e.br/\∀p∈e.place.ax,oJ C p.aS:=by refine E.ind λe d f he=>?_;obtain⟨⟨g,c⟩,h⟩:=E.dL he;have i:=aJ.dL h;refine⟨DL ak hT g (λk hk=>(aJ.dL (E.dL (c k hk)).2).1) λk hk=>d k hk (c k hk),λp hp=>?_⟩;obtain⟨a,b⟩:=i.2 p hp;exact DL ak hT a (λk hk=>(aJ.dL (E.dL (b k hk)).2).1) λk hk=>f p hp k hk (b k hk)
theorem NL(hl:l.length<=9223372036854775807)(a:∀e∈l,e.ok):oJ C l:=DL ak hT hl (λk hk=>(aJ.dL (E.dL (a k hk)).2).1) λk hk=>YG ak hT k (a k hk)
theorem DM{l:List aC}(hl:l.length<=9223372036854775807)(R:∀x∈l,x.ok)(h:∀x∈l,tc C x.aZ/\tc C x.bw):tc C l:=by
 intro H Q x A g U hQ;refine S.Qw hT ?_;unfold S.f7;have main:∀(r:List aC)(i:Nat)(M:List bH)(H2:Z)(a:I),l.drop i=r->gO H H2->j7 H2 a M->M++ey r=A++ey l->ar (S.po (ai C) (av aC.cells l) Q) ([a,.int .i64 i],H2):=by
  intro r;induction r with
  | nil=>intro i M H2 a k lf m ha;have hle:=c7 k;refine ar.step ?_;simp only[ag,S.po,T,bE,bC,aY,O,au];rw[cQ];rw[ey,adv]at ha;exact hQ H2 a lf (by rw[<-ha];exact m)
  | cons e r V=>
   intro i M H2 a k lf m ha;obtain⟨W,g,X⟩:=c4 k;have hm:=adq g;obtain⟨Y,⟨aa,ac⟩,_,_⟩:=aC.dL (R e hm);have o:=aJ.dL Y;rw[ey,C5,<-aeo]at ha;have hlen:=congrArg afh ha;simp only[adm]at hlen;refine ar.step ?_;simp only[ag,S.po,T,bE,bC,aY,O,au];rw[cM,b6 W];simp only[O];rw[c8 aC.len (by decide) _ g];simp only[O,bQ,bc,aN];rw[cn _ _ _ 10 e.len (aC.scalar e) rfl];have q:=At.new H2 (.row e.cells);have ad:=m.frame (H':=H2.push (.row e.cells)) (λt _ _ h=>h.push _);have ae:=lf.trans (gO.push H2 (.row e.cells));simp only[O];generalize H2.push (.row e.cells)=aD at *;have l0:∀{H:Z},At H H2.n (.row e.cells)->aj H 1 acJ (.ptr H2.n 0)=acK (.int .i64 e.kind):=λh=>by rw[h.load,aC.aX,aJ.aX];rfl
   have l1:∀{H:Z},At H H2.n (.row e.cells)->aj H 1 acJ (.ptr H2.n 1)=acK (.int .i64 e.ay):=λh=>by rw[h.load,aC.aX,aJ.aX];rfl
   have l4:∀{H:Z},At H H2.n (.row e.cells)->aj H 1 acJ (.ptr H2.n 4)=acK (.int .i64 e.a_):=λh=>by rw[h.load,aC.aX,aJ.aX];rfl
   have w:∀{H:Z},At H H2.n (.row e.cells)->aj H 2 acI (.ptr H2.n 5)=acK (.agg e.place.cells):=λh=>by rw[h.load,aC.aX,aJ.aX];rfl
   have ah:∀{H:Z},At H H2.n (.row e.cells)->aj H 1 acJ (.ptr H2.n 7)=acK (av E.cells e.bn):=λh=>by rw[h.load,aC.aX,aJ.aX];rfl
   have al:∀{H:Z},At H H2.n (.row e.cells)->aj H 1 acJ (.ptr H2.n 8)=acK (av aC.cells e.aZ):=λh=>by rw[h.load,aC.aX,aJ.aX];rfl
   have am:∀{H:Z},At H H2.n (.row e.cells)->aj H 1 acJ (.ptr H2.n 9)=acK (av aC.cells e.bw):=λh=>by rw[h.load,aC.aX,aJ.aX];rfl
   simp only[dM,O,w q,l1 q];refine NJ ak hT o.1 (λp hp=>NL ak hT (o.2 p hp).1 (o.2 p hp).2) ad (by omega) λaE aF y an=>?_;have r4:=y.2 _ _ q;simp only[dM,O,ah r4,l1 r4];refine NL ak hT aa ac an (by simp only[adm];omega) λz B D F=>?_;have c:=D.2 _ _ r4;have G:=(ae.trans y).trans D;have k2:∀(s:List bH)(d:Z)(f:I),gO H d->At d H2.n (.row e.cells)->j7 d f s->s++(ey e.aZ++ey e.bw)++ey r=A++ey l->S.uO (ai C) (.ptr H2.n 0) ([a,.int .i64 i],H2) (ar (S.po (ai C) (av aC.cells l) Q)) Q [f] d:=by intro s d f j J u K;have ao:=congrArg afh K;simp only[adm]at ao;unfold S.uO;simp only[ag];simp only[dM,O,al J,T];refine(h e hm).1 u (by omega) λaH aI L ap=>?_;have aq:=L.2 _ _ J;simp only[dM,O,am aq];refine(h e hm).2 ap (by simp only[adm];omega) λax az aA aB=>?_;simp only[ag,aw,S.FL,T,bE,bz,O];rw[wrap_i64 (n:=(i:Int)+1) (by omega) (by omega),cN];exact V (i+1) _ ax az X ((j.trans L).trans aA) aB (by simpa[aeo]using K)
   have N:∀b:Bool,(b=acI↔3<=e.kind/\e.kind<=7)->S.uP (ai C) (.ptr H2.n 0) B ([a,.int .i64 i],H2) (ar (S.po (ai C) (av aC.cells l) Q)) Q [.bool b] z:=by
    intro b U;unfold S.uP;simp only[ag];simp only[T,au,dM,O,l0 c,l4 c,l1 c,w c,aw];apply aG<;>intro hk
    . rw[ab (U.1 hk)]at ha;exact NI F (by simp only[adm];omega) _ _ _ _ (by have:=U.1 hk;exact(bo).symm) λf d j u=>k2 _ d f (G.trans j) (j.2 _ _ c) u (by simpa[aeo]using ha)
    . rw[af (λe=>hk (U.2 e))]at ha;exact k2 _ z B G c F (by simpa[aeo]using ha)
   simp only[dM,O,l0 c,eD,gl,bP,aw];apply aG<;>intro P
   . have v:3<=e.kind:=by simpa using P
     exact N _ ⟨λe=>⟨v,by simpa using e⟩,λe=>by simpa using e.2⟩
   . have v:¬3<=e.kind:=by simpa using P
     exact N acJ ⟨λe=>(by cases e),λe=>absurd e.1 v⟩
 exact main l 0 A H x rfl (gO.refl _) g rfl
theorem YH:∀x:aC,x.ok->tc C x.aZ/\tc C x.bw:=by refine aC.ind λx h1 b c=>?_;obtain⟨_,_,⟨l1,o1⟩,l2,o2⟩:=aC.dL c;exact⟨DM ak hT l1 o1 λy a=>h1 y a (o1 y a),DM ak hT l2 o2 λy a=>b y a (o2 y a)⟩
end
end Rb
namespace Rb
open Go
def gP:List Int->Nat->List Int
 |[],_=>[]
 |n::r,k=>((k/(cB r).length%n.toNat:Nat):Int)::gP r k
theorem NM:∀(l:List Int)(k:Nat),(gP l k).length=l.length
 |[],_=>rfl
 |_::r,k=>by rw[gP,adN,NM r k];rfl
theorem NN:∀(l:List Int)(k m:Nat),gP l (k%(m*(cB l).length))=gP l k
 |[],_,_=>rfl
 | n::r,k,m=>by have e:m*(n.toNat*(cB r).length)=(m*n.toNat)*(cB r).length:=(Nat.mul_assoc _ _ _).symm;rw[gP,gP,zt,e,NN r k];congr 2;rw[afq (m*n.toNat),Nat.mod_mul_right_div_self,afq m,Nat.mod_mul_right_mod]
theorem NO{α:Type}{f:Nat->List α}{P:Nat}(hf:∀i,(f i).length=P):∀(n k:Nat),k<n*P->((aa_ n).flatMap f)[k]?=(f (k/P))[k%P]?
 |0,k,h=>by omega
 | n + 1,k,h=>by
  have hl:((aa_ n).flatMap f).length=n*P:=by rw[List.length_flatMap];simp only[hf];rw[List.map_const',List.sum_replicate_nat,List.length_range]
  rw[List.range_succ,aeD];by_cases hk:k<n*P
  ·rw[List.getElem?_append_left (by rw[hl];exact hk),NO hf n k hk]
  . have h1:k<n*P+P:=by rw[Nat.add_mul,adk]at h;exact h
    rw[List.getElem?_append_right (by rw[hl];omega),hl];have a:k/P=n:=by refine(Nat.div_eq_iff (by omega)).2 ⟨by omega,by omega⟩
    have hm:k%P=k-n*P:=by have:=Nat.div_add_mod k P;rw[a,afq]at this;omega
    rw[a,hm];simp
theorem NP:∀(l:List Int)(k:Nat),k<(cB l).length->(cB l)[k]?=acK (gP l k)
 | [],k,h=>by
  have:k=0:=by simp[cB]at h;exact h
  subst this;rfl
 | n::r,k,h=>by
  have a:=h;rw[zt]at a;have c:0<(cB r).length:=by
   rcases Nat.eq_zero_or_pos (cB r).length with e|e
   ·rw[e,Nat.mul_zero]at a;omega
   ·exact e
  rw[cB,NO (P:=(cB r).length) (λi=>by rw[abI]) n.toNat k a,aba,NP r _ (afr _ c),gP];have e1:k/(cB r).length%n.toNat=k/(cB r).length:=Nat.mod_eq_of_lt (Nat.div_lt_of_lt_mul (by rw[afq];exact a));have b:=NN r k 1;rw[adk]at b;rw[e1,b];rfl
structure DN(a:Int)(r:List aB)(x:Int×Int)(n:Nat):Prop where
 ex:∃v g y,r[n]?=acK v/\(ck a r)[n]?=acK g/\y∈ba v.type 0/\x=(g.at_+y.1,y.2)/\65536+a<=g.at_/\g.at_+g.len<=131072/\kC 0 g.len y
theorem NQ:∀(r:List aB)(a:Int)(l:List (Int×Int)),(∀v∈r,v.ok/\(bm v.type).2=0)->0<=a->e5 a r<=65536->fI r (ck a r)=acK l->(∀x∈l,∃n,DN a r x n)/\∀(n:Nat)(v:aB)(g:bj)(y:Int×Int),r[n]?=acK v->(ck a r)[n]?=acK g->y∈ba v.type 0->(g.at_+y.1,y.2)∈l
 | [],a,l,_,_,_,h=>by
  rw[fI]at h
  ·cases h;exact⟨λx c=>(by cases c),λn v g y hv=>(by simp at hv)⟩
  ·intros;simp_all
 | v :: r,a,l,hv,ha,he,h=>by
  obtain⟨p,hz⟩:=hv v (acs ..);have f:∀w∈r,w.ok/\(bm w.type).2=0:=λw hw=>hv w (acp _ hw);obtain⟨b1,b2,b3,D⟩:=oy hz;have hu:a<=eP a v:=(eJ (n:=a) (step:=(bm v.type).1.2) (by omega)).1;rw[e5]at he;have hle:=sx (a:=eP a v+(bm v.type).1.1) λw hw=>(f w hw).2;have i:=mA p.2 hz;have q:(L v.type).1.1=(bm v.type).1.1:=by rw[i.zero]
  rw[ck,fI]at h;by_cases j:(e4 v.type).2≠0
  ·rw[ab j]at h;cases h
  rw[af j]at h;have k:(e4 v.type).2=0:=by omega
  cases hw:fI r (ck (eP a v+(bm v.type).1.1) r)with
  |none=>rw[hw]at h;cases h
  | some l'=>
   rw[hw]at h;simp only[Option.map_some,aaC.injEq]at h;subst h;obtain⟨i1,i2⟩:=NQ r (eP a v+(bm v.type).1.1) l' f (by omega) he hw;have m:∀y∈ba v.type 0,kC 0 (bm v.type).1.1 y:=λy b=>by have:=ze v.type i 0 (by decide) (by omega) y b;rwa [q]at this
   have o:∀y∈ba v.type 0,B (65536+eP a v+y.1)=65536+eP a v+y.1:=λy b=>by obtain⟨E,F,G⟩:=m y b;exact bo
   refine⟨λx c=>?_,λn w g y hn d b=>?_⟩
   . rcases List.mem_append.1 c with c|c
     . obtain⟨y,b,rfl⟩:=acF.1 c;have e:=(Kc k y).1 b;refine⟨0,v,_,y,rfl,rfl,e,?_,by show 65536+a<=65536+eP a v;omega,by show 65536+eP a v+(bm v.type).1.1<=_;omega,m y e⟩;show(B (65536+eP a v+y.1),y.2)=_;rw[o y e]
     . obtain⟨n,w,g,y,s,t,u,z,H,A,C⟩:=i1 x c;exact⟨n+1,w,g,y,by simpa using s,by rw[ck];simpa using t,u,z,by omega,A,C⟩
   . cases n with
     | zero=>rw[ck]at d;simp only[ac5,aaC.injEq]at hn d;subst hn d;refine List.mem_append_left _ (acF.2 ⟨y,(Kc k y).2 b,?_⟩);show(B (65536+eP a v+y.1),y.2)=_;rw[o y b]
     | succ n=>rw[ck]at d;simp only[ac6]at hn d;exact List.mem_append_right _ (i2 n w g y hn d b)
theorem DN.YI{a:Int}{r:List aB}{x:Int×Int}{n:Nat}(h:DN a r x n)(ha:0<=a):65536<=x.1/\1<=x.2/\x.1+x.2<=131072:=by obtain⟨v,g,y,_,_,_,rfl,c,d,e,b,f⟩:=h;exact⟨by show 65536<=g.at_+y.1;omega,b,by show g.at_+y.1+y.2<=_;omega⟩
theorem NR:∀{r:List aB}{a:Int},(∀v∈r,v.ok)->(∀v∈r,(bm v.type).2=0)->0<=a->e5 a r<=65536->∀{n:Nat}{v:aB}{g:bj},r[n]?=acK v->(ck a r)[n]?=acK g->65536+a<=g.at_/\g.at_+g.len<=131072/\g.len=(bm v.type).1.1
 |[],a,_,_,_,_,n,v,g,h,_=>by simp at h
 | w::r,a,c,hz,ha,he,n,v,g,h,k=>by
  have b:∀v∈r,(bm v.type).2=0:=λv hv=>hz v (acp _ hv);obtain⟨b1,b2,b3,f⟩:=oy (hz w (acs ..));have hu:a<=eP a w:=(eJ (n:=a) (step:=(bm w.type).1.2) (by omega)).1;rw[e5]at he;have hle:=sx (a:=eP a w+(bm w.type).1.1) b;rw[ck]at k;cases n with
  | zero=>simp only[ac5,aaC.injEq]at h k;subst h k;exact⟨by show 65536+a<=65536+eP a w;omega,by show 65536+eP a w+(bm w.type).1.1<=_;omega,rfl⟩
  | succ n=>simp only[ac6]at h k;obtain⟨i,d,e⟩:=NR (λv hv=>c v (acp _ hv)) b (by omega) he h k;exact⟨by omega,d,e⟩
theorem NS{kind S:Int}:∀(l:List aE)(ss:List bj)(b:Int),Fits kind S l ss b->∀(n:Nat)(f:aE)(s:bj),l[n]?=acK f->ss[n]?=acK s->f.bits=acI->0<f.aQ->1<=s.len
 |[],ss,b,hf,n,f,s,h,k,_,_=>by simp at h
 |f::r,[],b,hf,n,g,s,h,k,_,_=>hf.elim
 | f::r,s::ss,b,hf,n,g,t,h,k,U,hw=>by
  obtain⟨a,⟨x,hs,e,i,c,j,m,o⟩,d⟩:=hf;cases n with
  | zero=>simp only[ac5,aaC.injEq]at h k;subst h k;have:=c U;rw[hs];unfold ft;rw[ab U];show 1<=(if x.2>0 then(x.1+x.2-1)/8-x.1/8+1 else 0);rw[dN];omega
  | succ n=>simp only[ac6]at h k;exact NS r ss a d n g t h k U hw
theorem YJ{t:X}(h:t.lay)(a:t.kind=1\/t.kind=2):1<=(L t).1.1:=by rw[jZ a];obtain⟨_,_,_,b⟩:=sP (s:=⟨0,(bm t).1.1,0,acJ,0,0⟩) h ⟨λe=>(by cases e),λ_=>rfl,⟨adR 0,(by show(0:Int)<=7;decide)⟩,adR 0⟩ a;show 1<=t.size;omega
theorem DO:∀(r:List aI)(t:X)(sp out:bj)(idx:List Int),t.lay->eY r t sp idx=acK out->(cj t r).1=0->((cj t r).2.kind=1\/(cj t r).2.kind=2)->sp.len=(L t).1.1->1<=out.len
 | [],t,sp,out,idx,h,hw,hp,hk,hl=>by rw[eY,aaC.injEq]at hw;subst hw;rw[cj]at hk;rw[hl];exact YJ h hk
 | p :: r,t,sp,out,idx,h,hw,hp,hk,hl=>by
  obtain⟨k,a⟩:=j0 hp;have l:=ME hp;rw[eY.eq_def]at hw;dsimp only at hw;rcases kv h k with⟨v,d,e,A,he,b,m⟩|⟨n,d,n2,f,s2,f1,f2,f3,b,g⟩
  . rw [ab v]at hw;cases idx with
    |nil=>cases hw
    | cons i q=>
     dsimp only at hw;rw[he]at hw;dsimp only at hw;by_cases o:i>=kr t.bg
     ·rw[ab o]at hw;cases hw
     . rw[af o]at hw;rw[b]at a;rw[l,b]at hk;exact DO r e _ out q m hw a hk (by show(bm e).1.1=_;rw[m.zero])
  . rw [af (by rw[n];decide),f1]at hw;dsimp only at hw;rw[f2,f3]at hw;dsimp only at hw;obtain⟨S,s0,s1,B,hf⟩:=Dc h d;have s:=C6 h d f2 f3 g;obtain⟨C,w,u⟩:=Df t.Y (cD t) 0 (adR _) hf n2 f s2 f2 f3;rw[b]at a;rw[l,b]at hk;by_cases c:f.bits=acI
    . have j:s2.bits=acI:=(u c).1;have x:0<f.aQ:=by have:=(u c).2;have:=MG h d k n f1 f2 c;omega
      have y:r=[]:=by
       have D:f.type.kind=1:=(s.bits j).1;cases r with
       |nil=>rfl
       | cons E F=>
        obtain⟨g1,_⟩:=j0 a;rcases kv g g1 with⟨_,G,_⟩|⟨_,H,_⟩
        ·omega
        ·omega
      subst y;rw[eY,aaC.injEq]at hw;subst hw;exact NS t.Y (cD t) 0 hf n2 f s2 f2 f3 c x
    . have z:f.bits=acJ:=by simpa using c
      have j:s2.bits=acJ:=(w z).1;exact DO r f.type _ out idx g hw a hk (by show s2.len=_;rw[s.len j,g.zero])
theorem DP{vars:List aB}{n:List UInt8}{v:aB}(d:fS vars)(hv:vars.find? (λv=>v.V==n)=acK v):∀(r done:List aI)(t:X)(sp:bj)(idx:List Int),t.lay->cj v.type done=(0,t)->(cj t r).1=0->idx∈cB (cp vars n done r)->(∃out,eY r t sp idx=acK out)/\idx.length=gM r/\∀i∈idx,0<=i/\i<=65536
 | [],done,t,sp,idx,h,a,hp,hi=>by rw[cp,cB,List.mem_singleton]at hi;subst hi;exact⟨⟨sp,by rw[eY]⟩,by rw[gM];rfl,λi hi=>by cases hi⟩
 | p :: r,done,t,sp,idx,h,a,hp,hi=>by
  obtain⟨o,b⟩:=j0 hp;have u:=Nx d hv a;have c:cj v.type (done++[p])=(0,(c6 t p).2):=by rw[DH _ _ _ (by rw[a]),a];show cj t [p]=_;rw[cj,af (λq=>q o),cj]
  rw[cp]at hi;rw[eY.eq_def];dsimp only;rcases kv h o with⟨g,s,e,C,he,k,w⟩|⟨l,s,n2,f,s2,f1,f2,f3,k,x⟩
  . rw[af (by intro e;rw[e]at g;cases g),List.singleton_append,cB,List.mem_flatMap]at hi;obtain⟨i,y,hi⟩:=hi;obtain⟨q,z,rfl⟩:=acF.1 hi;obtain⟨c1,c2,_⟩:=sX h s he;rw[u,List.mem_range]at y;have A:kr t.bg=t.bg:=rU;rw[ab g];dsimp only;rw[af (by rw[A];omega),he];dsimp only;rw[k]at b c;obtain⟨w1,w2,w3⟩:=DP d hv r (done++[p]) e {sp with at_:=B (sp.at_+B (IntKind.wrap .i64 (i:Int)*(bm e).1.1)),len:=(bm e).1.1} q w c b z;refine⟨w1,by rw[gM,adN];omega,λj m=>?_⟩;rcases aco.1 m with rfl|m
    ·omega
    ·exact w3 j m
  . rw[ab l,aeh]at hi;rw[af (by rw[l];decide),f1];dsimp only;rw[f2,f3];dsimp only;rw[k]at b c;obtain⟨w1,w2,w3⟩:=DP d hv r (done++[p]) f.type {s2 with at_:=B (s2.at_+sp.at_)} idx x c b hi;exact⟨w1,by rw[gM,l];simpa using w2,w3⟩
theorem fits_int{k:Int}{t:X}(h:ga k t=acI):t.kind=1\/t.kind=2:=by
 unfold ga at h;split at h
 ·left;simpa using h
 . split at h
   ·right;simp only[aar,bZ]at h;exact h.1
   ·right;simp only[aar,bZ]at h;exact h.1
theorem YK{vars:List aB}{x:aJ}(b:fS vars)(F:x.ok)(c:(bG vars x).1=0)(m:(bG vars x).2.kind=1\/(bG vars x).2.kind=2){idx:List Int}(hi:idx∈cB (cp vars x.var [] x.ax)) :
  ∃n v g,vars.findIdx? (λv=>v.V==x.var)=acK n/\vars[n]?=acK v/\(ck 0 vars)[n]?=acK g/\1<=(eu vars x idx).len/\MH g.at_ (ba v.type 0) (eu vars x idx)/\(∃sp,eY x.ax v.type {ct with at_:=g.at_,len:=g.len} idx=acK sp/\eu vars x idx={sp with kind:=(bG vars x).2.kind})/\idx.length=gM x.ax/\∀i∈idx,0<=i/\i<=65536:=by
 obtain⟨v,hf,hm,hl,p⟩:=s_ b c;have d:(cj v.type x.ax).1=0:=by rw[<-p];exact c
 have r:(cj v.type x.ax).2.kind=1\/(cj v.type x.ax).2.kind=2:=by rw[<-p];exact m
 obtain ⟨n,hn,f⟩:∃n,vars.findIdx? (λv=>v.V==x.var)=acK n/\vars[n]?=acK v:=by have e:=List.find?_eq_some_iff_getElem.1 hf;obtain⟨q,n,s,t,A⟩:=e;exact⟨n,List.findIdx?_eq_some_iff_getElem.2 ⟨s,by rw[t];exact q,λj B=>by have:=A j B;simpa using this⟩,by rw[abb s,t]⟩
 obtain⟨g,_,h,H,_⟩:=qb (a:=0) f;obtain⟨⟨sp,hw⟩,u,y⟩:=DP b hf x.ax [] v.type {ct with at_:=g.at_,len:=g.len} idx hl (by rw[cj]) d hi;have U:=NR (a:=0) b.o (λw hw=>b.z w hw) (by decide) b.e f h;have k:g.len=(L v.type).1.1:=by rw[U.2.2,hl.zero]
 have hlen:=DO x.ax v.type _ sp idx hl hw d r k;have C:=Dg (G:=g.at_) (by omega) (by have:=U.2.1;have:=oy (b.z v hm);omega) x.ax v.type _ sp idx 0 hl (λi hi=>by have:=y i hi;omega) hw d r (by decide) (by rw[<-k];omega) (by show g.at_=g.at_+0;omega) rfl k;have D:=yS b.z b.e;have l:eu vars x idx={sp with kind:=(bG vars x).2.kind}:=by
  unfold eu;have E:jC x.ax 0=gM x.ax:=by have:=zz b c;have:=p9 d;rw[p_ _ _ (by decide) (by omega)];omega
  rw[D,af (λq=>q rfl),af (λq=>q c),af (λq=>q m),af (by rw[E,u];exact λq=>q rfl),hn];dsimp only;rw[f,h];dsimp only;rw[hw]
 refine⟨n,v,g,hn,f,h,?_,?_,⟨sp,hw,l⟩,u,y⟩
 ·rw[l];exact hlen
 ·rw[l];exact C
def jt:List Int->Int->Int
 |[],a=>a
 |n::r,a=>if a>4096 then a else jt r (B (a*n))
theorem YL{a:Int}(h:a>4096):∀l:List Int,jt l a=a
 |[]=>rfl
 |n::r=>by rw[jt,ab h]
theorem NT:∀(l:List Int)(a:Int),(∀n∈l,1<=n/\n<=65536)->1<=a->a<=4096->gN l a=acK (jt l a)\/(gN l a=none/\jt l a>4096)
 |[],a,_,_,_=> .inl rfl
 | n :: r,a,hl,h1,b=>by
  obtain⟨n1,n2⟩:=hl n (acs ..);have c:a*n<=4096*n:=afi b (by omega);have p0:1*n<=a*n:=afi h1 (by omega);have hw:B (a*n)=a*n:=bo;rw[gN,jt,hw,af (show ¬a>4096 by omega)];by_cases U:a*n>4096
  . rw[ab U];exact .inr ⟨rfl,by rw[YL U];exact U⟩
  . rw[af U];exact NT r (a*n) (λm hm=>hl m (acp _ hm)) (by omega) (by omega)
def nA(s:Int×Int)(o w:Int×Int):Int×Int:=if w.1<=s.1/\s.1+s.2<=w.1+w.2/\(o.2=0\/w.2<o.2)then w else o
theorem NU{s:Int×Int}(hs:0<=s.1/\s.1<=1099511627776/\1<=s.2/\s.2<=1048576):∀(l:List (Int×Int)) (o:Int×Int),(∀x∈l,0<=x.1/\x.1<=1099511627776/\0<=x.2/\x.2<=1048576)->l.foldl (nA s) o=l.foldl (iz s) o
 |[],o,_=>rfl
 | x::r,o,h=>by
  have e:nA s o x=iz s o x:=by have hw:=within_iff hs (h x (acs ..));unfold nA iz;simp only[hw,and_assoc]
  rw[aaW,aaW,e];exact NU hs r _ λy a=>h y (acp _ a)
theorem YM{vars:List aB}{x:aJ}(b:fS vars)(p:x.ok)(q:(bG vars x).1=0)(r:(bG vars x).2.kind=1\/(bG vars x).2.kind=2){idx:List Int}(hi:idx∈cB (cp vars x.var [] x.ax)){ba:List (Int×Int)}(hl:fI vars (ck 0 vars)=acK ba) :
  (∀z∈ba,65536<=z.1/\1<=z.2/\z.1+z.2<=131072)/\65536<=(eu vars x idx).at_/\1<=(eu vars x idx).len/\(eu vars x idx).at_+(eu vars x idx).len<=131072/\ba.foldl (nA (iW (eu vars x idx))) (0,0)=gG vars x ba idx/\(gG vars x ba idx).2≠0/\idx.length=gM x.ax/\∀i∈idx,0<=i/\i<=65536:=by
 obtain⟨n,v,g,hn,hv,t,hlen,⟨u,hu,d,f⟩,_,w,y⟩:=YK b p q r hi;obtain⟨i1,i2⟩:=NQ vars 0 ba (λv hv=>⟨b.o v hv,b.z v hv⟩) (by decide) b.e hl;have U:∀z∈ba,65536<=z.1/\1<=z.2/\z.1+z.2<=131072:=λz hz=>by obtain⟨n,h⟩:=i1 z hz;exact h.YI (by decide)
 have j:=i2 n v g u hv t hu;have c:=U _ j;have B:65536<=g.at_+u.1:=c.1;have C:g.at_+u.1+u.2<=131072:=c.2.2;have D:1<=u.2:=c.2.1;generalize hs:eu vars x idx=s at hlen d f;have k:0<=s.at_/\s.at_<=1099511627776/\1<=s.len/\s.len<=1048576:=by omega
 have A:jq (iW s) (g.at_+u.1,u.2)=acI:=(within_iff (a:=iW s) k ⟨by show 0<=g.at_+u.1;omega,by show g.at_+u.1<=_;omega,by show 0<=u.2;omega,by show u.2<=_;omega⟩).2 ⟨d,f⟩;have l1:=(WT (l:=ba) (s:=iW s) (λz hz=>(U z hz).2.1) ⟨_,j,A⟩).1;have E:=U _ l1;have m:gG vars x ba idx=mJ ba (iW s):=by unfold gG;rw[hs]
 refine⟨U,by omega,hlen,by omega,?_,by rw[m];omega,w,y⟩;rw[m];exact NU (s:=iW s) k ba (0,0) λz hz=>by have:=U z hz;omega
variable{A:List bH}{k:Nat}
theorem NV(a:bH):(hq a).length=5:=by simp[hq,aJ.len]
theorem YN(a:bH):(hq a).all I.scalar=acI:=by have:=aJ.scalar a.place;simp only[hq,List.all_cons,this,aea];rfl
theorem YO{tk:Tok}{cs:List I}(h:k<A.length):aL none 5 (.aq tk A.length cs) (.int .i64 k)=acK (.ae (cs.drop (k*5))):=by simp only[aL];rw[ab ⟨by omega,by omega⟩,aeq]
theorem YP{m:bH}(H:Z)(h:A[k]?=acK m):aj H 5 acI (.ae ((A.flatMap hq).drop (k*5)))=acK (.agg (hq m)):=by have:=c8 (cells:=hq) (sz:=5) NV (by decide) H h;exact this
theorem NW:∀(n:Nat)(f:Int->I)(v:Int)(D:List Int),((KT (n+1) (0:Int)++D).map f).set n (f v)=(KT n (0:Int)++v::D).map f
 |0,f,v,D=>rfl
 | n+1,f,v,D=>by rw[abn,List.cons_append,List.map_cons,List.set_cons_succ,NW n f v D];rfl
theorem YQ(n:Nat):(KT n [I.int .u64 0]).flatten=(KT n (0:Int)).map (I.int .u64):=by
 induction n with
 |zero=>rfl
 |succ n a=>rw[abn,List.flatten_cons,a];rfl
theorem YR{H:Z}{id n c:Nat}{l:List Int}(h:At H id (.row (l.map (I.int .u64))))(hn:n=l.length):Lg H (.row id 0 n c) l:=by
 intro H' a k v hk;have b:=(aal.1 hk).1;refine⟨.ptr id (0+k*1),?_,?_⟩
 . simp only[aL];rw[ab ⟨by omega,by omega⟩,aeq]
 . rw[(h.ext a).load];unfold bO;rw[ab (by rw[abI];omega)];simp[hk]
section
variable{C:Ctx}(ak:cP C)(hT:Cl (ai C) S.b7)
include ak hT
theorem YS{p:dy}(hl:p.vars.length<=1000000)(hv:∀v∈p.vars,v.ok){x:aJ}(j:x.ok)(hp:x.ax.length<=1000000)(d:∀q∈x.ax,q.aS=[]\/q.aS.length=1):bD (ai C) 8 [.agg p.cells,.agg x.cells] (av cG (cp p.vars x.var [] x.ax)):=by
 refine bD.of ak (by simp[I.bV,I.bu,aJ.bu,dy.bu]) (by show I.bu (.aq .dead _ ((cp p.vars x.var [] x.ax).flatMap cG))=acI;simp[I.bu,Dm,Tok.free]) λQ hQ=>?_
 refine ai.cU ?_;refine S.Qx hT ?_;unfold S.f8;simp only[ag];have l:∀H,b5 H acJ 2 (.agg p.cells)=acK (.ae p.cells,H):=λH=>by unfold b5;rw[ab ⟨rfl,rfl⟩];rfl
 have h:∀H,aj H 1 acJ (.ae (p.cells.drop 0))=acK (av aB.cells p.vars):=λ_=>rfl;have n:aH 0 (.ae p.cells)=acK (.ae (p.cells.drop 0)):=rfl;have o:∀H:Z,cI H acJ 1 0 [.int .i64 0] []=acK (.aq .full 0 [],H):=λ_=>rfl;simp only[l,k4,aN,o];generalize s:cp p.vars x.var [] x.ax=R at *;have main:∀(r:List aI)(k:Nat)(acc:List Int)(y:I)(H:Z),x.ax.drop k=r->k<=x.ax.length->acc.length<=k->cc 0 H 1 y acc.length (acc.flatMap cG)->acc++cp p.vars x.var (x.ax.take k) r=R ->
   ar (S.q3 (ai C) (.ae p.cells) (.ae x.cells) λv H'=>Q v.cU H') ([y,.int .i64 k],H):=by
  intro r;induction r with
  | nil=>intro k acc y H f hk ha c he;have hle:=c7 f;refine ar.step ?_;simp only[ag,S.q3,T,bE,iP,ir,bC,aY,O,au];rw[cQ];rw[cp,adv]at he;subst he;obtain⟨tk,rfl,_,_⟩:=c;simp only[I.cU,Dl];exact hQ _
  | cons q r t=>
   intro k acc y H f hk ha c he;obtain⟨i,g,u⟩:=c4 f;have w:x.ax.take (k+1)=x.ax.take k++[q]:=by rw[List.take_add_one,g];rfl
   rw[cp,<-w,<-aeo]at he;obtain⟨a0,M,f0,f1,g0,g1⟩:=LJ g;refine ar.step ?_;simp only[ag,S.q3,T,bE,iP,ir,bC,aY,O,au];rw[cM,b6 i];simp only[O,f1,g1,bC,bI,au];have k1:∀(a:List Int)(b:I)(H':Z),a.length<=k+1->cc 0 H' 1 b a.length (a.flatMap cG)->a=acc++(if q.aS=[]then []else [kt p.vars ⟨x.var,x.ax.take k⟩]) ->
     S.uQ (ai C) ([y,.int .i64 k],H) (ar (S.q3 (ai C) (.ae p.cells) (.ae x.cells) λv H'=>Q v.cU H')) (λv H'=>Q v.cU H') [b] H':=by
    intro a b H' d A B;simp only[ag,S.uQ,T,bE,bz,O];rw[bo,cN];exact t (k+1) a b H' u i d A (by rw[B];exact he)
   simp only[aw];apply aG<;>intro e
   . have hi:q.aS≠[]:=λz=>by rw[z]at e;simp at e
     have g0:∀H,aj H 1 acJ (.ae (x.cells.drop 0))=acK (.str x.var):=p7 x;have g1:∀H,aj H 1 acJ (.ae (x.cells.drop 1))=acK (av aI.cells x.ax):=ir x;simp only[n,h,iP,g0,g1,O,aH];rw[La aI.len x.ax (by omega)];simp only[O];rw[show bS [.str [],.aq .nil 0 []] [(0,1,.str x.var),(1,1,av aI.cells (x.ax.take k))]=acK (.agg (aJ.mk x.var (x.ax.take k)).cells) by rw[aJ.aX];rfl];simp only[O];refine LW ak hT p.vars _ (by have:maxLen=9223372036854775807:=(by decide);omega) hv (MM j k) _ _ ?_;rw[Wa];simp only[bA,ac5,ac6,O,aN,bQ,bc,h,g0,g1];refine⟨trivial,trivial,trivial,?_⟩;rw[cn _ _ _ 6 (V9 _) (V_ _) rfl];simp only[O,eE,aH,Nat.zero_add];rw [show bO (mF (bG p.vars ⟨x.var,x.ax.take k⟩)) 4 1 acJ=acK (.int .i64 (kt p.vars ⟨x.var,x.ax.take k⟩)) by
       unfold mF kt;split
       ·rw[X.aX];rfl
       ·rfl]
     simp only[O];rw[show ∀(H:Z)(v:Int),cI H acJ 1 1 [.int .i64 0] [(0,1,.int .i64 v)]=acK (.aq .full 1 (cG v),H)from λ_ _=>rfl];simp only[aN];have D:=c.frame (H':=H.push (.row (mF (bG p.vars ⟨x.var,x.ax.take k⟩)))) λ_ _ _ q=>q.push _;refine D.app (aaU _) (m:=1) (news:=cG (kt p.vars ⟨x.var,x.ax.take k⟩)) rfl rfl rfl (by decide) (by omega) (by omega) λb E F _=>?_;refine k1 (acc++[kt p.vars ⟨x.var,x.ax.take k⟩]) b E (by rw[adm];simp;omega) ?_ (by rw[af hi]);rw[adm,aeD];exact F
   . have hi:q.aS=[]:=by
       refine(d q (adq g)).resolve_right λz=>?_;rw[z]at e;simp at e
     exact k1 acc y H (by omega) c (by rw[ab hi,adv])
 exact main x.ax 0 [] _ _ rfl (aaU _) (hb _) ⟨.full,rfl,rfl,.inr (.inl rfl)⟩ s
end
end Rb
namespace Rb
open Go
section
variable{C:Ctx}{Q:aa}{L W:List (Int×Int)}{s:bj}{k ia i1 i2:Nat}{X:cx}{st:List I×Z}{LP:(List I×Z)->Prop}{best:Int×Int}
theorem YT(hs:65536<=s.at_/\1<=s.len/\s.at_+s.len<=131072)(hW:∀z∈W,65536<=z.1/\1<=z.2/\z.1+z.2<=131072)(P:W.length<=1000000000)(u:N st.1 0 = .int .i64 k)(h:L[k]?=acK best)(v:best.2≠0)(x:ia≠i2)(y:i1≠i2)
  (next:∀H',At H' ia X->S.AP (ai C) st LP Q [] H') :
  ∀ (r:List (Int×Int)) (i:Nat) (o:Int×Int) (H:Z),W.drop i=r->At H ia X->At H i1 (.row s.cells)->At H i2 (.row (aD o))->r.foldl (nA (iW s)) o=best ->
   ar (S.ph (ai C) (av aD L) (av aD W) (.bool acI) (.ptr i1 0) (.ptr i2 0) st LP Q) ([.int .i64 i],H):=by
 have A:k<L.length:=(aal.1 h).1;intro r;induction r with
 | nil=>
  intro i o H f g h1 a he;have hle:=c7 f;refine ar.step ?_;simp only[ag,S.ph,T,bC,aY,O,au];rw[cQ];have B:o=best:=he;subst B;have g1:aj H 1 acJ (.ptr i2 1)=acK (.int .i64 o.2):=by rw[a.load];rfl
  have g2:aj H 2 acI (.ptr i2 0)=acK (.agg (aD o)):=a.all rfl;simp only[ag,aw,S.Fz,dg,O,adH,bF,bc,dM,g1,bI];rw[ab (show(o.2==0)=acJ by simpa using v),u,b6 A];simp only[O];rw[c8 (cells:=aD) (sz:=2) (λ_=>rfl) (by decide) _ h,g2];simp only[O,yZ,bc,decide_true,adH,aw,S.uB,T,au,abW,b4];exact next H g
 | cons w r D=>
  intro i o H f g h1 a he;obtain⟨E,hw,F⟩:=c4 f;obtain⟨w1,w2,w3⟩:=hW w (adq hw);refine ar.step ?_;simp only[ag,S.ph,T,bC,aY,O,au];rw[cM,b6 E];simp only[O];rw[c8 (cells:=aD) (sz:=2) (λ_=>rfl) (by decide) _ hw];simp only[O,aN,bQ,bc];rw[cn _ _ _ 2 rfl rfl rfl];have a3:=At.new H (.row (aD w));have b0:=g.push (.row (aD w));have b1:=h1.push (.row (aD w));have b2:=a.push (.row (aD w));generalize H.push (.row (aD w))=H2 at *;generalize H.n=i3 at *;have l0:aj H2 1 acJ (.ptr i3 0)=acK (.int .i64 w.1):=by rw[a3.load];rfl
  have l1:aj H2 1 acJ (.ptr i3 1)=acK (.int .i64 w.2):=by rw[a3.load];rfl
  have l2:aj H2 2 acI (.ptr i3 0)=acK (.agg (aD w)):=a3.all rfl;have m0:aj H2 1 acJ (.ptr i1 0)=acK (.int .i64 s.at_):=by rw[b1.load];rfl
  have m1:aj H2 1 acJ (.ptr i1 1)=acK (.int .i64 s.len):=by rw[b1.load];rfl
  have n1:aj H2 1 acJ (.ptr i2 1)=acK (.int .i64 o.2):=by rw[b2.load];rfl
  have hi:(i:Int)+1=((i+1:Nat):Int):=by simp
  have j:∀(H':Z)(b:Int×Int),At H' ia X->At H' i1 (.row s.cells)->At H' i2 (.row (aD b))->r.foldl (nA (iW s)) b=best->S.uA (ai C) ([.int .i64 i],H) (ar (S.ph (ai C) (av aD L) (av aD W) (.bool acI) (.ptr i1 0) (.ptr i2 0) st LP Q)) Q [] H':=by intro H' b G I J K;simp only[ag,S.uA,T,bz,O];rw[bo,hi];exact D (i+1) b H' F G I J K
  rw[aaW]at he;have d:∀c:Bool,(c=acI↔w.1<=s.at_/\s.at_+s.len<=w.1+w.2/\(o.2=0\/w.2<o.2))->S.qY (ai C) (.ptr i2 0) (.ptr i3 0) ([.int .i64 i],H) (ar (S.ph (ai C) (av aD L) (av aD W) (.bool acI) (.ptr i1 0) (.ptr i2 0) st LP Q)) Q [.bool c] H2:=by
   intro c hc;simp only[ag,S.qY,T,au,aw];apply aG<;>intro e
   . rw[l2];simp only[O];rw[b2.put (n:=2) rfl rfl rfl];simp only[O];refine j _ w (b0.bR x _) (b1.bR y _) (b2.set _) ?_;rw[<-he,show nA (iW s) o w=w from ab (hc.1 e)]
   . refine j _ o b0 b1 b2 ?_;rw[<-he,show nA (iW s) o w=o from af λq=>e (hc.2 q)]
  simp only[ag,O,dM,l0,l1,m0,m1,gl,bz,bP,aw,S.AO,T,n1,bI,bF,aY];rw[wrap_i64 (n:=s.at_+s.len) (by omega) (by omega),wrap_i64 (n:=w.1+w.2) (by omega) (by omega)];apply aG<;>intro e1
  . have l:w.1<=s.at_:=by simpa using e1
    apply aG<;>intro m
    . have p:s.at_+s.len<=w.1+w.2:=by simpa using m
      apply dC<;>intro t
      . have M:¬o.2=0:=by simpa using t
        exact d _ ⟨λq=>⟨l,p,.inr (by simpa using q)⟩,λq=>by simpa using q.2.2.resolve_left M⟩
      ·exact d acI ⟨λ_=>⟨l,p,.inl (by simpa using t)⟩,λ_=>rfl⟩
    ·exact d acJ ⟨λq=>(by cases q),λq=>absurd q.2.1 (by simpa using m)⟩
  . rw[cw];exact d acJ ⟨λq=>(by cases q),λq=>absurd q.1 (by simpa using e1)⟩
end
section
variable{C:Ctx}(ak:cP C)(hT:Cl (ai C) S.b7)
include ak hT
theorem YU{p:dy}(hp:p.ok){x:aJ}(d:fS p.vars)(s:x.ok)(g:(bG p.vars x).1=0)(A:(bG p.vars x).2.kind=1\/(bG p.vars x).2.kind=2){ba:List (Int×Int)}(hl:fI p.vars (ck 0 p.vars)=acK ba)(i:ba.length<=1000000000)
  {bb:List Int} (J:cp p.vars x.var [] x.ax=bb) (K:∀n∈bb,1<=n/\n<=65536) (aP:bb.length<=64) {v:Int} (hv:((cB bb).length:Int)=v) (aQ:v<=4096) {ia:Nat} {cs:List I} (L:bO cs 3 2 acI=acK (.agg x.cells)) {Q:aa} (hQ:∀H',Q (.bool acI) H') (hW:bD (ai C) 6 [] (.bool acI)) {j:List I} (B:N j 0 = .int .i64 v) :
  ∀(n k:Nat)(H:Z),n+k=(cB bb).length->At H ia (.row cs)->ar (S.pj (ai C) (.ae p.cells) (av aD ((cB bb).map (gG p.vars x ba))) (.ptr ia 0) (av cG bb) (av aD ba) j Q) ([.int .i64 k],H):=by
 intro n;induction n with
 | zero=>intro k H hk q;refine ar.step ?_;simp only[ag,S.pj,T,B,aY,O,au];rw[cQ];simp only[aw,S.FA];exact hW _ _ (hQ _)
 | succ n R=>
  intro k H hk q;have V:k<(cB bb).length:=by omega
  have D:=NP bb k V;have W:gP bb k∈cB (cp p.vars x.var [] x.ax):=by rw[J];exact adq D
  obtain⟨X,Y,ac,ad,af,ah,al,aR⟩:=YM d s g A W hl;refine ar.step ?_;simp only[ag,S.pj,T,B,aY,O,au];rw[cM];have am:jN H acI 1 8 [.int .u64 0] (.int .i64 bb.length) (.int .i64 bb.length)=acK (.row H.n 0 bb.length 1,H.push (.row ((KT bb.length (0:Int)).map (I.int .u64)))):=by unfold jN;rw[<-YQ];simp only[aeq];rw[ab ⟨by omega,by omega,by omega,by omega,rfl⟩];rfl
  simp only[bC,O,am,aN,eH];have M:=At.new H (.row ((KT bb.length (0:Int)).map (I.int .u64)));have b0:=q.push (.row ((KT bb.length (0:Int)).map (I.int .u64)));have an:ia≠H.n:=q.h2;generalize H.push (.row ((KT bb.length (0:Int)).map (I.int .u64)))=H1 at *;have ao:∀H2,At H2 ia (.row cs)->At H2 H.n (.row ((gP bb k).map (I.int .u64)))->S.AQ (ai C) (.ae p.cells) (av aD ((cB bb).map (gG p.vars x ba))) (.ptr ia 0) (av aD ba) (.row H.n 0 bb.length 1) ([.int .i64 k],H) (ar (S.pj (ai C) (.ae p.cells) (av aD ((cB bb).map (gG p.vars x ba))) (.ptr ia 0) (av cG bb) (av aD ba) j Q)) Q [] H2:=by
   intro H2 f c1;have ap:∀H,aj H 1 acJ (.ae (p.cells.drop 0))=acK (av aB.cells p.vars):=λ_=>rfl;have aq:aH 0 (.ae p.cells)=acK (.ae (p.cells.drop 0)):=rfl;have g3:aj H2 2 acI (.ptr ia 3)=acK (.agg x.cells):=by rw[f.load];exact L
   simp only[ag,S.AQ,aq,ap,dM,g3,O];have ay:jC x.ax 0=gM x.ax:=by obtain⟨w,hw,_,_,e⟩:=s_ d g;have:=zz d g;have:=p9 (t:=w.type) (r:=x.ax) (by rw[<-e];exact g);rw[p_ _ _ (by decide) (by omega)];omega
   refine VT ak hT d.l d.o d.z d.e s ⟨g,A⟩ (YR c1 (by rw[NM])) (by rw[ay,al]) λb h az U=>?_;have aA:b=acI:=by
    cases b with
    |true=>rfl
    |false=>have:=U rfl;omega
   subst aA;have d0:=f.ext az;simp only[bA,ac5,ac6,O,aN,bQ,bc];rw[cn _ _ _ 6 rfl rfl rfl];simp only[O];rw[show bS [.int .i64 0,.int .i64 0] []=acK (.agg (aD (0,0)))from rfl];simp only[O];rw[cn _ _ _ 2 rfl rfl rfl];simp only[O];have e0:=(d0.push (.row (eu p.vars x (gP bb k)).cells)).push (.row (aD (0,0)));have e1:=(At.new h (.row (eu p.vars x (gP bb k)).cells)).push (.row (aD (0,0)));have aC:=At.new (h.push (.row (eu p.vars x (gP bb k)).cells)) (.row (aD (0,0)));have n1:ia≠(h.push (.row (eu p.vars x (gP bb k)).cells)).n:=(d0.push _).h2;have n2:h.n≠(h.push (.row (eu p.vars x (gP bb k)).cells)).n:=Nat.ne_of_lt (Nat.lt_succ_self _);refine YT (best:=gG p.vars x ba (gP bb k)) (k:=k) ⟨Y,ac,ad⟩ X i rfl ?_ ah n1 n2 (λH' f0=>?_) ba 0 (0,0) _ rfl e0 e1 aC af
   ·rw[aba,D];rfl
   . simp only[ag,S.AP,T,bz,O];rw[bo,cN];exact R (k+1) H' (by omega) f0
  have fill:∀(m:Nat)(H2:Z),m<=bb.length->At H2 ia (.row cs)->At H2 H.n (.row ((KT m (0:Int)++gP (bb.drop m) k).map (I.int .u64))) ->
    ar (S.uC (ai C) (.ae p.cells) (av aD ((cB bb).map (gG p.vars x ba))) (.ptr ia 0) (av cG bb) (av aD ba) (.row H.n 0 bb.length 1) ([.int .i64 k],H) (ar (S.pj (ai C) (.ae p.cells) (av aD ((cB bb).map (gG p.vars x ba))) (.ptr ia 0) (av cG bb) (av aD ba) j Q)) Q) ([.int .i64 ((k/(cB (bb.drop m)).length:Nat):Int),.int .i64 ((m:Int)-1)],H2):=by
   intro m;induction m with
   | zero=>intro H2 hm f c1;refine ar.step ?_;simp only[ag,S.uC,T,bE,eD,O,au];rw[ka];exact ao H2 f c1
   | succ m aE=>
    intro H2 hm f c1;obtain⟨z,hz⟩:∃z,bb[m]?=acK z:=⟨bb[m],abb _⟩
    have aS:=K z (adq hz);have E:bb.drop m=z::bb.drop (m+1):=drop_cons hz;have hlen:=(zt z (bb.drop (m+1)))
    have aF:((m+1:Nat):Int)-1=(m:Nat):=by omega
    generalize aG:(cB (bb.drop (m+1))).length=P at *;refine ar.step ?_;rw[aF];simp only[ag,S.uC,T,bE,eD,O,au];rw[lu];have aI:aL none 1 (av cG bb) (.int .i64 m)=acK (di cG 1 bb m):=b6 (by omega);have i:∀H,aj H 1 acJ (di cG 1 bb m)=acK (.int .i64 z):=λH=>mZ (c:=I.int .i64) H hz;have aK:aL none 1 (.row H.n 0 bb.length 1) (.int .i64 m)=acK (.ptr H.n m):=by simp only[aL];rw[ab ⟨by omega,by omega⟩];simp
    have aM:((k/P:Nat):Int)<=4096:=by have:=afs k P;omega
    have t1:(((k/P:Nat):Int)).tmod z=((k/P%z.toNat:Nat):Int):=by
     obtain⟨y,rfl⟩:∃y:Nat,z=y:=⟨z.toNat,by omega⟩
     generalize k/P=u;rw[aeq];rfl
    have t2:(((k/P:Nat):Int)).tdiv z=((k/P/z.toNat:Nat):Int):=by
     obtain⟨y,rfl⟩:∃y:Nat,z=y:=⟨z.toNat,by omega⟩
     generalize k/P=u;rw[aeq];rfl
    have t3:k/P%z.toNat<z.toNat:=afr _ (by omega);have t4:k/P/z.toNat<=k/P:=afs _ _;rw[aI];simp only[O,i,aK];have F:=jV (k:= .i64) (a:=((k/P:Nat):Int)) (b:=z) (by omega);have G:=jg (k:= .i64) (a:=((k/P:Nat):Int)) (b:=z) (by omega);rw[t1]at F;rw[t2]at G;rw[F];simp only[O,iL];rw[rU,c1.st1 (k:=m) (by rw[abI,adm,List.length_replicate];omega) .int];simp only[O,i];rw[G];simp only[O,eH];have t5:((k/P/z.toNat:Nat):Int)<=4096:=aft (Int.ofNat_le.2 t4) aM;rw[wrap_i64 (n:=(m:Int)-1) (by omega) (by omega),wrap_i64 (n:=((k/P/z.toNat:Nat):Int)) (aft (by decide) (Int.natCast_nonneg _)) (aft t5 (by decide)),NW];have aO:gP (bb.drop m) k=((k/P%z.toNat:Nat):Int)::gP (bb.drop (m+1)) k:=by rw[E,gP,aG]
    have hdiv:k/P/z.toNat=k/(cB (bb.drop m)).length:=by rw[E,hlen,Nat.div_div_eq_div_mul,afq]
    rw[<-aO,hdiv];exact aE _ (by omega) (f.bR an _) (c1.set _)
  have:=fill bb.length H1 (hb _) b0 (by rw[afu,gP,adv];exact M);rw[afu,show(cB []).length=1 from rfl,Nat.div_one]at this;rw[bo];exact this
end
mutual
theorem YV:∀e:E,sB e<=dW e.cells
 | .mk kind n V op a_ place br=>by have h1:=YW place;have a:=zE br;simp only[sB,E.cells,dW,jT,mj];omega
theorem zE:∀l:List E,l_ l<=dW (E.all l)
 |[]=>by simp[l_,E.all,dW]
 | e::r=>by have h1:=YV e;have a:=zE r;simp only[l_,E.all,mj];omega
theorem YW:∀x:aJ,nn x<=dW x.cells
 | .mk var ax=>by have h1:=DQ ax;simp only[nn,aJ.cells,dW,jT];omega
theorem DQ:∀l:List aI,np l<=dW (aI.all l)
 |[]=>by simp[np,aI.all,dW]
 | e::r=>by have h1:=YX e;have a:=DQ r;simp only[np,aI.all,mj];omega
theorem YX:∀x:aI,sC x<=dW x.cells
 | .mk field aS=>by have h1:=zE aS;simp only[sC,aI.cells,dW,jT];omega
end
theorem YY(x:aJ):nn x+2<=dW x.cells:=by
 cases x with
 | mk var ax=>have h1:=DQ ax;simp only[nn,aJ.cells,dW,jT];omega
mutual
theorem YZ:∀x:aC,sD x<=dW x.cells
 | .mk kind ay V b9 a_ place bn aZ bw=>by have h1:=YY place;have a:=zE bn;have b:=zF aZ;have c:=zF bw;rw[E.all_eq]at a;simp only[sD,aC.cells,av,dW,jT,mj];omega
theorem zF:∀l:List aC,ma l<=dW (aC.all l)
 |[]=>by simp[ma,aC.all,dW]
 | e::r=>by have h1:=YZ e;have a:=zF r;simp only[ma,aC.all,mj];omega
end
theorem NX{α:Type}{cells:α->List I}{x:α}:∀{l:List α},x∈l->dW (cells x)<=dW (l.flatMap cells)
 | y :: r,h=>by
  rw[ac0,mj];rcases aco.1 h with e|e
  ·rw[e];omega
  . have:=NX (cells:=cells) e;omega
theorem Y0{p:dy}{t:List aC}(h:t∈p.cO):ma t<=dW p.cells:=by have h1:=zF t;have a:=NX (cells:=iK) h;rw[aC.all_eq]at h1;simp only[dy.cells,av,dW,jT]at a ⊢;simp only[iK,av,dW,jT]at a;omega
end Rb
namespace Rb
open Go
mutual
theorem Y1:∀e:E,eo e<=272*sB e
 | .mk kind n V op a_ place br=>by have h1:=NY place;have a:=zG br;rw[eo,sB];split<;>omega
theorem zG:∀l:List E,ed l<=272*l_ l
 |[]=>by rw[ed,l_];omega
 | e::r=>by have h1:=Y1 e;have a:=zG r;rw[ed,l_];omega
theorem NY:∀x:aJ,gd x<=272*nn x
 | .mk var ax=>by have h1:=NZ ax;rw[gd,nn];omega
theorem NZ:∀l:List aI,gD l<=272*np l
 |[]=>by rw[gD,np];omega
 | e::r=>by have h1:=Y2 e;have a:=NZ r;rw[gD,np];omega
theorem Y2:∀x:aI,k8 x<=272*sC x
 | .mk field aS=>by have h1:=zG aS;rw[k8,sC];omega
end
mutual
theorem Y3:∀x:aC,jI x<=272*sD x
 | .mk kind ay V b9 a_ place bn aZ bw=>by have h1:=NY place;have a:=zG bn;have b:=zH aZ;have c:=zH bw;rw[jI,sD];split<;>omega
theorem zH:∀l:List aC,cS l<=272*ma l
 |[]=>by rw[cS,ma];omega
 | e::r=>by have h1:=Y3 e;have a:=zH r;rw[cS,ma];omega
end
theorem N0{p:dy}(hz:dW p.cells<=1048576):∀t∈p.cO,cS t<=100000000000:=λt ht=>by have h1:=Y0 ht;have a:=zH t;omega
end Rb
namespace Rb
open Go
variable{n k:Int}{m:bH}{H:Z}{ia:Nat}
theorem Y4{p:dy}(hp:p.ok)(c:1<=k)(a:(cq p n)[(k-1).toNat]?=acK m) :
  (eX m.kind=acI->jt (cp p.vars m.place.var [] m.place.ax) 1<=4096->(gF p.vars (ck 0 p.vars) []).2=0->dd p n k=((cB (cp p.vars m.place.var [] m.place.ax)).map (gG p.vars m.place (gF p.vars (ck 0 p.vars) []).1),acI)/\fI p.vars (ck 0 p.vars)=acK (gF p.vars (ck 0 p.vars) []).1/\((cB (cp p.vars m.place.var [] m.place.ax)).length:Int)=jt (cp p.vars m.place.var [] m.place.ax) 1) /\
  (eX m.kind=acJ\/jt (cp p.vars m.place.var [] m.place.ax) 1>4096\/(gF p.vars (ck 0 p.vars) []).2≠0->dd p n k=([],acJ)):=by
 by_cases hw:eX m.kind=acI
 . obtain ⟨e,_,_,b⟩:=(zA hp n).1 m (adq a) hw;rw[e]at b;rw[DC c a hw,e];generalize cp p.vars m.place.var [] m.place.ax=bb at *;rcases NT bb 1 b (by decide) (by decide)with q|⟨q,f⟩
   . obtain ⟨l1,l2,l3⟩:=DD bb 1 _ b (by decide) (by decide) q;rw[q];rcases Di p.vars (ck 0 p.vars) []with⟨l,w1,w2⟩|⟨w1,w2⟩
     . rw[w1,w2];refine⟨λ_ _ _=>⟨rfl,rfl,by simp at l1;omega⟩,λh=>?_⟩;rcases h with h|h|h
       ·rw[hw]at h;cases h
       ·omega
       ·exact absurd rfl h
     . rw[w1];exact⟨λ_ _ h=>absurd h w2,λ_=>rfl⟩
   . rw[q];exact⟨λ_ h=>by omega,λ_=>rfl⟩
 . have d:eX m.kind=acJ:=by simpa using hw
   refine⟨λh=>absurd h hw,λ_=>?_⟩;have hi:=(aal.1 a).1;unfold dd;rw[bL,a];show(if eX m.kind=acJ then _ else _)=_;rw[ab d]
theorem N1{p:dy}(h:k<1\/k>((cq p n).length:Int)):dd p n k=([],acJ):=by unfold dd;rw[ab h]
section
variable{C:Ctx}(ak:cP C)(hT:Cl (ai C) S.b7)(hS:nu (ai C)){p:dy}(hp:p.ok)(hK:∀t∈p.cO,cS t<=100000000000)
 (hW:bD (ai C) 6 [] (.bool acI)) {Q:aa} (hQ:∀H',Q (.bool acI) H')
include ak hT hS hp hK hW hQ
theorem N2(c:fS p.vars)(ha:mb p.vars m)(l:1<=k)(d:(cq p n)[(k-1).toNat]?=acK m)(o:At H ia (.row (hq m))){bb:List Int}(a:cp p.vars m.place.var [] m.place.ax=bb) :
  S.AU (ai C) (.ae p.cells) (av aD (dd p n k).1) (.bool (dd p n k).2) (.ptr ia 0) (av cG bb) [.bool (eX m.kind)] Q [.int .i64 (jt bb 1)] H:=by
 obtain⟨pZ,zB⟩:=Y4 hp l d;rw[a]at pZ zB;unfold S.AU;simp only[ag];have r:∀H,aj H 1 acJ (.ae (p.cells.drop 0))=acK (av aB.cells p.vars):=λ_=>rfl;have s:aH 0 (.ae p.cells)=acK (.ae (p.cells.drop 0)):=rfl;simp only[s,r,O];refine MJ ak hT hS c _ _ ?_;simp only[bA,ac5,ac6,O,T,dg];generalize (gF p.vars (ck 0 p.vars) []).1=W at *;generalize (gF p.vars (ck 0 p.vars) []).2=e at *;generalize y:jt bb 1=V at *;have bad:eX m.kind=acJ\/V>4096\/e≠0->S.pk (ai C) (.ae p.cells) (av aD (dd p n k).1) (.bool (dd p n k).2) (.ptr ia 0) (av cG bb) (av aD W) [.int .i64 V] Q [.bool acI] H:=λU=>by rw[zB U];simp only[S.pk,T,au,bc];refine hW _ _ ?_;simp only[ag,bP,bc,dg,O,adG,aw,S.AM,T,bC,bI];exact hQ _
 have t:eX m.kind=acI->V<=4096->e=0->S.pk (ai C) (.ae p.cells) (av aD (dd p n k).1) (.bool (dd p n k).2) (.ptr ia 0) (av cG bb) (av aD W) [.int .i64 V] Q [.bool acJ] H:=λhw hv he=>by
  obtain⟨u,f,g⟩:=pZ hw hv he;obtain⟨M,a2,a3⟩:=ha.1 (DF hw);obtain⟨h,_,v,r4⟩:=(zA hp n).1 m (adq d) hw;rw[h,a]at r4;rw[h]at v;have A:=(zA hp n).2.2 c W f;have w:=sZ p.vars m.place.var m.place.ax [];rw[a]at w;rw[u];have hlen:(((cB bb).map (gG p.vars m.place W)).length:Int)=V:=by rw[abI];exact g
  simp only[ag,S.pk,T,au,abW,b4,aw,S.FC,dg,O,adH,bF,bc,bC,cC,hlen,bne_self_eq_false,S.AR,cV];have i:∀b:Bool,S.uD (ai C) (.ae p.cells) (av aD ((cB bb).map (gG p.vars m.place W))) (.bool acI) (.ptr ia 0) (av cG bb) (av aD W) [.int .i64 V] Q [.bool b] H:=λb=>by
   simp only[S.uD,T,au,aw];apply aG<;>intro _
   . refine hW _ _ ?_;simp only[ag,bP,bc,aw,S.AN,T,bC,O,bI,hlen,beq_self_eq_true];exact hQ _
   . unfold S.FB;exact YU ak hT hp c M a2 (fits_int a3) f (by omega) a r4 (by omega) g hv (cs:=hq m) (by unfold hq;rw[aJ.aX];rfl) hQ hW rfl (cB bb).length 0 H rfl o
  have x:∀b:Bool,S.uE (ai C) (.ae p.cells) (av aD ((cB bb).map (gG p.vars m.place W))) (.bool acI) (.ptr ia 0) (av cG bb) (av aD W) [.int .i64 V] Q [.bool b] H:=λb=>by simp only[ag,S.uE,T,bF,aw,bC,O,cV];exact aG (λ_=>i _) (λ_=>i _)
  exact x _
 have j:∀b:Bool,(b=acI↔eX m.kind=acJ\/V>4096)->S.uF (ai C) (.ae p.cells) (av aD (dd p n k).1) (.bool (dd p n k).2) (.ptr ia 0) (av cG bb) (av aD W) (.int .i64 e) [.int .i64 V] Q [.bool b] H:=λb U=>by
  simp only[ag,S.uF,T,bF,aw,cC,O];apply dC<;>intro z
  . have hn:¬(eX m.kind=acJ\/V>4096):=λq=>by rw[U.2 q]at z;cases z
    by_cases he:e=0
    . rw[show(e != 0)=acJ by simpa using he];exact t (by simpa using λq=>hn (.inl q)) (by omega) he
    . rw[show(e != 0)=acI by simpa using he];exact bad (.inr (.inr he))
  ·exact bad ((U.1 z).imp id .inl)
 simp only[bF,cV,O,aw];apply dC<;>intro z
 . have hw:eX m.kind=acI:=by simpa using z
   exact j _ ⟨λq=> .inr (by simpa using q),λq=>by simpa using q.resolve_left (by rw[hw];decide)⟩
 ·exact j acI ⟨λ_=> .inl (by simpa using z),λ_=>rfl⟩
theorem Y5(b:fS p.vars)(ha:mb p.vars m)(w:1<=k)(z:(cq p n)[(k-1).toNat]?=acK m)(h:At H ia (.row (hq m))) :
  S.qZ (ai C) (.ae p.cells) (av aD (dd p n k).1) (.bool (dd p n k).2) (.ptr ia 0) Q [.bool (eX m.kind)] H:=by
 have R:=hp.1;have G:m.place.ok:=by
  by_cases d:m.kind=7
  ·exact(ha.2.1 d).1
  ·exact(ha.1 d).1
 have j:m.place.ax.length<=64/\(∀q∈m.place.ax,q.aS=[]\/q.aS.length=1)/\∀c∈cp p.vars m.place.var [] m.place.ax,1<=c/\c<=65536:=by
  by_cases d:m.kind=7
  . rw[(ha.2.1 d).2];exact⟨by decide,λq a=>(by cases a),λc hc=>by rw[cp]at hc;cases hc⟩
  . obtain ⟨M,a2,a3⟩:=ha.1 d;obtain⟨v,hv,_,hl,A⟩:=s_ b a2;refine⟨zz b a2,?_,DI b hv m.place.ax [] v.type hl (by rw[cj]) (by rw[<-A];exact a2)⟩;rw[A]at a2;have gen:∀(r:List aI)(t:X),t.lay->(cj t r).1=0->∀q∈r,q.aS=[]\/q.aS.length=1:=by
     intro r;induction r with
     |nil=>intro t _ _ q a;cases a
     | cons y r g=>
      intro t ht hp q a;obtain⟨g1,g2⟩:=j0 hp;rcases kv ht g1 with⟨l1,_,e,U,_,l4,s⟩|⟨l1,_,n2,f,s2,_,_,_,l4,s⟩
      . rcases aco.1 a with rfl|a
        ·exact .inr l1
        ·rw[l4]at g2;exact g e s g2 q a
      . rcases aco.1 a with rfl|a
        ·exact .inl l1
        ·rw[l4]at g2;exact g f.type s g2 q a
    exact gen m.place.ax v.type hl a2
 unfold S.qZ;simp only[ag];have J:∀H,aj H 2 acI (.ae p.cells)=acK (.agg p.cells):=λ_=>rfl;have g3:aj H 2 acI (.ptr ia 3)=acK (.agg m.place.cells):=by rw[h.load];unfold hq;rw[aJ.aX];rfl
 simp only[J,dM,g3,O];refine YS ak hT (by have:=b.l;omega) b.o G (by omega) j.2.1 _ _ ?_;have V:=sZ p.vars m.place.var m.place.ax [];have K:=j.2.2;have W:=j.1;generalize D:cp p.vars m.place.var [] m.place.ax=bb at *;have main:∀(r:List Int)(i:Nat)(v:Int),bb.drop i=r->1<=v->v<=1000000000->jt r v=jt bb 1->ar (S.uH (ai C) (.ae p.cells) (av aD (dd p n k).1) (.bool (dd p n k).2) (.ptr ia 0) (av cG bb) [.bool (eX m.kind)] Q) ([.int .i64 v,.int .i64 i],H):=by
  intro r;induction r with
  | nil=>intro i v u _ _ he;have hle:=c7 u;refine ar.step ?_;simp only[ag,S.uH,T,bE,bC,aY,O,bP];rw[cQ];simp only[aw,S.uG,T,au,abW,b4];rw[jt]at he;rw[he];exact N2 ak hT hS hp hK hW hQ b ha w z h D
  | cons x r g=>
   intro i v u v1 v2 he;obtain⟨L,E,N⟩:=c4 u;have Y:=K x (adq E);have P:∀H,aj H 1 acJ (di cG 1 bb i)=acK (.int .i64 x):=λH=>mZ (c:=I.int .i64) H E;refine ar.step ?_;simp only[ag,S.uH,T,bE,bC,aY,O,bP];rw[cM];simp only[gl,O,aw,S.uG,T,au];rw[jt]at he;apply aG<;>intro e
   . have F:v<=4096:=by simpa using e
     rw[bL]at he;simp only[ag,aw,S.Fy,T,bE];rw[b6 L];simp only[O,P,gk,bz];have Z:v*x<=4096*x:=afi F (by omega);have p0:1*x<=v*x:=afi v1 (by omega);have hw:B (v*x)=v*x:=bo;rw[hw]at he;rw[wrap_i64 (n:=v*x) (by omega) (by omega),wrap_i64 (n:=(i:Int)+1) (by omega) (by omega),cN];exact g (i+1) _ N (by omega) (by omega) he
   . have F:¬v<=4096:=by simpa using e
     rw[dN]at he;rw[he];exact N2 ak hT hS hp hK hW hQ b ha w z h D
 exact main bb 0 1 rfl (by decide) (by decide) rfl
theorem Y6(I:∀n k:Int,-9223372036854775808<=k/\k<=9223372036854775807->bD (ai C) 4 [.agg p.cells,.int .i64 n,.int .i64 k] (.aA [av aD (dd p n k).1,.bool (dd p n k).2]))(J : -9223372036854775808<=k/\k<=9223372036854775807):S.f3 (ai C) (.agg p.cells) (.int .i64 n) (.int .i64 k) H Q:=by
 unfold S.f3;simp only[ag];have K:∀H,b5 H acJ 2 (.agg p.cells)=acK (.ae p.cells,H):=λH=>by unfold b5;rw[ab ⟨rfl,rfl⟩];rfl
 have g:∀H,aj H 2 acI (.ae p.cells)=acK (.agg p.cells):=λ_=>rfl;have o:∀H,aj H 1 acJ (.ae (p.cells.drop 1))=acK (av iK p.cO):=λ_=>rfl;have r:aH 1 (.ae p.cells)=acK (.ae (p.cells.drop 1)):=rfl;obtain⟨⟨aa,hv⟩,ac,ht⟩:=id hp;simp only[K,aN,g,O];refine I n k J _ _ ?_;simp only[bA,ac5,ac6,O,g];refine Wr ak hT p hp _ _ ?_;rw[show kF 1 1 acJ (yM (eO bx p))=acK (.int .i64 (eO bx p).2)from rfl];simp only[O,cC,bF,aY,aw];have s:cq p n=[]->S.q1 (ai C) (.int .i64 n) (.int .i64 k) (.ae p.cells) (av aD (dd p n k).1) (.bool (dd p n k).2) Q [.bool acI] H:=λh=>by rw[N1 (p:=p) (n:=n) (k:=k) (by rw[h];simp;omega)];simp only[S.q1,T,au,bc];refine hW _ _ ?_;simp only[ag,bP,bc,dg,O,adG,aw,S.AK,T,bC,bI];exact hQ _
 have L:(eO bx p).2=0->0<=n->n<(p.cO.length:Int)->S.AX (ai C) (.int .i64 n) (.int .i64 k) (.ae p.cells) (av aD (dd p n k).1) (.bool (dd p n k).2) Q [] H:=by
  intro ad n0 n1;obtain⟨j,rfl⟩:∃j:Nat,n=j:=⟨n.toNat,by omega⟩
  have u:j<p.cO.length:=by omega
  obtain⟨t,e⟩:∃t,p.cO[j]?=acK t:=⟨p.cO[j],abb u⟩
  have a:=adq e;have M:cq p j=ey t:=by unfold cq;rw[bL,aeq,List.getD_eq_getElem?_getD,e];rfl
  have N:∀H,aj H 1 acJ (di iK 1 p.cO j)=acK (av aC.cells t):=λH=>mZ (c:=λl=>av aC.cells l) H e;unfold S.AX;simp only[ag];simp only[r,o,O];rw[b6 u];simp only[O,N];have af:=zD t;have ah:=hK t a;refine DM ak hT (l:=t) (ht t a).1 (ht t a).2 (λx P=>YH ak hT x ((ht t a).2 x P)) (A:=[]) (cc.nil _ _ _) (by simp;omega) λH' al _ v=>?_;rw[aeh,<-M]at v;obtain⟨tk,rfl,_,_⟩:=v;have w:k<1\/k>((cq p j).length:Int)->S.q0 (ai C) (.int .i64 k) (.ae p.cells) (av aD (dd p j k).1) (.bool (dd p j k).2) (.aq tk (cq p j).length ((cq p j).flatMap hq)) Q [.bool acI] H':=λh=>by rw[N1 h];simp only[S.q0,T,au,bc];refine hW _ _ ?_;simp only[ag,bP,bc,dg,O,adG,aw,S.AL,T,bC,bI];exact hQ _
  have R:1<=k->k<=((cq p j).length:Int)->S.AW (ai C) (.int .i64 k) (.ae p.cells) (av aD (dd p j k).1) (.bool (dd p j k).2) (.aq tk (cq p j).length ((cq p j).flatMap hq)) Q [] H':=by
   intro h1 d;obtain⟨i,hi⟩:∃i:Nat,k=i+1:=⟨(k-1).toNat,by omega⟩
   have y:i<(cq p j).length:=by omega
   obtain⟨m,hm⟩:∃m,(cq p j)[i]?=acK m:=⟨(cq p j)[i],abb y⟩
   have V:(cq p j)[(k-1).toNat]?=acK m:=by rw[show(k-1).toNat=i by omega];exact hm
   obtain⟨_,W,ha⟩:=DG hp (adq hm);have X:=ha.2.2;have Y:B m.kind=m.kind:=bo;unfold S.AW;simp only[ag];simp only[eH,O];rw[wrap_i64 (n:=k-1) (by omega) (by omega),show k-1=(i:Int) by omega,YO y];simp only[O];rw[YP _ hm];simp only[O,aN,bQ,bc];rw[cn _ _ _ 5 (NV m) (YN m) rfl];have a0:=At.new H' (.row (hq m));generalize H'.push (.row (hq m))=H2 at *;generalize H'.n=ia at *;have l0:aj H2 1 acJ (.ptr ia 0)=acK (.int .i64 m.kind):=by rw[a0.load];unfold hq;rw[aJ.aX,Y];rfl
   have D:∀b:Bool,b=eX m.kind->S.qZ (ai C) (.ae p.cells) (av aD (dd p j k).1) (.bool (dd p j k).2) (.ptr ia 0) Q [.bool b] H2:=λb U=>by rw[U];exact Y5 ak hT hS hp hK hW hQ W ha h1 V a0
   have E:∀b:Bool,b=(decide (m.kind>=3)&&decide (m.kind<=6))->S.uI (ai C) (.ae p.cells) (av aD (dd p j k).1) (.bool (dd p j k).2) (.ptr ia 0) Q [.bool b] H2:=λb U=>by
    simp only[ag,S.uI,T,bF,dM,l0,O,eD,aw];have Z:decide (m.kind<=18)=acI:=by simpa using X.2
    refine dC (λz=>D _ ?_) (λz=>D _ ?_)
    . unfold eX;rw[<-U,z,Z,aea,Bool.false_or]
    . unfold eX;rw[<-U,z,Bool.true_or]
   simp only[O,dM,l0,eD,gl,bP,aw];refine aG (λz=>E _ ?_) (λz=>E _ ?_)
   ·rw[show decide (m.kind>=3)=acI from z,Bool.true_and]
   ·rw[show decide (m.kind>=3)=acJ by simpa using z,Bool.false_and]
  simp only[aY,O,bF,bC,aw];apply dC<;>intro z
  . have f:1<=k:=by simp at z;omega
    rw[show ea acJ (.aq tk (cq p j).length ((cq p j).flatMap hq))=acK (.int .i64 (cq p j).length)from rfl];simp only[O,cV];by_cases d:k>((cq p j).length:Int)
    . rw[show decide (k>((cq p j).length:Int))=acI by simpa using d];exact w (.inr d)
    . rw[show decide (k>((cq p j).length:Int))=acJ by simpa using d];simp only[S.q0,T,au,abW,b4,aw];exact R f (by omega)
  ·exact w (.inl (by simpa using z))
 have F:(eO bx p).2≠0\/n<0\/(p.cO.length:Int)<=n->cq p n=[]:=λh=>by unfold cq;rw[ab h]
 have G:∀b:Bool,(b=acI↔(eO bx p).2≠0\/n<0)->S.uJ (ai C) (.int .i64 n) (.int .i64 k) (.ae p.cells) (av aD (dd p n k).1) (.bool (dd p n k).2) Q [.bool b] H:=λb U=>by
  simp only[ag,S.uJ,T,bF,r,o,O,bC,eD,aw];apply dC<;>intro z
  . have hn:¬((eO bx p).2≠0\/n<0):=λq=>by rw[U.2 q]at z;cases z
    by_cases hle:(p.cO.length:Int)<=n
    . rw[show decide (n>=(p.cO.length:Int))=acI by simpa using hle];exact s (F (.inr (.inr hle)))
    . rw[show decide (n>=(p.cO.length:Int))=acJ by simpa using hle];simp only[S.q1,T,au,abW,b4,aw];exact L (by omega) (by omega) (by omega)
  ·exact s (F ((U.1 z).imp id .inl))
 apply dC<;>intro z
 . have f:(eO bx p).2=0:=by simpa using z
   exact G _ ⟨λq=> .inr (by simpa using q),λq=>by simpa using q.resolve_left (λh=>h f)⟩
 ·exact G acI ⟨λ_=> .inl (by simpa using z),λ_=>rfl⟩
end
end Rb
namespace Go.Proofs.YteboppjdnpoglaaGreatDoor.rb
open Rb
theorem Y7:bD (ai C) 6 [] (.bool acI):=λH Q hQ=>YC 6 [] (.bool acI) rfl H Q hQ
theorem boundAllows.any(p:dy)(hp:p.ok)(hz:dW p.cells<=1048576)(n:Int)(_ : -9223372036854775808<=n)(_:n<=9223372036854775807)(k:Int)(a : -9223372036854775808<=k)(b:k<=9223372036854775807):ai C 3 [.agg p.cells,.int .i64 n,.int .i64 k] Z.mt (λv _=>v = .bool acI):=S.Qu n_ (Y6 km n_ Np hp (N0 hz) Y7 (λ_=>rfl) (λn k hk=>DJ hp (N0 hz) n k hk) ⟨a,b⟩)
open Rb Go.ChangeShapes Go.WideShapes Go.ChangeAt Go.RowKit
variable{W:World}
theorem own:ownKnob Tryz.prog.godebug=none:=by kernel_rfl
theorem laidOut:laidOutB Tryz.prog=acI:=by kernel_rfl
theorem N3:Tryz.prog.cellsOf 5=1:=by kernel_rfl
def mN:List (String×DataW Unit):=Rows.boundAllowsRow.laid
theorem DS : Tryz.prog.globalNamed "strings.asciiSpace" = some 0 := by kernel_rfl
theorem Y8:(Tryz.prog.globals[0]?).map (·.type)=acK 262:=by kernel_rfl
theorem Y9:Tryz.prog.cellsOf 262=256:=by kernel_rfl
theorem Y_:(Rows.laid_strings_asciiSpace:DataW Unit)=afv .u8 Go.Lib.asciiSpaceTab:=by kernel_rfl
theorem Za : (("strings.asciiSpace", Go.Lib.tabData .u8 Go.Lib.asciiSpaceTab) : String × DataW Unit) ∈ mN := by
 rw[<-Y_];exact .tail _ (.tail _ (.tail _ (.tail _ (.tail _ (.tail _ (.head _))))))
set_option maxRecDepth 100000 in
theorem N4(h : laidMet Tryz.prog mN W) : Go.Lib.TabIs Tryz.prog W "strings.asciiSpace" .u8 Go.Lib.asciiSpaceTab := by
 obtain⟨e,f,cs,fuel,p,a,b,c,d⟩:=Go.Lib.laidMet.reads h Za;obtain rfl:=aaC.inj (DS.symm.trans a);obtain rfl:=aaC.inj (Y8.symm.trans b);unfold afw;rw[c,<-afx Tryz.underlying262 Tryz.underlying5 N3 Y9 d]
theorem DT : Tryz.prog.globalNamed "internal/strconv.uint64pow10" = some 5 := by kernel_rfl
theorem Zb:(Tryz.prog.globals[5]?).map (·.type)=acK 330:=by kernel_rfl
theorem Zc:Tryz.prog.cellsOf 330=20:=by kernel_rfl
theorem Zd:(Rows.laid_internal_strconv_uint64pow10:DataW Unit)=afv .u64 qV:=by kernel_rfl
theorem Ze : (("internal/strconv.uint64pow10", Go.Lib.tabData .u64 qV) : String × DataW Unit) ∈ mN := by
 rw[<-Zd];exact .tail _ (.tail _ (.head _))
set_option maxRecDepth 100000 in
theorem N5(h : laidMet Tryz.prog mN W) : Go.Lib.TabIs Tryz.prog W "internal/strconv.uint64pow10" .u64 qV := by
 obtain⟨e,f,cs,fuel,p,a,b,c,d⟩:=Go.Lib.laidMet.reads h Ze;obtain rfl:=aaC.inj (DT.symm.trans a);obtain rfl:=aaC.inj (Zb.symm.trans b);unfold afw;rw[c,<-afx Tryz.underlying330 Tryz.underlying12 (by kernel_rfl) Zc d]
theorem DU : Tryz.prog.globalNamed "math/bits.deBruijn64tab" = some 7 := by kernel_rfl
theorem Zf:(Tryz.prog.globals[7]?).map (·.type)=acK 333:=by kernel_rfl
theorem Zg:Tryz.prog.cellsOf 333=64:=by kernel_rfl
theorem Zh:(Rows.laid_math_bits_deBruijn64tab:DataW Unit)=afv .u8 qJ:=by kernel_rfl
theorem Zi : (("math/bits.deBruijn64tab", Go.Lib.tabData .u8 qJ) : String × DataW Unit) ∈ mN := by
 rw[<-Zh];exact .tail _ (.head _)
set_option maxRecDepth 100000 in
theorem N6(h : laidMet Tryz.prog mN W) : Go.Lib.TabIs Tryz.prog W "math/bits.deBruijn64tab" .u8 qJ := by
 obtain⟨e,f,cs,fuel,p,a,b,c,d⟩:=Go.Lib.laidMet.reads h Zi;obtain rfl:=aaC.inj (DU.symm.trans a);obtain rfl:=aaC.inj (Zf.symm.trans b);unfold afw;rw[c,<-afx Tryz.underlying333 Tryz.underlying5 N3 Zg d]
theorem Zj(h:laidMet Tryz.prog mN W):kc C W (aW.mt (lP W)):=by
 intro g l a;change gt g=acK l at a;unfold gt at a;split at a
 . rename_i e;subst e;cases a;rw[SK];exact BN λi hi=>(N4 h).cell DS i hi
 . split at a
   . rename_i e;subst e;cases a;rw[(show Fw=qV.map (I.int .u64)from rfl)];exact BN λi hi=>(N5 h).cell DT i hi
   . split at a
     . rename_i e;subst e;cases a;rw[(show EP=qJ.map (I.int .u8)from rfl)];exact BN λi hi=>(N6 h).cell DU i hi
     ·cases a
theorem o7(h:laidMet Tryz.prog mN W):c9 C W (aW.mt (lP W)) Z.mt:=by
 refine⟨Zj h,λg l a _=>⟨?_,λi hi=>by cases hi⟩⟩;change gt g=acK l at a;unfold gt at a;split at a
 . rename_i e;subst e;cases a;obtain⟨cs,t,fr,h1,b⟩:=BO DS (N4 h);exact⟨cs,t,fr,h1,b.trans (by kernel_rfl)⟩
 . split at a
   . rename_i e;subst e;cases a;obtain⟨cs,t,fr,h1,b⟩:=BO DT (N5 h);exact⟨cs,t,fr,h1,b.trans (by kernel_rfl)⟩
   . split at a
     . rename_i e;subst e;cases a;obtain⟨cs,t,fr,h1,b⟩:=BO DU (N6 h);exact⟨cs,t,fr,h1,b.trans (by kernel_rfl)⟩
     ·cases a
def DV(a:Os):World:=
 let N:=(World.settled Tryz.prog a).heap.size;let w0:=World.holding Tryz.prog a ⟨#[.cells #[.string ⟨#[118,97,108,117,101,32,111,117,116,32,111,102,32,114,97,110,103,101]⟩] 322,.cells #[.string ⟨#[105,110,118,97,108,105,100,32,115,121,110,116,97,120]⟩] 322,.cells #[.int .u16 9,.int .u16 13,.int .u16 1,.int .u16 32,.int .u16 133,.int .u16 101,.int .u16 160,.int .u16 5760,.int .u16 5600,.int .u16 8192,.int .u16 8202,.int .u16 1,.int .u16 8232,.int .u16 8233,.int .u16 1,.int .u16 8239,.int .u16 8287,.int .u16 48,.int .u16 12288,.int .u16 12288,.int .u16 1] 306,.cells #[.slice (acK ⟨N+2,0,none⟩) 7 7,.slice none 0 0,.int .i64 2] 303],#[],[]⟩;let put (h:Array Obj) (g:Nat) (cs:Array Value):Array Obj:=h.modify g λ
  | .cells _ t frozen=> .cells cs t frozen
  |o=>o
 {w0 with heap:=put (put (put (put (put (put (put (w0.heap) 6 #[.int .u8 0,.int .u8 1,.int .u8 28,.int .u8 2,.int .u8 29,.int .u8 14,.int .u8 24,.int .u8 3,.int .u8 30,.int .u8 22,.int .u8 20,.int .u8 15,.int .u8 25,.int .u8 17,.int .u8 4,.int .u8 8,.int .u8 31,.int .u8 27,.int .u8 13,.int .u8 23,.int .u8 21,.int .u8 19,.int .u8 16,.int .u8 7,.int .u8 26,.int .u8 12,.int .u8 18,.int .u8 6,.int .u8 11,.int .u8 5,.int .u8 10,.int .u8 9]) 7 #[.int .u8 0,.int .u8 1,.int .u8 56,.int .u8 2,.int .u8 57,.int .u8 49,.int .u8 28,.int .u8 3,.int .u8 61,.int .u8 58,.int .u8 42,.int .u8 50,.int .u8 38,.int .u8 29,.int .u8 17,.int .u8 4,.int .u8 62,.int .u8 47,.int .u8 59,.int .u8 36,.int .u8 45,.int .u8 43,.int .u8 51,.int .u8 22,.int .u8 53,.int .u8 39,.int .u8 33,.int .u8 30,.int .u8 24,.int .u8 18,.int .u8 12,.int .u8 5,.int .u8 63,.int .u8 55,.int .u8 48,.int .u8 27,.int .u8 60,.int .u8 41,.int .u8 37,.int .u8 16,.int .u8 46,.int .u8 35,.int .u8 44,.int .u8 21,.int .u8 52,.int .u8 32,.int .u8 23,.int .u8 11,.int .u8 54,.int .u8 26,.int .u8 40,.int .u8 15,.int .u8 34,.int .u8 20,.int .u8 31,.int .u8 10,.int .u8 25,.int .u8 14,.int .u8 19,.int .u8 9,.int .u8 13,.int .u8 8,.int .u8 7,.int .u8 6]) 5 #[.int .u64 1,.int .u64 10,.int .u64 100,.int .u64 1000,.int .u64 10000,.int .u64 100000,.int .u64 1000000,.int .u64 10000000,.int .u64 100000000,.int .u64 1000000000,.int .u64 10000000000,.int .u64 100000000000,.int .u64 1000000000000,.int .u64 10000000000000,.int .u64 100000000000000,.int .u64 1000000000000000,.int .u64 10000000000000000,.int .u64 100000000000000000,.int .u64 1000000000000000000,.int .u64 10000000000000000000]) 3 #[.iface 320 (.pointer (acK ⟨N+0,0,none⟩))]) 2 #[.iface 320 (.pointer (acK ⟨N+1,0,none⟩))]) 1 #[.pointer (acK ⟨N+3,0,none⟩)]) 0 #[.int .u8 0,.int .u8 0,.int .u8 0,.int .u8 0,.int .u8 0,.int .u8 0,.int .u8 0,.int .u8 0,.int .u8 0,.int .u8 1,.int .u8 1,.int .u8 1,.int .u8 1,.int .u8 1,.int .u8 0,.int .u8 0,.int .u8 0,.int .u8 0,.int .u8 0,.int .u8 0,.int .u8 0,.int .u8 0,.int .u8 0,.int .u8 0,.int .u8 0,.int .u8 0,.int .u8 0,.int .u8 0,.int .u8 0,.int .u8 0,.int .u8 0,.int .u8 0,.int .u8 1,.int .u8 0,.int .u8 0,.int .u8 0,.int .u8 0,.int .u8 0,.int .u8 0,.int .u8 0,.int .u8 0,.int .u8 0,.int .u8 0,.int .u8 0,.int .u8 0,.int .u8 0,.int .u8 0,.int .u8 0,.int .u8 0,.int .u8 0,.int .u8 0,.int .u8 0,.int .u8 0,.int .u8 0,.int .u8 0,.int .u8 0,.int .u8 0,.int .u8 0,.int .u8 0,.int .u8 0,.int .u8 0,.int .u8 0,.int .u8 0,.int .u8 0,.int .u8 0,.int .u8 0,.int .u8 0,.int .u8 0,.int .u8 0,.int .u8 0,.int .u8 0,.int .u8 0,.int .u8 0,.int .u8 0,.int .u8 0,.int .u8 0,.int .u8 0,.int .u8 0,.int .u8 0,.int .u8 0,.int .u8 0,.int .u8 0,.int .u8 0,.int .u8 0,.int .u8 0,.int .u8 0,.int .u8 0,.int .u8 0,.int .u8 0,.int .u8 0,.int .u8 0,.int .u8 0,.int .u8 0,.int .u8 0,.int .u8 0,.int .u8 0,.int .u8 0,.int .u8 0,.int .u8 0,.int .u8 0,.int .u8 0,.int .u8 0,.int .u8 0,.int .u8 0,.int .u8 0,.int .u8 0,.int .u8 0,.int .u8 0,.int .u8 0,.int .u8 0,.int .u8 0,.int .u8 0,.int .u8 0,.int .u8 0,.int .u8 0,.int .u8 0,.int .u8 0,.int .u8 0,.int .u8 0,.int .u8 0,.int .u8 0,.int .u8 0,.int .u8 0,.int .u8 0,.int .u8 0,.int .u8 0,.int .u8 0,.int .u8 0,.int .u8 0,.int .u8 0,.int .u8 0,.int .u8 0,.int .u8 0,.int .u8 0,.int .u8 0,.int .u8 0,.int .u8 0,.int .u8 0,.int .u8 0,.int .u8 0,.int .u8 0,.int .u8 0,.int .u8 0,.int .u8 0,.int .u8 0,.int .u8 0,.int .u8 0,.int .u8 0,.int .u8 0,.int .u8 0,.int .u8 0,.int .u8 0,.int .u8 0,.int .u8 0,.int .u8 0,.int .u8 0,.int .u8 0,.int .u8 0,.int .u8 0,.int .u8 0,.int .u8 0,.int .u8 0,.int .u8 0,.int .u8 0,.int .u8 0,.int .u8 0,.int .u8 0,.int .u8 0,.int .u8 0,.int .u8 0,.int .u8 0,.int .u8 0,.int .u8 0,.int .u8 0,.int .u8 0,.int .u8 0,.int .u8 0,.int .u8 0,.int .u8 0,.int .u8 0,.int .u8 0,.int .u8 0,.int .u8 0,.int .u8 0,.int .u8 0,.int .u8 0,.int .u8 0,.int .u8 0,.int .u8 0,.int .u8 0,.int .u8 0,.int .u8 0,.int .u8 0,.int .u8 0,.int .u8 0,.int .u8 0,.int .u8 0,.int .u8 0,.int .u8 0,.int .u8 0,.int .u8 0,.int .u8 0,.int .u8 0,.int .u8 0,.int .u8 0,.int .u8 0,.int .u8 0,.int .u8 0,.int .u8 0,.int .u8 0,.int .u8 0,.int .u8 0,.int .u8 0,.int .u8 0,.int .u8 0,.int .u8 0,.int .u8 0,.int .u8 0,.int .u8 0,.int .u8 0,.int .u8 0,.int .u8 0,.int .u8 0,.int .u8 0,.int .u8 0,.int .u8 0,.int .u8 0,.int .u8 0,.int .u8 0,.int .u8 0,.int .u8 0,.int .u8 0,.int .u8 0,.int .u8 0,.int .u8 0,.int .u8 0,.int .u8 0,.int .u8 0,.int .u8 0,.int .u8 0,.int .u8 0,.int .u8 0,.int .u8 0,.int .u8 0,.int .u8 0,.int .u8 0,.int .u8 0,.int .u8 0,.int .u8 0,.int .u8 0,.int .u8 0,.int .u8 0,.int .u8 0,.int .u8 0,.int .u8 0,.int .u8 0]}
theorem Zk(a:Os)(args:Array Value):laidMet Tryz.prog mN ((DV a).forCall (λ_ _=>0) ⟨#[],args,[]⟩).memory:=laidMet_of_run3 10 (by kernel_rfl) (by kernel_rfl) (by kernel_rfl)
end Go.Proofs.YteboppjdnpoglaaGreatDoor.rb
namespace Rb
open Go Go.RowKit
open Go
structure ql where
 DW:Int
 site:Int
 rd:Bool
 wr:Bool
 fn:Bool
 at_:Int
 len_:Int
 data:List Int
 a_:Int
 Zl:Bool
 pair:Int
def ql.cells(e:ql):List I:=[.int .i64 e.DW,.int .i64 e.site,.bool e.rd,.bool e.wr,.bool e.fn,.int .i64 e.at_,.int .i64 e.len_,av (i1 .u8) e.data,.int .i64 e.a_,.bool e.Zl,.int .i64 e.pair]
def N7(l:List Int):List I:=[av (i1 .i64) l]
structure zI where
 events:List ql
 from_:List (List Int)
 after:List (List Int)
 size:Int
def zI.cells(x:zI):List I:=[av ql.cells x.events,av N7 x.from_,av N7 x.after,.int .i64 x.size]
def k_(z:Int):Prop:=IntKind.min .i64<=z/\z<=adi .i64
theorem k_.hi{z:Int}(h:k_ z):z<=9223372036854775807:=by have:=h.2;simp[adi,IntKind.signed,IntKind.bits]at this;omega
structure ql.ok(e:ql):Prop where
 DW:k_ e.DW
 site:k_ e.site
 at_:k_ e.at_
 len_:k_ e.len_
 a_:k_ e.a_
 pair:k_ e.pair
structure zI.ok(x:zI):Prop where
 events:x.events.length<=maxLen/\∀e∈x.events,e.ok
 from_:x.from_.length<=maxLen/\∀l∈x.from_,l.length<=maxLen/\∀z∈l,k_ z
 after:x.after.length<=maxLen/\∀l∈x.after,l.length<=maxLen/\∀z∈l,k_ z
 size:k_ x.size
end Rb
namespace Go.Proofs.YteboppjdnpoglaaGreatDoor.rb
open Rb
variable{H:Type}{enc:TypeId×Value->H}{w:World}{sp:Nat->Bool}{held:Bool}{F:dE}
theorem Zm:∃fT fF,Ju Tryz.prog 3 4 9 68 103 66 65 fT fF:=⟨_,_,Tryz.underlying3,Tryz.underlying4,Tryz.underlying9,Tryz.underlying68,Tryz.underlying103,Tryz.underlying66,Tryz.underlying65,rfl,rfl,by kernel_rfl,by kernel_rfl,λt ht=>by simp only[aco,afy,or_false]at ht;rcases ht with rfl|rfl|rfl|rfl|rfl<;>kernel_rfl⟩
theorem Zn(n:Nat):bN F enc Tryz.prog w sp held n 68 X.cells X.ok:=let ⟨_,_,h⟩:=Zm;SS h n
theorem Zo:∃fE fL fR,BP Tryz.prog 3 47 9 135 39 93 87 37 fE fL fR:=⟨_,_,_,Tryz.underlying3,Tryz.underlying47,Tryz.underlying9,Tryz.underlying135,Tryz.underlying39,Tryz.underlying93,Tryz.underlying87,Tryz.underlying37,rfl,rfl,rfl,by kernel_rfl,by kernel_rfl,by kernel_rfl,λt ht=>by simp only[aco,afy,or_false]at ht;rcases ht with rfl|rfl|rfl|rfl|rfl<;>kernel_rfl⟩
theorem Zp(n:Nat):bN F enc Tryz.prog w sp held n 70 aB.cells aB.ok:=SX Tryz.underlying9 (by kernel_rfl) (by kernel_rfl) Zn Tryz.underlying70 rfl (by kernel_rfl) n
theorem Zq(n:Nat):bN F enc Tryz.prog w sp held n 89 aC.cells aC.ok:=let ⟨_,_,_,h⟩:=Zo;SY h Tryz.underlying89 Tryz.underlying36 rfl (by kernel_rfl) (by kernel_rfl) n
theorem Zr(n:Nat):bN F enc Tryz.prog w sp held n 25 dy.cells dy.ok:=SZ Zp Zq Tryz.underlying22 Tryz.underlying36 Tryz.underlying23 (by kernel_rfl) (by kernel_rfl) (by kernel_rfl) (by kernel_rfl) (by kernel_rfl) Tryz.underlying25 rfl (by kernel_rfl) n
end Go.Proofs.YteboppjdnpoglaaGreatDoor.rb
end
