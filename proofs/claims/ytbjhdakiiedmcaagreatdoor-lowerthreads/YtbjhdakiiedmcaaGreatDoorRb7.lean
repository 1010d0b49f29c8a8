/- A part of the proof (part 7): see the last text. -/
import Derived.Test.YtbjhdakiiedmcaaGreatDoorRb6
import Derived.Test.YtbjhdakiiedmcaaGreatDoorRb5
import Derived.Test.YtbjhdakiiedmcaaGreatDoorRb4
import Derived.Test.YtbjhdakiiedmcaaGreatDoorRb3
import Derived.Test.YtbjhdakiiedmcaaGreatDoorRb2
import Derived.Test.YtbjhdakiiedmcaaGreatDoorTie
import Derived.Test.YtbjhdakiiedmcaaGreatDoorCards
set_option linter.unusedVariables false
set_option linter.unusedSimpArgs false
set_option linter.unusedSectionVars false
namespace Rb
open Go
theorem cz.s_{id:Nat}{vars:List aK}{wh xl:AV}{c:LD}{H0 H:AH}{P:AV→AH→Prop}{zs cs:List AV}{N:Nat}(h:cz H id vars wh xl c)(k0:KR id H0 H)(hz:zs.length=N)(hc:cs.length=N)(hs:cs.all AV.scalar=true)(hP:∀j H',KR id H H'→cz H' id vars wh xl c→Bx H0 id xl H' j N cs→H.n≤j→P (.ptr j 0) H') :
  aJ (some (be H true zs)) fun x H1=>Do (aH H1 N x (.agg cs)) fun H2=>P x H2:=by
 simp only[be,if_true,bw];rw[fC _ _ _ N hc hs hz];simp only[aa];exact hP _ _ (KR.ext (AH.Ext.push _ _)) (h.ext (AH.Ext.push _ _)) (h.box k0 hc) (Nat.le_refl _)
section
variable{C:Ctx}(aw:dz C)(hT:Cl (au C) S.cH){id:Nat}{vars:List aK}{wh xl:AV}{c:LD}{H0 H:AH}{Q:ae}{w:Nat}
include aw hT
theorem acY(h:cz H id vars wh xl c)(hb:BD c (w+64)){s:ec}{b al a st:Int}(eQ:P2 al)(hl:s.len≤16)(ha:fO c.bK a)(hs:1≤st∧st≤(c.sn:Nat))(hQ:EX id vars wh xl H c 64 0 Q):au C K.f86 [.ptr id 0,.agg (fX s b al),.int .i64 a,.int .i64 st] H Q:=by
 refine S.arJ hT ?_;unfold S.f86;simp only[Vg,bw,afP,aa];refine aaG aw hT eQ hl fun l x H1 E1 hx hp hc=>?_;obtain⟨tk,rfl⟩:=hx;simp only[show br false (.aq tk l.length (l.flatMap i_))=some (.int .i64 l.length)from rfl,aa];have main:∀(r:List (Int×Int)) (i:Nat) (H2:AH) (c2:LD) (o:Int),l.drop i=r→i≤l.length→KR id H H2→cz H2 id vars wh xl c2→GE c c2 (4*i) 0→fO c2.bK o →
   aB (S.PE (au C) (.ptr id 0) (.int .i64 a) (.int .i64 st) (.aq tk l.length (l.flatMap i_)) (.int .i64 l.length) Q) ([.int .i64 o,.int .i64 i],H2):=by
  intro r;induction r with
  | nil=>intro i H2 c2 o hd rE k2 h2 g2 ho;have hle:=fe hd;refine aB.step ?_;simp only[S.PE,aA,cv,bF,aa,aD];rw[if_neg (by simp only[decide_eq_true_eq];omega)];exact hQ o c2 H2 k2 h2 (g2.mono (by omega) (Nat.le_refl _)) ho
  | cons p r ih=>
   intro i H2 c2 o hd rE k2 h2 g2 ho;obtain⟨aO,hx,bC⟩:=eX hd;obtain⟨q,e1,e2⟩:=VK (tk:=tk) hx H2;have jv:BD c2 (w+4):=g2.bd (m:=w+4) (hb.mono (by omega));refine aB.step ?_;simp only[S.PE,aA,cv,bF,aa,aD];rw[if_pos (by simp only[decide_eq_true_eq];omega)];simp only[e1,e2,aa];refine h2.s_ k2 (cs:=i_ p) rfl rfl rfl fun jp H3 k3 h3 bp _=>?_;replace k3:=k2.trans k3;refine sX aw hT h3 k3 fun j H4 k4 h4 b4 hj=>?_;have C9:=bp.aY k4;have bU:jp≠j:=by have:=bp.a.1;omega
   have K4:=k3.trans k4;simp only[show ∀k:Nat,ab k (.ptr jp 0)=some (.ptr jp (0+k))from fun _=>rfl,show ∀k:Nat,ab k (.ptr j 0)=some (.ptr j (0+k))from fun _=>rfl,Nat.zero_add,aa,C9.ld (k:=0) rfl,C9.ld (k:=1) rfl,vg];refine BC aw hT h4 (w:=w+3) jv fun H5 k5 h5=>?_;have XG:=C9.aY k5;refine⟨XG.ld rfl,XG.ld rfl,?_⟩;refine(b4.aY k5).st h5 (K4.trans k5) (by decide) One.int fun H6 K6 h6 b6 o6=>?_;have C_:=o6 _ _ _ bU XG;refine⟨C_.ld rfl,C_.ld rfl,?_⟩;refine b6.st h6 K6 (by decide) One.int fun H7 K7 h7 b7 o7=>?_;have F8:=o7 _ _ _ bU C_;refine⟨F8.ld rfl,F8.ld rfl,?_⟩;refine b7.st h7 K7 (by decide) One.int fun H8 K8 h8 b8 o8=>?_;have Rg:=o8 _ _ _ bU F8;refine⟨Rg.ld rfl,?_⟩;refine b8.st h8 K8 (by decide) One.int fun H9 K9 h9 b9 o9=>?_;have XH:=o9 _ _ _ bU Rg;refine b9.st h9 K9 (by decide) One.int fun Ha Ka tJ ba oa=>?_;have bpa:=oa _ _ _ bU XH;rw[ba.all];simp only[aa];have hA:=jv.A;refine rU aw hT tJ (by show c2.A.length≤_;omega) ⟨4,c2.bK,-1,a,-1,-1,IntKind.wrap .u64 p.1,0,p.2,0,0,st,0⟩ fun Hb kb wt=>?_;have bpb:=bpa.aY kb;rw[(ba.aY kb).ld (k:=1) rfl];simp only[aa,bpb.ld (k:=0) rfl,m7,vg];have s0:=g2.s0;have r0:=g2.r0;have gb:GE c2 (LD.add {c2 with bK:=c2.bK+1} ⟨4,c2.bK,-1,a,-1,-1,IntKind.wrap .u64 p.1,0,p.2,0,0,st,0⟩) 1 0:=
    GE.S8 (rJ (by decide) (by decide) (sL (Nat.lt_succ_self _)) eo (ha.mono (by omega)) eo eo (.inr (.inr ⟨hs.1,by omega⟩)) (.inr (.inr (hp p (List.mem_of_getElem? hx))))) (wJ (.inl (by decide)))
   have nE:=gb.bd (m:=w+3) (jv.mono (by omega));refine yB aw hT wt (w:=w+1) nE _ _ (sL (Nat.lt_succ_self _)) fun r1 c5 Hc kc tK gc rc=>?_;simp only[cn,aa,aD];have gbc:=(g2.trans gb).trans gc;refine aN (fun _=>?_) (fun _=>?_)
   · simp only[aG,S.PD,aA,cv,cp,aa];rw[wrap_i64 (by omega) (by omega),cN];exact ih (i+1) Hc c5 r1 bC (by omega) ((Ka.trans kb).trans kc) tK (gbc.mono (by omega) (Nat.le_refl _)) rc
   · refine IG aw hT tK (w:=w) (gc.bd (m:=w+1) (nE.mono (by omega))) _ ((ho.mono gb.r0).mono gc.r0) rc fun r2 c6 Hd kd tM gd rd=>?_;simp only[aG,S.PD,aA,cv,cp,aa];rw[wrap_i64 (by omega) (by omega),cN];exact ih (i+1) Hd c6 r2 bC (by omega) (((Ka.trans kb).trans kc).trans kd) tM ((gbc.trans gd).mono (by omega) (Nat.le_refl _)) rd
 exact main l 0 H1 c (-1) rfl (Nat.zero_le _) (KR.ext E1) (h.ext E1) (GE.refl c) eo
theorem anT(h:cz H id vars wh xl c)(hb:BD c (w+48)){s:ec}{b al a st x:Int}(eQ:P2 al)(hl:s.len≤16)(ha:fO c.bK a)(Be:fO c.bK x)(hs:1≤st∧st≤(c.sn:Nat))(hQ:EU id vars wh xl H c 48 0 Q):au C K.f89 [.ptr id 0,.agg (fX s b al),.int .i64 a,.int .i64 x,.int .i64 st] H Q:=by
 refine S.arM hT ?_;unfold S.f89;simp only[Vg,bw,afP,aa];refine aaG aw hT eQ hl fun l y H1 E1 hx hp hc=>?_;obtain⟨tk,rfl⟩:=hx;simp only[show br false (.aq tk l.length (l.flatMap i_))=some (.int .i64 l.length)from rfl,aa];have main:∀(r:List (Int×Int)) (i:Nat) (H2:AH) (c2:LD),l.drop i=r→i≤l.length→KR id H H2→cz H2 id vars wh xl c2→GE c c2 (3*i) 0 →
   aB (S.PF (au C) (.ptr id 0) (.int .i64 a) (.int .i64 x) (.int .i64 st) (.aq tk l.length (l.flatMap i_)) (.int .i64 l.length) Q) ([.int .i64 i],H2):=by
  intro r;induction r with
  | nil=>intro i H2 c2 hd rE k2 h2 g2;have hle:=fe hd;refine aB.step ?_;simp only[S.PF,aA,bF,aa,aD];rw[if_neg (by simp only[decide_eq_true_eq];omega)];exact hQ c2 H2 k2 h2 (g2.mono (by omega) (Nat.le_refl _))
  | cons p r ih=>
   intro i H2 c2 hd rE k2 h2 g2;obtain⟨aO,hx,bC⟩:=eX hd;obtain⟨q,e1,e2⟩:=VK (tk:=tk) hx H2;have jv:BD c2 (w+3):=g2.bd (m:=w+3) (hb.mono (by omega));refine aB.step ?_;simp only[S.PF,aA,bF,aa,aD];rw[if_pos (by simp only[decide_eq_true_eq];omega)];simp only[e1,e2,aa];refine h2.s_ k2 (cs:=i_ p) rfl rfl rfl fun jp H3 k3 h3 bp _=>?_;replace k3:=k2.trans k3;refine sX aw hT h3 k3 fun j H4 k4 h4 b4 hj=>?_;have C9:=bp.aY k4;have bU:jp≠j:=by have:=bp.a.1;omega
   have K4:=k3.trans k4;simp only[show ∀k:Nat,ab k (.ptr jp 0)=some (.ptr jp (0+k))from fun _=>rfl,show ∀k:Nat,ab k (.ptr j 0)=some (.ptr j (0+k))from fun _=>rfl,Nat.zero_add,aa,C9.ld (k:=0) rfl,C9.ld (k:=1) rfl,vg];refine b4.st h4 K4 (by decide) One.int fun H6 K6 h6 b6 o6=>?_;have C_:=o6 _ _ _ bU C9;refine⟨C_.ld rfl,C_.ld rfl,?_⟩;refine b6.st h6 K6 (by decide) One.int fun H7 K7 h7 b7 o7=>?_;have F8:=o7 _ _ _ bU C_;refine⟨F8.ld rfl,?_⟩;refine b7.st h7 K7 (by decide) One.int fun H8 K8 h8 b8 o8=>?_;have Rg:=o8 _ _ _ bU F8;refine b8.st h8 K8 (by decide) One.int fun H9 K9 h9 b9 o9=>?_;have XH:=o9 _ _ _ bU Rg;simp only[XH.ld (k:=0) rfl,aa,m7,vg];have r0:=g2.r0;have s0:=g2.s0;refine yB aw hT h9 (w:=w+1) jv _ _ (Be.mono r0) fun r1 c5 Hc kc tK gc rc=>?_;refine(b9.aY kc).st tK (K9.trans kc) (by decide) One.int fun Hd Kd tM bd od=>?_;rw[bd.all];simp only[aa];have hb5:=gc.bd (m:=w+1) (jv.mono (by omega));have hA:=hb5.A;have s5:=gc.s0;have r5:=gc.r0;refine rU aw hT tM (by omega) ⟨5,-1,-1,a,r1,-1,IntKind.wrap .u64 p.1,0,p.2,0,0,st,0⟩ fun He ke wu=>?_;simp only[cp,aa];rw[wrap_i64 (by omega) (by omega),cN];refine ih (i+1) He _ bC (by omega) (Kd.trans ke) wu (((g2.trans gc).trans (GE.add (rJ (by decide) (by decide) eo eo (ha.mono (by omega)) rc eo (.inr (.inr ⟨hs.1,by omega⟩)) (.inr (.inr (hp p (List.mem_of_getElem? hx))))) (wJ (.inl (by decide))))).mono (by omega) (Nat.le_refl _))
 exact main l 0 H1 c rfl (Nat.zero_le _) (KR.ext E1) (h.ext E1) (GE.refl c)
end
end Rb

namespace Rb
open Go
def dy.pc(a:dy):AV:=if a.what=7∨a.what=8∨a.what=9 then aQ a_.cells a.x.parts else .aq .nil 0 []
def dy.cells(a:dy):List AV:=[.int .i64 a.what,.int .u64 a.n,.int .i64 a.k,.int .i64 a.j,.str a.x.var,a.pc,.int .i64 a.kind,.int .i64 a.order,.int .i64 a.site,.int .i64 a.line]
theorem dy.avG(a:dy):a.pc.scalar=true:=by unfold dy.pc;split<;>rfl
theorem dy.bf(a:dy):a.cells=[.int .i64 a.what,.int .u64 a.n,.int .i64 a.k,.int .i64 a.j,.str a.x.var,a.pc,.int .i64 a.kind,.int .i64 a.order,.int .i64 a.site,.int .i64 a.line]:=rfl
theorem dy.len(a:dy):a.cells.length=10:=by rw[dy.bf];rfl
theorem dy.scalar(a:dy):a.cells.all AV.scalar=true:=by show(true&&(true&&(true&&(true&&(true&&(a.pc.scalar&&(true&&(true&&(true&&(true&&true))))))))))=true;rw[a.avG];rfl
section
variable(a:dy)(H:AH)
end
theorem yJ.len(w:yJ):w.cells.length=13:=rfl
section
variable{H:AH}{i:Nat}{w:yJ}(h:At H i (.row w.cells))
include h
end
structure xV(vars:List aK):Prop where
 l:vars.length≤32
 o:∀v∈vars,v.ok
 z:∀v∈vars,(cd v.type).2=0
 e:lH 0 vars≤65536
section
variable{C:Ctx}(aw:dz C)(hT:Cl (au C) S.cH)
include aw hT
end
end Rb

namespace Rb
open Go
def avX(w:yJ)(fin:Int)(px:AV)(em:Bool):List AV:=w.cells++[.int .i64 fin,px,.bool em]
structure RI(H0 H:AH)(i1 i4 js:Nat)(xs px:AV)(st sl pr:List Int):Prop where
 E:AH.Ext H0 H
 l1:H0.n≤i1
 l4:H0.n≤i4
 lj:H0.n≤js
 RT:i1≠i4
 RU:i1≠js
 RV:i4≠js
 r1:∃cs,At H i1 (.row cs)∧cs.length=16
 r4:At H i4 (.row (avX Jj 0 px false))
 LC:At H js (.row (sl.map (AV.int .u64)))
 st:fG H 1 xs st.length (st.map (AV.int .u64))
 pr:fG H 1 px pr.length (pr.map (AV.int .u64))
 ds:∀j,eC xs=some j→H0.n≤j∧j≠i1∧j≠i4∧j≠js∧eC px≠some j
 dp:∀j,eC px=some j→H0.n≤j∧j≠i1∧j≠i4∧j≠js
theorem RI.ext{H0 H H':AH}{i1 i4 js:Nat}{xs px:AV}{st sl pr:List Int}(h:RI H0 H i1 i4 js xs px st sl pr)(k:AH.Ext H H'):RI H0 H' i1 i4 js xs px st sl pr:=⟨h.E.trans k,h.l1,h.l4,h.lj,h.RT,h.RU,h.RV,by obtain⟨cs,a,b⟩:=h.r1;exact⟨cs,a.ext k,b⟩,h.r4.ext k,h.LC.ext k,h.st.ext k,h.pr.ext k,h.ds,h.dp⟩
theorem RI.push{H0 H:AH}{i1 i4 js:Nat}{xs px:AV}{st sl pr:List Int}(h:RI H0 H i1 i4 js xs px st sl pr)(v:Int)(hl:st.length≤1000000001){K:ae}(hK:∀x' H',RI H0 H' i1 i4 js x' px (st++[v]) sl pr→(∀i o,At H i o→eC xs≠some i→At H' i o)→K x' H'):aJ (eF H true 1 8 xs (.aq .full 1 [.int .u64 v])) K:=by
 refine h.st.app (by decide) rfl rfl (by omega) (by omega) fun x' H' r1 hn kp hr=>hK x' H' ?_ (fun i o ho hi=>kp i o hi ho);obtain⟨cs,a1,b1⟩:=h.r1;have ne1:eC xs≠some i1:=fun e=>(h.ds i1 e).2.1 rfl;have ne4:eC xs≠some i4:=fun e=>(h.ds i4 e).2.2.1 rfl;have nej:eC xs≠some js:=fun e=>(h.ds js e).2.2.2.1 rfl;refine⟨Ext.aY h.E hn (fun i o hi ho=>kp i o (fun e=>by have:=(h.ds i e).1;omega) ho),h.l1,h.l4,h.lj,h.RT,h.RU,h.RV,⟨cs,kp _ _ ne1 a1,b1⟩,kp _ _ ne4 h.r4,kp _ _ nej h.LC,?_,h.pr.aY (fun j cs hj ho=>kp j _ (fun e=>(h.ds j e).2.2.2.2 hj) ho),fun j hj=>?_,h.dp⟩
 ·rw[List.map_append,List.length_append];exact r1
 · rcases hr with hr|hr
   ·exact h.ds j (by rw[←hr];exact hj)
   · rw[hr]at hj;cases hj;have hE:=h.E.1;have q1:=a1.1;have q4:=h.r4.1;have qj:=h.LC.1;exact⟨hE,by omega,by omega,by omega,fun e=>by have:=h.pr.lt e;omega⟩
theorem RI.cut{H0 H:AH}{i1 i4 js:Nat}{xs px:AV}{st sl pr:List Int}(r:List Int)(h:RI H0 H i1 i4 js xs px (st++r) sl pr):∃x',kO 1 xs none (some (.int .i64 (st.length:Nat))) none=some x'∧RI H0 H i1 i4 js x' px st sl pr:=by obtain⟨x',e,hr,hd⟩:=h.st.cut (k:=st.length) (by rw[List.length_append];omega);refine⟨x',e,h.E,h.l1,h.l4,h.lj,h.RT,h.RU,h.RV,h.r1,h.r4,h.LC,?_,h.pr,fun j hj=>h.ds j (by rw[←hd];exact hj),h.dp⟩;rw[Nat.mul_one,List.map_append,List.take_append_of_le_length (by simp),List.take_of_length_le (by simp)]at hr;exact hr
theorem RI.other{H0 H:AH}{i1 i4 js i:Nat}{xs px:AV}{st sl pr:List Int}(h:RI H0 H i1 i4 js xs px st sl pr)(hi:H0.n≤i)(h1:i1≠i)(h4:i4≠i)(hj:js≠i)(hx:eC xs≠some i)(hp:eC px≠some i)(o:dc):RI H0 (H.set i o) i1 i4 js xs px st sl pr:=by obtain⟨cs,a1,b1⟩:=h.r1;exact⟨h.E.set hi _,h.l1,h.l4,h.lj,h.RT,h.RU,h.RV,⟨cs,a1.dq h1 _,b1⟩,h.r4.dq h4 _,h.LC.dq hj _,h.st.set hx _,h.pr.set hp _,h.ds,h.dp⟩
theorem RI.top{H0 H:AH}{i1 i4 js:Nat}{xs px:AV}{st sl pr:List Int}{v:Int}(h:RI H0 H i1 i4 js xs px (st++[v]) sl pr):∃p,bj none 1 xs (.int .i64 st.length)=some p∧J H 1 false p=some (.int .u64 v):=by obtain⟨p,e1,e2⟩:=h.st.get (k:=st.length) (v:= .int .u64 v) (by simp);exact⟨p,e1,e2 H (AH.Ext.refl _)⟩
section
variable{C:Ctx}(aw:dz C)(hT:Cl (au C) S.cH)
include aw hT
end
end Rb

namespace Rb
open Go
structure CD where
 A:List dy
 L:List (List UInt8×Nat)
 nx:Nat
 sites:Int
 line:Int
def CD.add(c:CD)(a:dy):CD:={c with A:=c.A++[{a with line:=c.line}]}
def cdC(vars:List aK)(xa xn xs:AV)(c:CD):List AV:=[aQ aK.cells vars,xa,xn,xs,.int .i64 c.nx,.int .i64 c.sites,.int .i64 c.line]
structure CR(H:AH)(id:Nat)(vars:List aK)(xa xn xs:AV)(c:CD):Prop where
 row:At H id (.row (cdC vars xa xn xs c))
 a:fG H 10 xa c.A.length (c.A.flatMap dy.cells)
 n:fG H 1 xn c.L.length (c.L.map fun p=> .str p.1)
 s:fG H 1 xs c.L.length (c.L.map fun p=> .int .i64 (p.2:Int))
 da:∀j,eC xa=some j→j≠id∧eC xn≠some j∧eC xs≠some j
 dn:∀j,eC xn=some j→j≠id∧eC xs≠some j
 ds:∀j,eC xs=some j→j≠id
structure CF(id:Nat)(H:AH)(xa xn xs:AV)(H':AH)(xa' xn' xs':AV):Prop where
 n:H.n≤H'.n
 k:∀i o,i≠id→eC xa≠some i→eC xn≠some i→eC xs≠some i→At H i o→At H' i o
 ra:∀j,eC xa'=some j→eC xa=some j∨H.n≤j
 rn:∀j,eC xn'=some j→eC xn=some j∨H.n≤j
 rs:∀j,eC xs'=some j→eC xs=some j∨H.n≤j
theorem CF.refl(id:Nat)(H:AH)(xa xn xs:AV):CF id H xa xn xs H xa xn xs:=⟨Nat.le_refl _,fun _ _ _ _ _ _ h=>h,fun _ h=> .inl h,fun _ h=> .inl h,fun _ h=> .inl h⟩
theorem CF.trans{id:Nat}{H H1 H2:AH}{xa xn xs ya yn ys za zn zs:AV}(h:CF id H xa xn xs H1 ya yn ys)(k:CF id H1 ya yn ys H2 za zn zs):CF id H xa xn xs H2 za zn zs:=by
 refine⟨Nat.le_trans h.n k.n,fun i o h1 h2 h3 h4 ho=>k.k i o h1 ?_ ?_ ?_ (h.k i o h1 h2 h3 h4 ho),fun j hj=>?_,fun j hj=>?_,fun j hj=>?_⟩
 · intro e;rcases h.ra i e with q|q
   ·exact h2 q
   ·have:=ho.1;omega
 · intro e;rcases h.rn i e with q|q
   ·exact h3 q
   ·have:=ho.1;omega
 · intro e;rcases h.rs i e with q|q
   ·exact h4 q
   ·have:=ho.1;omega
 · rcases k.ra j hj with q|q
   ·exact h.ra j q
   ·exact .inr (Nat.le_trans h.n q)
 · rcases k.rn j hj with q|q
   ·exact h.rn j q
   ·exact .inr (Nat.le_trans h.n q)
 · rcases k.rs j hj with q|q
   ·exact h.rs j q
   ·exact .inr (Nat.le_trans h.n q)
theorem CF.ext{id:Nat}{H H1:AH}(xa xn xs:AV)(E:AH.Ext H H1):CF id H xa xn xs H1 xa xn xs:=⟨E.1,fun _ _ _ _ _ _ h=>h.ext E,fun _ h=> .inl h,fun _ h=> .inl h,fun _ h=> .inl h⟩
theorem CF.set{id:Nat}{H:AH}(xa xn xs:AV)(o:dc):CF id H xa xn xs (H.set id o) xa xn xs:=⟨Nat.le_refl _,fun _ _ h1 _ _ _ h=>h.dq h1 o,fun _ h=> .inl h,fun _ h=> .inl h,fun _ h=> .inl h⟩
theorem CR.ext{H H1:AH}{id:Nat}{vars:List aK}{xa xn xs:AV}{c:CD}(h:CR H id vars xa xn xs c)(E:AH.Ext H H1):CR H1 id vars xa xn xs c:=⟨h.row.ext E,h.a.ext E,h.n.ext E,h.s.ext E,h.da,h.dn,h.ds⟩
theorem CR.put{H:AH}{id:Nat}{vars:List aK}{xa xn xs:AV}{c c':CD}(h:CR H id vars xa xn xs c)(h1:c'.A=c.A)(h2:c'.L=c.L):CR (H.set id (.row (cdC vars xa xn xs c'))) id vars xa xn xs c':=⟨h.row.set _,by rw[h1];exact h.a.set (fun e=>(h.da _ e).1 rfl) _,by rw[h2];exact h.n.set (fun e=>(h.dn _ e).1 rfl) _,by rw[h2];exact h.s.set (fun e=>(h.ds _ e) rfl) _,h.da,h.dn,h.ds⟩
section
variable{C:Ctx}(aw:dz C)(hT:Cl (au C) S.cH){id:Nat}{vars:List aK}
include aw hT
end
end Rb

namespace Rb
open Go
def CD.ex(vars:List aK)(c:CD)(e:aF):CD:={c with A:=c.A++Y5 vars c.L c.line e c.sites,sites:=aR (c.sites+V_ e 0)}
def CD.pl(vars:List aK)(c:CD)(x:aT):CD:={c with A:=c.A++RZ vars c.L c.line x c.sites,sites:=aR (c.sites+uG x)}
section
variable{C:Ctx}(aw:dz C)(hT:Cl (au C) S.cH){id:Nat}{vars:List aK}
include aw hT
end
end Rb

namespace Rb
open Go
def CD.st(vars:List aK)(c:CD)(x:aC):CD:=⟨c.A++Y7 vars x c.A.length c.nx c.L c.sites,scL c.L c.nx x,c.nx+WQ x,aR (c.sites+Wa x 0),lnS x⟩
def CD.bl(vars:List aK)(c:CD)(l:List aC):CD:=⟨c.A++LB vars l c.A.length c.nx c.L c.sites,c.L,c.nx+JT l,aR (c.sites+Ce l 0),GL l c.line⟩
section
variable{C:Ctx}(aw:dz C)(hT:Cl (au C) S.cH){id:Nat}{vars:List aK}
include aw hT
end
end Rb

namespace Rb
open Go
section
variable(vars:List aK)(L:List (List UInt8×Nat))(ln:Int)
end
def Kq(s s':RS):Prop:=s.stop=false→0≤s.fuel→s.fuel≤1000000→(s'.pr.length:Int)≤s.pr.length+s.fuel∧(s'.stop=false→0≤s'.fuel∧s'.fuel≤s.fuel∧(s'.pr.length:Int)+s'.fuel≤s.pr.length+s.fuel)
theorem Kq.trans{a b c:RS}(h:Kq a b)(k:Kq b c)(aX:b.stop=true→c.pr=b.pr∧c.stop=true):Kq a c:=fun h0 h1 h2=>by
 obtain⟨x1,x2⟩:=h h0 h1 h2;cases hb:b.stop with
 | true=>obtain⟨e1,e2⟩:=aX hb;rw[e1];exact⟨x1,fun z=>by rw[e2]at z;cases z⟩
 | false=>obtain⟨y1,y2,y3⟩:=x2 hb;obtain⟨z1,z2⟩:=k hb y1 (by omega);exact⟨by omega,fun z=>by have:=z2 z;omega⟩
theorem Ks.same{s s':RS}(h:Ks s s')(hs:s.stop=true):s'.pr=s.pr∧s'.stop=true:=by have:=h.st hs;rw[this];exact⟨rfl,hs⟩
section
variable(vars:List aK)(c:Nat)
end
end Rb

namespace Rb
open Go
section
variable{C:Ctx}(aw:dz C)(hT:Cl (au C) S.cH){vars:List aK}
include aw hT
end
end Rb

namespace Rb
open Go
section
variable{C:Ctx}(aw:dz C)(hT:Cl (au C) S.cH){id:Nat}{vars:List aK}{L:List (List UInt8)}{c:Nat}
include aw hT
end
end Rb

namespace Rb
open Go
section
variable{C:Ctx}(aw:dz C)(hT:Cl (au C) S.cH){kw:List UInt8→Bool}(pV:∀x,cG (au C) K.f42 [.str x] (.bool (kw x)))
include aw hT
include pV
end
end Rb

namespace Rb
open Go
section
variable{C:Ctx}(aw:dz C)(hT:Cl (au C) S.cH){kw:List UInt8→Bool}(pV:∀x,cG (au C) K.f42 [.str x] (.bool (kw x)))
include aw hT
include pV
end
end Rb

namespace Rb
open Go
theorem an8{p:jT}(hp:p.ok)(h:(jk bP p).2=0):xV p.vars∧∀t∈p.threads,vB p.vars [] t:=by
 obtain⟨h1,h2,h3⟩:=at7 bP h;have rF:q_ bP p.vars=if fF bP [] p.vars≠0 then fF bP [] p.vars else if lH 0 p.vars>65536 then 9 else 0:=by unfold q_;rw[if_neg (by omega)];exact Tj bP 70000 rfl p.vars [] 0 0 (by decide) (by simp) (by omega)
 rw[h2]at rF;have hf:fF bP [] p.vars=0:=by
  by_cases e:fF bP [] p.vars=0
  ·exact e
  ·rw[if_pos e]at rF;exact rF.symm
 rw[if_neg (by simpa using hf)]at rF;refine⟨⟨h1,hp.1.2,TM bP hf,?_⟩,h3⟩;by_cases e:lH 0 p.vars>65536
 ·rw[if_pos e]at rF;cases rF
 ·omega
end Rb

namespace Rb
open Go
def gw(vars:List aK):AV:= .aq .dead vars.length (nh vars (rL 0 vars))
def qo(C:Ctx)(id:Nat)(vars:List aK)(L:List (List UInt8))(e:aF):Prop:=∀{xl:AV}{c:LD}{H:AH}{Q:ae}{w:Nat},cz H id vars (gw vars) xl c→c.L.map Prod.fst=L→BD c (w+gK e)→EX id vars (gw vars) xl H c (gK e-8) (rB e) Q→au C K.f47 [.ptr id 0,.agg e.cells] H Q
theorem uH(e:aF):16≤gK e:=by rw[adz];omega
theorem am3{vars:List aK}{x:aT}(hp:(dm vars x).1=0):∃n v,vars.findIdx? (fun v=>v.name==x.var)=some n∧vars[n]?=some v∧dm vars x=m_ v.type x.parts:=by
 unfold dm at hp ⊢;rcases BA (fun v:aK=>v.name==x.var) vars with⟨i,v,h1,h2,h3⟩|⟨h1,h2⟩
 · rw[h2]at hp ⊢;dsimp only at hp ⊢;by_cases hs:iI v.type≠0
   ·rw[if_pos hs]at hp;exact absurd hp hs
   ·exact⟨i,v,h1,h3,by rw[if_neg hs]⟩
 · rw[h2]at hp;have:(6:Int)=0:=hp;omega
theorem ald{t:aE}{p:a_}{r:List a_}(h:(m_ t (p::r)).1=0):m_ t (p::r)=m_ (fU t p).2 r:=by
 rw[m_];by_cases c:(fU t p).1≠0
 ·rw[m_,if_pos c]at h;exact absurd h c
 ·rw[if_neg c]
theorem ads{a r:Int}(ha:P2 a)(hr:P2 r):∃m,P2 m∧oY false [.int .i64 a,.int .i64 r]=some (.int .i64 m):=by
 rcases ha with rfl|rfl|rfl|rfl|rfl<;>rcases hr with rfl|rfl|rfl|rfl|rfl;all_goals first
  |exact⟨1,.inl rfl,rfl⟩
  |exact⟨2,.inr (.inl rfl),rfl⟩
  |exact⟨4,.inr (.inr (.inl rfl)),rfl⟩
  |exact⟨8,.inr (.inr (.inr (.inl rfl))),rfl⟩
  |exact⟨16,.inr (.inr (.inr (.inr rfl))),rfl⟩
theorem Bx.R1{id j N n o:Nat}{vars:List aK}{wh xl:AV}{c:LD}{H0 H:AH}{cs ds:List AV}(b:Bx H0 id xl H j N cs)(h:cz H id vars wh xl c)(k0:KR id H0 H)(hn:ds.length=n)(hs:ds.all AV.scalar=true)(ho:o+n≤N){P:AH→Prop}
  (hP:∀H',KR id H0 H'→cz H' id vars wh xl c→Bx H0 id xl H' j N (setCells cs o ds)→(∀j2 M ds,j2≠j→Bx H0 id xl H j2 M ds→Bx H0 id xl H' j2 M ds)→P H'):Do (aH H n (.ptr j o) (.agg ds)) P:=by
 rw[b.a.store,if_pos ⟨rfl,hn,hs,by rw[b.len];exact ho⟩,aa];exact hP _ (k0.box b.lo _) (h.other b.a b.ne b.nx _) (b.set _ (by rw[Si];exact b.len)) fun j2 M ds hn b2=>b2.other hn _
theorem abv{cs ds:List AV}(h:ds.length=cs.length):setCells cs 0 ds=ds:=by rw[Sh (by omega)];rfl
theorem ada:∀{l:List aK}{a:Int}{n:Nat}{v:aK}{g:ec},l[n]?=some v→(rL a l)[n]?=some g→g.len=(cd v.type).1.1
 | u::r,a,0,v,g,h,k=>by simp at h;subst h;simp[rL]at k;rw[←k]
 |u::r,a,n+1,v,g,h,k=>ada (l:=r) (by simpa using h) (by simpa[rL]using k)
theorem sq(k:Nat)(cs:List AV):ab k (.av cs)=some (.av (cs.drop k)):=rfl
theorem eP(i k:Nat):ab k (.ptr i 0)=some (.ptr i k):=by simp[ab]
theorem cz.aub{id:Nat}{vars:List aK}{wh xl:AV}{c:LD}{H0 H:AH}{P:AV→AH→Prop}{zs:List AV}{N:Nat}(h:cz H id vars wh xl c)(k0:KR id H0 H)(hz:zs.length=N)(hP:∀j H',KR id H H'→cz H' id vars wh xl c→Bx H0 id xl H' j N zs→H.n≤j→P (.ptr j 0) H'):aJ (some (be H true zs)) P:=⟨_,_,rfl,hP _ _ (KR.ext (AH.Ext.push _ _)) (h.ext (AH.Ext.push _ _)) (h.box k0 hz) (Nat.le_refl _)⟩
theorem C5.at_{t:aE}{s:ec}(h:C5 t s)(a:Int):C5 t {s with at_:=a}:=⟨h.bits,h.len,h.bit,h.wid⟩
section
variable{C:Ctx}(aw:dz C)(hT:Cl (au C) S.cH){id:Nat}{vars:List aK}{xl:AV}{c:LD}{H:AH}{Q:ae}{w:Nat}
include aw hT
theorem Hy(hV:xV vars){L:List (List UInt8)}{x:aT}(hx:x.ok)(hp:(dm vars x).1=0)(hE:∀p∈x.parts,∀e∈p.index,qo C id vars L e)(h:cz H id vars (gw vars) xl c)(hL:c.L.map Prod.fst=L)(hb:BD c (w+kY x))
  (hQ:∀s b al c' H',KR id H H'→cz H' id vars (gw vars) xl c'→GE c c' (kY x) (nU x)→fO c'.bK b→P2 al→C5 (dm vars x).2 s→(dm vars x).2.lay→Q (.agg (fX s b al)) H'):au C K.f84 [.ptr id 0,.agg x.cells] H Q:=by
 obtain⟨Lc,hxp⟩:=aT.eS hx;obtain⟨n,v,hn1,Dr,tX⟩:=am3 hp;have gI:=List.mem_of_getElem? Dr;have hvt:v.type.lay:=afF (by have:=hV.o v gI;cases v;exact this.2) (hV.z v gI);have aO:=(List.getElem?_eq_some_iff.1 Dr).1;obtain⟨g,tl,g1,g2,g3⟩:=ac_ (a:=0) Dr;rw[tX]at hp hQ;rw[arV]at hb hQ;rw[adp]at hQ;refine S.arH hT ?_;unfold S.f84;simp only[BP,bw];refine h.aub KR.refl (N:=8) rfl fun j1 H1 k1 h1 b1 l1=>?_;simp only[bR,eP,aa,h1.vs];refine S.Uo hT ?_;refine Ti (p:=fun v=>v.name==x.var) (fun u _ R hR=>S.aoG hT (by
   unfold S.f109;have hb:bB H1 false 7 (.agg u.cells)=some (.av u.cells,H1):=by unfold bB;rw[if_pos ⟨rfl,u.len⟩];rfl
   have l0:J H1 1 false (.av (u.cells.drop 0))=some (.str u.name):=Ji u;have l1:J H1 1 false (.av (x.cells.drop 0))=some (.str x.var):=afN x H1;rw[hb];simp only[bw,ab,aa,l0,l1,lq];exact hR)) (by have:=hV.l;omega) ?_
 rw[hn1];simp only[kx,bR,eP,aa,h1.vs];rw[d_ aO];simp only[aa,iB,sq];rw[Ue v H1 Dr];simp only[aa];refine h1.s_ k1 (cs:=v.type.cells) (N:=6) rfl v.type.len v.type.scalar fun jt H2 k2 h2 bt l2=>?_;have K2:=k1.trans k2;have b12:=b1.aY k2;have n1t:j1≠jt:=by have:=b1.a.1;omega
 simp only[h2.whr,aa];have nZ:bj none 3 (gw vars) (.int .i64 n)=some (.av ((nh vars (rL 0 vars)).drop (n*3))):=by show(if 0≤(n:Int)∧(n:Int)<(vars.length:Nat)then some (AV.av ((nh vars (rL 0 vars)).drop ((n:Int).toNat*3)))else none)=_;rw[if_pos ⟨by omega,by omega⟩,Int.toNat_natCast]
 rw[nZ,g3];simp only[aa,sq,List.drop_succ_cons,List.drop_zero];rw[show J H2 2 true (.av (.int .i64 g.at_ :: .int .i64 g.len::tl))=some (.agg [.int .i64 g.at_,.int .i64 g.len])from Bq (a:=[AV.int .i64 g.at_,.int .i64 g.len]) rfl];simp only[aa];rw[show bJ [.int .i64 0,.int .i64 0,.int .i64 0,.bool false,.int .i64 0,.int .i64 0] [(0,2,.agg [.int .i64 g.at_,.int .i64 g.len])]=some (.agg ({q5 with at_:=g.at_,len:=g.len}:ec).cells)from rfl];simp only[aa];rw[show bJ [.int .i64 0,.int .i64 0,.int .i64 0,.bool false,.int .i64 0,.int .i64 0,.int .i64 0,.int .i64 0] [(0,6,.agg ({q5 with at_:=g.at_,len:=g.len}:ec).cells),(6,1,.int .i64 (-1)),(7,1,.int .i64 16)]=some (.agg (fX {q5 with at_:=g.at_,len:=g.len} (-1) 16))from rfl];simp only[aa];refine h2.s_ K2 (cs:=fX {q5 with at_:=g.at_,len:=g.len} (-1) 16) (N:=8) rfl rfl rfl fun js H3 k3 h3 bs l3=>?_;have K3:=K2.trans k3;have b13:=b12.aY k3;have bt3:=bt.aY k3;have GN:j1≠js:=by have:=b12.a.1;omega
 have DF:jt≠js:=by have:=bt.a.1;omega
 simp only[aa,An,cu];have main:∀(r:List a_)(i:Nat)(t:aE)(s:ec)(b al:Int)(c2:LD)(H2:AH)(w1 k1:Nat),x.parts.drop i=r→t.lay→(m_ t r).1=0→m_ t r=m_ v.type x.parts→KR id H H2→cz H2 id vars (gw vars) xl c2→Bx H id xl H2 j1 8 [.int .i64 0,.int .i64 0,.int .i64 0,.bool false,.int .i64 0,.int .i64 0,.int .i64 0,.int .i64 0]→Bx H id xl H2 jt 6 t.cells→Bx H id xl H2 js 8 (fX s b al)→C5 t s→fO c2.bK b→P2 al→GE c c2 w1 k1→w1+l_ r=l_ x.parts→k1+r_ r=r_ x.parts →
   aB (S.BX (au C) (.ptr id 0) (.ptr j1 0) (.ptr jt 0) (.ptr js 0) (aQ a_.cells x.parts) (.int .i64 x.parts.length) Q) ([.int .i64 i],H2):=by
  intro r;induction r with
  | nil=>intro i t s b al c2 H4 w1 k1 hd ht h0 RD K4 h4 C7 XJ sr hs qE eQ g4 hw hk;have hle:=fe hd;refine aB.step ?_;simp only[S.BX,aA,bF,aa,aD,aG];rw[if_neg (by simp only[decide_eq_true_eq];omega)];unfold S.ad9;simp only[eP,aa,sr.ld (k:=7) rfl,sr.ld (k:=0) rfl];refine Vb aw hT (.inr (.inr (.inr (.inr rfl)))) fun r hr _=>?_;refine⟨sr.ld rfl,?_⟩;obtain⟨m,hm,em⟩:=ads eQ hr;simp only[em,aa,eP];refine sr.st h4 K4 (by decide) One.int fun H5 K5 h5 pL o5=>?_;rw[show(fX s b al).set 7 (.int .i64 m)=fX s b m from rfl]at pL;rw[pL.all];simp only[aa];refine(o5 _ _ _ GN C7).R1 h5 K5 rfl rfl (by show 0+8≤8;decide) fun H6 K6 h6 b16 _=>?_;rw[show setCells [.int .i64 0,.int .i64 0,.int .i64 0,.bool false,.int .i64 0,.int .i64 0,.int .i64 0,.int .i64 0] 0 (fX s b m)=fX s b m from rfl]at b16;rw[b16.all];simp only[aa];rw[←RD]at hQ;rw[l_]at hw;rw[r_]at hk;exact hQ s b m c2 H6 K6 h6 (g4.mono (by omega) (by omega)) qE hm hs ht
  | cons p r ih=>
   intro i t s b al c2 H4 w1 k1 hd ht h0 RD K4 h4 C7 XJ sr hs qE eQ g4 hw hk;obtain⟨ahc,KY,bC⟩:=eX hd;have axe:=List.mem_of_getElem? KY;obtain⟨lN,lO⟩:=alc h0;have I_:=ald h0;rw[l_]at hw;rw[r_]at hk;have nW:BD c2 (w+(wi p+l_ r)):=g4.bd (m:=w+(wi p+l_ r)) (hb.mono (by omega));refine aB.step ?_;simp only[S.BX,aA,bF,aa,aD];rw[if_pos (by simp only[decide_eq_true_eq];omega),d_ ahc];simp only[aa];rw[gO a_.len (by decide) _ KY];simp only[aa];refine h4.s_ K4 (cs:=p.cells) (N:=2) rfl p.len p.scalar fun jp H5 k5 h5 bp l5=>?_;have K5:=K4.trans k5;have Re:=C7.aY k5;have Ga:=XJ.aY k5;have pL:=sr.aY k5;have npt:jt≠jp:=by have:=XJ.a.1;omega
   have nps:js≠jp:=by have:=sr.a.1;omega
   have np1:j1≠jp:=by have:=C7.a.1;omega
   have ax9:p.cells[1]?=some (aQ aF.cells p.index):=by rw[a_.bf];rfl
   simp only[eP,aa,bp.ld ax9,cu,cn,aD];have nx:∀H',aB (S.BX (au C) (.ptr id 0) (.ptr j1 0) (.ptr jt 0) (.ptr js 0) (aQ a_.cells x.parts) (.int .i64 x.parts.length) Q) ([.int .i64 ((i+1:Nat):Int)],H')→S.PB (au C) ([.int .i64 i],H4) (aB (S.BX (au C) (.ptr id 0) (.ptr j1 0) (.ptr jt 0) (.ptr js 0) (aQ a_.cells x.parts) (.int .i64 x.parts.length) Q)) Q [] H':=fun H' hl=>by unfold S.PB;simp only[aA,cp,aa];rw[wrap_i64 (by omega) (by omega),cN];exact hl
   rcases anR ht lN with⟨Dl,oN,e,el,he,JJ,fA⟩|⟨n_,oN,n2,f,s2,f1,f2,f3,JJ,pR⟩
   · rw [if_neg (by simp[Dl])];obtain⟨ex,hex⟩:∃ex,p.index=[ex]:=List.length_eq_one_iff.1 Dl;have hR:wi p=gK ex:=by rw[adC,hex,gn,gn,Nat.add_zero]
     have hA:C6 p=rB ex:=by rw[Uj,hex,il,il,Nat.add_zero]
     have wj:=uH ex;rw[show bj none 8 (aQ aF.cells p.index) (.int .i64 0)=some (iB aF.cells 8 p.index 0)from d_ (i:=0) (by omega)];simp only[aa];rw[gO aF.len (by decide) _ (show p.index[0]?=some ex by rw[hex];rfl)];simp only[aa];refine hE p axe ex (by rw[hex];exact List.mem_singleton.2 rfl) h5 (by rw[g4.L];exact hL) (w:=w+l_ r) (nW.mono (by omega)) fun r1 c6 H6 k6 h6 g6 kD=>?_;have tI:BD c6 (w+l_ r+8):=g6.bd (m:=w+l_ r+8) (nW.mono (by omega));refine sX aw hT h6 (K5.trans k6) fun jb H7 k7 h7 bb l7=>?_;have K7:=(K5.trans k6).trans k7;have Gb:=(Ga.aY k6).aY k7;have xX:=(pL.aY k6).aY k7;have XA:=(Re.aY k6).aY k7;have YW:jt≠jb:=by have:=(Ga.aY k6).a.1;omega
     have nbs:js≠jb:=by have:=(pL.aY k6).a.1;omega
     have nb1:j1≠jb:=by have:=(Re.aY k6).a.1;omega
     have tct:t.cells[4]?=some (.int .i64 t.count):=by rw[aE.bf];rfl
     have tel:t.cells[5]?=some (aQ aE.cells (e::el)):=by rw[aE.bf,←he];rfl
     simp only[eP,aa,Gb.ld tct,vg];refine bb.st h7 K7 (by decide) One.int fun H8 K8 h8 Kw o8=>?_;refine⟨(o8 _ _ _ YW Gb).ld tct,?_⟩;refine Kw.st h8 K8 (by decide) One.int fun H9 K9 h9 bb9 o9=>?_;rw[bb9.all];simp only[aa];have hA6:=tI.A;refine rU aw hT h9 (by omega) ⟨17,-1,-1,r1,-1,-1,IntKind.wrap .u64 t.count,0,0,0,0,0,0⟩ fun Ha ka tJ=>?_;have g7:=GE.add (rJ (S:=c6.sn) (d:= -1) (d2:= -1) (b:= -1) (c:= -1) (n:=IntKind.wrap .u64 t.count) (o:=0) (z:=0) (r:=0) (t:=0) (s:=0) (l:=0) (k:=17) (by decide) (by decide) eo eo kD eo eo (.inr (.inl (by decide))) (.inr (.inl (by decide)))) (wJ (.inr (by decide)));have sx:=g7.bd (m:=w+l_ r+7) (tI.mono (by omega));generalize LD.add c6 ⟨17,-1,-1,r1,-1,-1,IntKind.wrap .u64 t.count,0,0,0,0,0,0⟩=c7 at *;have Ka:=K9.trans ka;have bta:=(o9 _ _ _ YW (o8 _ _ _ YW Gb)).aY ka;have zt:=(o9 _ _ _ nbs (o8 _ _ _ nbs xX)).aY ka;have b1a:=(o9 _ _ _ nb1 (o8 _ _ _ nb1 XA)).aY ka;simp only[bta.ld tel,aa];rw[show bj none 6 (aQ aE.cells (e::el)) (.int .i64 0)=some (iB aE.cells 6 (e::el) 0)from d_ (by simp)];simp only[aa];rw[gO aE.len (by decide) _ (show(e::el)[0]?=some e from rfl)];simp only[aa];refine bta.R1 tJ Ka e.len e.scalar (by decide) fun Hb Kb wt XK ob=>?_;rw[abv (by rw[e.len,t.len])]at XK;have F9:=ob _ _ _ DF.symm zt;have b1b:=ob _ _ _ n1t b1a;rw[XK.all];simp only[aa];refine R8 aw hT e fA.ok _ _ ?_;simp only[db,List.getElem?_cons_zero,List.getElem?_cons_succ,aa,vg];refine yB aw hT wt (w:=w+l_ r+5) (sx.mono (by omega)) _ _ (kD.mono g7.r0) fun r2 c8 Hc kc tK g8 oP=>?_;have Rl:BD c8 (w+l_ r+5):=g8.bd (m:=w+l_ r+5) (sx.mono (by omega));have Kc:=Kb.trans kc;have btc:=XK.aY kc;have Kz:=F9.aY kc;have b1c:=b1b.aY kc;have k5':t.kind=5:=oN;have og:s.bits=false:=by
      cases hq:s.bits with
      |false=>rfl
      |true=>have:=(hs.bits hq).1;omega
     have fin:∀(b':Int)(c9:LD)(Hd:AH),KR id H Hd→cz Hd id vars (gw vars) xl c9→Bx H id xl Hd j1 8 [.int .i64 0,.int .i64 0,.int .i64 0,.bool false,.int .i64 0,.int .i64 0,.int .i64 0,.int .i64 0]→Bx H id xl Hd jt 6 e.cells→Bx H id xl Hd js 8 (fX s b' al)→fO c9.bK b'→GE c c9 (w1+gK ex) (k1+rB ex) →
       S.PC (au C) (.ptr js 0) (.int .i64 (cd e).1.1) ([.int .i64 i],H4) (aB (S.BX (au C) (.ptr id 0) (.ptr j1 0) (.ptr jt 0) (.ptr js 0) (aQ a_.cells x.parts) (.int .i64 x.parts.length) Q)) Q [] Hd:=by
      intro b' c9 Hd Kd tM b1d btd XI iC g9;unfold S.PC;simp only[eP,aa];refine XI.st tM Kd (by decide) One.int fun He Ke wu F_ oe=>?_;rw[show(fX s b' al).set 1 (.int .i64 (cd e).1.1)=fX {s with len:=(cd e).1.1} b' al from rfl]at F_;simp only[F_.ld (k:=7) rfl,aa];refine Vb aw hT (.inr (.inr (.inr (.inr rfl)))) fun r hr _=>?_;refine⟨F_.ld rfl,?_⟩;obtain⟨m,hm,em⟩:=ads eQ hr;simp only[em,aa,eP];refine F_.st wu Ke (by decide) One.int fun Hf Kf Df bsf of=>?_;rw[show(fX {s with len:=(cd e).1.1} b' al).set 7 (.int .i64 m)=fX {s with len:=(cd e).1.1} b' m from rfl]at bsf;refine nx Hf ?_;refine ih (i+1) e _ b' m c9 Hf (w1+gK ex) (k1+rB ex) bC fA ?_ ?_ Kf Df (of _ _ _ GN (oe _ _ _ GN b1d)) (of _ _ _ DF (oe _ _ _ DF btd)) bsf ⟨fun e=>(by rw[og]at e;cases e),fun _=>rfl,hs.bit,hs.wid⟩ iC hm g9 (by omega) (by omega)
      ·rw[JJ]at lO;exact lO
      ·rw[←RD,I_,JJ]
     simp only[Kz.ld (k:=6) rfl,aa,cn,aD,aG];have g48:=((g4.trans g6).trans g7).trans g8;refine aN (fun _=>?_) (fun _=>?_)
     · refine Kz.st tK Kc (by decide) One.int fun Hd Kd tM XI od=>?_;exact fin r2 c8 Hd Kd tM (od _ _ _ GN b1c) (od _ _ _ DF btc) XI oP (g48.mono (by omega) (by omega))
     · refine IG aw hT tK (w:=w+l_ r) (Rl.mono (by omega)) _ (((qE.mono g6.r0).mono g7.r0).mono g8.r0) oP fun r3 c9 Hd kd tM g9 Yr=>?_;refine(Kz.aY kd).st tM (Kc.trans kd) (by decide) One.int fun He Ke wu F_ oe=>?_;exact fin r3 c9 He Ke wu (oe _ _ _ GN (b1c.aY kd)) (oe _ _ _ DF (btc.aY kd)) F_ Yr ((g48.trans g9).mono (by omega) (by omega))
   · rw [if_pos (by simp[n_])];have WC:=(List.getElem?_eq_some_iff.1 f2).1;have WD:=(List.getElem?_eq_some_iff.1 f3).1;have Y_:t.cells[3]?=some (aQ aP.cells t.fields):=by rw[aE.bf];rfl
     simp only[eP,aa,Ga.ld Y_];refine S.Tp hT ?_;refine fieldIndex (p:=fun f=>f.name==p.field) (fun u _ R hR=>S.aoH hT (by
       unfold S.f111;have hb:bB H5 false 9 (.agg u.cells)=some (.av u.cells,H5):=by unfold bB;rw[if_pos ⟨rfl,u.len⟩];rfl
       have l0:J H5 1 false (.av (u.cells.drop 0))=some (.str u.name):=Fb u;have l1:J H5 1 false (.ptr jp 0)=some (.str p.field):=bp.ld (by rw[a_.bf];rfl);rw[hb];simp only[bw,eP,show ab 0 (.av u.cells)=some (.av (u.cells.drop 0))from rfl,aa,l0,l1,lq];exact hR)) (aE.Vd ht.ok).2.2 ?_
     rw[f1];simp only[kx,Ga.all,aa];refine alr aw hT ht oN _ _ ?_;simp only[db,List.getElem?_cons_zero,List.getElem?_cons_succ,aa];rw[d_ WD];simp only[aa];rw[gO (cells:=ec.cells) (fun _=>rfl) (by decide) _ f3];simp only[aa];refine h5.s_ K5 (cs:=s2.cells) (N:=6) rfl rfl rfl fun jq H6 k6 h6 bq l6=>?_;have K6:=K5.trans k6;have nqs:js≠jq:=by have:=pL.a.1;omega
     have nqt:jt≠jq:=by have:=Ga.a.1;omega
     have nq1:j1≠jq:=by have:=Re.a.1;omega
     simp only[eP,aa,bq.ld (k:=0) rfl,(pL.aY k6).ld (k:=0) rfl,cp];refine bq.st h6 K6 (by decide) One.int fun H7 K7 h7 bq7 o7=>?_;have xX:=o7 _ _ _ nqs (pL.aY k6);have Gb:=o7 _ _ _ nqt (Ga.aY k6);have XA:=o7 _ _ _ nq1 (Re.aY k6);rw[show s2.cells.set 0 (.int .i64 (IntKind.wrap .i64 (s2.at_+s.at_)))=({s2 with at_:=IntKind.wrap .i64 (s2.at_+s.at_)}:ec).cells from rfl]at bq7;rw[bq7.all];simp only[aa,Gb.ld Y_];rw[d_ WC];simp only[aa,iB,sq];rw[S7 H7 f2];simp only[aa];refine xX.R1 h7 K7 rfl rfl (by show 0+6≤8;decide) fun H8 K8 h8 AZ o8=>?_;have bt8:=o8 _ _ _ DF Gb;rw[show setCells (fX s b al) 0 ({s2 with at_:=IntKind.wrap .i64 (s2.at_+s.at_)}:ec).cells=fX {s2 with at_:=IntKind.wrap .i64 (s2.at_+s.at_)} b al from rfl]at AZ;refine⟨bt8.ld Y_,S7 H8 f2,?_⟩;refine bt8.R1 h8 K8 f.type.len f.type.scalar (by decide) fun H9 K9 h9 bt9 o9=>?_;rw[abv (by rw[f.type.len,t.len])]at bt9;refine nx H9 ?_;have Gw:wi p=0:=by rw[adC,n_,gn]
     have A2:C6 p=0:=by rw[Uj,n_,il]
     refine ih (i+1) f.type _ b al c2 H9 w1 k1 bC pR ?_ ?_ K9 h9 (o9 _ _ _ n1t (o8 _ _ _ GN XA)) bt9 (o9 _ _ _ DF.symm AZ) ((auk ht oN f2 f3 pR).at_ _) qE eQ g4 (by omega) (by omega)
     ·rw[JJ]at lO;exact lO
     ·rw[←RD,I_,JJ]
 refine main x.parts 0 v.type _ (-1) 16 c H3 0 0 rfl hvt hp rfl K3 h3 b13 bt3 bs ⟨fun e=>(by cases e),fun _=>?_,⟨Int.le_refl 0,(by decide:(0:Int)≤7)⟩,Int.le_refl 0⟩ eo (.inr (.inr (.inr (.inr rfl)))) (GE.refl c) (Nat.zero_add _) (Nat.zero_add _);exact show g.len=_ from ada Dr g1
end
end Rb

namespace Rb
open Go
theorem fG.row{H:AH}{sz n j:Nat}{x:AV}{cells:List AV}(h:fG H sz x n cells)(hj:eC x=some j):∃cs,At H j (.row cs):=by
 rcases h.2 with⟨tk,_,_,rfl⟩|⟨i,cs,m,rfl,h2,_⟩
 ·cases hj
 ·cases hj;exact⟨cs,h2⟩
theorem cz.avB{H H':AH}{id:Nat}{vars:List aK}{wh xl x:AV}{c:LD}(h:cz H id vars wh xl c)(k:∀i o,eC x≠some i→At H i o→At H' i o)(hx:∀j,eC x=some j→∃cs,At H j (.row cs))(h1:eC x≠some id)(h2:∀j,eC x=some j→eC xl≠some j):cz H' id vars wh xl c:=by obtain⟨xo,xs,a,b,d,e⟩:=h.x;have f:∀t p q,At H t (.tok p q)→At H' t (.tok p q):=fun t p q ht=>k t _ (fun e=>by obtain⟨cs,hc⟩:=hx t e;exact absurd (hc.2.symm.trans ht.2) (by intro e;cases e)) ht;exact⟨⟨xo,xs,k _ _ h1 a,b.frame f,d.frame f,e⟩,h.l.aY fun j cs hj ho=>k _ _ (fun e=>h2 j e hj) ho,h.ld,h.lo⟩
theorem amG{e:aF}(h:kM e=true)(h3:e.kind=3):e.kids.length=2:=by have:=(Su h).2.2.2.1;unfold ni at this;rw[if_pos h3]at this;have h2:(e.kids.length:Int)=2:=this;omega
theorem amF{e:aF}(h:kM e=true)(h3:5≤e.kind):(e.kind≠5→1≤e.kids.length)∧(e.kind=8→2≤e.kids.length)∧e.kind≤8∧e.kids.length≤2:=by
 obtain⟨_,h8,_,hl,_⟩:=Su h;unfold ni at hl;rw[if_neg (by omega)]at hl;by_cases h5:e.kind=5
 · rw[if_pos (.inr h5)]at hl;have h2:(e.kids.length:Int)=0:=hl;exact⟨fun e=>absurd h5 e,fun e=>by omega,h8,by omega⟩
 · rw [if_neg (by omega)]at hl;by_cases h6:e.kind=6∨e.kind=7
   · rw[if_pos h6]at hl;have h2:(e.kids.length:Int)=1:=hl;exact⟨fun _=>by omega,fun e=>by omega,h8,by omega⟩
   · rw[if_neg h6,if_pos (by omega)]at hl;have h2:(e.kids.length:Int)=2:=hl;exact⟨fun _=>by omega,fun e=>by omega,h8,by omega⟩
theorem agG(vars:List aK){L:List (List UInt8)}{k:Int}{x:aT}(h:vP vars L k x):∀p∈x.parts,∀e∈p.index,vE vars L e:=(adi vars L).1 ((Fm vars L k x).1 h).2.2
theorem GE.fr(c:LD):GE c {c with bK:=c.bK+1} 1 0:=⟨⟨[],(List.append_nil _).symm,Nat.zero_le _,fun _ ho=>by cases ho⟩,Nat.le_succ _,Nat.le_refl _,Nat.le_refl _,Nat.le_refl _,Nat.le_succ _,rfl,rfl,rfl⟩
theorem aug{a b:Int}(hb:0≤b){P:AV→Prop}(h:∀v,P (.int .u64 v)):Do (ai .shl (.int .u64 a) (.int .i64 b)) P:=by rw[aaW _ _ _ _ hb,aa];exact h _
section
variable{C:Ctx}(aw:dz C)(hT:Cl (au C) S.cH){id:Nat}{vars:List aK}{xl:AV}{c:LD}{H:AH}{Q:ae}{w:Nat}
include aw hT
theorem ap6(hV:xV vars){L:List (List UInt8)}{x:aT}(hx:x.ok)(hp:vP vars L 14 x)(hE:∀p∈x.parts,∀e∈p.index,qo C id vars L e)(h:cz H id vars (gw vars) xl c)(hL:c.L.map Prod.fst=L)(hb:BD c (w+(kY x+256)))
  (hQ:EX id vars (gw vars) xl H c (kY x+100) (nU x+1) Q):au C K.f80 [.ptr id 0,.agg x.cells] H Q:=by
 obtain⟨lN,lO,_⟩:=(Fm vars L 14 x).1 hp;refine S.arD hT ?_;unfold S.f80;simp only[BP,bw,T7,aa];refine Hy aw hT hV hx lN hE h hL (w:=w+256) (hb.mono (by omega)) fun s b al c1 H1 k1 h1 g1 kZ eQ hs AF=>?_;obtain⟨ij,eZ,_,_⟩:=Nz lO;obtain⟨z0,z1,_,_⟩:=L_ AF hs ij;have sw:BD c1 (w+256):=g1.bd (m:=w+256) (hb.mono (by omega));refine h1.s_ k1 (cs:=fX s b al) (N:=8) rfl rfl rfl fun j H2 k2 h2 bx l2=>?_;have K2:=k1.trans k2;rw[bx.all];simp only[aa];refine Hn aw hT h2 (w:=w+200) (sw.mono (by omega)) kZ fun a c3 H3 k3 h3 g3 ha=>?_;have KF:BD c3 (w+200):=g3.bd (m:=w+200) (sw.mono (by omega));rw[(bx.aY k3).all];simp only[aa];refine HQ aw hT h3 (w:=w+199) (KF.mono (by omega)) _ _ x fun H4 c4 k4 h4 g4 e1 e2=>?_;have nW:BD c4 (w+199):=g4.bd (m:=w+199) (KF.mono (by omega));have b4:=(bx.aY k3).aY k4;refine⟨b4.all,?_⟩;refine acY aw hT h4 (w:=w+100) (nW.mono (by omega)) eQ z1 (ha.mono g4.r0) ⟨by omega,by omega⟩ fun v c5 H5 k5 h5 g5 hv=>?_;have Gf:BD c5 (w+100):=g5.bd (m:=w+100) (nW.mono (by omega));have b5:=b4.aY k5;have K5:=((K2.trans k3).trans k4).trans k5;have G5:=((g1.trans g3).trans g4).trans g5;simp only[eP,aa,b5.ld (k:=3) rfl,b5.ld (k:=4) rfl,b5.ld (k:=5) rfl,vg,aD];refine aN (fun _=>?_) (fun _=>hQ _ _ _ K5 h5 (G5.mono (by omega) (by omega)) hv);refine yB aw hT h5 (w:=w+98) Gf _ _ hv fun v6 c6 H6 k6 h6 g6 hv6=>?_;have tI:BD c6 (w+98):=g6.bd (m:=w+98) (Gf.mono (by omega));refine⟨(b5.aY k6).ld rfl,?_⟩;refine TW aw hT hs.wid fun n=>?_;refine yB aw hT h6 (w:=w+96) tI _ _ hv6 fun v7 c7 H7 k7 h7 g7 hv7=>?_;exact hQ _ _ _ ((K5.trans k6).trans k7) h7 (((G5.trans g6).trans g7).mono (by omega) (by omega)) hv7
theorem amQ(hV:xV vars){L:List (List UInt8)}{e:aF}(he:e.ok)(hf:kM e=true)(hk:5≤e.kind)(hp:vP vars L (aR (10+e.kind)) e.place)(hE:∀p∈e.place.parts,∀e∈p.index,qo C id vars L e)(hK:∀k∈e.kids,qo C id vars L k)(h:cz H id vars (gw vars) xl c)(hL:c.L.map Prod.fst=L)(hb:BD c (w+(kY e.place+gn e.kids+256)))
  (hQ:EX id vars (gw vars) xl H c (kY e.place+gn e.kids+100) (nU e.place+il e.kids+1) Q):au C K.f81 [.ptr id 0,.agg e.cells] H Q:=by
 obtain⟨lN,lO,_⟩:=(Fm vars L _ e.place).1 hp;obtain⟨q1,q2,q3,q4⟩:=amF hf hk;obtain⟨⟨sB,gW⟩,gL⟩:=aF.eS he;have axn:aR (10+e.kind)=10+e.kind:=wrap_i64 (by omega) (by omega);rw[axn]at lO;refine S.arE hT ?_;unfold S.f81;have FC:∀p:Nat,ab p (.av e.cells)=some (.av (e.cells.drop p)):=fun _=>rfl;simp only[Es,bw,FC,EZ,aa];refine Hy aw hT hV gL lN hE h hL (w:=w+(gn e.kids+256)) (hb.mono (by omega)) fun s b al c1 H1 k1 h1 g1 kZ eQ hs AF=>?_;obtain⟨_,_,eZ,uX⟩:=Nz lO;have oN:=eZ (by omega);have hz8:=uX (by omega) (by omega);obtain⟨z0,z1,z2,z3⟩:=L_ AF hs (.inr oN);have wB:P8 s.len:=by have:=z2 oN;unfold P8;omega
 refine h1.s_ k1 (cs:=fX s b al) (N:=8) rfl rfl rfl fun js H2 k2 h2 bs l2=>?_;have K2:=k1.trans k2;simp only[I0,aa,cu];have tail:∀(c4:LD)(H4:AH)(x:AV)(rs:List Int),rs.length=e.kids.length→KR id H H4→cz H4 id vars (gw vars) xl c4→Bx H id xl H4 js 8 (fX s b al)→fG H4 1 x rs.length (rs.map (AV.int .i64))→(∀j,eC x=some j→H.n≤j∧j≠id∧eC xl≠some j∧j≠js)→(∀r∈rs,fO c4.bK r)→fO c4.bK b→GE c c4 (kY e.place+gn e.kids) (nU e.place+il e.kids)→S.UY (au C) (.ptr id 0) (.av e.cells) (.ptr js 0) Q [x] H4:=by
  intro c4 H4 x rs hrl K4 h4 sr mR tY u6 qE g4;have nW:BD c4 (w+256):=g4.bd (m:=w+256) (hb.mono (by omega));unfold S.UY;simp only[FC,pn,aa,nM,cp,aA];rw[wrap_i64 (n:=e.kind-5) (by omega) (by omega),wrap_i64 (n:=e.kind-5+6) (by omega) (by omega)];refine sX aw hT h4 K4 fun jb H5 k5 h5 bb l5=>?_;have K5:=K4.trans k5;have pL:=sr.aY k5;have sK:js≠jb:=by have:=sr.a.1;omega
  have aCC:∀(H6:AH),(∀j cs,eC x=some j→At H4 j (.row cs)→At H6 j (.row cs))→fG H6 1 x rs.length (rs.map (AV.int .i64)):=fun H6 k=>mR.aY k;have kr5:∀j cs,eC x=some j→At H4 j (.row cs)→At H5 j (.row cs):=fun j cs hj ho=>k5.2 _ _ (tY j hj).2.1 ho;have nxb:∀j,eC x=some j→j≠jb:=fun j hj=>by have:=mR.lt hj;omega
  have fin:∀(kk b2 c2:Int)(H6:AH),(kk=6∨(8≤kk∧kk≤10))→fO c4.bK b2→fO c4.bK c2→KR id H H6→cz H6 id vars (gw vars) xl c4→Bx H id xl H6 js 8 (fX s b al)→Bx H id xl H6 jb 13 (⟨kk,-1,-1,-1,b2,c2,0,0,0,0,0,0,0⟩:dr).cells→S.Py (au C) (.ptr id 0) (.av e.cells) (.ptr js 0) (.ptr jb 0) Q [] H6:=by
   intro kk b2 c2 H6 gW jv qF K6 h6 oJ AY;unfold S.Py;rw[oJ.all];simp only[aa];refine Hn aw hT h6 (w:=w+254) nW qE fun a c7 H7 k7 h7 g7 ha=>?_;have sx:BD c7 (w+254):=g7.bd (m:=w+254) (nW.mono (by omega));have xX:=oJ.aY k7;simp only[eP,aa];refine(AY.aY k7).st h7 (K6.trans k7) (by decide) One.int fun H8 K8 h8 Kw o8=>?_;have AZ:=o8 _ _ _ sK xX;simp only[AZ.ld (k:=1) rfl,FC,pn,af3,EZ,aa,cp];rw[wrap_i64 (n:=10+e.kind) (by omega) (by omega)];refine BC aw hT h8 (w:=w+253) sx fun H9 k9 h9=>?_;have bs9:=AZ.aY k9;have g79:=GE.fr c7;have Rm:=g79.bd (m:=w+252) (sx.mono (by omega));refine⟨bs9.ld rfl,trivial,trivial,trivial,trivial,?_⟩;refine HQ aw hT h9 (w:=w+251) Rm _ _ e.place fun Ha ca ka tJ ga er es=>?_;have zt:=bs9.aY ka;have Gg:BD ca (w+251):=ga.bd (m:=w+251) (Rm.mono (by omega));refine⟨zt.ld rfl,trivial,?_⟩;refine((Kw.aY k9).aY ka).st tJ ((K8.trans k9).trans ka) (by decide) One.int fun Hb Kb wt Kx ob=>?_;have F9:=ob _ _ _ sK zt;refine⟨F9.ld rfl,trivial,?_⟩;refine Kx.st wt Kb (by decide) One.int fun Hc Kc tK Ky oc=>?_;refine⟨trivial,?_⟩;refine Ky.st tK Kc (by decide) One.int fun Hd Kd tM XD od=>?_;refine XD.st tM Kd (by decide) One.int fun He Ke wu F7 oe=>?_;rw[F7.all];simp only[aa];have er':ca.bK=c7.bK+1:=er;have es':ca.sn=c7.sn+1:=es;have r7:=g7.r0;have s7:=g7.s0;have hAa:=Gg.A;have es0:((c7.sn+1:Nat):Int)=((ca.sn:Nat):Int):=by rw[es']
   refine rU aw hT wu (by omega) ⟨kk,c7.bK,-1,a,b2,c2,0,0,s.len,e.order,0,((c7.sn+1:Nat):Int),0⟩ fun Hf kf Df=>?_;rw[(F7.aY kf).ld (k:=1) rfl];simp only[aa];have gf:GE ca (ca.add ⟨kk,c7.bK,-1,a,b2,c2,0,0,s.len,e.order,0,((c7.sn+1:Nat):Int),0⟩) 1 0:=GE.add (rJ (by omega) (by omega) (sL (by omega)) eo (ha.mono (by omega)) (jv.mono (by omega)) (qF.mono (by omega)) (.inr (.inr ⟨by omega,by omega⟩)) (gW.elim (fun _=> .inr (.inr wB)) (fun e=> .inr (.inl (by omega))))) (wJ (.inl (by omega)));exact hQ _ _ Hf (Ke.trans kf) Df (((((g4.trans g7).trans g79).trans ga).trans gf).mono (by omega) (by omega)) (sL (show c7.bK<ca.bK by omega))
  have k2:∀(kk b2:Int)(H6:AH),(e.kind=5∧kk=6∨(5<e.kind∧8≤kk∧kk≤10))→fO c4.bK b2→KR id H H6→cz H6 id vars (gw vars) xl c4→Bx H id xl H6 js 8 (fX s b al)→fG H6 1 x rs.length (rs.map (AV.int .i64))→Bx H id xl H6 jb 13 (⟨kk,-1,-1,-1,b2,-1,0,0,0,0,0,0,0⟩:dr).cells→S.Pz (au C) (.ptr id 0) (.av e.cells) (.ptr js 0) (.ptr jb 0) [x] Q [] H6:=by
   intro kk b2 H6 gW jv K6 h6 oJ vM AY;have ag_:kk=6∨(8≤kk∧kk≤10):=by rcases gW with h|h<;>omega
   unfold S.Pz;simp only[FC,pn,aa,cn,aD,aA,aG];refine aN (fun h8=>?_) (fun _=>fin kk b2 (-1) H6 ag_ jv eo K6 h6 oJ AY);have h8':e.kind=8:=by simpa using h8
   have:=q2 h8';obtain⟨r1,kD⟩:∃r1,rs[1]?=some r1:=⟨_,List.getElem?_eq_getElem (show 1<rs.length by omega)⟩
   obtain⟨p,e1,e2⟩:=vM.get (k:=1) (v:= .int .i64 r1) (by rw[List.getElem?_map,kD];rfl);rw[show(AV.int IntKind.i64 ((1:Nat):Int)) = .int .i64 1 from rfl]at e1;simp only[e1,e2 H6 (AH.Ext.refl _),aa,eP];refine AY.st h6 K6 (by decide) One.int fun H7 K7 h7 XC o7=>?_;exact fin kk b2 r1 H7 ag_ jv (u6 r1 (List.mem_of_getElem? kD)) K7 h7 (o7 _ _ _ sK oJ) XC
  simp only[FC,pn,aa,eK,aD,aG];refine aN (fun XZ=>?_) (fun XZ=>?_)
  · have yi:e.kind≠5:=by simpa using XZ
    have:=q1 yi;simp only[eP,aa];rw[wrap_i64 (n:=e.kind-6) (by omega) (by omega),wrap_i64 (n:=e.kind-6+8) (by omega) (by omega)];refine bb.st h5 K5 (by decide) One.int fun H6 K6 h6 AY o6=>?_;have kr6:∀j cs,eC x=some j→At H5 j (.row cs)→At H6 j (.row cs):=fun j cs hj ho=>by obtain⟨a,b,d,f⟩:=tY j hj;exact(o6 j cs.length cs (nxb j hj) ⟨ho,b,d,a,rfl⟩).a
    have vM:=(mR.aY kr5).aY kr6;obtain⟨r0,Gw⟩:∃r0,rs[0]?=some r0:=⟨_,List.getElem?_eq_getElem (show 0<rs.length by omega)⟩
    obtain⟨p,e1,e2⟩:=vM.get (k:=0) (v:= .int .i64 r0) (by rw[List.getElem?_map,Gw];rfl);rw[show(AV.int IntKind.i64 ((0:Nat):Int)) = .int .i64 0 from rfl]at e1;simp only[e1,e2 H6 (AH.Ext.refl _),aa,eP];refine AY.st h6 K6 (by decide) One.int fun H7 K7 h7 XC o7=>?_;have kr7:∀j cs,eC x=some j→At H6 j (.row cs)→At H7 j (.row cs):=fun j cs hj ho=>by obtain⟨a,b,d,f⟩:=tY j hj;exact(o7 j cs.length cs (nxb j hj) ⟨ho,b,d,a,rfl⟩).a
    exact k2 (e.kind-6+8) r0 H7 (.inr ⟨by omega,by omega,by omega⟩) (u6 r0 (List.mem_of_getElem? Gw)) K7 h7 (o7 _ _ _ sK (o6 _ _ _ sK pL)) (vM.aY kr7) XC
  · have h5e:e.kind=5:=by simpa using XZ
    refine k2 6 (-1) H5 (.inl ⟨h5e,rfl⟩) eo K5 h5 pL (mR.aY kr5) ?_;rw[h5e]at bb;exact bb
 have main:∀(r:List aF)(i:Nat)(c4:LD)(H4:AH)(x:AV)(rs:List Int)(w1 k1:Nat),e.kids.drop i=r→rs.length=i→i≤e.kids.length→KR id H H4→cz H4 id vars (gw vars) xl c4→Bx H id xl H4 js 8 (fX s b al)→fG H4 1 x rs.length (rs.map (AV.int .i64))→(∀j,eC x=some j→H.n≤j∧j≠id∧eC xl≠some j∧j≠js)→(∀r∈rs,fO c4.bK r)→fO c4.bK b→GE c c4 w1 k1→w1+gn r=kY e.place+gn e.kids→k1+il r=nU e.place+il e.kids →
   aB (S.PA (au C) (.ptr id 0) (.av e.cells) (.ptr js 0) (aQ aF.cells e.kids) (.int .i64 e.kids.length) Q) ([x,.int .i64 i],H4):=by
  intro r;induction r with
  | nil=>intro i c4 H4 x rs w1 k1 hd hri A7 K4 h4 sr mR tY u6 qE g4 hw hk;have hle:=fe hd;refine aB.step ?_;simp only[S.PA,aA,cv,bF,aa,aD,aG];rw[if_neg (by simp only[decide_eq_true_eq];omega)];rw[gn]at hw;rw[il]at hk;exact tail c4 H4 x rs (by omega) K4 h4 sr mR tY u6 qE (g4.mono (by omega) (by omega))
  | cons y r ih=>
   intro i c4 H4 x rs w1 k1 hd hri A7 K4 h4 sr mR tY u6 qE g4 hw hk;obtain⟨aO,hx,bC⟩:=eX hd;have gI:=List.mem_of_getElem? hx;rw[gn]at hw;rw[il]at hk;have nW:BD c4 (w+gK y):=g4.bd (m:=w+gK y) (hb.mono (by omega));have wj:=uH y;refine aB.step ?_;simp only[S.PA,aA,cv,bF,aa,aD];rw[if_pos (by simp only[decide_eq_true_eq];omega),d_ aO];simp only[aa];rw[gO aF.len (by decide) _ hx];simp only[aa];refine h4.s_ K4 (cs:=y.cells) (N:=8) rfl y.len (aF.scalar y) fun jy H5 k5 h5 by5 l5=>?_;rw[by5.all];simp only[aa];refine hK y gI h5 (by rw[g4.L];exact hL) nW fun r1 c6 H6 k6 h6 g6 kD=>?_;have K6:=(K4.trans k5).trans k6;have oJ:=(sr.aY k5).aY k6;have vM:fG H6 1 x rs.length (rs.map (AV.int .i64)):=mR.aY fun j cs hj ho=>k6.2 _ _ (tY j hj).2.1 (k5.2 _ _ (tY j hj).2.1 ho);rw[show fb H6 false 1 1 [.int .i64 0] [(0,1,.int .i64 r1)]=some (.aq .full 1 [.int .i64 r1],H6)from rfl];simp only[bw];refine vM.app (by decide) rfl rfl (by omega) (by omega) fun x' H7 Q0 hn kp hr=>?_;have h7:=h6.avB kp (fun j hj=>vM.row hj) (fun e=>(tY id e).2.1 rfl) (fun j hj=>(tY j hj).2.2.1);have K7:KR id H H7:=⟨Nat.le_trans K6.1 hn,fun i cs hi ho=>kp _ _ (fun e=>by have:=(tY i e).1;have:=ho.1;omega) (K6.2 i cs hi ho)⟩
   have xX:Bx H id xl H7 js 8 (fX s b al):=⟨kp _ _ (fun e=>(tY js e).2.2.2 rfl) oJ.a,oJ.ne,oJ.nx,oJ.lo,oJ.len⟩
   simp only[cp,aa];rw[wrap_i64 (by omega) (by omega),cN];refine ih (i+1) c6 H7 x' (rs++[r1]) (w1+gK y) (k1+rB y) bC (by simp[hri]) (by omega) K7 h7 xX ?_ (fun j hj=>?_) (fun q hq=>?_) (qE.mono g6.r0) ((g4.trans g6).mono (by omega) (by omega)) (by omega) (by omega)
   ·rw[List.length_append,List.map_append];exact Q0
   · rcases hr with hr|hr
     ·exact tY j (by rw[←hr];exact hj)
     · rw[hr]at hj;cases hj;obtain⟨xo,xs,a,_⟩:=h6.x;exact⟨K6.1,by have:=a.1;omega,fun e=>by have:=h6.l.lt e;omega,by have:=oJ.a.1;omega⟩
   · rcases List.mem_append.1 hq with h|h
     ·exact(u6 q h).mono g6.r0
     ·rw[List.mem_singleton.1 h];exact kD
 exact main e.kids 0 c1 H2 _ [] (kY e.place) (nU e.place) rfl rfl (Nat.zero_le _) K2 h2 bs (fG.nil _ _) (fun j hj=>by cases hj) (fun r hr=>by cases hr) kZ g1 rfl rfl
theorem acX(hV:xV vars)(L:List (List UInt8)):∀e:aF,e.ok→vE vars L e→qo C id vars L e:=by
 refine aF.ind fun e zL wH he hwf=>?_;obtain⟨⟨sB,gW⟩,gL⟩:=aF.eS he;have jM:=aT.eS gL;obtain⟨w1,w2,w3,w4,w5⟩:=(avZ vars L e).1 hwf;have hK:∀k∈e.kids,qo C id vars L k:=fun k hk=>zL k hk (gW k hk) ((NO vars L).1 w5 k hk);intro xl c H Q w h hL hb hQ;have tO:=adz e;have pN:=ado e;refine S.aq5 hT ?_;unfold S.f47;simp only[Es,bw,oZ,pn,Vn,Qa,aa,cn,aD];have FC:∀p:Nat,ab p (.av e.cells)=some (.av (e.cells.drop p)):=fun _=>rfl;refine aN (fun hc=>?_) (fun hc=>?_)
 · refine SS aw hT h (w:=w+15) (hb.mono (by omega)) _ fun r c1 H1 k1 h1 g1 r1=>?_;exact hQ _ _ _ k1 h1 (g1.mono (by omega) (by omega)) r1
 have c1:¬e.kind=1:=by simpa using hc
 refine aN (fun hc=>?_) (fun hc=>?_)
 · have c2:e.kind=2:=by simpa using hc
   refine NA aw hT h (hb.mono (Nat.le_add_right _ _)) (by rw[hL];exact w3 c2) fun r hr=>?_;exact hQ _ _ _ KR.refl h ((GE.refl c).mono (by omega) (by omega)) hr
 have c2:¬e.kind=2:=by simpa using hc
 refine aN (fun hc=>?_) (fun hc=>?_)
 · have c3:e.kind=3:=by simpa using hc
   match oN:e.kids,amG w1 c3 with
   | [x,y],_=>
    rw[oN]at hK tO pN;have ad0:bj none 8 (aQ aF.cells [x,y]) (.int .i64 0)=_:=d_ (i:=0) (by simp);have ad1:bj none 8 (aQ aF.cells [x,y]) (.int .i64 1)=_:=d_ (i:=1) (by simp);have ld0:∀H,J H 8 true (iB aF.cells 8 [x,y] 0)=_:=fun H=>gO aF.len (by decide) H (show [x,y][0]?=some x from rfl);have ld1:∀H,J H 8 true (iB aF.cells 8 [x,y] 1)=_:=fun H=>gO aF.len (by decide) H (show [x,y][1]?=some y from rfl);have ahj:∀H,J H 1 false (.av (e.cells.drop 7))=some (aQ aF.cells [x,y]):=fun H=>by rw[I0,oN]
    rw[gn,gn,gn]at tO;rw[il,il,il]at pN;have aCU:=uH x;have axq:=uH y;simp only[ahj,aa,ad0,ld0];refine hK x (by simp) h hL (w:=w+(gK y+16)) (hb.mono (by omega)) fun r1 d1 H1 k1 h1 g1 kD=>?_;have sw:BD d1 (w+(gK y+16)):=g1.bd (m:=w+(gK y+16)) (hb.mono (by omega));simp only[IZ,ahj,aa,ad1,ld1];refine hK y (by simp) h1 (by rw[g1.L];exact hL) (w:=w+16) (sw.mono (by omega)) fun r2 d2 H2 k2 h2 g2 oP=>?_;have hB2:BD d2 (w+16):=g2.bd (m:=w+16) (sw.mono (by omega));refine⟨trivial,?_⟩;refine IG aw hT h2 (w:=w+15) hB2 _ (kD.mono g2.r0) oP fun r3 d3 H3 k3 h3 g3 Yr=>?_;exact hQ _ _ _ ((k1.trans k2).trans k3) h3 (((g1.trans g2).trans g3).mono (by omega) (by omega)) Yr
 have c3:¬e.kind=3:=by simpa using hc
 have k0:=(Su w1).1;have hP:=w4 (by omega);rw[if_pos (by omega)]at tO pN;have Gi:∀p∈e.place.parts,∀k∈p.index,qo C id vars L k:=fun p hp k hk=>wH p hp k hk ((jM.2 p hp).2 k hk) (agG vars hP p hp k hk);refine aN (fun hc=>?_) (fun hc=>?_)
 · have c4:e.kind=4:=by simpa using hc
   rw[c4]at hP;rw[show J H 2 true (.av (e.cells.drop 5))=some (.agg e.place.cells)from EZ e H];simp only[aa];refine ap6 aw hT hV gL hP Gi h hL (w:=w) (hb.mono (by omega)) fun r d1 H1 k1 h1 g1 kD=>?_;exact hQ _ _ _ k1 h1 (g1.mono (by omega) (by omega)) kD
 · have c4:¬e.kind=4:=by simpa using hc
   simp only[Ut,aa];refine amQ aw hT hV he w1 (by omega) hP Gi hK h hL (w:=w) (hb.mono (by omega)) fun r d1 H1 k1 h1 g1 kD=>?_;exact hQ _ _ _ k1 h1 (g1.mono (by omega) (by omega)) kD
end
end Rb

namespace Rb
open Go
theorem aqq(v:Int):∃u,eB .xor (.int .u64 v)=some (.int .u64 u):=⟨_,rfl⟩
theorem IY{l:List aF}{i:Nat}{e:aF}(h:l[i]?=some e):bj none 8 (aQ aF.cells l) (.int .i64 i)=some (iB aF.cells 8 l i)∧∀H,J H 8 true (iB aF.cells 8 l i)=some (.agg e.cells):=⟨d_ (List.getElem?_eq_some_iff.1 h).1,fun H=>gO aF.len (by decide) H h⟩
section
variable{C:Ctx}(aw:dz C)(hT:Cl (au C) S.cH){id:Nat}{vars:List aK}{xl:AV}{c:LD}{H:AH}{Q:ae}{w:Nat}
include aw hT
theorem anU(hV:xV vars){L:List (List UInt8)}{x:aT}{e:aF}(hx:x.ok)(hp:vP vars L 3 x)(hE:∀p∈x.parts,∀e∈p.index,qo C id vars L e)(he:qo C id vars L e)(h:cz H id vars (gw vars) xl c)(hL:c.L.map Prod.fst=L)(hb:BD c (w+(kY x+gK e+256)))
  (hQ:EU id vars (gw vars) xl H c (kY x+gK e+200) (nU x+rB e+1) Q):au C K.f51 [.ptr id 0,.agg x.cells,.agg e.cells] H Q:=by
 obtain⟨lN,lO,_⟩:=(Fm vars L 3 x).1 hp;have wj:=uH e;refine S.aq9 hT ?_;unfold S.f51;simp only[BP,Es,bw,T7,aa];refine Hy aw hT hV hx lN hE h hL (w:=w+(gK e+256)) (hb.mono (by omega)) fun s b al c1 H1 k1 h1 g1 kZ eQ hs AF=>?_;obtain⟨ij,_,_,_⟩:=Nz lO;obtain⟨z0,z1,_,_⟩:=L_ AF hs ij;have sw:BD c1 (w+(gK e+256)):=g1.bd (m:=w+(gK e+256)) (hb.mono (by omega));refine h1.s_ k1 (cs:=fX s b al) (N:=8) rfl rfl rfl fun j H2 k2 h2 bx l2=>?_;have K2:=k1.trans k2;simp only[Ut,aa];refine he h2 (by rw[g1.L];exact hL) (w:=w+256) (sw.mono (by omega)) fun v c3 H3 k3 h3 g3 hv=>?_;have KF:BD c3 (w+256):=g3.bd (m:=w+256) (sw.mono (by omega));have b3:=bx.aY k3;rw[b3.all];simp only[aa];refine Hn aw hT h3 (w:=w+254) KF (kZ.mono g3.r0) fun a c4 H4 k4 h4 g4 ha=>?_;have nW:BD c4 (w+254):=g4.bd (m:=w+254) (KF.mono (by omega));refine HQ aw hT h4 (w:=w+253) nW _ _ x fun H5 c5 k5 h5 g5 e1 e2=>?_;have Gf:BD c5 (w+253):=g5.bd (m:=w+253) (nW.mono (by omega));have b5:=(b3.aY k4).aY k5;have K5:=((K2.trans k3).trans k4).trans k5;have G5:=((g1.trans g3).trans g4).trans g5;have hv5:=(hv.mono g4.r0).mono g5.r0;have ha5:=ha.mono g5.r0;have hs5:1≤((c4.sn+1:Nat):Int)∧((c4.sn+1:Nat):Int)≤(c5.sn:Nat):=⟨by omega,by omega⟩
 simp only[eP,aa,b5.ld (k:=3) rfl,aD];have fin:∀(u:Int)(c6:LD)(H6:AH)(m:Nat),m≤80→KR id H5 H6→cz H6 id vars (gw vars) xl c6→GE c5 c6 m 0→fO c6.bK u→S.OX (au C) (.ptr id 0) (.ptr j 0) (.int .i64 a) (.int .i64 ((c4.sn+1:Nat):Int)) Q [.int .i64 u] H6:=by intro u c6 H6 m hm k6 h6 g6 hu;have s6:=g6.s0;unfold S.OX;rw[(b5.aY k6).all];simp only[aa,aA];refine anT aw hT h6 (w:=w+50) (g6.bd (m:=w+98) (Gf.mono (by omega))) eQ z1 (ha5.mono g6.r0) hu ⟨hs5.1,by omega⟩ fun c7 H7 k7 h7 g7=>?_;exact hQ _ _ ((K5.trans k6).trans k7) h7 (((G5.trans g6).trans g7).mono (by omega) (by omega))
 refine aN (fun _=>?_) (fun _=>?_)
 · rw[b5.all];simp only[aa];refine acY aw hT h5 (w:=w+100) (Gf.mono (by omega)) eQ z1 ha5 hs5 fun o c6 H6 k6 h6 g6 ho=>?_;have tI:BD c6 (w+100):=g6.bd (m:=w+100) (Gf.mono (by omega));have b6:=b5.aY k6;simp only[b6.ld (k:=5) rfl,b6.ld (k:=4) rfl,aa];refine TW aw hT hs.wid fun n=>?_;refine⟨b6.ld rfl,?_⟩;refine aug hs.bit.1 fun n2=>?_;obtain⟨n3,en⟩:=aqq n2;simp only[en,aa];refine yB aw hT h6 (w:=w+98) tI _ _ ho fun r7 c7 H7 k7 h7 g7 hr7=>?_;have sx:BD c7 (w+98):=g7.bd (m:=w+98) (tI.mono (by omega));have b7:=b6.aY k7;simp only[b7.ld (k:=5) rfl,b7.ld (k:=4) rfl,aa,vg];refine TW aw hT hs.wid fun n4=>?_;refine⟨b7.ld rfl,?_⟩;refine yB aw hT h7 (w:=w+96) sx _ _ ((hv5.mono g6.r0).mono g7.r0) fun r8 c8 H8 k8 h8 g8 K0=>?_;have Rl:BD c8 (w+96):=g8.bd (m:=w+96) (sx.mono (by omega));refine⟨(b7.aY k8).ld rfl,?_⟩;refine yB aw hT h8 (w:=w+94) Rl _ _ K0 fun r9 c9 H9 k9 h9 g9 hr9=>?_;have Rm:BD c9 (w+94):=g9.bd (m:=w+94) (Rl.mono (by omega));refine IG aw hT h9 (w:=w+93) Rm _ ((hr7.mono g8.r0).mono g9.r0) hr9 fun ra ca Ha ka tJ ga hra=>?_;exact fin ra ca Ha 71 (by decide) ((((k6.trans k7).trans k8).trans k9).trans ka) tJ (((((g6.trans g7).trans g8).trans g9).trans ga).mono (by decide) (by decide)) hra
 ·exact fin v c5 H5 0 (by decide) KR.refl h5 (GE.refl _) hv5
theorem amT(hV:xV vars){L:List (List UInt8)}{x:aC}(hx:x.ok)(hk:x.kind=4∧1≤x.exprs.length∨x.kind=6∧2≤x.exprs.length)(hp:vP vars L x.kind x.place)(hE:∀p∈x.place.parts,∀e∈p.index,qo C id vars L e)(he:∀e∈x.exprs,qo C id vars L e)(h:cz H id vars (gw vars) xl c)(hL:c.L.map Prod.fst=L)(hb:BD c (w+(kY x.place+gn x.exprs+256)))
  (hQ:EU id vars (gw vars) xl H c (kY x.place+gn x.exprs+200) (nU x.place+il x.exprs+1) Q):au C K.f52 [.ptr id 0,.agg x.cells] H Q:=by
 obtain⟨lN,lO,_⟩:=(Fm vars L _ x.place).1 hp;obtain⟨gL,_,_,_⟩:=aC.eS hx;refine S.aq_ hT ?_;unfold S.f52;simp only[Ao,bw,ko,Av,aa];refine Hy aw hT hV gL lN hE h hL (w:=w+(gn x.exprs+256)) (hb.mono (by omega)) fun s b al c1 H1 k1 h1 g1 kZ eQ hs AF=>?_;obtain⟨ij,_,eZ,uX⟩:=Nz lO;have oN:=eZ (by omega);obtain⟨z0,z1,z2,z3⟩:=L_ AF hs ij;have wB:x.kind=4→P8 s.len:=fun e=>by have:=z2 oN;have:=uX (by omega) (by omega);unfold P8;omega
 have sw:BD c1 (w+(gn x.exprs+256)):=g1.bd (m:=w+(gn x.exprs+256)) (hb.mono (by omega));refine h1.s_ k1 (cs:=fX s b al) (N:=8) rfl rfl rfl fun js H2 k2 h2 bs l2=>?_;have K2:=k1.trans k2;refine sX aw hT h2 K2 fun jb H3 k3 h3 bb l3=>?_;have K3:=K2.trans k3;have sK:js≠jb:=by have:=bs.a.1;omega
 obtain⟨y0,Dy⟩:∃y0,x.exprs[0]?=some y0:=⟨_,List.getElem?_eq_getElem (show 0<x.exprs.length by omega)⟩
 obtain⟨a0,a1⟩:=IY Dy;rw[show(AV.int IntKind.i64 ((0:Nat):Int)) = .int .i64 0 from rfl]at a0;simp only[ko,yO,a0,a1,aa];have WJ:∀{l:List aF}{y:aF}{r:List aF},l=y::r→gn l=gK y+gn r∧il l=rB y+il r:=fun e=>by subst e;exact⟨by rw[gn],by rw[il]⟩
 obtain ⟨r0,Gw⟩:∃r0,x.exprs=y0::r0:=by
  cases hx:x.exprs with
  |nil=>rw[hx]at Dy;cases Dy
  |cons a r=>rw[hx]at Dy;simp at Dy;exact⟨r,by rw[Dy]⟩
 obtain⟨u1,u2⟩:=WJ Gw;have axq:=uH y0;refine he y0 (List.mem_of_getElem? Dy) h3 (by rw[g1.L];exact hL) (w:=w+(gn r0+256)) (sw.mono (by omega)) fun v c4 H4 k4 h4 g4 hv=>?_;have nW:BD c4 (w+(gn r0+256)):=g4.bd (m:=w+(gn r0+256)) (sw.mono (by omega));simp only[eP,aa];refine(bb.aY k4).st h4 (K3.trans k4) (by decide) One.int fun H5 K5 h5 b5 o5=>?_;have pL:=o5 _ _ _ sK ((bs.aY k3).aY k4);have G4:=g1.trans g4;have fin:∀(kk v2:Int)(c6:LD)(H6:AH)(m n:Nat),(kk=7∧x.kind=4∨kk=12)→KR id H H6→cz H6 id vars (gw vars) xl c6→Bx H id xl H6 js 8 (fX s b al)→Bx H id xl H6 jb 13 (⟨kk,-1,-1,-1,v,v2,0,0,0,0,0,0,0⟩:dr).cells→GE c4 c6 m n→m≤gn r0→n≤il r0→fO c6.bK v2→S.OY (au C) (.ptr id 0) (.av x.cells) (.ptr js 0) (.ptr jb 0) Q [] H6:=by intro kk v2 c6 H6 m n gW K6 h6 oJ AY g6 hm hn u9;have tI:BD c6 (w+256):=g6.bd (m:=w+256) (nW.mono (by omega));unfold S.OY;rw[oJ.all];simp only[aa];refine Hn aw hT h6 (w:=w+254) tI ((kZ.mono g4.r0).mono g6.r0) fun a c7 H7 k7 h7 g7 ha=>?_;have sx:BD c7 (w+254):=g7.bd (m:=w+254) (tI.mono (by omega));simp only[eP,aa];refine(AY.aY k7).st h7 (K6.trans k7) (by decide) One.int fun H8 K8 h8 Kw o8=>?_;have AZ:=o8 _ _ _ sK (oJ.aY k7);simp only[AZ.ld (k:=1) rfl,ko,nr,Qz,Av,aa];refine HQ aw hT h8 (w:=w+253) sx _ _ x.place fun Ha ca ka tJ ga er es=>?_;have zt:=AZ.aY ka;have Gg:BD ca (w+253):=ga.bd (m:=w+253) (sx.mono (by omega));refine⟨zt.ld rfl,trivial,?_⟩;refine(Kw.aY ka).st tJ (K8.trans ka) (by decide) One.int fun Hb Kb wt Kx ob=>?_;refine⟨trivial,?_⟩;refine Kx.st wt Kb (by decide) One.int fun Hc Kc tK Ky oc=>?_;refine Ky.st tK Kc (by decide) One.int fun He Ke wu F7 oe=>?_;rw[F7.all];simp only[aa];have hAa:=Gg.A;have ra:=ga.r0;have r7:=g7.r0;have r6:=g6.r0;refine rU aw hT wu (by omega) ⟨kk,-1,-1,a,v,v2,0,0,s.len,x.order,0,((c7.sn+1:Nat):Int),0⟩ fun Hf kf Df=>?_;have gf:GE ca (ca.add ⟨kk,-1,-1,a,v,v2,0,0,s.len,x.order,0,((c7.sn+1:Nat):Int),0⟩) 1 0:=GE.add (rJ (by omega) (by omega) eo eo (ha.mono ra) (hv.mono (by omega)) (u9.mono (by omega)) (.inr (.inr ⟨by omega,by omega⟩)) (gW.elim (fun e=> .inr (.inr (wB e.2))) (fun e=> .inr (.inl (by omega))))) (wJ (.inl (by omega)));exact hQ _ Hf (Ke.trans kf) Df (((((G4.trans g6).trans g7).trans ga).trans gf).mono (by omega) (by omega))
 simp only[ko,nr,aa,cn,aD,aG];refine aN (fun e=>?_) (fun e=>?_)
 · have e6:x.kind=6:=by simpa using e
   refine b5.st h5 K5 (by decide) One.int fun H6 K6 h6 b6 o6=>?_;obtain⟨y1,GB⟩:∃y1,x.exprs[1]?=some y1:=⟨_,List.getElem?_eq_getElem (show 1<x.exprs.length by omega)⟩
   obtain⟨a2,a3⟩:=IY GB;rw[show(AV.int IntKind.i64 ((1:Nat):Int)) = .int .i64 1 from rfl]at a2;simp only[yO,a2,a3,aa];obtain ⟨r1,kD⟩:∃r1,r0=y1::r1:=by
    rw[Gw]at GB;cases r0 with
    |nil=>simp at GB
    |cons a r=>simp at GB;exact⟨r,by rw[GB]⟩
   obtain⟨u3,u4⟩:=WJ kD;have aCD:=uH y1;refine he y1 (List.mem_of_getElem? GB) h6 (by rw[g4.L,g1.L];exact hL) (w:=w+256) (nW.mono (by omega)) fun v2 c7 H7 k7 h7 g7 u9=>?_;refine(b6.aY k7).st h7 (K6.trans k7) (by decide) One.int fun H8 K8 h8 b8 o8=>?_;exact fin 12 v2 c7 H8 _ _ (.inr rfl) K8 h8 (o8 _ _ _ sK ((o6 _ _ _ sK pL).aY k7)) b8 g7 (by omega) (by omega) u9
 · have e6:¬x.kind=6:=by simpa using e
   exact fin 7 (-1) c4 H5 0 0 (.inl ⟨rfl,by omega⟩) K5 h5 pL b5 (GE.refl _) (Nat.zero_le _) (Nat.zero_le _) eo
theorem amS(hV:xV vars){L:List (List UInt8)}{x:aC}(hx:x.ok)(hk:x.kind=5)(hn:x.name∈L)(Dr:x.cW∈L)(hp:vP vars L 5 x.place)(hE:∀p∈x.place.parts,∀e∈p.index,qo C id vars L e)(h:cz H id vars (gw vars) xl c)(hL:c.L.map Prod.fst=L)(hb:BD c (w+(kY x.place+256)))
  (hQ:EU id vars (gw vars) xl H c (kY x.place+200) (nU x.place+1) Q):au C K.f53 [.ptr id 0,.agg x.cells] H Q:=by
 obtain⟨lN,lO,_⟩:=(Fm vars L _ x.place).1 hp;obtain⟨gL,_,_,_⟩:=aC.eS hx;refine S.ara hT ?_;unfold S.f53;simp only[Ao,bw,ko,Av,aa];refine Hy aw hT hV gL lN hE h hL (w:=w+256) (hb.mono (by omega)) fun s b al c1 H1 k1 h1 g1 kZ eQ hs AF=>?_;have sw:BD c1 (w+256):=g1.bd (m:=w+256) (hb.mono (by omega));refine h1.s_ k1 (cs:=fX s b al) (N:=8) rfl rfl rfl fun js H2 k2 h2 bs l2=>?_;have K2:=k1.trans k2;refine sX aw hT h2 K2 fun jb H3 k3 h3 bb l3=>?_;have K3:=K2.trans k3;have sK:js≠jb:=by have:=bs.a.1;omega
 have bs3:=bs.aY k3;rw[bs3.all];simp only[aa];refine Hn aw hT h3 (w:=w+254) sw kZ fun a c4 H4 k4 h4 g4 ha=>?_;have nW:BD c4 (w+254):=g4.bd (m:=w+254) (sw.mono (by omega));simp only[eP,aa];refine(bb.aY k4).st h4 (K3.trans k4) (by decide) One.int fun H5 K5 h5 b5 o5=>?_;have pL:=o5 _ _ _ sK (bs3.aY k4);simp only[pL.ld (k:=1) rfl,ko,nr,Qz,Av,aa];refine BC aw hT h5 (w:=w+253) nW fun H6 k6 h6=>?_;have g6:=GE.fr c4;have tI:=g6.bd (m:=w+253) (nW.mono (by omega));have oJ:=pL.aY k6;refine⟨oJ.ld rfl,trivial,trivial,trivial,trivial,?_⟩;refine BC aw hT h6 (w:=w+252) tI fun H7 k7 h7=>?_;have g7:=GE.fr {c4 with bK:=c4.bK+1};have sx:=g7.bd (m:=w+252) (tI.mono (by omega));have xX:=oJ.aY k7;refine⟨xX.ld rfl,trivial,trivial,trivial,trivial,?_⟩;refine HQ aw hT h7 (w:=w+251) sx _ _ x.place fun Ha ca ka tJ ga er es=>?_;have zt:=xX.aY ka;have Gg:BD ca (w+251):=ga.bd (m:=w+251) (sx.mono (by omega));refine⟨zt.ld rfl,trivial,?_⟩;refine(((b5.aY k6).aY k7).aY ka).st tJ (((K5.trans k6).trans k7).trans ka) (by decide) One.int fun Hb Kb wt Kx ob=>?_;have F9:=ob _ _ _ sK zt;refine⟨F9.ld rfl,trivial,?_⟩;refine Kx.st wt Kb (by decide) One.int fun Hc Kc tK Ky oc=>?_;have Kz:=oc _ _ _ sK F9;refine⟨Kz.ld rfl,trivial,?_⟩;refine Ky.st tK Kc (by decide) One.int fun Hd Kd tM XD od=>?_;refine⟨trivial,?_⟩;refine XD.st tM Kd (by decide) One.int fun He Ke wu F7 oe=>?_;refine F7.st wu Ke (by decide) One.int fun Hf Kf Df bbf of=>?_;rw[bbf.all];simp only[aa];have hAa:=Gg.A;have er':ca.bK=c4.bK+1+1:=er;have es':ca.sn=c4.sn+1:=es;refine rU aw hT Df (by omega) ⟨11,c4.bK,((c4.bK+1:Nat):Int),a,-1,-1,0,0,s.len,x.order,0,((c4.sn+1:Nat):Int),0⟩ fun Hg kg h_g=>?_;have gg:GE ca (ca.add ⟨11,c4.bK,((c4.bK+1:Nat):Int),a,-1,-1,0,0,s.len,x.order,0,((c4.sn+1:Nat):Int),0⟩) 1 0:=GE.add (rJ (by decide) (by decide) (sL (by omega)) (sL (by omega)) (ha.mono (by omega)) eo eo (.inr (.inr ⟨by omega,by omega⟩)) (.inr (.inl (by decide)))) (wJ (.inl (by decide)));have X0:=gg.bd (m:=w+250) (Gg.mono (by rw[Nat.add_comm 1];exact Nat.le_refl _));have XE:=bbf.aY kg;have G:=(((((g1.trans g4).trans g6).trans g7).trans ga).trans gg)
 have hLg:(LD.add ca ⟨11,c4.bK,((c4.bK+1:Nat):Int),a,-1,-1,0,0,s.len,x.order,0,((c4.sn+1:Nat):Int),0⟩).L.map Prod.fst=L:=by rw[G.L];exact hL
 have hrg:(LD.add ca ⟨11,c4.bK,((c4.bK+1:Nat):Int),a,-1,-1,0,0,s.len,x.order,0,((c4.sn+1:Nat):Int),0⟩).bK=c4.bK+2:=er';generalize LD.add ca ⟨11,c4.bK,((c4.bK+1:Nat):Int),a,-1,-1,0,0,s.len,x.order,0,((c4.sn+1:Nat):Int),0⟩=cg at *;simp only[yN,XE.ld (k:=1) rfl,aa];refine NA aw hT h_g X0 (by rw[hLg];exact hn) fun q hq=>?_;refine⟨XE.ld rfl,?_⟩;refine PN aw hT h_g (w:=w+249) X0 hq (sL (by omega)) fun ch Hh kh h_h gh=>?_;have hBh:=gh.bd (m:=w+249) (X0.mono (by rw[Nat.add_comm 1];exact Nat.le_refl _));have bbh:=XE.aY kh;simp only[Qy,bbh.ld (k:=2) rfl,aa];refine NA aw hT h_h hBh (by rw[gh.L,hLg];exact Dr) fun q2 Dt=>?_;refine⟨bbh.ld rfl,?_⟩;have rh:=gh.r0;refine PN aw hT h_h (w:=w+248) hBh Dt (sL (by omega)) fun ci Hi ki h_i gi=>?_;exact hQ _ Hi (((Kf.trans kg).trans kh).trans ki) h_i (((G.trans gh).trans gi).mono (by omega) (by omega))
end
end Rb

namespace Rb
open Go
def KB(id:Nat)(H H':AH):Prop:=H.n≤H'.n∧∀i cs,i<id→At H i (.row cs)→At H' i (.row cs)
theorem KB.refl(id:Nat)(H:AH):KB id H H:=⟨Nat.le_refl _,fun _ _ _ h=>h⟩
theorem KB.trans{id:Nat}{a b c:AH}(h:KB id a b)(k:KB id b c):KB id a c:=⟨Nat.le_trans h.1 k.1,fun i cs hi ho=>k.2 i cs hi (h.2 i cs hi ho)⟩
theorem KR.kb{id:Nat}{a b:AH}(h:KR id a b):KB id a b:=⟨h.1,fun i cs hi ho=>h.2 i cs (Nat.ne_of_lt hi) ho⟩
def StQ(id:Nat)(vars:List aK)(H:AH)(c:LD)(w k:Nat)(L:List (List UInt8))(Q:ae):Prop:=∀(c':LD)(xl:AV)(H':AH),KB id H H'→cz H' id vars (gw vars) xl c'→GS c c' w k→c'.L.map Prod.fst=L→(∃t,c'.L=c.L++t∧t.length≤1)→Q (.aM []) H'
def V3(C:Ctx)(id:Nat)(vars:List aK)(x:aC):Prop:=∀{L:List (List UInt8)}{xl:AV}{c:LD}{H:AH}{Q:ae}{w:Nat},vS vars L x→cz H id vars (gw vars) xl c→c.L.map Prod.fst=L→BD c (w+sv x)→StQ id vars H c (sv x) (AW x) (jA L x) Q→au C K.f30 [.ptr id 0,.agg x.cells] H Q
def Fo(C:Ctx)(id:Nat)(vars:List aK)(l:List aC):Prop:=∀{L:List (List UInt8)}{xl:AV}{c:LD}{H:AH}{Q:ae}{w:Nat},vB vars L l→cz H id vars (gw vars) xl c→c.L.map Prod.fst=L→BD c (w+dT l)→(∀(c':LD)(xl:AV)(H':AH),KB id H H'→cz H' id vars (gw vars) xl c'→GS c c' (dT l) (gU l)→c'.L=c.L→Q (.aM []) H')→au C K.f12 [.ptr id 0,aQ aC.cells l] H Q
theorem GS.refl(c:LD):GS c c 0 0:=(GE.refl c).gs
theorem GS.line(c:LD)(v:Int):GS c {c with line:=v} 0 0:=⟨⟨[],(List.append_nil _).symm,Nat.le_refl _,(fun _ ho=>by cases ho),lJ.nil _⟩,Nat.le_refl _,Nat.le_refl _,Nat.le_refl _,Nat.le_refl _,Nat.le_refl _,Nat.le_refl _⟩
theorem GS.locals(c:LD)(l:List (List UInt8×Nat)):GS c {c with L:=l} 0 0:=⟨⟨[],(List.append_nil _).symm,Nat.le_refl _,(fun _ ho=>by cases ho),lJ.nil _⟩,Nat.le_refl _,Nat.le_refl _,Nat.le_refl _,Nat.le_refl _,Nat.le_refl _,Nat.le_refl _⟩
theorem TV:∀L:List (List UInt8×Nat),(L.flatMap sJ).length=L.length*2
 |[]=>rfl
 |x::r=>by rw[List.flatMap_cons,List.length_append,TV r,List.length_cons];show 2+_=_;omega
section
variable{C:Ctx}(aw:dz C)(hT:Cl (au C) S.cH){id:Nat}{vars:List aK}{xl:AV}{c:LD}{H:AH}{Q:ae}{w:Nat}
include aw hT
theorem Ta{l:List aC}(hl:l.length≤9223372036854775807)(hS:∀x∈l,V3 C id vars x):Fo C id vars l:=by
 intro L xl c H Q w hv h hL hb hQ;refine S.aqD hT ?_;unfold S.f12;simp only[bR,eP,aa,h.lcs,h.l.len,cu];have main:∀(r:List aC)(i:Nat)(L':List (List UInt8)) (c1:LD) (DK:AV) (H1:AH) (w1 k1:Nat),l.drop i=r→vB vars L' r→KB id H H1→cz H1 id vars (gw vars) DK c1→c1.L.map Prod.fst=L'→(∃t,c1.L=c.L++t∧t.length≤w1)→GS c c1 w1 k1→w1+dT r=dT l→k1+gU r=gU l →
   aB (S.N1 (au C) (.ptr id 0) (aQ aC.cells l) (.int .i64 c.L.length) (.int .i64 l.length) Q) ([.int .i64 i],H1):=by
  intro r;induction r with
  | nil=>
   intro i L' c1 DK H1 w1 k1 hd hv kb h1 KI ht g1 hw hk;have hle:=fe hd;obtain⟨t,ht,qI⟩:=ht;refine aB.step ?_;simp only[S.N1,aA,bF,aa,aD,aG];rw[if_neg (by simp only[decide_eq_true_eq];omega)];unfold S.adI;simp only[bR,eP,aa,h1.lcs];obtain⟨x',e,hr,bC⟩:=h1.l.cut (k:=c.L.length) (by rw[ht,List.length_append];omega);simp only[e,aa];obtain⟨xo,xs,a,b,d,f⟩:=h1.x;obtain⟨n1,n2,n3⟩:=hr.known;rw[a.lp (by show 7<8;decide) ⟨n1,n2,n3⟩];simp only[aa];rw[dT]at hw;rw[gU]at hk;refine hQ {c1 with L:=c.L} x' _ (kb.trans (KR.set _).kb) ⟨⟨xo,xs,a.set _,b.frame fun _ _ _ h=>h.dq (h.ne a (by intro e;cases e)) _,d.frame fun _ _ _ h=>h.dq (h.ne a (by intro e;cases e)) _,f⟩,?_,fun j hj=>h1.ld j (by rw[←bC];exact hj),fun p hp=>h1.lo p (by rw[ht];exact List.mem_append_left _ hp)⟩ ((g1.trans (GS.locals c1 c.L)).mono (by omega) (by omega)) rfl;have:(c1.L.flatMap sJ).take (c.L.length*2)=c.L.flatMap sJ:=by rw[ht,List.flatMap_append,List.take_append_of_le_length (by rw[TV];exact Nat.le_refl _),List.take_of_length_le (by rw[TV];exact Nat.le_refl _)]
   rw[this]at hr;exact hr.set (by rw[bC];exact h1.Lr) _
  | cons x r ih=>
   intro i L' c1 DK H1 w1 k1 hd hv kb h1 KI ht g1 hw hk;obtain⟨aO,hx,bC⟩:=eX hd;have gI:=List.mem_of_getElem? hx;obtain⟨v1,v2⟩:vS vars L' x∧vB vars (jA L' x) r:=by rw[vB]at hv;exact hv
   obtain⟨t,ht,qI⟩:=ht;rw[dT]at hw;rw[gU]at hk;refine aB.step ?_;simp only[S.N1,aA,bF,aa,aD];rw[if_pos (by simp only[decide_eq_true_eq];omega),d_ aO];simp only[aa];rw[gO aC.len (by decide) _ hx];simp only[aa];refine h1.s_ KR.refl (cs:=x.cells) (N:=10) rfl x.len (aC.scalar x) fun j H2 k2 h2 b2 l2=>?_;have xln:x.cells[1]?=some (.int .i64 x.line):=by rw[aC.bf];rfl
   obtain⟨H3,e3,k3,h3⟩:=h2.own (k:=6) (c':={c1 with line:=x.line}) (n:=x.line) (.inr (.inr ⟨rfl,rfl,rfl,rfl⟩)) rfl rfl rfl rfl;simp only[eP,aa,b2.ld xln,bR,e3,(b2.aY k3).all];have g3:=g1.trans (GS.line c1 x.line);have hb3:BD ({c1 with line:=x.line}:LD) (w+sv x):=g3.bd (m:=w+sv x) (hb.mono (by omega)) (by show c1.L.length≤_;rw[ht,List.length_append];omega);refine hS x gI v1 h3 KI hb3 fun c4 xl4 H4 YR h4 g4 hL4 ht4=>?_;obtain⟨t2,ht2,aCT⟩:=ht4;have:16≤sv x:=by rw[adD];omega
   simp only[cp,aa];rw[wrap_i64 (by omega) (by omega),cN];refine ih (i+1) _ c4 xl4 H4 (w1+sv x) (k1+AW x) bC v2 ((kb.trans (k2.trans k3).kb).trans YR) h4 hL4 ⟨t++t2,by rw[ht2];show c1.L++t2=_;rw[ht,List.append_assoc],by rw[List.length_append];omega⟩ ((g3.trans g4).mono (by omega) (by omega)) (by omega) (by omega)
 exact main l 0 L c xl H 0 0 rfl hv (KB.refl _ _) h hL ⟨[],by simp,by simp⟩ (GS.refl c) (Nat.zero_add _) (Nat.zero_add _)
end
end Rb

namespace Rb
open Go
theorem SH(t:Int)(o:dr)(l:List dr):lB t (o::l)=(if o.kind=14∧o.fB=t then 1 else 0)+lB t l:=by
 unfold lB;rw[List.filter_cons];by_cases h:o.kind=14∧o.fB=t
 ·rw[if_pos h,if_pos (by simp[h.1,h.2]),List.length_cons];omega
 ·rw[if_neg h,if_neg (by simpa using h),Nat.zero_add]
theorem abL{t:Int}{l:List dr}(h:∀o∈l,zo o):lB t l=0:=by unfold lB;rw[List.length_eq_zero_iff,List.filter_eq_nil_iff];intro o ho hh;simp only[Bool.and_eq_true,beq_iff_eq]at hh;exact h o ho ⟨by omega,by omega⟩
structure GR(c c':LD)(w k:Nat)(new:List dr):Prop where
 A:c'.A=c.A++new
 len:new.length≤w
 op:∀o∈new,pJ c'.bK c'.sn o
 r0:c.bK≤c'.bK
 r1:c'.bK≤c.bK+w
 s0:c.sn≤c'.sn
 s1:c'.sn≤c.sn+k
 s2:c'.sn≤c.sn+w
 l1:c'.labels≤c.labels+w
section
variable{c c1 c2:LD}{w k w' k':Nat}{n n':List dr}
theorem GR.trans(h:GR c c1 w k n)(g:GR c1 c2 w' k' n'):GR c c2 (w+w') (k+k') (n++n'):=by
 obtain⟨a1,a2,a3,a4,a5,a6,a7,a8,a9⟩:=h;obtain⟨b1,b2,b3,b4,b5,b6,b7,b8,b9⟩:=g;refine⟨by rw[b1,a1,List.append_assoc],by rw[List.length_append];omega,fun o ho=>?_,by omega,by omega,by omega,by omega,by omega,by omega⟩;rcases List.mem_append.1 ho with ho|ho
 ·exact(a3 o ho).mono b4 b6
 ·exact b3 o ho
theorem GR.mono(h:GR c c1 w k n)(hw:w≤w')(hk:k≤k'):GR c c1 w' k' n:=by obtain⟨a1,a2,a3,a4,a5,a6,a7,a8,a9⟩:=h;exact⟨a1,by omega,a3,a4,by omega,a6,by omega,by omega,by omega⟩
theorem GE.gr(h:GE c c1 w k):∃n,GR c c1 w k n∧(∀o∈n,zo o)∧c1.labels=c.labels:=by obtain⟨n,a,b,d⟩:=h.new;exact⟨n,⟨a,b,fun o ho=>(d o ho).1,h.r0,h.r1,h.s0,h.s1,h.s2,by rw[h.rI];omega⟩,fun o ho=>(d o ho).2,h.rI⟩
theorem GS.gr(h:GS c c1 w k):∃n,GR c c1 w k n∧lJ c.labels c1.labels n:=by obtain⟨n,a,b,d,e⟩:=h.new;exact⟨n,⟨a,b,d,h.r0,h.r1,h.s0,h.s1,h.s2,h.l1⟩,e⟩
theorem GR.gs(h:GR c c1 w k n)(e:lJ c.labels c1.labels n):GS c c1 w k:=⟨⟨n,h.A,h.len,h.op,e⟩,h.r0,h.r1,h.s0,h.s1,h.s2,h.l1⟩
theorem GR.add{o:dr}(h:pJ c.bK c.sn o):GR c (c.add o) 1 0 [{o with line:=c.line}]:=⟨rfl,Nat.le_refl _,fun p hp=>by rw[List.mem_singleton]at hp;subst hp;exact h.line _,Nat.le_refl _,Nat.le_succ _,Nat.le_refl _,Nat.le_refl _,Nat.le_succ _,Nat.le_succ _⟩
theorem GR.label(c:LD):GR c {c with labels:=c.labels+1} 1 0 []:=⟨(List.append_nil _).symm,Nat.zero_le _,(fun _ ho=>by cases ho),Nat.le_refl _,Nat.le_succ _,Nat.le_refl _,Nat.le_refl _,Nat.le_succ _,Nat.le_refl _⟩
theorem GR.line(c:LD)(v:Int):GR c {c with line:=v} 0 0 []:=⟨(List.append_nil _).symm,Nat.zero_le _,(fun _ ho=>by cases ho),Nat.le_refl _,Nat.le_refl _,Nat.le_refl _,Nat.le_refl _,Nat.le_refl _,Nat.le_refl _⟩
theorem GR.bd{m:Nat}(g:GR c c1 w k n)(h:BD c (w+m))(hL:c1.L=c.L):BD c1 m:=by obtain⟨a1,a2,a3,a4,a5,a6,a7,a8,a9⟩:=g;obtain⟨b1,b2,b3,b4,b5⟩:=h;exact⟨by rw[a1,List.length_append];omega,by omega,by omega,by omega,by rw[hL];omega⟩
end
def Jp(o:dr)(t:Nat):Prop:=(o.kind=15∨o.kind=16)∧o.fB=(t:Int)
def Mk(o:dr)(t:Nat):Prop:=o.kind=14∧o.fB=(t:Int)
theorem atS{l0 l3 l4:Nat}{n1 n2 n3:List dr}{o1 o2 m1 m2:dr}(h1:∀o∈n1,zo o)(j1:Jp o1 (l0+1))(h2:lJ (l0+2) l3 n2)(j2:Jp o2 (l0+2))(k1:Mk m1 (l0+1))(h3:lJ l3 l4 n3)(k2:Mk m2 (l0+2)):lJ l0 l4 (n1++([o1]++(n2++([o2]++([m1]++(n3++[m2])))))):=by
 have e2:=h2.le;have e3:=h3.le;obtain⟨p1,p2⟩:=j1;obtain⟨q1,q2⟩:=j2;obtain⟨r1,r2⟩:=k1;obtain⟨s1,s2⟩:=k2;refine⟨by omega,fun o ho a b=>?_,fun t t0 t1=>?_⟩
 · simp only[List.mem_append,List.mem_singleton]at ho;rcases ho with ho|rfl|ho|rfl|rfl|ho|rfl
   ·exact absurd ⟨a,b⟩ (h1 o ho)
   ·omega
   ·have:=h2.fB o ho a b;omega
   ·omega
   ·omega
   ·have:=h3.fB o ho a b;omega
   ·omega
 · have z1:lB t n1=0:=abL h1;simp only[Mu,SH,z1,show lB t []=0 from rfl];rw[if_neg (show ¬(o1.kind=14∧o1.fB=t) by omega),if_neg (show ¬(o2.kind=14∧o2.fB=t) by omega)];by_cases c1:t≤((l0+2:Nat):Int)
   · rw[Bz h2 (.inl c1),Bz h3 (.inl (by omega))];by_cases c2:t=((l0+1:Nat):Int)
     ·rw[if_pos (show m1.kind=14∧m1.fB=t by omega),if_neg (show ¬(m2.kind=14∧m2.fB=t) by omega)]
     ·rw[if_neg (show ¬(m1.kind=14∧m1.fB=t) by omega),if_pos (show m2.kind=14∧m2.fB=t by omega)]
   · rw[if_neg (show ¬(m1.kind=14∧m1.fB=t) by omega),if_neg (show ¬(m2.kind=14∧m2.fB=t) by omega)];by_cases c2:t≤(l3:Int)
     ·rw[h2.one t (by omega) c2,Bz h3 (.inl c2)]
     ·rw[Bz h2 (.inr (by omega)),h3.one t (by omega) t1]
theorem atT{l0 l3:Nat}{n1 n2:List dr}{o1 o2 m1 m2:dr}(k1:Mk m1 (l0+1))(h1:∀o∈n1,zo o)(j1:Jp o1 (l0+2))(h2:lJ (l0+2) l3 n2)(j2:Jp o2 (l0+1))(k2:Mk m2 (l0+2)):lJ l0 l3 ([m1]++(n1++([o1]++(n2++([o2]++[m2]))))):=by
 have e2:=h2.le;obtain⟨p1,p2⟩:=j1;obtain⟨q1,q2⟩:=j2;obtain⟨r1,r2⟩:=k1;obtain⟨s1,s2⟩:=k2;refine⟨by omega,fun o ho a b=>?_,fun t t0 t1=>?_⟩
 · simp only[List.mem_append,List.mem_singleton]at ho;rcases ho with rfl|ho|rfl|ho|rfl|rfl
   ·omega
   ·exact absurd ⟨a,b⟩ (h1 o ho)
   ·omega
   ·have:=h2.fB o ho a b;omega
   ·omega
   ·omega
 · have z1:lB t n1=0:=abL h1;simp only[Mu,SH,z1,show lB t []=0 from rfl];rw[if_neg (show ¬(o1.kind=14∧o1.fB=t) by omega),if_neg (show ¬(o2.kind=14∧o2.fB=t) by omega)];by_cases c1:t≤((l0+2:Nat):Int)
   · rw[Bz h2 (.inl c1)];by_cases c2:t=((l0+1:Nat):Int)
     ·rw[if_pos (show m1.kind=14∧m1.fB=t by omega),if_neg (show ¬(m2.kind=14∧m2.fB=t) by omega)]
     ·rw[if_neg (show ¬(m1.kind=14∧m1.fB=t) by omega),if_pos (show m2.kind=14∧m2.fB=t by omega)]
   · rw[if_neg (show ¬(m1.kind=14∧m1.fB=t) by omega),if_neg (show ¬(m2.kind=14∧m2.fB=t) by omega)];rw[h2.one t (by omega) t1]
section
variable{C:Ctx}(aw:dz C)(hT:Cl (au C) S.cH){id:Nat}{vars:List aK}{xl:AV}{c:LD}{H:AH}{Q:ae}{w:Nat}
include aw hT
theorem cz.VE{P:AH→Prop}(h:cz H id vars (gw vars) xl c)(v:Int)(hP:∀H',KR id H H'→cz H' id vars (gw vars) xl {c with line:=v}→P H'):Do (aH H 1 (.ptr id 6) (.int .i64 v)) P:=by obtain⟨H3,e3,k3,h3⟩:=h.own (k:=6) (c':={c with line:=v}) (n:=v) (.inr (.inr ⟨rfl,rfl,rfl,rfl⟩)) rfl rfl rfl rfl;rw[e3,aa];exact hP _ k3 h3
theorem amR{L:List (List UInt8)}{x:aC}{e0:aF}(hex:x.exprs=[e0])(he:qo C id vars L e0)(FI:Fo C id vars x.aZ)(Ww:Fo C id vars x.bz)(Bd:vB vars L x.aZ)(u9:vB vars L x.bz)(h:cz H id vars (gw vars) xl c)(hL:c.L.map Prod.fst=L)(hb:BD c (w+(16+gK e0+dT x.aZ+dT x.bz)))
  (hQ:∀(c':LD)(xl:AV)(H':AH),KB id H H'→cz H' id vars (gw vars) xl c'→GS c c' (16+gK e0+dT x.aZ+dT x.bz) (rB e0+gU x.aZ+gU x.bz)→c'.L=c.L→Q (.aM []) H'):au C K.f57 [.ptr id 0,.agg x.cells] H Q:=by
 have wj:=uH e0;refine S.arf hT ?_;unfold S.f57;simp only[Ao,bw];refine MB aw hT h (w:=w+(15+gK e0+dT x.aZ+dT x.bz)) (hb.mono (by omega)) fun H1 k1 h1=>?_;have g1:=GR.label c;have B1:=g1.bd (m:=w+(15+gK e0+dT x.aZ+dT x.bz)) (hb.mono (by omega)) rfl;refine MB aw hT h1 (w:=w+(14+gK e0+dT x.aZ+dT x.bz)) (B1.mono (by omega)) fun H2 k2 h2=>?_;have g2:=g1.trans (GR.label {c with labels:=c.labels+1});have B2:=g2.bd (m:=w+(14+gK e0+dT x.aZ+dT x.bz)) (hb.mono (by omega)) rfl;obtain⟨a0,a1⟩:=IY (l:=x.exprs) (i:=0) (e:=e0) (by rw[hex];rfl);rw[show(AV.int IntKind.i64 ((0:Nat):Int)) = .int .i64 0 from rfl]at a0;simp only[ko,yO,a0,a1,aa];refine he h2 hL (w:=w+(14+dT x.aZ+dT x.bz)) (B2.mono (by omega)) fun r c3 H3 k3 h3 ge hr=>?_;obtain⟨n1,g3,YX,el⟩:=ge.gr;have zv:c3.L=c.L:=ge.L;have XO:c3.labels=c.labels+2:=el;have KD:=g2.trans g3;have B3:=KD.bd (m:=w+(14+dT x.aZ+dT x.bz)) (hb.mono (by omega)) zv;refine NB aw hT h3 (w:=w+(13+dT x.aZ+dT x.bz)) (B3.mono (by omega)) _ hr fun o1 H4 k4 ot ok ob h4=>?_;have g4:=KD.trans (GR.add ob);have B4:=g4.bd (m:=w+(13+dT x.aZ+dT x.bz)) (hb.mono (by omega)) zv;simp only[Jf,aa];refine FI Bd h4 (by show c3.L.map _=_;rw[zv];exact hL) (w:=w+(13+dT x.bz)) (B4.mono (by omega)) fun c5 xl5 H5 YS h5 XV XN=>?_;obtain⟨n2,g5,WO⟩:=XV.gr;have yZ:c5.L=c.L:=XN.trans zv;have XS:=g4.trans g5;simp only[VQ,aa,bR,eP];refine h5.VE aw hT _ fun H6 k6 h6=>?_;have g6:=XS.trans (GR.line c5 x.line);have B6:=g6.bd (m:=w+(13+dT x.bz)) (hb.mono (by omega)) yZ;refine NB aw hT h6 (w:=w+(12+dT x.bz)) (B6.mono (by omega)) _ eo fun o2 H7 k7 Y3 GU Y0 h7=>?_;have g7:=g6.trans (GR.add Y0);have B7:=g7.bd (m:=w+(12+dT x.bz)) (hb.mono (by omega)) yZ;refine NC aw hT h7 (w:=w+(11+dT x.bz)) (B7.mono (by omega)) _ fun H8 k8 h8=>?_;have om:∀{R S:Nat}{t:Int},pJ R S ⟨14,-1,-1,-1,-1,-1,0,0,0,0,t,0,0⟩:=rJ (by decide) (by decide) eo eo eo eo eo (.inr (.inl (by decide))) (.inr (.inl (by decide)));have g8:=g7.trans (GR.add (o:=⟨14,-1,-1,-1,-1,-1,0,0,0,0,((c.labels+1:Nat):Int),0,0⟩) om);have B8:=g8.bd (m:=w+(11+dT x.bz)) (hb.mono (by omega)) yZ;simp only[QA,aa];refine Ww u9 h8 (by show c5.L.map _=_;rw[yZ];exact hL) (w:=w+11) (B8.mono (by omega)) fun c9 xl9 H9 kb9 h9 gs9 eL9=>?_;obtain⟨n3,g9,axU⟩:=gs9.gr;have ag3:c9.L=c.L:=eL9.trans yZ;have g9':=g8.trans g9;refine h9.VE aw hT _ fun Ha ka tJ=>?_;have ga:=g9'.trans (GR.line c9 x.line);have Ba:=ga.bd (m:=w+11) (hb.mono (by omega)) ag3;refine NC aw hT tJ (w:=w+10) Ba _ fun Hb kb wt=>?_;have gb:=ga.trans (GR.add (o:=⟨14,-1,-1,-1,-1,-1,0,0,0,0,((c.labels+1+1:Nat):Int),0,0⟩) om);refine hQ _ xl9 Hb (((((((k1.trans k2).trans k3).trans k4).kb.trans YS).trans ((k6.trans k7).trans k8).kb).trans kb9).trans (ka.trans kb).kb) wt (GR.gs (gb.mono (by omega) (by omega)) ?_) ag3;have l2:lJ (c.labels+2) c5.labels n2:=by rw[←XO];exact WO
 have l3:lJ c5.labels c9.labels n3:=axU;have:=atS (o1:={o1 with line:=c3.line}) (o2:={o2 with line:=x.line}) (m1:=⟨14,-1,-1,-1,-1,-1,0,0,0,0,((c.labels+1:Nat):Int),0,x.line⟩) (m2:=⟨14,-1,-1,-1,-1,-1,0,0,0,0,((c.labels+1+1:Nat):Int),0,x.line⟩) YX ⟨ok,ot⟩ l2 ⟨GU,Y3⟩ ⟨rfl,rfl⟩ l3 ⟨rfl,rfl⟩;simp only[List.nil_append,List.append_nil,List.append_assoc];exact this
theorem ap5{L:List (List UInt8)}{x:aC}{e0:aF}(hex:x.exprs=[e0])(he:qo C id vars L e0)(FI:Fo C id vars x.aZ)(Bd:vB vars L x.aZ)(h:cz H id vars (gw vars) xl c)(hL:c.L.map Prod.fst=L)(hb:BD c (w+(16+gK e0+dT x.aZ)))
  (hQ:∀(c':LD)(xl:AV)(H':AH),KB id H H'→cz H' id vars (gw vars) xl c'→GS c c' (16+gK e0+dT x.aZ) (rB e0+gU x.aZ)→c'.L=c.L→Q (.aM []) H'):au C K.f58 [.ptr id 0,.agg x.cells] H Q:=by
 have wj:=uH e0;refine S.arh hT ?_;unfold S.f58;simp only[Ao,bw];refine MB aw hT h (w:=w+(15+gK e0+dT x.aZ)) (hb.mono (by omega)) fun H1 k1 h1=>?_;have g1:=GR.label c;have B1:=g1.bd (m:=w+(15+gK e0+dT x.aZ)) (hb.mono (by omega)) rfl;refine MB aw hT h1 (w:=w+(14+gK e0+dT x.aZ)) (B1.mono (by omega)) fun H2 k2 h2=>?_;have g2:=g1.trans (GR.label {c with labels:=c.labels+1});have B2:=g2.bd (m:=w+(14+gK e0+dT x.aZ)) (hb.mono (by omega)) rfl;have om:∀{R S:Nat}{t:Int},pJ R S ⟨14,-1,-1,-1,-1,-1,0,0,0,0,t,0,0⟩:=rJ (by decide) (by decide) eo eo eo eo eo (.inr (.inl (by decide))) (.inr (.inl (by decide)));refine NC aw hT h2 (w:=w+(13+gK e0+dT x.aZ)) (B2.mono (by omega)) _ fun H2 RR h2=>?_;have g2:=g2.trans (GR.add (o:=⟨14,-1,-1,-1,-1,-1,0,0,0,0,((c.labels+1:Nat):Int),0,0⟩) om);have B2:=g2.bd (m:=w+(13+gK e0+dT x.aZ)) (hb.mono (by omega)) rfl;obtain⟨a0,a1⟩:=IY (l:=x.exprs) (i:=0) (e:=e0) (by rw[hex];rfl);rw[show(AV.int IntKind.i64 ((0:Nat):Int)) = .int .i64 0 from rfl]at a0;simp only[ko,yO,a0,a1,aa];refine he h2 hL (w:=w+(13+dT x.aZ)) (B2.mono (by omega)) fun r c3 H3 k3 h3 ge hr=>?_;obtain⟨n1,g3,YX,el⟩:=ge.gr;have zv:c3.L=c.L:=ge.L;have XO:c3.labels=c.labels+2:=el;have KD:=g2.trans g3;have B3:=KD.bd (m:=w+(13+dT x.aZ)) (hb.mono (by omega)) zv;refine NB aw hT h3 (w:=w+(12+dT x.aZ)) (B3.mono (by omega)) _ hr fun o1 H4 k4 ot ok ob h4=>?_;have g4:=KD.trans (GR.add ob);have B4:=g4.bd (m:=w+(12+dT x.aZ)) (hb.mono (by omega)) zv;simp only[Jf,aa];refine FI Bd h4 (by show c3.L.map _=_;rw[zv];exact hL) (w:=w+12) (B4.mono (by omega)) fun c5 xl5 H5 YS h5 XV XN=>?_;obtain⟨n2,g5,WO⟩:=XV.gr;have yZ:c5.L=c.L:=XN.trans zv;have XS:=g4.trans g5;simp only[VQ,aa,bR,eP];refine h5.VE aw hT _ fun H6 k6 h6=>?_;have g6:=XS.trans (GR.line c5 x.line);have B6:=g6.bd (m:=w+12) (hb.mono (by omega)) yZ;refine NB aw hT h6 (w:=w+11) B6 _ eo fun o2 H7 k7 Y3 GU Y0 h7=>?_;have g7:=g6.trans (GR.add Y0);have B7:=g7.bd (m:=w+11) (hb.mono (by omega)) yZ;refine NC aw hT h7 (w:=w+10) B7 _ fun H8 k8 h8=>?_;have g8:=g7.trans (GR.add (o:=⟨14,-1,-1,-1,-1,-1,0,0,0,0,((c.labels+1+1:Nat):Int),0,0⟩) om);refine hQ _ xl5 H8 (((((k1.trans k2).trans RR).trans k3).trans k4).kb.trans (YS.trans ((k6.trans k7).trans k8).kb)) h8 (GR.gs (g8.mono (by omega) (by omega)) ?_) yZ;have l2:lJ (c.labels+2) c5.labels n2:=by rw[←XO];exact WO
 have:=atT (o1:={o1 with line:=c3.line}) (o2:={o2 with line:=x.line}) (m1:=⟨14,-1,-1,-1,-1,-1,0,0,0,0,((c.labels+1:Nat):Int),0,c.line⟩) (m2:=⟨14,-1,-1,-1,-1,-1,0,0,0,0,((c.labels+1+1:Nat):Int),0,x.line⟩) ⟨rfl,rfl⟩ YX ⟨ok,ot⟩ l2 ⟨GU,Y3⟩ ⟨rfl,rfl⟩;simp only[List.nil_append,List.append_nil,List.append_assoc];exact this
end
end Rb

namespace Rb
open Go
theorem atL{k:Int}:(iO k).2.2.2.1=if k=5∨k=7 then 0 else if k=6 then 2 else 1:=by
 unfold iO;by_cases h5:k=5
 ·subst h5;rfl
 by_cases h6:k=6
 ·subst h6;rfl
 by_cases h7:k=7
 ·subst h7;rfl
 rw[if_neg (show ¬(k=5∨k=7) by omega),if_neg h6]
 repeat' split
 all_goals first|rfl|(exfalso;omega)
section
variable{C:Ctx}(aw:dz C)(hT:Cl (au C) S.cH){id:Nat}{vars:List aK}{xl:AV}{c:LD}{H:AH}{Q:ae}{w:Nat}
include aw hT
theorem ap7(hV:xV vars){x:aC}(hx:x.ok)(FI:Fo C id vars x.aZ)(Ww:Fo C id vars x.bz):V3 C id vars x:=by
 intro L xl c H Q w hv h hL hb hQ;obtain⟨v1,v2,v3,v4,v5,v6,v7,v8,v9⟩:=(av1 vars L x).1 hv;obtain⟨f1,f2,f3,f4,f5,f6⟩:=anF v1;rw[atL]at f4;obtain⟨gL,⟨fA,Dj⟩,_,_⟩:=aC.eS hx;have hE:∀e∈x.exprs,qo C id vars L e:=fun e he=>acX aw hT hV L e (Dj e he) ((NO vars L).1 v7 e he);have jM:=aT.eS gL;have Gi:3≤x.kind∧x.kind≤6→∀p∈x.place.parts,∀e∈p.index,qo C id vars L e:=fun hk p hp e he=>acX aw hT hV L e ((jM.2 p hp).2 e he) (agG vars (v6 hk) p hp e he);have tO:=adD x;have pN:=adq x;have ma:¬(x.kind=5∨x.kind=7)→x.kind≠6→∃e0,x.exprs=[e0]:=fun a b=>by rw[if_neg a,if_neg b]at f4;exact List.length_eq_one_iff.1 (by omega)
 have WI:x.kind≠1→jA L x=L:=fun e=>by unfold jA;rw[if_neg e]
 have eu:x.kind≠1→∀{m n:Nat},m≤sv x→n≤AW x→EU id vars (gw vars) xl H c m n Q:=fun hk m n hm hn c' H' k' h' g'=>hQ c' xl H' k'.kb h' (g'.gs.mono hm hn) (by rw[g'.L,hL,WI hk]) ⟨[],by rw[g'.L,List.append_nil],Nat.zero_le _⟩;have a0:∀{e0:aF},x.exprs=[e0]→bj none 8 (aQ aF.cells x.exprs) (.int .i64 0)=some (iB aF.cells 8 x.exprs 0)∧∀H,J H 8 true (iB aF.cells 8 x.exprs 0)=some (.agg e0.cells):=fun {e0} he=>IY (l:=x.exprs) (i:=0) (e:=e0) (by rw[he];rfl);have s1:∀{e0:aF},x.exprs=[e0]→gn x.exprs=gK e0∧il x.exprs=rB e0:=fun he=>by rw[he,gn,gn,il,il];exact⟨Nat.add_zero _,Nat.add_zero _⟩
 refine S.aqP hT ?_;unfold S.f30;simp only[Ao,bw,ko,nr,yN,Av,yO,aa,cn,aD];refine aN (fun hc=>?_) (fun hc=>?_)
 · have k1:x.kind=1:=by simpa using hc
   obtain⟨e0,j0⟩:=ma (by omega) (by omega);obtain⟨a1,a2⟩:=a0 j0;obtain⟨t1,t2⟩:=s1 j0;have wj:=uH e0;rw[if_neg (by omega)]at tO pN;simp only[a1,a2,aa];refine hE e0 (by rw[j0];exact List.mem_singleton.2 rfl) h hL (w:=w+16) (hb.mono (by omega)) fun r1 c1 H1 RQ h1 g1 kD=>?_;have B1:BD c1 (w+16):=g1.bd (m:=w+16) (hb.mono (by omega));refine BC aw hT h1 (w:=w+15) B1 fun H2 k2 h2=>?_;have g2:=GE.fr c1;have B2:=g2.bd (m:=w+15) (B1.mono (by omega));refine PN aw hT h2 (w:=w+14) B2 (sL (Nat.lt_succ_self _)) (kD.mono (Nat.le_succ _)) fun c3 H3 k3 h3 g3=>?_;have B3:=g3.bd (m:=w+14) (B2.mono (by omega));have G3:=(g1.trans g2).trans g3;have r3:=g3.r0;have Gn:c1.bK<c3.bK:=r3;simp only[bR,eP,aa,h3.lcs];rw[show bJ [.str [],.int .i64 0] [(0,1,.str x.name),(1,1,.int .i64 (c1.bK:Nat))]=some (.agg (sJ (x.name,c1.bK)))from rfl];simp only[aa];rw[show fb H3 false 2 1 [.str [],.int .i64 0] [(0,2,.agg (sJ (x.name,c1.bK)))]=some (.aq .full 1 (sJ (x.name,c1.bK)),H3)from rfl];simp only[bw];have bL:=B3.L;refine h3.l.app (by decide) rfl rfl (by omega) (by omega) fun R4 H4 ahD hn kp hr=>?_;obtain⟨xo,xs,a,b,d,f⟩:=h3.x;have ft:∀t p q,At H3 t (.tok p q)→At H4 t (.tok p q):=fun t p q ht=>kp t _ (fun e=>by obtain⟨cs,hc⟩:=h3.l.row e;exact absurd (hc.2.symm.trans ht.2) (by intro e;cases e)) ht;have a4:=kp _ _ h3.Lr a;obtain⟨n1,n2,n3⟩:=ahD.known;have uY:∀j,eC R4=some j→id<j:=fun j hj=>by
    rcases hr with hr|hr
    ·exact h3.ld j (by rw[←hr];exact hj)
    ·rw[hr]at hj;cases hj;exact a.1
   have gC:eC R4≠some id:=fun e=>Nat.lt_irrefl _ (uY _ e);have YR:KB id H H4:=⟨Nat.le_trans ((RQ.trans k2).trans k3).1 hn,fun i cs hi ho=>kp i _ (fun e=>by have:=h3.ld i e;omega) (((RQ.trans k2).trans k3).2 i cs (Nat.ne_of_lt hi) ho)⟩
   rw[a4.lp (by show 7<8;decide) ⟨n1,n2,n3⟩];simp only[aa];refine hQ {c3 with L:=c3.L++[(x.name,c1.bK)]} R4 _ (YR.trans (KR.set _).kb) ⟨⟨xo,xs,a4.set _,(b.frame ft).frame fun _ _ _ h=>h.dq (h.ne a4 (by intro e;cases e)) _,(d.frame ft).frame fun _ _ _ h=>h.dq (h.ne a4 (by intro e;cases e)) _,f⟩,?_,uY,fun p hp=>?_⟩ ((G3.gs.trans (GS.locals c3 _)).mono (by omega) (by omega)) ?_ ⟨[(x.name,c1.bK)],by show c3.L++_=_;rw[G3.L],Nat.le_refl _⟩
   · rw[List.length_append,List.flatMap_append,List.flatMap_singleton];exact ahD.set gC _
   · rcases List.mem_append.1 hp with hp|hp
     ·exact h3.lo p hp
     ·rw[List.mem_singleton.1 hp];exact Gn
   · show(c3.L++_).map _=_;rw[List.map_append,G3.L,hL];unfold jA;rw[if_pos k1];rfl
 have n1:x.kind≠1:=by simpa using hc
 refine aN (fun hc=>?_) (fun hc=>?_)
 · have k2:x.kind=2:=by simpa using hc
   obtain⟨e0,j0⟩:=ma (by omega) (by omega);obtain⟨a1,a2⟩:=a0 j0;obtain⟨t1,t2⟩:=s1 j0;have wj:=uH e0;rw[if_neg (by omega)]at tO pN;simp only[a1,a2,aa];refine hE e0 (by rw[j0];exact List.mem_singleton.2 rfl) h hL (w:=w+16) (hb.mono (by omega)) fun r1 c1 H1 RQ h1 g1 kD=>?_;have B1:BD c1 (w+16):=g1.bd (m:=w+16) (hb.mono (by omega));refine NA aw hT h1 B1 (by rw[g1.L,hL];exact v4 k2) fun q hq=>?_;refine PN aw hT h1 (w:=w+15) B1 hq kD fun c3 H3 k3 h3 g3=>?_;exact eu n1 (by omega) (by omega) _ _ (RQ.trans k3) h3 (g1.trans g3)
 have n2:x.kind≠2:=by simpa using hc
 refine aN (fun hc=>?_) (fun hc=>?_)
 · have k3:x.kind=3:=by simpa using hc
   obtain⟨e0,j0⟩:=ma (by omega) (by omega);obtain⟨a1,a2⟩:=a0 j0;obtain⟨t1,t2⟩:=s1 j0;rw[if_pos (by omega)]at tO pN;simp only[a1,a2,aa];refine anU aw hT hV gL (by have:=v6 (by omega);rw[k3]at this;exact this) (Gi (by omega)) (hE e0 (by rw[j0];exact List.mem_singleton.2 rfl)) h hL (w:=w) (hb.mono (by omega)) fun c1 H1 k1 h1 g1=>?_;exact eu n1 (by omega) (by omega) _ _ k1 h1 g1
 have n3:x.kind≠3:=by simpa using hc
 have k1 : ∀b:Bool,(b=true↔x.kind=4∨x.kind=6)→S.Oj (au C) (.ptr id 0) (.av x.cells) (.int .i64 x.kind) Q [.bool b] H:=by
  intro b ag8;unfold S.Oj;simp only[aA,aD,afQ,ko,nr,Qz,yO,aa,cn];refine aN (fun hc=>?_) (fun hc=>?_)
  · have hk:=ag8.1 hc;rw[if_pos (by omega)]at tO pN;refine amT aw hT hV hx ?_ (v6 (by omega)) (Gi (by omega)) hE h hL (w:=w) (hb.mono (by omega)) fun c1 H1 k1 h1 g1=>?_
    · rcases hk with hk|hk
      · rw[if_neg (by omega),if_neg (by omega)]at f4;exact .inl ⟨hk,by omega⟩
      · rw[if_neg (by omega),if_pos hk]at f4;exact .inr ⟨hk,by omega⟩
    ·exact eu n1 (by omega) (by omega) _ _ k1 h1 g1
  have n46:¬(x.kind=4∨x.kind=6):=fun e=>hc (ag8.2 e);refine aN (fun hc=>?_) (fun hc=>?_)
  · have k5:x.kind=5:=by simpa using hc
    rw[if_pos (by omega)]at tO pN;obtain⟨q1,q2,_⟩:=v5 k5;refine amS aw hT hV hx k5 q1 q2 (by have:=v6 (by omega);rw[k5]at this;exact this) (Gi (by omega)) h hL (w:=w) (hb.mono (by omega)) fun c1 H1 k1 h1 g1=>?_;exact eu n1 (by omega) (by omega) _ _ k1 h1 g1
  have n5:x.kind≠5:=by simpa using hc
  refine aN (fun hc=>?_) (fun hc=>?_)
  · have k7:x.kind=7:=by simpa using hc
    rw[if_pos (by omega)]at tO pN;refine sX aw hT h KR.refl fun jb H1 k1 h1 bb l1=>?_;rw[show bJ [.str [],.aq .nil 0 []] []=some (.agg [.str [],.aq .nil 0 []])from rfl];simp only[aa,eP];refine abe aw hT h1 (w:=w+200) (hb.mono (by omega)) _ _ rfl rfl fun H2 c2 k2 h2 g2 er es=>?_;have B2:=g2.bd (m:=w+200) (hb.mono (by omega));refine⟨trivial,?_⟩;refine(bb.aY k2).st h2 (k1.trans k2) (by decide) One.int fun H3 K3 h3 b3 _=>?_;refine b3.st h3 K3 (by decide) One.int fun H4 K4 h4 b4 _=>?_;rw[b4.all];simp only[aa];refine rU aw hT h4 (by have:=B2.A;omega) ⟨13,-1,-1,-1,-1,-1,0,0,0,x.order,0,((c.sn+1:Nat):Int),0⟩ fun H5 k5 h5=>?_;exact eu n1 (by omega) (by omega) _ _ (K4.trans k5) h5 (g2.trans (GE.add (rJ (by decide) (by decide) eo eo eo eo eo (.inr (.inr ⟨by omega,by omega⟩)) (.inr (.inl (by decide)))) (wJ (.inl (by decide)))))
  have n7:x.kind≠7:=by simpa using hc
  refine aN (fun hc=>?_) (fun hc=>?_)
  · have k8:x.kind=8:=by simpa using hc
    obtain⟨e0,j0⟩:=ma (by omega) (by omega);obtain⟨t1,t2⟩:=s1 j0;rw[if_neg (by omega)]at tO pN;rw[WI n1]at hQ;refine amR aw hT j0 (hE e0 (by rw[j0];exact List.mem_singleton.2 rfl)) FI Ww v8 v9 h hL (w:=w) (hb.mono (by omega)) fun c1 DK H1 YQ h1 g1 eL=>?_;exact hQ c1 DK H1 YQ h1 (g1.mono (by omega) (by omega)) (by rw[eL];exact hL) ⟨[],by rw[eL,List.append_nil],Nat.zero_le _⟩
  have n8:x.kind≠8:=by simpa using hc
  refine aN (fun hc=>?_) (fun hc=>?_)
  · have k9:x.kind=9:=by simpa using hc
    obtain⟨e0,j0⟩:=ma (by omega) (by omega);obtain⟨t1,t2⟩:=s1 j0;rw[if_neg (by omega)]at tO pN;rw[WI n1]at hQ;refine ap5 aw hT j0 (hE e0 (by rw[j0];exact List.mem_singleton.2 rfl)) FI v8 h hL (w:=w) (hb.mono (by omega)) fun c1 DK H1 YQ h1 g1 eL=>?_;exact hQ c1 DK H1 YQ h1 (g1.mono (by omega) (by omega)) (by rw[eL];exact hL) ⟨[],by rw[eL,List.append_nil],Nat.zero_le _⟩
  have n9:x.kind≠9:=by simpa using hc
  refine aN (fun hc=>?_) (fun hc=>?_)
  · have lU:x.kind=10:=by simpa using hc
    obtain⟨e0,j0⟩:=ma (by omega) (by omega);obtain⟨a1,a2⟩:=a0 j0;obtain⟨t1,t2⟩:=s1 j0;have wj:=uH e0;rw[if_neg (by omega)]at tO pN;refine sX aw hT h KR.refl fun jb H1 k1 h1 bb l1=>?_;simp only[a1,a2,aa];refine hE e0 (by rw[j0];exact List.mem_singleton.2 rfl) h1 hL (w:=w+16) (hb.mono (by omega)) fun r1 c2 H2 k2 h2 g2 oP=>?_;have B2:BD c2 (w+16):=g2.bd (m:=w+16) (hb.mono (by omega));simp only[eP,aa];refine(bb.aY k2).st h2 (k1.trans k2) (by decide) One.int fun H3 K3 h3 b3 _=>?_;rw[b3.all];simp only[aa];refine rU aw hT h3 (by have:=B2.A;omega) ⟨18,-1,-1,r1,-1,-1,0,0,0,0,0,0,0⟩ fun H4 k4 h4=>?_;exact eu n1 (by omega) (by omega) _ _ (K3.trans k4) h4 (g2.trans (GE.add (rJ (by decide) (by decide) eo eo oP eo eo (.inr (.inl (by decide))) (.inr (.inl (by decide)))) (wJ (.inr (by decide)))))
  · have n10:x.kind≠10:=by simpa using hc
    omega
 simp only[aG];refine aN (fun hc=>?_) (fun hc=>?_)
 ·exact k1 _ ⟨fun _=> .inl (by simpa using hc),fun _=>hc⟩
 · refine k1 _ ⟨fun e=> .inr (by simpa using e),fun e=>?_⟩;have:x.kind≠4:=by simpa using hc
   simp;omega
theorem atV(hV:xV vars):∀x:aC,x.ok→V3 C id vars x:=by refine aC.ind fun x h1 h2 hx=>?_;obtain⟨_,_,⟨l1,o1⟩,l2,o2⟩:=aC.eS hx;exact ap7 aw hT hV hx (Ta aw hT l1 fun y hy=>h1 y hy (o1 y hy)) (Ta aw hT l2 fun y hy=>h2 y hy (o2 y hy))
end
end Rb

namespace Rb
open Go
mutual
def Lw:aF→Nat
 | .mk kind n name op order place kids=>1+qL place+lG kids
def lG:List aF→Nat
 |[]=>0
 |e::r=>Lw e+lG r
def qL:aT→Nat
 | .mk var parts=>xC parts
def xC:List a_→Nat
 |[]=>0
 |p::r=>Lx p+xC r
def Lx:a_→Nat
 | .mk field index=>lG index
end
mutual
def Ly:aC→Nat
 | .mk kind line name cW order place exprs aZ bz=>1+qL place+lG exprs+ml aZ+ml bz
def ml:List aC→Nat
 |[]=>0
 |x::r=>Ly x+ml r
end
theorem at0(e:aF):Lw e=1+qL e.place+lG e.kids:=by cases e;rw[Lw]
theorem at1(x:aT):qL x=xC x.parts:=by cases x;rw[qL]
theorem at2(p:a_):Lx p=lG p.index:=by cases p;rw[Lx]
theorem at4(x:aC):Ly x=1+qL x.place+lG x.exprs+ml x.aZ+ml x.bz:=by cases x;rw[Ly]
mutual
theorem arT:∀e:aF,gK e=16*Lw e+256*rB e
 | .mk kind n name op order place kids=>by rw[gK,Lw,rB,adA place,MI kids];split<;>omega
theorem MI:∀l:List aF,gn l=16*lG l+256*il l
 |[]=>by rw[gn,lG,il]
 |e::r=>by rw[gn,lG,il,arT e,MI r];omega
theorem adA:∀x:aT,kY x=16*qL x+256*nU x
 | .mk var parts=>by rw[kY,qL,nU,abM parts]
theorem abM:∀l:List a_,l_ l=16*xC l+256*r_ l
 |[]=>by rw[l_,xC,r_]
 |e::r=>by rw[l_,xC,r_,arW e,abM r];omega
theorem arW:∀x:a_,wi x=16*Lx x+256*C6 x
 | .mk field index=>by rw[wi,Lx,C6,MI index]
end
mutual
theorem arY:∀x:aC,sv x=16*Ly x+256*AW x
 | .mk kind line name cW order place exprs aZ bz=>by rw[sv,Ly,AW,adA place,MI exprs,En aZ,En bz];split<;>omega
theorem En:∀l:List aC,dT l=16*ml l+256*gU l
 |[]=>by rw[dT,ml,gU]
 |x::r=>by rw[dT,ml,gU,arY x,En r];omega
end
def Q2(l:List aF):Nat:=(l.map fun e=>qL e.place+lG e.kids).sum
theorem abk:∀l:List aF,lG l=l.length+Q2 l
 |[]=>rfl
 |e::r=>by rw[lG,abk r,at0,List.length_cons];show _=_+(qL e.place+lG e.kids+Q2 r);omega
def Q1(l:List aC):Nat:=(l.map fun x=>qL x.place+lG x.exprs+ml x.aZ+ml x.bz).sum
theorem ac1:∀l:List aC,ml l=l.length+Q1 l
 |[]=>rfl
 |x::r=>by rw[ml,ac1 r,at4,List.length_cons];show _=_+(qL x.place+lG x.exprs+ml x.aZ+ml x.bz+Q1 r);omega
theorem CK{a b:Nat}(h:a+b≤1000000000000000):IntKind.wrap .i64 ((a:Int)+(b:Int))=((a+b:Nat):Int):=by rw[wrap_i64 (by omega) (by omega)];simp
section
variable{C:Ctx}(aw:dz C)(hT:Cl (au C) S.cH)
def C4(C:Ctx)(l:List aF):Prop:=∀(H:AH)(Q:ae),lG l≤100000000000000→Q (.int .i64 (lG l:Nat)) H→au C K.f25 [aQ aF.cells l] H Q
def Kr(C:Ctx)(l:List aC):Prop:=∀(H:AH)(Q:ae),ml l≤100000000000000→Q (.int .i64 (ml l:Nat)) H→au C K.f8 [aQ aC.cells l] H Q
include aw hT
theorem ac0{x:aT}(h:∀p∈x.parts,C4 C p.index){H:AH}{Q:ae}(hb:qL x≤100000000000000)(Lc:x.parts.length≤9223372036854775807)(hQ:Q (.int .i64 (qL x:Nat)) H):au C K.f24 [.agg x.cells] H Q:=by
 refine S.aqK hT ?_;unfold S.f24;rw[at1]at hb hQ;simp only[BP,bw];have main:∀(r:List a_)(i a:Nat),x.parts.drop i=r→a+xC r=xC x.parts→aB (S.Of (au C) (.av x.cells) Q) ([.int .i64 (a:Nat),.int .i64 i],H):=by
  intro r;induction r with
  | nil=>intro i a hd ha;have hle:=fe hd;refine aB.step ?_;simp only[S.Of,aA,cv,BE,An,cu,bF,aa,aD];rw[if_neg (by simp only[decide_eq_true_eq];omega)];rw[xC,Nat.add_zero]at ha;rw[ha];exact hQ
  | cons p r ih=>
   intro i a hd ha;obtain⟨aO,hx,bC⟩:=eX hd;rw[xC,at2]at ha;refine aB.step ?_;simp only[S.Of,aA,cv,BE,An,cu,bF,aa,aD];rw[if_pos (by simp only[decide_eq_true_eq];omega),d_ aO];simp only[aa,iB,sq];rw [show J H 1 false (.av (List.drop 1 (List.drop (i*2) (x.parts.flatMap a_.cells))))=some (aQ aF.cells p.index) by show cC _ 0 1 false=_;rw[sU a_.len,drop_cons hx,List.flatMap_cons,a_.bf];rfl]
   simp only[aa];refine h p (List.mem_of_getElem? hx) H _ (by omega) ?_;simp only[cp,aa];rw[CK (by omega),wrap_i64 (n:=(i:Int)+1) (by omega) (by omega),cN];exact ih (i+1) (a+lG p.index) bC (by omega)
 exact main x.parts 0 0 rfl (Nat.zero_add _)
theorem TY{l:List aF}(hl:l.length≤9223372036854775807)(gL:∀e∈l,e.place.parts.length≤9223372036854775807)(h:∀e∈l,C4 C e.kids∧∀p∈e.place.parts,C4 C p.index):C4 C l:=by
 intro H Q hb hQ;refine S.aqL hT ?_;unfold S.f25;simp only[cu,aa];have main:∀(r:List aF)(i a:Nat),l.drop i=r→a+Q2 r=lG l→aB (S.Og (au C) (aQ aF.cells l) Q) ([.int .i64 (a:Nat),.int .i64 i],H):=by
  intro r;induction r with
  | nil=>
   intro i a hd ha;have hle:=fe hd;refine aB.step ?_;simp only[S.Og,aA,cv,cu,bF,aa,aD];rw[if_neg (by simp only[decide_eq_true_eq];omega)];have:a=lG l:=by rw[←ha];rfl
   rw[this];exact hQ
  | cons e r ih=>
   intro i a hd ha;obtain⟨aO,hx,bC⟩:=eX hd;have ha:a+(qL e.place+lG e.kids+Q2 r)=lG l:=ha;have hm:=List.mem_of_getElem? hx;have Dh:List.drop (i*8) (l.flatMap aF.cells)=e.cells++(l.drop (i+1)).flatMap aF.cells:=by rw[sU aF.len,drop_cons hx,List.flatMap_cons]
   have l5:∀H,J H 2 true (.av (List.drop 5 (List.drop (i*8) (l.flatMap aF.cells))))=some (.agg e.place.cells):=fun H=>by rw[Dh,aF.bf,aT.bf];rfl
   have l7:∀H,J H 1 false (.av (List.drop 7 (List.drop (i*8) (l.flatMap aF.cells))))=some (aQ aF.cells e.kids):=fun H=>by rw[Dh,aF.bf,aT.bf];rfl
   refine aB.step ?_;simp only[S.Og,aA,cv,cu,bF,aa,aD];rw[if_pos (by simp only[decide_eq_true_eq];omega),d_ aO];simp only[aa,iB,sq,l5,l7];refine ac0 aw hT (h e hm).2 (by omega) (gL e hm) ?_;refine⟨trivial,?_⟩;refine(h e hm).1 H _ (by omega) ?_;simp only[cp,aa];rw[CK (by omega),CK (by omega),wrap_i64 (n:=(i:Int)+1) (by omega) (by omega),cN];exact ih (i+1) _ bC (by omega)
 exact main l 0 l.length rfl (abk l).symm
theorem atY:∀e:aF,e.ok→C4 C e.kids∧∀p∈e.place.parts,C4 C p.index:=by refine aF.ind fun e zL wH he=>?_;obtain⟨⟨sB,gW⟩,gL⟩:=aF.eS he;have jM:=aT.eS gL;refine⟨TY aw hT sB (fun k hk=>(aT.eS (aF.eS (gW k hk)).2).1) fun k hk=>zL k hk (gW k hk),fun p hp=>?_⟩;obtain⟨a,b⟩:=jM.2 p hp;exact TY aw hT a (fun k hk=>(aT.eS (aF.eS (b k hk)).2).1) fun k hk=>wH p hp k hk (b k hk)
theorem afI{l:List aF}(hl:l.length≤9223372036854775807)(ho:∀e∈l,e.ok):C4 C l:=TY aw hT hl (fun k hk=>(aT.eS (aF.eS (ho k hk)).2).1) fun k hk=>atY aw hT k (ho k hk)
theorem TZ{l:List aC}(hl:l.length≤9223372036854775807)(ho:∀x∈l,x.ok)(h:∀x∈l,Kr C x.aZ∧Kr C x.bz):Kr C l:=by
 intro H Q hb hQ;refine S.auI hT ?_;unfold S.f8;simp only[cu,aa];have main:∀(r:List aC)(i a:Nat),l.drop i=r→a+Q1 r=ml l→aB (S.Qj (au C) (aQ aC.cells l) Q) ([.int .i64 (a:Nat),.int .i64 i],H):=by
  intro r;induction r with
  | nil=>
   intro i a hd ha;have hle:=fe hd;refine aB.step ?_;simp only[S.Qj,aA,cv,cu,bF,aa,aD];rw[if_neg (by simp only[decide_eq_true_eq];omega)];have:a=ml l:=by rw[←ha];rfl
   rw[this];exact hQ
  | cons x r ih=>
   intro i a hd ha;obtain⟨aO,hx,bC⟩:=eX hd;have ha:a+(qL x.place+lG x.exprs+ml x.aZ+ml x.bz+Q1 r)=ml l:=ha;have hm:=List.mem_of_getElem? hx;obtain⟨gL,⟨fA,Dj⟩,_,_⟩:=aC.eS (ho x hm);have jM:=aT.eS gL;have Dh:List.drop (i*10) (l.flatMap aC.cells)=x.cells++(l.drop (i+1)).flatMap aC.cells:=by rw[sU aC.len,drop_cons hx,List.flatMap_cons]
   have l5:∀H,J H 2 true (.av (List.drop 5 (List.drop (i*10) (l.flatMap aC.cells))))=some (.agg x.place.cells):=fun H=>by rw[Dh,aC.bf,aT.bf];rfl
   have l7:∀H,J H 1 false (.av (List.drop 7 (List.drop (i*10) (l.flatMap aC.cells))))=some (aQ aF.cells x.exprs):=fun H=>by rw[Dh,aC.bf,aT.bf];rfl
   have l8:∀H,J H 1 false (.av (List.drop 8 (List.drop (i*10) (l.flatMap aC.cells))))=some (aQ aC.cells x.aZ):=fun H=>by rw[Dh,aC.bf,aT.bf];rfl
   have l9:∀H,J H 1 false (.av (List.drop 9 (List.drop (i*10) (l.flatMap aC.cells))))=some (aQ aC.cells x.bz):=fun H=>by rw[Dh,aC.bf,aT.bf];rfl
   refine aB.step ?_;simp only[S.Qj,aA,cv,cu,bF,aa,aD];rw[if_pos (by simp only[decide_eq_true_eq];omega),d_ aO];simp only[aa,iB,sq,l5,l7,l8,l9];refine ac0 aw hT (fun p hp=>afI aw hT (jM.2 p hp).1 (jM.2 p hp).2) (by omega) jM.1 ?_;refine⟨trivial,trivial,trivial,?_⟩;refine afI aw hT fA Dj H _ (by omega) ?_;refine⟨trivial,trivial,?_⟩;simp only[cp,aa];rw[CK (by omega)];refine(h x hm).1 H _ (by omega) ?_;refine⟨trivial,?_⟩;simp only[cp,aa];rw[CK (by omega)];refine(h x hm).2 H _ (by omega) ?_;simp only[cp,aa];rw[CK (by omega),CK (by omega),wrap_i64 (n:=(i:Int)+1) (by omega) (by omega),cN];exact ih (i+1) _ bC (by omega)
 exact main l 0 l.length rfl (ac1 l).symm
theorem atZ:∀x:aC,x.ok→Kr C x.aZ∧Kr C x.bz:=by refine aC.ind fun x h1 h2 hx=>?_;obtain⟨_,_,⟨l1,o1⟩,l2,o2⟩:=aC.eS hx;exact⟨TZ aw hT l1 o1 fun y hy=>h1 y hy (o1 y hy),TZ aw hT l2 o2 fun y hy=>h2 y hy (o2 y hy)⟩
end
end Rb

namespace Rb
open Go
def lK(H H':AH):Prop:=H.n≤H'.n∧∀i cs,At H i (.row cs)→At H' i (.row cs)
theorem lK.refl(H:AH):lK H H:=⟨Nat.le_refl _,fun _ _ h=>h⟩
theorem lK.trans{a b c:AH}(h:lK a b)(k:lK b c):lK a c:=⟨Nat.le_trans h.1 k.1,fun i cs hi=>k.2 i cs (h.2 i cs hi)⟩
theorem lK.push(H:AH)(o:dc):lK H (H.push o):=⟨Nat.le_succ _,fun _ _ h=>h.push _⟩
theorem Left.lf{H H':AH}(h:Left 0 H H'):lK H H':=⟨h.1,fun i cs hi=>h.row hi⟩
theorem abH{H:AH}{x:AV}{n:Nat}{cells:List AV}(h:cU 0 H 5 x n cells)(hn:n≤1000000000000)(a b d:Int)(y:aT){K:ae}(hK:∀x' H' Ag,lK H H'→cU 0 H' 5 x' (n+1) Ag→K x' H') :
  Do (bJ [.int .i64 0,.int .i64 0,.int .i64 0,.str [],.aq .nil 0 []] [(0,1,.int .i64 a),(1,1,.int .i64 b),(2,1,.int .i64 d),(3,2,.agg y.cells)]) fun z=>aJ (fb H false 5 1 [.int .i64 0,.int .i64 0,.int .i64 0,.str [],.aq .nil 0 []] [(0,5,z)]) fun z2 H2=>aJ (eF H2 false 5 64 x z2) K:=by
 rw[aT.bf];rw[show bJ [.int .i64 0,.int .i64 0,.int .i64 0,.str [],.aq .nil 0 []] [(0,1,.int .i64 a),(1,1,.int .i64 b),(2,1,.int .i64 d),(3,2,.agg [.str y.var,aQ a_.cells y.parts])]=some (.agg [.int .i64 a,.int .i64 b,.int .i64 d,.str y.var,aQ a_.cells y.parts])from rfl,aa];rw[show fb H false 5 1 [.int .i64 0,.int .i64 0,.int .i64 0,.str [],.aq .nil 0 []] [(0,5,.agg [.int .i64 a,.int .i64 b,.int .i64 d,.str y.var,aQ a_.cells y.parts])]=some (.aq .full 1 [.int .i64 a,.int .i64 b,.int .i64 d,.str y.var,aQ a_.cells y.parts],H)from rfl,bw];exact h.app (Nat.zero_le _) (m:=1) rfl rfl rfl (by decide) (by omega) (by omega) fun x' H' h' lf=>hK x' H' _ lf.lf h'
section
variable{C:Ctx}(aw:dz C)(hT:Cl (au C) S.cH)
def Cm(C:Ctx)(l:List aF):Prop:=∀{H:AH}{Q:ae}{x:AV}{n:Nat}{cells:List AV}{line:Int},cU 0 H 5 x n cells→n+il l≤1000000000000→(∀H' x' Ag,lK H H'→cU 0 H' 5 x' (n+il l) Ag→Q x' H')→au C K.f23 [aQ aF.cells l,.int .i64 line,x] H Q
def Jk(C:Ctx)(l:List aC):Prop:=∀{H:AH}{Q:ae}{x:AV}{n:Nat}{cells:List AV},cU 0 H 5 x n cells→n+gU l≤1000000000000→(∀H' x' Ag,lK H H'→cU 0 H' 5 x' (n+gU l) Ag→Q x' H')→au C K.f7 [aQ aC.cells l,x] H Q
include aw hT
theorem abF{y:aT}(hyl:y.parts.length≤9223372036854775807)(h:∀p∈y.parts,Cm C p.index){H:AH}{Q:ae}{x:AV}{n:Nat}{cells:List AV}{line:Int}(hx:cU 0 H 5 x n cells)(hb:n+nU y≤1000000000000)(hQ:∀H' x' Ag,lK H H'→cU 0 H' 5 x' (n+nU y) Ag→Q x' H'):au C K.f22 [.agg y.cells,.int .i64 line,x] H Q:=by
 refine S.aqI hT ?_;unfold S.f22;rw[adp]at hb hQ;simp only[BP,bw];have main:∀(r:List a_)(i m:Nat)(H2:AH)(x2:AV)(rS:List AV),y.parts.drop i=r→lK H H2→cU 0 H2 5 x2 m rS→m+r_ r=n+r_ y.parts→aB (S.Oc (au C) (.int .i64 line) (.av y.cells) Q) ([x2,.int .i64 i],H2):=by
  intro r;induction r with
  | nil=>intro i m H2 x2 rS hd lf h2 ha;have hle:=fe hd;refine aB.step ?_;simp only[S.Oc,aA,cv,BE,An,cu,bF,aa,aD];rw[if_neg (by simp only[decide_eq_true_eq];omega)];rw[r_,Nat.add_zero]at ha;exact hQ H2 x2 rS lf (by rw[←ha];exact h2)
  | cons p r ih=>
   intro i m H2 x2 rS hd lf h2 ha;obtain⟨aO,hx,bC⟩:=eX hd;rw[r_,Uj]at ha;refine aB.step ?_;simp only[S.Oc,aA,cv,BE,An,cu,bF,aa,aD];rw[if_pos (by simp only[decide_eq_true_eq];omega),d_ aO];simp only[aa,iB,sq];rw [show J H2 1 false (.av (List.drop 1 (List.drop (i*2) (y.parts.flatMap a_.cells))))=some (aQ aF.cells p.index) by show cC _ 0 1 false=_;rw[sU a_.len,drop_cons hx,List.flatMap_cons,a_.bf];rfl]
   simp only[aa];refine h p (List.mem_of_getElem? hx) h2 (by omega) fun H3 x3 aqx DE h3=>?_;simp only[cp,aa];rw[wrap_i64 (n:=(i:Int)+1) (by omega) (by omega),cN];exact ih (i+1) _ H3 x3 aqx bC (lf.trans DE) h3 (by omega)
 exact main y.parts 0 n H x cells rfl (lK.refl _) hx rfl
theorem Tk{l:List aF}(hl:l.length≤9223372036854775807)(gL:∀e∈l,e.place.parts.length≤9223372036854775807)(h:∀e∈l,Cm C e.kids∧∀p∈e.place.parts,Cm C p.index):Cm C l:=by
 intro H Q x n cells line hx hb hQ;refine S.aqJ hT ?_;unfold S.f23;have main:∀(r:List aF)(i m:Nat)(H2:AH)(x2:AV)(rS:List AV),l.drop i=r→lK H H2→cU 0 H2 5 x2 m rS→m+il r=n+il l→aB (S.Oe (au C) (aQ aF.cells l) (.int .i64 line) Q) ([x2,.int .i64 i],H2):=by
  intro r;induction r with
  | nil=>intro i m H2 x2 rS hd lf h2 ha;have hle:=fe hd;refine aB.step ?_;simp only[S.Oe,aA,cv,cu,bF,aa,aD];rw[if_neg (by simp only[decide_eq_true_eq];omega)];rw[il,Nat.add_zero]at ha;exact hQ H2 x2 rS lf (by rw[←ha];exact h2)
  | cons e r ih=>
   intro i m H2 x2 rS hd lf h2 ha;obtain⟨aO,hx,bC⟩:=eX hd;have hm:=List.mem_of_getElem? hx;rw[il,ado]at ha;refine aB.step ?_;simp only[S.Oe,aA,cv,cu,bF,aa,aD];rw[if_pos (by simp only[decide_eq_true_eq];omega),d_ aO];simp only[aa];rw[gO aF.len (by decide) _ hx];simp only[aa,be,if_true,bw];rw[fC _ _ _ 8 e.len (aF.scalar e) rfl];have r3:=At.new H2 (.row e.cells);have h3:=h2.frame (H':=H2.push (.row e.cells)) (fun t _ _ h=>h.push _);have DE:=lf.trans (lK.push H2 (.row e.cells));simp only[aa];generalize H2.push (.row e.cells)=H3 at *;have l0:∀{H:AH},At H H2.n (.row e.cells)→J H 1 false (.ptr H2.n 0)=some (.int .i64 e.kind):=fun h=>by rw[h.load,aF.bf,aT.bf];rfl
   have l4:∀{H:AH},At H H2.n (.row e.cells)→J H 1 false (.ptr H2.n 4)=some (.int .i64 e.order):=fun h=>by rw[h.load,aF.bf,aT.bf];rfl
   have l5:∀{H:AH},At H H2.n (.row e.cells)→J H 2 true (.ptr H2.n 5)=some (.agg e.place.cells):=fun h=>by rw[h.load,aF.bf,aT.bf];rfl
   have l7:∀{H:AH},At H H2.n (.row e.cells)→J H 1 false (.ptr H2.n 7)=some (aQ aF.cells e.kids):=fun h=>by rw[h.load,aF.bf,aT.bf];rfl
   simp only[eP,aa,l5 r3];refine abF aw hT (gL e hm) (h e hm).2 h3 (by omega) fun H4 x4 aqy Ls h4=>?_;have r4:=Ls.2 _ _ r3;simp only[eP,aa,l7 r4];refine(h e hm).1 h4 (by omega) fun H5 x5 Ul Lt h5=>?_;have r5:=Lt.2 _ _ r4;simp only[eP,aa,l0 r5,l4 r5,l5 r5,kG,aD,cp];have LF:=(DE.trans Ls).trans Lt;refine aN (fun hk=>?_) (fun hk=>?_)
   · have fW:e.kind≥4:=by simpa using hk
     rw[if_pos fW]at ha;refine abH h5 (by omega) _ _ _ _ fun x6 H6 Ek GK h6=>?_;simp only[aG,S.Od,aA,cv,cp,aa];rw[wrap_i64 (n:=(i:Int)+1) (by omega) (by omega),cN];exact ih (i+1) _ H6 x6 Ek bC (LF.trans GK) h6 (by omega)
   · have fW:¬e.kind≥4:=by simpa using hk
     rw[if_neg fW]at ha;simp only[aG,S.Od,aA,cv,cp,aa];rw[wrap_i64 (n:=(i:Int)+1) (by omega) (by omega),cN];exact ih (i+1) _ H5 x5 Ul bC LF h5 (by omega)
 exact main l 0 n H x cells rfl (lK.refl _) hx rfl
theorem aqt:∀e:aF,e.ok→Cm C e.kids∧∀p∈e.place.parts,Cm C p.index:=by refine aF.ind fun e zL wH he=>?_;obtain⟨⟨sB,gW⟩,gL⟩:=aF.eS he;have jM:=aT.eS gL;refine⟨Tk aw hT sB (fun k hk=>(aT.eS (aF.eS (gW k hk)).2).1) fun k hk=>zL k hk (gW k hk),fun p hp=>?_⟩;obtain⟨a,b⟩:=jM.2 p hp;exact Tk aw hT a (fun k hk=>(aT.eS (aF.eS (b k hk)).2).1) fun k hk=>wH p hp k hk (b k hk)
theorem adn{l:List aF}(hl:l.length≤9223372036854775807)(ho:∀e∈l,e.ok):Cm C l:=Tk aw hT hl (fun k hk=>(aT.eS (aF.eS (ho k hk)).2).1) fun k hk=>aqt aw hT k (ho k hk)
theorem V4{l:List aC}(hl:l.length≤9223372036854775807)(ho:∀x∈l,x.ok)(h:∀x∈l,Jk C x.aZ∧Jk C x.bz):Jk C l:=by
 intro H Q x n cells hx hb hQ;refine S.auH hT ?_;unfold S.f7;have main:∀(r:List aC)(i m:Nat)(H2:AH)(x2:AV)(rS:List AV),l.drop i=r→lK H H2→cU 0 H2 5 x2 m rS→m+gU r=n+gU l→aB (S.Fa (au C) (aQ aC.cells l) Q) ([x2,.int .i64 i],H2):=by
  intro r;induction r with
  | nil=>intro i m H2 x2 rS hd lf h2 ha;have hle:=fe hd;refine aB.step ?_;simp only[S.Fa,aA,cv,cu,bF,aa,aD];rw[if_neg (by simp only[decide_eq_true_eq];omega)];rw[gU,Nat.add_zero]at ha;exact hQ H2 x2 rS lf (by rw[←ha];exact h2)
  | cons e r ih=>
   intro i m H2 x2 rS hd lf h2 ha;obtain⟨aO,hx,bC⟩:=eX hd;have hm:=List.mem_of_getElem? hx;obtain⟨gL,⟨fA,Dj⟩,_,_⟩:=aC.eS (ho e hm);have jM:=aT.eS gL;rw[gU,adq]at ha;refine aB.step ?_;simp only[S.Fa,aA,cv,cu,bF,aa,aD];rw[if_pos (by simp only[decide_eq_true_eq];omega),d_ aO];simp only[aa];rw[gO aC.len (by decide) _ hx];simp only[aa,be,if_true,bw];rw[fC _ _ _ 10 e.len (aC.scalar e) rfl];have r3:=At.new H2 (.row e.cells);have h3:=h2.frame (H':=H2.push (.row e.cells)) (fun t _ _ h=>h.push _);have DE:=lf.trans (lK.push H2 (.row e.cells));simp only[aa];generalize H2.push (.row e.cells)=H3 at *;have l0:∀{H:AH},At H H2.n (.row e.cells)→J H 1 false (.ptr H2.n 0)=some (.int .i64 e.kind):=fun h=>by rw[h.load,aC.bf,aT.bf];rfl
   have l1:∀{H:AH},At H H2.n (.row e.cells)→J H 1 false (.ptr H2.n 1)=some (.int .i64 e.line):=fun h=>by rw[h.load,aC.bf,aT.bf];rfl
   have l4:∀{H:AH},At H H2.n (.row e.cells)→J H 1 false (.ptr H2.n 4)=some (.int .i64 e.order):=fun h=>by rw[h.load,aC.bf,aT.bf];rfl
   have l5:∀{H:AH},At H H2.n (.row e.cells)→J H 2 true (.ptr H2.n 5)=some (.agg e.place.cells):=fun h=>by rw[h.load,aC.bf,aT.bf];rfl
   have l7:∀{H:AH},At H H2.n (.row e.cells)→J H 1 false (.ptr H2.n 7)=some (aQ aF.cells e.exprs):=fun h=>by rw[h.load,aC.bf,aT.bf];rfl
   have l8:∀{H:AH},At H H2.n (.row e.cells)→J H 1 false (.ptr H2.n 8)=some (aQ aC.cells e.aZ):=fun h=>by rw[h.load,aC.bf,aT.bf];rfl
   have l9:∀{H:AH},At H H2.n (.row e.cells)→J H 1 false (.ptr H2.n 9)=some (aQ aC.cells e.bz):=fun h=>by rw[h.load,aC.bf,aT.bf];rfl
   simp only[eP,aa,l5 r3,l1 r3];refine abF aw hT jM.1 (fun p hp=>adn aw hT (jM.2 p hp).1 (jM.2 p hp).2) h3 (by omega) fun H4 x4 aqy Ls h4=>?_;have r4:=Ls.2 _ _ r3;simp only[eP,aa,l7 r4,l1 r4];refine adn aw hT fA Dj h4 (by omega) fun H5 x5 Ul Lt h5=>?_;have r5:=Lt.2 _ _ r4;have LF:=(DE.trans Ls).trans Lt;have k2:∀(m':Nat)(H6:AH)(x6:AV)(Ek:List AV),lK H H6→At H6 H2.n (.row e.cells)→cU 0 H6 5 x6 m' Ek→m'+(gU e.aZ+gU e.bz)+gU r=n+gU l→S.Qh (au C) (.ptr H2.n 0) ([x2,.int .i64 i],H2) (aB (S.Fa (au C) (aQ aC.cells l) Q)) Q [x6] H6:=by intro m' H6 x6 Ek GK r6 h6 ha6;unfold S.Qh;simp only[eP,aa,l8 r6,aA];refine(h e hm).1 h6 (by omega) fun H7 x7 aCo lf7 h7=>?_;have r7:=lf7.2 _ _ r6;simp only[eP,aa,l9 r7];refine(h e hm).2 h7 (by omega) fun H8 x8 aqz lf8 h8=>?_;simp only[aG,S.agf,aA,cv,cp,aa];rw[wrap_i64 (n:=(i:Int)+1) (by omega) (by omega),cN];exact ih (i+1) _ H8 x8 aqz bC ((GK.trans lf7).trans lf8) h8 (by omega)
   have k3:∀b:Bool,(b=true↔3≤e.kind∧e.kind≤7)→S.Qi (au C) (.ptr H2.n 0) x5 ([x2,.int .i64 i],H2) (aB (S.Fa (au C) (aQ aC.cells l) Q)) Q [.bool b] H5:=by
    intro b hb;unfold S.Qi;simp only[aA,aD,eP,aa,l0 r5,l4 r5,l1 r5,l5 r5,aG];refine aN (fun hk=>?_) (fun hk=>?_)
    · rw[if_pos (hb.1 hk)]at ha;exact abH h5 (by omega) _ _ _ _ fun x6 H6 Ek GK h6=>k2 _ H6 x6 Ek (LF.trans GK) (GK.2 _ _ r5) h6 (by omega)
    · rw[if_neg (fun e=>hk (hb.2 e))]at ha;exact k2 _ H5 x5 Ul LF r5 h5 (by omega)
   simp only[eP,aa,l0 r5,kG,mL,ck,aG];refine aN (fun XY=>?_) (fun XY=>?_)
   · have zx:3≤e.kind:=by simpa using XY
     exact k3 _ ⟨fun e=>⟨zx,by simpa using e⟩,fun e=>by simpa using e.2⟩
   · have zx:¬3≤e.kind:=by simpa using XY
     exact k3 false ⟨fun e=>(by cases e),fun e=>absurd e.1 zx⟩
 exact main l 0 n H x cells rfl (lK.refl _) hx rfl
theorem aqu:∀x:aC,x.ok→Jk C x.aZ∧Jk C x.bz:=by refine aC.ind fun x h1 h2 hx=>?_;obtain⟨_,_,⟨l1,o1⟩,l2,o2⟩:=aC.eS hx;exact⟨V4 aw hT l1 o1 fun y hy=>h1 y hy (o1 y hy),V4 aw hT l2 o2 fun y hy=>h2 y hy (o2 y hy)⟩
end
end Rb

namespace Rb
open Go
def Da:LD:=⟨[],0,0,0,[],0,[]⟩
structure ThG(t:List aC)(A:List dr)(bK:Nat):Prop where
 len:A.length≤dT t
 op:∃sn,sn≤gU t∧∀o∈A,pJ bK sn o
 rI:∃l,lJ 0 l A
 rb:bK≤dT t
section
variable{C:Ctx}(aw:dz C)(hT:Cl (au C) S.cH)(pV:∀x,cG (au C) K.f42 [.str x] (.bool (bP x)))
include aw hT pV
theorem amj{p : jT}(hp : p.ok)(hz : ∀ t ∈ p.threads, dT t ≤ 100000000000){n:Int}{H:AH}{Q:ae}
  (Wu:(jk bP p).2≠0→∀H',Q (.aM [.aq .nil 0 [],.int .i64 0,.agg [.int .i64 (jk bP p).1,.int .i64 (jk bP p).2]]) H')
  (awM:(jk bP p).2=0→(n<0∨(p.threads.length:Int)≤n)→∀H',Q (.aM [.aq .nil 0 [],.int .i64 0,.agg [.int .i64 0,.int .i64 1]]) H')
  (kv:(jk bP p).2=0→∀k t,n=(k:Nat)→p.threads[k]?=some t→16384<dT t→∀H',Q (.aM [.aq .nil 0 [],.int .i64 0,.agg [.int .i64 0,.int .i64 12]]) H')
  (I7:(jk bP p).2=0→∀k t,n=(k:Nat)→p.threads[k]?=some t→∀tk A bK H',ThG t A bK→A.length≤16384→Q (.aM [.aq tk A.length (A.flatMap dr.cells),.int .i64 (bK:Nat),.agg [.int .i64 0,.int .i64 0]]) H') :
  au C K.f4 [.agg p.cells,.int .i64 n] H Q:=by
 have j_:=hp;obtain⟨⟨rF,hv⟩,qI,RH⟩:=hp;have hm:=Al;refine S.auF hT ?_;unfold S.f4;have Cw:bB H false 2 (.agg p.cells)=some (.av p.cells,H):=by unfold bB;rw[if_pos ⟨rfl,rfl⟩];rfl
 have vc:∀H,J H 1 false (.av (p.cells.drop 0))=some (aQ aK.cells p.vars):=fun _=>rfl;have rK:∀H,J H 1 false (.av (p.cells.drop 1))=some (aQ oW p.threads):=fun _=>rfl;have WV:∀H,J H 2 true (.av p.cells)=some (.agg p.cells):=fun _=>rfl;simp only[Cw,bw,be,if_true,sq,aa,WV];have r3:=At.new H (.row [.int .i64 0,.int .i64 0]);generalize hH3:H.push (.row [.int .i64 0,.int .i64 0])=H3 at *;refine an7 aw hT pV p j_ _ _ ?_;unfold Qt;rw[fC _ _ _ 2 rfl rfl rfl];have r8:=At.new H3 (.row [.int .i64 (jk bP p).1,.int .i64 (jk bP p).2]);have RX:=r3.push (.row [.int .i64 (jk bP p).1,.int .i64 (jk bP p).2]);simp only[aa,eP];generalize H3.push (.row [.int .i64 (jk bP p).1,.int .i64 (jk bP p).2])=H4 at *;have l1:J H4 1 false (.ptr H3.n 1)=some (.int .i64 (jk bP p).2):=by rw[r8.load];rfl
 simp only[l1,aa,eK,aD];have ret:∀(H5:AH)(a b:Int)(x r:AV),At H5 H.n (.row [.int .i64 0,.int .i64 0])→(∀H',Q (.aM [x,r,.agg [.int .i64 a,.int .i64 b]]) H')→Do (aH H5 2 (.ptr H.n 0) (.agg [.int .i64 a,.int .i64 b])) fun H6=>Do (J H6 2 true (.ptr H.n 0)) fun y=>Q (.aM [x,r,y]) H6:=fun H5 a b x r h5 hq=>by rw[h5.put (n:=2) rfl rfl rfl];simp only[aa];rw[(h5.set _).all (n:=2) rfl];simp only[aa];exact hq _
 refine aN (fun e=>?_) (fun e=>?_)
 · rw[r8.all (n:=2) rfl];simp only[aa];exact ret H4 _ _ _ _ RX (Wu (by simpa using e))
 have h0:(jk bP p).2=0:=by simpa using e
 have awq:bJ [.int .i64 0,.int .i64 0] [(1,1,.int .i64 1)]=some (.agg [.int .i64 0,.int .i64 1]):=rfl;have Cu:bJ [.int .i64 0,.int .i64 0] [(1,1,.int .i64 12)]=some (.agg [.int .i64 0,.int .i64 12]):=rfl;have aok:bJ [.int .i64 0,.int .i64 0] []=some (.agg [.int .i64 0,.int .i64 0]):=rfl;have y5:∀k t,n=(k:Nat)→p.threads[k]?=some t→S.Vt (au C) (.int .i64 n) (.av p.cells) (.ptr H.n 0) Q [] H4:=by
  rintro k t rfl ht;obtain⟨hV,hvb⟩:=an8 j_ h0;obtain⟨hlen,aX⟩:=RH t (List.mem_of_getElem? ht);have aO:=(List.getElem?_eq_some_iff.1 ht).1;have Yy:=hz t (List.mem_of_getElem? ht);unfold S.Vt;simp only[sq,vc,rK,aa];have pY:=hV.l;refine aoo aw hT (by omega) hv _ _ ?_;have hmr:=atX hV.z hV.e;unfold y8;rw[hmr];rw[if_neg (by show ¬(0:Int)≠0;decide)];simp only[db,List.getElem?_cons_zero,List.getElem?_cons_succ,aa];rw[show bJ [.aq .nil 0 [],.aq .nil 0 [],.aq .nil 0 [],.int .i64 0,.int .i64 0,.aq .nil 0 [],.int .i64 0,.aq .nil 0 []] [(0,1,aQ aK.cells p.vars),(1,1,.aq .dead p.vars.length (nh p.vars (rL 0 p.vars)))]=some (.agg (tn p.vars (gw p.vars) (.aq .nil 0 []) (.aq .nil 0 []) (.aq .nil 0 []) Da))from rfl];simp only[aa];have KM:bB H4 true 8 (.agg (tn p.vars (gw p.vars) (.aq .nil 0 []) (.aq .nil 0 []) (.aq .nil 0 []) Da))=some (.ptr H4.n 0,H4.push (.row (tn p.vars (gw p.vars) (.aq .nil 0 []) (.aq .nil 0 []) (.aq .nil 0 []) Da))):=rfl;rw[KM];simp only[bw];have rm:=At.new H4 (.row (tn p.vars (gw p.vars) (.aq .nil 0 []) (.aq .nil 0 []) (.aq .nil 0 []) Da));have r35:=RX.push (.row (tn p.vars (gw p.vars) (.aq .nil 0 []) (.aq .nil 0 []) (.aq .nil 0 []) Da));have gC:H.n<H4.n:=RX.1;generalize H4.push (.row (tn p.vars (gw p.vars) (.aq .nil 0 []) (.aq .nil 0 []) (.aq .nil 0 []) Da))=H5 at *;have h5:cz H5 H4.n p.vars (gw p.vars) (.aq .nil 0 []) Da:=⟨⟨_,_,rm,cU.nil _ _ _,cU.nil _ _ _,fun t l c1 e=>(by cases e)⟩,fG.nil _ _,fun j hj=>(by cases hj),fun q hq=>(by cases hq)⟩
  rw[d_ aO];simp only[aa];have uY:J H5 1 false (iB oW 1 p.threads k)=some (aQ aC.cells t):=HA (c:=fun l=>aQ aC.cells l) H5 ht;rw[uY];simp only[aa];refine Ta aw hT (id:=H4.n) (vars:=p.vars) (l:=t) (by omega) (fun x hx=>atV aw hT hV x (aX x hx)) (w:=0) (hvb t (List.mem_of_getElem? ht)) h5 rfl ⟨by show 0+_≤_;omega,by show 0+_≤_;omega,by show 0+_≤_;omega,by show 0+_≤_;omega,by show 0+_≤_;omega⟩ fun c' R4 H6 kb h6 gs eL=>?_;obtain⟨nw,g,rI⟩:=gs.gr;obtain⟨xo,xs,a6,ho,_⟩:=h6.x;have r36:=kb.2 _ _ gC r35;have l2:J H6 1 false (.ptr H4.n 2)=some xo:=by rw[a6.load];rfl
  have l3:J H6 1 false (.ptr H4.n 3)=some (.int .i64 (c'.bK:Nat)):=h6.LA;have hA:c'.A=nw:=by rw[g.A];rfl
  have eQ:=ho.one.2;obtain⟨tk,hxo,_⟩:=ho;simp only[bR,eP,aa,l2,l3,eQ,eY,aD,aok,Cu];have jZ:c'.A.length≤dT t:=by rw[hA];exact g.len
  refine aN (fun e=>?_) (fun e=>?_)
  · have e':16384<c'.A.length:=by
      have:(c'.A.length:Int)>16384:=by simpa using e
      omega
    exact ret H6 _ _ _ _ r36 (kv h0 k t rfl ht (by omega))
  · have e':c'.A.length≤16384:=by
      have:¬(c'.A.length:Int)>16384:=by simpa using e
      omega
    rw[hxo];have s1:=g.s1;have r1:=g.r1;exact ret H6 _ _ _ _ r36 fun H'=>I7 h0 k t rfl ht tk c'.A c'.bK H' ⟨jZ,⟨c'.sn,by show c'.sn≤_;have:c'.sn≤0+gU t:=s1;omega,by rw[hA];exact g.op⟩,⟨c'.labels,by rw[hA];exact rI⟩,by have:c'.bK≤0+dT t:=r1;omega⟩ e'
 have k2:∀b:Bool,(b=true↔n<0∨(p.threads.length:Int)≤n)→S.Qe (au C) (.int .i64 n) (.av p.cells) (.ptr H.n 0) Q [.bool b] H4:=by
  intro b hb;unfold S.Qe;simp only[aA,aD,awq,aa,aG];refine aN (fun e=>?_) (fun e=>?_)
  ·exact ret H4 _ _ _ _ RX (awM h0 (hb.1 e))
  · have hn:¬(n<0∨(p.threads.length:Int)≤n):=fun q=>e (hb.2 q);obtain⟨k,rfl⟩:∃k:Nat,n=k:=⟨n.toNat,by omega⟩
    exact y5 k _ rfl (List.getElem?_eq_getElem (show k<p.threads.length by omega))
 simp only[bF,aa,cj,sq,rK,cu,kG,aG];refine gG (fun e=>?_) (fun e=>?_)
 · have e':¬n<0:=by simpa using e
   exact k2 _ ⟨fun q => .inr (by simpa using q), fun q => by rcases q with q|q
                                                             ·exact absurd q e'
                                                             ·simpa using q⟩
 ·exact k2 true ⟨fun _=> .inl (by simpa using e),fun _=>rfl⟩
variable(Dg:cG (au C) K.f6 [] (.bool true))
include Dg
theorem aue{a:Int}{R:Nat}(h:fO R a){H:AH}{Q:ae}(hQ:Q (.bool true) H):au C K.f9 [.int .i64 a,.int .i64 (R:Nat)] H Q:=by refine S.auJ hT ?_;unfold S.f9;simp only[kG,bF,aa,ck];rw[if_pos (by simpa using h.1),show decide (a<(R:Int))=true by simpa using h.2];exact hQ
end
end Rb

namespace Rb
open Go
theorem agy{tk:Tok}{l:List dr}{i:Nat}{o:dr}(h:l[i]?=some o):∃cs,bj none 13 (.aq tk l.length (l.flatMap dr.cells)) (.int .i64 i)=some (.av cs)∧(∀H,J H 13 true (.av cs)=some (.agg o.cells))∧(∀H,J H 1 false (.av (cs.drop 0))=some (.int .i64 o.kind))∧(∀H,J H 1 false (.av (cs.drop 10))=some (.int .i64 o.fB)):=by
 refine⟨_,d_ (cells:=dr.cells) (sz:=13) (List.getElem?_eq_some_iff.1 h).1,fun H=>gO (cells:=dr.cells) dr.len (by decide) H h,fun H=>?_,fun H=>?_⟩
 ·rw[sU dr.len,drop_cons h,List.flatMap_cons];rfl
 ·rw[sU dr.len,drop_cons h,List.flatMap_cons];rfl
theorem ag4(a b c d:Int):vo false [.n,.n] (.agg [.int .i64 a,.int .i64 b]) (.agg [.int .i64 c,.int .i64 d])=some (.bool ((a==c)&&(b==d))):=by simp[vo,gP]
theorem V8{H:AH}{P:AV→AH→Prop}{zs cs:List AV}{N:Nat}(hz:zs.length=N)(hc:cs.length=N)(hs:cs.all AV.scalar=true)(hP:∀H',At H' H.n (.row cs)→lK H H'→P (.ptr H.n 0) H'):aJ (some (be H true zs)) fun x H1=>Do (aH H1 N x (.agg cs)) fun H2=>P x H2:=by simp only[be,if_true,bw];rw[fC _ _ _ N hc hs hz];simp only[aa];exact hP _ (At.new H _) (lK.push H _)
section
variable{C:Ctx}(aw:dz C)(hT:Cl (au C) S.cH)(pV:∀x,cG (au C) K.f42 [.str x] (.bool (bP x)))(Dg:cG (au C) K.f6 [] (.bool true))
include aw hT pV Dg
set_option maxRecDepth 100000 in
theorem ajG{p:jT}(hp:p.ok)(hz:∀t∈p.threads,dT t≤100000000000){n:Int}{H:AH}{Q:ae}(hQ:∀H',Q (.bool true) H'):au C K.f3 [.agg p.cells,.int .i64 n] H Q:=by
 have j_:=hp;obtain⟨⟨rF,hv⟩,qI,RH⟩:=hp;have hm:=Al;refine S.auE hT ?_;unfold S.f3;have Cw:bB H false 2 (.agg p.cells)=some (.av p.cells,H):=by unfold bB;rw[if_pos ⟨rfl,rfl⟩];rfl
 have rK:∀H,J H 1 false (.av (p.cells.drop 1))=some (aQ oW p.threads):=fun _=>rfl;have WV:∀H,J H 2 true (.av p.cells)=some (.agg p.cells):=fun _=>rfl;simp only[Cw,bw,aa,WV];have Rd:br false (.aq .nil 0 [])=some (.int .i64 0):=rfl;have afX:∀(H2:AH)(i9 zJ:Nat)(w1 w2:Int),At H2 i9 (.row [.int .i64 w1,.int .i64 w2])→At H2 zJ (.row [.int .i64 w1,.int .i64 w2])→w2≠0→S.Ey (au C) (.int .i64 n) (.av p.cells) (.aq .nil 0 []) (.int .i64 0) (.ptr i9 0) (.ptr zJ 0) Q [] H2:=by
  intro H2 i9 zJ w1 w2 r9 wL hw;unfold S.Ey;have l1:J H2 1 false (.ptr zJ 1)=some (.int .i64 w2):=by rw[wL.load];rfl
  simp only[eP,aa,l1,eK,aD];rw[if_pos (by simpa using hw)];refine Dg _ _ ?_;simp only[ck,if_true];rw[r9.all (n:=2) rfl,wL.all (n:=2) rfl];simp only[aa,ag4,aG,S.Vp,aA,ck,Rd,cn,S.Vo];simp only[BEq.rfl,Bool.and_self,if_true];exact hQ H2
 have key:∀(k:Nat)(t:List aC),p.threads[k]?=some t→(jk bP p).2=0→n=(k:Nat)→∀(x6 x7:AV)(fl fk:Int)(H2:AH)(i9 zJ:Nat),At H2 i9 (.row [.int .i64 fl,.int .i64 fk])→At H2 zJ (.row [.int .i64 (jk bP p).1,.int .i64 (jk bP p).2]) →
   (∀ H3,At H3 i9 (.row [.int .i64 fl,.int .i64 fk])→(if(fk != 0)=true then au C K.f6 [] H3 fun ia mV=>aL ia true (Do (J mV 2 true (.ptr i9 0)) fun gF=>Do (bJ [.int .i64 0,.int .i64 0] [(1,1,(.int .i64 12))]) fun iV=>Do (vo false [.n,.n] gF iV) fun iv=>ak (S.I1 (au C) (.int .i64 n) (.av p.cells) x6 (.int .i64 (gU t:Nat)) Q) [iv] mV) (ak (S.I1 (au C) (.int .i64 n) (.av p.cells) x6 (.int .i64 (gU t:Nat)) Q) [.bool false] mV) False
     else Do (br false x6) fun kF=>Do (ai .gtr kF (.int .i64 16384)) fun m6=>Gd m6 true (Q (.bool false) H3) (aB (S.BV (au C) x6 x7 (.int .i64 (gU t:Nat)) Q) ([.int .i64 0],H3))))→S.Ey (au C) (.int .i64 n) (.av p.cells) x6 x7 (.ptr i9 0) (.ptr zJ 0) Q [] H2:=by
  intro k t ht h0 hn x6 x7 fl fk H2 i9 zJ r9 wL hk;have aO:=(List.getElem?_eq_some_iff.1 ht).1;obtain⟨hlen,aX⟩:=RH t (List.mem_of_getElem? ht);have Yy:=hz t (List.mem_of_getElem? ht);have Ym:=En t;unfold S.Ey;have l1:J H2 1 false (.ptr zJ 1)=some (.int .i64 (jk bP p).2):=by rw[wL.load];rfl
  simp only[eP,aa,l1,eK,aD,sq,rK];rw[if_neg (by simpa using h0)];subst hn;rw[d_ aO];simp only[aa];rw[show J H2 1 false (iB oW 1 p.threads k)=some (aQ aC.cells t)from HA (c:=fun l=>aQ aC.cells l) H2 ht];simp only[aa];refine V4 aw hT (l:=t) (by omega) aX (fun x hx=>aqu aw hT x (aX x hx)) (n:=0) (cells:=[]) (cU.nil _ _ _) (by omega) fun H3 x' Ag lf h3=>?_;rw[Nat.zero_add]at h3;have DG:=lf.2 _ _ r9;have l9:J H3 1 false (.ptr i9 1)=some (.int .i64 fk):=by rw[DG.load];rfl
  simp only[h3.one.2,aa,eP,l9,eK,aD];exact hk H3 DG
 refine amj aw hT pV j_ hz (fun h0 H1=>?_) (fun h0 ha H1=>?_) (fun h0 k t hn ht hc H1=>?_) (fun h0 k t hn ht tk A bK H1 hg hl=>?_);all_goals
  simp only[db,List.getElem?_cons_zero,List.getElem?_cons_succ,aa];refine V8 (N:=2) rfl rfl rfl fun H2 r9 lf2=>?_;refine amx aw hT p j_ _ _ ?_;unfold Qt;refine V8 (N:=2) rfl rfl rfl fun H3 wL DE=>?_;have l1:J H3 1 false (.ptr H2.n 1)=some (.int .i64 (jk bP p).2):=by rw[wL.load];rfl
  have DG:=DE.2 _ _ r9;simp only[eP,l1,aa,cn,ck,bF,cj,sq,rK,cu,kG,aG]
 · rw[if_neg (by simpa using h0)];unfold S.Aj;simp only[aA,aD,Bool.false_eq_true,if_false,aG];exact afX H3 H1.n H2.n _ _ DG wL h0
 · rw [if_pos (by simpa using h0)];have Lm:∀b:Bool,b=true→S.Aj (au C) (.int .i64 n) (.av p.cells) (.aq .nil 0 []) (.int .i64 0) (.ptr H1.n 0) (.ptr H2.n 0) Q [.bool b] H3:=fun b hb=>by
    subst hb;unfold S.Aj;simp only[aA,aD,if_true,aG];rw[show bJ [.int .i64 0,.int .i64 0] [(1,1,(.int .i64 1))]=some (.agg [.int .i64 0,.int .i64 1])from rfl];simp only[aa];rw[wL.put (n:=2) rfl rfl rfl];simp only[aa];exact afX _ H1.n H2.n 0 1 (DG.dq (Nat.ne_of_lt r9.1) _) (wL.set _) (by decide)
   refine gG (fun e=>?_) (fun e=>?_)
   · refine Lm _ ?_;have:¬n<0:=by simpa using e
     simp;omega
   ·exact Lm true rfl
 · rw[if_pos (by simpa using h0)];have aO:=(List.getElem?_eq_some_iff.1 ht).1;rw[if_pos (by simp;omega)];unfold S.Aj;simp only[aA,aD,aG];rw[if_neg (by simp;omega)];refine key k t ht h0 hn _ _ 0 12 H3 H1.n H2.n DG wL fun H4 r94=>?_;rw[if_pos (by decide)];refine Dg _ _ ?_;simp only[ck,if_true];rw[r94.all (n:=2) rfl];simp only[aa];rw[show bJ [.int .i64 0,.int .i64 0] [(1,1,(.int .i64 12))]=some (.agg [.int .i64 0,.int .i64 12])from rfl];obtain⟨hlen,aX⟩:=RH t (List.mem_of_getElem? ht);have Yy:=hz t (List.mem_of_getElem? ht);have Ym:=En t;simp only[aa,ag4,aG,S.I1,aA,ck,Rd,cn,S.Vq,sq,rK];simp only[BEq.rfl,Bool.and_self,if_true];subst hn;rw[d_ aO];simp only[aa];rw[show J H4 1 false (iB oW 1 p.threads k)=some (aQ aC.cells t)from HA (c:=fun l=>aQ aC.cells l) H4 ht];simp only[aa];refine TZ aw hT (l:=t) (by omega) aX (fun x hx=>atZ aw hT x (aX x hx)) H4 _ (by omega) ?_;simp only[m7,cp,eY,aa];rw[wrap_i64 (n:=16*(ml t:Int)) (by omega) (by omega),wrap_i64 (n:=256*(gU t:Int)) (by omega) (by omega),wrap_i64 (by omega) (by omega)];rw[show decide ((16*(ml t:Int)+256*(gU t:Int))>16384)=true by simp;omega];exact hQ H4
 · rw [if_pos (by simpa using h0)];have aO:=(List.getElem?_eq_some_iff.1 ht).1;rw[if_pos (by simp;omega)];unfold S.Aj;simp only[aA,aD,aG];rw[if_neg (by simp;omega)];refine key k t ht h0 hn _ _ 0 0 H3 H1.n H2.n DG wL fun H4 r94=>?_;rw[if_neg (by decide)];obtain⟨sn,hsn,eR⟩:=hg.op;obtain⟨lb,ahb⟩:=hg.rI;have Yy:=hz t (List.mem_of_getElem? ht);have Ym:=En t;simp only[show br false (.aq tk A.length (A.flatMap dr.cells))=some (.int .i64 A.length)from rfl,aa,eY,aD];rw[if_neg (by simp;omega)];have main : ∀(r:List dr)(i:Nat)(H5:AH),A.drop i=r→aB (S.BV (au C) (.aq tk A.length (A.flatMap dr.cells)) (.int .i64 (bK:Nat)) (.int .i64 (gU t:Nat)) Q) ([.int .i64 i],H5):=by
    intro r;induction r with
    | nil=>intro i H5 hd;have hle:=fe hd;refine aB.step ?_;simp only[S.BV,aA,show br false (.aq tk A.length (A.flatMap dr.cells))=some (.int .i64 A.length)from rfl,aa,bF,aD,aG];rw[if_neg (by simp only[decide_eq_true_eq];omega)];unfold S.adU;exact Dg _ _ (hQ H5)
    | cons o r ih=>
     intro i H5 hd;obtain⟨ahc,hx,bC⟩:=eX hd;have ho:=eR o (List.mem_of_getElem? hx);obtain⟨cs,e1,e2,_⟩:=agy (tk:=tk) hx;refine aB.step ?_;simp only[S.BV,aA,show br false (.aq tk A.length (A.flatMap dr.cells))=some (.int .i64 A.length)from rfl,aa,bF,aD];rw[if_pos (by simp only[decide_eq_true_eq];omega),e1];simp only[aa,e2];refine V8 (N:=13) rfl rfl rfl fun H6 rj _=>?_;generalize H5.n=j at *;have f:∀(m:Nat)(v:AV),o.cells[m]?=some v→J H6 1 false (.ptr j m)=some v:=fun m v hv=>by have:=(List.getElem?_eq_some_iff.1 hv).1;rw[rj.load];unfold cC;rw[if_pos (by omega),if_neg (by decide)];exact hv
     have l0:=f 0 _ rfl;have l1:=f 1 _ rfl;have l2:=f 2 _ rfl;have l3:=f 3 _ rfl;have l4:=f 4 _ rfl;have l5:=f 5 _ rfl;have l8:=f 8 _ rfl;have l10:=f 10 _ rfl;have l11:=f 11 _ rfl;clear f;have al:br false (.aq tk A.length (A.flatMap dr.cells))=some (.int .i64 A.length):=rfl;have k5:S.Qb (au C) ([.int .i64 i],H5) (aB (S.BV (au C) (.aq tk A.length (A.flatMap dr.cells)) (.int .i64 (bK:Nat)) (.int .i64 (gU t:Nat)) Q)) Q [] H6:=by unfold S.Qb;simp only[aA,cp,aa];rw[wrap_i64 (by omega) (by omega),cN];exact ih (i+1) H6 bC
     generalize aB (S.BV (au C) (.aq tk A.length (A.flatMap dr.cells)) (.int .i64 (bK:Nat)) (.int .i64 (gU t:Nat)) Q)=LL at *;have ub : 14≤o.kind∧o.kind≤16→S.UF (au C) (.aq tk A.length (A.flatMap dr.cells)) (.ptr j 0) ([.int .i64 i],H5) LL Q [] H6:=by
      intro hk;have Bc:=ahb.fB o (List.mem_of_getElem? hx) hk.1 hk.2;have ma:=ahb.one o.fB Bc.1 Bc.2;have lU:∀(Rh:Int),(A.length<3000→Rh=1)→S.UE (au C) (.aq tk A.length (A.flatMap dr.cells)) ([.int .i64 i],H5) LL Q [.int .i64 Rh] H6:=by
       intro Rh hc;unfold S.UE;simp only[aA,eK,aa,ck,al,bF,aG,S.Vr,aD];refine aN (fun e=>?_) (fun _=>?_)
       · rw [if_neg ?_]
         ·exact k5
         · have:¬Rh=1:=by simpa using e
           simp;omega
       · rw[if_neg (by decide)];exact k5
      have inner:∀(r2:List dr)(k:Nat),A.drop k=r2→k≤A.length→aB (S.Ez (au C) (.aq tk A.length (A.flatMap dr.cells)) (.ptr j 0) ([.int .i64 i],H5) LL Q) ([.int .i64 (lB o.fB (A.take k):Nat),.int .i64 k],H6):=by
       intro r2;induction r2 with
       | nil=>intro k tQ eZ;have JG:=fe tQ;refine aB.step ?_;simp only[S.Ez,aA,cv,al,aa,bF,ck,aG];rw[if_neg (by simp only[decide_eq_true_eq];omega)];unfold S.OM;simp only[aA,cv,aD,Bool.false_eq_true,if_false,aG];refine lU _ fun _=>?_;rw[List.take_of_length_le JG,ma];rfl
       | cons y r2 Ld=>
        intro k tQ eZ;obtain⟨WC,RK,awR⟩:=eX tQ;obtain⟨cs2,nC,_,e3',e4'⟩:=agy (tk:=tk) RK;have gD:lB o.fB (A.take (k+1))=lB o.fB (A.take k)+(if y.kind=14∧y.fB=o.fB then 1 else 0):=by rw[List.take_add_one,RK,Mu];show _+lB o.fB [y]=_;rw[SH];rfl
        have jZ:lB o.fB (A.take k)≤A.length:=Nat.le_trans (List.length_filter_le _ _) (List.length_take_le' _ _);refine aB.step ?_;simp only[S.Ez,aA,cv,al,aa,bF,ck,aG];rw[if_pos (by simp only[decide_eq_true_eq];omega)];simp only[S.OM,aA,cv,aD,aG];rcases Decidable.em ((k:Int)<3000)with e|e
        · rw [if_pos (by simpa only[decide_eq_true_eq]using e)];have nx:∀c2:Nat,c2=lB o.fB (A.take (k+1))→S.Qc (au C) ([.int .i64 (lB o.fB (A.take k):Nat),.int .i64 k],H6) (aB (S.Ez (au C) (.aq tk A.length (A.flatMap dr.cells)) (.ptr j 0) ([.int .i64 i],H5) LL Q)) Q [.int .i64 (c2:Nat)] H6:=fun c2 qF=>by
           unfold S.Qc;simp only[aA,cv,cp,aa];rw[wrap_i64 (by omega) (by omega),cN,qF];exact Ld (k+1) awR WC
          have k7:∀b:Bool,(b=true↔y.kind=14∧y.fB=o.fB)→S.Qd (au C) ([.int .i64 (lB o.fB (A.take k):Nat),.int .i64 k],H6) (aB (S.Ez (au C) (.aq tk A.length (A.flatMap dr.cells)) (.ptr j 0) ([.int .i64 i],H5) LL Q)) Q [.bool b] H6:=fun b hb=>by
           unfold S.Qd;simp only[aA,aD,cp,aa,aG];refine aN (fun q=>?_) (fun q=>?_)
           · rw[wrap_i64 (by omega) (by omega),cN];exact nx _ (by rw[gD,if_pos (hb.1 q)])
           ·exact nx _ (by rw[gD,if_neg (fun z=>q (hb.2 z)),Nat.add_zero])
          simp only[S.af4,aA,cv,nC,aa,sq,e3',e4',cn,ck,eP,l10,aG];refine aN (fun q=>?_) (fun q=>?_)
          · have q':y.kind=14:=by simpa using q
            exact k7 _ ⟨fun z=>⟨q',by simpa using z⟩,fun z=>by simpa using z.2⟩
          · have q':¬y.kind=14:=by simpa using q
            exact k7 false ⟨fun z=>(by cases z),fun z=>absurd z.1 q'⟩
        · rw[if_neg (by simpa only[decide_eq_true_eq]using e)];exact lU _ fun hA=>absurd (show(k:Int)<3000 by omega) e
      unfold S.UF;exact inner A 0 rfl (Nat.zero_le _)
     have zR:S.UH (au C) (.aq tk A.length (A.flatMap dr.cells)) (.ptr j 0) ([.int .i64 i],H5) LL Q [] H6:=by
      have vb:∀b:Bool,(b=false→14≤o.kind∧o.kind≤16)→S.ON (au C) (.aq tk A.length (A.flatMap dr.cells)) (.ptr j 0) ([.int .i64 i],H5) LL Q [.bool b] H6:=fun b hb=>by unfold S.ON;simp only[aA,aD,aG];exact aN (fun _=>k5) (fun q=>ub (hb (by simpa using q)))
      unfold S.UH;simp only[eP,l0,aa,eK,ck,aG,S.UG,aA];refine aN (fun q=>?_) (fun q=>?_)
      · refine aN (fun q2=>?_) (fun q2=>?_)
        · refine vb _ fun z=>?_;have:o.kind=16:=by simpa using z
          omega
        · refine vb false fun _=>?_;have:o.kind=15:=by simpa using q2
          omega
      · rw[if_neg (by decide)];refine vb false fun _=>?_;have:o.kind=14:=by simpa using q
        omega
     have DB:S.Io (au C) (.aq tk A.length (A.flatMap dr.cells)) (.ptr j 0) ([.int .i64 i],H5) LL Q [.bool false] H6:=by
      have GG:S.yF (au C) (.aq tk A.length (A.flatMap dr.cells)) (.ptr j 0) ([.int .i64 i],H5) LL Q [.bool false] H6:=by unfold S.yF;simp only[aA,aD,Bool.false_eq_true,if_false,aG];exact zR
      unfold S.Io;simp only[aA,cj,if_true,eP,l0,l8,aa,kG,mL,eK,ck,aG];refine aN (fun q=>?_) (fun _=>GG);refine aN (fun q2=>?_) (fun _=>GG);have z:=ho.size (by simpa using q) (by simpa using q2);refine aN (fun a1=>?_) (fun _=>GG);refine aN (fun a2=>?_) (fun _=>GG);refine aN (fun a3=>?_) (fun _=>GG);have:o.size=8:=by
       have:=(by simpa using a1:¬o.size=1)
       have:=(by simpa using a2:¬o.size=2)
       have:=(by simpa using a3:¬o.size=4)
       omega
      rw[show(o.size != 8)=false by simp[this]];exact GG
     have Lk:∀b:Bool,(b=true→4≤o.kind∧o.kind≤13)→S.OO (au C) (.aq tk A.length (A.flatMap dr.cells)) (.int .i64 (gU t:Nat)) (.ptr j 0) ([.int .i64 i],H5) LL Q [.bool b] H6:=by intro b hb;unfold S.OO;simp only[aA,ck,cj,eP,l11,aa,bF,eY,aG];refine aN (fun q=>?_) (fun _=>DB);obtain⟨s1,s2⟩:=ho.site (hb q).1 (hb q).2;rw[if_pos (by simp;omega),show decide (o.site>(gU t:Int))=false by simp;omega];exact DB
     have Ll:S.OP (au C) (.aq tk A.length (A.flatMap dr.cells)) (.int .i64 (gU t:Nat)) (.ptr j 0) ([.int .i64 i],H5) LL Q [.bool false] H6:=by
      unfold S.OP;simp only[aA,aD,Bool.false_eq_true,if_false,aG,S.adT,eP,l0,aa,kG,mL,ck];refine aN (fun q=>?_) (fun q=>?_)
      ·exact Lk _ fun z=>⟨by simpa using q,by simpa using z⟩
      ·exact Lk false fun z=>by cases z
     have rg:∀{a:Int},fO bK a→∀{Q':ae},Q' (.bool true) H6→au C K.f9 [.int .i64 a,.int .i64 (bK:Nat)] H6 Q':=fun ha _ hq=>aue aw hT pV Dg ha hq;simp only[eP,l0,aa,bF,eY,cj,aG];rw[if_pos (by have:=ho.k1;simp;omega),show decide (o.kind>18)=false by have:=ho.k2;simp;omega];unfold S.UM;simp only[aA,cj,if_true,eP,l1,aa];refine rg ho.dst ?_;simp only[gk,Bool.not_true,aa,aG,S.UL,aA,cj,if_true,eP,l2];refine rg ho.FB ?_;simp only[gk,Bool.not_true,aa,aG,S.UK,aA,cj,if_true,eP,l3];refine rg ho.a ?_;simp only[gk,Bool.not_true,aa,aG,S.UJ,aA,cj,if_true,eP,l4];refine rg ho.b ?_;simp only[gk,Bool.not_true,aa,aG,S.UI,aA,cj,if_true,eP,l5];refine rg ho.c ?_;simp only[gk,Bool.not_true,aa,aG];exact Ll
   exact main A 0 H4 rfl
end
end Rb

namespace Rb
open Go
mutual
theorem arU:∀e:aF,gK e≤272*LH e
 | .mk kind n name op order place kids=>by have h1:=adB place;have h2:=MJ kids;rw[gK,LH];split<;>omega
theorem MJ:∀l:List aF,gn l≤272*xF l
 |[]=>by rw[gn,xF];omega
 | e::r=>by have h1:=arU e;have h2:=MJ r;rw[gn,xF];omega
theorem adB:∀x:aT,kY x≤272*Bn x
 | .mk var parts=>by have h1:=abN parts;rw[kY,Bn];omega
theorem abN:∀l:List a_,l_ l≤272*AM l
 |[]=>by rw[l_,AM];omega
 | e::r=>by have h1:=arX e;have h2:=abN r;rw[l_,AM];omega
theorem arX:∀x:a_,wi x≤272*LJ x
 | .mk field index=>by have h1:=MJ index;rw[wi,LJ];omega
end
mutual
theorem arZ:∀x:aC,sv x≤272*LK x
 | .mk kind line name cW order place exprs aZ bz=>by have h1:=adB place;have h2:=MJ exprs;have h3:=NU aZ;have h4:=NU bz;rw[sv,LK];split<;>omega
theorem NU:∀l:List aC,dT l≤272*yu l
 |[]=>by rw[dT,yu];omega
 | e::r=>by have h1:=arZ e;have h2:=NU r;rw[dT,yu];omega
end
end Rb

namespace Go.Proofs.YtbjhdakiiedmcaaGreatDoor.rb
open Rb
theorem aos:cG (au C) K.f6 [] (.bool true):=fun H Q hQ=>ajZ K.f6 [] (.bool true) rfl H Q hQ
theorem anC(H:AH)(Q:ae)(hQ:Q (.aq .dead 34 (pB.map .str)) H):au C K.f67 [.str TU] H Q:=SG K.f67 [.str TU] _ (by kernel_rfl) H Q hQ
theorem axS(s:List UInt8):cG (au C) K.f42 [.str s] (.bool (bP s)):=akK A0 adu anC s
theorem lowerThreads.any(p:jT)(hp:p.ok)(hz:gm p.cells≤1048576)(n:Int)(_ : -9223372036854775808≤n)(_:n≤9223372036854775807):au C K.f3 [.agg p.cells,.int .i64 n] AH.mt (fun v _=>v = .bool true):=ajG A0 adu axS aos hp (fun t ht=>by have h1:=am5 ht;have h2:=NU t;omega) fun _=>rfl
end Go.Proofs.YtbjhdakiiedmcaaGreatDoor.rb

namespace Go.Proofs.YtbjhdakiiedmcaaGreatDoor.rb
open Rb Go.ChangeShapes Go.WideShapes Go.ChangeAt Go.RowKit
theorem own:ownKnob Tryz.prog.godebug=none:=by kernel_rfl
theorem laidOut:laidOutB Tryz.prog=true:=by kernel_rfl
theorem aqA:Tryz.prog.cellsOf 5=1:=by kernel_rfl
def Hx:List (String×DataW Unit):=Rows.lowerThreadsRow.laid
theorem XU : Tryz.prog.globalNamed "strings.asciiSpace" = some 0 := by kernel_rfl
theorem apT:(Tryz.prog.globals[0]?).map (·.type)=some 157:=by kernel_rfl
theorem aox:Tryz.prog.cellsOf 157=256:=by kernel_rfl
theorem aqn:(Rows.laid_strings_asciiSpace:DataW Unit)=Go.Lib.tabData .u8 Go.Lib.asciiSpaceTab:=by kernel_rfl
theorem aoe : (("strings.asciiSpace", Go.Lib.tabData .u8 Go.Lib.asciiSpaceTab) : String × DataW Unit) ∈ Hx := by
 rw[←aqn];exact .tail _ (.head _)
set_option maxRecDepth 100000 in
theorem adf {W : World} (h : laidMet Tryz.prog Hx W) : Go.Lib.TabIs Tryz.prog W "strings.asciiSpace" .u8 Go.Lib.asciiSpaceTab := by
 obtain⟨g',t',cs,fuel,p,hg',Gx,axm,hd⟩:=Go.Lib.laidMet.reads h aoe;obtain rfl:=Option.some.inj (XU.symm.trans hg');obtain rfl:=Option.some.inj (apT.symm.trans Gx);unfold Go.Lib.TabIs;rw[axm,←Go.Lib.cells_of_tab Tryz.underlying157 Tryz.underlying5 aqA aox hd]
theorem awC{W:World}(h:laidMet Tryz.prog Hx W):tB C W (cc.mt (xh W)):=by
 intro g l hg;change gt g=some l at hg;unfold gt at hg;split at hg
 · rename_i e;subst e;cases hg;rw[aj6];exact ak6 fun i hi=>(adf h).cell XU i hi
 ·cases hg
theorem Dc{W:World}(h:laidMet Tryz.prog Hx W):jI C W (cc.mt (xh W)) AH.mt:=by
 refine⟨awC h,fun g l hg _=>⟨?_,fun i hi=>by cases hi⟩⟩;change gt g=some l at hg;unfold gt at hg;split at hg
 · rename_i e;subst e;cases hg;obtain⟨cs,t,fr,h1,h2⟩:=alm XU (adf h);exact⟨cs,t,fr,h1,h2.trans (by kernel_rfl)⟩
 ·cases hg
noncomputable def SQ(os:Os):World:=
 let N:=(World.settled Tryz.prog os).heap.size;let w0:=World.holding Tryz.prog os ⟨#[.cells #[.int .u16 9,.int .u16 13,.int .u16 1,.int .u16 32,.int .u16 133,.int .u16 101,.int .u16 160,.int .u16 5760,.int .u16 5600,.int .u16 8192,.int .u16 8202,.int .u16 1,.int .u16 8232,.int .u16 8233,.int .u16 1,.int .u16 8239,.int .u16 8287,.int .u16 48,.int .u16 12288,.int .u16 12288,.int .u16 1] 197,.cells #[.slice (some ⟨N+0,0,none⟩) 7 7,.slice none 0 0,.int .i64 2] 194],#[],[]⟩;let put (h:Array Obj) (g:Nat) (cs:Array Value):Array Obj:=h.modify g fun
  | .cells _ t frozen=> .cells cs t frozen
  |o=>o
 {w0 with heap:=put (put (w0.heap) 1 #[.pointer (some ⟨N+1,0,none⟩)]) 0 #[.int .u8 0,.int .u8 0,.int .u8 0,.int .u8 0,.int .u8 0,.int .u8 0,.int .u8 0,.int .u8 0,.int .u8 0,.int .u8 1,.int .u8 1,.int .u8 1,.int .u8 1,.int .u8 1,.int .u8 0,.int .u8 0,.int .u8 0,.int .u8 0,.int .u8 0,.int .u8 0,.int .u8 0,.int .u8 0,.int .u8 0,.int .u8 0,.int .u8 0,.int .u8 0,.int .u8 0,.int .u8 0,.int .u8 0,.int .u8 0,.int .u8 0,.int .u8 0,.int .u8 1,.int .u8 0,.int .u8 0,.int .u8 0,.int .u8 0,.int .u8 0,.int .u8 0,.int .u8 0,.int .u8 0,.int .u8 0,.int .u8 0,.int .u8 0,.int .u8 0,.int .u8 0,.int .u8 0,.int .u8 0,.int .u8 0,.int .u8 0,.int .u8 0,.int .u8 0,.int .u8 0,.int .u8 0,.int .u8 0,.int .u8 0,.int .u8 0,.int .u8 0,.int .u8 0,.int .u8 0,.int .u8 0,.int .u8 0,.int .u8 0,.int .u8 0,.int .u8 0,.int .u8 0,.int .u8 0,.int .u8 0,.int .u8 0,.int .u8 0,.int .u8 0,.int .u8 0,.int .u8 0,.int .u8 0,.int .u8 0,.int .u8 0,.int .u8 0,.int .u8 0,.int .u8 0,.int .u8 0,.int .u8 0,.int .u8 0,.int .u8 0,.int .u8 0,.int .u8 0,.int .u8 0,.int .u8 0,.int .u8 0,.int .u8 0,.int .u8 0,.int .u8 0,.int .u8 0,.int .u8 0,.int .u8 0,.int .u8 0,.int .u8 0,.int .u8 0,.int .u8 0,.int .u8 0,.int .u8 0,.int .u8 0,.int .u8 0,.int .u8 0,.int .u8 0,.int .u8 0,.int .u8 0,.int .u8 0,.int .u8 0,.int .u8 0,.int .u8 0,.int .u8 0,.int .u8 0,.int .u8 0,.int .u8 0,.int .u8 0,.int .u8 0,.int .u8 0,.int .u8 0,.int .u8 0,.int .u8 0,.int .u8 0,.int .u8 0,.int .u8 0,.int .u8 0,.int .u8 0,.int .u8 0,.int .u8 0,.int .u8 0,.int .u8 0,.int .u8 0,.int .u8 0,.int .u8 0,.int .u8 0,.int .u8 0,.int .u8 0,.int .u8 0,.int .u8 0,.int .u8 0,.int .u8 0,.int .u8 0,.int .u8 0,.int .u8 0,.int .u8 0,.int .u8 0,.int .u8 0,.int .u8 0,.int .u8 0,.int .u8 0,.int .u8 0,.int .u8 0,.int .u8 0,.int .u8 0,.int .u8 0,.int .u8 0,.int .u8 0,.int .u8 0,.int .u8 0,.int .u8 0,.int .u8 0,.int .u8 0,.int .u8 0,.int .u8 0,.int .u8 0,.int .u8 0,.int .u8 0,.int .u8 0,.int .u8 0,.int .u8 0,.int .u8 0,.int .u8 0,.int .u8 0,.int .u8 0,.int .u8 0,.int .u8 0,.int .u8 0,.int .u8 0,.int .u8 0,.int .u8 0,.int .u8 0,.int .u8 0,.int .u8 0,.int .u8 0,.int .u8 0,.int .u8 0,.int .u8 0,.int .u8 0,.int .u8 0,.int .u8 0,.int .u8 0,.int .u8 0,.int .u8 0,.int .u8 0,.int .u8 0,.int .u8 0,.int .u8 0,.int .u8 0,.int .u8 0,.int .u8 0,.int .u8 0,.int .u8 0,.int .u8 0,.int .u8 0,.int .u8 0,.int .u8 0,.int .u8 0,.int .u8 0,.int .u8 0,.int .u8 0,.int .u8 0,.int .u8 0,.int .u8 0,.int .u8 0,.int .u8 0,.int .u8 0,.int .u8 0,.int .u8 0,.int .u8 0,.int .u8 0,.int .u8 0,.int .u8 0,.int .u8 0,.int .u8 0,.int .u8 0,.int .u8 0,.int .u8 0,.int .u8 0,.int .u8 0,.int .u8 0,.int .u8 0,.int .u8 0,.int .u8 0,.int .u8 0,.int .u8 0,.int .u8 0,.int .u8 0,.int .u8 0,.int .u8 0,.int .u8 0,.int .u8 0,.int .u8 0,.int .u8 0,.int .u8 0,.int .u8 0,.int .u8 0,.int .u8 0,.int .u8 0,.int .u8 0,.int .u8 0,.int .u8 0,.int .u8 0,.int .u8 0,.int .u8 0,.int .u8 0,.int .u8 0,.int .u8 0,.int .u8 0]}
theorem anO(os:Os)(args:Array Value):laidMet Tryz.prog Hx ((SQ os).forCall (fun _ _=>0) ⟨#[],args,[]⟩).memory:=laidMet_of_run3 10 (by kernel_rfl) (by kernel_rfl) (by kernel_rfl)
end Go.Proofs.YtbjhdakiiedmcaaGreatDoor.rb

namespace Go.Proofs.YtbjhdakiiedmcaaGreatDoor.rb
open Rb
variable{H:Type}{enc:TypeId×Value→H}{w:World}{sp:Nat→Bool}{held:Bool}{F:eG}
theorem ayb:∃fT fF,agV Tryz.prog 3 4 9 55 128 53 52 fT fF:=⟨_,_,Tryz.underlying3,Tryz.underlying4,Tryz.underlying9,Tryz.underlying55,Tryz.underlying128,Tryz.underlying53,Tryz.underlying52,rfl,rfl,by kernel_rfl,by kernel_rfl,fun t ht=>by simp only[List.mem_cons,List.not_mem_nil,or_false]at ht;rcases ht with rfl|rfl|rfl|rfl|rfl<;>kernel_rfl⟩
theorem ao4(n:Nat):bY F enc Tryz.prog w sp held n 55 aE.cells aE.ok:=let ⟨_,_,h⟩:=ayb;ann h n
theorem awA:∃fE fL fR,VW Tryz.prog 3 38 9 71 67 108 69 65 fE fL fR:=⟨_,_,_,Tryz.underlying3,Tryz.underlying38,Tryz.underlying9,Tryz.underlying71,Tryz.underlying67,Tryz.underlying108,Tryz.underlying69,Tryz.underlying65,rfl,rfl,rfl,by kernel_rfl,by kernel_rfl,by kernel_rfl,fun t ht=>by simp only[List.mem_cons,List.not_mem_nil,or_false]at ht;rcases ht with rfl|rfl|rfl|rfl|rfl<;>kernel_rfl⟩
theorem ar0(n:Nat):bY F enc Tryz.prog w sp held n 57 aK.cells aK.ok:=aom Tryz.underlying9 (by kernel_rfl) (by kernel_rfl) ao4 Tryz.underlying57 rfl (by kernel_rfl) n
theorem ao3(n:Nat):bY F enc Tryz.prog w sp held n 74 aC.cells aC.ok:=let ⟨_,_,_,h⟩:=awA;anm h Tryz.underlying74 Tryz.underlying36 rfl (by kernel_rfl) (by kernel_rfl) n
theorem ao2(n:Nat):bY F enc Tryz.prog w sp held n 25 jT.cells jT.ok:=anl ar0 ao3 Tryz.underlying22 Tryz.underlying36 Tryz.underlying23 (by kernel_rfl) (by kernel_rfl) (by kernel_rfl) (by kernel_rfl) (by kernel_rfl) Tryz.underlying25 rfl (by kernel_rfl) n
end Go.Proofs.YtbjhdakiiedmcaaGreatDoor.rb
