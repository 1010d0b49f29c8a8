/- A part of the proof (part 8): see the last text. -/
import Derived.Test.YteakojhgmhmdkaaGreatDoorRb7
import Derived.Test.YteakojhgmhmdkaaGreatDoorRb3
import Derived.Deep.DeepHandedRow
import Derived.Deep.DeepWitnessRowRef
import Derived.JoinedCond
set_option linter.unusedVariables false
set_option linter.unusedSimpArgs false
open Bool renaming false_eq_true→ZP
open Go.IntKind renaming bits→X9, max→abx, min→abw, signed→X8
open Go.OpenClaim renaming holds_of_cond→adw, pre_eq_preRow→adx
namespace Go.Proofs.YteakojhgmhmdkaaGreatDoor.rb.boundPlaces
open Rb Go.ChangeShapes Go.WideShapes Go.ChangeAt Go.RowKit
mutual
theorem bk{H:Type}:∀d:DataW H,dB d=Rows.uptoBulk d
 | .lit l=>by cases l<;>rfl
 | .nil=>rfl
 | .ptr d=>by rw[dB,Rows.uptoBulk,bk d]
 | .slice a b=>by rw[dB,Rows.uptoBulk,x2 a,x2 b]
 | .agg p=>by rw[dB,Rows.uptoBulk,x2 p]
 | .iface _ d=>by rw[dB,Rows.uptoBulk,bk d]
 | .map e=>by rw[dB,Rows.uptoBulk,Lm e]
 | .held _=>rfl
theorem x2{H:Type}:∀l:List (DataW H),lu l=Rows.uptoBulkAll l
 |[]=>rfl
 |d::r=>by rw[lu,Rows.uptoBulkAll,bk d,x2 r]
theorem Lm{H:Type}:∀l:List (Lit×DataW H),wg l=Rows.uptoBulkEntries l
 |[]=>rfl
 | (l,d)::r=>by rw[wg,Rows.uptoBulkEntries,Lm r];cases l<;>rw[Hp,Rows.uptoBulkEntry,bk d]<;>(intros;simp_all)
end
theorem bulk{H:Type}{a b d2:DataW H}(c:Rows.uptoSmall H [a,b,d2]=true):dB a≤1048576:=by have h:Rows.uptoBulkAll [a,b,d2]≤1048576:=of_decide_eq_true c;rw[bk];simp only[Rows.uptoBulkAll]at h;omega
theorem reads(a:Os){H:Type}(enc:TypeId×Value→H):∃places,DataW.whole enc Tryz.prog ((CA a).forCall (λ_ _=>0) ⟨#[],#[.agg #[.slice none 0 0,.slice none 0 0],.int .i64 0,.int .i64 0],[]⟩).memory Tryz.f5.params.toList Rows.boundPlacesSpec.vars false (#[.agg #[.slice none 0 0,.slice none 0 0],.int .i64 0,.int .i64 0]:Array Value).toList 8=some ([.agg [.nil,.nil],.lit (.int .i64 0),.lit (.int .i64 0)],[],places):=⟨[],by kernel_rfl⟩
set_option maxRecDepth 100000 in
theorem lifted(a:Os)(d:a.Started)(H:Type)(enc:TypeId×Value→H)(F:Stop.Interp) :
  ReturnsInHanded {} Tryz.checked a 5 .any ((Rows.OpenSpec.upto Rows.boundPlacesSpec).preRow enc Tryz.prog Tryz.f5 Rows.boundPlacesUptoRow.domain false Rows.boundPlacesUptoRow.laid) (((Rows.OpenSpec.upto Rows.boundPlacesSpec).at F).post enc Tryz.prog Tryz.f5 false true false false):=by
 obtain⟨places,i⟩:=reads a enc;refine returnsInHanded_of_row (C:=Tryz.checked) (s:=Rows.OpenSpec.upto Rows.boundPlacesSpec) own d (by kernel_rfl) Tryz.func5
  (witness_row_atRef (enc:=enc) (C:=Tryz.checked) false (CA a) #[.agg #[.slice none 0 0,.slice none 0 0],.int .i64 0,.int .i64 0] rfl (by kernel_rfl) (by kernel_rfl) (by kernel_rfl)
    (OpenSpec.preRow_of_cond 8 i (by kernel_rfl) (λk hk=>by cases hk;kernel_rfl) (by kernel_rfl) (Wz a #[.agg #[.slice none 0 0,.slice none 0 0],.int .i64 0,.int .i64 0]))) ?_
 intro W base args ds gs before l hW _ m o u _ _;have b:∀(j:Nat) t v,Tryz.f5.params[j]?=some t→args[j]?=some v→Value.okWide Tryz.prog W .any base t v:=l;have w:=hW;obtain⟨p,q,x,y,rfl,I,J⟩:=hW;have hA:DataW.TrodAll enc Tryz.prog W 0 (λ_=>true) true Tryz.f5.params.toList args.toList ds p:=x;have c:DataW.TrodVars enc Tryz.prog W (λ_=>true) [] gs q:=y;rw[Tryz.params5]at hA b;obtain⟨v0,v1,v2,d0,d1,d2,p0,K,L,rfl,rfl,rfl,z,h1,A⟩:=trodAll_three hA;obtain ⟨rfl,rfl⟩:gs=[]∧q=[]:=by
  cases gs with
  |nil=>exact⟨rfl,c⟩
  |cons g r=>exact absurd c (by intro h;cases h)
 have hB:=bulk (m _ rfl);obtain⟨M,rfl,_⟩:=okWide_struct Tryz.underlying25 (b 0 25 v0 rfl rfl);obtain⟨B,D,E,z0⟩:=Q.Ht (F:=C.F) WG z (λn hn=>of_decide_eq_true (List.all_eq_true.1 o n (DataW.weights_mem_each (j:=0) rfl rfl n hn)));obtain⟨a1,rfl,rfl,rfl,w1⟩:=open_int Tryz.underlying3 (b 1 3 v1 rfl rfl) h1;have b1:abw .i64≤a1∧a1≤abx .i64:=by simpa[Lit.wf]using w1
 simp only[abw,abx,X8,X9,a_,bR,ZP]at b1;obtain⟨a2,rfl,rfl,rfl,w2⟩:=open_int Tryz.underlying3 (b 2 3 v2 rfl rfl) A;have b2:abw .i64≤a2∧a2≤abx .i64:=by simpa[Lit.wf]using w2
 simp only[abw,abx,X8,X9,a_,bR,ZP]at b2;refine(QI (C:=C) (f:=5) (by kernel_rfl) (any B D (Nat.le_trans z0 hB) a1 (by omega) (by omega) a2 (by omega) (by omega)) (nB u) (aK.three E.agg (.int _ _) (.int _ _))).mono λe W' ⟨he,G⟩=>?_;subst he;exact⟨_,rfl,M3 (bt:=4) w laidOut (by kernel_rfl) (by kernel_rfl) (by kernel_rfl) Tryz.underlying4 rfl G⟩
set_option maxRecDepth 100000
theorem and_intro{a b:Bool}(ha:a=true)(hb:b=true):(a&&b)=true:=by rw[ha,hb];rfl
theorem WH:(Rows.boundPlacesUptoRow.wf (OpenSpec.ofChange (Rows.OpenSpec.upto Rows.boundPlacesSpec).bare))=true:=dF (by kernel_rfl)
theorem WI:(laidOutB Tryz.checked.prog)=true:=dF (by kernel_rfl)
theorem WJ:(mapsRowed Tryz.checked.prog)=true:=dF (by kernel_rfl)
theorem WK:(Tryz.f5.params.all (Tryz.checked.prog.readableRec ·))=true:=dF (by kernel_rfl)
theorem WL:(namedTie Tryz.checked.prog Rows.boundPlacesUptoRow.named (Rows.OpenSpec.upto Rows.boundPlacesSpec).bare.vars)=true:=dF (by kernel_rfl)
theorem WM:((Rows.boundPlacesUptoRow.stops==[]))=true:=dF (by kernel_rfl)
theorem WN:((Tryz.checked.prog.stops==[]))=true:=dF (by kernel_rfl)
theorem WO:((Rows.boundPlacesUptoRow.knobs==[]))=true:=dF (by kernel_rfl)
theorem WQ:((Tryz.checked.prog.stopKnobs==[]))=true:=dF (by kernel_rfl)
theorem WR:((Rows.boundPlacesUptoRow.inPlace==Tryz.checked.prog.inPlace 5))=true:=dF (by kernel_rfl)
theorem WS:((Rows.boundPlacesUptoRow.unfollowed==Tryz.checked.prog.unfollowed 5))=true:=dF (by kernel_rfl)
theorem WT:((Rows.boundPlacesUptoRow.recurses==Tryz.checked.prog.recurses 5))=true:=dF (by kernel_rfl)
theorem WU:((Rows.boundPlacesUptoRow.named==Tryz.checked.prog.varsNamed 5))=true:=dF (by kernel_rfl)
theorem WV:((Rows.boundPlacesUptoRow.maps==(Tryz.f5.params.toList++(Rows.OpenSpec.upto Rows.boundPlacesSpec).bare.plain.varTypes Tryz.checked.prog).any (Tryz.checked.prog.mapsRec ·)))=true:=dF (by kernel_rfl)
theorem WW:((Rows.boundPlacesUptoRow.ifaces==(Tryz.f5.params.toList++(Rows.OpenSpec.upto Rows.boundPlacesSpec).bare.plain.varTypes Tryz.checked.prog).any (Tryz.checked.prog.ifacesRec ·)))=true:=dF (by kernel_rfl)
theorem WX:((Rows.boundPlacesUptoRow.mapsOut==Tryz.checked.prog.mapsAmong Tryz.f5.resultTypes.toList))=true:=dF (by kernel_rfl)
theorem WY:((Rows.boundPlacesUptoRow.loops==(Tryz.f5.params.toList++(Rows.OpenSpec.upto Rows.boundPlacesSpec).bare.plain.varTypes Tryz.checked.prog).any (Tryz.checked.prog.loopsFrom ·)))=true:=dF (by kernel_rfl)
theorem WZ:((Rows.boundPlacesUptoRow.wideKeys==(Tryz.f5.params.toList++(Rows.OpenSpec.upto Rows.boundPlacesSpec).bare.plain.varTypes Tryz.checked.prog++Tryz.f5.resultTypes.toList).any (Tryz.checked.prog.wideKeysFrom ·)))=true:=dF (by kernel_rfl)
theorem W2:((Rows.OpenSpec.upto Rows.boundPlacesSpec).bare.vars.all (Tryz.checked.prog.varReadable ·))=true:=dF (by kernel_rfl)
theorem W3:(Tryz.f5.resultTypes.all (λt=>Tryz.checked.prog.readableRec t&&decide (t<Tryz.checked.prog.types.size)))=true:=dF (by kernel_rfl)
theorem W4:((Rows.boundPlacesUptoRow.ifacesOut==Tryz.f5.resultTypes.toList.any (Tryz.checked.prog.ifacesRec ·)))=true:=dF (by kernel_rfl)
theorem W5:((Rows.boundPlacesUptoRow.loopsOut==Tryz.f5.resultTypes.toList.any (Tryz.checked.prog.loopsFrom ·)))=true:=dF (by kernel_rfl)
theorem W6:((Rows.boundPlacesUptoRow.plainKeys==Tryz.checked.prog.plainKeys))=true:=dF (by kernel_rfl)
theorem W7:(Rows.boundPlacesUptoRow.shortTexts.isNone)=true:=dF (by kernel_rfl)
theorem W8:(Tryz.checked.prog.stopsHeard)=true:=dF (by kernel_rfl)
theorem W9:(Tryz.checked.prog.mayEnter)=true:=dF (by kernel_rfl)
theorem W_:((Rows.boundPlacesUptoRow.lifted==Tryz.checked.prog.liftsFinal))=true:=dF (by kernel_rfl)
theorem Xa:((Tryz.checked.prog.make==some Rows.boundPlacesUptoRow.make))=true:=dF (by kernel_rfl)
theorem Xb:((Rows.boundPlacesUptoRow.pinned==Rows.boundPlacesUptoRow.pinnedBy))=true:=dF (by kernel_rfl)
theorem Xc:((Rows.boundPlacesUptoRow.veiled==(Tryz.f5.params.toList++(Rows.OpenSpec.upto Rows.boundPlacesSpec).bare.plain.varTypes Tryz.checked.prog++Tryz.f5.resultTypes.toList).any (Tryz.checked.prog.veiledRec ·)))=true:=dF (by kernel_rfl)
theorem Xd:(Rows.boundPlacesUptoRow.veiledFits Tryz.checked.prog Tryz.f5.params.toList (Tryz.f5.params.toList++(Rows.OpenSpec.upto Rows.boundPlacesSpec).bare.plain.varTypes Tryz.checked.prog++Tryz.f5.resultTypes.toList))=true:=dF (by kernel_rfl)
theorem facts:joinedFacts Tryz.checked.prog 5 Tryz.f5 (Rows.OpenSpec.upto Rows.boundPlacesSpec).bare Rows.boundPlacesUptoRow=true:=by
 delta joinedFacts;refine and_intro (and_intro (and_intro (and_intro (and_intro (and_intro (and_intro (and_intro (and_intro (and_intro (and_intro (and_intro (and_intro (and_intro (and_intro (and_intro (and_intro (and_intro (and_intro (and_intro (and_intro (and_intro (and_intro (and_intro (and_intro (and_intro (and_intro (and_intro (and_intro (and_intro (and_intro WH WI) WJ) WK) WL) WM) WN) WO) WQ) WR) WS) WT) WU) WV) WW) WX) WY) WZ) W2) W3) W4) W5) W6) W7) W8) W9) W_) Xa) ?_) Xb) Xc) Xd;apply dF
 kernel_rfl
theorem row:Rows.BoundPlacesUptoSaid:=
 adw 5 Tryz.f5 rfl rfl rfl rfl rfl rfl rfl ⟨rfl,rfl,rfl,rfl,rfl⟩ rfl rfl rfl rfl rfl (by kernel_rfl) Tryz.func5 facts
  (of_decide_eq_true (by kernel_rfl)) (by unfold Func.isWrapper;first|(rw[aa (by decide +kernel)];kernel_rfl)|(rw[ab (by decide +kernel)];exact⟨rfl,rfl⟩))
  (λos started H enc _ F=>by rw[adx];exact lifted os started H enc F)
end Go.Proofs.YteakojhgmhmdkaaGreatDoor.rb.boundPlaces
