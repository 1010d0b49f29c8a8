/- A part of the proof (part 8): see the last text. -/
import Derived.Test.YteakojhgmhmdkaaGreatDoorRb7
import Derived.Test.YteakojhgmhmdkaaGreatDoorRb3
import Derived.Deep.DeepHandedRow
import Derived.Deep.DeepWitnessRowRef
import Derived.JoinedCond
set_option linter.unusedVariables false
set_option linter.unusedSimpArgs false
open Go.DataW renaming weights_mem_each→adz
open Go.OpenClaim renaming holds_of_cond→adA, pre_eq_preRow→adB
open List renaming all_eq_true→Y0
namespace Go.Proofs.YteakojhgmhmdkaaGreatDoor.rb.boundStrays
open Rb Go.ChangeShapes Go.WideShapes Go.ChangeAt Go.RowKit
mutual
theorem bk{H:Type}:∀d:DataW H,dB d=Rows.uptoBulk d
 | .lit l=>by cases l<;>rfl
 | .nil=>rfl
 | .ptr d=>by rw[dB,Rows.uptoBulk,bk d]
 | .slice a b=>by rw[dB,Rows.uptoBulk,x2 a,x2 b]
 | .agg p=>by rw[dB,Rows.uptoBulk,x2 p]
 | .iface _ d=>by rw[dB,Rows.uptoBulk,bk d]
 | .map e=>by rw[dB,Rows.uptoBulk,Lb e]
 | .held _=>rfl
theorem x2{H:Type}:∀l:List (DataW H),lq l=Rows.uptoBulkAll l
 |[]=>rfl
 |d::r=>by rw[lq,Rows.uptoBulkAll,bk d,x2 r]
theorem Lb{H:Type}:∀l:List (Lit×DataW H),wm l=Rows.uptoBulkEntries l
 |[]=>rfl
 | (l,d)::r=>by rw[wm,Rows.uptoBulkEntries,Lb r];cases l<;>rw[Hb,Rows.uptoBulkEntry,bk d]<;>(intros;simp_all)
end
theorem bulk{H:Type}{a b:DataW H}(c:Rows.uptoSmall H [a,b]=true):dB a≤1048576:=by have h:Rows.uptoBulkAll [a,b]≤1048576:=of_decide_eq_true c;rw[bk];simp only[Rows.uptoBulkAll]at h;omega
theorem reads(a:Os){H:Type}(enc:TypeId×Value→H):∃places,DataW.whole enc Tryz.prog ((Cm a).forCall (λ_ _=>0) ⟨#[],#[.agg #[.slice none 0 0,.slice none 0 0],.slice none 0 0],[]⟩).memory Tryz.f4.params.toList Rows.boundStraysSpec.vars false (#[.agg #[.slice none 0 0,.slice none 0 0],.slice none 0 0]:Array Value).toList 8=some ([.agg [.nil,.nil],.nil],[],places):=⟨[],by kernel_rfl⟩
set_option maxRecDepth 100000 in
theorem lifted(a:Os)(i:a.Started)(H:Type)(enc:TypeId×Value→H)(F:Stop.Interp) :
  ReturnsInHanded {} Tryz.checked a 4 .any ((Rows.OpenSpec.upto Rows.boundStraysSpec).preRow enc Tryz.prog Tryz.f4 Rows.boundStraysUptoRow.domain false Rows.boundStraysUptoRow.laid) (((Rows.OpenSpec.upto Rows.boundStraysSpec).at F).post enc Tryz.prog Tryz.f4 false true false false):=by
 obtain⟨places,l⟩:=reads a enc;refine returnsInHanded_of_row (C:=Tryz.checked) (s:=Rows.OpenSpec.upto Rows.boundStraysSpec) own i (by kernel_rfl) Tryz.func4
  (witness_row_atRef (enc:=enc) (C:=Tryz.checked) false (Cm a) #[.agg #[.slice none 0 0,.slice none 0 0],.slice none 0 0] rfl (by kernel_rfl) (by kernel_rfl) (by kernel_rfl)
    (OpenSpec.preRow_of_cond 8 l (by kernel_rfl) (λk hk=>by cases hk;kernel_rfl) (by kernel_rfl) (WC a #[.agg #[.slice none 0 0,.slice none 0 0],.slice none 0 0]))) ?_
 intro W base args ds gs before m hW _ o c u _ _;have b:∀(j:Nat) t v,Tryz.f4.params[j]?=some t→args[j]?=some v→Value.okWide Tryz.prog W .any base t v:=m;have w:=hW;obtain⟨p,q,x,y,rfl,I,J⟩:=hW;have hA:DataW.TrodAll enc Tryz.prog W 0 (λ_=>true) true Tryz.f4.params.toList args.toList ds p:=x;have d:DataW.TrodVars enc Tryz.prog W (λ_=>true) [] gs q:=y;rw[Tryz.params4]at hA b;obtain⟨v0,v1,d0,d1,p0,K,rfl,rfl,rfl,z,h1⟩:=trodAll_two hA;obtain ⟨rfl,rfl⟩:gs=[]∧q=[]:=by
  cases gs with
  |nil=>exact⟨rfl,d⟩
  |cons g r=>exact absurd d (by intro h;cases h)
 have hB:=bulk (o _ rfl);obtain⟨L,rfl,_⟩:=okWide_struct Tryz.underlying25 (b 0 25 v0 rfl rfl);obtain⟨A,B,D,z0⟩:=Q.Hf (F:=C.F) WJ z (λn hn=>of_decide_eq_true (Y0.1 c n (adz (j:=0) rfl rfl n hn)));obtain⟨c1,l1,m1,rfl⟩:=okWide_slice Tryz.underlying55 (b 1 55 v1 rfl rfl);obtain⟨E,o1,k1⟩:=Q.arg (F:=C.F) WL h1 (λn hn=>of_decide_eq_true (Y0.1 c n (adz (j:=1) rfl rfl n hn)));refine(QB (C:=C) (f:=4) (by kernel_rfl) (any A B (Nat.le_trans z0 hB) E o1.1 o1.2) (nz u) (aH.two D.agg (k1.2 0 _ _ rfl rfl))).mono λe W' ⟨he,G⟩=>?_;subst he;exact⟨_,rfl,MR (bt:=4) w laidOut (by kernel_rfl) (by kernel_rfl) (by kernel_rfl) Tryz.underlying4 rfl G⟩
set_option maxRecDepth 100000
theorem and_intro{a b:Bool}(ha:a=true)(hb:b=true):(a&&b)=true:=by rw[ha,hb];rfl
theorem WM:(Rows.boundStraysUptoRow.wf (OpenSpec.ofChange (Rows.OpenSpec.upto Rows.boundStraysSpec).bare))=true:=dD (by kernel_rfl)
theorem WN:(laidOutB Tryz.checked.prog)=true:=dD (by kernel_rfl)
theorem WO:(mapsRowed Tryz.checked.prog)=true:=dD (by kernel_rfl)
theorem WQ:(Tryz.f4.params.all (Tryz.checked.prog.readableRec ·))=true:=dD (by kernel_rfl)
theorem WR:(namedTie Tryz.checked.prog Rows.boundStraysUptoRow.named (Rows.OpenSpec.upto Rows.boundStraysSpec).bare.vars)=true:=dD (by kernel_rfl)
theorem WS:((Rows.boundStraysUptoRow.stops==[]))=true:=dD (by kernel_rfl)
theorem WT:((Tryz.checked.prog.stops==[]))=true:=dD (by kernel_rfl)
theorem WU:((Rows.boundStraysUptoRow.knobs==[]))=true:=dD (by kernel_rfl)
theorem WV:((Tryz.checked.prog.stopKnobs==[]))=true:=dD (by kernel_rfl)
theorem WW:((Rows.boundStraysUptoRow.inPlace==Tryz.checked.prog.inPlace 4))=true:=dD (by kernel_rfl)
theorem WX:((Rows.boundStraysUptoRow.unfollowed==Tryz.checked.prog.unfollowed 4))=true:=dD (by kernel_rfl)
theorem WY:((Rows.boundStraysUptoRow.recurses==Tryz.checked.prog.recurses 4))=true:=dD (by kernel_rfl)
theorem WZ:((Rows.boundStraysUptoRow.named==Tryz.checked.prog.varsNamed 4))=true:=dD (by kernel_rfl)
theorem W2:((Rows.boundStraysUptoRow.maps==(Tryz.f4.params.toList++(Rows.OpenSpec.upto Rows.boundStraysSpec).bare.plain.varTypes Tryz.checked.prog).any (Tryz.checked.prog.mapsRec ·)))=true:=dD (by kernel_rfl)
theorem W3:((Rows.boundStraysUptoRow.ifaces==(Tryz.f4.params.toList++(Rows.OpenSpec.upto Rows.boundStraysSpec).bare.plain.varTypes Tryz.checked.prog).any (Tryz.checked.prog.ifacesRec ·)))=true:=dD (by kernel_rfl)
theorem W4:((Rows.boundStraysUptoRow.mapsOut==Tryz.checked.prog.mapsAmong Tryz.f4.resultTypes.toList))=true:=dD (by kernel_rfl)
theorem W5:((Rows.boundStraysUptoRow.loops==(Tryz.f4.params.toList++(Rows.OpenSpec.upto Rows.boundStraysSpec).bare.plain.varTypes Tryz.checked.prog).any (Tryz.checked.prog.loopsFrom ·)))=true:=dD (by kernel_rfl)
theorem W6:((Rows.boundStraysUptoRow.wideKeys==(Tryz.f4.params.toList++(Rows.OpenSpec.upto Rows.boundStraysSpec).bare.plain.varTypes Tryz.checked.prog++Tryz.f4.resultTypes.toList).any (Tryz.checked.prog.wideKeysFrom ·)))=true:=dD (by kernel_rfl)
theorem W7:((Rows.OpenSpec.upto Rows.boundStraysSpec).bare.vars.all (Tryz.checked.prog.varReadable ·))=true:=dD (by kernel_rfl)
theorem W8:(Tryz.f4.resultTypes.all (λt=>Tryz.checked.prog.readableRec t&&decide (t<Tryz.checked.prog.types.size)))=true:=dD (by kernel_rfl)
theorem W9:((Rows.boundStraysUptoRow.ifacesOut==Tryz.f4.resultTypes.toList.any (Tryz.checked.prog.ifacesRec ·)))=true:=dD (by kernel_rfl)
theorem W_:((Rows.boundStraysUptoRow.loopsOut==Tryz.f4.resultTypes.toList.any (Tryz.checked.prog.loopsFrom ·)))=true:=dD (by kernel_rfl)
theorem Xa:((Rows.boundStraysUptoRow.plainKeys==Tryz.checked.prog.plainKeys))=true:=dD (by kernel_rfl)
theorem Xb:(Rows.boundStraysUptoRow.shortTexts.isNone)=true:=dD (by kernel_rfl)
theorem Xc:(Tryz.checked.prog.stopsHeard)=true:=dD (by kernel_rfl)
theorem Xd:(Tryz.checked.prog.mayEnter)=true:=dD (by kernel_rfl)
theorem Xe:((Rows.boundStraysUptoRow.lifted==Tryz.checked.prog.liftsFinal))=true:=dD (by kernel_rfl)
theorem Xf:((Tryz.checked.prog.make==some Rows.boundStraysUptoRow.make))=true:=dD (by kernel_rfl)
theorem Xg:((Rows.boundStraysUptoRow.pinned==Rows.boundStraysUptoRow.pinnedBy))=true:=dD (by kernel_rfl)
theorem Xh:((Rows.boundStraysUptoRow.veiled==(Tryz.f4.params.toList++(Rows.OpenSpec.upto Rows.boundStraysSpec).bare.plain.varTypes Tryz.checked.prog++Tryz.f4.resultTypes.toList).any (Tryz.checked.prog.veiledRec ·)))=true:=dD (by kernel_rfl)
theorem Xi:(Rows.boundStraysUptoRow.veiledFits Tryz.checked.prog Tryz.f4.params.toList (Tryz.f4.params.toList++(Rows.OpenSpec.upto Rows.boundStraysSpec).bare.plain.varTypes Tryz.checked.prog++Tryz.f4.resultTypes.toList))=true:=dD (by kernel_rfl)
theorem facts:joinedFacts Tryz.checked.prog 4 Tryz.f4 (Rows.OpenSpec.upto Rows.boundStraysSpec).bare Rows.boundStraysUptoRow=true:=by
 delta joinedFacts;refine and_intro (and_intro (and_intro (and_intro (and_intro (and_intro (and_intro (and_intro (and_intro (and_intro (and_intro (and_intro (and_intro (and_intro (and_intro (and_intro (and_intro (and_intro (and_intro (and_intro (and_intro (and_intro (and_intro (and_intro (and_intro (and_intro (and_intro (and_intro (and_intro (and_intro (and_intro WM WN) WO) WQ) WR) WS) WT) WU) WV) WW) WX) WY) WZ) W2) W3) W4) W5) W6) W7) W8) W9) W_) Xa) Xb) Xc) Xd) Xe) Xf) ?_) Xg) Xh) Xi;apply dD
 kernel_rfl
theorem row:Rows.BoundStraysUptoSaid:=
 adA 4 Tryz.f4 rfl rfl rfl rfl rfl rfl rfl ⟨rfl,rfl,rfl,rfl,rfl⟩ rfl rfl rfl rfl rfl (by kernel_rfl) Tryz.func4 facts
  (of_decide_eq_true (by kernel_rfl)) (by unfold Func.isWrapper;first|(rw[aa (by decide +kernel)];kernel_rfl)|(rw[ae (by decide +kernel)];exact⟨rfl,rfl⟩))
  (λos started H enc _ F=>by rw[adB];exact lifted os started H enc F)
end Go.Proofs.YteakojhgmhmdkaaGreatDoor.rb.boundStrays
