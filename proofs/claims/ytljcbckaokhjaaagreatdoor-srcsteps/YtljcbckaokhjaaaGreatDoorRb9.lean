/- A part of the proof (part 9): see the last text. -/
import Derived.Test.YtljcbckaokhjaaaGreatDoorRb8
import Derived.Test.YtljcbckaokhjaaaGreatDoorRb4
import Derived.Deep.DeepHandedRow
import Derived.Deep.DeepWitnessRowRef
import Derived.JoinedCond
set_option linter.unusedVariables false
set_option linter.unusedSimpArgs false
open Go.DataW renaming weights_mem_each→aeS
open Go.OpenClaim renaming holds_of_cond→aeT, pre_eq_preRow→aeU
open List renaming all_eq_true→aaB
open Bool renaming true→abZ
namespace Go.Proofs.YtljcbckaokhjaaaGreatDoor.rb.srcSteps
open Rb Go.ChangeShapes Go.WideShapes Go.ChangeAt Go.RowKit
mutual
theorem bk{H:Type}:∀d:DataW H,dB d=Rows.uptoBulk d
 | .lit l=>by cases l<;>rfl
 | .nil=>rfl
 | .ptr d=>by rw[dB,Rows.uptoBulk,bk d]
 | .slice a b=>by rw[dB,Rows.uptoBulk,zC a,zC b]
 | .agg p=>by rw[dB,Rows.uptoBulk,zC p]
 | .iface _ d=>by rw[dB,Rows.uptoBulk,bk d]
 | .map e=>by rw[dB,Rows.uptoBulk,N3 e]
 | .held _=>rfl
theorem zC{H:Type}:∀l:List (DataW H),lY l=Rows.uptoBulkAll l
 |[]=>rfl
 |d::r=>by rw[lY,Rows.uptoBulkAll,bk d,zC r]
theorem N3{H:Type}:∀l:List (Lit×DataW H),x7 l=Rows.uptoBulkEntries l
 |[]=>rfl
 | (l,d)::r=>by rw[x7,Rows.uptoBulkEntries,N3 r];cases l<;>rw[JH,Rows.uptoBulkEntry,bk d]<;>(intros;simp_all)
end
theorem bulk{H:Type}{a b:DataW H}(hk:Rows.uptoSmall H [a,b]=abZ):dB a<=1048576:=by have h:Rows.uptoBulkAll [a,b]<=1048576:=of_decide_eq_true hk;rw[bk];simp only[Rows.uptoBulkAll]at h;omega
theorem reads(a:Os){H:Type}(enc:TypeId×Value->H):∃places,DataW.whole enc Tryz.prog ((Ef a).forCall (λ_ _=>0) ⟨#[],#[.agg #[.slice none 0 0,.slice none 0 0],.slice none 0 0],[]⟩).memory Tryz.f3.params.toList Rows.srcStepsSpec.vars false (#[.agg #[.slice none 0 0,.slice none 0 0],.slice none 0 0]:Array Value).toList 8=some ([.agg [.nil,.nil],.nil],[],places):=⟨[],by kernel_rfl⟩
set_option maxRecDepth 100000 in
theorem lifted(a:Os)(m:a.Started)(H:Type)(enc:TypeId×Value->H)(F:Stop.Interp) :
  ReturnsInHanded {} Tryz.checked a 3 .any ((Rows.OpenSpec.upto Rows.srcStepsSpec).preRow enc Tryz.prog Tryz.f3 Rows.srcStepsUptoRow.domain false Rows.srcStepsUptoRow.laid) (((Rows.OpenSpec.upto Rows.srcStepsSpec).at F).post enc Tryz.prog Tryz.f3 false abZ false false):=by
 obtain⟨places,o⟩:=reads a enc;refine returnsInHanded_of_row (C:=Tryz.checked) (s:=Rows.OpenSpec.upto Rows.srcStepsSpec) own m (by kernel_rfl) Tryz.func3
  (witness_row_atRef (enc:=enc) (C:=Tryz.checked) false (Ef a) #[.agg #[.slice none 0 0,.slice none 0 0],.slice none 0 0] rfl (by kernel_rfl) (by kernel_rfl) (by kernel_rfl)
    (OpenSpec.preRow_of_cond 8 o (by kernel_rfl) (λk hk=>by cases hk;kernel_rfl) (by kernel_rfl) (YI a #[.agg #[.slice none 0 0,.slice none 0 0],.slice none 0 0]))) ?_
 intro W base args ds gs before u c _ w d x _ _;have b:∀(j:Nat) t v,Tryz.f3.params[j]?=some t->args[j]?=some v->Value.okWide Tryz.prog W .any base t v:=u;have y:=c;obtain⟨p,q,z,A,rfl,M,N⟩:=c;have i:DataW.TrodAll enc Tryz.prog W 0 (λ_=>abZ) abZ Tryz.f3.params.toList args.toList ds p:=z;have l:DataW.TrodVars enc Tryz.prog W (λ_=>abZ) [] gs q:=A;rw[Tryz.params3]at i b;obtain⟨v0,v1,d0,d1,O,P,rfl,rfl,rfl,B,U⟩:=trodAll_two i;obtain ⟨rfl,rfl⟩:gs=[]/\q=[]:=by
  cases gs with
  |nil=>exact⟨rfl,l⟩
  |cons g r=>exact absurd l (by intro h;cases h)
 have D:=bulk (w _ rfl);obtain⟨Q,rfl,_⟩:=okWide_struct Tryz.underlying25 (b 0 25 v0 rfl rfl);obtain⟨E,G,I,z0⟩:=bV.JM (F:=C.F) YO B (λn hn=>of_decide_eq_true (aaB.1 d n (aeS (j:=0) rfl rfl n hn)));obtain⟨c1,l1,R,rfl⟩:=okWide_slice Tryz.underlying26 (b 1 26 v1 rfl rfl);obtain⟨J,o1,K⟩:=bV.arg (F:=C.F) YP U (λn hn=>of_decide_eq_true (aaB.1 d n (aeS (j:=1) rfl rfl n hn)));refine(SA (C:=C) (f:=3) (by kernel_rfl) (any E G (Nat.le_trans z0 D) J o1.1 o1.2) (pk x) (bG.two I.agg (K.2 0 _ _ rfl rfl))).mono λe S ⟨he,L⟩=>?_;subst he;exact⟨_,rfl,Pr (bt:=4) y laidOut (by kernel_rfl) (by kernel_rfl) (by kernel_rfl) Tryz.underlying4 rfl L⟩
set_option maxRecDepth 100000
theorem and_intro{a b:Bool}(c:a=abZ)(d:b=abZ):(a&&b)=abZ:=by rw[c,d];rfl
theorem YQ:(Rows.srcStepsUptoRow.wf (OpenSpec.ofChange (Rows.OpenSpec.upto Rows.srcStepsSpec).bare))=abZ:=ea (by kernel_rfl)
theorem YR:(laidOutB Tryz.checked.prog)=abZ:=ea (by kernel_rfl)
theorem YS:(mapsRowed Tryz.checked.prog)=abZ:=ea (by kernel_rfl)
theorem YT:(Tryz.f3.params.all (Tryz.checked.prog.readableRec ·))=abZ:=ea (by kernel_rfl)
theorem YU:(namedTie Tryz.checked.prog Rows.srcStepsUptoRow.named (Rows.OpenSpec.upto Rows.srcStepsSpec).bare.vars)=abZ:=ea (by kernel_rfl)
theorem YV:((Rows.srcStepsUptoRow.stops==[]))=abZ:=ea (by kernel_rfl)
theorem YW:((Tryz.checked.prog.stops==[]))=abZ:=ea (by kernel_rfl)
theorem YX:((Rows.srcStepsUptoRow.knobs==[]))=abZ:=ea (by kernel_rfl)
theorem YY:((Tryz.checked.prog.stopKnobs==[]))=abZ:=ea (by kernel_rfl)
theorem YZ:((Rows.srcStepsUptoRow.inPlace==Tryz.checked.prog.inPlace 3))=abZ:=ea (by kernel_rfl)
theorem Y0:((Rows.srcStepsUptoRow.unfollowed==Tryz.checked.prog.unfollowed 3))=abZ:=ea (by kernel_rfl)
theorem Y1:((Rows.srcStepsUptoRow.recurses==Tryz.checked.prog.recurses 3))=abZ:=ea (by kernel_rfl)
theorem Y2:((Rows.srcStepsUptoRow.named==Tryz.checked.prog.varsNamed 3))=abZ:=ea (by kernel_rfl)
theorem Y3:((Rows.srcStepsUptoRow.maps==(Tryz.f3.params.toList++(Rows.OpenSpec.upto Rows.srcStepsSpec).bare.plain.varTypes Tryz.checked.prog).any (Tryz.checked.prog.mapsRec ·)))=abZ:=ea (by kernel_rfl)
theorem Y4:((Rows.srcStepsUptoRow.ifaces==(Tryz.f3.params.toList++(Rows.OpenSpec.upto Rows.srcStepsSpec).bare.plain.varTypes Tryz.checked.prog).any (Tryz.checked.prog.ifacesRec ·)))=abZ:=ea (by kernel_rfl)
theorem Y5:((Rows.srcStepsUptoRow.mapsOut==Tryz.checked.prog.mapsAmong Tryz.f3.resultTypes.toList))=abZ:=ea (by kernel_rfl)
theorem Y6:((Rows.srcStepsUptoRow.loops==(Tryz.f3.params.toList++(Rows.OpenSpec.upto Rows.srcStepsSpec).bare.plain.varTypes Tryz.checked.prog).any (Tryz.checked.prog.loopsFrom ·)))=abZ:=ea (by kernel_rfl)
theorem Y7:((Rows.srcStepsUptoRow.wideKeys==(Tryz.f3.params.toList++(Rows.OpenSpec.upto Rows.srcStepsSpec).bare.plain.varTypes Tryz.checked.prog++Tryz.f3.resultTypes.toList).any (Tryz.checked.prog.wideKeysFrom ·)))=abZ:=ea (by kernel_rfl)
theorem Y8:((Rows.OpenSpec.upto Rows.srcStepsSpec).bare.vars.all (Tryz.checked.prog.varReadable ·))=abZ:=ea (by kernel_rfl)
theorem Y9:(Tryz.f3.resultTypes.all (λt=>Tryz.checked.prog.readableRec t&&decide (t<Tryz.checked.prog.types.size)))=abZ:=ea (by kernel_rfl)
theorem Y_:((Rows.srcStepsUptoRow.ifacesOut==Tryz.f3.resultTypes.toList.any (Tryz.checked.prog.ifacesRec ·)))=abZ:=ea (by kernel_rfl)
theorem Za:((Rows.srcStepsUptoRow.loopsOut==Tryz.f3.resultTypes.toList.any (Tryz.checked.prog.loopsFrom ·)))=abZ:=ea (by kernel_rfl)
theorem Zb:((Rows.srcStepsUptoRow.plainKeys==Tryz.checked.prog.plainKeys))=abZ:=ea (by kernel_rfl)
theorem Zc:(Rows.srcStepsUptoRow.shortTexts.isNone)=abZ:=ea (by kernel_rfl)
theorem Zd:(Tryz.checked.prog.stopsHeard)=abZ:=ea (by kernel_rfl)
theorem Ze:(Tryz.checked.prog.mayEnter)=abZ:=ea (by kernel_rfl)
theorem Zf:((Rows.srcStepsUptoRow.lifted==Tryz.checked.prog.liftsFinal))=abZ:=ea (by kernel_rfl)
theorem Zg:((Tryz.checked.prog.make==some Rows.srcStepsUptoRow.make))=abZ:=ea (by kernel_rfl)
theorem Zh:((Rows.srcStepsUptoRow.pinned==Rows.srcStepsUptoRow.pinnedBy))=abZ:=ea (by kernel_rfl)
theorem Zi:((Rows.srcStepsUptoRow.veiled==(Tryz.f3.params.toList++(Rows.OpenSpec.upto Rows.srcStepsSpec).bare.plain.varTypes Tryz.checked.prog++Tryz.f3.resultTypes.toList).any (Tryz.checked.prog.veiledRec ·)))=abZ:=ea (by kernel_rfl)
theorem Zj:(Rows.srcStepsUptoRow.veiledFits Tryz.checked.prog Tryz.f3.params.toList (Tryz.f3.params.toList++(Rows.OpenSpec.upto Rows.srcStepsSpec).bare.plain.varTypes Tryz.checked.prog++Tryz.f3.resultTypes.toList))=abZ:=ea (by kernel_rfl)
theorem facts:joinedFacts Tryz.checked.prog 3 Tryz.f3 (Rows.OpenSpec.upto Rows.srcStepsSpec).bare Rows.srcStepsUptoRow=abZ:=by
 delta joinedFacts;refine and_intro (and_intro (and_intro (and_intro (and_intro (and_intro (and_intro (and_intro (and_intro (and_intro (and_intro (and_intro (and_intro (and_intro (and_intro (and_intro (and_intro (and_intro (and_intro (and_intro (and_intro (and_intro (and_intro (and_intro (and_intro (and_intro (and_intro (and_intro (and_intro (and_intro (and_intro YQ YR) YS) YT) YU) YV) YW) YX) YY) YZ) Y0) Y1) Y2) Y3) Y4) Y5) Y6) Y7) Y8) Y9) Y_) Za) Zb) Zc) Zd) Ze) Zf) Zg) ?_) Zh) Zi) Zj;apply ea
 kernel_rfl
theorem row:Rows.SrcStepsUptoSaid:=
 aeT 3 Tryz.f3 rfl rfl rfl rfl rfl rfl rfl ⟨rfl,rfl,rfl,rfl,rfl⟩ rfl rfl rfl rfl rfl (by kernel_rfl) Tryz.func3 facts
  (of_decide_eq_true (by kernel_rfl)) (by unfold Func.isWrapper;first|(rw[aa (by decide +kernel)];kernel_rfl)|(rw[ad (by decide +kernel)];exact⟨rfl,rfl⟩))
  (λos started H enc _ F=>by rw[aeU];exact lifted os started H enc F)
end Go.Proofs.YtljcbckaokhjaaaGreatDoor.rb.srcSteps
