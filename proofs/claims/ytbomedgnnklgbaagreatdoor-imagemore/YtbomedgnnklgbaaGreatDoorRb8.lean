/- A part of the proof (part 8): see the last text. -/
import Derived.Test.YtbomedgnnklgbaaGreatDoorRb7
import Derived.Test.YtbomedgnnklgbaaGreatDoorRb4
import Derived.Deep.DeepHandedRow
import Derived.Deep.DeepWitnessRowRef
import Derived.JoinedCond
set_option linter.unusedVariables false
set_option linter.unusedSimpArgs false
open Go.OpenClaim renaming holds_of_cond→afk, pre_eq_preRow→afl
namespace Go.Proofs.YtbomedgnnklgbaaGreatDoor.rb.imageMore
open Rb Go.ChangeShapes Go.WideShapes Go.ChangeAt Go.RowKit
mutual
theorem bk{H:Type}:∀d:DataW H,dB d=Rows.uptoBulk d
 | .lit l=>by cases l<;>rfl
 | .nil=>rfl
 | .ptr d=>by rw[dB,Rows.uptoBulk,bk d]
 | .slice a b=>by rw[dB,Rows.uptoBulk,yc a,yc b]
 | .agg p=>by rw[dB,Rows.uptoBulk,yc p]
 | .iface _ d=>by rw[dB,Rows.uptoBulk,bk d]
 | .map e=>by rw[dB,Rows.uptoBulk,MD e]
 | .held _=>rfl
theorem yc{H:Type}:∀l:List (DataW H),kZ l=Rows.uptoBulkAll l
 |[]=>rfl
 |d::r=>by rw[kZ,Rows.uptoBulkAll,bk d,yc r]
theorem MD{H:Type}:∀l:List (Lit×DataW H),wO l=Rows.uptoBulkEntries l
 |[]=>rfl
 | (l,d)::r=>by rw[wO,Rows.uptoBulkEntries,MD r];cases l<;>rw[Je,Rows.uptoBulkEntry,bk d]<;>(intros;simp_all)
end
theorem bulk{H:Type}{a:DataW H}(b:Rows.uptoSmall H [a]=true):dB a≤1048576:=by have h:Rows.uptoBulkAll [a]≤1048576:=of_decide_eq_true b;rw[bk];simp only[Rows.uptoBulkAll]at h;omega
theorem reads(a:Os){H:Type}(enc:TypeId×Value→H):∃places,DataW.whole enc Tryz.prog ((C1 a).forCall (λ_ _=>0) ⟨#[],#[.agg #[.slice none 0 0,.slice none 0 0]],[]⟩).memory Tryz.f3.params.toList Rows.imageMoreSpec.vars false (#[.agg #[.slice none 0 0,.slice none 0 0]]:Array Value).toList 8=some ([.agg [.nil,.nil]],[],places):=⟨[],by kernel_rfl⟩
set_option maxRecDepth 100000 in
theorem lifted(a:Os)(l:a.Started)(H:Type)(enc:TypeId×Value→H)(F:Stop.Interp) :
  ReturnsInHanded {} Tryz.checked a 3 .any ((Rows.OpenSpec.upto Rows.imageMoreSpec).preRow enc Tryz.prog Tryz.f3 Rows.imageMoreUptoRow.domain false Rows.imageMoreUptoRow.laid) (((Rows.OpenSpec.upto Rows.imageMoreSpec).at F).post enc Tryz.prog Tryz.f3 false true false false):=by
 obtain⟨places,m⟩:=reads a enc;refine returnsInHanded_of_row (C:=Tryz.checked) (s:=Rows.OpenSpec.upto Rows.imageMoreSpec) own l (by kernel_rfl) Tryz.func3
  (witness_row_atRef (enc:=enc) (C:=Tryz.checked) false (C1 a) #[.agg #[.slice none 0 0,.slice none 0 0]] rfl (by kernel_rfl) (by kernel_rfl) (by kernel_rfl)
    (OpenSpec.preRow_of_cond 8 m (by kernel_rfl) (λk hk=>by cases hk;kernel_rfl) (by kernel_rfl) (YJ a #[.agg #[.slice none 0 0,.slice none 0 0]]))) ?_
 intro W base args ds gs before o b _ u w hL _ _;have c:∀(j:Nat) t v,Tryz.f3.params[j]?=some t→args[j]?=some v→Value.okWide Tryz.prog W .any base t v:=o;have x:=b;obtain⟨p,q,y,z,rfl,J,K⟩:=b;have d:DataW.TrodAll enc Tryz.prog W 0 (λ_=>true) true Tryz.f3.params.toList args.toList ds p:=y;have i:DataW.TrodVars enc Tryz.prog W (λ_=>true) [] gs q:=z;rw[Tryz.params3]at d c;obtain⟨v0,d0,rfl,rfl,A⟩:=trodAll_one d;obtain ⟨rfl,rfl⟩:gs=[]∧q=[]:=by
  cases gs with
  |nil=>exact⟨rfl,i⟩
  |cons g r=>exact absurd i (by intro h;cases h)
 have hB:=bulk (u _ rfl);obtain⟨L,rfl,_⟩:=okWide_struct Tryz.underlying25 (c 0 25 v0 rfl rfl);obtain⟨B,D,E,z0⟩:=bm.S8 (F:=C.F) YP A (λn G=>of_decide_eq_true (List.all_eq_true.1 w n (DataW.weights_mem_each (j:=0) rfl rfl n G)));refine(S3 (C:=C) (f:=3) (by kernel_rfl) (any B D (Nat.le_trans z0 hB)) (nk hL) (aP.one E.agg)).mono λe M ⟨he,I⟩=>?_;subst he;exact⟨_,rfl,Oi (bt:=4) x laidOut (by kernel_rfl) (by kernel_rfl) (by kernel_rfl) Tryz.underlying4 rfl I⟩
set_option maxRecDepth 100000
theorem and_intro{a b:Bool}(c:a=true)(d:b=true):(a&&b)=true:=by rw[c,d];rfl
theorem YQ:(Rows.imageMoreUptoRow.wf (OpenSpec.ofChange (Rows.OpenSpec.upto Rows.imageMoreSpec).bare))=true:=c4 (by kernel_rfl)
theorem YR:(laidOutB Tryz.checked.prog)=true:=c4 (by kernel_rfl)
theorem YS:(mapsRowed Tryz.checked.prog)=true:=c4 (by kernel_rfl)
theorem YT:(Tryz.f3.params.all (Tryz.checked.prog.readableRec ·))=true:=c4 (by kernel_rfl)
theorem YU:(namedTie Tryz.checked.prog Rows.imageMoreUptoRow.named (Rows.OpenSpec.upto Rows.imageMoreSpec).bare.vars)=true:=c4 (by kernel_rfl)
theorem YV:((Rows.imageMoreUptoRow.stops==[]))=true:=c4 (by kernel_rfl)
theorem YW:((Tryz.checked.prog.stops==[]))=true:=c4 (by kernel_rfl)
theorem YX:((Rows.imageMoreUptoRow.knobs==[]))=true:=c4 (by kernel_rfl)
theorem YY:((Tryz.checked.prog.stopKnobs==[]))=true:=c4 (by kernel_rfl)
theorem YZ:((Rows.imageMoreUptoRow.inPlace==Tryz.checked.prog.inPlace 3))=true:=c4 (by kernel_rfl)
theorem Y0:((Rows.imageMoreUptoRow.unfollowed==Tryz.checked.prog.unfollowed 3))=true:=c4 (by kernel_rfl)
theorem Y1:((Rows.imageMoreUptoRow.recurses==Tryz.checked.prog.recurses 3))=true:=c4 (by kernel_rfl)
theorem Y2:((Rows.imageMoreUptoRow.named==Tryz.checked.prog.varsNamed 3))=true:=c4 (by kernel_rfl)
theorem Y3:((Rows.imageMoreUptoRow.maps==(Tryz.f3.params.toList++(Rows.OpenSpec.upto Rows.imageMoreSpec).bare.plain.varTypes Tryz.checked.prog).any (Tryz.checked.prog.mapsRec ·)))=true:=c4 (by kernel_rfl)
theorem Y4:((Rows.imageMoreUptoRow.ifaces==(Tryz.f3.params.toList++(Rows.OpenSpec.upto Rows.imageMoreSpec).bare.plain.varTypes Tryz.checked.prog).any (Tryz.checked.prog.ifacesRec ·)))=true:=c4 (by kernel_rfl)
theorem Y5:((Rows.imageMoreUptoRow.mapsOut==Tryz.checked.prog.mapsAmong Tryz.f3.resultTypes.toList))=true:=c4 (by kernel_rfl)
theorem Y6:((Rows.imageMoreUptoRow.loops==(Tryz.f3.params.toList++(Rows.OpenSpec.upto Rows.imageMoreSpec).bare.plain.varTypes Tryz.checked.prog).any (Tryz.checked.prog.loopsFrom ·)))=true:=c4 (by kernel_rfl)
theorem Y7:((Rows.imageMoreUptoRow.wideKeys==(Tryz.f3.params.toList++(Rows.OpenSpec.upto Rows.imageMoreSpec).bare.plain.varTypes Tryz.checked.prog++Tryz.f3.resultTypes.toList).any (Tryz.checked.prog.wideKeysFrom ·)))=true:=c4 (by kernel_rfl)
theorem Y8:((Rows.OpenSpec.upto Rows.imageMoreSpec).bare.vars.all (Tryz.checked.prog.varReadable ·))=true:=c4 (by kernel_rfl)
theorem Y9:(Tryz.f3.resultTypes.all (λt=>Tryz.checked.prog.readableRec t&&decide (t<Tryz.checked.prog.types.size)))=true:=c4 (by kernel_rfl)
theorem Y_:((Rows.imageMoreUptoRow.ifacesOut==Tryz.f3.resultTypes.toList.any (Tryz.checked.prog.ifacesRec ·)))=true:=c4 (by kernel_rfl)
theorem Za:((Rows.imageMoreUptoRow.loopsOut==Tryz.f3.resultTypes.toList.any (Tryz.checked.prog.loopsFrom ·)))=true:=c4 (by kernel_rfl)
theorem Zb:((Rows.imageMoreUptoRow.plainKeys==Tryz.checked.prog.plainKeys))=true:=c4 (by kernel_rfl)
theorem Zc:(Rows.imageMoreUptoRow.shortTexts.isNone)=true:=c4 (by kernel_rfl)
theorem Zd:(Tryz.checked.prog.stopsHeard)=true:=c4 (by kernel_rfl)
theorem Ze:(Tryz.checked.prog.mayEnter)=true:=c4 (by kernel_rfl)
theorem Zf:((Rows.imageMoreUptoRow.lifted==Tryz.checked.prog.liftsFinal))=true:=c4 (by kernel_rfl)
theorem Zg:((Tryz.checked.prog.make==some Rows.imageMoreUptoRow.make))=true:=c4 (by kernel_rfl)
theorem Zh:((Rows.imageMoreUptoRow.pinned==Rows.imageMoreUptoRow.pinnedBy))=true:=c4 (by kernel_rfl)
theorem Zi:((Rows.imageMoreUptoRow.veiled==(Tryz.f3.params.toList++(Rows.OpenSpec.upto Rows.imageMoreSpec).bare.plain.varTypes Tryz.checked.prog++Tryz.f3.resultTypes.toList).any (Tryz.checked.prog.veiledRec ·)))=true:=c4 (by kernel_rfl)
theorem Zj:(Rows.imageMoreUptoRow.veiledFits Tryz.checked.prog Tryz.f3.params.toList (Tryz.f3.params.toList++(Rows.OpenSpec.upto Rows.imageMoreSpec).bare.plain.varTypes Tryz.checked.prog++Tryz.f3.resultTypes.toList))=true:=c4 (by kernel_rfl)
theorem facts:joinedFacts Tryz.checked.prog 3 Tryz.f3 (Rows.OpenSpec.upto Rows.imageMoreSpec).bare Rows.imageMoreUptoRow=true:=by
 delta joinedFacts;refine and_intro (and_intro (and_intro (and_intro (and_intro (and_intro (and_intro (and_intro (and_intro (and_intro (and_intro (and_intro (and_intro (and_intro (and_intro (and_intro (and_intro (and_intro (and_intro (and_intro (and_intro (and_intro (and_intro (and_intro (and_intro (and_intro (and_intro (and_intro (and_intro (and_intro (and_intro YQ YR) YS) YT) YU) YV) YW) YX) YY) YZ) Y0) Y1) Y2) Y3) Y4) Y5) Y6) Y7) Y8) Y9) Y_) Za) Zb) Zc) Zd) Ze) Zf) Zg) ?_) Zh) Zi) Zj;apply c4
 kernel_rfl
theorem row:Rows.ImageMoreUptoSaid:=
 afk 3 Tryz.f3 rfl rfl rfl rfl rfl rfl rfl ⟨rfl,rfl,rfl,rfl,rfl⟩ rfl rfl rfl rfl rfl (by kernel_rfl) Tryz.func3 facts
  (of_decide_eq_true (by kernel_rfl)) (by unfold Func.isWrapper;first|(rw[af (by decide +kernel)];kernel_rfl)|(rw[ak (by decide +kernel)];exact⟨rfl,rfl⟩))
  (λos started H enc _ F=>by rw[afl];exact lifted os started H enc F)
end Go.Proofs.YtbomedgnnklgbaaGreatDoor.rb.imageMore
