/- A part of the proof (part 8): see the last text. -/
import Derived.Test.YtbjhdakiiedmcaaGreatDoorRb7
import Derived.Test.YtbjhdakiiedmcaaGreatDoorRb4
import Derived.Deep.DeepHandedRow
import Derived.Deep.DeepWitnessRowRef
import Derived.JoinedCond
set_option linter.unusedVariables false
set_option linter.unusedSimpArgs false
namespace Go.Proofs.YtbjhdakiiedmcaaGreatDoor.rb.lowerThreads
open Rb Go.ChangeShapes Go.WideShapes Go.ChangeAt Go.RowKit
mutual
theorem bk{H:Type}:∀d:DataW H,dB d=Rows.uptoBulk d
 | .lit l=>by cases l<;>rfl
 | .nil=>rfl
 | .ptr d=>by rw[dB,Rows.uptoBulk,bk d]
 | .slice a b=>by rw[dB,Rows.uptoBulk,Rf a,Rf b]
 | .agg p=>by rw[dB,Rows.uptoBulk,Rf p]
 | .iface _ d=>by rw[dB,Rows.uptoBulk,bk d]
 | .map e=>by rw[dB,Rows.uptoBulk,bke e]
 | .held _=>rfl
theorem Rf{H:Type}:∀l:List (DataW H),xY l=Rows.uptoBulkAll l
 |[]=>rfl
 |d::r=>by rw[xY,Rows.uptoBulkAll,bk d,Rf r]
theorem bke{H:Type}:∀l:List (Lit×DataW H),Rj l=Rows.uptoBulkEntries l
 |[]=>rfl
 | (l,d)::r=>by rw[Rj,Rows.uptoBulkEntries,bke r];cases l<;>rw[dBx,Rows.uptoBulkEntry,bk d]<;>(intros;simp_all)
end
theorem bulk{H:Type}{d0 d1:DataW H}(hk:Rows.uptoSmall H [d0,d1]=true):dB d0≤1048576:=by have h:Rows.uptoBulkAll [d0,d1]≤1048576:=of_decide_eq_true hk;rw[bk];simp only[Rows.uptoBulkAll]at h;omega
theorem reads(os:Os){H:Type}(enc:TypeId×Value→H):∃places,DataW.whole enc Tryz.prog ((SQ os).forCall (fun _ _=>0) ⟨#[],#[.agg #[.slice none 0 0,.slice none 0 0],.int .i64 0],[]⟩).memory Tryz.f3.params.toList Rows.lowerThreadsSpec.vars false (#[.agg #[.slice none 0 0,.slice none 0 0],.int .i64 0]:Array Value).toList 8=some ([.agg [.nil,.nil],.lit (.int .i64 0)],[],places):=⟨[],by kernel_rfl⟩
set_option maxRecDepth 100000 in
theorem lifted(os:Os)(started:os.Started)(H:Type)(enc:TypeId×Value→H)(F:Stop.Interp) :
  ReturnsInHanded {} Tryz.checked os 3 .any ((Rows.OpenSpec.upto Rows.lowerThreadsSpec).preRow enc Tryz.prog Tryz.f3 Rows.lowerThreadsUptoRow.domain false Rows.lowerThreadsUptoRow.laid) (((Rows.OpenSpec.upto Rows.lowerThreadsSpec).at F).post enc Tryz.prog Tryz.f3 false true false false):=by
 obtain⟨places,hx⟩:=reads os enc;refine returnsInHanded_of_row (C:=Tryz.checked) (s:=Rows.OpenSpec.upto Rows.lowerThreadsSpec) own started (by kernel_rfl) Tryz.func3
  (witness_row_atRef (enc:=enc) (C:=Tryz.checked) false (SQ os) #[.agg #[.slice none 0 0,.slice none 0 0],.int .i64 0] rfl (by kernel_rfl) (by kernel_rfl) (by kernel_rfl)
    (OpenSpec.preRow_of_cond 8 hx (by kernel_rfl) (fun k hk=>by cases hk;kernel_rfl) (by kernel_rfl) (anO os #[.agg #[.slice none 0 0,.slice none 0 0],.int .i64 0]))) ?_
 intro W base args ds gs before avy hW _ avj gN hL _ _;have WK:∀(j:Nat) t v,Tryz.f3.params[j]?=some t→args[j]?=some v→Value.okWide Tryz.prog W .any base t v:=avy;have X8:=hW;obtain⟨p,q,hA0,X7,rfl,Rr,Ym⟩:=hW;have hA:DataW.TrodAll enc Tryz.prog W 0 (fun _=>true) true Tryz.f3.params.toList args.toList ds p:=hA0;have hV:DataW.TrodVars enc Tryz.prog W (fun _=>true) [] gs q:=X7;rw[Tryz.params3]at hA WK;obtain⟨v0,v1,d0,d1,p0,p1,rfl,rfl,rfl,h0,h1⟩:=trodAll_two hA;obtain ⟨rfl,rfl⟩:gs=[]∧q=[]:=by
  cases gs with
  |nil=>exact⟨rfl,hV⟩
  |cons g r=>exact absurd hV (by intro h;cases h)
 have hB:=bulk (avj _ rfl);obtain⟨c0,rfl,_⟩:=okWide_struct Tryz.underlying25 (WK 0 25 v0 rfl rfl);obtain⟨x0,o0,k0,z0⟩:=bY.aws (F:=C.F) ao2 h0 (fun n hn=>of_decide_eq_true (List.all_eq_true.1 gN n (DataW.weights_mem_each (j:=0) rfl rfl n hn)));obtain⟨a1,rfl,rfl,rfl,w1⟩:=open_int Tryz.underlying3 (WK 1 3 v1 rfl rfl) h1;have b1:IntKind.min .i64≤a1∧a1≤IntKind.max .i64:=by simpa[Lit.wf]using w1
 simp only[IntKind.min,IntKind.max,IntKind.signed,IntKind.bits,if_true,if_false,Bool.false_eq_true]at b1;refine(amP (C:=C) (f:=3) (by kernel_rfl) (any x0 o0 (Nat.le_trans z0 hB) a1 (by omega) (by omega)) (Dc hL) (bo.two k0.agg (.int _ _))).mono fun e W' ⟨he,awN⟩=>?_;subst he;exact⟨_,rfl,am4 (bt:=4) X8 laidOut (by kernel_rfl) (by kernel_rfl) (by kernel_rfl) Tryz.underlying4 rfl awN⟩
set_option maxRecDepth 100000
theorem and_intro{a b:Bool}(ha:a=true)(hb:b=true):(a&&b)=true:=by rw[ha,hb];rfl
theorem auX:(Rows.lowerThreadsUptoRow.wf (OpenSpec.ofChange (Rows.OpenSpec.upto Rows.lowerThreadsSpec).bare))=true:=gy (by kernel_rfl)
theorem auY:(laidOutB Tryz.checked.prog)=true:=gy (by kernel_rfl)
theorem auZ:(mapsRowed Tryz.checked.prog)=true:=gy (by kernel_rfl)
theorem au0:(Tryz.f3.params.all (Tryz.checked.prog.readableRec ·))=true:=gy (by kernel_rfl)
theorem au1:(namedTie Tryz.checked.prog Rows.lowerThreadsUptoRow.named (Rows.OpenSpec.upto Rows.lowerThreadsSpec).bare.vars)=true:=gy (by kernel_rfl)
theorem au2:((Rows.lowerThreadsUptoRow.stops==[]))=true:=gy (by kernel_rfl)
theorem au3:((Tryz.checked.prog.stops==[]))=true:=gy (by kernel_rfl)
theorem au4:((Rows.lowerThreadsUptoRow.knobs==[]))=true:=gy (by kernel_rfl)
theorem au5:((Tryz.checked.prog.stopKnobs==[]))=true:=gy (by kernel_rfl)
theorem au6:((Rows.lowerThreadsUptoRow.inPlace==Tryz.checked.prog.inPlace 3))=true:=gy (by kernel_rfl)
theorem atp:((Rows.lowerThreadsUptoRow.unfollowed==Tryz.checked.prog.unfollowed 3))=true:=gy (by kernel_rfl)
theorem atq:((Rows.lowerThreadsUptoRow.recurses==Tryz.checked.prog.recurses 3))=true:=gy (by kernel_rfl)
theorem atr:((Rows.lowerThreadsUptoRow.named==Tryz.checked.prog.varsNamed 3))=true:=gy (by kernel_rfl)
theorem ats:((Rows.lowerThreadsUptoRow.maps==(Tryz.f3.params.toList++(Rows.OpenSpec.upto Rows.lowerThreadsSpec).bare.plain.varTypes Tryz.checked.prog).any (Tryz.checked.prog.mapsRec ·)))=true:=gy (by kernel_rfl)
theorem att:((Rows.lowerThreadsUptoRow.ifaces==(Tryz.f3.params.toList++(Rows.OpenSpec.upto Rows.lowerThreadsSpec).bare.plain.varTypes Tryz.checked.prog).any (Tryz.checked.prog.ifacesRec ·)))=true:=gy (by kernel_rfl)
theorem atu:((Rows.lowerThreadsUptoRow.mapsOut==Tryz.checked.prog.mapsAmong Tryz.f3.resultTypes.toList))=true:=gy (by kernel_rfl)
theorem atv:((Rows.lowerThreadsUptoRow.loops==(Tryz.f3.params.toList++(Rows.OpenSpec.upto Rows.lowerThreadsSpec).bare.plain.varTypes Tryz.checked.prog).any (Tryz.checked.prog.loopsFrom ·)))=true:=gy (by kernel_rfl)
theorem atw:((Rows.lowerThreadsUptoRow.wideKeys==(Tryz.f3.params.toList++(Rows.OpenSpec.upto Rows.lowerThreadsSpec).bare.plain.varTypes Tryz.checked.prog++Tryz.f3.resultTypes.toList).any (Tryz.checked.prog.wideKeysFrom ·)))=true:=gy (by kernel_rfl)
theorem atx:((Rows.OpenSpec.upto Rows.lowerThreadsSpec).bare.vars.all (Tryz.checked.prog.varReadable ·))=true:=gy (by kernel_rfl)
theorem aty:(Tryz.f3.resultTypes.all (fun t=>Tryz.checked.prog.readableRec t&&decide (t<Tryz.checked.prog.types.size)))=true:=gy (by kernel_rfl)
theorem atz:((Rows.lowerThreadsUptoRow.ifacesOut==Tryz.f3.resultTypes.toList.any (Tryz.checked.prog.ifacesRec ·)))=true:=gy (by kernel_rfl)
theorem atA:((Rows.lowerThreadsUptoRow.loopsOut==Tryz.f3.resultTypes.toList.any (Tryz.checked.prog.loopsFrom ·)))=true:=gy (by kernel_rfl)
theorem atB:((Rows.lowerThreadsUptoRow.plainKeys==Tryz.checked.prog.plainKeys))=true:=gy (by kernel_rfl)
theorem atC:(Rows.lowerThreadsUptoRow.shortTexts.isNone)=true:=gy (by kernel_rfl)
theorem atD:(Tryz.checked.prog.stopsHeard)=true:=gy (by kernel_rfl)
theorem atE:(Tryz.checked.prog.mayEnter)=true:=gy (by kernel_rfl)
theorem atF:((Rows.lowerThreadsUptoRow.lifted==Tryz.checked.prog.liftsFinal))=true:=gy (by kernel_rfl)
theorem atG:((Tryz.checked.prog.make==some Rows.lowerThreadsUptoRow.make))=true:=gy (by kernel_rfl)
theorem atH:((Rows.lowerThreadsUptoRow.pinned==Rows.lowerThreadsUptoRow.pinnedBy))=true:=gy (by kernel_rfl)
theorem atI:((Rows.lowerThreadsUptoRow.veiled==(Tryz.f3.params.toList++(Rows.OpenSpec.upto Rows.lowerThreadsSpec).bare.plain.varTypes Tryz.checked.prog++Tryz.f3.resultTypes.toList).any (Tryz.checked.prog.veiledRec ·)))=true:=gy (by kernel_rfl)
theorem atJ:(Rows.lowerThreadsUptoRow.veiledFits Tryz.checked.prog Tryz.f3.params.toList (Tryz.f3.params.toList++(Rows.OpenSpec.upto Rows.lowerThreadsSpec).bare.plain.varTypes Tryz.checked.prog++Tryz.f3.resultTypes.toList))=true:=gy (by kernel_rfl)
theorem facts:joinedFacts Tryz.checked.prog 3 Tryz.f3 (Rows.OpenSpec.upto Rows.lowerThreadsSpec).bare Rows.lowerThreadsUptoRow=true:=by
 delta joinedFacts;refine and_intro (and_intro (and_intro (and_intro (and_intro (and_intro (and_intro (and_intro (and_intro (and_intro (and_intro (and_intro (and_intro (and_intro (and_intro (and_intro (and_intro (and_intro (and_intro (and_intro (and_intro (and_intro (and_intro (and_intro (and_intro (and_intro (and_intro (and_intro (and_intro (and_intro (and_intro auX auY) auZ) au0) au1) au2) au3) au4) au5) au6) atp) atq) atr) ats) att) atu) atv) atw) atx) aty) atz) atA) atB) atC) atD) atE) atF) atG) ?_) atH) atI) atJ;apply gy
 kernel_rfl
theorem row:Rows.LowerThreadsUptoSaid:=
 OpenClaim.holds_of_cond 3 Tryz.f3 rfl rfl rfl rfl rfl rfl rfl ⟨rfl,rfl,rfl,rfl,rfl⟩ rfl rfl rfl rfl rfl (by kernel_rfl) Tryz.func3 facts
  (of_decide_eq_true (by kernel_rfl)) (by unfold Func.isWrapper;first|(rw[if_pos (by decide +kernel)];kernel_rfl)|(rw[if_neg (by decide +kernel)];exact⟨rfl,rfl⟩))
  (fun os started H enc _ F=>by rw[OpenClaim.pre_eq_preRow];exact lifted os started H enc F)
end Go.Proofs.YtbjhdakiiedmcaaGreatDoor.rb.lowerThreads
