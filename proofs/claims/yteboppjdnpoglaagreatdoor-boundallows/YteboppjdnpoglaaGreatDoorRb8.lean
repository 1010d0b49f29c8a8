/- A part of the proof (part 8): see the last text. -/
import Derived.Test.YteboppjdnpoglaaGreatDoorRb7
import Derived.Test.YteboppjdnpoglaaGreatDoorRb3
import Derived.Deep.DeepHandedRow
import Derived.Deep.DeepWitnessRowRef
import Derived.JoinedCond
set_option linter.unusedVariables false
set_option linter.unusedSimpArgs false
open Bool renaming false_eq_true→abW
open Go.IntKind renaming bits→aaz, max→adi, min→adh, signed→aay
open Go.OpenClaim renaming holds_of_cond→afz, pre_eq_preRow→afA
open Bool renaming true→acI
namespace Go.Proofs.YteboppjdnpoglaaGreatDoor.rb.boundAllows
open Rb Go.ChangeShapes Go.WideShapes Go.ChangeAt Go.RowKit
mutual
theorem bk{H:Type}:∀d:DataW H,dB d=Rows.uptoBulk d
 | .lit l=>by cases l<;>rfl
 | .nil=>rfl
 | .ptr d=>by rw[dB,Rows.uptoBulk,bk d]
 | .slice a b=>by rw[dB,Rows.uptoBulk,zJ a,zJ b]
 | .agg p=>by rw[dB,Rows.uptoBulk,zJ p]
 | .iface _ d=>by rw[dB,Rows.uptoBulk,bk d]
 | .map e=>by rw[dB,Rows.uptoBulk,N8 e]
 | .held _=>rfl
theorem zJ{H:Type}:∀l:List (DataW H),lQ l=Rows.uptoBulkAll l
 |[]=>rfl
 |d::r=>by rw[lQ,Rows.uptoBulkAll,bk d,zJ r]
theorem N8{H:Type}:∀l:List (Lit×DataW H),x8 l=Rows.uptoBulkEntries l
 |[]=>rfl
 | (l,d)::r=>by rw[x8,Rows.uptoBulkEntries,N8 r];cases l<;>rw[Jq,Rows.uptoBulkEntry,bk d]<;>(intros;simp_all)
end
theorem bulk{H:Type}{a b d2:DataW H}(c:Rows.uptoSmall H [a,b,d2]=acI):dB a<=1048576:=by have h:Rows.uptoBulkAll [a,b,d2]<=1048576:=of_decide_eq_true c;rw[bk];simp only[Rows.uptoBulkAll]at h;omega
theorem reads(a:Os){H:Type}(enc:TypeId×Value->H):∃places,DataW.whole enc Tryz.prog ((DV a).forCall (λ_ _=>0) ⟨#[],#[.agg #[.slice none 0 0,.slice none 0 0],.int .i64 0,.int .i64 0],[]⟩).memory Tryz.f3.params.toList Rows.boundAllowsSpec.vars false (#[.agg #[.slice none 0 0,.slice none 0 0],.int .i64 0,.int .i64 0]:Array Value).toList 8=some ([.agg [.nil,.nil],.lit (.int .i64 0),.lit (.int .i64 0)],[],places):=⟨[],by kernel_rfl⟩
set_option maxRecDepth 100000 in
theorem lifted(a:Os)(i:a.Started)(H:Type)(enc:TypeId×Value->H)(F:Stop.Interp) :
  ReturnsInHanded {} Tryz.checked a 3 .any ((Rows.OpenSpec.upto Rows.boundAllowsSpec).preRow enc Tryz.prog Tryz.f3 Rows.boundAllowsUptoRow.domain false Rows.boundAllowsUptoRow.laid) (((Rows.OpenSpec.upto Rows.boundAllowsSpec).at F).post enc Tryz.prog Tryz.f3 false acI false false):=by
 obtain⟨places,l⟩:=reads a enc;refine returnsInHanded_of_row (C:=Tryz.checked) (s:=Rows.OpenSpec.upto Rows.boundAllowsSpec) own i (by kernel_rfl) Tryz.func3
  (witness_row_atRef (enc:=enc) (C:=Tryz.checked) false (DV a) #[.agg #[.slice none 0 0,.slice none 0 0],.int .i64 0,.int .i64 0] rfl (by kernel_rfl) (by kernel_rfl) (by kernel_rfl)
    (OpenSpec.preRow_of_cond 8 l (by kernel_rfl) (λk hk=>by cases hk;kernel_rfl) (by kernel_rfl) (Zk a #[.agg #[.slice none 0 0,.slice none 0 0],.int .i64 0,.int .i64 0]))) ?_
 intro W base args ds gs before m hW _ o u w _ _;have b:∀(j:Nat) t v,Tryz.f3.params[j]?=some t->args[j]?=some v->Value.okWide Tryz.prog W .any base t v:=m;have x:=hW;obtain⟨p,q,y,z,rfl,J,K⟩:=hW;have c:DataW.TrodAll enc Tryz.prog W 0 (λ_=>acI) acI Tryz.f3.params.toList args.toList ds p:=y;have d:DataW.TrodVars enc Tryz.prog W (λ_=>acI) [] gs q:=z;rw[Tryz.params3]at c b;obtain⟨v0,v1,v2,d0,d1,d2,p0,L,N,rfl,rfl,rfl,A,h1,B⟩:=trodAll_three c;obtain ⟨rfl,rfl⟩:gs=[]/\q=[]:=by
  cases gs with
  |nil=>exact⟨rfl,d⟩
  |cons g r=>exact absurd d (by intro h;cases h)
 have hB:=bulk (o _ rfl);obtain⟨O,rfl,_⟩:=okWide_struct Tryz.underlying25 (b 0 25 v0 rfl rfl);obtain⟨D,E,G,z0⟩:=bN.SN (F:=C.F) Zr A (λn hn=>of_decide_eq_true (List.all_eq_true.1 u n (DataW.weights_mem_each (j:=0) rfl rfl n hn)));obtain⟨M,rfl,rfl,rfl,w1⟩:=open_int Tryz.underlying3 (b 1 3 v1 rfl rfl) h1;have b1:adh .i64<=M/\M<=adi .i64:=by simpa[Lit.wf]using w1
 simp only[adh,adi,aay,aaz,bc,b4,abW]at b1;obtain⟨a2,rfl,rfl,rfl,w2⟩:=open_int Tryz.underlying3 (b 2 3 v2 rfl rfl) B;have b2:adh .i64<=a2/\a2<=adi .i64:=by simpa[Lit.wf]using w2
 simp only[adh,adi,aay,aaz,bc,b4,abW]at b2;refine(SI (C:=C) (f:=3) (by kernel_rfl) (any D E (Nat.le_trans z0 hB) M (by omega) (by omega) a2 (by omega) (by omega)) (o7 w) (be.three G.agg (.int _ _) (.int _ _))).mono λe W' ⟨he,I⟩=>?_;subst he;exact⟨_,rfl,Px (bt:=4) x laidOut (by kernel_rfl) (by kernel_rfl) (by kernel_rfl) Tryz.underlying4 rfl I⟩
set_option maxRecDepth 100000
theorem and_intro{a b:Bool}(ha:a=acI)(U:b=acI):(a&&b)=acI:=by rw[ha,U];rfl
theorem Zs:(Rows.boundAllowsUptoRow.wf (OpenSpec.ofChange (Rows.OpenSpec.upto Rows.boundAllowsSpec).bare))=acI:=er (by kernel_rfl)
theorem Zt:(laidOutB Tryz.checked.prog)=acI:=er (by kernel_rfl)
theorem Zu:(mapsRowed Tryz.checked.prog)=acI:=er (by kernel_rfl)
theorem Zv:(Tryz.f3.params.all (Tryz.checked.prog.readableRec ·))=acI:=er (by kernel_rfl)
theorem Zw:(namedTie Tryz.checked.prog Rows.boundAllowsUptoRow.named (Rows.OpenSpec.upto Rows.boundAllowsSpec).bare.vars)=acI:=er (by kernel_rfl)
theorem Zx:((Rows.boundAllowsUptoRow.stops==[]))=acI:=er (by kernel_rfl)
theorem Zy:((Tryz.checked.prog.stops==[]))=acI:=er (by kernel_rfl)
theorem Zz:((Rows.boundAllowsUptoRow.knobs==[]))=acI:=er (by kernel_rfl)
theorem ZA:((Tryz.checked.prog.stopKnobs==[]))=acI:=er (by kernel_rfl)
theorem ZB:((Rows.boundAllowsUptoRow.inPlace==Tryz.checked.prog.inPlace 3))=acI:=er (by kernel_rfl)
theorem ZC:((Rows.boundAllowsUptoRow.unfollowed==Tryz.checked.prog.unfollowed 3))=acI:=er (by kernel_rfl)
theorem ZD:((Rows.boundAllowsUptoRow.recurses==Tryz.checked.prog.recurses 3))=acI:=er (by kernel_rfl)
theorem ZE:((Rows.boundAllowsUptoRow.named==Tryz.checked.prog.varsNamed 3))=acI:=er (by kernel_rfl)
theorem ZF:((Rows.boundAllowsUptoRow.maps==(Tryz.f3.params.toList++(Rows.OpenSpec.upto Rows.boundAllowsSpec).bare.plain.varTypes Tryz.checked.prog).any (Tryz.checked.prog.mapsRec ·)))=acI:=er (by kernel_rfl)
theorem ZG:((Rows.boundAllowsUptoRow.ifaces==(Tryz.f3.params.toList++(Rows.OpenSpec.upto Rows.boundAllowsSpec).bare.plain.varTypes Tryz.checked.prog).any (Tryz.checked.prog.ifacesRec ·)))=acI:=er (by kernel_rfl)
theorem ZH:((Rows.boundAllowsUptoRow.mapsOut==Tryz.checked.prog.mapsAmong Tryz.f3.resultTypes.toList))=acI:=er (by kernel_rfl)
theorem ZI:((Rows.boundAllowsUptoRow.loops==(Tryz.f3.params.toList++(Rows.OpenSpec.upto Rows.boundAllowsSpec).bare.plain.varTypes Tryz.checked.prog).any (Tryz.checked.prog.loopsFrom ·)))=acI:=er (by kernel_rfl)
theorem ZJ:((Rows.boundAllowsUptoRow.wideKeys==(Tryz.f3.params.toList++(Rows.OpenSpec.upto Rows.boundAllowsSpec).bare.plain.varTypes Tryz.checked.prog++Tryz.f3.resultTypes.toList).any (Tryz.checked.prog.wideKeysFrom ·)))=acI:=er (by kernel_rfl)
theorem ZK:((Rows.OpenSpec.upto Rows.boundAllowsSpec).bare.vars.all (Tryz.checked.prog.varReadable ·))=acI:=er (by kernel_rfl)
theorem ZL:(Tryz.f3.resultTypes.all (λt=>Tryz.checked.prog.readableRec t&&decide (t<Tryz.checked.prog.types.size)))=acI:=er (by kernel_rfl)
theorem ZM:((Rows.boundAllowsUptoRow.ifacesOut==Tryz.f3.resultTypes.toList.any (Tryz.checked.prog.ifacesRec ·)))=acI:=er (by kernel_rfl)
theorem ZN:((Rows.boundAllowsUptoRow.loopsOut==Tryz.f3.resultTypes.toList.any (Tryz.checked.prog.loopsFrom ·)))=acI:=er (by kernel_rfl)
theorem ZO:((Rows.boundAllowsUptoRow.plainKeys==Tryz.checked.prog.plainKeys))=acI:=er (by kernel_rfl)
theorem ZP:(Rows.boundAllowsUptoRow.shortTexts.isNone)=acI:=er (by kernel_rfl)
theorem ZQ:(Tryz.checked.prog.stopsHeard)=acI:=er (by kernel_rfl)
theorem ZR:(Tryz.checked.prog.mayEnter)=acI:=er (by kernel_rfl)
theorem ZS:((Rows.boundAllowsUptoRow.lifted==Tryz.checked.prog.liftsFinal))=acI:=er (by kernel_rfl)
theorem ZT:((Tryz.checked.prog.make==some Rows.boundAllowsUptoRow.make))=acI:=er (by kernel_rfl)
theorem ZU:((Rows.boundAllowsUptoRow.pinned==Rows.boundAllowsUptoRow.pinnedBy))=acI:=er (by kernel_rfl)
theorem ZV:((Rows.boundAllowsUptoRow.veiled==(Tryz.f3.params.toList++(Rows.OpenSpec.upto Rows.boundAllowsSpec).bare.plain.varTypes Tryz.checked.prog++Tryz.f3.resultTypes.toList).any (Tryz.checked.prog.veiledRec ·)))=acI:=er (by kernel_rfl)
theorem ZW:(Rows.boundAllowsUptoRow.veiledFits Tryz.checked.prog Tryz.f3.params.toList (Tryz.f3.params.toList++(Rows.OpenSpec.upto Rows.boundAllowsSpec).bare.plain.varTypes Tryz.checked.prog++Tryz.f3.resultTypes.toList))=acI:=er (by kernel_rfl)
theorem facts:joinedFacts Tryz.checked.prog 3 Tryz.f3 (Rows.OpenSpec.upto Rows.boundAllowsSpec).bare Rows.boundAllowsUptoRow=acI:=by
 delta joinedFacts;refine and_intro (and_intro (and_intro (and_intro (and_intro (and_intro (and_intro (and_intro (and_intro (and_intro (and_intro (and_intro (and_intro (and_intro (and_intro (and_intro (and_intro (and_intro (and_intro (and_intro (and_intro (and_intro (and_intro (and_intro (and_intro (and_intro (and_intro (and_intro (and_intro (and_intro (and_intro Zs Zt) Zu) Zv) Zw) Zx) Zy) Zz) ZA) ZB) ZC) ZD) ZE) ZF) ZG) ZH) ZI) ZJ) ZK) ZL) ZM) ZN) ZO) ZP) ZQ) ZR) ZS) ZT) ?_) ZU) ZV) ZW;apply er
 kernel_rfl
theorem row:Rows.BoundAllowsUptoSaid:=
 afz 3 Tryz.f3 rfl rfl rfl rfl rfl rfl rfl ⟨rfl,rfl,rfl,rfl,rfl⟩ rfl rfl rfl rfl rfl (by kernel_rfl) Tryz.func3 facts
  (of_decide_eq_true (by kernel_rfl)) (by unfold Func.isWrapper;first|(rw[ab (by decide +kernel)];kernel_rfl)|(rw[af (by decide +kernel)];exact⟨rfl,rfl⟩))
  (λos started H enc _ F=>by rw[afA];exact lifted os started H enc F)
end Go.Proofs.YteboppjdnpoglaaGreatDoor.rb.boundAllows
