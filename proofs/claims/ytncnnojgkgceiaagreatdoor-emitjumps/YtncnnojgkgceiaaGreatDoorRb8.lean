/- A part of the proof (part 8): see the last text. -/
import Derived.Test.YtncnnojgkgceiaaGreatDoorRb7
import Derived.Test.YtncnnojgkgceiaaGreatDoorRb4
import Derived.Deep.DeepHandedRow
import Derived.Deep.DeepWitnessRowRef
import Derived.JoinedCond
set_option linter.unusedVariables false
set_option linter.unusedSimpArgs false
open Bool renaming false_eq_true→acq
open Go.IntKind renaming bits→aaH, max→ad5, min→ad4, signed→aaG
open Go.OpenClaim renaming holds_of_cond→afG, pre_eq_preRow→afH
namespace Go.Proofs.YtncnnojgkgceiaaGreatDoor.rb.emitJumps
open Rb Go.ChangeShapes Go.WideShapes Go.ChangeAt Go.RowKit
mutual
theorem bk{H:Type}:∀d:DataW H,dB d=Rows.uptoBulk d
 | .lit l=>by cases l<;>rfl
 | .nil=>rfl
 | .ptr d=>by rw[dB,Rows.uptoBulk,bk d]
 | .slice a b=>by rw[dB,Rows.uptoBulk,yw a,yw b]
 | .agg p=>by rw[dB,Rows.uptoBulk,yw p]
 | .iface _ d=>by rw[dB,Rows.uptoBulk,bk d]
 | .map e=>by rw[dB,Rows.uptoBulk,MU e]
 | .held _=>rfl
theorem yw{H:Type}:∀l:List (DataW H),kZ l=Rows.uptoBulkAll l
 |[]=>rfl
 |d::r=>by rw[kZ,Rows.uptoBulkAll,bk d,yw r]
theorem MU{H:Type}:∀l:List (Lit×DataW H),w9 l=Rows.uptoBulkEntries l
 |[]=>rfl
 | (l,d)::r=>by rw[w9,Rows.uptoBulkEntries,MU r];cases l<;>rw[Jv,Rows.uptoBulkEntry,bk d]<;>(intros;simp_all)
end
theorem bulk{H:Type}{a b d2:DataW H}(c:Rows.uptoSmall H [a,b,d2]=true):dB a≤1048576:=by have h:Rows.uptoBulkAll [a,b,d2]≤1048576:=of_decide_eq_true c;rw[bk];simp only[Rows.uptoBulkAll]at h;omega
theorem reads(a:Os){H:Type}(enc:TypeId×Value→H):∃places,DataW.whole enc Tryz.prog ((Df a).forCall (λ_ _=>0) ⟨#[],#[.agg #[.slice none 0 0,.slice none 0 0],.int .i64 0,.int .u8 0],[]⟩).memory Tryz.f3.params.toList Rows.emitJumpsSpec.vars false (#[.agg #[.slice none 0 0,.slice none 0 0],.int .i64 0,.int .u8 0]:Array Value).toList 8=some ([.agg [.nil,.nil],.lit (.int .i64 0),.lit (.int .u8 0)],[],places):=⟨[],by kernel_rfl⟩
set_option maxRecDepth 100000 in
theorem lifted(a:Os)(l:a.Started)(H:Type)(enc:TypeId×Value→H)(F:Stop.Interp) :
  ReturnsInHanded {} Tryz.checked a 3 .any ((Rows.OpenSpec.upto Rows.emitJumpsSpec).preRow enc Tryz.prog Tryz.f3 Rows.emitJumpsUptoRow.domain false Rows.emitJumpsUptoRow.laid) (((Rows.OpenSpec.upto Rows.emitJumpsSpec).at F).post enc Tryz.prog Tryz.f3 false true false false):=by
 obtain⟨places,m⟩:=reads a enc;refine returnsInHanded_of_row (C:=Tryz.checked) (s:=Rows.OpenSpec.upto Rows.emitJumpsSpec) own l (by kernel_rfl) Tryz.func3
  (witness_row_atRef (enc:=enc) (C:=Tryz.checked) false (Df a) #[.agg #[.slice none 0 0,.slice none 0 0],.int .i64 0,.int .u8 0] rfl (by kernel_rfl) (by kernel_rfl) (by kernel_rfl)
    (OpenSpec.preRow_of_cond 8 m (by kernel_rfl) (λk hk=>by cases hk;kernel_rfl) (by kernel_rfl) (Zf a #[.agg #[.slice none 0 0,.slice none 0 0],.int .i64 0,.int .u8 0]))) ?_
 intro W base args ds gs before o c _ u w hL _ _;have b:∀(j:Nat) t v,Tryz.f3.params[j]?=some t→args[j]?=some v→Value.okWide Tryz.prog W .any base t v:=o;have x:=c;obtain⟨p,q,y,z,rfl,K,L⟩:=c;have d:DataW.TrodAll enc Tryz.prog W 0 (λ_=>true) true Tryz.f3.params.toList args.toList ds p:=y;have i:DataW.TrodVars enc Tryz.prog W (λ_=>true) [] gs q:=z;rw[Tryz.params3]at d b;obtain⟨v0,v1,v2,d0,d1,d2,M,p1,p2,rfl,rfl,rfl,A,h1,B⟩:=trodAll_three d;obtain ⟨rfl,rfl⟩:gs=[]∧q=[]:=by
  cases gs with
  |nil=>exact⟨rfl,i⟩
  |cons g r=>exact absurd i (by intro h;cases h)
 have hB:=bulk (u _ rfl);obtain⟨N,rfl,_⟩:=okWide_struct Tryz.underlying25 (b 0 25 v0 rfl rfl);obtain⟨D,E,G,z0⟩:=bp.Ts (F:=C.F) Zl A (λn I=>of_decide_eq_true (List.all_eq_true.1 w n (DataW.weights_mem_each (j:=0) rfl rfl n I)));obtain⟨Y,rfl,rfl,rfl,w1⟩:=open_int Tryz.underlying3 (b 1 3 v1 rfl rfl) h1;have b1:ad4 .i64≤Y∧Y≤ad5 .i64:=by simpa[Lit.wf]using w1
 simp only[ad4,ad5,aaG,aaH,aT,bz,acq]at b1;obtain⟨a2,rfl,rfl,rfl,w2⟩:=open_int Tryz.underlying5 (b 2 5 v2 rfl rfl) B;have b2:ad4 .u8≤a2∧a2≤ad5 .u8:=by simpa[Lit.wf]using w2
 simp only[ad4,ad5,aaG,aaH,aT,bz,acq]at b2;refine(Tl (C:=C) (f:=3) (by kernel_rfl) (any D E (Nat.le_trans z0 hB) Y (by omega) (by omega) a2 (by omega) (by omega)) (nn hL) (aR.three G.agg (.int _ _) (.int _ _))).mono λe O ⟨he,J⟩=>?_;subst he;exact⟨_,rfl,OD (bt:=4) x laidOut (by kernel_rfl) (by kernel_rfl) (by kernel_rfl) Tryz.underlying4 rfl J⟩
set_option maxRecDepth 100000
theorem and_intro{a b:Bool}(c:a=true)(d:b=true):(a&&b)=true:=by rw[c,d];rfl
theorem Zm:(Rows.emitJumpsUptoRow.wf (OpenSpec.ofChange (Rows.OpenSpec.upto Rows.emitJumpsSpec).bare))=true:=dj (by kernel_rfl)
theorem Zn:(laidOutB Tryz.checked.prog)=true:=dj (by kernel_rfl)
theorem Zo:(mapsRowed Tryz.checked.prog)=true:=dj (by kernel_rfl)
theorem Zp:(Tryz.f3.params.all (Tryz.checked.prog.readableRec ·))=true:=dj (by kernel_rfl)
theorem Zq:(namedTie Tryz.checked.prog Rows.emitJumpsUptoRow.named (Rows.OpenSpec.upto Rows.emitJumpsSpec).bare.vars)=true:=dj (by kernel_rfl)
theorem Zr:((Rows.emitJumpsUptoRow.stops==[]))=true:=dj (by kernel_rfl)
theorem Zs:((Tryz.checked.prog.stops==[]))=true:=dj (by kernel_rfl)
theorem Zt:((Rows.emitJumpsUptoRow.knobs==[]))=true:=dj (by kernel_rfl)
theorem Zu:((Tryz.checked.prog.stopKnobs==[]))=true:=dj (by kernel_rfl)
theorem Zv:((Rows.emitJumpsUptoRow.inPlace==Tryz.checked.prog.inPlace 3))=true:=dj (by kernel_rfl)
theorem Zw:((Rows.emitJumpsUptoRow.unfollowed==Tryz.checked.prog.unfollowed 3))=true:=dj (by kernel_rfl)
theorem Zx:((Rows.emitJumpsUptoRow.recurses==Tryz.checked.prog.recurses 3))=true:=dj (by kernel_rfl)
theorem Zy:((Rows.emitJumpsUptoRow.named==Tryz.checked.prog.varsNamed 3))=true:=dj (by kernel_rfl)
theorem Zz:((Rows.emitJumpsUptoRow.maps==(Tryz.f3.params.toList++(Rows.OpenSpec.upto Rows.emitJumpsSpec).bare.plain.varTypes Tryz.checked.prog).any (Tryz.checked.prog.mapsRec ·)))=true:=dj (by kernel_rfl)
theorem ZA:((Rows.emitJumpsUptoRow.ifaces==(Tryz.f3.params.toList++(Rows.OpenSpec.upto Rows.emitJumpsSpec).bare.plain.varTypes Tryz.checked.prog).any (Tryz.checked.prog.ifacesRec ·)))=true:=dj (by kernel_rfl)
theorem ZB:((Rows.emitJumpsUptoRow.mapsOut==Tryz.checked.prog.mapsAmong Tryz.f3.resultTypes.toList))=true:=dj (by kernel_rfl)
theorem ZC:((Rows.emitJumpsUptoRow.loops==(Tryz.f3.params.toList++(Rows.OpenSpec.upto Rows.emitJumpsSpec).bare.plain.varTypes Tryz.checked.prog).any (Tryz.checked.prog.loopsFrom ·)))=true:=dj (by kernel_rfl)
theorem ZD:((Rows.emitJumpsUptoRow.wideKeys==(Tryz.f3.params.toList++(Rows.OpenSpec.upto Rows.emitJumpsSpec).bare.plain.varTypes Tryz.checked.prog++Tryz.f3.resultTypes.toList).any (Tryz.checked.prog.wideKeysFrom ·)))=true:=dj (by kernel_rfl)
theorem ZE:((Rows.OpenSpec.upto Rows.emitJumpsSpec).bare.vars.all (Tryz.checked.prog.varReadable ·))=true:=dj (by kernel_rfl)
theorem ZF:(Tryz.f3.resultTypes.all (λt=>Tryz.checked.prog.readableRec t&&decide (t<Tryz.checked.prog.types.size)))=true:=dj (by kernel_rfl)
theorem ZG:((Rows.emitJumpsUptoRow.ifacesOut==Tryz.f3.resultTypes.toList.any (Tryz.checked.prog.ifacesRec ·)))=true:=dj (by kernel_rfl)
theorem ZH:((Rows.emitJumpsUptoRow.loopsOut==Tryz.f3.resultTypes.toList.any (Tryz.checked.prog.loopsFrom ·)))=true:=dj (by kernel_rfl)
theorem ZI:((Rows.emitJumpsUptoRow.plainKeys==Tryz.checked.prog.plainKeys))=true:=dj (by kernel_rfl)
theorem ZJ:(Rows.emitJumpsUptoRow.shortTexts.isNone)=true:=dj (by kernel_rfl)
theorem ZK:(Tryz.checked.prog.stopsHeard)=true:=dj (by kernel_rfl)
theorem ZL:(Tryz.checked.prog.mayEnter)=true:=dj (by kernel_rfl)
theorem ZM:((Rows.emitJumpsUptoRow.lifted==Tryz.checked.prog.liftsFinal))=true:=dj (by kernel_rfl)
theorem ZN:((Tryz.checked.prog.make==some Rows.emitJumpsUptoRow.make))=true:=dj (by kernel_rfl)
theorem ZO:((Rows.emitJumpsUptoRow.pinned==Rows.emitJumpsUptoRow.pinnedBy))=true:=dj (by kernel_rfl)
theorem ZP:((Rows.emitJumpsUptoRow.veiled==(Tryz.f3.params.toList++(Rows.OpenSpec.upto Rows.emitJumpsSpec).bare.plain.varTypes Tryz.checked.prog++Tryz.f3.resultTypes.toList).any (Tryz.checked.prog.veiledRec ·)))=true:=dj (by kernel_rfl)
theorem ZQ:(Rows.emitJumpsUptoRow.veiledFits Tryz.checked.prog Tryz.f3.params.toList (Tryz.f3.params.toList++(Rows.OpenSpec.upto Rows.emitJumpsSpec).bare.plain.varTypes Tryz.checked.prog++Tryz.f3.resultTypes.toList))=true:=dj (by kernel_rfl)
theorem facts:joinedFacts Tryz.checked.prog 3 Tryz.f3 (Rows.OpenSpec.upto Rows.emitJumpsSpec).bare Rows.emitJumpsUptoRow=true:=by
 delta joinedFacts;refine and_intro (and_intro (and_intro (and_intro (and_intro (and_intro (and_intro (and_intro (and_intro (and_intro (and_intro (and_intro (and_intro (and_intro (and_intro (and_intro (and_intro (and_intro (and_intro (and_intro (and_intro (and_intro (and_intro (and_intro (and_intro (and_intro (and_intro (and_intro (and_intro (and_intro (and_intro Zm Zn) Zo) Zp) Zq) Zr) Zs) Zt) Zu) Zv) Zw) Zx) Zy) Zz) ZA) ZB) ZC) ZD) ZE) ZF) ZG) ZH) ZI) ZJ) ZK) ZL) ZM) ZN) ?_) ZO) ZP) ZQ;apply dj
 kernel_rfl
theorem row:Rows.EmitJumpsUptoSaid:=
 afG 3 Tryz.f3 rfl rfl rfl rfl rfl rfl rfl ⟨rfl,rfl,rfl,rfl,rfl⟩ rfl rfl rfl rfl rfl (by kernel_rfl) Tryz.func3 facts
  (of_decide_eq_true (by kernel_rfl)) (by unfold Func.isWrapper;first|(rw[af (by decide +kernel)];kernel_rfl)|(rw[ai (by decide +kernel)];exact⟨rfl,rfl⟩))
  (λos started H enc _ F=>by rw[afH];exact lifted os started H enc F)
end Go.Proofs.YtncnnojgkgceiaaGreatDoor.rb.emitJumps
