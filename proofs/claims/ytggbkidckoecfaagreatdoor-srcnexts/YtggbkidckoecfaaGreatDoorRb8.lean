/- A part of the proof (part 8): see the last text. -/
import Derived.Test.YtggbkidckoecfaaGreatDoorRb7
import Derived.Deep.DeepHandedRow
import Derived.Deep.DeepWitnessRowRef
import Derived.JoinedCond
set_option linter.unusedVariables false
set_option linter.unusedSimpArgs false
open Go.DataW renaming weights_mem_each→abq
open Go.OpenClaim renaming holds_of_cond→abr, pre_eq_preRow→abt
open List renaming all_eq_true→Xi
namespace Go.Proofs.YtggbkidckoecfaaGreatDoor.rb.srcNexts
open Rb Go.ChangeShapes Go.WideShapes Go.ChangeAt Go.RowKit
mutual
theorem bk{H:Type}:∀d:DataW H,dB d=Rows.uptoBulk d
 | .lit l=>by cases l<;>rfl
 | .nil=>rfl
 | .ptr d=>by rw[dB,Rows.uptoBulk,bk d]
 | .slice a b=>by rw[dB,Rows.uptoBulk,yr a,yr b]
 | .agg p=>by rw[dB,Rows.uptoBulk,yr p]
 | .iface _ d=>by rw[dB,Rows.uptoBulk,bk d]
 | .map e=>by rw[dB,Rows.uptoBulk,Ln e]
 | .held _=>rfl
theorem yr{H:Type}:∀l:List (DataW H),kv l=Rows.uptoBulkAll l
 |[]=>rfl
 |d::r=>by rw[kv,Rows.uptoBulkAll,bk d,yr r]
theorem Ln{H:Type}:∀l:List (Lit×DataW H),w_ l=Rows.uptoBulkEntries l
 |[]=>rfl
 | (l,d)::r=>by rw[w_,Rows.uptoBulkEntries,Ln r];cases l<;>rw[HR,Rows.uptoBulkEntry,bk d]<;>(intros;simp_all)
end
theorem bulk{H:Type}{a b c d:DataW H}(hk:Rows.uptoSmall H [a,b,c,d]=true):dB a≤1048576:=by have h:Rows.uptoBulkAll [a,b,c,d]≤1048576:=of_decide_eq_true hk;rw[bk];simp only[Rows.uptoBulkAll]at h;omega
theorem reads(a:Os){H:Type}(enc:TypeId×Value→H):∃places,DataW.whole enc Tryz.prog ((CU a).forCall (λ_ _=>0) ⟨#[],#[.agg #[.slice none 0 0,.slice none 0 0],.int .i64 0,.slice none 0 0,.int .i64 0],[]⟩).memory Tryz.f3.params.toList Rows.srcNextsSpec.vars false (#[.agg #[.slice none 0 0,.slice none 0 0],.int .i64 0,.slice none 0 0,.int .i64 0]:Array Value).toList 8=some ([.agg [.nil,.nil],.lit (.int .i64 0),.nil,.lit (.int .i64 0)],[],places):=⟨[],by kernel_rfl⟩
set_option maxRecDepth 100000 in
theorem lifted(a:Os)(o:a.Started)(H:Type)(enc:TypeId×Value→H)(F:Stop.Interp) :
  ReturnsInHanded {} Tryz.checked a 3 .any ((Rows.OpenSpec.upto Rows.srcNextsSpec).preRow enc Tryz.prog Tryz.f3 Rows.srcNextsUptoRow.domain false Rows.srcNextsUptoRow.laid) (((Rows.OpenSpec.upto Rows.srcNextsSpec).at F).post enc Tryz.prog Tryz.f3 false true false false):=by
 obtain⟨places,u⟩:=reads a enc;refine returnsInHanded_of_row (C:=Tryz.checked) (s:=Rows.OpenSpec.upto Rows.srcNextsSpec) own o (by kernel_rfl) Tryz.func3
  (witness_row_atRef (enc:=enc) (C:=Tryz.checked) false (CU a) #[.agg #[.slice none 0 0,.slice none 0 0],.int .i64 0,.slice none 0 0,.int .i64 0] rfl (by kernel_rfl) (by kernel_rfl) (by kernel_rfl)
    (OpenSpec.preRow_of_cond 8 u (by kernel_rfl) (λk hk=>by cases hk;kernel_rfl) (by kernel_rfl) (Vf a #[.agg #[.slice none 0 0,.slice none 0 0],.int .i64 0,.slice none 0 0,.int .i64 0]))) ?_
 intro W base args ds gs before w d _ x i y _ _;have b:∀(j:Nat) t v,Tryz.f3.params[j]?=some t→args[j]?=some v→Value.okWide Tryz.prog W .any base t v:=w;have z:=d;obtain⟨p,q,A,B,rfl,Q,R⟩:=d;have l:DataW.TrodAll enc Tryz.prog W 0 (λ_=>true) true Tryz.f3.params.toList args.toList ds p:=A;have m:DataW.TrodVars enc Tryz.prog W (λ_=>true) [] gs q:=B;rw[Tryz.params3]at l b;obtain⟨v0,v1,v2,v3,d0,d1,d2,d3,S,T,U,V,rfl,rfl,rfl,D,E,G,I⟩:=Rb.trodAll_four l;obtain ⟨rfl,rfl⟩:gs=[]∧q=[]:=by
  cases gs with
  |nil=>exact⟨rfl,m⟩
  |cons g r=>exact absurd m (by intro h;cases h)
 have J:=bulk (x _ rfl);obtain⟨X,rfl,_⟩:=okWide_struct Tryz.underlying25 (b 0 25 v0 rfl rfl);obtain⟨K,L,M,z0⟩:=bL.HV (F:=C.F) Vl D (λn c=>of_decide_eq_true (Xi.1 i n (abq (j:=0) rfl rfl n c)));obtain⟨Y,rfl,rfl,rfl,w1⟩:=open_int Tryz.underlying3 (b 1 3 v1 rfl rfl) E;obtain⟨Z,l2,aa,rfl⟩:=okWide_slice Tryz.underlying26 (b 2 26 v2 rfl rfl);obtain⟨N,o2,O⟩:=bL.arg (F:=C.F) Vm G (λn c=>of_decide_eq_true (Xi.1 i n (abq (j:=2) rfl rfl n c)));obtain⟨a3,rfl,rfl,rfl,w3⟩:=open_int Tryz.underlying3 (b 3 3 v3 rfl rfl) I;refine(PW (C:=C) (f:=3) (by kernel_rfl) (any K L (Nat.le_trans z0 J) Y N o2.1 o2.2 a3) (ni y) (bo.four M.agg (.int _ _) (O.2 0 _ _ rfl rfl) (.int _ _))).mono λe ab ⟨he,P⟩=>?_;subst he;exact⟨_,rfl,M4 (bt:=4) z laidOut (by kernel_rfl) (by kernel_rfl) (by kernel_rfl) Tryz.underlying4 rfl P⟩
set_option maxRecDepth 100000
theorem and_intro{a b:Bool}(c:a=true)(d:b=true):(a&&b)=true:=by rw[c,d];rfl
theorem Vn:(Rows.srcNextsUptoRow.wf (OpenSpec.ofChange (Rows.OpenSpec.upto Rows.srcNextsSpec).bare))=true:=dF (by kernel_rfl)
theorem Vo:(laidOutB Tryz.checked.prog)=true:=dF (by kernel_rfl)
theorem Vp:(mapsRowed Tryz.checked.prog)=true:=dF (by kernel_rfl)
theorem Vq:(Tryz.f3.params.all (Tryz.checked.prog.readableRec ·))=true:=dF (by kernel_rfl)
theorem Vr:(namedTie Tryz.checked.prog Rows.srcNextsUptoRow.named (Rows.OpenSpec.upto Rows.srcNextsSpec).bare.vars)=true:=dF (by kernel_rfl)
theorem Vt:((Rows.srcNextsUptoRow.stops==[]))=true:=dF (by kernel_rfl)
theorem Vu:((Tryz.checked.prog.stops==[]))=true:=dF (by kernel_rfl)
theorem Vv:((Rows.srcNextsUptoRow.knobs==[]))=true:=dF (by kernel_rfl)
theorem Vw:((Tryz.checked.prog.stopKnobs==[]))=true:=dF (by kernel_rfl)
theorem Vx:((Rows.srcNextsUptoRow.inPlace==Tryz.checked.prog.inPlace 3))=true:=dF (by kernel_rfl)
theorem Vy:((Rows.srcNextsUptoRow.unfollowed==Tryz.checked.prog.unfollowed 3))=true:=dF (by kernel_rfl)
theorem Vz:((Rows.srcNextsUptoRow.recurses==Tryz.checked.prog.recurses 3))=true:=dF (by kernel_rfl)
theorem VA:((Rows.srcNextsUptoRow.named==Tryz.checked.prog.varsNamed 3))=true:=dF (by kernel_rfl)
theorem VB:((Rows.srcNextsUptoRow.maps==(Tryz.f3.params.toList++(Rows.OpenSpec.upto Rows.srcNextsSpec).bare.plain.varTypes Tryz.checked.prog).any (Tryz.checked.prog.mapsRec ·)))=true:=dF (by kernel_rfl)
theorem VC:((Rows.srcNextsUptoRow.ifaces==(Tryz.f3.params.toList++(Rows.OpenSpec.upto Rows.srcNextsSpec).bare.plain.varTypes Tryz.checked.prog).any (Tryz.checked.prog.ifacesRec ·)))=true:=dF (by kernel_rfl)
theorem VD:((Rows.srcNextsUptoRow.mapsOut==Tryz.checked.prog.mapsAmong Tryz.f3.resultTypes.toList))=true:=dF (by kernel_rfl)
theorem VE:((Rows.srcNextsUptoRow.loops==(Tryz.f3.params.toList++(Rows.OpenSpec.upto Rows.srcNextsSpec).bare.plain.varTypes Tryz.checked.prog).any (Tryz.checked.prog.loopsFrom ·)))=true:=dF (by kernel_rfl)
theorem VF:((Rows.srcNextsUptoRow.wideKeys==(Tryz.f3.params.toList++(Rows.OpenSpec.upto Rows.srcNextsSpec).bare.plain.varTypes Tryz.checked.prog++Tryz.f3.resultTypes.toList).any (Tryz.checked.prog.wideKeysFrom ·)))=true:=dF (by kernel_rfl)
theorem VG:((Rows.OpenSpec.upto Rows.srcNextsSpec).bare.vars.all (Tryz.checked.prog.varReadable ·))=true:=dF (by kernel_rfl)
theorem VH:(Tryz.f3.resultTypes.all (λt=>Tryz.checked.prog.readableRec t&&decide (t<Tryz.checked.prog.types.size)))=true:=dF (by kernel_rfl)
theorem VI:((Rows.srcNextsUptoRow.ifacesOut==Tryz.f3.resultTypes.toList.any (Tryz.checked.prog.ifacesRec ·)))=true:=dF (by kernel_rfl)
theorem VJ:((Rows.srcNextsUptoRow.loopsOut==Tryz.f3.resultTypes.toList.any (Tryz.checked.prog.loopsFrom ·)))=true:=dF (by kernel_rfl)
theorem VK:((Rows.srcNextsUptoRow.plainKeys==Tryz.checked.prog.plainKeys))=true:=dF (by kernel_rfl)
theorem VL:(Rows.srcNextsUptoRow.shortTexts.isNone)=true:=dF (by kernel_rfl)
theorem VM:(Tryz.checked.prog.stopsHeard)=true:=dF (by kernel_rfl)
theorem VN:(Tryz.checked.prog.mayEnter)=true:=dF (by kernel_rfl)
theorem VO:((Rows.srcNextsUptoRow.lifted==Tryz.checked.prog.liftsFinal))=true:=dF (by kernel_rfl)
theorem VP:((Tryz.checked.prog.make==some Rows.srcNextsUptoRow.make))=true:=dF (by kernel_rfl)
theorem VQ:((Rows.srcNextsUptoRow.pinned==Rows.srcNextsUptoRow.pinnedBy))=true:=dF (by kernel_rfl)
theorem VS:((Rows.srcNextsUptoRow.veiled==(Tryz.f3.params.toList++(Rows.OpenSpec.upto Rows.srcNextsSpec).bare.plain.varTypes Tryz.checked.prog++Tryz.f3.resultTypes.toList).any (Tryz.checked.prog.veiledRec ·)))=true:=dF (by kernel_rfl)
theorem VT:(Rows.srcNextsUptoRow.veiledFits Tryz.checked.prog Tryz.f3.params.toList (Tryz.f3.params.toList++(Rows.OpenSpec.upto Rows.srcNextsSpec).bare.plain.varTypes Tryz.checked.prog++Tryz.f3.resultTypes.toList))=true:=dF (by kernel_rfl)
theorem facts:joinedFacts Tryz.checked.prog 3 Tryz.f3 (Rows.OpenSpec.upto Rows.srcNextsSpec).bare Rows.srcNextsUptoRow=true:=by
 delta joinedFacts;refine and_intro (and_intro (and_intro (and_intro (and_intro (and_intro (and_intro (and_intro (and_intro (and_intro (and_intro (and_intro (and_intro (and_intro (and_intro (and_intro (and_intro (and_intro (and_intro (and_intro (and_intro (and_intro (and_intro (and_intro (and_intro (and_intro (and_intro (and_intro (and_intro (and_intro (and_intro Vn Vo) Vp) Vq) Vr) Vt) Vu) Vv) Vw) Vx) Vy) Vz) VA) VB) VC) VD) VE) VF) VG) VH) VI) VJ) VK) VL) VM) VN) VO) VP) ?_) VQ) VS) VT;apply dF
 kernel_rfl
theorem row:Rows.SrcNextsUptoSaid:=
 abr 3 Tryz.f3 rfl rfl rfl rfl rfl rfl rfl ⟨rfl,rfl,rfl,rfl,rfl⟩ rfl rfl rfl rfl rfl (by kernel_rfl) Tryz.func3 facts
  (of_decide_eq_true (by kernel_rfl)) (by unfold Func.isWrapper;first|(rw[aa (by decide +kernel)];kernel_rfl)|(rw[ab (by decide +kernel)];exact⟨rfl,rfl⟩))
  (λos started H enc _ F=>by rw[abt];exact lifted os started H enc F)
end Go.Proofs.YtggbkidckoecfaaGreatDoor.rb.srcNexts
