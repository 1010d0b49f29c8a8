/- A part of the proof (part 6): see the last text. -/
import Derived.Test.YtfgpfghpciddmaaGreatDoorRb5
import Derived.Test.YtfgpfghpciddmaaGreatDoorRb4
import Derived.Deep.DeepHandedRow
import Derived.Deep.DeepWitnessRowRef
import Derived.JoinedCond
set_option linter.unusedVariables false
set_option linter.unusedSimpArgs false
namespace Go.Proofs.YtfgpfghpciddmaaGreatDoor.rb.shellTells
open Rb Go.ChangeShapes Go.WideShapes Go.ChangeAt Go.RowKit
mutual
theorem bk {H : Type} : ∀ d : DataW H, dB d = Rows.uptoBulk d
 | .lit l => by cases l <;> rfl
 | .nil => rfl
 | .ptr d => by rw [dB, Rows.uptoBulk, bk d]
 | .slice a b => by rw [dB, Rows.uptoBulk, bks a, bks b]
 | .agg p => by rw [dB, Rows.uptoBulk, bks p]
 | .iface _ d => by rw [dB, Rows.uptoBulk, bk d]
 | .map e => by rw [dB, Rows.uptoBulk, bke e]
 | .held _ => rfl
theorem bks {H : Type} : ∀ l : List (DataW H), dBs l = Rows.uptoBulkAll l
 | [] => rfl
 | d :: r => by rw [dBs, Rows.uptoBulkAll, bk d, bks r]
theorem bke {H : Type} : ∀ l : List (Lit × DataW H), dBe l = Rows.uptoBulkEntries l
 | [] => rfl
 | (l, d) :: r => by
  rw [dBe, Rows.uptoBulkEntries, bke r]
  cases l <;> rw [dBx, Rows.uptoBulkEntry, bk d] <;> (intros; simp_all)
end
theorem bulk {H : Type} {d0 : DataW H} (hk : Rows.uptoSmall H [d0] = true) : dB d0 ≤ 1048576 := by
 have h : Rows.uptoBulkAll [d0] ≤ 1048576 := of_decide_eq_true hk
 rw [bk]
 simp only [Rows.uptoBulkAll] at h
 omega
theorem reads (os : Os) {H : Type} (enc : TypeId × Value → H) : ∃ places, DataW.whole enc Tryz.prog ((laidWorld os).forCall (fun _ _ => 0) ⟨#[], #[.agg #[.slice none 0 0, .slice none 0 0, .slice none 0 0]], []⟩).memory Tryz.f3.params.toList Rows.shellTellsSpec.vars false (#[.agg #[.slice none 0 0, .slice none 0 0, .slice none 0 0]] : Array Value).toList 8 = some ([.agg [.nil, .nil, .nil]], [], places) :=
 ⟨[], by kernel_rfl⟩
set_option maxRecDepth 100000 in
theorem lifted (os : Os) (started : os.Started) (H : Type) (enc : TypeId × Value → H) (F : Stop.Interp) :
  ReturnsInHanded {} Tryz.checked os 3 .any ((Rows.OpenSpec.upto Rows.shellTellsSpec).preRow enc Tryz.prog Tryz.f3 Rows.shellTellsUptoRow.domain false Rows.shellTellsUptoRow.laid) (((Rows.OpenSpec.upto Rows.shellTellsSpec).at F).post enc Tryz.prog Tryz.f3 false true false false) := by
 obtain ⟨places, hx⟩ := reads os enc
 refine returnsInHanded_of_row (C := Tryz.checked) (s := Rows.OpenSpec.upto Rows.shellTellsSpec) own started (by kernel_rfl) Tryz.func3
  (witness_row_atRef (enc := enc) (C := Tryz.checked) false (laidWorld os) #[.agg #[.slice none 0 0, .slice none 0 0, .slice none 0 0]] rfl (by kernel_rfl) (by kernel_rfl) (by kernel_rfl)
    (OpenSpec.preRow_of_cond 8 hx (by kernel_rfl) (fun k hk => by cases hk; kernel_rfl) (by kernel_rfl) (laid_met os #[.agg #[.slice none 0 0, .slice none 0 0, .slice none 0 0]]))) ?_
 intro W base args ds gs before hval0 hW _ hcond hsz hL _ _
 have hval : ∀ (j : Nat) t v, Tryz.f3.params[j]? = some t → args[j]? = some v → Value.okWide Tryz.prog W .any base t v := hval0
 have hW' := hW
 obtain ⟨p, q, hA0, hV0, rfl, hfz, hnd⟩ := hW
 have hA : DataW.TrodAll enc Tryz.prog W 0 (fun _ => true) true Tryz.f3.params.toList args.toList ds p := hA0
 have hV : DataW.TrodVars enc Tryz.prog W (fun _ => true) [] gs q := hV0
 rw [Tryz.params3] at hA hval
 obtain ⟨v0, d0, rfl, rfl, h0⟩ := trodAll_one hA
 obtain ⟨rfl, rfl⟩ : gs = [] ∧ q = [] := by
  cases gs with
  | nil => exact ⟨rfl, hV⟩
  | cons g r => exact absurd hV (by intro h; cases h)
 have hB := bulk (hcond _ rfl)
 obtain ⟨c0, rfl, _⟩ := okWide_struct Tryz.underlying26 (hval 0 26 v0 rfl rfl)
 obtain ⟨x0, o0, k0, z0⟩ := Dec.argN (F := C.F) (fun n => Dec.mono (n := n + 3) (Dec.struct Tryz.underlying26 rfl (by kernel_rfl) (by kernel_rfl) (DecL.cons (Dec.slice Tryz.underlying22 (sz := 1) (by kernel_rfl) (by decide) (fun _ => rfl) (Dec.int Tryz.underlying5)) (DecL.cons (Dec.slice Tryz.underlying23 (sz := 1) (by kernel_rfl) (by decide) (fun _ => rfl) (Dec.slice Tryz.underlying38 (sz := 1) (by kernel_rfl) (by decide) (fun _ => rfl) (Dec.int Tryz.underlying40))) (DecL.cons (Dec.slice Tryz.underlying24 (sz := 1) (by kernel_rfl) (by decide) (fun _ => rfl) (Dec.int Tryz.underlying3)) (DecL.nil))))) (by omega)) h0 (fun n hn => of_decide_eq_true (List.all_eq_true.1 hsz n (DataW.weights_mem_each (j := 0) rfl rfl n hn)))
 refine (law_calls (C := C) (f := 3) (by kernel_rfl) (any ⟨x0.1, x0.2.1, x0.2.2.1⟩ (GOut.ok_of o0.1 o0.2.1 o0.2.2.1) (show avNs (GOut.cells ⟨x0.1, x0.2.1, x0.2.2.1⟩) ≤ 1048576 from Nat.le_trans z0 hB)) (gok hL) (VRs.one (show VR _ _ _ (.agg (GOut.cells ⟨x0.1, x0.2.1, x0.2.2.1⟩)) _ from k0.agg))).mono fun e W' ⟨he, hbel⟩ => ?_
 subst he
 exact ⟨_, rfl, post_true (bt := 4) hW' laidOut (by kernel_rfl) (by kernel_rfl) (by kernel_rfl) Tryz.underlying4 rfl hbel⟩
set_option maxRecDepth 100000
theorem and_intro {a b : Bool} (ha : a = true) (hb : b = true) : (a && b) = true := by rw [ha, hb]; rfl
theorem fact0 : (Rows.shellTellsUptoRow.wf (OpenSpec.ofChange (Rows.OpenSpec.upto Rows.shellTellsSpec).bare)) = true := of_forced (by kernel_rfl)
theorem fact1 : (laidOutB Tryz.checked.prog) = true := of_forced (by kernel_rfl)
theorem fact2 : (mapsRowed Tryz.checked.prog) = true := of_forced (by kernel_rfl)
theorem fact3 : (Tryz.f3.params.all (Tryz.checked.prog.readableRec ·)) = true := of_forced (by kernel_rfl)
theorem fact4 : (namedTie Tryz.checked.prog Rows.shellTellsUptoRow.named (Rows.OpenSpec.upto Rows.shellTellsSpec).bare.vars) = true := of_forced (by kernel_rfl)
theorem fact5 : ((Rows.shellTellsUptoRow.stops == [])) = true := of_forced (by kernel_rfl)
theorem fact6 : ((Tryz.checked.prog.stops == [])) = true := of_forced (by kernel_rfl)
theorem fact7 : ((Rows.shellTellsUptoRow.knobs == [])) = true := of_forced (by kernel_rfl)
theorem fact8 : ((Tryz.checked.prog.stopKnobs == [])) = true := of_forced (by kernel_rfl)
theorem fact9 : ((Rows.shellTellsUptoRow.inPlace == Tryz.checked.prog.inPlace 3)) = true := of_forced (by kernel_rfl)
theorem fact10 : ((Rows.shellTellsUptoRow.unfollowed == Tryz.checked.prog.unfollowed 3)) = true := of_forced (by kernel_rfl)
theorem fact11 : ((Rows.shellTellsUptoRow.recurses == Tryz.checked.prog.recurses 3)) = true := of_forced (by kernel_rfl)
theorem fact12 : ((Rows.shellTellsUptoRow.named == Tryz.checked.prog.varsNamed 3)) = true := of_forced (by kernel_rfl)
theorem fact13 : ((Rows.shellTellsUptoRow.maps == (Tryz.f3.params.toList ++ (Rows.OpenSpec.upto Rows.shellTellsSpec).bare.plain.varTypes Tryz.checked.prog).any (Tryz.checked.prog.mapsRec ·))) = true := of_forced (by kernel_rfl)
theorem fact14 : ((Rows.shellTellsUptoRow.ifaces == (Tryz.f3.params.toList ++ (Rows.OpenSpec.upto Rows.shellTellsSpec).bare.plain.varTypes Tryz.checked.prog).any (Tryz.checked.prog.ifacesRec ·))) = true := of_forced (by kernel_rfl)
theorem fact15 : ((Rows.shellTellsUptoRow.mapsOut == Tryz.checked.prog.mapsAmong Tryz.f3.resultTypes.toList)) = true := of_forced (by kernel_rfl)
theorem fact16 : ((Rows.shellTellsUptoRow.loops == (Tryz.f3.params.toList ++ (Rows.OpenSpec.upto Rows.shellTellsSpec).bare.plain.varTypes Tryz.checked.prog).any (Tryz.checked.prog.loopsFrom ·))) = true := of_forced (by kernel_rfl)
theorem fact17 : ((Rows.shellTellsUptoRow.wideKeys == (Tryz.f3.params.toList ++ (Rows.OpenSpec.upto Rows.shellTellsSpec).bare.plain.varTypes Tryz.checked.prog ++ Tryz.f3.resultTypes.toList).any (Tryz.checked.prog.wideKeysFrom ·))) = true := of_forced (by kernel_rfl)
theorem fact18 : ((Rows.OpenSpec.upto Rows.shellTellsSpec).bare.vars.all (Tryz.checked.prog.varReadable ·)) = true := of_forced (by kernel_rfl)
theorem fact19 : (Tryz.f3.resultTypes.all (fun t => Tryz.checked.prog.readableRec t && decide (t < Tryz.checked.prog.types.size))) = true := of_forced (by kernel_rfl)
theorem fact20 : ((Rows.shellTellsUptoRow.ifacesOut == Tryz.f3.resultTypes.toList.any (Tryz.checked.prog.ifacesRec ·))) = true := of_forced (by kernel_rfl)
theorem fact21 : ((Rows.shellTellsUptoRow.loopsOut == Tryz.f3.resultTypes.toList.any (Tryz.checked.prog.loopsFrom ·))) = true := of_forced (by kernel_rfl)
theorem fact22 : ((Rows.shellTellsUptoRow.plainKeys == Tryz.checked.prog.plainKeys)) = true := of_forced (by kernel_rfl)
theorem fact23 : (Rows.shellTellsUptoRow.shortTexts.isNone) = true := of_forced (by kernel_rfl)
theorem fact24 : (Tryz.checked.prog.stopsHeard) = true := of_forced (by kernel_rfl)
theorem fact25 : (Tryz.checked.prog.mayEnter) = true := of_forced (by kernel_rfl)
theorem fact26 : ((Rows.shellTellsUptoRow.lifted == Tryz.checked.prog.liftsFinal)) = true := of_forced (by kernel_rfl)
theorem fact27 : ((Tryz.checked.prog.make == some Rows.shellTellsUptoRow.make)) = true := of_forced (by kernel_rfl)
theorem fact29 : ((Rows.shellTellsUptoRow.pinned == Rows.shellTellsUptoRow.pinnedBy)) = true := of_forced (by kernel_rfl)
theorem fact30 : ((Rows.shellTellsUptoRow.veiled == (Tryz.f3.params.toList ++ (Rows.OpenSpec.upto Rows.shellTellsSpec).bare.plain.varTypes Tryz.checked.prog ++ Tryz.f3.resultTypes.toList).any (Tryz.checked.prog.veiledRec ·))) = true := of_forced (by kernel_rfl)
theorem fact31 : (Rows.shellTellsUptoRow.veiledFits Tryz.checked.prog Tryz.f3.params.toList (Tryz.f3.params.toList ++ (Rows.OpenSpec.upto Rows.shellTellsSpec).bare.plain.varTypes Tryz.checked.prog ++ Tryz.f3.resultTypes.toList)) = true := of_forced (by kernel_rfl)
theorem facts : joinedFacts Tryz.checked.prog 3 Tryz.f3 (Rows.OpenSpec.upto Rows.shellTellsSpec).bare Rows.shellTellsUptoRow = true := by
 delta joinedFacts
 refine and_intro (and_intro (and_intro (and_intro (and_intro (and_intro (and_intro (and_intro (and_intro (and_intro (and_intro (and_intro (and_intro (and_intro (and_intro (and_intro (and_intro (and_intro (and_intro (and_intro (and_intro (and_intro (and_intro (and_intro (and_intro (and_intro (and_intro (and_intro (and_intro (and_intro (and_intro fact0 fact1) fact2) fact3) fact4) fact5) fact6) fact7) fact8) fact9) fact10) fact11) fact12) fact13) fact14) fact15) fact16) fact17) fact18) fact19) fact20) fact21) fact22) fact23) fact24) fact25) fact26) fact27) ?_) fact29) fact30) fact31
 apply of_forced
 kernel_rfl
theorem row : Rows.ShellTellsUptoSaid :=
 OpenClaim.holds_of_cond 3 Tryz.f3 rfl rfl rfl rfl rfl rfl rfl ⟨rfl, rfl, rfl, rfl, rfl⟩ rfl rfl rfl rfl rfl (by kernel_rfl) Tryz.func3 facts
  (of_decide_eq_true (by kernel_rfl)) (by unfold Func.isWrapper; first | (rw [if_pos (by decide +kernel)]; kernel_rfl) | (rw [if_neg (by decide +kernel)]; exact ⟨rfl, rfl⟩))
  (fun os started H enc _ F => by rw [OpenClaim.pre_eq_preRow]; exact lifted os started H enc F)
end Go.Proofs.YtfgpfghpciddmaaGreatDoor.rb.shellTells
