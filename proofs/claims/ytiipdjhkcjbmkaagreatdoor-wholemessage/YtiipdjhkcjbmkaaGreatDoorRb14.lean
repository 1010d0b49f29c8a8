/- A part of the proof (part 14): see the last text. -/
import Derived.Test.YtiipdjhkcjbmkaaGreatDoorRb11
import Derived.Test.YtiipdjhkcjbmkaaGreatDoorRb13
import Derived.Test.YtiipdjhkcjbmkaaGreatDoorRb4
set_option linter.unusedVariables false
set_option linter.unusedSimpArgs false
namespace Go.Proofs.YtiipdjhkcjbmkaaGreatDoor.rb.wholeMessage
open Rb Go.ChangeShapes Go.WideShapes Go.ChangeAt Go.RowKit
set_option maxRecDepth 100000 in
theorem lifted (os : Os) (started : os.Started) (H : Type) (enc : TypeId × Value → H) :
  ReturnsInHanded {} Tryz.checked os 3 .any (fun w args => (Rows.wholeMessageSpec.pre enc Tryz.prog Tryz.f3 [] false w args ∧ laidMet Tryz.prog laidVars w) ∧ sizedMet enc Tryz.prog Tryz.f3 (OpenSpec.ofChange Rows.wholeMessageSpec) false w args)
   (Rows.wholeMessageSpec.post enc Tryz.prog Tryz.f3 false true false false) := by
 refine returnsInHanded_of_change_and (C := Tryz.checked) (X := fun w _ => laidMet Tryz.prog laidVars w) (fun _ _ _ hh h => h.of_heap hh) own started (by kernel_rfl) Tryz.func3
  (ChangeSpec.witness_shaped (enc := enc) (C := Tryz.checked) (os := os) (X := fun w _ => laidMet Tryz.prog laidVars w) false (laidWorld os) #[.int .u8 0, .int .u8 0, .bool false] 8 rfl (laid_shaped os _) (by kernel_rfl) (by kernel_rfl) (by kernel_rfl) (laid_met os _)) ?_
 intro W base args ds gs before hval0 hW _ hsz hL _
 have hval : ∀ (j : Nat) t v, Tryz.f3.params[j]? = some t → args[j]? = some v → Value.okWide Tryz.prog W .any base t v := hval0
 have hW' := hW
 obtain ⟨p, q, hA0, hV0, rfl, hfz, hnd⟩ := hW
 have hA : DataW.TrodAll enc Tryz.prog W 0 (fun _ => true) true Tryz.f3.params.toList args.toList ds p := hA0
 have hV : DataW.TrodVars enc Tryz.prog W (fun _ => true) [] gs q := hV0
 rw [Tryz.params3] at hA hval
 obtain ⟨v0, v1, v2, d0, d1, d2, p0, p1, p2, rfl, rfl, rfl, h0, h1, h2⟩ := trodAll_three hA
 obtain ⟨rfl, rfl⟩ : gs = [] ∧ q = [] := by
  cases gs with
  | nil => exact ⟨rfl, hV⟩
  | cons g r => exact absurd hV (by intro h; cases h)
 obtain ⟨a0, rfl, rfl, rfl, w0⟩ := open_int Tryz.underlying5 (hval 0 5 v0 rfl rfl) h0
 have b0 : IntKind.min .u8 ≤ a0 ∧ a0 ≤ IntKind.max .u8 := by simpa [Lit.wf] using w0
 simp only [IntKind.min, IntKind.max, IntKind.signed, IntKind.bits, if_true, if_false, Bool.false_eq_true] at b0
 obtain ⟨a1, rfl, rfl, rfl, w1⟩ := open_int Tryz.underlying5 (hval 1 5 v1 rfl rfl) h1
 have b1 : IntKind.min .u8 ≤ a1 ∧ a1 ≤ IntKind.max .u8 := by simpa [Lit.wf] using w1
 simp only [IntKind.min, IntKind.max, IntKind.signed, IntKind.bits, if_true, if_false, Bool.false_eq_true] at b1
 obtain ⟨a2, rfl, rfl, rfl⟩ := open_bool Tryz.underlying4 (hval 2 4 v2 rfl rfl) h2
 refine (law_calls (C := C) (f := 3) (by kernel_rfl) (any a0 (by omega) (by omega) a1 (by omega) (by omega) a2) (gok hL) (VRs.three (.int _ _) (.int _ _) (.bool _))).mono fun e W' ⟨he, hbel⟩ => ?_
 subst he
 exact ⟨_, rfl, post_true (bt := 4) hW' laidOut (by kernel_rfl) (by kernel_rfl) (by kernel_rfl) Tryz.underlying4 rfl hbel⟩
set_option maxRecDepth 100000
theorem and_intro {a b : Bool} (ha : a = true) (hb : b = true) : (a && b) = true := by rw [ha, hb]; rfl
theorem fact0 : (Rows.wholeMessageRow.wf (OpenSpec.ofChange Rows.wholeMessageSpec)) = true := of_forced (by kernel_rfl)
theorem fact1 : (laidOutB Tryz.checked.prog) = true := of_forced (by kernel_rfl)
theorem fact2 : (mapsRowed Tryz.checked.prog) = true := of_forced (by kernel_rfl)
theorem fact3 : (Tryz.f3.params.all (Tryz.checked.prog.readableRec ·)) = true := of_forced (by kernel_rfl)
theorem fact4 : (namedTie Tryz.checked.prog Rows.wholeMessageRow.named Rows.wholeMessageSpec.vars) = true := of_forced (by kernel_rfl)
theorem fact5 : ((Rows.wholeMessageRow.stops == [])) = true := of_forced (by kernel_rfl)
theorem fact6 : ((Tryz.checked.prog.stops == [])) = true := of_forced (by kernel_rfl)
theorem fact7 : ((Rows.wholeMessageRow.knobs == [])) = true := of_forced (by kernel_rfl)
theorem fact8 : ((Tryz.checked.prog.stopKnobs == [])) = true := of_forced (by kernel_rfl)
theorem fact9 : ((Rows.wholeMessageRow.inPlace == Tryz.checked.prog.inPlace 3)) = true := of_forced (by kernel_rfl)
theorem fact10 : ((Rows.wholeMessageRow.unfollowed == Tryz.checked.prog.unfollowed 3)) = true := of_forced (by kernel_rfl)
theorem fact11 : ((Rows.wholeMessageRow.recurses == Tryz.checked.prog.recurses 3)) = true := of_forced (by kernel_rfl)
theorem fact12 : ((Rows.wholeMessageRow.named == Tryz.checked.prog.varsNamed 3)) = true := of_forced (by kernel_rfl)
theorem fact13 : ((Rows.wholeMessageRow.maps == (Tryz.f3.params.toList ++ Rows.wholeMessageSpec.plain.varTypes Tryz.checked.prog).any (Tryz.checked.prog.mapsRec ·))) = true := of_forced (by kernel_rfl)
theorem fact14 : ((Rows.wholeMessageRow.ifaces == (Tryz.f3.params.toList ++ Rows.wholeMessageSpec.plain.varTypes Tryz.checked.prog).any (Tryz.checked.prog.ifacesRec ·))) = true := of_forced (by kernel_rfl)
theorem fact15 : ((Rows.wholeMessageRow.mapsOut == Tryz.checked.prog.mapsAmong Tryz.f3.resultTypes.toList)) = true := of_forced (by kernel_rfl)
theorem fact16 : ((Rows.wholeMessageRow.loops == (Tryz.f3.params.toList ++ Rows.wholeMessageSpec.plain.varTypes Tryz.checked.prog).any (Tryz.checked.prog.loopsFrom ·))) = true := of_forced (by kernel_rfl)
theorem fact17 : ((Rows.wholeMessageRow.wideKeys == (Tryz.f3.params.toList ++ Rows.wholeMessageSpec.plain.varTypes Tryz.checked.prog ++ Tryz.f3.resultTypes.toList).any (Tryz.checked.prog.wideKeysFrom ·))) = true := of_forced (by kernel_rfl)
theorem fact18 : (Rows.wholeMessageSpec.vars.all (Tryz.checked.prog.varReadable ·)) = true := of_forced (by kernel_rfl)
theorem fact19 : (Tryz.f3.resultTypes.all (fun t => Tryz.checked.prog.readableRec t && decide (t < Tryz.checked.prog.types.size))) = true := of_forced (by kernel_rfl)
theorem fact20 : ((Rows.wholeMessageRow.ifacesOut == Tryz.f3.resultTypes.toList.any (Tryz.checked.prog.ifacesRec ·))) = true := of_forced (by kernel_rfl)
theorem fact21 : ((Rows.wholeMessageRow.loopsOut == Tryz.f3.resultTypes.toList.any (Tryz.checked.prog.loopsFrom ·))) = true := of_forced (by kernel_rfl)
theorem fact22 : ((Rows.wholeMessageRow.plainKeys == Tryz.checked.prog.plainKeys)) = true := of_forced (by kernel_rfl)
theorem fact23 : (Rows.wholeMessageRow.shortTexts.isNone) = true := of_forced (by kernel_rfl)
theorem fact24 : (Tryz.checked.prog.stopsHeard) = true := of_forced (by kernel_rfl)
theorem fact25 : (Tryz.checked.prog.mayEnter) = true := of_forced (by kernel_rfl)
theorem fact26 : ((Rows.wholeMessageRow.lifted == Tryz.checked.prog.liftsFinal)) = true := of_forced (by kernel_rfl)
theorem fact27 : ((Tryz.checked.prog.make == some Rows.wholeMessageRow.make)) = true := of_forced (by kernel_rfl)
theorem fact29 : ((Rows.wholeMessageRow.pinned == Rows.wholeMessageRow.pinnedBy)) = true := of_forced (by kernel_rfl)
theorem fact30 : ((Rows.wholeMessageRow.veiled == (Tryz.f3.params.toList ++ Rows.wholeMessageSpec.plain.varTypes Tryz.checked.prog ++ Tryz.f3.resultTypes.toList).any (Tryz.checked.prog.veiledRec ·))) = true := of_forced (by kernel_rfl)
theorem fact31 : (Rows.wholeMessageRow.veiledFits Tryz.checked.prog Tryz.f3.params.toList (Tryz.f3.params.toList ++ Rows.wholeMessageSpec.plain.varTypes Tryz.checked.prog ++ Tryz.f3.resultTypes.toList)) = true := of_forced (by kernel_rfl)
theorem facts : joinedFacts Tryz.checked.prog 3 Tryz.f3 Rows.wholeMessageSpec Rows.wholeMessageRow = true := by
 delta joinedFacts
 refine and_intro (and_intro (and_intro (and_intro (and_intro (and_intro (and_intro (and_intro (and_intro (and_intro (and_intro (and_intro (and_intro (and_intro (and_intro (and_intro (and_intro (and_intro (and_intro (and_intro (and_intro (and_intro (and_intro (and_intro (and_intro (and_intro (and_intro (and_intro (and_intro (and_intro (and_intro fact0 fact1) fact2) fact3) fact4) fact5) fact6) fact7) fact8) fact9) fact10) fact11) fact12) fact13) fact14) fact15) fact16) fact17) fact18) fact19) fact20) fact21) fact22) fact23) fact24) fact25) fact26) fact27) ?_) fact29) fact30) fact31
 apply of_forced
 kernel_rfl
theorem row : Rows.WholeMessageSaid :=
 OpenClaim.holds_of_wide 3 Tryz.f3 rfl rfl rfl rfl rfl rfl rfl ⟨rfl, rfl, rfl, rfl, rfl⟩ rfl rfl rfl rfl rfl (by kernel_rfl) Tryz.func3 facts
  (of_decide_eq_true (by kernel_rfl)) (by unfold Func.isWrapper; first | (rw [if_pos (by decide +kernel)]; kernel_rfl) | (rw [if_neg (by decide +kernel)]; exact ⟨rfl, rfl⟩))
  (fun os started H enc _ => lifted os started H enc)
end Go.Proofs.YtiipdjhkcjbmkaaGreatDoor.rb.wholeMessage
