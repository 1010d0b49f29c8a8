/- A part of the proof (part 5): see the last text. -/
import Derived.Test.YtklmnikdhpkifaaGreatDoorRb4
set_option linter.unusedVariables false
set_option linter.unusedSimpArgs false
namespace Go.Proofs.YtklmnikdhpkifaaGreatDoor.rb.turnSame
open Rb Go.ChangeShapes Go.WideShapes Go.ChangeAt Go.RowKit

set_option maxRecDepth 100000 in
theorem lifted (os : Os) (started : os.Started) (H : Type) (enc : TypeId × Value → H) :
    ReturnsInHanded {} Tryz.checked os 3 .any (fun w args => (Rows.turnSameSpec.pre enc Tryz.prog Tryz.f3 [] false w args ∧ laidMet Tryz.prog laidVars w) ∧ sizedMet enc Tryz.prog Tryz.f3 (OpenSpec.ofChange Rows.turnSameSpec) false w args)
      (Rows.turnSameSpec.post enc Tryz.prog Tryz.f3 false true false false) := by
  refine returnsInHanded_of_change_and (C := Tryz.checked) (X := fun w _ => laidMet Tryz.prog laidVars w) (fun _ _ _ hh h => h.of_heap hh) own started (by kernel_rfl) Tryz.func3
    (ChangeSpec.witness_shaped (enc := enc) (C := Tryz.checked) (os := os) (X := fun w _ => laidMet Tryz.prog laidVars w) false (laidWorld os) #[.agg #[.slice none 0 0, .slice none 0 0, .slice none 0 0], .agg #[.slice none 0 0, .slice none 0 0, .slice none 0 0]] 8 rfl (laid_shaped os _) (by kernel_rfl) (by kernel_rfl) (by kernel_rfl) (laid_met os _)) ?_
  intro W base args ds gs before hval0 hW _ hsz hL _
  have hval : ∀ (j : Nat) t v, Tryz.f3.params[j]? = some t → args[j]? = some v → Value.okWide Tryz.prog W .any base t v := hval0
  have hW' := hW
  obtain ⟨p, q, hA0, hV0, rfl, hfz, hnd⟩ := hW
  have hA : DataW.TrodAll enc Tryz.prog W 0 (fun _ => true) true Tryz.f3.params.toList args.toList ds p := hA0
  have hV : DataW.TrodVars enc Tryz.prog W (fun _ => true) [] gs q := hV0
  rw [Tryz.params3] at hA hval
  obtain ⟨v0, v1, d0, d1, p0, p1, rfl, rfl, rfl, h0, h1⟩ := trodAll_two hA
  obtain ⟨rfl, rfl⟩ : gs = [] ∧ q = [] := by
    cases gs with
    | nil => exact ⟨rfl, hV⟩
    | cons g r => exact absurd hV (by intro h; cases h)
  obtain ⟨c0, rfl, _⟩ := okWide_struct Tryz.underlying26 (hval 0 26 v0 rfl rfl)
  obtain ⟨x0, o0, k0⟩ := Dec.arg (F := C.F) (fun n => Dec.mono (n := n + 3) (Dec.struct Tryz.underlying26 rfl (by kernel_rfl) (by kernel_rfl) (DecL.cons (Dec.slice Tryz.underlying22 (sz := 1) (by kernel_rfl) (by decide) (fun _ => rfl) (Dec.int Tryz.underlying5)) (DecL.cons (Dec.slice Tryz.underlying23 (sz := 1) (by kernel_rfl) (by decide) (fun _ => rfl) (Dec.slice Tryz.underlying29 (sz := 1) (by kernel_rfl) (by decide) (fun _ => rfl) (Dec.int Tryz.underlying32))) (DecL.cons (Dec.slice Tryz.underlying24 (sz := 1) (by kernel_rfl) (by decide) (fun _ => rfl) (Dec.int Tryz.underlying3)) (DecL.nil))))) (by omega)) h0
  obtain ⟨c1, rfl, _⟩ := okWide_struct Tryz.underlying26 (hval 1 26 v1 rfl rfl)
  obtain ⟨x1, o1, k1⟩ := Dec.arg (F := C.F) (fun n => Dec.mono (n := n + 3) (Dec.struct Tryz.underlying26 rfl (by kernel_rfl) (by kernel_rfl) (DecL.cons (Dec.slice Tryz.underlying22 (sz := 1) (by kernel_rfl) (by decide) (fun _ => rfl) (Dec.int Tryz.underlying5)) (DecL.cons (Dec.slice Tryz.underlying23 (sz := 1) (by kernel_rfl) (by decide) (fun _ => rfl) (Dec.slice Tryz.underlying29 (sz := 1) (by kernel_rfl) (by decide) (fun _ => rfl) (Dec.int Tryz.underlying32))) (DecL.cons (Dec.slice Tryz.underlying24 (sz := 1) (by kernel_rfl) (by decide) (fun _ => rfl) (Dec.int Tryz.underlying3)) (DecL.nil))))) (by omega)) h1
  refine (law_calls (C := C) (f := 3) (by kernel_rfl) (any ⟨x0.1, x0.2.1, x0.2.2.1⟩ (GOut.ok_of o0.1 o0.2.1 o0.2.2.1) ⟨x1.1, x1.2.1, x1.2.2.1⟩ (GOut.ok_of o1.1 o1.2.1 o1.2.2.1)) (gok hL) (VRs.two (show VR _ _ _ (.agg (GOut.cells ⟨x0.1, x0.2.1, x0.2.2.1⟩)) _ from k0.agg) (show VR _ _ _ (.agg (GOut.cells ⟨x1.1, x1.2.1, x1.2.2.1⟩)) _ from k1.agg))).mono fun e W' ⟨he, hbel⟩ => ?_
  subst he
  exact ⟨_, rfl, post_true (bt := 4) hW' laidOut (by kernel_rfl) (by kernel_rfl) (by kernel_rfl) Tryz.underlying4 rfl hbel⟩

set_option maxRecDepth 100000
theorem and_intro {a b : Bool} (ha : a = true) (hb : b = true) : (a && b) = true := by rw [ha, hb]; rfl
theorem fact0 : (Rows.turnSameRow.wf (OpenSpec.ofChange Rows.turnSameSpec)) = true := of_forced (by kernel_rfl)
theorem fact1 : (laidOutB Tryz.checked.prog) = true := of_forced (by kernel_rfl)
theorem fact2 : (mapsRowed Tryz.checked.prog) = true := of_forced (by kernel_rfl)
theorem fact3 : (Tryz.f3.params.all (Tryz.checked.prog.readableRec ·)) = true := of_forced (by kernel_rfl)
theorem fact4 : (namedTie Tryz.checked.prog Rows.turnSameRow.named Rows.turnSameSpec.vars) = true := of_forced (by kernel_rfl)
theorem fact5 : ((Rows.turnSameRow.stops == [])) = true := of_forced (by kernel_rfl)
theorem fact6 : ((Tryz.checked.prog.stops == [])) = true := of_forced (by kernel_rfl)
theorem fact7 : ((Rows.turnSameRow.knobs == [])) = true := of_forced (by kernel_rfl)
theorem fact8 : ((Tryz.checked.prog.stopKnobs == [])) = true := of_forced (by kernel_rfl)
theorem fact9 : ((Rows.turnSameRow.inPlace == Tryz.checked.prog.inPlace 3)) = true := of_forced (by kernel_rfl)
theorem fact10 : ((Rows.turnSameRow.unfollowed == Tryz.checked.prog.unfollowed 3)) = true := of_forced (by kernel_rfl)
theorem fact11 : ((Rows.turnSameRow.recurses == Tryz.checked.prog.recurses 3)) = true := of_forced (by kernel_rfl)
theorem fact12 : ((Rows.turnSameRow.named == Tryz.checked.prog.varsNamed 3)) = true := of_forced (by kernel_rfl)
theorem fact13 : ((Rows.turnSameRow.maps == (Tryz.f3.params.toList ++ Rows.turnSameSpec.plain.varTypes Tryz.checked.prog).any (Tryz.checked.prog.mapsRec ·))) = true := of_forced (by kernel_rfl)
theorem fact14 : ((Rows.turnSameRow.ifaces == (Tryz.f3.params.toList ++ Rows.turnSameSpec.plain.varTypes Tryz.checked.prog).any (Tryz.checked.prog.ifacesRec ·))) = true := of_forced (by kernel_rfl)
theorem fact15 : ((Rows.turnSameRow.mapsOut == Tryz.checked.prog.mapsAmong Tryz.f3.resultTypes.toList)) = true := of_forced (by kernel_rfl)
theorem fact16 : ((Rows.turnSameRow.loops == (Tryz.f3.params.toList ++ Rows.turnSameSpec.plain.varTypes Tryz.checked.prog).any (Tryz.checked.prog.loopsFrom ·))) = true := of_forced (by kernel_rfl)
theorem fact17 : ((Rows.turnSameRow.wideKeys == (Tryz.f3.params.toList ++ Rows.turnSameSpec.plain.varTypes Tryz.checked.prog ++ Tryz.f3.resultTypes.toList).any (Tryz.checked.prog.wideKeysFrom ·))) = true := of_forced (by kernel_rfl)
theorem fact18 : (Rows.turnSameSpec.vars.all (Tryz.checked.prog.varReadable ·)) = true := of_forced (by kernel_rfl)
theorem fact19 : (Tryz.f3.resultTypes.all (fun t => Tryz.checked.prog.readableRec t && decide (t < Tryz.checked.prog.types.size))) = true := of_forced (by kernel_rfl)
theorem fact20 : ((Rows.turnSameRow.ifacesOut == Tryz.f3.resultTypes.toList.any (Tryz.checked.prog.ifacesRec ·))) = true := of_forced (by kernel_rfl)
theorem fact21 : ((Rows.turnSameRow.loopsOut == Tryz.f3.resultTypes.toList.any (Tryz.checked.prog.loopsFrom ·))) = true := of_forced (by kernel_rfl)
theorem fact22 : ((Rows.turnSameRow.plainKeys == Tryz.checked.prog.plainKeys)) = true := of_forced (by kernel_rfl)
theorem fact23 : (Rows.turnSameRow.shortTexts.isNone) = true := of_forced (by kernel_rfl)
theorem fact24 : (Tryz.checked.prog.stopsHeard) = true := of_forced (by kernel_rfl)
theorem fact25 : (Tryz.checked.prog.mayEnter) = true := of_forced (by kernel_rfl)
theorem fact26 : ((Rows.turnSameRow.lifted == Tryz.checked.prog.liftsFinal)) = true := of_forced (by kernel_rfl)
theorem fact27 : ((Tryz.checked.prog.make == some Rows.turnSameRow.make)) = true := of_forced (by kernel_rfl)
theorem fact29 : ((Rows.turnSameRow.pinned == Rows.turnSameRow.pinnedBy)) = true := of_forced (by kernel_rfl)
theorem fact30 : ((Rows.turnSameRow.veiled == (Tryz.f3.params.toList ++ Rows.turnSameSpec.plain.varTypes Tryz.checked.prog ++ Tryz.f3.resultTypes.toList).any (Tryz.checked.prog.veiledRec ·))) = true := of_forced (by kernel_rfl)
theorem fact31 : (Rows.turnSameRow.veiledFits Tryz.checked.prog Tryz.f3.params.toList (Tryz.f3.params.toList ++ Rows.turnSameSpec.plain.varTypes Tryz.checked.prog ++ Tryz.f3.resultTypes.toList)) = true := of_forced (by kernel_rfl)
theorem facts : joinedFacts Tryz.checked.prog 3 Tryz.f3 Rows.turnSameSpec Rows.turnSameRow = true := by
  delta joinedFacts
  refine and_intro (and_intro (and_intro (and_intro (and_intro (and_intro (and_intro (and_intro (and_intro (and_intro (and_intro (and_intro (and_intro (and_intro (and_intro (and_intro (and_intro (and_intro (and_intro (and_intro (and_intro (and_intro (and_intro (and_intro (and_intro (and_intro (and_intro (and_intro (and_intro (and_intro (and_intro fact0 fact1) fact2) fact3) fact4) fact5) fact6) fact7) fact8) fact9) fact10) fact11) fact12) fact13) fact14) fact15) fact16) fact17) fact18) fact19) fact20) fact21) fact22) fact23) fact24) fact25) fact26) fact27) ?_) fact29) fact30) fact31
  apply of_forced
  kernel_rfl
theorem row : Rows.TurnSameSaid :=
  OpenClaim.holds_of_wide 3 Tryz.f3 rfl rfl rfl rfl rfl rfl rfl ⟨rfl, rfl, rfl, rfl, rfl⟩ rfl rfl rfl rfl rfl (by kernel_rfl) Tryz.func3 facts
    (of_decide_eq_true (by kernel_rfl)) (by unfold Func.isWrapper; first | (rw [if_pos (by decide +kernel)]; kernel_rfl) | (rw [if_neg (by decide +kernel)]; exact ⟨rfl, rfl⟩))
    (fun os started H enc _ => lifted os started H enc)
end Go.Proofs.YtklmnikdhpkifaaGreatDoor.rb.turnSame
