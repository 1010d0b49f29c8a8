/- A part of the proof (part 8): see the last text. -/
import Derived.Test.YtggbkidckoecfaaGreatDoorRb7
set_option linter.unusedVariables false
set_option linter.unusedSimpArgs false
namespace Go.Proofs.YtggbkidckoecfaaGreatDoor.rb.srcFuel
open Rb Go.ChangeShapes Go.WideShapes Go.ChangeAt Go.RowKit
set_option maxRecDepth 100000 in
theorem lifted (os : Os) (started : os.Started) (H : Type) (enc : TypeId × Value → H) :
  ReturnsInHanded {} Tryz.checked os 5 .any (fun w args => (Rows.srcFuelSpec.pre enc Tryz.prog Tryz.f5 [] false w args ∧ laidMet Tryz.prog laidVars w) ∧ sizedMet enc Tryz.prog Tryz.f5 (OpenSpec.ofChange Rows.srcFuelSpec) false w args)
   (Rows.srcFuelSpec.post enc Tryz.prog Tryz.f5 false true false false) := by
 refine returnsInHanded_of_change_and (C := Tryz.checked) (X := fun w _ => laidMet Tryz.prog laidVars w) (fun _ _ _ hh h => h.of_heap hh) own started (by kernel_rfl) Tryz.func5
  (ChangeSpec.witness_shaped (enc := enc) (C := Tryz.checked) (os := os) (X := fun w _ => laidMet Tryz.prog laidVars w) false (laidWorld os) #[.agg #[.slice none 0 0, .slice none 0 0], .int .i64 0, .slice none 0 0, .int .u16 0, .int .u16 0] 8 rfl (laid_shaped os _) (by kernel_rfl) (by kernel_rfl) (by kernel_rfl) (laid_met os _)) ?_
 intro W base args ds gs before hval0 hW _ hsz hL _
 have hval : ∀ (j : Nat) t v, Tryz.f5.params[j]? = some t → args[j]? = some v → Value.okWide Tryz.prog W .any base t v := hval0
 have hW' := hW
 obtain ⟨p, q, hA0, hV0, rfl, hfz, hnd⟩ := hW
 have hA : DataW.TrodAll enc Tryz.prog W 0 (fun _ => true) true Tryz.f5.params.toList args.toList ds p := hA0
 have hV : DataW.TrodVars enc Tryz.prog W (fun _ => true) [] gs q := hV0
 rw [Tryz.params5] at hA hval
 obtain ⟨v0, v1, v2, v3, v4, d0, d1, d2, d3, d4, p0, p1, p2, p3, p4, rfl, rfl, rfl, h0, h1, h2, h3, h4⟩ := trodAll_five hA
 obtain ⟨rfl, rfl⟩ : gs = [] ∧ q = [] := by
  cases gs with
  | nil => exact ⟨rfl, hV⟩
  | cons g r => exact absurd hV (by intro h; cases h)
 obtain ⟨c0, rfl, _⟩ := okWide_struct Tryz.underlying25 (hval 0 25 v0 rfl rfl)
 obtain ⟨x0, o0, k0⟩ := Dec.arg (F := C.F) decProg h0 (fun n hn => of_decide_eq_true (List.all_eq_true.1 hsz n (DataW.weights_mem_each (j := 0) rfl rfl n hn)))
 obtain ⟨a1, rfl, rfl, rfl, w1⟩ := open_int Tryz.underlying3 (hval 1 3 v1 rfl rfl) h1
 have b1 : IntKind.min .i64 ≤ a1 ∧ a1 ≤ IntKind.max .i64 := by simpa [Lit.wf] using w1
 simp only [IntKind.min, IntKind.max, IntKind.signed, IntKind.bits, if_true, if_false, Bool.false_eq_true] at b1
 obtain ⟨c2, l2, m2, rfl⟩ := okWide_slice Tryz.underlying26 (hval 2 26 v2 rfl rfl)
 obtain ⟨x2, o2, k2⟩ := Dec.arg (F := C.F) decAns h2 (fun n hn => of_decide_eq_true (List.all_eq_true.1 hsz n (DataW.weights_mem_each (j := 2) rfl rfl n hn)))
 obtain ⟨a3, rfl, rfl, rfl, w3⟩ := open_int Tryz.underlying67 (hval 3 67 v3 rfl rfl) h3
 have b3 : IntKind.min .u16 ≤ a3 ∧ a3 ≤ IntKind.max .u16 := by simpa [Lit.wf] using w3
 simp only [IntKind.min, IntKind.max, IntKind.signed, IntKind.bits, if_true, if_false, Bool.false_eq_true] at b3
 obtain ⟨a4, rfl, rfl, rfl, w4⟩ := open_int Tryz.underlying67 (hval 4 67 v4 rfl rfl) h4
 have b4 : IntKind.min .u16 ≤ a4 ∧ a4 ≤ IntKind.max .u16 := by simpa [Lit.wf] using w4
 simp only [IntKind.min, IntKind.max, IntKind.signed, IntKind.bits, if_true, if_false, Bool.false_eq_true] at b4
 refine (law_calls (C := C) (f := 5) (by kernel_rfl) (any x0 o0 a1 (by omega) (by omega) x2 o2.1 o2.2 a3 (by omega) (by omega) a4 (by omega) (by omega)) (gok hL) (VRs.five k0.agg (.int _ _) (k2.2 0 _ _ rfl rfl) (.int _ _) (.int _ _))).mono fun e W' ⟨he, hbel⟩ => ?_
 subst he
 exact ⟨_, rfl, post_true (bt := 4) hW' laidOut (by kernel_rfl) (by kernel_rfl) (by kernel_rfl) Tryz.underlying4 rfl hbel⟩
set_option maxRecDepth 100000
theorem and_intro {a b : Bool} (ha : a = true) (hb : b = true) : (a && b) = true := by rw [ha, hb]; rfl
theorem fact0 : (Rows.srcFuelRow.wf (OpenSpec.ofChange Rows.srcFuelSpec)) = true := of_forced (by kernel_rfl)
theorem fact1 : (laidOutB Tryz.checked.prog) = true := of_forced (by kernel_rfl)
theorem fact2 : (mapsRowed Tryz.checked.prog) = true := of_forced (by kernel_rfl)
theorem fact3 : (Tryz.f5.params.all (Tryz.checked.prog.readableRec ·)) = true := of_forced (by kernel_rfl)
theorem fact4 : (namedTie Tryz.checked.prog Rows.srcFuelRow.named Rows.srcFuelSpec.vars) = true := of_forced (by kernel_rfl)
theorem fact5 : ((Rows.srcFuelRow.stops == [])) = true := of_forced (by kernel_rfl)
theorem fact6 : ((Tryz.checked.prog.stops == [])) = true := of_forced (by kernel_rfl)
theorem fact7 : ((Rows.srcFuelRow.knobs == [])) = true := of_forced (by kernel_rfl)
theorem fact8 : ((Tryz.checked.prog.stopKnobs == [])) = true := of_forced (by kernel_rfl)
theorem fact9 : ((Rows.srcFuelRow.inPlace == Tryz.checked.prog.inPlace 5)) = true := of_forced (by kernel_rfl)
theorem fact10 : ((Rows.srcFuelRow.unfollowed == Tryz.checked.prog.unfollowed 5)) = true := of_forced (by kernel_rfl)
theorem fact11 : ((Rows.srcFuelRow.recurses == Tryz.checked.prog.recurses 5)) = true := of_forced (by kernel_rfl)
theorem fact12 : ((Rows.srcFuelRow.named == Tryz.checked.prog.varsNamed 5)) = true := of_forced (by kernel_rfl)
theorem fact13 : ((Rows.srcFuelRow.maps == (Tryz.f5.params.toList ++ Rows.srcFuelSpec.plain.varTypes Tryz.checked.prog).any (Tryz.checked.prog.mapsRec ·))) = true := of_forced (by kernel_rfl)
theorem fact14 : ((Rows.srcFuelRow.ifaces == (Tryz.f5.params.toList ++ Rows.srcFuelSpec.plain.varTypes Tryz.checked.prog).any (Tryz.checked.prog.ifacesRec ·))) = true := of_forced (by kernel_rfl)
theorem fact15 : ((Rows.srcFuelRow.mapsOut == Tryz.checked.prog.mapsAmong Tryz.f5.resultTypes.toList)) = true := of_forced (by kernel_rfl)
theorem fact16 : ((Rows.srcFuelRow.loops == (Tryz.f5.params.toList ++ Rows.srcFuelSpec.plain.varTypes Tryz.checked.prog).any (Tryz.checked.prog.loopsFrom ·))) = true := of_forced (by kernel_rfl)
theorem fact17 : ((Rows.srcFuelRow.wideKeys == (Tryz.f5.params.toList ++ Rows.srcFuelSpec.plain.varTypes Tryz.checked.prog ++ Tryz.f5.resultTypes.toList).any (Tryz.checked.prog.wideKeysFrom ·))) = true := of_forced (by kernel_rfl)
theorem fact18 : (Rows.srcFuelSpec.vars.all (Tryz.checked.prog.varReadable ·)) = true := of_forced (by kernel_rfl)
theorem fact19 : (Tryz.f5.resultTypes.all (fun t => Tryz.checked.prog.readableRec t && decide (t < Tryz.checked.prog.types.size))) = true := of_forced (by kernel_rfl)
theorem fact20 : ((Rows.srcFuelRow.ifacesOut == Tryz.f5.resultTypes.toList.any (Tryz.checked.prog.ifacesRec ·))) = true := of_forced (by kernel_rfl)
theorem fact21 : ((Rows.srcFuelRow.loopsOut == Tryz.f5.resultTypes.toList.any (Tryz.checked.prog.loopsFrom ·))) = true := of_forced (by kernel_rfl)
theorem fact22 : ((Rows.srcFuelRow.plainKeys == Tryz.checked.prog.plainKeys)) = true := of_forced (by kernel_rfl)
theorem fact23 : (Rows.srcFuelRow.shortTexts.isNone) = true := of_forced (by kernel_rfl)
theorem fact24 : (Tryz.checked.prog.stopsHeard) = true := of_forced (by kernel_rfl)
theorem fact25 : (Tryz.checked.prog.mayEnter) = true := of_forced (by kernel_rfl)
theorem fact26 : ((Rows.srcFuelRow.lifted == Tryz.checked.prog.liftsFinal)) = true := of_forced (by kernel_rfl)
theorem fact27 : ((Tryz.checked.prog.make == some Rows.srcFuelRow.make)) = true := of_forced (by kernel_rfl)
theorem fact29 : ((Rows.srcFuelRow.pinned == Rows.srcFuelRow.pinnedBy)) = true := of_forced (by kernel_rfl)
theorem fact30 : ((Rows.srcFuelRow.veiled == (Tryz.f5.params.toList ++ Rows.srcFuelSpec.plain.varTypes Tryz.checked.prog ++ Tryz.f5.resultTypes.toList).any (Tryz.checked.prog.veiledRec ·))) = true := of_forced (by kernel_rfl)
theorem fact31 : (Rows.srcFuelRow.veiledFits Tryz.checked.prog Tryz.f5.params.toList (Tryz.f5.params.toList ++ Rows.srcFuelSpec.plain.varTypes Tryz.checked.prog ++ Tryz.f5.resultTypes.toList)) = true := of_forced (by kernel_rfl)
theorem facts : joinedFacts Tryz.checked.prog 5 Tryz.f5 Rows.srcFuelSpec Rows.srcFuelRow = true := by
 delta joinedFacts
 refine and_intro (and_intro (and_intro (and_intro (and_intro (and_intro (and_intro (and_intro (and_intro (and_intro (and_intro (and_intro (and_intro (and_intro (and_intro (and_intro (and_intro (and_intro (and_intro (and_intro (and_intro (and_intro (and_intro (and_intro (and_intro (and_intro (and_intro (and_intro (and_intro (and_intro (and_intro fact0 fact1) fact2) fact3) fact4) fact5) fact6) fact7) fact8) fact9) fact10) fact11) fact12) fact13) fact14) fact15) fact16) fact17) fact18) fact19) fact20) fact21) fact22) fact23) fact24) fact25) fact26) fact27) ?_) fact29) fact30) fact31
 apply of_forced
 kernel_rfl
theorem row : Rows.SrcFuelSaid :=
 OpenClaim.holds_of_wide 5 Tryz.f5 rfl rfl rfl rfl rfl rfl rfl ⟨rfl, rfl, rfl, rfl, rfl⟩ rfl rfl rfl rfl rfl (by kernel_rfl) Tryz.func5 facts
  (of_decide_eq_true (by kernel_rfl)) (by unfold Func.isWrapper; first | (rw [if_pos (by decide +kernel)]; kernel_rfl) | (rw [if_neg (by decide +kernel)]; exact ⟨rfl, rfl⟩))
  (fun os started H enc _ => lifted os started H enc)
end Go.Proofs.YtggbkidckoecfaaGreatDoor.rb.srcFuel
