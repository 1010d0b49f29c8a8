/- Proved: rabbetlaw08.LexKeywords returns true for every input, its arguments read afterwards as before. Conditions: those of the given card (the listed variables hold what the text of the program lays). -/
import Derived.Test.YthmmfdmmhpbpnaaDoorRb2
import Derived.Test.YthmmfdmmhpbpnaaDoorRb3
import Derived.Test.YthmmfdmmhpbpnaaDoorRows
import Derived.LaidLaws
import Derived.LaidHandle
import Derived.Lib.LaidU8
import Derived.Deep.DeepLaidRun
import Derived.Handed
import Derived.JoinedOf
import Derived.SevenTiedAt
import Derived.ProofKit
import Derived.Lib.Space
import Derived.Test.YthmmfdmmhpbpnaaDoorTie
import Derived.Test.YthmmfdmmhpbpnaaDoorCards
import Derived.WalkKit
import Derived.Lib.Bytealg
import Derived.Laws.Externs
/- The seat's functions: which they are; that each is as its text says; as runs. By seat.py. -/
set_option linter.unusedVariables false
namespace Go.Proofs.YthmmfdmmhpbpnaaDoor.rb
open Rb
noncomputable def fids : List (Nat × FuncId) := [(103, 8), (115, 11), (116, 12), (124, 14), (125, 15), (126, 16), (156, 3), (157, 4), (158, 5), (159, 6), (160, 7), (161, 9), (162, 10), (163, 13), (164, 17), (165, 18), (166, 19), (167, 20), (168, 21), (169, 23), (170, 24), (171, 25), (172, 26), (173, 27), (174, 28), (175, 31), (176, 32), (177, 33), (178, 34), (179, 35), (180, 36)]
noncomputable def gt (g : Nat) : Option (List AV) := if g = 0 then some asciiSpace else none
theorem gtok : ∀ g l, gt g = some l → AV.frozs l = true := by
  intro g l h
  unfold gt at h
  split at h
  · cases h; kernel_rfl
  cases h
noncomputable def C : Ctx := mkC Tryd.prog fids gt
theorem fok : FOK C := fok_of (by kernel_rfl)
theorem gtC : GTok C := gtok
theorem cl_lex : Cl (ACall C) S.tab_lex := Cl.of (ACall_mono C) (closed_of fok (by kernel_rfl))
theorem cl_libinternalstrconv : Cl (ACall C) S.tab_libinternalstrconv := Cl.of (ACall_mono C) (closed_of fok (by kernel_rfl))
theorem cl_libinternalstringslite : Cl (ACall C) S.tab_libinternalstringslite := Cl.of (ACall_mono C) (closed_of fok (by kernel_rfl))
theorem cl_libslices : Cl (ACall C) S.tab_libslices := Cl.of (ACall_mono C) (closed_of fok (by kernel_rfl))
theorem cl_libstrconv : Cl (ACall C) S.tab_libstrconv := Cl.of (ACall_mono C) (closed_of fok (by kernel_rfl))
theorem cl_libstrings : Cl (ACall C) S.tab_libstrings := Cl.of (ACall_mono C) (closed_of fok (by kernel_rfl))
theorem cl_rabbetlaw08 : Cl (ACall C) S.tab_rabbetlaw08 := Cl.of (ACall_mono C) (closed_of fok (by kernel_rfl))
theorem cl_rabbetref08 : Cl (ACall C) S.tab_rabbetref08 := Cl.of (ACall_mono C) (closed_of fok (by kernel_rfl))
noncomputable def disp (n : Nat) (Φ : CallsB) : CallsB := fun k a T Q =>
  cond (Nat.blt k 165) (cond (Nat.blt k 158) (cond (Nat.blt k 124) (cond (Nat.blt k 115) (cond (Nat.beq k 103) (ap1 (R.lex_Keyword Φ n) a T Q) false) (cond (Nat.blt k 116) (cond (Nat.beq k 115) (ap2 (R.slices_Contains___string_string_ Φ n) a T Q) false) (cond (Nat.beq k 116) (ap1 (R.strings_Fields Φ n) a T Q) false))) (cond (Nat.blt k 156) (cond (Nat.blt k 125) (cond (Nat.beq k 124) (ap2 (R.slices_Index___string_string_ Φ n) a T Q) false) (cond (Nat.beq k 125) (ap2 (R.strings_FieldsFunc Φ n) a T Q) false)) (cond (Nat.blt k 157) (cond (Nat.beq k 156) (ap2 (R.rabbetlaw08_LexKeywords Φ n) a T Q) false) (cond (Nat.beq k 157) (ap1 (R.rabbetlaw08_LexBack Φ n) a T Q) false)))) (cond (Nat.blt k 161) (cond (Nat.blt k 159) (cond (Nat.beq k 158) (ap2 (R.rabbetlaw08_LexJoins Φ n) a T Q) false) (cond (Nat.blt k 160) (cond (Nat.beq k 159) (ap0 (R.rabbetref08_Keywords Φ n) a T Q) false) (cond (Nat.beq k 160) (ap0 (R.rabbetlaw08_awake Φ n) a T Q) false))) (cond (Nat.blt k 163) (cond (Nat.blt k 162) (cond (Nat.beq k 161) (ap1 (R.rabbetref08_Keyword Φ n) a T Q) false) (cond (Nat.beq k 162) (ap1 (R.lex_Tokens Φ n) a T Q) false)) (cond (Nat.blt k 164) (cond (Nat.beq k 163) (ap1 (R.lex_scanner_next Φ n) a T Q) false) (cond (Nat.beq k 164) (ap1 (R.lex_letter Φ n) a T Q) false))))) (cond (Nat.blt k 172) (cond (Nat.blt k 168) (cond (Nat.blt k 166) (cond (Nat.beq k 165) (ap1 (R.lex_scanner_word Φ n) a T Q) false) (cond (Nat.blt k 167) (cond (Nat.beq k 166) (ap1 (R.lex_digit Φ n) a T Q) false) (cond (Nat.beq k 167) (ap1 (R.lex_scanner_number Φ n) a T Q) false))) (cond (Nat.blt k 170) (cond (Nat.blt k 169) (cond (Nat.beq k 168) (ap1 (R.lex_scanner_sign Φ n) a T Q) false) (cond (Nat.beq k 169) (ap2 (R.lex_scanner_run Φ n) a T Q) false)) (cond (Nat.blt k 171) (cond (Nat.beq k 170) (ap1 (R.lex_part Φ n) a T Q) false) (cond (Nat.beq k 171) (ap2 (R.lex_scanner_take Φ n) a T Q) false)))) (cond (Nat.blt k 175) (cond (Nat.blt k 173) (cond (Nat.beq k 172) (ap3 (R.strconv_ParseUint Φ n) a T Q) false) (cond (Nat.blt k 174) (cond (Nat.beq k 173) (ap2 (R.strings_HasPrefix Φ n) a T Q) false) (cond (Nat.beq k 174) (ap2 (R.strings_IndexByte Φ n) a T Q) false))) (cond (Nat.blt k 179) (cond (Nat.blt k 177) (cond (Nat.beq k 175) (ap3 (R.internal_strconv_ParseUint Φ n) a T Q) false) (cond (Nat.beq k 177) (ap2 (R.internal_stringslite_HasPrefix Φ n) a T Q) false)) (cond (Nat.blt k 180) (cond (Nat.beq k 179) (ap1 (R.internal_strconv_lower Φ n) a T Q) false) (cond (Nat.beq k 180) (ap1 (R.internal_strconv_underscoreOK Φ n) a T Q) false)))))
theorem dispOK (n : Nat) : DispOK (ACall C) (disp n) := fun B hB =>
  (.node 165 (.node 158 (.node 124 (.node 115 (.leaf cl_lex hB (n := n) (m := 1) (ir := S.ir_lex_Keyword) (by kernel_rfl) (by kernel_rfl) (leaf1 fun a0 T Q => R.eq_lex_Keyword B n a0 T Q)) (.node 116 (.leaf cl_libslices hB (n := n) (m := 2) (ir := S.ir_slices_Contains___string_string_) (by kernel_rfl) (by kernel_rfl) (leaf2 fun a0 a1 T Q => R.eq_slices_Contains___string_string_ B n a0 a1 T Q)) (.leaf cl_libstrings hB (n := n) (m := 1) (ir := S.ir_strings_Fields) (by kernel_rfl) (by kernel_rfl) (leaf1 fun a0 T Q => R.eq_strings_Fields B n a0 T Q)))) (.node 156 (.node 125 (.leaf cl_libslices hB (n := n) (m := 2) (ir := S.ir_slices_Index___string_string_) (by kernel_rfl) (by kernel_rfl) (leaf2 fun a0 a1 T Q => R.eq_slices_Index___string_string_ B n a0 a1 T Q)) (.leaf cl_libstrings hB (n := n) (m := 2) (ir := S.ir_strings_FieldsFunc) (by kernel_rfl) (by kernel_rfl) (leaf2 fun a0 a1 T Q => R.eq_strings_FieldsFunc B n a0 a1 T Q))) (.node 157 (.leaf cl_rabbetlaw08 hB (n := n) (m := 2) (ir := S.ir_rabbetlaw08_LexKeywords) (by kernel_rfl) (by kernel_rfl) (leaf2 fun a0 a1 T Q => R.eq_rabbetlaw08_LexKeywords B n a0 a1 T Q)) (.leaf cl_rabbetlaw08 hB (n := n) (m := 1) (ir := S.ir_rabbetlaw08_LexBack) (by kernel_rfl) (by kernel_rfl) (leaf1 fun a0 T Q => R.eq_rabbetlaw08_LexBack B n a0 T Q))))) (.node 161 (.node 159 (.leaf cl_rabbetlaw08 hB (n := n) (m := 2) (ir := S.ir_rabbetlaw08_LexJoins) (by kernel_rfl) (by kernel_rfl) (leaf2 fun a0 a1 T Q => R.eq_rabbetlaw08_LexJoins B n a0 a1 T Q)) (.node 160 (.leaf cl_rabbetref08 hB (n := n) (m := 0) (ir := S.ir_rabbetref08_Keywords) (by kernel_rfl) (by kernel_rfl) (leaf0 fun T Q => R.eq_rabbetref08_Keywords B n T Q)) (.leaf cl_rabbetlaw08 hB (n := n) (m := 0) (ir := S.ir_rabbetlaw08_awake) (by kernel_rfl) (by kernel_rfl) (leaf0 fun T Q => R.eq_rabbetlaw08_awake B n T Q)))) (.node 163 (.node 162 (.leaf cl_rabbetref08 hB (n := n) (m := 1) (ir := S.ir_rabbetref08_Keyword) (by kernel_rfl) (by kernel_rfl) (leaf1 fun a0 T Q => R.eq_rabbetref08_Keyword B n a0 T Q)) (.leaf cl_lex hB (n := n) (m := 1) (ir := S.ir_lex_Tokens) (by kernel_rfl) (by kernel_rfl) (leaf1 fun a0 T Q => R.eq_lex_Tokens B n a0 T Q))) (.node 164 (.leaf cl_lex hB (n := n) (m := 1) (ir := S.ir_lex_scanner_next) (by kernel_rfl) (by kernel_rfl) (leaf1 fun a0 T Q => R.eq_lex_scanner_next B n a0 T Q)) (.leaf cl_lex hB (n := n) (m := 1) (ir := S.ir_lex_letter) (by kernel_rfl) (by kernel_rfl) (leaf1 fun a0 T Q => R.eq_lex_letter B n a0 T Q)))))) (.node 172 (.node 168 (.node 166 (.leaf cl_lex hB (n := n) (m := 1) (ir := S.ir_lex_scanner_word) (by kernel_rfl) (by kernel_rfl) (leaf1 fun a0 T Q => R.eq_lex_scanner_word B n a0 T Q)) (.node 167 (.leaf cl_lex hB (n := n) (m := 1) (ir := S.ir_lex_digit) (by kernel_rfl) (by kernel_rfl) (leaf1 fun a0 T Q => R.eq_lex_digit B n a0 T Q)) (.leaf cl_lex hB (n := n) (m := 1) (ir := S.ir_lex_scanner_number) (by kernel_rfl) (by kernel_rfl) (leaf1 fun a0 T Q => R.eq_lex_scanner_number B n a0 T Q)))) (.node 170 (.node 169 (.leaf cl_lex hB (n := n) (m := 1) (ir := S.ir_lex_scanner_sign) (by kernel_rfl) (by kernel_rfl) (leaf1 fun a0 T Q => R.eq_lex_scanner_sign B n a0 T Q)) (.leaf cl_lex hB (n := n) (m := 2) (ir := S.ir_lex_scanner_run) (by kernel_rfl) (by kernel_rfl) (leaf2 fun a0 a1 T Q => R.eq_lex_scanner_run B n a0 a1 T Q))) (.node 171 (.leaf cl_lex hB (n := n) (m := 1) (ir := S.ir_lex_part) (by kernel_rfl) (by kernel_rfl) (leaf1 fun a0 T Q => R.eq_lex_part B n a0 T Q)) (.leaf cl_lex hB (n := n) (m := 2) (ir := S.ir_lex_scanner_take) (by kernel_rfl) (by kernel_rfl) (leaf2 fun a0 a1 T Q => R.eq_lex_scanner_take B n a0 a1 T Q))))) (.node 175 (.node 173 (.leaf cl_libstrconv hB (n := n) (m := 3) (ir := S.ir_strconv_ParseUint) (by kernel_rfl) (by kernel_rfl) (leaf3 fun a0 a1 a2 T Q => R.eq_strconv_ParseUint B n a0 a1 a2 T Q)) (.node 174 (.leaf cl_libstrings hB (n := n) (m := 2) (ir := S.ir_strings_HasPrefix) (by kernel_rfl) (by kernel_rfl) (leaf2 fun a0 a1 T Q => R.eq_strings_HasPrefix B n a0 a1 T Q)) (.leaf cl_libstrings hB (n := n) (m := 2) (ir := S.ir_strings_IndexByte) (by kernel_rfl) (by kernel_rfl) (leaf2 fun a0 a1 T Q => R.eq_strings_IndexByte B n a0 a1 T Q)))) (.node 179 (.node 177 (.leaf cl_libinternalstrconv hB (n := n) (m := 3) (ir := S.ir_internal_strconv_ParseUint) (by kernel_rfl) (by kernel_rfl) (leaf3 fun a0 a1 a2 T Q => R.eq_internal_strconv_ParseUint B n a0 a1 a2 T Q)) (.leaf cl_libinternalstringslite hB (n := n) (m := 2) (ir := S.ir_internal_stringslite_HasPrefix) (by kernel_rfl) (by kernel_rfl) (leaf2 fun a0 a1 T Q => R.eq_internal_stringslite_HasPrefix B n a0 a1 T Q))) (.node 180 (.leaf cl_libinternalstrconv hB (n := n) (m := 1) (ir := S.ir_internal_strconv_lower) (by kernel_rfl) (by kernel_rfl) (leaf1 fun a0 T Q => R.eq_internal_strconv_lower B n a0 T Q)) (.leaf cl_libinternalstrconv hB (n := n) (m := 1) (ir := S.ir_internal_strconv_underscoreOK) (by kernel_rfl) (by kernel_rfl) (leaf1 fun a0 T Q => R.eq_internal_strconv_underscoreOK B n a0 T Q)))))))
end Go.Proofs.YthmmfdmmhpbpnaaDoor.rb

/- From what a law's function does to the statement. -/
set_option linter.unusedVariables false
namespace Rb
open Go Go.RowKit

/-- All that is there may be read, and nothing is written: frozen. -/
def allFz (W : World) : Nat → Nat → Prop := fun b o => ∃ V, W.cell? ⟨b, o, none⟩ = some V

theorem law_calls {C : Ctx} {key : Nat} {f : FuncId} {args : List AV} {Vs : Array Value} {W : World} (hf : C.F key = some f) (h : ACall C key args AH.mt (fun v _ => v = .bool true)) (hG : GOK C W (Ghost.mt (allFz W)))
    (hargs : VRs C.F W (Ghost.mt (allFz W)) args Vs) : Calls C.P f Vs W fun e W' => e = .returned (.bool true) ∧ Below W.heap.size W W' := by
  refine Calls.mono (h f hf _ W Vs hG (Rel.mt fun _ _ h => h) hargs) fun e w' he => ?_
  obtain ⟨V, v, H', G', rfl, rfl, hv, _, hst⟩ := he
  obtain rfl := hv.bool_inv
  exact ⟨rfl, hst.below⟩

/-- A variable that holds small numbers. -/
theorem fptr_of_tab {F : FTab} {W : World} {g : Nat} {k : IntKind} {zs : List Int} (h : ∀ i, i < zs.length → W.cell? ⟨g, i, none⟩ = some (.int k (zs.getD i 0))) : VR F W (Ghost.mt (allFz W)) (.fptr (zs.map (.int k))) (.pointer (some ⟨g, 0, none⟩)) := by
  refine .fptr _ g 0 (fun j => .int k (zs.getD j 0)) (fun j c hj => ?_) fun j c hj => ?_
  · have hl : j < zs.length := by simpa using (List.getElem?_eq_some_iff.1 hj).1
    rw [Nat.zero_add]
    exact ⟨⟨_, h j hl⟩, h j hl⟩
  · have hl : j < zs.length := by simpa using (List.getElem?_eq_some_iff.1 hj).1
    have : c = .int k (zs.getD j 0) := by
      rw [List.getElem?_map, List.getElem?_eq_getElem hl] at hj
      simp only [Option.map_some, Option.some.injEq] at hj
      rw [← hj, List.getD_eq_getElem?_getD, List.getElem?_eq_getElem hl]; rfl
    rw [this]
    exact .int _ _

theorem VRs.two {F : FTab} {w : World} {G : Ghost} {c d : AV} {V U : Value} (h : VR F w G c V) (h' : VR F w G d U) : VRs F w G [c, d] #[V, U] := ⟨rfl, fun j c' V' hc hV => by
  rcases j with _ | _ | j
  · simp at hc hV; subst hc; subst hV; exact h
  · simp at hc hV; subst hc; subst hV; exact h'
  · simp at hc⟩
theorem VRs.three {F : FTab} {w : World} {G : Ghost} {c d e : AV} {V U X : Value} (h : VR F w G c V) (h' : VR F w G d U) (h'' : VR F w G e X) : VRs F w G [c, d, e] #[V, U, X] := ⟨rfl, fun j c' V' hc hV => by
  rcases j with _ | _ | _ | j
  · simp at hc hV; subst hc; subst hV; exact h
  · simp at hc hV; subst hc; subst hV; exact h'
  · simp at hc hV; subst hc; subst hV; exact h''
  · simp at hc⟩

theorem VR_string {F : FTab} {w : World} {G : Ghost} (b : ByteArray) : VR F w G (.str b.data.toList) (.string b) := by
  have h : (⟨b.data.toList.toArray⟩ : ByteArray) = b := by cases b; simp
  have := VR.str (F := F) (w := w) (G := G) b.data.toList
  rwa [h] at this

theorem asciiSpace_eq : asciiSpace = (Go.Lib.asciiSpaceTab.map (AV.int .u8)) := by kernel_rfl
end Rb

/- What all laws of the seat share: the variables that the text of the program lays. By wrap.py. -/
set_option linter.unusedVariables false
namespace Go.Proofs.YthmmfdmmhpbpnaaDoor.rb
open Rb Go.ChangeShapes Go.WideShapes Go.ChangeAt Go.RowKit

theorem own : ownKnob Tryd.prog.godebug = none := by kernel_rfl
theorem laidOut : laidOutB Tryd.prog = true := by kernel_rfl
theorem gT : Tryd.prog.globalNamed "strings.asciiSpace" = some 0 := by kernel_rfl
theorem gTType : (Tryd.prog.globals[0]?).map (·.type) = some 42 := by kernel_rfl
theorem cellsU : Tryd.prog.cellsOf 5 = 1 := by kernel_rfl
theorem cellsT : Tryd.prog.cellsOf 42 = 256 := by kernel_rfl
def laidVars : List (String × DataW Unit) := Rows.lexKeywordsRow.laid

theorem tab_eq : (Rows.laid_strings_asciiSpace : DataW Unit) = Go.Lib.tabData .u8 Go.Lib.asciiSpaceTab := by kernel_rfl
theorem tab_mem : (("strings.asciiSpace", Go.Lib.tabData .u8 Go.Lib.asciiSpaceTab) : String × DataW Unit) ∈ laidVars := by
  rw [← tab_eq]; exact .tail _ (.tail _ (.tail _ (.tail _ (.tail _ (.tail _ (.head _))))))
theorem tab_of {W : World} (h : laidMet Tryd.prog laidVars W) : Go.Lib.TabIs Tryd.prog W "strings.asciiSpace" .u8 Go.Lib.asciiSpaceTab := by
  obtain ⟨g', t', cs, fuel, p, hg', ht', hvar, hd⟩ := Go.Lib.laidMet.reads h tab_mem
  obtain rfl := Option.some.inj (gT.symm.trans hg')
  obtain rfl := Option.some.inj (gTType.symm.trans ht')
  unfold Go.Lib.TabIs
  rw [hvar, ← Go.Lib.cells_of_tab Tryd.underlying42 Tryd.underlying5 cellsU cellsT hd]

theorem gok {W : World} (h : laidMet Tryd.prog laidVars W) : GOK C W (Ghost.mt (allFz W)) := by
  intro g l hg
  have ht := tab_of h
  change gt g = some l at hg
  unfold gt at hg
  split at hg
  · rename_i e
    subst e
    cases hg
    rw [asciiSpace_eq]
    exact fptr_of_tab fun i hi => ht.cell gT i hi
  · cases hg

/-- A world in which the variables hold what their initialisers lay. -/
noncomputable def laidWorld (os : Os) : World :=
  let N := (World.settled Tryd.prog os).heap.size
  let w0 := World.holding Tryd.prog os ⟨#[.cells #[.string ⟨#[118, 97, 108, 117, 101, 32, 111, 117, 116, 32, 111, 102, 32, 114, 97, 110, 103, 101]⟩] 90, .cells #[.string ⟨#[105, 110, 118, 97, 108, 105, 100, 32, 115, 121, 110, 116, 97, 120]⟩] 90, .cells #[.int .u16 9, .int .u16 13, .int .u16 1, .int .u16 32, .int .u16 133, .int .u16 101, .int .u16 160, .int .u16 5760, .int .u16 5600, .int .u16 8192, .int .u16 8202, .int .u16 1, .int .u16 8232, .int .u16 8233, .int .u16 1, .int .u16 8239, .int .u16 8287, .int .u16 48, .int .u16 12288, .int .u16 12288, .int .u16 1] 67, .cells #[.slice (some ⟨N + 2, 0, none⟩) 7 7, .slice none 0 0, .int .i64 2] 64], #[], []⟩
  let put (h : Array Obj) (g : Nat) (cs : Array Value) : Array Obj := h.modify g fun
    | .cells _ t frozen => .cells cs t frozen
    | o => o
  { w0 with heap := put (put (put (put (put (put (put (w0.heap) 6 #[.int .u8 0, .int .u8 1, .int .u8 28, .int .u8 2, .int .u8 29, .int .u8 14, .int .u8 24, .int .u8 3, .int .u8 30, .int .u8 22, .int .u8 20, .int .u8 15, .int .u8 25, .int .u8 17, .int .u8 4, .int .u8 8, .int .u8 31, .int .u8 27, .int .u8 13, .int .u8 23, .int .u8 21, .int .u8 19, .int .u8 16, .int .u8 7, .int .u8 26, .int .u8 12, .int .u8 18, .int .u8 6, .int .u8 11, .int .u8 5, .int .u8 10, .int .u8 9]) 7 #[.int .u8 0, .int .u8 1, .int .u8 56, .int .u8 2, .int .u8 57, .int .u8 49, .int .u8 28, .int .u8 3, .int .u8 61, .int .u8 58, .int .u8 42, .int .u8 50, .int .u8 38, .int .u8 29, .int .u8 17, .int .u8 4, .int .u8 62, .int .u8 47, .int .u8 59, .int .u8 36, .int .u8 45, .int .u8 43, .int .u8 51, .int .u8 22, .int .u8 53, .int .u8 39, .int .u8 33, .int .u8 30, .int .u8 24, .int .u8 18, .int .u8 12, .int .u8 5, .int .u8 63, .int .u8 55, .int .u8 48, .int .u8 27, .int .u8 60, .int .u8 41, .int .u8 37, .int .u8 16, .int .u8 46, .int .u8 35, .int .u8 44, .int .u8 21, .int .u8 52, .int .u8 32, .int .u8 23, .int .u8 11, .int .u8 54, .int .u8 26, .int .u8 40, .int .u8 15, .int .u8 34, .int .u8 20, .int .u8 31, .int .u8 10, .int .u8 25, .int .u8 14, .int .u8 19, .int .u8 9, .int .u8 13, .int .u8 8, .int .u8 7, .int .u8 6]) 5 #[.int .u64 1, .int .u64 10, .int .u64 100, .int .u64 1000, .int .u64 10000, .int .u64 100000, .int .u64 1000000, .int .u64 10000000, .int .u64 100000000, .int .u64 1000000000, .int .u64 10000000000, .int .u64 100000000000, .int .u64 1000000000000, .int .u64 10000000000000, .int .u64 100000000000000, .int .u64 1000000000000000, .int .u64 10000000000000000, .int .u64 100000000000000000, .int .u64 1000000000000000000, .int .u64 10000000000000000000]) 3 #[.iface 88 (.pointer (some ⟨N + 0, 0, none⟩))]) 2 #[.iface 88 (.pointer (some ⟨N + 1, 0, none⟩))]) 1 #[.pointer (some ⟨N + 3, 0, none⟩)]) 0 #[.int .u8 0, .int .u8 0, .int .u8 0, .int .u8 0, .int .u8 0, .int .u8 0, .int .u8 0, .int .u8 0, .int .u8 0, .int .u8 1, .int .u8 1, .int .u8 1, .int .u8 1, .int .u8 1, .int .u8 0, .int .u8 0, .int .u8 0, .int .u8 0, .int .u8 0, .int .u8 0, .int .u8 0, .int .u8 0, .int .u8 0, .int .u8 0, .int .u8 0, .int .u8 0, .int .u8 0, .int .u8 0, .int .u8 0, .int .u8 0, .int .u8 0, .int .u8 0, .int .u8 1, .int .u8 0, .int .u8 0, .int .u8 0, .int .u8 0, .int .u8 0, .int .u8 0, .int .u8 0, .int .u8 0, .int .u8 0, .int .u8 0, .int .u8 0, .int .u8 0, .int .u8 0, .int .u8 0, .int .u8 0, .int .u8 0, .int .u8 0, .int .u8 0, .int .u8 0, .int .u8 0, .int .u8 0, .int .u8 0, .int .u8 0, .int .u8 0, .int .u8 0, .int .u8 0, .int .u8 0, .int .u8 0, .int .u8 0, .int .u8 0, .int .u8 0, .int .u8 0, .int .u8 0, .int .u8 0, .int .u8 0, .int .u8 0, .int .u8 0, .int .u8 0, .int .u8 0, .int .u8 0, .int .u8 0, .int .u8 0, .int .u8 0, .int .u8 0, .int .u8 0, .int .u8 0, .int .u8 0, .int .u8 0, .int .u8 0, .int .u8 0, .int .u8 0, .int .u8 0, .int .u8 0, .int .u8 0, .int .u8 0, .int .u8 0, .int .u8 0, .int .u8 0, .int .u8 0, .int .u8 0, .int .u8 0, .int .u8 0, .int .u8 0, .int .u8 0, .int .u8 0, .int .u8 0, .int .u8 0, .int .u8 0, .int .u8 0, .int .u8 0, .int .u8 0, .int .u8 0, .int .u8 0, .int .u8 0, .int .u8 0, .int .u8 0, .int .u8 0, .int .u8 0, .int .u8 0, .int .u8 0, .int .u8 0, .int .u8 0, .int .u8 0, .int .u8 0, .int .u8 0, .int .u8 0, .int .u8 0, .int .u8 0, .int .u8 0, .int .u8 0, .int .u8 0, .int .u8 0, .int .u8 0, .int .u8 0, .int .u8 0, .int .u8 0, .int .u8 0, .int .u8 0, .int .u8 0, .int .u8 0, .int .u8 0, .int .u8 0, .int .u8 0, .int .u8 0, .int .u8 0, .int .u8 0, .int .u8 0, .int .u8 0, .int .u8 0, .int .u8 0, .int .u8 0, .int .u8 0, .int .u8 0, .int .u8 0, .int .u8 0, .int .u8 0, .int .u8 0, .int .u8 0, .int .u8 0, .int .u8 0, .int .u8 0, .int .u8 0, .int .u8 0, .int .u8 0, .int .u8 0, .int .u8 0, .int .u8 0, .int .u8 0, .int .u8 0, .int .u8 0, .int .u8 0, .int .u8 0, .int .u8 0, .int .u8 0, .int .u8 0, .int .u8 0, .int .u8 0, .int .u8 0, .int .u8 0, .int .u8 0, .int .u8 0, .int .u8 0, .int .u8 0, .int .u8 0, .int .u8 0, .int .u8 0, .int .u8 0, .int .u8 0, .int .u8 0, .int .u8 0, .int .u8 0, .int .u8 0, .int .u8 0, .int .u8 0, .int .u8 0, .int .u8 0, .int .u8 0, .int .u8 0, .int .u8 0, .int .u8 0, .int .u8 0, .int .u8 0, .int .u8 0, .int .u8 0, .int .u8 0, .int .u8 0, .int .u8 0, .int .u8 0, .int .u8 0, .int .u8 0, .int .u8 0, .int .u8 0, .int .u8 0, .int .u8 0, .int .u8 0, .int .u8 0, .int .u8 0, .int .u8 0, .int .u8 0, .int .u8 0, .int .u8 0, .int .u8 0, .int .u8 0, .int .u8 0, .int .u8 0, .int .u8 0, .int .u8 0, .int .u8 0, .int .u8 0, .int .u8 0, .int .u8 0, .int .u8 0, .int .u8 0, .int .u8 0, .int .u8 0, .int .u8 0, .int .u8 0, .int .u8 0, .int .u8 0, .int .u8 0, .int .u8 0, .int .u8 0, .int .u8 0, .int .u8 0, .int .u8 0, .int .u8 0, .int .u8 0, .int .u8 0, .int .u8 0, .int .u8 0, .int .u8 0, .int .u8 0, .int .u8 0, .int .u8 0, .int .u8 0, .int .u8 0, .int .u8 0, .int .u8 0, .int .u8 0, .int .u8 0, .int .u8 0, .int .u8 0, .int .u8 0] }
theorem laid_met (os : Os) (args : Array Value) : laidMet Tryd.prog laidVars ((laidWorld os).forCall (fun _ _ => 0) ⟨#[], args, []⟩).memory :=
  laidMet_of_run3 10 (by kernel_rfl) (by kernel_rfl) (by kernel_rfl)
theorem laid_shaped (os : Os) (args : Array Value) : ((laidWorld os).forCall (fun _ _ => 0) ⟨#[], args, []⟩).Shaped Tryd.prog := World.shaped_of_RefB (by kernel_rfl) (by kernel_rfl)
end Go.Proofs.YthmmfdmmhpbpnaaDoor.rb

/- A function of the library that is not in the small language: it asks the machine where a byte stands. -/
set_option linter.unusedVariables false
namespace Go.Proofs.YthmmfdmmhpbpnaaDoor.rb
open Rb Go.RowKit

theorem indexByte_calls (s : ByteArray) (c : Int) (w : World) : Calls Tryd.prog 34 #[.string s, .int .u8 c] w fun e w' => e = .returned (.int .i64 (Go.Lib.indexByte s.data.toList c.toNat.toUInt8)) ∧ w' = w := by
  go_enter Tryd.func34, Tryd.ntmps34
  go_wp2
  rw [run_callFunc_extern Tryd.func41 (by kernel_rfl) (by kernel_rfl) (by kernel_rfl) (e := Extern.BytealgIndexByte.indexByte) (by kernel_rfl), Go.Lib.run_indexByteString]
  simp only [Result.andThen]
  rw [Oper.upon_value]
  go_wp2
  go_ret
  exact ⟨rfl, rfl⟩

theorem indexByte (s : List UInt8) (c : Int) (H : AH) (Q : Post) (hQ : Q (.int .i64 (Go.Lib.indexByte s c.toNat.toUInt8)) H) : ACall C K.internal_stringslite_IndexByte [.str s, .int .u8 c] H Q := by
  intro f hf G w Vs hG hrel hargs
  obtain rfl : f = 34 := by
    have : C.F K.internal_stringslite_IndexByte = some 34 := by kernel_rfl
    rw [this] at hf; exact (Option.some.inj hf).symm
  obtain ⟨hl, hv⟩ := hargs
  obtain ⟨Vl⟩ := Vs
  match Vl, hl with
  | [V0, V1], _ =>
    have h0 := (hv 0 _ V0 rfl rfl).str_inv
    have h1 := (hv 1 _ V1 rfl rfl).int_inv
    subst h0 h1
    refine (indexByte_calls ⟨s.toArray⟩ c w).mono fun e w' ⟨he, hw⟩ => ?_
    subst hw
    exact ⟨_, _, H, G, he, hQ, .int _ _, hrel, Step.refl _ _ _⟩
end Go.Proofs.YthmmfdmmhpbpnaaDoor.rb

/- Laws for reading what a function means, by simp. -/
set_option linter.unusedVariables false
namespace Rb
open Go

@[simp] theorem Do_of {α : Type} (a : α) (K : α → Prop) : Do (some a) K ↔ K a := ⟨fun ⟨b, h, k⟩ => by cases h; exact k, fun h => ⟨a, rfl, h⟩⟩
@[simp] theorem DoH_some (v : AV) (H : AH) (K : Post) : DoH (some (v, H)) K ↔ K v H := ⟨fun ⟨a, b, h, k⟩ => by cases h; exact k, fun h => ⟨v, H, rfl, h⟩⟩
@[simp] theorem Gd_true (b : Bool) (A B : Prop) : Gd (.bool b) true A B ↔ if b = true then A else B := Iff.rfl
@[simp] theorem Gd_false (b : Bool) (A B : Prop) : Gd (.bool b) false A B ↔ if b = false then A else B := Iff.rfl
@[simp] theorem JoinP_def (K : List AV → AH → Prop) (st : List AV) (H : AH) : JoinP K st H ↔ K st H := Iff.rfl
@[simp] theorem sl_zero (a : AV) (l : List AV) : sl (a :: l) 0 = a := rfl
@[simp] theorem sl_succ (a : AV) (l : List AV) (i : Nat) : sl (a :: l) (i + 1) = sl l i := rfl

section
variable (k : IntKind) (a b : Int)
@[simp] theorem abin_add : abin .add (.int k a) (.int k b) = some (.int k (k.wrap (a + b))) := by simp [abin, abinInt]
@[simp] theorem abin_sub : abin .sub (.int k a) (.int k b) = some (.int k (k.wrap (a - b))) := by simp [abin, abinInt]
@[simp] theorem abin_mul : abin .mul (.int k a) (.int k b) = some (.int k (k.wrap (a * b))) := by simp [abin, abinInt]
@[simp] theorem abin_eql : abin .eql (.int k a) (.int k b) = some (.bool (a == b)) := by simp [abin, abinInt]
@[simp] theorem abin_neq : abin .neq (.int k a) (.int k b) = some (.bool (a != b)) := by simp [abin, abinInt]
@[simp] theorem abin_lss : abin .lss (.int k a) (.int k b) = some (.bool (decide (a < b))) := by simp [abin, abinInt]
@[simp] theorem abin_leq : abin .leq (.int k a) (.int k b) = some (.bool (decide (a ≤ b))) := by simp [abin, abinInt]
@[simp] theorem abin_gtr : abin .gtr (.int k a) (.int k b) = some (.bool (decide (a > b))) := by simp [abin, abinInt]
@[simp] theorem abin_geq : abin .geq (.int k a) (.int k b) = some (.bool (decide (a ≥ b))) := by simp [abin, abinInt]
theorem abin_rem (h : b ≠ 0) : abin .rem (.int k a) (.int k b) = some (.int k (a.tmod b)) := by simp [abin, abinInt, h]
theorem abin_quo (h : b ≠ 0) : abin .quo (.int k a) (.int k b) = some (.int k (k.wrap (a.tdiv b))) := by simp [abin, abinInt, h]
@[simp] theorem abin_and : abin .and (.int k a) (.int k b) = some (.int k (k.wrap (BitVec.ofInt k.bits a &&& BitVec.ofInt k.bits b).toNat)) := by simp [abin, abinInt, bitsOp]
@[simp] theorem abin_or : abin .or (.int k a) (.int k b) = some (.int k (k.wrap (BitVec.ofInt k.bits a ||| BitVec.ofInt k.bits b).toNat)) := by simp [abin, abinInt, bitsOp]
@[simp] theorem abin_xor : abin .xor (.int k a) (.int k b) = some (.int k (k.wrap (BitVec.ofInt k.bits a ^^^ BitVec.ofInt k.bits b).toNat)) := by simp [abin, abinInt, bitsOp]
theorem abin_shr (k' : IntKind) (h : 0 ≤ b) : abin .shr (.int k a) (.int k' b) = some (.int k (a.fdiv (2 ^ (min b.toNat k.bits)))) := by simp [abin, abinInt, Int.not_lt.2 h]
theorem abin_shl (k' : IntKind) (h : 0 ≤ b) : abin .shl (.int k a) (.int k' b) = some (.int k (k.wrap (a * 2 ^ (min b.toNat k.bits)))) := by simp [abin, abinInt, Int.not_lt.2 h]
@[simp] theorem aconv_int (k' : IntKind) : aconv k' (.int k a) = some (.int k' (k'.wrap a)) := rfl
@[simp] theorem abeq_def (neg : Bool) (x y : Bool) : abeq neg (.bool x) (.bool y) = some (.bool (if neg then !(x == y) else x == y)) := rfl
@[simp] theorem aun_not (x : Bool) : aun .not (.bool x) = some (.bool !x) := rfl
end
@[simp] theorem alen_lst (tk : Tok) (n : Nat) (cs : List AV) : alen false (.lst tk n cs) = some (.int .i64 n) := rfl
@[simp] theorem alen_row (id o n sz : Nat) : alen false (.row id o n sz) = some (.int .i64 n) := rfl
@[simp] theorem alen_str (s : List UInt8) : alen true (.str s) = some (.int .i64 s.length) := rfl

end Rb

/- Memory that only grew; numbers. -/
set_option linter.unusedVariables false
namespace Rb
open Go

/-- What was there is as it was. -/
def AH.Ext (H H' : AH) : Prop := H.n ≤ H'.n ∧ ∀ i, i < H.n → H'.o i = H.o i
theorem AH.Ext.refl (H : AH) : AH.Ext H H := ⟨Nat.le_refl _, fun _ _ => rfl⟩
theorem AH.Ext.trans {a b c : AH} (h : AH.Ext a b) (k : AH.Ext b c) : AH.Ext a c := ⟨Nat.le_trans h.1 k.1, fun i hi => (k.2 i (Nat.lt_of_lt_of_le hi h.1)).trans (h.2 i hi)⟩
theorem AH.Ext.push (H : AH) (x : AObj) : AH.Ext H (H.push x) := ⟨Nat.le_succ _, fun i hi => if_neg (Nat.ne_of_lt hi)⟩
theorem AH.Ext.set {H H' : AH} (h : AH.Ext H H') {i : Nat} (hi : H.n ≤ i) (x : AObj) : AH.Ext H (H'.set i x) := ⟨h.1, fun j hj => by
  simp only [AH.set]; rw [if_neg (by omega)]; exact h.2 j hj⟩
@[simp] theorem AH.push_n (H : AH) (x : AObj) : (H.push x).n = H.n + 1 := rfl
@[simp] theorem AH.set_n (H : AH) (i : Nat) (x : AObj) : (H.set i x).n = H.n := rfl
theorem AH.push_self (H : AH) (x : AObj) : (H.push x).o H.n = x := if_pos rfl
theorem AH.push_ne (H : AH) (x : AObj) {i : Nat} (h : i ≠ H.n) : (H.push x).o i = H.o i := if_neg h
theorem AH.set_self (H : AH) (i : Nat) (x : AObj) : (H.set i x).o i = x := if_pos rfl
theorem AH.set_ne (H : AH) {i j : Nat} (x : AObj) (h : j ≠ i) : (H.set i x).o j = H.o j := if_neg h

theorem wrap_i64 {n : Int} (h1 : -9223372036854775808 ≤ n) (h2 : n ≤ 9223372036854775807) : IntKind.wrap .i64 n = n := by
  simp [IntKind.wrap, IntKind.signed, IntKind.bits]; omega
theorem wrap_u64 {n : Int} (h1 : 0 ≤ n) (h2 : n < 18446744073709551616) : IntKind.wrap .u64 n = n := by
  simp [IntKind.wrap, IntKind.signed, IntKind.bits]; omega
theorem wrap_u8 {n : Int} (h1 : 0 ≤ n) (h2 : n < 256) : IntKind.wrap .u8 n = n := by
  simp [IntKind.wrap, IntKind.signed, IntKind.bits]; omega
theorem wrap_u32 {n : Int} (h1 : 0 ≤ n) (h2 : n < 4294967296) : IntKind.wrap .u32 n = n := by
  simp [IntKind.wrap, IntKind.signed, IntKind.bits]; omega

/-- A list that grows at its end, and that nobody else holds. -/
def Lst (H0 H : AH) (sz : Nat) (x : AV) (len : Nat) (cells : List AV) : Prop :=
  AH.Ext H0 H ∧ ∃ tk, x = .lst tk len cells ∧ cells.length = len * sz ∧ ((tk = .nil ∧ len = 0) ∨ ∃ t, tk = .own t ∧ H0.n ≤ t ∧ t < H.n ∧ H.o t = .tok (len * sz) sz)

theorem Lst.nil (H : AH) (sz : Nat) : Lst H H sz (.lst .nil 0 []) 0 [] := ⟨AH.Ext.refl H, .nil, rfl, by simp, .inl ⟨rfl, rfl⟩⟩

theorem Lst.append {H0 H : AH} {sz bytes len m : Nat} {x y : AV} {cells news : List AV} {K : Post} (h : Lst H0 H sz x len cells) (hy : acells H sz y = some (m, news)) (hn : news.length = m * sz) (hs : news.all AV.scalar = true) (hm : m ≠ 0)
    (hb : (len + m) * bytes ≤ 140737488355328) (hl : len + m ≤ 9223372036854775807) (hK : ∀ x' H', Lst H0 H' sz x' (len + m) (cells ++ news) → K x' H') : DoH (aappend H false sz bytes x y) K := by
  obtain ⟨hx, tk, rfl, hc, htk⟩ := h
  have hlen : (cells ++ news).length = (len + m) * sz := by simp [hc, hn, Nat.add_mul]
  rcases htk with ⟨rfl, rfl⟩ | ⟨t, rfl, h1, h2, h3⟩
  · refine ⟨.lst (.own H.n) (0 + m) (cells ++ news), H.push (.tok ((0 + m) * sz) sz), ?_, hK _ _ ⟨hx.trans (AH.Ext.push _ _), _, rfl, hlen, .inr ⟨H.n, rfl, hx.1, Nat.lt_succ_self _, AH.push_self _ _⟩⟩⟩
    simp only [aappend, hy, hs, not_true_eq_false, if_false, if_neg hm]
    rw [if_neg (by simp only [Decidable.not_not]; exact ⟨hc, hb, hl⟩)]
  · refine ⟨.lst (.own H.n) (len + m) (cells ++ news), (H.set t .gone).push (.tok ((len + m) * sz) sz), ?_, hK _ _ ⟨(hx.set h1 _).trans (AH.Ext.push _ _), _, rfl, hlen, .inr ⟨H.n, rfl, hx.1, Nat.lt_succ_self _, AH.push_self _ _⟩⟩⟩
    simp only [aappend, hy, hs, not_true_eq_false, if_false, if_neg hm]
    rw [if_neg (by simp only [Decidable.not_not]; exact ⟨hc, hb, hl⟩)]
    simp [h3]

/-- What stands at a place. -/
def At (H : AH) (id : Nat) (x : AObj) : Prop := id < H.n ∧ H.o id = x
theorem At.new (H : AH) (x : AObj) : At (H.push x) H.n x := ⟨Nat.lt_succ_self _, AH.push_self H x⟩
theorem At.ext {H H' : AH} {id : Nat} {x : AObj} (h : At H id x) (hE : AH.Ext H H') : At H' id x := ⟨Nat.lt_of_lt_of_le h.1 hE.1, (hE.2 id h.1).trans h.2⟩
theorem At.push {H : AH} {id : Nat} {x : AObj} (h : At H id x) (y : AObj) : At (H.push y) id x := h.ext (AH.Ext.push H y)
theorem At.set_ne {H : AH} {id i : Nat} {x : AObj} (h : At H id x) (hne : id ≠ i) (y : AObj) : At (H.set i y) id x := ⟨h.1, (AH.set_ne H y hne).trans h.2⟩
theorem At.set {H : AH} {id : Nat} {x : AObj} (h : At H id x) (y : AObj) : At (H.set id y) id y := ⟨h.1, AH.set_self H id y⟩
theorem At.ne {H : AH} {id i : Nat} {x y : AObj} (h : At H id x) (k : At H i y) (hxy : x ≠ y) : id ≠ i := fun e => hxy (by rw [← h.2, ← k.2, e])
theorem At.lt_new {H : AH} {id : Nat} {x : AObj} (h : At H id x) : id ≠ H.n := Nat.ne_of_lt h.1

theorem At.load {H : AH} {id : Nat} {cs : List AV} (h : At H id (.row cs)) (n o : Nat) (agg : Bool) : aload H n agg (.ptr id o) = takeCells cs o n agg := by simp [aload, h.2]
theorem At.store {H : AH} {id : Nat} {cs : List AV} (h : At H id (.row cs)) (n o : Nat) (v : AV) : astore H n (.ptr id o) v = if v.known ∧ v.cells.length = n ∧ v.cells.all AV.scalar ∧ o + n ≤ cs.length then some (H.set id (.row (setCells cs o v.cells))) else none := by simp [astore, h.2]

end Rb

/- Library: what slices.Index of texts gives; whether a text is a keyword. -/
set_option linter.unusedVariables false
set_option linter.unusedSimpArgs false
namespace Rb
open Go

def strCells (xs : List (List UInt8)) : List AV := xs.map .str
/-- Texts as a slice. -/
def strL (tk : Tok) (xs : List (List UInt8)) : AV := .lst tk xs.length (strCells xs)

theorem strL_read (tk : Tok) (xs : List (List UInt8)) (i : Nat) (x : List UInt8) (h : xs[i]? = some x) : aiaddr none 1 (strL tk xs) (.int .i64 i) = some (.fptr ((strCells xs).drop i)) := by
  have hi := (List.getElem?_eq_some_iff.1 h).1
  simp only [strL, aiaddr]
  rw [if_pos ⟨by omega, by omega⟩]; simp
theorem strL_load (H : AH) (xs : List (List UInt8)) (i : Nat) (x : List UInt8) (h : xs[i]? = some x) : aload H 1 false (.fptr ((strCells xs).drop i)) = some (.str x) := by
  have hi := (List.getElem?_eq_some_iff.1 h).1
  have hl : 0 + 1 ≤ ((strCells xs).drop i).length := by simp [strCells]; omega
  show takeCells ((strCells xs).drop i) 0 1 false = _
  unfold takeCells
  rw [if_pos hl]
  simp [strCells, h]

theorem Index_str {Φ : Calls'} {tk : Tok} {xs : List (List UInt8)} {s : List UInt8} {H : AH} {Q : Post} (hb : xs.length < 9223372036854775807) (hQ : Q (.int .i64 (match xs.findIdx? (fun x => s == x) with | some i => (i : Int) | none => -1)) H) : S.slices_Index___string_string_ Φ (strL tk xs) (.str s) H Q := by
  unfold S.slices_Index___string_string_
  have hlen : alen false (strL tk xs) = some (.int .i64 xs.length) := rfl
  rw [hlen]
  simp only [Do_of]
  have main : ∀ (ys : List (List UInt8)) (i : Nat), xs.drop i = ys → (Q (.int .i64 (match ys.findIdx? (fun x => s == x) with | some k => ((k + i : Nat) : Int) | none => -1)) H) → LoopP (S.slices_Index___string_string__l1 Φ (strL tk xs) (.str s) (.int .i64 xs.length) Q) ([.int .i64 i], H) := by
    intro ys
    induction ys with
    | nil =>
      intro i hi hq
      refine LoopP.step ?_
      have : xs.length ≤ i := by simpa using hi
      simp only [S.slices_Index___string_string__l1, sl_zero, abin_lss, Do_of, Gd_true]
      rw [if_neg (by simp; omega)]
      simpa using hq
    | cons y ys ih =>
      intro i hi hq
      have hlt : i < xs.length := by
        rcases Nat.lt_or_ge i xs.length with h | h
        · exact h
        · rw [List.drop_eq_nil_of_le h] at hi; cases hi
      have hy : xs[i]? = some y := by
        have := congrArg (fun l => l[0]?) hi
        simpa using this
      have hd : xs.drop (i + 1) = ys := by
        have := congrArg List.tail hi
        simpa using this
      refine LoopP.step ?_
      simp only [S.slices_Index___string_string__l1, sl_zero, abin_lss, Do_of, Gd_true]
      rw [if_pos (by simp; omega), strL_read tk xs i y hy]
      simp only [Do_of]
      rw [strL_load H xs i y hy]
      simp only [Do_of, abin, abinStr, Gd_true]
      by_cases he : (s == y) = true
      · rw [if_pos he]
        rw [List.findIdx?_cons, he] at hq
        simpa using hq
      · rw [if_neg he]
        rw [List.findIdx?_cons, if_neg he] at hq
        simp only [abin_add, abinInt, if_true, Do_of]
        rw [wrap_i64 (by omega) (by omega), show ((i : Int) + 1) = ((i + 1 : Nat) : Int) by simp]
        refine ih (i + 1) hd ?_
        cases hf : List.findIdx? (fun x => s == x) ys with
        | none => rw [hf] at hq; simpa using hq
        | some k => rw [hf] at hq; simp only [Option.map_some] at hq ⊢; rw [show k + (i + 1) = k + 1 + i by omega]; exact hq
  refine main xs 0 rfl ?_
  simpa using hQ

theorem Contains_str {Φ : Calls'} (hT : Cl Φ S.tab_libslices) {tk : Tok} {xs : List (List UInt8)} {s : List UInt8} {H : AH} {Q : Post} (hb : xs.length < 9223372036854775807) (hQ : Q (.bool (xs.any fun x => s == x)) H) : S.slices_Contains___string_string_ Φ (strL tk xs) (.str s) H Q := by
  unfold S.slices_Contains___string_string_
  refine S.cl_slices_Index___string_string_ hT (Index_str hb ?_)
  simp only [abin_geq, Do_of]
  have : (decide ((match xs.findIdx? (fun x => s == x) with | some i => (i : Int) | none => -1) ≥ 0)) = xs.any fun x => s == x := by
    cases hf : xs.findIdx? (fun x => s == x) with
    | none =>
      rw [List.findIdx?_eq_none_iff] at hf
      have : (xs.any fun x => s == x) = false := by simpa using hf
      rw [this]; rfl
    | some i =>
      have h := List.findIdx?_eq_some_iff_getElem.1 hf
      obtain ⟨hi, h1, _⟩ := h
      have : (xs.any fun x => s == x) = true := by
        rw [List.any_eq_true]; exact ⟨xs[i], List.getElem_mem hi, h1⟩
      rw [this]; simp
  rw [this]; exact hQ

def kwText : List UInt8 := [118, 97, 114, 32, 116, 104, 114, 101, 97, 100, 32, 115, 116, 114, 117, 99, 116, 32, 117, 110, 105, 111, 110, 32, 112, 97, 99, 107, 101, 100, 32, 117, 56, 32, 117, 49, 54, 32, 117, 51, 50, 32, 117, 54, 52, 32, 97, 56, 32, 97, 49, 54, 32, 97, 51, 50, 32, 97, 54, 52, 32, 97, 49, 50, 56, 32, 108, 101, 116, 32, 115, 101, 116, 32, 119, 114, 105, 116, 101, 32, 115, 116, 111, 114, 101, 32, 108, 111, 97, 100, 50, 32, 115, 116, 111, 114, 101, 50, 32, 102, 101, 110, 99, 101, 32, 105, 102, 32, 101, 108, 115, 101, 32, 119, 104, 105, 108, 101, 32, 112, 114, 105, 110, 116, 32, 114, 101, 97, 100, 32, 108, 111, 97, 100, 32, 97, 100, 100, 32, 115, 119, 97, 112, 32, 99, 97, 115, 32, 114, 108, 120, 32, 97, 99, 113, 32, 114, 101, 108, 32, 115, 99]
/-- The words of a text, by its blanks. -/
def cutB : List UInt8 → List UInt8 → List (List UInt8)
  | [], acc => [acc.reverse]
  | c :: r, acc => if c = 32 then acc.reverse :: cutB r [] else cutB r (c :: acc)
def kws : List (List UInt8) := [[118, 97, 114], [116, 104, 114, 101, 97, 100], [115, 116, 114, 117, 99, 116], [117, 110, 105, 111, 110], [112, 97, 99, 107, 101, 100], [117, 56], [117, 49, 54], [117, 51, 50], [117, 54, 52], [97, 56], [97, 49, 54], [97, 51, 50], [97, 54, 52], [97, 49, 50, 56],
  [108, 101, 116], [115, 101, 116], [119, 114, 105, 116, 101], [115, 116, 111, 114, 101], [108, 111, 97, 100, 50], [115, 116, 111, 114, 101, 50], [102, 101, 110, 99, 101], [105, 102], [101, 108, 115, 101], [119, 104, 105, 108, 101], [112, 114, 105, 110, 116], [114, 101, 97, 100], [108, 111, 97, 100], [97, 100, 100],
  [115, 119, 97, 112], [99, 97, 115], [114, 108, 120], [97, 99, 113], [114, 101, 108], [115, 99]]
def isKw (s : List UInt8) : Bool := kws.any fun x => s == x

theorem Keyword_spec {Φ : Calls'} (hS : Cl Φ S.tab_libslices) (hF : ∀ (H : AH) (Q : Post), Q (strL .dead kws) H → Φ K.strings_Fields [.str kwText] H Q) {s : List UInt8} {H : AH} {Q : Post} (hQ : Q (.bool (isKw s)) H) : S.lex_Keyword Φ (.str s) H Q := by
  unfold S.lex_Keyword
  refine hF _ _ ?_
  refine S.cl_slices_Contains___string_string_ hS (Contains_str hS (by decide) ?_)
  exact hQ
end Rb

/- More laws for reading. -/
set_option linter.unusedVariables false
namespace Rb
open Go
@[simp] theorem Gd3_true (b : Bool) (A B C : Prop) : Gd3 (.bool b) true A B C ↔ if b = true then A else B := Iff.rfl
@[simp] theorem Gd3_false (b : Bool) (A B C : Prop) : Gd3 (.bool b) false A B C ↔ if b = false then A else B := Iff.rfl
@[simp] theorem Gd3_tup (want : Bool) (A B C : Prop) : Gd3 (.tup []) want A B C ↔ C := Iff.rfl
theorem ite_both {c : Prop} [Decidable c] {A B : Prop} (h1 : c → A) (h2 : ¬ c → B) : if c then A else B := by
  split
  · exact h1 ‹_›
  · exact h2 ‹_›
theorem drop_nil_le {α : Type} {xs : List α} {i : Nat} (h : xs.drop i = []) : xs.length ≤ i := by simpa using h
theorem drop_cons_lt {α : Type} {xs ys : List α} {i : Nat} {y : α} (h : xs.drop i = y :: ys) : i < xs.length ∧ xs[i]? = some y ∧ xs.drop (i + 1) = ys := by
  have hlt : i < xs.length := by
    rcases Nat.lt_or_ge i xs.length with h' | h'
    · exact h'
    · rw [List.drop_eq_nil_of_le h'] at h; cases h
  refine ⟨hlt, ?_, ?_⟩
  · have := congrArg (fun l => l[0]?) h
    simpa using this
  · have := congrArg List.tail h
    simpa using this
end Rb

/- Law 8, LexKeywords. -/
set_option linter.unusedVariables false
set_option linter.unusedSimpArgs false
namespace Go.Proofs.YthmmfdmmhpbpnaaDoor.rb
open Rb
noncomputable section

def M0 : Memo := fun k a => cond (Nat.beq k K.internal_stringslite_IndexByte) (match a with | [.str s, .int .u8 c] => some (.int .i64 (Go.Lib.indexByte s c.toNat.toUInt8)) | _ => none) none
theorem M0_ok : MemoOK (ACall C) M0 := by
  intro k a v h H Q hQ
  unfold M0 at h
  cases hb : Nat.beq k K.internal_stringslite_IndexByte with
  | false => rw [hb] at h; cases h
  | true =>
    rw [hb] at h
    obtain rfl := Nat.eq_of_beq_eq_true hb
    simp only [cond_true] at h
    split at h
    · cases h; exact indexByte _ _ H Q hQ
    · cases h
def B0 : CallsB := runM M0 (disp 4096) 60
theorem B0_ok : SoundB (ACall C) B0 := runM_sound M0_ok (dispOK 4096) 60
theorem fields_run : B0 K.strings_Fields [.str kwText] TH.mt (fun u _ => u.same (strL .dead kws)) = true := by kernel_rfl
theorem fields (H : AH) (Q : Post) (hQ : Q (strL .dead kws) H) : ACall C K.strings_Fields [.str kwText] H Q := run_any gtC B0_ok (by kernel_rfl) (by kernel_rfl) fields_run H Q hQ
theorem keyword (s : List UInt8) (H : AH) (Q : Post) (hQ : Q (.bool (isKw s)) H) : ACall C K.lex_Keyword [.str s] H Q := S.cl_lex_Keyword cl_lex (Keyword_spec cl_libslices fields hQ)
def M1 : Memo := fun k a => cond (Nat.beq k K.lex_Keyword) (match a with | [.str s] => some (.bool (isKw s)) | _ => none) (M0 k a)
theorem M1_ok : MemoOK (ACall C) M1 := by
  intro k a v h H Q hQ
  unfold M1 at h
  cases hb : Nat.beq k K.lex_Keyword with
  | false => rw [hb] at h; exact M0_ok k a v h H Q hQ
  | true =>
    rw [hb] at h
    obtain rfl := Nat.eq_of_beq_eq_true hb
    simp only [cond_true] at h
    split at h
    · cases h; exact keyword _ H Q hQ
    · cases h
def B1 : CallsB := runM M1 (disp 4096) 60
theorem B1_ok : SoundB (ACall C) B1 := runM_sound M1_ok (dispOK 4096) 60
theorem awake_run : B1 K.rabbetlaw08_awake [] TH.mt (fun u _ => u.same (.bool true)) = true := by kernel_rfl
theorem awake (H : AH) (Q : Post) (hQ : Q (.bool true) H) : ACall C K.rabbetlaw08_awake [] H Q := run_any gtC B1_ok (by kernel_rfl) (by kernel_rfl) awake_run H Q hQ
theorem keywords_run : B1 K.rabbetref08_Keywords [] TH.mt (fun u _ => u.same (strL .full kws)) = true := by kernel_rfl
theorem keywords (H : AH) (Q : Post) (hQ : Q (strL .full kws) H) : ACall C K.rabbetref08_Keywords [] H Q := run_any gtC B1_ok (by kernel_rfl) (by kernel_rfl) keywords_run H Q hQ

theorem ref_keyword (s : List UInt8) (H : AH) (Q : Post) (hQ : Q (.bool (isKw s)) H) : ACall C K.rabbetref08_Keyword [.str s] H Q := by
  refine S.cl_rabbetref08_Keyword cl_rabbetref08 ?_
  unfold S.rabbetref08_Keyword
  refine keywords _ _ ?_
  have main : ∀ (ys : List (List UInt8)) (i : Nat), kws.drop i = ys → Q (.bool (ys.any fun x => s == x)) H → LoopP (S.rabbetref08_Keyword_l1 (ACall C) (.str s) (strL .full kws) Q) ([.int .i64 i], H) := by
    intro ys
    induction ys with
    | nil =>
      intro i hi hq
      have hle := drop_nil_le hi
      refine LoopP.step ?_
      have hlen : alen false (strL .full kws) = some (.int .i64 kws.length) := rfl
      simp only [S.rabbetref08_Keyword_l1, sl_zero, hlen, abin_lss, Do_of, Gd_true]
      rw [if_neg (by simp only [decide_eq_true_eq]; omega)]
      simpa using hq
    | cons y ys ih =>
      intro i hi hq
      obtain ⟨hlt, hy, hd⟩ := drop_cons_lt hi
      have hk : kws.length = 34 := rfl
      refine LoopP.step ?_
      have hlen : alen false (strL .full kws) = some (.int .i64 kws.length) := rfl
      simp only [S.rabbetref08_Keyword_l1, sl_zero, hlen, abin_lss, Do_of, Gd_true]
      rw [if_pos (by simp only [decide_eq_true_eq]; omega), strL_read .full kws i y hy]
      simp only [Do_of]
      rw [strL_load H kws i y hy]
      simp only [Do_of, abin, abinStr, Gd_true]
      have hc : (y == s) = (s == y) := by rw [Bool.eq_iff_iff]; simp only [beq_iff_eq]; exact eq_comm
      rw [hc]
      by_cases he : (s == y) = true
      · rw [if_pos he]
        rw [List.any_cons, he] at hq
        simpa using hq
      · rw [if_neg he]
        simp only [Bool.not_eq_true] at he
        rw [List.any_cons, he] at hq
        simp only [abinInt, if_true, Do_of]
        rw [wrap_i64 (by omega) (by omega), show ((i : Int) + 1) = ((i + 1 : Nat) : Int) by simp]
        exact ih (i + 1) hd (by simpa using hq)
  exact main kws 0 rfl hQ

theorem all_kw : (kws.all isKw) = true := by kernel_rfl

theorem lexKeywords.any (s : List UInt8) (n : Int) (h0 : 0 ≤ n) (h1 : n ≤ 255) : ACall C K.rabbetlaw08_LexKeywords [.str s, .int .u8 n] AH.mt (fun v _ => v = .bool true) := by
  refine S.cl_rabbetlaw08_LexKeywords cl_rabbetlaw08 ?_
  unfold S.rabbetlaw08_LexKeywords
  refine keywords _ _ ?_
  have hlen : alen false (strL .full kws) = some (.int .i64 34) := rfl
  simp only [aconv_int, Do_of, hlen]
  rw [wrap_i64 (by omega) (by omega), abin_rem _ _ _ (by decide), Int.tmod_eq_emod_of_nonneg h0]
  simp only [Do_of]
  obtain ⟨i, hi⟩ : ∃ i : Nat, n % 34 = (i : Int) := ⟨(n % 34).toNat, by omega⟩
  have hi34 : i < kws.length := by show i < 34; omega
  rw [hi, strL_read .full kws i kws[i] (List.getElem?_eq_getElem hi34)]
  simp only [Do_of]
  rw [strL_load AH.mt kws i kws[i] (List.getElem?_eq_getElem hi34)]
  simp only [Do_of]
  refine awake _ _ ?_
  simp only [Gd3_true, if_true]
  refine keyword _ _ _ ?_
  refine ref_keyword _ _ _ ?_
  simp only [abeq_def, Bool.false_eq_true, if_false, BEq.rfl, Do_of, JoinP_def, S.rabbetlaw08_LexKeywords_k1, sl_zero, Gd3_true, if_true]
  refine keyword _ _ _ ?_
  have := all_kw
  rw [List.all_eq_true] at this
  rw [this _ (List.getElem_mem hi34)]
end
end Go.Proofs.YthmmfdmmhpbpnaaDoor.rb

set_option linter.unusedVariables false
set_option linter.unusedSimpArgs false
namespace Go.Proofs.YthmmfdmmhpbpnaaDoor.rb.lexKeywords
open Rb Go.ChangeShapes Go.WideShapes Go.ChangeAt Go.RowKit

set_option maxRecDepth 100000 in
theorem lifted (os : Os) (started : os.Started) (H : Type) (enc : TypeId × Value → H) :
    ReturnsInHanded {} Tryd.checked os 3 .any (fun w args => (Rows.lexKeywordsSpec.pre enc Tryd.prog Tryd.f3 [] false w args ∧ laidMet Tryd.prog laidVars w) ∧ sizedMet enc Tryd.prog Tryd.f3 (OpenSpec.ofChange Rows.lexKeywordsSpec) false w args)
      (Rows.lexKeywordsSpec.post enc Tryd.prog Tryd.f3 false true false false) := by
  refine returnsInHanded_of_change_and (C := Tryd.checked) (X := fun w _ => laidMet Tryd.prog laidVars w) (fun _ _ _ hh h => h.of_heap hh) own started (by kernel_rfl) Tryd.func3
    (ChangeSpec.witness_shaped (enc := enc) (C := Tryd.checked) (os := os) (X := fun w _ => laidMet Tryd.prog laidVars w) false (laidWorld os) #[.string ⟨#[]⟩, .int .u8 0] 8 rfl (laid_shaped os _) (by kernel_rfl) (by kernel_rfl) (by kernel_rfl) (laid_met os _)) ?_
  intro W base args ds gs before hval0 hW _ _ hL _
  have hval : ∀ (j : Nat) t v, Tryd.f3.params[j]? = some t → args[j]? = some v → Value.okWide Tryd.prog W .any base t v := hval0
  have hW' := hW
  obtain ⟨p, q, hA0, hV0, rfl, hfz, hnd⟩ := hW
  have hA : DataW.TrodAll enc Tryd.prog W 0 (fun _ => true) true Tryd.f3.params.toList args.toList ds p := hA0
  have hV : DataW.TrodVars enc Tryd.prog W (fun _ => true) [] gs q := hV0
  rw [Tryd.params3] at hA hval
  obtain ⟨v0, v1, d0, d1, p0, p1, rfl, rfl, rfl, h0, h1⟩ := trodAll_two hA
  obtain ⟨rfl, rfl⟩ : gs = [] ∧ q = [] := by
    cases gs with
    | nil => exact ⟨rfl, hV⟩
    | cons g r => exact absurd hV (by intro h; cases h)
  obtain ⟨a0, rfl, rfl, rfl, w0⟩ := Go.ChangeMaps.open_string Tryd.underlying9 (hval 0 9 v0 rfl rfl) h0
  obtain ⟨a1, rfl, rfl, rfl, w1⟩ := open_int Tryd.underlying5 (hval 1 5 v1 rfl rfl) h1
  have b1 : IntKind.min .u8 ≤ a1 ∧ a1 ≤ IntKind.max .u8 := by simpa [Lit.wf] using w1
  simp only [IntKind.min, IntKind.max, IntKind.signed, IntKind.bits, if_true, if_false, Bool.false_eq_true] at b1
  refine (law_calls (C := C) (f := 3) (by kernel_rfl) (any a0.data.toList a1 (by omega) (by omega)) (gok hL) (VRs.two (VR_string _) (.int _ _))).mono fun e W' ⟨he, hbel⟩ => ?_
  subst he
  exact ⟨_, rfl, post_true (bt := 4) hW' laidOut (by kernel_rfl) (by kernel_rfl) (by kernel_rfl) Tryd.underlying4 rfl hbel⟩

theorem row : Rows.LexKeywordsSaid :=
  OpenClaim.holds_of_wide 3 Tryd.f3 rfl rfl rfl rfl rfl rfl rfl ⟨rfl, rfl, rfl, rfl, rfl⟩ rfl rfl rfl rfl rfl (by kernel_rfl) Tryd.func3 (by kernel_rfl)
    (of_decide_eq_true (by kernel_rfl)) (by unfold Func.isWrapper; first | (rw [if_pos (by decide +kernel)]; kernel_rfl) | (rw [if_neg (by decide +kernel)]; exact ⟨rfl, rfl⟩))
    (fun os started H enc _ => lifted os started H enc)
end Go.Proofs.YthmmfdmmhpbpnaaDoor.rb.lexKeywords
namespace Go.Proofs.YthmmfdmmhpbpnaaDoor
open Go

theorem lexKeywords_holds : Rows.LexKeywordsCardSaid :=
  Claim7.holds_tied_plain_at .later [] [.data, .data, .data, .sentinel, .sentinel, .listed, .data] true (true, "7afe165cf4b4e94e441974a79e3805ce5726bedda5a303008af65478926b7f1a") true
    rb.lexKeywords.row (fun _ h => by cases h) (by kernel_rfl) (fun _ h => by cases h) lexKeywords_row_tie rfl ⟨rfl, rfl⟩ (by kernel_rfl) rfl
    (fun f fn hf hfn => by
      obtain rfl : f = 3 := Option.some.inj ((show Tryd.prog.funcNamed Rows.lexKeywordsRow.func = some 3 by kernel_rfl).symm.trans hf) |>.symm
      obtain rfl : fn = Tryd.f3 := (Option.some.inj (Tryd.func3.symm.trans hfn)).symm
      exact ⟨by kernel_rfl, fun j t ht => by
        rw [Tryd.params3] at ht
        rcases j with _ | _ | j
        · obtain rfl : t = 9 := by simpa using ht.symm
          exact (show Tryd.prog.wantsStandIn 9 = false by kernel_rfl)
        · obtain rfl : t = 5 := by simpa using ht.symm
          exact (show Tryd.prog.wantsStandIn 5 = false by kernel_rfl)
        · simp at ht⟩)
    (by kernel_rfl)
#print axioms lexKeywords_holds
end Go.Proofs.YthmmfdmmhpbpnaaDoor
