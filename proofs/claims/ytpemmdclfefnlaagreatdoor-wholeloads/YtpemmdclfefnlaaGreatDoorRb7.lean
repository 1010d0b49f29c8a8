/- A part of the proof (part 7): see the last text. -/
import Derived.Test.YtpemmdclfefnlaaGreatDoorRb6
import Derived.Test.YtpemmdclfefnlaaGreatDoorRb4
import Derived.Test.YtpemmdclfefnlaaGreatDoorRb2
import Derived.Test.YtpemmdclfefnlaaGreatDoorTie
import Derived.Test.YtpemmdclfefnlaaGreatDoorCards
/- Known calls, found by runs; the law at all its arguments. By runsw.py. -/
set_option linter.unusedVariables false
namespace Go.Proofs.YtpemmdclfefnlaaGreatDoor.rb
open Rb
noncomputable section
def RbMaL0 : List (Nat × List AV × AV) := [
  (3, [.int .u8 (.ofNat 0)], .bool true),
  (3, [.int .u8 (.ofNat 1)], .bool true),
  (3, [.int .u8 (.ofNat 2)], .bool true),
  (3, [.int .u8 (.ofNat 3)], .bool true),
  (3, [.int .u8 (.ofNat 4)], .bool true),
  (3, [.int .u8 (.ofNat 5)], .bool true),
  (3, [.int .u8 (.ofNat 6)], .bool true),
  (3, [.int .u8 (.ofNat 7)], .bool true),
  (3, [.int .u8 (.ofNat 8)], .bool true),
  (3, [.int .u8 (.ofNat 9)], .bool true),
  (3, [.int .u8 (.ofNat 10)], .bool true),
  (3, [.int .u8 (.ofNat 11)], .bool true),
  (3, [.int .u8 (.ofNat 12)], .bool true),
  (3, [.int .u8 (.ofNat 13)], .bool true),
  (3, [.int .u8 (.ofNat 14)], .bool true),
  (3, [.int .u8 (.ofNat 15)], .bool true),
  (3, [.int .u8 (.ofNat 16)], .bool true),
  (3, [.int .u8 (.ofNat 17)], .bool true),
  (3, [.int .u8 (.ofNat 18)], .bool true),
  (3, [.int .u8 (.ofNat 19)], .bool true),
  (3, [.int .u8 (.ofNat 20)], .bool true),
  (3, [.int .u8 (.ofNat 21)], .bool true),
  (3, [.int .u8 (.ofNat 22)], .bool true),
  (3, [.int .u8 (.ofNat 23)], .bool true),
  (3, [.int .u8 (.ofNat 24)], .bool true),
  (3, [.int .u8 (.ofNat 25)], .bool true),
  (3, [.int .u8 (.ofNat 26)], .bool true),
  (3, [.int .u8 (.ofNat 27)], .bool true),
  (3, [.int .u8 (.ofNat 28)], .bool true),
  (3, [.int .u8 (.ofNat 29)], .bool true),
  (3, [.int .u8 (.ofNat 30)], .bool true),
  (3, [.int .u8 (.ofNat 31)], .bool true),
  (3, [.int .u8 (.ofNat 32)], .bool true),
  (3, [.int .u8 (.ofNat 33)], .bool true),
  (3, [.int .u8 (.ofNat 34)], .bool true),
  (3, [.int .u8 (.ofNat 35)], .bool true),
  (3, [.int .u8 (.ofNat 36)], .bool true),
  (3, [.int .u8 (.ofNat 37)], .bool true),
  (3, [.int .u8 (.ofNat 38)], .bool true),
  (3, [.int .u8 (.ofNat 39)], .bool true),
  (3, [.int .u8 (.ofNat 40)], .bool true),
  (3, [.int .u8 (.ofNat 41)], .bool true),
  (3, [.int .u8 (.ofNat 42)], .bool true),
  (3, [.int .u8 (.ofNat 43)], .bool true),
  (3, [.int .u8 (.ofNat 44)], .bool true),
  (3, [.int .u8 (.ofNat 45)], .bool true),
  (3, [.int .u8 (.ofNat 46)], .bool true),
  (3, [.int .u8 (.ofNat 47)], .bool true),
  (3, [.int .u8 (.ofNat 48)], .bool true),
  (3, [.int .u8 (.ofNat 49)], .bool true),
  (3, [.int .u8 (.ofNat 50)], .bool true),
  (3, [.int .u8 (.ofNat 51)], .bool true),
  (3, [.int .u8 (.ofNat 52)], .bool true),
  (3, [.int .u8 (.ofNat 53)], .bool true),
  (3, [.int .u8 (.ofNat 54)], .bool true),
  (3, [.int .u8 (.ofNat 55)], .bool true),
  (3, [.int .u8 (.ofNat 56)], .bool true),
  (3, [.int .u8 (.ofNat 57)], .bool true),
  (3, [.int .u8 (.ofNat 58)], .bool true),
  (3, [.int .u8 (.ofNat 59)], .bool true),
  (3, [.int .u8 (.ofNat 60)], .bool true),
  (3, [.int .u8 (.ofNat 61)], .bool true),
  (3, [.int .u8 (.ofNat 62)], .bool true),
  (3, [.int .u8 (.ofNat 63)], .bool true),
  (3, [.int .u8 (.ofNat 64)], .bool true),
  (3, [.int .u8 (.ofNat 65)], .bool true),
  (3, [.int .u8 (.ofNat 66)], .bool true),
  (3, [.int .u8 (.ofNat 67)], .bool true),
  (3, [.int .u8 (.ofNat 68)], .bool true),
  (3, [.int .u8 (.ofNat 69)], .bool true),
  (3, [.int .u8 (.ofNat 70)], .bool true),
  (3, [.int .u8 (.ofNat 71)], .bool true),
  (3, [.int .u8 (.ofNat 72)], .bool true),
  (3, [.int .u8 (.ofNat 73)], .bool true),
  (3, [.int .u8 (.ofNat 74)], .bool true),
  (3, [.int .u8 (.ofNat 75)], .bool true),
  (3, [.int .u8 (.ofNat 76)], .bool true),
  (3, [.int .u8 (.ofNat 77)], .bool true),
  (3, [.int .u8 (.ofNat 78)], .bool true),
  (3, [.int .u8 (.ofNat 79)], .bool true),
  (3, [.int .u8 (.ofNat 80)], .bool true),
  (3, [.int .u8 (.ofNat 81)], .bool true),
  (3, [.int .u8 (.ofNat 82)], .bool true),
  (3, [.int .u8 (.ofNat 83)], .bool true),
  (3, [.int .u8 (.ofNat 84)], .bool true),
  (3, [.int .u8 (.ofNat 85)], .bool true),
  (3, [.int .u8 (.ofNat 86)], .bool true),
  (3, [.int .u8 (.ofNat 87)], .bool true),
  (3, [.int .u8 (.ofNat 88)], .bool true),
  (3, [.int .u8 (.ofNat 89)], .bool true),
  (3, [.int .u8 (.ofNat 90)], .bool true),
  (3, [.int .u8 (.ofNat 91)], .bool true),
  (3, [.int .u8 (.ofNat 92)], .bool true),
  (3, [.int .u8 (.ofNat 93)], .bool true),
  (3, [.int .u8 (.ofNat 94)], .bool true),
  (3, [.int .u8 (.ofNat 95)], .bool true),
  (3, [.int .u8 (.ofNat 96)], .bool true),
  (3, [.int .u8 (.ofNat 97)], .bool true),
  (3, [.int .u8 (.ofNat 98)], .bool true),
  (3, [.int .u8 (.ofNat 99)], .bool true),
  (3, [.int .u8 (.ofNat 100)], .bool true),
  (3, [.int .u8 (.ofNat 101)], .bool true),
  (3, [.int .u8 (.ofNat 102)], .bool true),
  (3, [.int .u8 (.ofNat 103)], .bool true),
  (3, [.int .u8 (.ofNat 104)], .bool true),
  (3, [.int .u8 (.ofNat 105)], .bool true),
  (3, [.int .u8 (.ofNat 106)], .bool true),
  (3, [.int .u8 (.ofNat 107)], .bool true),
  (3, [.int .u8 (.ofNat 108)], .bool true),
  (3, [.int .u8 (.ofNat 109)], .bool true),
  (3, [.int .u8 (.ofNat 110)], .bool true),
  (3, [.int .u8 (.ofNat 111)], .bool true),
  (3, [.int .u8 (.ofNat 112)], .bool true),
  (3, [.int .u8 (.ofNat 113)], .bool true),
  (3, [.int .u8 (.ofNat 114)], .bool true),
  (3, [.int .u8 (.ofNat 115)], .bool true),
  (3, [.int .u8 (.ofNat 116)], .bool true),
  (3, [.int .u8 (.ofNat 117)], .bool true),
  (3, [.int .u8 (.ofNat 118)], .bool true),
  (3, [.int .u8 (.ofNat 119)], .bool true),
  (3, [.int .u8 (.ofNat 120)], .bool true),
  (3, [.int .u8 (.ofNat 121)], .bool true),
  (3, [.int .u8 (.ofNat 122)], .bool true),
  (3, [.int .u8 (.ofNat 123)], .bool true),
  (3, [.int .u8 (.ofNat 124)], .bool true),
  (3, [.int .u8 (.ofNat 125)], .bool true),
  (3, [.int .u8 (.ofNat 126)], .bool true),
  (3, [.int .u8 (.ofNat 127)], .bool true),
  (3, [.int .u8 (.ofNat 128)], .bool true),
  (3, [.int .u8 (.ofNat 129)], .bool true),
  (3, [.int .u8 (.ofNat 130)], .bool true),
  (3, [.int .u8 (.ofNat 131)], .bool true),
  (3, [.int .u8 (.ofNat 132)], .bool true),
  (3, [.int .u8 (.ofNat 133)], .bool true),
  (3, [.int .u8 (.ofNat 134)], .bool true),
  (3, [.int .u8 (.ofNat 135)], .bool true),
  (3, [.int .u8 (.ofNat 136)], .bool true),
  (3, [.int .u8 (.ofNat 137)], .bool true),
  (3, [.int .u8 (.ofNat 138)], .bool true),
  (3, [.int .u8 (.ofNat 139)], .bool true),
  (3, [.int .u8 (.ofNat 140)], .bool true),
  (3, [.int .u8 (.ofNat 141)], .bool true),
  (3, [.int .u8 (.ofNat 142)], .bool true),
  (3, [.int .u8 (.ofNat 143)], .bool true),
  (3, [.int .u8 (.ofNat 144)], .bool true),
  (3, [.int .u8 (.ofNat 145)], .bool true),
  (3, [.int .u8 (.ofNat 146)], .bool true),
  (3, [.int .u8 (.ofNat 147)], .bool true),
  (3, [.int .u8 (.ofNat 148)], .bool true),
  (3, [.int .u8 (.ofNat 149)], .bool true),
  (3, [.int .u8 (.ofNat 150)], .bool true),
  (3, [.int .u8 (.ofNat 151)], .bool true),
  (3, [.int .u8 (.ofNat 152)], .bool true),
  (3, [.int .u8 (.ofNat 153)], .bool true),
  (3, [.int .u8 (.ofNat 154)], .bool true),
  (3, [.int .u8 (.ofNat 155)], .bool true),
  (3, [.int .u8 (.ofNat 156)], .bool true),
  (3, [.int .u8 (.ofNat 157)], .bool true),
  (3, [.int .u8 (.ofNat 158)], .bool true),
  (3, [.int .u8 (.ofNat 159)], .bool true),
  (3, [.int .u8 (.ofNat 160)], .bool true),
  (3, [.int .u8 (.ofNat 161)], .bool true),
  (3, [.int .u8 (.ofNat 162)], .bool true),
  (3, [.int .u8 (.ofNat 163)], .bool true),
  (3, [.int .u8 (.ofNat 164)], .bool true),
  (3, [.int .u8 (.ofNat 165)], .bool true),
  (3, [.int .u8 (.ofNat 166)], .bool true),
  (3, [.int .u8 (.ofNat 167)], .bool true),
  (3, [.int .u8 (.ofNat 168)], .bool true),
  (3, [.int .u8 (.ofNat 169)], .bool true),
  (3, [.int .u8 (.ofNat 170)], .bool true),
  (3, [.int .u8 (.ofNat 171)], .bool true),
  (3, [.int .u8 (.ofNat 172)], .bool true),
  (3, [.int .u8 (.ofNat 173)], .bool true),
  (3, [.int .u8 (.ofNat 174)], .bool true),
  (3, [.int .u8 (.ofNat 175)], .bool true),
  (3, [.int .u8 (.ofNat 176)], .bool true),
  (3, [.int .u8 (.ofNat 177)], .bool true),
  (3, [.int .u8 (.ofNat 178)], .bool true),
  (3, [.int .u8 (.ofNat 179)], .bool true),
  (3, [.int .u8 (.ofNat 180)], .bool true),
  (3, [.int .u8 (.ofNat 181)], .bool true),
  (3, [.int .u8 (.ofNat 182)], .bool true),
  (3, [.int .u8 (.ofNat 183)], .bool true),
  (3, [.int .u8 (.ofNat 184)], .bool true),
  (3, [.int .u8 (.ofNat 185)], .bool true),
  (3, [.int .u8 (.ofNat 186)], .bool true),
  (3, [.int .u8 (.ofNat 187)], .bool true),
  (3, [.int .u8 (.ofNat 188)], .bool true),
  (3, [.int .u8 (.ofNat 189)], .bool true),
  (3, [.int .u8 (.ofNat 190)], .bool true),
  (3, [.int .u8 (.ofNat 191)], .bool true),
  (3, [.int .u8 (.ofNat 192)], .bool true),
  (3, [.int .u8 (.ofNat 193)], .bool true),
  (3, [.int .u8 (.ofNat 194)], .bool true),
  (3, [.int .u8 (.ofNat 195)], .bool true),
  (3, [.int .u8 (.ofNat 196)], .bool true),
  (3, [.int .u8 (.ofNat 197)], .bool true),
  (3, [.int .u8 (.ofNat 198)], .bool true),
  (3, [.int .u8 (.ofNat 199)], .bool true),
  (3, [.int .u8 (.ofNat 200)], .bool true),
  (3, [.int .u8 (.ofNat 201)], .bool true),
  (3, [.int .u8 (.ofNat 202)], .bool true),
  (3, [.int .u8 (.ofNat 203)], .bool true),
  (3, [.int .u8 (.ofNat 204)], .bool true),
  (3, [.int .u8 (.ofNat 205)], .bool true),
  (3, [.int .u8 (.ofNat 206)], .bool true),
  (3, [.int .u8 (.ofNat 207)], .bool true),
  (3, [.int .u8 (.ofNat 208)], .bool true),
  (3, [.int .u8 (.ofNat 209)], .bool true),
  (3, [.int .u8 (.ofNat 210)], .bool true),
  (3, [.int .u8 (.ofNat 211)], .bool true),
  (3, [.int .u8 (.ofNat 212)], .bool true),
  (3, [.int .u8 (.ofNat 213)], .bool true),
  (3, [.int .u8 (.ofNat 214)], .bool true),
  (3, [.int .u8 (.ofNat 215)], .bool true),
  (3, [.int .u8 (.ofNat 216)], .bool true),
  (3, [.int .u8 (.ofNat 217)], .bool true),
  (3, [.int .u8 (.ofNat 218)], .bool true),
  (3, [.int .u8 (.ofNat 219)], .bool true),
  (3, [.int .u8 (.ofNat 220)], .bool true),
  (3, [.int .u8 (.ofNat 221)], .bool true),
  (3, [.int .u8 (.ofNat 222)], .bool true),
  (3, [.int .u8 (.ofNat 223)], .bool true),
  (3, [.int .u8 (.ofNat 224)], .bool true),
  (3, [.int .u8 (.ofNat 225)], .bool true),
  (3, [.int .u8 (.ofNat 226)], .bool true),
  (3, [.int .u8 (.ofNat 227)], .bool true),
  (3, [.int .u8 (.ofNat 228)], .bool true),
  (3, [.int .u8 (.ofNat 229)], .bool true),
  (3, [.int .u8 (.ofNat 230)], .bool true),
  (3, [.int .u8 (.ofNat 231)], .bool true),
  (3, [.int .u8 (.ofNat 232)], .bool true),
  (3, [.int .u8 (.ofNat 233)], .bool true),
  (3, [.int .u8 (.ofNat 234)], .bool true),
  (3, [.int .u8 (.ofNat 235)], .bool true),
  (3, [.int .u8 (.ofNat 236)], .bool true),
  (3, [.int .u8 (.ofNat 237)], .bool true),
  (3, [.int .u8 (.ofNat 238)], .bool true),
  (3, [.int .u8 (.ofNat 239)], .bool true),
  (3, [.int .u8 (.ofNat 240)], .bool true),
  (3, [.int .u8 (.ofNat 241)], .bool true),
  (3, [.int .u8 (.ofNat 242)], .bool true),
  (3, [.int .u8 (.ofNat 243)], .bool true),
  (3, [.int .u8 (.ofNat 244)], .bool true),
  (3, [.int .u8 (.ofNat 245)], .bool true),
  (3, [.int .u8 (.ofNat 246)], .bool true),
  (3, [.int .u8 (.ofNat 247)], .bool true),
  (3, [.int .u8 (.ofNat 248)], .bool true),
  (3, [.int .u8 (.ofNat 249)], .bool true),
  (3, [.int .u8 (.ofNat 250)], .bool true),
  (3, [.int .u8 (.ofNat 251)], .bool true),
  (3, [.int .u8 (.ofNat 252)], .bool true),
  (3, [.int .u8 (.ofNat 253)], .bool true),
  (3, [.int .u8 (.ofNat 254)], .bool true),
  (3, [.int .u8 (.ofNat 255)], .bool true)]
theorem RbMaL0_run : forced (allW (runG RbMaT19) RbMaL0) = true := by kernel_rfl
theorem RbMaL0_ok : MemoOK (ACall C) (memL (RbMaL0 ++ [])) := memL_appW gtC (runG_ok RbMa19_ok) memL_nil (of_forced RbMaL0_run)
def RbMa_all : List (Nat × List AV × AV) := (RbMaL0 ++ [])
def RbMa_is (r : Option AV) : Bool := match r with | some (.bool true) => true | _ => false
def RbMa_look  : Bool := (List.range 256).all fun m => RbMa_is (memL RbMa_all 3 [.int .u8 (.ofNat m)])
theorem RbMa_look_x : forced (RbMa_look ) = true := by kernel_rfl
theorem RbMa_looks  : RbMa_look  = true := by
  exact of_forced RbMa_look_x
theorem wholeLoads.any (n : Int) (h1 : 0 ≤ n) (h2 : n ≤ 255) : ACall C 3 [.int .u8 n] AH.mt (fun v _ => v = .bool true) := by
  obtain ⟨m, rfl⟩ := Int.eq_ofNat_of_zero_le h1
  have h := List.all_eq_true.1 (RbMa_looks ) m (List.mem_range.2 (by omega))
  cases hm : memL RbMa_all 3 [.int .u8 (.ofNat m)] with
  | none => rw [hm] at h; cases h
  | some v =>
    rw [hm] at h
    have hv : v = .bool true := by
      unfold RbMa_is at h
      split at h
      · rename_i heq; exact Option.some.inj heq
      · cases h
    exact RbMaL0_ok 3 _ v hm AH.mt _ hv
end
end Go.Proofs.YtpemmdclfefnlaaGreatDoor.rb

/- What all laws of the seat share: the variables that the text of the program lays. By wrap.py. -/
set_option linter.unusedVariables false
namespace Go.Proofs.YtpemmdclfefnlaaGreatDoor.rb
open Rb Go.ChangeShapes Go.WideShapes Go.ChangeAt Go.RowKit

theorem own : ownKnob Tryz.prog.godebug = none := by kernel_rfl
theorem laidOut : laidOutB Tryz.prog = true := by kernel_rfl
theorem cellsU : Tryz.prog.cellsOf 5 = 1 := by kernel_rfl
def laidVars : List (String × DataW Unit) := Rows.wholeLoadsRow.laid

theorem gT0 : Tryz.prog.globalNamed "math/bits.deBruijn64tab" = some 0 := by kernel_rfl
theorem gTType0 : (Tryz.prog.globals[0]?).map (·.type) = some 307 := by kernel_rfl
theorem cellsT0 : Tryz.prog.cellsOf 307 = 64 := by kernel_rfl
theorem tab_eq0 : (Rows.laid_math_bits_deBruijn64tab : DataW Unit) = Go.Lib.tabData .u8 deB64 := by kernel_rfl
theorem tab_mem0 : (("math/bits.deBruijn64tab", Go.Lib.tabData .u8 deB64) : String × DataW Unit) ∈ laidVars := by
  rw [← tab_eq0]; exact .tail _ (.head _)
theorem tab_of0 {W : World} (h : laidMet Tryz.prog laidVars W) : Go.Lib.TabIs Tryz.prog W "math/bits.deBruijn64tab" .u8 deB64 := by
  obtain ⟨g', t', cs, fuel, p, hg', ht', hvar, hd⟩ := Go.Lib.laidMet.reads h tab_mem0
  obtain rfl := Option.some.inj (gT0.symm.trans hg')
  obtain rfl := Option.some.inj (gTType0.symm.trans ht')
  unfold Go.Lib.TabIs
  rw [hvar, ← Go.Lib.cells_of_tab Tryz.underlying307 Tryz.underlying5 cellsU cellsT0 hd]

theorem gT1 : Tryz.prog.globalNamed "strings.asciiSpace" = some 1 := by kernel_rfl
theorem gTType1 : (Tryz.prog.globals[1]?).map (·.type) = some 372 := by kernel_rfl
theorem cellsT1 : Tryz.prog.cellsOf 372 = 256 := by kernel_rfl
theorem tab_eq1 : (Rows.laid_strings_asciiSpace : DataW Unit) = Go.Lib.tabData .u8 Go.Lib.asciiSpaceTab := by kernel_rfl
theorem tab_mem1 : (("strings.asciiSpace", Go.Lib.tabData .u8 Go.Lib.asciiSpaceTab) : String × DataW Unit) ∈ laidVars := by
  rw [← tab_eq1]; exact .tail _ (.tail _ (.tail _ (.tail _ (.tail _ (.tail _ (.head _))))))
theorem tab_of1 {W : World} (h : laidMet Tryz.prog laidVars W) : Go.Lib.TabIs Tryz.prog W "strings.asciiSpace" .u8 Go.Lib.asciiSpaceTab := by
  obtain ⟨g', t', cs, fuel, p, hg', ht', hvar, hd⟩ := Go.Lib.laidMet.reads h tab_mem1
  obtain rfl := Option.some.inj (gT1.symm.trans hg')
  obtain rfl := Option.some.inj (gTType1.symm.trans ht')
  unfold Go.Lib.TabIs
  rw [hvar, ← Go.Lib.cells_of_tab Tryz.underlying372 Tryz.underlying5 cellsU cellsT1 hd]

theorem gok {W : World} (h : laidMet Tryz.prog laidVars W) : GOK C W (Ghost.mt (allFz W)) := by
  intro g l hg
  change gt g = some l at hg
  unfold gt at hg
  split at hg
  · rename_i e
    subst e
    cases hg
    rw [(show deBruijn64tab = deB64.map (AV.int .u8) from rfl)]
    exact fptr_of_tab fun i hi => (tab_of0 h).cell gT0 i hi
  · split at hg
    · rename_i e
      subst e
      cases hg
      rw [asciiSpace_eq]
      exact fptr_of_tab fun i hi => (tab_of1 h).cell gT1 i hi
    · cases hg

/-- A world in which the variables hold what their initialisers lay. -/
noncomputable def laidWorld (os : Os) : World :=
  let N := (World.settled Tryz.prog os).heap.size
  let w0 := World.holding Tryz.prog os ⟨#[.cells #[.string ⟨#[118, 97, 108, 117, 101, 32, 111, 117, 116, 32, 111, 102, 32, 114, 97, 110, 103, 101]⟩] 505, .cells #[.string ⟨#[105, 110, 118, 97, 108, 105, 100, 32, 115, 121, 110, 116, 97, 120]⟩] 505, .cells #[.int .u16 9, .int .u16 13, .int .u16 1, .int .u16 32, .int .u16 133, .int .u16 101, .int .u16 160, .int .u16 5760, .int .u16 5600, .int .u16 8192, .int .u16 8202, .int .u16 1, .int .u16 8232, .int .u16 8233, .int .u16 1, .int .u16 8239, .int .u16 8287, .int .u16 48, .int .u16 12288, .int .u16 12288, .int .u16 1] 476, .cells #[.slice (some ⟨N + 2, 0, none⟩) 7 7, .slice none 0 0, .int .i64 2] 473], #[], []⟩
  let put (h : Array Obj) (g : Nat) (cs : Array Value) : Array Obj := h.modify g fun
    | .cells _ t frozen => .cells cs t frozen
    | o => o
  { w0 with heap := put (put (put (put (put (put (put (w0.heap) 7 #[.int .u8 0, .int .u8 1, .int .u8 28, .int .u8 2, .int .u8 29, .int .u8 14, .int .u8 24, .int .u8 3, .int .u8 30, .int .u8 22, .int .u8 20, .int .u8 15, .int .u8 25, .int .u8 17, .int .u8 4, .int .u8 8, .int .u8 31, .int .u8 27, .int .u8 13, .int .u8 23, .int .u8 21, .int .u8 19, .int .u8 16, .int .u8 7, .int .u8 26, .int .u8 12, .int .u8 18, .int .u8 6, .int .u8 11, .int .u8 5, .int .u8 10, .int .u8 9]) 0 #[.int .u8 0, .int .u8 1, .int .u8 56, .int .u8 2, .int .u8 57, .int .u8 49, .int .u8 28, .int .u8 3, .int .u8 61, .int .u8 58, .int .u8 42, .int .u8 50, .int .u8 38, .int .u8 29, .int .u8 17, .int .u8 4, .int .u8 62, .int .u8 47, .int .u8 59, .int .u8 36, .int .u8 45, .int .u8 43, .int .u8 51, .int .u8 22, .int .u8 53, .int .u8 39, .int .u8 33, .int .u8 30, .int .u8 24, .int .u8 18, .int .u8 12, .int .u8 5, .int .u8 63, .int .u8 55, .int .u8 48, .int .u8 27, .int .u8 60, .int .u8 41, .int .u8 37, .int .u8 16, .int .u8 46, .int .u8 35, .int .u8 44, .int .u8 21, .int .u8 52, .int .u8 32, .int .u8 23, .int .u8 11, .int .u8 54, .int .u8 26, .int .u8 40, .int .u8 15, .int .u8 34, .int .u8 20, .int .u8 31, .int .u8 10, .int .u8 25, .int .u8 14, .int .u8 19, .int .u8 9, .int .u8 13, .int .u8 8, .int .u8 7, .int .u8 6]) 6 #[.int .u64 1, .int .u64 10, .int .u64 100, .int .u64 1000, .int .u64 10000, .int .u64 100000, .int .u64 1000000, .int .u64 10000000, .int .u64 100000000, .int .u64 1000000000, .int .u64 10000000000, .int .u64 100000000000, .int .u64 1000000000000, .int .u64 10000000000000, .int .u64 100000000000000, .int .u64 1000000000000000, .int .u64 10000000000000000, .int .u64 100000000000000000, .int .u64 1000000000000000000, .int .u64 10000000000000000000]) 4 #[.iface 503 (.pointer (some ⟨N + 0, 0, none⟩))]) 3 #[.iface 503 (.pointer (some ⟨N + 1, 0, none⟩))]) 2 #[.pointer (some ⟨N + 3, 0, none⟩)]) 1 #[.int .u8 0, .int .u8 0, .int .u8 0, .int .u8 0, .int .u8 0, .int .u8 0, .int .u8 0, .int .u8 0, .int .u8 0, .int .u8 1, .int .u8 1, .int .u8 1, .int .u8 1, .int .u8 1, .int .u8 0, .int .u8 0, .int .u8 0, .int .u8 0, .int .u8 0, .int .u8 0, .int .u8 0, .int .u8 0, .int .u8 0, .int .u8 0, .int .u8 0, .int .u8 0, .int .u8 0, .int .u8 0, .int .u8 0, .int .u8 0, .int .u8 0, .int .u8 0, .int .u8 1, .int .u8 0, .int .u8 0, .int .u8 0, .int .u8 0, .int .u8 0, .int .u8 0, .int .u8 0, .int .u8 0, .int .u8 0, .int .u8 0, .int .u8 0, .int .u8 0, .int .u8 0, .int .u8 0, .int .u8 0, .int .u8 0, .int .u8 0, .int .u8 0, .int .u8 0, .int .u8 0, .int .u8 0, .int .u8 0, .int .u8 0, .int .u8 0, .int .u8 0, .int .u8 0, .int .u8 0, .int .u8 0, .int .u8 0, .int .u8 0, .int .u8 0, .int .u8 0, .int .u8 0, .int .u8 0, .int .u8 0, .int .u8 0, .int .u8 0, .int .u8 0, .int .u8 0, .int .u8 0, .int .u8 0, .int .u8 0, .int .u8 0, .int .u8 0, .int .u8 0, .int .u8 0, .int .u8 0, .int .u8 0, .int .u8 0, .int .u8 0, .int .u8 0, .int .u8 0, .int .u8 0, .int .u8 0, .int .u8 0, .int .u8 0, .int .u8 0, .int .u8 0, .int .u8 0, .int .u8 0, .int .u8 0, .int .u8 0, .int .u8 0, .int .u8 0, .int .u8 0, .int .u8 0, .int .u8 0, .int .u8 0, .int .u8 0, .int .u8 0, .int .u8 0, .int .u8 0, .int .u8 0, .int .u8 0, .int .u8 0, .int .u8 0, .int .u8 0, .int .u8 0, .int .u8 0, .int .u8 0, .int .u8 0, .int .u8 0, .int .u8 0, .int .u8 0, .int .u8 0, .int .u8 0, .int .u8 0, .int .u8 0, .int .u8 0, .int .u8 0, .int .u8 0, .int .u8 0, .int .u8 0, .int .u8 0, .int .u8 0, .int .u8 0, .int .u8 0, .int .u8 0, .int .u8 0, .int .u8 0, .int .u8 0, .int .u8 0, .int .u8 0, .int .u8 0, .int .u8 0, .int .u8 0, .int .u8 0, .int .u8 0, .int .u8 0, .int .u8 0, .int .u8 0, .int .u8 0, .int .u8 0, .int .u8 0, .int .u8 0, .int .u8 0, .int .u8 0, .int .u8 0, .int .u8 0, .int .u8 0, .int .u8 0, .int .u8 0, .int .u8 0, .int .u8 0, .int .u8 0, .int .u8 0, .int .u8 0, .int .u8 0, .int .u8 0, .int .u8 0, .int .u8 0, .int .u8 0, .int .u8 0, .int .u8 0, .int .u8 0, .int .u8 0, .int .u8 0, .int .u8 0, .int .u8 0, .int .u8 0, .int .u8 0, .int .u8 0, .int .u8 0, .int .u8 0, .int .u8 0, .int .u8 0, .int .u8 0, .int .u8 0, .int .u8 0, .int .u8 0, .int .u8 0, .int .u8 0, .int .u8 0, .int .u8 0, .int .u8 0, .int .u8 0, .int .u8 0, .int .u8 0, .int .u8 0, .int .u8 0, .int .u8 0, .int .u8 0, .int .u8 0, .int .u8 0, .int .u8 0, .int .u8 0, .int .u8 0, .int .u8 0, .int .u8 0, .int .u8 0, .int .u8 0, .int .u8 0, .int .u8 0, .int .u8 0, .int .u8 0, .int .u8 0, .int .u8 0, .int .u8 0, .int .u8 0, .int .u8 0, .int .u8 0, .int .u8 0, .int .u8 0, .int .u8 0, .int .u8 0, .int .u8 0, .int .u8 0, .int .u8 0, .int .u8 0, .int .u8 0, .int .u8 0, .int .u8 0, .int .u8 0, .int .u8 0, .int .u8 0, .int .u8 0, .int .u8 0, .int .u8 0, .int .u8 0, .int .u8 0, .int .u8 0, .int .u8 0, .int .u8 0, .int .u8 0, .int .u8 0, .int .u8 0, .int .u8 0, .int .u8 0, .int .u8 0, .int .u8 0, .int .u8 0, .int .u8 0, .int .u8 0, .int .u8 0, .int .u8 0, .int .u8 0, .int .u8 0, .int .u8 0, .int .u8 0, .int .u8 0, .int .u8 0, .int .u8 0, .int .u8 0] }
theorem laid_met (os : Os) (args : Array Value) : laidMet Tryz.prog laidVars ((laidWorld os).forCall (fun _ _ => 0) ⟨#[], args, []⟩).memory :=
  laidMet_of_run3 10 (by kernel_rfl) (by kernel_rfl) (by kernel_rfl)
theorem laid_shaped (os : Os) (args : Array Value) : ((laidWorld os).forCall (fun _ _ => 0) ⟨#[], args, []⟩).Shaped Tryz.prog := World.shaped_of_RefB (by kernel_rfl) (by kernel_rfl)
end Go.Proofs.YtpemmdclfefnlaaGreatDoor.rb
