/- A part of the proof (part 12): see the last text. -/
import Derived.Test.YtiipdjhkcjbmkaaGreatDoorRows
import Derived.LaidOnce
import Derived.SevenTiedAt
set_option maxRecDepth 100000
namespace Go.Proofs.YtiipdjhkcjbmkaaGreatDoor.rb
open Go
def laidL : List (String × DataW Unit) := [("strconv.ErrSyntax", Rows.laid_strconv_ErrSyntax), ("strconv.ErrRange", Rows.laid_strconv_ErrRange), ("internal/strconv.uint64pow10", Rows.laid_internal_strconv_uint64pow10), ("math/bits.deBruijn32tab", Rows.laid_math_bits_deBruijn32tab), ("math/bits.deBruijn64tab", Rows.laid_math_bits_deBruijn64tab), ("strings.asciiSpace", Rows.laid_strings_asciiSpace), ("unicode.White_Space", Rows.laid_unicode_White_Space)]
def kindL : List LaidKind := [.sentinel, .sentinel, .data, .data, .data, .data, .listed]
theorem tie1 : Tryz.prog.worded (varsWordLater true) = true := by kernel_rfl
theorem tie2 : Tryz.prog.worded (varsWordLater !true) = false := by kernel_rfl
theorem tie3 : Tryz.prog.worded rootWordLater = true := by kernel_rfl
theorem tie4 : laidL.map (fun x => Tryz.prog.kindOfLater x.1) = kindL.map some := by kernel_rfl
theorem tie5 : (Tryz.prog.funcNamed "gosem.cut.vars").isSome = true := by kernel_rfl
theorem tie6 : varsNamedLaterB Tryz.prog (varsId Tryz.prog) laidL = true := by kernel_rfl
theorem tie7 : ∀ os tape, doorLeaves Tryz.prog 96 8 257 laidL os tape = some (laidL.filter fun x => x.2.handleName?.isNone, (funcsListed laidL).map (·.2.funcsOut)) := fun _ _ => by kernel_rfl
theorem tie : Tryz.prog.laidByTextLater laidL kindL true := Program.laidByTextLater_by_one 96 8 257 tie1 tie2 tie3 tie4 tie5 tie6 tie7
theorem noUnsafe : Tryz.pinned.checked.prog.headLifts.contains "ownunsafe" = false := by kernel_rfl
theorem row_tie : Rows.wholeMessageRow.laidByTextAt .later Tryz.pinned kindL true := OpenClaim.laidByTextAt_later rfl rfl tie noUnsafe
end Go.Proofs.YtiipdjhkcjbmkaaGreatDoor.rb
