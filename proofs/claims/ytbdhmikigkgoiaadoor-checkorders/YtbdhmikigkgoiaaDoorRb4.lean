/- A part of the proof (part 4): see the last text. -/
import Derived.Test.YtbdhmikigkgoiaaDoorRb2
import Derived.KernelRfl
/- Package layout: its functions in the small language, and what they mean. By gen.py. -/
set_option linter.unusedVariables false
namespace Rb.S
open Go

/-! rabbet/layout.Of -/
def layout_Of (Φ : Calls') (a0 : AV) (H : AH) (Q : Post) : Prop :=
 DoH (aboxv H false 6 a0) fun x1 H2 =>
 Do (aload H2 6 true x1) fun x3 =>
Φ K.layout_check [x3] H2 fun x4 H5 =>
 Do (aextract 0 x4) fun x6 =>
 Do (aextract 1 x4) fun x7 =>
 DoH (some (abox H5 true [.int .i64 0, .int .i64 0])) fun x8 H9 =>
 Do (astore H9 2 x8 x6) fun H10 =>
 Do (afaddr 0 x8) fun x11 =>
 Do (aload H10 1 false x11) fun x12 =>
 Do (afaddr 1 x8) fun x13 =>
 Do (aload H10 1 false x13) fun x14 =>
 Q (.tup [x12, x14, x7]) H10
def ir_layout_Of : AFunc := ⟨16, [.tmp 2, .tmp 3, .tmp 4],
 .seq (.region [
   ⟨some 1, .box false 6 (.t 0), none⟩,
   ⟨some 2, .mv (.k (.int .i64 0)), none⟩,
   ⟨some 3, .mv (.k (.int .i64 0)), none⟩,
   ⟨some 4, .mv (.k (.int .i64 0)), none⟩])
 (.seq (.region [
   ⟨some 7, .load 6 true (.t 1), none⟩,
   ⟨some 8, .call K.layout_check [(.t 7)], none⟩,
   ⟨some 6, .mv (.t 8), none⟩,
   ⟨some 9, .extract 0 (.t 6), none⟩,
   ⟨some 10, .extract 1 (.t 6), none⟩,
   ⟨some 5, .alloc true [.int .i64 0, .int .i64 0], none⟩,
   ⟨none, .store 2 (.t 5) (.t 9), none⟩,
   ⟨some 4, .mv (.t 10), none⟩])
 (.seq (.draw [
   ⟨some 11, .faddr 0 (.t 5), none⟩,
   ⟨some 12, .load 1 false (.t 11), none⟩,
   ⟨some 13, .faddr 1 (.t 5), none⟩,
   ⟨some 14, .load 1 false (.t 13), none⟩,
   ⟨some 15, .mv (.t 4), none⟩,
   ⟨some 2, .mv (.t 12), none⟩,
   ⟨some 3, .mv (.t 14), none⟩,
   ⟨some 4, .mv (.t 15), none⟩]
 [[], [0], [], [2], [], [0, 1], [0, 1, 2, 3, 5], [0, 1, 2, 3, 4, 5, 6]] [] [0, 1, 2, 3, 4, 5, 6, 7])
 (.ret)))⟩
theorem eq_layout_Of (Φ : Calls') (a0 : AV) (H : AH) (Q : Post) : fnE1 Φ ir_layout_Of [a0] H Q = layout_Of Φ a0 H Q := by kernel_rfl

/-! rabbet/layout.check -/
def layout_check (Φ : Calls') (a0 : AV) (H : AH) (Q : Post) : Prop :=
 DoH (aboxv H false 6 a0) fun x1 H2 =>
 DoH (some (abox H2 true [.int .i64 0, .int .i64 0])) fun x3 H4 =>
 Do (aload H4 6 true x1) fun x5 =>
Φ K.kind_Sound [x5] H4 fun x6 H7 =>
 Do (abin .neq x6 (.int .i64 0)) fun x8 =>
 Gd x8 true (
 Do (abuild [.int .i64 0, .int .i64 0] []) fun x9 =>
 Do (astore H7 2 x3 x9) fun H10 =>
 Do (aload H10 2 true x3) fun x11 =>
 Q (.tup [x11, x6]) H10) (
 Do (aload H7 6 true x1) fun x12 =>
Φ K.layout_torn [x12] H7 fun x13 H14 =>
 Gd x13 true (
 Do (abuild [.int .i64 0, .int .i64 0] []) fun x15 =>
 Do (astore H14 2 x3 x15) fun H16 =>
 Do (aload H16 2 true x3) fun x17 =>
 Q (.tup [x17, (.int .i64 10)]) H16) (
 Do (aload H14 6 true x1) fun x18 =>
Φ K.layout_of [x18] H14 fun x19 H20 =>
 Do (aextract 0 x19) fun x21 =>
 Do (aextract 1 x19) fun x22 =>
 DoH (some (abox H20 true [.int .i64 0, .int .i64 0])) fun x23 H24 =>
 Do (astore H24 2 x23 x21) fun H25 =>
 Do (aun .not x22) fun x26 =>
 Gd x26 true (
 Do (abuild [.int .i64 0, .int .i64 0] []) fun x27 =>
 Do (astore H25 2 x3 x27) fun H28 =>
 Do (aload H28 2 true x3) fun x29 =>
 Q (.tup [x29, (.int .i64 9)]) H28) (
 Do (aload H25 2 true x23) fun x30 =>
 Do (astore H25 2 x3 x30) fun H31 =>
 Do (aload H31 2 true x3) fun x32 =>
 Q (.tup [x32, (.int .i64 0)]) H31)))
def ir_layout_check : AFunc := ⟨25, [.cell 2 2 true, .tmp 3],
 .seq (.region [
   ⟨some 1, .box false 6 (.t 0), none⟩,
   ⟨some 2, .alloc true [.int .i64 0, .int .i64 0], none⟩,
   ⟨some 3, .mv (.k (.int .i64 0)), none⟩])
 (.seq (.seq (.region [
   ⟨some 7, .load 6 true (.t 1), none⟩,
   ⟨some 8, .call K.kind_Sound [(.t 7)], none⟩,
   ⟨some 4, .mv (.t 8), none⟩])
 (.seq (.region [
   ⟨some 9, .mv (.t 4), none⟩,
   ⟨some 10, .bin .neq (.t 9) (.k (.int .i64 0)), none⟩])
 (.cond (.t 10) (.seq (.region [
     ⟨some 11, .build [.int .i64 0, .int .i64 0] [], none⟩,
     ⟨some 12, .mv (.t 4), none⟩,
     ⟨none, .store 2 (.t 2) (.t 11), none⟩,
     ⟨some 3, .mv (.t 12), none⟩])
   (.ret))
   (.skip))))
 (.seq (.seq (.region [
   ⟨some 13, .load 6 true (.t 1), none⟩,
   ⟨some 14, .call K.layout_torn [(.t 13)], none⟩])
 (.cond (.t 14) (.seq (.region [
     ⟨some 15, .build [.int .i64 0, .int .i64 0] [], none⟩,
     ⟨none, .store 2 (.t 2) (.t 15), none⟩,
     ⟨some 3, .mv (.k (.int .i64 10)), none⟩])
   (.ret))
   (.skip)))
 (.seq (.region [
   ⟨some 17, .load 6 true (.t 1), none⟩,
   ⟨some 18, .call K.layout_of [(.t 17)], none⟩,
   ⟨some 16, .mv (.t 18), none⟩,
   ⟨some 19, .extract 0 (.t 16), none⟩,
   ⟨some 20, .extract 1 (.t 16), none⟩,
   ⟨some 5, .alloc true [.int .i64 0, .int .i64 0], none⟩,
   ⟨none, .store 2 (.t 5) (.t 19), none⟩,
   ⟨some 6, .mv (.t 20), none⟩])
 (.seq (.seq (.region [
   ⟨some 21, .mv (.t 6), none⟩,
   ⟨some 22, .un .not (.t 21), none⟩])
 (.cond (.t 22) (.seq (.region [
     ⟨some 23, .build [.int .i64 0, .int .i64 0] [], none⟩,
     ⟨none, .store 2 (.t 2) (.t 23), none⟩,
     ⟨some 3, .mv (.k (.int .i64 9)), none⟩])
   (.ret))
   (.skip)))
 (.seq (.region [
   ⟨some 24, .load 2 true (.t 5), none⟩,
   ⟨none, .store 2 (.t 2) (.t 24), none⟩,
   ⟨some 3, .mv (.k (.int .i64 0)), none⟩])
 (.ret))))))⟩
theorem eq_layout_check (Φ : Calls') (a0 : AV) (H : AH) (Q : Post) : fnE1 Φ ir_layout_check [a0] H Q = layout_check Φ a0 H Q := by kernel_rfl

/-! rabbet/layout.torn -/
def layout_torn_k1 (Φ : Calls') (x1 : AV) (Q : Post) : List AV → AH → Prop := fun j10 H11 =>
 Gd3 (sl j10 0) false (
 Do (afaddr 3 x1) fun x16 =>
 Do (aload H11 1 false x16) fun x17 =>
Φ K.slices_ContainsFunc___api_Field_api_Field_ [x17, (.fn K.layout_torn_c1 [])] H11 fun x18 H19 =>
 Q x18 H19) (
 Q (.bool true) H11) (
 False)
def layout_torn_k2 (Φ : Calls') (x1 : AV) (Q : Post) : List AV → AH → Prop := fun j3 H4 =>
 Gd3 (sl j3 0) false (
 Do (afaddr 5 x1) fun x12 =>
 Do (aload H4 1 false x12) fun x13 =>
Φ K.slices_ContainsFunc___api_Type_api_Type_ [x13, (.fn K.layout_torn [])] H4 fun x14 H15 =>
 JoinP (layout_torn_k1 Φ x1 Q) [x14] H15) (
 JoinP (layout_torn_k1 Φ x1 Q) [(.bool true)] H4) (
 False)
def layout_torn (Φ : Calls') (a0 : AV) (H : AH) (Q : Post) : Prop :=
 DoH (aboxv H false 6 a0) fun x1 H2 =>
 Do (afaddr 2 x1) fun x5 =>
 Do (aload H2 1 false x5) fun x6 =>
 Gd3 x6 true (
 Do (aload H2 6 true x1) fun x7 =>
Φ K.layout_loose [x7] H2 fun x8 H9 =>
 JoinP (layout_torn_k2 Φ x1 Q) [x8] H9) (
 JoinP (layout_torn_k2 Φ x1 Q) [(.bool false)] H2) (
 False)
def ir_layout_torn : AFunc := ⟨19, [.tmp 2],
 .seq (.region [
   ⟨some 1, .box false 6 (.t 0), none⟩,
   ⟨some 2, .mv (.k (.bool false)), none⟩])
 (.seq (.rjoin [8] [3, 4, 5, 6, 7] [
   ⟨some 3, .faddr 2 (.t 1), none⟩,
   ⟨some 4, .load 1 false (.t 3), none⟩,
   ⟨some 5, .mv (.t 4), none⟩,
   ⟨some 6, .load 6 true (.t 1), some (5, true)⟩,
   ⟨some 7, .call K.layout_loose [(.t 6)], some (5, true)⟩,
   ⟨some 8, .pick (.t 5) (.t 7) (.k (.bool false)), none⟩]
 (.rjoin [13] [9, 10, 11, 12] [
   ⟨some 9, .mv (.t 8), none⟩,
   ⟨some 10, .faddr 5 (.t 1), some (9, false)⟩,
   ⟨some 11, .load 1 false (.t 10), some (9, false)⟩,
   ⟨some 12, .call K.slices_ContainsFunc___api_Type_api_Type_ [(.t 11), (.k (.fn K.layout_torn []))], some (9, false)⟩,
   ⟨some 13, .pick (.t 9) (.k (.bool true)) (.t 12), none⟩]
 (.region [
   ⟨some 14, .mv (.t 13), none⟩,
   ⟨some 15, .faddr 3 (.t 1), some (14, false)⟩,
   ⟨some 16, .load 1 false (.t 15), some (14, false)⟩,
   ⟨some 17, .call K.slices_ContainsFunc___api_Field_api_Field_ [(.t 16), (.k (.fn K.layout_torn_c1 []))], some (14, false)⟩,
   ⟨some 18, .pick (.t 14) (.k (.bool true)) (.t 17), none⟩,
   ⟨some 2, .mv (.t 18), none⟩])))
 (.ret))⟩
theorem eq_layout_torn (Φ : Calls') (a0 : AV) (H : AH) (Q : Post) : fnE1 Φ ir_layout_torn [a0] H Q = layout_torn Φ a0 H Q := by kernel_rfl

/-! rabbet/layout.of -/
def layout_of_k1 (Φ : Calls') (x1 : AV) (x3 : AV) (Q : Post) : List AV → AH → Prop := fun j5 H6 =>
 Do (aload H6 6 true x1) fun x46 =>
Φ K.layout_place [x46] H6 fun x47 H48 =>
 Do (aextract 0 x47) fun x49 =>
 Do (aextract 1 x47) fun x50 =>
 DoH (some (abox H48 true [.int .i64 0, .int .i64 0, .lst .nil 0 [], .int .i64 0])) fun x51 H52 =>
 Do (astore H52 4 x51 x49) fun H53 =>
 Do (afaddr 0 x51) fun x54 =>
 Do (aload H53 2 true x54) fun x55 =>
 Do (astore H53 2 x3 x55) fun H56 =>
 Do (aload H56 2 true x3) fun x57 =>
 Q (.tup [x57, x50]) H56
def layout_of_k2 (Φ : Calls') (x1 : AV) (x3 : AV) (x8 : AV) (Q : Post) : List AV → AH → Prop := fun j9 H10 =>
 Gd (sl j9 0) true (
 Do (afaddr 1 x1) fun x12 =>
 Do (aload H10 1 false x12) fun x13 =>
 Do (afaddr 1 x1) fun x14 =>
 Do (aload H10 1 false x14) fun x15 =>
 Do (abuild [.int .i64 0, .int .i64 0] [(0, 1, x13), (1, 1, x15)]) fun x16 =>
 Do (astore H10 2 x3 x16) fun H17 =>
 Do (aload H17 2 true x3) fun x18 =>
 Q (.tup [x18, (.bool true)]) H17) (
 Do (abin .eql x8 (.int .i64 5)) fun x19 =>
 Gd x19 true (
 Do (afaddr 5 x1) fun x20 =>
 Do (aload H10 1 false x20) fun x21 =>
 Do (aiaddr none 6 x21 (.int .i64 0)) fun x22 =>
 Do (aload H10 6 true x22) fun x23 =>
Φ K.layout_of [x23] H10 fun x24 H25 =>
 Do (aextract 0 x24) fun x26 =>
 Do (aextract 1 x24) fun x27 =>
 DoH (some (abox H25 true [.int .i64 0, .int .i64 0])) fun x28 H29 =>
 Do (astore H29 2 x28 x26) fun H30 =>
 Do (afaddr 0 x28) fun x31 =>
 Do (aload H30 1 false x31) fun x32 =>
 Do (afaddr 4 x1) fun x33 =>
 Do (aload H30 1 false x33) fun x34 =>
 Do (abin .mul x32 x34) fun x35 =>
 Do (afaddr 0 x28) fun x36 =>
 Do (astore H30 1 x36 x35) fun H37 =>
 Do (aload H37 2 true x28) fun x38 =>
 Gd3 x27 true (
 Do (afaddr 0 x28) fun x39 =>
 Do (aload H37 1 false x39) fun x40 =>
 Do (abin .leq x40 (.int .i64 65536)) fun x41 =>
 Do (astore H37 2 x3 x38) fun H42 =>
(((.bool true) : AV) = .bool true → aload H42 1 false x39 = some x40) ∧
(Do (aload H42 2 true x3) fun x43 =>
 Q (.tup [x43, x41]) H42)) (
 Do (astore H37 2 x3 x38) fun H44 =>
(((.bool false) : AV) = .bool true → aload H44 1 false (.tup []) = some (.tup [])) ∧
(Do (aload H44 2 true x3) fun x45 =>
 Q (.tup [x45, (.bool false)]) H44)) (
 False)) (
 JoinP (layout_of_k1 Φ x1 x3 Q) [] H10))
def layout_of (Φ : Calls') (a0 : AV) (H : AH) (Q : Post) : Prop :=
 DoH (aboxv H false 6 a0) fun x1 H2 =>
 DoH (some (abox H2 true [.int .i64 0, .int .i64 0])) fun x3 H4 =>
 Do (afaddr 0 x1) fun x7 =>
 Do (aload H4 1 false x7) fun x8 =>
 Do (abin .eql x8 (.int .i64 1)) fun x11 =>
 Gd x11 true (
 JoinP (layout_of_k2 Φ x1 x3 x8 Q) [x11] H4) (
 Do (abin .eql x8 (.int .i64 2)) fun x58 =>
 JoinP (layout_of_k2 Φ x1 x3 x8 Q) [x58] H4)
def ir_layout_of : AFunc := ⟨49, [.cell 2 2 true, .tmp 3],
 .seq (.region [
   ⟨some 1, .box false 6 (.t 0), none⟩,
   ⟨some 2, .alloc true [.int .i64 0, .int .i64 0], none⟩,
   ⟨some 3, .mv (.k (.bool false)), none⟩])
 (.join [] [3, 4, 5, 8, 9, 10, 11, 12, 13, 14, 15, 16, 17, 18, 19, 20, 21, 22, 23, 24, 25, 26, 27, 28, 29, 30, 31, 32, 33, 34, 35, 36, 37, 38, 39, 40] (.seq (.region [
   ⟨some 8, .faddr 0 (.t 1), none⟩,
   ⟨some 9, .load 1 false (.t 8), none⟩])
 (.block 0 (.join [10] [11, 12] (.seq (.region [
   ⟨some 11, .bin .eql (.t 9) (.k (.int .i64 1)), none⟩,
   ⟨some 10, .mv (.t 11), none⟩])
 (.cond (.t 10) (.skip)
   (.region [
     ⟨some 12, .bin .eql (.t 9) (.k (.int .i64 2)), none⟩,
     ⟨some 10, .mv (.t 12), none⟩])))
 (.cond (.t 10) (.seq (.region [
     ⟨some 13, .faddr 1 (.t 1), none⟩,
     ⟨some 14, .load 1 false (.t 13), none⟩,
     ⟨some 15, .faddr 1 (.t 1), none⟩,
     ⟨some 16, .load 1 false (.t 15), none⟩,
     ⟨some 17, .build [.int .i64 0, .int .i64 0] [(0, 1, (.t 14)), (1, 1, (.t 16))], none⟩,
     ⟨none, .store 2 (.t 2) (.t 17), none⟩,
     ⟨some 3, .mv (.k (.bool true)), none⟩])
   (.ret))
   (.seq (.region [
     ⟨some 19, .bin .eql (.t 9) (.k (.int .i64 5)), none⟩,
     ⟨some 18, .mv (.t 19), none⟩])
   (.cond (.t 18) (.seq (.region [
       ⟨some 21, .faddr 5 (.t 1), none⟩,
       ⟨some 22, .load 1 false (.t 21), none⟩,
       ⟨some 23, .iaddr none 6 (.t 22) (.k (.int .i64 0)), none⟩,
       ⟨some 24, .load 6 true (.t 23), none⟩,
       ⟨some 25, .call K.layout_of [(.t 24)], none⟩,
       ⟨some 20, .mv (.t 25), none⟩,
       ⟨some 26, .extract 0 (.t 20), none⟩,
       ⟨some 27, .extract 1 (.t 20), none⟩,
       ⟨some 4, .alloc true [.int .i64 0, .int .i64 0], none⟩,
       ⟨none, .store 2 (.t 4) (.t 26), none⟩,
       ⟨some 5, .mv (.t 27), none⟩])
     (.seq (.region [
       ⟨some 28, .faddr 0 (.t 4), none⟩,
       ⟨some 29, .load 1 false (.t 28), none⟩,
       ⟨some 30, .faddr 4 (.t 1), none⟩,
       ⟨some 31, .load 1 false (.t 30), none⟩,
       ⟨some 32, .bin .mul (.t 29) (.t 31), none⟩,
       ⟨some 33, .faddr 0 (.t 4), none⟩,
       ⟨none, .store 1 (.t 33) (.t 32), none⟩])
     (.seq (.draw [
       ⟨some 34, .load 2 true (.t 4), none⟩,
       ⟨some 35, .mv (.t 5), none⟩,
       ⟨some 36, .mv (.t 35), none⟩,
       ⟨some 37, .faddr 0 (.t 4), some (36, true)⟩,
       ⟨some 38, .load 1 false (.t 37), some (36, true)⟩,
       ⟨some 39, .bin .leq (.t 38) (.k (.int .i64 65536)), some (36, true)⟩,
       ⟨some 40, .pick (.t 36) (.t 39) (.k (.bool false)), none⟩,
       ⟨none, .store 2 (.t 2) (.t 34), none⟩,
       ⟨some 3, .mv (.t 40), none⟩]
     [[], [], [1], [1, 2], [1, 2, 3], [1, 2, 3, 4], [1, 2, 3, 4, 5], [0, 1, 2], [0, 1, 2, 3, 4, 5, 6, 7]] [([0, 1, 2, 3, 4, 5, 6], 7, [4])] [8])
     (.ret))))
     (.skip)))))))
 (.seq (.region [
   ⟨some 42, .load 6 true (.t 1), none⟩,
   ⟨some 43, .call K.layout_place [(.t 42)], none⟩,
   ⟨some 41, .mv (.t 43), none⟩,
   ⟨some 44, .extract 0 (.t 41), none⟩,
   ⟨some 45, .extract 1 (.t 41), none⟩,
   ⟨some 6, .alloc true [.int .i64 0, .int .i64 0, .lst .nil 0 [], .int .i64 0], none⟩,
   ⟨none, .store 4 (.t 6) (.t 44), none⟩,
   ⟨some 7, .mv (.t 45), none⟩])
 (.seq (.region [
   ⟨some 46, .faddr 0 (.t 6), none⟩,
   ⟨some 47, .load 2 true (.t 46), none⟩,
   ⟨some 48, .mv (.t 7), none⟩,
   ⟨none, .store 2 (.t 2) (.t 47), none⟩,
   ⟨some 3, .mv (.t 48), none⟩])
 (.ret))))⟩
theorem eq_layout_of (Φ : Calls') (a0 : AV) (H : AH) (Q : Post) : fnE1 Φ ir_layout_of [a0] H Q = layout_of Φ a0 H Q := by kernel_rfl

/-! rabbet/layout.loose -/
def layout_loose_k1 (Φ : Calls') (x1 : AV) (Q : Post) : List AV → AH → Prop := fun j11 H12 =>
 Gd3 (sl j11 0) false (
 Do (afaddr 3 x1) fun x17 =>
 Do (aload H12 1 false x17) fun x18 =>
Φ K.slices_ContainsFunc___api_Field_api_Field_ [x18, (.fn K.layout_loose_c1 [])] H12 fun x19 H20 =>
 Q x19 H20) (
 Q (.bool true) H12) (
 False)
def layout_loose_k2 (Φ : Calls') (x1 : AV) (Q : Post) : List AV → AH → Prop := fun j3 H4 =>
 Gd3 (sl j3 0) false (
 Do (afaddr 5 x1) fun x13 =>
 Do (aload H4 1 false x13) fun x14 =>
Φ K.slices_ContainsFunc___api_Type_api_Type_ [x14, (.fn K.layout_loose [])] H4 fun x15 H16 =>
 JoinP (layout_loose_k1 Φ x1 Q) [x15] H16) (
 JoinP (layout_loose_k1 Φ x1 Q) [(.bool true)] H4) (
 False)
def layout_loose (Φ : Calls') (a0 : AV) (H : AH) (Q : Post) : Prop :=
 DoH (aboxv H false 6 a0) fun x1 H2 =>
 Do (afaddr 0 x1) fun x5 =>
 Do (aload H2 1 false x5) fun x6 =>
 Do (abin .eql x6 (.int .i64 2)) fun x7 =>
 Gd3 x7 true (
 Do (afaddr 1 x1) fun x8 =>
 Do (aload H2 1 false x8) fun x9 =>
 Do (abin .gtr x9 (.int .i64 1)) fun x10 =>
 JoinP (layout_loose_k2 Φ x1 Q) [x10] H2) (
 JoinP (layout_loose_k2 Φ x1 Q) [(.bool false)] H2) (
 False)
def ir_layout_loose : AFunc := ⟨21, [.tmp 2],
 .seq (.region [
   ⟨some 1, .box false 6 (.t 0), none⟩,
   ⟨some 2, .mv (.k (.bool false)), none⟩])
 (.seq (.rjoin [10] [3, 4, 5, 6, 7, 8, 9] [
   ⟨some 3, .faddr 0 (.t 1), none⟩,
   ⟨some 4, .load 1 false (.t 3), none⟩,
   ⟨some 5, .bin .eql (.t 4) (.k (.int .i64 2)), none⟩,
   ⟨some 6, .mv (.t 5), none⟩,
   ⟨some 7, .faddr 1 (.t 1), some (6, true)⟩,
   ⟨some 8, .load 1 false (.t 7), some (6, true)⟩,
   ⟨some 9, .bin .gtr (.t 8) (.k (.int .i64 1)), some (6, true)⟩,
   ⟨some 10, .pick (.t 6) (.t 9) (.k (.bool false)), none⟩]
 (.rjoin [15] [11, 12, 13, 14] [
   ⟨some 11, .mv (.t 10), none⟩,
   ⟨some 12, .faddr 5 (.t 1), some (11, false)⟩,
   ⟨some 13, .load 1 false (.t 12), some (11, false)⟩,
   ⟨some 14, .call K.slices_ContainsFunc___api_Type_api_Type_ [(.t 13), (.k (.fn K.layout_loose []))], some (11, false)⟩,
   ⟨some 15, .pick (.t 11) (.k (.bool true)) (.t 14), none⟩]
 (.region [
   ⟨some 16, .mv (.t 15), none⟩,
   ⟨some 17, .faddr 3 (.t 1), some (16, false)⟩,
   ⟨some 18, .load 1 false (.t 17), some (16, false)⟩,
   ⟨some 19, .call K.slices_ContainsFunc___api_Field_api_Field_ [(.t 18), (.k (.fn K.layout_loose_c1 []))], some (16, false)⟩,
   ⟨some 20, .pick (.t 16) (.k (.bool true)) (.t 19), none⟩,
   ⟨some 2, .mv (.t 20), none⟩])))
 (.ret))⟩
theorem eq_layout_loose (Φ : Calls') (a0 : AV) (H : AH) (Q : Post) : fnE1 Φ ir_layout_loose [a0] H Q = layout_loose Φ a0 H Q := by kernel_rfl

/-! rabbet/layout.torn$1 -/
def layout_torn_c1 (Φ : Calls') (a0 : AV) (H : AH) (Q : Post) : Prop :=
 DoH (aboxv H false 9 a0) fun x1 H2 =>
 Do (afaddr 1 x1) fun x3 =>
 Do (aload H2 6 true x3) fun x4 =>
Φ K.layout_torn [x4] H2 fun x5 H6 =>
 Q x5 H6
def ir_layout_torn_c1 : AFunc := ⟨6, [.tmp 2],
 .seq (.region [
   ⟨some 1, .box false 9 (.t 0), none⟩,
   ⟨some 2, .mv (.k (.bool false)), none⟩])
 (.seq (.region [
   ⟨some 3, .faddr 1 (.t 1), none⟩,
   ⟨some 4, .load 6 true (.t 3), none⟩,
   ⟨some 5, .call K.layout_torn [(.t 4)], none⟩,
   ⟨some 2, .mv (.t 5), none⟩])
 (.ret))⟩
theorem eq_layout_torn_c1 (Φ : Calls') (a0 : AV) (H : AH) (Q : Post) : fnE1 Φ ir_layout_torn_c1 [a0] H Q = layout_torn_c1 Φ a0 H Q := by kernel_rfl

/-! rabbet/layout.place -/
def layout_place_k1 (Φ : Calls') (s15 : List AV × AH) (L16 : (List AV × AH) → Prop) (Q : Post) : List AV → AH → Prop := fun j18 H19 =>
 Do (abin .add (sl s15.1 0) (.int .i64 1)) fun x77 =>
 L16 ([x77], H19)
def layout_place_k2 (Φ : Calls') (x7 : AV) (s15 : List AV × AH) (L16 : (List AV × AH) → Prop) (Q : Post) : List AV → AH → Prop := fun j58 H59 =>
 Do (afaddr 0 x7) fun x65 =>
 Do (afaddr 0 x65) fun x66 =>
 Do (aload H59 1 false x66) fun x67 =>
 Do (afaddr 3 x7) fun x68 =>
 Do (aload H59 1 false x68) fun x69 =>
Φ K.layout_up [x69, (.int .i64 8)] H59 fun x70 H71 =>
(aload H71 1 false x66 = some x67) ∧
(Do (abin .quo x70 (.int .i64 8)) fun x72 =>
 Do (aminmax true [x67, x72]) fun x73 =>
 Do (afaddr 0 x7) fun x74 =>
 Do (afaddr 0 x74) fun x75 =>
 Do (astore H71 1 x75 x73) fun H76 =>
 JoinP (layout_place_k1 Φ s15 L16 Q) [] H76)
def layout_place_k3 (Φ : Calls') (x7 : AV) (x22 : AV) (x31 : AV) (x42 : AV) (s15 : List AV × AH) (L16 : (List AV × AH) → Prop) (Q : Post) : List AV → AH → Prop := fun j51 H52 =>
 Do (afaddr 7 x22) fun x60 =>
 Do (aload H52 1 false x60) fun x61 =>
 Gd x61 true (
 Do (aload H52 9 true x22) fun x62 =>
Φ K.layout_placed_bits [x7, x62] H52 fun x63 H64 =>
 JoinP (layout_place_k2 Φ x7 s15 L16 Q) [] H64) (
 Do (afaddr 3 x7) fun x78 =>
 Do (aload H52 1 false x78) fun x79 =>
Φ K.layout_up [x79, (.int .i64 8)] H52 fun x80 H81 =>
 Do (abin .quo x80 (.int .i64 8)) fun x82 =>
Φ K.layout_up [x82, x42] H81 fun x83 H84 =>
 Do (afaddr 2 x7) fun x85 =>
 Do (aload H84 1 false x85) fun x86 =>
 Do (afaddr 0 x31) fun x87 =>
 Do (aload H84 1 false x87) fun x88 =>
 Do (abuild [.int .i64 0, .int .i64 0] [(0, 1, x83), (1, 1, x88)]) fun x89 =>
 Do (afaddr 1 x22) fun x90 =>
 Do (afaddr 0 x90) fun x91 =>
 Do (aload H84 1 false x91) fun x92 =>
 Do (abuild [.int .i64 0, .int .i64 0, .int .i64 0, .bool false, .int .i64 0, .int .i64 0] [(0, 2, x89), (2, 1, x92)]) fun x93 =>
 DoH (abslice H84 false 6 1 [.int .i64 0, .int .i64 0, .int .i64 0, .bool false, .int .i64 0, .int .i64 0] [(0, 6, x93)]) fun x94 H95 =>
 DoH (aappend H95 false 6 48 x86 x94) fun x96 H97 =>
 Do (afaddr 2 x7) fun x98 =>
 Do (astore H97 1 x98 x96) fun H99 =>
 Do (afaddr 0 x31) fun x100 =>
 Do (aload H99 1 false x100) fun x101 =>
 Do (abin .add x83 x101) fun x102 =>
 Do (abin .mul (.int .i64 8) x102) fun x103 =>
 Do (afaddr 3 x7) fun x104 =>
 Do (astore H99 1 x104 x103) fun H105 =>
 JoinP (layout_place_k2 Φ x7 s15 L16 Q) [] H105)
def layout_place_k4 (Φ : Calls') (x3 : AV) (x7 : AV) (Q : Post) : List AV → AH → Prop := fun j10 H11 =>
 Do (afaddr 0 x7) fun x106 =>
 Do (afaddr 0 x106) fun x107 =>
 Do (aload H11 1 false x107) fun x108 =>
 Do (afaddr 0 x7) fun x109 =>
 Do (afaddr 1 x109) fun x110 =>
 Do (aload H11 1 false x110) fun x111 =>
Φ K.layout_up [x108, x111] H11 fun x112 H113 =>
 Do (afaddr 0 x7) fun x114 =>
 Do (afaddr 0 x114) fun x115 =>
 Do (astore H113 1 x115 x112) fun H116 =>
 Do (aload H116 4 true x7) fun x117 =>
 Do (afaddr 0 x7) fun x118 =>
 Do (afaddr 0 x118) fun x119 =>
 Do (aload H116 1 false x119) fun x120 =>
 Do (abin .leq x120 (.int .i64 65536)) fun x121 =>
 Do (astore H116 4 x3 x117) fun H122 =>
(aload H122 1 false x119 = some x120) ∧
(Do (aload H122 4 true x3) fun x123 =>
 Q (.tup [x123, x121]) H122)
def layout_place_l5 (Φ : Calls') (x1 : AV) (x3 : AV) (x7 : AV) (x13 : AV) (x14 : AV) (Q : Post) : (List AV × AH) → ((List AV × AH) → Prop) → Prop := fun s15 L16 =>
 Do (abin .lss (sl s15.1 0) x14) fun x17 =>
 Gd x17 true (
 Do (aiaddr none 9 x13 (sl s15.1 0)) fun x20 =>
 Do (aload s15.2 9 true x20) fun x21 =>
 DoH (some (abox s15.2 true [.str [], .int .i64 0, .int .i64 0, .bool false, .lst .nil 0 [], .int .i64 0, .lst .nil 0 [], .bool false, .int .i64 0])) fun x22 H23 =>
 Do (astore H23 9 x22 x21) fun H24 =>
 Do (afaddr 1 x22) fun x25 =>
 Do (aload H24 6 true x25) fun x26 =>
Φ K.layout_of [x26] H24 fun x27 H28 =>
 Do (aextract 0 x27) fun x29 =>
 Do (aextract 1 x27) fun x30 =>
 DoH (some (abox H28 true [.int .i64 0, .int .i64 0])) fun x31 H32 =>
 Do (astore H32 2 x31 x29) fun H33 =>
 Do (aun .not x30) fun x34 =>
 Gd x34 true (
 Do (abuild [.int .i64 0, .int .i64 0, .lst .nil 0 [], .int .i64 0] []) fun x35 =>
 Do (astore H33 4 x3 x35) fun H36 =>
 Do (aload H36 4 true x3) fun x37 =>
 Q (.tup [x37, (.bool false)]) H36) (
 Do (aload H33 6 true x1) fun x38 =>
 Do (aload H33 9 true x22) fun x39 =>
 Do (afaddr 1 x31) fun x40 =>
 Do (aload H33 1 false x40) fun x41 =>
Φ K.layout_wide [x38, x39, x41] H33 fun x42 H43 =>
 Do (afaddr 0 x7) fun x44 =>
 Do (afaddr 1 x44) fun x45 =>
 Do (aload H43 1 false x45) fun x46 =>
 Do (aminmax true [x46, x42]) fun x47 =>
 Do (afaddr 0 x7) fun x48 =>
 Do (afaddr 1 x48) fun x49 =>
 Do (astore H43 1 x49 x47) fun H50 =>
 Do (afaddr 0 x1) fun x53 =>
 Do (aload H50 1 false x53) fun x54 =>
 Do (abin .eql x54 (.int .i64 4)) fun x55 =>
 Gd x55 true (
 Do (afaddr 3 x7) fun x56 =>
 Do (astore H50 1 x56 (.int .i64 0)) fun H57 =>
 JoinP (layout_place_k3 Φ x7 x22 x31 x42 s15 L16 Q) [] H57) (
 JoinP (layout_place_k3 Φ x7 x22 x31 x42 s15 L16 Q) [] H50))) (
 JoinP (layout_place_k4 Φ x3 x7 Q) [] s15.2)
def layout_place (Φ : Calls') (a0 : AV) (H : AH) (Q : Post) : Prop :=
 DoH (aboxv H false 6 a0) fun x1 H2 =>
 DoH (some (abox H2 true [.int .i64 0, .int .i64 0, .lst .nil 0 [], .int .i64 0])) fun x3 H4 =>
 Do (abuild [.int .i64 0, .int .i64 0] [(0, 1, (.int .i64 0)), (1, 1, (.int .i64 1))]) fun x5 =>
 Do (abuild [.int .i64 0, .int .i64 0, .lst .nil 0 [], .int .i64 0] [(0, 2, x5)]) fun x6 =>
 DoH (some (abox H4 true [.int .i64 0, .int .i64 0, .lst .nil 0 [], .int .i64 0])) fun x7 H8 =>
 Do (astore H8 4 x7 x6) fun H9 =>
 Do (afaddr 3 x1) fun x12 =>
 Do (aload H9 1 false x12) fun x13 =>
 Do (alen false x13) fun x14 =>
 LoopP (layout_place_l5 Φ x1 x3 x7 x13 x14 Q) ([(.int .i64 0)], H9)
def ir_layout_place : AFunc := ⟨99, [.cell 2 4 true, .tmp 3],
 .seq (.region [
   ⟨some 1, .box false 6 (.t 0), none⟩,
   ⟨some 2, .alloc true [.int .i64 0, .int .i64 0, .lst .nil 0 [], .int .i64 0], none⟩,
   ⟨some 3, .mv (.k (.bool false)), none⟩])
 (.seq (.region [
   ⟨some 11, .build [.int .i64 0, .int .i64 0] [(0, 1, (.k (.int .i64 0))), (1, 1, (.k (.int .i64 1)))], none⟩,
   ⟨some 12, .build [.int .i64 0, .int .i64 0, .lst .nil 0 [], .int .i64 0] [(0, 2, (.t 11))], none⟩,
   ⟨some 4, .alloc true [.int .i64 0, .int .i64 0, .lst .nil 0 [], .int .i64 0], none⟩,
   ⟨none, .store 4 (.t 4) (.t 12), none⟩])
 (.join [] [3, 6, 7, 8, 9, 10, 13, 14, 15, 16, 17, 18, 19, 20, 21, 22, 23, 24, 25, 26, 27, 28, 29, 30, 31, 32, 33, 34, 35, 36, 37, 38, 39, 40, 41, 42, 43, 44, 45, 46, 47, 48, 49, 50, 51, 52, 53, 54, 55, 56, 57, 58, 59, 60, 61, 62, 63, 64, 65, 66, 67, 68, 69, 70, 71, 72, 73, 74, 75, 76, 77, 78, 79, 80, 81, 82, 83, 84] (.seq (.region [
   ⟨some 13, .faddr 3 (.t 1), none⟩,
   ⟨some 14, .load 1 false (.t 13), none⟩,
   ⟨some 15, .len false (.t 14), none⟩,
   ⟨some 16, .mv (.k (.int .i64 0)), none⟩])
 (.block 0 (.loop [16] [3, 6, 7, 8, 9, 10, 17, 18, 19, 20, 21, 22, 23, 24, 25, 26, 27, 28, 29, 30, 31, 32, 33, 34, 35, 36, 37, 38, 39, 40, 41, 42, 43, 44, 45, 46, 47, 48, 49, 50, 51, 52, 53, 54, 55, 56, 57, 58, 59, 60, 61, 62, 63, 64, 65, 66, 67, 68, 69, 70, 71, 72, 73, 74, 75, 76, 77, 78, 79, 80, 81, 82, 83, 84] (.seq (.region [
   ⟨some 17, .bin .lss (.t 16) (.t 15), none⟩])
 (.seq (.cond (.t 17) (.skip)
   (.exit 0))
 (.join [] [3, 6, 7, 8, 9, 10, 18, 19, 20, 21, 22, 23, 24, 25, 26, 27, 28, 29, 30, 31, 32, 33, 34, 35, 36, 37, 38, 39, 40, 41, 42, 43, 44, 45, 46, 47, 48, 49, 50, 51, 52, 53, 54, 55, 56, 57, 58, 59, 60, 61, 62, 63, 64, 65, 66, 67, 68, 69, 70, 71, 72, 73, 74, 75, 76, 77, 78, 79, 80, 81, 82, 83] (.block 1 (.seq (.region [
   ⟨some 18, .iaddr none 9 (.t 14) (.t 16), none⟩,
   ⟨some 19, .load 9 true (.t 18), none⟩,
   ⟨some 6, .alloc true [.str [], .int .i64 0, .int .i64 0, .bool false, .lst .nil 0 [], .int .i64 0, .lst .nil 0 [], .bool false, .int .i64 0], none⟩,
   ⟨none, .store 9 (.t 6) (.t 19), none⟩])
 (.seq (.region [
   ⟨some 21, .faddr 1 (.t 6), none⟩,
   ⟨some 22, .load 6 true (.t 21), none⟩,
   ⟨some 23, .call K.layout_of [(.t 22)], none⟩,
   ⟨some 20, .mv (.t 23), none⟩,
   ⟨some 24, .extract 0 (.t 20), none⟩,
   ⟨some 25, .extract 1 (.t 20), none⟩,
   ⟨some 7, .alloc true [.int .i64 0, .int .i64 0], none⟩,
   ⟨none, .store 2 (.t 7) (.t 24), none⟩,
   ⟨some 8, .mv (.t 25), none⟩])
 (.seq (.seq (.region [
   ⟨some 26, .mv (.t 8), none⟩,
   ⟨some 27, .un .not (.t 26), none⟩])
 (.cond (.t 27) (.seq (.region [
     ⟨some 28, .build [.int .i64 0, .int .i64 0, .lst .nil 0 [], .int .i64 0] [], none⟩,
     ⟨none, .store 4 (.t 2) (.t 28), none⟩,
     ⟨some 3, .mv (.k (.bool false)), none⟩])
   (.ret))
   (.skip)))
 (.seq (.region [
   ⟨some 29, .load 6 true (.t 1), none⟩,
   ⟨some 30, .load 9 true (.t 6), none⟩,
   ⟨some 31, .faddr 1 (.t 7), none⟩,
   ⟨some 32, .load 1 false (.t 31), none⟩,
   ⟨some 33, .call K.layout_wide [(.t 29), (.t 30), (.t 32)], none⟩,
   ⟨some 9, .mv (.t 33), none⟩])
 (.seq (.region [
   ⟨some 34, .faddr 0 (.t 4), none⟩,
   ⟨some 35, .faddr 1 (.t 34), none⟩,
   ⟨some 36, .load 1 false (.t 35), none⟩,
   ⟨some 37, .mv (.t 9), none⟩,
   ⟨some 38, .minmax true [(.t 36), (.t 37)], none⟩,
   ⟨some 39, .faddr 0 (.t 4), none⟩,
   ⟨some 40, .faddr 1 (.t 39), none⟩,
   ⟨none, .store 1 (.t 40) (.t 38), none⟩])
 (.join [] [41, 42, 43, 44] (.seq (.region [
   ⟨some 41, .faddr 0 (.t 1), none⟩,
   ⟨some 42, .load 1 false (.t 41), none⟩,
   ⟨some 43, .bin .eql (.t 42) (.k (.int .i64 4)), none⟩])
 (.cond (.t 43) (.region [
     ⟨some 44, .faddr 3 (.t 4), none⟩,
     ⟨none, .store 1 (.t 44) (.k (.int .i64 0)), none⟩])
   (.skip)))
 (.join [] [10, 45, 46, 47, 48, 49, 50, 51, 52, 53, 54, 55, 56, 57, 58, 59, 60, 61, 62, 63, 64, 65, 66, 67, 68, 69, 70, 71, 72, 73] (.seq (.region [
   ⟨some 45, .faddr 7 (.t 6), none⟩,
   ⟨some 46, .load 1 false (.t 45), none⟩])
 (.cond (.t 46) (.region [
     ⟨some 47, .load 9 true (.t 6), none⟩,
     ⟨some 48, .call K.layout_placed_bits [(.t 4), (.t 47)], none⟩])
   (.seq (.region [
     ⟨some 49, .faddr 3 (.t 4), none⟩,
     ⟨some 50, .load 1 false (.t 49), none⟩,
     ⟨some 51, .call K.layout_up [(.t 50), (.k (.int .i64 8))], none⟩,
     ⟨some 52, .bin .quo (.t 51) (.k (.int .i64 8)), none⟩,
     ⟨some 53, .mv (.t 9), none⟩,
     ⟨some 54, .call K.layout_up [(.t 52), (.t 53)], none⟩,
     ⟨some 10, .mv (.t 54), none⟩])
   (.seq (.region [
     ⟨some 55, .faddr 2 (.t 4), none⟩,
     ⟨some 56, .load 1 false (.t 55), none⟩,
     ⟨some 57, .mv (.t 10), none⟩,
     ⟨some 58, .faddr 0 (.t 7), none⟩,
     ⟨some 59, .load 1 false (.t 58), none⟩,
     ⟨some 60, .build [.int .i64 0, .int .i64 0] [(0, 1, (.t 57)), (1, 1, (.t 59))], none⟩,
     ⟨some 61, .faddr 1 (.t 6), none⟩,
     ⟨some 62, .faddr 0 (.t 61), none⟩,
     ⟨some 63, .load 1 false (.t 62), none⟩,
     ⟨some 64, .build [.int .i64 0, .int .i64 0, .int .i64 0, .bool false, .int .i64 0, .int .i64 0] [(0, 2, (.t 60)), (2, 1, (.t 63))], none⟩,
     ⟨some 65, .bslice false 6 1 [.int .i64 0, .int .i64 0, .int .i64 0, .bool false, .int .i64 0, .int .i64 0] [(0, 6, (.t 64))], none⟩,
     ⟨some 66, .append false 6 48 (.t 56) (.t 65), none⟩,
     ⟨some 67, .faddr 2 (.t 4), none⟩,
     ⟨none, .store 1 (.t 67) (.t 66), none⟩])
   (.region [
     ⟨some 68, .mv (.t 10), none⟩,
     ⟨some 69, .faddr 0 (.t 7), none⟩,
     ⟨some 70, .load 1 false (.t 69), none⟩,
     ⟨some 71, .bin .add (.t 68) (.t 70), none⟩,
     ⟨some 72, .bin .mul (.k (.int .i64 8)) (.t 71), none⟩,
     ⟨some 73, .faddr 3 (.t 4), none⟩,
     ⟨none, .store 1 (.t 73) (.t 72), none⟩])))))
 (.draw [
   ⟨some 74, .faddr 0 (.t 4), none⟩,
   ⟨some 75, .faddr 0 (.t 74), none⟩,
   ⟨some 76, .load 1 false (.t 75), none⟩,
   ⟨some 77, .faddr 3 (.t 4), none⟩,
   ⟨some 78, .load 1 false (.t 77), none⟩,
   ⟨some 79, .call K.layout_up [(.t 78), (.k (.int .i64 8))], none⟩,
   ⟨some 80, .bin .quo (.t 79) (.k (.int .i64 8)), none⟩,
   ⟨some 81, .minmax true [(.t 76), (.t 80)], none⟩,
   ⟨some 82, .faddr 0 (.t 4), none⟩,
   ⟨some 83, .faddr 0 (.t 82), none⟩,
   ⟨none, .store 1 (.t 83) (.t 81), none⟩]
 [[], [0], [0, 1], [], [3], [3, 4], [3, 4, 5], [0, 1, 2, 3, 4, 5, 6], [0, 1, 2, 3, 4, 5, 6, 7], [0, 1, 2, 3, 4, 5, 6, 7, 8], [0, 1, 2, 3, 4, 5, 6, 7, 8, 9]] [([0, 1, 2, 3, 4], 5, [2]), ([6, 7, 8, 9], 10, [])] [])))))))))
 (.region [
   ⟨some 84, .bin .add (.t 16) (.k (.int .i64 1)), none⟩,
   ⟨some 16, .mv (.t 84), none⟩])))))))
 (.seq (.region [
   ⟨some 85, .faddr 0 (.t 4), none⟩,
   ⟨some 86, .faddr 0 (.t 85), none⟩,
   ⟨some 87, .load 1 false (.t 86), none⟩,
   ⟨some 88, .faddr 0 (.t 4), none⟩,
   ⟨some 89, .faddr 1 (.t 88), none⟩,
   ⟨some 90, .load 1 false (.t 89), none⟩,
   ⟨some 91, .call K.layout_up [(.t 87), (.t 90)], none⟩,
   ⟨some 92, .faddr 0 (.t 4), none⟩,
   ⟨some 93, .faddr 0 (.t 92), none⟩,
   ⟨none, .store 1 (.t 93) (.t 91), none⟩])
 (.seq (.draw [
   ⟨some 94, .load 4 true (.t 4), none⟩,
   ⟨some 95, .faddr 0 (.t 4), none⟩,
   ⟨some 96, .faddr 0 (.t 95), none⟩,
   ⟨some 97, .load 1 false (.t 96), none⟩,
   ⟨some 98, .bin .leq (.t 97) (.k (.int .i64 65536)), none⟩,
   ⟨none, .store 4 (.t 2) (.t 94), none⟩,
   ⟨some 3, .mv (.t 98), none⟩]
 [[], [], [1], [1, 2], [1, 2, 3], [0], [0, 1, 2, 3, 4, 5]] [([0, 1, 2, 3, 4], 5, [3])] [6])
 (.ret)))))⟩
theorem eq_layout_place (Φ : Calls') (a0 : AV) (H : AH) (Q : Post) : fnE1 Φ ir_layout_place [a0] H Q = layout_place Φ a0 H Q := by kernel_rfl

/-! rabbet/layout.loose$1 -/
def layout_loose_c1 (Φ : Calls') (a0 : AV) (H : AH) (Q : Post) : Prop :=
 DoH (aboxv H false 9 a0) fun x1 H2 =>
 Do (afaddr 1 x1) fun x3 =>
 Do (aload H2 6 true x3) fun x4 =>
Φ K.layout_loose [x4] H2 fun x5 H6 =>
 Q x5 H6
def ir_layout_loose_c1 : AFunc := ⟨6, [.tmp 2],
 .seq (.region [
   ⟨some 1, .box false 9 (.t 0), none⟩,
   ⟨some 2, .mv (.k (.bool false)), none⟩])
 (.seq (.region [
   ⟨some 3, .faddr 1 (.t 1), none⟩,
   ⟨some 4, .load 6 true (.t 3), none⟩,
   ⟨some 5, .call K.layout_loose [(.t 4)], none⟩,
   ⟨some 2, .mv (.t 5), none⟩])
 (.ret))⟩
theorem eq_layout_loose_c1 (Φ : Calls') (a0 : AV) (H : AH) (Q : Post) : fnE1 Φ ir_layout_loose_c1 [a0] H Q = layout_loose_c1 Φ a0 H Q := by kernel_rfl

/-! rabbet/layout.wide -/
def layout_wide_k1 (Φ : Calls') (a2 : AV) (x3 : AV) (Q : Post) : List AV → AH → Prop := fun j5 H6 =>
 Gd (sl j5 0) true (
 Q (.int .i64 1) H6) (
 Do (afaddr 7 x3) fun x14 =>
 Do (aload H6 1 false x14) fun x15 =>
 Gd x15 true (
 Do (afaddr 1 x3) fun x16 =>
 Do (afaddr 1 x16) fun x17 =>
 Do (aload H6 1 false x17) fun x18 =>
 Q x18 H6) (
 Q a2 H6))
def layout_wide (Φ : Calls') (a0 : AV) (a1 : AV) (a2 : AV) (H : AH) (Q : Post) : Prop :=
 DoH (aboxv H false 6 a0) fun x1 H2 =>
 DoH (aboxv H2 false 9 a1) fun x3 H4 =>
 Do (afaddr 2 x1) fun x7 =>
 Do (aload H4 1 false x7) fun x8 =>
 Gd3 x8 false (
 Do (afaddr 7 x3) fun x9 =>
 Do (aload H4 1 false x9) fun x10 =>
 Gd3 x10 true (
 Do (afaddr 8 x3) fun x11 =>
 Do (aload H4 1 false x11) fun x12 =>
 Do (abin .eql x12 (.int .i64 0)) fun x13 =>
 JoinP (layout_wide_k1 Φ a2 x3 Q) [x13] H4) (
 JoinP (layout_wide_k1 Φ a2 x3 Q) [(.bool false)] H4) (
 False)) (
 JoinP (layout_wide_k1 Φ a2 x3 Q) [(.bool true)] H4) (
 False)
def ir_layout_wide : AFunc := ⟨26, [.tmp 6],
 .seq (.region [
   ⟨some 3, .box false 6 (.t 0), none⟩,
   ⟨some 4, .box false 9 (.t 1), none⟩,
   ⟨some 6, .mv (.k (.int .i64 0)), none⟩])
 (.seq (.block 0 (.join [7] [8, 9, 10, 11, 12, 13, 14, 15, 16, 17, 18] (.region [
   ⟨some 8, .faddr 2 (.t 3), none⟩,
   ⟨some 9, .load 1 false (.t 8), none⟩,
   ⟨some 10, .mv (.t 9), none⟩,
   ⟨some 11, .faddr 7 (.t 4), some (10, false)⟩,
   ⟨some 12, .load 1 false (.t 11), some (10, false)⟩,
   ⟨some 13, .mv (.t 12), some (10, false)⟩,
   ⟨some 14, .faddr 8 (.t 4), some (13, true)⟩,
   ⟨some 15, .load 1 false (.t 14), some (13, true)⟩,
   ⟨some 16, .bin .eql (.t 15) (.k (.int .i64 0)), some (13, true)⟩,
   ⟨some 17, .pick (.t 13) (.t 16) (.k (.bool false)), some (10, false)⟩,
   ⟨some 18, .pick (.t 10) (.k (.bool true)) (.t 17), none⟩,
   ⟨some 7, .mv (.t 18), none⟩])
 (.cond (.t 7) (.seq (.region [
     ⟨some 6, .mv (.k (.int .i64 1)), none⟩])
   (.ret))
   (.seq (.region [
     ⟨some 20, .faddr 7 (.t 4), none⟩,
     ⟨some 21, .load 1 false (.t 20), none⟩,
     ⟨some 19, .mv (.t 21), none⟩])
   (.cond (.t 19) (.seq (.region [
       ⟨some 22, .faddr 1 (.t 4), none⟩,
       ⟨some 23, .faddr 1 (.t 22), none⟩,
       ⟨some 24, .load 1 false (.t 23), none⟩,
       ⟨some 6, .mv (.t 24), none⟩])
     (.ret))
     (.skip))))))
 (.seq (.region [
   ⟨some 25, .mv (.t 2), none⟩,
   ⟨some 6, .mv (.t 25), none⟩])
 (.ret)))⟩
theorem eq_layout_wide (Φ : Calls') (a0 a1 a2 : AV) (H : AH) (Q : Post) : fnE1 Φ ir_layout_wide [a0, a1, a2] H Q = layout_wide Φ a0 a1 a2 H Q := by kernel_rfl

/-! (rabbet/layout.placed).bits -/
def layout_placed_bits_k1 (Φ : Calls') (a0 : AV) (x1 : AV) (Q : Post) : List AV → AH → Prop := fun j38 H39 =>
 Do (anilck a0) fun x61 =>
 Do (afaddr 3 x61) fun x62 =>
 Do (aload H39 1 false x62) fun x63 =>
 Do (abin .quo x63 (.int .i64 8)) fun x64 =>
 Do (anilck a0) fun x65 =>
 Do (afaddr 3 x65) fun x66 =>
 Do (aload H39 1 false x66) fun x67 =>
 Do (afaddr 8 x1) fun x68 =>
 Do (aload H39 1 false x68) fun x69 =>
 Do (abin .add x67 x69) fun x70 =>
 Do (abin .sub x70 (.int .i64 1)) fun x71 =>
 Do (abin .quo x71 (.int .i64 8)) fun x72 =>
 Do (anilck a0) fun x73 =>
 Do (afaddr 2 x73) fun x74 =>
 Do (aload H39 1 false x74) fun x75 =>
 Do (abin .sub x72 x64) fun x76 =>
 Do (abin .add x76 (.int .i64 1)) fun x77 =>
 Do (abuild [.int .i64 0, .int .i64 0] [(0, 1, x64), (1, 1, x77)]) fun x78 =>
 Do (anilck a0) fun x79 =>
 Do (afaddr 3 x79) fun x80 =>
 Do (aload H39 1 false x80) fun x81 =>
 Do (abin .rem x81 (.int .i64 8)) fun x82 =>
 Do (afaddr 8 x1) fun x83 =>
 Do (aload H39 1 false x83) fun x84 =>
 Do (abuild [.int .i64 0, .int .i64 0, .int .i64 0, .bool false, .int .i64 0, .int .i64 0] [(0, 2, x78), (2, 1, (.int .i64 1)), (3, 1, (.bool true)), (4, 1, x82), (5, 1, x84)]) fun x85 =>
 DoH (abslice H39 false 6 1 [.int .i64 0, .int .i64 0, .int .i64 0, .bool false, .int .i64 0, .int .i64 0] [(0, 6, x85)]) fun x86 H87 =>
 DoH (aappend H87 false 6 48 x75 x86) fun x88 H89 =>
 Do (anilck a0) fun x90 =>
 Do (afaddr 2 x90) fun x91 =>
 Do (astore H89 1 x91 x88) fun H92 =>
 Do (anilck a0) fun x93 =>
 Do (afaddr 3 x93) fun x94 =>
 Do (aload H92 1 false x94) fun x95 =>
 Do (afaddr 8 x1) fun x96 =>
 Do (aload H92 1 false x96) fun x97 =>
 Do (abin .add x95 x97) fun x98 =>
 Do (anilck a0) fun x99 =>
 Do (afaddr 3 x99) fun x100 =>
 Do (astore H92 1 x100 x98) fun H101 =>
 Q (.tup []) H101
def layout_placed_bits (Φ : Calls') (a0 : AV) (a1 : AV) (H : AH) (Q : Post) : Prop :=
 DoH (aboxv H false 9 a1) fun x1 H2 =>
 Do (afaddr 1 x1) fun x3 =>
 Do (afaddr 1 x3) fun x4 =>
 Do (aload H2 1 false x4) fun x5 =>
 Do (abin .mul (.int .i64 8) x5) fun x6 =>
 Do (afaddr 8 x1) fun x7 =>
 Do (aload H2 1 false x7) fun x8 =>
 Do (abin .eql x8 (.int .i64 0)) fun x9 =>
 Gd x9 true (
 Do (anilck a0) fun x10 =>
 Do (afaddr 3 x10) fun x11 =>
 Do (aload H2 1 false x11) fun x12 =>
Φ K.layout_up [x12, x6] H2 fun x13 H14 =>
 Do (anilck a0) fun x15 =>
 Do (afaddr 3 x15) fun x16 =>
 Do (astore H14 1 x16 x13) fun H17 =>
 Do (anilck a0) fun x18 =>
 Do (afaddr 2 x18) fun x19 =>
 Do (aload H17 1 false x19) fun x20 =>
 Do (anilck a0) fun x21 =>
 Do (afaddr 3 x21) fun x22 =>
 Do (aload H17 1 false x22) fun x23 =>
 Do (abin .quo x23 (.int .i64 8)) fun x24 =>
 Do (abuild [.int .i64 0, .int .i64 0] [(0, 1, x24)]) fun x25 =>
 Do (anilck a0) fun x26 =>
 Do (afaddr 3 x26) fun x27 =>
 Do (aload H17 1 false x27) fun x28 =>
 Do (abin .rem x28 (.int .i64 8)) fun x29 =>
 Do (abuild [.int .i64 0, .int .i64 0, .int .i64 0, .bool false, .int .i64 0, .int .i64 0] [(0, 2, x25), (2, 1, (.int .i64 1)), (3, 1, (.bool true)), (4, 1, x29)]) fun x30 =>
 DoH (abslice H17 false 6 1 [.int .i64 0, .int .i64 0, .int .i64 0, .bool false, .int .i64 0, .int .i64 0] [(0, 6, x30)]) fun x31 H32 =>
 DoH (aappend H32 false 6 48 x20 x31) fun x33 H34 =>
 Do (anilck a0) fun x35 =>
 Do (afaddr 2 x35) fun x36 =>
 Do (astore H34 1 x36 x33) fun H37 =>
 Q (.tup []) H37) (
 Do (anilck a0) fun x40 =>
 Do (afaddr 3 x40) fun x41 =>
 Do (aload H2 1 false x41) fun x42 =>
 Do (abin .quo x42 x6) fun x43 =>
 Do (anilck a0) fun x44 =>
 Do (afaddr 3 x44) fun x45 =>
 Do (aload H2 1 false x45) fun x46 =>
 Do (afaddr 8 x1) fun x47 =>
 Do (aload H2 1 false x47) fun x48 =>
 Do (abin .add x46 x48) fun x49 =>
 Do (abin .sub x49 (.int .i64 1)) fun x50 =>
 Do (abin .quo x50 x6) fun x51 =>
 Do (abin .neq x43 x51) fun x52 =>
 Gd x52 true (
 Do (anilck a0) fun x53 =>
 Do (afaddr 3 x53) fun x54 =>
 Do (aload H2 1 false x54) fun x55 =>
Φ K.layout_up [x55, x6] H2 fun x56 H57 =>
 Do (anilck a0) fun x58 =>
 Do (afaddr 3 x58) fun x59 =>
 Do (astore H57 1 x59 x56) fun H60 =>
 JoinP (layout_placed_bits_k1 Φ a0 x1 Q) [] H60) (
 JoinP (layout_placed_bits_k1 Φ a0 x1 Q) [] H2))
def ir_layout_placed_bits : AFunc := ⟨116, [],
 .seq (.region [
   ⟨some 3, .box false 9 (.t 1), none⟩])
 (.seq (.region [
   ⟨some 7, .faddr 1 (.t 3), none⟩,
   ⟨some 8, .faddr 1 (.t 7), none⟩,
   ⟨some 9, .load 1 false (.t 8), none⟩,
   ⟨some 10, .bin .mul (.k (.int .i64 8)) (.t 9), none⟩,
   ⟨some 4, .mv (.t 10), none⟩])
 (.seq (.seq (.region [
   ⟨some 11, .faddr 8 (.t 3), none⟩,
   ⟨some 12, .load 1 false (.t 11), none⟩,
   ⟨some 13, .bin .eql (.t 12) (.k (.int .i64 0)), none⟩])
 (.cond (.t 13) (.seq (.region [
     ⟨some 14, .mv (.t 0), none⟩,
     ⟨some 15, .mv (.t 0), none⟩,
     ⟨some 16, .nilck (.t 15), none⟩,
     ⟨some 17, .faddr 3 (.t 16), none⟩,
     ⟨some 18, .load 1 false (.t 17), none⟩,
     ⟨some 19, .mv (.t 4), none⟩,
     ⟨some 20, .call K.layout_up [(.t 18), (.t 19)], none⟩,
     ⟨some 21, .nilck (.t 14), none⟩,
     ⟨some 22, .faddr 3 (.t 21), none⟩,
     ⟨none, .store 1 (.t 22) (.t 20), none⟩])
   (.seq (.draw [
     ⟨some 23, .mv (.t 0), none⟩,
     ⟨some 24, .mv (.t 0), none⟩,
     ⟨some 25, .nilck (.t 24), none⟩,
     ⟨some 26, .faddr 2 (.t 25), none⟩,
     ⟨some 27, .load 1 false (.t 26), none⟩,
     ⟨some 28, .mv (.t 0), none⟩,
     ⟨some 29, .nilck (.t 28), none⟩,
     ⟨some 30, .faddr 3 (.t 29), none⟩,
     ⟨some 31, .load 1 false (.t 30), none⟩,
     ⟨some 32, .bin .quo (.t 31) (.k (.int .i64 8)), none⟩,
     ⟨some 33, .build [.int .i64 0, .int .i64 0] [(0, 1, (.t 32))], none⟩,
     ⟨some 34, .mv (.t 0), none⟩,
     ⟨some 35, .nilck (.t 34), none⟩,
     ⟨some 36, .faddr 3 (.t 35), none⟩,
     ⟨some 37, .load 1 false (.t 36), none⟩,
     ⟨some 38, .bin .rem (.t 37) (.k (.int .i64 8)), none⟩,
     ⟨some 39, .build [.int .i64 0, .int .i64 0, .int .i64 0, .bool false, .int .i64 0, .int .i64 0] [(0, 2, (.t 33)), (2, 1, (.k (.int .i64 1))), (3, 1, (.k (.bool true))), (4, 1, (.t 38))], none⟩,
     ⟨some 40, .bslice false 6 1 [.int .i64 0, .int .i64 0, .int .i64 0, .bool false, .int .i64 0, .int .i64 0] [(0, 6, (.t 39))], none⟩,
     ⟨some 41, .append false 6 48 (.t 27) (.t 40), none⟩,
     ⟨some 42, .nilck (.t 23), none⟩,
     ⟨some 43, .faddr 2 (.t 42), none⟩,
     ⟨none, .store 1 (.t 43) (.t 41), none⟩]
   [[], [], [1], [1, 2], [1, 2, 3], [], [5], [5, 6], [5, 6, 7], [5, 6, 7, 8], [5, 6, 7, 8, 9], [], [11], [11, 12], [11, 12, 13], [11, 12, 13, 14], [5, 6, 7, 8, 9, 10, 11, 12, 13, 14, 15], [5, 6, 7, 8, 9, 10, 11, 12, 13, 14, 15, 16], [1, 2, 3, 4, 5, 6, 7, 8, 9, 10, 11, 12, 13, 14, 15, 16, 17], [0, 1, 2, 3, 4, 5, 6, 7, 8, 9, 10, 11, 12, 13, 14, 15, 16, 17, 18], [0, 1, 2, 3, 4, 5, 6, 7, 8, 9, 10, 11, 12, 13, 14, 15, 16, 17, 18, 19], [0, 1, 2, 3, 4, 5, 6, 7, 8, 9, 10, 11, 12, 13, 14, 15, 16, 17, 18, 19, 20]] [([0, 1, 2, 3, 4, 5, 6, 7, 8, 9, 10, 11, 12, 13, 14, 15, 16, 17], 18, []), ([19, 20], 21, [])] [])
   (.ret)))
   (.skip)))
 (.join [] [44, 45, 46, 47, 48, 49, 50, 51, 52, 53, 54, 55, 56, 57, 58, 59, 60, 61, 62, 63, 64, 65, 66, 67, 68, 69] (.seq (.draw [
   ⟨some 44, .mv (.t 0), none⟩,
   ⟨some 45, .nilck (.t 44), none⟩,
   ⟨some 46, .faddr 3 (.t 45), none⟩,
   ⟨some 47, .load 1 false (.t 46), none⟩,
   ⟨some 48, .mv (.t 4), none⟩,
   ⟨some 49, .bin .quo (.t 47) (.t 48), none⟩,
   ⟨some 50, .mv (.t 0), none⟩,
   ⟨some 51, .nilck (.t 50), none⟩,
   ⟨some 52, .faddr 3 (.t 51), none⟩,
   ⟨some 53, .load 1 false (.t 52), none⟩,
   ⟨some 54, .faddr 8 (.t 3), none⟩,
   ⟨some 55, .load 1 false (.t 54), none⟩,
   ⟨some 56, .bin .add (.t 53) (.t 55), none⟩,
   ⟨some 57, .bin .sub (.t 56) (.k (.int .i64 1)), none⟩,
   ⟨some 58, .mv (.t 4), none⟩,
   ⟨some 59, .bin .quo (.t 57) (.t 58), none⟩,
   ⟨some 60, .bin .neq (.t 49) (.t 59), none⟩]
 [[], [0], [0, 1], [0, 1, 2], [], [0, 1, 2, 3, 4], [], [6], [6, 7], [6, 7, 8], [], [10], [6, 7, 8, 9, 10, 11], [6, 7, 8, 9, 10, 11, 12], [], [6, 7, 8, 9, 10, 11, 12, 13, 14], [0, 1, 2, 3, 4, 5, 6, 7, 8, 9, 10, 11, 12, 13, 14, 15]] [] [0, 1, 2, 3, 4, 5, 6, 7, 8, 9, 10, 11, 12, 13, 14, 15, 16])
 (.cond (.t 60) (.region [
     ⟨some 61, .mv (.t 0), none⟩,
     ⟨some 62, .mv (.t 0), none⟩,
     ⟨some 63, .nilck (.t 62), none⟩,
     ⟨some 64, .faddr 3 (.t 63), none⟩,
     ⟨some 65, .load 1 false (.t 64), none⟩,
     ⟨some 66, .mv (.t 4), none⟩,
     ⟨some 67, .call K.layout_up [(.t 65), (.t 66)], none⟩,
     ⟨some 68, .nilck (.t 61), none⟩,
     ⟨some 69, .faddr 3 (.t 68), none⟩,
     ⟨none, .store 1 (.t 69) (.t 67), none⟩])
   (.skip)))
 (.seq (.draw [
   ⟨some 70, .mv (.t 0), none⟩,
   ⟨some 71, .nilck (.t 70), none⟩,
   ⟨some 72, .faddr 3 (.t 71), none⟩,
   ⟨some 73, .load 1 false (.t 72), none⟩,
   ⟨some 74, .bin .quo (.t 73) (.k (.int .i64 8)), none⟩,
   ⟨some 75, .mv (.t 0), none⟩,
   ⟨some 76, .nilck (.t 75), none⟩,
   ⟨some 77, .faddr 3 (.t 76), none⟩,
   ⟨some 78, .load 1 false (.t 77), none⟩,
   ⟨some 79, .faddr 8 (.t 3), none⟩,
   ⟨some 80, .load 1 false (.t 79), none⟩,
   ⟨some 81, .bin .add (.t 78) (.t 80), none⟩,
   ⟨some 82, .bin .sub (.t 81) (.k (.int .i64 1)), none⟩,
   ⟨some 83, .bin .quo (.t 82) (.k (.int .i64 8)), none⟩,
   ⟨some 5, .mv (.t 74), none⟩,
   ⟨some 6, .mv (.t 83), none⟩]
 [[], [0], [0, 1], [0, 1, 2], [0, 1, 2, 3], [], [5], [5, 6], [5, 6, 7], [], [9], [5, 6, 7, 8, 9, 10], [5, 6, 7, 8, 9, 10, 11], [5, 6, 7, 8, 9, 10, 11, 12], [0, 1, 2, 3, 4], [0, 1, 2, 3, 4, 5, 6, 7, 8, 9, 10, 11, 12, 13, 14]] [] [0, 1, 2, 3, 4, 5, 6, 7, 8, 9, 10, 11, 12, 13, 14, 15])
 (.seq (.draw [
   ⟨some 84, .mv (.t 0), none⟩,
   ⟨some 85, .mv (.t 0), none⟩,
   ⟨some 86, .nilck (.t 85), none⟩,
   ⟨some 87, .faddr 2 (.t 86), none⟩,
   ⟨some 88, .load 1 false (.t 87), none⟩,
   ⟨some 89, .mv (.t 5), none⟩,
   ⟨some 90, .mv (.t 6), none⟩,
   ⟨some 91, .mv (.t 5), none⟩,
   ⟨some 92, .bin .sub (.t 90) (.t 91), none⟩,
   ⟨some 93, .bin .add (.t 92) (.k (.int .i64 1)), none⟩,
   ⟨some 94, .build [.int .i64 0, .int .i64 0] [(0, 1, (.t 89)), (1, 1, (.t 93))], none⟩,
   ⟨some 95, .mv (.t 0), none⟩,
   ⟨some 96, .nilck (.t 95), none⟩,
   ⟨some 97, .faddr 3 (.t 96), none⟩,
   ⟨some 98, .load 1 false (.t 97), none⟩,
   ⟨some 99, .bin .rem (.t 98) (.k (.int .i64 8)), none⟩,
   ⟨some 100, .faddr 8 (.t 3), none⟩,
   ⟨some 101, .load 1 false (.t 100), none⟩,
   ⟨some 102, .build [.int .i64 0, .int .i64 0, .int .i64 0, .bool false, .int .i64 0, .int .i64 0] [(0, 2, (.t 94)), (2, 1, (.k (.int .i64 1))), (3, 1, (.k (.bool true))), (4, 1, (.t 99)), (5, 1, (.t 101))], none⟩,
   ⟨some 103, .bslice false 6 1 [.int .i64 0, .int .i64 0, .int .i64 0, .bool false, .int .i64 0, .int .i64 0] [(0, 6, (.t 102))], none⟩,
   ⟨some 104, .append false 6 48 (.t 88) (.t 103), none⟩,
   ⟨some 105, .nilck (.t 84), none⟩,
   ⟨some 106, .faddr 2 (.t 105), none⟩,
   ⟨none, .store 1 (.t 106) (.t 104), none⟩]
 [[], [], [1], [1, 2], [1, 2, 3], [], [], [], [6, 7], [6, 7, 8], [5, 6, 7, 8, 9], [], [11], [11, 12], [11, 12, 13], [11, 12, 13, 14], [], [16], [5, 6, 7, 8, 9, 10, 11, 12, 13, 14, 15, 16, 17], [5, 6, 7, 8, 9, 10, 11, 12, 13, 14, 15, 16, 17, 18], [1, 2, 3, 4, 5, 6, 7, 8, 9, 10, 11, 12, 13, 14, 15, 16, 17, 18, 19], [0, 1, 2, 3, 4, 5, 6, 7, 8, 9, 10, 11, 12, 13, 14, 15, 16, 17, 18, 19, 20], [0, 1, 2, 3, 4, 5, 6, 7, 8, 9, 10, 11, 12, 13, 14, 15, 16, 17, 18, 19, 20, 21], [0, 1, 2, 3, 4, 5, 6, 7, 8, 9, 10, 11, 12, 13, 14, 15, 16, 17, 18, 19, 20, 21, 22]] [([0, 1, 2, 3, 4, 5, 6, 7, 8, 9, 10, 11, 12, 13, 14, 15, 16, 17, 18, 19], 20, []), ([21, 22], 23, [])] [])
 (.draw [
   ⟨some 107, .mv (.t 0), none⟩,
   ⟨some 108, .nilck (.t 107), none⟩,
   ⟨some 109, .faddr 3 (.t 108), none⟩,
   ⟨some 110, .load 1 false (.t 109), none⟩,
   ⟨some 111, .faddr 8 (.t 3), none⟩,
   ⟨some 112, .load 1 false (.t 111), none⟩,
   ⟨some 113, .bin .add (.t 110) (.t 112), none⟩,
   ⟨some 114, .nilck (.t 107), none⟩,
   ⟨some 115, .faddr 3 (.t 114), none⟩,
   ⟨none, .store 1 (.t 115) (.t 113), none⟩]
 [[], [0], [0, 1], [0, 1, 2], [], [4], [0, 1, 2, 3, 4, 5], [0, 1, 2, 3, 4, 5, 6], [0, 1, 2, 3, 4, 5, 6, 7], [0, 1, 2, 3, 4, 5, 6, 7, 8]] [([0, 1, 2, 3, 4, 5, 6, 7, 8], 9, [])] []))))))⟩
theorem eq_layout_placed_bits (Φ : Calls') (a0 a1 : AV) (H : AH) (Q : Post) : fnE1 Φ ir_layout_placed_bits [a0, a1] H Q = layout_placed_bits Φ a0 a1 H Q := by kernel_rfl

/-! rabbet/layout.up -/
def layout_up (Φ : Calls') (a0 : AV) (a1 : AV) (H : AH) (Q : Post) : Prop :=
 Do (abin .add a0 a1) fun x1 =>
 Do (abin .sub x1 (.int .i64 1)) fun x2 =>
 Do (abin .quo x2 a1) fun x3 =>
 Do (abin .mul x3 a1) fun x4 =>
 Q x4 H
def ir_layout_up : AFunc := ⟨13, [.tmp 4],
 .seq (.region [
   ⟨some 4, .mv (.k (.int .i64 0)), none⟩])
 (.seq (.region [
   ⟨some 5, .mv (.t 0), none⟩,
   ⟨some 6, .mv (.t 1), none⟩,
   ⟨some 7, .bin .add (.t 5) (.t 6), none⟩,
   ⟨some 8, .bin .sub (.t 7) (.k (.int .i64 1)), none⟩,
   ⟨some 9, .mv (.t 1), none⟩,
   ⟨some 10, .bin .quo (.t 8) (.t 9), none⟩,
   ⟨some 11, .mv (.t 1), none⟩,
   ⟨some 12, .bin .mul (.t 10) (.t 11), none⟩,
   ⟨some 4, .mv (.t 12), none⟩])
 (.ret))⟩
theorem eq_layout_up (Φ : Calls') (a0 a1 : AV) (H : AH) (Q : Post) : fnE1 Φ ir_layout_up [a0, a1] H Q = layout_up Φ a0 a1 H Q := by kernel_rfl

/-! rabbet/layout.Fields -/
def layout_Fields_k1 (Φ : Calls') (x1 : AV) (Q : Post) : List AV → AH → Prop := fun j12 H13 =>
 Do (aload H13 6 true x1) fun x22 =>
Φ K.layout_place [x22] H13 fun x23 H24 =>
 Do (aextract 0 x23) fun x25 =>
 Do (aextract 1 x23) fun x26 =>
 DoH (some (abox H24 true [.int .i64 0, .int .i64 0, .lst .nil 0 [], .int .i64 0])) fun x27 H28 =>
 Do (astore H28 4 x27 x25) fun H29 =>
 Do (afaddr 2 x27) fun x30 =>
 Do (aload H29 1 false x30) fun x31 =>
 Q (.tup [x31, (.int .i64 0)]) H29
def layout_Fields_k2 (Φ : Calls') (x1 : AV) (Q : Post) : List AV → AH → Prop := fun j14 H15 =>
 Gd (sl j14 0) true (
 Q (.tup [(.lst .nil 0 []), (.int .i64 8)]) H15) (
 JoinP (layout_Fields_k1 Φ x1 Q) [] H15)
def layout_Fields (Φ : Calls') (a0 : AV) (H : AH) (Q : Post) : Prop :=
 DoH (aboxv H false 6 a0) fun x1 H2 =>
 Do (aload H2 6 true x1) fun x3 =>
Φ K.layout_check [x3] H2 fun x4 H5 =>
 Do (aextract 0 x4) fun x6 =>
 Do (aextract 1 x4) fun x7 =>
 DoH (some (abox H5 true [.int .i64 0, .int .i64 0])) fun x8 H9 =>
 Do (astore H9 2 x8 x6) fun H10 =>
 Do (abin .neq x7 (.int .i64 0)) fun x11 =>
 Gd x11 true (
 Q (.tup [(.lst .nil 0 []), x7]) H10) (
 Do (afaddr 0 x1) fun x16 =>
 Do (aload H10 1 false x16) fun x17 =>
 Do (abin .neq x17 (.int .i64 3)) fun x18 =>
 Gd3 x18 true (
 Do (afaddr 0 x1) fun x19 =>
 Do (aload H10 1 false x19) fun x20 =>
 Do (abin .neq x20 (.int .i64 4)) fun x21 =>
 JoinP (layout_Fields_k2 Φ x1 Q) [x21] H10) (
 JoinP (layout_Fields_k2 Φ x1 Q) [(.bool false)] H10) (
 False))
def ir_layout_Fields : AFunc := ⟨31, [.tmp 2, .tmp 3],
 .seq (.region [
   ⟨some 1, .box false 6 (.t 0), none⟩,
   ⟨some 2, .mv (.k (.lst .nil 0 [])), none⟩,
   ⟨some 3, .mv (.k (.int .i64 0)), none⟩])
 (.seq (.seq (.region [
   ⟨some 9, .load 6 true (.t 1), none⟩,
   ⟨some 10, .call K.layout_check [(.t 9)], none⟩,
   ⟨some 8, .mv (.t 10), none⟩,
   ⟨some 11, .extract 0 (.t 8), none⟩,
   ⟨some 12, .extract 1 (.t 8), none⟩,
   ⟨some 4, .alloc true [.int .i64 0, .int .i64 0], none⟩,
   ⟨none, .store 2 (.t 4) (.t 11), none⟩,
   ⟨some 5, .mv (.t 12), none⟩])
 (.seq (.region [
   ⟨some 13, .mv (.t 5), none⟩,
   ⟨some 14, .bin .neq (.t 13) (.k (.int .i64 0)), none⟩])
 (.cond (.t 14) (.seq (.region [
     ⟨some 15, .mv (.t 5), none⟩,
     ⟨some 2, .mv (.k (.lst .nil 0 [])), none⟩,
     ⟨some 3, .mv (.t 15), none⟩])
   (.ret))
   (.skip))))
 (.join [] [2, 3, 16, 17, 18, 19, 20, 21, 22, 23] (.join [23] [16, 17, 18, 19, 20, 21, 22] (.region [
   ⟨some 16, .faddr 0 (.t 1), none⟩,
   ⟨some 17, .load 1 false (.t 16), none⟩,
   ⟨some 18, .bin .neq (.t 17) (.k (.int .i64 3)), none⟩,
   ⟨some 19, .mv (.t 18), none⟩,
   ⟨some 20, .faddr 0 (.t 1), some (19, true)⟩,
   ⟨some 21, .load 1 false (.t 20), some (19, true)⟩,
   ⟨some 22, .bin .neq (.t 21) (.k (.int .i64 4)), some (19, true)⟩,
   ⟨some 23, .pick (.t 19) (.t 22) (.k (.bool false)), none⟩])
 (.cond (.t 23) (.seq (.region [
     ⟨some 2, .mv (.k (.lst .nil 0 [])), none⟩,
     ⟨some 3, .mv (.k (.int .i64 8)), none⟩])
   (.ret))
   (.skip)))
 (.seq (.region [
   ⟨some 25, .load 6 true (.t 1), none⟩,
   ⟨some 26, .call K.layout_place [(.t 25)], none⟩,
   ⟨some 24, .mv (.t 26), none⟩,
   ⟨some 27, .extract 0 (.t 24), none⟩,
   ⟨some 28, .extract 1 (.t 24), none⟩,
   ⟨some 6, .alloc true [.int .i64 0, .int .i64 0, .lst .nil 0 [], .int .i64 0], none⟩,
   ⟨none, .store 4 (.t 6) (.t 27), none⟩,
   ⟨some 7, .mv (.t 28), none⟩])
 (.seq (.region [
   ⟨some 29, .faddr 2 (.t 6), none⟩,
   ⟨some 30, .load 1 false (.t 29), none⟩,
   ⟨some 2, .mv (.t 30), none⟩,
   ⟨some 3, .mv (.k (.int .i64 0)), none⟩])
 (.ret)))))⟩
theorem eq_layout_Fields (Φ : Calls') (a0 : AV) (H : AH) (Q : Post) : fnE1 Φ ir_layout_Fields [a0] H Q = layout_Fields Φ a0 H Q := by kernel_rfl

def tab_layout : Tab := [
  (K.layout_Of, ir_layout_Of),
  (K.layout_check, ir_layout_check),
  (K.layout_torn, ir_layout_torn),
  (K.layout_of, ir_layout_of),
  (K.layout_loose, ir_layout_loose),
  (K.layout_torn_c1, ir_layout_torn_c1),
  (K.layout_place, ir_layout_place),
  (K.layout_loose_c1, ir_layout_loose_c1),
  (K.layout_wide, ir_layout_wide),
  (K.layout_placed_bits, ir_layout_placed_bits),
  (K.layout_up, ir_layout_up),
  (K.layout_Fields, ir_layout_Fields)]

theorem cl_layout_Of {Φ : Calls'} (hT : Cl Φ tab_layout) {a0 : AV} {H : AH} {Q : Post} (h : layout_Of Φ a0 H Q) : Φ K.layout_Of [a0] H Q := hT.call (by kernel_rfl) (by kernel_rfl) (by rw [eq_layout_Of]; exact h)
theorem cl_layout_check {Φ : Calls'} (hT : Cl Φ tab_layout) {a0 : AV} {H : AH} {Q : Post} (h : layout_check Φ a0 H Q) : Φ K.layout_check [a0] H Q := hT.call (by kernel_rfl) (by kernel_rfl) (by rw [eq_layout_check]; exact h)
theorem cl_layout_torn {Φ : Calls'} (hT : Cl Φ tab_layout) {a0 : AV} {H : AH} {Q : Post} (h : layout_torn Φ a0 H Q) : Φ K.layout_torn [a0] H Q := hT.call (by kernel_rfl) (by kernel_rfl) (by rw [eq_layout_torn]; exact h)
theorem cl_layout_of {Φ : Calls'} (hT : Cl Φ tab_layout) {a0 : AV} {H : AH} {Q : Post} (h : layout_of Φ a0 H Q) : Φ K.layout_of [a0] H Q := hT.call (by kernel_rfl) (by kernel_rfl) (by rw [eq_layout_of]; exact h)
theorem cl_layout_loose {Φ : Calls'} (hT : Cl Φ tab_layout) {a0 : AV} {H : AH} {Q : Post} (h : layout_loose Φ a0 H Q) : Φ K.layout_loose [a0] H Q := hT.call (by kernel_rfl) (by kernel_rfl) (by rw [eq_layout_loose]; exact h)
theorem cl_layout_torn_c1 {Φ : Calls'} (hT : Cl Φ tab_layout) {a0 : AV} {H : AH} {Q : Post} (h : layout_torn_c1 Φ a0 H Q) : Φ K.layout_torn_c1 [a0] H Q := hT.call (by kernel_rfl) (by kernel_rfl) (by rw [eq_layout_torn_c1]; exact h)
theorem cl_layout_place {Φ : Calls'} (hT : Cl Φ tab_layout) {a0 : AV} {H : AH} {Q : Post} (h : layout_place Φ a0 H Q) : Φ K.layout_place [a0] H Q := hT.call (by kernel_rfl) (by kernel_rfl) (by rw [eq_layout_place]; exact h)
theorem cl_layout_loose_c1 {Φ : Calls'} (hT : Cl Φ tab_layout) {a0 : AV} {H : AH} {Q : Post} (h : layout_loose_c1 Φ a0 H Q) : Φ K.layout_loose_c1 [a0] H Q := hT.call (by kernel_rfl) (by kernel_rfl) (by rw [eq_layout_loose_c1]; exact h)
theorem cl_layout_wide {Φ : Calls'} (hT : Cl Φ tab_layout) {a0 a1 a2 : AV} {H : AH} {Q : Post} (h : layout_wide Φ a0 a1 a2 H Q) : Φ K.layout_wide [a0, a1, a2] H Q := hT.call (by kernel_rfl) (by kernel_rfl) (by rw [eq_layout_wide]; exact h)
theorem cl_layout_placed_bits {Φ : Calls'} (hT : Cl Φ tab_layout) {a0 a1 : AV} {H : AH} {Q : Post} (h : layout_placed_bits Φ a0 a1 H Q) : Φ K.layout_placed_bits [a0, a1] H Q := hT.call (by kernel_rfl) (by kernel_rfl) (by rw [eq_layout_placed_bits]; exact h)
theorem cl_layout_up {Φ : Calls'} (hT : Cl Φ tab_layout) {a0 a1 : AV} {H : AH} {Q : Post} (h : layout_up Φ a0 a1 H Q) : Φ K.layout_up [a0, a1] H Q := hT.call (by kernel_rfl) (by kernel_rfl) (by rw [eq_layout_up]; exact h)
theorem cl_layout_Fields {Φ : Calls'} (hT : Cl Φ tab_layout) {a0 : AV} {H : AH} {Q : Post} (h : layout_Fields Φ a0 H Q) : Φ K.layout_Fields [a0] H Q := hT.call (by kernel_rfl) (by kernel_rfl) (by rw [eq_layout_Fields]; exact h)
end Rb.S

/- Package layout: its functions as runs. By gen.py. -/
set_option linter.unusedVariables false
namespace Rb.R
open Go

def layout_Of (Φ : CallsB) (n : Nat) (a0 : AV) (H : TH) (Q : PostB) : Bool :=
 DoHB (tboxv H false 6 a0) fun x1 H2 =>
 DoB (aload H2.ah 6 true x1) fun x3 =>
Φ K.layout_check [x3] H2 fun x5 H6 =>
 DoB (aextract 0 x5) fun x7 =>
 DoB (aextract 1 x5) fun x8 =>
 DoHB (some (tbox H6 true [.int .i64 0, .int .i64 0])) fun x9 H10 =>
 DoB (tstore H10 2 x9 x7) fun H12 =>
 DoB (afaddr 0 x9) fun x13 =>
 DoB (aload H12.ah 1 false x13) fun x14 =>
 DoB (afaddr 1 x9) fun x16 =>
 DoB (aload H12.ah 1 false x16) fun x17 =>
 Q (.tup [x14, x17, x8]) H12
theorem eq_layout_Of (Φ : CallsB) (n : Nat) (a0 : AV) (H : TH) (Q : PostB) : fnB1 Φ n S.ir_layout_Of [a0] H Q = layout_Of Φ n a0 H Q := by kernel_rfl

def layout_check (Φ : CallsB) (n : Nat) (a0 : AV) (H : TH) (Q : PostB) : Bool :=
 DoHB (tboxv H false 6 a0) fun x1 H2 =>
 DoHB (some (tbox H2 true [.int .i64 0, .int .i64 0])) fun x3 H4 =>
 DoB (aload H4.ah 6 true x1) fun x5 =>
Φ K.kind_Sound [x5] H4 fun x7 H8 =>
 DoB (abin .neq x7 (.int .i64 0)) fun x9 =>
 GdB x9 true (
 DoB (abuild [.int .i64 0, .int .i64 0] []) fun x10 =>
 DoB (tstore H8 2 x3 x10) fun H12 =>
 DoB (aload H12.ah 2 true x3) fun x13 =>
 Q (.tup [x13, x7]) H12) (
 DoB (aload H8.ah 6 true x1) fun x14 =>
Φ K.layout_torn [x14] H8 fun x16 H17 =>
 GdB x16 true (
 DoB (abuild [.int .i64 0, .int .i64 0] []) fun x18 =>
 DoB (tstore H17 2 x3 x18) fun H20 =>
 DoB (aload H20.ah 2 true x3) fun x21 =>
 Q (.tup [x21, (.int .i64 10)]) H20) (
 DoB (aload H17.ah 6 true x1) fun x22 =>
Φ K.layout_of [x22] H17 fun x24 H25 =>
 DoB (aextract 0 x24) fun x26 =>
 DoB (aextract 1 x24) fun x27 =>
 DoHB (some (tbox H25 true [.int .i64 0, .int .i64 0])) fun x28 H29 =>
 DoB (tstore H29 2 x28 x26) fun H31 =>
 DoB (aun .not x27) fun x32 =>
 GdB x32 true (
 DoB (abuild [.int .i64 0, .int .i64 0] []) fun x33 =>
 DoB (tstore H31 2 x3 x33) fun H35 =>
 DoB (aload H35.ah 2 true x3) fun x36 =>
 Q (.tup [x36, (.int .i64 9)]) H35) (
 DoB (aload H31.ah 2 true x28) fun x37 =>
 DoB (tstore H31 2 x3 x37) fun H40 =>
 DoB (aload H40.ah 2 true x3) fun x41 =>
 Q (.tup [x41, (.int .i64 0)]) H40)))
theorem eq_layout_check (Φ : CallsB) (n : Nat) (a0 : AV) (H : TH) (Q : PostB) : fnB1 Φ n S.ir_layout_check [a0] H Q = layout_check Φ n a0 H Q := by kernel_rfl

def layout_torn_k1 (Φ : CallsB) (n : Nat) (x1 : AV) (Q : PostB) : List AV → TH → Bool := fun j12 H13 =>
 Gd3B (sl j12 0) false (
 DoB (afaddr 3 x1) fun x19 =>
 DoB (aload H13.ah 1 false x19) fun x20 =>
Φ K.slices_ContainsFunc___api_Field_api_Field_ [x20, (.fn K.layout_torn_c1 [])] H13 fun x22 H23 =>
 Q x22 H23) (
 Q (.bool true) H13) (
 false)
def layout_torn_k2 (Φ : CallsB) (n : Nat) (x1 : AV) (Q : PostB) : List AV → TH → Bool := fun j3 H4 =>
 Gd3B (sl j3 0) false (
 DoB (afaddr 5 x1) fun x14 =>
 DoB (aload H4.ah 1 false x14) fun x15 =>
Φ K.slices_ContainsFunc___api_Type_api_Type_ [x15, (.fn K.layout_torn [])] H4 fun x17 H18 =>
 JoinB (layout_torn_k1 Φ n x1 Q) [x17] H18) (
 JoinB (layout_torn_k1 Φ n x1 Q) [(.bool true)] H4) (
 false)
def layout_torn (Φ : CallsB) (n : Nat) (a0 : AV) (H : TH) (Q : PostB) : Bool :=
 DoHB (tboxv H false 6 a0) fun x1 H2 =>
 DoB (afaddr 2 x1) fun x5 =>
 DoB (aload H2.ah 1 false x5) fun x6 =>
 Gd3B x6 true (
 DoB (aload H2.ah 6 true x1) fun x8 =>
Φ K.layout_loose [x8] H2 fun x10 H11 =>
 JoinB (layout_torn_k2 Φ n x1 Q) [x10] H11) (
 JoinB (layout_torn_k2 Φ n x1 Q) [(.bool false)] H2) (
 false)
theorem eq_layout_torn (Φ : CallsB) (n : Nat) (a0 : AV) (H : TH) (Q : PostB) : fnB1 Φ n S.ir_layout_torn [a0] H Q = layout_torn Φ n a0 H Q := by kernel_rfl

def layout_of_k1 (Φ : CallsB) (n : Nat) (x1 : AV) (x3 : AV) (Q : PostB) : List AV → TH → Bool := fun j5 H6 =>
 DoB (aload H6.ah 6 true x1) fun x60 =>
Φ K.layout_place [x60] H6 fun x62 H63 =>
 DoB (aextract 0 x62) fun x64 =>
 DoB (aextract 1 x62) fun x65 =>
 DoHB (some (tbox H63 true [.int .i64 0, .int .i64 0, .lst .nil 0 [], .int .i64 0])) fun x66 H67 =>
 DoB (tstore H67 4 x66 x64) fun H69 =>
 DoB (afaddr 0 x66) fun x70 =>
 DoB (aload H69.ah 2 true x70) fun x71 =>
 DoB (tstore H69 2 x3 x71) fun H74 =>
 DoB (aload H74.ah 2 true x3) fun x75 =>
 Q (.tup [x75, x65]) H74
def layout_of_k2 (Φ : CallsB) (n : Nat) (x1 : AV) (x3 : AV) (x8 : AV) (Q : PostB) : List AV → TH → Bool := fun j10 H11 =>
 GdB (sl j10 0) true (
 DoB (afaddr 1 x1) fun x13 =>
 DoB (aload H11.ah 1 false x13) fun x14 =>
 DoB (afaddr 1 x1) fun x16 =>
 DoB (aload H11.ah 1 false x16) fun x17 =>
 DoB (abuild [.int .i64 0, .int .i64 0] [(0, 1, x14), (1, 1, x17)]) fun x19 =>
 DoB (tstore H11 2 x3 x19) fun H21 =>
 DoB (aload H21.ah 2 true x3) fun x22 =>
 Q (.tup [x22, (.bool true)]) H21) (
 DoB (abin .eql x8 (.int .i64 5)) fun x23 =>
 GdB x23 true (
 DoB (afaddr 5 x1) fun x24 =>
 DoB (aload H11.ah 1 false x24) fun x25 =>
 DoB (aiaddr none 6 x25 (.int .i64 0)) fun x27 =>
 DoB (aload H11.ah 6 true x27) fun x28 =>
Φ K.layout_of [x28] H11 fun x30 H31 =>
 DoB (aextract 0 x30) fun x32 =>
 DoB (aextract 1 x30) fun x33 =>
 DoHB (some (tbox H31 true [.int .i64 0, .int .i64 0])) fun x34 H35 =>
 DoB (tstore H35 2 x34 x32) fun H37 =>
 DoB (afaddr 0 x34) fun x38 =>
 DoB (aload H37.ah 1 false x38) fun x39 =>
 DoB (afaddr 4 x1) fun x41 =>
 DoB (aload H37.ah 1 false x41) fun x42 =>
 DoB (abin .mul x39 x42) fun x44 =>
 DoB (afaddr 0 x34) fun x45 =>
 DoB (tstore H37 1 x45 x44) fun H47 =>
 DoB (aload H47.ah 2 true x34) fun x48 =>
 Gd3B x33 true (
 DoB (afaddr 0 x34) fun x50 =>
 DoB (aload H47.ah 1 false x50) fun x51 =>
 DoB (abin .leq x51 (.int .i64 65536)) fun x53 =>
 DoB (tstore H47 2 x3 x48) fun H55 =>
 and (sameW (.bool true) true (sameV (aload H55.ah 1 false x50) x51)) (
 DoB (aload H55.ah 2 true x3) fun x56 =>
 Q (.tup [x56, x53]) H55)) (
 DoB (tstore H47 2 x3 x48) fun H58 =>
 and (sameW (.bool false) true (sameV (aload H58.ah 1 false (.tup [])) (.tup []))) (
 DoB (aload H58.ah 2 true x3) fun x59 =>
 Q (.tup [x59, (.bool false)]) H58)) (
 false)) (
 JoinB (layout_of_k1 Φ n x1 x3 Q) [] H11))
def layout_of (Φ : CallsB) (n : Nat) (a0 : AV) (H : TH) (Q : PostB) : Bool :=
 DoHB (tboxv H false 6 a0) fun x1 H2 =>
 DoHB (some (tbox H2 true [.int .i64 0, .int .i64 0])) fun x3 H4 =>
 DoB (afaddr 0 x1) fun x7 =>
 DoB (aload H4.ah 1 false x7) fun x8 =>
 DoB (abin .eql x8 (.int .i64 1)) fun x12 =>
 GdB x12 true (
 JoinB (layout_of_k2 Φ n x1 x3 x8 Q) [x12] H4) (
 DoB (abin .eql x8 (.int .i64 2)) fun x76 =>
 JoinB (layout_of_k2 Φ n x1 x3 x8 Q) [x76] H4)
theorem eq_layout_of (Φ : CallsB) (n : Nat) (a0 : AV) (H : TH) (Q : PostB) : fnB1 Φ n S.ir_layout_of [a0] H Q = layout_of Φ n a0 H Q := by kernel_rfl

def layout_loose_k1 (Φ : CallsB) (n : Nat) (x1 : AV) (Q : PostB) : List AV → TH → Bool := fun j13 H14 =>
 Gd3B (sl j13 0) false (
 DoB (afaddr 3 x1) fun x20 =>
 DoB (aload H14.ah 1 false x20) fun x21 =>
Φ K.slices_ContainsFunc___api_Field_api_Field_ [x21, (.fn K.layout_loose_c1 [])] H14 fun x23 H24 =>
 Q x23 H24) (
 Q (.bool true) H14) (
 false)
def layout_loose_k2 (Φ : CallsB) (n : Nat) (x1 : AV) (Q : PostB) : List AV → TH → Bool := fun j3 H4 =>
 Gd3B (sl j3 0) false (
 DoB (afaddr 5 x1) fun x15 =>
 DoB (aload H4.ah 1 false x15) fun x16 =>
Φ K.slices_ContainsFunc___api_Type_api_Type_ [x16, (.fn K.layout_loose [])] H4 fun x18 H19 =>
 JoinB (layout_loose_k1 Φ n x1 Q) [x18] H19) (
 JoinB (layout_loose_k1 Φ n x1 Q) [(.bool true)] H4) (
 false)
def layout_loose (Φ : CallsB) (n : Nat) (a0 : AV) (H : TH) (Q : PostB) : Bool :=
 DoHB (tboxv H false 6 a0) fun x1 H2 =>
 DoB (afaddr 0 x1) fun x5 =>
 DoB (aload H2.ah 1 false x5) fun x6 =>
 DoB (abin .eql x6 (.int .i64 2)) fun x8 =>
 Gd3B x8 true (
 DoB (afaddr 1 x1) fun x9 =>
 DoB (aload H2.ah 1 false x9) fun x10 =>
 DoB (abin .gtr x10 (.int .i64 1)) fun x12 =>
 JoinB (layout_loose_k2 Φ n x1 Q) [x12] H2) (
 JoinB (layout_loose_k2 Φ n x1 Q) [(.bool false)] H2) (
 false)
theorem eq_layout_loose (Φ : CallsB) (n : Nat) (a0 : AV) (H : TH) (Q : PostB) : fnB1 Φ n S.ir_layout_loose [a0] H Q = layout_loose Φ n a0 H Q := by kernel_rfl

def layout_torn_c1 (Φ : CallsB) (n : Nat) (a0 : AV) (H : TH) (Q : PostB) : Bool :=
 DoHB (tboxv H false 9 a0) fun x1 H2 =>
 DoB (afaddr 1 x1) fun x3 =>
 DoB (aload H2.ah 6 true x3) fun x4 =>
Φ K.layout_torn [x4] H2 fun x6 H7 =>
 Q x6 H7
theorem eq_layout_torn_c1 (Φ : CallsB) (n : Nat) (a0 : AV) (H : TH) (Q : PostB) : fnB1 Φ n S.ir_layout_torn_c1 [a0] H Q = layout_torn_c1 Φ n a0 H Q := by kernel_rfl

def layout_place_k1 (Φ : CallsB) (n : Nat) (s17 : List AV × TH) (L18 : (List AV × TH) → Bool) (Q : PostB) : List AV → TH → Bool := fun j20 H21 =>
 DoB (abin .add (sl s17.1 0) (.int .i64 1)) fun x96 =>
 L18 ([x96], H21)
def layout_place_k2 (Φ : CallsB) (n : Nat) (x7 : AV) (s17 : List AV × TH) (L18 : (List AV × TH) → Bool) (Q : PostB) : List AV → TH → Bool := fun j72 H73 =>
 DoB (afaddr 0 x7) fun x81 =>
 DoB (afaddr 0 x81) fun x82 =>
 DoB (aload H73.ah 1 false x82) fun x83 =>
 DoB (afaddr 3 x7) fun x85 =>
 DoB (aload H73.ah 1 false x85) fun x86 =>
Φ K.layout_up [x86, (.int .i64 8)] H73 fun x88 H89 =>
 and (sameV (aload H89.ah 1 false x82) x83) (
 DoB (abin .quo x88 (.int .i64 8)) fun x90 =>
 DoB (aminmax true [x83, x90]) fun x91 =>
 DoB (afaddr 0 x7) fun x92 =>
 DoB (afaddr 0 x92) fun x93 =>
 DoB (tstore H89 1 x93 x91) fun H95 =>
 JoinB (layout_place_k1 Φ n s17 L18 Q) [] H95)
def layout_place_k3 (Φ : CallsB) (n : Nat) (x7 : AV) (x25 : AV) (x36 : AV) (x52 : AV) (s17 : List AV × TH) (L18 : (List AV × TH) → Bool) (Q : PostB) : List AV → TH → Bool := fun j63 H64 =>
 DoB (afaddr 7 x25) fun x74 =>
 DoB (aload H64.ah 1 false x74) fun x75 =>
 GdB x75 true (
 DoB (aload H64.ah 9 true x25) fun x77 =>
Φ K.layout_placed_bits [x7, x77] H64 fun x79 H80 =>
 JoinB (layout_place_k2 Φ n x7 s17 L18 Q) [] H80) (
 DoB (afaddr 3 x7) fun x97 =>
 DoB (aload H64.ah 1 false x97) fun x98 =>
Φ K.layout_up [x98, (.int .i64 8)] H64 fun x100 H101 =>
 DoB (abin .quo x100 (.int .i64 8)) fun x102 =>
Φ K.layout_up [x102, x52] H101 fun x103 H104 =>
 DoB (afaddr 2 x7) fun x105 =>
 DoB (aload H104.ah 1 false x105) fun x106 =>
 DoB (afaddr 0 x36) fun x108 =>
 DoB (aload H104.ah 1 false x108) fun x109 =>
 DoB (abuild [.int .i64 0, .int .i64 0] [(0, 1, x103), (1, 1, x109)]) fun x111 =>
 DoB (afaddr 1 x25) fun x112 =>
 DoB (afaddr 0 x112) fun x113 =>
 DoB (aload H104.ah 1 false x113) fun x114 =>
 DoB (abuild [.int .i64 0, .int .i64 0, .int .i64 0, .bool false, .int .i64 0, .int .i64 0] [(0, 2, x111), (2, 1, x114)]) fun x116 =>
 DoHB (tbslice H104 false 6 1 [.int .i64 0, .int .i64 0, .int .i64 0, .bool false, .int .i64 0, .int .i64 0] [(0, 6, x116)]) fun x117 H118 =>
 DoHB (tappend H118 false 6 48 x106 x117) fun x119 H120 =>
 DoB (afaddr 2 x7) fun x121 =>
 DoB (tstore H120 1 x121 x119) fun H123 =>
 DoB (afaddr 0 x36) fun x124 =>
 DoB (aload H123.ah 1 false x124) fun x125 =>
 DoB (abin .add x103 x125) fun x127 =>
 DoB (abin .mul (.int .i64 8) x127) fun x128 =>
 DoB (afaddr 3 x7) fun x129 =>
 DoB (tstore H123 1 x129 x128) fun H131 =>
 JoinB (layout_place_k2 Φ n x7 s17 L18 Q) [] H131)
def layout_place_k4 (Φ : CallsB) (n : Nat) (x3 : AV) (x7 : AV) (Q : PostB) : List AV → TH → Bool := fun j11 H12 =>
 DoB (afaddr 0 x7) fun x132 =>
 DoB (afaddr 0 x132) fun x133 =>
 DoB (aload H12.ah 1 false x133) fun x134 =>
 DoB (afaddr 0 x7) fun x136 =>
 DoB (afaddr 1 x136) fun x137 =>
 DoB (aload H12.ah 1 false x137) fun x138 =>
Φ K.layout_up [x134, x138] H12 fun x140 H141 =>
 DoB (afaddr 0 x7) fun x142 =>
 DoB (afaddr 0 x142) fun x143 =>
 DoB (tstore H141 1 x143 x140) fun H145 =>
 DoB (aload H145.ah 4 true x7) fun x146 =>
 DoB (afaddr 0 x7) fun x148 =>
 DoB (afaddr 0 x148) fun x149 =>
 DoB (aload H145.ah 1 false x149) fun x150 =>
 DoB (abin .leq x150 (.int .i64 65536)) fun x152 =>
 DoB (tstore H145 4 x3 x146) fun H154 =>
 and (sameV (aload H154.ah 1 false x149) x150) (
 DoB (aload H154.ah 4 true x3) fun x155 =>
 Q (.tup [x155, x152]) H154)
def layout_place_l5 (Φ : CallsB) (n : Nat) (x1 : AV) (x3 : AV) (x7 : AV) (x14 : AV) (x16 : AV) (Q : PostB) : (List AV × TH) → ((List AV × TH) → Bool) → Bool := fun s17 L18 =>
 DoB (abin .lss (sl s17.1 0) x16) fun x19 =>
 GdB x19 true (
 DoB (aiaddr none 9 x14 (sl s17.1 0)) fun x22 =>
 DoB (aload s17.2.ah 9 true x22) fun x23 =>
 DoHB (some (tbox s17.2 true [.str [], .int .i64 0, .int .i64 0, .bool false, .lst .nil 0 [], .int .i64 0, .lst .nil 0 [], .bool false, .int .i64 0])) fun x25 H26 =>
 DoB (tstore H26 9 x25 x23) fun H28 =>
 DoB (afaddr 1 x25) fun x29 =>
 DoB (aload H28.ah 6 true x29) fun x30 =>
Φ K.layout_of [x30] H28 fun x32 H33 =>
 DoB (aextract 0 x32) fun x34 =>
 DoB (aextract 1 x32) fun x35 =>
 DoHB (some (tbox H33 true [.int .i64 0, .int .i64 0])) fun x36 H37 =>
 DoB (tstore H37 2 x36 x34) fun H39 =>
 DoB (aun .not x35) fun x40 =>
 GdB x40 true (
 DoB (abuild [.int .i64 0, .int .i64 0, .lst .nil 0 [], .int .i64 0] []) fun x41 =>
 DoB (tstore H39 4 x3 x41) fun H43 =>
 DoB (aload H43.ah 4 true x3) fun x44 =>
 Q (.tup [x44, (.bool false)]) H43) (
 DoB (aload H39.ah 6 true x1) fun x45 =>
 DoB (aload H39.ah 9 true x25) fun x47 =>
 DoB (afaddr 1 x36) fun x49 =>
 DoB (aload H39.ah 1 false x49) fun x50 =>
Φ K.layout_wide [x45, x47, x50] H39 fun x52 H53 =>
 DoB (afaddr 0 x7) fun x54 =>
 DoB (afaddr 1 x54) fun x55 =>
 DoB (aload H53.ah 1 false x55) fun x56 =>
 DoB (aminmax true [x56, x52]) fun x58 =>
 DoB (afaddr 0 x7) fun x59 =>
 DoB (afaddr 1 x59) fun x60 =>
 DoB (tstore H53 1 x60 x58) fun H62 =>
 DoB (afaddr 0 x1) fun x65 =>
 DoB (aload H62.ah 1 false x65) fun x66 =>
 DoB (abin .eql x66 (.int .i64 4)) fun x68 =>
 GdB x68 true (
 DoB (afaddr 3 x7) fun x69 =>
 DoB (tstore H62 1 x69 (.int .i64 0)) fun H71 =>
 JoinB (layout_place_k3 Φ n x7 x25 x36 x52 s17 L18 Q) [] H71) (
 JoinB (layout_place_k3 Φ n x7 x25 x36 x52 s17 L18 Q) [] H62))) (
 JoinB (layout_place_k4 Φ n x3 x7 Q) [] s17.2)
def layout_place (Φ : CallsB) (n : Nat) (a0 : AV) (H : TH) (Q : PostB) : Bool :=
 DoHB (tboxv H false 6 a0) fun x1 H2 =>
 DoHB (some (tbox H2 true [.int .i64 0, .int .i64 0, .lst .nil 0 [], .int .i64 0])) fun x3 H4 =>
 DoB (abuild [.int .i64 0, .int .i64 0] [(0, 1, (.int .i64 0)), (1, 1, (.int .i64 1))]) fun x5 =>
 DoB (abuild [.int .i64 0, .int .i64 0, .lst .nil 0 [], .int .i64 0] [(0, 2, x5)]) fun x6 =>
 DoHB (some (tbox H4 true [.int .i64 0, .int .i64 0, .lst .nil 0 [], .int .i64 0])) fun x7 H8 =>
 DoB (tstore H8 4 x7 x6) fun H10 =>
 DoB (afaddr 3 x1) fun x13 =>
 DoB (aload H10.ah 1 false x13) fun x14 =>
 DoB (alen false x14) fun x16 =>
 LoopB (layout_place_l5 Φ n x1 x3 x7 x14 x16 Q) n ([(.int .i64 0)], H10)
theorem eq_layout_place (Φ : CallsB) (n : Nat) (a0 : AV) (H : TH) (Q : PostB) : fnB1 Φ n S.ir_layout_place [a0] H Q = layout_place Φ n a0 H Q := by kernel_rfl

def layout_loose_c1 (Φ : CallsB) (n : Nat) (a0 : AV) (H : TH) (Q : PostB) : Bool :=
 DoHB (tboxv H false 9 a0) fun x1 H2 =>
 DoB (afaddr 1 x1) fun x3 =>
 DoB (aload H2.ah 6 true x3) fun x4 =>
Φ K.layout_loose [x4] H2 fun x6 H7 =>
 Q x6 H7
theorem eq_layout_loose_c1 (Φ : CallsB) (n : Nat) (a0 : AV) (H : TH) (Q : PostB) : fnB1 Φ n S.ir_layout_loose_c1 [a0] H Q = layout_loose_c1 Φ n a0 H Q := by kernel_rfl

def layout_wide_k1 (Φ : CallsB) (n : Nat) (a2 : AV) (x3 : AV) (Q : PostB) : List AV → TH → Bool := fun j5 H6 =>
 GdB (sl j5 0) true (
 Q (.int .i64 1) H6) (
 DoB (afaddr 7 x3) fun x17 =>
 DoB (aload H6.ah 1 false x17) fun x18 =>
 GdB x18 true (
 DoB (afaddr 1 x3) fun x20 =>
 DoB (afaddr 1 x20) fun x21 =>
 DoB (aload H6.ah 1 false x21) fun x22 =>
 Q x22 H6) (
 Q a2 H6))
def layout_wide (Φ : CallsB) (n : Nat) (a0 : AV) (a1 : AV) (a2 : AV) (H : TH) (Q : PostB) : Bool :=
 DoHB (tboxv H false 6 a0) fun x1 H2 =>
 DoHB (tboxv H2 false 9 a1) fun x3 H4 =>
 DoB (afaddr 2 x1) fun x7 =>
 DoB (aload H4.ah 1 false x7) fun x8 =>
 Gd3B x8 false (
 DoB (afaddr 7 x3) fun x10 =>
 DoB (aload H4.ah 1 false x10) fun x11 =>
 Gd3B x11 true (
 DoB (afaddr 8 x3) fun x13 =>
 DoB (aload H4.ah 1 false x13) fun x14 =>
 DoB (abin .eql x14 (.int .i64 0)) fun x16 =>
 JoinB (layout_wide_k1 Φ n a2 x3 Q) [x16] H4) (
 JoinB (layout_wide_k1 Φ n a2 x3 Q) [(.bool false)] H4) (
 false)) (
 JoinB (layout_wide_k1 Φ n a2 x3 Q) [(.bool true)] H4) (
 false)
theorem eq_layout_wide (Φ : CallsB) (n : Nat) (a0 a1 a2 : AV) (H : TH) (Q : PostB) : fnB1 Φ n S.ir_layout_wide [a0, a1, a2] H Q = layout_wide Φ n a0 a1 a2 H Q := by kernel_rfl

def layout_placed_bits_k1 (Φ : CallsB) (n : Nat) (a0 : AV) (x1 : AV) (Q : PostB) : List AV → TH → Bool := fun j46 H47 =>
 DoB (anilck a0) fun x74 =>
 DoB (afaddr 3 x74) fun x75 =>
 DoB (aload H47.ah 1 false x75) fun x76 =>
 DoB (abin .quo x76 (.int .i64 8)) fun x78 =>
 DoB (anilck a0) fun x79 =>
 DoB (afaddr 3 x79) fun x80 =>
 DoB (aload H47.ah 1 false x80) fun x81 =>
 DoB (afaddr 8 x1) fun x83 =>
 DoB (aload H47.ah 1 false x83) fun x84 =>
 DoB (abin .add x81 x84) fun x86 =>
 DoB (abin .sub x86 (.int .i64 1)) fun x87 =>
 DoB (abin .quo x87 (.int .i64 8)) fun x88 =>
 DoB (anilck a0) fun x89 =>
 DoB (afaddr 2 x89) fun x90 =>
 DoB (aload H47.ah 1 false x90) fun x91 =>
 DoB (abin .sub x88 x78) fun x93 =>
 DoB (abin .add x93 (.int .i64 1)) fun x94 =>
 DoB (abuild [.int .i64 0, .int .i64 0] [(0, 1, x78), (1, 1, x94)]) fun x95 =>
 DoB (anilck a0) fun x96 =>
 DoB (afaddr 3 x96) fun x97 =>
 DoB (aload H47.ah 1 false x97) fun x98 =>
 DoB (abin .rem x98 (.int .i64 8)) fun x100 =>
 DoB (afaddr 8 x1) fun x101 =>
 DoB (aload H47.ah 1 false x101) fun x102 =>
 DoB (abuild [.int .i64 0, .int .i64 0, .int .i64 0, .bool false, .int .i64 0, .int .i64 0] [(0, 2, x95), (2, 1, (.int .i64 1)), (3, 1, (.bool true)), (4, 1, x100), (5, 1, x102)]) fun x104 =>
 DoHB (tbslice H47 false 6 1 [.int .i64 0, .int .i64 0, .int .i64 0, .bool false, .int .i64 0, .int .i64 0] [(0, 6, x104)]) fun x105 H106 =>
 DoHB (tappend H106 false 6 48 x91 x105) fun x107 H108 =>
 DoB (anilck a0) fun x109 =>
 DoB (afaddr 2 x109) fun x110 =>
 DoB (tstore H108 1 x110 x107) fun H112 =>
 DoB (anilck a0) fun x113 =>
 DoB (afaddr 3 x113) fun x114 =>
 DoB (aload H112.ah 1 false x114) fun x115 =>
 DoB (afaddr 8 x1) fun x117 =>
 DoB (aload H112.ah 1 false x117) fun x118 =>
 DoB (abin .add x115 x118) fun x120 =>
 DoB (anilck a0) fun x121 =>
 DoB (afaddr 3 x121) fun x122 =>
 DoB (tstore H112 1 x122 x120) fun H124 =>
 Q (.tup []) H124
def layout_placed_bits (Φ : CallsB) (n : Nat) (a0 : AV) (a1 : AV) (H : TH) (Q : PostB) : Bool :=
 DoHB (tboxv H false 9 a1) fun x1 H2 =>
 DoB (afaddr 1 x1) fun x3 =>
 DoB (afaddr 1 x3) fun x4 =>
 DoB (aload H2.ah 1 false x4) fun x5 =>
 DoB (abin .mul (.int .i64 8) x5) fun x7 =>
 DoB (afaddr 8 x1) fun x8 =>
 DoB (aload H2.ah 1 false x8) fun x9 =>
 DoB (abin .eql x9 (.int .i64 0)) fun x11 =>
 GdB x11 true (
 DoB (anilck a0) fun x12 =>
 DoB (afaddr 3 x12) fun x13 =>
 DoB (aload H2.ah 1 false x13) fun x14 =>
Φ K.layout_up [x14, x7] H2 fun x16 H17 =>
 DoB (anilck a0) fun x18 =>
 DoB (afaddr 3 x18) fun x19 =>
 DoB (tstore H17 1 x19 x16) fun H21 =>
 DoB (anilck a0) fun x22 =>
 DoB (afaddr 2 x22) fun x23 =>
 DoB (aload H21.ah 1 false x23) fun x24 =>
 DoB (anilck a0) fun x26 =>
 DoB (afaddr 3 x26) fun x27 =>
 DoB (aload H21.ah 1 false x27) fun x28 =>
 DoB (abin .quo x28 (.int .i64 8)) fun x30 =>
 DoB (abuild [.int .i64 0, .int .i64 0] [(0, 1, x30)]) fun x31 =>
 DoB (anilck a0) fun x32 =>
 DoB (afaddr 3 x32) fun x33 =>
 DoB (aload H21.ah 1 false x33) fun x34 =>
 DoB (abin .rem x34 (.int .i64 8)) fun x36 =>
 DoB (abuild [.int .i64 0, .int .i64 0, .int .i64 0, .bool false, .int .i64 0, .int .i64 0] [(0, 2, x31), (2, 1, (.int .i64 1)), (3, 1, (.bool true)), (4, 1, x36)]) fun x37 =>
 DoHB (tbslice H21 false 6 1 [.int .i64 0, .int .i64 0, .int .i64 0, .bool false, .int .i64 0, .int .i64 0] [(0, 6, x37)]) fun x38 H39 =>
 DoHB (tappend H39 false 6 48 x24 x38) fun x40 H41 =>
 DoB (anilck a0) fun x42 =>
 DoB (afaddr 2 x42) fun x43 =>
 DoB (tstore H41 1 x43 x40) fun H45 =>
 Q (.tup []) H45) (
 DoB (anilck a0) fun x48 =>
 DoB (afaddr 3 x48) fun x49 =>
 DoB (aload H2.ah 1 false x49) fun x50 =>
 DoB (abin .quo x50 x7) fun x52 =>
 DoB (anilck a0) fun x53 =>
 DoB (afaddr 3 x53) fun x54 =>
 DoB (aload H2.ah 1 false x54) fun x55 =>
 DoB (afaddr 8 x1) fun x57 =>
 DoB (aload H2.ah 1 false x57) fun x58 =>
 DoB (abin .add x55 x58) fun x60 =>
 DoB (abin .sub x60 (.int .i64 1)) fun x61 =>
 DoB (abin .quo x61 x7) fun x62 =>
 DoB (abin .neq x52 x62) fun x63 =>
 GdB x63 true (
 DoB (anilck a0) fun x64 =>
 DoB (afaddr 3 x64) fun x65 =>
 DoB (aload H2.ah 1 false x65) fun x66 =>
Φ K.layout_up [x66, x7] H2 fun x68 H69 =>
 DoB (anilck a0) fun x70 =>
 DoB (afaddr 3 x70) fun x71 =>
 DoB (tstore H69 1 x71 x68) fun H73 =>
 JoinB (layout_placed_bits_k1 Φ n a0 x1 Q) [] H73) (
 JoinB (layout_placed_bits_k1 Φ n a0 x1 Q) [] H2))
theorem eq_layout_placed_bits (Φ : CallsB) (n : Nat) (a0 a1 : AV) (H : TH) (Q : PostB) : fnB1 Φ n S.ir_layout_placed_bits [a0, a1] H Q = layout_placed_bits Φ n a0 a1 H Q := by kernel_rfl

def layout_up (Φ : CallsB) (n : Nat) (a0 : AV) (a1 : AV) (H : TH) (Q : PostB) : Bool :=
 DoB (abin .add a0 a1) fun x1 =>
 DoB (abin .sub x1 (.int .i64 1)) fun x2 =>
 DoB (abin .quo x2 a1) fun x3 =>
 DoB (abin .mul x3 a1) fun x4 =>
 Q x4 H
theorem eq_layout_up (Φ : CallsB) (n : Nat) (a0 a1 : AV) (H : TH) (Q : PostB) : fnB1 Φ n S.ir_layout_up [a0, a1] H Q = layout_up Φ n a0 a1 H Q := by kernel_rfl

def layout_Fields_k1 (Φ : CallsB) (n : Nat) (x1 : AV) (Q : PostB) : List AV → TH → Bool := fun j14 H15 =>
 DoB (aload H15.ah 6 true x1) fun x26 =>
Φ K.layout_place [x26] H15 fun x28 H29 =>
 DoB (aextract 0 x28) fun x30 =>
 DoB (aextract 1 x28) fun x31 =>
 DoHB (some (tbox H29 true [.int .i64 0, .int .i64 0, .lst .nil 0 [], .int .i64 0])) fun x32 H33 =>
 DoB (tstore H33 4 x32 x30) fun H35 =>
 DoB (afaddr 2 x32) fun x36 =>
 DoB (aload H35.ah 1 false x36) fun x37 =>
 Q (.tup [x37, (.int .i64 0)]) H35
def layout_Fields_k2 (Φ : CallsB) (n : Nat) (x1 : AV) (Q : PostB) : List AV → TH → Bool := fun j16 H17 =>
 GdB (sl j16 0) true (
 Q (.tup [(.lst .nil 0 []), (.int .i64 8)]) H17) (
 JoinB (layout_Fields_k1 Φ n x1 Q) [] H17)
def layout_Fields (Φ : CallsB) (n : Nat) (a0 : AV) (H : TH) (Q : PostB) : Bool :=
 DoHB (tboxv H false 6 a0) fun x1 H2 =>
 DoB (aload H2.ah 6 true x1) fun x3 =>
Φ K.layout_check [x3] H2 fun x5 H6 =>
 DoB (aextract 0 x5) fun x7 =>
 DoB (aextract 1 x5) fun x8 =>
 DoHB (some (tbox H6 true [.int .i64 0, .int .i64 0])) fun x9 H10 =>
 DoB (tstore H10 2 x9 x7) fun H12 =>
 DoB (abin .neq x8 (.int .i64 0)) fun x13 =>
 GdB x13 true (
 Q (.tup [(.lst .nil 0 []), x8]) H12) (
 DoB (afaddr 0 x1) fun x18 =>
 DoB (aload H12.ah 1 false x18) fun x19 =>
 DoB (abin .neq x19 (.int .i64 3)) fun x21 =>
 Gd3B x21 true (
 DoB (afaddr 0 x1) fun x22 =>
 DoB (aload H12.ah 1 false x22) fun x23 =>
 DoB (abin .neq x23 (.int .i64 4)) fun x25 =>
 JoinB (layout_Fields_k2 Φ n x1 Q) [x25] H12) (
 JoinB (layout_Fields_k2 Φ n x1 Q) [(.bool false)] H12) (
 false))
theorem eq_layout_Fields (Φ : CallsB) (n : Nat) (a0 : AV) (H : TH) (Q : PostB) : fnB1 Φ n S.ir_layout_Fields [a0] H Q = layout_Fields Φ n a0 H Q := by kernel_rfl

end Rb.R

/- Package lex: its functions in the small language, and what they mean. By gen.py. -/
set_option linter.unusedVariables false
namespace Rb.S
open Go

/-! rabbet/lex.Keyword -/
def lex_Keyword (Φ : Calls') (a0 : AV) (H : AH) (Q : Post) : Prop :=
Φ K.strings_Fields [(.str [118, 97, 114, 32, 116, 104, 114, 101, 97, 100, 32, 115, 116, 114, 117, 99, 116, 32, 117, 110, 105, 111, 110, 32, 112, 97, 99, 107, 101, 100, 32, 117, 56, 32, 117, 49, 54, 32, 117, 51, 50, 32, 117, 54, 52, 32, 97, 56, 32, 97, 49, 54, 32, 97, 51, 50, 32, 97, 54, 52, 32, 97, 49, 50, 56, 32, 108, 101, 116, 32, 115, 101, 116, 32, 119, 114, 105, 116, 101, 32, 115, 116, 111, 114, 101, 32, 108, 111, 97, 100, 50, 32, 115, 116, 111, 114, 101, 50, 32, 102, 101, 110, 99, 101, 32, 105, 102, 32, 101, 108, 115, 101, 32, 119, 104, 105, 108, 101, 32, 112, 114, 105, 110, 116, 32, 114, 101, 97, 100, 32, 108, 111, 97, 100, 32, 97, 100, 100, 32, 115, 119, 97, 112, 32, 99, 97, 115, 32, 114, 108, 120, 32, 97, 99, 113, 32, 114, 101, 108, 32, 115, 99])] H fun x1 H2 =>
Φ K.slices_Contains___string_string_ [x1, a0] H2 fun x3 H4 =>
 Q x3 H4
def ir_lex_Keyword : AFunc := ⟨6, [.tmp 2],
 .seq (.region [
   ⟨some 2, .mv (.k (.bool false)), none⟩])
 (.seq (.region [
   ⟨some 3, .call K.strings_Fields [(.k (.str [118, 97, 114, 32, 116, 104, 114, 101, 97, 100, 32, 115, 116, 114, 117, 99, 116, 32, 117, 110, 105, 111, 110, 32, 112, 97, 99, 107, 101, 100, 32, 117, 56, 32, 117, 49, 54, 32, 117, 51, 50, 32, 117, 54, 52, 32, 97, 56, 32, 97, 49, 54, 32, 97, 51, 50, 32, 97, 54, 52, 32, 97, 49, 50, 56, 32, 108, 101, 116, 32, 115, 101, 116, 32, 119, 114, 105, 116, 101, 32, 115, 116, 111, 114, 101, 32, 108, 111, 97, 100, 50, 32, 115, 116, 111, 114, 101, 50, 32, 102, 101, 110, 99, 101, 32, 105, 102, 32, 101, 108, 115, 101, 32, 119, 104, 105, 108, 101, 32, 112, 114, 105, 110, 116, 32, 114, 101, 97, 100, 32, 108, 111, 97, 100, 32, 97, 100, 100, 32, 115, 119, 97, 112, 32, 99, 97, 115, 32, 114, 108, 120, 32, 97, 99, 113, 32, 114, 101, 108, 32, 115, 99]))], none⟩,
   ⟨some 4, .mv (.t 0), none⟩,
   ⟨some 5, .call K.slices_Contains___string_string_ [(.t 3), (.t 4)], none⟩,
   ⟨some 2, .mv (.t 5), none⟩])
 (.ret))⟩
theorem eq_lex_Keyword (Φ : Calls') (a0 : AV) (H : AH) (Q : Post) : fnE1 Φ ir_lex_Keyword [a0] H Q = lex_Keyword Φ a0 H Q := by kernel_rfl

def tab_lex : Tab := [
  (K.lex_Keyword, ir_lex_Keyword)]

theorem cl_lex_Keyword {Φ : Calls'} (hT : Cl Φ tab_lex) {a0 : AV} {H : AH} {Q : Post} (h : lex_Keyword Φ a0 H Q) : Φ K.lex_Keyword [a0] H Q := hT.call (by kernel_rfl) (by kernel_rfl) (by rw [eq_lex_Keyword]; exact h)
end Rb.S

/- Package lex: its functions as runs. By gen.py. -/
set_option linter.unusedVariables false
namespace Rb.R
open Go

def lex_Keyword (Φ : CallsB) (n : Nat) (a0 : AV) (H : TH) (Q : PostB) : Bool :=
Φ K.strings_Fields [(.str [118, 97, 114, 32, 116, 104, 114, 101, 97, 100, 32, 115, 116, 114, 117, 99, 116, 32, 117, 110, 105, 111, 110, 32, 112, 97, 99, 107, 101, 100, 32, 117, 56, 32, 117, 49, 54, 32, 117, 51, 50, 32, 117, 54, 52, 32, 97, 56, 32, 97, 49, 54, 32, 97, 51, 50, 32, 97, 54, 52, 32, 97, 49, 50, 56, 32, 108, 101, 116, 32, 115, 101, 116, 32, 119, 114, 105, 116, 101, 32, 115, 116, 111, 114, 101, 32, 108, 111, 97, 100, 50, 32, 115, 116, 111, 114, 101, 50, 32, 102, 101, 110, 99, 101, 32, 105, 102, 32, 101, 108, 115, 101, 32, 119, 104, 105, 108, 101, 32, 112, 114, 105, 110, 116, 32, 114, 101, 97, 100, 32, 108, 111, 97, 100, 32, 97, 100, 100, 32, 115, 119, 97, 112, 32, 99, 97, 115, 32, 114, 108, 120, 32, 97, 99, 113, 32, 114, 101, 108, 32, 115, 99])] H fun x1 H2 =>
Φ K.slices_Contains___string_string_ [x1, a0] H2 fun x3 H4 =>
 Q x3 H4
theorem eq_lex_Keyword (Φ : CallsB) (n : Nat) (a0 : AV) (H : TH) (Q : PostB) : fnB1 Φ n S.ir_lex_Keyword [a0] H Q = lex_Keyword Φ n a0 H Q := by kernel_rfl

end Rb.R

/- Package libslices: its functions in the small language, and what they mean. By gen.py. -/
set_option linter.unusedVariables false
namespace Rb.S
open Go

/-! slices.IndexFunc[[]rabbet/api.Var,rabbet/api.Var] -/
def slices_IndexFunc___api_Var_api_Var__l1 (Φ : Calls') (a0 : AV) (a1 : AV) (x1 : AV) (Q : Post) : (List AV × AH) → ((List AV × AH) → Prop) → Prop := fun s2 L3 =>
 Do (abin .lss (sl s2.1 0) x1) fun x4 =>
 Gd x4 true (
 Do (aiaddr none 7 a0 (sl s2.1 0)) fun x5 =>
 Do (aload s2.2 7 true x5) fun x6 =>
∃ k9 c10, a1 = .fn k9 c10 ∧ Φ k9 ([x6] ++ c10) s2.2 fun x7 H8 =>
 Gd x7 true (
 Q (sl s2.1 0) H8) (
 Do (abin .add (sl s2.1 0) (.int .i64 1)) fun x11 =>
 L3 ([x11], H8))) (
 Q (.int .i64 (-1)) s2.2)
def slices_IndexFunc___api_Var_api_Var_ (Φ : Calls') (a0 : AV) (a1 : AV) (H : AH) (Q : Post) : Prop :=
 Do (alen false a0) fun x1 =>
 LoopP (slices_IndexFunc___api_Var_api_Var__l1 Φ a0 a1 x1 Q) ([(.int .i64 0)], H)
def ir_slices_IndexFunc___api_Var_api_Var_ : AFunc := ⟨19, [.tmp 4],
 .seq (.region [
   ⟨some 4, .mv (.k (.int .i64 0)), none⟩])
 (.seq (.seq (.region [
   ⟨some 6, .mv (.t 0), none⟩,
   ⟨some 7, .len false (.t 6), none⟩,
   ⟨some 8, .mv (.k (.int .i64 0)), none⟩])
 (.block 0 (.loop [8] [4, 5, 9, 10, 11, 12, 13, 14, 15, 16, 17, 18] (.seq (.region [
   ⟨some 9, .bin .lss (.t 8) (.t 7), none⟩])
 (.seq (.cond (.t 9) (.skip)
   (.exit 0))
 (.seq (.block 1 (.seq (.region [
   ⟨some 10, .mv (.t 8), none⟩,
   ⟨some 5, .mv (.t 10), none⟩])
 (.seq (.region [
   ⟨some 11, .mv (.t 1), none⟩,
   ⟨some 12, .mv (.t 0), none⟩,
   ⟨some 13, .mv (.t 5), none⟩,
   ⟨some 14, .iaddr none 7 (.t 12) (.t 13), none⟩,
   ⟨some 15, .load 7 true (.t 14), none⟩,
   ⟨some 16, .callv (.t 11) [(.t 15)], none⟩])
 (.cond (.t 16) (.seq (.region [
     ⟨some 17, .mv (.t 5), none⟩,
     ⟨some 4, .mv (.t 17), none⟩])
   (.ret))
   (.skip)))))
 (.region [
   ⟨some 18, .bin .add (.t 8) (.k (.int .i64 1)), none⟩,
   ⟨some 8, .mv (.t 18), none⟩])))))))
 (.seq (.region [
   ⟨some 4, .mv (.k (.int .i64 (-1))), none⟩])
 (.ret)))⟩
theorem eq_slices_IndexFunc___api_Var_api_Var_ (Φ : Calls') (a0 a1 : AV) (H : AH) (Q : Post) : fnE1 Φ ir_slices_IndexFunc___api_Var_api_Var_ [a0, a1] H Q = slices_IndexFunc___api_Var_api_Var_ Φ a0 a1 H Q := by kernel_rfl

/-! slices.IndexFunc[[]rabbet/api.Field,rabbet/api.Field] -/
def slices_IndexFunc___api_Field_api_Field__l1 (Φ : Calls') (a0 : AV) (a1 : AV) (x1 : AV) (Q : Post) : (List AV × AH) → ((List AV × AH) → Prop) → Prop := fun s2 L3 =>
 Do (abin .lss (sl s2.1 0) x1) fun x4 =>
 Gd x4 true (
 Do (aiaddr none 9 a0 (sl s2.1 0)) fun x5 =>
 Do (aload s2.2 9 true x5) fun x6 =>
∃ k9 c10, a1 = .fn k9 c10 ∧ Φ k9 ([x6] ++ c10) s2.2 fun x7 H8 =>
 Gd x7 true (
 Q (sl s2.1 0) H8) (
 Do (abin .add (sl s2.1 0) (.int .i64 1)) fun x11 =>
 L3 ([x11], H8))) (
 Q (.int .i64 (-1)) s2.2)
def slices_IndexFunc___api_Field_api_Field_ (Φ : Calls') (a0 : AV) (a1 : AV) (H : AH) (Q : Post) : Prop :=
 Do (alen false a0) fun x1 =>
 LoopP (slices_IndexFunc___api_Field_api_Field__l1 Φ a0 a1 x1 Q) ([(.int .i64 0)], H)
def ir_slices_IndexFunc___api_Field_api_Field_ : AFunc := ⟨19, [.tmp 4],
 .seq (.region [
   ⟨some 4, .mv (.k (.int .i64 0)), none⟩])
 (.seq (.seq (.region [
   ⟨some 6, .mv (.t 0), none⟩,
   ⟨some 7, .len false (.t 6), none⟩,
   ⟨some 8, .mv (.k (.int .i64 0)), none⟩])
 (.block 0 (.loop [8] [4, 5, 9, 10, 11, 12, 13, 14, 15, 16, 17, 18] (.seq (.region [
   ⟨some 9, .bin .lss (.t 8) (.t 7), none⟩])
 (.seq (.cond (.t 9) (.skip)
   (.exit 0))
 (.seq (.block 1 (.seq (.region [
   ⟨some 10, .mv (.t 8), none⟩,
   ⟨some 5, .mv (.t 10), none⟩])
 (.seq (.region [
   ⟨some 11, .mv (.t 1), none⟩,
   ⟨some 12, .mv (.t 0), none⟩,
   ⟨some 13, .mv (.t 5), none⟩,
   ⟨some 14, .iaddr none 9 (.t 12) (.t 13), none⟩,
   ⟨some 15, .load 9 true (.t 14), none⟩,
   ⟨some 16, .callv (.t 11) [(.t 15)], none⟩])
 (.cond (.t 16) (.seq (.region [
     ⟨some 17, .mv (.t 5), none⟩,
     ⟨some 4, .mv (.t 17), none⟩])
   (.ret))
   (.skip)))))
 (.region [
   ⟨some 18, .bin .add (.t 8) (.k (.int .i64 1)), none⟩,
   ⟨some 8, .mv (.t 18), none⟩])))))))
 (.seq (.region [
   ⟨some 4, .mv (.k (.int .i64 (-1))), none⟩])
 (.ret)))⟩
theorem eq_slices_IndexFunc___api_Field_api_Field_ (Φ : Calls') (a0 a1 : AV) (H : AH) (Q : Post) : fnE1 Φ ir_slices_IndexFunc___api_Field_api_Field_ [a0, a1] H Q = slices_IndexFunc___api_Field_api_Field_ Φ a0 a1 H Q := by kernel_rfl

/-! slices.ContainsFunc[[]rabbet/api.Var,rabbet/api.Var] -/
def slices_ContainsFunc___api_Var_api_Var_ (Φ : Calls') (a0 : AV) (a1 : AV) (H : AH) (Q : Post) : Prop :=
Φ K.slices_IndexFunc___api_Var_api_Var_ [a0, a1] H fun x1 H2 =>
 Do (abin .geq x1 (.int .i64 0)) fun x3 =>
 Q x3 H2
def ir_slices_ContainsFunc___api_Var_api_Var_ : AFunc := ⟨9, [.tmp 4],
 .seq (.region [
   ⟨some 4, .mv (.k (.bool false)), none⟩])
 (.seq (.region [
   ⟨some 5, .mv (.t 0), none⟩,
   ⟨some 6, .mv (.t 1), none⟩,
   ⟨some 7, .call K.slices_IndexFunc___api_Var_api_Var_ [(.t 5), (.t 6)], none⟩,
   ⟨some 8, .bin .geq (.t 7) (.k (.int .i64 0)), none⟩,
   ⟨some 4, .mv (.t 8), none⟩])
 (.ret))⟩
theorem eq_slices_ContainsFunc___api_Var_api_Var_ (Φ : Calls') (a0 a1 : AV) (H : AH) (Q : Post) : fnE1 Φ ir_slices_ContainsFunc___api_Var_api_Var_ [a0, a1] H Q = slices_ContainsFunc___api_Var_api_Var_ Φ a0 a1 H Q := by kernel_rfl

/-! slices.Contains[[]string,string] -/
def slices_Contains___string_string_ (Φ : Calls') (a0 : AV) (a1 : AV) (H : AH) (Q : Post) : Prop :=
Φ K.slices_Index___string_string_ [a0, a1] H fun x1 H2 =>
 Do (abin .geq x1 (.int .i64 0)) fun x3 =>
 Q x3 H2
def ir_slices_Contains___string_string_ : AFunc := ⟨9, [.tmp 4],
 .seq (.region [
   ⟨some 4, .mv (.k (.bool false)), none⟩])
 (.seq (.region [
   ⟨some 5, .mv (.t 0), none⟩,
   ⟨some 6, .mv (.t 1), none⟩,
   ⟨some 7, .call K.slices_Index___string_string_ [(.t 5), (.t 6)], none⟩,
   ⟨some 8, .bin .geq (.t 7) (.k (.int .i64 0)), none⟩,
   ⟨some 4, .mv (.t 8), none⟩])
 (.ret))⟩
theorem eq_slices_Contains___string_string_ (Φ : Calls') (a0 a1 : AV) (H : AH) (Q : Post) : fnE1 Φ ir_slices_Contains___string_string_ [a0, a1] H Q = slices_Contains___string_string_ Φ a0 a1 H Q := by kernel_rfl

/-! slices.Index[[]string,string] -/
def slices_Index___string_string__l1 (Φ : Calls') (a0 : AV) (a1 : AV) (x1 : AV) (Q : Post) : (List AV × AH) → ((List AV × AH) → Prop) → Prop := fun s2 L3 =>
 Do (abin .lss (sl s2.1 0) x1) fun x4 =>
 Gd x4 true (
 Do (aiaddr none 1 a0 (sl s2.1 0)) fun x5 =>
 Do (aload s2.2 1 false x5) fun x6 =>
 Do (abin .eql a1 x6) fun x7 =>
 Gd x7 true (
 Q (sl s2.1 0) s2.2) (
 Do (abin .add (sl s2.1 0) (.int .i64 1)) fun x8 =>
 L3 ([x8], s2.2))) (
 Q (.int .i64 (-1)) s2.2)
def slices_Index___string_string_ (Φ : Calls') (a0 : AV) (a1 : AV) (H : AH) (Q : Post) : Prop :=
 Do (alen false a0) fun x1 =>
 LoopP (slices_Index___string_string__l1 Φ a0 a1 x1 Q) ([(.int .i64 0)], H)
def ir_slices_Index___string_string_ : AFunc := ⟨19, [.tmp 4],
 .seq (.region [
   ⟨some 4, .mv (.k (.int .i64 0)), none⟩])
 (.seq (.seq (.region [
   ⟨some 6, .mv (.t 0), none⟩,
   ⟨some 7, .len false (.t 6), none⟩,
   ⟨some 8, .mv (.k (.int .i64 0)), none⟩])
 (.block 0 (.loop [8] [4, 5, 9, 10, 11, 12, 13, 14, 15, 16, 17, 18] (.seq (.region [
   ⟨some 9, .bin .lss (.t 8) (.t 7), none⟩])
 (.seq (.cond (.t 9) (.skip)
   (.exit 0))
 (.seq (.block 1 (.seq (.region [
   ⟨some 10, .mv (.t 8), none⟩,
   ⟨some 5, .mv (.t 10), none⟩])
 (.seq (.region [
   ⟨some 11, .mv (.t 1), none⟩,
   ⟨some 12, .mv (.t 0), none⟩,
   ⟨some 13, .mv (.t 5), none⟩,
   ⟨some 14, .iaddr none 1 (.t 12) (.t 13), none⟩,
   ⟨some 15, .load 1 false (.t 14), none⟩,
   ⟨some 16, .bin .eql (.t 11) (.t 15), none⟩])
 (.cond (.t 16) (.seq (.region [
     ⟨some 17, .mv (.t 5), none⟩,
     ⟨some 4, .mv (.t 17), none⟩])
   (.ret))
   (.skip)))))
 (.region [
   ⟨some 18, .bin .add (.t 8) (.k (.int .i64 1)), none⟩,
   ⟨some 8, .mv (.t 18), none⟩])))))))
 (.seq (.region [
   ⟨some 4, .mv (.k (.int .i64 (-1))), none⟩])
 (.ret)))⟩
theorem eq_slices_Index___string_string_ (Φ : Calls') (a0 a1 : AV) (H : AH) (Q : Post) : fnE1 Φ ir_slices_Index___string_string_ [a0, a1] H Q = slices_Index___string_string_ Φ a0 a1 H Q := by kernel_rfl

/-! slices.ContainsFunc[[]rabbet/api.Field,rabbet/api.Field] -/
def slices_ContainsFunc___api_Field_api_Field_ (Φ : Calls') (a0 : AV) (a1 : AV) (H : AH) (Q : Post) : Prop :=
Φ K.slices_IndexFunc___api_Field_api_Field_ [a0, a1] H fun x1 H2 =>
 Do (abin .geq x1 (.int .i64 0)) fun x3 =>
 Q x3 H2
def ir_slices_ContainsFunc___api_Field_api_Field_ : AFunc := ⟨9, [.tmp 4],
 .seq (.region [
   ⟨some 4, .mv (.k (.bool false)), none⟩])
 (.seq (.region [
   ⟨some 5, .mv (.t 0), none⟩,
   ⟨some 6, .mv (.t 1), none⟩,
   ⟨some 7, .call K.slices_IndexFunc___api_Field_api_Field_ [(.t 5), (.t 6)], none⟩,
   ⟨some 8, .bin .geq (.t 7) (.k (.int .i64 0)), none⟩,
   ⟨some 4, .mv (.t 8), none⟩])
 (.ret))⟩
theorem eq_slices_ContainsFunc___api_Field_api_Field_ (Φ : Calls') (a0 a1 : AV) (H : AH) (Q : Post) : fnE1 Φ ir_slices_ContainsFunc___api_Field_api_Field_ [a0, a1] H Q = slices_ContainsFunc___api_Field_api_Field_ Φ a0 a1 H Q := by kernel_rfl

/-! slices.ContainsFunc[[]rabbet/api.Type,rabbet/api.Type] -/
def slices_ContainsFunc___api_Type_api_Type_ (Φ : Calls') (a0 : AV) (a1 : AV) (H : AH) (Q : Post) : Prop :=
Φ K.slices_IndexFunc___api_Type_api_Type_ [a0, a1] H fun x1 H2 =>
 Do (abin .geq x1 (.int .i64 0)) fun x3 =>
 Q x3 H2
def ir_slices_ContainsFunc___api_Type_api_Type_ : AFunc := ⟨9, [.tmp 4],
 .seq (.region [
   ⟨some 4, .mv (.k (.bool false)), none⟩])
 (.seq (.region [
   ⟨some 5, .mv (.t 0), none⟩,
   ⟨some 6, .mv (.t 1), none⟩,
   ⟨some 7, .call K.slices_IndexFunc___api_Type_api_Type_ [(.t 5), (.t 6)], none⟩,
   ⟨some 8, .bin .geq (.t 7) (.k (.int .i64 0)), none⟩,
   ⟨some 4, .mv (.t 8), none⟩])
 (.ret))⟩
theorem eq_slices_ContainsFunc___api_Type_api_Type_ (Φ : Calls') (a0 a1 : AV) (H : AH) (Q : Post) : fnE1 Φ ir_slices_ContainsFunc___api_Type_api_Type_ [a0, a1] H Q = slices_ContainsFunc___api_Type_api_Type_ Φ a0 a1 H Q := by kernel_rfl

/-! slices.IndexFunc[[]rabbet/api.Type,rabbet/api.Type] -/
def slices_IndexFunc___api_Type_api_Type__l1 (Φ : Calls') (a0 : AV) (a1 : AV) (x1 : AV) (Q : Post) : (List AV × AH) → ((List AV × AH) → Prop) → Prop := fun s2 L3 =>
 Do (abin .lss (sl s2.1 0) x1) fun x4 =>
 Gd x4 true (
 Do (aiaddr none 6 a0 (sl s2.1 0)) fun x5 =>
 Do (aload s2.2 6 true x5) fun x6 =>
∃ k9 c10, a1 = .fn k9 c10 ∧ Φ k9 ([x6] ++ c10) s2.2 fun x7 H8 =>
 Gd x7 true (
 Q (sl s2.1 0) H8) (
 Do (abin .add (sl s2.1 0) (.int .i64 1)) fun x11 =>
 L3 ([x11], H8))) (
 Q (.int .i64 (-1)) s2.2)
def slices_IndexFunc___api_Type_api_Type_ (Φ : Calls') (a0 : AV) (a1 : AV) (H : AH) (Q : Post) : Prop :=
 Do (alen false a0) fun x1 =>
 LoopP (slices_IndexFunc___api_Type_api_Type__l1 Φ a0 a1 x1 Q) ([(.int .i64 0)], H)
def ir_slices_IndexFunc___api_Type_api_Type_ : AFunc := ⟨19, [.tmp 4],
 .seq (.region [
   ⟨some 4, .mv (.k (.int .i64 0)), none⟩])
 (.seq (.seq (.region [
   ⟨some 6, .mv (.t 0), none⟩,
   ⟨some 7, .len false (.t 6), none⟩,
   ⟨some 8, .mv (.k (.int .i64 0)), none⟩])
 (.block 0 (.loop [8] [4, 5, 9, 10, 11, 12, 13, 14, 15, 16, 17, 18] (.seq (.region [
   ⟨some 9, .bin .lss (.t 8) (.t 7), none⟩])
 (.seq (.cond (.t 9) (.skip)
   (.exit 0))
 (.seq (.block 1 (.seq (.region [
   ⟨some 10, .mv (.t 8), none⟩,
   ⟨some 5, .mv (.t 10), none⟩])
 (.seq (.region [
   ⟨some 11, .mv (.t 1), none⟩,
   ⟨some 12, .mv (.t 0), none⟩,
   ⟨some 13, .mv (.t 5), none⟩,
   ⟨some 14, .iaddr none 6 (.t 12) (.t 13), none⟩,
   ⟨some 15, .load 6 true (.t 14), none⟩,
   ⟨some 16, .callv (.t 11) [(.t 15)], none⟩])
 (.cond (.t 16) (.seq (.region [
     ⟨some 17, .mv (.t 5), none⟩,
     ⟨some 4, .mv (.t 17), none⟩])
   (.ret))
   (.skip)))))
 (.region [
   ⟨some 18, .bin .add (.t 8) (.k (.int .i64 1)), none⟩,
   ⟨some 8, .mv (.t 18), none⟩])))))))
 (.seq (.region [
   ⟨some 4, .mv (.k (.int .i64 (-1))), none⟩])
 (.ret)))⟩
theorem eq_slices_IndexFunc___api_Type_api_Type_ (Φ : Calls') (a0 a1 : AV) (H : AH) (Q : Post) : fnE1 Φ ir_slices_IndexFunc___api_Type_api_Type_ [a0, a1] H Q = slices_IndexFunc___api_Type_api_Type_ Φ a0 a1 H Q := by kernel_rfl

/-! slices.IndexFunc[[]rabbet/lower.local,rabbet/lower.local] -/
def slices_IndexFunc___lower_local_lower_local__l1 (Φ : Calls') (a0 : AV) (a1 : AV) (x1 : AV) (Q : Post) : (List AV × AH) → ((List AV × AH) → Prop) → Prop := fun s2 L3 =>
 Do (abin .lss (sl s2.1 0) x1) fun x4 =>
 Gd x4 true (
 Do (aiaddr none 2 a0 (sl s2.1 0)) fun x5 =>
 Do (aload s2.2 2 true x5) fun x6 =>
∃ k9 c10, a1 = .fn k9 c10 ∧ Φ k9 ([x6] ++ c10) s2.2 fun x7 H8 =>
 Gd x7 true (
 Q (sl s2.1 0) H8) (
 Do (abin .add (sl s2.1 0) (.int .i64 1)) fun x11 =>
 L3 ([x11], H8))) (
 Q (.int .i64 (-1)) s2.2)
def slices_IndexFunc___lower_local_lower_local_ (Φ : Calls') (a0 : AV) (a1 : AV) (H : AH) (Q : Post) : Prop :=
 Do (alen false a0) fun x1 =>
 LoopP (slices_IndexFunc___lower_local_lower_local__l1 Φ a0 a1 x1 Q) ([(.int .i64 0)], H)
def ir_slices_IndexFunc___lower_local_lower_local_ : AFunc := ⟨19, [.tmp 4],
 .seq (.region [
   ⟨some 4, .mv (.k (.int .i64 0)), none⟩])
 (.seq (.seq (.region [
   ⟨some 6, .mv (.t 0), none⟩,
   ⟨some 7, .len false (.t 6), none⟩,
   ⟨some 8, .mv (.k (.int .i64 0)), none⟩])
 (.block 0 (.loop [8] [4, 5, 9, 10, 11, 12, 13, 14, 15, 16, 17, 18] (.seq (.region [
   ⟨some 9, .bin .lss (.t 8) (.t 7), none⟩])
 (.seq (.cond (.t 9) (.skip)
   (.exit 0))
 (.seq (.block 1 (.seq (.region [
   ⟨some 10, .mv (.t 8), none⟩,
   ⟨some 5, .mv (.t 10), none⟩])
 (.seq (.region [
   ⟨some 11, .mv (.t 1), none⟩,
   ⟨some 12, .mv (.t 0), none⟩,
   ⟨some 13, .mv (.t 5), none⟩,
   ⟨some 14, .iaddr none 2 (.t 12) (.t 13), none⟩,
   ⟨some 15, .load 2 true (.t 14), none⟩,
   ⟨some 16, .callv (.t 11) [(.t 15)], none⟩])
 (.cond (.t 16) (.seq (.region [
     ⟨some 17, .mv (.t 5), none⟩,
     ⟨some 4, .mv (.t 17), none⟩])
   (.ret))
   (.skip)))))
 (.region [
   ⟨some 18, .bin .add (.t 8) (.k (.int .i64 1)), none⟩,
   ⟨some 8, .mv (.t 18), none⟩])))))))
 (.seq (.region [
   ⟨some 4, .mv (.k (.int .i64 (-1))), none⟩])
 (.ret)))⟩
theorem eq_slices_IndexFunc___lower_local_lower_local_ (Φ : Calls') (a0 a1 : AV) (H : AH) (Q : Post) : fnE1 Φ ir_slices_IndexFunc___lower_local_lower_local_ [a0, a1] H Q = slices_IndexFunc___lower_local_lower_local_ Φ a0 a1 H Q := by kernel_rfl

def tab_libslices : Tab := [
  (K.slices_IndexFunc___api_Var_api_Var_, ir_slices_IndexFunc___api_Var_api_Var_),
  (K.slices_IndexFunc___api_Field_api_Field_, ir_slices_IndexFunc___api_Field_api_Field_),
  (K.slices_ContainsFunc___api_Var_api_Var_, ir_slices_ContainsFunc___api_Var_api_Var_),
  (K.slices_Contains___string_string_, ir_slices_Contains___string_string_),
  (K.slices_Index___string_string_, ir_slices_Index___string_string_),
  (K.slices_ContainsFunc___api_Field_api_Field_, ir_slices_ContainsFunc___api_Field_api_Field_),
  (K.slices_ContainsFunc___api_Type_api_Type_, ir_slices_ContainsFunc___api_Type_api_Type_),
  (K.slices_IndexFunc___api_Type_api_Type_, ir_slices_IndexFunc___api_Type_api_Type_),
  (K.slices_IndexFunc___lower_local_lower_local_, ir_slices_IndexFunc___lower_local_lower_local_)]

theorem cl_slices_IndexFunc___api_Var_api_Var_ {Φ : Calls'} (hT : Cl Φ tab_libslices) {a0 a1 : AV} {H : AH} {Q : Post} (h : slices_IndexFunc___api_Var_api_Var_ Φ a0 a1 H Q) : Φ K.slices_IndexFunc___api_Var_api_Var_ [a0, a1] H Q := hT.call (by kernel_rfl) (by kernel_rfl) (by rw [eq_slices_IndexFunc___api_Var_api_Var_]; exact h)
theorem cl_slices_IndexFunc___api_Field_api_Field_ {Φ : Calls'} (hT : Cl Φ tab_libslices) {a0 a1 : AV} {H : AH} {Q : Post} (h : slices_IndexFunc___api_Field_api_Field_ Φ a0 a1 H Q) : Φ K.slices_IndexFunc___api_Field_api_Field_ [a0, a1] H Q := hT.call (by kernel_rfl) (by kernel_rfl) (by rw [eq_slices_IndexFunc___api_Field_api_Field_]; exact h)
theorem cl_slices_ContainsFunc___api_Var_api_Var_ {Φ : Calls'} (hT : Cl Φ tab_libslices) {a0 a1 : AV} {H : AH} {Q : Post} (h : slices_ContainsFunc___api_Var_api_Var_ Φ a0 a1 H Q) : Φ K.slices_ContainsFunc___api_Var_api_Var_ [a0, a1] H Q := hT.call (by kernel_rfl) (by kernel_rfl) (by rw [eq_slices_ContainsFunc___api_Var_api_Var_]; exact h)
theorem cl_slices_Contains___string_string_ {Φ : Calls'} (hT : Cl Φ tab_libslices) {a0 a1 : AV} {H : AH} {Q : Post} (h : slices_Contains___string_string_ Φ a0 a1 H Q) : Φ K.slices_Contains___string_string_ [a0, a1] H Q := hT.call (by kernel_rfl) (by kernel_rfl) (by rw [eq_slices_Contains___string_string_]; exact h)
theorem cl_slices_Index___string_string_ {Φ : Calls'} (hT : Cl Φ tab_libslices) {a0 a1 : AV} {H : AH} {Q : Post} (h : slices_Index___string_string_ Φ a0 a1 H Q) : Φ K.slices_Index___string_string_ [a0, a1] H Q := hT.call (by kernel_rfl) (by kernel_rfl) (by rw [eq_slices_Index___string_string_]; exact h)
theorem cl_slices_ContainsFunc___api_Field_api_Field_ {Φ : Calls'} (hT : Cl Φ tab_libslices) {a0 a1 : AV} {H : AH} {Q : Post} (h : slices_ContainsFunc___api_Field_api_Field_ Φ a0 a1 H Q) : Φ K.slices_ContainsFunc___api_Field_api_Field_ [a0, a1] H Q := hT.call (by kernel_rfl) (by kernel_rfl) (by rw [eq_slices_ContainsFunc___api_Field_api_Field_]; exact h)
theorem cl_slices_ContainsFunc___api_Type_api_Type_ {Φ : Calls'} (hT : Cl Φ tab_libslices) {a0 a1 : AV} {H : AH} {Q : Post} (h : slices_ContainsFunc___api_Type_api_Type_ Φ a0 a1 H Q) : Φ K.slices_ContainsFunc___api_Type_api_Type_ [a0, a1] H Q := hT.call (by kernel_rfl) (by kernel_rfl) (by rw [eq_slices_ContainsFunc___api_Type_api_Type_]; exact h)
theorem cl_slices_IndexFunc___api_Type_api_Type_ {Φ : Calls'} (hT : Cl Φ tab_libslices) {a0 a1 : AV} {H : AH} {Q : Post} (h : slices_IndexFunc___api_Type_api_Type_ Φ a0 a1 H Q) : Φ K.slices_IndexFunc___api_Type_api_Type_ [a0, a1] H Q := hT.call (by kernel_rfl) (by kernel_rfl) (by rw [eq_slices_IndexFunc___api_Type_api_Type_]; exact h)
theorem cl_slices_IndexFunc___lower_local_lower_local_ {Φ : Calls'} (hT : Cl Φ tab_libslices) {a0 a1 : AV} {H : AH} {Q : Post} (h : slices_IndexFunc___lower_local_lower_local_ Φ a0 a1 H Q) : Φ K.slices_IndexFunc___lower_local_lower_local_ [a0, a1] H Q := hT.call (by kernel_rfl) (by kernel_rfl) (by rw [eq_slices_IndexFunc___lower_local_lower_local_]; exact h)
end Rb.S

/- Package libslices: its functions as runs. By gen.py. -/
set_option linter.unusedVariables false
namespace Rb.R
open Go

def slices_IndexFunc___api_Var_api_Var__l1 (Φ : CallsB) (n : Nat) (a0 : AV) (a1 : AV) (x1 : AV) (Q : PostB) : (List AV × TH) → ((List AV × TH) → Bool) → Bool := fun s2 L3 =>
 DoB (abin .lss (sl s2.1 0) x1) fun x4 =>
 GdB x4 true (
 DoB (aiaddr none 7 a0 (sl s2.1 0)) fun x5 =>
 DoB (aload s2.2.ah 7 true x5) fun x6 =>
 clB Φ a1 [x6] s2.2 fun x8 H9 =>
 GdB x8 true (
 Q (sl s2.1 0) H9) (
 DoB (abin .add (sl s2.1 0) (.int .i64 1)) fun x12 =>
 L3 ([x12], H9))) (
 Q (.int .i64 (-1)) s2.2)
def slices_IndexFunc___api_Var_api_Var_ (Φ : CallsB) (n : Nat) (a0 : AV) (a1 : AV) (H : TH) (Q : PostB) : Bool :=
 DoB (alen false a0) fun x1 =>
 LoopB (slices_IndexFunc___api_Var_api_Var__l1 Φ n a0 a1 x1 Q) n ([(.int .i64 0)], H)
theorem eq_slices_IndexFunc___api_Var_api_Var_ (Φ : CallsB) (n : Nat) (a0 a1 : AV) (H : TH) (Q : PostB) : fnB1 Φ n S.ir_slices_IndexFunc___api_Var_api_Var_ [a0, a1] H Q = slices_IndexFunc___api_Var_api_Var_ Φ n a0 a1 H Q := by kernel_rfl

def slices_IndexFunc___api_Field_api_Field__l1 (Φ : CallsB) (n : Nat) (a0 : AV) (a1 : AV) (x1 : AV) (Q : PostB) : (List AV × TH) → ((List AV × TH) → Bool) → Bool := fun s2 L3 =>
 DoB (abin .lss (sl s2.1 0) x1) fun x4 =>
 GdB x4 true (
 DoB (aiaddr none 9 a0 (sl s2.1 0)) fun x5 =>
 DoB (aload s2.2.ah 9 true x5) fun x6 =>
 clB Φ a1 [x6] s2.2 fun x8 H9 =>
 GdB x8 true (
 Q (sl s2.1 0) H9) (
 DoB (abin .add (sl s2.1 0) (.int .i64 1)) fun x12 =>
 L3 ([x12], H9))) (
 Q (.int .i64 (-1)) s2.2)
def slices_IndexFunc___api_Field_api_Field_ (Φ : CallsB) (n : Nat) (a0 : AV) (a1 : AV) (H : TH) (Q : PostB) : Bool :=
 DoB (alen false a0) fun x1 =>
 LoopB (slices_IndexFunc___api_Field_api_Field__l1 Φ n a0 a1 x1 Q) n ([(.int .i64 0)], H)
theorem eq_slices_IndexFunc___api_Field_api_Field_ (Φ : CallsB) (n : Nat) (a0 a1 : AV) (H : TH) (Q : PostB) : fnB1 Φ n S.ir_slices_IndexFunc___api_Field_api_Field_ [a0, a1] H Q = slices_IndexFunc___api_Field_api_Field_ Φ n a0 a1 H Q := by kernel_rfl

def slices_ContainsFunc___api_Var_api_Var_ (Φ : CallsB) (n : Nat) (a0 : AV) (a1 : AV) (H : TH) (Q : PostB) : Bool :=
Φ K.slices_IndexFunc___api_Var_api_Var_ [a0, a1] H fun x1 H2 =>
 DoB (abin .geq x1 (.int .i64 0)) fun x3 =>
 Q x3 H2
theorem eq_slices_ContainsFunc___api_Var_api_Var_ (Φ : CallsB) (n : Nat) (a0 a1 : AV) (H : TH) (Q : PostB) : fnB1 Φ n S.ir_slices_ContainsFunc___api_Var_api_Var_ [a0, a1] H Q = slices_ContainsFunc___api_Var_api_Var_ Φ n a0 a1 H Q := by kernel_rfl

def slices_Contains___string_string_ (Φ : CallsB) (n : Nat) (a0 : AV) (a1 : AV) (H : TH) (Q : PostB) : Bool :=
Φ K.slices_Index___string_string_ [a0, a1] H fun x1 H2 =>
 DoB (abin .geq x1 (.int .i64 0)) fun x3 =>
 Q x3 H2
theorem eq_slices_Contains___string_string_ (Φ : CallsB) (n : Nat) (a0 a1 : AV) (H : TH) (Q : PostB) : fnB1 Φ n S.ir_slices_Contains___string_string_ [a0, a1] H Q = slices_Contains___string_string_ Φ n a0 a1 H Q := by kernel_rfl

def slices_Index___string_string__l1 (Φ : CallsB) (n : Nat) (a0 : AV) (a1 : AV) (x1 : AV) (Q : PostB) : (List AV × TH) → ((List AV × TH) → Bool) → Bool := fun s2 L3 =>
 DoB (abin .lss (sl s2.1 0) x1) fun x4 =>
 GdB x4 true (
 DoB (aiaddr none 1 a0 (sl s2.1 0)) fun x5 =>
 DoB (aload s2.2.ah 1 false x5) fun x6 =>
 DoB (abin .eql a1 x6) fun x8 =>
 GdB x8 true (
 Q (sl s2.1 0) s2.2) (
 DoB (abin .add (sl s2.1 0) (.int .i64 1)) fun x9 =>
 L3 ([x9], s2.2))) (
 Q (.int .i64 (-1)) s2.2)
def slices_Index___string_string_ (Φ : CallsB) (n : Nat) (a0 : AV) (a1 : AV) (H : TH) (Q : PostB) : Bool :=
 DoB (alen false a0) fun x1 =>
 LoopB (slices_Index___string_string__l1 Φ n a0 a1 x1 Q) n ([(.int .i64 0)], H)
theorem eq_slices_Index___string_string_ (Φ : CallsB) (n : Nat) (a0 a1 : AV) (H : TH) (Q : PostB) : fnB1 Φ n S.ir_slices_Index___string_string_ [a0, a1] H Q = slices_Index___string_string_ Φ n a0 a1 H Q := by kernel_rfl

def slices_ContainsFunc___api_Field_api_Field_ (Φ : CallsB) (n : Nat) (a0 : AV) (a1 : AV) (H : TH) (Q : PostB) : Bool :=
Φ K.slices_IndexFunc___api_Field_api_Field_ [a0, a1] H fun x1 H2 =>
 DoB (abin .geq x1 (.int .i64 0)) fun x3 =>
 Q x3 H2
theorem eq_slices_ContainsFunc___api_Field_api_Field_ (Φ : CallsB) (n : Nat) (a0 a1 : AV) (H : TH) (Q : PostB) : fnB1 Φ n S.ir_slices_ContainsFunc___api_Field_api_Field_ [a0, a1] H Q = slices_ContainsFunc___api_Field_api_Field_ Φ n a0 a1 H Q := by kernel_rfl

def slices_ContainsFunc___api_Type_api_Type_ (Φ : CallsB) (n : Nat) (a0 : AV) (a1 : AV) (H : TH) (Q : PostB) : Bool :=
Φ K.slices_IndexFunc___api_Type_api_Type_ [a0, a1] H fun x1 H2 =>
 DoB (abin .geq x1 (.int .i64 0)) fun x3 =>
 Q x3 H2
theorem eq_slices_ContainsFunc___api_Type_api_Type_ (Φ : CallsB) (n : Nat) (a0 a1 : AV) (H : TH) (Q : PostB) : fnB1 Φ n S.ir_slices_ContainsFunc___api_Type_api_Type_ [a0, a1] H Q = slices_ContainsFunc___api_Type_api_Type_ Φ n a0 a1 H Q := by kernel_rfl

def slices_IndexFunc___api_Type_api_Type__l1 (Φ : CallsB) (n : Nat) (a0 : AV) (a1 : AV) (x1 : AV) (Q : PostB) : (List AV × TH) → ((List AV × TH) → Bool) → Bool := fun s2 L3 =>
 DoB (abin .lss (sl s2.1 0) x1) fun x4 =>
 GdB x4 true (
 DoB (aiaddr none 6 a0 (sl s2.1 0)) fun x5 =>
 DoB (aload s2.2.ah 6 true x5) fun x6 =>
 clB Φ a1 [x6] s2.2 fun x8 H9 =>
 GdB x8 true (
 Q (sl s2.1 0) H9) (
 DoB (abin .add (sl s2.1 0) (.int .i64 1)) fun x12 =>
 L3 ([x12], H9))) (
 Q (.int .i64 (-1)) s2.2)
def slices_IndexFunc___api_Type_api_Type_ (Φ : CallsB) (n : Nat) (a0 : AV) (a1 : AV) (H : TH) (Q : PostB) : Bool :=
 DoB (alen false a0) fun x1 =>
 LoopB (slices_IndexFunc___api_Type_api_Type__l1 Φ n a0 a1 x1 Q) n ([(.int .i64 0)], H)
theorem eq_slices_IndexFunc___api_Type_api_Type_ (Φ : CallsB) (n : Nat) (a0 a1 : AV) (H : TH) (Q : PostB) : fnB1 Φ n S.ir_slices_IndexFunc___api_Type_api_Type_ [a0, a1] H Q = slices_IndexFunc___api_Type_api_Type_ Φ n a0 a1 H Q := by kernel_rfl

def slices_IndexFunc___lower_local_lower_local__l1 (Φ : CallsB) (n : Nat) (a0 : AV) (a1 : AV) (x1 : AV) (Q : PostB) : (List AV × TH) → ((List AV × TH) → Bool) → Bool := fun s2 L3 =>
 DoB (abin .lss (sl s2.1 0) x1) fun x4 =>
 GdB x4 true (
 DoB (aiaddr none 2 a0 (sl s2.1 0)) fun x5 =>
 DoB (aload s2.2.ah 2 true x5) fun x6 =>
 clB Φ a1 [x6] s2.2 fun x8 H9 =>
 GdB x8 true (
 Q (sl s2.1 0) H9) (
 DoB (abin .add (sl s2.1 0) (.int .i64 1)) fun x12 =>
 L3 ([x12], H9))) (
 Q (.int .i64 (-1)) s2.2)
def slices_IndexFunc___lower_local_lower_local_ (Φ : CallsB) (n : Nat) (a0 : AV) (a1 : AV) (H : TH) (Q : PostB) : Bool :=
 DoB (alen false a0) fun x1 =>
 LoopB (slices_IndexFunc___lower_local_lower_local__l1 Φ n a0 a1 x1 Q) n ([(.int .i64 0)], H)
theorem eq_slices_IndexFunc___lower_local_lower_local_ (Φ : CallsB) (n : Nat) (a0 a1 : AV) (H : TH) (Q : PostB) : fnB1 Φ n S.ir_slices_IndexFunc___lower_local_lower_local_ [a0, a1] H Q = slices_IndexFunc___lower_local_lower_local_ Φ n a0 a1 H Q := by kernel_rfl

end Rb.R

/- Package libstrings: its functions in the small language, and what they mean. By gen.py. -/
set_option linter.unusedVariables false
namespace Rb.S
open Go

/-! strings.Fields -/
def strings_Fields_k1 (Φ : Calls') (s23 : List AV × AH) (L24 : (List AV × AH) → Prop) (Q : Post) : List AV → AH → Prop := fun j25 H26 =>
 Do (abin .add (sl s23.1 0) (.int .i64 1)) fun x35 =>
 L24 ([x35], H26)
def strings_Fields_k2 (Φ : Calls') (s52 : List AV × AH) (L53 : (List AV × AH) → Prop) (Q : Post) : List AV → AH → Prop := fun j54 H55 =>
 Do (abin .add (sl s52.1 0) (.int .i64 1)) fun x64 =>
 L53 ([x64], H55)
def strings_Fields_k3 (Φ : Calls') (x50 : AV) (L39 : (List AV × AH) → Prop) (s52 : List AV × AH) (L53 : (List AV × AH) → Prop) (Q : Post) : List AV → AH → Prop := fun j56 H57 =>
 Gd (sl j56 0) true (
 JoinP (strings_Fields_k2 Φ s52 L53 Q) [] H57) (
 L39 ([x50, (sl s52.1 0), (sl s52.1 0)], H57))
def strings_Fields_l4 (Φ : Calls') (a0 : AV) (x50 : AV) (L39 : (List AV × AH) → Prop) (Q : Post) : (List AV × AH) → ((List AV × AH) → Prop) → Prop := fun s52 L53 =>
 Do (alen true a0) fun x58 =>
 Do (abin .lss (sl s52.1 0) x58) fun x59 =>
 Gd3 x59 true (
 Do (aidxs a0 (sl s52.1 0)) fun x60 =>
 Do (aiaddr (some 256) 1 (.fptr asciiSpace) x60) fun x61 =>
 Do (aload s52.2 1 false x61) fun x62 =>
 Do (abin .neq x62 (.int .u8 0)) fun x63 =>
 JoinP (strings_Fields_k3 Φ x50 L39 s52 L53 Q) [x63] s52.2) (
 JoinP (strings_Fields_k3 Φ x50 L39 s52 L53 Q) [(.bool false)] s52.2) (
 False)
def strings_Fields_k5 (Φ : Calls') (x19 : AV) (Q : Post) : List AV → AH → Prop := fun j65 H66 =>
 DoH (afreeze H66 x19) fun x72 H73 =>
 Q x72 H73
def strings_Fields_k6 (Φ : Calls') (a0 : AV) (x19 : AV) (Q : Post) : List AV → AH → Prop := fun j36 H37 =>
 Do (alen true a0) fun x67 =>
 Do (abin .lss (sl j36 1) x67) fun x68 =>
 Gd x68 true (
 Do (asslice a0 (some (sl j36 1)) none) fun x69 =>
 Do (aiaddr none 1 x19 (sl j36 0)) fun x70 =>
 Do (astore H37 1 x70 x69) fun H71 =>
 JoinP (strings_Fields_k5 Φ x19 Q) [] H71) (
 JoinP (strings_Fields_k5 Φ x19 Q) [] H37)
def strings_Fields_l7 (Φ : Calls') (a0 : AV) (x19 : AV) (Q : Post) : (List AV × AH) → ((List AV × AH) → Prop) → Prop := fun s38 L39 =>
 Do (alen true a0) fun x40 =>
 Do (abin .lss (sl s38.1 2) x40) fun x41 =>
 Gd x41 true (
 Do (aidxs a0 (sl s38.1 2)) fun x42 =>
 Do (aiaddr (some 256) 1 (.fptr asciiSpace) x42) fun x43 =>
 Do (aload s38.2 1 false x43) fun x44 =>
 Do (abin .eql x44 (.int .u8 0)) fun x45 =>
 Gd x45 true (
 Do (abin .add (sl s38.1 2) (.int .i64 1)) fun x46 =>
 L39 ([(sl s38.1 0), (sl s38.1 1), x46], s38.2)) (
 Do (asslice a0 (some (sl s38.1 1)) (some (sl s38.1 2))) fun x47 =>
 Do (aiaddr none 1 x19 (sl s38.1 0)) fun x48 =>
 Do (astore s38.2 1 x48 x47) fun H49 =>
 Do (abin .add (sl s38.1 0) (.int .i64 1)) fun x50 =>
 Do (abin .add (sl s38.1 2) (.int .i64 1)) fun x51 =>
 LoopP (strings_Fields_l4 Φ a0 x50 L39 Q) ([x51], H49))) (
 JoinP (strings_Fields_k6 Φ a0 x19 Q) [(sl s38.1 0), (sl s38.1 1)] s38.2)
def strings_Fields_k8 (Φ : Calls') (a0 : AV) (x19 : AV) (Q : Post) : List AV → AH → Prop := fun j21 H22 =>
 LoopP (strings_Fields_l7 Φ a0 x19 Q) ([(.int .i64 0), (sl j21 0), (sl j21 0)], H22)
def strings_Fields_k9 (Φ : Calls') (a0 : AV) (x19 : AV) (s23 : List AV × AH) (L24 : (List AV × AH) → Prop) (Q : Post) : List AV → AH → Prop := fun j27 H28 =>
 Gd (sl j27 0) true (
 JoinP (strings_Fields_k1 Φ s23 L24 Q) [] H28) (
 JoinP (strings_Fields_k8 Φ a0 x19 Q) [(sl s23.1 0)] H28)
def strings_Fields_l10 (Φ : Calls') (a0 : AV) (x19 : AV) (Q : Post) : (List AV × AH) → ((List AV × AH) → Prop) → Prop := fun s23 L24 =>
 Do (alen true a0) fun x29 =>
 Do (abin .lss (sl s23.1 0) x29) fun x30 =>
 Gd3 x30 true (
 Do (aidxs a0 (sl s23.1 0)) fun x31 =>
 Do (aiaddr (some 256) 1 (.fptr asciiSpace) x31) fun x32 =>
 Do (aload s23.2 1 false x32) fun x33 =>
 Do (abin .neq x33 (.int .u8 0)) fun x34 =>
 JoinP (strings_Fields_k9 Φ a0 x19 s23 L24 Q) [x34] s23.2) (
 JoinP (strings_Fields_k9 Φ a0 x19 s23 L24 Q) [(.bool false)] s23.2) (
 False)
def strings_Fields_k11 (Φ : Calls') (a0 : AV) (Q : Post) : List AV → AH → Prop := fun j1 H2 =>
 Do (abin .geq (sl j1 1) (.int .u8 128)) fun x16 =>
 Gd x16 true (
Φ K.strings_FieldsFunc [a0, (.fn K.unicode_IsSpace [])] H2 fun x17 H18 =>
 Q x17 H18) (
 DoH (amake H2 true 1 16 [.str []] (sl j1 0) (sl j1 0)) fun x19 H20 =>
 LoopP (strings_Fields_l10 Φ a0 x19 Q) ([(.int .i64 0)], H20))
def strings_Fields_l12 (Φ : Calls') (a0 : AV) (Q : Post) : (List AV × AH) → ((List AV × AH) → Prop) → Prop := fun s3 L4 =>
 Do (alen true a0) fun x5 =>
 Do (abin .lss (sl s3.1 3) x5) fun x6 =>
 Gd x6 true (
 Do (aidxs a0 (sl s3.1 3)) fun x7 =>
 Do (abin .or (sl s3.1 2) x7) fun x8 =>
 Do (aiaddr (some 256) 1 (.fptr asciiSpace) x7) fun x9 =>
 Do (aload s3.2 1 false x9) fun x10 =>
 Do (aconv .i64 x10) fun x11 =>
 Do (aun .xor x11) fun x12 =>
 Do (abin .and (sl s3.1 1) x12) fun x13 =>
 Do (abin .add (sl s3.1 0) x13) fun x14 =>
 Do (abin .add (sl s3.1 3) (.int .i64 1)) fun x15 =>
 L4 ([x14, x11, x8, x15], s3.2)) (
 JoinP (strings_Fields_k11 Φ a0 Q) [(sl s3.1 0), (sl s3.1 2)] s3.2)
def strings_Fields (Φ : Calls') (a0 : AV) (H : AH) (Q : Post) : Prop :=
 LoopP (strings_Fields_l12 Φ a0 Q) ([(.int .i64 0), (.int .i64 1), (.int .u8 0), (.int .i64 0)], H)
def ir_strings_Fields : AFunc := ⟨106, [.tmp 2],
 .seq (.region [
   ⟨some 2, .mv (.k (.lst .nil 0 [])), none⟩])
 (.seq (.region [
   ⟨some 3, .mv (.k (.int .i64 0)), none⟩])
 (.seq (.region [
   ⟨some 4, .mv (.k (.int .i64 1)), none⟩])
 (.seq (.region [
   ⟨some 5, .mv (.k (.int .u8 0)), none⟩])
 (.join [3, 5] [4, 6, 7, 8, 13, 14, 15, 16, 17, 18, 19, 20, 21, 22, 23, 24, 25, 26, 27, 28, 29, 30, 31, 32, 33, 34, 35] (.seq (.region [
   ⟨some 6, .mv (.k (.int .i64 0)), none⟩])
 (.block 0 (.loop [3, 4, 5, 6] [7, 8, 13, 14, 15, 16, 17, 18, 19, 20, 21, 22, 23, 24, 25, 26, 27, 28, 29, 30, 31, 32, 33, 34, 35] (.seq (.seq (.region [
   ⟨some 13, .mv (.t 6), none⟩,
   ⟨some 14, .mv (.t 0), none⟩,
   ⟨some 15, .len true (.t 14), none⟩,
   ⟨some 16, .bin .lss (.t 13) (.t 15), none⟩])
 (.cond (.t 16) (.skip)
   (.exit 0)))
 (.seq (.block 1 (.seq (.region [
   ⟨some 19, .mv (.t 0), none⟩,
   ⟨some 20, .mv (.t 6), none⟩,
   ⟨some 21, .idxs (.t 19) (.t 20), none⟩,
   ⟨some 7, .mv (.t 21), none⟩])
 (.seq (.region [
   ⟨some 22, .mv (.t 5), none⟩,
   ⟨some 23, .mv (.t 7), none⟩,
   ⟨some 24, .bin .or (.t 22) (.t 23), none⟩,
   ⟨some 5, .mv (.t 24), none⟩])
 (.seq (.region [
   ⟨some 25, .mv (.t 7), none⟩,
   ⟨some 26, .iaddr (some 256) 1 (.k (.fptr asciiSpace)) (.t 25), none⟩,
   ⟨some 27, .load 1 false (.t 26), none⟩,
   ⟨some 28, .conv .i64 (.t 27), none⟩,
   ⟨some 8, .mv (.t 28), none⟩])
 (.seq (.region [
   ⟨some 29, .mv (.t 3), none⟩,
   ⟨some 30, .mv (.t 4), none⟩,
   ⟨some 31, .mv (.t 8), none⟩,
   ⟨some 32, .un .xor (.t 31), none⟩,
   ⟨some 33, .bin .and (.t 30) (.t 32), none⟩,
   ⟨some 34, .bin .add (.t 29) (.t 33), none⟩,
   ⟨some 3, .mv (.t 34), none⟩])
 (.region [
   ⟨some 35, .mv (.t 8), none⟩,
   ⟨some 4, .mv (.t 35), none⟩]))))))
 (.region [
   ⟨some 17, .mv (.t 6), none⟩,
   ⟨some 18, .bin .add (.t 17) (.k (.int .i64 1)), none⟩,
   ⟨some 6, .mv (.t 18), none⟩]))))))
 (.seq (.seq (.region [
   ⟨some 36, .mv (.t 5), none⟩,
   ⟨some 37, .bin .geq (.t 36) (.k (.int .u8 128)), none⟩])
 (.cond (.t 37) (.seq (.region [
     ⟨some 38, .mv (.t 0), none⟩,
     ⟨some 39, .call K.strings_FieldsFunc [(.t 38), (.k (.fn K.unicode_IsSpace []))], none⟩,
     ⟨some 2, .mv (.t 39), none⟩])
   (.ret))
   (.skip)))
 (.seq (.region [
   ⟨some 40, .mv (.t 3), none⟩,
   ⟨some 41, .make true 1 16 [.str []] (.t 40) (.t 40), none⟩,
   ⟨some 9, .mv (.t 41), none⟩])
 (.seq (.region [
   ⟨some 10, .mv (.k (.int .i64 0)), none⟩])
 (.seq (.region [
   ⟨some 11, .mv (.k (.int .i64 0)), none⟩])
 (.seq (.region [
   ⟨some 12, .mv (.k (.int .i64 0)), none⟩])
 (.join [12] [42, 43, 44, 45, 46, 47, 48, 49, 50, 51, 52, 53, 54, 55] (.block 2 (.loop [12] [42, 43, 44, 45, 46, 47, 48, 49, 50, 51, 52, 53, 54, 55] (.join [] [42, 43, 44, 45, 46, 47, 48, 49, 50, 51, 52, 53] (.join [53] [42, 43, 44, 45, 46, 47, 48, 49, 50, 51, 52] (.region [
   ⟨some 42, .mv (.t 12), none⟩,
   ⟨some 43, .mv (.t 0), none⟩,
   ⟨some 44, .len true (.t 43), none⟩,
   ⟨some 45, .bin .lss (.t 42) (.t 44), none⟩,
   ⟨some 46, .mv (.t 45), none⟩,
   ⟨some 47, .mv (.t 0), some (46, true)⟩,
   ⟨some 48, .mv (.t 12), some (46, true)⟩,
   ⟨some 49, .idxs (.t 47) (.t 48), some (46, true)⟩,
   ⟨some 50, .iaddr (some 256) 1 (.k (.fptr asciiSpace)) (.t 49), some (46, true)⟩,
   ⟨some 51, .load 1 false (.t 50), some (46, true)⟩,
   ⟨some 52, .bin .neq (.t 51) (.k (.int .u8 0)), some (46, true)⟩,
   ⟨some 53, .pick (.t 46) (.t 52) (.k (.bool false)), none⟩])
 (.cond (.t 53) (.skip)
   (.exit 2)))
 (.block 3 (.region [
   ⟨some 54, .mv (.t 12), none⟩,
   ⟨some 55, .bin .add (.t 54) (.k (.int .i64 1)), none⟩,
   ⟨some 12, .mv (.t 55), none⟩])))))
 (.seq (.region [
   ⟨some 56, .mv (.t 12), none⟩,
   ⟨some 11, .mv (.t 56), none⟩])
 (.join [10, 11] [12, 57, 58, 59, 60, 61, 62, 63, 64, 65, 66, 67, 68, 69, 70, 71, 72, 73, 74, 75, 76, 77, 78, 79, 80, 81, 82, 83, 84, 85, 86, 87, 88, 89, 90, 91, 92, 93, 94] (.block 4 (.loop [10, 11, 12] [57, 58, 59, 60, 61, 62, 63, 64, 65, 66, 67, 68, 69, 70, 71, 72, 73, 74, 75, 76, 77, 78, 79, 80, 81, 82, 83, 84, 85, 86, 87, 88, 89, 90, 91, 92, 93, 94] (.seq (.seq (.region [
   ⟨some 57, .mv (.t 12), none⟩,
   ⟨some 58, .mv (.t 0), none⟩,
   ⟨some 59, .len true (.t 58), none⟩,
   ⟨some 60, .bin .lss (.t 57) (.t 59), none⟩])
 (.cond (.t 60) (.skip)
   (.exit 4)))
 (.block 5 (.seq (.seq (.region [
   ⟨some 61, .mv (.t 0), none⟩,
   ⟨some 62, .mv (.t 12), none⟩,
   ⟨some 63, .idxs (.t 61) (.t 62), none⟩,
   ⟨some 64, .iaddr (some 256) 1 (.k (.fptr asciiSpace)) (.t 63), none⟩,
   ⟨some 65, .load 1 false (.t 64), none⟩,
   ⟨some 66, .bin .eql (.t 65) (.k (.int .u8 0)), none⟩])
 (.cond (.t 66) (.seq (.region [
     ⟨some 67, .mv (.t 12), none⟩,
     ⟨some 68, .bin .add (.t 67) (.k (.int .i64 1)), none⟩,
     ⟨some 12, .mv (.t 68), none⟩])
   (.exit 5))
   (.skip)))
 (.seq (.region [
   ⟨some 69, .mv (.t 9), none⟩,
   ⟨some 70, .mv (.t 10), none⟩,
   ⟨some 71, .mv (.t 0), none⟩,
   ⟨some 72, .mv (.t 11), none⟩,
   ⟨some 73, .mv (.t 12), none⟩,
   ⟨some 74, .sslice (.t 71) (some (.t 72)) (some (.t 73)), none⟩,
   ⟨some 75, .iaddr none 1 (.t 69) (.t 70), none⟩,
   ⟨none, .store 1 (.t 75) (.t 74), none⟩])
 (.seq (.region [
   ⟨some 76, .mv (.t 10), none⟩,
   ⟨some 77, .bin .add (.t 76) (.k (.int .i64 1)), none⟩,
   ⟨some 10, .mv (.t 77), none⟩])
 (.seq (.region [
   ⟨some 78, .mv (.t 12), none⟩,
   ⟨some 79, .bin .add (.t 78) (.k (.int .i64 1)), none⟩,
   ⟨some 12, .mv (.t 79), none⟩])
 (.seq (.block 6 (.loop [12] [80, 81, 82, 83, 84, 85, 86, 87, 88, 89, 90, 91, 92, 93] (.join [] [80, 81, 82, 83, 84, 85, 86, 87, 88, 89, 90, 91] (.join [91] [80, 81, 82, 83, 84, 85, 86, 87, 88, 89, 90] (.region [
   ⟨some 80, .mv (.t 12), none⟩,
   ⟨some 81, .mv (.t 0), none⟩,
   ⟨some 82, .len true (.t 81), none⟩,
   ⟨some 83, .bin .lss (.t 80) (.t 82), none⟩,
   ⟨some 84, .mv (.t 83), none⟩,
   ⟨some 85, .mv (.t 0), some (84, true)⟩,
   ⟨some 86, .mv (.t 12), some (84, true)⟩,
   ⟨some 87, .idxs (.t 85) (.t 86), some (84, true)⟩,
   ⟨some 88, .iaddr (some 256) 1 (.k (.fptr asciiSpace)) (.t 87), some (84, true)⟩,
   ⟨some 89, .load 1 false (.t 88), some (84, true)⟩,
   ⟨some 90, .bin .neq (.t 89) (.k (.int .u8 0)), some (84, true)⟩,
   ⟨some 91, .pick (.t 84) (.t 90) (.k (.bool false)), none⟩])
 (.cond (.t 91) (.skip)
   (.exit 6)))
 (.block 7 (.region [
   ⟨some 92, .mv (.t 12), none⟩,
   ⟨some 93, .bin .add (.t 92) (.k (.int .i64 1)), none⟩,
   ⟨some 12, .mv (.t 93), none⟩])))))
 (.region [
   ⟨some 94, .mv (.t 12), none⟩,
   ⟨some 11, .mv (.t 94), none⟩]))))))))))
 (.join [] [95, 96, 97, 98, 99, 100, 101, 102, 103, 104] (.seq (.region [
   ⟨some 95, .mv (.t 11), none⟩,
   ⟨some 96, .mv (.t 0), none⟩,
   ⟨some 97, .len true (.t 96), none⟩,
   ⟨some 98, .bin .lss (.t 95) (.t 97), none⟩])
 (.cond (.t 98) (.region [
     ⟨some 99, .mv (.t 9), none⟩,
     ⟨some 100, .mv (.t 10), none⟩,
     ⟨some 101, .mv (.t 0), none⟩,
     ⟨some 102, .mv (.t 11), none⟩,
     ⟨some 103, .sslice (.t 101) (some (.t 102)) none, none⟩,
     ⟨some 104, .iaddr none 1 (.t 99) (.t 100), none⟩,
     ⟨none, .store 1 (.t 104) (.t 103), none⟩])
   (.skip)))
 (.seq (.freeze 9 (.region [
   ⟨some 105, .mv (.t 9), none⟩,
   ⟨some 2, .mv (.t 105), none⟩]))
 (.ret)))))))))))))))⟩
theorem eq_strings_Fields (Φ : Calls') (a0 : AV) (H : AH) (Q : Post) : fnE1 Φ ir_strings_Fields [a0] H Q = strings_Fields Φ a0 H Q := by kernel_rfl

/-! strings.FieldsFunc -/
def strings_FieldsFunc_l1 (Φ : Calls') (a0 : AV) (x36 : AV) (x38 : AV) (j26 : List AV) (Q : Post) : (List AV × AH) → ((List AV × AH) → Prop) → Prop := fun s39 L40 =>
 Do (abin .lss (sl s39.1 0) x38) fun x41 =>
 Gd x41 true (
 Do (aiaddr none 2 (sl j26 0) (sl s39.1 0)) fun x42 =>
 Do (aload s39.2 2 true x42) fun x43 =>
 DoH (some (abox s39.2 true [.int .i64 0, .int .i64 0])) fun x44 H45 =>
 Do (astore H45 2 x44 x43) fun H46 =>
 Do (afaddr 0 x44) fun x47 =>
 Do (aload H46 1 false x47) fun x48 =>
 Do (afaddr 1 x44) fun x49 =>
 Do (aload H46 1 false x49) fun x50 =>
 Do (asslice a0 (some x48) (some x50)) fun x51 =>
 Do (aiaddr none 1 x36 (sl s39.1 0)) fun x52 =>
 Do (astore H46 1 x52 x51) fun H53 =>
 Do (abin .add (sl s39.1 0) (.int .i64 1)) fun x54 =>
 L40 ([x54], H53)) (
 Q x36 s39.2)
def strings_FieldsFunc_k2 (Φ : Calls') (a0 : AV) (Q : Post) : List AV → AH → Prop := fun j26 H27 =>
 Do (alen false (sl j26 0)) fun x35 =>
 DoH (amake H27 true 1 16 [.str []] x35 x35) fun x36 H37 =>
 Do (alen false (sl j26 0)) fun x38 =>
 LoopP (strings_FieldsFunc_l1 Φ a0 x36 x38 j26 Q) ([(.int .i64 0)], H37)
def strings_FieldsFunc_k3 (Φ : Calls') (a0 : AV) (Q : Post) : List AV → AH → Prop := fun j3 H4 =>
 Do (abin .geq (sl j3 1) (.int .i64 0)) fun x28 =>
 Gd x28 true (
 Do (alen true a0) fun x29 =>
 Do (abuild [.int .i64 0, .int .i64 0] [(0, 1, (sl j3 1)), (1, 1, x29)]) fun x30 =>
 DoH (abslice H4 false 2 1 [.int .i64 0, .int .i64 0] [(0, 2, x30)]) fun x31 H32 =>
 DoH (aappend H32 false 2 16 (sl j3 0) x31) fun x33 H34 =>
 JoinP (strings_FieldsFunc_k2 Φ a0 Q) [x33] H34) (
 JoinP (strings_FieldsFunc_k2 Φ a0 Q) [(sl j3 0)] H4)
def strings_FieldsFunc_l4 (Φ : Calls') (a0 : AV) (a1 : AV) (x5 : AV) (Q : Post) : (List AV × AH) → ((List AV × AH) → Prop) → Prop := fun s7 L8 =>
 DoH (asnext s7.2 x5) fun x9 H10 =>
 Do (aextract 0 x9) fun x11 =>
 Gd x11 true (
 Do (aextract 1 x9) fun x12 =>
 Do (aextract 2 x9) fun x13 =>
∃ k16 c17, a1 = .fn k16 c17 ∧ Φ k16 ([x13] ++ c17) H10 fun x14 H15 =>
 Gd x14 true (
 Do (abin .geq (sl s7.1 1) (.int .i64 0)) fun x18 =>
 Gd x18 true (
 Do (abuild [.int .i64 0, .int .i64 0] [(0, 1, (sl s7.1 1)), (1, 1, x12)]) fun x19 =>
 DoH (abslice H15 false 2 1 [.int .i64 0, .int .i64 0] [(0, 2, x19)]) fun x20 H21 =>
 DoH (aappend H21 false 2 16 (sl s7.1 0) x20) fun x22 H23 =>
 Do (aun .xor (sl s7.1 1)) fun x24 =>
 L8 ([x22, x24], H23)) (
 L8 ([(sl s7.1 0), (sl s7.1 1)], H15))) (
 Do (abin .lss (sl s7.1 1) (.int .i64 0)) fun x25 =>
 Gd x25 true (
 L8 ([(sl s7.1 0), x12], H15)) (
 L8 ([(sl s7.1 0), (sl s7.1 1)], H15)))) (
 JoinP (strings_FieldsFunc_k3 Φ a0 Q) [(sl s7.1 0), (sl s7.1 1)] H10)
def strings_FieldsFunc (Φ : Calls') (a0 : AV) (a1 : AV) (H : AH) (Q : Post) : Prop :=
 DoH (amake H true 2 16 [.int .i64 0, .int .i64 0] (.int .i64 0) (.int .i64 32)) fun x1 H2 =>
 DoH (asrange H2 a0) fun x5 H6 =>
 LoopP (strings_FieldsFunc_l4 Φ a0 a1 x5 Q) ([x1, (.int .i64 (-1))], H6)
def ir_strings_FieldsFunc : AFunc := ⟨65, [.tmp 4],
 .seq (.region [
   ⟨some 4, .mv (.k (.lst .nil 0 [])), none⟩])
 (.seq (.region [
   ⟨some 12, .make true 2 16 [.int .i64 0, .int .i64 0] (.k (.int .i64 0)) (.k (.int .i64 32)), none⟩,
   ⟨some 5, .mv (.t 12), none⟩])
 (.seq (.region [
   ⟨some 6, .mv (.k (.int .i64 (-1))), none⟩])
 (.join [5, 6] [7, 8, 13, 14, 15, 16, 17, 18, 19, 20, 21, 22, 23, 24, 25, 26, 27, 28, 29, 30, 31, 32, 33, 34] (.seq (.region [
   ⟨some 13, .mv (.t 0), none⟩,
   ⟨some 14, .srange (.t 13), none⟩])
 (.block 0 (.loop [5, 6] [7, 8, 15, 16, 17, 18, 19, 20, 21, 22, 23, 24, 25, 26, 27, 28, 29, 30, 31, 32, 33, 34] (.seq (.region [
   ⟨some 15, .snext (.t 14), none⟩,
   ⟨some 16, .extract 0 (.t 15), none⟩])
 (.seq (.cond (.t 16) (.skip)
   (.exit 0))
 (.block 1 (.seq (.region [
   ⟨some 17, .extract 1 (.t 15), none⟩,
   ⟨some 18, .extract 2 (.t 15), none⟩,
   ⟨some 7, .mv (.t 17), none⟩,
   ⟨some 8, .mv (.t 18), none⟩])
 (.seq (.region [
   ⟨some 19, .mv (.t 1), none⟩,
   ⟨some 20, .mv (.t 8), none⟩,
   ⟨some 21, .callv (.t 19) [(.t 20)], none⟩])
 (.cond (.t 21) (.seq (.region [
     ⟨some 22, .mv (.t 6), none⟩,
     ⟨some 23, .bin .geq (.t 22) (.k (.int .i64 0)), none⟩])
   (.cond (.t 23) (.seq (.region [
       ⟨some 24, .mv (.t 5), none⟩,
       ⟨some 25, .mv (.t 6), none⟩,
       ⟨some 26, .mv (.t 7), none⟩,
       ⟨some 27, .build [.int .i64 0, .int .i64 0] [(0, 1, (.t 25)), (1, 1, (.t 26))], none⟩,
       ⟨some 28, .bslice false 2 1 [.int .i64 0, .int .i64 0] [(0, 2, (.t 27))], none⟩,
       ⟨some 29, .append false 2 16 (.t 24) (.t 28), none⟩,
       ⟨some 5, .mv (.t 29), none⟩])
     (.region [
       ⟨some 30, .mv (.t 6), none⟩,
       ⟨some 31, .un .xor (.t 30), none⟩,
       ⟨some 6, .mv (.t 31), none⟩]))
     (.skip)))
   (.seq (.region [
     ⟨some 32, .mv (.t 6), none⟩,
     ⟨some 33, .bin .lss (.t 32) (.k (.int .i64 0)), none⟩])
   (.cond (.t 33) (.region [
       ⟨some 34, .mv (.t 7), none⟩,
       ⟨some 6, .mv (.t 34), none⟩])
     (.skip))))))))))))
 (.join [5] [35, 36, 37, 38, 39, 40, 41, 42, 43] (.seq (.region [
   ⟨some 35, .mv (.t 6), none⟩,
   ⟨some 36, .bin .geq (.t 35) (.k (.int .i64 0)), none⟩])
 (.cond (.t 36) (.region [
     ⟨some 37, .mv (.t 5), none⟩,
     ⟨some 38, .mv (.t 6), none⟩,
     ⟨some 39, .mv (.t 0), none⟩,
     ⟨some 40, .len true (.t 39), none⟩,
     ⟨some 41, .build [.int .i64 0, .int .i64 0] [(0, 1, (.t 38)), (1, 1, (.t 40))], none⟩,
     ⟨some 42, .bslice false 2 1 [.int .i64 0, .int .i64 0] [(0, 2, (.t 41))], none⟩,
     ⟨some 43, .append false 2 16 (.t 37) (.t 42), none⟩,
     ⟨some 5, .mv (.t 43), none⟩])
   (.skip)))
 (.seq (.region [
   ⟨some 44, .mv (.t 5), none⟩,
   ⟨some 45, .len false (.t 44), none⟩,
   ⟨some 46, .make true 1 16 [.str []] (.t 45) (.t 45), none⟩,
   ⟨some 9, .mv (.t 46), none⟩])
 (.seq (.seq (.region [
   ⟨some 47, .mv (.t 5), none⟩,
   ⟨some 48, .len false (.t 47), none⟩,
   ⟨some 49, .mv (.k (.int .i64 0)), none⟩])
 (.block 2 (.loop [49] [10, 11, 50, 51, 52, 53, 54, 55, 56, 57, 58, 59, 60, 61, 62, 63] (.seq (.region [
   ⟨some 50, .bin .lss (.t 49) (.t 48), none⟩])
 (.seq (.cond (.t 50) (.skip)
   (.exit 2))
 (.seq (.block 3 (.seq (.region [
   ⟨some 51, .mv (.t 49), none⟩,
   ⟨some 52, .iaddr none 2 (.t 47) (.t 49), none⟩,
   ⟨some 53, .load 2 true (.t 52), none⟩,
   ⟨some 11, .alloc true [.int .i64 0, .int .i64 0], none⟩,
   ⟨some 10, .mv (.t 51), none⟩,
   ⟨none, .store 2 (.t 11) (.t 53), none⟩])
 (.region [
   ⟨some 54, .mv (.t 9), none⟩,
   ⟨some 55, .mv (.t 10), none⟩,
   ⟨some 56, .mv (.t 0), none⟩,
   ⟨some 57, .faddr 0 (.t 11), none⟩,
   ⟨some 58, .load 1 false (.t 57), none⟩,
   ⟨some 59, .faddr 1 (.t 11), none⟩,
   ⟨some 60, .load 1 false (.t 59), none⟩,
   ⟨some 61, .sslice (.t 56) (some (.t 58)) (some (.t 60)), none⟩,
   ⟨some 62, .iaddr none 1 (.t 54) (.t 55), none⟩,
   ⟨none, .store 1 (.t 62) (.t 61), none⟩])))
 (.region [
   ⟨some 63, .bin .add (.t 49) (.k (.int .i64 1)), none⟩,
   ⟨some 49, .mv (.t 63), none⟩])))))))
 (.seq (.region [
   ⟨some 64, .mv (.t 9), none⟩,
   ⟨some 4, .mv (.t 64), none⟩])
 (.ret))))))))⟩
theorem eq_strings_FieldsFunc (Φ : Calls') (a0 a1 : AV) (H : AH) (Q : Post) : fnE1 Φ ir_strings_FieldsFunc [a0, a1] H Q = strings_FieldsFunc Φ a0 a1 H Q := by kernel_rfl

def tab_libstrings : Tab := [
  (K.strings_Fields, ir_strings_Fields),
  (K.strings_FieldsFunc, ir_strings_FieldsFunc)]

theorem cl_strings_Fields {Φ : Calls'} (hT : Cl Φ tab_libstrings) {a0 : AV} {H : AH} {Q : Post} (h : strings_Fields Φ a0 H Q) : Φ K.strings_Fields [a0] H Q := hT.call (by kernel_rfl) (by kernel_rfl) (by rw [eq_strings_Fields]; exact h)
theorem cl_strings_FieldsFunc {Φ : Calls'} (hT : Cl Φ tab_libstrings) {a0 a1 : AV} {H : AH} {Q : Post} (h : strings_FieldsFunc Φ a0 a1 H Q) : Φ K.strings_FieldsFunc [a0, a1] H Q := hT.call (by kernel_rfl) (by kernel_rfl) (by rw [eq_strings_FieldsFunc]; exact h)
end Rb.S

/- Package libstrings: its functions as runs. By gen.py. -/
set_option linter.unusedVariables false
namespace Rb.R
open Go

def strings_Fields_k1 (Φ : CallsB) (n : Nat) (s24 : List AV × TH) (L25 : (List AV × TH) → Bool) (Q : PostB) : List AV → TH → Bool := fun j26 H27 =>
 DoB (abin .add (sl s24.1 0) (.int .i64 1)) fun x37 =>
 L25 ([x37], H27)
def strings_Fields_k2 (Φ : CallsB) (n : Nat) (s56 : List AV × TH) (L57 : (List AV × TH) → Bool) (Q : PostB) : List AV → TH → Bool := fun j58 H59 =>
 DoB (abin .add (sl s56.1 0) (.int .i64 1)) fun x69 =>
 L57 ([x69], H59)
def strings_Fields_k3 (Φ : CallsB) (n : Nat) (x54 : AV) (L41 : (List AV × TH) → Bool) (s56 : List AV × TH) (L57 : (List AV × TH) → Bool) (Q : PostB) : List AV → TH → Bool := fun j60 H61 =>
 GdB (sl j60 0) true (
 JoinB (strings_Fields_k2 Φ n s56 L57 Q) [] H61) (
 L41 ([x54, (sl s56.1 0), (sl s56.1 0)], H61))
def strings_Fields_l4 (Φ : CallsB) (n : Nat) (a0 : AV) (x54 : AV) (L41 : (List AV × TH) → Bool) (Q : PostB) : (List AV × TH) → ((List AV × TH) → Bool) → Bool := fun s56 L57 =>
 DoB (alen true a0) fun x62 =>
 DoB (abin .lss (sl s56.1 0) x62) fun x63 =>
 Gd3B x63 true (
 DoB (aidxs a0 (sl s56.1 0)) fun x64 =>
 DoB (aiaddr (some 256) 1 (.fptr asciiSpace) x64) fun x65 =>
 DoB (aload s56.2.ah 1 false x65) fun x66 =>
 DoB (abin .neq x66 (.int .u8 0)) fun x68 =>
 JoinB (strings_Fields_k3 Φ n x54 L41 s56 L57 Q) [x68] s56.2) (
 JoinB (strings_Fields_k3 Φ n x54 L41 s56 L57 Q) [(.bool false)] s56.2) (
 false)
def strings_Fields_k5 (Φ : CallsB) (n : Nat) (x20 : AV) (Q : PostB) : List AV → TH → Bool := fun j70 H71 =>
 DoHB (tfreeze H71 x20) fun x78 H79 =>
 Q x78 H79
def strings_Fields_k6 (Φ : CallsB) (n : Nat) (a0 : AV) (x20 : AV) (Q : PostB) : List AV → TH → Bool := fun j38 H39 =>
 DoB (alen true a0) fun x72 =>
 DoB (abin .lss (sl j38 1) x72) fun x73 =>
 GdB x73 true (
 DoB (asslice a0 (some (sl j38 1)) none) fun x74 =>
 DoB (aiaddr none 1 x20 (sl j38 0)) fun x75 =>
 DoB (tstore H39 1 x75 x74) fun H77 =>
 JoinB (strings_Fields_k5 Φ n x20 Q) [] H77) (
 JoinB (strings_Fields_k5 Φ n x20 Q) [] H39)
def strings_Fields_l7 (Φ : CallsB) (n : Nat) (a0 : AV) (x20 : AV) (Q : PostB) : (List AV × TH) → ((List AV × TH) → Bool) → Bool := fun s40 L41 =>
 DoB (alen true a0) fun x42 =>
 DoB (abin .lss (sl s40.1 2) x42) fun x43 =>
 GdB x43 true (
 DoB (aidxs a0 (sl s40.1 2)) fun x44 =>
 DoB (aiaddr (some 256) 1 (.fptr asciiSpace) x44) fun x45 =>
 DoB (aload s40.2.ah 1 false x45) fun x46 =>
 DoB (abin .eql x46 (.int .u8 0)) fun x48 =>
 GdB x48 true (
 DoB (abin .add (sl s40.1 2) (.int .i64 1)) fun x49 =>
 L41 ([(sl s40.1 0), (sl s40.1 1), x49], s40.2)) (
 DoB (asslice a0 (some (sl s40.1 1)) (some (sl s40.1 2))) fun x50 =>
 DoB (aiaddr none 1 x20 (sl s40.1 0)) fun x51 =>
 DoB (tstore s40.2 1 x51 x50) fun H53 =>
 DoB (abin .add (sl s40.1 0) (.int .i64 1)) fun x54 =>
 DoB (abin .add (sl s40.1 2) (.int .i64 1)) fun x55 =>
 LoopB (strings_Fields_l4 Φ n a0 x54 L41 Q) n ([x55], H53))) (
 JoinB (strings_Fields_k6 Φ n a0 x20 Q) [(sl s40.1 0), (sl s40.1 1)] s40.2)
def strings_Fields_k8 (Φ : CallsB) (n : Nat) (a0 : AV) (x20 : AV) (Q : PostB) : List AV → TH → Bool := fun j22 H23 =>
 LoopB (strings_Fields_l7 Φ n a0 x20 Q) n ([(.int .i64 0), (sl j22 0), (sl j22 0)], H23)
def strings_Fields_k9 (Φ : CallsB) (n : Nat) (a0 : AV) (x20 : AV) (s24 : List AV × TH) (L25 : (List AV × TH) → Bool) (Q : PostB) : List AV → TH → Bool := fun j28 H29 =>
 GdB (sl j28 0) true (
 JoinB (strings_Fields_k1 Φ n s24 L25 Q) [] H29) (
 JoinB (strings_Fields_k8 Φ n a0 x20 Q) [(sl s24.1 0)] H29)
def strings_Fields_l10 (Φ : CallsB) (n : Nat) (a0 : AV) (x20 : AV) (Q : PostB) : (List AV × TH) → ((List AV × TH) → Bool) → Bool := fun s24 L25 =>
 DoB (alen true a0) fun x30 =>
 DoB (abin .lss (sl s24.1 0) x30) fun x31 =>
 Gd3B x31 true (
 DoB (aidxs a0 (sl s24.1 0)) fun x32 =>
 DoB (aiaddr (some 256) 1 (.fptr asciiSpace) x32) fun x33 =>
 DoB (aload s24.2.ah 1 false x33) fun x34 =>
 DoB (abin .neq x34 (.int .u8 0)) fun x36 =>
 JoinB (strings_Fields_k9 Φ n a0 x20 s24 L25 Q) [x36] s24.2) (
 JoinB (strings_Fields_k9 Φ n a0 x20 s24 L25 Q) [(.bool false)] s24.2) (
 false)
def strings_Fields_k11 (Φ : CallsB) (n : Nat) (a0 : AV) (Q : PostB) : List AV → TH → Bool := fun j1 H2 =>
 DoB (abin .geq (sl j1 1) (.int .u8 128)) fun x17 =>
 GdB x17 true (
Φ K.strings_FieldsFunc [a0, (.fn K.unicode_IsSpace [])] H2 fun x18 H19 =>
 Q x18 H19) (
 DoHB (tmake H2 true 1 16 [.str []] (sl j1 0) (sl j1 0)) fun x20 H21 =>
 LoopB (strings_Fields_l10 Φ n a0 x20 Q) n ([(.int .i64 0)], H21))
def strings_Fields_l12 (Φ : CallsB) (n : Nat) (a0 : AV) (Q : PostB) : (List AV × TH) → ((List AV × TH) → Bool) → Bool := fun s3 L4 =>
 DoB (alen true a0) fun x5 =>
 DoB (abin .lss (sl s3.1 3) x5) fun x6 =>
 GdB x6 true (
 DoB (aidxs a0 (sl s3.1 3)) fun x7 =>
 DoB (abin .or (sl s3.1 2) x7) fun x8 =>
 DoB (aiaddr (some 256) 1 (.fptr asciiSpace) x7) fun x9 =>
 DoB (aload s3.2.ah 1 false x9) fun x10 =>
 DoB (aconv .i64 x10) fun x12 =>
 DoB (aun .xor x12) fun x13 =>
 DoB (abin .and (sl s3.1 1) x13) fun x14 =>
 DoB (abin .add (sl s3.1 0) x14) fun x15 =>
 DoB (abin .add (sl s3.1 3) (.int .i64 1)) fun x16 =>
 L4 ([x15, x12, x8, x16], s3.2)) (
 JoinB (strings_Fields_k11 Φ n a0 Q) [(sl s3.1 0), (sl s3.1 2)] s3.2)
def strings_Fields (Φ : CallsB) (n : Nat) (a0 : AV) (H : TH) (Q : PostB) : Bool :=
 LoopB (strings_Fields_l12 Φ n a0 Q) n ([(.int .i64 0), (.int .i64 1), (.int .u8 0), (.int .i64 0)], H)
theorem eq_strings_Fields (Φ : CallsB) (n : Nat) (a0 : AV) (H : TH) (Q : PostB) : fnB1 Φ n S.ir_strings_Fields [a0] H Q = strings_Fields Φ n a0 H Q := by kernel_rfl

def strings_FieldsFunc_l1 (Φ : CallsB) (n : Nat) (a0 : AV) (x36 : AV) (x38 : AV) (j26 : List AV) (Q : PostB) : (List AV × TH) → ((List AV × TH) → Bool) → Bool := fun s39 L40 =>
 DoB (abin .lss (sl s39.1 0) x38) fun x41 =>
 GdB x41 true (
 DoB (aiaddr none 2 (sl j26 0) (sl s39.1 0)) fun x42 =>
 DoB (aload s39.2.ah 2 true x42) fun x43 =>
 DoHB (some (tbox s39.2 true [.int .i64 0, .int .i64 0])) fun x45 H46 =>
 DoB (tstore H46 2 x45 x43) fun H48 =>
 DoB (afaddr 0 x45) fun x49 =>
 DoB (aload H48.ah 1 false x49) fun x50 =>
 DoB (afaddr 1 x45) fun x52 =>
 DoB (aload H48.ah 1 false x52) fun x53 =>
 DoB (asslice a0 (some x50) (some x53)) fun x55 =>
 DoB (aiaddr none 1 x36 (sl s39.1 0)) fun x56 =>
 DoB (tstore H48 1 x56 x55) fun H58 =>
 DoB (abin .add (sl s39.1 0) (.int .i64 1)) fun x59 =>
 L40 ([x59], H58)) (
 Q x36 s39.2)
def strings_FieldsFunc_k2 (Φ : CallsB) (n : Nat) (a0 : AV) (Q : PostB) : List AV → TH → Bool := fun j26 H27 =>
 DoB (alen false (sl j26 0)) fun x35 =>
 DoHB (tmake H27 true 1 16 [.str []] x35 x35) fun x36 H37 =>
 DoB (alen false (sl j26 0)) fun x38 =>
 LoopB (strings_FieldsFunc_l1 Φ n a0 x36 x38 j26 Q) n ([(.int .i64 0)], H37)
def strings_FieldsFunc_k3 (Φ : CallsB) (n : Nat) (a0 : AV) (Q : PostB) : List AV → TH → Bool := fun j3 H4 =>
 DoB (abin .geq (sl j3 1) (.int .i64 0)) fun x28 =>
 GdB x28 true (
 DoB (alen true a0) fun x29 =>
 DoB (abuild [.int .i64 0, .int .i64 0] [(0, 1, (sl j3 1)), (1, 1, x29)]) fun x30 =>
 DoHB (tbslice H4 false 2 1 [.int .i64 0, .int .i64 0] [(0, 2, x30)]) fun x31 H32 =>
 DoHB (tappend H32 false 2 16 (sl j3 0) x31) fun x33 H34 =>
 JoinB (strings_FieldsFunc_k2 Φ n a0 Q) [x33] H34) (
 JoinB (strings_FieldsFunc_k2 Φ n a0 Q) [(sl j3 0)] H4)
def strings_FieldsFunc_l4 (Φ : CallsB) (n : Nat) (a0 : AV) (a1 : AV) (x5 : AV) (Q : PostB) : (List AV × TH) → ((List AV × TH) → Bool) → Bool := fun s7 L8 =>
 DoHB (tsnext s7.2 x5) fun x9 H10 =>
 DoB (aextract 0 x9) fun x11 =>
 GdB x11 true (
 DoB (aextract 1 x9) fun x12 =>
 DoB (aextract 2 x9) fun x13 =>
 clB Φ a1 [x13] H10 fun x14 H15 =>
 GdB x14 true (
 DoB (abin .geq (sl s7.1 1) (.int .i64 0)) fun x18 =>
 GdB x18 true (
 DoB (abuild [.int .i64 0, .int .i64 0] [(0, 1, (sl s7.1 1)), (1, 1, x12)]) fun x19 =>
 DoHB (tbslice H15 false 2 1 [.int .i64 0, .int .i64 0] [(0, 2, x19)]) fun x20 H21 =>
 DoHB (tappend H21 false 2 16 (sl s7.1 0) x20) fun x22 H23 =>
 DoB (aun .xor (sl s7.1 1)) fun x24 =>
 L8 ([x22, x24], H23)) (
 L8 ([(sl s7.1 0), (sl s7.1 1)], H15))) (
 DoB (abin .lss (sl s7.1 1) (.int .i64 0)) fun x25 =>
 GdB x25 true (
 L8 ([(sl s7.1 0), x12], H15)) (
 L8 ([(sl s7.1 0), (sl s7.1 1)], H15)))) (
 JoinB (strings_FieldsFunc_k3 Φ n a0 Q) [(sl s7.1 0), (sl s7.1 1)] H10)
def strings_FieldsFunc (Φ : CallsB) (n : Nat) (a0 : AV) (a1 : AV) (H : TH) (Q : PostB) : Bool :=
 DoHB (tmake H true 2 16 [.int .i64 0, .int .i64 0] (.int .i64 0) (.int .i64 32)) fun x1 H2 =>
 DoHB (tsrange H2 a0) fun x5 H6 =>
 LoopB (strings_FieldsFunc_l4 Φ n a0 a1 x5 Q) n ([x1, (.int .i64 (-1))], H6)
theorem eq_strings_FieldsFunc (Φ : CallsB) (n : Nat) (a0 a1 : AV) (H : TH) (Q : PostB) : fnB1 Φ n S.ir_strings_FieldsFunc [a0, a1] H Q = strings_FieldsFunc Φ n a0 a1 H Q := by kernel_rfl

end Rb.R

/- Package rabbetlaw11: its functions in the small language, and what they mean. By gen.py. -/
set_option linter.unusedVariables false
namespace Rb.S
open Go

/-! rabbet/rabbetlaw11.CheckPlaces -/
def rabbetlaw11_CheckPlaces_k1 (Φ : Calls') (x8 : AV) (x16 : AV) (Q : Post) : List AV → AH → Prop := fun j19 H20 =>
 Gd3 (sl j19 0) true (
 Do (aload H20 6 true x8) fun x24 =>
 Do (aload H20 6 true x16) fun x25 =>
Φ K.rabbetref06_Same [x24, x25] H20 fun x26 H27 =>
 Q x26 H27) (
 Q (.bool false) H20) (
 False)
def rabbetlaw11_CheckPlaces (Φ : Calls') (a0 : AV) (a1 : AV) (H : AH) (Q : Post) : Prop :=
 DoH (aboxv H false 2 a1) fun x1 H2 =>
 Do (aload H2 2 true x1) fun x3 =>
Φ K.check_Place [a0, x3] H2 fun x4 H5 =>
 Do (aextract 0 x4) fun x6 =>
 Do (aextract 1 x4) fun x7 =>
 DoH (some (abox H5 true [.int .i64 0, .int .i64 0, .bool false, .lst .nil 0 [], .int .i64 0, .lst .nil 0 []])) fun x8 H9 =>
 Do (astore H9 6 x8 x6) fun H10 =>
 Do (aload H10 2 true x1) fun x11 =>
Φ K.rabbetref11_Place [a0, x11] H10 fun x12 H13 =>
 Do (aextract 0 x12) fun x14 =>
 Do (aextract 1 x12) fun x15 =>
 DoH (some (abox H13 true [.int .i64 0, .int .i64 0, .bool false, .lst .nil 0 [], .int .i64 0, .lst .nil 0 []])) fun x16 H17 =>
 Do (astore H17 6 x16 x14) fun H18 =>
Φ K.rabbetlaw11_awake [] H18 fun x21 H22 =>
 Gd3 x21 true (
 Do (abin .eql x7 x15) fun x23 =>
 JoinP (rabbetlaw11_CheckPlaces_k1 Φ x8 x16 Q) [x23] H22) (
 JoinP (rabbetlaw11_CheckPlaces_k1 Φ x8 x16 Q) [(.bool false)] H22) (
 False)
def ir_rabbetlaw11_CheckPlaces : AFunc := ⟨32, [.tmp 4],
 .seq (.region [
   ⟨some 3, .box false 2 (.t 1), none⟩,
   ⟨some 4, .mv (.k (.bool false)), none⟩])
 (.seq (.region [
   ⟨some 10, .mv (.t 0), none⟩,
   ⟨some 11, .load 2 true (.t 3), none⟩,
   ⟨some 12, .call K.check_Place [(.t 10), (.t 11)], none⟩,
   ⟨some 9, .mv (.t 12), none⟩,
   ⟨some 13, .extract 0 (.t 9), none⟩,
   ⟨some 14, .extract 1 (.t 9), none⟩,
   ⟨some 5, .alloc true [.int .i64 0, .int .i64 0, .bool false, .lst .nil 0 [], .int .i64 0, .lst .nil 0 []], none⟩,
   ⟨none, .store 6 (.t 5) (.t 13), none⟩,
   ⟨some 6, .mv (.t 14), none⟩])
 (.seq (.region [
   ⟨some 16, .mv (.t 0), none⟩,
   ⟨some 17, .load 2 true (.t 3), none⟩,
   ⟨some 18, .call K.rabbetref11_Place [(.t 16), (.t 17)], none⟩,
   ⟨some 15, .mv (.t 18), none⟩,
   ⟨some 19, .extract 0 (.t 15), none⟩,
   ⟨some 20, .extract 1 (.t 15), none⟩,
   ⟨some 7, .alloc true [.int .i64 0, .int .i64 0, .bool false, .lst .nil 0 [], .int .i64 0, .lst .nil 0 []], none⟩,
   ⟨none, .store 6 (.t 7) (.t 19), none⟩,
   ⟨some 8, .mv (.t 20), none⟩])
 (.seq (.rjoin [26] [21, 22, 23, 24, 25] [
   ⟨some 21, .call K.rabbetlaw11_awake [], none⟩,
   ⟨some 22, .mv (.t 21), none⟩,
   ⟨some 23, .mv (.t 6), some (22, true)⟩,
   ⟨some 24, .mv (.t 8), some (22, true)⟩,
   ⟨some 25, .bin .eql (.t 23) (.t 24), some (22, true)⟩,
   ⟨some 26, .pick (.t 22) (.t 25) (.k (.bool false)), none⟩]
 (.region [
   ⟨some 27, .mv (.t 26), none⟩,
   ⟨some 28, .load 6 true (.t 5), some (27, true)⟩,
   ⟨some 29, .load 6 true (.t 7), some (27, true)⟩,
   ⟨some 30, .call K.rabbetref06_Same [(.t 28), (.t 29)], some (27, true)⟩,
   ⟨some 31, .pick (.t 27) (.t 30) (.k (.bool false)), none⟩,
   ⟨some 4, .mv (.t 31), none⟩]))
 (.ret))))⟩
theorem eq_rabbetlaw11_CheckPlaces (Φ : Calls') (a0 a1 : AV) (H : AH) (Q : Post) : fnE1 Φ ir_rabbetlaw11_CheckPlaces [a0, a1] H Q = rabbetlaw11_CheckPlaces Φ a0 a1 H Q := by kernel_rfl

/-! rabbet/rabbetlaw11.CheckOrders -/
def rabbetlaw11_CheckOrders (Φ : Calls') (a0 : AV) (a1 : AV) (H : AH) (Q : Post) : Prop :=
Φ K.rabbetlaw11_awake [] H fun x1 H2 =>
 Gd3 x1 true (
Φ K.check_Order [a0, a1] H2 fun x3 H4 =>
Φ K.rabbetref11_Order [a0, a1] H4 fun x5 H6 =>
 Do (abeq false x3 x5) fun x7 =>
 Q x7 H6) (
 Q (.bool false) H2) (
 False)
def ir_rabbetlaw11_CheckOrders : AFunc := ⟨15, [.tmp 4],
 .seq (.region [
   ⟨some 4, .mv (.k (.bool false)), none⟩])
 (.seq (.region [
   ⟨some 5, .call K.rabbetlaw11_awake [], none⟩,
   ⟨some 6, .mv (.t 5), none⟩,
   ⟨some 7, .mv (.t 0), some (6, true)⟩,
   ⟨some 8, .mv (.t 1), some (6, true)⟩,
   ⟨some 9, .call K.check_Order [(.t 7), (.t 8)], some (6, true)⟩,
   ⟨some 10, .mv (.t 0), some (6, true)⟩,
   ⟨some 11, .mv (.t 1), some (6, true)⟩,
   ⟨some 12, .call K.rabbetref11_Order [(.t 10), (.t 11)], some (6, true)⟩,
   ⟨some 13, .beq false (.t 9) (.t 12), some (6, true)⟩,
   ⟨some 14, .pick (.t 6) (.t 13) (.k (.bool false)), none⟩,
   ⟨some 4, .mv (.t 14), none⟩])
 (.ret))⟩
theorem eq_rabbetlaw11_CheckOrders (Φ : Calls') (a0 a1 : AV) (H : AH) (Q : Post) : fnE1 Φ ir_rabbetlaw11_CheckOrders [a0, a1] H Q = rabbetlaw11_CheckOrders Φ a0 a1 H Q := by kernel_rfl

/-! rabbet/rabbetlaw11.CheckParts -/
def rabbetlaw11_CheckParts_k1 (Φ : Calls') (s28 : List AV × AH) (L29 : (List AV × AH) → Prop) (Q : Post) : List AV → AH → Prop := fun j34 H35 =>
 Do (abin .add (sl s28.1 1) (.int .i64 1)) fun x51 =>
 L29 ([(sl j34 0), x51], H35)
def rabbetlaw11_CheckParts_k2 (Φ : Calls') (a1 : AV) (x1 : AV) (Q : Post) : List AV → AH → Prop := fun j52 H53 =>
 Do (afaddr 1 x1) fun x72 =>
 Do (aload H53 1 false x72) fun x73 =>
 Do (aiaddr none 1 x73 (.int .i64 0)) fun x74 =>
 Do (aload H53 1 false x74) fun x75 =>
 Do (afaddr 0 x1) fun x76 =>
 Do (aload H53 1 false x76) fun x77 =>
 Do (aconv .i64 a1) fun x78 =>
 Do (alen false x75) fun x79 =>
 Do (abin .add x79 (.int .i64 1)) fun x80 =>
 Do (abin .rem x78 x80) fun x81 =>
 Do (aslice 10 x75 none (some x81) none) fun x82 =>
 DoH (abslice H53 false 1 1 [.lst .nil 0 []] [(0, 1, x82)]) fun x83 H84 =>
 Do (abuild [.lst .nil 0 [], .lst .nil 0 []] [(0, 1, x77), (1, 1, x83)]) fun x85 =>
 DoH (some (abox H84 true [.lst .nil 0 [], .lst .nil 0 []])) fun x86 H87 =>
(aload H87 1 false x76 = some x77) ∧
(Do (astore H87 2 x86 x85) fun H88 =>
 Do (aload H88 2 true x86) fun x89 =>
Φ K.check_Prog [x89] H88 fun x90 H91 =>
 Do (afield 1 1 false x90) fun x92 =>
 Do (abin .eql x92 (.int .i64 0)) fun x93 =>
 Q x93 H91)
def rabbetlaw11_CheckParts_k3 (Φ : Calls') (a1 : AV) (x1 : AV) (x6 : AV) (j26 : List AV) (Q : Post) : List AV → AH → Prop := fun j54 H55 =>
 Gd (sl j54 0) true (
Φ K.rabbetlaw11_awake [] H55 fun x66 H67 =>
 Gd3 x66 true (
 Do (afaddr 1 x6) fun x68 =>
 Do (aload H67 1 false x68) fun x69 =>
 Do (abin .eql x69 (.int .i64 0)) fun x70 =>
 Do (abeq false (sl j26 0) x70) fun x71 =>
 Q x71 H67) (
 Q (.bool false) H67) (
 False)) (
 JoinP (rabbetlaw11_CheckParts_k2 Φ a1 x1 Q) [] H55)
def rabbetlaw11_CheckParts_k4 (Φ : Calls') (a1 : AV) (x1 : AV) (x6 : AV) (j26 : List AV) (Q : Post) : List AV → AH → Prop := fun j56 H57 =>
 Gd3 (sl j56 0) false (
 Do (aun .not (sl j26 0)) fun x65 =>
 JoinP (rabbetlaw11_CheckParts_k3 Φ a1 x1 x6 j26 Q) [x65] H57) (
 JoinP (rabbetlaw11_CheckParts_k3 Φ a1 x1 x6 j26 Q) [(.bool true)] H57) (
 False)
def rabbetlaw11_CheckParts_k5 (Φ : Calls') (a1 : AV) (x1 : AV) (x6 : AV) (Q : Post) : List AV → AH → Prop := fun j26 H27 =>
Φ K.rabbetlaw11_awake [] H27 fun x58 H59 =>
 Do (aun .not x58) fun x60 =>
 Gd3 x60 false (
 Do (afaddr 1 x6) fun x61 =>
 Do (aload H59 1 false x61) fun x62 =>
 Do (abin .eql x62 (.int .i64 0)) fun x63 =>
 Do (abeq true (sl j26 0) x63) fun x64 =>
 JoinP (rabbetlaw11_CheckParts_k4 Φ a1 x1 x6 j26 Q) [x64] H59) (
 JoinP (rabbetlaw11_CheckParts_k4 Φ a1 x1 x6 j26 Q) [(.bool true)] H59) (
 False)
def rabbetlaw11_CheckParts_l6 (Φ : Calls') (a1 : AV) (x1 : AV) (x6 : AV) (Q : Post) : (List AV × AH) → ((List AV × AH) → Prop) → Prop := fun s28 L29 =>
 Do (afaddr 1 x1) fun x30 =>
 Do (aload s28.2 1 false x30) fun x31 =>
 Do (alen false x31) fun x32 =>
 Do (abin .lss (sl s28.1 1) x32) fun x33 =>
 Gd x33 true (
 Do (afaddr 0 x1) fun x36 =>
 Do (aload s28.2 1 false x36) fun x37 =>
 Do (afaddr 1 x1) fun x38 =>
 Do (aload s28.2 1 false x38) fun x39 =>
 Do (abin .add (sl s28.1 1) (.int .i64 1)) fun x40 =>
 Do (aslice 1 x39 (some (sl s28.1 1)) (some x40) none) fun x41 =>
 Do (abuild [.lst .nil 0 [], .lst .nil 0 []] [(0, 1, x37), (1, 1, x41)]) fun x42 =>
 DoH (some (abox s28.2 true [.lst .nil 0 [], .lst .nil 0 []])) fun x43 H44 =>
(aload H44 1 false x36 = some x37) ∧
(aload H44 1 false x38 = some x39) ∧
(Do (astore H44 2 x43 x42) fun H45 =>
 Gd3 (sl s28.1 0) true (
 Do (aload H45 2 true x43) fun x46 =>
Φ K.check_Prog [x46] H45 fun x47 H48 =>
 Do (afield 1 1 false x47) fun x49 =>
 Do (abin .eql x49 (.int .i64 0)) fun x50 =>
 JoinP (rabbetlaw11_CheckParts_k1 Φ s28 L29 Q) [x50] H48) (
 JoinP (rabbetlaw11_CheckParts_k1 Φ s28 L29 Q) [(.bool false)] H45) (
 False))) (
 JoinP (rabbetlaw11_CheckParts_k5 Φ a1 x1 x6 Q) [(sl s28.1 0)] s28.2)
def rabbetlaw11_CheckParts_k7 (Φ : Calls') (a1 : AV) (x1 : AV) (x6 : AV) (Q : Post) : List AV → AH → Prop := fun j9 H10 =>
 LoopP (rabbetlaw11_CheckParts_l6 Φ a1 x1 x6 Q) ([(.bool true), (.int .i64 0)], H10)
def rabbetlaw11_CheckParts_k8 (Φ : Calls') (a1 : AV) (x1 : AV) (x6 : AV) (Q : Post) : List AV → AH → Prop := fun j11 H12 =>
 Gd (sl j11 0) true (
Φ K.rabbetlaw11_awake [] H12 fun x21 H22 =>
 Gd3 x21 true (
 Do (afaddr 1 x6) fun x23 =>
 Do (aload H22 1 false x23) fun x24 =>
 Do (abin .eql x24 (.int .i64 12)) fun x25 =>
 Q x25 H22) (
 Q (.bool false) H22) (
 False)) (
 JoinP (rabbetlaw11_CheckParts_k7 Φ a1 x1 x6 Q) [] H12)
def rabbetlaw11_CheckParts (Φ : Calls') (a0 : AV) (a1 : AV) (H : AH) (Q : Post) : Prop :=
 DoH (aboxv H false 2 a0) fun x1 H2 =>
 Do (aload H2 2 true x1) fun x3 =>
Φ K.check_Prog [x3] H2 fun x4 H5 =>
 DoH (some (abox H5 true [.int .i64 0, .int .i64 0])) fun x6 H7 =>
 Do (astore H7 2 x6 x4) fun H8 =>
 Do (afaddr 1 x1) fun x13 =>
 Do (aload H8 1 false x13) fun x14 =>
 Do (alen false x14) fun x15 =>
 Do (abin .eql x15 (.int .i64 0)) fun x16 =>
 Gd3 x16 false (
 Do (afaddr 1 x1) fun x17 =>
 Do (aload H8 1 false x17) fun x18 =>
 Do (alen false x18) fun x19 =>
 Do (abin .gtr x19 (.int .i64 8)) fun x20 =>
 JoinP (rabbetlaw11_CheckParts_k8 Φ a1 x1 x6 Q) [x20] H8) (
 JoinP (rabbetlaw11_CheckParts_k8 Φ a1 x1 x6 Q) [(.bool true)] H8) (
 False)
def ir_rabbetlaw11_CheckParts : AFunc := ⟨93, [.tmp 4],
 .seq (.region [
   ⟨some 2, .box false 2 (.t 0), none⟩,
   ⟨some 4, .mv (.k (.bool false)), none⟩])
 (.seq (.region [
   ⟨some 11, .load 2 true (.t 2), none⟩,
   ⟨some 12, .call K.check_Prog [(.t 11)], none⟩,
   ⟨some 5, .alloc true [.int .i64 0, .int .i64 0], none⟩,
   ⟨none, .store 2 (.t 5) (.t 12), none⟩])
 (.join [] [4, 13, 14, 15, 16, 17, 18, 19, 20, 21, 22, 23, 24, 25, 26, 27, 28] (.join [22] [13, 14, 15, 16, 17, 18, 19, 20, 21] (.region [
   ⟨some 13, .faddr 1 (.t 2), none⟩,
   ⟨some 14, .load 1 false (.t 13), none⟩,
   ⟨some 15, .len false (.t 14), none⟩,
   ⟨some 16, .bin .eql (.t 15) (.k (.int .i64 0)), none⟩,
   ⟨some 17, .mv (.t 16), none⟩,
   ⟨some 18, .faddr 1 (.t 2), some (17, false)⟩,
   ⟨some 19, .load 1 false (.t 18), some (17, false)⟩,
   ⟨some 20, .len false (.t 19), some (17, false)⟩,
   ⟨some 21, .bin .gtr (.t 20) (.k (.int .i64 8)), some (17, false)⟩,
   ⟨some 22, .pick (.t 17) (.k (.bool true)) (.t 21), none⟩])
 (.cond (.t 22) (.seq (.region [
     ⟨some 23, .call K.rabbetlaw11_awake [], none⟩,
     ⟨some 24, .mv (.t 23), none⟩,
     ⟨some 25, .faddr 1 (.t 5), some (24, true)⟩,
     ⟨some 26, .load 1 false (.t 25), some (24, true)⟩,
     ⟨some 27, .bin .eql (.t 26) (.k (.int .i64 12)), some (24, true)⟩,
     ⟨some 28, .pick (.t 24) (.t 27) (.k (.bool false)), none⟩,
     ⟨some 4, .mv (.t 28), none⟩])
   (.ret))
   (.skip)))
 (.seq (.region [
   ⟨some 6, .mv (.k (.bool true)), none⟩])
 (.join [6] [7, 8, 29, 30, 31, 32, 33, 34, 35, 36, 37, 38, 39, 40, 41, 42, 43, 44, 45, 46, 47, 48, 49, 50, 51] (.seq (.region [
   ⟨some 7, .mv (.k (.int .i64 0)), none⟩])
 (.block 0 (.loop [6, 7] [8, 29, 30, 31, 32, 33, 34, 35, 36, 37, 38, 39, 40, 41, 42, 43, 44, 45, 46, 47, 48, 49, 50, 51] (.seq (.seq (.region [
   ⟨some 29, .mv (.t 7), none⟩,
   ⟨some 30, .faddr 1 (.t 2), none⟩,
   ⟨some 31, .load 1 false (.t 30), none⟩,
   ⟨some 32, .len false (.t 31), none⟩,
   ⟨some 33, .bin .lss (.t 29) (.t 32), none⟩])
 (.cond (.t 33) (.skip)
   (.exit 0)))
 (.join [6] [8, 36, 37, 38, 39, 40, 41, 42, 43, 44, 45, 46, 47, 48, 49, 50, 51] (.block 1 (.seq (.draw [
   ⟨some 36, .faddr 0 (.t 2), none⟩,
   ⟨some 37, .load 1 false (.t 36), none⟩,
   ⟨some 38, .faddr 1 (.t 2), none⟩,
   ⟨some 39, .load 1 false (.t 38), none⟩,
   ⟨some 40, .mv (.t 7), none⟩,
   ⟨some 41, .mv (.t 7), none⟩,
   ⟨some 42, .bin .add (.t 41) (.k (.int .i64 1)), none⟩,
   ⟨some 43, .slice 1 (.t 39) (some (.t 40)) (some (.t 42)) none, none⟩,
   ⟨some 44, .build [.lst .nil 0 [], .lst .nil 0 []] [(0, 1, (.t 37)), (1, 1, (.t 43))], none⟩,
   ⟨some 8, .alloc true [.lst .nil 0 [], .lst .nil 0 []], none⟩,
   ⟨none, .store 2 (.t 8) (.t 44), none⟩]
 [[], [0], [], [2], [], [], [5], [2, 3, 4, 5, 6], [0, 1, 2, 3, 4, 5, 6, 7], [], [0, 1, 2, 3, 4, 5, 6, 7, 8, 9]] [([0, 1, 2, 3, 4, 5, 6, 7, 8], 9, [1, 3]), ([], 10, [])] [])
 (.region [
   ⟨some 45, .mv (.t 6), none⟩,
   ⟨some 46, .mv (.t 45), none⟩,
   ⟨some 47, .load 2 true (.t 8), some (46, true)⟩,
   ⟨some 48, .call K.check_Prog [(.t 47)], some (46, true)⟩,
   ⟨some 49, .field 1 1 false (.t 48), some (46, true)⟩,
   ⟨some 50, .bin .eql (.t 49) (.k (.int .i64 0)), some (46, true)⟩,
   ⟨some 51, .pick (.t 46) (.t 50) (.k (.bool false)), none⟩,
   ⟨some 6, .mv (.t 51), none⟩])))
 (.region [
   ⟨some 34, .mv (.t 7), none⟩,
   ⟨some 35, .bin .add (.t 34) (.k (.int .i64 1)), none⟩,
   ⟨some 7, .mv (.t 35), none⟩]))))))
 (.join [] [4, 52, 53, 54, 55, 56, 57, 58, 59, 60, 61, 62, 63, 64, 65, 66, 67, 68, 69, 70, 71, 72] (.join [64] [52, 53, 54, 55, 56, 57, 58, 59, 60, 61, 62, 63] (.rjoin [60] [52, 53, 54, 55, 56, 57, 58, 59] [
   ⟨some 52, .call K.rabbetlaw11_awake [], none⟩,
   ⟨some 53, .un .not (.t 52), none⟩,
   ⟨some 54, .mv (.t 53), none⟩,
   ⟨some 55, .mv (.t 6), some (54, false)⟩,
   ⟨some 56, .faddr 1 (.t 5), some (54, false)⟩,
   ⟨some 57, .load 1 false (.t 56), some (54, false)⟩,
   ⟨some 58, .bin .eql (.t 57) (.k (.int .i64 0)), some (54, false)⟩,
   ⟨some 59, .beq true (.t 55) (.t 58), some (54, false)⟩,
   ⟨some 60, .pick (.t 54) (.k (.bool true)) (.t 59), none⟩]
 (.region [
   ⟨some 61, .mv (.t 60), none⟩,
   ⟨some 62, .mv (.t 6), some (61, false)⟩,
   ⟨some 63, .un .not (.t 62), some (61, false)⟩,
   ⟨some 64, .pick (.t 61) (.k (.bool true)) (.t 63), none⟩]))
 (.cond (.t 64) (.seq (.region [
     ⟨some 65, .call K.rabbetlaw11_awake [], none⟩,
     ⟨some 66, .mv (.t 65), none⟩,
     ⟨some 67, .mv (.t 6), some (66, true)⟩,
     ⟨some 68, .faddr 1 (.t 5), some (66, true)⟩,
     ⟨some 69, .load 1 false (.t 68), some (66, true)⟩,
     ⟨some 70, .bin .eql (.t 69) (.k (.int .i64 0)), some (66, true)⟩,
     ⟨some 71, .beq false (.t 67) (.t 70), some (66, true)⟩,
     ⟨some 72, .pick (.t 66) (.t 71) (.k (.bool false)), none⟩,
     ⟨some 4, .mv (.t 72), none⟩])
   (.ret))
   (.skip)))
 (.seq (.region [
   ⟨some 73, .faddr 1 (.t 2), none⟩,
   ⟨some 74, .load 1 false (.t 73), none⟩,
   ⟨some 75, .iaddr none 1 (.t 74) (.k (.int .i64 0)), none⟩,
   ⟨some 76, .load 1 false (.t 75), none⟩,
   ⟨some 9, .mv (.t 76), none⟩])
 (.seq (.draw [
   ⟨some 77, .faddr 0 (.t 2), none⟩,
   ⟨some 78, .load 1 false (.t 77), none⟩,
   ⟨some 79, .mv (.t 9), none⟩,
   ⟨some 80, .mv (.t 1), none⟩,
   ⟨some 81, .conv .i64 (.t 80), none⟩,
   ⟨some 82, .mv (.t 9), none⟩,
   ⟨some 83, .len false (.t 82), none⟩,
   ⟨some 84, .bin .add (.t 83) (.k (.int .i64 1)), none⟩,
   ⟨some 85, .bin .rem (.t 81) (.t 84), none⟩,
   ⟨some 86, .slice 10 (.t 79) none (some (.t 85)) none, none⟩,
   ⟨some 87, .bslice false 1 1 [.lst .nil 0 []] [(0, 1, (.t 86))], none⟩,
   ⟨some 88, .build [.lst .nil 0 [], .lst .nil 0 []] [(0, 1, (.t 78)), (1, 1, (.t 87))], none⟩,
   ⟨some 10, .alloc true [.lst .nil 0 [], .lst .nil 0 []], none⟩,
   ⟨none, .store 2 (.t 10) (.t 88), none⟩]
 [[], [0], [], [], [3], [], [5], [5, 6], [3, 4, 5, 6, 7], [2, 3, 4, 5, 6, 7, 8], [2, 3, 4, 5, 6, 7, 8, 9], [0, 1, 2, 3, 4, 5, 6, 7, 8, 9, 10], [], [0, 1, 2, 3, 4, 5, 6, 7, 8, 9, 10, 11, 12]] [([0, 1, 2, 3, 4, 5, 6, 7, 8, 9, 10, 11], 12, [1]), ([], 13, [])] [])
 (.seq (.region [
   ⟨some 89, .load 2 true (.t 10), none⟩,
   ⟨some 90, .call K.check_Prog [(.t 89)], none⟩,
   ⟨some 91, .field 1 1 false (.t 90), none⟩,
   ⟨some 92, .bin .eql (.t 91) (.k (.int .i64 0)), none⟩,
   ⟨some 4, .mv (.t 92), none⟩])
 (.ret)))))))))⟩
theorem eq_rabbetlaw11_CheckParts (Φ : Calls') (a0 a1 : AV) (H : AH) (Q : Post) : fnE1 Φ ir_rabbetlaw11_CheckParts [a0, a1] H Q = rabbetlaw11_CheckParts Φ a0 a1 H Q := by kernel_rfl

/-! rabbet/rabbetlaw11.CheckNames -/
def rabbetlaw11_CheckNames_k1 (Φ : Calls') (x1 : AV) (x6 : AV) (x47 : AV) (Q : Post) : List AV → AH → Prop := fun j50 H51 =>
Φ K.rabbetlaw11_awake [] H51 fun x71 H72 =>
 Gd3 x71 true (
 Do (aload H72 2 true x6) fun x73 =>
 Do (aload H72 2 true x47) fun x74 =>
 Do (aeqAgg false [.n, .n] x73 x74) fun x75 =>
 Gd3 x75 false (
 Do (afaddr 1 x6) fun x76 =>
 Do (aload H72 1 false x76) fun x77 =>
 Do (abin .eql x77 (.int .i64 6)) fun x78 =>
 Gd3 x78 true (
 Do (afaddr 1 x1) fun x79 =>
 Do (aload H72 1 false x79) fun x80 =>
Φ K.rabbetlaw11_places [x80, (.int .i64 200)] H72 fun x81 H82 =>
 Do (abin .neq x81 (.int .i64 0)) fun x83 =>
 Q x83 H82) (
 Q (.bool false) H72) (
 False)) (
 Q (.bool true) H72) (
 False)) (
 Q (.bool false) H72) (
 False)
def rabbetlaw11_CheckNames_k2 (Φ : Calls') (x1 : AV) (x6 : AV) (x47 : AV) (Q : Post) : List AV → AH → Prop := fun j52 H53 =>
 Gd (sl j52 0) true (
Φ K.rabbetlaw11_awake [] H53 fun x69 H70 =>
 Q x69 H70) (
 JoinP (rabbetlaw11_CheckNames_k1 Φ x1 x6 x47 Q) [] H53)
def rabbetlaw11_CheckNames_k3 (Φ : Calls') (x1 : AV) (x6 : AV) (x47 : AV) (Q : Post) : List AV → AH → Prop := fun j54 H55 =>
 Gd3 (sl j54 0) false (
 Do (afaddr 1 x47) fun x63 =>
 Do (aload H55 1 false x63) fun x64 =>
 Do (abin .eql x64 (.int .i64 9)) fun x65 =>
 Gd3 x65 true (
 Do (afaddr 0 x47) fun x66 =>
 Do (aload H55 1 false x66) fun x67 =>
 Do (abin .eql x67 (.int .i64 0)) fun x68 =>
 JoinP (rabbetlaw11_CheckNames_k2 Φ x1 x6 x47 Q) [x68] H55) (
 JoinP (rabbetlaw11_CheckNames_k2 Φ x1 x6 x47 Q) [(.bool false)] H55) (
 False)) (
 JoinP (rabbetlaw11_CheckNames_k2 Φ x1 x6 x47 Q) [(.bool true)] H55) (
 False)
def rabbetlaw11_CheckNames_k4 (Φ : Calls') (x1 : AV) (x6 : AV) (x24 : AV) (Q : Post) : List AV → AH → Prop := fun j27 H28 =>
 Do (aload H28 2 true x24) fun x44 =>
Φ K.check_Prog [x44] H28 fun x45 H46 =>
 DoH (some (abox H46 true [.int .i64 0, .int .i64 0])) fun x47 H48 =>
 Do (astore H48 2 x47 x45) fun H49 =>
 Do (afaddr 1 x47) fun x56 =>
 Do (aload H49 1 false x56) fun x57 =>
 Do (abin .eql x57 (.int .i64 12)) fun x58 =>
 Gd3 x58 true (
 Do (afaddr 0 x24) fun x59 =>
 Do (aload H49 1 false x59) fun x60 =>
 Do (alen false x60) fun x61 =>
 Do (abin .gtr x61 (.int .i64 32)) fun x62 =>
 JoinP (rabbetlaw11_CheckNames_k3 Φ x1 x6 x47 Q) [x62] H49) (
 JoinP (rabbetlaw11_CheckNames_k3 Φ x1 x6 x47 Q) [(.bool false)] H49) (
 False)
def rabbetlaw11_CheckNames_l5 (Φ : Calls') (x1 : AV) (x6 : AV) (x24 : AV) (Q : Post) : (List AV × AH) → ((List AV × AH) → Prop) → Prop := fun s29 L30 =>
 Do (afaddr 0 x1) fun x31 =>
 Do (aload s29.2 1 false x31) fun x32 =>
 Do (alen false x32) fun x33 =>
 Do (abin .lss (sl s29.1 0) x33) fun x34 =>
 Gd x34 true (
 Do (afaddr 0 x1) fun x35 =>
 Do (aload s29.2 1 false x35) fun x36 =>
 Do (aiaddr none 7 x36 (sl s29.1 0)) fun x37 =>
 Do (afaddr 0 x37) fun x38 =>
 Do (aload s29.2 1 false x38) fun x39 =>
 Do (abin .eql x39 (.str [122, 122, 122, 122, 122])) fun x40 =>
 Gd x40 true (
Φ K.rabbetlaw11_awake [] s29.2 fun x41 H42 =>
 Q x41 H42) (
 Do (abin .add (sl s29.1 0) (.int .i64 1)) fun x43 =>
 L30 ([x43], s29.2))) (
 JoinP (rabbetlaw11_CheckNames_k4 Φ x1 x6 x24 Q) [] s29.2)
def rabbetlaw11_CheckNames (Φ : Calls') (a0 : AV) (H : AH) (Q : Post) : Prop :=
 DoH (aboxv H false 2 a0) fun x1 H2 =>
 Do (aload H2 2 true x1) fun x3 =>
Φ K.check_Prog [x3] H2 fun x4 H5 =>
 DoH (some (abox H5 true [.int .i64 0, .int .i64 0])) fun x6 H7 =>
 Do (astore H7 2 x6 x4) fun H8 =>
 DoH (abslice H8 false 7 0 [.str [], .int .i64 0, .int .i64 0, .bool false, .lst .nil 0 [], .int .i64 0, .lst .nil 0 []] []) fun x9 H10 =>
 Do (afaddr 0 x1) fun x11 =>
 Do (aload H10 1 false x11) fun x12 =>
 Do (abuild [.int .i64 0, .int .i64 0, .bool false, .lst .nil 0 [], .int .i64 0, .lst .nil 0 []] [(0, 1, (.int .i64 1)), (1, 1, (.int .i64 1))]) fun x13 =>
 Do (abuild [.str [], .int .i64 0, .int .i64 0, .bool false, .lst .nil 0 [], .int .i64 0, .lst .nil 0 []] [(0, 1, (.str [122, 122, 122, 122, 122])), (1, 6, x13)]) fun x14 =>
 DoH (abslice H10 false 7 1 [.str [], .int .i64 0, .int .i64 0, .bool false, .lst .nil 0 [], .int .i64 0, .lst .nil 0 []] [(0, 7, x14)]) fun x15 H16 =>
 Do (afaddr 1 x1) fun x17 =>
 Do (aload H16 1 false x17) fun x18 =>
 DoH (aappend H16 false 7 96 x9 x12) fun x19 H20 =>
(aload H20 1 false x17 = some x18) ∧
(DoH (aappend H20 false 7 96 x19 x15) fun x21 H22 =>
(aload H22 1 false x17 = some x18) ∧
(Do (abuild [.lst .nil 0 [], .lst .nil 0 []] [(0, 1, x21), (1, 1, x18)]) fun x23 =>
 DoH (some (abox H22 true [.lst .nil 0 [], .lst .nil 0 []])) fun x24 H25 =>
(aload H25 1 false x11 = some x12) ∧
(aload H25 1 false x17 = some x18) ∧
(Do (astore H25 2 x24 x23) fun H26 =>
 LoopP (rabbetlaw11_CheckNames_l5 Φ x1 x6 x24 Q) ([(.int .i64 0)], H26))))
def ir_rabbetlaw11_CheckNames : AFunc := ⟨74, [.tmp 2],
 .seq (.region [
   ⟨some 1, .box false 2 (.t 0), none⟩,
   ⟨some 2, .mv (.k (.bool false)), none⟩])
 (.seq (.region [
   ⟨some 7, .load 2 true (.t 1), none⟩,
   ⟨some 8, .call K.check_Prog [(.t 7)], none⟩,
   ⟨some 3, .alloc true [.int .i64 0, .int .i64 0], none⟩,
   ⟨none, .store 2 (.t 3) (.t 8), none⟩])
 (.seq (.draw [
   ⟨some 9, .bslice false 7 0 [.str [], .int .i64 0, .int .i64 0, .bool false, .lst .nil 0 [], .int .i64 0, .lst .nil 0 []] [], none⟩,
   ⟨some 10, .faddr 0 (.t 1), none⟩,
   ⟨some 11, .load 1 false (.t 10), none⟩,
   ⟨some 12, .append false 7 96 (.t 9) (.t 11), none⟩,
   ⟨some 13, .build [.int .i64 0, .int .i64 0, .bool false, .lst .nil 0 [], .int .i64 0, .lst .nil 0 []] [(0, 1, (.k (.int .i64 1))), (1, 1, (.k (.int .i64 1)))], none⟩,
   ⟨some 14, .build [.str [], .int .i64 0, .int .i64 0, .bool false, .lst .nil 0 [], .int .i64 0, .lst .nil 0 []] [(0, 1, (.k (.str [122, 122, 122, 122, 122]))), (1, 6, (.t 13))], none⟩,
   ⟨some 15, .bslice false 7 1 [.str [], .int .i64 0, .int .i64 0, .bool false, .lst .nil 0 [], .int .i64 0, .lst .nil 0 []] [(0, 7, (.t 14))], none⟩,
   ⟨some 16, .append false 7 96 (.t 12) (.t 15), none⟩,
   ⟨some 17, .faddr 1 (.t 1), none⟩,
   ⟨some 18, .load 1 false (.t 17), none⟩,
   ⟨some 19, .build [.lst .nil 0 [], .lst .nil 0 []] [(0, 1, (.t 16)), (1, 1, (.t 18))], none⟩,
   ⟨some 4, .alloc true [.lst .nil 0 [], .lst .nil 0 []], none⟩,
   ⟨none, .store 2 (.t 4) (.t 19), none⟩]
 [[], [], [1], [0, 1, 2], [], [4], [4, 5], [0, 1, 2, 3, 4, 5, 6], [], [8], [0, 1, 2, 3, 4, 5, 6, 7, 8, 9], [], [0, 1, 2, 3, 4, 5, 6, 7, 8, 9, 10, 11]] [([0, 1, 2, 4, 5, 6, 8, 9], 3, [9]), ([], 7, [9]), ([10], 11, [2, 9]), ([], 12, [])] [])
 (.join [] [2, 5, 20, 21, 22, 23, 24, 25, 26, 27, 28, 29, 30, 31, 32, 33, 34] (.seq (.region [
   ⟨some 5, .mv (.k (.int .i64 0)), none⟩])
 (.block 0 (.loop [5] [2, 20, 21, 22, 23, 24, 25, 26, 27, 28, 29, 30, 31, 32, 33, 34] (.seq (.seq (.region [
   ⟨some 20, .mv (.t 5), none⟩,
   ⟨some 21, .faddr 0 (.t 1), none⟩,
   ⟨some 22, .load 1 false (.t 21), none⟩,
   ⟨some 23, .len false (.t 22), none⟩,
   ⟨some 24, .bin .lss (.t 20) (.t 23), none⟩])
 (.cond (.t 24) (.skip)
   (.exit 0)))
 (.seq (.block 1 (.seq (.region [
   ⟨some 27, .faddr 0 (.t 1), none⟩,
   ⟨some 28, .load 1 false (.t 27), none⟩,
   ⟨some 29, .mv (.t 5), none⟩,
   ⟨some 30, .iaddr none 7 (.t 28) (.t 29), none⟩,
   ⟨some 31, .faddr 0 (.t 30), none⟩,
   ⟨some 32, .load 1 false (.t 31), none⟩,
   ⟨some 33, .bin .eql (.t 32) (.k (.str [122, 122, 122, 122, 122])), none⟩])
 (.cond (.t 33) (.seq (.region [
     ⟨some 34, .call K.rabbetlaw11_awake [], none⟩,
     ⟨some 2, .mv (.t 34), none⟩])
   (.ret))
   (.skip))))
 (.region [
   ⟨some 25, .mv (.t 5), none⟩,
   ⟨some 26, .bin .add (.t 25) (.k (.int .i64 1)), none⟩,
   ⟨some 5, .mv (.t 26), none⟩]))))))
 (.seq (.region [
   ⟨some 35, .load 2 true (.t 4), none⟩,
   ⟨some 36, .call K.check_Prog [(.t 35)], none⟩,
   ⟨some 6, .alloc true [.int .i64 0, .int .i64 0], none⟩,
   ⟨none, .store 2 (.t 6) (.t 36), none⟩])
 (.join [] [2, 37, 38, 39, 40, 41, 42, 43, 44, 45, 46, 47, 48, 49, 50, 51, 52, 53, 54, 55, 56] (.join [55] [37, 38, 39, 40, 41, 42, 43, 44, 45, 46, 47, 48, 49, 50, 51, 52, 53, 54] (.rjoin [45] [37, 38, 39, 40, 41, 42, 43, 44] [
   ⟨some 37, .faddr 1 (.t 6), none⟩,
   ⟨some 38, .load 1 false (.t 37), none⟩,
   ⟨some 39, .bin .eql (.t 38) (.k (.int .i64 12)), none⟩,
   ⟨some 40, .mv (.t 39), none⟩,
   ⟨some 41, .faddr 0 (.t 4), some (40, true)⟩,
   ⟨some 42, .load 1 false (.t 41), some (40, true)⟩,
   ⟨some 43, .len false (.t 42), some (40, true)⟩,
   ⟨some 44, .bin .gtr (.t 43) (.k (.int .i64 32)), some (40, true)⟩,
   ⟨some 45, .pick (.t 40) (.t 44) (.k (.bool false)), none⟩]
 (.region [
   ⟨some 46, .mv (.t 45), none⟩,
   ⟨some 47, .faddr 1 (.t 6), some (46, false)⟩,
   ⟨some 48, .load 1 false (.t 47), some (46, false)⟩,
   ⟨some 49, .bin .eql (.t 48) (.k (.int .i64 9)), some (46, false)⟩,
   ⟨some 50, .mv (.t 49), some (46, false)⟩,
   ⟨some 51, .faddr 0 (.t 6), some (50, true)⟩,
   ⟨some 52, .load 1 false (.t 51), some (50, true)⟩,
   ⟨some 53, .bin .eql (.t 52) (.k (.int .i64 0)), some (50, true)⟩,
   ⟨some 54, .pick (.t 50) (.t 53) (.k (.bool false)), some (46, false)⟩,
   ⟨some 55, .pick (.t 46) (.k (.bool true)) (.t 54), none⟩]))
 (.cond (.t 55) (.seq (.region [
     ⟨some 56, .call K.rabbetlaw11_awake [], none⟩,
     ⟨some 2, .mv (.t 56), none⟩])
   (.ret))
   (.skip)))
 (.seq (.region [
   ⟨some 57, .call K.rabbetlaw11_awake [], none⟩,
   ⟨some 58, .mv (.t 57), none⟩,
   ⟨some 59, .load 2 true (.t 3), some (58, true)⟩,
   ⟨some 60, .load 2 true (.t 6), some (58, true)⟩,
   ⟨some 61, .eqagg false [.n, .n] (.t 59) (.t 60), some (58, true)⟩,
   ⟨some 62, .mv (.t 61), some (58, true)⟩,
   ⟨some 63, .faddr 1 (.t 3), some (62, false)⟩,
   ⟨some 64, .load 1 false (.t 63), some (62, false)⟩,
   ⟨some 65, .bin .eql (.t 64) (.k (.int .i64 6)), some (62, false)⟩,
   ⟨some 66, .mv (.t 65), some (62, false)⟩,
   ⟨some 67, .faddr 1 (.t 1), some (66, true)⟩,
   ⟨some 68, .load 1 false (.t 67), some (66, true)⟩,
   ⟨some 69, .call K.rabbetlaw11_places [(.t 68), (.k (.int .i64 200))], some (66, true)⟩,
   ⟨some 70, .bin .neq (.t 69) (.k (.int .i64 0)), some (66, true)⟩,
   ⟨some 71, .pick (.t 66) (.t 70) (.k (.bool false)), some (62, false)⟩,
   ⟨some 72, .pick (.t 62) (.k (.bool true)) (.t 71), some (58, true)⟩,
   ⟨some 73, .pick (.t 58) (.t 72) (.k (.bool false)), none⟩,
   ⟨some 2, .mv (.t 73), none⟩])
 (.ret)))))))⟩
theorem eq_rabbetlaw11_CheckNames (Φ : Calls') (a0 : AV) (H : AH) (Q : Post) : fnE1 Φ ir_rabbetlaw11_CheckNames [a0] H Q = rabbetlaw11_CheckNames Φ a0 H Q := by kernel_rfl

/-! rabbet/rabbetlaw11.awake -/
def rabbetlaw11_awake_k1 (Φ : Calls') (Q : Post) : List AV → AH → Prop := fun j44 H45 =>
 Gd3 (sl j44 0) true (
Φ K.check_Order [(.int .i64 4), (.int .i64 2)] H45 fun x48 H49 =>
 Do (aun .not x48) fun x50 =>
 Q x50 H49) (
 Q (.bool false) H45) (
 False)
def rabbetlaw11_awake_k2 (Φ : Calls') (Q : Post) : List AV → AH → Prop := fun j34 H35 =>
 Gd3 (sl j34 0) true (
Φ K.check_Order [(.int .i64 7), (.int .i64 4)] H35 fun x46 H47 =>
 JoinP (rabbetlaw11_awake_k1 Φ Q) [x46] H47) (
 JoinP (rabbetlaw11_awake_k1 Φ Q) [(.bool false)] H35) (
 False)
def rabbetlaw11_awake (Φ : Calls') (H : AH) (Q : Post) : Prop :=
 Do (abuild [.int .i64 0, .int .i64 0, .bool false, .lst .nil 0 [], .int .i64 0, .lst .nil 0 []] [(0, 1, (.int .i64 1)), (1, 1, (.int .i64 4))]) fun x1 =>
 Do (abuild [.str [], .int .i64 0, .int .i64 0, .bool false, .lst .nil 0 [], .int .i64 0, .lst .nil 0 []] [(0, 1, (.str [120])), (1, 6, x1)]) fun x2 =>
 DoH (abslice H false 7 1 [.str [], .int .i64 0, .int .i64 0, .bool false, .lst .nil 0 [], .int .i64 0, .lst .nil 0 []] [(0, 7, x2)]) fun x3 H4 =>
 Do (abuild [.str [], .lst .nil 0 []] [(0, 1, (.str [120]))]) fun x5 =>
 Do (abuild [.int .i64 0, .int .u64 0, .str [], .int .i64 0, .int .i64 0, .str [], .lst .nil 0 [], .lst .nil 0 []] [(0, 1, (.int .i64 1)), (1, 1, (.int .u64 7))]) fun x6 =>
 DoH (abslice H4 true 8 1 [.int .i64 0, .int .u64 0, .str [], .int .i64 0, .int .i64 0, .str [], .lst .nil 0 [], .lst .nil 0 []] [(0, 8, x6)]) fun x7 H8 =>
 Do (abuild [.int .i64 0, .int .i64 0, .str [], .str [], .int .i64 0, .str [], .lst .nil 0 [], .lst .nil 0 [], .lst .nil 0 [], .lst .nil 0 []] [(0, 1, (.int .i64 3)), (1, 1, (.int .i64 3)), (5, 2, x5), (7, 1, x7)]) fun x9 =>
 DoH (abslice H8 false 10 1 [.int .i64 0, .int .i64 0, .str [], .str [], .int .i64 0, .str [], .lst .nil 0 [], .lst .nil 0 [], .lst .nil 0 [], .lst .nil 0 []] [(0, 10, x9)]) fun x10 H11 =>
 DoH (abslice H11 false 1 1 [.lst .nil 0 []] [(0, 1, x10)]) fun x12 H13 =>
 Do (abuild [.lst .nil 0 [], .lst .nil 0 []] [(0, 1, x3), (1, 1, x12)]) fun x14 =>
 DoH (some (abox H13 true [.lst .nil 0 [], .lst .nil 0 []])) fun x15 H16 =>
 Do (astore H16 2 x15 x14) fun H17 =>
 Do (aload H17 2 true x15) fun x18 =>
Φ K.check_Prog [x18] H17 fun x19 H20 =>
 DoH (some (abox H20 true [.int .i64 0, .int .i64 0])) fun x21 H22 =>
 Do (astore H22 2 x21 x19) fun H23 =>
 Do (afaddr 1 x15) fun x24 =>
 Do (aload H23 1 false x24) fun x25 =>
 Do (aiaddr none 1 x25 (.int .i64 0)) fun x26 =>
 Do (aload H23 1 false x26) fun x27 =>
 Do (aiaddr none 10 x27 (.int .i64 0)) fun x28 =>
 Do (afaddr 7 x28) fun x29 =>
 Do (aload H23 1 false x29) fun x30 =>
 Do (abuild [.int .i64 0, .int .u64 0, .str [], .int .i64 0, .int .i64 0, .str [], .lst .nil 0 [], .lst .nil 0 []] [(0, 1, (.int .i64 2)), (2, 1, (.str [121]))]) fun x31 =>
 Do (aiaddr none 8 x30 (.int .i64 0)) fun x32 =>
 Do (astore H23 8 x32 x31) fun H33 =>
 Do (afaddr 1 x21) fun x36 =>
 Do (aload H33 1 false x36) fun x37 =>
 Do (abin .eql x37 (.int .i64 0)) fun x38 =>
 Gd3 x38 true (
 Do (aload H33 2 true x15) fun x39 =>
Φ K.check_Prog [x39] H33 fun x40 H41 =>
 Do (abuild [.int .i64 0, .int .i64 0] [(0, 1, (.int .i64 3)), (1, 1, (.int .i64 6))]) fun x42 =>
 Do (aeqAgg false [.n, .n] x40 x42) fun x43 =>
 JoinP (rabbetlaw11_awake_k2 Φ Q) [x43] H41) (
 JoinP (rabbetlaw11_awake_k2 Φ Q) [(.bool false)] H33) (
 False)
def ir_rabbetlaw11_awake : AFunc := ⟨40, [.tmp 0],
 .seq (.region [
   ⟨some 0, .mv (.k (.bool false)), none⟩])
 (.seq (.region [
   ⟨some 3, .build [.int .i64 0, .int .i64 0, .bool false, .lst .nil 0 [], .int .i64 0, .lst .nil 0 []] [(0, 1, (.k (.int .i64 1))), (1, 1, (.k (.int .i64 4)))], none⟩,
   ⟨some 4, .build [.str [], .int .i64 0, .int .i64 0, .bool false, .lst .nil 0 [], .int .i64 0, .lst .nil 0 []] [(0, 1, (.k (.str [120]))), (1, 6, (.t 3))], none⟩,
   ⟨some 5, .bslice false 7 1 [.str [], .int .i64 0, .int .i64 0, .bool false, .lst .nil 0 [], .int .i64 0, .lst .nil 0 []] [(0, 7, (.t 4))], none⟩,
   ⟨some 6, .build [.str [], .lst .nil 0 []] [(0, 1, (.k (.str [120])))], none⟩,
   ⟨some 7, .build [.int .i64 0, .int .u64 0, .str [], .int .i64 0, .int .i64 0, .str [], .lst .nil 0 [], .lst .nil 0 []] [(0, 1, (.k (.int .i64 1))), (1, 1, (.k (.int .u64 7)))], none⟩,
   ⟨some 8, .bslice true 8 1 [.int .i64 0, .int .u64 0, .str [], .int .i64 0, .int .i64 0, .str [], .lst .nil 0 [], .lst .nil 0 []] [(0, 8, (.t 7))], none⟩,
   ⟨some 9, .build [.int .i64 0, .int .i64 0, .str [], .str [], .int .i64 0, .str [], .lst .nil 0 [], .lst .nil 0 [], .lst .nil 0 [], .lst .nil 0 []] [(0, 1, (.k (.int .i64 3))), (1, 1, (.k (.int .i64 3))), (5, 2, (.t 6)), (7, 1, (.t 8))], none⟩,
   ⟨some 10, .bslice false 10 1 [.int .i64 0, .int .i64 0, .str [], .str [], .int .i64 0, .str [], .lst .nil 0 [], .lst .nil 0 [], .lst .nil 0 [], .lst .nil 0 []] [(0, 10, (.t 9))], none⟩,
   ⟨some 11, .bslice false 1 1 [.lst .nil 0 []] [(0, 1, (.t 10))], none⟩,
   ⟨some 12, .build [.lst .nil 0 [], .lst .nil 0 []] [(0, 1, (.t 5)), (1, 1, (.t 11))], none⟩,
   ⟨some 1, .alloc true [.lst .nil 0 [], .lst .nil 0 []], none⟩,
   ⟨none, .store 2 (.t 1) (.t 12), none⟩])
 (.seq (.region [
   ⟨some 13, .load 2 true (.t 1), none⟩,
   ⟨some 14, .call K.check_Prog [(.t 13)], none⟩,
   ⟨some 2, .alloc true [.int .i64 0, .int .i64 0], none⟩,
   ⟨none, .store 2 (.t 2) (.t 14), none⟩])
 (.seq (.region [
   ⟨some 15, .faddr 1 (.t 1), none⟩,
   ⟨some 16, .load 1 false (.t 15), none⟩,
   ⟨some 17, .iaddr none 1 (.t 16) (.k (.int .i64 0)), none⟩,
   ⟨some 18, .load 1 false (.t 17), none⟩,
   ⟨some 19, .iaddr none 10 (.t 18) (.k (.int .i64 0)), none⟩,
   ⟨some 20, .faddr 7 (.t 19), none⟩,
   ⟨some 21, .load 1 false (.t 20), none⟩,
   ⟨some 22, .build [.int .i64 0, .int .u64 0, .str [], .int .i64 0, .int .i64 0, .str [], .lst .nil 0 [], .lst .nil 0 []] [(0, 1, (.k (.int .i64 2))), (2, 1, (.k (.str [121])))], none⟩,
   ⟨some 23, .iaddr none 8 (.t 21) (.k (.int .i64 0)), none⟩,
   ⟨none, .store 8 (.t 23) (.t 22), none⟩])
 (.seq (.rjoin [32] [24, 25, 26, 27, 28, 29, 30, 31] [
   ⟨some 24, .faddr 1 (.t 2), none⟩,
   ⟨some 25, .load 1 false (.t 24), none⟩,
   ⟨some 26, .bin .eql (.t 25) (.k (.int .i64 0)), none⟩,
   ⟨some 27, .mv (.t 26), none⟩,
   ⟨some 28, .load 2 true (.t 1), some (27, true)⟩,
   ⟨some 29, .call K.check_Prog [(.t 28)], some (27, true)⟩,
   ⟨some 30, .build [.int .i64 0, .int .i64 0] [(0, 1, (.k (.int .i64 3))), (1, 1, (.k (.int .i64 6)))], some (27, true)⟩,
   ⟨some 31, .eqagg false [.n, .n] (.t 29) (.t 30), some (27, true)⟩,
   ⟨some 32, .pick (.t 27) (.t 31) (.k (.bool false)), none⟩]
 (.rjoin [35] [33, 34] [
   ⟨some 33, .mv (.t 32), none⟩,
   ⟨some 34, .call K.check_Order [(.k (.int .i64 7)), (.k (.int .i64 4))], some (33, true)⟩,
   ⟨some 35, .pick (.t 33) (.t 34) (.k (.bool false)), none⟩]
 (.region [
   ⟨some 36, .mv (.t 35), none⟩,
   ⟨some 37, .call K.check_Order [(.k (.int .i64 4)), (.k (.int .i64 2))], some (36, true)⟩,
   ⟨some 38, .un .not (.t 37), some (36, true)⟩,
   ⟨some 39, .pick (.t 36) (.t 38) (.k (.bool false)), none⟩,
   ⟨some 0, .mv (.t 39), none⟩])))
 (.ret)))))⟩
theorem eq_rabbetlaw11_awake (Φ : Calls') (H : AH) (Q : Post) : fnE1 Φ ir_rabbetlaw11_awake [] H Q = rabbetlaw11_awake Φ H Q := by kernel_rfl

/-! rabbet/rabbetlaw11.places -/
def rabbetlaw11_places_k1 (Φ : Calls') (s7 : List AV × AH) (L8 : (List AV × AH) → Prop) (Q : Post) : List AV → AH → Prop := fun j9 H10 =>
 Do (abin .add (sl s7.1 0) (.int .i64 1)) fun x18 =>
 Do (abin .add (sl s7.1 1) (.int .i64 1)) fun x19 =>
 L8 ([x18, x19], H10)
def rabbetlaw11_places_k2 (Φ : Calls') (s1 : List AV × AH) (L2 : (List AV × AH) → Prop) (Q : Post) : List AV → AH → Prop := fun j5 H6 =>
 Do (abin .add (sl s1.1 1) (.int .i64 1)) fun x20 =>
 L2 ([(sl j5 0), x20], H6)
def rabbetlaw11_places_k3 (Φ : Calls') (s1 : List AV × AH) (L2 : (List AV × AH) → Prop) (s7 : List AV × AH) (L8 : (List AV × AH) → Prop) (Q : Post) : List AV → AH → Prop := fun j11 H12 =>
 Gd (sl j11 0) true (
 JoinP (rabbetlaw11_places_k1 Φ s7 L8 Q) [] H12) (
 JoinP (rabbetlaw11_places_k2 Φ s1 L2 Q) [(sl s7.1 0)] H12)
def rabbetlaw11_places_l4 (Φ : Calls') (a0 : AV) (a1 : AV) (s1 : List AV × AH) (L2 : (List AV × AH) → Prop) (Q : Post) : (List AV × AH) → ((List AV × AH) → Prop) → Prop := fun s7 L8 =>
 Do (aiaddr none 1 a0 (sl s1.1 1)) fun x13 =>
 Do (aload s7.2 1 false x13) fun x14 =>
 Do (alen false x14) fun x15 =>
 Do (abin .lss (sl s7.1 1) x15) fun x16 =>
 Gd3 x16 true (
 Do (abin .lss (sl s7.1 0) a1) fun x17 =>
 JoinP (rabbetlaw11_places_k3 Φ s1 L2 s7 L8 Q) [x17] s7.2) (
 JoinP (rabbetlaw11_places_k3 Φ s1 L2 s7 L8 Q) [(.bool false)] s7.2) (
 False)
def rabbetlaw11_places_l5 (Φ : Calls') (a0 : AV) (a1 : AV) (Q : Post) : (List AV × AH) → ((List AV × AH) → Prop) → Prop := fun s1 L2 =>
 Do (alen false a0) fun x3 =>
 Do (abin .lss (sl s1.1 1) x3) fun x4 =>
 Gd x4 true (
 LoopP (rabbetlaw11_places_l4 Φ a0 a1 s1 L2 Q) ([(sl s1.1 0), (.int .i64 0)], s1.2)) (
 Q (sl s1.1 0) s1.2)
def rabbetlaw11_places (Φ : Calls') (a0 : AV) (a1 : AV) (H : AH) (Q : Post) : Prop :=
 LoopP (rabbetlaw11_places_l5 Φ a0 a1 Q) ([(.int .i64 0), (.int .i64 0)], H)
def ir_rabbetlaw11_places : AFunc := ⟨31, [.tmp 4],
 .seq (.region [
   ⟨some 4, .mv (.k (.int .i64 0)), none⟩])
 (.seq (.region [
   ⟨some 5, .mv (.k (.int .i64 0)), none⟩])
 (.seq (.seq (.region [
   ⟨some 6, .mv (.k (.int .i64 0)), none⟩])
 (.block 0 (.loop [5, 6] [7, 8, 9, 10, 11, 12, 13, 14, 15, 16, 17, 18, 19, 20, 21, 22, 23, 24, 25, 26, 27, 28, 29] (.seq (.seq (.region [
   ⟨some 8, .mv (.t 6), none⟩,
   ⟨some 9, .mv (.t 0), none⟩,
   ⟨some 10, .len false (.t 9), none⟩,
   ⟨some 11, .bin .lss (.t 8) (.t 10), none⟩])
 (.cond (.t 11) (.skip)
   (.exit 0)))
 (.join [5] [7, 14, 15, 16, 17, 18, 19, 20, 21, 22, 23, 24, 25, 26, 27, 28, 29] (.block 1 (.seq (.region [
   ⟨some 7, .mv (.k (.int .i64 0)), none⟩])
 (.block 2 (.loop [5, 7] [14, 15, 16, 17, 18, 19, 20, 21, 22, 23, 24, 25, 26, 27, 28, 29] (.join [] [14, 15, 16, 17, 18, 19, 20, 21, 22, 23, 24, 25] (.join [25] [14, 15, 16, 17, 18, 19, 20, 21, 22, 23, 24] (.region [
   ⟨some 14, .mv (.t 7), none⟩,
   ⟨some 15, .mv (.t 0), none⟩,
   ⟨some 16, .mv (.t 6), none⟩,
   ⟨some 17, .iaddr none 1 (.t 15) (.t 16), none⟩,
   ⟨some 18, .load 1 false (.t 17), none⟩,
   ⟨some 19, .len false (.t 18), none⟩,
   ⟨some 20, .bin .lss (.t 14) (.t 19), none⟩,
   ⟨some 21, .mv (.t 20), none⟩,
   ⟨some 22, .mv (.t 5), some (21, true)⟩,
   ⟨some 23, .mv (.t 1), some (21, true)⟩,
   ⟨some 24, .bin .lss (.t 22) (.t 23), some (21, true)⟩,
   ⟨some 25, .pick (.t 21) (.t 24) (.k (.bool false)), none⟩])
 (.cond (.t 25) (.skip)
   (.exit 2)))
 (.seq (.block 3 (.region [
   ⟨some 28, .mv (.t 5), none⟩,
   ⟨some 29, .bin .add (.t 28) (.k (.int .i64 1)), none⟩,
   ⟨some 5, .mv (.t 29), none⟩]))
 (.region [
   ⟨some 26, .mv (.t 7), none⟩,
   ⟨some 27, .bin .add (.t 26) (.k (.int .i64 1)), none⟩,
   ⟨some 7, .mv (.t 27), none⟩])))))))
 (.region [
   ⟨some 12, .mv (.t 6), none⟩,
   ⟨some 13, .bin .add (.t 12) (.k (.int .i64 1)), none⟩,
   ⟨some 6, .mv (.t 13), none⟩]))))))
 (.seq (.region [
   ⟨some 30, .mv (.t 5), none⟩,
   ⟨some 4, .mv (.t 30), none⟩])
 (.ret))))⟩
theorem eq_rabbetlaw11_places (Φ : Calls') (a0 a1 : AV) (H : AH) (Q : Post) : fnE1 Φ ir_rabbetlaw11_places [a0, a1] H Q = rabbetlaw11_places Φ a0 a1 H Q := by kernel_rfl

def tab_rabbetlaw11 : Tab := [
  (K.rabbetlaw11_CheckPlaces, ir_rabbetlaw11_CheckPlaces),
  (K.rabbetlaw11_CheckOrders, ir_rabbetlaw11_CheckOrders),
  (K.rabbetlaw11_CheckParts, ir_rabbetlaw11_CheckParts),
  (K.rabbetlaw11_CheckNames, ir_rabbetlaw11_CheckNames),
  (K.rabbetlaw11_awake, ir_rabbetlaw11_awake),
  (K.rabbetlaw11_places, ir_rabbetlaw11_places)]

theorem cl_rabbetlaw11_CheckPlaces {Φ : Calls'} (hT : Cl Φ tab_rabbetlaw11) {a0 a1 : AV} {H : AH} {Q : Post} (h : rabbetlaw11_CheckPlaces Φ a0 a1 H Q) : Φ K.rabbetlaw11_CheckPlaces [a0, a1] H Q := hT.call (by kernel_rfl) (by kernel_rfl) (by rw [eq_rabbetlaw11_CheckPlaces]; exact h)
theorem cl_rabbetlaw11_CheckOrders {Φ : Calls'} (hT : Cl Φ tab_rabbetlaw11) {a0 a1 : AV} {H : AH} {Q : Post} (h : rabbetlaw11_CheckOrders Φ a0 a1 H Q) : Φ K.rabbetlaw11_CheckOrders [a0, a1] H Q := hT.call (by kernel_rfl) (by kernel_rfl) (by rw [eq_rabbetlaw11_CheckOrders]; exact h)
theorem cl_rabbetlaw11_CheckParts {Φ : Calls'} (hT : Cl Φ tab_rabbetlaw11) {a0 a1 : AV} {H : AH} {Q : Post} (h : rabbetlaw11_CheckParts Φ a0 a1 H Q) : Φ K.rabbetlaw11_CheckParts [a0, a1] H Q := hT.call (by kernel_rfl) (by kernel_rfl) (by rw [eq_rabbetlaw11_CheckParts]; exact h)
theorem cl_rabbetlaw11_CheckNames {Φ : Calls'} (hT : Cl Φ tab_rabbetlaw11) {a0 : AV} {H : AH} {Q : Post} (h : rabbetlaw11_CheckNames Φ a0 H Q) : Φ K.rabbetlaw11_CheckNames [a0] H Q := hT.call (by kernel_rfl) (by kernel_rfl) (by rw [eq_rabbetlaw11_CheckNames]; exact h)
theorem cl_rabbetlaw11_awake {Φ : Calls'} (hT : Cl Φ tab_rabbetlaw11) {H : AH} {Q : Post} (h : rabbetlaw11_awake Φ H Q) : Φ K.rabbetlaw11_awake [] H Q := hT.call (by kernel_rfl) (by kernel_rfl) (by rw [eq_rabbetlaw11_awake]; exact h)
theorem cl_rabbetlaw11_places {Φ : Calls'} (hT : Cl Φ tab_rabbetlaw11) {a0 a1 : AV} {H : AH} {Q : Post} (h : rabbetlaw11_places Φ a0 a1 H Q) : Φ K.rabbetlaw11_places [a0, a1] H Q := hT.call (by kernel_rfl) (by kernel_rfl) (by rw [eq_rabbetlaw11_places]; exact h)
end Rb.S

/- Package rabbetlaw11: its functions as runs. By gen.py. -/
set_option linter.unusedVariables false
namespace Rb.R
open Go

def rabbetlaw11_CheckPlaces_k1 (Φ : CallsB) (n : Nat) (x9 : AV) (x19 : AV) (Q : PostB) : List AV → TH → Bool := fun j23 H24 =>
 Gd3B (sl j23 0) true (
 DoB (aload H24.ah 6 true x9) fun x28 =>
 DoB (aload H24.ah 6 true x19) fun x30 =>
Φ K.rabbetref06_Same [x28, x30] H24 fun x32 H33 =>
 Q x32 H33) (
 Q (.bool false) H24) (
 false)
def rabbetlaw11_CheckPlaces (Φ : CallsB) (n : Nat) (a0 : AV) (a1 : AV) (H : TH) (Q : PostB) : Bool :=
 DoHB (tboxv H false 2 a1) fun x1 H2 =>
 DoB (aload H2.ah 2 true x1) fun x3 =>
Φ K.check_Place [a0, x3] H2 fun x5 H6 =>
 DoB (aextract 0 x5) fun x7 =>
 DoB (aextract 1 x5) fun x8 =>
 DoHB (some (tbox H6 true [.int .i64 0, .int .i64 0, .bool false, .lst .nil 0 [], .int .i64 0, .lst .nil 0 []])) fun x9 H10 =>
 DoB (tstore H10 6 x9 x7) fun H12 =>
 DoB (aload H12.ah 2 true x1) fun x13 =>
Φ K.rabbetref11_Place [a0, x13] H12 fun x15 H16 =>
 DoB (aextract 0 x15) fun x17 =>
 DoB (aextract 1 x15) fun x18 =>
 DoHB (some (tbox H16 true [.int .i64 0, .int .i64 0, .bool false, .lst .nil 0 [], .int .i64 0, .lst .nil 0 []])) fun x19 H20 =>
 DoB (tstore H20 6 x19 x17) fun H22 =>
Φ K.rabbetlaw11_awake [] H22 fun x25 H26 =>
 Gd3B x25 true (
 DoB (abin .eql x8 x18) fun x27 =>
 JoinB (rabbetlaw11_CheckPlaces_k1 Φ n x9 x19 Q) [x27] H26) (
 JoinB (rabbetlaw11_CheckPlaces_k1 Φ n x9 x19 Q) [(.bool false)] H26) (
 false)
theorem eq_rabbetlaw11_CheckPlaces (Φ : CallsB) (n : Nat) (a0 a1 : AV) (H : TH) (Q : PostB) : fnB1 Φ n S.ir_rabbetlaw11_CheckPlaces [a0, a1] H Q = rabbetlaw11_CheckPlaces Φ n a0 a1 H Q := by kernel_rfl

def rabbetlaw11_CheckOrders (Φ : CallsB) (n : Nat) (a0 : AV) (a1 : AV) (H : TH) (Q : PostB) : Bool :=
Φ K.rabbetlaw11_awake [] H fun x1 H2 =>
 Gd3B x1 true (
Φ K.check_Order [a0, a1] H2 fun x3 H4 =>
Φ K.rabbetref11_Order [a0, a1] H4 fun x5 H6 =>
 DoB (abeq false x3 x5) fun x7 =>
 Q x7 H6) (
 Q (.bool false) H2) (
 false)
theorem eq_rabbetlaw11_CheckOrders (Φ : CallsB) (n : Nat) (a0 a1 : AV) (H : TH) (Q : PostB) : fnB1 Φ n S.ir_rabbetlaw11_CheckOrders [a0, a1] H Q = rabbetlaw11_CheckOrders Φ n a0 a1 H Q := by kernel_rfl

def rabbetlaw11_CheckParts_k1 (Φ : CallsB) (n : Nat) (s33 : List AV × TH) (L34 : (List AV × TH) → Bool) (Q : PostB) : List AV → TH → Bool := fun j40 H41 =>
 DoB (abin .add (sl s33.1 1) (.int .i64 1)) fun x61 =>
 L34 ([(sl j40 0), x61], H41)
def rabbetlaw11_CheckParts_k2 (Φ : CallsB) (n : Nat) (a1 : AV) (x1 : AV) (Q : PostB) : List AV → TH → Bool := fun j62 H63 =>
 DoB (afaddr 1 x1) fun x84 =>
 DoB (aload H63.ah 1 false x84) fun x85 =>
 DoB (aiaddr none 1 x85 (.int .i64 0)) fun x87 =>
 DoB (aload H63.ah 1 false x87) fun x88 =>
 DoB (afaddr 0 x1) fun x90 =>
 DoB (aload H63.ah 1 false x90) fun x91 =>
 DoB (aconv .i64 a1) fun x93 =>
 DoB (alen false x88) fun x94 =>
 DoB (abin .add x94 (.int .i64 1)) fun x95 =>
 DoB (abin .rem x93 x95) fun x96 =>
 DoB (aslice 10 x88 none (some x96) none) fun x97 =>
 DoHB (tbslice H63 false 1 1 [.lst .nil 0 []] [(0, 1, x97)]) fun x98 H99 =>
 DoB (abuild [.lst .nil 0 [], .lst .nil 0 []] [(0, 1, x91), (1, 1, x98)]) fun x100 =>
 DoHB (some (tbox H99 true [.lst .nil 0 [], .lst .nil 0 []])) fun x101 H102 =>
 and (sameV (aload H102.ah 1 false x90) x91) (
 DoB (tstore H102 2 x101 x100) fun H104 =>
 DoB (aload H104.ah 2 true x101) fun x105 =>
Φ K.check_Prog [x105] H104 fun x107 H108 =>
 DoB (afield 1 1 false x107) fun x109 =>
 DoB (abin .eql x109 (.int .i64 0)) fun x110 =>
 Q x110 H108)
def rabbetlaw11_CheckParts_k3 (Φ : CallsB) (n : Nat) (a1 : AV) (x1 : AV) (x7 : AV) (j31 : List AV) (Q : PostB) : List AV → TH → Bool := fun j64 H65 =>
 GdB (sl j64 0) true (
Φ K.rabbetlaw11_awake [] H65 fun x77 H78 =>
 Gd3B x77 true (
 DoB (afaddr 1 x7) fun x79 =>
 DoB (aload H78.ah 1 false x79) fun x80 =>
 DoB (abin .eql x80 (.int .i64 0)) fun x82 =>
 DoB (abeq false (sl j31 0) x82) fun x83 =>
 Q x83 H78) (
 Q (.bool false) H78) (
 false)) (
 JoinB (rabbetlaw11_CheckParts_k2 Φ n a1 x1 Q) [] H65)
def rabbetlaw11_CheckParts_k4 (Φ : CallsB) (n : Nat) (a1 : AV) (x1 : AV) (x7 : AV) (j31 : List AV) (Q : PostB) : List AV → TH → Bool := fun j66 H67 =>
 Gd3B (sl j66 0) false (
 DoB (aun .not (sl j31 0)) fun x76 =>
 JoinB (rabbetlaw11_CheckParts_k3 Φ n a1 x1 x7 j31 Q) [x76] H67) (
 JoinB (rabbetlaw11_CheckParts_k3 Φ n a1 x1 x7 j31 Q) [(.bool true)] H67) (
 false)
def rabbetlaw11_CheckParts_k5 (Φ : CallsB) (n : Nat) (a1 : AV) (x1 : AV) (x7 : AV) (Q : PostB) : List AV → TH → Bool := fun j31 H32 =>
Φ K.rabbetlaw11_awake [] H32 fun x68 H69 =>
 DoB (aun .not x68) fun x70 =>
 Gd3B x70 false (
 DoB (afaddr 1 x7) fun x71 =>
 DoB (aload H69.ah 1 false x71) fun x72 =>
 DoB (abin .eql x72 (.int .i64 0)) fun x74 =>
 DoB (abeq true (sl j31 0) x74) fun x75 =>
 JoinB (rabbetlaw11_CheckParts_k4 Φ n a1 x1 x7 j31 Q) [x75] H69) (
 JoinB (rabbetlaw11_CheckParts_k4 Φ n a1 x1 x7 j31 Q) [(.bool true)] H69) (
 false)
def rabbetlaw11_CheckParts_l6 (Φ : CallsB) (n : Nat) (a1 : AV) (x1 : AV) (x7 : AV) (Q : PostB) : (List AV × TH) → ((List AV × TH) → Bool) → Bool := fun s33 L34 =>
 DoB (afaddr 1 x1) fun x35 =>
 DoB (aload s33.2.ah 1 false x35) fun x36 =>
 DoB (alen false x36) fun x38 =>
 DoB (abin .lss (sl s33.1 1) x38) fun x39 =>
 GdB x39 true (
 DoB (afaddr 0 x1) fun x42 =>
 DoB (aload s33.2.ah 1 false x42) fun x43 =>
 DoB (afaddr 1 x1) fun x45 =>
 DoB (aload s33.2.ah 1 false x45) fun x46 =>
 DoB (abin .add (sl s33.1 1) (.int .i64 1)) fun x48 =>
 DoB (aslice 1 x46 (some (sl s33.1 1)) (some x48) none) fun x49 =>
 DoB (abuild [.lst .nil 0 [], .lst .nil 0 []] [(0, 1, x43), (1, 1, x49)]) fun x50 =>
 DoHB (some (tbox s33.2 true [.lst .nil 0 [], .lst .nil 0 []])) fun x51 H52 =>
 and (sameV (aload H52.ah 1 false x42) x43) (
 and (sameV (aload H52.ah 1 false x45) x46) (
 DoB (tstore H52 2 x51 x50) fun H54 =>
 Gd3B (sl s33.1 0) true (
 DoB (aload H54.ah 2 true x51) fun x55 =>
Φ K.check_Prog [x55] H54 fun x57 H58 =>
 DoB (afield 1 1 false x57) fun x59 =>
 DoB (abin .eql x59 (.int .i64 0)) fun x60 =>
 JoinB (rabbetlaw11_CheckParts_k1 Φ n s33 L34 Q) [x60] H58) (
 JoinB (rabbetlaw11_CheckParts_k1 Φ n s33 L34 Q) [(.bool false)] H54) (
 false)))) (
 JoinB (rabbetlaw11_CheckParts_k5 Φ n a1 x1 x7 Q) [(sl s33.1 0)] s33.2)
def rabbetlaw11_CheckParts_k7 (Φ : CallsB) (n : Nat) (a1 : AV) (x1 : AV) (x7 : AV) (Q : PostB) : List AV → TH → Bool := fun j11 H12 =>
 LoopB (rabbetlaw11_CheckParts_l6 Φ n a1 x1 x7 Q) n ([(.bool true), (.int .i64 0)], H12)
def rabbetlaw11_CheckParts_k8 (Φ : CallsB) (n : Nat) (a1 : AV) (x1 : AV) (x7 : AV) (Q : PostB) : List AV → TH → Bool := fun j13 H14 =>
 GdB (sl j13 0) true (
Φ K.rabbetlaw11_awake [] H14 fun x25 H26 =>
 Gd3B x25 true (
 DoB (afaddr 1 x7) fun x27 =>
 DoB (aload H26.ah 1 false x27) fun x28 =>
 DoB (abin .eql x28 (.int .i64 12)) fun x30 =>
 Q x30 H26) (
 Q (.bool false) H26) (
 false)) (
 JoinB (rabbetlaw11_CheckParts_k7 Φ n a1 x1 x7 Q) [] H14)
def rabbetlaw11_CheckParts (Φ : CallsB) (n : Nat) (a0 : AV) (a1 : AV) (H : TH) (Q : PostB) : Bool :=
 DoHB (tboxv H false 2 a0) fun x1 H2 =>
 DoB (aload H2.ah 2 true x1) fun x3 =>
Φ K.check_Prog [x3] H2 fun x5 H6 =>
 DoHB (some (tbox H6 true [.int .i64 0, .int .i64 0])) fun x7 H8 =>
 DoB (tstore H8 2 x7 x5) fun H10 =>
 DoB (afaddr 1 x1) fun x15 =>
 DoB (aload H10.ah 1 false x15) fun x16 =>
 DoB (alen false x16) fun x18 =>
 DoB (abin .eql x18 (.int .i64 0)) fun x19 =>
 Gd3B x19 false (
 DoB (afaddr 1 x1) fun x20 =>
 DoB (aload H10.ah 1 false x20) fun x21 =>
 DoB (alen false x21) fun x23 =>
 DoB (abin .gtr x23 (.int .i64 8)) fun x24 =>
 JoinB (rabbetlaw11_CheckParts_k8 Φ n a1 x1 x7 Q) [x24] H10) (
 JoinB (rabbetlaw11_CheckParts_k8 Φ n a1 x1 x7 Q) [(.bool true)] H10) (
 false)
theorem eq_rabbetlaw11_CheckParts (Φ : CallsB) (n : Nat) (a0 a1 : AV) (H : TH) (Q : PostB) : fnB1 Φ n S.ir_rabbetlaw11_CheckParts [a0, a1] H Q = rabbetlaw11_CheckParts Φ n a0 a1 H Q := by kernel_rfl

def rabbetlaw11_CheckNames_k1 (Φ : CallsB) (n : Nat) (x1 : AV) (x7 : AV) (x56 : AV) (Q : PostB) : List AV → TH → Bool := fun j60 H61 =>
Φ K.rabbetlaw11_awake [] H61 fun x85 H86 =>
 Gd3B x85 true (
 DoB (aload H86.ah 2 true x7) fun x87 =>
 DoB (aload H86.ah 2 true x56) fun x89 =>
 DoB (aeqAgg false [.n, .n] x87 x89) fun x91 =>
 Gd3B x91 false (
 DoB (afaddr 1 x7) fun x92 =>
 DoB (aload H86.ah 1 false x92) fun x93 =>
 DoB (abin .eql x93 (.int .i64 6)) fun x95 =>
 Gd3B x95 true (
 DoB (afaddr 1 x1) fun x96 =>
 DoB (aload H86.ah 1 false x96) fun x97 =>
Φ K.rabbetlaw11_places [x97, (.int .i64 200)] H86 fun x99 H100 =>
 DoB (abin .neq x99 (.int .i64 0)) fun x101 =>
 Q x101 H100) (
 Q (.bool false) H86) (
 false)) (
 Q (.bool true) H86) (
 false)) (
 Q (.bool false) H86) (
 false)
def rabbetlaw11_CheckNames_k2 (Φ : CallsB) (n : Nat) (x1 : AV) (x7 : AV) (x56 : AV) (Q : PostB) : List AV → TH → Bool := fun j62 H63 =>
 GdB (sl j62 0) true (
Φ K.rabbetlaw11_awake [] H63 fun x83 H84 =>
 Q x83 H84) (
 JoinB (rabbetlaw11_CheckNames_k1 Φ n x1 x7 x56 Q) [] H63)
def rabbetlaw11_CheckNames_k3 (Φ : CallsB) (n : Nat) (x1 : AV) (x7 : AV) (x56 : AV) (Q : PostB) : List AV → TH → Bool := fun j64 H65 =>
 Gd3B (sl j64 0) false (
 DoB (afaddr 1 x56) fun x75 =>
 DoB (aload H65.ah 1 false x75) fun x76 =>
 DoB (abin .eql x76 (.int .i64 9)) fun x78 =>
 Gd3B x78 true (
 DoB (afaddr 0 x56) fun x79 =>
 DoB (aload H65.ah 1 false x79) fun x80 =>
 DoB (abin .eql x80 (.int .i64 0)) fun x82 =>
 JoinB (rabbetlaw11_CheckNames_k2 Φ n x1 x7 x56 Q) [x82] H65) (
 JoinB (rabbetlaw11_CheckNames_k2 Φ n x1 x7 x56 Q) [(.bool false)] H65) (
 false)) (
 JoinB (rabbetlaw11_CheckNames_k2 Φ n x1 x7 x56 Q) [(.bool true)] H65) (
 false)
def rabbetlaw11_CheckNames_k4 (Φ : CallsB) (n : Nat) (x1 : AV) (x7 : AV) (x28 : AV) (Q : PostB) : List AV → TH → Bool := fun j32 H33 =>
 DoB (aload H33.ah 2 true x28) fun x52 =>
Φ K.check_Prog [x52] H33 fun x54 H55 =>
 DoHB (some (tbox H55 true [.int .i64 0, .int .i64 0])) fun x56 H57 =>
 DoB (tstore H57 2 x56 x54) fun H59 =>
 DoB (afaddr 1 x56) fun x66 =>
 DoB (aload H59.ah 1 false x66) fun x67 =>
 DoB (abin .eql x67 (.int .i64 12)) fun x69 =>
 Gd3B x69 true (
 DoB (afaddr 0 x28) fun x70 =>
 DoB (aload H59.ah 1 false x70) fun x71 =>
 DoB (alen false x71) fun x73 =>
 DoB (abin .gtr x73 (.int .i64 32)) fun x74 =>
 JoinB (rabbetlaw11_CheckNames_k3 Φ n x1 x7 x56 Q) [x74] H59) (
 JoinB (rabbetlaw11_CheckNames_k3 Φ n x1 x7 x56 Q) [(.bool false)] H59) (
 false)
def rabbetlaw11_CheckNames_l5 (Φ : CallsB) (n : Nat) (x1 : AV) (x7 : AV) (x28 : AV) (Q : PostB) : (List AV × TH) → ((List AV × TH) → Bool) → Bool := fun s34 L35 =>
 DoB (afaddr 0 x1) fun x36 =>
 DoB (aload s34.2.ah 1 false x36) fun x37 =>
 DoB (alen false x37) fun x39 =>
 DoB (abin .lss (sl s34.1 0) x39) fun x40 =>
 GdB x40 true (
 DoB (afaddr 0 x1) fun x41 =>
 DoB (aload s34.2.ah 1 false x41) fun x42 =>
 DoB (aiaddr none 7 x42 (sl s34.1 0)) fun x44 =>
 DoB (afaddr 0 x44) fun x45 =>
 DoB (aload s34.2.ah 1 false x45) fun x46 =>
 DoB (abin .eql x46 (.str [122, 122, 122, 122, 122])) fun x48 =>
 GdB x48 true (
Φ K.rabbetlaw11_awake [] s34.2 fun x49 H50 =>
 Q x49 H50) (
 DoB (abin .add (sl s34.1 0) (.int .i64 1)) fun x51 =>
 L35 ([x51], s34.2))) (
 JoinB (rabbetlaw11_CheckNames_k4 Φ n x1 x7 x28 Q) [] s34.2)
def rabbetlaw11_CheckNames (Φ : CallsB) (n : Nat) (a0 : AV) (H : TH) (Q : PostB) : Bool :=
 DoHB (tboxv H false 2 a0) fun x1 H2 =>
 DoB (aload H2.ah 2 true x1) fun x3 =>
Φ K.check_Prog [x3] H2 fun x5 H6 =>
 DoHB (some (tbox H6 true [.int .i64 0, .int .i64 0])) fun x7 H8 =>
 DoB (tstore H8 2 x7 x5) fun H10 =>
 DoHB (tbslice H10 false 7 0 [.str [], .int .i64 0, .int .i64 0, .bool false, .lst .nil 0 [], .int .i64 0, .lst .nil 0 []] []) fun x11 H12 =>
 DoB (afaddr 0 x1) fun x13 =>
 DoB (aload H12.ah 1 false x13) fun x14 =>
 DoB (abuild [.int .i64 0, .int .i64 0, .bool false, .lst .nil 0 [], .int .i64 0, .lst .nil 0 []] [(0, 1, (.int .i64 1)), (1, 1, (.int .i64 1))]) fun x16 =>
 DoB (abuild [.str [], .int .i64 0, .int .i64 0, .bool false, .lst .nil 0 [], .int .i64 0, .lst .nil 0 []] [(0, 1, (.str [122, 122, 122, 122, 122])), (1, 6, x16)]) fun x17 =>
 DoHB (tbslice H12 false 7 1 [.str [], .int .i64 0, .int .i64 0, .bool false, .lst .nil 0 [], .int .i64 0, .lst .nil 0 []] [(0, 7, x17)]) fun x18 H19 =>
 DoB (afaddr 1 x1) fun x20 =>
 DoB (aload H19.ah 1 false x20) fun x21 =>
 DoHB (tappend H19 false 7 96 x11 x14) fun x23 H24 =>
 and (sameV (aload H24.ah 1 false x20) x21) (
 DoHB (tappend H24 false 7 96 x23 x18) fun x25 H26 =>
 and (sameV (aload H26.ah 1 false x20) x21) (
 DoB (abuild [.lst .nil 0 [], .lst .nil 0 []] [(0, 1, x25), (1, 1, x21)]) fun x27 =>
 DoHB (some (tbox H26 true [.lst .nil 0 [], .lst .nil 0 []])) fun x28 H29 =>
 and (sameV (aload H29.ah 1 false x13) x14) (
 and (sameV (aload H29.ah 1 false x20) x21) (
 DoB (tstore H29 2 x28 x27) fun H31 =>
 LoopB (rabbetlaw11_CheckNames_l5 Φ n x1 x7 x28 Q) n ([(.int .i64 0)], H31)))))
theorem eq_rabbetlaw11_CheckNames (Φ : CallsB) (n : Nat) (a0 : AV) (H : TH) (Q : PostB) : fnB1 Φ n S.ir_rabbetlaw11_CheckNames [a0] H Q = rabbetlaw11_CheckNames Φ n a0 H Q := by kernel_rfl

def rabbetlaw11_awake_k1 (Φ : CallsB) (n : Nat) (Q : PostB) : List AV → TH → Bool := fun j53 H54 =>
 Gd3B (sl j53 0) true (
Φ K.check_Order [(.int .i64 4), (.int .i64 2)] H54 fun x57 H58 =>
 DoB (aun .not x57) fun x59 =>
 Q x59 H58) (
 Q (.bool false) H54) (
 false)
def rabbetlaw11_awake_k2 (Φ : CallsB) (n : Nat) (Q : PostB) : List AV → TH → Bool := fun j41 H42 =>
 Gd3B (sl j41 0) true (
Φ K.check_Order [(.int .i64 7), (.int .i64 4)] H42 fun x55 H56 =>
 JoinB (rabbetlaw11_awake_k1 Φ n Q) [x55] H56) (
 JoinB (rabbetlaw11_awake_k1 Φ n Q) [(.bool false)] H42) (
 false)
def rabbetlaw11_awake (Φ : CallsB) (n : Nat) (H : TH) (Q : PostB) : Bool :=
 DoB (abuild [.int .i64 0, .int .i64 0, .bool false, .lst .nil 0 [], .int .i64 0, .lst .nil 0 []] [(0, 1, (.int .i64 1)), (1, 1, (.int .i64 4))]) fun x1 =>
 DoB (abuild [.str [], .int .i64 0, .int .i64 0, .bool false, .lst .nil 0 [], .int .i64 0, .lst .nil 0 []] [(0, 1, (.str [120])), (1, 6, x1)]) fun x2 =>
 DoHB (tbslice H false 7 1 [.str [], .int .i64 0, .int .i64 0, .bool false, .lst .nil 0 [], .int .i64 0, .lst .nil 0 []] [(0, 7, x2)]) fun x3 H4 =>
 DoB (abuild [.str [], .lst .nil 0 []] [(0, 1, (.str [120]))]) fun x5 =>
 DoB (abuild [.int .i64 0, .int .u64 0, .str [], .int .i64 0, .int .i64 0, .str [], .lst .nil 0 [], .lst .nil 0 []] [(0, 1, (.int .i64 1)), (1, 1, (.int .u64 7))]) fun x6 =>
 DoHB (tbslice H4 true 8 1 [.int .i64 0, .int .u64 0, .str [], .int .i64 0, .int .i64 0, .str [], .lst .nil 0 [], .lst .nil 0 []] [(0, 8, x6)]) fun x7 H8 =>
 DoB (abuild [.int .i64 0, .int .i64 0, .str [], .str [], .int .i64 0, .str [], .lst .nil 0 [], .lst .nil 0 [], .lst .nil 0 [], .lst .nil 0 []] [(0, 1, (.int .i64 3)), (1, 1, (.int .i64 3)), (5, 2, x5), (7, 1, x7)]) fun x9 =>
 DoHB (tbslice H8 false 10 1 [.int .i64 0, .int .i64 0, .str [], .str [], .int .i64 0, .str [], .lst .nil 0 [], .lst .nil 0 [], .lst .nil 0 [], .lst .nil 0 []] [(0, 10, x9)]) fun x10 H11 =>
 DoHB (tbslice H11 false 1 1 [.lst .nil 0 []] [(0, 1, x10)]) fun x12 H13 =>
 DoB (abuild [.lst .nil 0 [], .lst .nil 0 []] [(0, 1, x3), (1, 1, x12)]) fun x14 =>
 DoHB (some (tbox H13 true [.lst .nil 0 [], .lst .nil 0 []])) fun x15 H16 =>
 DoB (tstore H16 2 x15 x14) fun H18 =>
 DoB (aload H18.ah 2 true x15) fun x19 =>
Φ K.check_Prog [x19] H18 fun x21 H22 =>
 DoHB (some (tbox H22 true [.int .i64 0, .int .i64 0])) fun x23 H24 =>
 DoB (tstore H24 2 x23 x21) fun H26 =>
 DoB (afaddr 1 x15) fun x27 =>
 DoB (aload H26.ah 1 false x27) fun x28 =>
 DoB (aiaddr none 1 x28 (.int .i64 0)) fun x30 =>
 DoB (aload H26.ah 1 false x30) fun x31 =>
 DoB (aiaddr none 10 x31 (.int .i64 0)) fun x33 =>
 DoB (afaddr 7 x33) fun x34 =>
 DoB (aload H26.ah 1 false x34) fun x35 =>
 DoB (abuild [.int .i64 0, .int .u64 0, .str [], .int .i64 0, .int .i64 0, .str [], .lst .nil 0 [], .lst .nil 0 []] [(0, 1, (.int .i64 2)), (2, 1, (.str [121]))]) fun x37 =>
 DoB (aiaddr none 8 x35 (.int .i64 0)) fun x38 =>
 DoB (tstore H26 8 x38 x37) fun H40 =>
 DoB (afaddr 1 x23) fun x43 =>
 DoB (aload H40.ah 1 false x43) fun x44 =>
 DoB (abin .eql x44 (.int .i64 0)) fun x46 =>
 Gd3B x46 true (
 DoB (aload H40.ah 2 true x15) fun x47 =>
Φ K.check_Prog [x47] H40 fun x49 H50 =>
 DoB (abuild [.int .i64 0, .int .i64 0] [(0, 1, (.int .i64 3)), (1, 1, (.int .i64 6))]) fun x51 =>
 DoB (aeqAgg false [.n, .n] x49 x51) fun x52 =>
 JoinB (rabbetlaw11_awake_k2 Φ n Q) [x52] H50) (
 JoinB (rabbetlaw11_awake_k2 Φ n Q) [(.bool false)] H40) (
 false)
theorem eq_rabbetlaw11_awake (Φ : CallsB) (n : Nat) (H : TH) (Q : PostB) : fnB1 Φ n S.ir_rabbetlaw11_awake [] H Q = rabbetlaw11_awake Φ n H Q := by kernel_rfl

def rabbetlaw11_places_k1 (Φ : CallsB) (n : Nat) (s7 : List AV × TH) (L8 : (List AV × TH) → Bool) (Q : PostB) : List AV → TH → Bool := fun j9 H10 =>
 DoB (abin .add (sl s7.1 0) (.int .i64 1)) fun x19 =>
 DoB (abin .add (sl s7.1 1) (.int .i64 1)) fun x20 =>
 L8 ([x19, x20], H10)
def rabbetlaw11_places_k2 (Φ : CallsB) (n : Nat) (s1 : List AV × TH) (L2 : (List AV × TH) → Bool) (Q : PostB) : List AV → TH → Bool := fun j5 H6 =>
 DoB (abin .add (sl s1.1 1) (.int .i64 1)) fun x21 =>
 L2 ([(sl j5 0), x21], H6)
def rabbetlaw11_places_k3 (Φ : CallsB) (n : Nat) (s1 : List AV × TH) (L2 : (List AV × TH) → Bool) (s7 : List AV × TH) (L8 : (List AV × TH) → Bool) (Q : PostB) : List AV → TH → Bool := fun j11 H12 =>
 GdB (sl j11 0) true (
 JoinB (rabbetlaw11_places_k1 Φ n s7 L8 Q) [] H12) (
 JoinB (rabbetlaw11_places_k2 Φ n s1 L2 Q) [(sl s7.1 0)] H12)
def rabbetlaw11_places_l4 (Φ : CallsB) (n : Nat) (a0 : AV) (a1 : AV) (s1 : List AV × TH) (L2 : (List AV × TH) → Bool) (Q : PostB) : (List AV × TH) → ((List AV × TH) → Bool) → Bool := fun s7 L8 =>
 DoB (aiaddr none 1 a0 (sl s1.1 1)) fun x13 =>
 DoB (aload s7.2.ah 1 false x13) fun x14 =>
 DoB (alen false x14) fun x16 =>
 DoB (abin .lss (sl s7.1 1) x16) fun x17 =>
 Gd3B x17 true (
 DoB (abin .lss (sl s7.1 0) a1) fun x18 =>
 JoinB (rabbetlaw11_places_k3 Φ n s1 L2 s7 L8 Q) [x18] s7.2) (
 JoinB (rabbetlaw11_places_k3 Φ n s1 L2 s7 L8 Q) [(.bool false)] s7.2) (
 false)
def rabbetlaw11_places_l5 (Φ : CallsB) (n : Nat) (a0 : AV) (a1 : AV) (Q : PostB) : (List AV × TH) → ((List AV × TH) → Bool) → Bool := fun s1 L2 =>
 DoB (alen false a0) fun x3 =>
 DoB (abin .lss (sl s1.1 1) x3) fun x4 =>
 GdB x4 true (
 LoopB (rabbetlaw11_places_l4 Φ n a0 a1 s1 L2 Q) n ([(sl s1.1 0), (.int .i64 0)], s1.2)) (
 Q (sl s1.1 0) s1.2)
def rabbetlaw11_places (Φ : CallsB) (n : Nat) (a0 : AV) (a1 : AV) (H : TH) (Q : PostB) : Bool :=
 LoopB (rabbetlaw11_places_l5 Φ n a0 a1 Q) n ([(.int .i64 0), (.int .i64 0)], H)
theorem eq_rabbetlaw11_places (Φ : CallsB) (n : Nat) (a0 a1 : AV) (H : TH) (Q : PostB) : fnB1 Φ n S.ir_rabbetlaw11_places [a0, a1] H Q = rabbetlaw11_places Φ n a0 a1 H Q := by kernel_rfl

end Rb.R

/- Package rabbetref06: its functions in the small language, and what they mean. By gen.py. -/
set_option linter.unusedVariables false
namespace Rb.S
open Go

/-! rabbet/rabbetref06.Same -/
def rabbetref06_Same_k1 (Φ : Calls') (s71 : List AV × AH) (L72 : (List AV × AH) → Prop) (Q : Post) : List AV → AH → Prop := fun j77 H78 =>
 Do (abin .add (sl s71.1 0) (.int .i64 1)) fun x121 =>
 L72 ([x121], H78)
def rabbetref06_Same_k2 (Φ : Calls') (s71 : List AV × AH) (L72 : (List AV × AH) → Prop) (Q : Post) : List AV → AH → Prop := fun j93 H94 =>
 Gd (sl j93 0) true (
 Q (.bool false) H94) (
 JoinP (rabbetref06_Same_k1 Φ s71 L72 Q) [] H94)
def rabbetref06_Same_k3 (Φ : Calls') (x87 : AV) (x89 : AV) (s71 : List AV × AH) (L72 : (List AV × AH) → Prop) (Q : Post) : List AV → AH → Prop := fun j107 H108 =>
 Gd3 (sl j107 0) false (
 Do (afaddr 1 x87) fun x114 =>
 Do (aload H108 6 true x114) fun x115 =>
 Do (afaddr 1 x89) fun x116 =>
 Do (aload H108 6 true x116) fun x117 =>
Φ K.rabbetref06_Same [x115, x117] H108 fun x118 H119 =>
 Do (aun .not x118) fun x120 =>
 JoinP (rabbetref06_Same_k2 Φ s71 L72 Q) [x120] H119) (
 JoinP (rabbetref06_Same_k2 Φ s71 L72 Q) [(.bool true)] H108) (
 False)
def rabbetref06_Same_k4 (Φ : Calls') (x87 : AV) (x89 : AV) (s71 : List AV × AH) (L72 : (List AV × AH) → Prop) (Q : Post) : List AV → AH → Prop := fun j95 H96 =>
 Gd3 (sl j95 0) false (
 Do (afaddr 8 x87) fun x109 =>
 Do (aload H96 1 false x109) fun x110 =>
 Do (afaddr 8 x89) fun x111 =>
 Do (aload H96 1 false x111) fun x112 =>
 Do (abin .neq x110 x112) fun x113 =>
 JoinP (rabbetref06_Same_k3 Φ x87 x89 s71 L72 Q) [x113] H96) (
 JoinP (rabbetref06_Same_k3 Φ x87 x89 s71 L72 Q) [(.bool true)] H96) (
 False)
def rabbetref06_Same_l5 (Φ : Calls') (x1 : AV) (x3 : AV) (Q : Post) : (List AV × AH) → ((List AV × AH) → Prop) → Prop := fun s71 L72 =>
 Do (afaddr 3 x1) fun x73 =>
 Do (aload s71.2 1 false x73) fun x74 =>
 Do (alen false x74) fun x75 =>
 Do (abin .lss (sl s71.1 0) x75) fun x76 =>
 Gd x76 true (
 Do (afaddr 3 x1) fun x79 =>
 Do (aload s71.2 1 false x79) fun x80 =>
 Do (aiaddr none 9 x80 (sl s71.1 0)) fun x81 =>
 Do (aload s71.2 9 true x81) fun x82 =>
 Do (afaddr 3 x3) fun x83 =>
 Do (aload s71.2 1 false x83) fun x84 =>
 Do (aiaddr none 9 x84 (sl s71.1 0)) fun x85 =>
 Do (aload s71.2 9 true x85) fun x86 =>
 DoH (some (abox s71.2 true [.str [], .int .i64 0, .int .i64 0, .bool false, .lst .nil 0 [], .int .i64 0, .lst .nil 0 [], .bool false, .int .i64 0])) fun x87 H88 =>
(aload H88 1 false x79 = some x80) ∧
(aload H88 9 true x81 = some x82) ∧
(aload H88 1 false x83 = some x84) ∧
(aload H88 9 true x85 = some x86) ∧
(DoH (some (abox H88 true [.str [], .int .i64 0, .int .i64 0, .bool false, .lst .nil 0 [], .int .i64 0, .lst .nil 0 [], .bool false, .int .i64 0])) fun x89 H90 =>
(aload H90 1 false x79 = some x80) ∧
(aload H90 9 true x81 = some x82) ∧
(aload H90 1 false x83 = some x84) ∧
(aload H90 9 true x85 = some x86) ∧
(Do (astore H90 9 x87 x82) fun H91 =>
(aload H91 1 false x83 = some x84) ∧
(aload H91 9 true x85 = some x86) ∧
(Do (astore H91 9 x89 x86) fun H92 =>
 Do (afaddr 0 x87) fun x97 =>
 Do (aload H92 1 false x97) fun x98 =>
 Do (afaddr 0 x89) fun x99 =>
 Do (aload H92 1 false x99) fun x100 =>
 Do (abin .neq x98 x100) fun x101 =>
 Gd3 x101 false (
 Do (afaddr 7 x87) fun x102 =>
 Do (aload H92 1 false x102) fun x103 =>
 Do (afaddr 7 x89) fun x104 =>
 Do (aload H92 1 false x104) fun x105 =>
 Do (abeq true x103 x105) fun x106 =>
 JoinP (rabbetref06_Same_k4 Φ x87 x89 s71 L72 Q) [x106] H92) (
 JoinP (rabbetref06_Same_k4 Φ x87 x89 s71 L72 Q) [(.bool true)] H92) (
 False))))) (
 Q (.bool true) s71.2)
def rabbetref06_Same_k6 (Φ : Calls') (x1 : AV) (x3 : AV) (Q : Post) : List AV → AH → Prop := fun j51 H52 =>
 LoopP (rabbetref06_Same_l5 Φ x1 x3 Q) ([(.int .i64 0)], H52)
def rabbetref06_Same_l7 (Φ : Calls') (x1 : AV) (x3 : AV) (Q : Post) : (List AV × AH) → ((List AV × AH) → Prop) → Prop := fun s53 L54 =>
 Do (afaddr 5 x1) fun x55 =>
 Do (aload s53.2 1 false x55) fun x56 =>
 Do (alen false x56) fun x57 =>
 Do (abin .lss (sl s53.1 0) x57) fun x58 =>
 Gd x58 true (
 Do (afaddr 5 x1) fun x59 =>
 Do (aload s53.2 1 false x59) fun x60 =>
 Do (aiaddr none 6 x60 (sl s53.1 0)) fun x61 =>
 Do (aload s53.2 6 true x61) fun x62 =>
 Do (afaddr 5 x3) fun x63 =>
 Do (aload s53.2 1 false x63) fun x64 =>
 Do (aiaddr none 6 x64 (sl s53.1 0)) fun x65 =>
 Do (aload s53.2 6 true x65) fun x66 =>
Φ K.rabbetref06_Same [x62, x66] s53.2 fun x67 H68 =>
 Do (aun .not x67) fun x69 =>
 Gd x69 true (
 Q (.bool false) H68) (
 Do (abin .add (sl s53.1 0) (.int .i64 1)) fun x70 =>
 L54 ([x70], H68))) (
 JoinP (rabbetref06_Same_k6 Φ x1 x3 Q) [] s53.2)
def rabbetref06_Same_k8 (Φ : Calls') (x1 : AV) (x3 : AV) (Q : Post) : List AV → AH → Prop := fun j5 H6 =>
 LoopP (rabbetref06_Same_l7 Φ x1 x3 Q) ([(.int .i64 0)], H6)
def rabbetref06_Same_k9 (Φ : Calls') (x1 : AV) (x3 : AV) (Q : Post) : List AV → AH → Prop := fun j7 H8 =>
 Gd (sl j7 0) true (
 Q (.bool false) H8) (
 JoinP (rabbetref06_Same_k8 Φ x1 x3 Q) [] H8)
def rabbetref06_Same_k10 (Φ : Calls') (x1 : AV) (x3 : AV) (Q : Post) : List AV → AH → Prop := fun j35 H36 =>
 Gd3 (sl j35 0) false (
 Do (afaddr 5 x1) fun x44 =>
 Do (aload H36 1 false x44) fun x45 =>
 Do (alen false x45) fun x46 =>
 Do (afaddr 5 x3) fun x47 =>
 Do (aload H36 1 false x47) fun x48 =>
 Do (alen false x48) fun x49 =>
 Do (abin .neq x46 x49) fun x50 =>
 JoinP (rabbetref06_Same_k9 Φ x1 x3 Q) [x50] H36) (
 JoinP (rabbetref06_Same_k9 Φ x1 x3 Q) [(.bool true)] H36) (
 False)
def rabbetref06_Same_k11 (Φ : Calls') (x1 : AV) (x3 : AV) (Q : Post) : List AV → AH → Prop := fun j28 H29 =>
 Gd3 (sl j28 0) false (
 Do (afaddr 3 x1) fun x37 =>
 Do (aload H29 1 false x37) fun x38 =>
 Do (alen false x38) fun x39 =>
 Do (afaddr 3 x3) fun x40 =>
 Do (aload H29 1 false x40) fun x41 =>
 Do (alen false x41) fun x42 =>
 Do (abin .neq x39 x42) fun x43 =>
 JoinP (rabbetref06_Same_k10 Φ x1 x3 Q) [x43] H29) (
 JoinP (rabbetref06_Same_k10 Φ x1 x3 Q) [(.bool true)] H29) (
 False)
def rabbetref06_Same_k12 (Φ : Calls') (x1 : AV) (x3 : AV) (Q : Post) : List AV → AH → Prop := fun j21 H22 =>
 Gd3 (sl j21 0) false (
 Do (afaddr 4 x1) fun x30 =>
 Do (aload H22 1 false x30) fun x31 =>
 Do (afaddr 4 x3) fun x32 =>
 Do (aload H22 1 false x32) fun x33 =>
 Do (abin .neq x31 x33) fun x34 =>
 JoinP (rabbetref06_Same_k11 Φ x1 x3 Q) [x34] H22) (
 JoinP (rabbetref06_Same_k11 Φ x1 x3 Q) [(.bool true)] H22) (
 False)
def rabbetref06_Same_k13 (Φ : Calls') (x1 : AV) (x3 : AV) (Q : Post) : List AV → AH → Prop := fun j9 H10 =>
 Gd3 (sl j9 0) false (
 Do (afaddr 2 x1) fun x23 =>
 Do (aload H10 1 false x23) fun x24 =>
 Do (afaddr 2 x3) fun x25 =>
 Do (aload H10 1 false x25) fun x26 =>
 Do (abeq true x24 x26) fun x27 =>
 JoinP (rabbetref06_Same_k12 Φ x1 x3 Q) [x27] H10) (
 JoinP (rabbetref06_Same_k12 Φ x1 x3 Q) [(.bool true)] H10) (
 False)
def rabbetref06_Same (Φ : Calls') (a0 : AV) (a1 : AV) (H : AH) (Q : Post) : Prop :=
 DoH (aboxv H false 6 a0) fun x1 H2 =>
 DoH (aboxv H2 false 6 a1) fun x3 H4 =>
 Do (afaddr 0 x1) fun x11 =>
 Do (aload H4 1 false x11) fun x12 =>
 Do (afaddr 0 x3) fun x13 =>
 Do (aload H4 1 false x13) fun x14 =>
 Do (abin .neq x12 x14) fun x15 =>
 Gd3 x15 false (
 Do (afaddr 1 x1) fun x16 =>
 Do (aload H4 1 false x16) fun x17 =>
 Do (afaddr 1 x3) fun x18 =>
 Do (aload H4 1 false x18) fun x19 =>
 Do (abin .neq x17 x19) fun x20 =>
 JoinP (rabbetref06_Same_k13 Φ x1 x3 Q) [x20] H4) (
 JoinP (rabbetref06_Same_k13 Φ x1 x3 Q) [(.bool true)] H4) (
 False)
def ir_rabbetref06_Same : AFunc := ⟨116, [.tmp 4],
 .seq (.region [
   ⟨some 2, .box false 6 (.t 0), none⟩,
   ⟨some 3, .box false 6 (.t 1), none⟩,
   ⟨some 4, .mv (.k (.bool false)), none⟩])
 (.join [] [4, 9, 10, 11, 12, 13, 14, 15, 16, 17, 18, 19, 20, 21, 22, 23, 24, 25, 26, 27, 28, 29, 30, 31, 32, 33, 34, 35, 36, 37, 38, 39, 40, 41, 42, 43, 44, 45, 46, 47, 48, 49, 50, 51, 52] (.join [52] [9, 10, 11, 12, 13, 14, 15, 16, 17, 18, 19, 20, 21, 22, 23, 24, 25, 26, 27, 28, 29, 30, 31, 32, 33, 34, 35, 36, 37, 38, 39, 40, 41, 42, 43, 44, 45, 46, 47, 48, 49, 50, 51] (.rjoin [20] [9, 10, 11, 12, 13, 14, 15, 16, 17, 18, 19] [
   ⟨some 9, .faddr 0 (.t 2), none⟩,
   ⟨some 10, .load 1 false (.t 9), none⟩,
   ⟨some 11, .faddr 0 (.t 3), none⟩,
   ⟨some 12, .load 1 false (.t 11), none⟩,
   ⟨some 13, .bin .neq (.t 10) (.t 12), none⟩,
   ⟨some 14, .mv (.t 13), none⟩,
   ⟨some 15, .faddr 1 (.t 2), some (14, false)⟩,
   ⟨some 16, .load 1 false (.t 15), some (14, false)⟩,
   ⟨some 17, .faddr 1 (.t 3), some (14, false)⟩,
   ⟨some 18, .load 1 false (.t 17), some (14, false)⟩,
   ⟨some 19, .bin .neq (.t 16) (.t 18), some (14, false)⟩,
   ⟨some 20, .pick (.t 14) (.k (.bool true)) (.t 19), none⟩]
 (.rjoin [27] [21, 22, 23, 24, 25, 26] [
   ⟨some 21, .mv (.t 20), none⟩,
   ⟨some 22, .faddr 2 (.t 2), some (21, false)⟩,
   ⟨some 23, .load 1 false (.t 22), some (21, false)⟩,
   ⟨some 24, .faddr 2 (.t 3), some (21, false)⟩,
   ⟨some 25, .load 1 false (.t 24), some (21, false)⟩,
   ⟨some 26, .beq true (.t 23) (.t 25), some (21, false)⟩,
   ⟨some 27, .pick (.t 21) (.k (.bool true)) (.t 26), none⟩]
 (.rjoin [34] [28, 29, 30, 31, 32, 33] [
   ⟨some 28, .mv (.t 27), none⟩,
   ⟨some 29, .faddr 4 (.t 2), some (28, false)⟩,
   ⟨some 30, .load 1 false (.t 29), some (28, false)⟩,
   ⟨some 31, .faddr 4 (.t 3), some (28, false)⟩,
   ⟨some 32, .load 1 false (.t 31), some (28, false)⟩,
   ⟨some 33, .bin .neq (.t 30) (.t 32), some (28, false)⟩,
   ⟨some 34, .pick (.t 28) (.k (.bool true)) (.t 33), none⟩]
 (.rjoin [43] [35, 36, 37, 38, 39, 40, 41, 42] [
   ⟨some 35, .mv (.t 34), none⟩,
   ⟨some 36, .faddr 3 (.t 2), some (35, false)⟩,
   ⟨some 37, .load 1 false (.t 36), some (35, false)⟩,
   ⟨some 38, .len false (.t 37), some (35, false)⟩,
   ⟨some 39, .faddr 3 (.t 3), some (35, false)⟩,
   ⟨some 40, .load 1 false (.t 39), some (35, false)⟩,
   ⟨some 41, .len false (.t 40), some (35, false)⟩,
   ⟨some 42, .bin .neq (.t 38) (.t 41), some (35, false)⟩,
   ⟨some 43, .pick (.t 35) (.k (.bool true)) (.t 42), none⟩]
 (.region [
   ⟨some 44, .mv (.t 43), none⟩,
   ⟨some 45, .faddr 5 (.t 2), some (44, false)⟩,
   ⟨some 46, .load 1 false (.t 45), some (44, false)⟩,
   ⟨some 47, .len false (.t 46), some (44, false)⟩,
   ⟨some 48, .faddr 5 (.t 3), some (44, false)⟩,
   ⟨some 49, .load 1 false (.t 48), some (44, false)⟩,
   ⟨some 50, .len false (.t 49), some (44, false)⟩,
   ⟨some 51, .bin .neq (.t 47) (.t 50), some (44, false)⟩,
   ⟨some 52, .pick (.t 44) (.k (.bool true)) (.t 51), none⟩])))))
 (.cond (.t 52) (.seq (.region [
     ⟨some 4, .mv (.k (.bool false)), none⟩])
   (.ret))
   (.skip)))
 (.join [] [4, 5, 53, 54, 55, 56, 57, 58, 59, 60, 61, 62, 63, 64, 65, 66, 67, 68, 69, 70, 71] (.seq (.region [
   ⟨some 5, .mv (.k (.int .i64 0)), none⟩])
 (.block 0 (.loop [5] [4, 53, 54, 55, 56, 57, 58, 59, 60, 61, 62, 63, 64, 65, 66, 67, 68, 69, 70, 71] (.seq (.seq (.region [
   ⟨some 53, .mv (.t 5), none⟩,
   ⟨some 54, .faddr 5 (.t 2), none⟩,
   ⟨some 55, .load 1 false (.t 54), none⟩,
   ⟨some 56, .len false (.t 55), none⟩,
   ⟨some 57, .bin .lss (.t 53) (.t 56), none⟩])
 (.cond (.t 57) (.skip)
   (.exit 0)))
 (.seq (.block 1 (.seq (.draw [
   ⟨some 60, .faddr 5 (.t 2), none⟩,
   ⟨some 61, .load 1 false (.t 60), none⟩,
   ⟨some 62, .mv (.t 5), none⟩,
   ⟨some 63, .iaddr none 6 (.t 61) (.t 62), none⟩,
   ⟨some 64, .load 6 true (.t 63), none⟩,
   ⟨some 65, .faddr 5 (.t 3), none⟩,
   ⟨some 66, .load 1 false (.t 65), none⟩,
   ⟨some 67, .mv (.t 5), none⟩,
   ⟨some 68, .iaddr none 6 (.t 66) (.t 67), none⟩,
   ⟨some 69, .load 6 true (.t 68), none⟩,
   ⟨some 70, .call K.rabbetref06_Same [(.t 64), (.t 69)], none⟩,
   ⟨some 71, .un .not (.t 70), none⟩]
 [[], [0], [], [0, 1, 2], [0, 1, 2, 3], [], [5], [], [5, 6, 7], [5, 6, 7, 8], [0, 1, 2, 3, 4, 5, 6, 7, 8, 9], [0, 1, 2, 3, 4, 5, 6, 7, 8, 9, 10]] [([0, 1, 2, 3, 4, 5, 6, 7, 8, 9], 10, [])] [11])
 (.cond (.t 71) (.seq (.region [
     ⟨some 4, .mv (.k (.bool false)), none⟩])
   (.ret))
   (.skip))))
 (.region [
   ⟨some 58, .mv (.t 5), none⟩,
   ⟨some 59, .bin .add (.t 58) (.k (.int .i64 1)), none⟩,
   ⟨some 5, .mv (.t 59), none⟩]))))))
 (.seq (.seq (.region [
   ⟨some 6, .mv (.k (.int .i64 0)), none⟩])
 (.block 2 (.loop [6] [4, 7, 8, 72, 73, 74, 75, 76, 77, 78, 79, 80, 81, 82, 83, 84, 85, 86, 87, 88, 89, 90, 91, 92, 93, 94, 95, 96, 97, 98, 99, 100, 101, 102, 103, 104, 105, 106, 107, 108, 109, 110, 111, 112, 113, 114, 115] (.seq (.seq (.region [
   ⟨some 72, .mv (.t 6), none⟩,
   ⟨some 73, .faddr 3 (.t 2), none⟩,
   ⟨some 74, .load 1 false (.t 73), none⟩,
   ⟨some 75, .len false (.t 74), none⟩,
   ⟨some 76, .bin .lss (.t 72) (.t 75), none⟩])
 (.cond (.t 76) (.skip)
   (.exit 2)))
 (.join [] [4, 7, 8, 79, 80, 81, 82, 83, 84, 85, 86, 87, 88, 89, 90, 91, 92, 93, 94, 95, 96, 97, 98, 99, 100, 101, 102, 103, 104, 105, 106, 107, 108, 109, 110, 111, 112, 113, 114, 115] (.block 3 (.seq (.draw [
   ⟨some 79, .faddr 3 (.t 2), none⟩,
   ⟨some 80, .load 1 false (.t 79), none⟩,
   ⟨some 81, .mv (.t 6), none⟩,
   ⟨some 82, .iaddr none 9 (.t 80) (.t 81), none⟩,
   ⟨some 83, .load 9 true (.t 82), none⟩,
   ⟨some 84, .faddr 3 (.t 3), none⟩,
   ⟨some 85, .load 1 false (.t 84), none⟩,
   ⟨some 86, .mv (.t 6), none⟩,
   ⟨some 87, .iaddr none 9 (.t 85) (.t 86), none⟩,
   ⟨some 88, .load 9 true (.t 87), none⟩,
   ⟨some 7, .alloc true [.str [], .int .i64 0, .int .i64 0, .bool false, .lst .nil 0 [], .int .i64 0, .lst .nil 0 [], .bool false, .int .i64 0], none⟩,
   ⟨some 8, .alloc true [.str [], .int .i64 0, .int .i64 0, .bool false, .lst .nil 0 [], .int .i64 0, .lst .nil 0 [], .bool false, .int .i64 0], none⟩,
   ⟨none, .store 9 (.t 7) (.t 83), none⟩,
   ⟨none, .store 9 (.t 8) (.t 88), none⟩]
 [[], [0], [], [0, 1, 2], [0, 1, 2, 3], [], [5], [], [5, 6, 7], [5, 6, 7, 8], [], [], [0, 1, 2, 3, 4, 10, 11], [0, 1, 2, 3, 4, 5, 6, 7, 8, 9, 10, 11, 12]] [([0, 1, 2, 3, 4, 5, 6, 7, 8, 9], 10, [1, 4, 6, 9]), ([], 11, [1, 4, 6, 9]), ([], 12, [6, 9]), ([], 13, [])] [])
 (.join [115] [89, 90, 91, 92, 93, 94, 95, 96, 97, 98, 99, 100, 101, 102, 103, 104, 105, 106, 107, 108, 109, 110, 111, 112, 113, 114] (.rjoin [100] [89, 90, 91, 92, 93, 94, 95, 96, 97, 98, 99] [
   ⟨some 89, .faddr 0 (.t 7), none⟩,
   ⟨some 90, .load 1 false (.t 89), none⟩,
   ⟨some 91, .faddr 0 (.t 8), none⟩,
   ⟨some 92, .load 1 false (.t 91), none⟩,
   ⟨some 93, .bin .neq (.t 90) (.t 92), none⟩,
   ⟨some 94, .mv (.t 93), none⟩,
   ⟨some 95, .faddr 7 (.t 7), some (94, false)⟩,
   ⟨some 96, .load 1 false (.t 95), some (94, false)⟩,
   ⟨some 97, .faddr 7 (.t 8), some (94, false)⟩,
   ⟨some 98, .load 1 false (.t 97), some (94, false)⟩,
   ⟨some 99, .beq true (.t 96) (.t 98), some (94, false)⟩,
   ⟨some 100, .pick (.t 94) (.k (.bool true)) (.t 99), none⟩]
 (.rjoin [107] [101, 102, 103, 104, 105, 106] [
   ⟨some 101, .mv (.t 100), none⟩,
   ⟨some 102, .faddr 8 (.t 7), some (101, false)⟩,
   ⟨some 103, .load 1 false (.t 102), some (101, false)⟩,
   ⟨some 104, .faddr 8 (.t 8), some (101, false)⟩,
   ⟨some 105, .load 1 false (.t 104), some (101, false)⟩,
   ⟨some 106, .bin .neq (.t 103) (.t 105), some (101, false)⟩,
   ⟨some 107, .pick (.t 101) (.k (.bool true)) (.t 106), none⟩]
 (.region [
   ⟨some 108, .mv (.t 107), none⟩,
   ⟨some 109, .faddr 1 (.t 7), some (108, false)⟩,
   ⟨some 110, .load 6 true (.t 109), some (108, false)⟩,
   ⟨some 111, .faddr 1 (.t 8), some (108, false)⟩,
   ⟨some 112, .load 6 true (.t 111), some (108, false)⟩,
   ⟨some 113, .call K.rabbetref06_Same [(.t 110), (.t 112)], some (108, false)⟩,
   ⟨some 114, .un .not (.t 113), some (108, false)⟩,
   ⟨some 115, .pick (.t 108) (.k (.bool true)) (.t 114), none⟩])))
 (.cond (.t 115) (.seq (.region [
     ⟨some 4, .mv (.k (.bool false)), none⟩])
   (.ret))
   (.skip)))))
 (.region [
   ⟨some 77, .mv (.t 6), none⟩,
   ⟨some 78, .bin .add (.t 77) (.k (.int .i64 1)), none⟩,
   ⟨some 6, .mv (.t 78), none⟩]))))))
 (.seq (.region [
   ⟨some 4, .mv (.k (.bool true)), none⟩])
 (.ret)))))⟩
theorem eq_rabbetref06_Same (Φ : Calls') (a0 a1 : AV) (H : AH) (Q : Post) : fnE1 Φ ir_rabbetref06_Same [a0, a1] H Q = rabbetref06_Same Φ a0 a1 H Q := by kernel_rfl

/-! rabbet/rabbetref06.Sound -/
def rabbetref06_Sound (Φ : Calls') (a0 : AV) (H : AH) (Q : Post) : Prop :=
 DoH (aboxv H false 6 a0) fun x1 H2 =>
 Do (aload H2 6 true x1) fun x3 =>
Φ K.rabbetref06_Depth [x3, (.int .i64 65)] H2 fun x4 H5 =>
 Do (abin .gtr x4 (.int .i64 64)) fun x6 =>
 Gd x6 true (
 Q (.int .i64 5) H5) (
 Do (aload H5 6 true x1) fun x7 =>
Φ K.rabbetref06_inner [x7] H5 fun x8 H9 =>
 Q x8 H9)
def ir_rabbetref06_Sound : AFunc := ⟨8, [.tmp 2],
 .seq (.region [
   ⟨some 1, .box false 6 (.t 0), none⟩,
   ⟨some 2, .mv (.k (.int .i64 0)), none⟩])
 (.seq (.seq (.region [
   ⟨some 3, .load 6 true (.t 1), none⟩,
   ⟨some 4, .call K.rabbetref06_Depth [(.t 3), (.k (.int .i64 65))], none⟩,
   ⟨some 5, .bin .gtr (.t 4) (.k (.int .i64 64)), none⟩])
 (.cond (.t 5) (.seq (.region [
     ⟨some 2, .mv (.k (.int .i64 5)), none⟩])
   (.ret))
   (.skip)))
 (.seq (.region [
   ⟨some 6, .load 6 true (.t 1), none⟩,
   ⟨some 7, .call K.rabbetref06_inner [(.t 6)], none⟩,
   ⟨some 2, .mv (.t 7), none⟩])
 (.ret)))⟩
theorem eq_rabbetref06_Sound (Φ : Calls') (a0 : AV) (H : AH) (Q : Post) : fnE1 Φ ir_rabbetref06_Sound [a0] H Q = rabbetref06_Sound Φ a0 H Q := by kernel_rfl

/-! rabbet/rabbetref06.Depth -/
def rabbetref06_Depth_k1 (Φ : Calls') (s5 : List AV × AH) (L6 : (List AV × AH) → Prop) (Q : Post) : List AV → AH → Prop := fun j16 H17 =>
 Do (abin .add (sl s5.1 1) (.int .i64 1)) fun x27 =>
 L6 ([(sl j16 0), x27], H17)
def rabbetref06_Depth_k2 (Φ : Calls') (a1 : AV) (x1 : AV) (s5 : List AV × AH) (L6 : (List AV × AH) → Prop) (Q : Post) : List AV → AH → Prop := fun j7 H8 =>
 Do (afaddr 3 x1) fun x18 =>
 Do (aload H8 1 false x18) fun x19 =>
 Do (aiaddr none 9 x19 (sl s5.1 1)) fun x20 =>
 Do (afaddr 1 x20) fun x21 =>
 Do (aload H8 6 true x21) fun x22 =>
 Do (abin .sub a1 (.int .i64 1)) fun x23 =>
Φ K.rabbetref06_Depth [x22, x23] H8 fun x24 H25 =>
 Do (abin .gtr x24 (sl s5.1 0)) fun x26 =>
 Gd x26 true (
 JoinP (rabbetref06_Depth_k1 Φ s5 L6 Q) [x24] H25) (
 JoinP (rabbetref06_Depth_k1 Φ s5 L6 Q) [(sl s5.1 0)] H25)
def rabbetref06_Depth_k3 (Φ : Calls') (s30 : List AV × AH) (L31 : (List AV × AH) → Prop) (Q : Post) : List AV → AH → Prop := fun j41 H42 =>
 Do (abin .add (sl s30.1 1) (.int .i64 1)) fun x51 =>
 L31 ([(sl j41 0), x51], H42)
def rabbetref06_Depth_k4 (Φ : Calls') (a1 : AV) (x1 : AV) (s30 : List AV × AH) (L31 : (List AV × AH) → Prop) (Q : Post) : List AV → AH → Prop := fun j32 H33 =>
 Do (afaddr 5 x1) fun x43 =>
 Do (aload H33 1 false x43) fun x44 =>
 Do (aiaddr none 6 x44 (sl s30.1 1)) fun x45 =>
 Do (aload H33 6 true x45) fun x46 =>
 Do (abin .sub a1 (.int .i64 1)) fun x47 =>
Φ K.rabbetref06_Depth [x46, x47] H33 fun x48 H49 =>
 Do (abin .gtr x48 (sl s30.1 0)) fun x50 =>
 Gd x50 true (
 JoinP (rabbetref06_Depth_k3 Φ s30 L31 Q) [x48] H49) (
 JoinP (rabbetref06_Depth_k3 Φ s30 L31 Q) [(sl s30.1 0)] H49)
def rabbetref06_Depth_k5 (Φ : Calls') (Q : Post) : List AV → AH → Prop := fun j28 H29 =>
 Do (abin .add (sl j28 0) (.int .i64 1)) fun x52 =>
 Q x52 H29
def rabbetref06_Depth_k6 (Φ : Calls') (a1 : AV) (x1 : AV) (s30 : List AV × AH) (L31 : (List AV × AH) → Prop) (Q : Post) : List AV → AH → Prop := fun j34 H35 =>
 Gd (sl j34 0) true (
 JoinP (rabbetref06_Depth_k4 Φ a1 x1 s30 L31 Q) [] H35) (
 JoinP (rabbetref06_Depth_k5 Φ Q) [(sl s30.1 0)] H35)
def rabbetref06_Depth_l7 (Φ : Calls') (a1 : AV) (x1 : AV) (Q : Post) : (List AV × AH) → ((List AV × AH) → Prop) → Prop := fun s30 L31 =>
 Do (afaddr 5 x1) fun x36 =>
 Do (aload s30.2 1 false x36) fun x37 =>
 Do (alen false x37) fun x38 =>
 Do (abin .lss (sl s30.1 1) x38) fun x39 =>
 Gd3 x39 true (
 Do (abin .gtr a1 (.int .i64 1)) fun x40 =>
 JoinP (rabbetref06_Depth_k6 Φ a1 x1 s30 L31 Q) [x40] s30.2) (
 JoinP (rabbetref06_Depth_k6 Φ a1 x1 s30 L31 Q) [(.bool false)] s30.2) (
 False)
def rabbetref06_Depth_k8 (Φ : Calls') (a1 : AV) (x1 : AV) (Q : Post) : List AV → AH → Prop := fun j3 H4 =>
 LoopP (rabbetref06_Depth_l7 Φ a1 x1 Q) ([(sl j3 0), (.int .i64 0)], H4)
def rabbetref06_Depth_k9 (Φ : Calls') (a1 : AV) (x1 : AV) (s5 : List AV × AH) (L6 : (List AV × AH) → Prop) (Q : Post) : List AV → AH → Prop := fun j9 H10 =>
 Gd (sl j9 0) true (
 JoinP (rabbetref06_Depth_k2 Φ a1 x1 s5 L6 Q) [] H10) (
 JoinP (rabbetref06_Depth_k8 Φ a1 x1 Q) [(sl s5.1 0)] H10)
def rabbetref06_Depth_l10 (Φ : Calls') (a1 : AV) (x1 : AV) (Q : Post) : (List AV × AH) → ((List AV × AH) → Prop) → Prop := fun s5 L6 =>
 Do (afaddr 3 x1) fun x11 =>
 Do (aload s5.2 1 false x11) fun x12 =>
 Do (alen false x12) fun x13 =>
 Do (abin .lss (sl s5.1 1) x13) fun x14 =>
 Gd3 x14 true (
 Do (abin .gtr a1 (.int .i64 1)) fun x15 =>
 JoinP (rabbetref06_Depth_k9 Φ a1 x1 s5 L6 Q) [x15] s5.2) (
 JoinP (rabbetref06_Depth_k9 Φ a1 x1 s5 L6 Q) [(.bool false)] s5.2) (
 False)
def rabbetref06_Depth (Φ : Calls') (a0 : AV) (a1 : AV) (H : AH) (Q : Post) : Prop :=
 DoH (aboxv H false 6 a0) fun x1 H2 =>
 LoopP (rabbetref06_Depth_l10 Φ a1 x1 Q) ([(.int .i64 0), (.int .i64 0)], H2)
def ir_rabbetref06_Depth : AFunc := ⟨59, [.tmp 4],
 .seq (.region [
   ⟨some 2, .box false 6 (.t 0), none⟩,
   ⟨some 4, .mv (.k (.int .i64 0)), none⟩])
 (.seq (.region [
   ⟨some 5, .mv (.k (.int .i64 0)), none⟩])
 (.join [5] [6, 7, 10, 11, 12, 13, 14, 15, 16, 17, 18, 19, 20, 21, 22, 23, 24, 25, 26, 27, 28, 29, 30, 31, 32, 33] (.seq (.region [
   ⟨some 6, .mv (.k (.int .i64 0)), none⟩])
 (.block 0 (.loop [5, 6] [7, 10, 11, 12, 13, 14, 15, 16, 17, 18, 19, 20, 21, 22, 23, 24, 25, 26, 27, 28, 29, 30, 31, 32, 33] (.join [] [10, 11, 12, 13, 14, 15, 16, 17, 18] (.join [18] [10, 11, 12, 13, 14, 15, 16, 17] (.region [
   ⟨some 10, .mv (.t 6), none⟩,
   ⟨some 11, .faddr 3 (.t 2), none⟩,
   ⟨some 12, .load 1 false (.t 11), none⟩,
   ⟨some 13, .len false (.t 12), none⟩,
   ⟨some 14, .bin .lss (.t 10) (.t 13), none⟩,
   ⟨some 15, .mv (.t 14), none⟩,
   ⟨some 16, .mv (.t 1), some (15, true)⟩,
   ⟨some 17, .bin .gtr (.t 16) (.k (.int .i64 1)), some (15, true)⟩,
   ⟨some 18, .pick (.t 15) (.t 17) (.k (.bool false)), none⟩])
 (.cond (.t 18) (.skip)
   (.exit 0)))
 (.join [5] [7, 21, 22, 23, 24, 25, 26, 27, 28, 29, 30, 31, 32, 33] (.block 1 (.seq (.region [
   ⟨some 21, .faddr 3 (.t 2), none⟩,
   ⟨some 22, .load 1 false (.t 21), none⟩,
   ⟨some 23, .mv (.t 6), none⟩,
   ⟨some 24, .iaddr none 9 (.t 22) (.t 23), none⟩,
   ⟨some 25, .faddr 1 (.t 24), none⟩,
   ⟨some 26, .load 6 true (.t 25), none⟩,
   ⟨some 27, .mv (.t 1), none⟩,
   ⟨some 28, .bin .sub (.t 27) (.k (.int .i64 1)), none⟩,
   ⟨some 29, .call K.rabbetref06_Depth [(.t 26), (.t 28)], none⟩,
   ⟨some 7, .mv (.t 29), none⟩])
 (.seq (.region [
   ⟨some 30, .mv (.t 7), none⟩,
   ⟨some 31, .mv (.t 5), none⟩,
   ⟨some 32, .bin .gtr (.t 30) (.t 31), none⟩])
 (.cond (.t 32) (.region [
     ⟨some 33, .mv (.t 7), none⟩,
     ⟨some 5, .mv (.t 33), none⟩])
   (.skip)))))
 (.region [
   ⟨some 19, .mv (.t 6), none⟩,
   ⟨some 20, .bin .add (.t 19) (.k (.int .i64 1)), none⟩,
   ⟨some 6, .mv (.t 20), none⟩]))))))
 (.join [5] [8, 9, 34, 35, 36, 37, 38, 39, 40, 41, 42, 43, 44, 45, 46, 47, 48, 49, 50, 51, 52, 53, 54, 55, 56] (.seq (.region [
   ⟨some 8, .mv (.k (.int .i64 0)), none⟩])
 (.block 2 (.loop [5, 8] [9, 34, 35, 36, 37, 38, 39, 40, 41, 42, 43, 44, 45, 46, 47, 48, 49, 50, 51, 52, 53, 54, 55, 56] (.join [] [34, 35, 36, 37, 38, 39, 40, 41, 42] (.join [42] [34, 35, 36, 37, 38, 39, 40, 41] (.region [
   ⟨some 34, .mv (.t 8), none⟩,
   ⟨some 35, .faddr 5 (.t 2), none⟩,
   ⟨some 36, .load 1 false (.t 35), none⟩,
   ⟨some 37, .len false (.t 36), none⟩,
   ⟨some 38, .bin .lss (.t 34) (.t 37), none⟩,
   ⟨some 39, .mv (.t 38), none⟩,
   ⟨some 40, .mv (.t 1), some (39, true)⟩,
   ⟨some 41, .bin .gtr (.t 40) (.k (.int .i64 1)), some (39, true)⟩,
   ⟨some 42, .pick (.t 39) (.t 41) (.k (.bool false)), none⟩])
 (.cond (.t 42) (.skip)
   (.exit 2)))
 (.join [5] [9, 45, 46, 47, 48, 49, 50, 51, 52, 53, 54, 55, 56] (.block 3 (.seq (.region [
   ⟨some 45, .faddr 5 (.t 2), none⟩,
   ⟨some 46, .load 1 false (.t 45), none⟩,
   ⟨some 47, .mv (.t 8), none⟩,
   ⟨some 48, .iaddr none 6 (.t 46) (.t 47), none⟩,
   ⟨some 49, .load 6 true (.t 48), none⟩,
   ⟨some 50, .mv (.t 1), none⟩,
   ⟨some 51, .bin .sub (.t 50) (.k (.int .i64 1)), none⟩,
   ⟨some 52, .call K.rabbetref06_Depth [(.t 49), (.t 51)], none⟩,
   ⟨some 9, .mv (.t 52), none⟩])
 (.seq (.region [
   ⟨some 53, .mv (.t 9), none⟩,
   ⟨some 54, .mv (.t 5), none⟩,
   ⟨some 55, .bin .gtr (.t 53) (.t 54), none⟩])
 (.cond (.t 55) (.region [
     ⟨some 56, .mv (.t 9), none⟩,
     ⟨some 5, .mv (.t 56), none⟩])
   (.skip)))))
 (.region [
   ⟨some 43, .mv (.t 8), none⟩,
   ⟨some 44, .bin .add (.t 43) (.k (.int .i64 1)), none⟩,
   ⟨some 8, .mv (.t 44), none⟩]))))))
 (.seq (.region [
   ⟨some 57, .mv (.t 5), none⟩,
   ⟨some 58, .bin .add (.t 57) (.k (.int .i64 1)), none⟩,
   ⟨some 4, .mv (.t 58), none⟩])
 (.ret)))))⟩
theorem eq_rabbetref06_Depth (Φ : Calls') (a0 a1 : AV) (H : AH) (Q : Post) : fnE1 Φ ir_rabbetref06_Depth [a0, a1] H Q = rabbetref06_Depth Φ a0 a1 H Q := by kernel_rfl

/-! rabbet/rabbetref06.inner -/
def rabbetref06_inner_k1 (Φ : Calls') (Q : Post) : List AV → AH → Prop := fun j29 H30 =>
 Gd (sl j29 0) true (
 Q (.int .i64 9) H30) (
 Q (.int .i64 0) H30)
def rabbetref06_inner_k2 (Φ : Calls') (x1 : AV) (Q : Post) : List AV → AH → Prop := fun j31 H32 =>
 Gd3 (sl j31 0) false (
 Do (afaddr 0 x1) fun x41 =>
 Do (aload H32 1 false x41) fun x42 =>
 Do (abin .eql x42 (.int .i64 2)) fun x43 =>
 Gd3 x43 true (
 Do (afaddr 1 x1) fun x44 =>
 Do (aload H32 1 false x44) fun x45 =>
Φ K.rabbetref06_size [x45, (.int .i64 16)] H32 fun x46 H47 =>
 Do (aun .not x46) fun x48 =>
 JoinP (rabbetref06_inner_k1 Φ Q) [x48] H47) (
 JoinP (rabbetref06_inner_k1 Φ Q) [(.bool false)] H32) (
 False)) (
 JoinP (rabbetref06_inner_k1 Φ Q) [(.bool true)] H32) (
 False)
def rabbetref06_inner_k3 (Φ : Calls') (x1 : AV) (Q : Post) : List AV → AH → Prop := fun j8 H9 =>
 Do (afaddr 0 x1) fun x33 =>
 Do (aload H9 1 false x33) fun x34 =>
 Do (abin .eql x34 (.int .i64 1)) fun x35 =>
 Gd3 x35 true (
 Do (afaddr 1 x1) fun x36 =>
 Do (aload H9 1 false x36) fun x37 =>
Φ K.rabbetref06_size [x37, (.int .i64 8)] H9 fun x38 H39 =>
 Do (aun .not x38) fun x40 =>
 JoinP (rabbetref06_inner_k2 Φ x1 Q) [x40] H39) (
 JoinP (rabbetref06_inner_k2 Φ x1 Q) [(.bool false)] H9) (
 False)
def rabbetref06_inner_k4 (Φ : Calls') (x1 : AV) (Q : Post) : List AV → AH → Prop := fun j10 H11 =>
 Gd (sl j10 0) true (
 Q (.int .i64 8) H11) (
 JoinP (rabbetref06_inner_k3 Φ x1 Q) [] H11)
def rabbetref06_inner_k5 (Φ : Calls') (x1 : AV) (Q : Post) : List AV → AH → Prop := fun j20 H21 =>
 Gd3 (sl j20 0) false (
 Do (afaddr 5 x1) fun x25 =>
 Do (aload H21 1 false x25) fun x26 =>
 Do (alen false x26) fun x27 =>
 Do (abin .gtr x27 (.int .i64 0)) fun x28 =>
 JoinP (rabbetref06_inner_k4 Φ x1 Q) [x28] H21) (
 JoinP (rabbetref06_inner_k4 Φ x1 Q) [(.bool true)] H21) (
 False)
def rabbetref06_inner_k6 (Φ : Calls') (x1 : AV) (Q : Post) : List AV → AH → Prop := fun j12 H13 =>
 Gd3 (sl j12 0) false (
 Do (afaddr 4 x1) fun x22 =>
 Do (aload H13 1 false x22) fun x23 =>
 Do (abin .neq x23 (.int .i64 0)) fun x24 =>
 JoinP (rabbetref06_inner_k5 Φ x1 Q) [x24] H13) (
 JoinP (rabbetref06_inner_k5 Φ x1 Q) [(.bool true)] H13) (
 False)
def rabbetref06_inner_k7 (Φ : Calls') (x1 : AV) (Q : Post) : List AV → AH → Prop := fun j71 H72 =>
 Do (afaddr 5 x1) fun x81 =>
 Do (aload H72 1 false x81) fun x82 =>
 Do (aiaddr none 6 x82 (.int .i64 0)) fun x83 =>
 Do (aload H72 6 true x83) fun x84 =>
Φ K.rabbetref06_inner [x84] H72 fun x85 H86 =>
 Q x85 H86
def rabbetref06_inner_k8 (Φ : Calls') (x1 : AV) (Q : Post) : List AV → AH → Prop := fun j73 H74 =>
 Gd (sl j73 0) true (
 Q (.int .i64 9) H74) (
 JoinP (rabbetref06_inner_k7 Φ x1 Q) [] H74)
def rabbetref06_inner_k9 (Φ : Calls') (x1 : AV) (Q : Post) : List AV → AH → Prop := fun j50 H51 =>
 Do (afaddr 4 x1) fun x75 =>
 Do (aload H51 1 false x75) fun x76 =>
 Do (abin .lss x76 (.int .i64 1)) fun x77 =>
 Gd3 x77 false (
 Do (afaddr 4 x1) fun x78 =>
 Do (aload H51 1 false x78) fun x79 =>
 Do (abin .gtr x79 (.int .i64 65536)) fun x80 =>
 JoinP (rabbetref06_inner_k8 Φ x1 Q) [x80] H51) (
 JoinP (rabbetref06_inner_k8 Φ x1 Q) [(.bool true)] H51) (
 False)
def rabbetref06_inner_k10 (Φ : Calls') (x1 : AV) (Q : Post) : List AV → AH → Prop := fun j52 H53 =>
 Gd (sl j52 0) true (
 Q (.int .i64 8) H53) (
 JoinP (rabbetref06_inner_k9 Φ x1 Q) [] H53)
def rabbetref06_inner_k11 (Φ : Calls') (x1 : AV) (Q : Post) : List AV → AH → Prop := fun j62 H63 =>
 Gd3 (sl j62 0) false (
 Do (afaddr 5 x1) fun x67 =>
 Do (aload H63 1 false x67) fun x68 =>
 Do (alen false x68) fun x69 =>
 Do (abin .neq x69 (.int .i64 1)) fun x70 =>
 JoinP (rabbetref06_inner_k10 Φ x1 Q) [x70] H63) (
 JoinP (rabbetref06_inner_k10 Φ x1 Q) [(.bool true)] H63) (
 False)
def rabbetref06_inner_k12 (Φ : Calls') (x1 : AV) (Q : Post) : List AV → AH → Prop := fun j54 H55 =>
 Gd3 (sl j54 0) false (
 Do (afaddr 1 x1) fun x64 =>
 Do (aload H55 1 false x64) fun x65 =>
 Do (abin .neq x65 (.int .i64 0)) fun x66 =>
 JoinP (rabbetref06_inner_k11 Φ x1 Q) [x66] H55) (
 JoinP (rabbetref06_inner_k11 Φ x1 Q) [(.bool true)] H55) (
 False)
def rabbetref06_inner_k13 (Φ : Calls') (s150 : List AV × AH) (L151 : (List AV × AH) → Prop) (Q : Post) : List AV → AH → Prop := fun j153 H154 =>
 Do (abin .add (sl s150.1 0) (.int .i64 1)) fun x168 =>
 L151 ([x168], H154)
def rabbetref06_inner_k14 (Φ : Calls') (s150 : List AV × AH) (L151 : (List AV × AH) → Prop) (Q : Post) : List AV → AH → Prop := fun j155 H156 =>
 Gd (sl j155 0) true (
 Q (.int .i64 7) H156) (
 JoinP (rabbetref06_inner_k13 Φ s150 L151 Q) [] H156)
def rabbetref06_inner_k15 (Φ : Calls') (s118 : List AV × AH) (L119 : (List AV × AH) → Prop) (Q : Post) : List AV → AH → Prop := fun j124 H125 =>
 Do (abin .add (sl s118.1 0) (.int .i64 1)) fun x214 =>
 L119 ([x214], H125)
def rabbetref06_inner_k16 (Φ : Calls') (s118 : List AV × AH) (L119 : (List AV × AH) → Prop) (Q : Post) : List AV → AH → Prop := fun j194 H195 =>
 Gd (sl j194 0) true (
 Q (.int .i64 9) H195) (
 JoinP (rabbetref06_inner_k15 Φ s118 L119 Q) [] H195)
def rabbetref06_inner_k17 (Φ : Calls') (x130 : AV) (s118 : List AV × AH) (L119 : (List AV × AH) → Prop) (Q : Post) : List AV → AH → Prop := fun j174 H175 =>
 Do (afaddr 7 x130) fun x196 =>
 Do (aload H175 1 false x196) fun x197 =>
 Gd3 x197 true (
 Do (afaddr 8 x130) fun x198 =>
 Do (aload H175 1 false x198) fun x199 =>
 Do (abin .lss x199 (.int .i64 0)) fun x200 =>
 Gd3 x200 false (
 Do (afaddr 8 x130) fun x201 =>
 Do (aload H175 1 false x201) fun x202 =>
 Do (afaddr 1 x130) fun x203 =>
 Do (afaddr 1 x203) fun x204 =>
 Do (aload H175 1 false x204) fun x205 =>
 Do (abin .mul (.int .i64 8) x205) fun x206 =>
 Do (abin .gtr x202 x206) fun x207 =>
 Gd3 x207 false (
 Do (afaddr 8 x130) fun x208 =>
 Do (aload H175 1 false x208) fun x209 =>
 Do (abin .eql x209 (.int .i64 0)) fun x210 =>
 Gd3 x210 true (
 Do (afaddr 0 x130) fun x211 =>
 Do (aload H175 1 false x211) fun x212 =>
 Do (abin .neq x212 (.str [])) fun x213 =>
 JoinP (rabbetref06_inner_k16 Φ s118 L119 Q) [x213] H175) (
 JoinP (rabbetref06_inner_k16 Φ s118 L119 Q) [(.bool false)] H175) (
 False)) (
 JoinP (rabbetref06_inner_k16 Φ s118 L119 Q) [(.bool true)] H175) (
 False)) (
 JoinP (rabbetref06_inner_k16 Φ s118 L119 Q) [(.bool true)] H175) (
 False)) (
 JoinP (rabbetref06_inner_k16 Φ s118 L119 Q) [(.bool false)] H175) (
 False)
def rabbetref06_inner_k18 (Φ : Calls') (x130 : AV) (s118 : List AV × AH) (L119 : (List AV × AH) → Prop) (Q : Post) : List AV → AH → Prop := fun j176 H177 =>
 Gd (sl j176 0) true (
 Q (.int .i64 8) H177) (
 JoinP (rabbetref06_inner_k17 Φ x130 s118 L119 Q) [] H177)
def rabbetref06_inner_k19 (Φ : Calls') (x1 : AV) (x130 : AV) (s118 : List AV × AH) (L119 : (List AV × AH) → Prop) (Q : Post) : List AV → AH → Prop := fun j178 H179 =>
 Gd3 (sl j178 0) false (
 Do (afaddr 7 x130) fun x186 =>
 Do (aload H179 1 false x186) fun x187 =>
 Gd3 x187 true (
 Do (afaddr 2 x1) fun x188 =>
 Do (aload H179 1 false x188) fun x189 =>
 Gd3 x189 false (
 Do (afaddr 1 x130) fun x190 =>
 Do (afaddr 0 x190) fun x191 =>
 Do (aload H179 1 false x191) fun x192 =>
 Do (abin .neq x192 (.int .i64 1)) fun x193 =>
 JoinP (rabbetref06_inner_k18 Φ x130 s118 L119 Q) [x193] H179) (
 JoinP (rabbetref06_inner_k18 Φ x130 s118 L119 Q) [(.bool true)] H179) (
 False)) (
 JoinP (rabbetref06_inner_k18 Φ x130 s118 L119 Q) [(.bool false)] H179) (
 False)) (
 JoinP (rabbetref06_inner_k18 Φ x130 s118 L119 Q) [(.bool true)] H179) (
 False)
def rabbetref06_inner_k20 (Φ : Calls') (x1 : AV) (x130 : AV) (s118 : List AV × AH) (L119 : (List AV × AH) → Prop) (Q : Post) : List AV → AH → Prop := fun j148 H149 =>
 Do (afaddr 1 x130) fun x169 =>
 Do (aload H149 6 true x169) fun x170 =>
Φ K.rabbetref06_inner [x170] H149 fun x171 H172 =>
 Do (abin .neq x171 (.int .i64 0)) fun x173 =>
 Gd x173 true (
 Q x171 H172) (
 Do (afaddr 7 x130) fun x180 =>
 Do (aload H172 1 false x180) fun x181 =>
 Do (aun .not x181) fun x182 =>
 Gd3 x182 true (
 Do (afaddr 8 x130) fun x183 =>
 Do (aload H172 1 false x183) fun x184 =>
 Do (abin .neq x184 (.int .i64 0)) fun x185 =>
 JoinP (rabbetref06_inner_k19 Φ x1 x130 s118 L119 Q) [x185] H172) (
 JoinP (rabbetref06_inner_k19 Φ x1 x130 s118 L119 Q) [(.bool false)] H172) (
 False))
def rabbetref06_inner_l21 (Φ : Calls') (x1 : AV) (x130 : AV) (s118 : List AV × AH) (L119 : (List AV × AH) → Prop) (Q : Post) : (List AV × AH) → ((List AV × AH) → Prop) → Prop := fun s150 L151 =>
 Do (abin .lss (sl s150.1 0) (sl s118.1 0)) fun x152 =>
 Gd x152 true (
 Do (afaddr 0 x130) fun x157 =>
 Do (aload s150.2 1 false x157) fun x158 =>
 Do (abin .neq x158 (.str [])) fun x159 =>
 Gd3 x159 true (
 Do (afaddr 3 x1) fun x160 =>
 Do (aload s150.2 1 false x160) fun x161 =>
 Do (aiaddr none 9 x161 (sl s150.1 0)) fun x162 =>
 Do (afaddr 0 x162) fun x163 =>
 Do (aload s150.2 1 false x163) fun x164 =>
 Do (afaddr 0 x130) fun x165 =>
 Do (aload s150.2 1 false x165) fun x166 =>
 Do (abin .eql x164 x166) fun x167 =>
 JoinP (rabbetref06_inner_k14 Φ s150 L151 Q) [x167] s150.2) (
 JoinP (rabbetref06_inner_k14 Φ s150 L151 Q) [(.bool false)] s150.2) (
 False)) (
 JoinP (rabbetref06_inner_k20 Φ x1 x130 s118 L119 Q) [] s150.2)
def rabbetref06_inner_k22 (Φ : Calls') (x1 : AV) (x130 : AV) (s118 : List AV × AH) (L119 : (List AV × AH) → Prop) (Q : Post) : List AV → AH → Prop := fun j133 H134 =>
 LoopP (rabbetref06_inner_l21 Φ x1 x130 s118 L119 Q) ([(.int .i64 0)], H134)
def rabbetref06_inner_k23 (Φ : Calls') (x1 : AV) (x130 : AV) (s118 : List AV × AH) (L119 : (List AV × AH) → Prop) (Q : Post) : List AV → AH → Prop := fun j135 H136 =>
 Gd (sl j135 0) true (
 Q (.int .i64 6) H136) (
 JoinP (rabbetref06_inner_k22 Φ x1 x130 s118 L119 Q) [] H136)
def rabbetref06_inner_l24 (Φ : Calls') (x1 : AV) (Q : Post) : (List AV × AH) → ((List AV × AH) → Prop) → Prop := fun s118 L119 =>
 Do (afaddr 3 x1) fun x120 =>
 Do (aload s118.2 1 false x120) fun x121 =>
 Do (alen false x121) fun x122 =>
 Do (abin .lss (sl s118.1 0) x122) fun x123 =>
 Gd x123 true (
 Do (afaddr 3 x1) fun x126 =>
 Do (aload s118.2 1 false x126) fun x127 =>
 Do (aiaddr none 9 x127 (sl s118.1 0)) fun x128 =>
 Do (aload s118.2 9 true x128) fun x129 =>
 DoH (some (abox s118.2 true [.str [], .int .i64 0, .int .i64 0, .bool false, .lst .nil 0 [], .int .i64 0, .lst .nil 0 [], .bool false, .int .i64 0])) fun x130 H131 =>
 Do (astore H131 9 x130 x129) fun H132 =>
 Do (afaddr 0 x130) fun x137 =>
 Do (aload H132 1 false x137) fun x138 =>
Φ K.rabbetref06_Name [x138] H132 fun x139 H140 =>
 Do (aun .not x139) fun x141 =>
 Gd3 x141 true (
 Do (afaddr 0 x130) fun x142 =>
 Do (aload H140 1 false x142) fun x143 =>
 Do (abin .eql x143 (.str [])) fun x144 =>
 Gd3 x144 true (
 Do (afaddr 7 x130) fun x145 =>
 Do (aload H140 1 false x145) fun x146 =>
 Do (aun .not x146) fun x147 =>
 JoinP (rabbetref06_inner_k23 Φ x1 x130 s118 L119 Q) [x147] H140) (
 Do (aun .not (.bool false)) fun x215 =>
 JoinP (rabbetref06_inner_k23 Φ x1 x130 s118 L119 Q) [x215] H140) (
 False)) (
 JoinP (rabbetref06_inner_k23 Φ x1 x130 s118 L119 Q) [(.bool false)] H140) (
 False)) (
 Q (.int .i64 0) s118.2)
def rabbetref06_inner_k25 (Φ : Calls') (x1 : AV) (Q : Post) : List AV → AH → Prop := fun j106 H107 =>
 LoopP (rabbetref06_inner_l24 Φ x1 Q) ([(.int .i64 0)], H107)
def rabbetref06_inner_k26 (Φ : Calls') (x1 : AV) (Q : Post) : List AV → AH → Prop := fun j108 H109 =>
 Gd (sl j108 0) true (
 Q (.int .i64 12) H109) (
 JoinP (rabbetref06_inner_k25 Φ x1 Q) [] H109)
def rabbetref06_inner_k27 (Φ : Calls') (x1 : AV) (Q : Post) : List AV → AH → Prop := fun j90 H91 =>
 Do (afaddr 3 x1) fun x110 =>
 Do (aload H91 1 false x110) fun x111 =>
 Do (alen false x111) fun x112 =>
 Do (abin .eql x112 (.int .i64 0)) fun x113 =>
 Gd3 x113 false (
 Do (afaddr 3 x1) fun x114 =>
 Do (aload H91 1 false x114) fun x115 =>
 Do (alen false x115) fun x116 =>
 Do (abin .gtr x116 (.int .i64 32)) fun x117 =>
 JoinP (rabbetref06_inner_k26 Φ x1 Q) [x117] H91) (
 JoinP (rabbetref06_inner_k26 Φ x1 Q) [(.bool true)] H91) (
 False)
def rabbetref06_inner_k28 (Φ : Calls') (x1 : AV) (Q : Post) : List AV → AH → Prop := fun j92 H93 =>
 Gd (sl j92 0) true (
 Q (.int .i64 8) H93) (
 JoinP (rabbetref06_inner_k27 Φ x1 Q) [] H93)
def rabbetref06_inner_k29 (Φ : Calls') (x1 : AV) (Q : Post) : List AV → AH → Prop := fun j94 H95 =>
 Gd3 (sl j94 0) false (
 Do (afaddr 5 x1) fun x102 =>
 Do (aload H95 1 false x102) fun x103 =>
 Do (alen false x103) fun x104 =>
 Do (abin .gtr x104 (.int .i64 0)) fun x105 =>
 JoinP (rabbetref06_inner_k28 Φ x1 Q) [x105] H95) (
 JoinP (rabbetref06_inner_k28 Φ x1 Q) [(.bool true)] H95) (
 False)
def rabbetref06_inner_k30 (Φ : Calls') (x1 : AV) (Q : Post) : List AV → AH → Prop := fun j87 H88 =>
 Gd (sl j87 0) true (
 Do (afaddr 1 x1) fun x96 =>
 Do (aload H88 1 false x96) fun x97 =>
 Do (abin .neq x97 (.int .i64 0)) fun x98 =>
 Gd3 x98 false (
 Do (afaddr 4 x1) fun x99 =>
 Do (aload H88 1 false x99) fun x100 =>
 Do (abin .neq x100 (.int .i64 0)) fun x101 =>
 JoinP (rabbetref06_inner_k29 Φ x1 Q) [x101] H88) (
 JoinP (rabbetref06_inner_k29 Φ x1 Q) [(.bool true)] H88) (
 False)) (
 Q (.int .i64 8) H88)
def rabbetref06_inner_k31 (Φ : Calls') (x1 : AV) (x4 : AV) (Q : Post) : List AV → AH → Prop := fun j5 H6 =>
 Gd (sl j5 0) true (
 Do (afaddr 2 x1) fun x14 =>
 Do (aload H6 1 false x14) fun x15 =>
 Gd3 x15 false (
 Do (afaddr 3 x1) fun x16 =>
 Do (aload H6 1 false x16) fun x17 =>
 Do (alen false x17) fun x18 =>
 Do (abin .gtr x18 (.int .i64 0)) fun x19 =>
 JoinP (rabbetref06_inner_k6 Φ x1 Q) [x19] H6) (
 JoinP (rabbetref06_inner_k6 Φ x1 Q) [(.bool true)] H6) (
 False)) (
 Do (abin .eql x4 (.int .i64 5)) fun x49 =>
 Gd x49 true (
 Do (afaddr 2 x1) fun x56 =>
 Do (aload H6 1 false x56) fun x57 =>
 Gd3 x57 false (
 Do (afaddr 3 x1) fun x58 =>
 Do (aload H6 1 false x58) fun x59 =>
 Do (alen false x59) fun x60 =>
 Do (abin .gtr x60 (.int .i64 0)) fun x61 =>
 JoinP (rabbetref06_inner_k12 Φ x1 Q) [x61] H6) (
 JoinP (rabbetref06_inner_k12 Φ x1 Q) [(.bool true)] H6) (
 False)) (
 Do (abin .eql x4 (.int .i64 3)) fun x89 =>
 Gd x89 true (
 JoinP (rabbetref06_inner_k30 Φ x1 Q) [x89] H6) (
 Do (abin .eql x4 (.int .i64 4)) fun x216 =>
 JoinP (rabbetref06_inner_k30 Φ x1 Q) [x216] H6)))
def rabbetref06_inner (Φ : Calls') (a0 : AV) (H : AH) (Q : Post) : Prop :=
 DoH (aboxv H false 6 a0) fun x1 H2 =>
 Do (afaddr 0 x1) fun x3 =>
 Do (aload H2 1 false x3) fun x4 =>
 Do (abin .eql x4 (.int .i64 1)) fun x7 =>
 Gd x7 true (
 JoinP (rabbetref06_inner_k31 Φ x1 x4 Q) [x7] H2) (
 Do (abin .eql x4 (.int .i64 2)) fun x217 =>
 JoinP (rabbetref06_inner_k31 Φ x1 x4 Q) [x217] H2)
def ir_rabbetref06_inner : AFunc := ⟨211, [.tmp 2],
 .seq (.region [
   ⟨some 1, .box false 6 (.t 0), none⟩,
   ⟨some 2, .mv (.k (.int .i64 0)), none⟩])
 (.seq (.seq (.region [
   ⟨some 7, .faddr 0 (.t 1), none⟩,
   ⟨some 8, .load 1 false (.t 7), none⟩])
 (.block 0 (.join [9] [10, 11] (.seq (.region [
   ⟨some 10, .bin .eql (.t 8) (.k (.int .i64 1)), none⟩,
   ⟨some 9, .mv (.t 10), none⟩])
 (.cond (.t 9) (.skip)
   (.region [
     ⟨some 11, .bin .eql (.t 8) (.k (.int .i64 2)), none⟩,
     ⟨some 9, .mv (.t 11), none⟩])))
 (.cond (.t 9) (.join [] [2, 12, 13, 14, 15, 16, 17, 18, 19, 20, 21, 22, 23, 24, 25, 26, 27, 28, 29, 30] (.join [30] [12, 13, 14, 15, 16, 17, 18, 19, 20, 21, 22, 23, 24, 25, 26, 27, 28, 29] (.rjoin [19] [12, 13, 14, 15, 16, 17, 18] [
     ⟨some 12, .faddr 2 (.t 1), none⟩,
     ⟨some 13, .load 1 false (.t 12), none⟩,
     ⟨some 14, .mv (.t 13), none⟩,
     ⟨some 15, .faddr 3 (.t 1), some (14, false)⟩,
     ⟨some 16, .load 1 false (.t 15), some (14, false)⟩,
     ⟨some 17, .len false (.t 16), some (14, false)⟩,
     ⟨some 18, .bin .gtr (.t 17) (.k (.int .i64 0)), some (14, false)⟩,
     ⟨some 19, .pick (.t 14) (.k (.bool true)) (.t 18), none⟩]
   (.rjoin [24] [20, 21, 22, 23] [
     ⟨some 20, .mv (.t 19), none⟩,
     ⟨some 21, .faddr 4 (.t 1), some (20, false)⟩,
     ⟨some 22, .load 1 false (.t 21), some (20, false)⟩,
     ⟨some 23, .bin .neq (.t 22) (.k (.int .i64 0)), some (20, false)⟩,
     ⟨some 24, .pick (.t 20) (.k (.bool true)) (.t 23), none⟩]
   (.region [
     ⟨some 25, .mv (.t 24), none⟩,
     ⟨some 26, .faddr 5 (.t 1), some (25, false)⟩,
     ⟨some 27, .load 1 false (.t 26), some (25, false)⟩,
     ⟨some 28, .len false (.t 27), some (25, false)⟩,
     ⟨some 29, .bin .gtr (.t 28) (.k (.int .i64 0)), some (25, false)⟩,
     ⟨some 30, .pick (.t 25) (.k (.bool true)) (.t 29), none⟩])))
   (.cond (.t 30) (.seq (.region [
       ⟨some 2, .mv (.k (.int .i64 8)), none⟩])
     (.ret))
     (.skip)))
   (.seq (.join [50] [31, 32, 33, 34, 35, 36, 37, 38, 39, 40, 41, 42, 43, 44, 45, 46, 47, 48, 49] (.rjoin [39] [31, 32, 33, 34, 35, 36, 37, 38] [
     ⟨some 31, .faddr 0 (.t 1), none⟩,
     ⟨some 32, .load 1 false (.t 31), none⟩,
     ⟨some 33, .bin .eql (.t 32) (.k (.int .i64 1)), none⟩,
     ⟨some 34, .mv (.t 33), none⟩,
     ⟨some 35, .faddr 1 (.t 1), some (34, true)⟩,
     ⟨some 36, .load 1 false (.t 35), some (34, true)⟩,
     ⟨some 37, .call K.rabbetref06_size [(.t 36), (.k (.int .i64 8))], some (34, true)⟩,
     ⟨some 38, .un .not (.t 37), some (34, true)⟩,
     ⟨some 39, .pick (.t 34) (.t 38) (.k (.bool false)), none⟩]
   (.region [
     ⟨some 40, .mv (.t 39), none⟩,
     ⟨some 41, .faddr 0 (.t 1), some (40, false)⟩,
     ⟨some 42, .load 1 false (.t 41), some (40, false)⟩,
     ⟨some 43, .bin .eql (.t 42) (.k (.int .i64 2)), some (40, false)⟩,
     ⟨some 44, .mv (.t 43), some (40, false)⟩,
     ⟨some 45, .faddr 1 (.t 1), some (44, true)⟩,
     ⟨some 46, .load 1 false (.t 45), some (44, true)⟩,
     ⟨some 47, .call K.rabbetref06_size [(.t 46), (.k (.int .i64 16))], some (44, true)⟩,
     ⟨some 48, .un .not (.t 47), some (44, true)⟩,
     ⟨some 49, .pick (.t 44) (.t 48) (.k (.bool false)), some (40, false)⟩,
     ⟨some 50, .pick (.t 40) (.k (.bool true)) (.t 49), none⟩]))
   (.cond (.t 50) (.seq (.region [
       ⟨some 2, .mv (.k (.int .i64 9)), none⟩])
     (.ret))
     (.skip)))
   (.seq (.region [
     ⟨some 2, .mv (.k (.int .i64 0)), none⟩])
   (.ret))))
   (.seq (.region [
     ⟨some 52, .bin .eql (.t 8) (.k (.int .i64 5)), none⟩,
     ⟨some 51, .mv (.t 52), none⟩])
   (.cond (.t 51) (.join [] [2, 53, 54, 55, 56, 57, 58, 59, 60, 61, 62, 63, 64, 65, 66, 67, 68, 69, 70, 71] (.join [71] [53, 54, 55, 56, 57, 58, 59, 60, 61, 62, 63, 64, 65, 66, 67, 68, 69, 70] (.rjoin [60] [53, 54, 55, 56, 57, 58, 59] [
       ⟨some 53, .faddr 2 (.t 1), none⟩,
       ⟨some 54, .load 1 false (.t 53), none⟩,
       ⟨some 55, .mv (.t 54), none⟩,
       ⟨some 56, .faddr 3 (.t 1), some (55, false)⟩,
       ⟨some 57, .load 1 false (.t 56), some (55, false)⟩,
       ⟨some 58, .len false (.t 57), some (55, false)⟩,
       ⟨some 59, .bin .gtr (.t 58) (.k (.int .i64 0)), some (55, false)⟩,
       ⟨some 60, .pick (.t 55) (.k (.bool true)) (.t 59), none⟩]
     (.rjoin [65] [61, 62, 63, 64] [
       ⟨some 61, .mv (.t 60), none⟩,
       ⟨some 62, .faddr 1 (.t 1), some (61, false)⟩,
       ⟨some 63, .load 1 false (.t 62), some (61, false)⟩,
       ⟨some 64, .bin .neq (.t 63) (.k (.int .i64 0)), some (61, false)⟩,
       ⟨some 65, .pick (.t 61) (.k (.bool true)) (.t 64), none⟩]
     (.region [
       ⟨some 66, .mv (.t 65), none⟩,
       ⟨some 67, .faddr 5 (.t 1), some (66, false)⟩,
       ⟨some 68, .load 1 false (.t 67), some (66, false)⟩,
       ⟨some 69, .len false (.t 68), some (66, false)⟩,
       ⟨some 70, .bin .neq (.t 69) (.k (.int .i64 1)), some (66, false)⟩,
       ⟨some 71, .pick (.t 66) (.k (.bool true)) (.t 70), none⟩])))
     (.cond (.t 71) (.seq (.region [
         ⟨some 2, .mv (.k (.int .i64 8)), none⟩])
       (.ret))
       (.skip)))
     (.join [] [2, 72, 73, 74, 75, 76, 77, 78, 79] (.join [79] [72, 73, 74, 75, 76, 77, 78] (.region [
       ⟨some 72, .faddr 4 (.t 1), none⟩,
       ⟨some 73, .load 1 false (.t 72), none⟩,
       ⟨some 74, .bin .lss (.t 73) (.k (.int .i64 1)), none⟩,
       ⟨some 75, .mv (.t 74), none⟩,
       ⟨some 76, .faddr 4 (.t 1), some (75, false)⟩,
       ⟨some 77, .load 1 false (.t 76), some (75, false)⟩,
       ⟨some 78, .bin .gtr (.t 77) (.k (.int .i64 65536)), some (75, false)⟩,
       ⟨some 79, .pick (.t 75) (.k (.bool true)) (.t 78), none⟩])
     (.cond (.t 79) (.seq (.region [
         ⟨some 2, .mv (.k (.int .i64 9)), none⟩])
       (.ret))
       (.skip)))
     (.seq (.region [
       ⟨some 80, .faddr 5 (.t 1), none⟩,
       ⟨some 81, .load 1 false (.t 80), none⟩,
       ⟨some 82, .iaddr none 6 (.t 81) (.k (.int .i64 0)), none⟩,
       ⟨some 83, .load 6 true (.t 82), none⟩,
       ⟨some 84, .call K.rabbetref06_inner [(.t 83)], none⟩,
       ⟨some 2, .mv (.t 84), none⟩])
     (.ret))))
     (.join [85] [86, 87] (.seq (.region [
       ⟨some 86, .bin .eql (.t 8) (.k (.int .i64 3)), none⟩,
       ⟨some 85, .mv (.t 86), none⟩])
     (.cond (.t 85) (.skip)
       (.region [
         ⟨some 87, .bin .eql (.t 8) (.k (.int .i64 4)), none⟩,
         ⟨some 85, .mv (.t 87), none⟩])))
     (.cond (.t 85) (.join [] [2, 88, 89, 90, 91, 92, 93, 94, 95, 96, 97, 98, 99, 100, 101] (.join [101] [88, 89, 90, 91, 92, 93, 94, 95, 96, 97, 98, 99, 100] (.rjoin [95] [88, 89, 90, 91, 92, 93, 94] [
         ⟨some 88, .faddr 1 (.t 1), none⟩,
         ⟨some 89, .load 1 false (.t 88), none⟩,
         ⟨some 90, .bin .neq (.t 89) (.k (.int .i64 0)), none⟩,
         ⟨some 91, .mv (.t 90), none⟩,
         ⟨some 92, .faddr 4 (.t 1), some (91, false)⟩,
         ⟨some 93, .load 1 false (.t 92), some (91, false)⟩,
         ⟨some 94, .bin .neq (.t 93) (.k (.int .i64 0)), some (91, false)⟩,
         ⟨some 95, .pick (.t 91) (.k (.bool true)) (.t 94), none⟩]
       (.region [
         ⟨some 96, .mv (.t 95), none⟩,
         ⟨some 97, .faddr 5 (.t 1), some (96, false)⟩,
         ⟨some 98, .load 1 false (.t 97), some (96, false)⟩,
         ⟨some 99, .len false (.t 98), some (96, false)⟩,
         ⟨some 100, .bin .gtr (.t 99) (.k (.int .i64 0)), some (96, false)⟩,
         ⟨some 101, .pick (.t 96) (.k (.bool true)) (.t 100), none⟩]))
       (.cond (.t 101) (.seq (.region [
           ⟨some 2, .mv (.k (.int .i64 8)), none⟩])
         (.ret))
         (.skip)))
       (.join [] [2, 102, 103, 104, 105, 106, 107, 108, 109, 110, 111] (.join [111] [102, 103, 104, 105, 106, 107, 108, 109, 110] (.region [
         ⟨some 102, .faddr 3 (.t 1), none⟩,
         ⟨some 103, .load 1 false (.t 102), none⟩,
         ⟨some 104, .len false (.t 103), none⟩,
         ⟨some 105, .bin .eql (.t 104) (.k (.int .i64 0)), none⟩,
         ⟨some 106, .mv (.t 105), none⟩,
         ⟨some 107, .faddr 3 (.t 1), some (106, false)⟩,
         ⟨some 108, .load 1 false (.t 107), some (106, false)⟩,
         ⟨some 109, .len false (.t 108), some (106, false)⟩,
         ⟨some 110, .bin .gtr (.t 109) (.k (.int .i64 32)), some (106, false)⟩,
         ⟨some 111, .pick (.t 106) (.k (.bool true)) (.t 110), none⟩])
       (.cond (.t 111) (.seq (.region [
           ⟨some 2, .mv (.k (.int .i64 12)), none⟩])
         (.ret))
         (.skip)))
       (.seq (.seq (.region [
         ⟨some 3, .mv (.k (.int .i64 0)), none⟩])
       (.block 1 (.loop [3] [2, 4, 5, 6, 112, 113, 114, 115, 116, 117, 118, 119, 120, 121, 122, 123, 124, 125, 126, 127, 128, 129, 130, 131, 132, 133, 134, 135, 136, 137, 138, 139, 140, 141, 142, 143, 144, 145, 146, 147, 148, 149, 150, 151, 152, 153, 154, 155, 156, 157, 158, 159, 160, 161, 162, 163, 164, 165, 166, 167, 168, 169, 170, 171, 172, 173, 174, 175, 176, 177, 178, 179, 180, 181, 182, 183, 184, 185, 186, 187, 188, 189, 190, 191, 192, 193, 194, 195, 196, 197, 198, 199, 200, 201, 202, 203, 204, 205, 206, 207, 208, 209, 210] (.seq (.seq (.region [
         ⟨some 112, .mv (.t 3), none⟩,
         ⟨some 113, .faddr 3 (.t 1), none⟩,
         ⟨some 114, .load 1 false (.t 113), none⟩,
         ⟨some 115, .len false (.t 114), none⟩,
         ⟨some 116, .bin .lss (.t 112) (.t 115), none⟩])
       (.cond (.t 116) (.skip)
         (.exit 1)))
       (.join [] [2, 4, 5, 6, 119, 120, 121, 122, 123, 124, 125, 126, 127, 128, 129, 130, 131, 132, 133, 134, 135, 136, 137, 138, 139, 140, 141, 142, 143, 144, 145, 146, 147, 148, 149, 150, 151, 152, 153, 154, 155, 156, 157, 158, 159, 160, 161, 162, 163, 164, 165, 166, 167, 168, 169, 170, 171, 172, 173, 174, 175, 176, 177, 178, 179, 180, 181, 182, 183, 184, 185, 186, 187, 188, 189, 190, 191, 192, 193, 194, 195, 196, 197, 198, 199, 200, 201, 202, 203, 204, 205, 206, 207, 208, 209, 210] (.block 2 (.seq (.region [
         ⟨some 119, .faddr 3 (.t 1), none⟩,
         ⟨some 120, .load 1 false (.t 119), none⟩,
         ⟨some 121, .mv (.t 3), none⟩,
         ⟨some 122, .iaddr none 9 (.t 120) (.t 121), none⟩,
         ⟨some 123, .load 9 true (.t 122), none⟩,
         ⟨some 4, .alloc true [.str [], .int .i64 0, .int .i64 0, .bool false, .lst .nil 0 [], .int .i64 0, .lst .nil 0 [], .bool false, .int .i64 0], none⟩,
         ⟨none, .store 9 (.t 4) (.t 123), none⟩])
       (.join [] [2, 124, 125, 126, 127, 128, 129, 130, 131, 132, 133, 134, 135, 136, 137] (.join [137] [124, 125, 126, 127, 128, 129, 130, 131, 132, 133, 134, 135, 136] (.region [
         ⟨some 124, .faddr 0 (.t 4), none⟩,
         ⟨some 125, .load 1 false (.t 124), none⟩,
         ⟨some 126, .call K.rabbetref06_Name [(.t 125)], none⟩,
         ⟨some 127, .un .not (.t 126), none⟩,
         ⟨some 128, .mv (.t 127), none⟩,
         ⟨some 129, .faddr 0 (.t 4), some (128, true)⟩,
         ⟨some 130, .load 1 false (.t 129), some (128, true)⟩,
         ⟨some 131, .bin .eql (.t 130) (.k (.str [])), some (128, true)⟩,
         ⟨some 132, .mv (.t 131), some (128, true)⟩,
         ⟨some 133, .faddr 7 (.t 4), some (132, true)⟩,
         ⟨some 134, .load 1 false (.t 133), some (132, true)⟩,
         ⟨some 135, .pick (.t 132) (.t 134) (.k (.bool false)), some (128, true)⟩,
         ⟨some 136, .un .not (.t 135), some (128, true)⟩,
         ⟨some 137, .pick (.t 128) (.t 136) (.k (.bool false)), none⟩])
       (.cond (.t 137) (.seq (.region [
           ⟨some 2, .mv (.k (.int .i64 6)), none⟩])
         (.ret))
         (.skip)))
       (.join [] [2, 5, 138, 139, 140, 141, 142, 143, 144, 145, 146, 147, 148, 149, 150, 151, 152, 153, 154, 155, 156] (.seq (.region [
         ⟨some 5, .mv (.k (.int .i64 0)), none⟩])
       (.block 3 (.loop [5] [2, 138, 139, 140, 141, 142, 143, 144, 145, 146, 147, 148, 149, 150, 151, 152, 153, 154, 155, 156] (.seq (.seq (.region [
         ⟨some 138, .mv (.t 5), none⟩,
         ⟨some 139, .mv (.t 3), none⟩,
         ⟨some 140, .bin .lss (.t 138) (.t 139), none⟩])
       (.cond (.t 140) (.skip)
         (.exit 3)))
       (.join [] [2, 143, 144, 145, 146, 147, 148, 149, 150, 151, 152, 153, 154, 155, 156] (.block 4 (.join [156] [143, 144, 145, 146, 147, 148, 149, 150, 151, 152, 153, 154, 155] (.draw [
         ⟨some 143, .faddr 0 (.t 4), none⟩,
         ⟨some 144, .load 1 false (.t 143), none⟩,
         ⟨some 145, .bin .neq (.t 144) (.k (.str [])), none⟩,
         ⟨some 146, .mv (.t 145), none⟩,
         ⟨some 147, .faddr 3 (.t 1), some (146, true)⟩,
         ⟨some 148, .load 1 false (.t 147), some (146, true)⟩,
         ⟨some 149, .mv (.t 5), some (146, true)⟩,
         ⟨some 150, .iaddr none 9 (.t 148) (.t 149), some (146, true)⟩,
         ⟨some 151, .faddr 0 (.t 150), some (146, true)⟩,
         ⟨some 152, .load 1 false (.t 151), some (146, true)⟩,
         ⟨some 153, .faddr 0 (.t 4), some (146, true)⟩,
         ⟨some 154, .load 1 false (.t 153), some (146, true)⟩,
         ⟨some 155, .bin .eql (.t 152) (.t 154), some (146, true)⟩,
         ⟨some 156, .pick (.t 146) (.t 155) (.k (.bool false)), none⟩]
       [[], [0], [0, 1], [0, 1, 2], [0, 1, 2, 3], [0, 1, 2, 3, 4], [0, 1, 2, 3], [0, 1, 2, 3, 4, 5, 6], [0, 1, 2, 3, 4, 5, 6, 7], [0, 1, 2, 3, 4, 5, 6, 7, 8], [0, 1, 2, 3], [0, 1, 2, 3, 10], [0, 1, 2, 3, 4, 5, 6, 7, 8, 9, 10, 11], [0, 1, 2, 3, 4, 5, 6, 7, 8, 9, 10, 11, 12]] [] [0, 1, 2, 3, 4, 5, 6, 7, 8, 9, 10, 11, 12, 13])
       (.cond (.t 156) (.seq (.region [
           ⟨some 2, .mv (.k (.int .i64 7)), none⟩])
         (.ret))
         (.skip))))
       (.region [
         ⟨some 141, .mv (.t 5), none⟩,
         ⟨some 142, .bin .add (.t 141) (.k (.int .i64 1)), none⟩,
         ⟨some 5, .mv (.t 142), none⟩]))))))
       (.seq (.region [
         ⟨some 157, .faddr 1 (.t 4), none⟩,
         ⟨some 158, .load 6 true (.t 157), none⟩,
         ⟨some 159, .call K.rabbetref06_inner [(.t 158)], none⟩,
         ⟨some 6, .mv (.t 159), none⟩])
       (.seq (.seq (.region [
         ⟨some 160, .mv (.t 6), none⟩,
         ⟨some 161, .bin .neq (.t 160) (.k (.int .i64 0)), none⟩])
       (.cond (.t 161) (.seq (.region [
           ⟨some 162, .mv (.t 6), none⟩,
           ⟨some 2, .mv (.t 162), none⟩])
         (.ret))
         (.skip)))
       (.join [] [2, 163, 164, 165, 166, 167, 168, 169, 170, 171, 172, 173, 174, 175, 176, 177, 178, 179, 180, 181, 182, 183, 184] (.join [184] [163, 164, 165, 166, 167, 168, 169, 170, 171, 172, 173, 174, 175, 176, 177, 178, 179, 180, 181, 182, 183] (.rjoin [170] [163, 164, 165, 166, 167, 168, 169] [
         ⟨some 163, .faddr 7 (.t 4), none⟩,
         ⟨some 164, .load 1 false (.t 163), none⟩,
         ⟨some 165, .un .not (.t 164), none⟩,
         ⟨some 166, .mv (.t 165), none⟩,
         ⟨some 167, .faddr 8 (.t 4), some (166, true)⟩,
         ⟨some 168, .load 1 false (.t 167), some (166, true)⟩,
         ⟨some 169, .bin .neq (.t 168) (.k (.int .i64 0)), some (166, true)⟩,
         ⟨some 170, .pick (.t 166) (.t 169) (.k (.bool false)), none⟩]
       (.region [
         ⟨some 171, .mv (.t 170), none⟩,
         ⟨some 172, .faddr 7 (.t 4), some (171, false)⟩,
         ⟨some 173, .load 1 false (.t 172), some (171, false)⟩,
         ⟨some 174, .mv (.t 173), some (171, false)⟩,
         ⟨some 175, .faddr 2 (.t 1), some (174, true)⟩,
         ⟨some 176, .load 1 false (.t 175), some (174, true)⟩,
         ⟨some 177, .mv (.t 176), some (174, true)⟩,
         ⟨some 178, .faddr 1 (.t 4), some (177, false)⟩,
         ⟨some 179, .faddr 0 (.t 178), some (177, false)⟩,
         ⟨some 180, .load 1 false (.t 179), some (177, false)⟩,
         ⟨some 181, .bin .neq (.t 180) (.k (.int .i64 1)), some (177, false)⟩,
         ⟨some 182, .pick (.t 177) (.k (.bool true)) (.t 181), some (174, true)⟩,
         ⟨some 183, .pick (.t 174) (.t 182) (.k (.bool false)), some (171, false)⟩,
         ⟨some 184, .pick (.t 171) (.k (.bool true)) (.t 183), none⟩]))
       (.cond (.t 184) (.seq (.region [
           ⟨some 2, .mv (.k (.int .i64 8)), none⟩])
         (.ret))
         (.skip)))
       (.join [210] [185, 186, 187, 188, 189, 190, 191, 192, 193, 194, 195, 196, 197, 198, 199, 200, 201, 202, 203, 204, 205, 206, 207, 208, 209] (.region [
         ⟨some 185, .faddr 7 (.t 4), none⟩,
         ⟨some 186, .load 1 false (.t 185), none⟩,
         ⟨some 187, .mv (.t 186), none⟩,
         ⟨some 188, .faddr 8 (.t 4), some (187, true)⟩,
         ⟨some 189, .load 1 false (.t 188), some (187, true)⟩,
         ⟨some 190, .bin .lss (.t 189) (.k (.int .i64 0)), some (187, true)⟩,
         ⟨some 191, .mv (.t 190), some (187, true)⟩,
         ⟨some 192, .faddr 8 (.t 4), some (191, false)⟩,
         ⟨some 193, .load 1 false (.t 192), some (191, false)⟩,
         ⟨some 194, .faddr 1 (.t 4), some (191, false)⟩,
         ⟨some 195, .faddr 1 (.t 194), some (191, false)⟩,
         ⟨some 196, .load 1 false (.t 195), some (191, false)⟩,
         ⟨some 197, .bin .mul (.k (.int .i64 8)) (.t 196), some (191, false)⟩,
         ⟨some 198, .bin .gtr (.t 193) (.t 197), some (191, false)⟩,
         ⟨some 199, .pick (.t 191) (.k (.bool true)) (.t 198), some (187, true)⟩,
         ⟨some 200, .mv (.t 199), some (187, true)⟩,
         ⟨some 201, .faddr 8 (.t 4), some (200, false)⟩,
         ⟨some 202, .load 1 false (.t 201), some (200, false)⟩,
         ⟨some 203, .bin .eql (.t 202) (.k (.int .i64 0)), some (200, false)⟩,
         ⟨some 204, .mv (.t 203), some (200, false)⟩,
         ⟨some 205, .faddr 0 (.t 4), some (204, true)⟩,
         ⟨some 206, .load 1 false (.t 205), some (204, true)⟩,
         ⟨some 207, .bin .neq (.t 206) (.k (.str [])), some (204, true)⟩,
         ⟨some 208, .pick (.t 204) (.t 207) (.k (.bool false)), some (200, false)⟩,
         ⟨some 209, .pick (.t 200) (.k (.bool true)) (.t 208), some (187, true)⟩,
         ⟨some 210, .pick (.t 187) (.t 209) (.k (.bool false)), none⟩])
       (.cond (.t 210) (.seq (.region [
           ⟨some 2, .mv (.k (.int .i64 9)), none⟩])
         (.ret))
         (.skip))))))))))
       (.region [
         ⟨some 117, .mv (.t 3), none⟩,
         ⟨some 118, .bin .add (.t 117) (.k (.int .i64 1)), none⟩,
         ⟨some 3, .mv (.t 118), none⟩]))))))
       (.seq (.region [
         ⟨some 2, .mv (.k (.int .i64 0)), none⟩])
       (.ret)))))
       (.skip)))))))))
 (.seq (.region [
   ⟨some 2, .mv (.k (.int .i64 8)), none⟩])
 (.ret)))⟩
theorem eq_rabbetref06_inner (Φ : Calls') (a0 : AV) (H : AH) (Q : Post) : fnE1 Φ ir_rabbetref06_inner [a0] H Q = rabbetref06_inner Φ a0 H Q := by kernel_rfl

/-! rabbet/rabbetref06.size -/
def rabbetref06_size_l1 (Φ : Calls') (a0 : AV) (a1 : AV) (Q : Post) : (List AV × AH) → ((List AV × AH) → Prop) → Prop := fun s1 L2 =>
 Do (abin .leq (sl s1.1 0) a1) fun x3 =>
 Gd x3 true (
 Do (abin .eql a0 (sl s1.1 0)) fun x4 =>
 Gd x4 true (
 Q (.bool true) s1.2) (
 Do (abin .mul (.int .i64 2) (sl s1.1 0)) fun x5 =>
 L2 ([x5], s1.2))) (
 Q (.bool false) s1.2)
def rabbetref06_size (Φ : Calls') (a0 : AV) (a1 : AV) (H : AH) (Q : Post) : Prop :=
 LoopP (rabbetref06_size_l1 Φ a0 a1 Q) ([(.int .i64 1)], H)
def ir_rabbetref06_size : AFunc := ⟨14, [.tmp 4],
 .seq (.region [
   ⟨some 4, .mv (.k (.bool false)), none⟩])
 (.seq (.seq (.region [
   ⟨some 5, .mv (.k (.int .i64 1)), none⟩])
 (.block 0 (.loop [5] [4, 6, 7, 8, 9, 10, 11, 12, 13] (.seq (.seq (.region [
   ⟨some 6, .mv (.t 5), none⟩,
   ⟨some 7, .mv (.t 1), none⟩,
   ⟨some 8, .bin .leq (.t 6) (.t 7), none⟩])
 (.cond (.t 8) (.skip)
   (.exit 0)))
 (.seq (.block 1 (.seq (.region [
   ⟨some 11, .mv (.t 0), none⟩,
   ⟨some 12, .mv (.t 5), none⟩,
   ⟨some 13, .bin .eql (.t 11) (.t 12), none⟩])
 (.cond (.t 13) (.seq (.region [
     ⟨some 4, .mv (.k (.bool true)), none⟩])
   (.ret))
   (.skip))))
 (.region [
   ⟨some 9, .mv (.t 5), none⟩,
   ⟨some 10, .bin .mul (.k (.int .i64 2)) (.t 9), none⟩,
   ⟨some 5, .mv (.t 10), none⟩]))))))
 (.seq (.region [
   ⟨some 4, .mv (.k (.bool false)), none⟩])
 (.ret)))⟩
theorem eq_rabbetref06_size (Φ : Calls') (a0 a1 : AV) (H : AH) (Q : Post) : fnE1 Φ ir_rabbetref06_size [a0, a1] H Q = rabbetref06_size Φ a0 a1 H Q := by kernel_rfl

/-! rabbet/rabbetref06.Name -/
def rabbetref06_Name_k1 (Φ : Calls') (s9 : List AV × AH) (L10 : (List AV × AH) → Prop) (Q : Post) : List AV → AH → Prop := fun j13 H14 =>
 Do (abin .add (sl s9.1 0) (.int .i64 1)) fun x27 =>
 L10 ([x27], H14)
def rabbetref06_Name_k2 (Φ : Calls') (s9 : List AV × AH) (L10 : (List AV × AH) → Prop) (Q : Post) : List AV → AH → Prop := fun j20 H21 =>
 Gd (sl j20 0) true (
 Q (.bool false) H21) (
 JoinP (rabbetref06_Name_k1 Φ s9 L10 Q) [] H21)
def rabbetref06_Name_k3 (Φ : Calls') (x15 : AV) (s9 : List AV × AH) (L10 : (List AV × AH) → Prop) (Q : Post) : List AV → AH → Prop := fun j16 H17 =>
 Do (aun .not (sl j16 0)) fun x22 =>
 Gd3 x22 true (
 Do (abin .eql (sl s9.1 0) (.int .i64 0)) fun x23 =>
 Gd3 x23 false (
 Do (abin .neq x15 (.int .u8 95)) fun x24 =>
 Gd3 x24 true (
 Do (abin .lss x15 (.int .u8 48)) fun x25 =>
 Gd3 x25 false (
 Do (abin .gtr x15 (.int .u8 57)) fun x26 =>
 JoinP (rabbetref06_Name_k2 Φ s9 L10 Q) [x26] H17) (
 JoinP (rabbetref06_Name_k2 Φ s9 L10 Q) [(.bool true)] H17) (
 False)) (
 JoinP (rabbetref06_Name_k2 Φ s9 L10 Q) [(.bool false)] H17) (
 False)) (
 JoinP (rabbetref06_Name_k2 Φ s9 L10 Q) [(.bool true)] H17) (
 False)) (
 JoinP (rabbetref06_Name_k2 Φ s9 L10 Q) [(.bool false)] H17) (
 False)
def rabbetref06_Name_l4 (Φ : Calls') (a0 : AV) (Q : Post) : (List AV × AH) → ((List AV × AH) → Prop) → Prop := fun s9 L10 =>
 Do (alen true a0) fun x11 =>
 Do (abin .lss (sl s9.1 0) x11) fun x12 =>
 Gd x12 true (
 Do (aidxs a0 (sl s9.1 0)) fun x15 =>
 Do (abin .geq x15 (.int .u8 97)) fun x18 =>
 Gd3 x18 true (
 Do (abin .leq x15 (.int .u8 122)) fun x19 =>
 JoinP (rabbetref06_Name_k3 Φ x15 s9 L10 Q) [x19] s9.2) (
 JoinP (rabbetref06_Name_k3 Φ x15 s9 L10 Q) [(.bool false)] s9.2) (
 False)) (
 Q (.bool true) s9.2)
def rabbetref06_Name_k5 (Φ : Calls') (a0 : AV) (Q : Post) : List AV → AH → Prop := fun j1 H2 =>
 LoopP (rabbetref06_Name_l4 Φ a0 Q) ([(.int .i64 0)], H2)
def rabbetref06_Name_k6 (Φ : Calls') (a0 : AV) (Q : Post) : List AV → AH → Prop := fun j3 H4 =>
 Gd (sl j3 0) true (
 Q (.bool false) H4) (
 JoinP (rabbetref06_Name_k5 Φ a0 Q) [] H4)
def rabbetref06_Name (Φ : Calls') (a0 : AV) (H : AH) (Q : Post) : Prop :=
 Do (alen true a0) fun x5 =>
 Do (abin .eql x5 (.int .i64 0)) fun x6 =>
 Gd3 x6 false (
 Do (alen true a0) fun x7 =>
 Do (abin .gtr x7 (.int .i64 16)) fun x8 =>
 JoinP (rabbetref06_Name_k6 Φ a0 Q) [x8] H) (
 JoinP (rabbetref06_Name_k6 Φ a0 Q) [(.bool true)] H) (
 False)
def ir_rabbetref06_Name : AFunc := ⟨47, [.tmp 2],
 .seq (.region [
   ⟨some 2, .mv (.k (.bool false)), none⟩])
 (.join [] [2, 6, 7, 8, 9, 10, 11, 12, 13] (.join [13] [6, 7, 8, 9, 10, 11, 12] (.region [
   ⟨some 6, .mv (.t 0), none⟩,
   ⟨some 7, .len true (.t 6), none⟩,
   ⟨some 8, .bin .eql (.t 7) (.k (.int .i64 0)), none⟩,
   ⟨some 9, .mv (.t 8), none⟩,
   ⟨some 10, .mv (.t 0), some (9, false)⟩,
   ⟨some 11, .len true (.t 10), some (9, false)⟩,
   ⟨some 12, .bin .gtr (.t 11) (.k (.int .i64 16)), some (9, false)⟩,
   ⟨some 13, .pick (.t 9) (.k (.bool true)) (.t 12), none⟩])
 (.cond (.t 13) (.seq (.region [
     ⟨some 2, .mv (.k (.bool false)), none⟩])
   (.ret))
   (.skip)))
 (.seq (.seq (.region [
   ⟨some 3, .mv (.k (.int .i64 0)), none⟩])
 (.block 0 (.loop [3] [2, 4, 5, 14, 15, 16, 17, 18, 19, 20, 21, 22, 23, 24, 25, 26, 27, 28, 29, 30, 31, 32, 33, 34, 35, 36, 37, 38, 39, 40, 41, 42, 43, 44, 45, 46] (.seq (.seq (.region [
   ⟨some 14, .mv (.t 3), none⟩,
   ⟨some 15, .mv (.t 0), none⟩,
   ⟨some 16, .len true (.t 15), none⟩,
   ⟨some 17, .bin .lss (.t 14) (.t 16), none⟩])
 (.cond (.t 17) (.skip)
   (.exit 0)))
 (.join [] [2, 4, 5, 20, 21, 22, 23, 24, 25, 26, 27, 28, 29, 30, 31, 32, 33, 34, 35, 36, 37, 38, 39, 40, 41, 42, 43, 44, 45, 46] (.block 1 (.seq (.region [
   ⟨some 20, .mv (.t 0), none⟩,
   ⟨some 21, .mv (.t 3), none⟩,
   ⟨some 22, .idxs (.t 20) (.t 21), none⟩,
   ⟨some 4, .mv (.t 22), none⟩])
 (.join [5] [23, 24, 25, 26, 27, 28] (.region [
   ⟨some 23, .mv (.t 4), none⟩,
   ⟨some 24, .bin .geq (.t 23) (.k (.int .u8 97)), none⟩,
   ⟨some 25, .mv (.t 24), none⟩,
   ⟨some 26, .mv (.t 4), some (25, true)⟩,
   ⟨some 27, .bin .leq (.t 26) (.k (.int .u8 122)), some (25, true)⟩,
   ⟨some 28, .pick (.t 25) (.t 27) (.k (.bool false)), none⟩,
   ⟨some 5, .mv (.t 28), none⟩])
 (.join [46] [29, 30, 31, 32, 33, 34, 35, 36, 37, 38, 39, 40, 41, 42, 43, 44, 45] (.region [
   ⟨some 29, .mv (.t 5), none⟩,
   ⟨some 30, .un .not (.t 29), none⟩,
   ⟨some 31, .mv (.t 30), none⟩,
   ⟨some 32, .mv (.t 3), some (31, true)⟩,
   ⟨some 33, .bin .eql (.t 32) (.k (.int .i64 0)), some (31, true)⟩,
   ⟨some 34, .mv (.t 33), some (31, true)⟩,
   ⟨some 35, .mv (.t 4), some (34, false)⟩,
   ⟨some 36, .bin .neq (.t 35) (.k (.int .u8 95)), some (34, false)⟩,
   ⟨some 37, .mv (.t 36), some (34, false)⟩,
   ⟨some 38, .mv (.t 4), some (37, true)⟩,
   ⟨some 39, .bin .lss (.t 38) (.k (.int .u8 48)), some (37, true)⟩,
   ⟨some 40, .mv (.t 39), some (37, true)⟩,
   ⟨some 41, .mv (.t 4), some (40, false)⟩,
   ⟨some 42, .bin .gtr (.t 41) (.k (.int .u8 57)), some (40, false)⟩,
   ⟨some 43, .pick (.t 40) (.k (.bool true)) (.t 42), some (37, true)⟩,
   ⟨some 44, .pick (.t 37) (.t 43) (.k (.bool false)), some (34, false)⟩,
   ⟨some 45, .pick (.t 34) (.k (.bool true)) (.t 44), some (31, true)⟩,
   ⟨some 46, .pick (.t 31) (.t 45) (.k (.bool false)), none⟩])
 (.cond (.t 46) (.seq (.region [
     ⟨some 2, .mv (.k (.bool false)), none⟩])
   (.ret))
   (.skip))))))
 (.region [
   ⟨some 18, .mv (.t 3), none⟩,
   ⟨some 19, .bin .add (.t 18) (.k (.int .i64 1)), none⟩,
   ⟨some 3, .mv (.t 19), none⟩]))))))
 (.seq (.region [
   ⟨some 2, .mv (.k (.bool true)), none⟩])
 (.ret))))⟩
theorem eq_rabbetref06_Name (Φ : Calls') (a0 : AV) (H : AH) (Q : Post) : fnE1 Φ ir_rabbetref06_Name [a0] H Q = rabbetref06_Name Φ a0 H Q := by kernel_rfl

def tab_rabbetref06 : Tab := [
  (K.rabbetref06_Same, ir_rabbetref06_Same),
  (K.rabbetref06_Sound, ir_rabbetref06_Sound),
  (K.rabbetref06_Depth, ir_rabbetref06_Depth),
  (K.rabbetref06_inner, ir_rabbetref06_inner),
  (K.rabbetref06_size, ir_rabbetref06_size),
  (K.rabbetref06_Name, ir_rabbetref06_Name)]

theorem cl_rabbetref06_Same {Φ : Calls'} (hT : Cl Φ tab_rabbetref06) {a0 a1 : AV} {H : AH} {Q : Post} (h : rabbetref06_Same Φ a0 a1 H Q) : Φ K.rabbetref06_Same [a0, a1] H Q := hT.call (by kernel_rfl) (by kernel_rfl) (by rw [eq_rabbetref06_Same]; exact h)
theorem cl_rabbetref06_Sound {Φ : Calls'} (hT : Cl Φ tab_rabbetref06) {a0 : AV} {H : AH} {Q : Post} (h : rabbetref06_Sound Φ a0 H Q) : Φ K.rabbetref06_Sound [a0] H Q := hT.call (by kernel_rfl) (by kernel_rfl) (by rw [eq_rabbetref06_Sound]; exact h)
theorem cl_rabbetref06_Depth {Φ : Calls'} (hT : Cl Φ tab_rabbetref06) {a0 a1 : AV} {H : AH} {Q : Post} (h : rabbetref06_Depth Φ a0 a1 H Q) : Φ K.rabbetref06_Depth [a0, a1] H Q := hT.call (by kernel_rfl) (by kernel_rfl) (by rw [eq_rabbetref06_Depth]; exact h)
theorem cl_rabbetref06_inner {Φ : Calls'} (hT : Cl Φ tab_rabbetref06) {a0 : AV} {H : AH} {Q : Post} (h : rabbetref06_inner Φ a0 H Q) : Φ K.rabbetref06_inner [a0] H Q := hT.call (by kernel_rfl) (by kernel_rfl) (by rw [eq_rabbetref06_inner]; exact h)
theorem cl_rabbetref06_size {Φ : Calls'} (hT : Cl Φ tab_rabbetref06) {a0 a1 : AV} {H : AH} {Q : Post} (h : rabbetref06_size Φ a0 a1 H Q) : Φ K.rabbetref06_size [a0, a1] H Q := hT.call (by kernel_rfl) (by kernel_rfl) (by rw [eq_rabbetref06_size]; exact h)
theorem cl_rabbetref06_Name {Φ : Calls'} (hT : Cl Φ tab_rabbetref06) {a0 : AV} {H : AH} {Q : Post} (h : rabbetref06_Name Φ a0 H Q) : Φ K.rabbetref06_Name [a0] H Q := hT.call (by kernel_rfl) (by kernel_rfl) (by rw [eq_rabbetref06_Name]; exact h)
end Rb.S
