/- A part of the proof (part 4): see the last text. -/
import Derived.Test.YtifjgnmgchcfaaaGreatDoorRb2
import Derived.KernelRfl
/- Package layout: its functions in the small language, and what they mean. By gen.py. -/
set_option linter.unusedVariables false
namespace Rb.S
open Go

/-! rabbet/layout.Of -/
def layout_Of (Φ : Calls') (a0 : AV) (H : AH) (Q : Post) : Prop :=
 DoH (aboxv H false 6 a0) fun x1 H2 =>
 Do (aload H2 6 true x1) fun x3 =>
Φ K.layout_check [x3] H2 fun x4 H5 =>
 Do (aextract 0 x4) fun x6 =>
 Do (aextract 1 x4) fun x7 =>
 DoH (some (abox H5 true [.int .i64 0, .int .i64 0])) fun x8 H9 =>
 Do (astore H9 2 x8 x6) fun H10 =>
 Do (afaddr 0 x8) fun x11 =>
 Do (aload H10 1 false x11) fun x12 =>
 Do (afaddr 1 x8) fun x13 =>
 Do (aload H10 1 false x13) fun x14 =>
 Q (.tup [x12, x14, x7]) H10
def ir_layout_Of : AFunc := ⟨16, [.tmp 2, .tmp 3, .tmp 4],
 .seq (.region [
   ⟨some 1, .box false 6 (.t 0), none⟩,
   ⟨some 2, .mv (.k (.int .i64 0)), none⟩,
   ⟨some 3, .mv (.k (.int .i64 0)), none⟩,
   ⟨some 4, .mv (.k (.int .i64 0)), none⟩])
 (.seq (.region [
   ⟨some 7, .load 6 true (.t 1), none⟩,
   ⟨some 8, .call K.layout_check [(.t 7)], none⟩,
   ⟨some 6, .mv (.t 8), none⟩,
   ⟨some 9, .extract 0 (.t 6), none⟩,
   ⟨some 10, .extract 1 (.t 6), none⟩,
   ⟨some 5, .alloc true [.int .i64 0, .int .i64 0], none⟩,
   ⟨none, .store 2 (.t 5) (.t 9), none⟩,
   ⟨some 4, .mv (.t 10), none⟩])
 (.seq (.draw [
   ⟨some 11, .faddr 0 (.t 5), none⟩,
   ⟨some 12, .load 1 false (.t 11), none⟩,
   ⟨some 13, .faddr 1 (.t 5), none⟩,
   ⟨some 14, .load 1 false (.t 13), none⟩,
   ⟨some 15, .mv (.t 4), none⟩,
   ⟨some 2, .mv (.t 12), none⟩,
   ⟨some 3, .mv (.t 14), none⟩,
   ⟨some 4, .mv (.t 15), none⟩]
 [[], [0], [], [2], [], [0, 1], [0, 1, 2, 3, 5], [0, 1, 2, 3, 4, 5, 6]] [] [0, 1, 2, 3, 4, 5, 6, 7])
 (.ret)))⟩
theorem eq_layout_Of (Φ : Calls') (a0 : AV) (H : AH) (Q : Post) : fnE1 Φ ir_layout_Of [a0] H Q = layout_Of Φ a0 H Q := by kernel_rfl

/-! rabbet/layout.check -/
def layout_check (Φ : Calls') (a0 : AV) (H : AH) (Q : Post) : Prop :=
 DoH (aboxv H false 6 a0) fun x1 H2 =>
 DoH (some (abox H2 true [.int .i64 0, .int .i64 0])) fun x3 H4 =>
 Do (aload H4 6 true x1) fun x5 =>
Φ K.kind_Sound [x5] H4 fun x6 H7 =>
 Do (abin .neq x6 (.int .i64 0)) fun x8 =>
 Gd x8 true (
 Do (abuild [.int .i64 0, .int .i64 0] []) fun x9 =>
 Do (astore H7 2 x3 x9) fun H10 =>
 Do (aload H10 2 true x3) fun x11 =>
 Q (.tup [x11, x6]) H10) (
 Do (aload H7 6 true x1) fun x12 =>
Φ K.layout_torn [x12] H7 fun x13 H14 =>
 Gd x13 true (
 Do (abuild [.int .i64 0, .int .i64 0] []) fun x15 =>
 Do (astore H14 2 x3 x15) fun H16 =>
 Do (aload H16 2 true x3) fun x17 =>
 Q (.tup [x17, (.int .i64 10)]) H16) (
 Do (aload H14 6 true x1) fun x18 =>
Φ K.layout_of [x18] H14 fun x19 H20 =>
 Do (aextract 0 x19) fun x21 =>
 Do (aextract 1 x19) fun x22 =>
 DoH (some (abox H20 true [.int .i64 0, .int .i64 0])) fun x23 H24 =>
 Do (astore H24 2 x23 x21) fun H25 =>
 Do (aun .not x22) fun x26 =>
 Gd x26 true (
 Do (abuild [.int .i64 0, .int .i64 0] []) fun x27 =>
 Do (astore H25 2 x3 x27) fun H28 =>
 Do (aload H28 2 true x3) fun x29 =>
 Q (.tup [x29, (.int .i64 9)]) H28) (
 Do (aload H25 2 true x23) fun x30 =>
 Do (astore H25 2 x3 x30) fun H31 =>
 Do (aload H31 2 true x3) fun x32 =>
 Q (.tup [x32, (.int .i64 0)]) H31)))
def ir_layout_check : AFunc := ⟨25, [.cell 2 2 true, .tmp 3],
 .seq (.region [
   ⟨some 1, .box false 6 (.t 0), none⟩,
   ⟨some 2, .alloc true [.int .i64 0, .int .i64 0], none⟩,
   ⟨some 3, .mv (.k (.int .i64 0)), none⟩])
 (.seq (.seq (.region [
   ⟨some 7, .load 6 true (.t 1), none⟩,
   ⟨some 8, .call K.kind_Sound [(.t 7)], none⟩,
   ⟨some 4, .mv (.t 8), none⟩])
 (.seq (.region [
   ⟨some 9, .mv (.t 4), none⟩,
   ⟨some 10, .bin .neq (.t 9) (.k (.int .i64 0)), none⟩])
 (.cond (.t 10) (.seq (.region [
     ⟨some 11, .build [.int .i64 0, .int .i64 0] [], none⟩,
     ⟨some 12, .mv (.t 4), none⟩,
     ⟨none, .store 2 (.t 2) (.t 11), none⟩,
     ⟨some 3, .mv (.t 12), none⟩])
   (.ret))
   (.skip))))
 (.seq (.seq (.region [
   ⟨some 13, .load 6 true (.t 1), none⟩,
   ⟨some 14, .call K.layout_torn [(.t 13)], none⟩])
 (.cond (.t 14) (.seq (.region [
     ⟨some 15, .build [.int .i64 0, .int .i64 0] [], none⟩,
     ⟨none, .store 2 (.t 2) (.t 15), none⟩,
     ⟨some 3, .mv (.k (.int .i64 10)), none⟩])
   (.ret))
   (.skip)))
 (.seq (.region [
   ⟨some 17, .load 6 true (.t 1), none⟩,
   ⟨some 18, .call K.layout_of [(.t 17)], none⟩,
   ⟨some 16, .mv (.t 18), none⟩,
   ⟨some 19, .extract 0 (.t 16), none⟩,
   ⟨some 20, .extract 1 (.t 16), none⟩,
   ⟨some 5, .alloc true [.int .i64 0, .int .i64 0], none⟩,
   ⟨none, .store 2 (.t 5) (.t 19), none⟩,
   ⟨some 6, .mv (.t 20), none⟩])
 (.seq (.seq (.region [
   ⟨some 21, .mv (.t 6), none⟩,
   ⟨some 22, .un .not (.t 21), none⟩])
 (.cond (.t 22) (.seq (.region [
     ⟨some 23, .build [.int .i64 0, .int .i64 0] [], none⟩,
     ⟨none, .store 2 (.t 2) (.t 23), none⟩,
     ⟨some 3, .mv (.k (.int .i64 9)), none⟩])
   (.ret))
   (.skip)))
 (.seq (.region [
   ⟨some 24, .load 2 true (.t 5), none⟩,
   ⟨none, .store 2 (.t 2) (.t 24), none⟩,
   ⟨some 3, .mv (.k (.int .i64 0)), none⟩])
 (.ret))))))⟩
theorem eq_layout_check (Φ : Calls') (a0 : AV) (H : AH) (Q : Post) : fnE1 Φ ir_layout_check [a0] H Q = layout_check Φ a0 H Q := by kernel_rfl

/-! rabbet/layout.torn -/
def layout_torn_k1 (Φ : Calls') (x1 : AV) (Q : Post) : List AV → AH → Prop := fun j10 H11 =>
 Gd3 (sl j10 0) false (
 Do (afaddr 3 x1) fun x16 =>
 Do (aload H11 1 false x16) fun x17 =>
Φ K.slices_ContainsFunc___api_Field_api_Field_ [x17, (.fn K.layout_torn_c1 [])] H11 fun x18 H19 =>
 Q x18 H19) (
 Q (.bool true) H11) (
 False)
def layout_torn_k2 (Φ : Calls') (x1 : AV) (Q : Post) : List AV → AH → Prop := fun j3 H4 =>
 Gd3 (sl j3 0) false (
 Do (afaddr 5 x1) fun x12 =>
 Do (aload H4 1 false x12) fun x13 =>
Φ K.slices_ContainsFunc___api_Type_api_Type_ [x13, (.fn K.layout_torn [])] H4 fun x14 H15 =>
 JoinP (layout_torn_k1 Φ x1 Q) [x14] H15) (
 JoinP (layout_torn_k1 Φ x1 Q) [(.bool true)] H4) (
 False)
def layout_torn (Φ : Calls') (a0 : AV) (H : AH) (Q : Post) : Prop :=
 DoH (aboxv H false 6 a0) fun x1 H2 =>
 Do (afaddr 2 x1) fun x5 =>
 Do (aload H2 1 false x5) fun x6 =>
 Gd3 x6 true (
 Do (aload H2 6 true x1) fun x7 =>
Φ K.layout_loose [x7] H2 fun x8 H9 =>
 JoinP (layout_torn_k2 Φ x1 Q) [x8] H9) (
 JoinP (layout_torn_k2 Φ x1 Q) [(.bool false)] H2) (
 False)
def ir_layout_torn : AFunc := ⟨19, [.tmp 2],
 .seq (.region [
   ⟨some 1, .box false 6 (.t 0), none⟩,
   ⟨some 2, .mv (.k (.bool false)), none⟩])
 (.seq (.rjoin [8] [3, 4, 5, 6, 7] [
   ⟨some 3, .faddr 2 (.t 1), none⟩,
   ⟨some 4, .load 1 false (.t 3), none⟩,
   ⟨some 5, .mv (.t 4), none⟩,
   ⟨some 6, .load 6 true (.t 1), some (5, true)⟩,
   ⟨some 7, .call K.layout_loose [(.t 6)], some (5, true)⟩,
   ⟨some 8, .pick (.t 5) (.t 7) (.k (.bool false)), none⟩]
 (.rjoin [13] [9, 10, 11, 12] [
   ⟨some 9, .mv (.t 8), none⟩,
   ⟨some 10, .faddr 5 (.t 1), some (9, false)⟩,
   ⟨some 11, .load 1 false (.t 10), some (9, false)⟩,
   ⟨some 12, .call K.slices_ContainsFunc___api_Type_api_Type_ [(.t 11), (.k (.fn K.layout_torn []))], some (9, false)⟩,
   ⟨some 13, .pick (.t 9) (.k (.bool true)) (.t 12), none⟩]
 (.region [
   ⟨some 14, .mv (.t 13), none⟩,
   ⟨some 15, .faddr 3 (.t 1), some (14, false)⟩,
   ⟨some 16, .load 1 false (.t 15), some (14, false)⟩,
   ⟨some 17, .call K.slices_ContainsFunc___api_Field_api_Field_ [(.t 16), (.k (.fn K.layout_torn_c1 []))], some (14, false)⟩,
   ⟨some 18, .pick (.t 14) (.k (.bool true)) (.t 17), none⟩,
   ⟨some 2, .mv (.t 18), none⟩])))
 (.ret))⟩
theorem eq_layout_torn (Φ : Calls') (a0 : AV) (H : AH) (Q : Post) : fnE1 Φ ir_layout_torn [a0] H Q = layout_torn Φ a0 H Q := by kernel_rfl

/-! rabbet/layout.of -/
def layout_of_k1 (Φ : Calls') (x1 : AV) (x3 : AV) (Q : Post) : List AV → AH → Prop := fun j5 H6 =>
 Do (aload H6 6 true x1) fun x46 =>
Φ K.layout_place [x46] H6 fun x47 H48 =>
 Do (aextract 0 x47) fun x49 =>
 Do (aextract 1 x47) fun x50 =>
 DoH (some (abox H48 true [.int .i64 0, .int .i64 0, .lst .nil 0 [], .int .i64 0])) fun x51 H52 =>
 Do (astore H52 4 x51 x49) fun H53 =>
 Do (afaddr 0 x51) fun x54 =>
 Do (aload H53 2 true x54) fun x55 =>
 Do (astore H53 2 x3 x55) fun H56 =>
 Do (aload H56 2 true x3) fun x57 =>
 Q (.tup [x57, x50]) H56
def layout_of_k2 (Φ : Calls') (x1 : AV) (x3 : AV) (x8 : AV) (Q : Post) : List AV → AH → Prop := fun j9 H10 =>
 Gd (sl j9 0) true (
 Do (afaddr 1 x1) fun x12 =>
 Do (aload H10 1 false x12) fun x13 =>
 Do (afaddr 1 x1) fun x14 =>
 Do (aload H10 1 false x14) fun x15 =>
 Do (abuild [.int .i64 0, .int .i64 0] [(0, 1, x13), (1, 1, x15)]) fun x16 =>
 Do (astore H10 2 x3 x16) fun H17 =>
 Do (aload H17 2 true x3) fun x18 =>
 Q (.tup [x18, (.bool true)]) H17) (
 Do (abin .eql x8 (.int .i64 5)) fun x19 =>
 Gd x19 true (
 Do (afaddr 5 x1) fun x20 =>
 Do (aload H10 1 false x20) fun x21 =>
 Do (aiaddr none 6 x21 (.int .i64 0)) fun x22 =>
 Do (aload H10 6 true x22) fun x23 =>
Φ K.layout_of [x23] H10 fun x24 H25 =>
 Do (aextract 0 x24) fun x26 =>
 Do (aextract 1 x24) fun x27 =>
 DoH (some (abox H25 true [.int .i64 0, .int .i64 0])) fun x28 H29 =>
 Do (astore H29 2 x28 x26) fun H30 =>
 Do (afaddr 0 x28) fun x31 =>
 Do (aload H30 1 false x31) fun x32 =>
 Do (afaddr 4 x1) fun x33 =>
 Do (aload H30 1 false x33) fun x34 =>
 Do (abin .mul x32 x34) fun x35 =>
 Do (afaddr 0 x28) fun x36 =>
 Do (astore H30 1 x36 x35) fun H37 =>
 Do (aload H37 2 true x28) fun x38 =>
 Gd3 x27 true (
 Do (afaddr 0 x28) fun x39 =>
 Do (aload H37 1 false x39) fun x40 =>
 Do (abin .leq x40 (.int .i64 65536)) fun x41 =>
 Do (astore H37 2 x3 x38) fun H42 =>
(((.bool true) : AV) = .bool true → aload H42 1 false x39 = some x40) ∧
(Do (aload H42 2 true x3) fun x43 =>
 Q (.tup [x43, x41]) H42)) (
 Do (astore H37 2 x3 x38) fun H44 =>
(((.bool false) : AV) = .bool true → aload H44 1 false (.tup []) = some (.tup [])) ∧
(Do (aload H44 2 true x3) fun x45 =>
 Q (.tup [x45, (.bool false)]) H44)) (
 False)) (
 JoinP (layout_of_k1 Φ x1 x3 Q) [] H10))
def layout_of (Φ : Calls') (a0 : AV) (H : AH) (Q : Post) : Prop :=
 DoH (aboxv H false 6 a0) fun x1 H2 =>
 DoH (some (abox H2 true [.int .i64 0, .int .i64 0])) fun x3 H4 =>
 Do (afaddr 0 x1) fun x7 =>
 Do (aload H4 1 false x7) fun x8 =>
 Do (abin .eql x8 (.int .i64 1)) fun x11 =>
 Gd x11 true (
 JoinP (layout_of_k2 Φ x1 x3 x8 Q) [x11] H4) (
 Do (abin .eql x8 (.int .i64 2)) fun x58 =>
 JoinP (layout_of_k2 Φ x1 x3 x8 Q) [x58] H4)
def ir_layout_of : AFunc := ⟨49, [.cell 2 2 true, .tmp 3],
 .seq (.region [
   ⟨some 1, .box false 6 (.t 0), none⟩,
   ⟨some 2, .alloc true [.int .i64 0, .int .i64 0], none⟩,
   ⟨some 3, .mv (.k (.bool false)), none⟩])
 (.join [] [3, 4, 5, 8, 9, 10, 11, 12, 13, 14, 15, 16, 17, 18, 19, 20, 21, 22, 23, 24, 25, 26, 27, 28, 29, 30, 31, 32, 33, 34, 35, 36, 37, 38, 39, 40] (.seq (.region [
   ⟨some 8, .faddr 0 (.t 1), none⟩,
   ⟨some 9, .load 1 false (.t 8), none⟩])
 (.block 0 (.join [10] [11, 12] (.seq (.region [
   ⟨some 11, .bin .eql (.t 9) (.k (.int .i64 1)), none⟩,
   ⟨some 10, .mv (.t 11), none⟩])
 (.cond (.t 10) (.skip)
   (.region [
     ⟨some 12, .bin .eql (.t 9) (.k (.int .i64 2)), none⟩,
     ⟨some 10, .mv (.t 12), none⟩])))
 (.cond (.t 10) (.seq (.region [
     ⟨some 13, .faddr 1 (.t 1), none⟩,
     ⟨some 14, .load 1 false (.t 13), none⟩,
     ⟨some 15, .faddr 1 (.t 1), none⟩,
     ⟨some 16, .load 1 false (.t 15), none⟩,
     ⟨some 17, .build [.int .i64 0, .int .i64 0] [(0, 1, (.t 14)), (1, 1, (.t 16))], none⟩,
     ⟨none, .store 2 (.t 2) (.t 17), none⟩,
     ⟨some 3, .mv (.k (.bool true)), none⟩])
   (.ret))
   (.seq (.region [
     ⟨some 19, .bin .eql (.t 9) (.k (.int .i64 5)), none⟩,
     ⟨some 18, .mv (.t 19), none⟩])
   (.cond (.t 18) (.seq (.region [
       ⟨some 21, .faddr 5 (.t 1), none⟩,
       ⟨some 22, .load 1 false (.t 21), none⟩,
       ⟨some 23, .iaddr none 6 (.t 22) (.k (.int .i64 0)), none⟩,
       ⟨some 24, .load 6 true (.t 23), none⟩,
       ⟨some 25, .call K.layout_of [(.t 24)], none⟩,
       ⟨some 20, .mv (.t 25), none⟩,
       ⟨some 26, .extract 0 (.t 20), none⟩,
       ⟨some 27, .extract 1 (.t 20), none⟩,
       ⟨some 4, .alloc true [.int .i64 0, .int .i64 0], none⟩,
       ⟨none, .store 2 (.t 4) (.t 26), none⟩,
       ⟨some 5, .mv (.t 27), none⟩])
     (.seq (.region [
       ⟨some 28, .faddr 0 (.t 4), none⟩,
       ⟨some 29, .load 1 false (.t 28), none⟩,
       ⟨some 30, .faddr 4 (.t 1), none⟩,
       ⟨some 31, .load 1 false (.t 30), none⟩,
       ⟨some 32, .bin .mul (.t 29) (.t 31), none⟩,
       ⟨some 33, .faddr 0 (.t 4), none⟩,
       ⟨none, .store 1 (.t 33) (.t 32), none⟩])
     (.seq (.draw [
       ⟨some 34, .load 2 true (.t 4), none⟩,
       ⟨some 35, .mv (.t 5), none⟩,
       ⟨some 36, .mv (.t 35), none⟩,
       ⟨some 37, .faddr 0 (.t 4), some (36, true)⟩,
       ⟨some 38, .load 1 false (.t 37), some (36, true)⟩,
       ⟨some 39, .bin .leq (.t 38) (.k (.int .i64 65536)), some (36, true)⟩,
       ⟨some 40, .pick (.t 36) (.t 39) (.k (.bool false)), none⟩,
       ⟨none, .store 2 (.t 2) (.t 34), none⟩,
       ⟨some 3, .mv (.t 40), none⟩]
     [[], [], [1], [1, 2], [1, 2, 3], [1, 2, 3, 4], [1, 2, 3, 4, 5], [0, 1, 2], [0, 1, 2, 3, 4, 5, 6, 7]] [([0, 1, 2, 3, 4, 5, 6], 7, [4])] [8])
     (.ret))))
     (.skip)))))))
 (.seq (.region [
   ⟨some 42, .load 6 true (.t 1), none⟩,
   ⟨some 43, .call K.layout_place [(.t 42)], none⟩,
   ⟨some 41, .mv (.t 43), none⟩,
   ⟨some 44, .extract 0 (.t 41), none⟩,
   ⟨some 45, .extract 1 (.t 41), none⟩,
   ⟨some 6, .alloc true [.int .i64 0, .int .i64 0, .lst .nil 0 [], .int .i64 0], none⟩,
   ⟨none, .store 4 (.t 6) (.t 44), none⟩,
   ⟨some 7, .mv (.t 45), none⟩])
 (.seq (.region [
   ⟨some 46, .faddr 0 (.t 6), none⟩,
   ⟨some 47, .load 2 true (.t 46), none⟩,
   ⟨some 48, .mv (.t 7), none⟩,
   ⟨none, .store 2 (.t 2) (.t 47), none⟩,
   ⟨some 3, .mv (.t 48), none⟩])
 (.ret))))⟩
theorem eq_layout_of (Φ : Calls') (a0 : AV) (H : AH) (Q : Post) : fnE1 Φ ir_layout_of [a0] H Q = layout_of Φ a0 H Q := by kernel_rfl

/-! rabbet/layout.loose -/
def layout_loose_k1 (Φ : Calls') (x1 : AV) (Q : Post) : List AV → AH → Prop := fun j11 H12 =>
 Gd3 (sl j11 0) false (
 Do (afaddr 3 x1) fun x17 =>
 Do (aload H12 1 false x17) fun x18 =>
Φ K.slices_ContainsFunc___api_Field_api_Field_ [x18, (.fn K.layout_loose_c1 [])] H12 fun x19 H20 =>
 Q x19 H20) (
 Q (.bool true) H12) (
 False)
def layout_loose_k2 (Φ : Calls') (x1 : AV) (Q : Post) : List AV → AH → Prop := fun j3 H4 =>
 Gd3 (sl j3 0) false (
 Do (afaddr 5 x1) fun x13 =>
 Do (aload H4 1 false x13) fun x14 =>
Φ K.slices_ContainsFunc___api_Type_api_Type_ [x14, (.fn K.layout_loose [])] H4 fun x15 H16 =>
 JoinP (layout_loose_k1 Φ x1 Q) [x15] H16) (
 JoinP (layout_loose_k1 Φ x1 Q) [(.bool true)] H4) (
 False)
def layout_loose (Φ : Calls') (a0 : AV) (H : AH) (Q : Post) : Prop :=
 DoH (aboxv H false 6 a0) fun x1 H2 =>
 Do (afaddr 0 x1) fun x5 =>
 Do (aload H2 1 false x5) fun x6 =>
 Do (abin .eql x6 (.int .i64 2)) fun x7 =>
 Gd3 x7 true (
 Do (afaddr 1 x1) fun x8 =>
 Do (aload H2 1 false x8) fun x9 =>
 Do (abin .gtr x9 (.int .i64 1)) fun x10 =>
 JoinP (layout_loose_k2 Φ x1 Q) [x10] H2) (
 JoinP (layout_loose_k2 Φ x1 Q) [(.bool false)] H2) (
 False)
def ir_layout_loose : AFunc := ⟨21, [.tmp 2],
 .seq (.region [
   ⟨some 1, .box false 6 (.t 0), none⟩,
   ⟨some 2, .mv (.k (.bool false)), none⟩])
 (.seq (.rjoin [10] [3, 4, 5, 6, 7, 8, 9] [
   ⟨some 3, .faddr 0 (.t 1), none⟩,
   ⟨some 4, .load 1 false (.t 3), none⟩,
   ⟨some 5, .bin .eql (.t 4) (.k (.int .i64 2)), none⟩,
   ⟨some 6, .mv (.t 5), none⟩,
   ⟨some 7, .faddr 1 (.t 1), some (6, true)⟩,
   ⟨some 8, .load 1 false (.t 7), some (6, true)⟩,
   ⟨some 9, .bin .gtr (.t 8) (.k (.int .i64 1)), some (6, true)⟩,
   ⟨some 10, .pick (.t 6) (.t 9) (.k (.bool false)), none⟩]
 (.rjoin [15] [11, 12, 13, 14] [
   ⟨some 11, .mv (.t 10), none⟩,
   ⟨some 12, .faddr 5 (.t 1), some (11, false)⟩,
   ⟨some 13, .load 1 false (.t 12), some (11, false)⟩,
   ⟨some 14, .call K.slices_ContainsFunc___api_Type_api_Type_ [(.t 13), (.k (.fn K.layout_loose []))], some (11, false)⟩,
   ⟨some 15, .pick (.t 11) (.k (.bool true)) (.t 14), none⟩]
 (.region [
   ⟨some 16, .mv (.t 15), none⟩,
   ⟨some 17, .faddr 3 (.t 1), some (16, false)⟩,
   ⟨some 18, .load 1 false (.t 17), some (16, false)⟩,
   ⟨some 19, .call K.slices_ContainsFunc___api_Field_api_Field_ [(.t 18), (.k (.fn K.layout_loose_c1 []))], some (16, false)⟩,
   ⟨some 20, .pick (.t 16) (.k (.bool true)) (.t 19), none⟩,
   ⟨some 2, .mv (.t 20), none⟩])))
 (.ret))⟩
theorem eq_layout_loose (Φ : Calls') (a0 : AV) (H : AH) (Q : Post) : fnE1 Φ ir_layout_loose [a0] H Q = layout_loose Φ a0 H Q := by kernel_rfl

/-! rabbet/layout.torn$1 -/
def layout_torn_c1 (Φ : Calls') (a0 : AV) (H : AH) (Q : Post) : Prop :=
 DoH (aboxv H false 9 a0) fun x1 H2 =>
 Do (afaddr 1 x1) fun x3 =>
 Do (aload H2 6 true x3) fun x4 =>
Φ K.layout_torn [x4] H2 fun x5 H6 =>
 Q x5 H6
def ir_layout_torn_c1 : AFunc := ⟨6, [.tmp 2],
 .seq (.region [
   ⟨some 1, .box false 9 (.t 0), none⟩,
   ⟨some 2, .mv (.k (.bool false)), none⟩])
 (.seq (.region [
   ⟨some 3, .faddr 1 (.t 1), none⟩,
   ⟨some 4, .load 6 true (.t 3), none⟩,
   ⟨some 5, .call K.layout_torn [(.t 4)], none⟩,
   ⟨some 2, .mv (.t 5), none⟩])
 (.ret))⟩
theorem eq_layout_torn_c1 (Φ : Calls') (a0 : AV) (H : AH) (Q : Post) : fnE1 Φ ir_layout_torn_c1 [a0] H Q = layout_torn_c1 Φ a0 H Q := by kernel_rfl

/-! rabbet/layout.place -/
def layout_place_k1 (Φ : Calls') (s15 : List AV × AH) (L16 : (List AV × AH) → Prop) (Q : Post) : List AV → AH → Prop := fun j18 H19 =>
 Do (abin .add (sl s15.1 0) (.int .i64 1)) fun x77 =>
 L16 ([x77], H19)
def layout_place_k2 (Φ : Calls') (x7 : AV) (s15 : List AV × AH) (L16 : (List AV × AH) → Prop) (Q : Post) : List AV → AH → Prop := fun j58 H59 =>
 Do (afaddr 0 x7) fun x65 =>
 Do (afaddr 0 x65) fun x66 =>
 Do (aload H59 1 false x66) fun x67 =>
 Do (afaddr 3 x7) fun x68 =>
 Do (aload H59 1 false x68) fun x69 =>
Φ K.layout_up [x69, (.int .i64 8)] H59 fun x70 H71 =>
(aload H71 1 false x66 = some x67) ∧
(Do (abin .quo x70 (.int .i64 8)) fun x72 =>
 Do (aminmax true [x67, x72]) fun x73 =>
 Do (afaddr 0 x7) fun x74 =>
 Do (afaddr 0 x74) fun x75 =>
 Do (astore H71 1 x75 x73) fun H76 =>
 JoinP (layout_place_k1 Φ s15 L16 Q) [] H76)
def layout_place_k3 (Φ : Calls') (x7 : AV) (x22 : AV) (x31 : AV) (x42 : AV) (s15 : List AV × AH) (L16 : (List AV × AH) → Prop) (Q : Post) : List AV → AH → Prop := fun j51 H52 =>
 Do (afaddr 7 x22) fun x60 =>
 Do (aload H52 1 false x60) fun x61 =>
 Gd x61 true (
 Do (aload H52 9 true x22) fun x62 =>
Φ K.layout_placed_bits [x7, x62] H52 fun x63 H64 =>
 JoinP (layout_place_k2 Φ x7 s15 L16 Q) [] H64) (
 Do (afaddr 3 x7) fun x78 =>
 Do (aload H52 1 false x78) fun x79 =>
Φ K.layout_up [x79, (.int .i64 8)] H52 fun x80 H81 =>
 Do (abin .quo x80 (.int .i64 8)) fun x82 =>
Φ K.layout_up [x82, x42] H81 fun x83 H84 =>
 Do (afaddr 2 x7) fun x85 =>
 Do (aload H84 1 false x85) fun x86 =>
 Do (afaddr 0 x31) fun x87 =>
 Do (aload H84 1 false x87) fun x88 =>
 Do (abuild [.int .i64 0, .int .i64 0] [(0, 1, x83), (1, 1, x88)]) fun x89 =>
 Do (afaddr 1 x22) fun x90 =>
 Do (afaddr 0 x90) fun x91 =>
 Do (aload H84 1 false x91) fun x92 =>
 Do (abuild [.int .i64 0, .int .i64 0, .int .i64 0, .bool false, .int .i64 0, .int .i64 0] [(0, 2, x89), (2, 1, x92)]) fun x93 =>
 DoH (abslice H84 false 6 1 [.int .i64 0, .int .i64 0, .int .i64 0, .bool false, .int .i64 0, .int .i64 0] [(0, 6, x93)]) fun x94 H95 =>
 DoH (aappend H95 false 6 48 x86 x94) fun x96 H97 =>
 Do (afaddr 2 x7) fun x98 =>
 Do (astore H97 1 x98 x96) fun H99 =>
 Do (afaddr 0 x31) fun x100 =>
 Do (aload H99 1 false x100) fun x101 =>
 Do (abin .add x83 x101) fun x102 =>
 Do (abin .mul (.int .i64 8) x102) fun x103 =>
 Do (afaddr 3 x7) fun x104 =>
 Do (astore H99 1 x104 x103) fun H105 =>
 JoinP (layout_place_k2 Φ x7 s15 L16 Q) [] H105)
def layout_place_k4 (Φ : Calls') (x3 : AV) (x7 : AV) (Q : Post) : List AV → AH → Prop := fun j10 H11 =>
 Do (afaddr 0 x7) fun x106 =>
 Do (afaddr 0 x106) fun x107 =>
 Do (aload H11 1 false x107) fun x108 =>
 Do (afaddr 0 x7) fun x109 =>
 Do (afaddr 1 x109) fun x110 =>
 Do (aload H11 1 false x110) fun x111 =>
Φ K.layout_up [x108, x111] H11 fun x112 H113 =>
 Do (afaddr 0 x7) fun x114 =>
 Do (afaddr 0 x114) fun x115 =>
 Do (astore H113 1 x115 x112) fun H116 =>
 Do (aload H116 4 true x7) fun x117 =>
 Do (afaddr 0 x7) fun x118 =>
 Do (afaddr 0 x118) fun x119 =>
 Do (aload H116 1 false x119) fun x120 =>
 Do (abin .leq x120 (.int .i64 65536)) fun x121 =>
 Do (astore H116 4 x3 x117) fun H122 =>
(aload H122 1 false x119 = some x120) ∧
(Do (aload H122 4 true x3) fun x123 =>
 Q (.tup [x123, x121]) H122)
def layout_place_l5 (Φ : Calls') (x1 : AV) (x3 : AV) (x7 : AV) (x13 : AV) (x14 : AV) (Q : Post) : (List AV × AH) → ((List AV × AH) → Prop) → Prop := fun s15 L16 =>
 Do (abin .lss (sl s15.1 0) x14) fun x17 =>
 Gd x17 true (
 Do (aiaddr none 9 x13 (sl s15.1 0)) fun x20 =>
 Do (aload s15.2 9 true x20) fun x21 =>
 DoH (some (abox s15.2 true [.str [], .int .i64 0, .int .i64 0, .bool false, .lst .nil 0 [], .int .i64 0, .lst .nil 0 [], .bool false, .int .i64 0])) fun x22 H23 =>
 Do (astore H23 9 x22 x21) fun H24 =>
 Do (afaddr 1 x22) fun x25 =>
 Do (aload H24 6 true x25) fun x26 =>
Φ K.layout_of [x26] H24 fun x27 H28 =>
 Do (aextract 0 x27) fun x29 =>
 Do (aextract 1 x27) fun x30 =>
 DoH (some (abox H28 true [.int .i64 0, .int .i64 0])) fun x31 H32 =>
 Do (astore H32 2 x31 x29) fun H33 =>
 Do (aun .not x30) fun x34 =>
 Gd x34 true (
 Do (abuild [.int .i64 0, .int .i64 0, .lst .nil 0 [], .int .i64 0] []) fun x35 =>
 Do (astore H33 4 x3 x35) fun H36 =>
 Do (aload H36 4 true x3) fun x37 =>
 Q (.tup [x37, (.bool false)]) H36) (
 Do (aload H33 6 true x1) fun x38 =>
 Do (aload H33 9 true x22) fun x39 =>
 Do (afaddr 1 x31) fun x40 =>
 Do (aload H33 1 false x40) fun x41 =>
Φ K.layout_wide [x38, x39, x41] H33 fun x42 H43 =>
 Do (afaddr 0 x7) fun x44 =>
 Do (afaddr 1 x44) fun x45 =>
 Do (aload H43 1 false x45) fun x46 =>
 Do (aminmax true [x46, x42]) fun x47 =>
 Do (afaddr 0 x7) fun x48 =>
 Do (afaddr 1 x48) fun x49 =>
 Do (astore H43 1 x49 x47) fun H50 =>
 Do (afaddr 0 x1) fun x53 =>
 Do (aload H50 1 false x53) fun x54 =>
 Do (abin .eql x54 (.int .i64 4)) fun x55 =>
 Gd x55 true (
 Do (afaddr 3 x7) fun x56 =>
 Do (astore H50 1 x56 (.int .i64 0)) fun H57 =>
 JoinP (layout_place_k3 Φ x7 x22 x31 x42 s15 L16 Q) [] H57) (
 JoinP (layout_place_k3 Φ x7 x22 x31 x42 s15 L16 Q) [] H50))) (
 JoinP (layout_place_k4 Φ x3 x7 Q) [] s15.2)
def layout_place (Φ : Calls') (a0 : AV) (H : AH) (Q : Post) : Prop :=
 DoH (aboxv H false 6 a0) fun x1 H2 =>
 DoH (some (abox H2 true [.int .i64 0, .int .i64 0, .lst .nil 0 [], .int .i64 0])) fun x3 H4 =>
 Do (abuild [.int .i64 0, .int .i64 0] [(0, 1, (.int .i64 0)), (1, 1, (.int .i64 1))]) fun x5 =>
 Do (abuild [.int .i64 0, .int .i64 0, .lst .nil 0 [], .int .i64 0] [(0, 2, x5)]) fun x6 =>
 DoH (some (abox H4 true [.int .i64 0, .int .i64 0, .lst .nil 0 [], .int .i64 0])) fun x7 H8 =>
 Do (astore H8 4 x7 x6) fun H9 =>
 Do (afaddr 3 x1) fun x12 =>
 Do (aload H9 1 false x12) fun x13 =>
 Do (alen false x13) fun x14 =>
 LoopP (layout_place_l5 Φ x1 x3 x7 x13 x14 Q) ([(.int .i64 0)], H9)
def ir_layout_place : AFunc := ⟨99, [.cell 2 4 true, .tmp 3],
 .seq (.region [
   ⟨some 1, .box false 6 (.t 0), none⟩,
   ⟨some 2, .alloc true [.int .i64 0, .int .i64 0, .lst .nil 0 [], .int .i64 0], none⟩,
   ⟨some 3, .mv (.k (.bool false)), none⟩])
 (.seq (.region [
   ⟨some 11, .build [.int .i64 0, .int .i64 0] [(0, 1, (.k (.int .i64 0))), (1, 1, (.k (.int .i64 1)))], none⟩,
   ⟨some 12, .build [.int .i64 0, .int .i64 0, .lst .nil 0 [], .int .i64 0] [(0, 2, (.t 11))], none⟩,
   ⟨some 4, .alloc true [.int .i64 0, .int .i64 0, .lst .nil 0 [], .int .i64 0], none⟩,
   ⟨none, .store 4 (.t 4) (.t 12), none⟩])
 (.join [] [3, 6, 7, 8, 9, 10, 13, 14, 15, 16, 17, 18, 19, 20, 21, 22, 23, 24, 25, 26, 27, 28, 29, 30, 31, 32, 33, 34, 35, 36, 37, 38, 39, 40, 41, 42, 43, 44, 45, 46, 47, 48, 49, 50, 51, 52, 53, 54, 55, 56, 57, 58, 59, 60, 61, 62, 63, 64, 65, 66, 67, 68, 69, 70, 71, 72, 73, 74, 75, 76, 77, 78, 79, 80, 81, 82, 83, 84] (.seq (.region [
   ⟨some 13, .faddr 3 (.t 1), none⟩,
   ⟨some 14, .load 1 false (.t 13), none⟩,
   ⟨some 15, .len false (.t 14), none⟩,
   ⟨some 16, .mv (.k (.int .i64 0)), none⟩])
 (.block 0 (.loop [16] [3, 6, 7, 8, 9, 10, 17, 18, 19, 20, 21, 22, 23, 24, 25, 26, 27, 28, 29, 30, 31, 32, 33, 34, 35, 36, 37, 38, 39, 40, 41, 42, 43, 44, 45, 46, 47, 48, 49, 50, 51, 52, 53, 54, 55, 56, 57, 58, 59, 60, 61, 62, 63, 64, 65, 66, 67, 68, 69, 70, 71, 72, 73, 74, 75, 76, 77, 78, 79, 80, 81, 82, 83, 84] (.seq (.region [
   ⟨some 17, .bin .lss (.t 16) (.t 15), none⟩])
 (.seq (.cond (.t 17) (.skip)
   (.exit 0))
 (.join [] [3, 6, 7, 8, 9, 10, 18, 19, 20, 21, 22, 23, 24, 25, 26, 27, 28, 29, 30, 31, 32, 33, 34, 35, 36, 37, 38, 39, 40, 41, 42, 43, 44, 45, 46, 47, 48, 49, 50, 51, 52, 53, 54, 55, 56, 57, 58, 59, 60, 61, 62, 63, 64, 65, 66, 67, 68, 69, 70, 71, 72, 73, 74, 75, 76, 77, 78, 79, 80, 81, 82, 83] (.block 1 (.seq (.region [
   ⟨some 18, .iaddr none 9 (.t 14) (.t 16), none⟩,
   ⟨some 19, .load 9 true (.t 18), none⟩,
   ⟨some 6, .alloc true [.str [], .int .i64 0, .int .i64 0, .bool false, .lst .nil 0 [], .int .i64 0, .lst .nil 0 [], .bool false, .int .i64 0], none⟩,
   ⟨none, .store 9 (.t 6) (.t 19), none⟩])
 (.seq (.region [
   ⟨some 21, .faddr 1 (.t 6), none⟩,
   ⟨some 22, .load 6 true (.t 21), none⟩,
   ⟨some 23, .call K.layout_of [(.t 22)], none⟩,
   ⟨some 20, .mv (.t 23), none⟩,
   ⟨some 24, .extract 0 (.t 20), none⟩,
   ⟨some 25, .extract 1 (.t 20), none⟩,
   ⟨some 7, .alloc true [.int .i64 0, .int .i64 0], none⟩,
   ⟨none, .store 2 (.t 7) (.t 24), none⟩,
   ⟨some 8, .mv (.t 25), none⟩])
 (.seq (.seq (.region [
   ⟨some 26, .mv (.t 8), none⟩,
   ⟨some 27, .un .not (.t 26), none⟩])
 (.cond (.t 27) (.seq (.region [
     ⟨some 28, .build [.int .i64 0, .int .i64 0, .lst .nil 0 [], .int .i64 0] [], none⟩,
     ⟨none, .store 4 (.t 2) (.t 28), none⟩,
     ⟨some 3, .mv (.k (.bool false)), none⟩])
   (.ret))
   (.skip)))
 (.seq (.region [
   ⟨some 29, .load 6 true (.t 1), none⟩,
   ⟨some 30, .load 9 true (.t 6), none⟩,
   ⟨some 31, .faddr 1 (.t 7), none⟩,
   ⟨some 32, .load 1 false (.t 31), none⟩,
   ⟨some 33, .call K.layout_wide [(.t 29), (.t 30), (.t 32)], none⟩,
   ⟨some 9, .mv (.t 33), none⟩])
 (.seq (.region [
   ⟨some 34, .faddr 0 (.t 4), none⟩,
   ⟨some 35, .faddr 1 (.t 34), none⟩,
   ⟨some 36, .load 1 false (.t 35), none⟩,
   ⟨some 37, .mv (.t 9), none⟩,
   ⟨some 38, .minmax true [(.t 36), (.t 37)], none⟩,
   ⟨some 39, .faddr 0 (.t 4), none⟩,
   ⟨some 40, .faddr 1 (.t 39), none⟩,
   ⟨none, .store 1 (.t 40) (.t 38), none⟩])
 (.join [] [41, 42, 43, 44] (.seq (.region [
   ⟨some 41, .faddr 0 (.t 1), none⟩,
   ⟨some 42, .load 1 false (.t 41), none⟩,
   ⟨some 43, .bin .eql (.t 42) (.k (.int .i64 4)), none⟩])
 (.cond (.t 43) (.region [
     ⟨some 44, .faddr 3 (.t 4), none⟩,
     ⟨none, .store 1 (.t 44) (.k (.int .i64 0)), none⟩])
   (.skip)))
 (.join [] [10, 45, 46, 47, 48, 49, 50, 51, 52, 53, 54, 55, 56, 57, 58, 59, 60, 61, 62, 63, 64, 65, 66, 67, 68, 69, 70, 71, 72, 73] (.seq (.region [
   ⟨some 45, .faddr 7 (.t 6), none⟩,
   ⟨some 46, .load 1 false (.t 45), none⟩])
 (.cond (.t 46) (.region [
     ⟨some 47, .load 9 true (.t 6), none⟩,
     ⟨some 48, .call K.layout_placed_bits [(.t 4), (.t 47)], none⟩])
   (.seq (.region [
     ⟨some 49, .faddr 3 (.t 4), none⟩,
     ⟨some 50, .load 1 false (.t 49), none⟩,
     ⟨some 51, .call K.layout_up [(.t 50), (.k (.int .i64 8))], none⟩,
     ⟨some 52, .bin .quo (.t 51) (.k (.int .i64 8)), none⟩,
     ⟨some 53, .mv (.t 9), none⟩,
     ⟨some 54, .call K.layout_up [(.t 52), (.t 53)], none⟩,
     ⟨some 10, .mv (.t 54), none⟩])
   (.seq (.region [
     ⟨some 55, .faddr 2 (.t 4), none⟩,
     ⟨some 56, .load 1 false (.t 55), none⟩,
     ⟨some 57, .mv (.t 10), none⟩,
     ⟨some 58, .faddr 0 (.t 7), none⟩,
     ⟨some 59, .load 1 false (.t 58), none⟩,
     ⟨some 60, .build [.int .i64 0, .int .i64 0] [(0, 1, (.t 57)), (1, 1, (.t 59))], none⟩,
     ⟨some 61, .faddr 1 (.t 6), none⟩,
     ⟨some 62, .faddr 0 (.t 61), none⟩,
     ⟨some 63, .load 1 false (.t 62), none⟩,
     ⟨some 64, .build [.int .i64 0, .int .i64 0, .int .i64 0, .bool false, .int .i64 0, .int .i64 0] [(0, 2, (.t 60)), (2, 1, (.t 63))], none⟩,
     ⟨some 65, .bslice false 6 1 [.int .i64 0, .int .i64 0, .int .i64 0, .bool false, .int .i64 0, .int .i64 0] [(0, 6, (.t 64))], none⟩,
     ⟨some 66, .append false 6 48 (.t 56) (.t 65), none⟩,
     ⟨some 67, .faddr 2 (.t 4), none⟩,
     ⟨none, .store 1 (.t 67) (.t 66), none⟩])
   (.region [
     ⟨some 68, .mv (.t 10), none⟩,
     ⟨some 69, .faddr 0 (.t 7), none⟩,
     ⟨some 70, .load 1 false (.t 69), none⟩,
     ⟨some 71, .bin .add (.t 68) (.t 70), none⟩,
     ⟨some 72, .bin .mul (.k (.int .i64 8)) (.t 71), none⟩,
     ⟨some 73, .faddr 3 (.t 4), none⟩,
     ⟨none, .store 1 (.t 73) (.t 72), none⟩])))))
 (.draw [
   ⟨some 74, .faddr 0 (.t 4), none⟩,
   ⟨some 75, .faddr 0 (.t 74), none⟩,
   ⟨some 76, .load 1 false (.t 75), none⟩,
   ⟨some 77, .faddr 3 (.t 4), none⟩,
   ⟨some 78, .load 1 false (.t 77), none⟩,
   ⟨some 79, .call K.layout_up [(.t 78), (.k (.int .i64 8))], none⟩,
   ⟨some 80, .bin .quo (.t 79) (.k (.int .i64 8)), none⟩,
   ⟨some 81, .minmax true [(.t 76), (.t 80)], none⟩,
   ⟨some 82, .faddr 0 (.t 4), none⟩,
   ⟨some 83, .faddr 0 (.t 82), none⟩,
   ⟨none, .store 1 (.t 83) (.t 81), none⟩]
 [[], [0], [0, 1], [], [3], [3, 4], [3, 4, 5], [0, 1, 2, 3, 4, 5, 6], [0, 1, 2, 3, 4, 5, 6, 7], [0, 1, 2, 3, 4, 5, 6, 7, 8], [0, 1, 2, 3, 4, 5, 6, 7, 8, 9]] [([0, 1, 2, 3, 4], 5, [2]), ([6, 7, 8, 9], 10, [])] [])))))))))
 (.region [
   ⟨some 84, .bin .add (.t 16) (.k (.int .i64 1)), none⟩,
   ⟨some 16, .mv (.t 84), none⟩])))))))
 (.seq (.region [
   ⟨some 85, .faddr 0 (.t 4), none⟩,
   ⟨some 86, .faddr 0 (.t 85), none⟩,
   ⟨some 87, .load 1 false (.t 86), none⟩,
   ⟨some 88, .faddr 0 (.t 4), none⟩,
   ⟨some 89, .faddr 1 (.t 88), none⟩,
   ⟨some 90, .load 1 false (.t 89), none⟩,
   ⟨some 91, .call K.layout_up [(.t 87), (.t 90)], none⟩,
   ⟨some 92, .faddr 0 (.t 4), none⟩,
   ⟨some 93, .faddr 0 (.t 92), none⟩,
   ⟨none, .store 1 (.t 93) (.t 91), none⟩])
 (.seq (.draw [
   ⟨some 94, .load 4 true (.t 4), none⟩,
   ⟨some 95, .faddr 0 (.t 4), none⟩,
   ⟨some 96, .faddr 0 (.t 95), none⟩,
   ⟨some 97, .load 1 false (.t 96), none⟩,
   ⟨some 98, .bin .leq (.t 97) (.k (.int .i64 65536)), none⟩,
   ⟨none, .store 4 (.t 2) (.t 94), none⟩,
   ⟨some 3, .mv (.t 98), none⟩]
 [[], [], [1], [1, 2], [1, 2, 3], [0], [0, 1, 2, 3, 4, 5]] [([0, 1, 2, 3, 4], 5, [3])] [6])
 (.ret)))))⟩
theorem eq_layout_place (Φ : Calls') (a0 : AV) (H : AH) (Q : Post) : fnE1 Φ ir_layout_place [a0] H Q = layout_place Φ a0 H Q := by kernel_rfl

/-! rabbet/layout.loose$1 -/
def layout_loose_c1 (Φ : Calls') (a0 : AV) (H : AH) (Q : Post) : Prop :=
 DoH (aboxv H false 9 a0) fun x1 H2 =>
 Do (afaddr 1 x1) fun x3 =>
 Do (aload H2 6 true x3) fun x4 =>
Φ K.layout_loose [x4] H2 fun x5 H6 =>
 Q x5 H6
def ir_layout_loose_c1 : AFunc := ⟨6, [.tmp 2],
 .seq (.region [
   ⟨some 1, .box false 9 (.t 0), none⟩,
   ⟨some 2, .mv (.k (.bool false)), none⟩])
 (.seq (.region [
   ⟨some 3, .faddr 1 (.t 1), none⟩,
   ⟨some 4, .load 6 true (.t 3), none⟩,
   ⟨some 5, .call K.layout_loose [(.t 4)], none⟩,
   ⟨some 2, .mv (.t 5), none⟩])
 (.ret))⟩
theorem eq_layout_loose_c1 (Φ : Calls') (a0 : AV) (H : AH) (Q : Post) : fnE1 Φ ir_layout_loose_c1 [a0] H Q = layout_loose_c1 Φ a0 H Q := by kernel_rfl

/-! rabbet/layout.wide -/
def layout_wide_k1 (Φ : Calls') (a2 : AV) (x3 : AV) (Q : Post) : List AV → AH → Prop := fun j5 H6 =>
 Gd (sl j5 0) true (
 Q (.int .i64 1) H6) (
 Do (afaddr 7 x3) fun x14 =>
 Do (aload H6 1 false x14) fun x15 =>
 Gd x15 true (
 Do (afaddr 1 x3) fun x16 =>
 Do (afaddr 1 x16) fun x17 =>
 Do (aload H6 1 false x17) fun x18 =>
 Q x18 H6) (
 Q a2 H6))
def layout_wide (Φ : Calls') (a0 : AV) (a1 : AV) (a2 : AV) (H : AH) (Q : Post) : Prop :=
 DoH (aboxv H false 6 a0) fun x1 H2 =>
 DoH (aboxv H2 false 9 a1) fun x3 H4 =>
 Do (afaddr 2 x1) fun x7 =>
 Do (aload H4 1 false x7) fun x8 =>
 Gd3 x8 false (
 Do (afaddr 7 x3) fun x9 =>
 Do (aload H4 1 false x9) fun x10 =>
 Gd3 x10 true (
 Do (afaddr 8 x3) fun x11 =>
 Do (aload H4 1 false x11) fun x12 =>
 Do (abin .eql x12 (.int .i64 0)) fun x13 =>
 JoinP (layout_wide_k1 Φ a2 x3 Q) [x13] H4) (
 JoinP (layout_wide_k1 Φ a2 x3 Q) [(.bool false)] H4) (
 False)) (
 JoinP (layout_wide_k1 Φ a2 x3 Q) [(.bool true)] H4) (
 False)
def ir_layout_wide : AFunc := ⟨26, [.tmp 6],
 .seq (.region [
   ⟨some 3, .box false 6 (.t 0), none⟩,
   ⟨some 4, .box false 9 (.t 1), none⟩,
   ⟨some 6, .mv (.k (.int .i64 0)), none⟩])
 (.seq (.block 0 (.join [7] [8, 9, 10, 11, 12, 13, 14, 15, 16, 17, 18] (.region [
   ⟨some 8, .faddr 2 (.t 3), none⟩,
   ⟨some 9, .load 1 false (.t 8), none⟩,
   ⟨some 10, .mv (.t 9), none⟩,
   ⟨some 11, .faddr 7 (.t 4), some (10, false)⟩,
   ⟨some 12, .load 1 false (.t 11), some (10, false)⟩,
   ⟨some 13, .mv (.t 12), some (10, false)⟩,
   ⟨some 14, .faddr 8 (.t 4), some (13, true)⟩,
   ⟨some 15, .load 1 false (.t 14), some (13, true)⟩,
   ⟨some 16, .bin .eql (.t 15) (.k (.int .i64 0)), some (13, true)⟩,
   ⟨some 17, .pick (.t 13) (.t 16) (.k (.bool false)), some (10, false)⟩,
   ⟨some 18, .pick (.t 10) (.k (.bool true)) (.t 17), none⟩,
   ⟨some 7, .mv (.t 18), none⟩])
 (.cond (.t 7) (.seq (.region [
     ⟨some 6, .mv (.k (.int .i64 1)), none⟩])
   (.ret))
   (.seq (.region [
     ⟨some 20, .faddr 7 (.t 4), none⟩,
     ⟨some 21, .load 1 false (.t 20), none⟩,
     ⟨some 19, .mv (.t 21), none⟩])
   (.cond (.t 19) (.seq (.region [
       ⟨some 22, .faddr 1 (.t 4), none⟩,
       ⟨some 23, .faddr 1 (.t 22), none⟩,
       ⟨some 24, .load 1 false (.t 23), none⟩,
       ⟨some 6, .mv (.t 24), none⟩])
     (.ret))
     (.skip))))))
 (.seq (.region [
   ⟨some 25, .mv (.t 2), none⟩,
   ⟨some 6, .mv (.t 25), none⟩])
 (.ret)))⟩
theorem eq_layout_wide (Φ : Calls') (a0 a1 a2 : AV) (H : AH) (Q : Post) : fnE1 Φ ir_layout_wide [a0, a1, a2] H Q = layout_wide Φ a0 a1 a2 H Q := by kernel_rfl

/-! (rabbet/layout.placed).bits -/
def layout_placed_bits_k1 (Φ : Calls') (a0 : AV) (x1 : AV) (Q : Post) : List AV → AH → Prop := fun j38 H39 =>
 Do (anilck a0) fun x61 =>
 Do (afaddr 3 x61) fun x62 =>
 Do (aload H39 1 false x62) fun x63 =>
 Do (abin .quo x63 (.int .i64 8)) fun x64 =>
 Do (anilck a0) fun x65 =>
 Do (afaddr 3 x65) fun x66 =>
 Do (aload H39 1 false x66) fun x67 =>
 Do (afaddr 8 x1) fun x68 =>
 Do (aload H39 1 false x68) fun x69 =>
 Do (abin .add x67 x69) fun x70 =>
 Do (abin .sub x70 (.int .i64 1)) fun x71 =>
 Do (abin .quo x71 (.int .i64 8)) fun x72 =>
 Do (anilck a0) fun x73 =>
 Do (afaddr 2 x73) fun x74 =>
 Do (aload H39 1 false x74) fun x75 =>
 Do (abin .sub x72 x64) fun x76 =>
 Do (abin .add x76 (.int .i64 1)) fun x77 =>
 Do (abuild [.int .i64 0, .int .i64 0] [(0, 1, x64), (1, 1, x77)]) fun x78 =>
 Do (anilck a0) fun x79 =>
 Do (afaddr 3 x79) fun x80 =>
 Do (aload H39 1 false x80) fun x81 =>
 Do (abin .rem x81 (.int .i64 8)) fun x82 =>
 Do (afaddr 8 x1) fun x83 =>
 Do (aload H39 1 false x83) fun x84 =>
 Do (abuild [.int .i64 0, .int .i64 0, .int .i64 0, .bool false, .int .i64 0, .int .i64 0] [(0, 2, x78), (2, 1, (.int .i64 1)), (3, 1, (.bool true)), (4, 1, x82), (5, 1, x84)]) fun x85 =>
 DoH (abslice H39 false 6 1 [.int .i64 0, .int .i64 0, .int .i64 0, .bool false, .int .i64 0, .int .i64 0] [(0, 6, x85)]) fun x86 H87 =>
 DoH (aappend H87 false 6 48 x75 x86) fun x88 H89 =>
 Do (anilck a0) fun x90 =>
 Do (afaddr 2 x90) fun x91 =>
 Do (astore H89 1 x91 x88) fun H92 =>
 Do (anilck a0) fun x93 =>
 Do (afaddr 3 x93) fun x94 =>
 Do (aload H92 1 false x94) fun x95 =>
 Do (afaddr 8 x1) fun x96 =>
 Do (aload H92 1 false x96) fun x97 =>
 Do (abin .add x95 x97) fun x98 =>
 Do (anilck a0) fun x99 =>
 Do (afaddr 3 x99) fun x100 =>
 Do (astore H92 1 x100 x98) fun H101 =>
 Q (.tup []) H101
def layout_placed_bits (Φ : Calls') (a0 : AV) (a1 : AV) (H : AH) (Q : Post) : Prop :=
 DoH (aboxv H false 9 a1) fun x1 H2 =>
 Do (afaddr 1 x1) fun x3 =>
 Do (afaddr 1 x3) fun x4 =>
 Do (aload H2 1 false x4) fun x5 =>
 Do (abin .mul (.int .i64 8) x5) fun x6 =>
 Do (afaddr 8 x1) fun x7 =>
 Do (aload H2 1 false x7) fun x8 =>
 Do (abin .eql x8 (.int .i64 0)) fun x9 =>
 Gd x9 true (
 Do (anilck a0) fun x10 =>
 Do (afaddr 3 x10) fun x11 =>
 Do (aload H2 1 false x11) fun x12 =>
Φ K.layout_up [x12, x6] H2 fun x13 H14 =>
 Do (anilck a0) fun x15 =>
 Do (afaddr 3 x15) fun x16 =>
 Do (astore H14 1 x16 x13) fun H17 =>
 Do (anilck a0) fun x18 =>
 Do (afaddr 2 x18) fun x19 =>
 Do (aload H17 1 false x19) fun x20 =>
 Do (anilck a0) fun x21 =>
 Do (afaddr 3 x21) fun x22 =>
 Do (aload H17 1 false x22) fun x23 =>
 Do (abin .quo x23 (.int .i64 8)) fun x24 =>
 Do (abuild [.int .i64 0, .int .i64 0] [(0, 1, x24)]) fun x25 =>
 Do (anilck a0) fun x26 =>
 Do (afaddr 3 x26) fun x27 =>
 Do (aload H17 1 false x27) fun x28 =>
 Do (abin .rem x28 (.int .i64 8)) fun x29 =>
 Do (abuild [.int .i64 0, .int .i64 0, .int .i64 0, .bool false, .int .i64 0, .int .i64 0] [(0, 2, x25), (2, 1, (.int .i64 1)), (3, 1, (.bool true)), (4, 1, x29)]) fun x30 =>
 DoH (abslice H17 false 6 1 [.int .i64 0, .int .i64 0, .int .i64 0, .bool false, .int .i64 0, .int .i64 0] [(0, 6, x30)]) fun x31 H32 =>
 DoH (aappend H32 false 6 48 x20 x31) fun x33 H34 =>
 Do (anilck a0) fun x35 =>
 Do (afaddr 2 x35) fun x36 =>
 Do (astore H34 1 x36 x33) fun H37 =>
 Q (.tup []) H37) (
 Do (anilck a0) fun x40 =>
 Do (afaddr 3 x40) fun x41 =>
 Do (aload H2 1 false x41) fun x42 =>
 Do (abin .quo x42 x6) fun x43 =>
 Do (anilck a0) fun x44 =>
 Do (afaddr 3 x44) fun x45 =>
 Do (aload H2 1 false x45) fun x46 =>
 Do (afaddr 8 x1) fun x47 =>
 Do (aload H2 1 false x47) fun x48 =>
 Do (abin .add x46 x48) fun x49 =>
 Do (abin .sub x49 (.int .i64 1)) fun x50 =>
 Do (abin .quo x50 x6) fun x51 =>
 Do (abin .neq x43 x51) fun x52 =>
 Gd x52 true (
 Do (anilck a0) fun x53 =>
 Do (afaddr 3 x53) fun x54 =>
 Do (aload H2 1 false x54) fun x55 =>
Φ K.layout_up [x55, x6] H2 fun x56 H57 =>
 Do (anilck a0) fun x58 =>
 Do (afaddr 3 x58) fun x59 =>
 Do (astore H57 1 x59 x56) fun H60 =>
 JoinP (layout_placed_bits_k1 Φ a0 x1 Q) [] H60) (
 JoinP (layout_placed_bits_k1 Φ a0 x1 Q) [] H2))
def ir_layout_placed_bits : AFunc := ⟨116, [],
 .seq (.region [
   ⟨some 3, .box false 9 (.t 1), none⟩])
 (.seq (.region [
   ⟨some 7, .faddr 1 (.t 3), none⟩,
   ⟨some 8, .faddr 1 (.t 7), none⟩,
   ⟨some 9, .load 1 false (.t 8), none⟩,
   ⟨some 10, .bin .mul (.k (.int .i64 8)) (.t 9), none⟩,
   ⟨some 4, .mv (.t 10), none⟩])
 (.seq (.seq (.region [
   ⟨some 11, .faddr 8 (.t 3), none⟩,
   ⟨some 12, .load 1 false (.t 11), none⟩,
   ⟨some 13, .bin .eql (.t 12) (.k (.int .i64 0)), none⟩])
 (.cond (.t 13) (.seq (.region [
     ⟨some 14, .mv (.t 0), none⟩,
     ⟨some 15, .mv (.t 0), none⟩,
     ⟨some 16, .nilck (.t 15), none⟩,
     ⟨some 17, .faddr 3 (.t 16), none⟩,
     ⟨some 18, .load 1 false (.t 17), none⟩,
     ⟨some 19, .mv (.t 4), none⟩,
     ⟨some 20, .call K.layout_up [(.t 18), (.t 19)], none⟩,
     ⟨some 21, .nilck (.t 14), none⟩,
     ⟨some 22, .faddr 3 (.t 21), none⟩,
     ⟨none, .store 1 (.t 22) (.t 20), none⟩])
   (.seq (.draw [
     ⟨some 23, .mv (.t 0), none⟩,
     ⟨some 24, .mv (.t 0), none⟩,
     ⟨some 25, .nilck (.t 24), none⟩,
     ⟨some 26, .faddr 2 (.t 25), none⟩,
     ⟨some 27, .load 1 false (.t 26), none⟩,
     ⟨some 28, .mv (.t 0), none⟩,
     ⟨some 29, .nilck (.t 28), none⟩,
     ⟨some 30, .faddr 3 (.t 29), none⟩,
     ⟨some 31, .load 1 false (.t 30), none⟩,
     ⟨some 32, .bin .quo (.t 31) (.k (.int .i64 8)), none⟩,
     ⟨some 33, .build [.int .i64 0, .int .i64 0] [(0, 1, (.t 32))], none⟩,
     ⟨some 34, .mv (.t 0), none⟩,
     ⟨some 35, .nilck (.t 34), none⟩,
     ⟨some 36, .faddr 3 (.t 35), none⟩,
     ⟨some 37, .load 1 false (.t 36), none⟩,
     ⟨some 38, .bin .rem (.t 37) (.k (.int .i64 8)), none⟩,
     ⟨some 39, .build [.int .i64 0, .int .i64 0, .int .i64 0, .bool false, .int .i64 0, .int .i64 0] [(0, 2, (.t 33)), (2, 1, (.k (.int .i64 1))), (3, 1, (.k (.bool true))), (4, 1, (.t 38))], none⟩,
     ⟨some 40, .bslice false 6 1 [.int .i64 0, .int .i64 0, .int .i64 0, .bool false, .int .i64 0, .int .i64 0] [(0, 6, (.t 39))], none⟩,
     ⟨some 41, .append false 6 48 (.t 27) (.t 40), none⟩,
     ⟨some 42, .nilck (.t 23), none⟩,
     ⟨some 43, .faddr 2 (.t 42), none⟩,
     ⟨none, .store 1 (.t 43) (.t 41), none⟩]
   [[], [], [1], [1, 2], [1, 2, 3], [], [5], [5, 6], [5, 6, 7], [5, 6, 7, 8], [5, 6, 7, 8, 9], [], [11], [11, 12], [11, 12, 13], [11, 12, 13, 14], [5, 6, 7, 8, 9, 10, 11, 12, 13, 14, 15], [5, 6, 7, 8, 9, 10, 11, 12, 13, 14, 15, 16], [1, 2, 3, 4, 5, 6, 7, 8, 9, 10, 11, 12, 13, 14, 15, 16, 17], [0, 1, 2, 3, 4, 5, 6, 7, 8, 9, 10, 11, 12, 13, 14, 15, 16, 17, 18], [0, 1, 2, 3, 4, 5, 6, 7, 8, 9, 10, 11, 12, 13, 14, 15, 16, 17, 18, 19], [0, 1, 2, 3, 4, 5, 6, 7, 8, 9, 10, 11, 12, 13, 14, 15, 16, 17, 18, 19, 20]] [([0, 1, 2, 3, 4, 5, 6, 7, 8, 9, 10, 11, 12, 13, 14, 15, 16, 17], 18, []), ([19, 20], 21, [])] [])
   (.ret)))
   (.skip)))
 (.join [] [44, 45, 46, 47, 48, 49, 50, 51, 52, 53, 54, 55, 56, 57, 58, 59, 60, 61, 62, 63, 64, 65, 66, 67, 68, 69] (.seq (.draw [
   ⟨some 44, .mv (.t 0), none⟩,
   ⟨some 45, .nilck (.t 44), none⟩,
   ⟨some 46, .faddr 3 (.t 45), none⟩,
   ⟨some 47, .load 1 false (.t 46), none⟩,
   ⟨some 48, .mv (.t 4), none⟩,
   ⟨some 49, .bin .quo (.t 47) (.t 48), none⟩,
   ⟨some 50, .mv (.t 0), none⟩,
   ⟨some 51, .nilck (.t 50), none⟩,
   ⟨some 52, .faddr 3 (.t 51), none⟩,
   ⟨some 53, .load 1 false (.t 52), none⟩,
   ⟨some 54, .faddr 8 (.t 3), none⟩,
   ⟨some 55, .load 1 false (.t 54), none⟩,
   ⟨some 56, .bin .add (.t 53) (.t 55), none⟩,
   ⟨some 57, .bin .sub (.t 56) (.k (.int .i64 1)), none⟩,
   ⟨some 58, .mv (.t 4), none⟩,
   ⟨some 59, .bin .quo (.t 57) (.t 58), none⟩,
   ⟨some 60, .bin .neq (.t 49) (.t 59), none⟩]
 [[], [0], [0, 1], [0, 1, 2], [], [0, 1, 2, 3, 4], [], [6], [6, 7], [6, 7, 8], [], [10], [6, 7, 8, 9, 10, 11], [6, 7, 8, 9, 10, 11, 12], [], [6, 7, 8, 9, 10, 11, 12, 13, 14], [0, 1, 2, 3, 4, 5, 6, 7, 8, 9, 10, 11, 12, 13, 14, 15]] [] [0, 1, 2, 3, 4, 5, 6, 7, 8, 9, 10, 11, 12, 13, 14, 15, 16])
 (.cond (.t 60) (.region [
     ⟨some 61, .mv (.t 0), none⟩,
     ⟨some 62, .mv (.t 0), none⟩,
     ⟨some 63, .nilck (.t 62), none⟩,
     ⟨some 64, .faddr 3 (.t 63), none⟩,
     ⟨some 65, .load 1 false (.t 64), none⟩,
     ⟨some 66, .mv (.t 4), none⟩,
     ⟨some 67, .call K.layout_up [(.t 65), (.t 66)], none⟩,
     ⟨some 68, .nilck (.t 61), none⟩,
     ⟨some 69, .faddr 3 (.t 68), none⟩,
     ⟨none, .store 1 (.t 69) (.t 67), none⟩])
   (.skip)))
 (.seq (.draw [
   ⟨some 70, .mv (.t 0), none⟩,
   ⟨some 71, .nilck (.t 70), none⟩,
   ⟨some 72, .faddr 3 (.t 71), none⟩,
   ⟨some 73, .load 1 false (.t 72), none⟩,
   ⟨some 74, .bin .quo (.t 73) (.k (.int .i64 8)), none⟩,
   ⟨some 75, .mv (.t 0), none⟩,
   ⟨some 76, .nilck (.t 75), none⟩,
   ⟨some 77, .faddr 3 (.t 76), none⟩,
   ⟨some 78, .load 1 false (.t 77), none⟩,
   ⟨some 79, .faddr 8 (.t 3), none⟩,
   ⟨some 80, .load 1 false (.t 79), none⟩,
   ⟨some 81, .bin .add (.t 78) (.t 80), none⟩,
   ⟨some 82, .bin .sub (.t 81) (.k (.int .i64 1)), none⟩,
   ⟨some 83, .bin .quo (.t 82) (.k (.int .i64 8)), none⟩,
   ⟨some 5, .mv (.t 74), none⟩,
   ⟨some 6, .mv (.t 83), none⟩]
 [[], [0], [0, 1], [0, 1, 2], [0, 1, 2, 3], [], [5], [5, 6], [5, 6, 7], [], [9], [5, 6, 7, 8, 9, 10], [5, 6, 7, 8, 9, 10, 11], [5, 6, 7, 8, 9, 10, 11, 12], [0, 1, 2, 3, 4], [0, 1, 2, 3, 4, 5, 6, 7, 8, 9, 10, 11, 12, 13, 14]] [] [0, 1, 2, 3, 4, 5, 6, 7, 8, 9, 10, 11, 12, 13, 14, 15])
 (.seq (.draw [
   ⟨some 84, .mv (.t 0), none⟩,
   ⟨some 85, .mv (.t 0), none⟩,
   ⟨some 86, .nilck (.t 85), none⟩,
   ⟨some 87, .faddr 2 (.t 86), none⟩,
   ⟨some 88, .load 1 false (.t 87), none⟩,
   ⟨some 89, .mv (.t 5), none⟩,
   ⟨some 90, .mv (.t 6), none⟩,
   ⟨some 91, .mv (.t 5), none⟩,
   ⟨some 92, .bin .sub (.t 90) (.t 91), none⟩,
   ⟨some 93, .bin .add (.t 92) (.k (.int .i64 1)), none⟩,
   ⟨some 94, .build [.int .i64 0, .int .i64 0] [(0, 1, (.t 89)), (1, 1, (.t 93))], none⟩,
   ⟨some 95, .mv (.t 0), none⟩,
   ⟨some 96, .nilck (.t 95), none⟩,
   ⟨some 97, .faddr 3 (.t 96), none⟩,
   ⟨some 98, .load 1 false (.t 97), none⟩,
   ⟨some 99, .bin .rem (.t 98) (.k (.int .i64 8)), none⟩,
   ⟨some 100, .faddr 8 (.t 3), none⟩,
   ⟨some 101, .load 1 false (.t 100), none⟩,
   ⟨some 102, .build [.int .i64 0, .int .i64 0, .int .i64 0, .bool false, .int .i64 0, .int .i64 0] [(0, 2, (.t 94)), (2, 1, (.k (.int .i64 1))), (3, 1, (.k (.bool true))), (4, 1, (.t 99)), (5, 1, (.t 101))], none⟩,
   ⟨some 103, .bslice false 6 1 [.int .i64 0, .int .i64 0, .int .i64 0, .bool false, .int .i64 0, .int .i64 0] [(0, 6, (.t 102))], none⟩,
   ⟨some 104, .append false 6 48 (.t 88) (.t 103), none⟩,
   ⟨some 105, .nilck (.t 84), none⟩,
   ⟨some 106, .faddr 2 (.t 105), none⟩,
   ⟨none, .store 1 (.t 106) (.t 104), none⟩]
 [[], [], [1], [1, 2], [1, 2, 3], [], [], [], [6, 7], [6, 7, 8], [5, 6, 7, 8, 9], [], [11], [11, 12], [11, 12, 13], [11, 12, 13, 14], [], [16], [5, 6, 7, 8, 9, 10, 11, 12, 13, 14, 15, 16, 17], [5, 6, 7, 8, 9, 10, 11, 12, 13, 14, 15, 16, 17, 18], [1, 2, 3, 4, 5, 6, 7, 8, 9, 10, 11, 12, 13, 14, 15, 16, 17, 18, 19], [0, 1, 2, 3, 4, 5, 6, 7, 8, 9, 10, 11, 12, 13, 14, 15, 16, 17, 18, 19, 20], [0, 1, 2, 3, 4, 5, 6, 7, 8, 9, 10, 11, 12, 13, 14, 15, 16, 17, 18, 19, 20, 21], [0, 1, 2, 3, 4, 5, 6, 7, 8, 9, 10, 11, 12, 13, 14, 15, 16, 17, 18, 19, 20, 21, 22]] [([0, 1, 2, 3, 4, 5, 6, 7, 8, 9, 10, 11, 12, 13, 14, 15, 16, 17, 18, 19], 20, []), ([21, 22], 23, [])] [])
 (.draw [
   ⟨some 107, .mv (.t 0), none⟩,
   ⟨some 108, .nilck (.t 107), none⟩,
   ⟨some 109, .faddr 3 (.t 108), none⟩,
   ⟨some 110, .load 1 false (.t 109), none⟩,
   ⟨some 111, .faddr 8 (.t 3), none⟩,
   ⟨some 112, .load 1 false (.t 111), none⟩,
   ⟨some 113, .bin .add (.t 110) (.t 112), none⟩,
   ⟨some 114, .nilck (.t 107), none⟩,
   ⟨some 115, .faddr 3 (.t 114), none⟩,
   ⟨none, .store 1 (.t 115) (.t 113), none⟩]
 [[], [0], [0, 1], [0, 1, 2], [], [4], [0, 1, 2, 3, 4, 5], [0, 1, 2, 3, 4, 5, 6], [0, 1, 2, 3, 4, 5, 6, 7], [0, 1, 2, 3, 4, 5, 6, 7, 8]] [([0, 1, 2, 3, 4, 5, 6, 7, 8], 9, [])] []))))))⟩
theorem eq_layout_placed_bits (Φ : Calls') (a0 a1 : AV) (H : AH) (Q : Post) : fnE1 Φ ir_layout_placed_bits [a0, a1] H Q = layout_placed_bits Φ a0 a1 H Q := by kernel_rfl

/-! rabbet/layout.up -/
def layout_up (Φ : Calls') (a0 : AV) (a1 : AV) (H : AH) (Q : Post) : Prop :=
 Do (abin .add a0 a1) fun x1 =>
 Do (abin .sub x1 (.int .i64 1)) fun x2 =>
 Do (abin .quo x2 a1) fun x3 =>
 Do (abin .mul x3 a1) fun x4 =>
 Q x4 H
def ir_layout_up : AFunc := ⟨13, [.tmp 4],
 .seq (.region [
   ⟨some 4, .mv (.k (.int .i64 0)), none⟩])
 (.seq (.region [
   ⟨some 5, .mv (.t 0), none⟩,
   ⟨some 6, .mv (.t 1), none⟩,
   ⟨some 7, .bin .add (.t 5) (.t 6), none⟩,
   ⟨some 8, .bin .sub (.t 7) (.k (.int .i64 1)), none⟩,
   ⟨some 9, .mv (.t 1), none⟩,
   ⟨some 10, .bin .quo (.t 8) (.t 9), none⟩,
   ⟨some 11, .mv (.t 1), none⟩,
   ⟨some 12, .bin .mul (.t 10) (.t 11), none⟩,
   ⟨some 4, .mv (.t 12), none⟩])
 (.ret))⟩
theorem eq_layout_up (Φ : Calls') (a0 a1 : AV) (H : AH) (Q : Post) : fnE1 Φ ir_layout_up [a0, a1] H Q = layout_up Φ a0 a1 H Q := by kernel_rfl

/-! rabbet/layout.Fields -/
def layout_Fields_k1 (Φ : Calls') (x1 : AV) (Q : Post) : List AV → AH → Prop := fun j12 H13 =>
 Do (aload H13 6 true x1) fun x22 =>
Φ K.layout_place [x22] H13 fun x23 H24 =>
 Do (aextract 0 x23) fun x25 =>
 Do (aextract 1 x23) fun x26 =>
 DoH (some (abox H24 true [.int .i64 0, .int .i64 0, .lst .nil 0 [], .int .i64 0])) fun x27 H28 =>
 Do (astore H28 4 x27 x25) fun H29 =>
 Do (afaddr 2 x27) fun x30 =>
 Do (aload H29 1 false x30) fun x31 =>
 Q (.tup [x31, (.int .i64 0)]) H29
def layout_Fields_k2 (Φ : Calls') (x1 : AV) (Q : Post) : List AV → AH → Prop := fun j14 H15 =>
 Gd (sl j14 0) true (
 Q (.tup [(.lst .nil 0 []), (.int .i64 8)]) H15) (
 JoinP (layout_Fields_k1 Φ x1 Q) [] H15)
def layout_Fields (Φ : Calls') (a0 : AV) (H : AH) (Q : Post) : Prop :=
 DoH (aboxv H false 6 a0) fun x1 H2 =>
 Do (aload H2 6 true x1) fun x3 =>
Φ K.layout_check [x3] H2 fun x4 H5 =>
 Do (aextract 0 x4) fun x6 =>
 Do (aextract 1 x4) fun x7 =>
 DoH (some (abox H5 true [.int .i64 0, .int .i64 0])) fun x8 H9 =>
 Do (astore H9 2 x8 x6) fun H10 =>
 Do (abin .neq x7 (.int .i64 0)) fun x11 =>
 Gd x11 true (
 Q (.tup [(.lst .nil 0 []), x7]) H10) (
 Do (afaddr 0 x1) fun x16 =>
 Do (aload H10 1 false x16) fun x17 =>
 Do (abin .neq x17 (.int .i64 3)) fun x18 =>
 Gd3 x18 true (
 Do (afaddr 0 x1) fun x19 =>
 Do (aload H10 1 false x19) fun x20 =>
 Do (abin .neq x20 (.int .i64 4)) fun x21 =>
 JoinP (layout_Fields_k2 Φ x1 Q) [x21] H10) (
 JoinP (layout_Fields_k2 Φ x1 Q) [(.bool false)] H10) (
 False))
def ir_layout_Fields : AFunc := ⟨31, [.tmp 2, .tmp 3],
 .seq (.region [
   ⟨some 1, .box false 6 (.t 0), none⟩,
   ⟨some 2, .mv (.k (.lst .nil 0 [])), none⟩,
   ⟨some 3, .mv (.k (.int .i64 0)), none⟩])
 (.seq (.seq (.region [
   ⟨some 9, .load 6 true (.t 1), none⟩,
   ⟨some 10, .call K.layout_check [(.t 9)], none⟩,
   ⟨some 8, .mv (.t 10), none⟩,
   ⟨some 11, .extract 0 (.t 8), none⟩,
   ⟨some 12, .extract 1 (.t 8), none⟩,
   ⟨some 4, .alloc true [.int .i64 0, .int .i64 0], none⟩,
   ⟨none, .store 2 (.t 4) (.t 11), none⟩,
   ⟨some 5, .mv (.t 12), none⟩])
 (.seq (.region [
   ⟨some 13, .mv (.t 5), none⟩,
   ⟨some 14, .bin .neq (.t 13) (.k (.int .i64 0)), none⟩])
 (.cond (.t 14) (.seq (.region [
     ⟨some 15, .mv (.t 5), none⟩,
     ⟨some 2, .mv (.k (.lst .nil 0 [])), none⟩,
     ⟨some 3, .mv (.t 15), none⟩])
   (.ret))
   (.skip))))
 (.join [] [2, 3, 16, 17, 18, 19, 20, 21, 22, 23] (.join [23] [16, 17, 18, 19, 20, 21, 22] (.region [
   ⟨some 16, .faddr 0 (.t 1), none⟩,
   ⟨some 17, .load 1 false (.t 16), none⟩,
   ⟨some 18, .bin .neq (.t 17) (.k (.int .i64 3)), none⟩,
   ⟨some 19, .mv (.t 18), none⟩,
   ⟨some 20, .faddr 0 (.t 1), some (19, true)⟩,
   ⟨some 21, .load 1 false (.t 20), some (19, true)⟩,
   ⟨some 22, .bin .neq (.t 21) (.k (.int .i64 4)), some (19, true)⟩,
   ⟨some 23, .pick (.t 19) (.t 22) (.k (.bool false)), none⟩])
 (.cond (.t 23) (.seq (.region [
     ⟨some 2, .mv (.k (.lst .nil 0 [])), none⟩,
     ⟨some 3, .mv (.k (.int .i64 8)), none⟩])
   (.ret))
   (.skip)))
 (.seq (.region [
   ⟨some 25, .load 6 true (.t 1), none⟩,
   ⟨some 26, .call K.layout_place [(.t 25)], none⟩,
   ⟨some 24, .mv (.t 26), none⟩,
   ⟨some 27, .extract 0 (.t 24), none⟩,
   ⟨some 28, .extract 1 (.t 24), none⟩,
   ⟨some 6, .alloc true [.int .i64 0, .int .i64 0, .lst .nil 0 [], .int .i64 0], none⟩,
   ⟨none, .store 4 (.t 6) (.t 27), none⟩,
   ⟨some 7, .mv (.t 28), none⟩])
 (.seq (.region [
   ⟨some 29, .faddr 2 (.t 6), none⟩,
   ⟨some 30, .load 1 false (.t 29), none⟩,
   ⟨some 2, .mv (.t 30), none⟩,
   ⟨some 3, .mv (.k (.int .i64 0)), none⟩])
 (.ret)))))⟩
theorem eq_layout_Fields (Φ : Calls') (a0 : AV) (H : AH) (Q : Post) : fnE1 Φ ir_layout_Fields [a0] H Q = layout_Fields Φ a0 H Q := by kernel_rfl

def tab_layout : Tab := [
  (K.layout_Of, ir_layout_Of),
  (K.layout_check, ir_layout_check),
  (K.layout_torn, ir_layout_torn),
  (K.layout_of, ir_layout_of),
  (K.layout_loose, ir_layout_loose),
  (K.layout_torn_c1, ir_layout_torn_c1),
  (K.layout_place, ir_layout_place),
  (K.layout_loose_c1, ir_layout_loose_c1),
  (K.layout_wide, ir_layout_wide),
  (K.layout_placed_bits, ir_layout_placed_bits),
  (K.layout_up, ir_layout_up),
  (K.layout_Fields, ir_layout_Fields)]

theorem cl_layout_Of {Φ : Calls'} (hT : Cl Φ tab_layout) {a0 : AV} {H : AH} {Q : Post} (h : layout_Of Φ a0 H Q) : Φ K.layout_Of [a0] H Q := hT.call (by kernel_rfl) (by kernel_rfl) (by rw [eq_layout_Of]; exact h)
theorem cl_layout_check {Φ : Calls'} (hT : Cl Φ tab_layout) {a0 : AV} {H : AH} {Q : Post} (h : layout_check Φ a0 H Q) : Φ K.layout_check [a0] H Q := hT.call (by kernel_rfl) (by kernel_rfl) (by rw [eq_layout_check]; exact h)
theorem cl_layout_torn {Φ : Calls'} (hT : Cl Φ tab_layout) {a0 : AV} {H : AH} {Q : Post} (h : layout_torn Φ a0 H Q) : Φ K.layout_torn [a0] H Q := hT.call (by kernel_rfl) (by kernel_rfl) (by rw [eq_layout_torn]; exact h)
theorem cl_layout_of {Φ : Calls'} (hT : Cl Φ tab_layout) {a0 : AV} {H : AH} {Q : Post} (h : layout_of Φ a0 H Q) : Φ K.layout_of [a0] H Q := hT.call (by kernel_rfl) (by kernel_rfl) (by rw [eq_layout_of]; exact h)
theorem cl_layout_loose {Φ : Calls'} (hT : Cl Φ tab_layout) {a0 : AV} {H : AH} {Q : Post} (h : layout_loose Φ a0 H Q) : Φ K.layout_loose [a0] H Q := hT.call (by kernel_rfl) (by kernel_rfl) (by rw [eq_layout_loose]; exact h)
theorem cl_layout_torn_c1 {Φ : Calls'} (hT : Cl Φ tab_layout) {a0 : AV} {H : AH} {Q : Post} (h : layout_torn_c1 Φ a0 H Q) : Φ K.layout_torn_c1 [a0] H Q := hT.call (by kernel_rfl) (by kernel_rfl) (by rw [eq_layout_torn_c1]; exact h)
theorem cl_layout_place {Φ : Calls'} (hT : Cl Φ tab_layout) {a0 : AV} {H : AH} {Q : Post} (h : layout_place Φ a0 H Q) : Φ K.layout_place [a0] H Q := hT.call (by kernel_rfl) (by kernel_rfl) (by rw [eq_layout_place]; exact h)
theorem cl_layout_loose_c1 {Φ : Calls'} (hT : Cl Φ tab_layout) {a0 : AV} {H : AH} {Q : Post} (h : layout_loose_c1 Φ a0 H Q) : Φ K.layout_loose_c1 [a0] H Q := hT.call (by kernel_rfl) (by kernel_rfl) (by rw [eq_layout_loose_c1]; exact h)
theorem cl_layout_wide {Φ : Calls'} (hT : Cl Φ tab_layout) {a0 a1 a2 : AV} {H : AH} {Q : Post} (h : layout_wide Φ a0 a1 a2 H Q) : Φ K.layout_wide [a0, a1, a2] H Q := hT.call (by kernel_rfl) (by kernel_rfl) (by rw [eq_layout_wide]; exact h)
theorem cl_layout_placed_bits {Φ : Calls'} (hT : Cl Φ tab_layout) {a0 a1 : AV} {H : AH} {Q : Post} (h : layout_placed_bits Φ a0 a1 H Q) : Φ K.layout_placed_bits [a0, a1] H Q := hT.call (by kernel_rfl) (by kernel_rfl) (by rw [eq_layout_placed_bits]; exact h)
theorem cl_layout_up {Φ : Calls'} (hT : Cl Φ tab_layout) {a0 a1 : AV} {H : AH} {Q : Post} (h : layout_up Φ a0 a1 H Q) : Φ K.layout_up [a0, a1] H Q := hT.call (by kernel_rfl) (by kernel_rfl) (by rw [eq_layout_up]; exact h)
theorem cl_layout_Fields {Φ : Calls'} (hT : Cl Φ tab_layout) {a0 : AV} {H : AH} {Q : Post} (h : layout_Fields Φ a0 H Q) : Φ K.layout_Fields [a0] H Q := hT.call (by kernel_rfl) (by kernel_rfl) (by rw [eq_layout_Fields]; exact h)
end Rb.S

/- Package layout: its functions as runs. By gen.py. -/
set_option linter.unusedVariables false
namespace Rb.R
open Go

def layout_Of (Φ : CallsB) (n : Nat) (a0 : AV) (H : TH) (Q : PostB) : Bool :=
 DoHB (tboxv H false 6 a0) fun x1 H2 =>
 DoB (aload H2.ah 6 true x1) fun x3 =>
Φ K.layout_check [x3] H2 fun x5 H6 =>
 DoB (aextract 0 x5) fun x7 =>
 DoB (aextract 1 x5) fun x8 =>
 DoHB (some (tbox H6 true [.int .i64 0, .int .i64 0])) fun x9 H10 =>
 DoB (tstore H10 2 x9 x7) fun H12 =>
 DoB (afaddr 0 x9) fun x13 =>
 DoB (aload H12.ah 1 false x13) fun x14 =>
 DoB (afaddr 1 x9) fun x16 =>
 DoB (aload H12.ah 1 false x16) fun x17 =>
 Q (.tup [x14, x17, x8]) H12
theorem eq_layout_Of (Φ : CallsB) (n : Nat) (a0 : AV) (H : TH) (Q : PostB) : fnB1 Φ n S.ir_layout_Of [a0] H Q = layout_Of Φ n a0 H Q := by kernel_rfl

def layout_check (Φ : CallsB) (n : Nat) (a0 : AV) (H : TH) (Q : PostB) : Bool :=
 DoHB (tboxv H false 6 a0) fun x1 H2 =>
 DoHB (some (tbox H2 true [.int .i64 0, .int .i64 0])) fun x3 H4 =>
 DoB (aload H4.ah 6 true x1) fun x5 =>
Φ K.kind_Sound [x5] H4 fun x7 H8 =>
 DoB (abin .neq x7 (.int .i64 0)) fun x9 =>
 GdB x9 true (
 DoB (abuild [.int .i64 0, .int .i64 0] []) fun x10 =>
 DoB (tstore H8 2 x3 x10) fun H12 =>
 DoB (aload H12.ah 2 true x3) fun x13 =>
 Q (.tup [x13, x7]) H12) (
 DoB (aload H8.ah 6 true x1) fun x14 =>
Φ K.layout_torn [x14] H8 fun x16 H17 =>
 GdB x16 true (
 DoB (abuild [.int .i64 0, .int .i64 0] []) fun x18 =>
 DoB (tstore H17 2 x3 x18) fun H20 =>
 DoB (aload H20.ah 2 true x3) fun x21 =>
 Q (.tup [x21, (.int .i64 10)]) H20) (
 DoB (aload H17.ah 6 true x1) fun x22 =>
Φ K.layout_of [x22] H17 fun x24 H25 =>
 DoB (aextract 0 x24) fun x26 =>
 DoB (aextract 1 x24) fun x27 =>
 DoHB (some (tbox H25 true [.int .i64 0, .int .i64 0])) fun x28 H29 =>
 DoB (tstore H29 2 x28 x26) fun H31 =>
 DoB (aun .not x27) fun x32 =>
 GdB x32 true (
 DoB (abuild [.int .i64 0, .int .i64 0] []) fun x33 =>
 DoB (tstore H31 2 x3 x33) fun H35 =>
 DoB (aload H35.ah 2 true x3) fun x36 =>
 Q (.tup [x36, (.int .i64 9)]) H35) (
 DoB (aload H31.ah 2 true x28) fun x37 =>
 DoB (tstore H31 2 x3 x37) fun H40 =>
 DoB (aload H40.ah 2 true x3) fun x41 =>
 Q (.tup [x41, (.int .i64 0)]) H40)))
theorem eq_layout_check (Φ : CallsB) (n : Nat) (a0 : AV) (H : TH) (Q : PostB) : fnB1 Φ n S.ir_layout_check [a0] H Q = layout_check Φ n a0 H Q := by kernel_rfl

def layout_torn_k1 (Φ : CallsB) (n : Nat) (x1 : AV) (Q : PostB) : List AV → TH → Bool := fun j12 H13 =>
 Gd3B (sl j12 0) false (
 DoB (afaddr 3 x1) fun x19 =>
 DoB (aload H13.ah 1 false x19) fun x20 =>
Φ K.slices_ContainsFunc___api_Field_api_Field_ [x20, (.fn K.layout_torn_c1 [])] H13 fun x22 H23 =>
 Q x22 H23) (
 Q (.bool true) H13) (
 false)
def layout_torn_k2 (Φ : CallsB) (n : Nat) (x1 : AV) (Q : PostB) : List AV → TH → Bool := fun j3 H4 =>
 Gd3B (sl j3 0) false (
 DoB (afaddr 5 x1) fun x14 =>
 DoB (aload H4.ah 1 false x14) fun x15 =>
Φ K.slices_ContainsFunc___api_Type_api_Type_ [x15, (.fn K.layout_torn [])] H4 fun x17 H18 =>
 JoinB (layout_torn_k1 Φ n x1 Q) [x17] H18) (
 JoinB (layout_torn_k1 Φ n x1 Q) [(.bool true)] H4) (
 false)
def layout_torn (Φ : CallsB) (n : Nat) (a0 : AV) (H : TH) (Q : PostB) : Bool :=
 DoHB (tboxv H false 6 a0) fun x1 H2 =>
 DoB (afaddr 2 x1) fun x5 =>
 DoB (aload H2.ah 1 false x5) fun x6 =>
 Gd3B x6 true (
 DoB (aload H2.ah 6 true x1) fun x8 =>
Φ K.layout_loose [x8] H2 fun x10 H11 =>
 JoinB (layout_torn_k2 Φ n x1 Q) [x10] H11) (
 JoinB (layout_torn_k2 Φ n x1 Q) [(.bool false)] H2) (
 false)
theorem eq_layout_torn (Φ : CallsB) (n : Nat) (a0 : AV) (H : TH) (Q : PostB) : fnB1 Φ n S.ir_layout_torn [a0] H Q = layout_torn Φ n a0 H Q := by kernel_rfl

def layout_of_k1 (Φ : CallsB) (n : Nat) (x1 : AV) (x3 : AV) (Q : PostB) : List AV → TH → Bool := fun j5 H6 =>
 DoB (aload H6.ah 6 true x1) fun x60 =>
Φ K.layout_place [x60] H6 fun x62 H63 =>
 DoB (aextract 0 x62) fun x64 =>
 DoB (aextract 1 x62) fun x65 =>
 DoHB (some (tbox H63 true [.int .i64 0, .int .i64 0, .lst .nil 0 [], .int .i64 0])) fun x66 H67 =>
 DoB (tstore H67 4 x66 x64) fun H69 =>
 DoB (afaddr 0 x66) fun x70 =>
 DoB (aload H69.ah 2 true x70) fun x71 =>
 DoB (tstore H69 2 x3 x71) fun H74 =>
 DoB (aload H74.ah 2 true x3) fun x75 =>
 Q (.tup [x75, x65]) H74
def layout_of_k2 (Φ : CallsB) (n : Nat) (x1 : AV) (x3 : AV) (x8 : AV) (Q : PostB) : List AV → TH → Bool := fun j10 H11 =>
 GdB (sl j10 0) true (
 DoB (afaddr 1 x1) fun x13 =>
 DoB (aload H11.ah 1 false x13) fun x14 =>
 DoB (afaddr 1 x1) fun x16 =>
 DoB (aload H11.ah 1 false x16) fun x17 =>
 DoB (abuild [.int .i64 0, .int .i64 0] [(0, 1, x14), (1, 1, x17)]) fun x19 =>
 DoB (tstore H11 2 x3 x19) fun H21 =>
 DoB (aload H21.ah 2 true x3) fun x22 =>
 Q (.tup [x22, (.bool true)]) H21) (
 DoB (abin .eql x8 (.int .i64 5)) fun x23 =>
 GdB x23 true (
 DoB (afaddr 5 x1) fun x24 =>
 DoB (aload H11.ah 1 false x24) fun x25 =>
 DoB (aiaddr none 6 x25 (.int .i64 0)) fun x27 =>
 DoB (aload H11.ah 6 true x27) fun x28 =>
Φ K.layout_of [x28] H11 fun x30 H31 =>
 DoB (aextract 0 x30) fun x32 =>
 DoB (aextract 1 x30) fun x33 =>
 DoHB (some (tbox H31 true [.int .i64 0, .int .i64 0])) fun x34 H35 =>
 DoB (tstore H35 2 x34 x32) fun H37 =>
 DoB (afaddr 0 x34) fun x38 =>
 DoB (aload H37.ah 1 false x38) fun x39 =>
 DoB (afaddr 4 x1) fun x41 =>
 DoB (aload H37.ah 1 false x41) fun x42 =>
 DoB (abin .mul x39 x42) fun x44 =>
 DoB (afaddr 0 x34) fun x45 =>
 DoB (tstore H37 1 x45 x44) fun H47 =>
 DoB (aload H47.ah 2 true x34) fun x48 =>
 Gd3B x33 true (
 DoB (afaddr 0 x34) fun x50 =>
 DoB (aload H47.ah 1 false x50) fun x51 =>
 DoB (abin .leq x51 (.int .i64 65536)) fun x53 =>
 DoB (tstore H47 2 x3 x48) fun H55 =>
 and (sameW (.bool true) true (sameV (aload H55.ah 1 false x50) x51)) (
 DoB (aload H55.ah 2 true x3) fun x56 =>
 Q (.tup [x56, x53]) H55)) (
 DoB (tstore H47 2 x3 x48) fun H58 =>
 and (sameW (.bool false) true (sameV (aload H58.ah 1 false (.tup [])) (.tup []))) (
 DoB (aload H58.ah 2 true x3) fun x59 =>
 Q (.tup [x59, (.bool false)]) H58)) (
 false)) (
 JoinB (layout_of_k1 Φ n x1 x3 Q) [] H11))
def layout_of (Φ : CallsB) (n : Nat) (a0 : AV) (H : TH) (Q : PostB) : Bool :=
 DoHB (tboxv H false 6 a0) fun x1 H2 =>
 DoHB (some (tbox H2 true [.int .i64 0, .int .i64 0])) fun x3 H4 =>
 DoB (afaddr 0 x1) fun x7 =>
 DoB (aload H4.ah 1 false x7) fun x8 =>
 DoB (abin .eql x8 (.int .i64 1)) fun x12 =>
 GdB x12 true (
 JoinB (layout_of_k2 Φ n x1 x3 x8 Q) [x12] H4) (
 DoB (abin .eql x8 (.int .i64 2)) fun x76 =>
 JoinB (layout_of_k2 Φ n x1 x3 x8 Q) [x76] H4)
theorem eq_layout_of (Φ : CallsB) (n : Nat) (a0 : AV) (H : TH) (Q : PostB) : fnB1 Φ n S.ir_layout_of [a0] H Q = layout_of Φ n a0 H Q := by kernel_rfl

def layout_loose_k1 (Φ : CallsB) (n : Nat) (x1 : AV) (Q : PostB) : List AV → TH → Bool := fun j13 H14 =>
 Gd3B (sl j13 0) false (
 DoB (afaddr 3 x1) fun x20 =>
 DoB (aload H14.ah 1 false x20) fun x21 =>
Φ K.slices_ContainsFunc___api_Field_api_Field_ [x21, (.fn K.layout_loose_c1 [])] H14 fun x23 H24 =>
 Q x23 H24) (
 Q (.bool true) H14) (
 false)
def layout_loose_k2 (Φ : CallsB) (n : Nat) (x1 : AV) (Q : PostB) : List AV → TH → Bool := fun j3 H4 =>
 Gd3B (sl j3 0) false (
 DoB (afaddr 5 x1) fun x15 =>
 DoB (aload H4.ah 1 false x15) fun x16 =>
Φ K.slices_ContainsFunc___api_Type_api_Type_ [x16, (.fn K.layout_loose [])] H4 fun x18 H19 =>
 JoinB (layout_loose_k1 Φ n x1 Q) [x18] H19) (
 JoinB (layout_loose_k1 Φ n x1 Q) [(.bool true)] H4) (
 false)
def layout_loose (Φ : CallsB) (n : Nat) (a0 : AV) (H : TH) (Q : PostB) : Bool :=
 DoHB (tboxv H false 6 a0) fun x1 H2 =>
 DoB (afaddr 0 x1) fun x5 =>
 DoB (aload H2.ah 1 false x5) fun x6 =>
 DoB (abin .eql x6 (.int .i64 2)) fun x8 =>
 Gd3B x8 true (
 DoB (afaddr 1 x1) fun x9 =>
 DoB (aload H2.ah 1 false x9) fun x10 =>
 DoB (abin .gtr x10 (.int .i64 1)) fun x12 =>
 JoinB (layout_loose_k2 Φ n x1 Q) [x12] H2) (
 JoinB (layout_loose_k2 Φ n x1 Q) [(.bool false)] H2) (
 false)
theorem eq_layout_loose (Φ : CallsB) (n : Nat) (a0 : AV) (H : TH) (Q : PostB) : fnB1 Φ n S.ir_layout_loose [a0] H Q = layout_loose Φ n a0 H Q := by kernel_rfl

def layout_torn_c1 (Φ : CallsB) (n : Nat) (a0 : AV) (H : TH) (Q : PostB) : Bool :=
 DoHB (tboxv H false 9 a0) fun x1 H2 =>
 DoB (afaddr 1 x1) fun x3 =>
 DoB (aload H2.ah 6 true x3) fun x4 =>
Φ K.layout_torn [x4] H2 fun x6 H7 =>
 Q x6 H7
theorem eq_layout_torn_c1 (Φ : CallsB) (n : Nat) (a0 : AV) (H : TH) (Q : PostB) : fnB1 Φ n S.ir_layout_torn_c1 [a0] H Q = layout_torn_c1 Φ n a0 H Q := by kernel_rfl

def layout_place_k1 (Φ : CallsB) (n : Nat) (s17 : List AV × TH) (L18 : (List AV × TH) → Bool) (Q : PostB) : List AV → TH → Bool := fun j20 H21 =>
 DoB (abin .add (sl s17.1 0) (.int .i64 1)) fun x96 =>
 L18 ([x96], H21)
def layout_place_k2 (Φ : CallsB) (n : Nat) (x7 : AV) (s17 : List AV × TH) (L18 : (List AV × TH) → Bool) (Q : PostB) : List AV → TH → Bool := fun j72 H73 =>
 DoB (afaddr 0 x7) fun x81 =>
 DoB (afaddr 0 x81) fun x82 =>
 DoB (aload H73.ah 1 false x82) fun x83 =>
 DoB (afaddr 3 x7) fun x85 =>
 DoB (aload H73.ah 1 false x85) fun x86 =>
Φ K.layout_up [x86, (.int .i64 8)] H73 fun x88 H89 =>
 and (sameV (aload H89.ah 1 false x82) x83) (
 DoB (abin .quo x88 (.int .i64 8)) fun x90 =>
 DoB (aminmax true [x83, x90]) fun x91 =>
 DoB (afaddr 0 x7) fun x92 =>
 DoB (afaddr 0 x92) fun x93 =>
 DoB (tstore H89 1 x93 x91) fun H95 =>
 JoinB (layout_place_k1 Φ n s17 L18 Q) [] H95)
def layout_place_k3 (Φ : CallsB) (n : Nat) (x7 : AV) (x25 : AV) (x36 : AV) (x52 : AV) (s17 : List AV × TH) (L18 : (List AV × TH) → Bool) (Q : PostB) : List AV → TH → Bool := fun j63 H64 =>
 DoB (afaddr 7 x25) fun x74 =>
 DoB (aload H64.ah 1 false x74) fun x75 =>
 GdB x75 true (
 DoB (aload H64.ah 9 true x25) fun x77 =>
Φ K.layout_placed_bits [x7, x77] H64 fun x79 H80 =>
 JoinB (layout_place_k2 Φ n x7 s17 L18 Q) [] H80) (
 DoB (afaddr 3 x7) fun x97 =>
 DoB (aload H64.ah 1 false x97) fun x98 =>
Φ K.layout_up [x98, (.int .i64 8)] H64 fun x100 H101 =>
 DoB (abin .quo x100 (.int .i64 8)) fun x102 =>
Φ K.layout_up [x102, x52] H101 fun x103 H104 =>
 DoB (afaddr 2 x7) fun x105 =>
 DoB (aload H104.ah 1 false x105) fun x106 =>
 DoB (afaddr 0 x36) fun x108 =>
 DoB (aload H104.ah 1 false x108) fun x109 =>
 DoB (abuild [.int .i64 0, .int .i64 0] [(0, 1, x103), (1, 1, x109)]) fun x111 =>
 DoB (afaddr 1 x25) fun x112 =>
 DoB (afaddr 0 x112) fun x113 =>
 DoB (aload H104.ah 1 false x113) fun x114 =>
 DoB (abuild [.int .i64 0, .int .i64 0, .int .i64 0, .bool false, .int .i64 0, .int .i64 0] [(0, 2, x111), (2, 1, x114)]) fun x116 =>
 DoHB (tbslice H104 false 6 1 [.int .i64 0, .int .i64 0, .int .i64 0, .bool false, .int .i64 0, .int .i64 0] [(0, 6, x116)]) fun x117 H118 =>
 DoHB (tappend H118 false 6 48 x106 x117) fun x119 H120 =>
 DoB (afaddr 2 x7) fun x121 =>
 DoB (tstore H120 1 x121 x119) fun H123 =>
 DoB (afaddr 0 x36) fun x124 =>
 DoB (aload H123.ah 1 false x124) fun x125 =>
 DoB (abin .add x103 x125) fun x127 =>
 DoB (abin .mul (.int .i64 8) x127) fun x128 =>
 DoB (afaddr 3 x7) fun x129 =>
 DoB (tstore H123 1 x129 x128) fun H131 =>
 JoinB (layout_place_k2 Φ n x7 s17 L18 Q) [] H131)
def layout_place_k4 (Φ : CallsB) (n : Nat) (x3 : AV) (x7 : AV) (Q : PostB) : List AV → TH → Bool := fun j11 H12 =>
 DoB (afaddr 0 x7) fun x132 =>
 DoB (afaddr 0 x132) fun x133 =>
 DoB (aload H12.ah 1 false x133) fun x134 =>
 DoB (afaddr 0 x7) fun x136 =>
 DoB (afaddr 1 x136) fun x137 =>
 DoB (aload H12.ah 1 false x137) fun x138 =>
Φ K.layout_up [x134, x138] H12 fun x140 H141 =>
 DoB (afaddr 0 x7) fun x142 =>
 DoB (afaddr 0 x142) fun x143 =>
 DoB (tstore H141 1 x143 x140) fun H145 =>
 DoB (aload H145.ah 4 true x7) fun x146 =>
 DoB (afaddr 0 x7) fun x148 =>
 DoB (afaddr 0 x148) fun x149 =>
 DoB (aload H145.ah 1 false x149) fun x150 =>
 DoB (abin .leq x150 (.int .i64 65536)) fun x152 =>
 DoB (tstore H145 4 x3 x146) fun H154 =>
 and (sameV (aload H154.ah 1 false x149) x150) (
 DoB (aload H154.ah 4 true x3) fun x155 =>
 Q (.tup [x155, x152]) H154)
def layout_place_l5 (Φ : CallsB) (n : Nat) (x1 : AV) (x3 : AV) (x7 : AV) (x14 : AV) (x16 : AV) (Q : PostB) : (List AV × TH) → ((List AV × TH) → Bool) → Bool := fun s17 L18 =>
 DoB (abin .lss (sl s17.1 0) x16) fun x19 =>
 GdB x19 true (
 DoB (aiaddr none 9 x14 (sl s17.1 0)) fun x22 =>
 DoB (aload s17.2.ah 9 true x22) fun x23 =>
 DoHB (some (tbox s17.2 true [.str [], .int .i64 0, .int .i64 0, .bool false, .lst .nil 0 [], .int .i64 0, .lst .nil 0 [], .bool false, .int .i64 0])) fun x25 H26 =>
 DoB (tstore H26 9 x25 x23) fun H28 =>
 DoB (afaddr 1 x25) fun x29 =>
 DoB (aload H28.ah 6 true x29) fun x30 =>
Φ K.layout_of [x30] H28 fun x32 H33 =>
 DoB (aextract 0 x32) fun x34 =>
 DoB (aextract 1 x32) fun x35 =>
 DoHB (some (tbox H33 true [.int .i64 0, .int .i64 0])) fun x36 H37 =>
 DoB (tstore H37 2 x36 x34) fun H39 =>
 DoB (aun .not x35) fun x40 =>
 GdB x40 true (
 DoB (abuild [.int .i64 0, .int .i64 0, .lst .nil 0 [], .int .i64 0] []) fun x41 =>
 DoB (tstore H39 4 x3 x41) fun H43 =>
 DoB (aload H43.ah 4 true x3) fun x44 =>
 Q (.tup [x44, (.bool false)]) H43) (
 DoB (aload H39.ah 6 true x1) fun x45 =>
 DoB (aload H39.ah 9 true x25) fun x47 =>
 DoB (afaddr 1 x36) fun x49 =>
 DoB (aload H39.ah 1 false x49) fun x50 =>
Φ K.layout_wide [x45, x47, x50] H39 fun x52 H53 =>
 DoB (afaddr 0 x7) fun x54 =>
 DoB (afaddr 1 x54) fun x55 =>
 DoB (aload H53.ah 1 false x55) fun x56 =>
 DoB (aminmax true [x56, x52]) fun x58 =>
 DoB (afaddr 0 x7) fun x59 =>
 DoB (afaddr 1 x59) fun x60 =>
 DoB (tstore H53 1 x60 x58) fun H62 =>
 DoB (afaddr 0 x1) fun x65 =>
 DoB (aload H62.ah 1 false x65) fun x66 =>
 DoB (abin .eql x66 (.int .i64 4)) fun x68 =>
 GdB x68 true (
 DoB (afaddr 3 x7) fun x69 =>
 DoB (tstore H62 1 x69 (.int .i64 0)) fun H71 =>
 JoinB (layout_place_k3 Φ n x7 x25 x36 x52 s17 L18 Q) [] H71) (
 JoinB (layout_place_k3 Φ n x7 x25 x36 x52 s17 L18 Q) [] H62))) (
 JoinB (layout_place_k4 Φ n x3 x7 Q) [] s17.2)
def layout_place (Φ : CallsB) (n : Nat) (a0 : AV) (H : TH) (Q : PostB) : Bool :=
 DoHB (tboxv H false 6 a0) fun x1 H2 =>
 DoHB (some (tbox H2 true [.int .i64 0, .int .i64 0, .lst .nil 0 [], .int .i64 0])) fun x3 H4 =>
 DoB (abuild [.int .i64 0, .int .i64 0] [(0, 1, (.int .i64 0)), (1, 1, (.int .i64 1))]) fun x5 =>
 DoB (abuild [.int .i64 0, .int .i64 0, .lst .nil 0 [], .int .i64 0] [(0, 2, x5)]) fun x6 =>
 DoHB (some (tbox H4 true [.int .i64 0, .int .i64 0, .lst .nil 0 [], .int .i64 0])) fun x7 H8 =>
 DoB (tstore H8 4 x7 x6) fun H10 =>
 DoB (afaddr 3 x1) fun x13 =>
 DoB (aload H10.ah 1 false x13) fun x14 =>
 DoB (alen false x14) fun x16 =>
 LoopB (layout_place_l5 Φ n x1 x3 x7 x14 x16 Q) n ([(.int .i64 0)], H10)
theorem eq_layout_place (Φ : CallsB) (n : Nat) (a0 : AV) (H : TH) (Q : PostB) : fnB1 Φ n S.ir_layout_place [a0] H Q = layout_place Φ n a0 H Q := by kernel_rfl

def layout_loose_c1 (Φ : CallsB) (n : Nat) (a0 : AV) (H : TH) (Q : PostB) : Bool :=
 DoHB (tboxv H false 9 a0) fun x1 H2 =>
 DoB (afaddr 1 x1) fun x3 =>
 DoB (aload H2.ah 6 true x3) fun x4 =>
Φ K.layout_loose [x4] H2 fun x6 H7 =>
 Q x6 H7
theorem eq_layout_loose_c1 (Φ : CallsB) (n : Nat) (a0 : AV) (H : TH) (Q : PostB) : fnB1 Φ n S.ir_layout_loose_c1 [a0] H Q = layout_loose_c1 Φ n a0 H Q := by kernel_rfl

def layout_wide_k1 (Φ : CallsB) (n : Nat) (a2 : AV) (x3 : AV) (Q : PostB) : List AV → TH → Bool := fun j5 H6 =>
 GdB (sl j5 0) true (
 Q (.int .i64 1) H6) (
 DoB (afaddr 7 x3) fun x17 =>
 DoB (aload H6.ah 1 false x17) fun x18 =>
 GdB x18 true (
 DoB (afaddr 1 x3) fun x20 =>
 DoB (afaddr 1 x20) fun x21 =>
 DoB (aload H6.ah 1 false x21) fun x22 =>
 Q x22 H6) (
 Q a2 H6))
def layout_wide (Φ : CallsB) (n : Nat) (a0 : AV) (a1 : AV) (a2 : AV) (H : TH) (Q : PostB) : Bool :=
 DoHB (tboxv H false 6 a0) fun x1 H2 =>
 DoHB (tboxv H2 false 9 a1) fun x3 H4 =>
 DoB (afaddr 2 x1) fun x7 =>
 DoB (aload H4.ah 1 false x7) fun x8 =>
 Gd3B x8 false (
 DoB (afaddr 7 x3) fun x10 =>
 DoB (aload H4.ah 1 false x10) fun x11 =>
 Gd3B x11 true (
 DoB (afaddr 8 x3) fun x13 =>
 DoB (aload H4.ah 1 false x13) fun x14 =>
 DoB (abin .eql x14 (.int .i64 0)) fun x16 =>
 JoinB (layout_wide_k1 Φ n a2 x3 Q) [x16] H4) (
 JoinB (layout_wide_k1 Φ n a2 x3 Q) [(.bool false)] H4) (
 false)) (
 JoinB (layout_wide_k1 Φ n a2 x3 Q) [(.bool true)] H4) (
 false)
theorem eq_layout_wide (Φ : CallsB) (n : Nat) (a0 a1 a2 : AV) (H : TH) (Q : PostB) : fnB1 Φ n S.ir_layout_wide [a0, a1, a2] H Q = layout_wide Φ n a0 a1 a2 H Q := by kernel_rfl

def layout_placed_bits_k1 (Φ : CallsB) (n : Nat) (a0 : AV) (x1 : AV) (Q : PostB) : List AV → TH → Bool := fun j46 H47 =>
 DoB (anilck a0) fun x74 =>
 DoB (afaddr 3 x74) fun x75 =>
 DoB (aload H47.ah 1 false x75) fun x76 =>
 DoB (abin .quo x76 (.int .i64 8)) fun x78 =>
 DoB (anilck a0) fun x79 =>
 DoB (afaddr 3 x79) fun x80 =>
 DoB (aload H47.ah 1 false x80) fun x81 =>
 DoB (afaddr 8 x1) fun x83 =>
 DoB (aload H47.ah 1 false x83) fun x84 =>
 DoB (abin .add x81 x84) fun x86 =>
 DoB (abin .sub x86 (.int .i64 1)) fun x87 =>
 DoB (abin .quo x87 (.int .i64 8)) fun x88 =>
 DoB (anilck a0) fun x89 =>
 DoB (afaddr 2 x89) fun x90 =>
 DoB (aload H47.ah 1 false x90) fun x91 =>
 DoB (abin .sub x88 x78) fun x93 =>
 DoB (abin .add x93 (.int .i64 1)) fun x94 =>
 DoB (abuild [.int .i64 0, .int .i64 0] [(0, 1, x78), (1, 1, x94)]) fun x95 =>
 DoB (anilck a0) fun x96 =>
 DoB (afaddr 3 x96) fun x97 =>
 DoB (aload H47.ah 1 false x97) fun x98 =>
 DoB (abin .rem x98 (.int .i64 8)) fun x100 =>
 DoB (afaddr 8 x1) fun x101 =>
 DoB (aload H47.ah 1 false x101) fun x102 =>
 DoB (abuild [.int .i64 0, .int .i64 0, .int .i64 0, .bool false, .int .i64 0, .int .i64 0] [(0, 2, x95), (2, 1, (.int .i64 1)), (3, 1, (.bool true)), (4, 1, x100), (5, 1, x102)]) fun x104 =>
 DoHB (tbslice H47 false 6 1 [.int .i64 0, .int .i64 0, .int .i64 0, .bool false, .int .i64 0, .int .i64 0] [(0, 6, x104)]) fun x105 H106 =>
 DoHB (tappend H106 false 6 48 x91 x105) fun x107 H108 =>
 DoB (anilck a0) fun x109 =>
 DoB (afaddr 2 x109) fun x110 =>
 DoB (tstore H108 1 x110 x107) fun H112 =>
 DoB (anilck a0) fun x113 =>
 DoB (afaddr 3 x113) fun x114 =>
 DoB (aload H112.ah 1 false x114) fun x115 =>
 DoB (afaddr 8 x1) fun x117 =>
 DoB (aload H112.ah 1 false x117) fun x118 =>
 DoB (abin .add x115 x118) fun x120 =>
 DoB (anilck a0) fun x121 =>
 DoB (afaddr 3 x121) fun x122 =>
 DoB (tstore H112 1 x122 x120) fun H124 =>
 Q (.tup []) H124
def layout_placed_bits (Φ : CallsB) (n : Nat) (a0 : AV) (a1 : AV) (H : TH) (Q : PostB) : Bool :=
 DoHB (tboxv H false 9 a1) fun x1 H2 =>
 DoB (afaddr 1 x1) fun x3 =>
 DoB (afaddr 1 x3) fun x4 =>
 DoB (aload H2.ah 1 false x4) fun x5 =>
 DoB (abin .mul (.int .i64 8) x5) fun x7 =>
 DoB (afaddr 8 x1) fun x8 =>
 DoB (aload H2.ah 1 false x8) fun x9 =>
 DoB (abin .eql x9 (.int .i64 0)) fun x11 =>
 GdB x11 true (
 DoB (anilck a0) fun x12 =>
 DoB (afaddr 3 x12) fun x13 =>
 DoB (aload H2.ah 1 false x13) fun x14 =>
Φ K.layout_up [x14, x7] H2 fun x16 H17 =>
 DoB (anilck a0) fun x18 =>
 DoB (afaddr 3 x18) fun x19 =>
 DoB (tstore H17 1 x19 x16) fun H21 =>
 DoB (anilck a0) fun x22 =>
 DoB (afaddr 2 x22) fun x23 =>
 DoB (aload H21.ah 1 false x23) fun x24 =>
 DoB (anilck a0) fun x26 =>
 DoB (afaddr 3 x26) fun x27 =>
 DoB (aload H21.ah 1 false x27) fun x28 =>
 DoB (abin .quo x28 (.int .i64 8)) fun x30 =>
 DoB (abuild [.int .i64 0, .int .i64 0] [(0, 1, x30)]) fun x31 =>
 DoB (anilck a0) fun x32 =>
 DoB (afaddr 3 x32) fun x33 =>
 DoB (aload H21.ah 1 false x33) fun x34 =>
 DoB (abin .rem x34 (.int .i64 8)) fun x36 =>
 DoB (abuild [.int .i64 0, .int .i64 0, .int .i64 0, .bool false, .int .i64 0, .int .i64 0] [(0, 2, x31), (2, 1, (.int .i64 1)), (3, 1, (.bool true)), (4, 1, x36)]) fun x37 =>
 DoHB (tbslice H21 false 6 1 [.int .i64 0, .int .i64 0, .int .i64 0, .bool false, .int .i64 0, .int .i64 0] [(0, 6, x37)]) fun x38 H39 =>
 DoHB (tappend H39 false 6 48 x24 x38) fun x40 H41 =>
 DoB (anilck a0) fun x42 =>
 DoB (afaddr 2 x42) fun x43 =>
 DoB (tstore H41 1 x43 x40) fun H45 =>
 Q (.tup []) H45) (
 DoB (anilck a0) fun x48 =>
 DoB (afaddr 3 x48) fun x49 =>
 DoB (aload H2.ah 1 false x49) fun x50 =>
 DoB (abin .quo x50 x7) fun x52 =>
 DoB (anilck a0) fun x53 =>
 DoB (afaddr 3 x53) fun x54 =>
 DoB (aload H2.ah 1 false x54) fun x55 =>
 DoB (afaddr 8 x1) fun x57 =>
 DoB (aload H2.ah 1 false x57) fun x58 =>
 DoB (abin .add x55 x58) fun x60 =>
 DoB (abin .sub x60 (.int .i64 1)) fun x61 =>
 DoB (abin .quo x61 x7) fun x62 =>
 DoB (abin .neq x52 x62) fun x63 =>
 GdB x63 true (
 DoB (anilck a0) fun x64 =>
 DoB (afaddr 3 x64) fun x65 =>
 DoB (aload H2.ah 1 false x65) fun x66 =>
Φ K.layout_up [x66, x7] H2 fun x68 H69 =>
 DoB (anilck a0) fun x70 =>
 DoB (afaddr 3 x70) fun x71 =>
 DoB (tstore H69 1 x71 x68) fun H73 =>
 JoinB (layout_placed_bits_k1 Φ n a0 x1 Q) [] H73) (
 JoinB (layout_placed_bits_k1 Φ n a0 x1 Q) [] H2))
theorem eq_layout_placed_bits (Φ : CallsB) (n : Nat) (a0 a1 : AV) (H : TH) (Q : PostB) : fnB1 Φ n S.ir_layout_placed_bits [a0, a1] H Q = layout_placed_bits Φ n a0 a1 H Q := by kernel_rfl

def layout_up (Φ : CallsB) (n : Nat) (a0 : AV) (a1 : AV) (H : TH) (Q : PostB) : Bool :=
 DoB (abin .add a0 a1) fun x1 =>
 DoB (abin .sub x1 (.int .i64 1)) fun x2 =>
 DoB (abin .quo x2 a1) fun x3 =>
 DoB (abin .mul x3 a1) fun x4 =>
 Q x4 H
theorem eq_layout_up (Φ : CallsB) (n : Nat) (a0 a1 : AV) (H : TH) (Q : PostB) : fnB1 Φ n S.ir_layout_up [a0, a1] H Q = layout_up Φ n a0 a1 H Q := by kernel_rfl

def layout_Fields_k1 (Φ : CallsB) (n : Nat) (x1 : AV) (Q : PostB) : List AV → TH → Bool := fun j14 H15 =>
 DoB (aload H15.ah 6 true x1) fun x26 =>
Φ K.layout_place [x26] H15 fun x28 H29 =>
 DoB (aextract 0 x28) fun x30 =>
 DoB (aextract 1 x28) fun x31 =>
 DoHB (some (tbox H29 true [.int .i64 0, .int .i64 0, .lst .nil 0 [], .int .i64 0])) fun x32 H33 =>
 DoB (tstore H33 4 x32 x30) fun H35 =>
 DoB (afaddr 2 x32) fun x36 =>
 DoB (aload H35.ah 1 false x36) fun x37 =>
 Q (.tup [x37, (.int .i64 0)]) H35
def layout_Fields_k2 (Φ : CallsB) (n : Nat) (x1 : AV) (Q : PostB) : List AV → TH → Bool := fun j16 H17 =>
 GdB (sl j16 0) true (
 Q (.tup [(.lst .nil 0 []), (.int .i64 8)]) H17) (
 JoinB (layout_Fields_k1 Φ n x1 Q) [] H17)
def layout_Fields (Φ : CallsB) (n : Nat) (a0 : AV) (H : TH) (Q : PostB) : Bool :=
 DoHB (tboxv H false 6 a0) fun x1 H2 =>
 DoB (aload H2.ah 6 true x1) fun x3 =>
Φ K.layout_check [x3] H2 fun x5 H6 =>
 DoB (aextract 0 x5) fun x7 =>
 DoB (aextract 1 x5) fun x8 =>
 DoHB (some (tbox H6 true [.int .i64 0, .int .i64 0])) fun x9 H10 =>
 DoB (tstore H10 2 x9 x7) fun H12 =>
 DoB (abin .neq x8 (.int .i64 0)) fun x13 =>
 GdB x13 true (
 Q (.tup [(.lst .nil 0 []), x8]) H12) (
 DoB (afaddr 0 x1) fun x18 =>
 DoB (aload H12.ah 1 false x18) fun x19 =>
 DoB (abin .neq x19 (.int .i64 3)) fun x21 =>
 Gd3B x21 true (
 DoB (afaddr 0 x1) fun x22 =>
 DoB (aload H12.ah 1 false x22) fun x23 =>
 DoB (abin .neq x23 (.int .i64 4)) fun x25 =>
 JoinB (layout_Fields_k2 Φ n x1 Q) [x25] H12) (
 JoinB (layout_Fields_k2 Φ n x1 Q) [(.bool false)] H12) (
 false))
theorem eq_layout_Fields (Φ : CallsB) (n : Nat) (a0 : AV) (H : TH) (Q : PostB) : fnB1 Φ n S.ir_layout_Fields [a0] H Q = layout_Fields Φ n a0 H Q := by kernel_rfl

end Rb.R

/- Package lex: its functions in the small language, and what they mean. By gen.py. -/
set_option linter.unusedVariables false
namespace Rb.S
open Go

/-! rabbet/lex.Keyword -/
def lex_Keyword (Φ : Calls') (a0 : AV) (H : AH) (Q : Post) : Prop :=
Φ K.strings_Fields [(.str [118, 97, 114, 32, 116, 104, 114, 101, 97, 100, 32, 115, 116, 114, 117, 99, 116, 32, 117, 110, 105, 111, 110, 32, 112, 97, 99, 107, 101, 100, 32, 117, 56, 32, 117, 49, 54, 32, 117, 51, 50, 32, 117, 54, 52, 32, 97, 56, 32, 97, 49, 54, 32, 97, 51, 50, 32, 97, 54, 52, 32, 97, 49, 50, 56, 32, 108, 101, 116, 32, 115, 101, 116, 32, 119, 114, 105, 116, 101, 32, 115, 116, 111, 114, 101, 32, 108, 111, 97, 100, 50, 32, 115, 116, 111, 114, 101, 50, 32, 102, 101, 110, 99, 101, 32, 105, 102, 32, 101, 108, 115, 101, 32, 119, 104, 105, 108, 101, 32, 112, 114, 105, 110, 116, 32, 114, 101, 97, 100, 32, 108, 111, 97, 100, 32, 97, 100, 100, 32, 115, 119, 97, 112, 32, 99, 97, 115, 32, 114, 108, 120, 32, 97, 99, 113, 32, 114, 101, 108, 32, 115, 99])] H fun x1 H2 =>
Φ K.slices_Contains___string_string_ [x1, a0] H2 fun x3 H4 =>
 Q x3 H4
def ir_lex_Keyword : AFunc := ⟨6, [.tmp 2],
 .seq (.region [
   ⟨some 2, .mv (.k (.bool false)), none⟩])
 (.seq (.region [
   ⟨some 3, .call K.strings_Fields [(.k (.str [118, 97, 114, 32, 116, 104, 114, 101, 97, 100, 32, 115, 116, 114, 117, 99, 116, 32, 117, 110, 105, 111, 110, 32, 112, 97, 99, 107, 101, 100, 32, 117, 56, 32, 117, 49, 54, 32, 117, 51, 50, 32, 117, 54, 52, 32, 97, 56, 32, 97, 49, 54, 32, 97, 51, 50, 32, 97, 54, 52, 32, 97, 49, 50, 56, 32, 108, 101, 116, 32, 115, 101, 116, 32, 119, 114, 105, 116, 101, 32, 115, 116, 111, 114, 101, 32, 108, 111, 97, 100, 50, 32, 115, 116, 111, 114, 101, 50, 32, 102, 101, 110, 99, 101, 32, 105, 102, 32, 101, 108, 115, 101, 32, 119, 104, 105, 108, 101, 32, 112, 114, 105, 110, 116, 32, 114, 101, 97, 100, 32, 108, 111, 97, 100, 32, 97, 100, 100, 32, 115, 119, 97, 112, 32, 99, 97, 115, 32, 114, 108, 120, 32, 97, 99, 113, 32, 114, 101, 108, 32, 115, 99]))], none⟩,
   ⟨some 4, .mv (.t 0), none⟩,
   ⟨some 5, .call K.slices_Contains___string_string_ [(.t 3), (.t 4)], none⟩,
   ⟨some 2, .mv (.t 5), none⟩])
 (.ret))⟩
theorem eq_lex_Keyword (Φ : Calls') (a0 : AV) (H : AH) (Q : Post) : fnE1 Φ ir_lex_Keyword [a0] H Q = lex_Keyword Φ a0 H Q := by kernel_rfl

def tab_lex : Tab := [
  (K.lex_Keyword, ir_lex_Keyword)]

theorem cl_lex_Keyword {Φ : Calls'} (hT : Cl Φ tab_lex) {a0 : AV} {H : AH} {Q : Post} (h : lex_Keyword Φ a0 H Q) : Φ K.lex_Keyword [a0] H Q := hT.call (by kernel_rfl) (by kernel_rfl) (by rw [eq_lex_Keyword]; exact h)
end Rb.S

/- Package lex: its functions as runs. By gen.py. -/
set_option linter.unusedVariables false
namespace Rb.R
open Go

def lex_Keyword (Φ : CallsB) (n : Nat) (a0 : AV) (H : TH) (Q : PostB) : Bool :=
Φ K.strings_Fields [(.str [118, 97, 114, 32, 116, 104, 114, 101, 97, 100, 32, 115, 116, 114, 117, 99, 116, 32, 117, 110, 105, 111, 110, 32, 112, 97, 99, 107, 101, 100, 32, 117, 56, 32, 117, 49, 54, 32, 117, 51, 50, 32, 117, 54, 52, 32, 97, 56, 32, 97, 49, 54, 32, 97, 51, 50, 32, 97, 54, 52, 32, 97, 49, 50, 56, 32, 108, 101, 116, 32, 115, 101, 116, 32, 119, 114, 105, 116, 101, 32, 115, 116, 111, 114, 101, 32, 108, 111, 97, 100, 50, 32, 115, 116, 111, 114, 101, 50, 32, 102, 101, 110, 99, 101, 32, 105, 102, 32, 101, 108, 115, 101, 32, 119, 104, 105, 108, 101, 32, 112, 114, 105, 110, 116, 32, 114, 101, 97, 100, 32, 108, 111, 97, 100, 32, 97, 100, 100, 32, 115, 119, 97, 112, 32, 99, 97, 115, 32, 114, 108, 120, 32, 97, 99, 113, 32, 114, 101, 108, 32, 115, 99])] H fun x1 H2 =>
Φ K.slices_Contains___string_string_ [x1, a0] H2 fun x3 H4 =>
 Q x3 H4
theorem eq_lex_Keyword (Φ : CallsB) (n : Nat) (a0 : AV) (H : TH) (Q : PostB) : fnB1 Φ n S.ir_lex_Keyword [a0] H Q = lex_Keyword Φ n a0 H Q := by kernel_rfl

end Rb.R

/- Package libslices: its functions in the small language, and what they mean. By gen.py. -/
set_option linter.unusedVariables false
namespace Rb.S
open Go

/-! slices.IndexFunc[[]rabbet/api.Var,rabbet/api.Var] -/
def slices_IndexFunc___api_Var_api_Var__l1 (Φ : Calls') (a0 : AV) (a1 : AV) (x1 : AV) (Q : Post) : (List AV × AH) → ((List AV × AH) → Prop) → Prop := fun s2 L3 =>
 Do (abin .lss (sl s2.1 0) x1) fun x4 =>
 Gd x4 true (
 Do (aiaddr none 7 a0 (sl s2.1 0)) fun x5 =>
 Do (aload s2.2 7 true x5) fun x6 =>
∃ k9 c10, a1 = .fn k9 c10 ∧ Φ k9 ([x6] ++ c10) s2.2 fun x7 H8 =>
 Gd x7 true (
 Q (sl s2.1 0) H8) (
 Do (abin .add (sl s2.1 0) (.int .i64 1)) fun x11 =>
 L3 ([x11], H8))) (
 Q (.int .i64 (-1)) s2.2)
def slices_IndexFunc___api_Var_api_Var_ (Φ : Calls') (a0 : AV) (a1 : AV) (H : AH) (Q : Post) : Prop :=
 Do (alen false a0) fun x1 =>
 LoopP (slices_IndexFunc___api_Var_api_Var__l1 Φ a0 a1 x1 Q) ([(.int .i64 0)], H)
def ir_slices_IndexFunc___api_Var_api_Var_ : AFunc := ⟨19, [.tmp 4],
 .seq (.region [
   ⟨some 4, .mv (.k (.int .i64 0)), none⟩])
 (.seq (.seq (.region [
   ⟨some 6, .mv (.t 0), none⟩,
   ⟨some 7, .len false (.t 6), none⟩,
   ⟨some 8, .mv (.k (.int .i64 0)), none⟩])
 (.block 0 (.loop [8] [4, 5, 9, 10, 11, 12, 13, 14, 15, 16, 17, 18] (.seq (.region [
   ⟨some 9, .bin .lss (.t 8) (.t 7), none⟩])
 (.seq (.cond (.t 9) (.skip)
   (.exit 0))
 (.seq (.block 1 (.seq (.region [
   ⟨some 10, .mv (.t 8), none⟩,
   ⟨some 5, .mv (.t 10), none⟩])
 (.seq (.region [
   ⟨some 11, .mv (.t 1), none⟩,
   ⟨some 12, .mv (.t 0), none⟩,
   ⟨some 13, .mv (.t 5), none⟩,
   ⟨some 14, .iaddr none 7 (.t 12) (.t 13), none⟩,
   ⟨some 15, .load 7 true (.t 14), none⟩,
   ⟨some 16, .callv (.t 11) [(.t 15)], none⟩])
 (.cond (.t 16) (.seq (.region [
     ⟨some 17, .mv (.t 5), none⟩,
     ⟨some 4, .mv (.t 17), none⟩])
   (.ret))
   (.skip)))))
 (.region [
   ⟨some 18, .bin .add (.t 8) (.k (.int .i64 1)), none⟩,
   ⟨some 8, .mv (.t 18), none⟩])))))))
 (.seq (.region [
   ⟨some 4, .mv (.k (.int .i64 (-1))), none⟩])
 (.ret)))⟩
theorem eq_slices_IndexFunc___api_Var_api_Var_ (Φ : Calls') (a0 a1 : AV) (H : AH) (Q : Post) : fnE1 Φ ir_slices_IndexFunc___api_Var_api_Var_ [a0, a1] H Q = slices_IndexFunc___api_Var_api_Var_ Φ a0 a1 H Q := by kernel_rfl

/-! slices.IndexFunc[[]rabbet/api.Field,rabbet/api.Field] -/
def slices_IndexFunc___api_Field_api_Field__l1 (Φ : Calls') (a0 : AV) (a1 : AV) (x1 : AV) (Q : Post) : (List AV × AH) → ((List AV × AH) → Prop) → Prop := fun s2 L3 =>
 Do (abin .lss (sl s2.1 0) x1) fun x4 =>
 Gd x4 true (
 Do (aiaddr none 9 a0 (sl s2.1 0)) fun x5 =>
 Do (aload s2.2 9 true x5) fun x6 =>
∃ k9 c10, a1 = .fn k9 c10 ∧ Φ k9 ([x6] ++ c10) s2.2 fun x7 H8 =>
 Gd x7 true (
 Q (sl s2.1 0) H8) (
 Do (abin .add (sl s2.1 0) (.int .i64 1)) fun x11 =>
 L3 ([x11], H8))) (
 Q (.int .i64 (-1)) s2.2)
def slices_IndexFunc___api_Field_api_Field_ (Φ : Calls') (a0 : AV) (a1 : AV) (H : AH) (Q : Post) : Prop :=
 Do (alen false a0) fun x1 =>
 LoopP (slices_IndexFunc___api_Field_api_Field__l1 Φ a0 a1 x1 Q) ([(.int .i64 0)], H)
def ir_slices_IndexFunc___api_Field_api_Field_ : AFunc := ⟨19, [.tmp 4],
 .seq (.region [
   ⟨some 4, .mv (.k (.int .i64 0)), none⟩])
 (.seq (.seq (.region [
   ⟨some 6, .mv (.t 0), none⟩,
   ⟨some 7, .len false (.t 6), none⟩,
   ⟨some 8, .mv (.k (.int .i64 0)), none⟩])
 (.block 0 (.loop [8] [4, 5, 9, 10, 11, 12, 13, 14, 15, 16, 17, 18] (.seq (.region [
   ⟨some 9, .bin .lss (.t 8) (.t 7), none⟩])
 (.seq (.cond (.t 9) (.skip)
   (.exit 0))
 (.seq (.block 1 (.seq (.region [
   ⟨some 10, .mv (.t 8), none⟩,
   ⟨some 5, .mv (.t 10), none⟩])
 (.seq (.region [
   ⟨some 11, .mv (.t 1), none⟩,
   ⟨some 12, .mv (.t 0), none⟩,
   ⟨some 13, .mv (.t 5), none⟩,
   ⟨some 14, .iaddr none 9 (.t 12) (.t 13), none⟩,
   ⟨some 15, .load 9 true (.t 14), none⟩,
   ⟨some 16, .callv (.t 11) [(.t 15)], none⟩])
 (.cond (.t 16) (.seq (.region [
     ⟨some 17, .mv (.t 5), none⟩,
     ⟨some 4, .mv (.t 17), none⟩])
   (.ret))
   (.skip)))))
 (.region [
   ⟨some 18, .bin .add (.t 8) (.k (.int .i64 1)), none⟩,
   ⟨some 8, .mv (.t 18), none⟩])))))))
 (.seq (.region [
   ⟨some 4, .mv (.k (.int .i64 (-1))), none⟩])
 (.ret)))⟩
theorem eq_slices_IndexFunc___api_Field_api_Field_ (Φ : Calls') (a0 a1 : AV) (H : AH) (Q : Post) : fnE1 Φ ir_slices_IndexFunc___api_Field_api_Field_ [a0, a1] H Q = slices_IndexFunc___api_Field_api_Field_ Φ a0 a1 H Q := by kernel_rfl

/-! slices.ContainsFunc[[]rabbet/api.Var,rabbet/api.Var] -/
def slices_ContainsFunc___api_Var_api_Var_ (Φ : Calls') (a0 : AV) (a1 : AV) (H : AH) (Q : Post) : Prop :=
Φ K.slices_IndexFunc___api_Var_api_Var_ [a0, a1] H fun x1 H2 =>
 Do (abin .geq x1 (.int .i64 0)) fun x3 =>
 Q x3 H2
def ir_slices_ContainsFunc___api_Var_api_Var_ : AFunc := ⟨9, [.tmp 4],
 .seq (.region [
   ⟨some 4, .mv (.k (.bool false)), none⟩])
 (.seq (.region [
   ⟨some 5, .mv (.t 0), none⟩,
   ⟨some 6, .mv (.t 1), none⟩,
   ⟨some 7, .call K.slices_IndexFunc___api_Var_api_Var_ [(.t 5), (.t 6)], none⟩,
   ⟨some 8, .bin .geq (.t 7) (.k (.int .i64 0)), none⟩,
   ⟨some 4, .mv (.t 8), none⟩])
 (.ret))⟩
theorem eq_slices_ContainsFunc___api_Var_api_Var_ (Φ : Calls') (a0 a1 : AV) (H : AH) (Q : Post) : fnE1 Φ ir_slices_ContainsFunc___api_Var_api_Var_ [a0, a1] H Q = slices_ContainsFunc___api_Var_api_Var_ Φ a0 a1 H Q := by kernel_rfl

/-! slices.Contains[[]string,string] -/
def slices_Contains___string_string_ (Φ : Calls') (a0 : AV) (a1 : AV) (H : AH) (Q : Post) : Prop :=
Φ K.slices_Index___string_string_ [a0, a1] H fun x1 H2 =>
 Do (abin .geq x1 (.int .i64 0)) fun x3 =>
 Q x3 H2
def ir_slices_Contains___string_string_ : AFunc := ⟨9, [.tmp 4],
 .seq (.region [
   ⟨some 4, .mv (.k (.bool false)), none⟩])
 (.seq (.region [
   ⟨some 5, .mv (.t 0), none⟩,
   ⟨some 6, .mv (.t 1), none⟩,
   ⟨some 7, .call K.slices_Index___string_string_ [(.t 5), (.t 6)], none⟩,
   ⟨some 8, .bin .geq (.t 7) (.k (.int .i64 0)), none⟩,
   ⟨some 4, .mv (.t 8), none⟩])
 (.ret))⟩
theorem eq_slices_Contains___string_string_ (Φ : Calls') (a0 a1 : AV) (H : AH) (Q : Post) : fnE1 Φ ir_slices_Contains___string_string_ [a0, a1] H Q = slices_Contains___string_string_ Φ a0 a1 H Q := by kernel_rfl

/-! slices.Index[[]string,string] -/
def slices_Index___string_string__l1 (Φ : Calls') (a0 : AV) (a1 : AV) (x1 : AV) (Q : Post) : (List AV × AH) → ((List AV × AH) → Prop) → Prop := fun s2 L3 =>
 Do (abin .lss (sl s2.1 0) x1) fun x4 =>
 Gd x4 true (
 Do (aiaddr none 1 a0 (sl s2.1 0)) fun x5 =>
 Do (aload s2.2 1 false x5) fun x6 =>
 Do (abin .eql a1 x6) fun x7 =>
 Gd x7 true (
 Q (sl s2.1 0) s2.2) (
 Do (abin .add (sl s2.1 0) (.int .i64 1)) fun x8 =>
 L3 ([x8], s2.2))) (
 Q (.int .i64 (-1)) s2.2)
def slices_Index___string_string_ (Φ : Calls') (a0 : AV) (a1 : AV) (H : AH) (Q : Post) : Prop :=
 Do (alen false a0) fun x1 =>
 LoopP (slices_Index___string_string__l1 Φ a0 a1 x1 Q) ([(.int .i64 0)], H)
def ir_slices_Index___string_string_ : AFunc := ⟨19, [.tmp 4],
 .seq (.region [
   ⟨some 4, .mv (.k (.int .i64 0)), none⟩])
 (.seq (.seq (.region [
   ⟨some 6, .mv (.t 0), none⟩,
   ⟨some 7, .len false (.t 6), none⟩,
   ⟨some 8, .mv (.k (.int .i64 0)), none⟩])
 (.block 0 (.loop [8] [4, 5, 9, 10, 11, 12, 13, 14, 15, 16, 17, 18] (.seq (.region [
   ⟨some 9, .bin .lss (.t 8) (.t 7), none⟩])
 (.seq (.cond (.t 9) (.skip)
   (.exit 0))
 (.seq (.block 1 (.seq (.region [
   ⟨some 10, .mv (.t 8), none⟩,
   ⟨some 5, .mv (.t 10), none⟩])
 (.seq (.region [
   ⟨some 11, .mv (.t 1), none⟩,
   ⟨some 12, .mv (.t 0), none⟩,
   ⟨some 13, .mv (.t 5), none⟩,
   ⟨some 14, .iaddr none 1 (.t 12) (.t 13), none⟩,
   ⟨some 15, .load 1 false (.t 14), none⟩,
   ⟨some 16, .bin .eql (.t 11) (.t 15), none⟩])
 (.cond (.t 16) (.seq (.region [
     ⟨some 17, .mv (.t 5), none⟩,
     ⟨some 4, .mv (.t 17), none⟩])
   (.ret))
   (.skip)))))
 (.region [
   ⟨some 18, .bin .add (.t 8) (.k (.int .i64 1)), none⟩,
   ⟨some 8, .mv (.t 18), none⟩])))))))
 (.seq (.region [
   ⟨some 4, .mv (.k (.int .i64 (-1))), none⟩])
 (.ret)))⟩
theorem eq_slices_Index___string_string_ (Φ : Calls') (a0 a1 : AV) (H : AH) (Q : Post) : fnE1 Φ ir_slices_Index___string_string_ [a0, a1] H Q = slices_Index___string_string_ Φ a0 a1 H Q := by kernel_rfl

/-! slices.ContainsFunc[[]rabbet/api.Field,rabbet/api.Field] -/
def slices_ContainsFunc___api_Field_api_Field_ (Φ : Calls') (a0 : AV) (a1 : AV) (H : AH) (Q : Post) : Prop :=
Φ K.slices_IndexFunc___api_Field_api_Field_ [a0, a1] H fun x1 H2 =>
 Do (abin .geq x1 (.int .i64 0)) fun x3 =>
 Q x3 H2
def ir_slices_ContainsFunc___api_Field_api_Field_ : AFunc := ⟨9, [.tmp 4],
 .seq (.region [
   ⟨some 4, .mv (.k (.bool false)), none⟩])
 (.seq (.region [
   ⟨some 5, .mv (.t 0), none⟩,
   ⟨some 6, .mv (.t 1), none⟩,
   ⟨some 7, .call K.slices_IndexFunc___api_Field_api_Field_ [(.t 5), (.t 6)], none⟩,
   ⟨some 8, .bin .geq (.t 7) (.k (.int .i64 0)), none⟩,
   ⟨some 4, .mv (.t 8), none⟩])
 (.ret))⟩
theorem eq_slices_ContainsFunc___api_Field_api_Field_ (Φ : Calls') (a0 a1 : AV) (H : AH) (Q : Post) : fnE1 Φ ir_slices_ContainsFunc___api_Field_api_Field_ [a0, a1] H Q = slices_ContainsFunc___api_Field_api_Field_ Φ a0 a1 H Q := by kernel_rfl

/-! slices.ContainsFunc[[]rabbet/api.Type,rabbet/api.Type] -/
def slices_ContainsFunc___api_Type_api_Type_ (Φ : Calls') (a0 : AV) (a1 : AV) (H : AH) (Q : Post) : Prop :=
Φ K.slices_IndexFunc___api_Type_api_Type_ [a0, a1] H fun x1 H2 =>
 Do (abin .geq x1 (.int .i64 0)) fun x3 =>
 Q x3 H2
def ir_slices_ContainsFunc___api_Type_api_Type_ : AFunc := ⟨9, [.tmp 4],
 .seq (.region [
   ⟨some 4, .mv (.k (.bool false)), none⟩])
 (.seq (.region [
   ⟨some 5, .mv (.t 0), none⟩,
   ⟨some 6, .mv (.t 1), none⟩,
   ⟨some 7, .call K.slices_IndexFunc___api_Type_api_Type_ [(.t 5), (.t 6)], none⟩,
   ⟨some 8, .bin .geq (.t 7) (.k (.int .i64 0)), none⟩,
   ⟨some 4, .mv (.t 8), none⟩])
 (.ret))⟩
theorem eq_slices_ContainsFunc___api_Type_api_Type_ (Φ : Calls') (a0 a1 : AV) (H : AH) (Q : Post) : fnE1 Φ ir_slices_ContainsFunc___api_Type_api_Type_ [a0, a1] H Q = slices_ContainsFunc___api_Type_api_Type_ Φ a0 a1 H Q := by kernel_rfl

/-! slices.IndexFunc[[]rabbet/api.Type,rabbet/api.Type] -/
def slices_IndexFunc___api_Type_api_Type__l1 (Φ : Calls') (a0 : AV) (a1 : AV) (x1 : AV) (Q : Post) : (List AV × AH) → ((List AV × AH) → Prop) → Prop := fun s2 L3 =>
 Do (abin .lss (sl s2.1 0) x1) fun x4 =>
 Gd x4 true (
 Do (aiaddr none 6 a0 (sl s2.1 0)) fun x5 =>
 Do (aload s2.2 6 true x5) fun x6 =>
∃ k9 c10, a1 = .fn k9 c10 ∧ Φ k9 ([x6] ++ c10) s2.2 fun x7 H8 =>
 Gd x7 true (
 Q (sl s2.1 0) H8) (
 Do (abin .add (sl s2.1 0) (.int .i64 1)) fun x11 =>
 L3 ([x11], H8))) (
 Q (.int .i64 (-1)) s2.2)
def slices_IndexFunc___api_Type_api_Type_ (Φ : Calls') (a0 : AV) (a1 : AV) (H : AH) (Q : Post) : Prop :=
 Do (alen false a0) fun x1 =>
 LoopP (slices_IndexFunc___api_Type_api_Type__l1 Φ a0 a1 x1 Q) ([(.int .i64 0)], H)
def ir_slices_IndexFunc___api_Type_api_Type_ : AFunc := ⟨19, [.tmp 4],
 .seq (.region [
   ⟨some 4, .mv (.k (.int .i64 0)), none⟩])
 (.seq (.seq (.region [
   ⟨some 6, .mv (.t 0), none⟩,
   ⟨some 7, .len false (.t 6), none⟩,
   ⟨some 8, .mv (.k (.int .i64 0)), none⟩])
 (.block 0 (.loop [8] [4, 5, 9, 10, 11, 12, 13, 14, 15, 16, 17, 18] (.seq (.region [
   ⟨some 9, .bin .lss (.t 8) (.t 7), none⟩])
 (.seq (.cond (.t 9) (.skip)
   (.exit 0))
 (.seq (.block 1 (.seq (.region [
   ⟨some 10, .mv (.t 8), none⟩,
   ⟨some 5, .mv (.t 10), none⟩])
 (.seq (.region [
   ⟨some 11, .mv (.t 1), none⟩,
   ⟨some 12, .mv (.t 0), none⟩,
   ⟨some 13, .mv (.t 5), none⟩,
   ⟨some 14, .iaddr none 6 (.t 12) (.t 13), none⟩,
   ⟨some 15, .load 6 true (.t 14), none⟩,
   ⟨some 16, .callv (.t 11) [(.t 15)], none⟩])
 (.cond (.t 16) (.seq (.region [
     ⟨some 17, .mv (.t 5), none⟩,
     ⟨some 4, .mv (.t 17), none⟩])
   (.ret))
   (.skip)))))
 (.region [
   ⟨some 18, .bin .add (.t 8) (.k (.int .i64 1)), none⟩,
   ⟨some 8, .mv (.t 18), none⟩])))))))
 (.seq (.region [
   ⟨some 4, .mv (.k (.int .i64 (-1))), none⟩])
 (.ret)))⟩
theorem eq_slices_IndexFunc___api_Type_api_Type_ (Φ : Calls') (a0 a1 : AV) (H : AH) (Q : Post) : fnE1 Φ ir_slices_IndexFunc___api_Type_api_Type_ [a0, a1] H Q = slices_IndexFunc___api_Type_api_Type_ Φ a0 a1 H Q := by kernel_rfl

/-! slices.IndexFunc[[]rabbet/lower.local,rabbet/lower.local] -/
def slices_IndexFunc___lower_local_lower_local__l1 (Φ : Calls') (a0 : AV) (a1 : AV) (x1 : AV) (Q : Post) : (List AV × AH) → ((List AV × AH) → Prop) → Prop := fun s2 L3 =>
 Do (abin .lss (sl s2.1 0) x1) fun x4 =>
 Gd x4 true (
 Do (aiaddr none 2 a0 (sl s2.1 0)) fun x5 =>
 Do (aload s2.2 2 true x5) fun x6 =>
∃ k9 c10, a1 = .fn k9 c10 ∧ Φ k9 ([x6] ++ c10) s2.2 fun x7 H8 =>
 Gd x7 true (
 Q (sl s2.1 0) H8) (
 Do (abin .add (sl s2.1 0) (.int .i64 1)) fun x11 =>
 L3 ([x11], H8))) (
 Q (.int .i64 (-1)) s2.2)
def slices_IndexFunc___lower_local_lower_local_ (Φ : Calls') (a0 : AV) (a1 : AV) (H : AH) (Q : Post) : Prop :=
 Do (alen false a0) fun x1 =>
 LoopP (slices_IndexFunc___lower_local_lower_local__l1 Φ a0 a1 x1 Q) ([(.int .i64 0)], H)
def ir_slices_IndexFunc___lower_local_lower_local_ : AFunc := ⟨19, [.tmp 4],
 .seq (.region [
   ⟨some 4, .mv (.k (.int .i64 0)), none⟩])
 (.seq (.seq (.region [
   ⟨some 6, .mv (.t 0), none⟩,
   ⟨some 7, .len false (.t 6), none⟩,
   ⟨some 8, .mv (.k (.int .i64 0)), none⟩])
 (.block 0 (.loop [8] [4, 5, 9, 10, 11, 12, 13, 14, 15, 16, 17, 18] (.seq (.region [
   ⟨some 9, .bin .lss (.t 8) (.t 7), none⟩])
 (.seq (.cond (.t 9) (.skip)
   (.exit 0))
 (.seq (.block 1 (.seq (.region [
   ⟨some 10, .mv (.t 8), none⟩,
   ⟨some 5, .mv (.t 10), none⟩])
 (.seq (.region [
   ⟨some 11, .mv (.t 1), none⟩,
   ⟨some 12, .mv (.t 0), none⟩,
   ⟨some 13, .mv (.t 5), none⟩,
   ⟨some 14, .iaddr none 2 (.t 12) (.t 13), none⟩,
   ⟨some 15, .load 2 true (.t 14), none⟩,
   ⟨some 16, .callv (.t 11) [(.t 15)], none⟩])
 (.cond (.t 16) (.seq (.region [
     ⟨some 17, .mv (.t 5), none⟩,
     ⟨some 4, .mv (.t 17), none⟩])
   (.ret))
   (.skip)))))
 (.region [
   ⟨some 18, .bin .add (.t 8) (.k (.int .i64 1)), none⟩,
   ⟨some 8, .mv (.t 18), none⟩])))))))
 (.seq (.region [
   ⟨some 4, .mv (.k (.int .i64 (-1))), none⟩])
 (.ret)))⟩
theorem eq_slices_IndexFunc___lower_local_lower_local_ (Φ : Calls') (a0 a1 : AV) (H : AH) (Q : Post) : fnE1 Φ ir_slices_IndexFunc___lower_local_lower_local_ [a0, a1] H Q = slices_IndexFunc___lower_local_lower_local_ Φ a0 a1 H Q := by kernel_rfl

def tab_libslices : Tab := [
  (K.slices_IndexFunc___api_Var_api_Var_, ir_slices_IndexFunc___api_Var_api_Var_),
  (K.slices_IndexFunc___api_Field_api_Field_, ir_slices_IndexFunc___api_Field_api_Field_),
  (K.slices_ContainsFunc___api_Var_api_Var_, ir_slices_ContainsFunc___api_Var_api_Var_),
  (K.slices_Contains___string_string_, ir_slices_Contains___string_string_),
  (K.slices_Index___string_string_, ir_slices_Index___string_string_),
  (K.slices_ContainsFunc___api_Field_api_Field_, ir_slices_ContainsFunc___api_Field_api_Field_),
  (K.slices_ContainsFunc___api_Type_api_Type_, ir_slices_ContainsFunc___api_Type_api_Type_),
  (K.slices_IndexFunc___api_Type_api_Type_, ir_slices_IndexFunc___api_Type_api_Type_),
  (K.slices_IndexFunc___lower_local_lower_local_, ir_slices_IndexFunc___lower_local_lower_local_)]

theorem cl_slices_IndexFunc___api_Var_api_Var_ {Φ : Calls'} (hT : Cl Φ tab_libslices) {a0 a1 : AV} {H : AH} {Q : Post} (h : slices_IndexFunc___api_Var_api_Var_ Φ a0 a1 H Q) : Φ K.slices_IndexFunc___api_Var_api_Var_ [a0, a1] H Q := hT.call (by kernel_rfl) (by kernel_rfl) (by rw [eq_slices_IndexFunc___api_Var_api_Var_]; exact h)
theorem cl_slices_IndexFunc___api_Field_api_Field_ {Φ : Calls'} (hT : Cl Φ tab_libslices) {a0 a1 : AV} {H : AH} {Q : Post} (h : slices_IndexFunc___api_Field_api_Field_ Φ a0 a1 H Q) : Φ K.slices_IndexFunc___api_Field_api_Field_ [a0, a1] H Q := hT.call (by kernel_rfl) (by kernel_rfl) (by rw [eq_slices_IndexFunc___api_Field_api_Field_]; exact h)
theorem cl_slices_ContainsFunc___api_Var_api_Var_ {Φ : Calls'} (hT : Cl Φ tab_libslices) {a0 a1 : AV} {H : AH} {Q : Post} (h : slices_ContainsFunc___api_Var_api_Var_ Φ a0 a1 H Q) : Φ K.slices_ContainsFunc___api_Var_api_Var_ [a0, a1] H Q := hT.call (by kernel_rfl) (by kernel_rfl) (by rw [eq_slices_ContainsFunc___api_Var_api_Var_]; exact h)
theorem cl_slices_Contains___string_string_ {Φ : Calls'} (hT : Cl Φ tab_libslices) {a0 a1 : AV} {H : AH} {Q : Post} (h : slices_Contains___string_string_ Φ a0 a1 H Q) : Φ K.slices_Contains___string_string_ [a0, a1] H Q := hT.call (by kernel_rfl) (by kernel_rfl) (by rw [eq_slices_Contains___string_string_]; exact h)
theorem cl_slices_Index___string_string_ {Φ : Calls'} (hT : Cl Φ tab_libslices) {a0 a1 : AV} {H : AH} {Q : Post} (h : slices_Index___string_string_ Φ a0 a1 H Q) : Φ K.slices_Index___string_string_ [a0, a1] H Q := hT.call (by kernel_rfl) (by kernel_rfl) (by rw [eq_slices_Index___string_string_]; exact h)
theorem cl_slices_ContainsFunc___api_Field_api_Field_ {Φ : Calls'} (hT : Cl Φ tab_libslices) {a0 a1 : AV} {H : AH} {Q : Post} (h : slices_ContainsFunc___api_Field_api_Field_ Φ a0 a1 H Q) : Φ K.slices_ContainsFunc___api_Field_api_Field_ [a0, a1] H Q := hT.call (by kernel_rfl) (by kernel_rfl) (by rw [eq_slices_ContainsFunc___api_Field_api_Field_]; exact h)
theorem cl_slices_ContainsFunc___api_Type_api_Type_ {Φ : Calls'} (hT : Cl Φ tab_libslices) {a0 a1 : AV} {H : AH} {Q : Post} (h : slices_ContainsFunc___api_Type_api_Type_ Φ a0 a1 H Q) : Φ K.slices_ContainsFunc___api_Type_api_Type_ [a0, a1] H Q := hT.call (by kernel_rfl) (by kernel_rfl) (by rw [eq_slices_ContainsFunc___api_Type_api_Type_]; exact h)
theorem cl_slices_IndexFunc___api_Type_api_Type_ {Φ : Calls'} (hT : Cl Φ tab_libslices) {a0 a1 : AV} {H : AH} {Q : Post} (h : slices_IndexFunc___api_Type_api_Type_ Φ a0 a1 H Q) : Φ K.slices_IndexFunc___api_Type_api_Type_ [a0, a1] H Q := hT.call (by kernel_rfl) (by kernel_rfl) (by rw [eq_slices_IndexFunc___api_Type_api_Type_]; exact h)
theorem cl_slices_IndexFunc___lower_local_lower_local_ {Φ : Calls'} (hT : Cl Φ tab_libslices) {a0 a1 : AV} {H : AH} {Q : Post} (h : slices_IndexFunc___lower_local_lower_local_ Φ a0 a1 H Q) : Φ K.slices_IndexFunc___lower_local_lower_local_ [a0, a1] H Q := hT.call (by kernel_rfl) (by kernel_rfl) (by rw [eq_slices_IndexFunc___lower_local_lower_local_]; exact h)
end Rb.S

/- Package libslices: its functions as runs. By gen.py. -/
set_option linter.unusedVariables false
namespace Rb.R
open Go

def slices_IndexFunc___api_Var_api_Var__l1 (Φ : CallsB) (n : Nat) (a0 : AV) (a1 : AV) (x1 : AV) (Q : PostB) : (List AV × TH) → ((List AV × TH) → Bool) → Bool := fun s2 L3 =>
 DoB (abin .lss (sl s2.1 0) x1) fun x4 =>
 GdB x4 true (
 DoB (aiaddr none 7 a0 (sl s2.1 0)) fun x5 =>
 DoB (aload s2.2.ah 7 true x5) fun x6 =>
 clB Φ a1 [x6] s2.2 fun x8 H9 =>
 GdB x8 true (
 Q (sl s2.1 0) H9) (
 DoB (abin .add (sl s2.1 0) (.int .i64 1)) fun x12 =>
 L3 ([x12], H9))) (
 Q (.int .i64 (-1)) s2.2)
def slices_IndexFunc___api_Var_api_Var_ (Φ : CallsB) (n : Nat) (a0 : AV) (a1 : AV) (H : TH) (Q : PostB) : Bool :=
 DoB (alen false a0) fun x1 =>
 LoopB (slices_IndexFunc___api_Var_api_Var__l1 Φ n a0 a1 x1 Q) n ([(.int .i64 0)], H)
theorem eq_slices_IndexFunc___api_Var_api_Var_ (Φ : CallsB) (n : Nat) (a0 a1 : AV) (H : TH) (Q : PostB) : fnB1 Φ n S.ir_slices_IndexFunc___api_Var_api_Var_ [a0, a1] H Q = slices_IndexFunc___api_Var_api_Var_ Φ n a0 a1 H Q := by kernel_rfl

def slices_IndexFunc___api_Field_api_Field__l1 (Φ : CallsB) (n : Nat) (a0 : AV) (a1 : AV) (x1 : AV) (Q : PostB) : (List AV × TH) → ((List AV × TH) → Bool) → Bool := fun s2 L3 =>
 DoB (abin .lss (sl s2.1 0) x1) fun x4 =>
 GdB x4 true (
 DoB (aiaddr none 9 a0 (sl s2.1 0)) fun x5 =>
 DoB (aload s2.2.ah 9 true x5) fun x6 =>
 clB Φ a1 [x6] s2.2 fun x8 H9 =>
 GdB x8 true (
 Q (sl s2.1 0) H9) (
 DoB (abin .add (sl s2.1 0) (.int .i64 1)) fun x12 =>
 L3 ([x12], H9))) (
 Q (.int .i64 (-1)) s2.2)
def slices_IndexFunc___api_Field_api_Field_ (Φ : CallsB) (n : Nat) (a0 : AV) (a1 : AV) (H : TH) (Q : PostB) : Bool :=
 DoB (alen false a0) fun x1 =>
 LoopB (slices_IndexFunc___api_Field_api_Field__l1 Φ n a0 a1 x1 Q) n ([(.int .i64 0)], H)
theorem eq_slices_IndexFunc___api_Field_api_Field_ (Φ : CallsB) (n : Nat) (a0 a1 : AV) (H : TH) (Q : PostB) : fnB1 Φ n S.ir_slices_IndexFunc___api_Field_api_Field_ [a0, a1] H Q = slices_IndexFunc___api_Field_api_Field_ Φ n a0 a1 H Q := by kernel_rfl

def slices_ContainsFunc___api_Var_api_Var_ (Φ : CallsB) (n : Nat) (a0 : AV) (a1 : AV) (H : TH) (Q : PostB) : Bool :=
Φ K.slices_IndexFunc___api_Var_api_Var_ [a0, a1] H fun x1 H2 =>
 DoB (abin .geq x1 (.int .i64 0)) fun x3 =>
 Q x3 H2
theorem eq_slices_ContainsFunc___api_Var_api_Var_ (Φ : CallsB) (n : Nat) (a0 a1 : AV) (H : TH) (Q : PostB) : fnB1 Φ n S.ir_slices_ContainsFunc___api_Var_api_Var_ [a0, a1] H Q = slices_ContainsFunc___api_Var_api_Var_ Φ n a0 a1 H Q := by kernel_rfl

def slices_Contains___string_string_ (Φ : CallsB) (n : Nat) (a0 : AV) (a1 : AV) (H : TH) (Q : PostB) : Bool :=
Φ K.slices_Index___string_string_ [a0, a1] H fun x1 H2 =>
 DoB (abin .geq x1 (.int .i64 0)) fun x3 =>
 Q x3 H2
theorem eq_slices_Contains___string_string_ (Φ : CallsB) (n : Nat) (a0 a1 : AV) (H : TH) (Q : PostB) : fnB1 Φ n S.ir_slices_Contains___string_string_ [a0, a1] H Q = slices_Contains___string_string_ Φ n a0 a1 H Q := by kernel_rfl

def slices_Index___string_string__l1 (Φ : CallsB) (n : Nat) (a0 : AV) (a1 : AV) (x1 : AV) (Q : PostB) : (List AV × TH) → ((List AV × TH) → Bool) → Bool := fun s2 L3 =>
 DoB (abin .lss (sl s2.1 0) x1) fun x4 =>
 GdB x4 true (
 DoB (aiaddr none 1 a0 (sl s2.1 0)) fun x5 =>
 DoB (aload s2.2.ah 1 false x5) fun x6 =>
 DoB (abin .eql a1 x6) fun x8 =>
 GdB x8 true (
 Q (sl s2.1 0) s2.2) (
 DoB (abin .add (sl s2.1 0) (.int .i64 1)) fun x9 =>
 L3 ([x9], s2.2))) (
 Q (.int .i64 (-1)) s2.2)
def slices_Index___string_string_ (Φ : CallsB) (n : Nat) (a0 : AV) (a1 : AV) (H : TH) (Q : PostB) : Bool :=
 DoB (alen false a0) fun x1 =>
 LoopB (slices_Index___string_string__l1 Φ n a0 a1 x1 Q) n ([(.int .i64 0)], H)
theorem eq_slices_Index___string_string_ (Φ : CallsB) (n : Nat) (a0 a1 : AV) (H : TH) (Q : PostB) : fnB1 Φ n S.ir_slices_Index___string_string_ [a0, a1] H Q = slices_Index___string_string_ Φ n a0 a1 H Q := by kernel_rfl

def slices_ContainsFunc___api_Field_api_Field_ (Φ : CallsB) (n : Nat) (a0 : AV) (a1 : AV) (H : TH) (Q : PostB) : Bool :=
Φ K.slices_IndexFunc___api_Field_api_Field_ [a0, a1] H fun x1 H2 =>
 DoB (abin .geq x1 (.int .i64 0)) fun x3 =>
 Q x3 H2
theorem eq_slices_ContainsFunc___api_Field_api_Field_ (Φ : CallsB) (n : Nat) (a0 a1 : AV) (H : TH) (Q : PostB) : fnB1 Φ n S.ir_slices_ContainsFunc___api_Field_api_Field_ [a0, a1] H Q = slices_ContainsFunc___api_Field_api_Field_ Φ n a0 a1 H Q := by kernel_rfl

def slices_ContainsFunc___api_Type_api_Type_ (Φ : CallsB) (n : Nat) (a0 : AV) (a1 : AV) (H : TH) (Q : PostB) : Bool :=
Φ K.slices_IndexFunc___api_Type_api_Type_ [a0, a1] H fun x1 H2 =>
 DoB (abin .geq x1 (.int .i64 0)) fun x3 =>
 Q x3 H2
theorem eq_slices_ContainsFunc___api_Type_api_Type_ (Φ : CallsB) (n : Nat) (a0 a1 : AV) (H : TH) (Q : PostB) : fnB1 Φ n S.ir_slices_ContainsFunc___api_Type_api_Type_ [a0, a1] H Q = slices_ContainsFunc___api_Type_api_Type_ Φ n a0 a1 H Q := by kernel_rfl

def slices_IndexFunc___api_Type_api_Type__l1 (Φ : CallsB) (n : Nat) (a0 : AV) (a1 : AV) (x1 : AV) (Q : PostB) : (List AV × TH) → ((List AV × TH) → Bool) → Bool := fun s2 L3 =>
 DoB (abin .lss (sl s2.1 0) x1) fun x4 =>
 GdB x4 true (
 DoB (aiaddr none 6 a0 (sl s2.1 0)) fun x5 =>
 DoB (aload s2.2.ah 6 true x5) fun x6 =>
 clB Φ a1 [x6] s2.2 fun x8 H9 =>
 GdB x8 true (
 Q (sl s2.1 0) H9) (
 DoB (abin .add (sl s2.1 0) (.int .i64 1)) fun x12 =>
 L3 ([x12], H9))) (
 Q (.int .i64 (-1)) s2.2)
def slices_IndexFunc___api_Type_api_Type_ (Φ : CallsB) (n : Nat) (a0 : AV) (a1 : AV) (H : TH) (Q : PostB) : Bool :=
 DoB (alen false a0) fun x1 =>
 LoopB (slices_IndexFunc___api_Type_api_Type__l1 Φ n a0 a1 x1 Q) n ([(.int .i64 0)], H)
theorem eq_slices_IndexFunc___api_Type_api_Type_ (Φ : CallsB) (n : Nat) (a0 a1 : AV) (H : TH) (Q : PostB) : fnB1 Φ n S.ir_slices_IndexFunc___api_Type_api_Type_ [a0, a1] H Q = slices_IndexFunc___api_Type_api_Type_ Φ n a0 a1 H Q := by kernel_rfl

def slices_IndexFunc___lower_local_lower_local__l1 (Φ : CallsB) (n : Nat) (a0 : AV) (a1 : AV) (x1 : AV) (Q : PostB) : (List AV × TH) → ((List AV × TH) → Bool) → Bool := fun s2 L3 =>
 DoB (abin .lss (sl s2.1 0) x1) fun x4 =>
 GdB x4 true (
 DoB (aiaddr none 2 a0 (sl s2.1 0)) fun x5 =>
 DoB (aload s2.2.ah 2 true x5) fun x6 =>
 clB Φ a1 [x6] s2.2 fun x8 H9 =>
 GdB x8 true (
 Q (sl s2.1 0) H9) (
 DoB (abin .add (sl s2.1 0) (.int .i64 1)) fun x12 =>
 L3 ([x12], H9))) (
 Q (.int .i64 (-1)) s2.2)
def slices_IndexFunc___lower_local_lower_local_ (Φ : CallsB) (n : Nat) (a0 : AV) (a1 : AV) (H : TH) (Q : PostB) : Bool :=
 DoB (alen false a0) fun x1 =>
 LoopB (slices_IndexFunc___lower_local_lower_local__l1 Φ n a0 a1 x1 Q) n ([(.int .i64 0)], H)
theorem eq_slices_IndexFunc___lower_local_lower_local_ (Φ : CallsB) (n : Nat) (a0 a1 : AV) (H : TH) (Q : PostB) : fnB1 Φ n S.ir_slices_IndexFunc___lower_local_lower_local_ [a0, a1] H Q = slices_IndexFunc___lower_local_lower_local_ Φ n a0 a1 H Q := by kernel_rfl

end Rb.R

/- Package libstrings: its functions in the small language, and what they mean. By gen.py. -/
set_option linter.unusedVariables false
namespace Rb.S
open Go

/-! strings.Fields -/
def strings_Fields_k1 (Φ : Calls') (s23 : List AV × AH) (L24 : (List AV × AH) → Prop) (Q : Post) : List AV → AH → Prop := fun j25 H26 =>
 Do (abin .add (sl s23.1 0) (.int .i64 1)) fun x35 =>
 L24 ([x35], H26)
def strings_Fields_k2 (Φ : Calls') (s52 : List AV × AH) (L53 : (List AV × AH) → Prop) (Q : Post) : List AV → AH → Prop := fun j54 H55 =>
 Do (abin .add (sl s52.1 0) (.int .i64 1)) fun x64 =>
 L53 ([x64], H55)
def strings_Fields_k3 (Φ : Calls') (x50 : AV) (L39 : (List AV × AH) → Prop) (s52 : List AV × AH) (L53 : (List AV × AH) → Prop) (Q : Post) : List AV → AH → Prop := fun j56 H57 =>
 Gd (sl j56 0) true (
 JoinP (strings_Fields_k2 Φ s52 L53 Q) [] H57) (
 L39 ([x50, (sl s52.1 0), (sl s52.1 0)], H57))
def strings_Fields_l4 (Φ : Calls') (a0 : AV) (x50 : AV) (L39 : (List AV × AH) → Prop) (Q : Post) : (List AV × AH) → ((List AV × AH) → Prop) → Prop := fun s52 L53 =>
 Do (alen true a0) fun x58 =>
 Do (abin .lss (sl s52.1 0) x58) fun x59 =>
 Gd3 x59 true (
 Do (aidxs a0 (sl s52.1 0)) fun x60 =>
 Do (aiaddr (some 256) 1 (.fptr asciiSpace) x60) fun x61 =>
 Do (aload s52.2 1 false x61) fun x62 =>
 Do (abin .neq x62 (.int .u8 0)) fun x63 =>
 JoinP (strings_Fields_k3 Φ x50 L39 s52 L53 Q) [x63] s52.2) (
 JoinP (strings_Fields_k3 Φ x50 L39 s52 L53 Q) [(.bool false)] s52.2) (
 False)
def strings_Fields_k5 (Φ : Calls') (x19 : AV) (Q : Post) : List AV → AH → Prop := fun j65 H66 =>
 DoH (afreeze H66 x19) fun x72 H73 =>
 Q x72 H73
def strings_Fields_k6 (Φ : Calls') (a0 : AV) (x19 : AV) (Q : Post) : List AV → AH → Prop := fun j36 H37 =>
 Do (alen true a0) fun x67 =>
 Do (abin .lss (sl j36 1) x67) fun x68 =>
 Gd x68 true (
 Do (asslice a0 (some (sl j36 1)) none) fun x69 =>
 Do (aiaddr none 1 x19 (sl j36 0)) fun x70 =>
 Do (astore H37 1 x70 x69) fun H71 =>
 JoinP (strings_Fields_k5 Φ x19 Q) [] H71) (
 JoinP (strings_Fields_k5 Φ x19 Q) [] H37)
def strings_Fields_l7 (Φ : Calls') (a0 : AV) (x19 : AV) (Q : Post) : (List AV × AH) → ((List AV × AH) → Prop) → Prop := fun s38 L39 =>
 Do (alen true a0) fun x40 =>
 Do (abin .lss (sl s38.1 2) x40) fun x41 =>
 Gd x41 true (
 Do (aidxs a0 (sl s38.1 2)) fun x42 =>
 Do (aiaddr (some 256) 1 (.fptr asciiSpace) x42) fun x43 =>
 Do (aload s38.2 1 false x43) fun x44 =>
 Do (abin .eql x44 (.int .u8 0)) fun x45 =>
 Gd x45 true (
 Do (abin .add (sl s38.1 2) (.int .i64 1)) fun x46 =>
 L39 ([(sl s38.1 0), (sl s38.1 1), x46], s38.2)) (
 Do (asslice a0 (some (sl s38.1 1)) (some (sl s38.1 2))) fun x47 =>
 Do (aiaddr none 1 x19 (sl s38.1 0)) fun x48 =>
 Do (astore s38.2 1 x48 x47) fun H49 =>
 Do (abin .add (sl s38.1 0) (.int .i64 1)) fun x50 =>
 Do (abin .add (sl s38.1 2) (.int .i64 1)) fun x51 =>
 LoopP (strings_Fields_l4 Φ a0 x50 L39 Q) ([x51], H49))) (
 JoinP (strings_Fields_k6 Φ a0 x19 Q) [(sl s38.1 0), (sl s38.1 1)] s38.2)
def strings_Fields_k8 (Φ : Calls') (a0 : AV) (x19 : AV) (Q : Post) : List AV → AH → Prop := fun j21 H22 =>
 LoopP (strings_Fields_l7 Φ a0 x19 Q) ([(.int .i64 0), (sl j21 0), (sl j21 0)], H22)
def strings_Fields_k9 (Φ : Calls') (a0 : AV) (x19 : AV) (s23 : List AV × AH) (L24 : (List AV × AH) → Prop) (Q : Post) : List AV → AH → Prop := fun j27 H28 =>
 Gd (sl j27 0) true (
 JoinP (strings_Fields_k1 Φ s23 L24 Q) [] H28) (
 JoinP (strings_Fields_k8 Φ a0 x19 Q) [(sl s23.1 0)] H28)
def strings_Fields_l10 (Φ : Calls') (a0 : AV) (x19 : AV) (Q : Post) : (List AV × AH) → ((List AV × AH) → Prop) → Prop := fun s23 L24 =>
 Do (alen true a0) fun x29 =>
 Do (abin .lss (sl s23.1 0) x29) fun x30 =>
 Gd3 x30 true (
 Do (aidxs a0 (sl s23.1 0)) fun x31 =>
 Do (aiaddr (some 256) 1 (.fptr asciiSpace) x31) fun x32 =>
 Do (aload s23.2 1 false x32) fun x33 =>
 Do (abin .neq x33 (.int .u8 0)) fun x34 =>
 JoinP (strings_Fields_k9 Φ a0 x19 s23 L24 Q) [x34] s23.2) (
 JoinP (strings_Fields_k9 Φ a0 x19 s23 L24 Q) [(.bool false)] s23.2) (
 False)
def strings_Fields_k11 (Φ : Calls') (a0 : AV) (Q : Post) : List AV → AH → Prop := fun j1 H2 =>
 Do (abin .geq (sl j1 1) (.int .u8 128)) fun x16 =>
 Gd x16 true (
Φ K.strings_FieldsFunc [a0, (.fn K.unicode_IsSpace [])] H2 fun x17 H18 =>
 Q x17 H18) (
 DoH (amake H2 true 1 16 [.str []] (sl j1 0) (sl j1 0)) fun x19 H20 =>
 LoopP (strings_Fields_l10 Φ a0 x19 Q) ([(.int .i64 0)], H20))
def strings_Fields_l12 (Φ : Calls') (a0 : AV) (Q : Post) : (List AV × AH) → ((List AV × AH) → Prop) → Prop := fun s3 L4 =>
 Do (alen true a0) fun x5 =>
 Do (abin .lss (sl s3.1 3) x5) fun x6 =>
 Gd x6 true (
 Do (aidxs a0 (sl s3.1 3)) fun x7 =>
 Do (abin .or (sl s3.1 2) x7) fun x8 =>
 Do (aiaddr (some 256) 1 (.fptr asciiSpace) x7) fun x9 =>
 Do (aload s3.2 1 false x9) fun x10 =>
 Do (aconv .i64 x10) fun x11 =>
 Do (aun .xor x11) fun x12 =>
 Do (abin .and (sl s3.1 1) x12) fun x13 =>
 Do (abin .add (sl s3.1 0) x13) fun x14 =>
 Do (abin .add (sl s3.1 3) (.int .i64 1)) fun x15 =>
 L4 ([x14, x11, x8, x15], s3.2)) (
 JoinP (strings_Fields_k11 Φ a0 Q) [(sl s3.1 0), (sl s3.1 2)] s3.2)
def strings_Fields (Φ : Calls') (a0 : AV) (H : AH) (Q : Post) : Prop :=
 LoopP (strings_Fields_l12 Φ a0 Q) ([(.int .i64 0), (.int .i64 1), (.int .u8 0), (.int .i64 0)], H)
def ir_strings_Fields : AFunc := ⟨106, [.tmp 2],
 .seq (.region [
   ⟨some 2, .mv (.k (.lst .nil 0 [])), none⟩])
 (.seq (.region [
   ⟨some 3, .mv (.k (.int .i64 0)), none⟩])
 (.seq (.region [
   ⟨some 4, .mv (.k (.int .i64 1)), none⟩])
 (.seq (.region [
   ⟨some 5, .mv (.k (.int .u8 0)), none⟩])
 (.join [3, 5] [4, 6, 7, 8, 13, 14, 15, 16, 17, 18, 19, 20, 21, 22, 23, 24, 25, 26, 27, 28, 29, 30, 31, 32, 33, 34, 35] (.seq (.region [
   ⟨some 6, .mv (.k (.int .i64 0)), none⟩])
 (.block 0 (.loop [3, 4, 5, 6] [7, 8, 13, 14, 15, 16, 17, 18, 19, 20, 21, 22, 23, 24, 25, 26, 27, 28, 29, 30, 31, 32, 33, 34, 35] (.seq (.seq (.region [
   ⟨some 13, .mv (.t 6), none⟩,
   ⟨some 14, .mv (.t 0), none⟩,
   ⟨some 15, .len true (.t 14), none⟩,
   ⟨some 16, .bin .lss (.t 13) (.t 15), none⟩])
 (.cond (.t 16) (.skip)
   (.exit 0)))
 (.seq (.block 1 (.seq (.region [
   ⟨some 19, .mv (.t 0), none⟩,
   ⟨some 20, .mv (.t 6), none⟩,
   ⟨some 21, .idxs (.t 19) (.t 20), none⟩,
   ⟨some 7, .mv (.t 21), none⟩])
 (.seq (.region [
   ⟨some 22, .mv (.t 5), none⟩,
   ⟨some 23, .mv (.t 7), none⟩,
   ⟨some 24, .bin .or (.t 22) (.t 23), none⟩,
   ⟨some 5, .mv (.t 24), none⟩])
 (.seq (.region [
   ⟨some 25, .mv (.t 7), none⟩,
   ⟨some 26, .iaddr (some 256) 1 (.k (.fptr asciiSpace)) (.t 25), none⟩,
   ⟨some 27, .load 1 false (.t 26), none⟩,
   ⟨some 28, .conv .i64 (.t 27), none⟩,
   ⟨some 8, .mv (.t 28), none⟩])
 (.seq (.region [
   ⟨some 29, .mv (.t 3), none⟩,
   ⟨some 30, .mv (.t 4), none⟩,
   ⟨some 31, .mv (.t 8), none⟩,
   ⟨some 32, .un .xor (.t 31), none⟩,
   ⟨some 33, .bin .and (.t 30) (.t 32), none⟩,
   ⟨some 34, .bin .add (.t 29) (.t 33), none⟩,
   ⟨some 3, .mv (.t 34), none⟩])
 (.region [
   ⟨some 35, .mv (.t 8), none⟩,
   ⟨some 4, .mv (.t 35), none⟩]))))))
 (.region [
   ⟨some 17, .mv (.t 6), none⟩,
   ⟨some 18, .bin .add (.t 17) (.k (.int .i64 1)), none⟩,
   ⟨some 6, .mv (.t 18), none⟩]))))))
 (.seq (.seq (.region [
   ⟨some 36, .mv (.t 5), none⟩,
   ⟨some 37, .bin .geq (.t 36) (.k (.int .u8 128)), none⟩])
 (.cond (.t 37) (.seq (.region [
     ⟨some 38, .mv (.t 0), none⟩,
     ⟨some 39, .call K.strings_FieldsFunc [(.t 38), (.k (.fn K.unicode_IsSpace []))], none⟩,
     ⟨some 2, .mv (.t 39), none⟩])
   (.ret))
   (.skip)))
 (.seq (.region [
   ⟨some 40, .mv (.t 3), none⟩,
   ⟨some 41, .make true 1 16 [.str []] (.t 40) (.t 40), none⟩,
   ⟨some 9, .mv (.t 41), none⟩])
 (.seq (.region [
   ⟨some 10, .mv (.k (.int .i64 0)), none⟩])
 (.seq (.region [
   ⟨some 11, .mv (.k (.int .i64 0)), none⟩])
 (.seq (.region [
   ⟨some 12, .mv (.k (.int .i64 0)), none⟩])
 (.join [12] [42, 43, 44, 45, 46, 47, 48, 49, 50, 51, 52, 53, 54, 55] (.block 2 (.loop [12] [42, 43, 44, 45, 46, 47, 48, 49, 50, 51, 52, 53, 54, 55] (.join [] [42, 43, 44, 45, 46, 47, 48, 49, 50, 51, 52, 53] (.join [53] [42, 43, 44, 45, 46, 47, 48, 49, 50, 51, 52] (.region [
   ⟨some 42, .mv (.t 12), none⟩,
   ⟨some 43, .mv (.t 0), none⟩,
   ⟨some 44, .len true (.t 43), none⟩,
   ⟨some 45, .bin .lss (.t 42) (.t 44), none⟩,
   ⟨some 46, .mv (.t 45), none⟩,
   ⟨some 47, .mv (.t 0), some (46, true)⟩,
   ⟨some 48, .mv (.t 12), some (46, true)⟩,
   ⟨some 49, .idxs (.t 47) (.t 48), some (46, true)⟩,
   ⟨some 50, .iaddr (some 256) 1 (.k (.fptr asciiSpace)) (.t 49), some (46, true)⟩,
   ⟨some 51, .load 1 false (.t 50), some (46, true)⟩,
   ⟨some 52, .bin .neq (.t 51) (.k (.int .u8 0)), some (46, true)⟩,
   ⟨some 53, .pick (.t 46) (.t 52) (.k (.bool false)), none⟩])
 (.cond (.t 53) (.skip)
   (.exit 2)))
 (.block 3 (.region [
   ⟨some 54, .mv (.t 12), none⟩,
   ⟨some 55, .bin .add (.t 54) (.k (.int .i64 1)), none⟩,
   ⟨some 12, .mv (.t 55), none⟩])))))
 (.seq (.region [
   ⟨some 56, .mv (.t 12), none⟩,
   ⟨some 11, .mv (.t 56), none⟩])
 (.join [10, 11] [12, 57, 58, 59, 60, 61, 62, 63, 64, 65, 66, 67, 68, 69, 70, 71, 72, 73, 74, 75, 76, 77, 78, 79, 80, 81, 82, 83, 84, 85, 86, 87, 88, 89, 90, 91, 92, 93, 94] (.block 4 (.loop [10, 11, 12] [57, 58, 59, 60, 61, 62, 63, 64, 65, 66, 67, 68, 69, 70, 71, 72, 73, 74, 75, 76, 77, 78, 79, 80, 81, 82, 83, 84, 85, 86, 87, 88, 89, 90, 91, 92, 93, 94] (.seq (.seq (.region [
   ⟨some 57, .mv (.t 12), none⟩,
   ⟨some 58, .mv (.t 0), none⟩,
   ⟨some 59, .len true (.t 58), none⟩,
   ⟨some 60, .bin .lss (.t 57) (.t 59), none⟩])
 (.cond (.t 60) (.skip)
   (.exit 4)))
 (.block 5 (.seq (.seq (.region [
   ⟨some 61, .mv (.t 0), none⟩,
   ⟨some 62, .mv (.t 12), none⟩,
   ⟨some 63, .idxs (.t 61) (.t 62), none⟩,
   ⟨some 64, .iaddr (some 256) 1 (.k (.fptr asciiSpace)) (.t 63), none⟩,
   ⟨some 65, .load 1 false (.t 64), none⟩,
   ⟨some 66, .bin .eql (.t 65) (.k (.int .u8 0)), none⟩])
 (.cond (.t 66) (.seq (.region [
     ⟨some 67, .mv (.t 12), none⟩,
     ⟨some 68, .bin .add (.t 67) (.k (.int .i64 1)), none⟩,
     ⟨some 12, .mv (.t 68), none⟩])
   (.exit 5))
   (.skip)))
 (.seq (.region [
   ⟨some 69, .mv (.t 9), none⟩,
   ⟨some 70, .mv (.t 10), none⟩,
   ⟨some 71, .mv (.t 0), none⟩,
   ⟨some 72, .mv (.t 11), none⟩,
   ⟨some 73, .mv (.t 12), none⟩,
   ⟨some 74, .sslice (.t 71) (some (.t 72)) (some (.t 73)), none⟩,
   ⟨some 75, .iaddr none 1 (.t 69) (.t 70), none⟩,
   ⟨none, .store 1 (.t 75) (.t 74), none⟩])
 (.seq (.region [
   ⟨some 76, .mv (.t 10), none⟩,
   ⟨some 77, .bin .add (.t 76) (.k (.int .i64 1)), none⟩,
   ⟨some 10, .mv (.t 77), none⟩])
 (.seq (.region [
   ⟨some 78, .mv (.t 12), none⟩,
   ⟨some 79, .bin .add (.t 78) (.k (.int .i64 1)), none⟩,
   ⟨some 12, .mv (.t 79), none⟩])
 (.seq (.block 6 (.loop [12] [80, 81, 82, 83, 84, 85, 86, 87, 88, 89, 90, 91, 92, 93] (.join [] [80, 81, 82, 83, 84, 85, 86, 87, 88, 89, 90, 91] (.join [91] [80, 81, 82, 83, 84, 85, 86, 87, 88, 89, 90] (.region [
   ⟨some 80, .mv (.t 12), none⟩,
   ⟨some 81, .mv (.t 0), none⟩,
   ⟨some 82, .len true (.t 81), none⟩,
   ⟨some 83, .bin .lss (.t 80) (.t 82), none⟩,
   ⟨some 84, .mv (.t 83), none⟩,
   ⟨some 85, .mv (.t 0), some (84, true)⟩,
   ⟨some 86, .mv (.t 12), some (84, true)⟩,
   ⟨some 87, .idxs (.t 85) (.t 86), some (84, true)⟩,
   ⟨some 88, .iaddr (some 256) 1 (.k (.fptr asciiSpace)) (.t 87), some (84, true)⟩,
   ⟨some 89, .load 1 false (.t 88), some (84, true)⟩,
   ⟨some 90, .bin .neq (.t 89) (.k (.int .u8 0)), some (84, true)⟩,
   ⟨some 91, .pick (.t 84) (.t 90) (.k (.bool false)), none⟩])
 (.cond (.t 91) (.skip)
   (.exit 6)))
 (.block 7 (.region [
   ⟨some 92, .mv (.t 12), none⟩,
   ⟨some 93, .bin .add (.t 92) (.k (.int .i64 1)), none⟩,
   ⟨some 12, .mv (.t 93), none⟩])))))
 (.region [
   ⟨some 94, .mv (.t 12), none⟩,
   ⟨some 11, .mv (.t 94), none⟩]))))))))))
 (.join [] [95, 96, 97, 98, 99, 100, 101, 102, 103, 104] (.seq (.region [
   ⟨some 95, .mv (.t 11), none⟩,
   ⟨some 96, .mv (.t 0), none⟩,
   ⟨some 97, .len true (.t 96), none⟩,
   ⟨some 98, .bin .lss (.t 95) (.t 97), none⟩])
 (.cond (.t 98) (.region [
     ⟨some 99, .mv (.t 9), none⟩,
     ⟨some 100, .mv (.t 10), none⟩,
     ⟨some 101, .mv (.t 0), none⟩,
     ⟨some 102, .mv (.t 11), none⟩,
     ⟨some 103, .sslice (.t 101) (some (.t 102)) none, none⟩,
     ⟨some 104, .iaddr none 1 (.t 99) (.t 100), none⟩,
     ⟨none, .store 1 (.t 104) (.t 103), none⟩])
   (.skip)))
 (.seq (.freeze 9 (.region [
   ⟨some 105, .mv (.t 9), none⟩,
   ⟨some 2, .mv (.t 105), none⟩]))
 (.ret)))))))))))))))⟩
theorem eq_strings_Fields (Φ : Calls') (a0 : AV) (H : AH) (Q : Post) : fnE1 Φ ir_strings_Fields [a0] H Q = strings_Fields Φ a0 H Q := by kernel_rfl

/-! strings.FieldsFunc -/
def strings_FieldsFunc_l1 (Φ : Calls') (a0 : AV) (x36 : AV) (x38 : AV) (j26 : List AV) (Q : Post) : (List AV × AH) → ((List AV × AH) → Prop) → Prop := fun s39 L40 =>
 Do (abin .lss (sl s39.1 0) x38) fun x41 =>
 Gd x41 true (
 Do (aiaddr none 2 (sl j26 0) (sl s39.1 0)) fun x42 =>
 Do (aload s39.2 2 true x42) fun x43 =>
 DoH (some (abox s39.2 true [.int .i64 0, .int .i64 0])) fun x44 H45 =>
 Do (astore H45 2 x44 x43) fun H46 =>
 Do (afaddr 0 x44) fun x47 =>
 Do (aload H46 1 false x47) fun x48 =>
 Do (afaddr 1 x44) fun x49 =>
 Do (aload H46 1 false x49) fun x50 =>
 Do (asslice a0 (some x48) (some x50)) fun x51 =>
 Do (aiaddr none 1 x36 (sl s39.1 0)) fun x52 =>
 Do (astore H46 1 x52 x51) fun H53 =>
 Do (abin .add (sl s39.1 0) (.int .i64 1)) fun x54 =>
 L40 ([x54], H53)) (
 Q x36 s39.2)
def strings_FieldsFunc_k2 (Φ : Calls') (a0 : AV) (Q : Post) : List AV → AH → Prop := fun j26 H27 =>
 Do (alen false (sl j26 0)) fun x35 =>
 DoH (amake H27 true 1 16 [.str []] x35 x35) fun x36 H37 =>
 Do (alen false (sl j26 0)) fun x38 =>
 LoopP (strings_FieldsFunc_l1 Φ a0 x36 x38 j26 Q) ([(.int .i64 0)], H37)
def strings_FieldsFunc_k3 (Φ : Calls') (a0 : AV) (Q : Post) : List AV → AH → Prop := fun j3 H4 =>
 Do (abin .geq (sl j3 1) (.int .i64 0)) fun x28 =>
 Gd x28 true (
 Do (alen true a0) fun x29 =>
 Do (abuild [.int .i64 0, .int .i64 0] [(0, 1, (sl j3 1)), (1, 1, x29)]) fun x30 =>
 DoH (abslice H4 false 2 1 [.int .i64 0, .int .i64 0] [(0, 2, x30)]) fun x31 H32 =>
 DoH (aappend H32 false 2 16 (sl j3 0) x31) fun x33 H34 =>
 JoinP (strings_FieldsFunc_k2 Φ a0 Q) [x33] H34) (
 JoinP (strings_FieldsFunc_k2 Φ a0 Q) [(sl j3 0)] H4)
def strings_FieldsFunc_l4 (Φ : Calls') (a0 : AV) (a1 : AV) (x5 : AV) (Q : Post) : (List AV × AH) → ((List AV × AH) → Prop) → Prop := fun s7 L8 =>
 DoH (asnext s7.2 x5) fun x9 H10 =>
 Do (aextract 0 x9) fun x11 =>
 Gd x11 true (
 Do (aextract 1 x9) fun x12 =>
 Do (aextract 2 x9) fun x13 =>
∃ k16 c17, a1 = .fn k16 c17 ∧ Φ k16 ([x13] ++ c17) H10 fun x14 H15 =>
 Gd x14 true (
 Do (abin .geq (sl s7.1 1) (.int .i64 0)) fun x18 =>
 Gd x18 true (
 Do (abuild [.int .i64 0, .int .i64 0] [(0, 1, (sl s7.1 1)), (1, 1, x12)]) fun x19 =>
 DoH (abslice H15 false 2 1 [.int .i64 0, .int .i64 0] [(0, 2, x19)]) fun x20 H21 =>
 DoH (aappend H21 false 2 16 (sl s7.1 0) x20) fun x22 H23 =>
 Do (aun .xor (sl s7.1 1)) fun x24 =>
 L8 ([x22, x24], H23)) (
 L8 ([(sl s7.1 0), (sl s7.1 1)], H15))) (
 Do (abin .lss (sl s7.1 1) (.int .i64 0)) fun x25 =>
 Gd x25 true (
 L8 ([(sl s7.1 0), x12], H15)) (
 L8 ([(sl s7.1 0), (sl s7.1 1)], H15)))) (
 JoinP (strings_FieldsFunc_k3 Φ a0 Q) [(sl s7.1 0), (sl s7.1 1)] H10)
def strings_FieldsFunc (Φ : Calls') (a0 : AV) (a1 : AV) (H : AH) (Q : Post) : Prop :=
 DoH (amake H true 2 16 [.int .i64 0, .int .i64 0] (.int .i64 0) (.int .i64 32)) fun x1 H2 =>
 DoH (asrange H2 a0) fun x5 H6 =>
 LoopP (strings_FieldsFunc_l4 Φ a0 a1 x5 Q) ([x1, (.int .i64 (-1))], H6)
def ir_strings_FieldsFunc : AFunc := ⟨65, [.tmp 4],
 .seq (.region [
   ⟨some 4, .mv (.k (.lst .nil 0 [])), none⟩])
 (.seq (.region [
   ⟨some 12, .make true 2 16 [.int .i64 0, .int .i64 0] (.k (.int .i64 0)) (.k (.int .i64 32)), none⟩,
   ⟨some 5, .mv (.t 12), none⟩])
 (.seq (.region [
   ⟨some 6, .mv (.k (.int .i64 (-1))), none⟩])
 (.join [5, 6] [7, 8, 13, 14, 15, 16, 17, 18, 19, 20, 21, 22, 23, 24, 25, 26, 27, 28, 29, 30, 31, 32, 33, 34] (.seq (.region [
   ⟨some 13, .mv (.t 0), none⟩,
   ⟨some 14, .srange (.t 13), none⟩])
 (.block 0 (.loop [5, 6] [7, 8, 15, 16, 17, 18, 19, 20, 21, 22, 23, 24, 25, 26, 27, 28, 29, 30, 31, 32, 33, 34] (.seq (.region [
   ⟨some 15, .snext (.t 14), none⟩,
   ⟨some 16, .extract 0 (.t 15), none⟩])
 (.seq (.cond (.t 16) (.skip)
   (.exit 0))
 (.block 1 (.seq (.region [
   ⟨some 17, .extract 1 (.t 15), none⟩,
   ⟨some 18, .extract 2 (.t 15), none⟩,
   ⟨some 7, .mv (.t 17), none⟩,
   ⟨some 8, .mv (.t 18), none⟩])
 (.seq (.region [
   ⟨some 19, .mv (.t 1), none⟩,
   ⟨some 20, .mv (.t 8), none⟩,
   ⟨some 21, .callv (.t 19) [(.t 20)], none⟩])
 (.cond (.t 21) (.seq (.region [
     ⟨some 22, .mv (.t 6), none⟩,
     ⟨some 23, .bin .geq (.t 22) (.k (.int .i64 0)), none⟩])
   (.cond (.t 23) (.seq (.region [
       ⟨some 24, .mv (.t 5), none⟩,
       ⟨some 25, .mv (.t 6), none⟩,
       ⟨some 26, .mv (.t 7), none⟩,
       ⟨some 27, .build [.int .i64 0, .int .i64 0] [(0, 1, (.t 25)), (1, 1, (.t 26))], none⟩,
       ⟨some 28, .bslice false 2 1 [.int .i64 0, .int .i64 0] [(0, 2, (.t 27))], none⟩,
       ⟨some 29, .append false 2 16 (.t 24) (.t 28), none⟩,
       ⟨some 5, .mv (.t 29), none⟩])
     (.region [
       ⟨some 30, .mv (.t 6), none⟩,
       ⟨some 31, .un .xor (.t 30), none⟩,
       ⟨some 6, .mv (.t 31), none⟩]))
     (.skip)))
   (.seq (.region [
     ⟨some 32, .mv (.t 6), none⟩,
     ⟨some 33, .bin .lss (.t 32) (.k (.int .i64 0)), none⟩])
   (.cond (.t 33) (.region [
       ⟨some 34, .mv (.t 7), none⟩,
       ⟨some 6, .mv (.t 34), none⟩])
     (.skip))))))))))))
 (.join [5] [35, 36, 37, 38, 39, 40, 41, 42, 43] (.seq (.region [
   ⟨some 35, .mv (.t 6), none⟩,
   ⟨some 36, .bin .geq (.t 35) (.k (.int .i64 0)), none⟩])
 (.cond (.t 36) (.region [
     ⟨some 37, .mv (.t 5), none⟩,
     ⟨some 38, .mv (.t 6), none⟩,
     ⟨some 39, .mv (.t 0), none⟩,
     ⟨some 40, .len true (.t 39), none⟩,
     ⟨some 41, .build [.int .i64 0, .int .i64 0] [(0, 1, (.t 38)), (1, 1, (.t 40))], none⟩,
     ⟨some 42, .bslice false 2 1 [.int .i64 0, .int .i64 0] [(0, 2, (.t 41))], none⟩,
     ⟨some 43, .append false 2 16 (.t 37) (.t 42), none⟩,
     ⟨some 5, .mv (.t 43), none⟩])
   (.skip)))
 (.seq (.region [
   ⟨some 44, .mv (.t 5), none⟩,
   ⟨some 45, .len false (.t 44), none⟩,
   ⟨some 46, .make true 1 16 [.str []] (.t 45) (.t 45), none⟩,
   ⟨some 9, .mv (.t 46), none⟩])
 (.seq (.seq (.region [
   ⟨some 47, .mv (.t 5), none⟩,
   ⟨some 48, .len false (.t 47), none⟩,
   ⟨some 49, .mv (.k (.int .i64 0)), none⟩])
 (.block 2 (.loop [49] [10, 11, 50, 51, 52, 53, 54, 55, 56, 57, 58, 59, 60, 61, 62, 63] (.seq (.region [
   ⟨some 50, .bin .lss (.t 49) (.t 48), none⟩])
 (.seq (.cond (.t 50) (.skip)
   (.exit 2))
 (.seq (.block 3 (.seq (.region [
   ⟨some 51, .mv (.t 49), none⟩,
   ⟨some 52, .iaddr none 2 (.t 47) (.t 49), none⟩,
   ⟨some 53, .load 2 true (.t 52), none⟩,
   ⟨some 11, .alloc true [.int .i64 0, .int .i64 0], none⟩,
   ⟨some 10, .mv (.t 51), none⟩,
   ⟨none, .store 2 (.t 11) (.t 53), none⟩])
 (.region [
   ⟨some 54, .mv (.t 9), none⟩,
   ⟨some 55, .mv (.t 10), none⟩,
   ⟨some 56, .mv (.t 0), none⟩,
   ⟨some 57, .faddr 0 (.t 11), none⟩,
   ⟨some 58, .load 1 false (.t 57), none⟩,
   ⟨some 59, .faddr 1 (.t 11), none⟩,
   ⟨some 60, .load 1 false (.t 59), none⟩,
   ⟨some 61, .sslice (.t 56) (some (.t 58)) (some (.t 60)), none⟩,
   ⟨some 62, .iaddr none 1 (.t 54) (.t 55), none⟩,
   ⟨none, .store 1 (.t 62) (.t 61), none⟩])))
 (.region [
   ⟨some 63, .bin .add (.t 49) (.k (.int .i64 1)), none⟩,
   ⟨some 49, .mv (.t 63), none⟩])))))))
 (.seq (.region [
   ⟨some 64, .mv (.t 9), none⟩,
   ⟨some 4, .mv (.t 64), none⟩])
 (.ret))))))))⟩
theorem eq_strings_FieldsFunc (Φ : Calls') (a0 a1 : AV) (H : AH) (Q : Post) : fnE1 Φ ir_strings_FieldsFunc [a0, a1] H Q = strings_FieldsFunc Φ a0 a1 H Q := by kernel_rfl

def tab_libstrings : Tab := [
  (K.strings_Fields, ir_strings_Fields),
  (K.strings_FieldsFunc, ir_strings_FieldsFunc)]

theorem cl_strings_Fields {Φ : Calls'} (hT : Cl Φ tab_libstrings) {a0 : AV} {H : AH} {Q : Post} (h : strings_Fields Φ a0 H Q) : Φ K.strings_Fields [a0] H Q := hT.call (by kernel_rfl) (by kernel_rfl) (by rw [eq_strings_Fields]; exact h)
theorem cl_strings_FieldsFunc {Φ : Calls'} (hT : Cl Φ tab_libstrings) {a0 a1 : AV} {H : AH} {Q : Post} (h : strings_FieldsFunc Φ a0 a1 H Q) : Φ K.strings_FieldsFunc [a0, a1] H Q := hT.call (by kernel_rfl) (by kernel_rfl) (by rw [eq_strings_FieldsFunc]; exact h)
end Rb.S

/- Package libstrings: its functions as runs. By gen.py. -/
set_option linter.unusedVariables false
namespace Rb.R
open Go

def strings_Fields_k1 (Φ : CallsB) (n : Nat) (s24 : List AV × TH) (L25 : (List AV × TH) → Bool) (Q : PostB) : List AV → TH → Bool := fun j26 H27 =>
 DoB (abin .add (sl s24.1 0) (.int .i64 1)) fun x37 =>
 L25 ([x37], H27)
def strings_Fields_k2 (Φ : CallsB) (n : Nat) (s56 : List AV × TH) (L57 : (List AV × TH) → Bool) (Q : PostB) : List AV → TH → Bool := fun j58 H59 =>
 DoB (abin .add (sl s56.1 0) (.int .i64 1)) fun x69 =>
 L57 ([x69], H59)
def strings_Fields_k3 (Φ : CallsB) (n : Nat) (x54 : AV) (L41 : (List AV × TH) → Bool) (s56 : List AV × TH) (L57 : (List AV × TH) → Bool) (Q : PostB) : List AV → TH → Bool := fun j60 H61 =>
 GdB (sl j60 0) true (
 JoinB (strings_Fields_k2 Φ n s56 L57 Q) [] H61) (
 L41 ([x54, (sl s56.1 0), (sl s56.1 0)], H61))
def strings_Fields_l4 (Φ : CallsB) (n : Nat) (a0 : AV) (x54 : AV) (L41 : (List AV × TH) → Bool) (Q : PostB) : (List AV × TH) → ((List AV × TH) → Bool) → Bool := fun s56 L57 =>
 DoB (alen true a0) fun x62 =>
 DoB (abin .lss (sl s56.1 0) x62) fun x63 =>
 Gd3B x63 true (
 DoB (aidxs a0 (sl s56.1 0)) fun x64 =>
 DoB (aiaddr (some 256) 1 (.fptr asciiSpace) x64) fun x65 =>
 DoB (aload s56.2.ah 1 false x65) fun x66 =>
 DoB (abin .neq x66 (.int .u8 0)) fun x68 =>
 JoinB (strings_Fields_k3 Φ n x54 L41 s56 L57 Q) [x68] s56.2) (
 JoinB (strings_Fields_k3 Φ n x54 L41 s56 L57 Q) [(.bool false)] s56.2) (
 false)
def strings_Fields_k5 (Φ : CallsB) (n : Nat) (x20 : AV) (Q : PostB) : List AV → TH → Bool := fun j70 H71 =>
 DoHB (tfreeze H71 x20) fun x78 H79 =>
 Q x78 H79
def strings_Fields_k6 (Φ : CallsB) (n : Nat) (a0 : AV) (x20 : AV) (Q : PostB) : List AV → TH → Bool := fun j38 H39 =>
 DoB (alen true a0) fun x72 =>
 DoB (abin .lss (sl j38 1) x72) fun x73 =>
 GdB x73 true (
 DoB (asslice a0 (some (sl j38 1)) none) fun x74 =>
 DoB (aiaddr none 1 x20 (sl j38 0)) fun x75 =>
 DoB (tstore H39 1 x75 x74) fun H77 =>
 JoinB (strings_Fields_k5 Φ n x20 Q) [] H77) (
 JoinB (strings_Fields_k5 Φ n x20 Q) [] H39)
def strings_Fields_l7 (Φ : CallsB) (n : Nat) (a0 : AV) (x20 : AV) (Q : PostB) : (List AV × TH) → ((List AV × TH) → Bool) → Bool := fun s40 L41 =>
 DoB (alen true a0) fun x42 =>
 DoB (abin .lss (sl s40.1 2) x42) fun x43 =>
 GdB x43 true (
 DoB (aidxs a0 (sl s40.1 2)) fun x44 =>
 DoB (aiaddr (some 256) 1 (.fptr asciiSpace) x44) fun x45 =>
 DoB (aload s40.2.ah 1 false x45) fun x46 =>
 DoB (abin .eql x46 (.int .u8 0)) fun x48 =>
 GdB x48 true (
 DoB (abin .add (sl s40.1 2) (.int .i64 1)) fun x49 =>
 L41 ([(sl s40.1 0), (sl s40.1 1), x49], s40.2)) (
 DoB (asslice a0 (some (sl s40.1 1)) (some (sl s40.1 2))) fun x50 =>
 DoB (aiaddr none 1 x20 (sl s40.1 0)) fun x51 =>
 DoB (tstore s40.2 1 x51 x50) fun H53 =>
 DoB (abin .add (sl s40.1 0) (.int .i64 1)) fun x54 =>
 DoB (abin .add (sl s40.1 2) (.int .i64 1)) fun x55 =>
 LoopB (strings_Fields_l4 Φ n a0 x54 L41 Q) n ([x55], H53))) (
 JoinB (strings_Fields_k6 Φ n a0 x20 Q) [(sl s40.1 0), (sl s40.1 1)] s40.2)
def strings_Fields_k8 (Φ : CallsB) (n : Nat) (a0 : AV) (x20 : AV) (Q : PostB) : List AV → TH → Bool := fun j22 H23 =>
 LoopB (strings_Fields_l7 Φ n a0 x20 Q) n ([(.int .i64 0), (sl j22 0), (sl j22 0)], H23)
def strings_Fields_k9 (Φ : CallsB) (n : Nat) (a0 : AV) (x20 : AV) (s24 : List AV × TH) (L25 : (List AV × TH) → Bool) (Q : PostB) : List AV → TH → Bool := fun j28 H29 =>
 GdB (sl j28 0) true (
 JoinB (strings_Fields_k1 Φ n s24 L25 Q) [] H29) (
 JoinB (strings_Fields_k8 Φ n a0 x20 Q) [(sl s24.1 0)] H29)
def strings_Fields_l10 (Φ : CallsB) (n : Nat) (a0 : AV) (x20 : AV) (Q : PostB) : (List AV × TH) → ((List AV × TH) → Bool) → Bool := fun s24 L25 =>
 DoB (alen true a0) fun x30 =>
 DoB (abin .lss (sl s24.1 0) x30) fun x31 =>
 Gd3B x31 true (
 DoB (aidxs a0 (sl s24.1 0)) fun x32 =>
 DoB (aiaddr (some 256) 1 (.fptr asciiSpace) x32) fun x33 =>
 DoB (aload s24.2.ah 1 false x33) fun x34 =>
 DoB (abin .neq x34 (.int .u8 0)) fun x36 =>
 JoinB (strings_Fields_k9 Φ n a0 x20 s24 L25 Q) [x36] s24.2) (
 JoinB (strings_Fields_k9 Φ n a0 x20 s24 L25 Q) [(.bool false)] s24.2) (
 false)
def strings_Fields_k11 (Φ : CallsB) (n : Nat) (a0 : AV) (Q : PostB) : List AV → TH → Bool := fun j1 H2 =>
 DoB (abin .geq (sl j1 1) (.int .u8 128)) fun x17 =>
 GdB x17 true (
Φ K.strings_FieldsFunc [a0, (.fn K.unicode_IsSpace [])] H2 fun x18 H19 =>
 Q x18 H19) (
 DoHB (tmake H2 true 1 16 [.str []] (sl j1 0) (sl j1 0)) fun x20 H21 =>
 LoopB (strings_Fields_l10 Φ n a0 x20 Q) n ([(.int .i64 0)], H21))
def strings_Fields_l12 (Φ : CallsB) (n : Nat) (a0 : AV) (Q : PostB) : (List AV × TH) → ((List AV × TH) → Bool) → Bool := fun s3 L4 =>
 DoB (alen true a0) fun x5 =>
 DoB (abin .lss (sl s3.1 3) x5) fun x6 =>
 GdB x6 true (
 DoB (aidxs a0 (sl s3.1 3)) fun x7 =>
 DoB (abin .or (sl s3.1 2) x7) fun x8 =>
 DoB (aiaddr (some 256) 1 (.fptr asciiSpace) x7) fun x9 =>
 DoB (aload s3.2.ah 1 false x9) fun x10 =>
 DoB (aconv .i64 x10) fun x12 =>
 DoB (aun .xor x12) fun x13 =>
 DoB (abin .and (sl s3.1 1) x13) fun x14 =>
 DoB (abin .add (sl s3.1 0) x14) fun x15 =>
 DoB (abin .add (sl s3.1 3) (.int .i64 1)) fun x16 =>
 L4 ([x15, x12, x8, x16], s3.2)) (
 JoinB (strings_Fields_k11 Φ n a0 Q) [(sl s3.1 0), (sl s3.1 2)] s3.2)
def strings_Fields (Φ : CallsB) (n : Nat) (a0 : AV) (H : TH) (Q : PostB) : Bool :=
 LoopB (strings_Fields_l12 Φ n a0 Q) n ([(.int .i64 0), (.int .i64 1), (.int .u8 0), (.int .i64 0)], H)
theorem eq_strings_Fields (Φ : CallsB) (n : Nat) (a0 : AV) (H : TH) (Q : PostB) : fnB1 Φ n S.ir_strings_Fields [a0] H Q = strings_Fields Φ n a0 H Q := by kernel_rfl

def strings_FieldsFunc_l1 (Φ : CallsB) (n : Nat) (a0 : AV) (x36 : AV) (x38 : AV) (j26 : List AV) (Q : PostB) : (List AV × TH) → ((List AV × TH) → Bool) → Bool := fun s39 L40 =>
 DoB (abin .lss (sl s39.1 0) x38) fun x41 =>
 GdB x41 true (
 DoB (aiaddr none 2 (sl j26 0) (sl s39.1 0)) fun x42 =>
 DoB (aload s39.2.ah 2 true x42) fun x43 =>
 DoHB (some (tbox s39.2 true [.int .i64 0, .int .i64 0])) fun x45 H46 =>
 DoB (tstore H46 2 x45 x43) fun H48 =>
 DoB (afaddr 0 x45) fun x49 =>
 DoB (aload H48.ah 1 false x49) fun x50 =>
 DoB (afaddr 1 x45) fun x52 =>
 DoB (aload H48.ah 1 false x52) fun x53 =>
 DoB (asslice a0 (some x50) (some x53)) fun x55 =>
 DoB (aiaddr none 1 x36 (sl s39.1 0)) fun x56 =>
 DoB (tstore H48 1 x56 x55) fun H58 =>
 DoB (abin .add (sl s39.1 0) (.int .i64 1)) fun x59 =>
 L40 ([x59], H58)) (
 Q x36 s39.2)
def strings_FieldsFunc_k2 (Φ : CallsB) (n : Nat) (a0 : AV) (Q : PostB) : List AV → TH → Bool := fun j26 H27 =>
 DoB (alen false (sl j26 0)) fun x35 =>
 DoHB (tmake H27 true 1 16 [.str []] x35 x35) fun x36 H37 =>
 DoB (alen false (sl j26 0)) fun x38 =>
 LoopB (strings_FieldsFunc_l1 Φ n a0 x36 x38 j26 Q) n ([(.int .i64 0)], H37)
def strings_FieldsFunc_k3 (Φ : CallsB) (n : Nat) (a0 : AV) (Q : PostB) : List AV → TH → Bool := fun j3 H4 =>
 DoB (abin .geq (sl j3 1) (.int .i64 0)) fun x28 =>
 GdB x28 true (
 DoB (alen true a0) fun x29 =>
 DoB (abuild [.int .i64 0, .int .i64 0] [(0, 1, (sl j3 1)), (1, 1, x29)]) fun x30 =>
 DoHB (tbslice H4 false 2 1 [.int .i64 0, .int .i64 0] [(0, 2, x30)]) fun x31 H32 =>
 DoHB (tappend H32 false 2 16 (sl j3 0) x31) fun x33 H34 =>
 JoinB (strings_FieldsFunc_k2 Φ n a0 Q) [x33] H34) (
 JoinB (strings_FieldsFunc_k2 Φ n a0 Q) [(sl j3 0)] H4)
def strings_FieldsFunc_l4 (Φ : CallsB) (n : Nat) (a0 : AV) (a1 : AV) (x5 : AV) (Q : PostB) : (List AV × TH) → ((List AV × TH) → Bool) → Bool := fun s7 L8 =>
 DoHB (tsnext s7.2 x5) fun x9 H10 =>
 DoB (aextract 0 x9) fun x11 =>
 GdB x11 true (
 DoB (aextract 1 x9) fun x12 =>
 DoB (aextract 2 x9) fun x13 =>
 clB Φ a1 [x13] H10 fun x14 H15 =>
 GdB x14 true (
 DoB (abin .geq (sl s7.1 1) (.int .i64 0)) fun x18 =>
 GdB x18 true (
 DoB (abuild [.int .i64 0, .int .i64 0] [(0, 1, (sl s7.1 1)), (1, 1, x12)]) fun x19 =>
 DoHB (tbslice H15 false 2 1 [.int .i64 0, .int .i64 0] [(0, 2, x19)]) fun x20 H21 =>
 DoHB (tappend H21 false 2 16 (sl s7.1 0) x20) fun x22 H23 =>
 DoB (aun .xor (sl s7.1 1)) fun x24 =>
 L8 ([x22, x24], H23)) (
 L8 ([(sl s7.1 0), (sl s7.1 1)], H15))) (
 DoB (abin .lss (sl s7.1 1) (.int .i64 0)) fun x25 =>
 GdB x25 true (
 L8 ([(sl s7.1 0), x12], H15)) (
 L8 ([(sl s7.1 0), (sl s7.1 1)], H15)))) (
 JoinB (strings_FieldsFunc_k3 Φ n a0 Q) [(sl s7.1 0), (sl s7.1 1)] H10)
def strings_FieldsFunc (Φ : CallsB) (n : Nat) (a0 : AV) (a1 : AV) (H : TH) (Q : PostB) : Bool :=
 DoHB (tmake H true 2 16 [.int .i64 0, .int .i64 0] (.int .i64 0) (.int .i64 32)) fun x1 H2 =>
 DoHB (tsrange H2 a0) fun x5 H6 =>
 LoopB (strings_FieldsFunc_l4 Φ n a0 a1 x5 Q) n ([x1, (.int .i64 (-1))], H6)
theorem eq_strings_FieldsFunc (Φ : CallsB) (n : Nat) (a0 a1 : AV) (H : TH) (Q : PostB) : fnB1 Φ n S.ir_strings_FieldsFunc [a0, a1] H Q = strings_FieldsFunc Φ n a0 a1 H Q := by kernel_rfl

end Rb.R
