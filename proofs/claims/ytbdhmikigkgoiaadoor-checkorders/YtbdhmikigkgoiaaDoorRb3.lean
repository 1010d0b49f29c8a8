/- A part of the proof (part 3): see the last text. -/
import Derived.Test.YtbdhmikigkgoiaaDoorRb2
import Derived.KernelRfl
/- Package check: its functions in the small language, and what they mean. By gen.py. -/
set_option linter.unusedVariables false
namespace Rb.S
open Go

/-! rabbet/check.Place -/
def check_Place_k1 (Φ : Calls') (x3 : AV) (x14 : AV) (Q : Post) : List AV → AH → Prop := fun j24 H25 =>
 Do (aload H25 6 true x14) fun x53 =>
 Do (astore H25 6 x3 x53) fun H54 =>
 Do (aload H54 6 true x3) fun x55 =>
 Q (.tup [x55, (.int .i64 0)]) H54
def check_Place_l2 (Φ : Calls') (x3 : AV) (x14 : AV) (x27 : AV) (x28 : AV) (Q : Post) : (List AV × AH) → ((List AV × AH) → Prop) → Prop := fun s29 L30 =>
 Do (abin .lss (sl s29.1 0) x28) fun x31 =>
 Gd x31 true (
 Do (aiaddr none 2 x27 (sl s29.1 0)) fun x32 =>
 Do (aload s29.2 2 true x32) fun x33 =>
 DoH (some (abox s29.2 true [.str [], .lst .nil 0 []])) fun x34 H35 =>
 Do (astore H35 2 x34 x33) fun H36 =>
 Do (aload H36 6 true x14) fun x37 =>
 Do (aload H36 2 true x34) fun x38 =>
Φ K.check_part [x37, x38] H36 fun x39 H40 =>
 Do (aextract 0 x39) fun x41 =>
 Do (aextract 1 x39) fun x42 =>
 DoH (some (abox H40 true [.int .i64 0, .int .i64 0, .bool false, .lst .nil 0 [], .int .i64 0, .lst .nil 0 []])) fun x43 H44 =>
 Do (astore H44 6 x43 x41) fun H45 =>
 Do (abin .neq x42 (.int .i64 0)) fun x46 =>
 Gd x46 true (
 Do (abuild [.int .i64 0, .int .i64 0, .bool false, .lst .nil 0 [], .int .i64 0, .lst .nil 0 []] []) fun x47 =>
 Do (astore H45 6 x3 x47) fun H48 =>
 Do (aload H48 6 true x3) fun x49 =>
 Q (.tup [x49, x42]) H48) (
 Do (aload H45 6 true x43) fun x50 =>
 Do (astore H45 6 x14 x50) fun H51 =>
 Do (abin .add (sl s29.1 0) (.int .i64 1)) fun x52 =>
 L30 ([x52], H51))) (
 JoinP (check_Place_k1 Φ x3 x14 Q) [] s29.2)
def check_Place (Φ : Calls') (a0 : AV) (a1 : AV) (H : AH) (Q : Post) : Prop :=
 DoH (aboxv H true 2 a1) fun x1 H2 =>
 DoH (some (abox H2 true [.int .i64 0, .int .i64 0, .bool false, .lst .nil 0 [], .int .i64 0, .lst .nil 0 []])) fun x3 H4 =>
Φ K.slices_IndexFunc___api_Var_api_Var_ [a0, (.fn K.check_Place_c1 [x1])] H4 fun x5 H6 =>
 Do (abin .lss x5 (.int .i64 0)) fun x7 =>
 Gd x7 true (
 Do (abuild [.int .i64 0, .int .i64 0, .bool false, .lst .nil 0 [], .int .i64 0, .lst .nil 0 []] []) fun x8 =>
 Do (astore H6 6 x3 x8) fun H9 =>
 Do (aload H9 6 true x3) fun x10 =>
 Q (.tup [x10, (.int .i64 6)]) H9) (
 Do (aiaddr none 7 a0 x5) fun x11 =>
 Do (afaddr 1 x11) fun x12 =>
 Do (aload H6 6 true x12) fun x13 =>
 DoH (some (abox H6 true [.int .i64 0, .int .i64 0, .bool false, .lst .nil 0 [], .int .i64 0, .lst .nil 0 []])) fun x14 H15 =>
 Do (astore H15 6 x14 x13) fun H16 =>
 Do (aload H16 6 true x14) fun x17 =>
Φ K.kind_Sound [x17] H16 fun x18 H19 =>
 Do (abin .neq x18 (.int .i64 0)) fun x20 =>
 Gd x20 true (
 Do (abuild [.int .i64 0, .int .i64 0, .bool false, .lst .nil 0 [], .int .i64 0, .lst .nil 0 []] []) fun x21 =>
 Do (astore H19 6 x3 x21) fun H22 =>
 Do (aload H22 6 true x3) fun x23 =>
 Q (.tup [x23, x18]) H22) (
 Do (afaddr 1 x1) fun x26 =>
 Do (aload H19 1 false x26) fun x27 =>
 Do (alen false x27) fun x28 =>
 LoopP (check_Place_l2 Φ x3 x14 x27 x28 Q) ([(.int .i64 0)], H19)))
def ir_check_Place : AFunc := ⟨50, [.cell 4 6 true, .tmp 5],
 .seq (.region [
   ⟨some 3, .box true 2 (.t 1), none⟩,
   ⟨some 4, .alloc true [.int .i64 0, .int .i64 0, .bool false, .lst .nil 0 [], .int .i64 0, .lst .nil 0 []], none⟩,
   ⟨some 5, .mv (.k (.int .i64 0)), none⟩])
 (.seq (.region [
   ⟨some 13, .mv (.t 0), none⟩,
   ⟨some 14, .mkfn K.check_Place_c1 [(.t 3)], none⟩,
   ⟨some 15, .call K.slices_IndexFunc___api_Var_api_Var_ [(.t 13), (.t 14)], none⟩,
   ⟨some 6, .mv (.t 15), none⟩])
 (.seq (.seq (.region [
   ⟨some 16, .mv (.t 6), none⟩,
   ⟨some 17, .bin .lss (.t 16) (.k (.int .i64 0)), none⟩])
 (.cond (.t 17) (.seq (.region [
     ⟨some 18, .build [.int .i64 0, .int .i64 0, .bool false, .lst .nil 0 [], .int .i64 0, .lst .nil 0 []] [], none⟩,
     ⟨none, .store 6 (.t 4) (.t 18), none⟩,
     ⟨some 5, .mv (.k (.int .i64 6)), none⟩])
   (.ret))
   (.skip)))
 (.seq (.region [
   ⟨some 19, .mv (.t 0), none⟩,
   ⟨some 20, .mv (.t 6), none⟩,
   ⟨some 21, .iaddr none 7 (.t 19) (.t 20), none⟩,
   ⟨some 22, .faddr 1 (.t 21), none⟩,
   ⟨some 23, .load 6 true (.t 22), none⟩,
   ⟨some 7, .alloc true [.int .i64 0, .int .i64 0, .bool false, .lst .nil 0 [], .int .i64 0, .lst .nil 0 []], none⟩,
   ⟨none, .store 6 (.t 7) (.t 23), none⟩])
 (.seq (.seq (.region [
   ⟨some 24, .load 6 true (.t 7), none⟩,
   ⟨some 25, .call K.kind_Sound [(.t 24)], none⟩,
   ⟨some 8, .mv (.t 25), none⟩])
 (.seq (.region [
   ⟨some 26, .mv (.t 8), none⟩,
   ⟨some 27, .bin .neq (.t 26) (.k (.int .i64 0)), none⟩])
 (.cond (.t 27) (.seq (.region [
     ⟨some 28, .build [.int .i64 0, .int .i64 0, .bool false, .lst .nil 0 [], .int .i64 0, .lst .nil 0 []] [], none⟩,
     ⟨some 29, .mv (.t 8), none⟩,
     ⟨none, .store 6 (.t 4) (.t 28), none⟩,
     ⟨some 5, .mv (.t 29), none⟩])
   (.ret))
   (.skip))))
 (.join [] [5, 10, 11, 12, 30, 31, 32, 33, 34, 35, 36, 37, 38, 39, 40, 41, 42, 43, 44, 45, 46, 47, 48] (.seq (.region [
   ⟨some 30, .faddr 1 (.t 3), none⟩,
   ⟨some 31, .load 1 false (.t 30), none⟩,
   ⟨some 32, .len false (.t 31), none⟩,
   ⟨some 33, .mv (.k (.int .i64 0)), none⟩])
 (.block 0 (.loop [33] [5, 10, 11, 12, 34, 35, 36, 37, 38, 39, 40, 41, 42, 43, 44, 45, 46, 47, 48] (.seq (.region [
   ⟨some 34, .bin .lss (.t 33) (.t 32), none⟩])
 (.seq (.cond (.t 34) (.skip)
   (.exit 0))
 (.seq (.block 1 (.seq (.region [
   ⟨some 35, .iaddr none 2 (.t 31) (.t 33), none⟩,
   ⟨some 36, .load 2 true (.t 35), none⟩,
   ⟨some 10, .alloc true [.str [], .lst .nil 0 []], none⟩,
   ⟨none, .store 2 (.t 10) (.t 36), none⟩])
 (.seq (.region [
   ⟨some 38, .load 6 true (.t 7), none⟩,
   ⟨some 39, .load 2 true (.t 10), none⟩,
   ⟨some 40, .call K.check_part [(.t 38), (.t 39)], none⟩,
   ⟨some 37, .mv (.t 40), none⟩,
   ⟨some 41, .extract 0 (.t 37), none⟩,
   ⟨some 42, .extract 1 (.t 37), none⟩,
   ⟨some 11, .alloc true [.int .i64 0, .int .i64 0, .bool false, .lst .nil 0 [], .int .i64 0, .lst .nil 0 []], none⟩,
   ⟨none, .store 6 (.t 11) (.t 41), none⟩,
   ⟨some 12, .mv (.t 42), none⟩])
 (.seq (.seq (.region [
   ⟨some 43, .mv (.t 12), none⟩,
   ⟨some 44, .bin .neq (.t 43) (.k (.int .i64 0)), none⟩])
 (.cond (.t 44) (.seq (.region [
     ⟨some 45, .build [.int .i64 0, .int .i64 0, .bool false, .lst .nil 0 [], .int .i64 0, .lst .nil 0 []] [], none⟩,
     ⟨some 46, .mv (.t 12), none⟩,
     ⟨none, .store 6 (.t 4) (.t 45), none⟩,
     ⟨some 5, .mv (.t 46), none⟩])
   (.ret))
   (.skip)))
 (.region [
   ⟨some 47, .load 6 true (.t 11), none⟩,
   ⟨none, .store 6 (.t 7) (.t 47), none⟩])))))
 (.region [
   ⟨some 48, .bin .add (.t 33) (.k (.int .i64 1)), none⟩,
   ⟨some 33, .mv (.t 48), none⟩])))))))
 (.seq (.region [
   ⟨some 49, .load 6 true (.t 7), none⟩,
   ⟨none, .store 6 (.t 4) (.t 49), none⟩,
   ⟨some 5, .mv (.k (.int .i64 0)), none⟩])
 (.ret)))))))⟩
theorem eq_check_Place (Φ : Calls') (a0 a1 : AV) (H : AH) (Q : Post) : fnE1 Φ ir_check_Place [a0, a1] H Q = check_Place Φ a0 a1 H Q := by kernel_rfl

/-! rabbet/check.Order -/
def check_Order_k1 (Φ : Calls') (a1 : AV) (Q : Post) : List AV → AH → Prop := fun j6 H7 =>
 Gd3 (sl j6 0) false (
 Do (abin .eql a1 (.int .i64 4)) fun x10 =>
 Q x10 H7) (
 Q (.bool true) H7) (
 False)
def check_Order_k2 (Φ : Calls') (a1 : AV) (Q : Post) : List AV → AH → Prop := fun j14 H15 =>
 Gd3 (sl j14 0) false (
 Do (abin .eql a1 (.int .i64 4)) fun x18 =>
 Q x18 H15) (
 Q (.bool true) H15) (
 False)
def check_Order_k3 (Φ : Calls') (a1 : AV) (Q : Post) : List AV → AH → Prop := fun j1 H2 =>
 Do (abin .eql a1 (.int .i64 0)) fun x27 =>
 Q x27 H2
def check_Order_k4 (Φ : Calls') (a0 : AV) (a1 : AV) (Q : Post) : List AV → AH → Prop := fun j19 H20 =>
 Gd (sl j19 0) true (
 Do (abin .geq a1 (.int .i64 1)) fun x22 =>
 Gd3 x22 true (
 Do (abin .leq a1 (.int .i64 4)) fun x23 =>
 Q x23 H20) (
 Q (.bool false) H20) (
 False)) (
 Do (abin .eql a0 (.int .i64 7)) fun x24 =>
 Gd x24 true (
 Do (abin .geq a1 (.int .i64 2)) fun x25 =>
 Gd3 x25 true (
 Do (abin .leq a1 (.int .i64 4)) fun x26 =>
 Q x26 H20) (
 Q (.bool false) H20) (
 False)) (
 JoinP (check_Order_k3 Φ a1 Q) [] H20))
def check_Order_k5 (Φ : Calls') (a0 : AV) (a1 : AV) (Q : Post) : List AV → AH → Prop := fun j11 H12 =>
 Gd (sl j11 0) true (
 Do (abin .eql a1 (.int .i64 1)) fun x16 =>
 Gd3 x16 false (
 Do (abin .eql a1 (.int .i64 2)) fun x17 =>
 JoinP (check_Order_k2 Φ a1 Q) [x17] H12) (
 JoinP (check_Order_k2 Φ a1 Q) [(.bool true)] H12) (
 False)) (
 Do (abin .eql a0 (.int .i64 16)) fun x21 =>
 Gd x21 true (
 JoinP (check_Order_k4 Φ a0 a1 Q) [x21] H12) (
 Do (abin .eql a0 (.int .i64 17)) fun x28 =>
 Gd x28 true (
 JoinP (check_Order_k4 Φ a0 a1 Q) [x28] H12) (
 Do (abin .eql a0 (.int .i64 18)) fun x29 =>
 JoinP (check_Order_k4 Φ a0 a1 Q) [x29] H12)))
def check_Order_k6 (Φ : Calls') (a0 : AV) (a1 : AV) (Q : Post) : List AV → AH → Prop := fun j3 H4 =>
 Gd (sl j3 0) true (
 Do (abin .eql a1 (.int .i64 1)) fun x8 =>
 Gd3 x8 false (
 Do (abin .eql a1 (.int .i64 3)) fun x9 =>
 JoinP (check_Order_k1 Φ a1 Q) [x9] H4) (
 JoinP (check_Order_k1 Φ a1 Q) [(.bool true)] H4) (
 False)) (
 Do (abin .eql a0 (.int .i64 5)) fun x13 =>
 Gd x13 true (
 JoinP (check_Order_k5 Φ a0 a1 Q) [x13] H4) (
 Do (abin .eql a0 (.int .i64 15)) fun x30 =>
 JoinP (check_Order_k5 Φ a0 a1 Q) [x30] H4))
def check_Order (Φ : Calls') (a0 : AV) (a1 : AV) (H : AH) (Q : Post) : Prop :=
 Do (abin .eql a0 (.int .i64 4)) fun x5 =>
 Gd x5 true (
 JoinP (check_Order_k6 Φ a0 a1 Q) [x5] H) (
 Do (abin .eql a0 (.int .i64 6)) fun x31 =>
 JoinP (check_Order_k6 Φ a0 a1 Q) [x31] H)
def ir_check_Order : AFunc := ⟨52, [.tmp 4],
 .seq (.region [
   ⟨some 4, .mv (.k (.bool false)), none⟩])
 (.join [] [4, 5, 6, 7, 8, 9, 10, 11, 12, 13, 14, 15, 16, 17, 18, 19, 20, 21, 22, 23, 24, 25, 26, 27, 28, 29, 30, 31, 32, 33, 34, 35, 36, 37, 38, 39, 40, 41, 42, 43, 44, 45, 46, 47, 48, 49] (.seq (.region [
   ⟨some 5, .mv (.t 0), none⟩])
 (.block 0 (.join [6] [7, 8] (.seq (.region [
   ⟨some 7, .bin .eql (.t 5) (.k (.int .i64 4)), none⟩,
   ⟨some 6, .mv (.t 7), none⟩])
 (.cond (.t 6) (.skip)
   (.region [
     ⟨some 8, .bin .eql (.t 5) (.k (.int .i64 6)), none⟩,
     ⟨some 6, .mv (.t 8), none⟩])))
 (.cond (.t 6) (.seq (.rjoin [14] [9, 10, 11, 12, 13] [
     ⟨some 9, .mv (.t 1), none⟩,
     ⟨some 10, .bin .eql (.t 9) (.k (.int .i64 1)), none⟩,
     ⟨some 11, .mv (.t 10), none⟩,
     ⟨some 12, .mv (.t 1), some (11, false)⟩,
     ⟨some 13, .bin .eql (.t 12) (.k (.int .i64 3)), some (11, false)⟩,
     ⟨some 14, .pick (.t 11) (.k (.bool true)) (.t 13), none⟩]
   (.region [
     ⟨some 15, .mv (.t 14), none⟩,
     ⟨some 16, .mv (.t 1), some (15, false)⟩,
     ⟨some 17, .bin .eql (.t 16) (.k (.int .i64 4)), some (15, false)⟩,
     ⟨some 18, .pick (.t 15) (.k (.bool true)) (.t 17), none⟩,
     ⟨some 4, .mv (.t 18), none⟩]))
   (.ret))
   (.join [19] [20, 21] (.seq (.region [
     ⟨some 20, .bin .eql (.t 5) (.k (.int .i64 5)), none⟩,
     ⟨some 19, .mv (.t 20), none⟩])
   (.cond (.t 19) (.skip)
     (.region [
       ⟨some 21, .bin .eql (.t 5) (.k (.int .i64 15)), none⟩,
       ⟨some 19, .mv (.t 21), none⟩])))
   (.cond (.t 19) (.seq (.rjoin [27] [22, 23, 24, 25, 26] [
       ⟨some 22, .mv (.t 1), none⟩,
       ⟨some 23, .bin .eql (.t 22) (.k (.int .i64 1)), none⟩,
       ⟨some 24, .mv (.t 23), none⟩,
       ⟨some 25, .mv (.t 1), some (24, false)⟩,
       ⟨some 26, .bin .eql (.t 25) (.k (.int .i64 2)), some (24, false)⟩,
       ⟨some 27, .pick (.t 24) (.k (.bool true)) (.t 26), none⟩]
     (.region [
       ⟨some 28, .mv (.t 27), none⟩,
       ⟨some 29, .mv (.t 1), some (28, false)⟩,
       ⟨some 30, .bin .eql (.t 29) (.k (.int .i64 4)), some (28, false)⟩,
       ⟨some 31, .pick (.t 28) (.k (.bool true)) (.t 30), none⟩,
       ⟨some 4, .mv (.t 31), none⟩]))
     (.ret))
     (.join [32] [33, 34, 35] (.seq (.region [
       ⟨some 33, .bin .eql (.t 5) (.k (.int .i64 16)), none⟩,
       ⟨some 32, .mv (.t 33), none⟩])
     (.cond (.t 32) (.skip)
       (.seq (.region [
         ⟨some 34, .bin .eql (.t 5) (.k (.int .i64 17)), none⟩,
         ⟨some 32, .mv (.t 34), none⟩])
       (.cond (.t 32) (.skip)
         (.region [
           ⟨some 35, .bin .eql (.t 5) (.k (.int .i64 18)), none⟩,
           ⟨some 32, .mv (.t 35), none⟩])))))
     (.cond (.t 32) (.seq (.region [
         ⟨some 36, .mv (.t 1), none⟩,
         ⟨some 37, .bin .geq (.t 36) (.k (.int .i64 1)), none⟩,
         ⟨some 38, .mv (.t 37), none⟩,
         ⟨some 39, .mv (.t 1), some (38, true)⟩,
         ⟨some 40, .bin .leq (.t 39) (.k (.int .i64 4)), some (38, true)⟩,
         ⟨some 41, .pick (.t 38) (.t 40) (.k (.bool false)), none⟩,
         ⟨some 4, .mv (.t 41), none⟩])
       (.ret))
       (.seq (.region [
         ⟨some 43, .bin .eql (.t 5) (.k (.int .i64 7)), none⟩,
         ⟨some 42, .mv (.t 43), none⟩])
       (.cond (.t 42) (.seq (.region [
           ⟨some 44, .mv (.t 1), none⟩,
           ⟨some 45, .bin .geq (.t 44) (.k (.int .i64 2)), none⟩,
           ⟨some 46, .mv (.t 45), none⟩,
           ⟨some 47, .mv (.t 1), some (46, true)⟩,
           ⟨some 48, .bin .leq (.t 47) (.k (.int .i64 4)), some (46, true)⟩,
           ⟨some 49, .pick (.t 46) (.t 48) (.k (.bool false)), none⟩,
           ⟨some 4, .mv (.t 49), none⟩])
         (.ret))
         (.skip)))))))))))
 (.seq (.region [
   ⟨some 50, .mv (.t 1), none⟩,
   ⟨some 51, .bin .eql (.t 50) (.k (.int .i64 0)), none⟩,
   ⟨some 4, .mv (.t 51), none⟩])
 (.ret)))⟩
theorem eq_check_Order (Φ : Calls') (a0 a1 : AV) (H : AH) (Q : Post) : fnE1 Φ ir_check_Order [a0, a1] H Q = check_Order Φ a0 a1 H Q := by kernel_rfl

/-! rabbet/check.Prog -/
def check_Prog_k1 (Φ : Calls') (x3 : AV) (Q : Post) : List AV → AH → Prop := fun j34 H35 =>
 Do (abuild [.int .i64 0, .int .i64 0] []) fun x59 =>
 Do (astore H35 2 x3 x59) fun H60 =>
 Do (aload H60 2 true x3) fun x61 =>
 Q x61 H60
def check_Prog_l2 (Φ : Calls') (x1 : AV) (x3 : AV) (x37 : AV) (x38 : AV) (Q : Post) : (List AV × AH) → ((List AV × AH) → Prop) → Prop := fun s39 L40 =>
 Do (abin .lss (sl s39.1 0) x38) fun x41 =>
 Gd x41 true (
 Do (aiaddr none 1 x37 (sl s39.1 0)) fun x42 =>
 Do (aload s39.2 1 false x42) fun x43 =>
 Do (afaddr 0 x1) fun x44 =>
 Do (aload s39.2 1 false x44) fun x45 =>
 Do (abuild [.lst .nil 0 [], .lst .nil 0 [], .int .i64 0, .int .i64 0, .int .i64 0, .int .i64 0] [(0, 1, x45)]) fun x46 =>
 DoH (aboxv s39.2 true 6 x46) fun x47 H48 =>
Φ K.check_checker_block [x47, x43, (.int .i64 1)] H48 fun x49 H50 =>
Φ K.check_checker_bad [x47] H50 fun x51 H52 =>
 Gd x51 true (
 Do (anilck x47) fun x53 =>
 Do (afaddr 4 x53) fun x54 =>
 Do (aload H52 2 true x54) fun x55 =>
 Do (astore H52 2 x3 x55) fun H56 =>
 Do (aload H56 2 true x3) fun x57 =>
 Q x57 H56) (
 Do (abin .add (sl s39.1 0) (.int .i64 1)) fun x58 =>
 L40 ([x58], H52))) (
 JoinP (check_Prog_k1 Φ x3 Q) [] s39.2)
def check_Prog_k3 (Φ : Calls') (x1 : AV) (x3 : AV) (Q : Post) : List AV → AH → Prop := fun j5 H6 =>
 Do (afaddr 0 x1) fun x26 =>
 Do (aload H6 1 false x26) fun x27 =>
Φ K.check_vars [x27] H6 fun x28 H29 =>
 Do (abin .neq x28 (.int .i64 0)) fun x30 =>
 Gd x30 true (
 Do (abuild [.int .i64 0, .int .i64 0] [(1, 1, x28)]) fun x31 =>
 Do (astore H29 2 x3 x31) fun H32 =>
 Do (aload H32 2 true x3) fun x33 =>
 Q x33 H32) (
 Do (afaddr 1 x1) fun x36 =>
 Do (aload H29 1 false x36) fun x37 =>
 Do (alen false x37) fun x38 =>
 LoopP (check_Prog_l2 Φ x1 x3 x37 x38 Q) ([(.int .i64 0)], H29))
def check_Prog_k4 (Φ : Calls') (x1 : AV) (x3 : AV) (Q : Post) : List AV → AH → Prop := fun j7 H8 =>
 Gd (sl j7 0) true (
 Do (abuild [.int .i64 0, .int .i64 0] [(1, 1, (.int .i64 12))]) fun x23 =>
 Do (astore H8 2 x3 x23) fun H24 =>
 Do (aload H24 2 true x3) fun x25 =>
 Q x25 H24) (
 JoinP (check_Prog_k3 Φ x1 x3 Q) [] H8)
def check_Prog_k5 (Φ : Calls') (x1 : AV) (x3 : AV) (Q : Post) : List AV → AH → Prop := fun j9 H10 =>
 Gd3 (sl j9 0) false (
 Do (afaddr 1 x1) fun x19 =>
 Do (aload H10 1 false x19) fun x20 =>
 Do (alen false x20) fun x21 =>
 Do (abin .gtr x21 (.int .i64 8)) fun x22 =>
 JoinP (check_Prog_k4 Φ x1 x3 Q) [x22] H10) (
 JoinP (check_Prog_k4 Φ x1 x3 Q) [(.bool true)] H10) (
 False)
def check_Prog (Φ : Calls') (a0 : AV) (H : AH) (Q : Post) : Prop :=
 DoH (aboxv H false 2 a0) fun x1 H2 =>
 DoH (some (abox H2 true [.int .i64 0, .int .i64 0])) fun x3 H4 =>
 Do (afaddr 0 x1) fun x11 =>
 Do (aload H4 1 false x11) fun x12 =>
 Do (alen false x12) fun x13 =>
 Do (abin .gtr x13 (.int .i64 32)) fun x14 =>
 Gd3 x14 false (
 Do (afaddr 1 x1) fun x15 =>
 Do (aload H4 1 false x15) fun x16 =>
 Do (alen false x16) fun x17 =>
 Do (abin .lss x17 (.int .i64 1)) fun x18 =>
 JoinP (check_Prog_k5 Φ x1 x3 Q) [x18] H4) (
 JoinP (check_Prog_k5 Φ x1 x3 Q) [(.bool true)] H4) (
 False)
def ir_check_Prog : AFunc := ⟨53, [.cell 2 2 true],
 .seq (.region [
   ⟨some 1, .box false 2 (.t 0), none⟩,
   ⟨some 2, .alloc true [.int .i64 0, .int .i64 0], none⟩])
 (.join [] [7, 8, 9, 10, 11, 12, 13, 14, 15, 16, 17, 18, 19, 20, 21, 22, 23] (.join [22] [7, 8, 9, 10, 11, 12, 13, 14, 15, 16, 17, 18, 19, 20, 21] (.rjoin [16] [7, 8, 9, 10, 11, 12, 13, 14, 15] [
   ⟨some 7, .faddr 0 (.t 1), none⟩,
   ⟨some 8, .load 1 false (.t 7), none⟩,
   ⟨some 9, .len false (.t 8), none⟩,
   ⟨some 10, .bin .gtr (.t 9) (.k (.int .i64 32)), none⟩,
   ⟨some 11, .mv (.t 10), none⟩,
   ⟨some 12, .faddr 1 (.t 1), some (11, false)⟩,
   ⟨some 13, .load 1 false (.t 12), some (11, false)⟩,
   ⟨some 14, .len false (.t 13), some (11, false)⟩,
   ⟨some 15, .bin .lss (.t 14) (.k (.int .i64 1)), some (11, false)⟩,
   ⟨some 16, .pick (.t 11) (.k (.bool true)) (.t 15), none⟩]
 (.region [
   ⟨some 17, .mv (.t 16), none⟩,
   ⟨some 18, .faddr 1 (.t 1), some (17, false)⟩,
   ⟨some 19, .load 1 false (.t 18), some (17, false)⟩,
   ⟨some 20, .len false (.t 19), some (17, false)⟩,
   ⟨some 21, .bin .gtr (.t 20) (.k (.int .i64 8)), some (17, false)⟩,
   ⟨some 22, .pick (.t 17) (.k (.bool true)) (.t 21), none⟩]))
 (.cond (.t 22) (.seq (.region [
     ⟨some 23, .build [.int .i64 0, .int .i64 0] [(1, 1, (.k (.int .i64 12)))], none⟩,
     ⟨none, .store 2 (.t 2) (.t 23), none⟩])
   (.ret))
   (.skip)))
 (.seq (.seq (.region [
   ⟨some 24, .faddr 0 (.t 1), none⟩,
   ⟨some 25, .load 1 false (.t 24), none⟩,
   ⟨some 26, .call K.check_vars [(.t 25)], none⟩,
   ⟨some 3, .mv (.t 26), none⟩])
 (.seq (.region [
   ⟨some 27, .mv (.t 3), none⟩,
   ⟨some 28, .bin .neq (.t 27) (.k (.int .i64 0)), none⟩])
 (.cond (.t 28) (.seq (.region [
     ⟨some 29, .mv (.t 3), none⟩,
     ⟨some 30, .build [.int .i64 0, .int .i64 0] [(1, 1, (.t 29))], none⟩,
     ⟨none, .store 2 (.t 2) (.t 30), none⟩])
   (.ret))
   (.skip))))
 (.join [] [5, 6, 31, 32, 33, 34, 35, 36, 37, 38, 39, 40, 41, 42, 43, 44, 45, 46, 47, 48, 49, 50, 51] (.seq (.region [
   ⟨some 31, .faddr 1 (.t 1), none⟩,
   ⟨some 32, .load 1 false (.t 31), none⟩,
   ⟨some 33, .len false (.t 32), none⟩,
   ⟨some 34, .mv (.k (.int .i64 0)), none⟩])
 (.block 0 (.loop [34] [5, 6, 35, 36, 37, 38, 39, 40, 41, 42, 43, 44, 45, 46, 47, 48, 49, 50, 51] (.seq (.region [
   ⟨some 35, .bin .lss (.t 34) (.t 33), none⟩])
 (.seq (.cond (.t 35) (.skip)
   (.exit 0))
 (.seq (.block 1 (.seq (.region [
   ⟨some 36, .iaddr none 1 (.t 32) (.t 34), none⟩,
   ⟨some 37, .load 1 false (.t 36), none⟩,
   ⟨some 5, .mv (.t 37), none⟩])
 (.seq (.region [
   ⟨some 38, .faddr 0 (.t 1), none⟩,
   ⟨some 39, .load 1 false (.t 38), none⟩,
   ⟨some 40, .build [.lst .nil 0 [], .lst .nil 0 [], .int .i64 0, .int .i64 0, .int .i64 0, .int .i64 0] [(0, 1, (.t 39))], none⟩,
   ⟨some 41, .box true 6 (.t 40), none⟩,
   ⟨some 6, .mv (.t 41), none⟩])
 (.seq (.region [
   ⟨some 42, .mv (.t 6), none⟩,
   ⟨some 43, .mv (.t 5), none⟩,
   ⟨some 44, .call K.check_checker_block [(.t 42), (.t 43), (.k (.int .i64 1))], none⟩])
 (.seq (.region [
   ⟨some 45, .mv (.t 6), none⟩,
   ⟨some 46, .call K.check_checker_bad [(.t 45)], none⟩])
 (.cond (.t 46) (.seq (.region [
     ⟨some 47, .mv (.t 6), none⟩,
     ⟨some 48, .nilck (.t 47), none⟩,
     ⟨some 49, .faddr 4 (.t 48), none⟩,
     ⟨some 50, .load 2 true (.t 49), none⟩,
     ⟨none, .store 2 (.t 2) (.t 50), none⟩])
   (.ret))
   (.skip)))))))
 (.region [
   ⟨some 51, .bin .add (.t 34) (.k (.int .i64 1)), none⟩,
   ⟨some 34, .mv (.t 51), none⟩])))))))
 (.seq (.region [
   ⟨some 52, .build [.int .i64 0, .int .i64 0] [], none⟩,
   ⟨none, .store 2 (.t 2) (.t 52), none⟩])
 (.ret)))))⟩
theorem eq_check_Prog (Φ : Calls') (a0 : AV) (H : AH) (Q : Post) : fnE1 Φ ir_check_Prog [a0] H Q = check_Prog Φ a0 H Q := by kernel_rfl

/-! rabbet/check.Place$1 -/
def check_Place_c1 (Φ : Calls') (a0 : AV) (a1 : AV) (H : AH) (Q : Post) : Prop :=
 DoH (aboxv H false 7 a0) fun x1 H2 =>
 Do (afaddr 0 x1) fun x3 =>
 Do (aload H2 1 false x3) fun x4 =>
 Do (afaddr 0 a1) fun x5 =>
 Do (aload H2 1 false x5) fun x6 =>
 Do (abin .eql x4 x6) fun x7 =>
 Q x7 H2
def ir_check_Place_c1 : AFunc := ⟨9, [.tmp 3],
 .seq (.region [
   ⟨some 2, .box false 7 (.t 0), none⟩,
   ⟨some 3, .mv (.k (.bool false)), none⟩])
 (.seq (.region [
   ⟨some 4, .faddr 0 (.t 2), none⟩,
   ⟨some 5, .load 1 false (.t 4), none⟩,
   ⟨some 6, .faddr 0 (.t 1), none⟩,
   ⟨some 7, .load 1 false (.t 6), none⟩,
   ⟨some 8, .bin .eql (.t 5) (.t 7), none⟩,
   ⟨some 3, .mv (.t 8), none⟩])
 (.ret))⟩
theorem eq_check_Place_c1 (Φ : Calls') (a0 a1 : AV) (H : AH) (Q : Post) : fnE1 Φ ir_check_Place_c1 [a0, a1] H Q = check_Place_c1 Φ a0 a1 H Q := by kernel_rfl

/-! rabbet/check.part -/
def check_part_k1 (Φ : Calls') (x1 : AV) (x3 : AV) (x5 : AV) (Q : Post) : List AV → AH → Prop := fun j15 H16 =>
 Do (afaddr 3 x1) fun x59 =>
 Do (aload H16 1 false x59) fun x60 =>
Φ K.slices_IndexFunc___api_Field_api_Field_ [x60, (.fn K.check_part_c1 [x3])] H16 fun x61 H62 =>
 Do (abin .lss x61 (.int .i64 0)) fun x63 =>
 Gd x63 true (
 Do (abuild [.int .i64 0, .int .i64 0, .bool false, .lst .nil 0 [], .int .i64 0, .lst .nil 0 []] []) fun x64 =>
 Do (astore H62 6 x5 x64) fun H65 =>
 Do (aload H65 6 true x5) fun x66 =>
 Q (.tup [x66, (.int .i64 6)]) H65) (
 Do (afaddr 3 x1) fun x67 =>
 Do (aload H62 1 false x67) fun x68 =>
 Do (aiaddr none 9 x68 x61) fun x69 =>
 Do (afaddr 1 x69) fun x70 =>
 Do (aload H62 6 true x70) fun x71 =>
 Do (astore H62 6 x5 x71) fun H72 =>
 Do (aload H72 6 true x5) fun x73 =>
 Q (.tup [x73, (.int .i64 0)]) H72)
def check_part_k2 (Φ : Calls') (x1 : AV) (x3 : AV) (x5 : AV) (Q : Post) : List AV → AH → Prop := fun j49 H50 =>
 Gd (sl j49 0) true (
 Do (abuild [.int .i64 0, .int .i64 0, .bool false, .lst .nil 0 [], .int .i64 0, .lst .nil 0 []] []) fun x56 =>
 Do (astore H50 6 x5 x56) fun H57 =>
 Do (aload H57 6 true x5) fun x58 =>
 Q (.tup [x58, (.int .i64 8)]) H57) (
 JoinP (check_part_k1 Φ x1 x3 x5 Q) [] H50)
def check_part_k3 (Φ : Calls') (x1 : AV) (x3 : AV) (x5 : AV) (j7 : List AV) (Q : Post) : List AV → AH → Prop := fun j34 H35 =>
 Gd (sl j34 0) true (
 Do (afaddr 5 x1) fun x43 =>
 Do (aload H35 1 false x43) fun x44 =>
 Do (aiaddr none 6 x44 (.int .i64 0)) fun x45 =>
 Do (aload H35 6 true x45) fun x46 =>
 Do (astore H35 6 x5 x46) fun H47 =>
 Do (aload H47 6 true x5) fun x48 =>
 Q (.tup [x48, (.int .i64 0)]) H47) (
 Do (afaddr 1 x3) fun x51 =>
 Do (aload H35 1 false x51) fun x52 =>
 Do (alen false x52) fun x53 =>
 Do (abin .eql x53 (.int .i64 1)) fun x54 =>
 Gd3 x54 false (
 Do (aun .not (sl j7 0)) fun x55 =>
 JoinP (check_part_k2 Φ x1 x3 x5 Q) [x55] H35) (
 JoinP (check_part_k2 Φ x1 x3 x5 Q) [(.bool true)] H35) (
 False))
def check_part_k4 (Φ : Calls') (x1 : AV) (x3 : AV) (x5 : AV) (j7 : List AV) (Q : Post) : List AV → AH → Prop := fun j17 H18 =>
 Gd (sl j17 0) true (
 Do (abuild [.int .i64 0, .int .i64 0, .bool false, .lst .nil 0 [], .int .i64 0, .lst .nil 0 []] []) fun x31 =>
 Do (astore H18 6 x5 x31) fun H32 =>
 Do (aload H32 6 true x5) fun x33 =>
 Q (.tup [x33, (.int .i64 8)]) H32) (
 Do (afaddr 1 x3) fun x36 =>
 Do (aload H18 1 false x36) fun x37 =>
 Do (alen false x37) fun x38 =>
 Do (abin .eql x38 (.int .i64 1)) fun x39 =>
 Gd3 x39 true (
 Do (afaddr 0 x1) fun x40 =>
 Do (aload H18 1 false x40) fun x41 =>
 Do (abin .eql x41 (.int .i64 5)) fun x42 =>
 JoinP (check_part_k3 Φ x1 x3 x5 j7 Q) [x42] H18) (
 JoinP (check_part_k3 Φ x1 x3 x5 j7 Q) [(.bool false)] H18) (
 False))
def check_part_k5 (Φ : Calls') (x1 : AV) (x3 : AV) (x5 : AV) (Q : Post) : List AV → AH → Prop := fun j7 H8 =>
 Do (afaddr 1 x3) fun x19 =>
 Do (aload H8 1 false x19) fun x20 =>
 Do (alen false x20) fun x21 =>
 Do (abin .gtr x21 (.int .i64 1)) fun x22 =>
 Gd3 x22 false (
 Do (afaddr 1 x3) fun x23 =>
 Do (aload H8 1 false x23) fun x24 =>
 Do (alen false x24) fun x25 =>
 Do (abin .eql x25 (.int .i64 1)) fun x26 =>
 Do (afaddr 0 x3) fun x27 =>
 Do (aload H8 1 false x27) fun x28 =>
 Do (abin .neq x28 (.str [])) fun x29 =>
 Do (abeq false x26 x29) fun x30 =>
 JoinP (check_part_k4 Φ x1 x3 x5 j7 Q) [x30] H8) (
 JoinP (check_part_k4 Φ x1 x3 x5 j7 Q) [(.bool true)] H8) (
 False)
def check_part (Φ : Calls') (a0 : AV) (a1 : AV) (H : AH) (Q : Post) : Prop :=
 DoH (aboxv H false 6 a0) fun x1 H2 =>
 DoH (aboxv H2 true 2 a1) fun x3 H4 =>
 DoH (some (abox H4 true [.int .i64 0, .int .i64 0, .bool false, .lst .nil 0 [], .int .i64 0, .lst .nil 0 []])) fun x5 H6 =>
 Do (afaddr 0 x1) fun x9 =>
 Do (aload H6 1 false x9) fun x10 =>
 Do (abin .eql x10 (.int .i64 3)) fun x11 =>
 Gd3 x11 false (
 Do (afaddr 0 x1) fun x12 =>
 Do (aload H6 1 false x12) fun x13 =>
 Do (abin .eql x13 (.int .i64 4)) fun x14 =>
 JoinP (check_part_k5 Φ x1 x3 x5 Q) [x14] H6) (
 JoinP (check_part_k5 Φ x1 x3 x5 Q) [(.bool true)] H6) (
 False)
def ir_check_part : AFunc := ⟨69, [.cell 4 6 true, .tmp 5],
 .seq (.region [
   ⟨some 2, .box false 6 (.t 0), none⟩,
   ⟨some 3, .box true 2 (.t 1), none⟩,
   ⟨some 4, .alloc true [.int .i64 0, .int .i64 0, .bool false, .lst .nil 0 [], .int .i64 0, .lst .nil 0 []], none⟩,
   ⟨some 5, .mv (.k (.int .i64 0)), none⟩])
 (.join [6] [8, 9, 10, 11, 12, 13, 14, 15] (.region [
   ⟨some 8, .faddr 0 (.t 2), none⟩,
   ⟨some 9, .load 1 false (.t 8), none⟩,
   ⟨some 10, .bin .eql (.t 9) (.k (.int .i64 3)), none⟩,
   ⟨some 11, .mv (.t 10), none⟩,
   ⟨some 12, .faddr 0 (.t 2), some (11, false)⟩,
   ⟨some 13, .load 1 false (.t 12), some (11, false)⟩,
   ⟨some 14, .bin .eql (.t 13) (.k (.int .i64 4)), some (11, false)⟩,
   ⟨some 15, .pick (.t 11) (.k (.bool true)) (.t 14), none⟩,
   ⟨some 6, .mv (.t 15), none⟩])
 (.join [] [5, 16, 17, 18, 19, 20, 21, 22, 23, 24, 25, 26, 27, 28, 29, 30, 31, 32, 33, 34, 35, 36, 37, 38, 39, 40, 41, 42, 43, 44, 45, 46, 47, 48, 49, 50, 51, 52, 53, 54, 55] (.block 0 (.join [16] [17, 18, 19, 20, 21, 22, 23, 24, 25, 26, 27, 28, 29, 30] (.region [
   ⟨some 17, .faddr 1 (.t 3), none⟩,
   ⟨some 18, .load 1 false (.t 17), none⟩,
   ⟨some 19, .len false (.t 18), none⟩,
   ⟨some 20, .bin .gtr (.t 19) (.k (.int .i64 1)), none⟩,
   ⟨some 21, .mv (.t 20), none⟩,
   ⟨some 22, .faddr 1 (.t 3), some (21, false)⟩,
   ⟨some 23, .load 1 false (.t 22), some (21, false)⟩,
   ⟨some 24, .len false (.t 23), some (21, false)⟩,
   ⟨some 25, .bin .eql (.t 24) (.k (.int .i64 1)), some (21, false)⟩,
   ⟨some 26, .faddr 0 (.t 3), some (21, false)⟩,
   ⟨some 27, .load 1 false (.t 26), some (21, false)⟩,
   ⟨some 28, .bin .neq (.t 27) (.k (.str [])), some (21, false)⟩,
   ⟨some 29, .beq false (.t 25) (.t 28), some (21, false)⟩,
   ⟨some 30, .pick (.t 21) (.k (.bool true)) (.t 29), none⟩,
   ⟨some 16, .mv (.t 30), none⟩])
 (.cond (.t 16) (.seq (.region [
     ⟨some 31, .build [.int .i64 0, .int .i64 0, .bool false, .lst .nil 0 [], .int .i64 0, .lst .nil 0 []] [], none⟩,
     ⟨none, .store 6 (.t 4) (.t 31), none⟩,
     ⟨some 5, .mv (.k (.int .i64 8)), none⟩])
   (.ret))
   (.join [32] [33, 34, 35, 36, 37, 38, 39, 40, 41] (.region [
     ⟨some 33, .faddr 1 (.t 3), none⟩,
     ⟨some 34, .load 1 false (.t 33), none⟩,
     ⟨some 35, .len false (.t 34), none⟩,
     ⟨some 36, .bin .eql (.t 35) (.k (.int .i64 1)), none⟩,
     ⟨some 37, .mv (.t 36), none⟩,
     ⟨some 38, .faddr 0 (.t 2), some (37, true)⟩,
     ⟨some 39, .load 1 false (.t 38), some (37, true)⟩,
     ⟨some 40, .bin .eql (.t 39) (.k (.int .i64 5)), some (37, true)⟩,
     ⟨some 41, .pick (.t 37) (.t 40) (.k (.bool false)), none⟩,
     ⟨some 32, .mv (.t 41), none⟩])
   (.cond (.t 32) (.seq (.region [
       ⟨some 42, .faddr 5 (.t 2), none⟩,
       ⟨some 43, .load 1 false (.t 42), none⟩,
       ⟨some 44, .iaddr none 6 (.t 43) (.k (.int .i64 0)), none⟩,
       ⟨some 45, .load 6 true (.t 44), none⟩,
       ⟨none, .store 6 (.t 4) (.t 45), none⟩,
       ⟨some 5, .mv (.k (.int .i64 0)), none⟩])
     (.ret))
     (.join [46] [47, 48, 49, 50, 51, 52, 53, 54] (.region [
       ⟨some 47, .faddr 1 (.t 3), none⟩,
       ⟨some 48, .load 1 false (.t 47), none⟩,
       ⟨some 49, .len false (.t 48), none⟩,
       ⟨some 50, .bin .eql (.t 49) (.k (.int .i64 1)), none⟩,
       ⟨some 51, .mv (.t 50), none⟩,
       ⟨some 52, .mv (.t 6), some (51, false)⟩,
       ⟨some 53, .un .not (.t 52), some (51, false)⟩,
       ⟨some 54, .pick (.t 51) (.k (.bool true)) (.t 53), none⟩,
       ⟨some 46, .mv (.t 54), none⟩])
     (.cond (.t 46) (.seq (.region [
         ⟨some 55, .build [.int .i64 0, .int .i64 0, .bool false, .lst .nil 0 [], .int .i64 0, .lst .nil 0 []] [], none⟩,
         ⟨none, .store 6 (.t 4) (.t 55), none⟩,
         ⟨some 5, .mv (.k (.int .i64 8)), none⟩])
       (.ret))
       (.skip))))))))
 (.seq (.region [
   ⟨some 56, .faddr 3 (.t 2), none⟩,
   ⟨some 57, .load 1 false (.t 56), none⟩,
   ⟨some 58, .mkfn K.check_part_c1 [(.t 3)], none⟩,
   ⟨some 59, .call K.slices_IndexFunc___api_Field_api_Field_ [(.t 57), (.t 58)], none⟩,
   ⟨some 7, .mv (.t 59), none⟩])
 (.seq (.seq (.region [
   ⟨some 60, .mv (.t 7), none⟩,
   ⟨some 61, .bin .lss (.t 60) (.k (.int .i64 0)), none⟩])
 (.cond (.t 61) (.seq (.region [
     ⟨some 62, .build [.int .i64 0, .int .i64 0, .bool false, .lst .nil 0 [], .int .i64 0, .lst .nil 0 []] [], none⟩,
     ⟨none, .store 6 (.t 4) (.t 62), none⟩,
     ⟨some 5, .mv (.k (.int .i64 6)), none⟩])
   (.ret))
   (.skip)))
 (.seq (.region [
   ⟨some 63, .faddr 3 (.t 2), none⟩,
   ⟨some 64, .load 1 false (.t 63), none⟩,
   ⟨some 65, .mv (.t 7), none⟩,
   ⟨some 66, .iaddr none 9 (.t 64) (.t 65), none⟩,
   ⟨some 67, .faddr 1 (.t 66), none⟩,
   ⟨some 68, .load 6 true (.t 67), none⟩,
   ⟨none, .store 6 (.t 4) (.t 68), none⟩,
   ⟨some 5, .mv (.k (.int .i64 0)), none⟩])
 (.ret))))))⟩
theorem eq_check_part (Φ : Calls') (a0 a1 : AV) (H : AH) (Q : Post) : fnE1 Φ ir_check_part [a0, a1] H Q = check_part Φ a0 a1 H Q := by kernel_rfl

/-! rabbet/check.vars -/
def check_vars_k1 (Φ : Calls') (s6 : List AV × AH) (L7 : (List AV × AH) → Prop) (Q : Post) : List AV → AH → Prop := fun j9 H10 =>
 Do (abin .add (sl s6.1 1) (.int .i64 1)) fun x45 =>
 L7 ([(sl j9 0), x45], H10)
def check_vars_k2 (Φ : Calls') (x13 : AV) (s6 : List AV × AH) (L7 : (List AV × AH) → Prop) (Q : Post) : List AV → AH → Prop := fun j16 H17 =>
 Do (afaddr 1 x13) fun x32 =>
 Do (aload H17 6 true x32) fun x33 =>
Φ K.layout_Of [x33] H17 fun x34 H35 =>
 Do (aextract 0 x34) fun x36 =>
 Do (aextract 1 x34) fun x37 =>
 Do (aextract 2 x34) fun x38 =>
 Do (abin .neq x38 (.int .i64 0)) fun x39 =>
 Gd x39 true (
 Q x38 H35) (
 Do (abin .add (sl s6.1 0) x37) fun x40 =>
 Do (abin .sub x40 (.int .i64 1)) fun x41 =>
 Do (abin .quo x41 x37) fun x42 =>
 Do (abin .mul x42 x37) fun x43 =>
 Do (abin .add x43 x36) fun x44 =>
 JoinP (check_vars_k1 Φ s6 L7 Q) [x44] H35)
def check_vars_k3 (Φ : Calls') (a0 : AV) (x13 : AV) (s6 : List AV × AH) (L7 : (List AV × AH) → Prop) (Q : Post) : List AV → AH → Prop := fun j18 H19 =>
 Gd (sl j18 0) true (
 Q (.int .i64 6) H19) (
 Do (aslice 7 a0 none (some (sl s6.1 1)) none) fun x29 =>
Φ K.slices_ContainsFunc___api_Var_api_Var_ [x29, (.fn K.check_vars_c1 [x13])] H19 fun x30 H31 =>
 Gd x30 true (
 Q (.int .i64 7) H31) (
 JoinP (check_vars_k2 Φ x13 s6 L7 Q) [] H31))
def check_vars_k4 (Φ : Calls') (Q : Post) : List AV → AH → Prop := fun j3 H4 =>
 Do (abin .gtr (sl j3 0) (.int .i64 65536)) fun x46 =>
 Gd x46 true (
 Q (.int .i64 9) H4) (
 Q (.int .i64 0) H4)
def check_vars_l5 (Φ : Calls') (a0 : AV) (x5 : AV) (Q : Post) : (List AV × AH) → ((List AV × AH) → Prop) → Prop := fun s6 L7 =>
 Do (abin .lss (sl s6.1 1) x5) fun x8 =>
 Gd x8 true (
 Do (aiaddr none 7 a0 (sl s6.1 1)) fun x11 =>
 Do (aload s6.2 7 true x11) fun x12 =>
 DoH (some (abox s6.2 true [.str [], .int .i64 0, .int .i64 0, .bool false, .lst .nil 0 [], .int .i64 0, .lst .nil 0 []])) fun x13 H14 =>
 Do (astore H14 7 x13 x12) fun H15 =>
 Do (afaddr 0 x13) fun x20 =>
 Do (aload H15 1 false x20) fun x21 =>
Φ K.kind_Name [x21] H15 fun x22 H23 =>
 Do (aun .not x22) fun x24 =>
 Gd3 x24 false (
 Do (afaddr 0 x13) fun x25 =>
 Do (aload H23 1 false x25) fun x26 =>
Φ K.lex_Keyword [x26] H23 fun x27 H28 =>
 JoinP (check_vars_k3 Φ a0 x13 s6 L7 Q) [x27] H28) (
 JoinP (check_vars_k3 Φ a0 x13 s6 L7 Q) [(.bool true)] H23) (
 False)) (
 JoinP (check_vars_k4 Φ Q) [(sl s6.1 0)] s6.2)
def check_vars (Φ : Calls') (a0 : AV) (H : AH) (Q : Post) : Prop :=
 Do (alen false a0) fun x1 =>
 Do (abin .gtr x1 (.int .i64 32)) fun x2 =>
 Gd x2 true (
 Q (.int .i64 12) H) (
 Do (alen false a0) fun x5 =>
 LoopP (check_vars_l5 Φ a0 x5 Q) ([(.int .i64 0), (.int .i64 0)], H))
def ir_check_vars : AFunc := ⟨58, [.tmp 2],
 .seq (.region [
   ⟨some 2, .mv (.k (.int .i64 0)), none⟩])
 (.seq (.seq (.region [
   ⟨some 9, .mv (.t 0), none⟩,
   ⟨some 10, .len false (.t 9), none⟩,
   ⟨some 11, .bin .gtr (.t 10) (.k (.int .i64 32)), none⟩])
 (.cond (.t 11) (.seq (.region [
     ⟨some 2, .mv (.k (.int .i64 12)), none⟩])
   (.ret))
   (.skip)))
 (.seq (.region [
   ⟨some 3, .mv (.k (.int .i64 0)), none⟩])
 (.join [3] [2, 4, 5, 6, 7, 8, 12, 13, 14, 15, 16, 17, 18, 19, 20, 21, 22, 23, 24, 25, 26, 27, 28, 29, 30, 31, 32, 33, 34, 35, 36, 37, 38, 39, 40, 41, 42, 43, 44, 45, 46, 47, 48, 49, 50, 51, 52, 53, 54, 55] (.seq (.region [
   ⟨some 12, .mv (.t 0), none⟩,
   ⟨some 13, .len false (.t 12), none⟩,
   ⟨some 14, .mv (.k (.int .i64 0)), none⟩])
 (.block 0 (.loop [3, 14] [2, 4, 5, 6, 7, 8, 15, 16, 17, 18, 19, 20, 21, 22, 23, 24, 25, 26, 27, 28, 29, 30, 31, 32, 33, 34, 35, 36, 37, 38, 39, 40, 41, 42, 43, 44, 45, 46, 47, 48, 49, 50, 51, 52, 53, 54, 55] (.seq (.region [
   ⟨some 15, .bin .lss (.t 14) (.t 13), none⟩])
 (.seq (.cond (.t 15) (.skip)
   (.exit 0))
 (.join [3] [2, 4, 5, 6, 7, 8, 16, 17, 18, 19, 20, 21, 22, 23, 24, 25, 26, 27, 28, 29, 30, 31, 32, 33, 34, 35, 36, 37, 38, 39, 40, 41, 42, 43, 44, 45, 46, 47, 48, 49, 50, 51, 52, 53, 54] (.block 1 (.seq (.region [
   ⟨some 16, .mv (.t 14), none⟩,
   ⟨some 17, .iaddr none 7 (.t 12) (.t 14), none⟩,
   ⟨some 18, .load 7 true (.t 17), none⟩,
   ⟨some 5, .alloc true [.str [], .int .i64 0, .int .i64 0, .bool false, .lst .nil 0 [], .int .i64 0, .lst .nil 0 []], none⟩,
   ⟨some 4, .mv (.t 16), none⟩,
   ⟨none, .store 7 (.t 5) (.t 18), none⟩])
 (.join [] [2, 19, 20, 21, 22, 23, 24, 25, 26, 27, 28, 29, 30, 31, 32, 33, 34] (.block 2 (.join [19] [20, 21, 22, 23, 24, 25, 26, 27, 28] (.region [
   ⟨some 20, .faddr 0 (.t 5), none⟩,
   ⟨some 21, .load 1 false (.t 20), none⟩,
   ⟨some 22, .call K.kind_Name [(.t 21)], none⟩,
   ⟨some 23, .un .not (.t 22), none⟩,
   ⟨some 24, .mv (.t 23), none⟩,
   ⟨some 25, .faddr 0 (.t 5), some (24, false)⟩,
   ⟨some 26, .load 1 false (.t 25), some (24, false)⟩,
   ⟨some 27, .call K.lex_Keyword [(.t 26)], some (24, false)⟩,
   ⟨some 28, .pick (.t 24) (.k (.bool true)) (.t 27), none⟩,
   ⟨some 19, .mv (.t 28), none⟩])
 (.cond (.t 19) (.seq (.region [
     ⟨some 2, .mv (.k (.int .i64 6)), none⟩])
   (.ret))
   (.seq (.region [
     ⟨some 30, .mv (.t 0), none⟩,
     ⟨some 31, .mv (.t 4), none⟩,
     ⟨some 32, .slice 7 (.t 30) none (some (.t 31)) none, none⟩,
     ⟨some 33, .mkfn K.check_vars_c1 [(.t 5)], none⟩,
     ⟨some 34, .call K.slices_ContainsFunc___api_Var_api_Var_ [(.t 32), (.t 33)], none⟩,
     ⟨some 29, .mv (.t 34), none⟩])
   (.cond (.t 29) (.seq (.region [
       ⟨some 2, .mv (.k (.int .i64 7)), none⟩])
     (.ret))
     (.skip))))))
 (.seq (.region [
   ⟨some 36, .faddr 1 (.t 5), none⟩,
   ⟨some 37, .load 6 true (.t 36), none⟩,
   ⟨some 38, .call K.layout_Of [(.t 37)], none⟩,
   ⟨some 35, .mv (.t 38), none⟩,
   ⟨some 39, .extract 0 (.t 35), none⟩,
   ⟨some 40, .extract 1 (.t 35), none⟩,
   ⟨some 41, .extract 2 (.t 35), none⟩,
   ⟨some 6, .mv (.t 39), none⟩,
   ⟨some 7, .mv (.t 40), none⟩,
   ⟨some 8, .mv (.t 41), none⟩])
 (.seq (.seq (.region [
   ⟨some 42, .mv (.t 8), none⟩,
   ⟨some 43, .bin .neq (.t 42) (.k (.int .i64 0)), none⟩])
 (.cond (.t 43) (.seq (.region [
     ⟨some 44, .mv (.t 8), none⟩,
     ⟨some 2, .mv (.t 44), none⟩])
   (.ret))
   (.skip)))
 (.region [
   ⟨some 45, .mv (.t 3), none⟩,
   ⟨some 46, .mv (.t 7), none⟩,
   ⟨some 47, .bin .add (.t 45) (.t 46), none⟩,
   ⟨some 48, .bin .sub (.t 47) (.k (.int .i64 1)), none⟩,
   ⟨some 49, .mv (.t 7), none⟩,
   ⟨some 50, .bin .quo (.t 48) (.t 49), none⟩,
   ⟨some 51, .mv (.t 7), none⟩,
   ⟨some 52, .bin .mul (.t 50) (.t 51), none⟩,
   ⟨some 53, .mv (.t 6), none⟩,
   ⟨some 54, .bin .add (.t 52) (.t 53), none⟩,
   ⟨some 3, .mv (.t 54), none⟩]))))))
 (.region [
   ⟨some 55, .bin .add (.t 14) (.k (.int .i64 1)), none⟩,
   ⟨some 14, .mv (.t 55), none⟩])))))))
 (.seq (.seq (.region [
   ⟨some 56, .mv (.t 3), none⟩,
   ⟨some 57, .bin .gtr (.t 56) (.k (.int .i64 65536)), none⟩])
 (.cond (.t 57) (.seq (.region [
     ⟨some 2, .mv (.k (.int .i64 9)), none⟩])
   (.ret))
   (.skip)))
 (.seq (.region [
   ⟨some 2, .mv (.k (.int .i64 0)), none⟩])
 (.ret))))))⟩
theorem eq_check_vars (Φ : Calls') (a0 : AV) (H : AH) (Q : Post) : fnE1 Φ ir_check_vars [a0] H Q = check_vars Φ a0 H Q := by kernel_rfl

/-! (rabbet/check.checker).block -/
def check_checker_block_k1 (Φ : Calls') (s8 : List AV × AH) (L9 : (List AV × AH) → Prop) (Q : Post) : List AV → AH → Prop := fun j11 H12 =>
 Do (abin .add (sl s8.1 0) (.int .i64 1)) fun x29 =>
 L9 ([x29], H12)
def check_checker_block_k2 (Φ : Calls') (a0 : AV) (x4 : AV) (Q : Post) : List AV → AH → Prop := fun j5 H6 =>
 Do (anilck a0) fun x30 =>
 Do (afaddr 1 x30) fun x31 =>
 Do (aload H6 1 false x31) fun x32 =>
 Do (aslice 1 x32 none (some x4) none) fun x33 =>
 Do (anilck a0) fun x34 =>
 Do (afaddr 1 x34) fun x35 =>
 Do (astore H6 1 x35 x33) fun H36 =>
 Q (.tup []) H36
def check_checker_block_l3 (Φ : Calls') (a0 : AV) (a1 : AV) (a2 : AV) (x4 : AV) (x7 : AV) (Q : Post) : (List AV × AH) → ((List AV × AH) → Prop) → Prop := fun s8 L9 =>
 Do (abin .lss (sl s8.1 0) x7) fun x10 =>
 Gd x10 true (
 Do (aiaddr none 10 a1 (sl s8.1 0)) fun x13 =>
 Do (aload s8.2 10 true x13) fun x14 =>
 DoH (some (abox s8.2 true [.int .i64 0, .int .i64 0, .str [], .str [], .int .i64 0, .str [], .lst .nil 0 [], .lst .nil 0 [], .lst .nil 0 [], .lst .nil 0 []])) fun x15 H16 =>
 Do (astore H16 10 x15 x14) fun H17 =>
Φ K.check_checker_bad [a0] H17 fun x18 H19 =>
 Do (aun .not x18) fun x20 =>
 Gd x20 true (
 Do (afaddr 1 x15) fun x21 =>
 Do (aload H19 1 false x21) fun x22 =>
 Do (anilck a0) fun x23 =>
 Do (afaddr 3 x23) fun x24 =>
 Do (astore H19 1 x24 x22) fun H25 =>
 Do (aload H25 10 true x15) fun x26 =>
Φ K.check_checker_stmt [a0, x26, a2] H25 fun x27 H28 =>
 JoinP (check_checker_block_k1 Φ s8 L9 Q) [] H28) (
 JoinP (check_checker_block_k1 Φ s8 L9 Q) [] H19)) (
 JoinP (check_checker_block_k2 Φ a0 x4 Q) [] s8.2)
def check_checker_block (Φ : Calls') (a0 : AV) (a1 : AV) (a2 : AV) (H : AH) (Q : Post) : Prop :=
 Do (anilck a0) fun x1 =>
 Do (afaddr 1 x1) fun x2 =>
 Do (aload H 1 false x2) fun x3 =>
 Do (alen false x3) fun x4 =>
 Do (alen false a1) fun x7 =>
 LoopP (check_checker_block_l3 Φ a0 a1 a2 x4 x7 Q) ([(.int .i64 0)], H)
def ir_check_checker_block : AFunc := ⟨42, [],
 .seq (.region [
   ⟨some 9, .mv (.t 0), none⟩,
   ⟨some 10, .nilck (.t 9), none⟩,
   ⟨some 11, .faddr 1 (.t 10), none⟩,
   ⟨some 12, .load 1 false (.t 11), none⟩,
   ⟨some 13, .len false (.t 12), none⟩,
   ⟨some 6, .mv (.t 13), none⟩])
 (.join [] [8, 14, 15, 16, 17, 18, 19, 20, 21, 22, 23, 24, 25, 26, 27, 28, 29, 30, 31, 32] (.seq (.region [
   ⟨some 14, .mv (.t 1), none⟩,
   ⟨some 15, .len false (.t 14), none⟩,
   ⟨some 16, .mv (.k (.int .i64 0)), none⟩])
 (.block 0 (.loop [16] [8, 17, 18, 19, 20, 21, 22, 23, 24, 25, 26, 27, 28, 29, 30, 31, 32] (.seq (.region [
   ⟨some 17, .bin .lss (.t 16) (.t 15), none⟩])
 (.seq (.cond (.t 17) (.skip)
   (.exit 0))
 (.join [] [8, 18, 19, 20, 21, 22, 23, 24, 25, 26, 27, 28, 29, 30, 31] (.block 1 (.seq (.region [
   ⟨some 18, .iaddr none 10 (.t 14) (.t 16), none⟩,
   ⟨some 19, .load 10 true (.t 18), none⟩,
   ⟨some 8, .alloc true [.int .i64 0, .int .i64 0, .str [], .str [], .int .i64 0, .str [], .lst .nil 0 [], .lst .nil 0 [], .lst .nil 0 [], .lst .nil 0 []], none⟩,
   ⟨none, .store 10 (.t 8) (.t 19), none⟩])
 (.seq (.region [
   ⟨some 20, .mv (.t 0), none⟩,
   ⟨some 21, .call K.check_checker_bad [(.t 20)], none⟩,
   ⟨some 22, .un .not (.t 21), none⟩])
 (.cond (.t 22) (.seq (.region [
     ⟨some 23, .mv (.t 0), none⟩,
     ⟨some 24, .faddr 1 (.t 8), none⟩,
     ⟨some 25, .load 1 false (.t 24), none⟩,
     ⟨some 26, .nilck (.t 23), none⟩,
     ⟨some 27, .faddr 3 (.t 26), none⟩,
     ⟨none, .store 1 (.t 27) (.t 25), none⟩])
   (.region [
     ⟨some 28, .mv (.t 0), none⟩,
     ⟨some 29, .load 10 true (.t 8), none⟩,
     ⟨some 30, .mv (.t 2), none⟩,
     ⟨some 31, .call K.check_checker_stmt [(.t 28), (.t 29), (.t 30)], none⟩]))
   (.skip)))))
 (.region [
   ⟨some 32, .bin .add (.t 16) (.k (.int .i64 1)), none⟩,
   ⟨some 16, .mv (.t 32), none⟩])))))))
 (.region [
   ⟨some 33, .mv (.t 0), none⟩,
   ⟨some 34, .mv (.t 0), none⟩,
   ⟨some 35, .nilck (.t 34), none⟩,
   ⟨some 36, .faddr 1 (.t 35), none⟩,
   ⟨some 37, .load 1 false (.t 36), none⟩,
   ⟨some 38, .mv (.t 6), none⟩,
   ⟨some 39, .slice 1 (.t 37) none (some (.t 38)) none, none⟩,
   ⟨some 40, .nilck (.t 33), none⟩,
   ⟨some 41, .faddr 1 (.t 40), none⟩,
   ⟨none, .store 1 (.t 41) (.t 39), none⟩]))⟩
theorem eq_check_checker_block (Φ : Calls') (a0 a1 a2 : AV) (H : AH) (Q : Post) : fnE1 Φ ir_check_checker_block [a0, a1, a2] H Q = check_checker_block Φ a0 a1 a2 H Q := by kernel_rfl

/-! (rabbet/check.checker).bad -/
def check_checker_bad (Φ : Calls') (a0 : AV) (H : AH) (Q : Post) : Prop :=
 Do (anilck a0) fun x1 =>
 Do (afaddr 4 x1) fun x2 =>
 Do (afaddr 1 x2) fun x3 =>
 Do (aload H 1 false x3) fun x4 =>
 Do (abin .neq x4 (.int .i64 0)) fun x5 =>
 Q x5 H
def ir_check_checker_bad : AFunc := ⟨9, [.tmp 2],
 .seq (.region [
   ⟨some 2, .mv (.k (.bool false)), none⟩])
 (.seq (.region [
   ⟨some 3, .mv (.t 0), none⟩,
   ⟨some 4, .nilck (.t 3), none⟩,
   ⟨some 5, .faddr 4 (.t 4), none⟩,
   ⟨some 6, .faddr 1 (.t 5), none⟩,
   ⟨some 7, .load 1 false (.t 6), none⟩,
   ⟨some 8, .bin .neq (.t 7) (.k (.int .i64 0)), none⟩,
   ⟨some 2, .mv (.t 8), none⟩])
 (.ret))⟩
theorem eq_check_checker_bad (Φ : Calls') (a0 : AV) (H : AH) (Q : Post) : fnE1 Φ ir_check_checker_bad [a0] H Q = check_checker_bad Φ a0 H Q := by kernel_rfl

/-! rabbet/check.part$1 -/
def check_part_c1 (Φ : Calls') (a0 : AV) (a1 : AV) (H : AH) (Q : Post) : Prop :=
 DoH (aboxv H false 9 a0) fun x1 H2 =>
 Do (afaddr 0 x1) fun x3 =>
 Do (aload H2 1 false x3) fun x4 =>
 Do (afaddr 0 a1) fun x5 =>
 Do (aload H2 1 false x5) fun x6 =>
 Do (abin .eql x4 x6) fun x7 =>
 Q x7 H2
def ir_check_part_c1 : AFunc := ⟨9, [.tmp 3],
 .seq (.region [
   ⟨some 2, .box false 9 (.t 0), none⟩,
   ⟨some 3, .mv (.k (.bool false)), none⟩])
 (.seq (.region [
   ⟨some 4, .faddr 0 (.t 2), none⟩,
   ⟨some 5, .load 1 false (.t 4), none⟩,
   ⟨some 6, .faddr 0 (.t 1), none⟩,
   ⟨some 7, .load 1 false (.t 6), none⟩,
   ⟨some 8, .bin .eql (.t 5) (.t 7), none⟩,
   ⟨some 3, .mv (.t 8), none⟩])
 (.ret))⟩
theorem eq_check_part_c1 (Φ : Calls') (a0 a1 : AV) (H : AH) (Q : Post) : fnE1 Φ ir_check_part_c1 [a0, a1] H Q = check_part_c1 Φ a0 a1 H Q := by kernel_rfl

/-! rabbet/check.vars$1 -/
def check_vars_c1 (Φ : Calls') (a0 : AV) (a1 : AV) (H : AH) (Q : Post) : Prop :=
 DoH (aboxv H false 7 a0) fun x1 H2 =>
 Do (afaddr 0 x1) fun x3 =>
 Do (aload H2 1 false x3) fun x4 =>
 Do (afaddr 0 a1) fun x5 =>
 Do (aload H2 1 false x5) fun x6 =>
 Do (abin .eql x4 x6) fun x7 =>
 Q x7 H2
def ir_check_vars_c1 : AFunc := ⟨9, [.tmp 3],
 .seq (.region [
   ⟨some 2, .box false 7 (.t 0), none⟩,
   ⟨some 3, .mv (.k (.bool false)), none⟩])
 (.seq (.region [
   ⟨some 4, .faddr 0 (.t 2), none⟩,
   ⟨some 5, .load 1 false (.t 4), none⟩,
   ⟨some 6, .faddr 0 (.t 1), none⟩,
   ⟨some 7, .load 1 false (.t 6), none⟩,
   ⟨some 8, .bin .eql (.t 5) (.t 7), none⟩,
   ⟨some 3, .mv (.t 8), none⟩])
 (.ret))⟩
theorem eq_check_vars_c1 (Φ : Calls') (a0 a1 : AV) (H : AH) (Q : Post) : fnE1 Φ ir_check_vars_c1 [a0, a1] H Q = check_vars_c1 Φ a0 a1 H Q := by kernel_rfl

/-! (rabbet/check.checker).stmt -/
def check_checker_stmt_k1 (Φ : Calls') (a0 : AV) (a2 : AV) (x1 : AV) (Q : Post) : List AV → AH → Prop := fun j54 H55 =>
 Do (afaddr 8 x1) fun x78 =>
 Do (aload H55 1 false x78) fun x79 =>
 Do (abin .add a2 (.int .i64 1)) fun x80 =>
Φ K.check_checker_block [a0, x79, x80] H55 fun x81 H82 =>
 Do (afaddr 1 x1) fun x83 =>
 Do (aload H82 1 false x83) fun x84 =>
 Do (anilck a0) fun x85 =>
 Do (afaddr 3 x85) fun x86 =>
 Do (astore H82 1 x86 x84) fun H87 =>
 Do (afaddr 9 x1) fun x88 =>
 Do (aload H87 1 false x88) fun x89 =>
 Do (abin .add a2 (.int .i64 1)) fun x90 =>
Φ K.check_checker_block [a0, x89, x90] H87 fun x91 H92 =>
 Q (.tup []) H92
def check_checker_stmt_k2 (Φ : Calls') (a0 : AV) (a2 : AV) (x1 : AV) (Q : Post) : List AV → AH → Prop := fun j19 H20 =>
 Do (afaddr 7 x1) fun x50 =>
 Do (aload H20 1 false x50) fun x51 =>
Φ K.check_checker_exprs [a0, x51, a2] H20 fun x52 H53 =>
 Do (afaddr 0 x1) fun x56 =>
 Do (aload H53 1 false x56) fun x57 =>
 Do (abin .eql x57 (.int .i64 1)) fun x58 =>
 Gd x58 true (
 Do (anilck a0) fun x59 =>
 Do (afaddr 1 x59) fun x60 =>
 Do (aload H53 1 false x60) fun x61 =>
 Do (afaddr 2 x1) fun x62 =>
 Do (aload H53 1 false x62) fun x63 =>
 DoH (abslice H53 false 1 1 [.str []] [(0, 1, x63)]) fun x64 H65 =>
 DoH (aappend H65 false 1 16 x61 x64) fun x66 H67 =>
 Do (anilck a0) fun x68 =>
 Do (afaddr 1 x68) fun x69 =>
 Do (astore H67 1 x69 x66) fun H70 =>
 Do (anilck a0) fun x71 =>
 Do (afaddr 2 x71) fun x72 =>
 Do (aload H70 1 false x72) fun x73 =>
 Do (abin .add x73 (.int .i64 1)) fun x74 =>
 Do (anilck a0) fun x75 =>
 Do (afaddr 2 x75) fun x76 =>
 Do (astore H70 1 x76 x74) fun H77 =>
 JoinP (check_checker_stmt_k1 Φ a0 a2 x1 Q) [] H77) (
 Do (abin .eql x57 (.int .i64 5)) fun x93 =>
 Gd x93 true (
 Do (afaddr 2 x1) fun x94 =>
 Do (aload H53 1 false x94) fun x95 =>
Φ K.check_checker_there [a0, x95] H53 fun x96 H97 =>
Φ K.check_checker_need [a0, x96, (.int .i64 6)] H97 fun x98 H99 =>
 Do (afaddr 3 x1) fun x100 =>
 Do (aload H99 1 false x100) fun x101 =>
Φ K.check_checker_there [a0, x101] H99 fun x102 H103 =>
Φ K.check_checker_need [a0, x102, (.int .i64 6)] H103 fun x104 H105 =>
 Do (afaddr 2 x1) fun x106 =>
 Do (aload H105 1 false x106) fun x107 =>
 Do (afaddr 3 x1) fun x108 =>
 Do (aload H105 1 false x108) fun x109 =>
 Do (abin .neq x107 x109) fun x110 =>
Φ K.check_checker_need [a0, x110, (.int .i64 7)] H105 fun x111 H112 =>
 JoinP (check_checker_stmt_k1 Φ a0 a2 x1 Q) [] H112) (
 JoinP (check_checker_stmt_k1 Φ a0 a2 x1 Q) [] H53))
def check_checker_stmt_k3 (Φ : Calls') (a0 : AV) (a2 : AV) (x1 : AV) (Q : Post) : List AV → AH → Prop := fun j24 H25 =>
 Do (afaddr 2 x1) fun x37 =>
 Do (aload H25 1 false x37) fun x38 =>
Φ K.check_checker_there [a0, x38] H25 fun x39 H40 =>
 Do (aun .not x39) fun x41 =>
Φ K.check_checker_need [a0, x41, (.int .i64 7)] H40 fun x42 H43 =>
 Do (anilck a0) fun x44 =>
 Do (afaddr 2 x44) fun x45 =>
 Do (aload H43 1 false x45) fun x46 =>
 Do (abin .lss x46 (.int .i64 40)) fun x47 =>
Φ K.check_checker_need [a0, x47, (.int .i64 12)] H43 fun x48 H49 =>
 JoinP (check_checker_stmt_k2 Φ a0 a2 x1 Q) [] H49
def check_checker_stmt_k4 (Φ : Calls') (a0 : AV) (a2 : AV) (x1 : AV) (Q : Post) : List AV → AH → Prop := fun j122 H123 =>
 Gd (sl j122 0) true (
 Do (afaddr 0 x1) fun x125 =>
 Do (aload H123 1 false x125) fun x126 =>
 Do (afaddr 5 x1) fun x127 =>
 Do (aload H123 2 true x127) fun x128 =>
Φ K.check_checker_place [a0, x126, x128, a2] H123 fun x129 H130 =>
 JoinP (check_checker_stmt_k2 Φ a0 a2 x1 Q) [] H130) (
 JoinP (check_checker_stmt_k2 Φ a0 a2 x1 Q) [] H123)
def check_checker_stmt (Φ : Calls') (a0 : AV) (a1 : AV) (a2 : AV) (H : AH) (Q : Post) : Prop :=
 DoH (aboxv H false 10 a1) fun x1 H2 =>
 Do (abin .leq a2 (.int .i64 64)) fun x3 =>
Φ K.check_checker_need [a0, x3, (.int .i64 5)] H2 fun x4 H5 =>
 Do (aload H5 10 true x1) fun x6 =>
Φ K.check_form [x6] H5 fun x7 H8 =>
Φ K.check_checker_need [a0, x7, (.int .i64 4)] H8 fun x9 H10 =>
 Do (afaddr 0 x1) fun x11 =>
 Do (aload H10 1 false x11) fun x12 =>
 Do (afaddr 4 x1) fun x13 =>
 Do (aload H10 1 false x13) fun x14 =>
Φ K.check_Order [x12, x14] H10 fun x15 H16 =>
Φ K.check_checker_need [a0, x15, (.int .i64 11)] H16 fun x17 H18 =>
 Do (afaddr 0 x1) fun x21 =>
 Do (aload H18 1 false x21) fun x22 =>
 Do (abin .eql x22 (.int .i64 1)) fun x23 =>
 Gd x23 true (
 Do (afaddr 2 x1) fun x26 =>
 Do (aload H18 1 false x26) fun x27 =>
Φ K.kind_Name [x27] H18 fun x28 H29 =>
 Gd3 x28 true (
 Do (afaddr 2 x1) fun x30 =>
 Do (aload H29 1 false x30) fun x31 =>
Φ K.lex_Keyword [x31] H29 fun x32 H33 =>
 Do (aun .not x32) fun x34 =>
Φ K.check_checker_need [a0, x34, (.int .i64 6)] H33 fun x35 H36 =>
 JoinP (check_checker_stmt_k3 Φ a0 a2 x1 Q) [] H36) (
Φ K.check_checker_need [a0, (.bool false), (.int .i64 6)] H29 fun x113 H114 =>
 JoinP (check_checker_stmt_k3 Φ a0 a2 x1 Q) [] H114) (
 False)) (
 Do (abin .eql x22 (.int .i64 2)) fun x115 =>
 Gd x115 true (
 Do (afaddr 2 x1) fun x116 =>
 Do (aload H18 1 false x116) fun x117 =>
Φ K.check_checker_there [a0, x117] H18 fun x118 H119 =>
Φ K.check_checker_need [a0, x118, (.int .i64 6)] H119 fun x120 H121 =>
 JoinP (check_checker_stmt_k2 Φ a0 a2 x1 Q) [] H121) (
 Do (abin .eql x22 (.int .i64 3)) fun x124 =>
 Gd x124 true (
 JoinP (check_checker_stmt_k4 Φ a0 a2 x1 Q) [x124] H18) (
 Do (abin .eql x22 (.int .i64 4)) fun x131 =>
 Gd x131 true (
 JoinP (check_checker_stmt_k4 Φ a0 a2 x1 Q) [x131] H18) (
 Do (abin .eql x22 (.int .i64 5)) fun x132 =>
 Gd x132 true (
 JoinP (check_checker_stmt_k4 Φ a0 a2 x1 Q) [x132] H18) (
 Do (abin .eql x22 (.int .i64 6)) fun x133 =>
 JoinP (check_checker_stmt_k4 Φ a0 a2 x1 Q) [x133] H18)))))
def ir_check_checker_stmt : AFunc := ⟨135, [],
 .seq (.region [
   ⟨some 4, .box false 10 (.t 1), none⟩])
 (.seq (.region [
   ⟨some 6, .mv (.t 0), none⟩,
   ⟨some 7, .mv (.t 2), none⟩,
   ⟨some 8, .bin .leq (.t 7) (.k (.int .i64 64)), none⟩,
   ⟨some 9, .call K.check_checker_need [(.t 6), (.t 8), (.k (.int .i64 5))], none⟩])
 (.seq (.region [
   ⟨some 10, .mv (.t 0), none⟩,
   ⟨some 11, .load 10 true (.t 4), none⟩,
   ⟨some 12, .call K.check_form [(.t 11)], none⟩,
   ⟨some 13, .call K.check_checker_need [(.t 10), (.t 12), (.k (.int .i64 4))], none⟩])
 (.seq (.region [
   ⟨some 14, .mv (.t 0), none⟩,
   ⟨some 15, .faddr 0 (.t 4), none⟩,
   ⟨some 16, .load 1 false (.t 15), none⟩,
   ⟨some 17, .faddr 4 (.t 4), none⟩,
   ⟨some 18, .load 1 false (.t 17), none⟩,
   ⟨some 19, .call K.check_Order [(.t 16), (.t 18)], none⟩,
   ⟨some 20, .call K.check_checker_need [(.t 14), (.t 19), (.k (.int .i64 11))], none⟩])
 (.join [] [21, 22, 23, 24, 25, 26, 27, 28, 29, 30, 31, 32, 33, 34, 35, 36, 37, 38, 39, 40, 41, 42, 43, 44, 45, 46, 47, 48, 49, 50, 51, 52, 53, 54, 55, 56, 57, 58, 59, 60, 61, 62, 63, 64, 65, 66, 67, 68, 69] (.seq (.region [
   ⟨some 21, .faddr 0 (.t 4), none⟩,
   ⟨some 22, .load 1 false (.t 21), none⟩])
 (.block 0 (.seq (.region [
   ⟨some 24, .bin .eql (.t 22) (.k (.int .i64 1)), none⟩,
   ⟨some 23, .mv (.t 24), none⟩])
 (.cond (.t 23) (.join [] [25, 26, 27, 28, 29, 30, 31, 32, 33, 34, 35] (.region [
     ⟨some 25, .mv (.t 0), none⟩,
     ⟨some 26, .faddr 2 (.t 4), none⟩,
     ⟨some 27, .load 1 false (.t 26), none⟩,
     ⟨some 28, .call K.kind_Name [(.t 27)], none⟩,
     ⟨some 29, .mv (.t 28), none⟩,
     ⟨some 30, .faddr 2 (.t 4), some (29, true)⟩,
     ⟨some 31, .load 1 false (.t 30), some (29, true)⟩,
     ⟨some 32, .call K.lex_Keyword [(.t 31)], some (29, true)⟩,
     ⟨some 33, .un .not (.t 32), some (29, true)⟩,
     ⟨some 34, .pick (.t 29) (.t 33) (.k (.bool false)), none⟩,
     ⟨some 35, .call K.check_checker_need [(.t 25), (.t 34), (.k (.int .i64 6))], none⟩])
   (.seq (.region [
     ⟨some 36, .mv (.t 0), none⟩,
     ⟨some 37, .mv (.t 0), none⟩,
     ⟨some 38, .faddr 2 (.t 4), none⟩,
     ⟨some 39, .load 1 false (.t 38), none⟩,
     ⟨some 40, .call K.check_checker_there [(.t 37), (.t 39)], none⟩,
     ⟨some 41, .un .not (.t 40), none⟩,
     ⟨some 42, .call K.check_checker_need [(.t 36), (.t 41), (.k (.int .i64 7))], none⟩])
   (.region [
     ⟨some 43, .mv (.t 0), none⟩,
     ⟨some 44, .mv (.t 0), none⟩,
     ⟨some 45, .nilck (.t 44), none⟩,
     ⟨some 46, .faddr 2 (.t 45), none⟩,
     ⟨some 47, .load 1 false (.t 46), none⟩,
     ⟨some 48, .bin .lss (.t 47) (.k (.int .i64 40)), none⟩,
     ⟨some 49, .call K.check_checker_need [(.t 43), (.t 48), (.k (.int .i64 12))], none⟩])))
   (.seq (.region [
     ⟨some 51, .bin .eql (.t 22) (.k (.int .i64 2)), none⟩,
     ⟨some 50, .mv (.t 51), none⟩])
   (.cond (.t 50) (.region [
       ⟨some 52, .mv (.t 0), none⟩,
       ⟨some 53, .mv (.t 0), none⟩,
       ⟨some 54, .faddr 2 (.t 4), none⟩,
       ⟨some 55, .load 1 false (.t 54), none⟩,
       ⟨some 56, .call K.check_checker_there [(.t 53), (.t 55)], none⟩,
       ⟨some 57, .call K.check_checker_need [(.t 52), (.t 56), (.k (.int .i64 6))], none⟩])
     (.join [58] [59, 60, 61, 62] (.seq (.region [
       ⟨some 59, .bin .eql (.t 22) (.k (.int .i64 3)), none⟩,
       ⟨some 58, .mv (.t 59), none⟩])
     (.cond (.t 58) (.skip)
       (.seq (.region [
         ⟨some 60, .bin .eql (.t 22) (.k (.int .i64 4)), none⟩,
         ⟨some 58, .mv (.t 60), none⟩])
       (.cond (.t 58) (.skip)
         (.seq (.region [
           ⟨some 61, .bin .eql (.t 22) (.k (.int .i64 5)), none⟩,
           ⟨some 58, .mv (.t 61), none⟩])
         (.cond (.t 58) (.skip)
           (.region [
             ⟨some 62, .bin .eql (.t 22) (.k (.int .i64 6)), none⟩,
             ⟨some 58, .mv (.t 62), none⟩])))))))
     (.cond (.t 58) (.region [
         ⟨some 63, .mv (.t 0), none⟩,
         ⟨some 64, .faddr 0 (.t 4), none⟩,
         ⟨some 65, .load 1 false (.t 64), none⟩,
         ⟨some 66, .faddr 5 (.t 4), none⟩,
         ⟨some 67, .load 2 true (.t 66), none⟩,
         ⟨some 68, .mv (.t 2), none⟩,
         ⟨some 69, .call K.check_checker_place [(.t 63), (.t 65), (.t 67), (.t 68)], none⟩])
       (.skip)))))))))
 (.seq (.region [
   ⟨some 70, .mv (.t 0), none⟩,
   ⟨some 71, .faddr 7 (.t 4), none⟩,
   ⟨some 72, .load 1 false (.t 71), none⟩,
   ⟨some 73, .mv (.t 2), none⟩,
   ⟨some 74, .call K.check_checker_exprs [(.t 70), (.t 72), (.t 73)], none⟩])
 (.join [] [75, 76, 77, 78, 79, 80, 81, 82, 83, 84, 85, 86, 87, 88, 89, 90, 91, 92, 93, 94, 95, 96, 97, 98, 99, 100, 101, 102, 103, 104, 105, 106, 107, 108, 109, 110, 111, 112, 113, 114, 115, 116, 117] (.seq (.region [
   ⟨some 75, .faddr 0 (.t 4), none⟩,
   ⟨some 76, .load 1 false (.t 75), none⟩])
 (.block 1 (.seq (.region [
   ⟨some 78, .bin .eql (.t 76) (.k (.int .i64 1)), none⟩,
   ⟨some 77, .mv (.t 78), none⟩])
 (.cond (.t 77) (.seq (.draw [
     ⟨some 79, .mv (.t 0), none⟩,
     ⟨some 80, .mv (.t 0), none⟩,
     ⟨some 81, .nilck (.t 80), none⟩,
     ⟨some 82, .faddr 1 (.t 81), none⟩,
     ⟨some 83, .load 1 false (.t 82), none⟩,
     ⟨some 84, .faddr 2 (.t 4), none⟩,
     ⟨some 85, .load 1 false (.t 84), none⟩,
     ⟨some 86, .bslice false 1 1 [.str []] [(0, 1, (.t 85))], none⟩,
     ⟨some 87, .append false 1 16 (.t 83) (.t 86), none⟩,
     ⟨some 88, .nilck (.t 79), none⟩,
     ⟨some 89, .faddr 1 (.t 88), none⟩,
     ⟨none, .store 1 (.t 89) (.t 87), none⟩]
   [[], [], [1], [1, 2], [1, 2, 3], [], [5], [5, 6], [1, 2, 3, 4, 5, 6, 7], [0, 1, 2, 3, 4, 5, 6, 7, 8], [0, 1, 2, 3, 4, 5, 6, 7, 8, 9], [0, 1, 2, 3, 4, 5, 6, 7, 8, 9, 10]] [([0, 1, 2, 3, 4, 5, 6, 7], 8, []), ([9, 10], 11, [])] [])
   (.region [
     ⟨some 90, .mv (.t 0), none⟩,
     ⟨some 91, .nilck (.t 90), none⟩,
     ⟨some 92, .faddr 2 (.t 91), none⟩,
     ⟨some 93, .load 1 false (.t 92), none⟩,
     ⟨some 94, .bin .add (.t 93) (.k (.int .i64 1)), none⟩,
     ⟨some 95, .nilck (.t 90), none⟩,
     ⟨some 96, .faddr 2 (.t 95), none⟩,
     ⟨none, .store 1 (.t 96) (.t 94), none⟩]))
   (.seq (.region [
     ⟨some 98, .bin .eql (.t 76) (.k (.int .i64 5)), none⟩,
     ⟨some 97, .mv (.t 98), none⟩])
   (.cond (.t 97) (.seq (.region [
       ⟨some 99, .mv (.t 0), none⟩,
       ⟨some 100, .mv (.t 0), none⟩,
       ⟨some 101, .faddr 2 (.t 4), none⟩,
       ⟨some 102, .load 1 false (.t 101), none⟩,
       ⟨some 103, .call K.check_checker_there [(.t 100), (.t 102)], none⟩,
       ⟨some 104, .call K.check_checker_need [(.t 99), (.t 103), (.k (.int .i64 6))], none⟩])
     (.seq (.region [
       ⟨some 105, .mv (.t 0), none⟩,
       ⟨some 106, .mv (.t 0), none⟩,
       ⟨some 107, .faddr 3 (.t 4), none⟩,
       ⟨some 108, .load 1 false (.t 107), none⟩,
       ⟨some 109, .call K.check_checker_there [(.t 106), (.t 108)], none⟩,
       ⟨some 110, .call K.check_checker_need [(.t 105), (.t 109), (.k (.int .i64 6))], none⟩])
     (.region [
       ⟨some 111, .mv (.t 0), none⟩,
       ⟨some 112, .faddr 2 (.t 4), none⟩,
       ⟨some 113, .load 1 false (.t 112), none⟩,
       ⟨some 114, .faddr 3 (.t 4), none⟩,
       ⟨some 115, .load 1 false (.t 114), none⟩,
       ⟨some 116, .bin .neq (.t 113) (.t 115), none⟩,
       ⟨some 117, .call K.check_checker_need [(.t 111), (.t 116), (.k (.int .i64 7))], none⟩])))
     (.skip)))))))
 (.seq (.region [
   ⟨some 118, .mv (.t 0), none⟩,
   ⟨some 119, .faddr 8 (.t 4), none⟩,
   ⟨some 120, .load 1 false (.t 119), none⟩,
   ⟨some 121, .mv (.t 2), none⟩,
   ⟨some 122, .bin .add (.t 121) (.k (.int .i64 1)), none⟩,
   ⟨some 123, .call K.check_checker_block [(.t 118), (.t 120), (.t 122)], none⟩])
 (.seq (.region [
   ⟨some 124, .mv (.t 0), none⟩,
   ⟨some 125, .faddr 1 (.t 4), none⟩,
   ⟨some 126, .load 1 false (.t 125), none⟩,
   ⟨some 127, .nilck (.t 124), none⟩,
   ⟨some 128, .faddr 3 (.t 127), none⟩,
   ⟨none, .store 1 (.t 128) (.t 126), none⟩])
 (.region [
   ⟨some 129, .mv (.t 0), none⟩,
   ⟨some 130, .faddr 9 (.t 4), none⟩,
   ⟨some 131, .load 1 false (.t 130), none⟩,
   ⟨some 132, .mv (.t 2), none⟩,
   ⟨some 133, .bin .add (.t 132) (.k (.int .i64 1)), none⟩,
   ⟨some 134, .call K.check_checker_block [(.t 129), (.t 131), (.t 133)], none⟩])))))))))⟩
theorem eq_check_checker_stmt (Φ : Calls') (a0 a1 a2 : AV) (H : AH) (Q : Post) : fnE1 Φ ir_check_checker_stmt [a0, a1, a2] H Q = check_checker_stmt Φ a0 a1 a2 H Q := by kernel_rfl

/-! (rabbet/check.checker).need -/
def check_checker_need_k1 (Φ : Calls') (a0 : AV) (a2 : AV) (Q : Post) : List AV → AH → Prop := fun j1 H2 =>
 Gd (sl j1 0) true (
 Do (anilck a0) fun x7 =>
 Do (afaddr 3 x7) fun x8 =>
 Do (aload H2 1 false x8) fun x9 =>
 Do (abuild [.int .i64 0, .int .i64 0] [(0, 1, x9), (1, 1, a2)]) fun x10 =>
 Do (anilck a0) fun x11 =>
 Do (afaddr 4 x11) fun x12 =>
 Do (astore H2 2 x12 x10) fun H13 =>
 Q (.tup []) H13) (
 Q (.tup []) H2)
def check_checker_need (Φ : Calls') (a0 : AV) (a1 : AV) (a2 : AV) (H : AH) (Q : Post) : Prop :=
 Do (aun .not a1) fun x3 =>
 Gd3 x3 true (
Φ K.check_checker_bad [a0] H fun x4 H5 =>
 Do (aun .not x4) fun x6 =>
 JoinP (check_checker_need_k1 Φ a0 a2 Q) [x6] H5) (
 JoinP (check_checker_need_k1 Φ a0 a2 Q) [(.bool false)] H) (
 False)
def ir_check_checker_need : AFunc := ⟨22, [],
 .join [12] [6, 7, 8, 9, 10, 11] (.region [
   ⟨some 6, .mv (.t 1), none⟩,
   ⟨some 7, .un .not (.t 6), none⟩,
   ⟨some 8, .mv (.t 7), none⟩,
   ⟨some 9, .mv (.t 0), some (8, true)⟩,
   ⟨some 10, .call K.check_checker_bad [(.t 9)], some (8, true)⟩,
   ⟨some 11, .un .not (.t 10), some (8, true)⟩,
   ⟨some 12, .pick (.t 8) (.t 11) (.k (.bool false)), none⟩])
 (.cond (.t 12) (.region [
     ⟨some 13, .mv (.t 0), none⟩,
     ⟨some 14, .mv (.t 0), none⟩,
     ⟨some 15, .nilck (.t 14), none⟩,
     ⟨some 16, .faddr 3 (.t 15), none⟩,
     ⟨some 17, .load 1 false (.t 16), none⟩,
     ⟨some 18, .mv (.t 2), none⟩,
     ⟨some 19, .build [.int .i64 0, .int .i64 0] [(0, 1, (.t 17)), (1, 1, (.t 18))], none⟩,
     ⟨some 20, .nilck (.t 13), none⟩,
     ⟨some 21, .faddr 4 (.t 20), none⟩,
     ⟨none, .store 2 (.t 21) (.t 19), none⟩])
   (.skip))⟩
theorem eq_check_checker_need (Φ : Calls') (a0 a1 a2 : AV) (H : AH) (Q : Post) : fnE1 Φ ir_check_checker_need [a0, a1, a2] H Q = check_checker_need Φ a0 a1 a2 H Q := by kernel_rfl

/-! rabbet/check.form -/
def check_form_k1 (Φ : Calls') (x1 : AV) (x9 : AV) (Q : Post) : List AV → AH → Prop := fun j42 H43 =>
 Gd3 (sl j42 0) true (
 Do (afaddr 5 x9) fun x50 =>
 Do (aload H43 1 false x50) fun x51 =>
 Gd3 x51 false (
 Do (afaddr 9 x1) fun x52 =>
 Do (aload H43 1 false x52) fun x53 =>
 Do (alen false x53) fun x54 =>
 Do (abin .eql x54 (.int .i64 0)) fun x55 =>
 Q x55 H43) (
 Q (.bool true) H43) (
 False)) (
 Q (.bool false) H43) (
 False)
def check_form_k2 (Φ : Calls') (x1 : AV) (x9 : AV) (Q : Post) : List AV → AH → Prop := fun j34 H35 =>
 Gd3 (sl j34 0) true (
 Do (afaddr 4 x9) fun x44 =>
 Do (aload H35 1 false x44) fun x45 =>
 Gd3 x45 false (
 Do (afaddr 8 x1) fun x46 =>
 Do (aload H35 1 false x46) fun x47 =>
 Do (alen false x47) fun x48 =>
 Do (abin .eql x48 (.int .i64 0)) fun x49 =>
 JoinP (check_form_k1 Φ x1 x9 Q) [x49] H35) (
 JoinP (check_form_k1 Φ x1 x9 Q) [(.bool true)] H35) (
 False)) (
 JoinP (check_form_k1 Φ x1 x9 Q) [(.bool false)] H35) (
 False)
def check_form_k3 (Φ : Calls') (x1 : AV) (x9 : AV) (Q : Post) : List AV → AH → Prop := fun j26 H27 =>
 Gd3 (sl j26 0) true (
 Do (afaddr 7 x1) fun x36 =>
 Do (aload H27 1 false x36) fun x37 =>
 Do (alen false x37) fun x38 =>
 Do (afaddr 3 x9) fun x39 =>
 Do (aload H27 1 false x39) fun x40 =>
 Do (abin .eql x38 x40) fun x41 =>
 JoinP (check_form_k2 Φ x1 x9 Q) [x41] H27) (
 JoinP (check_form_k2 Φ x1 x9 Q) [(.bool false)] H27) (
 False)
def check_form_k4 (Φ : Calls') (x1 : AV) (x9 : AV) (Q : Post) : List AV → AH → Prop := fun j19 H20 =>
 Gd3 (sl j19 0) true (
 Do (afaddr 2 x9) fun x28 =>
 Do (aload H20 1 false x28) fun x29 =>
 Gd3 x29 false (
 Do (afaddr 5 x1) fun x30 =>
 Do (aload H20 2 true x30) fun x31 =>
Φ K.check_empty [x31] H20 fun x32 H33 =>
 JoinP (check_form_k3 Φ x1 x9 Q) [x32] H33) (
 JoinP (check_form_k3 Φ x1 x9 Q) [(.bool true)] H20) (
 False)) (
 JoinP (check_form_k3 Φ x1 x9 Q) [(.bool false)] H20) (
 False)
def check_form_k5 (Φ : Calls') (x1 : AV) (x9 : AV) (Q : Post) : List AV → AH → Prop := fun j12 H13 =>
 Gd3 (sl j12 0) true (
 Do (afaddr 1 x9) fun x21 =>
 Do (aload H13 1 false x21) fun x22 =>
 Gd3 x22 false (
 Do (afaddr 3 x1) fun x23 =>
 Do (aload H13 1 false x23) fun x24 =>
 Do (abin .eql x24 (.str [])) fun x25 =>
 JoinP (check_form_k4 Φ x1 x9 Q) [x25] H13) (
 JoinP (check_form_k4 Φ x1 x9 Q) [(.bool true)] H13) (
 False)) (
 JoinP (check_form_k4 Φ x1 x9 Q) [(.bool false)] H13) (
 False)
def check_form (Φ : Calls') (a0 : AV) (H : AH) (Q : Post) : Prop :=
 DoH (aboxv H false 10 a0) fun x1 H2 =>
 Do (afaddr 0 x1) fun x3 =>
 Do (aload H2 1 false x3) fun x4 =>
Φ K.check_of [x4] H2 fun x5 H6 =>
 Do (aextract 0 x5) fun x7 =>
 Do (aextract 1 x5) fun x8 =>
 DoH (some (abox H6 true [.bool false, .bool false, .bool false, .int .i64 0, .bool false, .bool false])) fun x9 H10 =>
 Do (astore H10 6 x9 x7) fun H11 =>
 Gd3 x8 true (
 Do (afaddr 0 x9) fun x14 =>
 Do (aload H11 1 false x14) fun x15 =>
 Gd3 x15 false (
 Do (afaddr 2 x1) fun x16 =>
 Do (aload H11 1 false x16) fun x17 =>
 Do (abin .eql x17 (.str [])) fun x18 =>
 JoinP (check_form_k5 Φ x1 x9 Q) [x18] H11) (
 JoinP (check_form_k5 Φ x1 x9 Q) [(.bool true)] H11) (
 False)) (
 JoinP (check_form_k5 Φ x1 x9 Q) [(.bool false)] H11) (
 False)
def ir_check_form : AFunc := ⟨67, [.tmp 2],
 .seq (.region [
   ⟨some 1, .box false 10 (.t 0), none⟩,
   ⟨some 2, .mv (.k (.bool false)), none⟩])
 (.seq (.region [
   ⟨some 6, .faddr 0 (.t 1), none⟩,
   ⟨some 7, .load 1 false (.t 6), none⟩,
   ⟨some 8, .call K.check_of [(.t 7)], none⟩,
   ⟨some 5, .mv (.t 8), none⟩,
   ⟨some 9, .extract 0 (.t 5), none⟩,
   ⟨some 10, .extract 1 (.t 5), none⟩,
   ⟨some 3, .alloc true [.bool false, .bool false, .bool false, .int .i64 0, .bool false, .bool false], none⟩,
   ⟨none, .store 6 (.t 3) (.t 9), none⟩,
   ⟨some 4, .mv (.t 10), none⟩])
 (.seq (.rjoin [20] [11, 12, 13, 14, 15, 16, 17, 18, 19] [
   ⟨some 11, .mv (.t 4), none⟩,
   ⟨some 12, .mv (.t 11), none⟩,
   ⟨some 13, .faddr 0 (.t 3), some (12, true)⟩,
   ⟨some 14, .load 1 false (.t 13), some (12, true)⟩,
   ⟨some 15, .mv (.t 14), some (12, true)⟩,
   ⟨some 16, .faddr 2 (.t 1), some (15, false)⟩,
   ⟨some 17, .load 1 false (.t 16), some (15, false)⟩,
   ⟨some 18, .bin .eql (.t 17) (.k (.str [])), some (15, false)⟩,
   ⟨some 19, .pick (.t 15) (.k (.bool true)) (.t 18), some (12, true)⟩,
   ⟨some 20, .pick (.t 12) (.t 19) (.k (.bool false)), none⟩]
 (.rjoin [29] [21, 22, 23, 24, 25, 26, 27, 28] [
   ⟨some 21, .mv (.t 20), none⟩,
   ⟨some 22, .faddr 1 (.t 3), some (21, true)⟩,
   ⟨some 23, .load 1 false (.t 22), some (21, true)⟩,
   ⟨some 24, .mv (.t 23), some (21, true)⟩,
   ⟨some 25, .faddr 3 (.t 1), some (24, false)⟩,
   ⟨some 26, .load 1 false (.t 25), some (24, false)⟩,
   ⟨some 27, .bin .eql (.t 26) (.k (.str [])), some (24, false)⟩,
   ⟨some 28, .pick (.t 24) (.k (.bool true)) (.t 27), some (21, true)⟩,
   ⟨some 29, .pick (.t 21) (.t 28) (.k (.bool false)), none⟩]
 (.rjoin [38] [30, 31, 32, 33, 34, 35, 36, 37] [
   ⟨some 30, .mv (.t 29), none⟩,
   ⟨some 31, .faddr 2 (.t 3), some (30, true)⟩,
   ⟨some 32, .load 1 false (.t 31), some (30, true)⟩,
   ⟨some 33, .mv (.t 32), some (30, true)⟩,
   ⟨some 34, .faddr 5 (.t 1), some (33, false)⟩,
   ⟨some 35, .load 2 true (.t 34), some (33, false)⟩,
   ⟨some 36, .call K.check_empty [(.t 35)], some (33, false)⟩,
   ⟨some 37, .pick (.t 33) (.k (.bool true)) (.t 36), some (30, true)⟩,
   ⟨some 38, .pick (.t 30) (.t 37) (.k (.bool false)), none⟩]
 (.rjoin [46] [39, 40, 41, 42, 43, 44, 45] [
   ⟨some 39, .mv (.t 38), none⟩,
   ⟨some 40, .faddr 7 (.t 1), some (39, true)⟩,
   ⟨some 41, .load 1 false (.t 40), some (39, true)⟩,
   ⟨some 42, .len false (.t 41), some (39, true)⟩,
   ⟨some 43, .faddr 3 (.t 3), some (39, true)⟩,
   ⟨some 44, .load 1 false (.t 43), some (39, true)⟩,
   ⟨some 45, .bin .eql (.t 42) (.t 44), some (39, true)⟩,
   ⟨some 46, .pick (.t 39) (.t 45) (.k (.bool false)), none⟩]
 (.rjoin [56] [47, 48, 49, 50, 51, 52, 53, 54, 55] [
   ⟨some 47, .mv (.t 46), none⟩,
   ⟨some 48, .faddr 4 (.t 3), some (47, true)⟩,
   ⟨some 49, .load 1 false (.t 48), some (47, true)⟩,
   ⟨some 50, .mv (.t 49), some (47, true)⟩,
   ⟨some 51, .faddr 8 (.t 1), some (50, false)⟩,
   ⟨some 52, .load 1 false (.t 51), some (50, false)⟩,
   ⟨some 53, .len false (.t 52), some (50, false)⟩,
   ⟨some 54, .bin .eql (.t 53) (.k (.int .i64 0)), some (50, false)⟩,
   ⟨some 55, .pick (.t 50) (.k (.bool true)) (.t 54), some (47, true)⟩,
   ⟨some 56, .pick (.t 47) (.t 55) (.k (.bool false)), none⟩]
 (.region [
   ⟨some 57, .mv (.t 56), none⟩,
   ⟨some 58, .faddr 5 (.t 3), some (57, true)⟩,
   ⟨some 59, .load 1 false (.t 58), some (57, true)⟩,
   ⟨some 60, .mv (.t 59), some (57, true)⟩,
   ⟨some 61, .faddr 9 (.t 1), some (60, false)⟩,
   ⟨some 62, .load 1 false (.t 61), some (60, false)⟩,
   ⟨some 63, .len false (.t 62), some (60, false)⟩,
   ⟨some 64, .bin .eql (.t 63) (.k (.int .i64 0)), some (60, false)⟩,
   ⟨some 65, .pick (.t 60) (.k (.bool true)) (.t 64), some (57, true)⟩,
   ⟨some 66, .pick (.t 57) (.t 65) (.k (.bool false)), none⟩,
   ⟨some 2, .mv (.t 66), none⟩]))))))
 (.ret)))⟩
theorem eq_check_form (Φ : Calls') (a0 : AV) (H : AH) (Q : Post) : fnE1 Φ ir_check_form [a0] H Q = check_form Φ a0 H Q := by kernel_rfl

/-! (rabbet/check.checker).there -/
def check_checker_there (Φ : Calls') (a0 : AV) (a1 : AV) (H : AH) (Q : Post) : Prop :=
 Do (anilck a0) fun x1 =>
 Do (afaddr 1 x1) fun x2 =>
 Do (aload H 1 false x2) fun x3 =>
Φ K.slices_Contains___string_string_ [x3, a1] H fun x4 H5 =>
 Q x4 H5
def ir_check_checker_there : AFunc := ⟨11, [.tmp 4],
 .seq (.region [
   ⟨some 4, .mv (.k (.bool false)), none⟩])
 (.seq (.region [
   ⟨some 5, .mv (.t 0), none⟩,
   ⟨some 6, .nilck (.t 5), none⟩,
   ⟨some 7, .faddr 1 (.t 6), none⟩,
   ⟨some 8, .load 1 false (.t 7), none⟩,
   ⟨some 9, .mv (.t 1), none⟩,
   ⟨some 10, .call K.slices_Contains___string_string_ [(.t 8), (.t 9)], none⟩,
   ⟨some 4, .mv (.t 10), none⟩])
 (.ret))⟩
theorem eq_check_checker_there (Φ : Calls') (a0 a1 : AV) (H : AH) (Q : Post) : fnE1 Φ ir_check_checker_there [a0, a1] H Q = check_checker_there Φ a0 a1 H Q := by kernel_rfl

/-! (rabbet/check.checker).place -/
def check_checker_place_k1 (Φ : Calls') (s31 : List AV × AH) (L32 : (List AV × AH) → Prop) (Q : Post) : List AV → AH → Prop := fun j34 H35 =>
 Do (abin .add (sl s31.1 0) (.int .i64 1)) fun x57 =>
 L32 ([x57], H35)
def check_checker_place_l2 (Φ : Calls') (a0 : AV) (a3 : AV) (x42 : AV) (x43 : AV) (s31 : List AV × AH) (L32 : (List AV × AH) → Prop) (Q : Post) : (List AV × AH) → ((List AV × AH) → Prop) → Prop := fun s44 L45 =>
 Do (abin .lss (sl s44.1 0) x43) fun x46 =>
 Gd x46 true (
 Do (aiaddr none 8 x42 (sl s44.1 0)) fun x47 =>
 Do (aload s44.2 8 true x47) fun x48 =>
 DoH (some (abox s44.2 true [.int .i64 0, .int .u64 0, .str [], .int .i64 0, .int .i64 0, .str [], .lst .nil 0 [], .lst .nil 0 []])) fun x49 H50 =>
 Do (astore H50 8 x49 x48) fun H51 =>
 Do (aload H51 8 true x49) fun x52 =>
 Do (abin .add a3 (.int .i64 1)) fun x53 =>
Φ K.check_checker_expr [a0, x52, x53] H51 fun x54 H55 =>
 Do (abin .add (sl s44.1 0) (.int .i64 1)) fun x56 =>
 L45 ([x56], H55)) (
 JoinP (check_checker_place_k1 Φ s31 L32 Q) [] s44.2)
def check_checker_place_l3 (Φ : Calls') (a0 : AV) (a3 : AV) (x29 : AV) (x30 : AV) (Q : Post) : (List AV × AH) → ((List AV × AH) → Prop) → Prop := fun s31 L32 =>
 Do (abin .lss (sl s31.1 0) x30) fun x33 =>
 Gd x33 true (
 Do (aiaddr none 2 x29 (sl s31.1 0)) fun x36 =>
 Do (aload s31.2 2 true x36) fun x37 =>
 DoH (some (abox s31.2 true [.str [], .lst .nil 0 []])) fun x38 H39 =>
 Do (astore H39 2 x38 x37) fun H40 =>
 Do (afaddr 1 x38) fun x41 =>
 Do (aload H40 1 false x41) fun x42 =>
 Do (alen false x42) fun x43 =>
 LoopP (check_checker_place_l2 Φ a0 a3 x42 x43 s31 L32 Q) ([(.int .i64 0)], H40)) (
 Q (.tup []) s31.2)
def check_checker_place_k4 (Φ : Calls') (a0 : AV) (a3 : AV) (x1 : AV) (Q : Post) : List AV → AH → Prop := fun j19 H20 =>
 Do (afaddr 1 x1) fun x28 =>
 Do (aload H20 1 false x28) fun x29 =>
 Do (alen false x29) fun x30 =>
 LoopP (check_checker_place_l3 Φ a0 a3 x29 x30 Q) ([(.int .i64 0)], H20)
def check_checker_place (Φ : Calls') (a0 : AV) (a1 : AV) (a2 : AV) (a3 : AV) (H : AH) (Q : Post) : Prop :=
 DoH (aboxv H false 2 a2) fun x1 H2 =>
Φ K.check_checker_bad [a0] H2 fun x3 H4 =>
 Gd x3 true (
 Q (.tup []) H4) (
 Do (anilck a0) fun x5 =>
 Do (afaddr 0 x5) fun x6 =>
 Do (aload H4 1 false x6) fun x7 =>
 Do (aload H4 2 true x1) fun x8 =>
Φ K.check_Place [x7, x8] H4 fun x9 H10 =>
 Do (aextract 0 x9) fun x11 =>
 Do (aextract 1 x9) fun x12 =>
 DoH (some (abox H10 true [.int .i64 0, .int .i64 0, .bool false, .lst .nil 0 [], .int .i64 0, .lst .nil 0 []])) fun x13 H14 =>
(aload H14 1 false x6 = some x7) ∧
(aload H14 2 true x1 = some x8) ∧
(Do (astore H14 6 x13 x11) fun H15 =>
 Do (abin .eql x12 (.int .i64 0)) fun x16 =>
Φ K.check_checker_need [a0, x16, x12] H15 fun x17 H18 =>
Φ K.check_checker_bad [a0] H18 fun x21 H22 =>
 Gd3 x21 false (
 Do (aload H22 6 true x13) fun x23 =>
Φ K.check_fits [a1, x23] H22 fun x24 H25 =>
Φ K.check_checker_need [a0, x24, (.int .i64 8)] H25 fun x26 H27 =>
 JoinP (check_checker_place_k4 Φ a0 a3 x1 Q) [] H27) (
Φ K.check_checker_need [a0, (.bool true), (.int .i64 8)] H22 fun x58 H59 =>
 JoinP (check_checker_place_k4 Φ a0 a3 x1 Q) [] H59) (
 False)))
def ir_check_checker_place : AFunc := ⟨60, [],
 .seq (.region [
   ⟨some 6, .box false 2 (.t 2), none⟩])
 (.seq (.seq (.region [
   ⟨some 14, .mv (.t 0), none⟩,
   ⟨some 15, .call K.check_checker_bad [(.t 14)], none⟩])
 (.cond (.t 15) (.ret)
   (.skip)))
 (.seq (.draw [
   ⟨some 17, .mv (.t 0), none⟩,
   ⟨some 18, .nilck (.t 17), none⟩,
   ⟨some 19, .faddr 0 (.t 18), none⟩,
   ⟨some 20, .load 1 false (.t 19), none⟩,
   ⟨some 21, .load 2 true (.t 6), none⟩,
   ⟨some 22, .call K.check_Place [(.t 20), (.t 21)], none⟩,
   ⟨some 16, .mv (.t 22), none⟩,
   ⟨some 23, .extract 0 (.t 16), none⟩,
   ⟨some 24, .extract 1 (.t 16), none⟩,
   ⟨some 8, .alloc true [.int .i64 0, .int .i64 0, .bool false, .lst .nil 0 [], .int .i64 0, .lst .nil 0 []], none⟩,
   ⟨none, .store 6 (.t 8) (.t 23), none⟩,
   ⟨some 9, .mv (.t 24), none⟩]
 [[], [0], [0, 1], [0, 1, 2], [], [0, 1, 2, 3, 4], [0, 1, 2, 3, 4, 5], [0, 1, 2, 3, 4, 5, 6], [0, 1, 2, 3, 4, 5, 6], [], [0, 1, 2, 3, 4, 5, 6, 7, 9], [0, 1, 2, 3, 4, 5, 6, 7, 8, 9, 10]] [([0, 1, 2, 3, 4], 5, []), ([6, 7, 8], 9, [3, 4]), ([], 10, [])] [11])
 (.seq (.region [
   ⟨some 25, .mv (.t 0), none⟩,
   ⟨some 26, .mv (.t 9), none⟩,
   ⟨some 27, .bin .eql (.t 26) (.k (.int .i64 0)), none⟩,
   ⟨some 28, .mv (.t 9), none⟩,
   ⟨some 29, .call K.check_checker_need [(.t 25), (.t 27), (.t 28)], none⟩])
 (.join [] [30, 31, 32, 33, 34, 35, 36, 37, 38] (.region [
   ⟨some 30, .mv (.t 0), none⟩,
   ⟨some 31, .mv (.t 0), none⟩,
   ⟨some 32, .call K.check_checker_bad [(.t 31)], none⟩,
   ⟨some 33, .mv (.t 32), none⟩,
   ⟨some 34, .mv (.t 1), some (33, false)⟩,
   ⟨some 35, .load 6 true (.t 8), some (33, false)⟩,
   ⟨some 36, .call K.check_fits [(.t 34), (.t 35)], some (33, false)⟩,
   ⟨some 37, .pick (.t 33) (.k (.bool true)) (.t 36), none⟩,
   ⟨some 38, .call K.check_checker_need [(.t 30), (.t 37), (.k (.int .i64 8))], none⟩])
 (.seq (.region [
   ⟨some 39, .faddr 1 (.t 6), none⟩,
   ⟨some 40, .load 1 false (.t 39), none⟩,
   ⟨some 41, .len false (.t 40), none⟩,
   ⟨some 42, .mv (.k (.int .i64 0)), none⟩])
 (.block 0 (.loop [42] [11, 13, 43, 44, 45, 46, 47, 48, 49, 50, 51, 52, 53, 54, 55, 56, 57, 58, 59] (.seq (.region [
   ⟨some 43, .bin .lss (.t 42) (.t 41), none⟩])
 (.seq (.cond (.t 43) (.skip)
   (.exit 0))
 (.join [] [11, 13, 44, 45, 46, 47, 48, 49, 50, 51, 52, 53, 54, 55, 56, 57, 58] (.block 1 (.seq (.region [
   ⟨some 44, .iaddr none 2 (.t 40) (.t 42), none⟩,
   ⟨some 45, .load 2 true (.t 44), none⟩,
   ⟨some 11, .alloc true [.str [], .lst .nil 0 []], none⟩,
   ⟨none, .store 2 (.t 11) (.t 45), none⟩])
 (.seq (.region [
   ⟨some 46, .faddr 1 (.t 11), none⟩,
   ⟨some 47, .load 1 false (.t 46), none⟩,
   ⟨some 48, .len false (.t 47), none⟩,
   ⟨some 49, .mv (.k (.int .i64 0)), none⟩])
 (.block 2 (.loop [49] [13, 50, 51, 52, 53, 54, 55, 56, 57, 58] (.seq (.region [
   ⟨some 50, .bin .lss (.t 49) (.t 48), none⟩])
 (.seq (.cond (.t 50) (.skip)
   (.exit 2))
 (.seq (.block 3 (.seq (.region [
   ⟨some 51, .iaddr none 8 (.t 47) (.t 49), none⟩,
   ⟨some 52, .load 8 true (.t 51), none⟩,
   ⟨some 13, .alloc true [.int .i64 0, .int .u64 0, .str [], .int .i64 0, .int .i64 0, .str [], .lst .nil 0 [], .lst .nil 0 []], none⟩,
   ⟨none, .store 8 (.t 13) (.t 52), none⟩])
 (.region [
   ⟨some 53, .mv (.t 0), none⟩,
   ⟨some 54, .load 8 true (.t 13), none⟩,
   ⟨some 55, .mv (.t 3), none⟩,
   ⟨some 56, .bin .add (.t 55) (.k (.int .i64 1)), none⟩,
   ⟨some 57, .call K.check_checker_expr [(.t 53), (.t 54), (.t 56)], none⟩])))
 (.region [
   ⟨some 58, .bin .add (.t 49) (.k (.int .i64 1)), none⟩,
   ⟨some 49, .mv (.t 58), none⟩])))))))))
 (.region [
   ⟨some 59, .bin .add (.t 42) (.k (.int .i64 1)), none⟩,
   ⟨some 42, .mv (.t 59), none⟩])))))))))))⟩
theorem eq_check_checker_place (Φ : Calls') (a0 a1 a2 a3 : AV) (H : AH) (Q : Post) : fnE1 Φ ir_check_checker_place [a0, a1, a2, a3] H Q = check_checker_place Φ a0 a1 a2 a3 H Q := by kernel_rfl

/-! (rabbet/check.checker).exprs -/
def check_checker_exprs_k1 (Φ : Calls') (s2 : List AV × AH) (L3 : (List AV × AH) → Prop) (Q : Post) : List AV → AH → Prop := fun j5 H6 =>
 Do (abin .add (sl s2.1 0) (.int .i64 1)) fun x19 =>
 L3 ([x19], H6)
def check_checker_exprs_l2 (Φ : Calls') (a0 : AV) (a1 : AV) (a2 : AV) (x1 : AV) (Q : Post) : (List AV × AH) → ((List AV × AH) → Prop) → Prop := fun s2 L3 =>
 Do (abin .lss (sl s2.1 0) x1) fun x4 =>
 Gd x4 true (
 Do (aiaddr none 8 a1 (sl s2.1 0)) fun x7 =>
 Do (aload s2.2 8 true x7) fun x8 =>
 DoH (some (abox s2.2 true [.int .i64 0, .int .u64 0, .str [], .int .i64 0, .int .i64 0, .str [], .lst .nil 0 [], .lst .nil 0 []])) fun x9 H10 =>
 Do (astore H10 8 x9 x8) fun H11 =>
Φ K.check_checker_bad [a0] H11 fun x12 H13 =>
 Do (aun .not x12) fun x14 =>
 Gd x14 true (
 Do (aload H13 8 true x9) fun x15 =>
 Do (abin .add a2 (.int .i64 1)) fun x16 =>
Φ K.check_checker_expr [a0, x15, x16] H13 fun x17 H18 =>
 JoinP (check_checker_exprs_k1 Φ s2 L3 Q) [] H18) (
 JoinP (check_checker_exprs_k1 Φ s2 L3 Q) [] H13)) (
 Q (.tup []) s2.2)
def check_checker_exprs (Φ : Calls') (a0 : AV) (a1 : AV) (a2 : AV) (H : AH) (Q : Post) : Prop :=
 Do (alen false a1) fun x1 =>
 LoopP (check_checker_exprs_l2 Φ a0 a1 a2 x1 Q) ([(.int .i64 0)], H)
def ir_check_checker_exprs : AFunc := ⟨23, [],
 .seq (.region [
   ⟨some 8, .mv (.t 1), none⟩,
   ⟨some 9, .len false (.t 8), none⟩,
   ⟨some 10, .mv (.k (.int .i64 0)), none⟩])
 (.block 0 (.loop [10] [7, 11, 12, 13, 14, 15, 16, 17, 18, 19, 20, 21, 22] (.seq (.region [
   ⟨some 11, .bin .lss (.t 10) (.t 9), none⟩])
 (.seq (.cond (.t 11) (.skip)
   (.exit 0))
 (.join [] [7, 12, 13, 14, 15, 16, 17, 18, 19, 20, 21] (.block 1 (.seq (.region [
   ⟨some 12, .iaddr none 8 (.t 8) (.t 10), none⟩,
   ⟨some 13, .load 8 true (.t 12), none⟩,
   ⟨some 7, .alloc true [.int .i64 0, .int .u64 0, .str [], .int .i64 0, .int .i64 0, .str [], .lst .nil 0 [], .lst .nil 0 []], none⟩,
   ⟨none, .store 8 (.t 7) (.t 13), none⟩])
 (.seq (.region [
   ⟨some 14, .mv (.t 0), none⟩,
   ⟨some 15, .call K.check_checker_bad [(.t 14)], none⟩,
   ⟨some 16, .un .not (.t 15), none⟩])
 (.cond (.t 16) (.region [
     ⟨some 17, .mv (.t 0), none⟩,
     ⟨some 18, .load 8 true (.t 7), none⟩,
     ⟨some 19, .mv (.t 2), none⟩,
     ⟨some 20, .bin .add (.t 19) (.k (.int .i64 1)), none⟩,
     ⟨some 21, .call K.check_checker_expr [(.t 17), (.t 18), (.t 20)], none⟩])
   (.skip)))))
 (.region [
   ⟨some 22, .bin .add (.t 10) (.k (.int .i64 1)), none⟩,
   ⟨some 10, .mv (.t 22), none⟩]))))))⟩
theorem eq_check_checker_exprs (Φ : Calls') (a0 a1 a2 : AV) (H : AH) (Q : Post) : fnE1 Φ ir_check_checker_exprs [a0, a1, a2] H Q = check_checker_exprs Φ a0 a1 a2 H Q := by kernel_rfl

/-! rabbet/check.of -/
def check_of_k1 (Φ : Calls') (x1 : AV) (Q : Post) : List AV → AH → Prop := fun j3 H4 =>
 Do (abuild [.bool false, .bool false, .bool false, .int .i64 0, .bool false, .bool false] []) fun x41 =>
 Do (astore H4 6 x1 x41) fun H42 =>
 Do (aload H42 6 true x1) fun x43 =>
 Q (.tup [x43, (.bool false)]) H42
def check_of_k2 (Φ : Calls') (a0 : AV) (x1 : AV) (Q : Post) : List AV → AH → Prop := fun j11 H12 =>
 Gd (sl j11 0) true (
 Do (abuild [.bool false, .bool false, .bool false, .int .i64 0, .bool false, .bool false] [(2, 1, (.bool true)), (3, 1, (.int .i64 1))]) fun x14 =>
 Do (astore H12 6 x1 x14) fun H15 =>
 Do (aload H15 6 true x1) fun x16 =>
 Q (.tup [x16, (.bool true)]) H15) (
 Do (abin .eql a0 (.int .i64 5)) fun x17 =>
 Gd x17 true (
 Do (abuild [.bool false, .bool false, .bool false, .int .i64 0, .bool false, .bool false] [(0, 1, (.bool true)), (1, 1, (.bool true)), (2, 1, (.bool true))]) fun x18 =>
 Do (astore H12 6 x1 x18) fun H19 =>
 Do (aload H19 6 true x1) fun x20 =>
 Q (.tup [x20, (.bool true)]) H19) (
 Do (abin .eql a0 (.int .i64 6)) fun x21 =>
 Gd x21 true (
 Do (abuild [.bool false, .bool false, .bool false, .int .i64 0, .bool false, .bool false] [(2, 1, (.bool true)), (3, 1, (.int .i64 2))]) fun x22 =>
 Do (astore H12 6 x1 x22) fun H23 =>
 Do (aload H23 6 true x1) fun x24 =>
 Q (.tup [x24, (.bool true)]) H23) (
 Do (abin .eql a0 (.int .i64 7)) fun x25 =>
 Gd x25 true (
 Do (abuild [.bool false, .bool false, .bool false, .int .i64 0, .bool false, .bool false] []) fun x26 =>
 Do (astore H12 6 x1 x26) fun H27 =>
 Do (aload H27 6 true x1) fun x28 =>
 Q (.tup [x28, (.bool true)]) H27) (
 Do (abin .eql a0 (.int .i64 8)) fun x29 =>
 Gd x29 true (
 Do (abuild [.bool false, .bool false, .bool false, .int .i64 0, .bool false, .bool false] [(3, 1, (.int .i64 1)), (4, 1, (.bool true)), (5, 1, (.bool true))]) fun x30 =>
 Do (astore H12 6 x1 x30) fun H31 =>
 Do (aload H31 6 true x1) fun x32 =>
 Q (.tup [x32, (.bool true)]) H31) (
 Do (abin .eql a0 (.int .i64 9)) fun x33 =>
 Gd x33 true (
 Do (abuild [.bool false, .bool false, .bool false, .int .i64 0, .bool false, .bool false] [(3, 1, (.int .i64 1)), (4, 1, (.bool true))]) fun x34 =>
 Do (astore H12 6 x1 x34) fun H35 =>
 Do (aload H35 6 true x1) fun x36 =>
 Q (.tup [x36, (.bool true)]) H35) (
 Do (abin .eql a0 (.int .i64 10)) fun x37 =>
 Gd x37 true (
 Do (abuild [.bool false, .bool false, .bool false, .int .i64 0, .bool false, .bool false] [(3, 1, (.int .i64 1))]) fun x38 =>
 Do (astore H12 6 x1 x38) fun H39 =>
 Do (aload H39 6 true x1) fun x40 =>
 Q (.tup [x40, (.bool true)]) H39) (
 JoinP (check_of_k1 Φ x1 Q) [] H12)))))))
def check_of_k3 (Φ : Calls') (a0 : AV) (x1 : AV) (Q : Post) : List AV → AH → Prop := fun j5 H6 =>
 Gd (sl j5 0) true (
 Do (abuild [.bool false, .bool false, .bool false, .int .i64 0, .bool false, .bool false] [(0, 1, (.bool true)), (3, 1, (.int .i64 1))]) fun x8 =>
 Do (astore H6 6 x1 x8) fun H9 =>
 Do (aload H9 6 true x1) fun x10 =>
 Q (.tup [x10, (.bool true)]) H9) (
 Do (abin .eql a0 (.int .i64 3)) fun x13 =>
 Gd x13 true (
 JoinP (check_of_k2 Φ a0 x1 Q) [x13] H6) (
 Do (abin .eql a0 (.int .i64 4)) fun x44 =>
 JoinP (check_of_k2 Φ a0 x1 Q) [x44] H6))
def check_of (Φ : Calls') (a0 : AV) (H : AH) (Q : Post) : Prop :=
 DoH (some (abox H true [.bool false, .bool false, .bool false, .int .i64 0, .bool false, .bool false])) fun x1 H2 =>
 Do (abin .eql a0 (.int .i64 1)) fun x7 =>
 Gd x7 true (
 JoinP (check_of_k3 Φ a0 x1 Q) [x7] H2) (
 Do (abin .eql a0 (.int .i64 2)) fun x45 =>
 JoinP (check_of_k3 Φ a0 x1 Q) [x45] H2)
def ir_check_of : AFunc := ⟨32, [.cell 2 6 true, .tmp 3],
 .seq (.region [
   ⟨some 2, .alloc true [.bool false, .bool false, .bool false, .int .i64 0, .bool false, .bool false], none⟩,
   ⟨some 3, .mv (.k (.bool false)), none⟩])
 (.join [] [3, 4, 5, 6, 7, 8, 9, 10, 11, 12, 13, 14, 15, 16, 17, 18, 19, 20, 21, 22, 23, 24, 25, 26, 27, 28, 29, 30] (.seq (.region [
   ⟨some 4, .mv (.t 0), none⟩])
 (.block 0 (.join [5] [6, 7] (.seq (.region [
   ⟨some 6, .bin .eql (.t 4) (.k (.int .i64 1)), none⟩,
   ⟨some 5, .mv (.t 6), none⟩])
 (.cond (.t 5) (.skip)
   (.region [
     ⟨some 7, .bin .eql (.t 4) (.k (.int .i64 2)), none⟩,
     ⟨some 5, .mv (.t 7), none⟩])))
 (.cond (.t 5) (.seq (.region [
     ⟨some 8, .build [.bool false, .bool false, .bool false, .int .i64 0, .bool false, .bool false] [(0, 1, (.k (.bool true))), (3, 1, (.k (.int .i64 1)))], none⟩,
     ⟨none, .store 6 (.t 2) (.t 8), none⟩,
     ⟨some 3, .mv (.k (.bool true)), none⟩])
   (.ret))
   (.join [9] [10, 11] (.seq (.region [
     ⟨some 10, .bin .eql (.t 4) (.k (.int .i64 3)), none⟩,
     ⟨some 9, .mv (.t 10), none⟩])
   (.cond (.t 9) (.skip)
     (.region [
       ⟨some 11, .bin .eql (.t 4) (.k (.int .i64 4)), none⟩,
       ⟨some 9, .mv (.t 11), none⟩])))
   (.cond (.t 9) (.seq (.region [
       ⟨some 12, .build [.bool false, .bool false, .bool false, .int .i64 0, .bool false, .bool false] [(2, 1, (.k (.bool true))), (3, 1, (.k (.int .i64 1)))], none⟩,
       ⟨none, .store 6 (.t 2) (.t 12), none⟩,
       ⟨some 3, .mv (.k (.bool true)), none⟩])
     (.ret))
     (.seq (.region [
       ⟨some 14, .bin .eql (.t 4) (.k (.int .i64 5)), none⟩,
       ⟨some 13, .mv (.t 14), none⟩])
     (.cond (.t 13) (.seq (.region [
         ⟨some 15, .build [.bool false, .bool false, .bool false, .int .i64 0, .bool false, .bool false] [(0, 1, (.k (.bool true))), (1, 1, (.k (.bool true))), (2, 1, (.k (.bool true)))], none⟩,
         ⟨none, .store 6 (.t 2) (.t 15), none⟩,
         ⟨some 3, .mv (.k (.bool true)), none⟩])
       (.ret))
       (.seq (.region [
         ⟨some 17, .bin .eql (.t 4) (.k (.int .i64 6)), none⟩,
         ⟨some 16, .mv (.t 17), none⟩])
       (.cond (.t 16) (.seq (.region [
           ⟨some 18, .build [.bool false, .bool false, .bool false, .int .i64 0, .bool false, .bool false] [(2, 1, (.k (.bool true))), (3, 1, (.k (.int .i64 2)))], none⟩,
           ⟨none, .store 6 (.t 2) (.t 18), none⟩,
           ⟨some 3, .mv (.k (.bool true)), none⟩])
         (.ret))
         (.seq (.region [
           ⟨some 20, .bin .eql (.t 4) (.k (.int .i64 7)), none⟩,
           ⟨some 19, .mv (.t 20), none⟩])
         (.cond (.t 19) (.seq (.region [
             ⟨some 21, .build [.bool false, .bool false, .bool false, .int .i64 0, .bool false, .bool false] [], none⟩,
             ⟨none, .store 6 (.t 2) (.t 21), none⟩,
             ⟨some 3, .mv (.k (.bool true)), none⟩])
           (.ret))
           (.seq (.region [
             ⟨some 23, .bin .eql (.t 4) (.k (.int .i64 8)), none⟩,
             ⟨some 22, .mv (.t 23), none⟩])
           (.cond (.t 22) (.seq (.region [
               ⟨some 24, .build [.bool false, .bool false, .bool false, .int .i64 0, .bool false, .bool false] [(3, 1, (.k (.int .i64 1))), (4, 1, (.k (.bool true))), (5, 1, (.k (.bool true)))], none⟩,
               ⟨none, .store 6 (.t 2) (.t 24), none⟩,
               ⟨some 3, .mv (.k (.bool true)), none⟩])
             (.ret))
             (.seq (.region [
               ⟨some 26, .bin .eql (.t 4) (.k (.int .i64 9)), none⟩,
               ⟨some 25, .mv (.t 26), none⟩])
             (.cond (.t 25) (.seq (.region [
                 ⟨some 27, .build [.bool false, .bool false, .bool false, .int .i64 0, .bool false, .bool false] [(3, 1, (.k (.int .i64 1))), (4, 1, (.k (.bool true)))], none⟩,
                 ⟨none, .store 6 (.t 2) (.t 27), none⟩,
                 ⟨some 3, .mv (.k (.bool true)), none⟩])
               (.ret))
               (.seq (.region [
                 ⟨some 29, .bin .eql (.t 4) (.k (.int .i64 10)), none⟩,
                 ⟨some 28, .mv (.t 29), none⟩])
               (.cond (.t 28) (.seq (.region [
                   ⟨some 30, .build [.bool false, .bool false, .bool false, .int .i64 0, .bool false, .bool false] [(3, 1, (.k (.int .i64 1)))], none⟩,
                   ⟨none, .store 6 (.t 2) (.t 30), none⟩,
                   ⟨some 3, .mv (.k (.bool true)), none⟩])
                 (.ret))
                 (.skip)))))))))))))))))))
 (.seq (.region [
   ⟨some 31, .build [.bool false, .bool false, .bool false, .int .i64 0, .bool false, .bool false] [], none⟩,
   ⟨none, .store 6 (.t 2) (.t 31), none⟩,
   ⟨some 3, .mv (.k (.bool false)), none⟩])
 (.ret)))⟩
theorem eq_check_of (Φ : Calls') (a0 : AV) (H : AH) (Q : Post) : fnE1 Φ ir_check_of [a0] H Q = check_of Φ a0 H Q := by kernel_rfl

/-! rabbet/check.empty -/
def check_empty (Φ : Calls') (a0 : AV) (H : AH) (Q : Post) : Prop :=
 DoH (aboxv H false 2 a0) fun x1 H2 =>
 Do (afaddr 0 x1) fun x3 =>
 Do (aload H2 1 false x3) fun x4 =>
 Do (abin .eql x4 (.str [])) fun x5 =>
 Gd3 x5 true (
 Do (afaddr 1 x1) fun x6 =>
 Do (aload H2 1 false x6) fun x7 =>
 Do (alen false x7) fun x8 =>
 Do (abin .eql x8 (.int .i64 0)) fun x9 =>
 Q x9 H2) (
 Q (.bool false) H2) (
 False)
def ir_check_empty : AFunc := ⟨12, [.tmp 2],
 .seq (.region [
   ⟨some 1, .box false 2 (.t 0), none⟩,
   ⟨some 2, .mv (.k (.bool false)), none⟩])
 (.seq (.region [
   ⟨some 3, .faddr 0 (.t 1), none⟩,
   ⟨some 4, .load 1 false (.t 3), none⟩,
   ⟨some 5, .bin .eql (.t 4) (.k (.str [])), none⟩,
   ⟨some 6, .mv (.t 5), none⟩,
   ⟨some 7, .faddr 1 (.t 1), some (6, true)⟩,
   ⟨some 8, .load 1 false (.t 7), some (6, true)⟩,
   ⟨some 9, .len false (.t 8), some (6, true)⟩,
   ⟨some 10, .bin .eql (.t 9) (.k (.int .i64 0)), some (6, true)⟩,
   ⟨some 11, .pick (.t 6) (.t 10) (.k (.bool false)), none⟩,
   ⟨some 2, .mv (.t 11), none⟩])
 (.ret))⟩
theorem eq_check_empty (Φ : Calls') (a0 : AV) (H : AH) (Q : Post) : fnE1 Φ ir_check_empty [a0] H Q = check_empty Φ a0 H Q := by kernel_rfl

/-! rabbet/check.fits -/
def check_fits_k1 (Φ : Calls') (x1 : AV) (Q : Post) : List AV → AH → Prop := fun j3 H4 =>
 Do (afaddr 0 x1) fun x20 =>
 Do (aload H4 1 false x20) fun x21 =>
 Do (abin .eql x21 (.int .i64 2)) fun x22 =>
 Gd3 x22 true (
 Do (afaddr 1 x1) fun x23 =>
 Do (aload H4 1 false x23) fun x24 =>
 Do (abin .leq x24 (.int .i64 8)) fun x25 =>
 Q x25 H4) (
 Q (.bool false) H4) (
 False)
def check_fits_k2 (Φ : Calls') (x1 : AV) (Q : Post) : List AV → AH → Prop := fun j11 H12 =>
 Gd (sl j11 0) true (
 Do (afaddr 0 x1) fun x14 =>
 Do (aload H12 1 false x14) fun x15 =>
 Do (abin .eql x15 (.int .i64 2)) fun x16 =>
 Gd3 x16 true (
 Do (afaddr 1 x1) fun x17 =>
 Do (aload H12 1 false x17) fun x18 =>
 Do (abin .eql x18 (.int .i64 16)) fun x19 =>
 Q x19 H12) (
 Q (.bool false) H12) (
 False)) (
 JoinP (check_fits_k1 Φ x1 Q) [] H12)
def check_fits_k3 (Φ : Calls') (a0 : AV) (x1 : AV) (Q : Post) : List AV → AH → Prop := fun j5 H6 =>
 Gd (sl j5 0) true (
 Do (afaddr 0 x1) fun x8 =>
 Do (aload H6 1 false x8) fun x9 =>
 Do (abin .eql x9 (.int .i64 1)) fun x10 =>
 Q x10 H6) (
 Do (abin .eql a0 (.int .i64 5)) fun x13 =>
 Gd x13 true (
 JoinP (check_fits_k2 Φ x1 Q) [x13] H6) (
 Do (abin .eql a0 (.int .i64 6)) fun x26 =>
 JoinP (check_fits_k2 Φ x1 Q) [x26] H6))
def check_fits (Φ : Calls') (a0 : AV) (a1 : AV) (H : AH) (Q : Post) : Prop :=
 DoH (aboxv H false 6 a1) fun x1 H2 =>
 Do (abin .eql a0 (.int .i64 3)) fun x7 =>
 Gd x7 true (
 JoinP (check_fits_k3 Φ a0 x1 Q) [x7] H2) (
 Do (abin .eql a0 (.int .i64 14)) fun x27 =>
 JoinP (check_fits_k3 Φ a0 x1 Q) [x27] H2)
def ir_check_fits : AFunc := ⟨31, [.tmp 4],
 .seq (.region [
   ⟨some 3, .box false 6 (.t 1), none⟩,
   ⟨some 4, .mv (.k (.bool false)), none⟩])
 (.join [] [4, 5, 6, 7, 8, 9, 10, 11, 12, 13, 14, 15, 16, 17, 18, 19, 20, 21, 22] (.seq (.region [
   ⟨some 5, .mv (.t 0), none⟩])
 (.block 0 (.join [6] [7, 8] (.seq (.region [
   ⟨some 7, .bin .eql (.t 5) (.k (.int .i64 3)), none⟩,
   ⟨some 6, .mv (.t 7), none⟩])
 (.cond (.t 6) (.skip)
   (.region [
     ⟨some 8, .bin .eql (.t 5) (.k (.int .i64 14)), none⟩,
     ⟨some 6, .mv (.t 8), none⟩])))
 (.cond (.t 6) (.seq (.region [
     ⟨some 9, .faddr 0 (.t 3), none⟩,
     ⟨some 10, .load 1 false (.t 9), none⟩,
     ⟨some 11, .bin .eql (.t 10) (.k (.int .i64 1)), none⟩,
     ⟨some 4, .mv (.t 11), none⟩])
   (.ret))
   (.join [12] [13, 14] (.seq (.region [
     ⟨some 13, .bin .eql (.t 5) (.k (.int .i64 5)), none⟩,
     ⟨some 12, .mv (.t 13), none⟩])
   (.cond (.t 12) (.skip)
     (.region [
       ⟨some 14, .bin .eql (.t 5) (.k (.int .i64 6)), none⟩,
       ⟨some 12, .mv (.t 14), none⟩])))
   (.cond (.t 12) (.seq (.region [
       ⟨some 15, .faddr 0 (.t 3), none⟩,
       ⟨some 16, .load 1 false (.t 15), none⟩,
       ⟨some 17, .bin .eql (.t 16) (.k (.int .i64 2)), none⟩,
       ⟨some 18, .mv (.t 17), none⟩,
       ⟨some 19, .faddr 1 (.t 3), some (18, true)⟩,
       ⟨some 20, .load 1 false (.t 19), some (18, true)⟩,
       ⟨some 21, .bin .eql (.t 20) (.k (.int .i64 16)), some (18, true)⟩,
       ⟨some 22, .pick (.t 18) (.t 21) (.k (.bool false)), none⟩,
       ⟨some 4, .mv (.t 22), none⟩])
     (.ret))
     (.skip)))))))
 (.seq (.region [
   ⟨some 23, .faddr 0 (.t 3), none⟩,
   ⟨some 24, .load 1 false (.t 23), none⟩,
   ⟨some 25, .bin .eql (.t 24) (.k (.int .i64 2)), none⟩,
   ⟨some 26, .mv (.t 25), none⟩,
   ⟨some 27, .faddr 1 (.t 3), some (26, true)⟩,
   ⟨some 28, .load 1 false (.t 27), some (26, true)⟩,
   ⟨some 29, .bin .leq (.t 28) (.k (.int .i64 8)), some (26, true)⟩,
   ⟨some 30, .pick (.t 26) (.t 29) (.k (.bool false)), none⟩,
   ⟨some 4, .mv (.t 30), none⟩])
 (.ret)))⟩
theorem eq_check_fits (Φ : Calls') (a0 a1 : AV) (H : AH) (Q : Post) : fnE1 Φ ir_check_fits [a0, a1] H Q = check_fits Φ a0 a1 H Q := by kernel_rfl

/-! (rabbet/check.checker).expr -/
def check_checker_expr_k1 (Φ : Calls') (a0 : AV) (a2 : AV) (x1 : AV) (Q : Post) : List AV → AH → Prop := fun j33 H34 =>
 Do (afaddr 7 x1) fun x45 =>
 Do (aload H34 1 false x45) fun x46 =>
Φ K.check_checker_exprs [a0, x46, a2] H34 fun x47 H48 =>
 Q (.tup []) H48
def check_checker_expr_k2 (Φ : Calls') (a0 : AV) (a2 : AV) (x1 : AV) (Q : Post) : List AV → AH → Prop := fun j22 H23 =>
 Do (afaddr 0 x1) fun x35 =>
 Do (aload H23 1 false x35) fun x36 =>
 Do (abin .geq x36 (.int .i64 4)) fun x37 =>
 Gd x37 true (
 Do (afaddr 0 x1) fun x38 =>
 Do (aload H23 1 false x38) fun x39 =>
 Do (abin .add (.int .i64 10) x39) fun x40 =>
 Do (afaddr 5 x1) fun x41 =>
 Do (aload H23 2 true x41) fun x42 =>
Φ K.check_checker_place [a0, x40, x42, a2] H23 fun x43 H44 =>
 JoinP (check_checker_expr_k1 Φ a0 a2 x1 Q) [] H44) (
 JoinP (check_checker_expr_k1 Φ a0 a2 x1 Q) [] H23)
def check_checker_expr (Φ : Calls') (a0 : AV) (a1 : AV) (a2 : AV) (H : AH) (Q : Post) : Prop :=
 DoH (aboxv H false 8 a1) fun x1 H2 =>
 Do (abin .leq a2 (.int .i64 64)) fun x3 =>
Φ K.check_checker_need [a0, x3, (.int .i64 5)] H2 fun x4 H5 =>
 Do (aload H5 8 true x1) fun x6 =>
Φ K.check_formed [x6] H5 fun x7 H8 =>
Φ K.check_checker_need [a0, x7, (.int .i64 4)] H8 fun x9 H10 =>
 Do (afaddr 0 x1) fun x11 =>
 Do (aload H10 1 false x11) fun x12 =>
 Do (abin .add (.int .i64 10) x12) fun x13 =>
 Do (afaddr 4 x1) fun x14 =>
 Do (aload H10 1 false x14) fun x15 =>
Φ K.check_Order [x13, x15] H10 fun x16 H17 =>
Φ K.check_checker_need [a0, x16, (.int .i64 11)] H17 fun x18 H19 =>
Φ K.check_checker_bad [a0] H19 fun x20 H21 =>
 Gd x20 true (
 Q (.tup []) H21) (
 Do (afaddr 0 x1) fun x24 =>
 Do (aload H21 1 false x24) fun x25 =>
 Do (abin .eql x25 (.int .i64 2)) fun x26 =>
 Gd x26 true (
 Do (afaddr 2 x1) fun x27 =>
 Do (aload H21 1 false x27) fun x28 =>
Φ K.check_checker_there [a0, x28] H21 fun x29 H30 =>
Φ K.check_checker_need [a0, x29, (.int .i64 6)] H30 fun x31 H32 =>
 JoinP (check_checker_expr_k2 Φ a0 a2 x1 Q) [] H32) (
 JoinP (check_checker_expr_k2 Φ a0 a2 x1 Q) [] H21))
def ir_check_checker_expr : AFunc := ⟨49, [],
 .seq (.region [
   ⟨some 4, .box false 8 (.t 1), none⟩])
 (.seq (.region [
   ⟨some 6, .mv (.t 0), none⟩,
   ⟨some 7, .mv (.t 2), none⟩,
   ⟨some 8, .bin .leq (.t 7) (.k (.int .i64 64)), none⟩,
   ⟨some 9, .call K.check_checker_need [(.t 6), (.t 8), (.k (.int .i64 5))], none⟩])
 (.seq (.region [
   ⟨some 10, .mv (.t 0), none⟩,
   ⟨some 11, .load 8 true (.t 4), none⟩,
   ⟨some 12, .call K.check_formed [(.t 11)], none⟩,
   ⟨some 13, .call K.check_checker_need [(.t 10), (.t 12), (.k (.int .i64 4))], none⟩])
 (.seq (.region [
   ⟨some 14, .mv (.t 0), none⟩,
   ⟨some 15, .faddr 0 (.t 4), none⟩,
   ⟨some 16, .load 1 false (.t 15), none⟩,
   ⟨some 17, .bin .add (.k (.int .i64 10)) (.t 16), none⟩,
   ⟨some 18, .faddr 4 (.t 4), none⟩,
   ⟨some 19, .load 1 false (.t 18), none⟩,
   ⟨some 20, .call K.check_Order [(.t 17), (.t 19)], none⟩,
   ⟨some 21, .call K.check_checker_need [(.t 14), (.t 20), (.k (.int .i64 11))], none⟩])
 (.seq (.seq (.region [
   ⟨some 22, .mv (.t 0), none⟩,
   ⟨some 23, .call K.check_checker_bad [(.t 22)], none⟩])
 (.cond (.t 23) (.ret)
   (.skip)))
 (.join [] [24, 25, 26, 27, 28, 29, 30, 31, 32] (.seq (.region [
   ⟨some 24, .faddr 0 (.t 4), none⟩,
   ⟨some 25, .load 1 false (.t 24), none⟩,
   ⟨some 26, .bin .eql (.t 25) (.k (.int .i64 2)), none⟩])
 (.cond (.t 26) (.region [
     ⟨some 27, .mv (.t 0), none⟩,
     ⟨some 28, .mv (.t 0), none⟩,
     ⟨some 29, .faddr 2 (.t 4), none⟩,
     ⟨some 30, .load 1 false (.t 29), none⟩,
     ⟨some 31, .call K.check_checker_there [(.t 28), (.t 30)], none⟩,
     ⟨some 32, .call K.check_checker_need [(.t 27), (.t 31), (.k (.int .i64 6))], none⟩])
   (.skip)))
 (.join [] [33, 34, 35, 36, 37, 38, 39, 40, 41, 42, 43] (.seq (.region [
   ⟨some 33, .faddr 0 (.t 4), none⟩,
   ⟨some 34, .load 1 false (.t 33), none⟩,
   ⟨some 35, .bin .geq (.t 34) (.k (.int .i64 4)), none⟩])
 (.cond (.t 35) (.region [
     ⟨some 36, .mv (.t 0), none⟩,
     ⟨some 37, .faddr 0 (.t 4), none⟩,
     ⟨some 38, .load 1 false (.t 37), none⟩,
     ⟨some 39, .bin .add (.k (.int .i64 10)) (.t 38), none⟩,
     ⟨some 40, .faddr 5 (.t 4), none⟩,
     ⟨some 41, .load 2 true (.t 40), none⟩,
     ⟨some 42, .mv (.t 2), none⟩,
     ⟨some 43, .call K.check_checker_place [(.t 36), (.t 39), (.t 41), (.t 42)], none⟩])
   (.skip)))
 (.region [
   ⟨some 44, .mv (.t 0), none⟩,
   ⟨some 45, .faddr 7 (.t 4), none⟩,
   ⟨some 46, .load 1 false (.t 45), none⟩,
   ⟨some 47, .mv (.t 2), none⟩,
   ⟨some 48, .call K.check_checker_exprs [(.t 44), (.t 46), (.t 47)], none⟩])))))))⟩
theorem eq_check_checker_expr (Φ : Calls') (a0 a1 a2 : AV) (H : AH) (Q : Post) : fnE1 Φ ir_check_checker_expr [a0, a1, a2] H Q = check_checker_expr Φ a0 a1 a2 H Q := by kernel_rfl

/-! rabbet/check.formed -/
def check_formed_k1 (Φ : Calls') (x1 : AV) (j3 : List AV) (Q : Post) : List AV → AH → Prop := fun j41 H42 =>
 Gd3 (sl j41 0) true (
 Do (afaddr 7 x1) fun x47 =>
 Do (aload H42 1 false x47) fun x48 =>
 Do (alen false x48) fun x49 =>
 Do (abin .eql x49 (sl j3 0)) fun x50 =>
 Q x50 H42) (
 Q (.bool false) H42) (
 False)
def check_formed_k2 (Φ : Calls') (x1 : AV) (j3 : List AV) (Q : Post) : List AV → AH → Prop := fun j29 H30 =>
 Gd3 (sl j29 0) true (
 Gd3 (sl j3 1) false (
 Do (afaddr 5 x1) fun x43 =>
 Do (aload H30 2 true x43) fun x44 =>
Φ K.check_empty [x44] H30 fun x45 H46 =>
 JoinP (check_formed_k1 Φ x1 j3 Q) [x45] H46) (
 JoinP (check_formed_k1 Φ x1 j3 Q) [(.bool true)] H30) (
 False)) (
 JoinP (check_formed_k1 Φ x1 j3 Q) [(.bool false)] H30) (
 False)
def check_formed_k3 (Φ : Calls') (x1 : AV) (x12 : AV) (j3 : List AV) (Q : Post) : List AV → AH → Prop := fun j21 H22 =>
 Gd3 (sl j21 0) true (
 Gd3 x12 true (
 Do (afaddr 3 x1) fun x31 =>
 Do (aload H22 1 false x31) fun x32 =>
 Do (abin .geq x32 (.int .i64 1)) fun x33 =>
 Gd3 x33 true (
 Do (afaddr 3 x1) fun x34 =>
 Do (aload H22 1 false x34) fun x35 =>
 Do (abin .leq x35 (.int .i64 11)) fun x36 =>
 Gd3 x36 false (
 Do (aun .not x12) fun x37 =>
 Gd3 x37 true (
 Do (afaddr 3 x1) fun x38 =>
 Do (aload H22 1 false x38) fun x39 =>
 Do (abin .eql x39 (.int .i64 0)) fun x40 =>
 JoinP (check_formed_k2 Φ x1 j3 Q) [x40] H22) (
 JoinP (check_formed_k2 Φ x1 j3 Q) [(.bool false)] H22) (
 False)) (
 JoinP (check_formed_k2 Φ x1 j3 Q) [(.bool true)] H22) (
 False)) (
 Do (aun .not x12) fun x51 =>
 Gd3 x51 true (
 Do (afaddr 3 x1) fun x52 =>
 Do (aload H22 1 false x52) fun x53 =>
 Do (abin .eql x53 (.int .i64 0)) fun x54 =>
 JoinP (check_formed_k2 Φ x1 j3 Q) [x54] H22) (
 JoinP (check_formed_k2 Φ x1 j3 Q) [(.bool false)] H22) (
 False)) (
 False)) (
 Do (aun .not x12) fun x55 =>
 Gd3 x55 true (
 Do (afaddr 3 x1) fun x56 =>
 Do (aload H22 1 false x56) fun x57 =>
 Do (abin .eql x57 (.int .i64 0)) fun x58 =>
 JoinP (check_formed_k2 Φ x1 j3 Q) [x58] H22) (
 JoinP (check_formed_k2 Φ x1 j3 Q) [(.bool false)] H22) (
 False)) (
 False)) (
 JoinP (check_formed_k2 Φ x1 j3 Q) [(.bool false)] H22) (
 False)
def check_formed_k4 (Φ : Calls') (x1 : AV) (x12 : AV) (j3 : List AV) (Q : Post) : List AV → AH → Prop := fun j13 H14 =>
 Gd3 (sl j13 0) true (
 Do (afaddr 0 x1) fun x23 =>
 Do (aload H14 1 false x23) fun x24 =>
 Do (abin .eql x24 (.int .i64 2)) fun x25 =>
 Gd3 x25 false (
 Do (afaddr 2 x1) fun x26 =>
 Do (aload H14 1 false x26) fun x27 =>
 Do (abin .eql x27 (.str [])) fun x28 =>
 JoinP (check_formed_k3 Φ x1 x12 j3 Q) [x28] H14) (
 JoinP (check_formed_k3 Φ x1 x12 j3 Q) [(.bool true)] H14) (
 False)) (
 JoinP (check_formed_k3 Φ x1 x12 j3 Q) [(.bool false)] H14) (
 False)
def check_formed_k5 (Φ : Calls') (x1 : AV) (Q : Post) : List AV → AH → Prop := fun j3 H4 =>
 Do (afaddr 0 x1) fun x10 =>
 Do (aload H4 1 false x10) fun x11 =>
 Do (abin .eql x11 (.int .i64 3)) fun x12 =>
 Do (afaddr 0 x1) fun x15 =>
 Do (aload H4 1 false x15) fun x16 =>
 Do (abin .eql x16 (.int .i64 1)) fun x17 =>
 Gd3 x17 false (
 Do (afaddr 1 x1) fun x18 =>
 Do (aload H4 1 false x18) fun x19 =>
 Do (abin .eql x19 (.int .u64 0)) fun x20 =>
 JoinP (check_formed_k4 Φ x1 x12 j3 Q) [x20] H4) (
 JoinP (check_formed_k4 Φ x1 x12 j3 Q) [(.bool true)] H4) (
 False)
def check_formed_k6 (Φ : Calls') (x1 : AV) (x6 : AV) (Q : Post) : List AV → AH → Prop := fun j63 H64 =>
 Gd (sl j63 0) true (
 JoinP (check_formed_k5 Φ x1 Q) [(.int .i64 1), (.bool true)] H64) (
 Do (abin .eql x6 (.int .i64 8)) fun x66 =>
 Gd x66 true (
 JoinP (check_formed_k5 Φ x1 Q) [(.int .i64 2), (.bool true)] H64) (
 Q (.bool false) H64))
def check_formed_k7 (Φ : Calls') (x1 : AV) (x6 : AV) (Q : Post) : List AV → AH → Prop := fun j60 H61 =>
 Gd (sl j60 0) true (
 JoinP (check_formed_k5 Φ x1 Q) [(.int .i64 0), (.bool true)] H61) (
 Do (abin .eql x6 (.int .i64 6)) fun x65 =>
 Gd x65 true (
 JoinP (check_formed_k6 Φ x1 x6 Q) [x65] H61) (
 Do (abin .eql x6 (.int .i64 7)) fun x67 =>
 JoinP (check_formed_k6 Φ x1 x6 Q) [x67] H61))
def check_formed_k8 (Φ : Calls') (x1 : AV) (x6 : AV) (Q : Post) : List AV → AH → Prop := fun j7 H8 =>
 Gd (sl j7 0) true (
 JoinP (check_formed_k5 Φ x1 Q) [(.int .i64 0), (.bool false)] H8) (
 Do (abin .eql x6 (.int .i64 3)) fun x59 =>
 Gd x59 true (
 JoinP (check_formed_k5 Φ x1 Q) [(.int .i64 2), (.bool false)] H8) (
 Do (abin .eql x6 (.int .i64 4)) fun x62 =>
 Gd x62 true (
 JoinP (check_formed_k7 Φ x1 x6 Q) [x62] H8) (
 Do (abin .eql x6 (.int .i64 5)) fun x68 =>
 JoinP (check_formed_k7 Φ x1 x6 Q) [x68] H8)))
def check_formed (Φ : Calls') (a0 : AV) (H : AH) (Q : Post) : Prop :=
 DoH (aboxv H false 8 a0) fun x1 H2 =>
 Do (afaddr 0 x1) fun x5 =>
 Do (aload H2 1 false x5) fun x6 =>
 Do (abin .eql x6 (.int .i64 1)) fun x9 =>
 Gd x9 true (
 JoinP (check_formed_k8 Φ x1 x6 Q) [x9] H2) (
 Do (abin .eql x6 (.int .i64 2)) fun x69 =>
 JoinP (check_formed_k8 Φ x1 x6 Q) [x69] H2)
def ir_check_formed : AFunc := ⟨79, [.tmp 2],
 .seq (.region [
   ⟨some 1, .box false 8 (.t 0), none⟩,
   ⟨some 2, .mv (.k (.bool false)), none⟩])
 (.seq (.region [
   ⟨some 3, .mv (.k (.int .i64 0)), none⟩,
   ⟨some 4, .mv (.k (.bool false)), none⟩])
 (.join [3, 4] [2, 6, 7, 8, 9, 10, 11, 12, 13, 14, 15, 16, 17, 18, 19, 20] (.seq (.region [
   ⟨some 6, .faddr 0 (.t 1), none⟩,
   ⟨some 7, .load 1 false (.t 6), none⟩])
 (.block 0 (.join [8] [9, 10] (.seq (.region [
   ⟨some 9, .bin .eql (.t 7) (.k (.int .i64 1)), none⟩,
   ⟨some 8, .mv (.t 9), none⟩])
 (.cond (.t 8) (.skip)
   (.region [
     ⟨some 10, .bin .eql (.t 7) (.k (.int .i64 2)), none⟩,
     ⟨some 8, .mv (.t 10), none⟩])))
 (.cond (.t 8) (.skip)
   (.seq (.region [
     ⟨some 12, .bin .eql (.t 7) (.k (.int .i64 3)), none⟩,
     ⟨some 11, .mv (.t 12), none⟩])
   (.cond (.t 11) (.region [
       ⟨some 3, .mv (.k (.int .i64 2)), none⟩])
     (.join [13] [14, 15] (.seq (.region [
       ⟨some 14, .bin .eql (.t 7) (.k (.int .i64 4)), none⟩,
       ⟨some 13, .mv (.t 14), none⟩])
     (.cond (.t 13) (.skip)
       (.region [
         ⟨some 15, .bin .eql (.t 7) (.k (.int .i64 5)), none⟩,
         ⟨some 13, .mv (.t 15), none⟩])))
     (.cond (.t 13) (.region [
         ⟨some 4, .mv (.k (.bool true)), none⟩])
       (.join [16] [17, 18] (.seq (.region [
         ⟨some 17, .bin .eql (.t 7) (.k (.int .i64 6)), none⟩,
         ⟨some 16, .mv (.t 17), none⟩])
       (.cond (.t 16) (.skip)
         (.region [
           ⟨some 18, .bin .eql (.t 7) (.k (.int .i64 7)), none⟩,
           ⟨some 16, .mv (.t 18), none⟩])))
       (.cond (.t 16) (.region [
           ⟨some 3, .mv (.k (.int .i64 1)), none⟩,
           ⟨some 4, .mv (.k (.bool true)), none⟩])
         (.seq (.region [
           ⟨some 20, .bin .eql (.t 7) (.k (.int .i64 8)), none⟩,
           ⟨some 19, .mv (.t 20), none⟩])
         (.cond (.t 19) (.region [
             ⟨some 3, .mv (.k (.int .i64 2)), none⟩,
             ⟨some 4, .mv (.k (.bool true)), none⟩])
           (.seq (.region [
             ⟨some 2, .mv (.k (.bool false)), none⟩])
           (.ret))))))))))))))
 (.seq (.region [
   ⟨some 21, .faddr 0 (.t 1), none⟩,
   ⟨some 22, .load 1 false (.t 21), none⟩,
   ⟨some 23, .bin .eql (.t 22) (.k (.int .i64 3)), none⟩,
   ⟨some 5, .mv (.t 23), none⟩])
 (.seq (.rjoin [31] [24, 25, 26, 27, 28, 29, 30] [
   ⟨some 24, .faddr 0 (.t 1), none⟩,
   ⟨some 25, .load 1 false (.t 24), none⟩,
   ⟨some 26, .bin .eql (.t 25) (.k (.int .i64 1)), none⟩,
   ⟨some 27, .mv (.t 26), none⟩,
   ⟨some 28, .faddr 1 (.t 1), some (27, false)⟩,
   ⟨some 29, .load 1 false (.t 28), some (27, false)⟩,
   ⟨some 30, .bin .eql (.t 29) (.k (.int .u64 0)), some (27, false)⟩,
   ⟨some 31, .pick (.t 27) (.k (.bool true)) (.t 30), none⟩]
 (.rjoin [41] [32, 33, 34, 35, 36, 37, 38, 39, 40] [
   ⟨some 32, .mv (.t 31), none⟩,
   ⟨some 33, .faddr 0 (.t 1), some (32, true)⟩,
   ⟨some 34, .load 1 false (.t 33), some (32, true)⟩,
   ⟨some 35, .bin .eql (.t 34) (.k (.int .i64 2)), some (32, true)⟩,
   ⟨some 36, .mv (.t 35), some (32, true)⟩,
   ⟨some 37, .faddr 2 (.t 1), some (36, false)⟩,
   ⟨some 38, .load 1 false (.t 37), some (36, false)⟩,
   ⟨some 39, .bin .eql (.t 38) (.k (.str [])), some (36, false)⟩,
   ⟨some 40, .pick (.t 36) (.k (.bool true)) (.t 39), some (32, true)⟩,
   ⟨some 41, .pick (.t 32) (.t 40) (.k (.bool false)), none⟩]
 (.rjoin [63] [42, 43, 44, 45, 46, 47, 48, 49, 50, 51, 52, 53, 54, 55, 56, 57, 58, 59, 60, 61, 62] [
   ⟨some 42, .mv (.t 41), none⟩,
   ⟨some 43, .mv (.t 5), some (42, true)⟩,
   ⟨some 44, .mv (.t 43), some (42, true)⟩,
   ⟨some 45, .faddr 3 (.t 1), some (44, true)⟩,
   ⟨some 46, .load 1 false (.t 45), some (44, true)⟩,
   ⟨some 47, .bin .geq (.t 46) (.k (.int .i64 1)), some (44, true)⟩,
   ⟨some 48, .pick (.t 44) (.t 47) (.k (.bool false)), some (42, true)⟩,
   ⟨some 49, .mv (.t 48), some (42, true)⟩,
   ⟨some 50, .faddr 3 (.t 1), some (49, true)⟩,
   ⟨some 51, .load 1 false (.t 50), some (49, true)⟩,
   ⟨some 52, .bin .leq (.t 51) (.k (.int .i64 11)), some (49, true)⟩,
   ⟨some 53, .pick (.t 49) (.t 52) (.k (.bool false)), some (42, true)⟩,
   ⟨some 54, .mv (.t 53), some (42, true)⟩,
   ⟨some 55, .mv (.t 5), some (54, false)⟩,
   ⟨some 56, .un .not (.t 55), some (54, false)⟩,
   ⟨some 57, .mv (.t 56), some (54, false)⟩,
   ⟨some 58, .faddr 3 (.t 1), some (57, true)⟩,
   ⟨some 59, .load 1 false (.t 58), some (57, true)⟩,
   ⟨some 60, .bin .eql (.t 59) (.k (.int .i64 0)), some (57, true)⟩,
   ⟨some 61, .pick (.t 57) (.t 60) (.k (.bool false)), some (54, false)⟩,
   ⟨some 62, .pick (.t 54) (.k (.bool true)) (.t 61), some (42, true)⟩,
   ⟨some 63, .pick (.t 42) (.t 62) (.k (.bool false)), none⟩]
 (.rjoin [71] [64, 65, 66, 67, 68, 69, 70] [
   ⟨some 64, .mv (.t 63), none⟩,
   ⟨some 65, .mv (.t 4), some (64, true)⟩,
   ⟨some 66, .mv (.t 65), some (64, true)⟩,
   ⟨some 67, .faddr 5 (.t 1), some (66, false)⟩,
   ⟨some 68, .load 2 true (.t 67), some (66, false)⟩,
   ⟨some 69, .call K.check_empty [(.t 68)], some (66, false)⟩,
   ⟨some 70, .pick (.t 66) (.k (.bool true)) (.t 69), some (64, true)⟩,
   ⟨some 71, .pick (.t 64) (.t 70) (.k (.bool false)), none⟩]
 (.region [
   ⟨some 72, .mv (.t 71), none⟩,
   ⟨some 73, .faddr 7 (.t 1), some (72, true)⟩,
   ⟨some 74, .load 1 false (.t 73), some (72, true)⟩,
   ⟨some 75, .len false (.t 74), some (72, true)⟩,
   ⟨some 76, .mv (.t 3), some (72, true)⟩,
   ⟨some 77, .bin .eql (.t 75) (.t 76), some (72, true)⟩,
   ⟨some 78, .pick (.t 72) (.t 77) (.k (.bool false)), none⟩,
   ⟨some 2, .mv (.t 78), none⟩])))))
 (.ret)))))⟩
theorem eq_check_formed (Φ : Calls') (a0 : AV) (H : AH) (Q : Post) : fnE1 Φ ir_check_formed [a0] H Q = check_formed Φ a0 H Q := by kernel_rfl

def tab_check : Tab := [
  (K.check_Place, ir_check_Place),
  (K.check_Order, ir_check_Order),
  (K.check_Prog, ir_check_Prog),
  (K.check_Place_c1, ir_check_Place_c1),
  (K.check_part, ir_check_part),
  (K.check_vars, ir_check_vars),
  (K.check_checker_block, ir_check_checker_block),
  (K.check_checker_bad, ir_check_checker_bad),
  (K.check_part_c1, ir_check_part_c1),
  (K.check_vars_c1, ir_check_vars_c1),
  (K.check_checker_stmt, ir_check_checker_stmt),
  (K.check_checker_need, ir_check_checker_need),
  (K.check_form, ir_check_form),
  (K.check_checker_there, ir_check_checker_there),
  (K.check_checker_place, ir_check_checker_place),
  (K.check_checker_exprs, ir_check_checker_exprs),
  (K.check_of, ir_check_of),
  (K.check_empty, ir_check_empty),
  (K.check_fits, ir_check_fits),
  (K.check_checker_expr, ir_check_checker_expr),
  (K.check_formed, ir_check_formed)]

theorem cl_check_Place {Φ : Calls'} (hT : Cl Φ tab_check) {a0 a1 : AV} {H : AH} {Q : Post} (h : check_Place Φ a0 a1 H Q) : Φ K.check_Place [a0, a1] H Q := hT.call (by kernel_rfl) (by kernel_rfl) (by rw [eq_check_Place]; exact h)
theorem cl_check_Order {Φ : Calls'} (hT : Cl Φ tab_check) {a0 a1 : AV} {H : AH} {Q : Post} (h : check_Order Φ a0 a1 H Q) : Φ K.check_Order [a0, a1] H Q := hT.call (by kernel_rfl) (by kernel_rfl) (by rw [eq_check_Order]; exact h)
theorem cl_check_Prog {Φ : Calls'} (hT : Cl Φ tab_check) {a0 : AV} {H : AH} {Q : Post} (h : check_Prog Φ a0 H Q) : Φ K.check_Prog [a0] H Q := hT.call (by kernel_rfl) (by kernel_rfl) (by rw [eq_check_Prog]; exact h)
theorem cl_check_Place_c1 {Φ : Calls'} (hT : Cl Φ tab_check) {a0 a1 : AV} {H : AH} {Q : Post} (h : check_Place_c1 Φ a0 a1 H Q) : Φ K.check_Place_c1 [a0, a1] H Q := hT.call (by kernel_rfl) (by kernel_rfl) (by rw [eq_check_Place_c1]; exact h)
theorem cl_check_part {Φ : Calls'} (hT : Cl Φ tab_check) {a0 a1 : AV} {H : AH} {Q : Post} (h : check_part Φ a0 a1 H Q) : Φ K.check_part [a0, a1] H Q := hT.call (by kernel_rfl) (by kernel_rfl) (by rw [eq_check_part]; exact h)
theorem cl_check_vars {Φ : Calls'} (hT : Cl Φ tab_check) {a0 : AV} {H : AH} {Q : Post} (h : check_vars Φ a0 H Q) : Φ K.check_vars [a0] H Q := hT.call (by kernel_rfl) (by kernel_rfl) (by rw [eq_check_vars]; exact h)
theorem cl_check_checker_block {Φ : Calls'} (hT : Cl Φ tab_check) {a0 a1 a2 : AV} {H : AH} {Q : Post} (h : check_checker_block Φ a0 a1 a2 H Q) : Φ K.check_checker_block [a0, a1, a2] H Q := hT.call (by kernel_rfl) (by kernel_rfl) (by rw [eq_check_checker_block]; exact h)
theorem cl_check_checker_bad {Φ : Calls'} (hT : Cl Φ tab_check) {a0 : AV} {H : AH} {Q : Post} (h : check_checker_bad Φ a0 H Q) : Φ K.check_checker_bad [a0] H Q := hT.call (by kernel_rfl) (by kernel_rfl) (by rw [eq_check_checker_bad]; exact h)
theorem cl_check_part_c1 {Φ : Calls'} (hT : Cl Φ tab_check) {a0 a1 : AV} {H : AH} {Q : Post} (h : check_part_c1 Φ a0 a1 H Q) : Φ K.check_part_c1 [a0, a1] H Q := hT.call (by kernel_rfl) (by kernel_rfl) (by rw [eq_check_part_c1]; exact h)
theorem cl_check_vars_c1 {Φ : Calls'} (hT : Cl Φ tab_check) {a0 a1 : AV} {H : AH} {Q : Post} (h : check_vars_c1 Φ a0 a1 H Q) : Φ K.check_vars_c1 [a0, a1] H Q := hT.call (by kernel_rfl) (by kernel_rfl) (by rw [eq_check_vars_c1]; exact h)
theorem cl_check_checker_stmt {Φ : Calls'} (hT : Cl Φ tab_check) {a0 a1 a2 : AV} {H : AH} {Q : Post} (h : check_checker_stmt Φ a0 a1 a2 H Q) : Φ K.check_checker_stmt [a0, a1, a2] H Q := hT.call (by kernel_rfl) (by kernel_rfl) (by rw [eq_check_checker_stmt]; exact h)
theorem cl_check_checker_need {Φ : Calls'} (hT : Cl Φ tab_check) {a0 a1 a2 : AV} {H : AH} {Q : Post} (h : check_checker_need Φ a0 a1 a2 H Q) : Φ K.check_checker_need [a0, a1, a2] H Q := hT.call (by kernel_rfl) (by kernel_rfl) (by rw [eq_check_checker_need]; exact h)
theorem cl_check_form {Φ : Calls'} (hT : Cl Φ tab_check) {a0 : AV} {H : AH} {Q : Post} (h : check_form Φ a0 H Q) : Φ K.check_form [a0] H Q := hT.call (by kernel_rfl) (by kernel_rfl) (by rw [eq_check_form]; exact h)
theorem cl_check_checker_there {Φ : Calls'} (hT : Cl Φ tab_check) {a0 a1 : AV} {H : AH} {Q : Post} (h : check_checker_there Φ a0 a1 H Q) : Φ K.check_checker_there [a0, a1] H Q := hT.call (by kernel_rfl) (by kernel_rfl) (by rw [eq_check_checker_there]; exact h)
theorem cl_check_checker_place {Φ : Calls'} (hT : Cl Φ tab_check) {a0 a1 a2 a3 : AV} {H : AH} {Q : Post} (h : check_checker_place Φ a0 a1 a2 a3 H Q) : Φ K.check_checker_place [a0, a1, a2, a3] H Q := hT.call (by kernel_rfl) (by kernel_rfl) (by rw [eq_check_checker_place]; exact h)
theorem cl_check_checker_exprs {Φ : Calls'} (hT : Cl Φ tab_check) {a0 a1 a2 : AV} {H : AH} {Q : Post} (h : check_checker_exprs Φ a0 a1 a2 H Q) : Φ K.check_checker_exprs [a0, a1, a2] H Q := hT.call (by kernel_rfl) (by kernel_rfl) (by rw [eq_check_checker_exprs]; exact h)
theorem cl_check_of {Φ : Calls'} (hT : Cl Φ tab_check) {a0 : AV} {H : AH} {Q : Post} (h : check_of Φ a0 H Q) : Φ K.check_of [a0] H Q := hT.call (by kernel_rfl) (by kernel_rfl) (by rw [eq_check_of]; exact h)
theorem cl_check_empty {Φ : Calls'} (hT : Cl Φ tab_check) {a0 : AV} {H : AH} {Q : Post} (h : check_empty Φ a0 H Q) : Φ K.check_empty [a0] H Q := hT.call (by kernel_rfl) (by kernel_rfl) (by rw [eq_check_empty]; exact h)
theorem cl_check_fits {Φ : Calls'} (hT : Cl Φ tab_check) {a0 a1 : AV} {H : AH} {Q : Post} (h : check_fits Φ a0 a1 H Q) : Φ K.check_fits [a0, a1] H Q := hT.call (by kernel_rfl) (by kernel_rfl) (by rw [eq_check_fits]; exact h)
theorem cl_check_checker_expr {Φ : Calls'} (hT : Cl Φ tab_check) {a0 a1 a2 : AV} {H : AH} {Q : Post} (h : check_checker_expr Φ a0 a1 a2 H Q) : Φ K.check_checker_expr [a0, a1, a2] H Q := hT.call (by kernel_rfl) (by kernel_rfl) (by rw [eq_check_checker_expr]; exact h)
theorem cl_check_formed {Φ : Calls'} (hT : Cl Φ tab_check) {a0 : AV} {H : AH} {Q : Post} (h : check_formed Φ a0 H Q) : Φ K.check_formed [a0] H Q := hT.call (by kernel_rfl) (by kernel_rfl) (by rw [eq_check_formed]; exact h)
end Rb.S

/- Package check: its functions as runs. By gen.py. -/
set_option linter.unusedVariables false
namespace Rb.R
open Go

def check_Place_k1 (Φ : CallsB) (n : Nat) (x3 : AV) (x16 : AV) (Q : PostB) : List AV → TH → Bool := fun j29 H30 =>
 DoB (aload H30.ah 6 true x16) fun x67 =>
 DoB (tstore H30 6 x3 x67) fun H70 =>
 DoB (aload H70.ah 6 true x3) fun x71 =>
 Q (.tup [x71, (.int .i64 0)]) H70
def check_Place_l2 (Φ : CallsB) (n : Nat) (x3 : AV) (x16 : AV) (x32 : AV) (x34 : AV) (Q : PostB) : (List AV × TH) → ((List AV × TH) → Bool) → Bool := fun s35 L36 =>
 DoB (abin .lss (sl s35.1 0) x34) fun x37 =>
 GdB x37 true (
 DoB (aiaddr none 2 x32 (sl s35.1 0)) fun x38 =>
 DoB (aload s35.2.ah 2 true x38) fun x39 =>
 DoHB (some (tbox s35.2 true [.str [], .lst .nil 0 []])) fun x41 H42 =>
 DoB (tstore H42 2 x41 x39) fun H44 =>
 DoB (aload H44.ah 6 true x16) fun x45 =>
 DoB (aload H44.ah 2 true x41) fun x47 =>
Φ K.check_part [x45, x47] H44 fun x49 H50 =>
 DoB (aextract 0 x49) fun x51 =>
 DoB (aextract 1 x49) fun x52 =>
 DoHB (some (tbox H50 true [.int .i64 0, .int .i64 0, .bool false, .lst .nil 0 [], .int .i64 0, .lst .nil 0 []])) fun x53 H54 =>
 DoB (tstore H54 6 x53 x51) fun H56 =>
 DoB (abin .neq x52 (.int .i64 0)) fun x57 =>
 GdB x57 true (
 DoB (abuild [.int .i64 0, .int .i64 0, .bool false, .lst .nil 0 [], .int .i64 0, .lst .nil 0 []] []) fun x58 =>
 DoB (tstore H56 6 x3 x58) fun H60 =>
 DoB (aload H60.ah 6 true x3) fun x61 =>
 Q (.tup [x61, x52]) H60) (
 DoB (aload H56.ah 6 true x53) fun x62 =>
 DoB (tstore H56 6 x16 x62) fun H65 =>
 DoB (abin .add (sl s35.1 0) (.int .i64 1)) fun x66 =>
 L36 ([x66], H65))) (
 JoinB (check_Place_k1 Φ n x3 x16 Q) [] s35.2)
def check_Place (Φ : CallsB) (n : Nat) (a0 : AV) (a1 : AV) (H : TH) (Q : PostB) : Bool :=
 DoHB (tboxv H true 2 a1) fun x1 H2 =>
 DoHB (some (tbox H2 true [.int .i64 0, .int .i64 0, .bool false, .lst .nil 0 [], .int .i64 0, .lst .nil 0 []])) fun x3 H4 =>
Φ K.slices_IndexFunc___api_Var_api_Var_ [a0, (.fn K.check_Place_c1 [x1])] H4 fun x5 H6 =>
 DoB (abin .lss x5 (.int .i64 0)) fun x7 =>
 GdB x7 true (
 DoB (abuild [.int .i64 0, .int .i64 0, .bool false, .lst .nil 0 [], .int .i64 0, .lst .nil 0 []] []) fun x8 =>
 DoB (tstore H6 6 x3 x8) fun H10 =>
 DoB (aload H10.ah 6 true x3) fun x11 =>
 Q (.tup [x11, (.int .i64 6)]) H10) (
 DoB (aiaddr none 7 a0 x5) fun x12 =>
 DoB (afaddr 1 x12) fun x13 =>
 DoB (aload H6.ah 6 true x13) fun x14 =>
 DoHB (some (tbox H6 true [.int .i64 0, .int .i64 0, .bool false, .lst .nil 0 [], .int .i64 0, .lst .nil 0 []])) fun x16 H17 =>
 DoB (tstore H17 6 x16 x14) fun H19 =>
 DoB (aload H19.ah 6 true x16) fun x20 =>
Φ K.kind_Sound [x20] H19 fun x22 H23 =>
 DoB (abin .neq x22 (.int .i64 0)) fun x24 =>
 GdB x24 true (
 DoB (abuild [.int .i64 0, .int .i64 0, .bool false, .lst .nil 0 [], .int .i64 0, .lst .nil 0 []] []) fun x25 =>
 DoB (tstore H23 6 x3 x25) fun H27 =>
 DoB (aload H27.ah 6 true x3) fun x28 =>
 Q (.tup [x28, x22]) H27) (
 DoB (afaddr 1 x1) fun x31 =>
 DoB (aload H23.ah 1 false x31) fun x32 =>
 DoB (alen false x32) fun x34 =>
 LoopB (check_Place_l2 Φ n x3 x16 x32 x34 Q) n ([(.int .i64 0)], H23)))
theorem eq_check_Place (Φ : CallsB) (n : Nat) (a0 a1 : AV) (H : TH) (Q : PostB) : fnB1 Φ n S.ir_check_Place [a0, a1] H Q = check_Place Φ n a0 a1 H Q := by kernel_rfl

def check_Order_k1 (Φ : CallsB) (n : Nat) (a1 : AV) (Q : PostB) : List AV → TH → Bool := fun j6 H7 =>
 Gd3B (sl j6 0) false (
 DoB (abin .eql a1 (.int .i64 4)) fun x10 =>
 Q x10 H7) (
 Q (.bool true) H7) (
 false)
def check_Order_k2 (Φ : CallsB) (n : Nat) (a1 : AV) (Q : PostB) : List AV → TH → Bool := fun j14 H15 =>
 Gd3B (sl j14 0) false (
 DoB (abin .eql a1 (.int .i64 4)) fun x18 =>
 Q x18 H15) (
 Q (.bool true) H15) (
 false)
def check_Order_k3 (Φ : CallsB) (n : Nat) (a1 : AV) (Q : PostB) : List AV → TH → Bool := fun j1 H2 =>
 DoB (abin .eql a1 (.int .i64 0)) fun x27 =>
 Q x27 H2
def check_Order_k4 (Φ : CallsB) (n : Nat) (a0 : AV) (a1 : AV) (Q : PostB) : List AV → TH → Bool := fun j19 H20 =>
 GdB (sl j19 0) true (
 DoB (abin .geq a1 (.int .i64 1)) fun x22 =>
 Gd3B x22 true (
 DoB (abin .leq a1 (.int .i64 4)) fun x23 =>
 Q x23 H20) (
 Q (.bool false) H20) (
 false)) (
 DoB (abin .eql a0 (.int .i64 7)) fun x24 =>
 GdB x24 true (
 DoB (abin .geq a1 (.int .i64 2)) fun x25 =>
 Gd3B x25 true (
 DoB (abin .leq a1 (.int .i64 4)) fun x26 =>
 Q x26 H20) (
 Q (.bool false) H20) (
 false)) (
 JoinB (check_Order_k3 Φ n a1 Q) [] H20))
def check_Order_k5 (Φ : CallsB) (n : Nat) (a0 : AV) (a1 : AV) (Q : PostB) : List AV → TH → Bool := fun j11 H12 =>
 GdB (sl j11 0) true (
 DoB (abin .eql a1 (.int .i64 1)) fun x16 =>
 Gd3B x16 false (
 DoB (abin .eql a1 (.int .i64 2)) fun x17 =>
 JoinB (check_Order_k2 Φ n a1 Q) [x17] H12) (
 JoinB (check_Order_k2 Φ n a1 Q) [(.bool true)] H12) (
 false)) (
 DoB (abin .eql a0 (.int .i64 16)) fun x21 =>
 GdB x21 true (
 JoinB (check_Order_k4 Φ n a0 a1 Q) [x21] H12) (
 DoB (abin .eql a0 (.int .i64 17)) fun x28 =>
 GdB x28 true (
 JoinB (check_Order_k4 Φ n a0 a1 Q) [x28] H12) (
 DoB (abin .eql a0 (.int .i64 18)) fun x29 =>
 JoinB (check_Order_k4 Φ n a0 a1 Q) [x29] H12)))
def check_Order_k6 (Φ : CallsB) (n : Nat) (a0 : AV) (a1 : AV) (Q : PostB) : List AV → TH → Bool := fun j3 H4 =>
 GdB (sl j3 0) true (
 DoB (abin .eql a1 (.int .i64 1)) fun x8 =>
 Gd3B x8 false (
 DoB (abin .eql a1 (.int .i64 3)) fun x9 =>
 JoinB (check_Order_k1 Φ n a1 Q) [x9] H4) (
 JoinB (check_Order_k1 Φ n a1 Q) [(.bool true)] H4) (
 false)) (
 DoB (abin .eql a0 (.int .i64 5)) fun x13 =>
 GdB x13 true (
 JoinB (check_Order_k5 Φ n a0 a1 Q) [x13] H4) (
 DoB (abin .eql a0 (.int .i64 15)) fun x30 =>
 JoinB (check_Order_k5 Φ n a0 a1 Q) [x30] H4))
def check_Order (Φ : CallsB) (n : Nat) (a0 : AV) (a1 : AV) (H : TH) (Q : PostB) : Bool :=
 DoB (abin .eql a0 (.int .i64 4)) fun x5 =>
 GdB x5 true (
 JoinB (check_Order_k6 Φ n a0 a1 Q) [x5] H) (
 DoB (abin .eql a0 (.int .i64 6)) fun x31 =>
 JoinB (check_Order_k6 Φ n a0 a1 Q) [x31] H)
theorem eq_check_Order (Φ : CallsB) (n : Nat) (a0 a1 : AV) (H : TH) (Q : PostB) : fnB1 Φ n S.ir_check_Order [a0, a1] H Q = check_Order Φ n a0 a1 H Q := by kernel_rfl

def check_Prog_k1 (Φ : CallsB) (n : Nat) (x3 : AV) (Q : PostB) : List AV → TH → Bool := fun j40 H41 =>
 DoB (abuild [.int .i64 0, .int .i64 0] []) fun x70 =>
 DoB (tstore H41 2 x3 x70) fun H72 =>
 DoB (aload H72.ah 2 true x3) fun x73 =>
 Q x73 H72
def check_Prog_l2 (Φ : CallsB) (n : Nat) (x1 : AV) (x3 : AV) (x43 : AV) (x45 : AV) (Q : PostB) : (List AV × TH) → ((List AV × TH) → Bool) → Bool := fun s46 L47 =>
 DoB (abin .lss (sl s46.1 0) x45) fun x48 =>
 GdB x48 true (
 DoB (aiaddr none 1 x43 (sl s46.1 0)) fun x49 =>
 DoB (aload s46.2.ah 1 false x49) fun x50 =>
 DoB (afaddr 0 x1) fun x52 =>
 DoB (aload s46.2.ah 1 false x52) fun x53 =>
 DoB (abuild [.lst .nil 0 [], .lst .nil 0 [], .int .i64 0, .int .i64 0, .int .i64 0, .int .i64 0] [(0, 1, x53)]) fun x55 =>
 DoHB (tboxv s46.2 true 6 x55) fun x56 H57 =>
Φ K.check_checker_block [x56, x50, (.int .i64 1)] H57 fun x58 H59 =>
Φ K.check_checker_bad [x56] H59 fun x60 H61 =>
 GdB x60 true (
 DoB (anilck x56) fun x62 =>
 DoB (afaddr 4 x62) fun x63 =>
 DoB (aload H61.ah 2 true x63) fun x64 =>
 DoB (tstore H61 2 x3 x64) fun H67 =>
 DoB (aload H67.ah 2 true x3) fun x68 =>
 Q x68 H67) (
 DoB (abin .add (sl s46.1 0) (.int .i64 1)) fun x69 =>
 L47 ([x69], H61))) (
 JoinB (check_Prog_k1 Φ n x3 Q) [] s46.2)
def check_Prog_k3 (Φ : CallsB) (n : Nat) (x1 : AV) (x3 : AV) (Q : PostB) : List AV → TH → Bool := fun j5 H6 =>
 DoB (afaddr 0 x1) fun x30 =>
 DoB (aload H6.ah 1 false x30) fun x31 =>
Φ K.check_vars [x31] H6 fun x33 H34 =>
 DoB (abin .neq x33 (.int .i64 0)) fun x35 =>
 GdB x35 true (
 DoB (abuild [.int .i64 0, .int .i64 0] [(1, 1, x33)]) fun x36 =>
 DoB (tstore H34 2 x3 x36) fun H38 =>
 DoB (aload H38.ah 2 true x3) fun x39 =>
 Q x39 H38) (
 DoB (afaddr 1 x1) fun x42 =>
 DoB (aload H34.ah 1 false x42) fun x43 =>
 DoB (alen false x43) fun x45 =>
 LoopB (check_Prog_l2 Φ n x1 x3 x43 x45 Q) n ([(.int .i64 0)], H34))
def check_Prog_k4 (Φ : CallsB) (n : Nat) (x1 : AV) (x3 : AV) (Q : PostB) : List AV → TH → Bool := fun j7 H8 =>
 GdB (sl j7 0) true (
 DoB (abuild [.int .i64 0, .int .i64 0] [(1, 1, (.int .i64 12))]) fun x26 =>
 DoB (tstore H8 2 x3 x26) fun H28 =>
 DoB (aload H28.ah 2 true x3) fun x29 =>
 Q x29 H28) (
 JoinB (check_Prog_k3 Φ n x1 x3 Q) [] H8)
def check_Prog_k5 (Φ : CallsB) (n : Nat) (x1 : AV) (x3 : AV) (Q : PostB) : List AV → TH → Bool := fun j9 H10 =>
 Gd3B (sl j9 0) false (
 DoB (afaddr 1 x1) fun x21 =>
 DoB (aload H10.ah 1 false x21) fun x22 =>
 DoB (alen false x22) fun x24 =>
 DoB (abin .gtr x24 (.int .i64 8)) fun x25 =>
 JoinB (check_Prog_k4 Φ n x1 x3 Q) [x25] H10) (
 JoinB (check_Prog_k4 Φ n x1 x3 Q) [(.bool true)] H10) (
 false)
def check_Prog (Φ : CallsB) (n : Nat) (a0 : AV) (H : TH) (Q : PostB) : Bool :=
 DoHB (tboxv H false 2 a0) fun x1 H2 =>
 DoHB (some (tbox H2 true [.int .i64 0, .int .i64 0])) fun x3 H4 =>
 DoB (afaddr 0 x1) fun x11 =>
 DoB (aload H4.ah 1 false x11) fun x12 =>
 DoB (alen false x12) fun x14 =>
 DoB (abin .gtr x14 (.int .i64 32)) fun x15 =>
 Gd3B x15 false (
 DoB (afaddr 1 x1) fun x16 =>
 DoB (aload H4.ah 1 false x16) fun x17 =>
 DoB (alen false x17) fun x19 =>
 DoB (abin .lss x19 (.int .i64 1)) fun x20 =>
 JoinB (check_Prog_k5 Φ n x1 x3 Q) [x20] H4) (
 JoinB (check_Prog_k5 Φ n x1 x3 Q) [(.bool true)] H4) (
 false)
theorem eq_check_Prog (Φ : CallsB) (n : Nat) (a0 : AV) (H : TH) (Q : PostB) : fnB1 Φ n S.ir_check_Prog [a0] H Q = check_Prog Φ n a0 H Q := by kernel_rfl

def check_Place_c1 (Φ : CallsB) (n : Nat) (a0 : AV) (a1 : AV) (H : TH) (Q : PostB) : Bool :=
 DoHB (tboxv H false 7 a0) fun x1 H2 =>
 DoB (afaddr 0 x1) fun x3 =>
 DoB (aload H2.ah 1 false x3) fun x4 =>
 DoB (afaddr 0 a1) fun x6 =>
 DoB (aload H2.ah 1 false x6) fun x7 =>
 DoB (abin .eql x4 x7) fun x9 =>
 Q x9 H2
theorem eq_check_Place_c1 (Φ : CallsB) (n : Nat) (a0 a1 : AV) (H : TH) (Q : PostB) : fnB1 Φ n S.ir_check_Place_c1 [a0, a1] H Q = check_Place_c1 Φ n a0 a1 H Q := by kernel_rfl

def check_part_k1 (Φ : CallsB) (n : Nat) (x1 : AV) (x3 : AV) (x5 : AV) (Q : PostB) : List AV → TH → Bool := fun j17 H18 =>
 DoB (afaddr 3 x1) fun x72 =>
 DoB (aload H18.ah 1 false x72) fun x73 =>
Φ K.slices_IndexFunc___api_Field_api_Field_ [x73, (.fn K.check_part_c1 [x3])] H18 fun x75 H76 =>
 DoB (abin .lss x75 (.int .i64 0)) fun x77 =>
 GdB x77 true (
 DoB (abuild [.int .i64 0, .int .i64 0, .bool false, .lst .nil 0 [], .int .i64 0, .lst .nil 0 []] []) fun x78 =>
 DoB (tstore H76 6 x5 x78) fun H80 =>
 DoB (aload H80.ah 6 true x5) fun x81 =>
 Q (.tup [x81, (.int .i64 6)]) H80) (
 DoB (afaddr 3 x1) fun x82 =>
 DoB (aload H76.ah 1 false x82) fun x83 =>
 DoB (aiaddr none 9 x83 x75) fun x85 =>
 DoB (afaddr 1 x85) fun x86 =>
 DoB (aload H76.ah 6 true x86) fun x87 =>
 DoB (tstore H76 6 x5 x87) fun H90 =>
 DoB (aload H90.ah 6 true x5) fun x91 =>
 Q (.tup [x91, (.int .i64 0)]) H90)
def check_part_k2 (Φ : CallsB) (n : Nat) (x1 : AV) (x3 : AV) (x5 : AV) (Q : PostB) : List AV → TH → Bool := fun j60 H61 =>
 GdB (sl j60 0) true (
 DoB (abuild [.int .i64 0, .int .i64 0, .bool false, .lst .nil 0 [], .int .i64 0, .lst .nil 0 []] []) fun x68 =>
 DoB (tstore H61 6 x5 x68) fun H70 =>
 DoB (aload H70.ah 6 true x5) fun x71 =>
 Q (.tup [x71, (.int .i64 8)]) H70) (
 JoinB (check_part_k1 Φ n x1 x3 x5 Q) [] H61)
def check_part_k3 (Φ : CallsB) (n : Nat) (x1 : AV) (x3 : AV) (x5 : AV) (j7 : List AV) (Q : PostB) : List AV → TH → Bool := fun j40 H41 =>
 GdB (sl j40 0) true (
 DoB (afaddr 5 x1) fun x51 =>
 DoB (aload H41.ah 1 false x51) fun x52 =>
 DoB (aiaddr none 6 x52 (.int .i64 0)) fun x54 =>
 DoB (aload H41.ah 6 true x54) fun x55 =>
 DoB (tstore H41 6 x5 x55) fun H58 =>
 DoB (aload H58.ah 6 true x5) fun x59 =>
 Q (.tup [x59, (.int .i64 0)]) H58) (
 DoB (afaddr 1 x3) fun x62 =>
 DoB (aload H41.ah 1 false x62) fun x63 =>
 DoB (alen false x63) fun x65 =>
 DoB (abin .eql x65 (.int .i64 1)) fun x66 =>
 Gd3B x66 false (
 DoB (aun .not (sl j7 0)) fun x67 =>
 JoinB (check_part_k2 Φ n x1 x3 x5 Q) [x67] H41) (
 JoinB (check_part_k2 Φ n x1 x3 x5 Q) [(.bool true)] H41) (
 false))
def check_part_k4 (Φ : CallsB) (n : Nat) (x1 : AV) (x3 : AV) (x5 : AV) (j7 : List AV) (Q : PostB) : List AV → TH → Bool := fun j19 H20 =>
 GdB (sl j19 0) true (
 DoB (abuild [.int .i64 0, .int .i64 0, .bool false, .lst .nil 0 [], .int .i64 0, .lst .nil 0 []] []) fun x36 =>
 DoB (tstore H20 6 x5 x36) fun H38 =>
 DoB (aload H38.ah 6 true x5) fun x39 =>
 Q (.tup [x39, (.int .i64 8)]) H38) (
 DoB (afaddr 1 x3) fun x42 =>
 DoB (aload H20.ah 1 false x42) fun x43 =>
 DoB (alen false x43) fun x45 =>
 DoB (abin .eql x45 (.int .i64 1)) fun x46 =>
 Gd3B x46 true (
 DoB (afaddr 0 x1) fun x47 =>
 DoB (aload H20.ah 1 false x47) fun x48 =>
 DoB (abin .eql x48 (.int .i64 5)) fun x50 =>
 JoinB (check_part_k3 Φ n x1 x3 x5 j7 Q) [x50] H20) (
 JoinB (check_part_k3 Φ n x1 x3 x5 j7 Q) [(.bool false)] H20) (
 false))
def check_part_k5 (Φ : CallsB) (n : Nat) (x1 : AV) (x3 : AV) (x5 : AV) (Q : PostB) : List AV → TH → Bool := fun j7 H8 =>
 DoB (afaddr 1 x3) fun x21 =>
 DoB (aload H8.ah 1 false x21) fun x22 =>
 DoB (alen false x22) fun x24 =>
 DoB (abin .gtr x24 (.int .i64 1)) fun x25 =>
 Gd3B x25 false (
 DoB (afaddr 1 x3) fun x26 =>
 DoB (aload H8.ah 1 false x26) fun x27 =>
 DoB (alen false x27) fun x29 =>
 DoB (abin .eql x29 (.int .i64 1)) fun x30 =>
 DoB (afaddr 0 x3) fun x31 =>
 DoB (aload H8.ah 1 false x31) fun x32 =>
 DoB (abin .neq x32 (.str [])) fun x34 =>
 DoB (abeq false x30 x34) fun x35 =>
 JoinB (check_part_k4 Φ n x1 x3 x5 j7 Q) [x35] H8) (
 JoinB (check_part_k4 Φ n x1 x3 x5 j7 Q) [(.bool true)] H8) (
 false)
def check_part (Φ : CallsB) (n : Nat) (a0 : AV) (a1 : AV) (H : TH) (Q : PostB) : Bool :=
 DoHB (tboxv H false 6 a0) fun x1 H2 =>
 DoHB (tboxv H2 true 2 a1) fun x3 H4 =>
 DoHB (some (tbox H4 true [.int .i64 0, .int .i64 0, .bool false, .lst .nil 0 [], .int .i64 0, .lst .nil 0 []])) fun x5 H6 =>
 DoB (afaddr 0 x1) fun x9 =>
 DoB (aload H6.ah 1 false x9) fun x10 =>
 DoB (abin .eql x10 (.int .i64 3)) fun x12 =>
 Gd3B x12 false (
 DoB (afaddr 0 x1) fun x13 =>
 DoB (aload H6.ah 1 false x13) fun x14 =>
 DoB (abin .eql x14 (.int .i64 4)) fun x16 =>
 JoinB (check_part_k5 Φ n x1 x3 x5 Q) [x16] H6) (
 JoinB (check_part_k5 Φ n x1 x3 x5 Q) [(.bool true)] H6) (
 false)
theorem eq_check_part (Φ : CallsB) (n : Nat) (a0 a1 : AV) (H : TH) (Q : PostB) : fnB1 Φ n S.ir_check_part [a0, a1] H Q = check_part Φ n a0 a1 H Q := by kernel_rfl

def check_vars_k1 (Φ : CallsB) (n : Nat) (s6 : List AV × TH) (L7 : (List AV × TH) → Bool) (Q : PostB) : List AV → TH → Bool := fun j9 H10 =>
 DoB (abin .add (sl s6.1 1) (.int .i64 1)) fun x50 =>
 L7 ([(sl j9 0), x50], H10)
def check_vars_k2 (Φ : CallsB) (n : Nat) (x14 : AV) (s6 : List AV × TH) (L7 : (List AV × TH) → Bool) (Q : PostB) : List AV → TH → Bool := fun j18 H19 =>
 DoB (afaddr 1 x14) fun x36 =>
 DoB (aload H19.ah 6 true x36) fun x37 =>
Φ K.layout_Of [x37] H19 fun x39 H40 =>
 DoB (aextract 0 x39) fun x41 =>
 DoB (aextract 1 x39) fun x42 =>
 DoB (aextract 2 x39) fun x43 =>
 DoB (abin .neq x43 (.int .i64 0)) fun x44 =>
 GdB x44 true (
 Q x43 H40) (
 DoB (abin .add (sl s6.1 0) x42) fun x45 =>
 DoB (abin .sub x45 (.int .i64 1)) fun x46 =>
 DoB (abin .quo x46 x42) fun x47 =>
 DoB (abin .mul x47 x42) fun x48 =>
 DoB (abin .add x48 x41) fun x49 =>
 JoinB (check_vars_k1 Φ n s6 L7 Q) [x49] H40)
def check_vars_k3 (Φ : CallsB) (n : Nat) (a0 : AV) (x14 : AV) (s6 : List AV × TH) (L7 : (List AV × TH) → Bool) (Q : PostB) : List AV → TH → Bool := fun j20 H21 =>
 GdB (sl j20 0) true (
 Q (.int .i64 6) H21) (
 DoB (aslice 7 a0 none (some (sl s6.1 1)) none) fun x33 =>
Φ K.slices_ContainsFunc___api_Var_api_Var_ [x33, (.fn K.check_vars_c1 [x14])] H21 fun x34 H35 =>
 GdB x34 true (
 Q (.int .i64 7) H35) (
 JoinB (check_vars_k2 Φ n x14 s6 L7 Q) [] H35))
def check_vars_k4 (Φ : CallsB) (n : Nat) (Q : PostB) : List AV → TH → Bool := fun j3 H4 =>
 DoB (abin .gtr (sl j3 0) (.int .i64 65536)) fun x51 =>
 GdB x51 true (
 Q (.int .i64 9) H4) (
 Q (.int .i64 0) H4)
def check_vars_l5 (Φ : CallsB) (n : Nat) (a0 : AV) (x5 : AV) (Q : PostB) : (List AV × TH) → ((List AV × TH) → Bool) → Bool := fun s6 L7 =>
 DoB (abin .lss (sl s6.1 1) x5) fun x8 =>
 GdB x8 true (
 DoB (aiaddr none 7 a0 (sl s6.1 1)) fun x11 =>
 DoB (aload s6.2.ah 7 true x11) fun x12 =>
 DoHB (some (tbox s6.2 true [.str [], .int .i64 0, .int .i64 0, .bool false, .lst .nil 0 [], .int .i64 0, .lst .nil 0 []])) fun x14 H15 =>
 DoB (tstore H15 7 x14 x12) fun H17 =>
 DoB (afaddr 0 x14) fun x22 =>
 DoB (aload H17.ah 1 false x22) fun x23 =>
Φ K.kind_Name [x23] H17 fun x25 H26 =>
 DoB (aun .not x25) fun x27 =>
 Gd3B x27 false (
 DoB (afaddr 0 x14) fun x28 =>
 DoB (aload H26.ah 1 false x28) fun x29 =>
Φ K.lex_Keyword [x29] H26 fun x31 H32 =>
 JoinB (check_vars_k3 Φ n a0 x14 s6 L7 Q) [x31] H32) (
 JoinB (check_vars_k3 Φ n a0 x14 s6 L7 Q) [(.bool true)] H26) (
 false)) (
 JoinB (check_vars_k4 Φ n Q) [(sl s6.1 0)] s6.2)
def check_vars (Φ : CallsB) (n : Nat) (a0 : AV) (H : TH) (Q : PostB) : Bool :=
 DoB (alen false a0) fun x1 =>
 DoB (abin .gtr x1 (.int .i64 32)) fun x2 =>
 GdB x2 true (
 Q (.int .i64 12) H) (
 DoB (alen false a0) fun x5 =>
 LoopB (check_vars_l5 Φ n a0 x5 Q) n ([(.int .i64 0), (.int .i64 0)], H))
theorem eq_check_vars (Φ : CallsB) (n : Nat) (a0 : AV) (H : TH) (Q : PostB) : fnB1 Φ n S.ir_check_vars [a0] H Q = check_vars Φ n a0 H Q := by kernel_rfl

def check_checker_block_k1 (Φ : CallsB) (n : Nat) (s9 : List AV × TH) (L10 : (List AV × TH) → Bool) (Q : PostB) : List AV → TH → Bool := fun j12 H13 =>
 DoB (abin .add (sl s9.1 0) (.int .i64 1)) fun x35 =>
 L10 ([x35], H13)
def check_checker_block_k2 (Φ : CallsB) (n : Nat) (a0 : AV) (x5 : AV) (Q : PostB) : List AV → TH → Bool := fun j6 H7 =>
 DoB (anilck a0) fun x36 =>
 DoB (afaddr 1 x36) fun x37 =>
 DoB (aload H7.ah 1 false x37) fun x38 =>
 DoB (aslice 1 x38 none (some x5) none) fun x40 =>
 DoB (anilck a0) fun x41 =>
 DoB (afaddr 1 x41) fun x42 =>
 DoB (tstore H7 1 x42 x40) fun H44 =>
 Q (.tup []) H44
def check_checker_block_l3 (Φ : CallsB) (n : Nat) (a0 : AV) (a1 : AV) (a2 : AV) (x5 : AV) (x8 : AV) (Q : PostB) : (List AV × TH) → ((List AV × TH) → Bool) → Bool := fun s9 L10 =>
 DoB (abin .lss (sl s9.1 0) x8) fun x11 =>
 GdB x11 true (
 DoB (aiaddr none 10 a1 (sl s9.1 0)) fun x14 =>
 DoB (aload s9.2.ah 10 true x14) fun x15 =>
 DoHB (some (tbox s9.2 true [.int .i64 0, .int .i64 0, .str [], .str [], .int .i64 0, .str [], .lst .nil 0 [], .lst .nil 0 [], .lst .nil 0 [], .lst .nil 0 []])) fun x17 H18 =>
 DoB (tstore H18 10 x17 x15) fun H20 =>
Φ K.check_checker_bad [a0] H20 fun x21 H22 =>
 DoB (aun .not x21) fun x23 =>
 GdB x23 true (
 DoB (afaddr 1 x17) fun x24 =>
 DoB (aload H22.ah 1 false x24) fun x25 =>
 DoB (anilck a0) fun x27 =>
 DoB (afaddr 3 x27) fun x28 =>
 DoB (tstore H22 1 x28 x25) fun H30 =>
 DoB (aload H30.ah 10 true x17) fun x31 =>
Φ K.check_checker_stmt [a0, x31, a2] H30 fun x33 H34 =>
 JoinB (check_checker_block_k1 Φ n s9 L10 Q) [] H34) (
 JoinB (check_checker_block_k1 Φ n s9 L10 Q) [] H22)) (
 JoinB (check_checker_block_k2 Φ n a0 x5 Q) [] s9.2)
def check_checker_block (Φ : CallsB) (n : Nat) (a0 : AV) (a1 : AV) (a2 : AV) (H : TH) (Q : PostB) : Bool :=
 DoB (anilck a0) fun x1 =>
 DoB (afaddr 1 x1) fun x2 =>
 DoB (aload H.ah 1 false x2) fun x3 =>
 DoB (alen false x3) fun x5 =>
 DoB (alen false a1) fun x8 =>
 LoopB (check_checker_block_l3 Φ n a0 a1 a2 x5 x8 Q) n ([(.int .i64 0)], H)
theorem eq_check_checker_block (Φ : CallsB) (n : Nat) (a0 a1 a2 : AV) (H : TH) (Q : PostB) : fnB1 Φ n S.ir_check_checker_block [a0, a1, a2] H Q = check_checker_block Φ n a0 a1 a2 H Q := by kernel_rfl

def check_checker_bad (Φ : CallsB) (n : Nat) (a0 : AV) (H : TH) (Q : PostB) : Bool :=
 DoB (anilck a0) fun x1 =>
 DoB (afaddr 4 x1) fun x2 =>
 DoB (afaddr 1 x2) fun x3 =>
 DoB (aload H.ah 1 false x3) fun x4 =>
 DoB (abin .neq x4 (.int .i64 0)) fun x6 =>
 Q x6 H
theorem eq_check_checker_bad (Φ : CallsB) (n : Nat) (a0 : AV) (H : TH) (Q : PostB) : fnB1 Φ n S.ir_check_checker_bad [a0] H Q = check_checker_bad Φ n a0 H Q := by kernel_rfl

def check_part_c1 (Φ : CallsB) (n : Nat) (a0 : AV) (a1 : AV) (H : TH) (Q : PostB) : Bool :=
 DoHB (tboxv H false 9 a0) fun x1 H2 =>
 DoB (afaddr 0 x1) fun x3 =>
 DoB (aload H2.ah 1 false x3) fun x4 =>
 DoB (afaddr 0 a1) fun x6 =>
 DoB (aload H2.ah 1 false x6) fun x7 =>
 DoB (abin .eql x4 x7) fun x9 =>
 Q x9 H2
theorem eq_check_part_c1 (Φ : CallsB) (n : Nat) (a0 a1 : AV) (H : TH) (Q : PostB) : fnB1 Φ n S.ir_check_part_c1 [a0, a1] H Q = check_part_c1 Φ n a0 a1 H Q := by kernel_rfl

def check_vars_c1 (Φ : CallsB) (n : Nat) (a0 : AV) (a1 : AV) (H : TH) (Q : PostB) : Bool :=
 DoHB (tboxv H false 7 a0) fun x1 H2 =>
 DoB (afaddr 0 x1) fun x3 =>
 DoB (aload H2.ah 1 false x3) fun x4 =>
 DoB (afaddr 0 a1) fun x6 =>
 DoB (aload H2.ah 1 false x6) fun x7 =>
 DoB (abin .eql x4 x7) fun x9 =>
 Q x9 H2
theorem eq_check_vars_c1 (Φ : CallsB) (n : Nat) (a0 a1 : AV) (H : TH) (Q : PostB) : fnB1 Φ n S.ir_check_vars_c1 [a0, a1] H Q = check_vars_c1 Φ n a0 a1 H Q := by kernel_rfl

def check_checker_stmt_k1 (Φ : CallsB) (n : Nat) (a0 : AV) (a2 : AV) (x1 : AV) (Q : PostB) : List AV → TH → Bool := fun j63 H64 =>
 DoB (afaddr 8 x1) fun x93 =>
 DoB (aload H64.ah 1 false x93) fun x94 =>
 DoB (abin .add a2 (.int .i64 1)) fun x96 =>
Φ K.check_checker_block [a0, x94, x96] H64 fun x97 H98 =>
 DoB (afaddr 1 x1) fun x99 =>
 DoB (aload H98.ah 1 false x99) fun x100 =>
 DoB (anilck a0) fun x102 =>
 DoB (afaddr 3 x102) fun x103 =>
 DoB (tstore H98 1 x103 x100) fun H105 =>
 DoB (afaddr 9 x1) fun x106 =>
 DoB (aload H105.ah 1 false x106) fun x107 =>
 DoB (abin .add a2 (.int .i64 1)) fun x109 =>
Φ K.check_checker_block [a0, x107, x109] H105 fun x110 H111 =>
 Q (.tup []) H111
def check_checker_stmt_k2 (Φ : CallsB) (n : Nat) (a0 : AV) (a2 : AV) (x1 : AV) (Q : PostB) : List AV → TH → Bool := fun j22 H23 =>
 DoB (afaddr 7 x1) fun x58 =>
 DoB (aload H23.ah 1 false x58) fun x59 =>
Φ K.check_checker_exprs [a0, x59, a2] H23 fun x61 H62 =>
 DoB (afaddr 0 x1) fun x65 =>
 DoB (aload H62.ah 1 false x65) fun x66 =>
 DoB (abin .eql x66 (.int .i64 1)) fun x68 =>
 GdB x68 true (
 DoB (anilck a0) fun x69 =>
 DoB (afaddr 1 x69) fun x70 =>
 DoB (aload H62.ah 1 false x70) fun x71 =>
 DoB (afaddr 2 x1) fun x73 =>
 DoB (aload H62.ah 1 false x73) fun x74 =>
 DoHB (tbslice H62 false 1 1 [.str []] [(0, 1, x74)]) fun x76 H77 =>
 DoHB (tappend H77 false 1 16 x71 x76) fun x78 H79 =>
 DoB (anilck a0) fun x80 =>
 DoB (afaddr 1 x80) fun x81 =>
 DoB (tstore H79 1 x81 x78) fun H83 =>
 DoB (anilck a0) fun x84 =>
 DoB (afaddr 2 x84) fun x85 =>
 DoB (aload H83.ah 1 false x85) fun x86 =>
 DoB (abin .add x86 (.int .i64 1)) fun x88 =>
 DoB (anilck a0) fun x89 =>
 DoB (afaddr 2 x89) fun x90 =>
 DoB (tstore H83 1 x90 x88) fun H92 =>
 JoinB (check_checker_stmt_k1 Φ n a0 a2 x1 Q) [] H92) (
 DoB (abin .eql x66 (.int .i64 5)) fun x112 =>
 GdB x112 true (
 DoB (afaddr 2 x1) fun x113 =>
 DoB (aload H62.ah 1 false x113) fun x114 =>
Φ K.check_checker_there [a0, x114] H62 fun x116 H117 =>
Φ K.check_checker_need [a0, x116, (.int .i64 6)] H117 fun x118 H119 =>
 DoB (afaddr 3 x1) fun x120 =>
 DoB (aload H119.ah 1 false x120) fun x121 =>
Φ K.check_checker_there [a0, x121] H119 fun x123 H124 =>
Φ K.check_checker_need [a0, x123, (.int .i64 6)] H124 fun x125 H126 =>
 DoB (afaddr 2 x1) fun x127 =>
 DoB (aload H126.ah 1 false x127) fun x128 =>
 DoB (afaddr 3 x1) fun x130 =>
 DoB (aload H126.ah 1 false x130) fun x131 =>
 DoB (abin .neq x128 x131) fun x133 =>
Φ K.check_checker_need [a0, x133, (.int .i64 7)] H126 fun x134 H135 =>
 JoinB (check_checker_stmt_k1 Φ n a0 a2 x1 Q) [] H135) (
 JoinB (check_checker_stmt_k1 Φ n a0 a2 x1 Q) [] H62))
def check_checker_stmt_k3 (Φ : CallsB) (n : Nat) (a0 : AV) (a2 : AV) (x1 : AV) (Q : PostB) : List AV → TH → Bool := fun j28 H29 =>
 DoB (afaddr 2 x1) fun x43 =>
 DoB (aload H29.ah 1 false x43) fun x44 =>
Φ K.check_checker_there [a0, x44] H29 fun x46 H47 =>
 DoB (aun .not x46) fun x48 =>
Φ K.check_checker_need [a0, x48, (.int .i64 7)] H47 fun x49 H50 =>
 DoB (anilck a0) fun x51 =>
 DoB (afaddr 2 x51) fun x52 =>
 DoB (aload H50.ah 1 false x52) fun x53 =>
 DoB (abin .lss x53 (.int .i64 40)) fun x55 =>
Φ K.check_checker_need [a0, x55, (.int .i64 12)] H50 fun x56 H57 =>
 JoinB (check_checker_stmt_k2 Φ n a0 a2 x1 Q) [] H57
def check_checker_stmt_k4 (Φ : CallsB) (n : Nat) (a0 : AV) (a2 : AV) (x1 : AV) (Q : PostB) : List AV → TH → Bool := fun j146 H147 =>
 GdB (sl j146 0) true (
 DoB (afaddr 0 x1) fun x149 =>
 DoB (aload H147.ah 1 false x149) fun x150 =>
 DoB (afaddr 5 x1) fun x152 =>
 DoB (aload H147.ah 2 true x152) fun x153 =>
Φ K.check_checker_place [a0, x150, x153, a2] H147 fun x155 H156 =>
 JoinB (check_checker_stmt_k2 Φ n a0 a2 x1 Q) [] H156) (
 JoinB (check_checker_stmt_k2 Φ n a0 a2 x1 Q) [] H147)
def check_checker_stmt (Φ : CallsB) (n : Nat) (a0 : AV) (a1 : AV) (a2 : AV) (H : TH) (Q : PostB) : Bool :=
 DoHB (tboxv H false 10 a1) fun x1 H2 =>
 DoB (abin .leq a2 (.int .i64 64)) fun x3 =>
Φ K.check_checker_need [a0, x3, (.int .i64 5)] H2 fun x4 H5 =>
 DoB (aload H5.ah 10 true x1) fun x6 =>
Φ K.check_form [x6] H5 fun x8 H9 =>
Φ K.check_checker_need [a0, x8, (.int .i64 4)] H9 fun x10 H11 =>
 DoB (afaddr 0 x1) fun x12 =>
 DoB (aload H11.ah 1 false x12) fun x13 =>
 DoB (afaddr 4 x1) fun x15 =>
 DoB (aload H11.ah 1 false x15) fun x16 =>
Φ K.check_Order [x13, x16] H11 fun x18 H19 =>
Φ K.check_checker_need [a0, x18, (.int .i64 11)] H19 fun x20 H21 =>
 DoB (afaddr 0 x1) fun x24 =>
 DoB (aload H21.ah 1 false x24) fun x25 =>
 DoB (abin .eql x25 (.int .i64 1)) fun x27 =>
 GdB x27 true (
 DoB (afaddr 2 x1) fun x30 =>
 DoB (aload H21.ah 1 false x30) fun x31 =>
Φ K.kind_Name [x31] H21 fun x33 H34 =>
 Gd3B x33 true (
 DoB (afaddr 2 x1) fun x35 =>
 DoB (aload H34.ah 1 false x35) fun x36 =>
Φ K.lex_Keyword [x36] H34 fun x38 H39 =>
 DoB (aun .not x38) fun x40 =>
Φ K.check_checker_need [a0, x40, (.int .i64 6)] H39 fun x41 H42 =>
 JoinB (check_checker_stmt_k3 Φ n a0 a2 x1 Q) [] H42) (
Φ K.check_checker_need [a0, (.bool false), (.int .i64 6)] H34 fun x136 H137 =>
 JoinB (check_checker_stmt_k3 Φ n a0 a2 x1 Q) [] H137) (
 false)) (
 DoB (abin .eql x25 (.int .i64 2)) fun x138 =>
 GdB x138 true (
 DoB (afaddr 2 x1) fun x139 =>
 DoB (aload H21.ah 1 false x139) fun x140 =>
Φ K.check_checker_there [a0, x140] H21 fun x142 H143 =>
Φ K.check_checker_need [a0, x142, (.int .i64 6)] H143 fun x144 H145 =>
 JoinB (check_checker_stmt_k2 Φ n a0 a2 x1 Q) [] H145) (
 DoB (abin .eql x25 (.int .i64 3)) fun x148 =>
 GdB x148 true (
 JoinB (check_checker_stmt_k4 Φ n a0 a2 x1 Q) [x148] H21) (
 DoB (abin .eql x25 (.int .i64 4)) fun x157 =>
 GdB x157 true (
 JoinB (check_checker_stmt_k4 Φ n a0 a2 x1 Q) [x157] H21) (
 DoB (abin .eql x25 (.int .i64 5)) fun x158 =>
 GdB x158 true (
 JoinB (check_checker_stmt_k4 Φ n a0 a2 x1 Q) [x158] H21) (
 DoB (abin .eql x25 (.int .i64 6)) fun x159 =>
 JoinB (check_checker_stmt_k4 Φ n a0 a2 x1 Q) [x159] H21)))))
theorem eq_check_checker_stmt (Φ : CallsB) (n : Nat) (a0 a1 a2 : AV) (H : TH) (Q : PostB) : fnB1 Φ n S.ir_check_checker_stmt [a0, a1, a2] H Q = check_checker_stmt Φ n a0 a1 a2 H Q := by kernel_rfl

def check_checker_need_k1 (Φ : CallsB) (n : Nat) (a0 : AV) (a2 : AV) (Q : PostB) : List AV → TH → Bool := fun j1 H2 =>
 GdB (sl j1 0) true (
 DoB (anilck a0) fun x7 =>
 DoB (afaddr 3 x7) fun x8 =>
 DoB (aload H2.ah 1 false x8) fun x9 =>
 DoB (abuild [.int .i64 0, .int .i64 0] [(0, 1, x9), (1, 1, a2)]) fun x11 =>
 DoB (anilck a0) fun x12 =>
 DoB (afaddr 4 x12) fun x13 =>
 DoB (tstore H2 2 x13 x11) fun H15 =>
 Q (.tup []) H15) (
 Q (.tup []) H2)
def check_checker_need (Φ : CallsB) (n : Nat) (a0 : AV) (a1 : AV) (a2 : AV) (H : TH) (Q : PostB) : Bool :=
 DoB (aun .not a1) fun x3 =>
 Gd3B x3 true (
Φ K.check_checker_bad [a0] H fun x4 H5 =>
 DoB (aun .not x4) fun x6 =>
 JoinB (check_checker_need_k1 Φ n a0 a2 Q) [x6] H5) (
 JoinB (check_checker_need_k1 Φ n a0 a2 Q) [(.bool false)] H) (
 false)
theorem eq_check_checker_need (Φ : CallsB) (n : Nat) (a0 a1 a2 : AV) (H : TH) (Q : PostB) : fnB1 Φ n S.ir_check_checker_need [a0, a1, a2] H Q = check_checker_need Φ n a0 a1 a2 H Q := by kernel_rfl

def check_form_k1 (Φ : CallsB) (n : Nat) (x1 : AV) (x10 : AV) (Q : PostB) : List AV → TH → Bool := fun j52 H53 =>
 Gd3B (sl j52 0) true (
 DoB (afaddr 5 x10) fun x62 =>
 DoB (aload H53.ah 1 false x62) fun x63 =>
 Gd3B x63 false (
 DoB (afaddr 9 x1) fun x65 =>
 DoB (aload H53.ah 1 false x65) fun x66 =>
 DoB (alen false x66) fun x68 =>
 DoB (abin .eql x68 (.int .i64 0)) fun x69 =>
 Q x69 H53) (
 Q (.bool true) H53) (
 false)) (
 Q (.bool false) H53) (
 false)
def check_form_k2 (Φ : CallsB) (n : Nat) (x1 : AV) (x10 : AV) (Q : PostB) : List AV → TH → Bool := fun j42 H43 =>
 Gd3B (sl j42 0) true (
 DoB (afaddr 4 x10) fun x54 =>
 DoB (aload H43.ah 1 false x54) fun x55 =>
 Gd3B x55 false (
 DoB (afaddr 8 x1) fun x57 =>
 DoB (aload H43.ah 1 false x57) fun x58 =>
 DoB (alen false x58) fun x60 =>
 DoB (abin .eql x60 (.int .i64 0)) fun x61 =>
 JoinB (check_form_k1 Φ n x1 x10 Q) [x61] H43) (
 JoinB (check_form_k1 Φ n x1 x10 Q) [(.bool true)] H43) (
 false)) (
 JoinB (check_form_k1 Φ n x1 x10 Q) [(.bool false)] H43) (
 false)
def check_form_k3 (Φ : CallsB) (n : Nat) (x1 : AV) (x10 : AV) (Q : PostB) : List AV → TH → Bool := fun j32 H33 =>
 Gd3B (sl j32 0) true (
 DoB (afaddr 7 x1) fun x44 =>
 DoB (aload H33.ah 1 false x44) fun x45 =>
 DoB (alen false x45) fun x47 =>
 DoB (afaddr 3 x10) fun x48 =>
 DoB (aload H33.ah 1 false x48) fun x49 =>
 DoB (abin .eql x47 x49) fun x51 =>
 JoinB (check_form_k2 Φ n x1 x10 Q) [x51] H33) (
 JoinB (check_form_k2 Φ n x1 x10 Q) [(.bool false)] H33) (
 false)
def check_form_k4 (Φ : CallsB) (n : Nat) (x1 : AV) (x10 : AV) (Q : PostB) : List AV → TH → Bool := fun j23 H24 =>
 Gd3B (sl j23 0) true (
 DoB (afaddr 2 x10) fun x34 =>
 DoB (aload H24.ah 1 false x34) fun x35 =>
 Gd3B x35 false (
 DoB (afaddr 5 x1) fun x37 =>
 DoB (aload H24.ah 2 true x37) fun x38 =>
Φ K.check_empty [x38] H24 fun x40 H41 =>
 JoinB (check_form_k3 Φ n x1 x10 Q) [x40] H41) (
 JoinB (check_form_k3 Φ n x1 x10 Q) [(.bool true)] H24) (
 false)) (
 JoinB (check_form_k3 Φ n x1 x10 Q) [(.bool false)] H24) (
 false)
def check_form_k5 (Φ : CallsB) (n : Nat) (x1 : AV) (x10 : AV) (Q : PostB) : List AV → TH → Bool := fun j14 H15 =>
 Gd3B (sl j14 0) true (
 DoB (afaddr 1 x10) fun x25 =>
 DoB (aload H15.ah 1 false x25) fun x26 =>
 Gd3B x26 false (
 DoB (afaddr 3 x1) fun x28 =>
 DoB (aload H15.ah 1 false x28) fun x29 =>
 DoB (abin .eql x29 (.str [])) fun x31 =>
 JoinB (check_form_k4 Φ n x1 x10 Q) [x31] H15) (
 JoinB (check_form_k4 Φ n x1 x10 Q) [(.bool true)] H15) (
 false)) (
 JoinB (check_form_k4 Φ n x1 x10 Q) [(.bool false)] H15) (
 false)
def check_form (Φ : CallsB) (n : Nat) (a0 : AV) (H : TH) (Q : PostB) : Bool :=
 DoHB (tboxv H false 10 a0) fun x1 H2 =>
 DoB (afaddr 0 x1) fun x3 =>
 DoB (aload H2.ah 1 false x3) fun x4 =>
Φ K.check_of [x4] H2 fun x6 H7 =>
 DoB (aextract 0 x6) fun x8 =>
 DoB (aextract 1 x6) fun x9 =>
 DoHB (some (tbox H7 true [.bool false, .bool false, .bool false, .int .i64 0, .bool false, .bool false])) fun x10 H11 =>
 DoB (tstore H11 6 x10 x8) fun H13 =>
 Gd3B x9 true (
 DoB (afaddr 0 x10) fun x16 =>
 DoB (aload H13.ah 1 false x16) fun x17 =>
 Gd3B x17 false (
 DoB (afaddr 2 x1) fun x19 =>
 DoB (aload H13.ah 1 false x19) fun x20 =>
 DoB (abin .eql x20 (.str [])) fun x22 =>
 JoinB (check_form_k5 Φ n x1 x10 Q) [x22] H13) (
 JoinB (check_form_k5 Φ n x1 x10 Q) [(.bool true)] H13) (
 false)) (
 JoinB (check_form_k5 Φ n x1 x10 Q) [(.bool false)] H13) (
 false)
theorem eq_check_form (Φ : CallsB) (n : Nat) (a0 : AV) (H : TH) (Q : PostB) : fnB1 Φ n S.ir_check_form [a0] H Q = check_form Φ n a0 H Q := by kernel_rfl

def check_checker_there (Φ : CallsB) (n : Nat) (a0 : AV) (a1 : AV) (H : TH) (Q : PostB) : Bool :=
 DoB (anilck a0) fun x1 =>
 DoB (afaddr 1 x1) fun x2 =>
 DoB (aload H.ah 1 false x2) fun x3 =>
Φ K.slices_Contains___string_string_ [x3, a1] H fun x5 H6 =>
 Q x5 H6
theorem eq_check_checker_there (Φ : CallsB) (n : Nat) (a0 a1 : AV) (H : TH) (Q : PostB) : fnB1 Φ n S.ir_check_checker_there [a0, a1] H Q = check_checker_there Φ n a0 a1 H Q := by kernel_rfl

def check_checker_place_k1 (Φ : CallsB) (n : Nat) (s36 : List AV × TH) (L37 : (List AV × TH) → Bool) (Q : PostB) : List AV → TH → Bool := fun j39 H40 =>
 DoB (abin .add (sl s36.1 0) (.int .i64 1)) fun x68 =>
 L37 ([x68], H40)
def check_checker_place_l2 (Φ : CallsB) (n : Nat) (a0 : AV) (a3 : AV) (x49 : AV) (x51 : AV) (s36 : List AV × TH) (L37 : (List AV × TH) → Bool) (Q : PostB) : (List AV × TH) → ((List AV × TH) → Bool) → Bool := fun s52 L53 =>
 DoB (abin .lss (sl s52.1 0) x51) fun x54 =>
 GdB x54 true (
 DoB (aiaddr none 8 x49 (sl s52.1 0)) fun x55 =>
 DoB (aload s52.2.ah 8 true x55) fun x56 =>
 DoHB (some (tbox s52.2 true [.int .i64 0, .int .u64 0, .str [], .int .i64 0, .int .i64 0, .str [], .lst .nil 0 [], .lst .nil 0 []])) fun x58 H59 =>
 DoB (tstore H59 8 x58 x56) fun H61 =>
 DoB (aload H61.ah 8 true x58) fun x62 =>
 DoB (abin .add a3 (.int .i64 1)) fun x64 =>
Φ K.check_checker_expr [a0, x62, x64] H61 fun x65 H66 =>
 DoB (abin .add (sl s52.1 0) (.int .i64 1)) fun x67 =>
 L53 ([x67], H66)) (
 JoinB (check_checker_place_k1 Φ n s36 L37 Q) [] s52.2)
def check_checker_place_l3 (Φ : CallsB) (n : Nat) (a0 : AV) (a3 : AV) (x33 : AV) (x35 : AV) (Q : PostB) : (List AV × TH) → ((List AV × TH) → Bool) → Bool := fun s36 L37 =>
 DoB (abin .lss (sl s36.1 0) x35) fun x38 =>
 GdB x38 true (
 DoB (aiaddr none 2 x33 (sl s36.1 0)) fun x41 =>
 DoB (aload s36.2.ah 2 true x41) fun x42 =>
 DoHB (some (tbox s36.2 true [.str [], .lst .nil 0 []])) fun x44 H45 =>
 DoB (tstore H45 2 x44 x42) fun H47 =>
 DoB (afaddr 1 x44) fun x48 =>
 DoB (aload H47.ah 1 false x48) fun x49 =>
 DoB (alen false x49) fun x51 =>
 LoopB (check_checker_place_l2 Φ n a0 a3 x49 x51 s36 L37 Q) n ([(.int .i64 0)], H47)) (
 Q (.tup []) s36.2)
def check_checker_place_k4 (Φ : CallsB) (n : Nat) (a0 : AV) (a3 : AV) (x1 : AV) (Q : PostB) : List AV → TH → Bool := fun j22 H23 =>
 DoB (afaddr 1 x1) fun x32 =>
 DoB (aload H23.ah 1 false x32) fun x33 =>
 DoB (alen false x33) fun x35 =>
 LoopB (check_checker_place_l3 Φ n a0 a3 x33 x35 Q) n ([(.int .i64 0)], H23)
def check_checker_place (Φ : CallsB) (n : Nat) (a0 : AV) (a1 : AV) (a2 : AV) (a3 : AV) (H : TH) (Q : PostB) : Bool :=
 DoHB (tboxv H false 2 a2) fun x1 H2 =>
Φ K.check_checker_bad [a0] H2 fun x3 H4 =>
 GdB x3 true (
 Q (.tup []) H4) (
 DoB (anilck a0) fun x5 =>
 DoB (afaddr 0 x5) fun x6 =>
 DoB (aload H4.ah 1 false x6) fun x7 =>
 DoB (aload H4.ah 2 true x1) fun x9 =>
Φ K.check_Place [x7, x9] H4 fun x11 H12 =>
 DoB (aextract 0 x11) fun x13 =>
 DoB (aextract 1 x11) fun x14 =>
 DoHB (some (tbox H12 true [.int .i64 0, .int .i64 0, .bool false, .lst .nil 0 [], .int .i64 0, .lst .nil 0 []])) fun x15 H16 =>
 and (sameV (aload H16.ah 1 false x6) x7) (
 and (sameV (aload H16.ah 2 true x1) x9) (
 DoB (tstore H16 6 x15 x13) fun H18 =>
 DoB (abin .eql x14 (.int .i64 0)) fun x19 =>
Φ K.check_checker_need [a0, x19, x14] H18 fun x20 H21 =>
Φ K.check_checker_bad [a0] H21 fun x24 H25 =>
 Gd3B x24 false (
 DoB (aload H25.ah 6 true x15) fun x26 =>
Φ K.check_fits [a1, x26] H25 fun x28 H29 =>
Φ K.check_checker_need [a0, x28, (.int .i64 8)] H29 fun x30 H31 =>
 JoinB (check_checker_place_k4 Φ n a0 a3 x1 Q) [] H31) (
Φ K.check_checker_need [a0, (.bool true), (.int .i64 8)] H25 fun x69 H70 =>
 JoinB (check_checker_place_k4 Φ n a0 a3 x1 Q) [] H70) (
 false))))
theorem eq_check_checker_place (Φ : CallsB) (n : Nat) (a0 a1 a2 a3 : AV) (H : TH) (Q : PostB) : fnB1 Φ n S.ir_check_checker_place [a0, a1, a2, a3] H Q = check_checker_place Φ n a0 a1 a2 a3 H Q := by kernel_rfl

def check_checker_exprs_k1 (Φ : CallsB) (n : Nat) (s2 : List AV × TH) (L3 : (List AV × TH) → Bool) (Q : PostB) : List AV → TH → Bool := fun j5 H6 =>
 DoB (abin .add (sl s2.1 0) (.int .i64 1)) fun x22 =>
 L3 ([x22], H6)
def check_checker_exprs_l2 (Φ : CallsB) (n : Nat) (a0 : AV) (a1 : AV) (a2 : AV) (x1 : AV) (Q : PostB) : (List AV × TH) → ((List AV × TH) → Bool) → Bool := fun s2 L3 =>
 DoB (abin .lss (sl s2.1 0) x1) fun x4 =>
 GdB x4 true (
 DoB (aiaddr none 8 a1 (sl s2.1 0)) fun x7 =>
 DoB (aload s2.2.ah 8 true x7) fun x8 =>
 DoHB (some (tbox s2.2 true [.int .i64 0, .int .u64 0, .str [], .int .i64 0, .int .i64 0, .str [], .lst .nil 0 [], .lst .nil 0 []])) fun x10 H11 =>
 DoB (tstore H11 8 x10 x8) fun H13 =>
Φ K.check_checker_bad [a0] H13 fun x14 H15 =>
 DoB (aun .not x14) fun x16 =>
 GdB x16 true (
 DoB (aload H15.ah 8 true x10) fun x17 =>
 DoB (abin .add a2 (.int .i64 1)) fun x19 =>
Φ K.check_checker_expr [a0, x17, x19] H15 fun x20 H21 =>
 JoinB (check_checker_exprs_k1 Φ n s2 L3 Q) [] H21) (
 JoinB (check_checker_exprs_k1 Φ n s2 L3 Q) [] H15)) (
 Q (.tup []) s2.2)
def check_checker_exprs (Φ : CallsB) (n : Nat) (a0 : AV) (a1 : AV) (a2 : AV) (H : TH) (Q : PostB) : Bool :=
 DoB (alen false a1) fun x1 =>
 LoopB (check_checker_exprs_l2 Φ n a0 a1 a2 x1 Q) n ([(.int .i64 0)], H)
theorem eq_check_checker_exprs (Φ : CallsB) (n : Nat) (a0 a1 a2 : AV) (H : TH) (Q : PostB) : fnB1 Φ n S.ir_check_checker_exprs [a0, a1, a2] H Q = check_checker_exprs Φ n a0 a1 a2 H Q := by kernel_rfl

def check_of_k1 (Φ : CallsB) (n : Nat) (x1 : AV) (Q : PostB) : List AV → TH → Bool := fun j3 H4 =>
 DoB (abuild [.bool false, .bool false, .bool false, .int .i64 0, .bool false, .bool false] []) fun x49 =>
 DoB (tstore H4 6 x1 x49) fun H51 =>
 DoB (aload H51.ah 6 true x1) fun x52 =>
 Q (.tup [x52, (.bool false)]) H51
def check_of_k2 (Φ : CallsB) (n : Nat) (a0 : AV) (x1 : AV) (Q : PostB) : List AV → TH → Bool := fun j12 H13 =>
 GdB (sl j12 0) true (
 DoB (abuild [.bool false, .bool false, .bool false, .int .i64 0, .bool false, .bool false] [(2, 1, (.bool true)), (3, 1, (.int .i64 1))]) fun x15 =>
 DoB (tstore H13 6 x1 x15) fun H17 =>
 DoB (aload H17.ah 6 true x1) fun x18 =>
 Q (.tup [x18, (.bool true)]) H17) (
 DoB (abin .eql a0 (.int .i64 5)) fun x19 =>
 GdB x19 true (
 DoB (abuild [.bool false, .bool false, .bool false, .int .i64 0, .bool false, .bool false] [(0, 1, (.bool true)), (1, 1, (.bool true)), (2, 1, (.bool true))]) fun x20 =>
 DoB (tstore H13 6 x1 x20) fun H22 =>
 DoB (aload H22.ah 6 true x1) fun x23 =>
 Q (.tup [x23, (.bool true)]) H22) (
 DoB (abin .eql a0 (.int .i64 6)) fun x24 =>
 GdB x24 true (
 DoB (abuild [.bool false, .bool false, .bool false, .int .i64 0, .bool false, .bool false] [(2, 1, (.bool true)), (3, 1, (.int .i64 2))]) fun x25 =>
 DoB (tstore H13 6 x1 x25) fun H27 =>
 DoB (aload H27.ah 6 true x1) fun x28 =>
 Q (.tup [x28, (.bool true)]) H27) (
 DoB (abin .eql a0 (.int .i64 7)) fun x29 =>
 GdB x29 true (
 DoB (abuild [.bool false, .bool false, .bool false, .int .i64 0, .bool false, .bool false] []) fun x30 =>
 DoB (tstore H13 6 x1 x30) fun H32 =>
 DoB (aload H32.ah 6 true x1) fun x33 =>
 Q (.tup [x33, (.bool true)]) H32) (
 DoB (abin .eql a0 (.int .i64 8)) fun x34 =>
 GdB x34 true (
 DoB (abuild [.bool false, .bool false, .bool false, .int .i64 0, .bool false, .bool false] [(3, 1, (.int .i64 1)), (4, 1, (.bool true)), (5, 1, (.bool true))]) fun x35 =>
 DoB (tstore H13 6 x1 x35) fun H37 =>
 DoB (aload H37.ah 6 true x1) fun x38 =>
 Q (.tup [x38, (.bool true)]) H37) (
 DoB (abin .eql a0 (.int .i64 9)) fun x39 =>
 GdB x39 true (
 DoB (abuild [.bool false, .bool false, .bool false, .int .i64 0, .bool false, .bool false] [(3, 1, (.int .i64 1)), (4, 1, (.bool true))]) fun x40 =>
 DoB (tstore H13 6 x1 x40) fun H42 =>
 DoB (aload H42.ah 6 true x1) fun x43 =>
 Q (.tup [x43, (.bool true)]) H42) (
 DoB (abin .eql a0 (.int .i64 10)) fun x44 =>
 GdB x44 true (
 DoB (abuild [.bool false, .bool false, .bool false, .int .i64 0, .bool false, .bool false] [(3, 1, (.int .i64 1))]) fun x45 =>
 DoB (tstore H13 6 x1 x45) fun H47 =>
 DoB (aload H47.ah 6 true x1) fun x48 =>
 Q (.tup [x48, (.bool true)]) H47) (
 JoinB (check_of_k1 Φ n x1 Q) [] H13)))))))
def check_of_k3 (Φ : CallsB) (n : Nat) (a0 : AV) (x1 : AV) (Q : PostB) : List AV → TH → Bool := fun j5 H6 =>
 GdB (sl j5 0) true (
 DoB (abuild [.bool false, .bool false, .bool false, .int .i64 0, .bool false, .bool false] [(0, 1, (.bool true)), (3, 1, (.int .i64 1))]) fun x8 =>
 DoB (tstore H6 6 x1 x8) fun H10 =>
 DoB (aload H10.ah 6 true x1) fun x11 =>
 Q (.tup [x11, (.bool true)]) H10) (
 DoB (abin .eql a0 (.int .i64 3)) fun x14 =>
 GdB x14 true (
 JoinB (check_of_k2 Φ n a0 x1 Q) [x14] H6) (
 DoB (abin .eql a0 (.int .i64 4)) fun x53 =>
 JoinB (check_of_k2 Φ n a0 x1 Q) [x53] H6))
def check_of (Φ : CallsB) (n : Nat) (a0 : AV) (H : TH) (Q : PostB) : Bool :=
 DoHB (some (tbox H true [.bool false, .bool false, .bool false, .int .i64 0, .bool false, .bool false])) fun x1 H2 =>
 DoB (abin .eql a0 (.int .i64 1)) fun x7 =>
 GdB x7 true (
 JoinB (check_of_k3 Φ n a0 x1 Q) [x7] H2) (
 DoB (abin .eql a0 (.int .i64 2)) fun x54 =>
 JoinB (check_of_k3 Φ n a0 x1 Q) [x54] H2)
theorem eq_check_of (Φ : CallsB) (n : Nat) (a0 : AV) (H : TH) (Q : PostB) : fnB1 Φ n S.ir_check_of [a0] H Q = check_of Φ n a0 H Q := by kernel_rfl

def check_empty (Φ : CallsB) (n : Nat) (a0 : AV) (H : TH) (Q : PostB) : Bool :=
 DoHB (tboxv H false 2 a0) fun x1 H2 =>
 DoB (afaddr 0 x1) fun x3 =>
 DoB (aload H2.ah 1 false x3) fun x4 =>
 DoB (abin .eql x4 (.str [])) fun x6 =>
 Gd3B x6 true (
 DoB (afaddr 1 x1) fun x7 =>
 DoB (aload H2.ah 1 false x7) fun x8 =>
 DoB (alen false x8) fun x10 =>
 DoB (abin .eql x10 (.int .i64 0)) fun x11 =>
 Q x11 H2) (
 Q (.bool false) H2) (
 false)
theorem eq_check_empty (Φ : CallsB) (n : Nat) (a0 : AV) (H : TH) (Q : PostB) : fnB1 Φ n S.ir_check_empty [a0] H Q = check_empty Φ n a0 H Q := by kernel_rfl

def check_fits_k1 (Φ : CallsB) (n : Nat) (x1 : AV) (Q : PostB) : List AV → TH → Bool := fun j3 H4 =>
 DoB (afaddr 0 x1) fun x23 =>
 DoB (aload H4.ah 1 false x23) fun x24 =>
 DoB (abin .eql x24 (.int .i64 2)) fun x26 =>
 Gd3B x26 true (
 DoB (afaddr 1 x1) fun x27 =>
 DoB (aload H4.ah 1 false x27) fun x28 =>
 DoB (abin .leq x28 (.int .i64 8)) fun x30 =>
 Q x30 H4) (
 Q (.bool false) H4) (
 false)
def check_fits_k2 (Φ : CallsB) (n : Nat) (x1 : AV) (Q : PostB) : List AV → TH → Bool := fun j12 H13 =>
 GdB (sl j12 0) true (
 DoB (afaddr 0 x1) fun x15 =>
 DoB (aload H13.ah 1 false x15) fun x16 =>
 DoB (abin .eql x16 (.int .i64 2)) fun x18 =>
 Gd3B x18 true (
 DoB (afaddr 1 x1) fun x19 =>
 DoB (aload H13.ah 1 false x19) fun x20 =>
 DoB (abin .eql x20 (.int .i64 16)) fun x22 =>
 Q x22 H13) (
 Q (.bool false) H13) (
 false)) (
 JoinB (check_fits_k1 Φ n x1 Q) [] H13)
def check_fits_k3 (Φ : CallsB) (n : Nat) (a0 : AV) (x1 : AV) (Q : PostB) : List AV → TH → Bool := fun j5 H6 =>
 GdB (sl j5 0) true (
 DoB (afaddr 0 x1) fun x8 =>
 DoB (aload H6.ah 1 false x8) fun x9 =>
 DoB (abin .eql x9 (.int .i64 1)) fun x11 =>
 Q x11 H6) (
 DoB (abin .eql a0 (.int .i64 5)) fun x14 =>
 GdB x14 true (
 JoinB (check_fits_k2 Φ n x1 Q) [x14] H6) (
 DoB (abin .eql a0 (.int .i64 6)) fun x31 =>
 JoinB (check_fits_k2 Φ n x1 Q) [x31] H6))
def check_fits (Φ : CallsB) (n : Nat) (a0 : AV) (a1 : AV) (H : TH) (Q : PostB) : Bool :=
 DoHB (tboxv H false 6 a1) fun x1 H2 =>
 DoB (abin .eql a0 (.int .i64 3)) fun x7 =>
 GdB x7 true (
 JoinB (check_fits_k3 Φ n a0 x1 Q) [x7] H2) (
 DoB (abin .eql a0 (.int .i64 14)) fun x32 =>
 JoinB (check_fits_k3 Φ n a0 x1 Q) [x32] H2)
theorem eq_check_fits (Φ : CallsB) (n : Nat) (a0 a1 : AV) (H : TH) (Q : PostB) : fnB1 Φ n S.ir_check_fits [a0, a1] H Q = check_fits Φ n a0 a1 H Q := by kernel_rfl

def check_checker_expr_k1 (Φ : CallsB) (n : Nat) (a0 : AV) (a2 : AV) (x1 : AV) (Q : PostB) : List AV → TH → Bool := fun j38 H39 =>
 DoB (afaddr 7 x1) fun x53 =>
 DoB (aload H39.ah 1 false x53) fun x54 =>
Φ K.check_checker_exprs [a0, x54, a2] H39 fun x56 H57 =>
 Q (.tup []) H57
def check_checker_expr_k2 (Φ : CallsB) (n : Nat) (a0 : AV) (a2 : AV) (x1 : AV) (Q : PostB) : List AV → TH → Bool := fun j25 H26 =>
 DoB (afaddr 0 x1) fun x40 =>
 DoB (aload H26.ah 1 false x40) fun x41 =>
 DoB (abin .geq x41 (.int .i64 4)) fun x43 =>
 GdB x43 true (
 DoB (afaddr 0 x1) fun x44 =>
 DoB (aload H26.ah 1 false x44) fun x45 =>
 DoB (abin .add (.int .i64 10) x45) fun x47 =>
 DoB (afaddr 5 x1) fun x48 =>
 DoB (aload H26.ah 2 true x48) fun x49 =>
Φ K.check_checker_place [a0, x47, x49, a2] H26 fun x51 H52 =>
 JoinB (check_checker_expr_k1 Φ n a0 a2 x1 Q) [] H52) (
 JoinB (check_checker_expr_k1 Φ n a0 a2 x1 Q) [] H26)
def check_checker_expr (Φ : CallsB) (n : Nat) (a0 : AV) (a1 : AV) (a2 : AV) (H : TH) (Q : PostB) : Bool :=
 DoHB (tboxv H false 8 a1) fun x1 H2 =>
 DoB (abin .leq a2 (.int .i64 64)) fun x3 =>
Φ K.check_checker_need [a0, x3, (.int .i64 5)] H2 fun x4 H5 =>
 DoB (aload H5.ah 8 true x1) fun x6 =>
Φ K.check_formed [x6] H5 fun x8 H9 =>
Φ K.check_checker_need [a0, x8, (.int .i64 4)] H9 fun x10 H11 =>
 DoB (afaddr 0 x1) fun x12 =>
 DoB (aload H11.ah 1 false x12) fun x13 =>
 DoB (abin .add (.int .i64 10) x13) fun x15 =>
 DoB (afaddr 4 x1) fun x16 =>
 DoB (aload H11.ah 1 false x16) fun x17 =>
Φ K.check_Order [x15, x17] H11 fun x19 H20 =>
Φ K.check_checker_need [a0, x19, (.int .i64 11)] H20 fun x21 H22 =>
Φ K.check_checker_bad [a0] H22 fun x23 H24 =>
 GdB x23 true (
 Q (.tup []) H24) (
 DoB (afaddr 0 x1) fun x27 =>
 DoB (aload H24.ah 1 false x27) fun x28 =>
 DoB (abin .eql x28 (.int .i64 2)) fun x30 =>
 GdB x30 true (
 DoB (afaddr 2 x1) fun x31 =>
 DoB (aload H24.ah 1 false x31) fun x32 =>
Φ K.check_checker_there [a0, x32] H24 fun x34 H35 =>
Φ K.check_checker_need [a0, x34, (.int .i64 6)] H35 fun x36 H37 =>
 JoinB (check_checker_expr_k2 Φ n a0 a2 x1 Q) [] H37) (
 JoinB (check_checker_expr_k2 Φ n a0 a2 x1 Q) [] H24))
theorem eq_check_checker_expr (Φ : CallsB) (n : Nat) (a0 a1 a2 : AV) (H : TH) (Q : PostB) : fnB1 Φ n S.ir_check_checker_expr [a0, a1, a2] H Q = check_checker_expr Φ n a0 a1 a2 H Q := by kernel_rfl

def check_formed_k1 (Φ : CallsB) (n : Nat) (x1 : AV) (j3 : List AV) (Q : PostB) : List AV → TH → Bool := fun j50 H51 =>
 Gd3B (sl j50 0) true (
 DoB (afaddr 7 x1) fun x57 =>
 DoB (aload H51.ah 1 false x57) fun x58 =>
 DoB (alen false x58) fun x60 =>
 DoB (abin .eql x60 (sl j3 0)) fun x61 =>
 Q x61 H51) (
 Q (.bool false) H51) (
 false)
def check_formed_k2 (Φ : CallsB) (n : Nat) (x1 : AV) (j3 : List AV) (Q : PostB) : List AV → TH → Bool := fun j35 H36 =>
 Gd3B (sl j35 0) true (
 Gd3B (sl j3 1) false (
 DoB (afaddr 5 x1) fun x52 =>
 DoB (aload H36.ah 2 true x52) fun x53 =>
Φ K.check_empty [x53] H36 fun x55 H56 =>
 JoinB (check_formed_k1 Φ n x1 j3 Q) [x55] H56) (
 JoinB (check_formed_k1 Φ n x1 j3 Q) [(.bool true)] H36) (
 false)) (
 JoinB (check_formed_k1 Φ n x1 j3 Q) [(.bool false)] H36) (
 false)
def check_formed_k3 (Φ : CallsB) (n : Nat) (x1 : AV) (x14 : AV) (j3 : List AV) (Q : PostB) : List AV → TH → Bool := fun j25 H26 =>
 Gd3B (sl j25 0) true (
 Gd3B x14 true (
 DoB (afaddr 3 x1) fun x37 =>
 DoB (aload H26.ah 1 false x37) fun x38 =>
 DoB (abin .geq x38 (.int .i64 1)) fun x40 =>
 Gd3B x40 true (
 DoB (afaddr 3 x1) fun x41 =>
 DoB (aload H26.ah 1 false x41) fun x42 =>
 DoB (abin .leq x42 (.int .i64 11)) fun x44 =>
 Gd3B x44 false (
 DoB (aun .not x14) fun x45 =>
 Gd3B x45 true (
 DoB (afaddr 3 x1) fun x46 =>
 DoB (aload H26.ah 1 false x46) fun x47 =>
 DoB (abin .eql x47 (.int .i64 0)) fun x49 =>
 JoinB (check_formed_k2 Φ n x1 j3 Q) [x49] H26) (
 JoinB (check_formed_k2 Φ n x1 j3 Q) [(.bool false)] H26) (
 false)) (
 JoinB (check_formed_k2 Φ n x1 j3 Q) [(.bool true)] H26) (
 false)) (
 DoB (aun .not x14) fun x62 =>
 Gd3B x62 true (
 DoB (afaddr 3 x1) fun x63 =>
 DoB (aload H26.ah 1 false x63) fun x64 =>
 DoB (abin .eql x64 (.int .i64 0)) fun x66 =>
 JoinB (check_formed_k2 Φ n x1 j3 Q) [x66] H26) (
 JoinB (check_formed_k2 Φ n x1 j3 Q) [(.bool false)] H26) (
 false)) (
 false)) (
 DoB (aun .not x14) fun x67 =>
 Gd3B x67 true (
 DoB (afaddr 3 x1) fun x68 =>
 DoB (aload H26.ah 1 false x68) fun x69 =>
 DoB (abin .eql x69 (.int .i64 0)) fun x71 =>
 JoinB (check_formed_k2 Φ n x1 j3 Q) [x71] H26) (
 JoinB (check_formed_k2 Φ n x1 j3 Q) [(.bool false)] H26) (
 false)) (
 false)) (
 JoinB (check_formed_k2 Φ n x1 j3 Q) [(.bool false)] H26) (
 false)
def check_formed_k4 (Φ : CallsB) (n : Nat) (x1 : AV) (x14 : AV) (j3 : List AV) (Q : PostB) : List AV → TH → Bool := fun j15 H16 =>
 Gd3B (sl j15 0) true (
 DoB (afaddr 0 x1) fun x27 =>
 DoB (aload H16.ah 1 false x27) fun x28 =>
 DoB (abin .eql x28 (.int .i64 2)) fun x30 =>
 Gd3B x30 false (
 DoB (afaddr 2 x1) fun x31 =>
 DoB (aload H16.ah 1 false x31) fun x32 =>
 DoB (abin .eql x32 (.str [])) fun x34 =>
 JoinB (check_formed_k3 Φ n x1 x14 j3 Q) [x34] H16) (
 JoinB (check_formed_k3 Φ n x1 x14 j3 Q) [(.bool true)] H16) (
 false)) (
 JoinB (check_formed_k3 Φ n x1 x14 j3 Q) [(.bool false)] H16) (
 false)
def check_formed_k5 (Φ : CallsB) (n : Nat) (x1 : AV) (Q : PostB) : List AV → TH → Bool := fun j3 H4 =>
 DoB (afaddr 0 x1) fun x11 =>
 DoB (aload H4.ah 1 false x11) fun x12 =>
 DoB (abin .eql x12 (.int .i64 3)) fun x14 =>
 DoB (afaddr 0 x1) fun x17 =>
 DoB (aload H4.ah 1 false x17) fun x18 =>
 DoB (abin .eql x18 (.int .i64 1)) fun x20 =>
 Gd3B x20 false (
 DoB (afaddr 1 x1) fun x21 =>
 DoB (aload H4.ah 1 false x21) fun x22 =>
 DoB (abin .eql x22 (.int .u64 0)) fun x24 =>
 JoinB (check_formed_k4 Φ n x1 x14 j3 Q) [x24] H4) (
 JoinB (check_formed_k4 Φ n x1 x14 j3 Q) [(.bool true)] H4) (
 false)
def check_formed_k6 (Φ : CallsB) (n : Nat) (x1 : AV) (x6 : AV) (Q : PostB) : List AV → TH → Bool := fun j76 H77 =>
 GdB (sl j76 0) true (
 JoinB (check_formed_k5 Φ n x1 Q) [(.int .i64 1), (.bool true)] H77) (
 DoB (abin .eql x6 (.int .i64 8)) fun x79 =>
 GdB x79 true (
 JoinB (check_formed_k5 Φ n x1 Q) [(.int .i64 2), (.bool true)] H77) (
 Q (.bool false) H77))
def check_formed_k7 (Φ : CallsB) (n : Nat) (x1 : AV) (x6 : AV) (Q : PostB) : List AV → TH → Bool := fun j73 H74 =>
 GdB (sl j73 0) true (
 JoinB (check_formed_k5 Φ n x1 Q) [(.int .i64 0), (.bool true)] H74) (
 DoB (abin .eql x6 (.int .i64 6)) fun x78 =>
 GdB x78 true (
 JoinB (check_formed_k6 Φ n x1 x6 Q) [x78] H74) (
 DoB (abin .eql x6 (.int .i64 7)) fun x80 =>
 JoinB (check_formed_k6 Φ n x1 x6 Q) [x80] H74))
def check_formed_k8 (Φ : CallsB) (n : Nat) (x1 : AV) (x6 : AV) (Q : PostB) : List AV → TH → Bool := fun j8 H9 =>
 GdB (sl j8 0) true (
 JoinB (check_formed_k5 Φ n x1 Q) [(.int .i64 0), (.bool false)] H9) (
 DoB (abin .eql x6 (.int .i64 3)) fun x72 =>
 GdB x72 true (
 JoinB (check_formed_k5 Φ n x1 Q) [(.int .i64 2), (.bool false)] H9) (
 DoB (abin .eql x6 (.int .i64 4)) fun x75 =>
 GdB x75 true (
 JoinB (check_formed_k7 Φ n x1 x6 Q) [x75] H9) (
 DoB (abin .eql x6 (.int .i64 5)) fun x81 =>
 JoinB (check_formed_k7 Φ n x1 x6 Q) [x81] H9)))
def check_formed (Φ : CallsB) (n : Nat) (a0 : AV) (H : TH) (Q : PostB) : Bool :=
 DoHB (tboxv H false 8 a0) fun x1 H2 =>
 DoB (afaddr 0 x1) fun x5 =>
 DoB (aload H2.ah 1 false x5) fun x6 =>
 DoB (abin .eql x6 (.int .i64 1)) fun x10 =>
 GdB x10 true (
 JoinB (check_formed_k8 Φ n x1 x6 Q) [x10] H2) (
 DoB (abin .eql x6 (.int .i64 2)) fun x82 =>
 JoinB (check_formed_k8 Φ n x1 x6 Q) [x82] H2)
theorem eq_check_formed (Φ : CallsB) (n : Nat) (a0 : AV) (H : TH) (Q : PostB) : fnB1 Φ n S.ir_check_formed [a0] H Q = check_formed Φ n a0 H Q := by kernel_rfl

end Rb.R

/- Package kind: its functions in the small language, and what they mean. By gen.py. -/
set_option linter.unusedVariables false
namespace Rb.S
open Go

/-! rabbet/kind.Sound -/
def kind_Sound (Φ : Calls') (a0 : AV) (H : AH) (Q : Post) : Prop :=
 DoH (aboxv H false 6 a0) fun x1 H2 =>
 Do (aload H2 6 true x1) fun x3 =>
Φ K.kind_Depth [x3] H2 fun x4 H5 =>
 Do (abin .gtr x4 (.int .i64 64)) fun x6 =>
 Gd x6 true (
 Q (.int .i64 5) H5) (
 Do (aload H5 6 true x1) fun x7 =>
Φ K.kind_sound [x7] H5 fun x8 H9 =>
 Q x8 H9)
def ir_kind_Sound : AFunc := ⟨8, [.tmp 2],
 .seq (.region [
   ⟨some 1, .box false 6 (.t 0), none⟩,
   ⟨some 2, .mv (.k (.int .i64 0)), none⟩])
 (.seq (.seq (.region [
   ⟨some 3, .load 6 true (.t 1), none⟩,
   ⟨some 4, .call K.kind_Depth [(.t 3)], none⟩,
   ⟨some 5, .bin .gtr (.t 4) (.k (.int .i64 64)), none⟩])
 (.cond (.t 5) (.seq (.region [
     ⟨some 2, .mv (.k (.int .i64 5)), none⟩])
   (.ret))
   (.skip)))
 (.seq (.region [
   ⟨some 6, .load 6 true (.t 1), none⟩,
   ⟨some 7, .call K.kind_sound [(.t 6)], none⟩,
   ⟨some 2, .mv (.t 7), none⟩])
 (.ret)))⟩
theorem eq_kind_Sound (Φ : Calls') (a0 : AV) (H : AH) (Q : Post) : fnE1 Φ ir_kind_Sound [a0] H Q = kind_Sound Φ a0 H Q := by kernel_rfl

/-! rabbet/kind.Depth -/
def kind_Depth (Φ : Calls') (a0 : AV) (H : AH) (Q : Post) : Prop :=
 DoH (aboxv H false 6 a0) fun x1 H2 =>
 Do (aload H2 6 true x1) fun x3 =>
Φ K.kind_depth [x3, (.int .i64 65)] H2 fun x4 H5 =>
 Q x4 H5
def ir_kind_Depth : AFunc := ⟨5, [.tmp 2],
 .seq (.region [
   ⟨some 1, .box false 6 (.t 0), none⟩,
   ⟨some 2, .mv (.k (.int .i64 0)), none⟩])
 (.seq (.region [
   ⟨some 3, .load 6 true (.t 1), none⟩,
   ⟨some 4, .call K.kind_depth [(.t 3), (.k (.int .i64 65))], none⟩,
   ⟨some 2, .mv (.t 4), none⟩])
 (.ret))⟩
theorem eq_kind_Depth (Φ : Calls') (a0 : AV) (H : AH) (Q : Post) : fnE1 Φ ir_kind_Depth [a0] H Q = kind_Depth Φ a0 H Q := by kernel_rfl

/-! rabbet/kind.sound -/
def kind_sound_k1 (Φ : Calls') (x1 : AV) (Q : Post) : List AV → AH → Prop := fun j22 H23 =>
 Do (afaddr 5 x1) fun x32 =>
 Do (aload H23 1 false x32) fun x33 =>
 Do (aiaddr none 6 x33 (.int .i64 0)) fun x34 =>
 Do (aload H23 6 true x34) fun x35 =>
Φ K.kind_sound [x35] H23 fun x36 H37 =>
 Q x36 H37
def kind_sound_k2 (Φ : Calls') (x1 : AV) (Q : Post) : List AV → AH → Prop := fun j24 H25 =>
 Gd (sl j24 0) true (
 Q (.int .i64 9) H25) (
 JoinP (kind_sound_k1 Φ x1 Q) [] H25)
def kind_sound (Φ : Calls') (a0 : AV) (H : AH) (Q : Post) : Prop :=
 DoH (aboxv H false 6 a0) fun x1 H2 =>
 Do (aload H2 6 true x1) fun x3 =>
Φ K.kind_only [x3] H2 fun x4 H5 =>
 Do (aun .not x4) fun x6 =>
 Gd x6 true (
 Q (.int .i64 8) H5) (
 Do (afaddr 0 x1) fun x7 =>
 Do (aload H5 1 false x7) fun x8 =>
 Do (abin .eql x8 (.int .i64 1)) fun x9 =>
 Gd x9 true (
 Do (afaddr 1 x1) fun x10 =>
 Do (aload H5 1 false x10) fun x11 =>
Φ K.kind_power [x11, (.int .i64 8)] H5 fun x12 H13 =>
 Do (aun .not x12) fun x14 =>
 Gd x14 true (
 Q (.int .i64 9) H13) (
 Q (.int .i64 0) H13)) (
 Do (abin .eql x8 (.int .i64 2)) fun x15 =>
 Gd x15 true (
 Do (afaddr 1 x1) fun x16 =>
 Do (aload H5 1 false x16) fun x17 =>
Φ K.kind_power [x17, (.int .i64 16)] H5 fun x18 H19 =>
 Do (aun .not x18) fun x20 =>
 Gd x20 true (
 Q (.int .i64 9) H19) (
 Q (.int .i64 0) H19)) (
 Do (abin .eql x8 (.int .i64 5)) fun x21 =>
 Gd x21 true (
 Do (afaddr 4 x1) fun x26 =>
 Do (aload H5 1 false x26) fun x27 =>
 Do (abin .lss x27 (.int .i64 1)) fun x28 =>
 Gd3 x28 false (
 Do (afaddr 4 x1) fun x29 =>
 Do (aload H5 1 false x29) fun x30 =>
 Do (abin .gtr x30 (.int .i64 65536)) fun x31 =>
 JoinP (kind_sound_k2 Φ x1 Q) [x31] H5) (
 JoinP (kind_sound_k2 Φ x1 Q) [(.bool true)] H5) (
 False)) (
 Do (aload H5 6 true x1) fun x38 =>
Φ K.kind_group [x38] H5 fun x39 H40 =>
 Q x39 H40))))
def ir_kind_sound : AFunc := ⟨37, [.tmp 2],
 .seq (.region [
   ⟨some 1, .box false 6 (.t 0), none⟩,
   ⟨some 2, .mv (.k (.int .i64 0)), none⟩])
 (.seq (.seq (.region [
   ⟨some 3, .load 6 true (.t 1), none⟩,
   ⟨some 4, .call K.kind_only [(.t 3)], none⟩,
   ⟨some 5, .un .not (.t 4), none⟩])
 (.cond (.t 5) (.seq (.region [
     ⟨some 2, .mv (.k (.int .i64 8)), none⟩])
   (.ret))
   (.skip)))
 (.seq (.seq (.region [
   ⟨some 6, .faddr 0 (.t 1), none⟩,
   ⟨some 7, .load 1 false (.t 6), none⟩])
 (.block 0 (.seq (.region [
   ⟨some 11, .bin .eql (.t 7) (.k (.int .i64 1)), none⟩,
   ⟨some 10, .mv (.t 11), none⟩])
 (.cond (.t 10) (.seq (.region [
     ⟨some 12, .faddr 1 (.t 1), none⟩,
     ⟨some 13, .load 1 false (.t 12), none⟩,
     ⟨some 14, .call K.kind_power [(.t 13), (.k (.int .i64 8))], none⟩,
     ⟨some 15, .un .not (.t 14), none⟩])
   (.cond (.t 15) (.seq (.region [
       ⟨some 2, .mv (.k (.int .i64 9)), none⟩])
     (.ret))
     (.skip)))
   (.seq (.region [
     ⟨some 17, .bin .eql (.t 7) (.k (.int .i64 2)), none⟩,
     ⟨some 16, .mv (.t 17), none⟩])
   (.cond (.t 16) (.seq (.region [
       ⟨some 18, .faddr 1 (.t 1), none⟩,
       ⟨some 19, .load 1 false (.t 18), none⟩,
       ⟨some 20, .call K.kind_power [(.t 19), (.k (.int .i64 16))], none⟩,
       ⟨some 21, .un .not (.t 20), none⟩])
     (.cond (.t 21) (.seq (.region [
         ⟨some 2, .mv (.k (.int .i64 9)), none⟩])
       (.ret))
       (.skip)))
     (.seq (.region [
       ⟨some 23, .bin .eql (.t 7) (.k (.int .i64 5)), none⟩,
       ⟨some 22, .mv (.t 23), none⟩])
     (.cond (.t 22) (.join [] [2, 24, 25, 26, 27, 28, 29, 30, 31] (.join [31] [24, 25, 26, 27, 28, 29, 30] (.region [
         ⟨some 24, .faddr 4 (.t 1), none⟩,
         ⟨some 25, .load 1 false (.t 24), none⟩,
         ⟨some 26, .bin .lss (.t 25) (.k (.int .i64 1)), none⟩,
         ⟨some 27, .mv (.t 26), none⟩,
         ⟨some 28, .faddr 4 (.t 1), some (27, false)⟩,
         ⟨some 29, .load 1 false (.t 28), some (27, false)⟩,
         ⟨some 30, .bin .gtr (.t 29) (.k (.int .i64 65536)), some (27, false)⟩,
         ⟨some 31, .pick (.t 27) (.k (.bool true)) (.t 30), none⟩])
       (.cond (.t 31) (.seq (.region [
           ⟨some 2, .mv (.k (.int .i64 9)), none⟩])
         (.ret))
         (.skip)))
       (.seq (.region [
         ⟨some 32, .faddr 5 (.t 1), none⟩,
         ⟨some 33, .load 1 false (.t 32), none⟩,
         ⟨some 34, .iaddr none 6 (.t 33) (.k (.int .i64 0)), none⟩,
         ⟨some 35, .load 6 true (.t 34), none⟩,
         ⟨some 36, .call K.kind_sound [(.t 35)], none⟩,
         ⟨some 2, .mv (.t 36), none⟩])
       (.ret)))
       (.seq (.region [
         ⟨some 8, .load 6 true (.t 1), none⟩,
         ⟨some 9, .call K.kind_group [(.t 8)], none⟩,
         ⟨some 2, .mv (.t 9), none⟩])
       (.ret))))))))))
 (.seq (.region [
   ⟨some 2, .mv (.k (.int .i64 0)), none⟩])
 (.ret))))⟩
theorem eq_kind_sound (Φ : Calls') (a0 : AV) (H : AH) (Q : Post) : fnE1 Φ ir_kind_sound [a0] H Q = kind_sound Φ a0 H Q := by kernel_rfl

/-! rabbet/kind.Name -/
def kind_Name_k1 (Φ : Calls') (L19 : (List AV × AH) → Prop) (Q : Post) : List AV → AH → Prop := fun j24 H25 =>
 Gd (sl j24 0) true (
 Q (.bool false) H25) (
 L19 ([], H25))
def kind_Name_k2 (Φ : Calls') (x23 : AV) (L19 : (List AV × AH) → Prop) (Q : Post) : List AV → AH → Prop := fun j26 H27 =>
 Gd3 (sl j26 0) true (
 Do (abin .lss x23 (.int .i32 48)) fun x32 =>
 Gd3 x32 false (
 Do (abin .gtr x23 (.int .i32 57)) fun x33 =>
 JoinP (kind_Name_k1 Φ L19 Q) [x33] H27) (
 JoinP (kind_Name_k1 Φ L19 Q) [(.bool true)] H27) (
 False)) (
 JoinP (kind_Name_k1 Φ L19 Q) [(.bool false)] H27) (
 False)
def kind_Name_l3 (Φ : Calls') (x16 : AV) (Q : Post) : (List AV × AH) → ((List AV × AH) → Prop) → Prop := fun s18 L19 =>
 DoH (asnext s18.2 x16) fun x20 H21 =>
 Do (aextract 0 x20) fun x22 =>
 Gd x22 true (
 Do (aextract 2 x20) fun x23 =>
Φ K.kind_letter [x23] H21 fun x28 H29 =>
 Do (aun .not x28) fun x30 =>
 Gd3 x30 true (
 Do (abin .neq x23 (.int .i32 95)) fun x31 =>
 JoinP (kind_Name_k2 Φ x23 L19 Q) [x31] H29) (
 JoinP (kind_Name_k2 Φ x23 L19 Q) [(.bool false)] H29) (
 False)) (
 Q (.bool true) H21)
def kind_Name_k4 (Φ : Calls') (a0 : AV) (Q : Post) : List AV → AH → Prop := fun j1 H2 =>
 DoH (asrange H2 a0) fun x16 H17 =>
 LoopP (kind_Name_l3 Φ x16 Q) ([], H17)
def kind_Name_k5 (Φ : Calls') (a0 : AV) (Q : Post) : List AV → AH → Prop := fun j3 H4 =>
 Gd (sl j3 0) true (
 Q (.bool false) H4) (
 JoinP (kind_Name_k4 Φ a0 Q) [] H4)
def kind_Name_k6 (Φ : Calls') (a0 : AV) (Q : Post) : List AV → AH → Prop := fun j5 H6 =>
 Gd3 (sl j5 0) false (
 Do (aidxs a0 (.int .i64 0)) fun x11 =>
 Do (aconv .i32 x11) fun x12 =>
Φ K.kind_letter [x12] H6 fun x13 H14 =>
 Do (aun .not x13) fun x15 =>
 JoinP (kind_Name_k5 Φ a0 Q) [x15] H14) (
 JoinP (kind_Name_k5 Φ a0 Q) [(.bool true)] H6) (
 False)
def kind_Name (Φ : Calls') (a0 : AV) (H : AH) (Q : Post) : Prop :=
 Do (alen true a0) fun x7 =>
 Do (abin .lss x7 (.int .i64 1)) fun x8 =>
 Gd3 x8 false (
 Do (alen true a0) fun x9 =>
 Do (abin .gtr x9 (.int .i64 16)) fun x10 =>
 JoinP (kind_Name_k6 Φ a0 Q) [x10] H) (
 JoinP (kind_Name_k6 Φ a0 Q) [(.bool true)] H) (
 False)
def ir_kind_Name : AFunc := ⟨40, [.tmp 2],
 .seq (.region [
   ⟨some 2, .mv (.k (.bool false)), none⟩])
 (.join [] [2, 5, 6, 7, 8, 9, 10, 11, 12, 13, 14, 15, 16, 17, 18, 19] (.join [19] [5, 6, 7, 8, 9, 10, 11, 12, 13, 14, 15, 16, 17, 18] (.rjoin [12] [5, 6, 7, 8, 9, 10, 11] [
   ⟨some 5, .mv (.t 0), none⟩,
   ⟨some 6, .len true (.t 5), none⟩,
   ⟨some 7, .bin .lss (.t 6) (.k (.int .i64 1)), none⟩,
   ⟨some 8, .mv (.t 7), none⟩,
   ⟨some 9, .mv (.t 0), some (8, false)⟩,
   ⟨some 10, .len true (.t 9), some (8, false)⟩,
   ⟨some 11, .bin .gtr (.t 10) (.k (.int .i64 16)), some (8, false)⟩,
   ⟨some 12, .pick (.t 8) (.k (.bool true)) (.t 11), none⟩]
 (.region [
   ⟨some 13, .mv (.t 12), none⟩,
   ⟨some 14, .mv (.t 0), some (13, false)⟩,
   ⟨some 15, .idxs (.t 14) (.k (.int .i64 0)), some (13, false)⟩,
   ⟨some 16, .conv .i32 (.t 15), some (13, false)⟩,
   ⟨some 17, .call K.kind_letter [(.t 16)], some (13, false)⟩,
   ⟨some 18, .un .not (.t 17), some (13, false)⟩,
   ⟨some 19, .pick (.t 13) (.k (.bool true)) (.t 18), none⟩]))
 (.cond (.t 19) (.seq (.region [
     ⟨some 2, .mv (.k (.bool false)), none⟩])
   (.ret))
   (.skip)))
 (.seq (.seq (.region [
   ⟨some 20, .mv (.t 0), none⟩,
   ⟨some 21, .srange (.t 20), none⟩])
 (.block 0 (.loop [] [2, 4, 22, 23, 24, 25, 26, 27, 28, 29, 30, 31, 32, 33, 34, 35, 36, 37, 38, 39] (.seq (.region [
   ⟨some 22, .snext (.t 21), none⟩,
   ⟨some 23, .extract 0 (.t 22), none⟩])
 (.seq (.cond (.t 23) (.skip)
   (.exit 0))
 (.block 1 (.seq (.region [
   ⟨some 24, .extract 2 (.t 22), none⟩,
   ⟨some 4, .mv (.t 24), none⟩])
 (.join [39] [25, 26, 27, 28, 29, 30, 31, 32, 33, 34, 35, 36, 37, 38] (.rjoin [31] [25, 26, 27, 28, 29, 30] [
   ⟨some 25, .mv (.t 4), none⟩,
   ⟨some 26, .call K.kind_letter [(.t 25)], none⟩,
   ⟨some 27, .un .not (.t 26), none⟩,
   ⟨some 28, .mv (.t 27), none⟩,
   ⟨some 29, .mv (.t 4), some (28, true)⟩,
   ⟨some 30, .bin .neq (.t 29) (.k (.int .i32 95)), some (28, true)⟩,
   ⟨some 31, .pick (.t 28) (.t 30) (.k (.bool false)), none⟩]
 (.region [
   ⟨some 32, .mv (.t 31), none⟩,
   ⟨some 33, .mv (.t 4), some (32, true)⟩,
   ⟨some 34, .bin .lss (.t 33) (.k (.int .i32 48)), some (32, true)⟩,
   ⟨some 35, .mv (.t 34), some (32, true)⟩,
   ⟨some 36, .mv (.t 4), some (35, false)⟩,
   ⟨some 37, .bin .gtr (.t 36) (.k (.int .i32 57)), some (35, false)⟩,
   ⟨some 38, .pick (.t 35) (.k (.bool true)) (.t 37), some (32, true)⟩,
   ⟨some 39, .pick (.t 32) (.t 38) (.k (.bool false)), none⟩]))
 (.cond (.t 39) (.seq (.region [
     ⟨some 2, .mv (.k (.bool false)), none⟩])
   (.ret))
   (.skip))))))))))
 (.seq (.region [
   ⟨some 2, .mv (.k (.bool true)), none⟩])
 (.ret))))⟩
theorem eq_kind_Name (Φ : Calls') (a0 : AV) (H : AH) (Q : Post) : fnE1 Φ ir_kind_Name [a0] H Q = kind_Name Φ a0 H Q := by kernel_rfl

/-! rabbet/kind.depth -/
def kind_depth_k1 (Φ : Calls') (Q : Post) : List AV → AH → Prop := fun j3 H4 =>
 Do (abin .add (sl j3 0) (.int .i64 1)) fun x43 =>
 Q x43 H4
def kind_depth_l2 (Φ : Calls') (a1 : AV) (x27 : AV) (x28 : AV) (Q : Post) : (List AV × AH) → ((List AV × AH) → Prop) → Prop := fun s29 L30 =>
 Do (abin .lss (sl s29.1 1) x28) fun x31 =>
 Gd x31 true (
 Do (aiaddr none 6 x27 (sl s29.1 1)) fun x32 =>
 Do (aload s29.2 6 true x32) fun x33 =>
 DoH (some (abox s29.2 true [.int .i64 0, .int .i64 0, .bool false, .lst .nil 0 [], .int .i64 0, .lst .nil 0 []])) fun x34 H35 =>
 Do (astore H35 6 x34 x33) fun H36 =>
 Do (aload H36 6 true x34) fun x37 =>
 Do (abin .sub a1 (.int .i64 1)) fun x38 =>
Φ K.kind_depth [x37, x38] H36 fun x39 H40 =>
 Do (aminmax true [(sl s29.1 0), x39]) fun x41 =>
 Do (abin .add (sl s29.1 1) (.int .i64 1)) fun x42 =>
 L30 ([x41, x42], H40)) (
 JoinP (kind_depth_k1 Φ Q) [(sl s29.1 0)] s29.2)
def kind_depth_k3 (Φ : Calls') (a1 : AV) (x1 : AV) (Q : Post) : List AV → AH → Prop := fun j6 H7 =>
 Do (afaddr 5 x1) fun x26 =>
 Do (aload H7 1 false x26) fun x27 =>
 Do (alen false x27) fun x28 =>
 LoopP (kind_depth_l2 Φ a1 x27 x28 Q) ([(sl j6 0), (.int .i64 0)], H7)
def kind_depth_l4 (Φ : Calls') (a1 : AV) (x1 : AV) (x9 : AV) (x10 : AV) (Q : Post) : (List AV × AH) → ((List AV × AH) → Prop) → Prop := fun s11 L12 =>
 Do (abin .lss (sl s11.1 1) x10) fun x13 =>
 Gd x13 true (
 Do (aiaddr none 9 x9 (sl s11.1 1)) fun x14 =>
 Do (aload s11.2 9 true x14) fun x15 =>
 DoH (some (abox s11.2 true [.str [], .int .i64 0, .int .i64 0, .bool false, .lst .nil 0 [], .int .i64 0, .lst .nil 0 [], .bool false, .int .i64 0])) fun x16 H17 =>
 Do (astore H17 9 x16 x15) fun H18 =>
 Do (afaddr 1 x16) fun x19 =>
 Do (aload H18 6 true x19) fun x20 =>
 Do (abin .sub a1 (.int .i64 1)) fun x21 =>
Φ K.kind_depth [x20, x21] H18 fun x22 H23 =>
 Do (aminmax true [(sl s11.1 0), x22]) fun x24 =>
 Do (abin .add (sl s11.1 1) (.int .i64 1)) fun x25 =>
 L12 ([x24, x25], H23)) (
 JoinP (kind_depth_k3 Φ a1 x1 Q) [(sl s11.1 0)] s11.2)
def kind_depth (Φ : Calls') (a0 : AV) (a1 : AV) (H : AH) (Q : Post) : Prop :=
 DoH (aboxv H false 6 a0) fun x1 H2 =>
 Do (abin .gtr a1 (.int .i64 1)) fun x5 =>
 Gd x5 true (
 Do (afaddr 3 x1) fun x8 =>
 Do (aload H2 1 false x8) fun x9 =>
 Do (alen false x9) fun x10 =>
 LoopP (kind_depth_l4 Φ a1 x1 x9 x10 Q) ([(.int .i64 0), (.int .i64 0)], H2)) (
 JoinP (kind_depth_k1 Φ Q) [(.int .i64 0)] H2)
def ir_kind_depth : AFunc := ⟨43, [.tmp 4],
 .seq (.region [
   ⟨some 2, .box false 6 (.t 0), none⟩,
   ⟨some 4, .mv (.k (.int .i64 0)), none⟩])
 (.seq (.region [
   ⟨some 5, .mv (.k (.int .i64 0)), none⟩])
 (.join [5] [7, 9, 10, 11, 12, 13, 14, 15, 16, 17, 18, 19, 20, 21, 22, 23, 24, 25, 26, 27, 28, 29, 30, 31, 32, 33, 34, 35, 36, 37, 38, 39, 40] (.seq (.region [
   ⟨some 10, .mv (.t 1), none⟩,
   ⟨some 11, .bin .gtr (.t 10) (.k (.int .i64 1)), none⟩])
 (.cond (.t 11) (.join [5] [7, 12, 13, 14, 15, 16, 17, 18, 19, 20, 21, 22, 23, 24, 25, 26] (.seq (.region [
     ⟨some 12, .faddr 3 (.t 2), none⟩,
     ⟨some 13, .load 1 false (.t 12), none⟩,
     ⟨some 14, .len false (.t 13), none⟩,
     ⟨some 15, .mv (.k (.int .i64 0)), none⟩])
   (.block 0 (.loop [5, 15] [7, 16, 17, 18, 19, 20, 21, 22, 23, 24, 25, 26] (.seq (.region [
     ⟨some 16, .bin .lss (.t 15) (.t 14), none⟩])
   (.seq (.cond (.t 16) (.skip)
     (.exit 0))
   (.seq (.block 1 (.seq (.region [
     ⟨some 17, .iaddr none 9 (.t 13) (.t 15), none⟩,
     ⟨some 18, .load 9 true (.t 17), none⟩,
     ⟨some 7, .alloc true [.str [], .int .i64 0, .int .i64 0, .bool false, .lst .nil 0 [], .int .i64 0, .lst .nil 0 [], .bool false, .int .i64 0], none⟩,
     ⟨none, .store 9 (.t 7) (.t 18), none⟩])
   (.region [
     ⟨some 19, .mv (.t 5), none⟩,
     ⟨some 20, .faddr 1 (.t 7), none⟩,
     ⟨some 21, .load 6 true (.t 20), none⟩,
     ⟨some 22, .mv (.t 1), none⟩,
     ⟨some 23, .bin .sub (.t 22) (.k (.int .i64 1)), none⟩,
     ⟨some 24, .call K.kind_depth [(.t 21), (.t 23)], none⟩,
     ⟨some 25, .minmax true [(.t 19), (.t 24)], none⟩,
     ⟨some 5, .mv (.t 25), none⟩])))
   (.region [
     ⟨some 26, .bin .add (.t 15) (.k (.int .i64 1)), none⟩,
     ⟨some 15, .mv (.t 26), none⟩])))))))
   (.seq (.region [
     ⟨some 27, .faddr 5 (.t 2), none⟩,
     ⟨some 28, .load 1 false (.t 27), none⟩,
     ⟨some 29, .len false (.t 28), none⟩,
     ⟨some 30, .mv (.k (.int .i64 0)), none⟩])
   (.block 2 (.loop [5, 30] [9, 31, 32, 33, 34, 35, 36, 37, 38, 39, 40] (.seq (.region [
     ⟨some 31, .bin .lss (.t 30) (.t 29), none⟩])
   (.seq (.cond (.t 31) (.skip)
     (.exit 2))
   (.seq (.block 3 (.seq (.region [
     ⟨some 32, .iaddr none 6 (.t 28) (.t 30), none⟩,
     ⟨some 33, .load 6 true (.t 32), none⟩,
     ⟨some 9, .alloc true [.int .i64 0, .int .i64 0, .bool false, .lst .nil 0 [], .int .i64 0, .lst .nil 0 []], none⟩,
     ⟨none, .store 6 (.t 9) (.t 33), none⟩])
   (.region [
     ⟨some 34, .mv (.t 5), none⟩,
     ⟨some 35, .load 6 true (.t 9), none⟩,
     ⟨some 36, .mv (.t 1), none⟩,
     ⟨some 37, .bin .sub (.t 36) (.k (.int .i64 1)), none⟩,
     ⟨some 38, .call K.kind_depth [(.t 35), (.t 37)], none⟩,
     ⟨some 39, .minmax true [(.t 34), (.t 38)], none⟩,
     ⟨some 5, .mv (.t 39), none⟩])))
   (.region [
     ⟨some 40, .bin .add (.t 30) (.k (.int .i64 1)), none⟩,
     ⟨some 30, .mv (.t 40), none⟩]))))))))
   (.skip)))
 (.seq (.region [
   ⟨some 41, .mv (.t 5), none⟩,
   ⟨some 42, .bin .add (.t 41) (.k (.int .i64 1)), none⟩,
   ⟨some 4, .mv (.t 42), none⟩])
 (.ret))))⟩
theorem eq_kind_depth (Φ : Calls') (a0 a1 : AV) (H : AH) (Q : Post) : fnE1 Φ ir_kind_depth [a0, a1] H Q = kind_depth Φ a0 a1 H Q := by kernel_rfl

/-! rabbet/kind.only -/
def kind_only_k1 (Φ : Calls') (x1 : AV) (x21 : AV) (Q : Post) : List AV → AH → Prop := fun j40 H41 =>
 Gd3 (sl j40 0) true (
 Do (aun .not x21) fun x49 =>
 Gd3 x49 false (
 Do (afaddr 5 x1) fun x50 =>
 Do (aload H41 1 false x50) fun x51 =>
 Do (alen false x51) fun x52 =>
 Do (abin .eql x52 (.int .i64 1)) fun x53 =>
 Q x53 H41) (
 Q (.bool true) H41) (
 False)) (
 Q (.bool false) H41) (
 False)
def kind_only_k2 (Φ : Calls') (x1 : AV) (x21 : AV) (Q : Post) : List AV → AH → Prop := fun j31 H32 =>
 Gd3 (sl j31 0) true (
 Gd3 x21 false (
 Do (afaddr 4 x1) fun x42 =>
 Do (aload H32 1 false x42) fun x43 =>
 Do (abin .eql x43 (.int .i64 0)) fun x44 =>
 Gd3 x44 true (
 Do (afaddr 5 x1) fun x45 =>
 Do (aload H32 1 false x45) fun x46 =>
 Do (alen false x46) fun x47 =>
 Do (abin .eql x47 (.int .i64 0)) fun x48 =>
 JoinP (kind_only_k1 Φ x1 x21 Q) [x48] H32) (
 JoinP (kind_only_k1 Φ x1 x21 Q) [(.bool false)] H32) (
 False)) (
 JoinP (kind_only_k1 Φ x1 x21 Q) [(.bool true)] H32) (
 False)) (
 JoinP (kind_only_k1 Φ x1 x21 Q) [(.bool false)] H32) (
 False)
def kind_only_k3 (Φ : Calls') (x1 : AV) (x21 : AV) (j11 : List AV) (Q : Post) : List AV → AH → Prop := fun j26 H27 =>
 Gd3 (sl j26 0) true (
 Gd3 (sl j11 0) false (
 Do (afaddr 2 x1) fun x33 =>
 Do (aload H27 1 false x33) fun x34 =>
 Do (aun .not x34) fun x35 =>
 Gd3 x35 true (
 Do (afaddr 3 x1) fun x36 =>
 Do (aload H27 1 false x36) fun x37 =>
 Do (alen false x37) fun x38 =>
 Do (abin .eql x38 (.int .i64 0)) fun x39 =>
 JoinP (kind_only_k2 Φ x1 x21 Q) [x39] H27) (
 JoinP (kind_only_k2 Φ x1 x21 Q) [(.bool false)] H27) (
 False)) (
 JoinP (kind_only_k2 Φ x1 x21 Q) [(.bool true)] H27) (
 False)) (
 JoinP (kind_only_k2 Φ x1 x21 Q) [(.bool false)] H27) (
 False)
def kind_only_k4 (Φ : Calls') (x1 : AV) (x21 : AV) (j3 : List AV) (j11 : List AV) (Q : Post) : List AV → AH → Prop := fun j24 H25 =>
 Gd3 (sl j24 0) true (
 Gd3 (sl j3 0) false (
 Do (afaddr 1 x1) fun x28 =>
 Do (aload H25 1 false x28) fun x29 =>
 Do (abin .eql x29 (.int .i64 0)) fun x30 =>
 JoinP (kind_only_k3 Φ x1 x21 j11 Q) [x30] H25) (
 JoinP (kind_only_k3 Φ x1 x21 j11 Q) [(.bool true)] H25) (
 False)) (
 JoinP (kind_only_k3 Φ x1 x21 j11 Q) [(.bool false)] H25) (
 False)
def kind_only_k5 (Φ : Calls') (x1 : AV) (x21 : AV) (j3 : List AV) (j11 : List AV) (Q : Post) : List AV → AH → Prop := fun j22 H23 =>
 Gd3 (sl j22 0) false (
 JoinP (kind_only_k4 Φ x1 x21 j3 j11 Q) [x21] H23) (
 JoinP (kind_only_k4 Φ x1 x21 j3 j11 Q) [(.bool true)] H23) (
 False)
def kind_only_k6 (Φ : Calls') (x1 : AV) (j3 : List AV) (Q : Post) : List AV → AH → Prop := fun j11 H12 =>
 Do (afaddr 0 x1) fun x19 =>
 Do (aload H12 1 false x19) fun x20 =>
 Do (abin .eql x20 (.int .i64 5)) fun x21 =>
 Gd3 (sl j3 0) false (
 JoinP (kind_only_k5 Φ x1 x21 j3 j11 Q) [(sl j11 0)] H12) (
 JoinP (kind_only_k5 Φ x1 x21 j3 j11 Q) [(.bool true)] H12) (
 False)
def kind_only_k7 (Φ : Calls') (x1 : AV) (Q : Post) : List AV → AH → Prop := fun j3 H4 =>
 Do (afaddr 0 x1) fun x13 =>
 Do (aload H4 1 false x13) fun x14 =>
 Do (abin .eql x14 (.int .i64 3)) fun x15 =>
 Gd3 x15 false (
 Do (afaddr 0 x1) fun x16 =>
 Do (aload H4 1 false x16) fun x17 =>
 Do (abin .eql x17 (.int .i64 4)) fun x18 =>
 JoinP (kind_only_k6 Φ x1 j3 Q) [x18] H4) (
 JoinP (kind_only_k6 Φ x1 j3 Q) [(.bool true)] H4) (
 False)
def kind_only (Φ : Calls') (a0 : AV) (H : AH) (Q : Post) : Prop :=
 DoH (aboxv H false 6 a0) fun x1 H2 =>
 Do (afaddr 0 x1) fun x5 =>
 Do (aload H2 1 false x5) fun x6 =>
 Do (abin .eql x6 (.int .i64 1)) fun x7 =>
 Gd3 x7 false (
 Do (afaddr 0 x1) fun x8 =>
 Do (aload H2 1 false x8) fun x9 =>
 Do (abin .eql x9 (.int .i64 2)) fun x10 =>
 JoinP (kind_only_k7 Φ x1 Q) [x10] H2) (
 JoinP (kind_only_k7 Φ x1 Q) [(.bool true)] H2) (
 False)
def ir_kind_only : AFunc := ⟨78, [.tmp 2],
 .seq (.region [
   ⟨some 1, .box false 6 (.t 0), none⟩,
   ⟨some 2, .mv (.k (.bool false)), none⟩])
 (.join [3] [6, 7, 8, 9, 10, 11, 12, 13] (.region [
   ⟨some 6, .faddr 0 (.t 1), none⟩,
   ⟨some 7, .load 1 false (.t 6), none⟩,
   ⟨some 8, .bin .eql (.t 7) (.k (.int .i64 1)), none⟩,
   ⟨some 9, .mv (.t 8), none⟩,
   ⟨some 10, .faddr 0 (.t 1), some (9, false)⟩,
   ⟨some 11, .load 1 false (.t 10), some (9, false)⟩,
   ⟨some 12, .bin .eql (.t 11) (.k (.int .i64 2)), some (9, false)⟩,
   ⟨some 13, .pick (.t 9) (.k (.bool true)) (.t 12), none⟩,
   ⟨some 3, .mv (.t 13), none⟩])
 (.join [4] [14, 15, 16, 17, 18, 19, 20, 21] (.region [
   ⟨some 14, .faddr 0 (.t 1), none⟩,
   ⟨some 15, .load 1 false (.t 14), none⟩,
   ⟨some 16, .bin .eql (.t 15) (.k (.int .i64 3)), none⟩,
   ⟨some 17, .mv (.t 16), none⟩,
   ⟨some 18, .faddr 0 (.t 1), some (17, false)⟩,
   ⟨some 19, .load 1 false (.t 18), some (17, false)⟩,
   ⟨some 20, .bin .eql (.t 19) (.k (.int .i64 4)), some (17, false)⟩,
   ⟨some 21, .pick (.t 17) (.k (.bool true)) (.t 20), none⟩,
   ⟨some 4, .mv (.t 21), none⟩])
 (.seq (.region [
   ⟨some 22, .faddr 0 (.t 1), none⟩,
   ⟨some 23, .load 1 false (.t 22), none⟩,
   ⟨some 24, .bin .eql (.t 23) (.k (.int .i64 5)), none⟩,
   ⟨some 5, .mv (.t 24), none⟩])
 (.seq (.rjoin [28] [25, 26, 27] [
   ⟨some 25, .mv (.t 3), none⟩,
   ⟨some 26, .mv (.t 25), none⟩,
   ⟨some 27, .mv (.t 4), some (26, false)⟩,
   ⟨some 28, .pick (.t 26) (.k (.bool true)) (.t 27), none⟩]
 (.rjoin [31] [29, 30] [
   ⟨some 29, .mv (.t 28), none⟩,
   ⟨some 30, .mv (.t 5), some (29, false)⟩,
   ⟨some 31, .pick (.t 29) (.k (.bool true)) (.t 30), none⟩]
 (.rjoin [39] [32, 33, 34, 35, 36, 37, 38] [
   ⟨some 32, .mv (.t 31), none⟩,
   ⟨some 33, .mv (.t 3), some (32, true)⟩,
   ⟨some 34, .mv (.t 33), some (32, true)⟩,
   ⟨some 35, .faddr 1 (.t 1), some (34, false)⟩,
   ⟨some 36, .load 1 false (.t 35), some (34, false)⟩,
   ⟨some 37, .bin .eql (.t 36) (.k (.int .i64 0)), some (34, false)⟩,
   ⟨some 38, .pick (.t 34) (.k (.bool true)) (.t 37), some (32, true)⟩,
   ⟨some 39, .pick (.t 32) (.t 38) (.k (.bool false)), none⟩]
 (.rjoin [53] [40, 41, 42, 43, 44, 45, 46, 47, 48, 49, 50, 51, 52] [
   ⟨some 40, .mv (.t 39), none⟩,
   ⟨some 41, .mv (.t 4), some (40, true)⟩,
   ⟨some 42, .mv (.t 41), some (40, true)⟩,
   ⟨some 43, .faddr 2 (.t 1), some (42, false)⟩,
   ⟨some 44, .load 1 false (.t 43), some (42, false)⟩,
   ⟨some 45, .un .not (.t 44), some (42, false)⟩,
   ⟨some 46, .mv (.t 45), some (42, false)⟩,
   ⟨some 47, .faddr 3 (.t 1), some (46, true)⟩,
   ⟨some 48, .load 1 false (.t 47), some (46, true)⟩,
   ⟨some 49, .len false (.t 48), some (46, true)⟩,
   ⟨some 50, .bin .eql (.t 49) (.k (.int .i64 0)), some (46, true)⟩,
   ⟨some 51, .pick (.t 46) (.t 50) (.k (.bool false)), some (42, false)⟩,
   ⟨some 52, .pick (.t 42) (.k (.bool true)) (.t 51), some (40, true)⟩,
   ⟨some 53, .pick (.t 40) (.t 52) (.k (.bool false)), none⟩]
 (.rjoin [67] [54, 55, 56, 57, 58, 59, 60, 61, 62, 63, 64, 65, 66] [
   ⟨some 54, .mv (.t 53), none⟩,
   ⟨some 55, .mv (.t 5), some (54, true)⟩,
   ⟨some 56, .mv (.t 55), some (54, true)⟩,
   ⟨some 57, .faddr 4 (.t 1), some (56, false)⟩,
   ⟨some 58, .load 1 false (.t 57), some (56, false)⟩,
   ⟨some 59, .bin .eql (.t 58) (.k (.int .i64 0)), some (56, false)⟩,
   ⟨some 60, .mv (.t 59), some (56, false)⟩,
   ⟨some 61, .faddr 5 (.t 1), some (60, true)⟩,
   ⟨some 62, .load 1 false (.t 61), some (60, true)⟩,
   ⟨some 63, .len false (.t 62), some (60, true)⟩,
   ⟨some 64, .bin .eql (.t 63) (.k (.int .i64 0)), some (60, true)⟩,
   ⟨some 65, .pick (.t 60) (.t 64) (.k (.bool false)), some (56, false)⟩,
   ⟨some 66, .pick (.t 56) (.k (.bool true)) (.t 65), some (54, true)⟩,
   ⟨some 67, .pick (.t 54) (.t 66) (.k (.bool false)), none⟩]
 (.region [
   ⟨some 68, .mv (.t 67), none⟩,
   ⟨some 69, .mv (.t 5), some (68, true)⟩,
   ⟨some 70, .un .not (.t 69), some (68, true)⟩,
   ⟨some 71, .mv (.t 70), some (68, true)⟩,
   ⟨some 72, .faddr 5 (.t 1), some (71, false)⟩,
   ⟨some 73, .load 1 false (.t 72), some (71, false)⟩,
   ⟨some 74, .len false (.t 73), some (71, false)⟩,
   ⟨some 75, .bin .eql (.t 74) (.k (.int .i64 1)), some (71, false)⟩,
   ⟨some 76, .pick (.t 71) (.k (.bool true)) (.t 75), some (68, true)⟩,
   ⟨some 77, .pick (.t 68) (.t 76) (.k (.bool false)), none⟩,
   ⟨some 2, .mv (.t 77), none⟩]))))))
 (.ret)))))⟩
theorem eq_kind_only (Φ : Calls') (a0 : AV) (H : AH) (Q : Post) : fnE1 Φ ir_kind_only [a0] H Q = kind_only Φ a0 H Q := by kernel_rfl

/-! rabbet/kind.power -/
def kind_power_k1 (Φ : Calls') (a0 : AV) (Q : Post) : List AV → AH → Prop := fun j1 H2 =>
 Gd3 (sl j1 0) true (
 Do (abin .sub a0 (.int .i64 1)) fun x5 =>
 Do (abin .and a0 x5) fun x6 =>
 Do (abin .eql x6 (.int .i64 0)) fun x7 =>
 Q x7 H2) (
 Q (.bool false) H2) (
 False)
def kind_power (Φ : Calls') (a0 : AV) (a1 : AV) (H : AH) (Q : Post) : Prop :=
 Do (abin .geq a0 (.int .i64 1)) fun x3 =>
 Gd3 x3 true (
 Do (abin .leq a0 a1) fun x4 =>
 JoinP (kind_power_k1 Φ a0 Q) [x4] H) (
 JoinP (kind_power_k1 Φ a0 Q) [(.bool false)] H) (
 False)
def ir_kind_power : AFunc := ⟨19, [.tmp 4],
 .seq (.region [
   ⟨some 4, .mv (.k (.bool false)), none⟩])
 (.seq (.rjoin [11] [5, 6, 7, 8, 9, 10] [
   ⟨some 5, .mv (.t 0), none⟩,
   ⟨some 6, .bin .geq (.t 5) (.k (.int .i64 1)), none⟩,
   ⟨some 7, .mv (.t 6), none⟩,
   ⟨some 8, .mv (.t 0), some (7, true)⟩,
   ⟨some 9, .mv (.t 1), some (7, true)⟩,
   ⟨some 10, .bin .leq (.t 8) (.t 9), some (7, true)⟩,
   ⟨some 11, .pick (.t 7) (.t 10) (.k (.bool false)), none⟩]
 (.region [
   ⟨some 12, .mv (.t 11), none⟩,
   ⟨some 13, .mv (.t 0), some (12, true)⟩,
   ⟨some 14, .mv (.t 0), some (12, true)⟩,
   ⟨some 15, .bin .sub (.t 14) (.k (.int .i64 1)), some (12, true)⟩,
   ⟨some 16, .bin .and (.t 13) (.t 15), some (12, true)⟩,
   ⟨some 17, .bin .eql (.t 16) (.k (.int .i64 0)), some (12, true)⟩,
   ⟨some 18, .pick (.t 12) (.t 17) (.k (.bool false)), none⟩,
   ⟨some 4, .mv (.t 18), none⟩]))
 (.ret))⟩
theorem eq_kind_power (Φ : Calls') (a0 a1 : AV) (H : AH) (Q : Post) : fnE1 Φ ir_kind_power [a0, a1] H Q = kind_power Φ a0 a1 H Q := by kernel_rfl

/-! rabbet/kind.group -/
def kind_group_l1 (Φ : Calls') (x1 : AV) (x17 : AV) (Q : Post) : (List AV × AH) → ((List AV × AH) → Prop) → Prop := fun s18 L19 =>
 Do (abin .lss (sl s18.1 0) x17) fun x20 =>
 Gd x20 true (
 Do (aload s18.2 6 true x1) fun x21 =>
Φ K.kind_field [x21, (sl s18.1 0)] s18.2 fun x22 H23 =>
 Do (abin .neq x22 (.int .i64 0)) fun x24 =>
 Gd x24 true (
 Q x22 H23) (
 Do (abin .add (sl s18.1 0) (.int .i64 1)) fun x25 =>
 L19 ([x25], H23))) (
 Q (.int .i64 0) s18.2)
def kind_group_k2 (Φ : Calls') (x1 : AV) (Q : Post) : List AV → AH → Prop := fun j3 H4 =>
 Do (afaddr 3 x1) fun x15 =>
 Do (aload H4 1 false x15) fun x16 =>
 Do (alen false x16) fun x17 =>
 LoopP (kind_group_l1 Φ x1 x17 Q) ([(.int .i64 0)], H4)
def kind_group_k3 (Φ : Calls') (x1 : AV) (Q : Post) : List AV → AH → Prop := fun j5 H6 =>
 Gd (sl j5 0) true (
 Q (.int .i64 12) H6) (
 JoinP (kind_group_k2 Φ x1 Q) [] H6)
def kind_group (Φ : Calls') (a0 : AV) (H : AH) (Q : Post) : Prop :=
 DoH (aboxv H false 6 a0) fun x1 H2 =>
 Do (afaddr 3 x1) fun x7 =>
 Do (aload H2 1 false x7) fun x8 =>
 Do (alen false x8) fun x9 =>
 Do (abin .lss x9 (.int .i64 1)) fun x10 =>
 Gd3 x10 false (
 Do (afaddr 3 x1) fun x11 =>
 Do (aload H2 1 false x11) fun x12 =>
 Do (alen false x12) fun x13 =>
 Do (abin .gtr x13 (.int .i64 32)) fun x14 =>
 JoinP (kind_group_k3 Φ x1 Q) [x14] H2) (
 JoinP (kind_group_k3 Φ x1 Q) [(.bool true)] H2) (
 False)
def ir_kind_group : AFunc := ⟨28, [.tmp 2],
 .seq (.region [
   ⟨some 1, .box false 6 (.t 0), none⟩,
   ⟨some 2, .mv (.k (.int .i64 0)), none⟩])
 (.join [] [2, 5, 6, 7, 8, 9, 10, 11, 12, 13, 14] (.join [14] [5, 6, 7, 8, 9, 10, 11, 12, 13] (.region [
   ⟨some 5, .faddr 3 (.t 1), none⟩,
   ⟨some 6, .load 1 false (.t 5), none⟩,
   ⟨some 7, .len false (.t 6), none⟩,
   ⟨some 8, .bin .lss (.t 7) (.k (.int .i64 1)), none⟩,
   ⟨some 9, .mv (.t 8), none⟩,
   ⟨some 10, .faddr 3 (.t 1), some (9, false)⟩,
   ⟨some 11, .load 1 false (.t 10), some (9, false)⟩,
   ⟨some 12, .len false (.t 11), some (9, false)⟩,
   ⟨some 13, .bin .gtr (.t 12) (.k (.int .i64 32)), some (9, false)⟩,
   ⟨some 14, .pick (.t 9) (.k (.bool true)) (.t 13), none⟩])
 (.cond (.t 14) (.seq (.region [
     ⟨some 2, .mv (.k (.int .i64 12)), none⟩])
   (.ret))
   (.skip)))
 (.seq (.seq (.region [
   ⟨some 15, .faddr 3 (.t 1), none⟩,
   ⟨some 16, .load 1 false (.t 15), none⟩,
   ⟨some 17, .len false (.t 16), none⟩,
   ⟨some 18, .mv (.k (.int .i64 0)), none⟩])
 (.block 0 (.loop [18] [2, 3, 4, 19, 20, 21, 22, 23, 24, 25, 26, 27] (.seq (.region [
   ⟨some 19, .bin .lss (.t 18) (.t 17), none⟩])
 (.seq (.cond (.t 19) (.skip)
   (.exit 0))
 (.seq (.block 1 (.seq (.region [
   ⟨some 20, .mv (.t 18), none⟩,
   ⟨some 3, .mv (.t 20), none⟩])
 (.seq (.region [
   ⟨some 21, .load 6 true (.t 1), none⟩,
   ⟨some 22, .mv (.t 3), none⟩,
   ⟨some 23, .call K.kind_field [(.t 21), (.t 22)], none⟩,
   ⟨some 4, .mv (.t 23), none⟩])
 (.seq (.region [
   ⟨some 24, .mv (.t 4), none⟩,
   ⟨some 25, .bin .neq (.t 24) (.k (.int .i64 0)), none⟩])
 (.cond (.t 25) (.seq (.region [
     ⟨some 26, .mv (.t 4), none⟩,
     ⟨some 2, .mv (.t 26), none⟩])
   (.ret))
   (.skip))))))
 (.region [
   ⟨some 27, .bin .add (.t 18) (.k (.int .i64 1)), none⟩,
   ⟨some 18, .mv (.t 27), none⟩])))))))
 (.seq (.region [
   ⟨some 2, .mv (.k (.int .i64 0)), none⟩])
 (.ret))))⟩
theorem eq_kind_group (Φ : Calls') (a0 : AV) (H : AH) (Q : Post) : fnE1 Φ ir_kind_group [a0] H Q = kind_group Φ a0 H Q := by kernel_rfl

/-! rabbet/kind.letter -/
def kind_letter (Φ : Calls') (a0 : AV) (H : AH) (Q : Post) : Prop :=
 Do (abin .geq a0 (.int .i32 97)) fun x1 =>
 Gd3 x1 true (
 Do (abin .leq a0 (.int .i32 122)) fun x2 =>
 Q x2 H) (
 Q (.bool false) H) (
 False)
def ir_kind_letter : AFunc := ⟨9, [.tmp 2],
 .seq (.region [
   ⟨some 2, .mv (.k (.bool false)), none⟩])
 (.seq (.region [
   ⟨some 3, .mv (.t 0), none⟩,
   ⟨some 4, .bin .geq (.t 3) (.k (.int .i32 97)), none⟩,
   ⟨some 5, .mv (.t 4), none⟩,
   ⟨some 6, .mv (.t 0), some (5, true)⟩,
   ⟨some 7, .bin .leq (.t 6) (.k (.int .i32 122)), some (5, true)⟩,
   ⟨some 8, .pick (.t 5) (.t 7) (.k (.bool false)), none⟩,
   ⟨some 2, .mv (.t 8), none⟩])
 (.ret))⟩
theorem eq_kind_letter (Φ : Calls') (a0 : AV) (H : AH) (Q : Post) : fnE1 Φ ir_kind_letter [a0] H Q = kind_letter Φ a0 H Q := by kernel_rfl

/-! rabbet/kind.field -/
def kind_field_k1 (Φ : Calls') (Q : Post) : List AV → AH → Prop := fun j58 H59 =>
 Gd (sl j58 0) true (
 Q (.int .i64 9) H59) (
 Q (.int .i64 0) H59)
def kind_field_k2 (Φ : Calls') (x7 : AV) (Q : Post) : List AV → AH → Prop := fun j40 H41 =>
 Gd (sl j40 0) true (
 Q (.int .i64 8) H41) (
 Do (afaddr 7 x7) fun x60 =>
 Do (aload H41 1 false x60) fun x61 =>
 Gd3 x61 true (
 Do (afaddr 8 x7) fun x62 =>
 Do (aload H41 1 false x62) fun x63 =>
 Do (abin .lss x63 (.int .i64 0)) fun x64 =>
 Gd3 x64 false (
 Do (afaddr 8 x7) fun x65 =>
 Do (aload H41 1 false x65) fun x66 =>
 Do (afaddr 1 x7) fun x67 =>
 Do (afaddr 1 x67) fun x68 =>
 Do (aload H41 1 false x68) fun x69 =>
 Do (abin .mul (.int .i64 8) x69) fun x70 =>
 Do (abin .gtr x66 x70) fun x71 =>
 Gd3 x71 false (
 Do (afaddr 8 x7) fun x72 =>
 Do (aload H41 1 false x72) fun x73 =>
 Do (abin .eql x73 (.int .i64 0)) fun x74 =>
 Gd3 x74 true (
 Do (afaddr 0 x7) fun x75 =>
 Do (aload H41 1 false x75) fun x76 =>
 Do (abin .neq x76 (.str [])) fun x77 =>
 JoinP (kind_field_k1 Φ Q) [x77] H41) (
 JoinP (kind_field_k1 Φ Q) [(.bool false)] H41) (
 False)) (
 JoinP (kind_field_k1 Φ Q) [(.bool true)] H41) (
 False)) (
 JoinP (kind_field_k1 Φ Q) [(.bool true)] H41) (
 False)) (
 JoinP (kind_field_k1 Φ Q) [(.bool false)] H41) (
 False))
def kind_field_k3 (Φ : Calls') (x1 : AV) (x7 : AV) (Q : Post) : List AV → AH → Prop := fun j42 H43 =>
 Gd3 (sl j42 0) false (
 Do (afaddr 7 x7) fun x50 =>
 Do (aload H43 1 false x50) fun x51 =>
 Gd3 x51 true (
 Do (afaddr 1 x7) fun x52 =>
 Do (afaddr 0 x52) fun x53 =>
 Do (aload H43 1 false x53) fun x54 =>
 Do (abin .neq x54 (.int .i64 1)) fun x55 =>
 Gd3 x55 false (
 Do (afaddr 2 x1) fun x56 =>
 Do (aload H43 1 false x56) fun x57 =>
 JoinP (kind_field_k2 Φ x7 Q) [x57] H43) (
 JoinP (kind_field_k2 Φ x7 Q) [(.bool true)] H43) (
 False)) (
 JoinP (kind_field_k2 Φ x7 Q) [(.bool false)] H43) (
 False)) (
 JoinP (kind_field_k2 Φ x7 Q) [(.bool true)] H43) (
 False)
def kind_field_k4 (Φ : Calls') (x1 : AV) (x7 : AV) (Q : Post) : List AV → AH → Prop := fun j10 H11 =>
 Do (afaddr 1 x7) fun x35 =>
 Do (aload H11 6 true x35) fun x36 =>
Φ K.kind_sound [x36] H11 fun x37 H38 =>
 Do (abin .neq x37 (.int .i64 0)) fun x39 =>
 Gd x39 true (
 Q x37 H38) (
 Do (afaddr 7 x7) fun x44 =>
 Do (aload H38 1 false x44) fun x45 =>
 Do (aun .not x45) fun x46 =>
 Gd3 x46 true (
 Do (afaddr 8 x7) fun x47 =>
 Do (aload H38 1 false x47) fun x48 =>
 Do (abin .neq x48 (.int .i64 0)) fun x49 =>
 JoinP (kind_field_k3 Φ x1 x7 Q) [x49] H38) (
 JoinP (kind_field_k3 Φ x1 x7 Q) [(.bool false)] H38) (
 False))
def kind_field_k5 (Φ : Calls') (x1 : AV) (x7 : AV) (Q : Post) : List AV → AH → Prop := fun j25 H26 =>
 Gd (sl j25 0) true (
 Q (.int .i64 7) H26) (
 JoinP (kind_field_k4 Φ x1 x7 Q) [] H26)
def kind_field_k6 (Φ : Calls') (a1 : AV) (x1 : AV) (x7 : AV) (Q : Post) : List AV → AH → Prop := fun j12 H13 =>
 Gd (sl j12 0) true (
 Q (.int .i64 6) H13) (
 Do (afaddr 0 x7) fun x27 =>
 Do (aload H13 1 false x27) fun x28 =>
 Do (abin .neq x28 (.str [])) fun x29 =>
 Gd3 x29 true (
 Do (afaddr 3 x1) fun x30 =>
 Do (aload H13 1 false x30) fun x31 =>
 Do (aslice 9 x31 none (some a1) none) fun x32 =>
Φ K.slices_ContainsFunc___api_Field_api_Field_ [x32, (.fn K.kind_field_c1 [x7])] H13 fun x33 H34 =>
 JoinP (kind_field_k5 Φ x1 x7 Q) [x33] H34) (
 JoinP (kind_field_k5 Φ x1 x7 Q) [(.bool false)] H13) (
 False))
def kind_field (Φ : Calls') (a0 : AV) (a1 : AV) (H : AH) (Q : Post) : Prop :=
 DoH (aboxv H false 6 a0) fun x1 H2 =>
 Do (afaddr 3 x1) fun x3 =>
 Do (aload H2 1 false x3) fun x4 =>
 Do (aiaddr none 9 x4 a1) fun x5 =>
 Do (aload H2 9 true x5) fun x6 =>
 DoH (some (abox H2 true [.str [], .int .i64 0, .int .i64 0, .bool false, .lst .nil 0 [], .int .i64 0, .lst .nil 0 [], .bool false, .int .i64 0])) fun x7 H8 =>
 Do (astore H8 9 x7 x6) fun H9 =>
 Do (afaddr 0 x7) fun x14 =>
 Do (aload H9 1 false x14) fun x15 =>
Φ K.kind_Name [x15] H9 fun x16 H17 =>
 Do (aun .not x16) fun x18 =>
 Gd3 x18 true (
 Do (afaddr 0 x7) fun x19 =>
 Do (aload H17 1 false x19) fun x20 =>
 Do (abin .neq x20 (.str [])) fun x21 =>
 Gd3 x21 false (
 Do (afaddr 7 x7) fun x22 =>
 Do (aload H17 1 false x22) fun x23 =>
 Do (aun .not x23) fun x24 =>
 JoinP (kind_field_k6 Φ a1 x1 x7 Q) [x24] H17) (
 JoinP (kind_field_k6 Φ a1 x1 x7 Q) [(.bool true)] H17) (
 False)) (
 JoinP (kind_field_k6 Φ a1 x1 x7 Q) [(.bool false)] H17) (
 False)
def ir_kind_field : AFunc := ⟨95, [.tmp 4],
 .seq (.region [
   ⟨some 2, .box false 6 (.t 0), none⟩,
   ⟨some 4, .mv (.k (.int .i64 0)), none⟩])
 (.seq (.region [
   ⟨some 7, .faddr 3 (.t 2), none⟩,
   ⟨some 8, .load 1 false (.t 7), none⟩,
   ⟨some 9, .mv (.t 1), none⟩,
   ⟨some 10, .iaddr none 9 (.t 8) (.t 9), none⟩,
   ⟨some 11, .load 9 true (.t 10), none⟩,
   ⟨some 5, .alloc true [.str [], .int .i64 0, .int .i64 0, .bool false, .lst .nil 0 [], .int .i64 0, .lst .nil 0 [], .bool false, .int .i64 0], none⟩,
   ⟨none, .store 9 (.t 5) (.t 11), none⟩])
 (.join [] [4, 12, 13, 14, 15, 16, 17, 18, 19, 20, 21, 22, 23, 24, 25, 26, 27, 28, 29, 30, 31, 32, 33, 34, 35, 36, 37, 38] (.block 0 (.join [12] [13, 14, 15, 16, 17, 18, 19, 20, 21, 22, 23, 24, 25, 26] (.region [
   ⟨some 13, .faddr 0 (.t 5), none⟩,
   ⟨some 14, .load 1 false (.t 13), none⟩,
   ⟨some 15, .call K.kind_Name [(.t 14)], none⟩,
   ⟨some 16, .un .not (.t 15), none⟩,
   ⟨some 17, .mv (.t 16), none⟩,
   ⟨some 18, .faddr 0 (.t 5), some (17, true)⟩,
   ⟨some 19, .load 1 false (.t 18), some (17, true)⟩,
   ⟨some 20, .bin .neq (.t 19) (.k (.str [])), some (17, true)⟩,
   ⟨some 21, .mv (.t 20), some (17, true)⟩,
   ⟨some 22, .faddr 7 (.t 5), some (21, false)⟩,
   ⟨some 23, .load 1 false (.t 22), some (21, false)⟩,
   ⟨some 24, .un .not (.t 23), some (21, false)⟩,
   ⟨some 25, .pick (.t 21) (.k (.bool true)) (.t 24), some (17, true)⟩,
   ⟨some 26, .pick (.t 17) (.t 25) (.k (.bool false)), none⟩,
   ⟨some 12, .mv (.t 26), none⟩])
 (.cond (.t 12) (.seq (.region [
     ⟨some 4, .mv (.k (.int .i64 6)), none⟩])
   (.ret))
   (.join [27] [28, 29, 30, 31, 32, 33, 34, 35, 36, 37, 38] (.region [
     ⟨some 28, .faddr 0 (.t 5), none⟩,
     ⟨some 29, .load 1 false (.t 28), none⟩,
     ⟨some 30, .bin .neq (.t 29) (.k (.str [])), none⟩,
     ⟨some 31, .mv (.t 30), none⟩,
     ⟨some 32, .faddr 3 (.t 2), some (31, true)⟩,
     ⟨some 33, .load 1 false (.t 32), some (31, true)⟩,
     ⟨some 34, .mv (.t 1), some (31, true)⟩,
     ⟨some 35, .slice 9 (.t 33) none (some (.t 34)) none, some (31, true)⟩,
     ⟨some 36, .mkfn K.kind_field_c1 [(.t 5)], some (31, true)⟩,
     ⟨some 37, .call K.slices_ContainsFunc___api_Field_api_Field_ [(.t 35), (.t 36)], some (31, true)⟩,
     ⟨some 38, .pick (.t 31) (.t 37) (.k (.bool false)), none⟩,
     ⟨some 27, .mv (.t 38), none⟩])
   (.cond (.t 27) (.seq (.region [
       ⟨some 4, .mv (.k (.int .i64 7)), none⟩])
     (.ret))
     (.skip))))))
 (.seq (.seq (.region [
   ⟨some 39, .faddr 1 (.t 5), none⟩,
   ⟨some 40, .load 6 true (.t 39), none⟩,
   ⟨some 41, .call K.kind_sound [(.t 40)], none⟩,
   ⟨some 6, .mv (.t 41), none⟩])
 (.seq (.region [
   ⟨some 42, .mv (.t 6), none⟩,
   ⟨some 43, .bin .neq (.t 42) (.k (.int .i64 0)), none⟩])
 (.cond (.t 43) (.seq (.region [
     ⟨some 44, .mv (.t 6), none⟩,
     ⟨some 4, .mv (.t 44), none⟩])
   (.ret))
   (.skip))))
 (.seq (.block 1 (.join [45] [46, 47, 48, 49, 50, 51, 52, 53, 54, 55, 56, 57, 58, 59, 60, 61, 62, 63, 64, 65, 66, 67] (.rjoin [53] [46, 47, 48, 49, 50, 51, 52] [
   ⟨some 46, .faddr 7 (.t 5), none⟩,
   ⟨some 47, .load 1 false (.t 46), none⟩,
   ⟨some 48, .un .not (.t 47), none⟩,
   ⟨some 49, .mv (.t 48), none⟩,
   ⟨some 50, .faddr 8 (.t 5), some (49, true)⟩,
   ⟨some 51, .load 1 false (.t 50), some (49, true)⟩,
   ⟨some 52, .bin .neq (.t 51) (.k (.int .i64 0)), some (49, true)⟩,
   ⟨some 53, .pick (.t 49) (.t 52) (.k (.bool false)), none⟩]
 (.region [
   ⟨some 54, .mv (.t 53), none⟩,
   ⟨some 55, .faddr 7 (.t 5), some (54, false)⟩,
   ⟨some 56, .load 1 false (.t 55), some (54, false)⟩,
   ⟨some 57, .mv (.t 56), some (54, false)⟩,
   ⟨some 58, .faddr 1 (.t 5), some (57, true)⟩,
   ⟨some 59, .faddr 0 (.t 58), some (57, true)⟩,
   ⟨some 60, .load 1 false (.t 59), some (57, true)⟩,
   ⟨some 61, .bin .neq (.t 60) (.k (.int .i64 1)), some (57, true)⟩,
   ⟨some 62, .mv (.t 61), some (57, true)⟩,
   ⟨some 63, .faddr 2 (.t 2), some (62, false)⟩,
   ⟨some 64, .load 1 false (.t 63), some (62, false)⟩,
   ⟨some 65, .pick (.t 62) (.k (.bool true)) (.t 64), some (57, true)⟩,
   ⟨some 66, .pick (.t 57) (.t 65) (.k (.bool false)), some (54, false)⟩,
   ⟨some 67, .pick (.t 54) (.k (.bool true)) (.t 66), none⟩,
   ⟨some 45, .mv (.t 67), none⟩]))
 (.cond (.t 45) (.seq (.region [
     ⟨some 4, .mv (.k (.int .i64 8)), none⟩])
   (.ret))
   (.join [68] [69, 70, 71, 72, 73, 74, 75, 76, 77, 78, 79, 80, 81, 82, 83, 84, 85, 86, 87, 88, 89, 90, 91, 92, 93, 94] (.region [
     ⟨some 69, .faddr 7 (.t 5), none⟩,
     ⟨some 70, .load 1 false (.t 69), none⟩,
     ⟨some 71, .mv (.t 70), none⟩,
     ⟨some 72, .faddr 8 (.t 5), some (71, true)⟩,
     ⟨some 73, .load 1 false (.t 72), some (71, true)⟩,
     ⟨some 74, .bin .lss (.t 73) (.k (.int .i64 0)), some (71, true)⟩,
     ⟨some 75, .mv (.t 74), some (71, true)⟩,
     ⟨some 76, .faddr 8 (.t 5), some (75, false)⟩,
     ⟨some 77, .load 1 false (.t 76), some (75, false)⟩,
     ⟨some 78, .faddr 1 (.t 5), some (75, false)⟩,
     ⟨some 79, .faddr 1 (.t 78), some (75, false)⟩,
     ⟨some 80, .load 1 false (.t 79), some (75, false)⟩,
     ⟨some 81, .bin .mul (.k (.int .i64 8)) (.t 80), some (75, false)⟩,
     ⟨some 82, .bin .gtr (.t 77) (.t 81), some (75, false)⟩,
     ⟨some 83, .pick (.t 75) (.k (.bool true)) (.t 82), some (71, true)⟩,
     ⟨some 84, .mv (.t 83), some (71, true)⟩,
     ⟨some 85, .faddr 8 (.t 5), some (84, false)⟩,
     ⟨some 86, .load 1 false (.t 85), some (84, false)⟩,
     ⟨some 87, .bin .eql (.t 86) (.k (.int .i64 0)), some (84, false)⟩,
     ⟨some 88, .mv (.t 87), some (84, false)⟩,
     ⟨some 89, .faddr 0 (.t 5), some (88, true)⟩,
     ⟨some 90, .load 1 false (.t 89), some (88, true)⟩,
     ⟨some 91, .bin .neq (.t 90) (.k (.str [])), some (88, true)⟩,
     ⟨some 92, .pick (.t 88) (.t 91) (.k (.bool false)), some (84, false)⟩,
     ⟨some 93, .pick (.t 84) (.k (.bool true)) (.t 92), some (71, true)⟩,
     ⟨some 94, .pick (.t 71) (.t 93) (.k (.bool false)), none⟩,
     ⟨some 68, .mv (.t 94), none⟩])
   (.cond (.t 68) (.seq (.region [
       ⟨some 4, .mv (.k (.int .i64 9)), none⟩])
     (.ret))
     (.skip))))))
 (.seq (.region [
   ⟨some 4, .mv (.k (.int .i64 0)), none⟩])
 (.ret))))))⟩
theorem eq_kind_field (Φ : Calls') (a0 a1 : AV) (H : AH) (Q : Post) : fnE1 Φ ir_kind_field [a0, a1] H Q = kind_field Φ a0 a1 H Q := by kernel_rfl

/-! rabbet/kind.field$1 -/
def kind_field_c1 (Φ : Calls') (a0 : AV) (a1 : AV) (H : AH) (Q : Post) : Prop :=
 DoH (aboxv H false 9 a0) fun x1 H2 =>
 Do (afaddr 0 x1) fun x3 =>
 Do (aload H2 1 false x3) fun x4 =>
 Do (afaddr 0 a1) fun x5 =>
 Do (aload H2 1 false x5) fun x6 =>
 Do (abin .eql x4 x6) fun x7 =>
 Q x7 H2
def ir_kind_field_c1 : AFunc := ⟨9, [.tmp 3],
 .seq (.region [
   ⟨some 2, .box false 9 (.t 0), none⟩,
   ⟨some 3, .mv (.k (.bool false)), none⟩])
 (.seq (.region [
   ⟨some 4, .faddr 0 (.t 2), none⟩,
   ⟨some 5, .load 1 false (.t 4), none⟩,
   ⟨some 6, .faddr 0 (.t 1), none⟩,
   ⟨some 7, .load 1 false (.t 6), none⟩,
   ⟨some 8, .bin .eql (.t 5) (.t 7), none⟩,
   ⟨some 3, .mv (.t 8), none⟩])
 (.ret))⟩
theorem eq_kind_field_c1 (Φ : Calls') (a0 a1 : AV) (H : AH) (Q : Post) : fnE1 Φ ir_kind_field_c1 [a0, a1] H Q = kind_field_c1 Φ a0 a1 H Q := by kernel_rfl

def tab_kind : Tab := [
  (K.kind_Sound, ir_kind_Sound),
  (K.kind_Depth, ir_kind_Depth),
  (K.kind_sound, ir_kind_sound),
  (K.kind_Name, ir_kind_Name),
  (K.kind_depth, ir_kind_depth),
  (K.kind_only, ir_kind_only),
  (K.kind_power, ir_kind_power),
  (K.kind_group, ir_kind_group),
  (K.kind_letter, ir_kind_letter),
  (K.kind_field, ir_kind_field),
  (K.kind_field_c1, ir_kind_field_c1)]

theorem cl_kind_Sound {Φ : Calls'} (hT : Cl Φ tab_kind) {a0 : AV} {H : AH} {Q : Post} (h : kind_Sound Φ a0 H Q) : Φ K.kind_Sound [a0] H Q := hT.call (by kernel_rfl) (by kernel_rfl) (by rw [eq_kind_Sound]; exact h)
theorem cl_kind_Depth {Φ : Calls'} (hT : Cl Φ tab_kind) {a0 : AV} {H : AH} {Q : Post} (h : kind_Depth Φ a0 H Q) : Φ K.kind_Depth [a0] H Q := hT.call (by kernel_rfl) (by kernel_rfl) (by rw [eq_kind_Depth]; exact h)
theorem cl_kind_sound {Φ : Calls'} (hT : Cl Φ tab_kind) {a0 : AV} {H : AH} {Q : Post} (h : kind_sound Φ a0 H Q) : Φ K.kind_sound [a0] H Q := hT.call (by kernel_rfl) (by kernel_rfl) (by rw [eq_kind_sound]; exact h)
theorem cl_kind_Name {Φ : Calls'} (hT : Cl Φ tab_kind) {a0 : AV} {H : AH} {Q : Post} (h : kind_Name Φ a0 H Q) : Φ K.kind_Name [a0] H Q := hT.call (by kernel_rfl) (by kernel_rfl) (by rw [eq_kind_Name]; exact h)
theorem cl_kind_depth {Φ : Calls'} (hT : Cl Φ tab_kind) {a0 a1 : AV} {H : AH} {Q : Post} (h : kind_depth Φ a0 a1 H Q) : Φ K.kind_depth [a0, a1] H Q := hT.call (by kernel_rfl) (by kernel_rfl) (by rw [eq_kind_depth]; exact h)
theorem cl_kind_only {Φ : Calls'} (hT : Cl Φ tab_kind) {a0 : AV} {H : AH} {Q : Post} (h : kind_only Φ a0 H Q) : Φ K.kind_only [a0] H Q := hT.call (by kernel_rfl) (by kernel_rfl) (by rw [eq_kind_only]; exact h)
theorem cl_kind_power {Φ : Calls'} (hT : Cl Φ tab_kind) {a0 a1 : AV} {H : AH} {Q : Post} (h : kind_power Φ a0 a1 H Q) : Φ K.kind_power [a0, a1] H Q := hT.call (by kernel_rfl) (by kernel_rfl) (by rw [eq_kind_power]; exact h)
theorem cl_kind_group {Φ : Calls'} (hT : Cl Φ tab_kind) {a0 : AV} {H : AH} {Q : Post} (h : kind_group Φ a0 H Q) : Φ K.kind_group [a0] H Q := hT.call (by kernel_rfl) (by kernel_rfl) (by rw [eq_kind_group]; exact h)
theorem cl_kind_letter {Φ : Calls'} (hT : Cl Φ tab_kind) {a0 : AV} {H : AH} {Q : Post} (h : kind_letter Φ a0 H Q) : Φ K.kind_letter [a0] H Q := hT.call (by kernel_rfl) (by kernel_rfl) (by rw [eq_kind_letter]; exact h)
theorem cl_kind_field {Φ : Calls'} (hT : Cl Φ tab_kind) {a0 a1 : AV} {H : AH} {Q : Post} (h : kind_field Φ a0 a1 H Q) : Φ K.kind_field [a0, a1] H Q := hT.call (by kernel_rfl) (by kernel_rfl) (by rw [eq_kind_field]; exact h)
theorem cl_kind_field_c1 {Φ : Calls'} (hT : Cl Φ tab_kind) {a0 a1 : AV} {H : AH} {Q : Post} (h : kind_field_c1 Φ a0 a1 H Q) : Φ K.kind_field_c1 [a0, a1] H Q := hT.call (by kernel_rfl) (by kernel_rfl) (by rw [eq_kind_field_c1]; exact h)
end Rb.S

/- Package kind: its functions as runs. By gen.py. -/
set_option linter.unusedVariables false
namespace Rb.R
open Go

def kind_Sound (Φ : CallsB) (n : Nat) (a0 : AV) (H : TH) (Q : PostB) : Bool :=
 DoHB (tboxv H false 6 a0) fun x1 H2 =>
 DoB (aload H2.ah 6 true x1) fun x3 =>
Φ K.kind_Depth [x3] H2 fun x5 H6 =>
 DoB (abin .gtr x5 (.int .i64 64)) fun x7 =>
 GdB x7 true (
 Q (.int .i64 5) H6) (
 DoB (aload H6.ah 6 true x1) fun x8 =>
Φ K.kind_sound [x8] H6 fun x10 H11 =>
 Q x10 H11)
theorem eq_kind_Sound (Φ : CallsB) (n : Nat) (a0 : AV) (H : TH) (Q : PostB) : fnB1 Φ n S.ir_kind_Sound [a0] H Q = kind_Sound Φ n a0 H Q := by kernel_rfl

def kind_Depth (Φ : CallsB) (n : Nat) (a0 : AV) (H : TH) (Q : PostB) : Bool :=
 DoHB (tboxv H false 6 a0) fun x1 H2 =>
 DoB (aload H2.ah 6 true x1) fun x3 =>
Φ K.kind_depth [x3, (.int .i64 65)] H2 fun x5 H6 =>
 Q x5 H6
theorem eq_kind_Depth (Φ : CallsB) (n : Nat) (a0 : AV) (H : TH) (Q : PostB) : fnB1 Φ n S.ir_kind_Depth [a0] H Q = kind_Depth Φ n a0 H Q := by kernel_rfl

def kind_sound_k1 (Φ : CallsB) (n : Nat) (x1 : AV) (Q : PostB) : List AV → TH → Bool := fun j26 H27 =>
 DoB (afaddr 5 x1) fun x38 =>
 DoB (aload H27.ah 1 false x38) fun x39 =>
 DoB (aiaddr none 6 x39 (.int .i64 0)) fun x41 =>
 DoB (aload H27.ah 6 true x41) fun x42 =>
Φ K.kind_sound [x42] H27 fun x44 H45 =>
 Q x44 H45
def kind_sound_k2 (Φ : CallsB) (n : Nat) (x1 : AV) (Q : PostB) : List AV → TH → Bool := fun j28 H29 =>
 GdB (sl j28 0) true (
 Q (.int .i64 9) H29) (
 JoinB (kind_sound_k1 Φ n x1 Q) [] H29)
def kind_sound (Φ : CallsB) (n : Nat) (a0 : AV) (H : TH) (Q : PostB) : Bool :=
 DoHB (tboxv H false 6 a0) fun x1 H2 =>
 DoB (aload H2.ah 6 true x1) fun x3 =>
Φ K.kind_only [x3] H2 fun x5 H6 =>
 DoB (aun .not x5) fun x7 =>
 GdB x7 true (
 Q (.int .i64 8) H6) (
 DoB (afaddr 0 x1) fun x8 =>
 DoB (aload H6.ah 1 false x8) fun x9 =>
 DoB (abin .eql x9 (.int .i64 1)) fun x11 =>
 GdB x11 true (
 DoB (afaddr 1 x1) fun x12 =>
 DoB (aload H6.ah 1 false x12) fun x13 =>
Φ K.kind_power [x13, (.int .i64 8)] H6 fun x15 H16 =>
 DoB (aun .not x15) fun x17 =>
 GdB x17 true (
 Q (.int .i64 9) H16) (
 Q (.int .i64 0) H16)) (
 DoB (abin .eql x9 (.int .i64 2)) fun x18 =>
 GdB x18 true (
 DoB (afaddr 1 x1) fun x19 =>
 DoB (aload H6.ah 1 false x19) fun x20 =>
Φ K.kind_power [x20, (.int .i64 16)] H6 fun x22 H23 =>
 DoB (aun .not x22) fun x24 =>
 GdB x24 true (
 Q (.int .i64 9) H23) (
 Q (.int .i64 0) H23)) (
 DoB (abin .eql x9 (.int .i64 5)) fun x25 =>
 GdB x25 true (
 DoB (afaddr 4 x1) fun x30 =>
 DoB (aload H6.ah 1 false x30) fun x31 =>
 DoB (abin .lss x31 (.int .i64 1)) fun x33 =>
 Gd3B x33 false (
 DoB (afaddr 4 x1) fun x34 =>
 DoB (aload H6.ah 1 false x34) fun x35 =>
 DoB (abin .gtr x35 (.int .i64 65536)) fun x37 =>
 JoinB (kind_sound_k2 Φ n x1 Q) [x37] H6) (
 JoinB (kind_sound_k2 Φ n x1 Q) [(.bool true)] H6) (
 false)) (
 DoB (aload H6.ah 6 true x1) fun x46 =>
Φ K.kind_group [x46] H6 fun x48 H49 =>
 Q x48 H49))))
theorem eq_kind_sound (Φ : CallsB) (n : Nat) (a0 : AV) (H : TH) (Q : PostB) : fnB1 Φ n S.ir_kind_sound [a0] H Q = kind_sound Φ n a0 H Q := by kernel_rfl

def kind_Name_k1 (Φ : CallsB) (n : Nat) (L19 : (List AV × TH) → Bool) (Q : PostB) : List AV → TH → Bool := fun j24 H25 =>
 GdB (sl j24 0) true (
 Q (.bool false) H25) (
 L19 ([], H25))
def kind_Name_k2 (Φ : CallsB) (n : Nat) (x23 : AV) (L19 : (List AV × TH) → Bool) (Q : PostB) : List AV → TH → Bool := fun j26 H27 =>
 Gd3B (sl j26 0) true (
 DoB (abin .lss x23 (.int .i32 48)) fun x32 =>
 Gd3B x32 false (
 DoB (abin .gtr x23 (.int .i32 57)) fun x33 =>
 JoinB (kind_Name_k1 Φ n L19 Q) [x33] H27) (
 JoinB (kind_Name_k1 Φ n L19 Q) [(.bool true)] H27) (
 false)) (
 JoinB (kind_Name_k1 Φ n L19 Q) [(.bool false)] H27) (
 false)
def kind_Name_l3 (Φ : CallsB) (n : Nat) (x16 : AV) (Q : PostB) : (List AV × TH) → ((List AV × TH) → Bool) → Bool := fun s18 L19 =>
 DoHB (tsnext s18.2 x16) fun x20 H21 =>
 DoB (aextract 0 x20) fun x22 =>
 GdB x22 true (
 DoB (aextract 2 x20) fun x23 =>
Φ K.kind_letter [x23] H21 fun x28 H29 =>
 DoB (aun .not x28) fun x30 =>
 Gd3B x30 true (
 DoB (abin .neq x23 (.int .i32 95)) fun x31 =>
 JoinB (kind_Name_k2 Φ n x23 L19 Q) [x31] H29) (
 JoinB (kind_Name_k2 Φ n x23 L19 Q) [(.bool false)] H29) (
 false)) (
 Q (.bool true) H21)
def kind_Name_k4 (Φ : CallsB) (n : Nat) (a0 : AV) (Q : PostB) : List AV → TH → Bool := fun j1 H2 =>
 DoHB (tsrange H2 a0) fun x16 H17 =>
 LoopB (kind_Name_l3 Φ n x16 Q) n ([], H17)
def kind_Name_k5 (Φ : CallsB) (n : Nat) (a0 : AV) (Q : PostB) : List AV → TH → Bool := fun j3 H4 =>
 GdB (sl j3 0) true (
 Q (.bool false) H4) (
 JoinB (kind_Name_k4 Φ n a0 Q) [] H4)
def kind_Name_k6 (Φ : CallsB) (n : Nat) (a0 : AV) (Q : PostB) : List AV → TH → Bool := fun j5 H6 =>
 Gd3B (sl j5 0) false (
 DoB (aidxs a0 (.int .i64 0)) fun x11 =>
 DoB (aconv .i32 x11) fun x12 =>
Φ K.kind_letter [x12] H6 fun x13 H14 =>
 DoB (aun .not x13) fun x15 =>
 JoinB (kind_Name_k5 Φ n a0 Q) [x15] H14) (
 JoinB (kind_Name_k5 Φ n a0 Q) [(.bool true)] H6) (
 false)
def kind_Name (Φ : CallsB) (n : Nat) (a0 : AV) (H : TH) (Q : PostB) : Bool :=
 DoB (alen true a0) fun x7 =>
 DoB (abin .lss x7 (.int .i64 1)) fun x8 =>
 Gd3B x8 false (
 DoB (alen true a0) fun x9 =>
 DoB (abin .gtr x9 (.int .i64 16)) fun x10 =>
 JoinB (kind_Name_k6 Φ n a0 Q) [x10] H) (
 JoinB (kind_Name_k6 Φ n a0 Q) [(.bool true)] H) (
 false)
theorem eq_kind_Name (Φ : CallsB) (n : Nat) (a0 : AV) (H : TH) (Q : PostB) : fnB1 Φ n S.ir_kind_Name [a0] H Q = kind_Name Φ n a0 H Q := by kernel_rfl

def kind_depth_k1 (Φ : CallsB) (n : Nat) (Q : PostB) : List AV → TH → Bool := fun j3 H4 =>
 DoB (abin .add (sl j3 0) (.int .i64 1)) fun x51 =>
 Q x51 H4
def kind_depth_l2 (Φ : CallsB) (n : Nat) (a1 : AV) (x31 : AV) (x33 : AV) (Q : PostB) : (List AV × TH) → ((List AV × TH) → Bool) → Bool := fun s34 L35 =>
 DoB (abin .lss (sl s34.1 1) x33) fun x36 =>
 GdB x36 true (
 DoB (aiaddr none 6 x31 (sl s34.1 1)) fun x37 =>
 DoB (aload s34.2.ah 6 true x37) fun x38 =>
 DoHB (some (tbox s34.2 true [.int .i64 0, .int .i64 0, .bool false, .lst .nil 0 [], .int .i64 0, .lst .nil 0 []])) fun x40 H41 =>
 DoB (tstore H41 6 x40 x38) fun H43 =>
 DoB (aload H43.ah 6 true x40) fun x44 =>
 DoB (abin .sub a1 (.int .i64 1)) fun x46 =>
Φ K.kind_depth [x44, x46] H43 fun x47 H48 =>
 DoB (aminmax true [(sl s34.1 0), x47]) fun x49 =>
 DoB (abin .add (sl s34.1 1) (.int .i64 1)) fun x50 =>
 L35 ([x49, x50], H48)) (
 JoinB (kind_depth_k1 Φ n Q) [(sl s34.1 0)] s34.2)
def kind_depth_k3 (Φ : CallsB) (n : Nat) (a1 : AV) (x1 : AV) (Q : PostB) : List AV → TH → Bool := fun j6 H7 =>
 DoB (afaddr 5 x1) fun x30 =>
 DoB (aload H7.ah 1 false x30) fun x31 =>
 DoB (alen false x31) fun x33 =>
 LoopB (kind_depth_l2 Φ n a1 x31 x33 Q) n ([(sl j6 0), (.int .i64 0)], H7)
def kind_depth_l4 (Φ : CallsB) (n : Nat) (a1 : AV) (x1 : AV) (x9 : AV) (x11 : AV) (Q : PostB) : (List AV × TH) → ((List AV × TH) → Bool) → Bool := fun s12 L13 =>
 DoB (abin .lss (sl s12.1 1) x11) fun x14 =>
 GdB x14 true (
 DoB (aiaddr none 9 x9 (sl s12.1 1)) fun x15 =>
 DoB (aload s12.2.ah 9 true x15) fun x16 =>
 DoHB (some (tbox s12.2 true [.str [], .int .i64 0, .int .i64 0, .bool false, .lst .nil 0 [], .int .i64 0, .lst .nil 0 [], .bool false, .int .i64 0])) fun x18 H19 =>
 DoB (tstore H19 9 x18 x16) fun H21 =>
 DoB (afaddr 1 x18) fun x22 =>
 DoB (aload H21.ah 6 true x22) fun x23 =>
 DoB (abin .sub a1 (.int .i64 1)) fun x25 =>
Φ K.kind_depth [x23, x25] H21 fun x26 H27 =>
 DoB (aminmax true [(sl s12.1 0), x26]) fun x28 =>
 DoB (abin .add (sl s12.1 1) (.int .i64 1)) fun x29 =>
 L13 ([x28, x29], H27)) (
 JoinB (kind_depth_k3 Φ n a1 x1 Q) [(sl s12.1 0)] s12.2)
def kind_depth (Φ : CallsB) (n : Nat) (a0 : AV) (a1 : AV) (H : TH) (Q : PostB) : Bool :=
 DoHB (tboxv H false 6 a0) fun x1 H2 =>
 DoB (abin .gtr a1 (.int .i64 1)) fun x5 =>
 GdB x5 true (
 DoB (afaddr 3 x1) fun x8 =>
 DoB (aload H2.ah 1 false x8) fun x9 =>
 DoB (alen false x9) fun x11 =>
 LoopB (kind_depth_l4 Φ n a1 x1 x9 x11 Q) n ([(.int .i64 0), (.int .i64 0)], H2)) (
 JoinB (kind_depth_k1 Φ n Q) [(.int .i64 0)] H2)
theorem eq_kind_depth (Φ : CallsB) (n : Nat) (a0 a1 : AV) (H : TH) (Q : PostB) : fnB1 Φ n S.ir_kind_depth [a0, a1] H Q = kind_depth Φ n a0 a1 H Q := by kernel_rfl

def kind_only_k1 (Φ : CallsB) (n : Nat) (x1 : AV) (x26 : AV) (Q : PostB) : List AV → TH → Bool := fun j48 H49 =>
 Gd3B (sl j48 0) true (
 DoB (aun .not x26) fun x59 =>
 Gd3B x59 false (
 DoB (afaddr 5 x1) fun x60 =>
 DoB (aload H49.ah 1 false x60) fun x61 =>
 DoB (alen false x61) fun x63 =>
 DoB (abin .eql x63 (.int .i64 1)) fun x64 =>
 Q x64 H49) (
 Q (.bool true) H49) (
 false)) (
 Q (.bool false) H49) (
 false)
def kind_only_k2 (Φ : CallsB) (n : Nat) (x1 : AV) (x26 : AV) (Q : PostB) : List AV → TH → Bool := fun j37 H38 =>
 Gd3B (sl j37 0) true (
 Gd3B x26 false (
 DoB (afaddr 4 x1) fun x50 =>
 DoB (aload H38.ah 1 false x50) fun x51 =>
 DoB (abin .eql x51 (.int .i64 0)) fun x53 =>
 Gd3B x53 true (
 DoB (afaddr 5 x1) fun x54 =>
 DoB (aload H38.ah 1 false x54) fun x55 =>
 DoB (alen false x55) fun x57 =>
 DoB (abin .eql x57 (.int .i64 0)) fun x58 =>
 JoinB (kind_only_k1 Φ n x1 x26 Q) [x58] H38) (
 JoinB (kind_only_k1 Φ n x1 x26 Q) [(.bool false)] H38) (
 false)) (
 JoinB (kind_only_k1 Φ n x1 x26 Q) [(.bool true)] H38) (
 false)) (
 JoinB (kind_only_k1 Φ n x1 x26 Q) [(.bool false)] H38) (
 false)
def kind_only_k3 (Φ : CallsB) (n : Nat) (x1 : AV) (x26 : AV) (j13 : List AV) (Q : PostB) : List AV → TH → Bool := fun j31 H32 =>
 Gd3B (sl j31 0) true (
 Gd3B (sl j13 0) false (
 DoB (afaddr 2 x1) fun x39 =>
 DoB (aload H32.ah 1 false x39) fun x40 =>
 DoB (aun .not x40) fun x42 =>
 Gd3B x42 true (
 DoB (afaddr 3 x1) fun x43 =>
 DoB (aload H32.ah 1 false x43) fun x44 =>
 DoB (alen false x44) fun x46 =>
 DoB (abin .eql x46 (.int .i64 0)) fun x47 =>
 JoinB (kind_only_k2 Φ n x1 x26 Q) [x47] H32) (
 JoinB (kind_only_k2 Φ n x1 x26 Q) [(.bool false)] H32) (
 false)) (
 JoinB (kind_only_k2 Φ n x1 x26 Q) [(.bool true)] H32) (
 false)) (
 JoinB (kind_only_k2 Φ n x1 x26 Q) [(.bool false)] H32) (
 false)
def kind_only_k4 (Φ : CallsB) (n : Nat) (x1 : AV) (x26 : AV) (j3 : List AV) (j13 : List AV) (Q : PostB) : List AV → TH → Bool := fun j29 H30 =>
 Gd3B (sl j29 0) true (
 Gd3B (sl j3 0) false (
 DoB (afaddr 1 x1) fun x33 =>
 DoB (aload H30.ah 1 false x33) fun x34 =>
 DoB (abin .eql x34 (.int .i64 0)) fun x36 =>
 JoinB (kind_only_k3 Φ n x1 x26 j13 Q) [x36] H30) (
 JoinB (kind_only_k3 Φ n x1 x26 j13 Q) [(.bool true)] H30) (
 false)) (
 JoinB (kind_only_k3 Φ n x1 x26 j13 Q) [(.bool false)] H30) (
 false)
def kind_only_k5 (Φ : CallsB) (n : Nat) (x1 : AV) (x26 : AV) (j3 : List AV) (j13 : List AV) (Q : PostB) : List AV → TH → Bool := fun j27 H28 =>
 Gd3B (sl j27 0) false (
 JoinB (kind_only_k4 Φ n x1 x26 j3 j13 Q) [x26] H28) (
 JoinB (kind_only_k4 Φ n x1 x26 j3 j13 Q) [(.bool true)] H28) (
 false)
def kind_only_k6 (Φ : CallsB) (n : Nat) (x1 : AV) (j3 : List AV) (Q : PostB) : List AV → TH → Bool := fun j13 H14 =>
 DoB (afaddr 0 x1) fun x23 =>
 DoB (aload H14.ah 1 false x23) fun x24 =>
 DoB (abin .eql x24 (.int .i64 5)) fun x26 =>
 Gd3B (sl j3 0) false (
 JoinB (kind_only_k5 Φ n x1 x26 j3 j13 Q) [(sl j13 0)] H14) (
 JoinB (kind_only_k5 Φ n x1 x26 j3 j13 Q) [(.bool true)] H14) (
 false)
def kind_only_k7 (Φ : CallsB) (n : Nat) (x1 : AV) (Q : PostB) : List AV → TH → Bool := fun j3 H4 =>
 DoB (afaddr 0 x1) fun x15 =>
 DoB (aload H4.ah 1 false x15) fun x16 =>
 DoB (abin .eql x16 (.int .i64 3)) fun x18 =>
 Gd3B x18 false (
 DoB (afaddr 0 x1) fun x19 =>
 DoB (aload H4.ah 1 false x19) fun x20 =>
 DoB (abin .eql x20 (.int .i64 4)) fun x22 =>
 JoinB (kind_only_k6 Φ n x1 j3 Q) [x22] H4) (
 JoinB (kind_only_k6 Φ n x1 j3 Q) [(.bool true)] H4) (
 false)
def kind_only (Φ : CallsB) (n : Nat) (a0 : AV) (H : TH) (Q : PostB) : Bool :=
 DoHB (tboxv H false 6 a0) fun x1 H2 =>
 DoB (afaddr 0 x1) fun x5 =>
 DoB (aload H2.ah 1 false x5) fun x6 =>
 DoB (abin .eql x6 (.int .i64 1)) fun x8 =>
 Gd3B x8 false (
 DoB (afaddr 0 x1) fun x9 =>
 DoB (aload H2.ah 1 false x9) fun x10 =>
 DoB (abin .eql x10 (.int .i64 2)) fun x12 =>
 JoinB (kind_only_k7 Φ n x1 Q) [x12] H2) (
 JoinB (kind_only_k7 Φ n x1 Q) [(.bool true)] H2) (
 false)
theorem eq_kind_only (Φ : CallsB) (n : Nat) (a0 : AV) (H : TH) (Q : PostB) : fnB1 Φ n S.ir_kind_only [a0] H Q = kind_only Φ n a0 H Q := by kernel_rfl

def kind_power_k1 (Φ : CallsB) (n : Nat) (a0 : AV) (Q : PostB) : List AV → TH → Bool := fun j1 H2 =>
 Gd3B (sl j1 0) true (
 DoB (abin .sub a0 (.int .i64 1)) fun x5 =>
 DoB (abin .and a0 x5) fun x6 =>
 DoB (abin .eql x6 (.int .i64 0)) fun x7 =>
 Q x7 H2) (
 Q (.bool false) H2) (
 false)
def kind_power (Φ : CallsB) (n : Nat) (a0 : AV) (a1 : AV) (H : TH) (Q : PostB) : Bool :=
 DoB (abin .geq a0 (.int .i64 1)) fun x3 =>
 Gd3B x3 true (
 DoB (abin .leq a0 a1) fun x4 =>
 JoinB (kind_power_k1 Φ n a0 Q) [x4] H) (
 JoinB (kind_power_k1 Φ n a0 Q) [(.bool false)] H) (
 false)
theorem eq_kind_power (Φ : CallsB) (n : Nat) (a0 a1 : AV) (H : TH) (Q : PostB) : fnB1 Φ n S.ir_kind_power [a0, a1] H Q = kind_power Φ n a0 a1 H Q := by kernel_rfl

def kind_group_l1 (Φ : CallsB) (n : Nat) (x1 : AV) (x20 : AV) (Q : PostB) : (List AV × TH) → ((List AV × TH) → Bool) → Bool := fun s21 L22 =>
 DoB (abin .lss (sl s21.1 0) x20) fun x23 =>
 GdB x23 true (
 DoB (aload s21.2.ah 6 true x1) fun x24 =>
Φ K.kind_field [x24, (sl s21.1 0)] s21.2 fun x26 H27 =>
 DoB (abin .neq x26 (.int .i64 0)) fun x28 =>
 GdB x28 true (
 Q x26 H27) (
 DoB (abin .add (sl s21.1 0) (.int .i64 1)) fun x29 =>
 L22 ([x29], H27))) (
 Q (.int .i64 0) s21.2)
def kind_group_k2 (Φ : CallsB) (n : Nat) (x1 : AV) (Q : PostB) : List AV → TH → Bool := fun j3 H4 =>
 DoB (afaddr 3 x1) fun x17 =>
 DoB (aload H4.ah 1 false x17) fun x18 =>
 DoB (alen false x18) fun x20 =>
 LoopB (kind_group_l1 Φ n x1 x20 Q) n ([(.int .i64 0)], H4)
def kind_group_k3 (Φ : CallsB) (n : Nat) (x1 : AV) (Q : PostB) : List AV → TH → Bool := fun j5 H6 =>
 GdB (sl j5 0) true (
 Q (.int .i64 12) H6) (
 JoinB (kind_group_k2 Φ n x1 Q) [] H6)
def kind_group (Φ : CallsB) (n : Nat) (a0 : AV) (H : TH) (Q : PostB) : Bool :=
 DoHB (tboxv H false 6 a0) fun x1 H2 =>
 DoB (afaddr 3 x1) fun x7 =>
 DoB (aload H2.ah 1 false x7) fun x8 =>
 DoB (alen false x8) fun x10 =>
 DoB (abin .lss x10 (.int .i64 1)) fun x11 =>
 Gd3B x11 false (
 DoB (afaddr 3 x1) fun x12 =>
 DoB (aload H2.ah 1 false x12) fun x13 =>
 DoB (alen false x13) fun x15 =>
 DoB (abin .gtr x15 (.int .i64 32)) fun x16 =>
 JoinB (kind_group_k3 Φ n x1 Q) [x16] H2) (
 JoinB (kind_group_k3 Φ n x1 Q) [(.bool true)] H2) (
 false)
theorem eq_kind_group (Φ : CallsB) (n : Nat) (a0 : AV) (H : TH) (Q : PostB) : fnB1 Φ n S.ir_kind_group [a0] H Q = kind_group Φ n a0 H Q := by kernel_rfl

def kind_letter (Φ : CallsB) (n : Nat) (a0 : AV) (H : TH) (Q : PostB) : Bool :=
 DoB (abin .geq a0 (.int .i32 97)) fun x1 =>
 Gd3B x1 true (
 DoB (abin .leq a0 (.int .i32 122)) fun x2 =>
 Q x2 H) (
 Q (.bool false) H) (
 false)
theorem eq_kind_letter (Φ : CallsB) (n : Nat) (a0 : AV) (H : TH) (Q : PostB) : fnB1 Φ n S.ir_kind_letter [a0] H Q = kind_letter Φ n a0 H Q := by kernel_rfl

def kind_field_k1 (Φ : CallsB) (n : Nat) (Q : PostB) : List AV → TH → Bool := fun j72 H73 =>
 GdB (sl j72 0) true (
 Q (.int .i64 9) H73) (
 Q (.int .i64 0) H73)
def kind_field_k2 (Φ : CallsB) (n : Nat) (x9 : AV) (Q : PostB) : List AV → TH → Bool := fun j49 H50 =>
 GdB (sl j49 0) true (
 Q (.int .i64 8) H50) (
 DoB (afaddr 7 x9) fun x74 =>
 DoB (aload H50.ah 1 false x74) fun x75 =>
 Gd3B x75 true (
 DoB (afaddr 8 x9) fun x77 =>
 DoB (aload H50.ah 1 false x77) fun x78 =>
 DoB (abin .lss x78 (.int .i64 0)) fun x80 =>
 Gd3B x80 false (
 DoB (afaddr 8 x9) fun x81 =>
 DoB (aload H50.ah 1 false x81) fun x82 =>
 DoB (afaddr 1 x9) fun x84 =>
 DoB (afaddr 1 x84) fun x85 =>
 DoB (aload H50.ah 1 false x85) fun x86 =>
 DoB (abin .mul (.int .i64 8) x86) fun x88 =>
 DoB (abin .gtr x82 x88) fun x89 =>
 Gd3B x89 false (
 DoB (afaddr 8 x9) fun x90 =>
 DoB (aload H50.ah 1 false x90) fun x91 =>
 DoB (abin .eql x91 (.int .i64 0)) fun x93 =>
 Gd3B x93 true (
 DoB (afaddr 0 x9) fun x94 =>
 DoB (aload H50.ah 1 false x94) fun x95 =>
 DoB (abin .neq x95 (.str [])) fun x97 =>
 JoinB (kind_field_k1 Φ n Q) [x97] H50) (
 JoinB (kind_field_k1 Φ n Q) [(.bool false)] H50) (
 false)) (
 JoinB (kind_field_k1 Φ n Q) [(.bool true)] H50) (
 false)) (
 JoinB (kind_field_k1 Φ n Q) [(.bool true)] H50) (
 false)) (
 JoinB (kind_field_k1 Φ n Q) [(.bool false)] H50) (
 false))
def kind_field_k3 (Φ : CallsB) (n : Nat) (x1 : AV) (x9 : AV) (Q : PostB) : List AV → TH → Bool := fun j51 H52 =>
 Gd3B (sl j51 0) false (
 DoB (afaddr 7 x9) fun x61 =>
 DoB (aload H52.ah 1 false x61) fun x62 =>
 Gd3B x62 true (
 DoB (afaddr 1 x9) fun x64 =>
 DoB (afaddr 0 x64) fun x65 =>
 DoB (aload H52.ah 1 false x65) fun x66 =>
 DoB (abin .neq x66 (.int .i64 1)) fun x68 =>
 Gd3B x68 false (
 DoB (afaddr 2 x1) fun x69 =>
 DoB (aload H52.ah 1 false x69) fun x70 =>
 JoinB (kind_field_k2 Φ n x9 Q) [x70] H52) (
 JoinB (kind_field_k2 Φ n x9 Q) [(.bool true)] H52) (
 false)) (
 JoinB (kind_field_k2 Φ n x9 Q) [(.bool false)] H52) (
 false)) (
 JoinB (kind_field_k2 Φ n x9 Q) [(.bool true)] H52) (
 false)
def kind_field_k4 (Φ : CallsB) (n : Nat) (x1 : AV) (x9 : AV) (Q : PostB) : List AV → TH → Bool := fun j13 H14 =>
 DoB (afaddr 1 x9) fun x43 =>
 DoB (aload H14.ah 6 true x43) fun x44 =>
Φ K.kind_sound [x44] H14 fun x46 H47 =>
 DoB (abin .neq x46 (.int .i64 0)) fun x48 =>
 GdB x48 true (
 Q x46 H47) (
 DoB (afaddr 7 x9) fun x53 =>
 DoB (aload H47.ah 1 false x53) fun x54 =>
 DoB (aun .not x54) fun x56 =>
 Gd3B x56 true (
 DoB (afaddr 8 x9) fun x57 =>
 DoB (aload H47.ah 1 false x57) fun x58 =>
 DoB (abin .neq x58 (.int .i64 0)) fun x60 =>
 JoinB (kind_field_k3 Φ n x1 x9 Q) [x60] H47) (
 JoinB (kind_field_k3 Φ n x1 x9 Q) [(.bool false)] H47) (
 false))
def kind_field_k5 (Φ : CallsB) (n : Nat) (x1 : AV) (x9 : AV) (Q : PostB) : List AV → TH → Bool := fun j31 H32 =>
 GdB (sl j31 0) true (
 Q (.int .i64 7) H32) (
 JoinB (kind_field_k4 Φ n x1 x9 Q) [] H32)
def kind_field_k6 (Φ : CallsB) (n : Nat) (a1 : AV) (x1 : AV) (x9 : AV) (Q : PostB) : List AV → TH → Bool := fun j15 H16 =>
 GdB (sl j15 0) true (
 Q (.int .i64 6) H16) (
 DoB (afaddr 0 x9) fun x33 =>
 DoB (aload H16.ah 1 false x33) fun x34 =>
 DoB (abin .neq x34 (.str [])) fun x36 =>
 Gd3B x36 true (
 DoB (afaddr 3 x1) fun x37 =>
 DoB (aload H16.ah 1 false x37) fun x38 =>
 DoB (aslice 9 x38 none (some a1) none) fun x40 =>
Φ K.slices_ContainsFunc___api_Field_api_Field_ [x40, (.fn K.kind_field_c1 [x9])] H16 fun x41 H42 =>
 JoinB (kind_field_k5 Φ n x1 x9 Q) [x41] H42) (
 JoinB (kind_field_k5 Φ n x1 x9 Q) [(.bool false)] H16) (
 false))
def kind_field (Φ : CallsB) (n : Nat) (a0 : AV) (a1 : AV) (H : TH) (Q : PostB) : Bool :=
 DoHB (tboxv H false 6 a0) fun x1 H2 =>
 DoB (afaddr 3 x1) fun x3 =>
 DoB (aload H2.ah 1 false x3) fun x4 =>
 DoB (aiaddr none 9 x4 a1) fun x6 =>
 DoB (aload H2.ah 9 true x6) fun x7 =>
 DoHB (some (tbox H2 true [.str [], .int .i64 0, .int .i64 0, .bool false, .lst .nil 0 [], .int .i64 0, .lst .nil 0 [], .bool false, .int .i64 0])) fun x9 H10 =>
 DoB (tstore H10 9 x9 x7) fun H12 =>
 DoB (afaddr 0 x9) fun x17 =>
 DoB (aload H12.ah 1 false x17) fun x18 =>
Φ K.kind_Name [x18] H12 fun x20 H21 =>
 DoB (aun .not x20) fun x22 =>
 Gd3B x22 true (
 DoB (afaddr 0 x9) fun x23 =>
 DoB (aload H21.ah 1 false x23) fun x24 =>
 DoB (abin .neq x24 (.str [])) fun x26 =>
 Gd3B x26 false (
 DoB (afaddr 7 x9) fun x27 =>
 DoB (aload H21.ah 1 false x27) fun x28 =>
 DoB (aun .not x28) fun x30 =>
 JoinB (kind_field_k6 Φ n a1 x1 x9 Q) [x30] H21) (
 JoinB (kind_field_k6 Φ n a1 x1 x9 Q) [(.bool true)] H21) (
 false)) (
 JoinB (kind_field_k6 Φ n a1 x1 x9 Q) [(.bool false)] H21) (
 false)
theorem eq_kind_field (Φ : CallsB) (n : Nat) (a0 a1 : AV) (H : TH) (Q : PostB) : fnB1 Φ n S.ir_kind_field [a0, a1] H Q = kind_field Φ n a0 a1 H Q := by kernel_rfl

def kind_field_c1 (Φ : CallsB) (n : Nat) (a0 : AV) (a1 : AV) (H : TH) (Q : PostB) : Bool :=
 DoHB (tboxv H false 9 a0) fun x1 H2 =>
 DoB (afaddr 0 x1) fun x3 =>
 DoB (aload H2.ah 1 false x3) fun x4 =>
 DoB (afaddr 0 a1) fun x6 =>
 DoB (aload H2.ah 1 false x6) fun x7 =>
 DoB (abin .eql x4 x7) fun x9 =>
 Q x9 H2
theorem eq_kind_field_c1 (Φ : CallsB) (n : Nat) (a0 a1 : AV) (H : TH) (Q : PostB) : fnB1 Φ n S.ir_kind_field_c1 [a0, a1] H Q = kind_field_c1 Φ n a0 a1 H Q := by kernel_rfl

end Rb.R
