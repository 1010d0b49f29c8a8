/- A part of the proof (part 5): see the last text. -/
import Derived.Test.YtifjgnmgchcfaaaGreatDoorRb2
import Derived.KernelRfl
/- Package lower: its functions in the small language, and what they mean. By gen.py. -/
set_option linter.unusedVariables false
namespace Rb.S
open Go

/-! rabbet/lower.Thread -/
def lower_Thread_k1 (Φ : Calls') (a1 : AV) (x1 : AV) (x3 : AV) (Q : Post) : List AV → AH → Prop := fun j17 H18 =>
 Do (afaddr 0 x1) fun x29 =>
 Do (aload H18 1 false x29) fun x30 =>
Φ K.world_Map [x30] H18 fun x31 H32 =>
 Do (aextract 0 x31) fun x33 =>
 Do (aextract 1 x31) fun x34 =>
 Do (aextract 2 x31) fun x35 =>
 Do (afaddr 0 x1) fun x36 =>
 Do (aload H32 1 false x36) fun x37 =>
 Do (abuild [.lst .nil 0 [], .lst .nil 0 [], .lst .nil 0 [], .int .i64 0, .int .i64 0, .lst .nil 0 [], .int .i64 0, .lst .nil 0 []] [(0, 1, x37), (1, 1, x33)]) fun x38 =>
 DoH (aboxv H32 true 8 x38) fun x39 H40 =>
 Do (afaddr 1 x1) fun x41 =>
 Do (aload H40 1 false x41) fun x42 =>
 Do (aiaddr none 1 x42 a1) fun x43 =>
 Do (aload H40 1 false x43) fun x44 =>
Φ K.lower_maker_block [x39, x44] H40 fun x45 H46 =>
 Do (anilck x39) fun x47 =>
 Do (afaddr 2 x47) fun x48 =>
 Do (aload H46 1 false x48) fun x49 =>
 Do (alen false x49) fun x50 =>
 Do (abin .gtr x50 (.int .i64 16384)) fun x51 =>
 Gd x51 true (
 Do (abuild [.int .i64 0, .int .i64 0] [(1, 1, (.int .i64 12))]) fun x52 =>
 Do (astore H46 2 x3 x52) fun H53 =>
 Do (aload H53 2 true x3) fun x54 =>
 Q (.tup [(.lst .nil 0 []), (.int .i64 0), x54]) H53) (
 Do (anilck x39) fun x55 =>
 Do (afaddr 2 x55) fun x56 =>
 Do (aload H46 1 false x56) fun x57 =>
 Do (anilck x39) fun x58 =>
 Do (afaddr 3 x58) fun x59 =>
 Do (aload H46 1 false x59) fun x60 =>
 Do (abuild [.int .i64 0, .int .i64 0] []) fun x61 =>
 Do (astore H46 2 x3 x61) fun H62 =>
 Do (aload H62 2 true x3) fun x63 =>
 Q (.tup [x57, x60, x63]) H62)
def lower_Thread_k2 (Φ : Calls') (a1 : AV) (x1 : AV) (x3 : AV) (Q : Post) : List AV → AH → Prop := fun j19 H20 =>
 Gd (sl j19 0) true (
 Do (abuild [.int .i64 0, .int .i64 0] [(1, 1, (.int .i64 1))]) fun x26 =>
 Do (astore H20 2 x3 x26) fun H27 =>
 Do (aload H27 2 true x3) fun x28 =>
 Q (.tup [(.lst .nil 0 []), (.int .i64 0), x28]) H27) (
 JoinP (lower_Thread_k1 Φ a1 x1 x3 Q) [] H20)
def lower_Thread (Φ : Calls') (a0 : AV) (a1 : AV) (H : AH) (Q : Post) : Prop :=
 DoH (aboxv H false 2 a0) fun x1 H2 =>
 DoH (some (abox H2 true [.int .i64 0, .int .i64 0])) fun x3 H4 =>
 Do (aload H4 2 true x1) fun x5 =>
Φ K.check_Prog [x5] H4 fun x6 H7 =>
 DoH (some (abox H7 true [.int .i64 0, .int .i64 0])) fun x8 H9 =>
 Do (astore H9 2 x8 x6) fun H10 =>
 Do (afaddr 1 x8) fun x11 =>
 Do (aload H10 1 false x11) fun x12 =>
 Do (abin .neq x12 (.int .i64 0)) fun x13 =>
 Gd x13 true (
 Do (aload H10 2 true x8) fun x14 =>
 Do (astore H10 2 x3 x14) fun H15 =>
 Do (aload H15 2 true x3) fun x16 =>
 Q (.tup [(.lst .nil 0 []), (.int .i64 0), x16]) H15) (
 Do (abin .lss a1 (.int .i64 0)) fun x21 =>
 Gd3 x21 false (
 Do (afaddr 1 x1) fun x22 =>
 Do (aload H10 1 false x22) fun x23 =>
 Do (alen false x23) fun x24 =>
 Do (abin .geq a1 x24) fun x25 =>
 JoinP (lower_Thread_k2 Φ a1 x1 x3 Q) [x25] H10) (
 JoinP (lower_Thread_k2 Φ a1 x1 x3 Q) [(.bool true)] H10) (
 False))
def ir_lower_Thread : AFunc := ⟨63, [.tmp 4, .tmp 5, .cell 6 2 true],
 .seq (.region [
   ⟨some 2, .box false 2 (.t 0), none⟩,
   ⟨some 4, .mv (.k (.lst .nil 0 [])), none⟩,
   ⟨some 5, .mv (.k (.int .i64 0)), none⟩,
   ⟨some 6, .alloc true [.int .i64 0, .int .i64 0], none⟩])
 (.seq (.seq (.region [
   ⟨some 12, .load 2 true (.t 2), none⟩,
   ⟨some 13, .call K.check_Prog [(.t 12)], none⟩,
   ⟨some 7, .alloc true [.int .i64 0, .int .i64 0], none⟩,
   ⟨none, .store 2 (.t 7) (.t 13), none⟩])
 (.seq (.region [
   ⟨some 14, .faddr 1 (.t 7), none⟩,
   ⟨some 15, .load 1 false (.t 14), none⟩,
   ⟨some 16, .bin .neq (.t 15) (.k (.int .i64 0)), none⟩])
 (.cond (.t 16) (.seq (.draw [
     ⟨some 17, .load 2 true (.t 7), none⟩,
     ⟨some 4, .mv (.k (.lst .nil 0 [])), none⟩,
     ⟨some 5, .mv (.k (.int .i64 0)), none⟩,
     ⟨none, .store 2 (.t 6) (.t 17), none⟩]
   [[], [], [1], [0, 1, 2]] [([0, 1, 2], 3, [])] [])
   (.ret))
   (.skip))))
 (.join [] [4, 5, 18, 19, 20, 21, 22, 23, 24, 25, 26, 27] (.join [26] [18, 19, 20, 21, 22, 23, 24, 25] (.region [
   ⟨some 18, .mv (.t 1), none⟩,
   ⟨some 19, .bin .lss (.t 18) (.k (.int .i64 0)), none⟩,
   ⟨some 20, .mv (.t 19), none⟩,
   ⟨some 21, .mv (.t 1), some (20, false)⟩,
   ⟨some 22, .faddr 1 (.t 2), some (20, false)⟩,
   ⟨some 23, .load 1 false (.t 22), some (20, false)⟩,
   ⟨some 24, .len false (.t 23), some (20, false)⟩,
   ⟨some 25, .bin .geq (.t 21) (.t 24), some (20, false)⟩,
   ⟨some 26, .pick (.t 20) (.k (.bool true)) (.t 25), none⟩])
 (.cond (.t 26) (.seq (.region [
     ⟨some 27, .build [.int .i64 0, .int .i64 0] [(1, 1, (.k (.int .i64 1)))], none⟩,
     ⟨some 4, .mv (.k (.lst .nil 0 [])), none⟩,
     ⟨some 5, .mv (.k (.int .i64 0)), none⟩,
     ⟨none, .store 2 (.t 6) (.t 27), none⟩])
   (.ret))
   (.skip)))
 (.seq (.region [
   ⟨some 29, .faddr 0 (.t 2), none⟩,
   ⟨some 30, .load 1 false (.t 29), none⟩,
   ⟨some 31, .call K.world_Map [(.t 30)], none⟩,
   ⟨some 28, .mv (.t 31), none⟩,
   ⟨some 32, .extract 0 (.t 28), none⟩,
   ⟨some 33, .extract 1 (.t 28), none⟩,
   ⟨some 34, .extract 2 (.t 28), none⟩,
   ⟨some 8, .mv (.t 32), none⟩,
   ⟨some 9, .mv (.t 33), none⟩,
   ⟨some 10, .mv (.t 34), none⟩])
 (.seq (.region [
   ⟨some 35, .faddr 0 (.t 2), none⟩,
   ⟨some 36, .load 1 false (.t 35), none⟩,
   ⟨some 37, .mv (.t 8), none⟩,
   ⟨some 38, .build [.lst .nil 0 [], .lst .nil 0 [], .lst .nil 0 [], .int .i64 0, .int .i64 0, .lst .nil 0 [], .int .i64 0, .lst .nil 0 []] [(0, 1, (.t 36)), (1, 1, (.t 37))], none⟩,
   ⟨some 39, .box true 8 (.t 38), none⟩,
   ⟨some 11, .mv (.t 39), none⟩])
 (.seq (.region [
   ⟨some 40, .mv (.t 11), none⟩,
   ⟨some 41, .faddr 1 (.t 2), none⟩,
   ⟨some 42, .load 1 false (.t 41), none⟩,
   ⟨some 43, .mv (.t 1), none⟩,
   ⟨some 44, .iaddr none 1 (.t 42) (.t 43), none⟩,
   ⟨some 45, .load 1 false (.t 44), none⟩,
   ⟨some 46, .call K.lower_maker_block [(.t 40), (.t 45)], none⟩])
 (.seq (.seq (.region [
   ⟨some 47, .mv (.t 11), none⟩,
   ⟨some 48, .nilck (.t 47), none⟩,
   ⟨some 49, .faddr 2 (.t 48), none⟩,
   ⟨some 50, .load 1 false (.t 49), none⟩,
   ⟨some 51, .len false (.t 50), none⟩,
   ⟨some 52, .bin .gtr (.t 51) (.k (.int .i64 16384)), none⟩])
 (.cond (.t 52) (.seq (.region [
     ⟨some 53, .build [.int .i64 0, .int .i64 0] [(1, 1, (.k (.int .i64 12)))], none⟩,
     ⟨some 4, .mv (.k (.lst .nil 0 [])), none⟩,
     ⟨some 5, .mv (.k (.int .i64 0)), none⟩,
     ⟨none, .store 2 (.t 6) (.t 53), none⟩])
   (.ret))
   (.skip)))
 (.seq (.draw [
   ⟨some 54, .mv (.t 11), none⟩,
   ⟨some 55, .nilck (.t 54), none⟩,
   ⟨some 56, .faddr 2 (.t 55), none⟩,
   ⟨some 57, .load 1 false (.t 56), none⟩,
   ⟨some 58, .mv (.t 11), none⟩,
   ⟨some 59, .nilck (.t 58), none⟩,
   ⟨some 60, .faddr 3 (.t 59), none⟩,
   ⟨some 61, .load 1 false (.t 60), none⟩,
   ⟨some 62, .build [.int .i64 0, .int .i64 0] [], none⟩,
   ⟨some 4, .mv (.t 57), none⟩,
   ⟨some 5, .mv (.t 61), none⟩,
   ⟨none, .store 2 (.t 6) (.t 62), none⟩]
 [[], [0], [0, 1], [0, 1, 2], [], [4], [4, 5], [4, 5, 6], [], [0, 1, 2, 3], [0, 1, 2, 3, 4, 5, 6, 7, 9], [0, 1, 2, 3, 4, 5, 6, 7, 8, 9, 10]] [([0, 1, 2, 3, 4, 5, 6, 7, 8, 9, 10], 11, [])] [])
 (.ret))))))))⟩
theorem eq_lower_Thread (Φ : Calls') (a0 a1 : AV) (H : AH) (Q : Post) : fnE1 Φ ir_lower_Thread [a0, a1] H Q = lower_Thread Φ a0 a1 H Q := by kernel_rfl

/-! (rabbet/lower.maker).block -/
def lower_maker_block_k1 (Φ : Calls') (a0 : AV) (x4 : AV) (Q : Post) : List AV → AH → Prop := fun j5 H6 =>
 Do (anilck a0) fun x25 =>
 Do (afaddr 7 x25) fun x26 =>
 Do (aload H6 1 false x26) fun x27 =>
 Do (aslice 2 x27 none (some x4) none) fun x28 =>
 Do (anilck a0) fun x29 =>
 Do (afaddr 7 x29) fun x30 =>
 Do (astore H6 1 x30 x28) fun H31 =>
 Q (.tup []) H31
def lower_maker_block_l2 (Φ : Calls') (a0 : AV) (a1 : AV) (x4 : AV) (x7 : AV) (Q : Post) : (List AV × AH) → ((List AV × AH) → Prop) → Prop := fun s8 L9 =>
 Do (abin .lss (sl s8.1 0) x7) fun x10 =>
 Gd x10 true (
 Do (aiaddr none 10 a1 (sl s8.1 0)) fun x11 =>
 Do (aload s8.2 10 true x11) fun x12 =>
 DoH (some (abox s8.2 true [.int .i64 0, .int .i64 0, .str [], .str [], .int .i64 0, .str [], .lst .nil 0 [], .lst .nil 0 [], .lst .nil 0 [], .lst .nil 0 []])) fun x13 H14 =>
 Do (astore H14 10 x13 x12) fun H15 =>
 Do (afaddr 1 x13) fun x16 =>
 Do (aload H15 1 false x16) fun x17 =>
 Do (anilck a0) fun x18 =>
 Do (afaddr 6 x18) fun x19 =>
 Do (astore H15 1 x19 x17) fun H20 =>
 Do (aload H20 10 true x13) fun x21 =>
Φ K.lower_maker_stmt [a0, x21] H20 fun x22 H23 =>
 Do (abin .add (sl s8.1 0) (.int .i64 1)) fun x24 =>
 L9 ([x24], H23)) (
 JoinP (lower_maker_block_k1 Φ a0 x4 Q) [] s8.2)
def lower_maker_block (Φ : Calls') (a0 : AV) (a1 : AV) (H : AH) (Q : Post) : Prop :=
 Do (anilck a0) fun x1 =>
 Do (afaddr 7 x1) fun x2 =>
 Do (aload H 1 false x2) fun x3 =>
 Do (alen false x3) fun x4 =>
 Do (alen false a1) fun x7 =>
 LoopP (lower_maker_block_l2 Φ a0 a1 x4 x7 Q) ([(.int .i64 0)], H)
def ir_lower_maker_block : AFunc := ⟨36, [],
 .seq (.region [
   ⟨some 7, .mv (.t 0), none⟩,
   ⟨some 8, .nilck (.t 7), none⟩,
   ⟨some 9, .faddr 7 (.t 8), none⟩,
   ⟨some 10, .load 1 false (.t 9), none⟩,
   ⟨some 11, .len false (.t 10), none⟩,
   ⟨some 4, .mv (.t 11), none⟩])
 (.join [] [6, 12, 13, 14, 15, 16, 17, 18, 19, 20, 21, 22, 23, 24, 25, 26] (.seq (.region [
   ⟨some 12, .mv (.t 1), none⟩,
   ⟨some 13, .len false (.t 12), none⟩,
   ⟨some 14, .mv (.k (.int .i64 0)), none⟩])
 (.block 0 (.loop [14] [6, 15, 16, 17, 18, 19, 20, 21, 22, 23, 24, 25, 26] (.seq (.region [
   ⟨some 15, .bin .lss (.t 14) (.t 13), none⟩])
 (.seq (.cond (.t 15) (.skip)
   (.exit 0))
 (.seq (.block 1 (.seq (.region [
   ⟨some 16, .iaddr none 10 (.t 12) (.t 14), none⟩,
   ⟨some 17, .load 10 true (.t 16), none⟩,
   ⟨some 6, .alloc true [.int .i64 0, .int .i64 0, .str [], .str [], .int .i64 0, .str [], .lst .nil 0 [], .lst .nil 0 [], .lst .nil 0 [], .lst .nil 0 []], none⟩,
   ⟨none, .store 10 (.t 6) (.t 17), none⟩])
 (.seq (.region [
   ⟨some 18, .mv (.t 0), none⟩,
   ⟨some 19, .faddr 1 (.t 6), none⟩,
   ⟨some 20, .load 1 false (.t 19), none⟩,
   ⟨some 21, .nilck (.t 18), none⟩,
   ⟨some 22, .faddr 6 (.t 21), none⟩,
   ⟨none, .store 1 (.t 22) (.t 20), none⟩])
 (.region [
   ⟨some 23, .mv (.t 0), none⟩,
   ⟨some 24, .load 10 true (.t 6), none⟩,
   ⟨some 25, .call K.lower_maker_stmt [(.t 23), (.t 24)], none⟩]))))
 (.region [
   ⟨some 26, .bin .add (.t 14) (.k (.int .i64 1)), none⟩,
   ⟨some 14, .mv (.t 26), none⟩])))))))
 (.region [
   ⟨some 27, .mv (.t 0), none⟩,
   ⟨some 28, .mv (.t 0), none⟩,
   ⟨some 29, .nilck (.t 28), none⟩,
   ⟨some 30, .faddr 7 (.t 29), none⟩,
   ⟨some 31, .load 1 false (.t 30), none⟩,
   ⟨some 32, .mv (.t 4), none⟩,
   ⟨some 33, .slice 2 (.t 31) none (some (.t 32)) none, none⟩,
   ⟨some 34, .nilck (.t 27), none⟩,
   ⟨some 35, .faddr 7 (.t 34), none⟩,
   ⟨none, .store 1 (.t 35) (.t 33), none⟩]))⟩
theorem eq_lower_maker_block (Φ : Calls') (a0 a1 : AV) (H : AH) (Q : Post) : fnE1 Φ ir_lower_maker_block [a0, a1] H Q = lower_maker_block Φ a0 a1 H Q := by kernel_rfl

/-! rabbet/lower.Accesses -/
def lower_Accesses_k1 (Φ : Calls') (a1 : AV) (x1 : AV) (Q : Post) : List AV → AH → Prop := fun j3 H4 =>
 Do (afaddr 0 x1) fun x23 =>
 Do (aload H4 1 false x23) fun x24 =>
Φ K.world_Map [x24] H4 fun x25 H26 =>
 Do (aextract 0 x25) fun x27 =>
 Do (aextract 1 x25) fun x28 =>
 Do (aextract 2 x25) fun x29 =>
 Do (afaddr 0 x1) fun x30 =>
 Do (aload H26 1 false x30) fun x31 =>
 Do (abuild [.lst .nil 0 [], .lst .nil 0 [], .lst .nil 0 [], .int .i64 0, .int .i64 0, .lst .nil 0 [], .int .i64 0, .lst .nil 0 []] [(0, 1, x31), (1, 1, x27)]) fun x32 =>
 DoH (aboxv H26 true 8 x32) fun x33 H34 =>
 Do (afaddr 1 x1) fun x35 =>
 Do (aload H34 1 false x35) fun x36 =>
 Do (aiaddr none 1 x36 a1) fun x37 =>
 Do (aload H34 1 false x37) fun x38 =>
Φ K.lower_maker_block [x33, x38] H34 fun x39 H40 =>
 Do (anilck x33) fun x41 =>
 Do (afaddr 5 x41) fun x42 =>
 Do (aload H40 1 false x42) fun x43 =>
 Q x43 H40
def lower_Accesses_k2 (Φ : Calls') (a1 : AV) (x1 : AV) (Q : Post) : List AV → AH → Prop := fun j11 H12 =>
 Gd (sl j11 0) true (
 Q (.lst .nil 0 []) H12) (
 JoinP (lower_Accesses_k1 Φ a1 x1 Q) [] H12)
def lower_Accesses_k3 (Φ : Calls') (a1 : AV) (x1 : AV) (Q : Post) : List AV → AH → Prop := fun j13 H14 =>
 Gd3 (sl j13 0) false (
 Do (afaddr 1 x1) fun x19 =>
 Do (aload H14 1 false x19) fun x20 =>
 Do (alen false x20) fun x21 =>
 Do (abin .geq a1 x21) fun x22 =>
 JoinP (lower_Accesses_k2 Φ a1 x1 Q) [x22] H14) (
 JoinP (lower_Accesses_k2 Φ a1 x1 Q) [(.bool true)] H14) (
 False)
def lower_Accesses (Φ : Calls') (a0 : AV) (a1 : AV) (H : AH) (Q : Post) : Prop :=
 DoH (aboxv H false 2 a0) fun x1 H2 =>
 Do (aload H2 2 true x1) fun x5 =>
Φ K.check_Prog [x5] H2 fun x6 H7 =>
 DoH (some (abox H7 true [.int .i64 0, .int .i64 0])) fun x8 H9 =>
 Do (astore H9 2 x8 x6) fun H10 =>
 Do (afaddr 1 x8) fun x15 =>
 Do (aload H10 1 false x15) fun x16 =>
 Do (abin .neq x16 (.int .i64 0)) fun x17 =>
 Gd3 x17 false (
 Do (abin .lss a1 (.int .i64 0)) fun x18 =>
 JoinP (lower_Accesses_k3 Φ a1 x1 Q) [x18] H10) (
 JoinP (lower_Accesses_k3 Φ a1 x1 Q) [(.bool true)] H10) (
 False)
def ir_lower_Accesses : AFunc := ⟨49, [.tmp 4],
 .seq (.region [
   ⟨some 2, .box false 2 (.t 0), none⟩,
   ⟨some 4, .mv (.k (.lst .nil 0 [])), none⟩])
 (.join [] [4, 5, 10, 11, 12, 13, 14, 15, 16, 17, 18, 19, 20, 21, 22, 23, 24, 25] (.seq (.region [
   ⟨some 10, .load 2 true (.t 2), none⟩,
   ⟨some 11, .call K.check_Prog [(.t 10)], none⟩,
   ⟨some 5, .alloc true [.int .i64 0, .int .i64 0], none⟩,
   ⟨none, .store 2 (.t 5) (.t 11), none⟩])
 (.join [25] [12, 13, 14, 15, 16, 17, 18, 19, 20, 21, 22, 23, 24] (.rjoin [18] [12, 13, 14, 15, 16, 17] [
   ⟨some 12, .faddr 1 (.t 5), none⟩,
   ⟨some 13, .load 1 false (.t 12), none⟩,
   ⟨some 14, .bin .neq (.t 13) (.k (.int .i64 0)), none⟩,
   ⟨some 15, .mv (.t 14), none⟩,
   ⟨some 16, .mv (.t 1), some (15, false)⟩,
   ⟨some 17, .bin .lss (.t 16) (.k (.int .i64 0)), some (15, false)⟩,
   ⟨some 18, .pick (.t 15) (.k (.bool true)) (.t 17), none⟩]
 (.region [
   ⟨some 19, .mv (.t 18), none⟩,
   ⟨some 20, .mv (.t 1), some (19, false)⟩,
   ⟨some 21, .faddr 1 (.t 2), some (19, false)⟩,
   ⟨some 22, .load 1 false (.t 21), some (19, false)⟩,
   ⟨some 23, .len false (.t 22), some (19, false)⟩,
   ⟨some 24, .bin .geq (.t 20) (.t 23), some (19, false)⟩,
   ⟨some 25, .pick (.t 19) (.k (.bool true)) (.t 24), none⟩]))
 (.cond (.t 25) (.seq (.region [
     ⟨some 4, .mv (.k (.lst .nil 0 [])), none⟩])
   (.ret))
   (.skip))))
 (.seq (.region [
   ⟨some 27, .faddr 0 (.t 2), none⟩,
   ⟨some 28, .load 1 false (.t 27), none⟩,
   ⟨some 29, .call K.world_Map [(.t 28)], none⟩,
   ⟨some 26, .mv (.t 29), none⟩,
   ⟨some 30, .extract 0 (.t 26), none⟩,
   ⟨some 31, .extract 1 (.t 26), none⟩,
   ⟨some 32, .extract 2 (.t 26), none⟩,
   ⟨some 6, .mv (.t 30), none⟩,
   ⟨some 7, .mv (.t 31), none⟩,
   ⟨some 8, .mv (.t 32), none⟩])
 (.seq (.region [
   ⟨some 33, .faddr 0 (.t 2), none⟩,
   ⟨some 34, .load 1 false (.t 33), none⟩,
   ⟨some 35, .mv (.t 6), none⟩,
   ⟨some 36, .build [.lst .nil 0 [], .lst .nil 0 [], .lst .nil 0 [], .int .i64 0, .int .i64 0, .lst .nil 0 [], .int .i64 0, .lst .nil 0 []] [(0, 1, (.t 34)), (1, 1, (.t 35))], none⟩,
   ⟨some 37, .box true 8 (.t 36), none⟩,
   ⟨some 9, .mv (.t 37), none⟩])
 (.seq (.region [
   ⟨some 38, .mv (.t 9), none⟩,
   ⟨some 39, .faddr 1 (.t 2), none⟩,
   ⟨some 40, .load 1 false (.t 39), none⟩,
   ⟨some 41, .mv (.t 1), none⟩,
   ⟨some 42, .iaddr none 1 (.t 40) (.t 41), none⟩,
   ⟨some 43, .load 1 false (.t 42), none⟩,
   ⟨some 44, .call K.lower_maker_block [(.t 38), (.t 43)], none⟩])
 (.seq (.region [
   ⟨some 45, .mv (.t 9), none⟩,
   ⟨some 46, .nilck (.t 45), none⟩,
   ⟨some 47, .faddr 5 (.t 46), none⟩,
   ⟨some 48, .load 1 false (.t 47), none⟩,
   ⟨some 4, .mv (.t 48), none⟩])
 (.ret))))))⟩
theorem eq_lower_Accesses (Φ : Calls') (a0 a1 : AV) (H : AH) (Q : Post) : fnE1 Φ ir_lower_Accesses [a0, a1] H Q = lower_Accesses Φ a0 a1 H Q := by kernel_rfl

/-! (rabbet/lower.maker).stmt -/
def lower_maker_stmt_k1 (Φ : Calls') (a0 : AV) (x1 : AV) (x4 : AV) (Q : Post) : List AV → AH → Prop := fun j51 H52 =>
 Gd (sl j51 0) true (
 Do (aload H52 10 true x1) fun x54 =>
Φ K.lower_maker_stored [a0, x54] H52 fun x55 H56 =>
 Q (.tup []) H56) (
 Do (abin .eql x4 (.int .i64 5)) fun x57 =>
 Gd x57 true (
 Do (aload H52 10 true x1) fun x58 =>
Φ K.lower_maker_loaded [a0, x58] H52 fun x59 H60 =>
 Q (.tup []) H60) (
 Do (abin .eql x4 (.int .i64 7)) fun x61 =>
 Gd x61 true (
Φ K.lower_step [(.int .i64 13)] H52 fun x62 H63 =>
 DoH (some (abox H63 true [.int .i64 0, .int .i64 0, .int .i64 0, .int .i64 0, .int .i64 0, .int .i64 0, .int .u64 0, .int .i64 0, .int .i64 0, .int .i64 0, .int .i64 0, .int .i64 0, .int .i64 0])) fun x64 H65 =>
 Do (astore H65 13 x64 x62) fun H66 =>
 Do (afaddr 4 x1) fun x67 =>
 Do (aload H66 1 false x67) fun x68 =>
 Do (afaddr 0 x1) fun x69 =>
 Do (aload H66 1 false x69) fun x70 =>
 Do (afaddr 4 x1) fun x71 =>
 Do (aload H66 1 false x71) fun x72 =>
 Do (abuild [.str [], .lst .nil 0 []] []) fun x73 =>
 Do (afaddr 9 x64) fun x74 =>
Φ K.lower_maker_site [a0, x70, x72, x73] H66 fun x75 H76 =>
(aload H76 1 false x67 = some x68) ∧
(Do (astore H76 1 x74 x68) fun H77 =>
 Do (afaddr 11 x64) fun x78 =>
 Do (astore H77 1 x78 x75) fun H79 =>
 Do (aload H79 13 true x64) fun x80 =>
Φ K.lower_maker_add [a0, x80] H79 fun x81 H82 =>
 Q (.tup []) H82)) (
 Do (abin .eql x4 (.int .i64 8)) fun x83 =>
 Gd x83 true (
 Do (aload H52 10 true x1) fun x84 =>
Φ K.lower_maker_choose [a0, x84] H52 fun x85 H86 =>
 Q (.tup []) H86) (
 Do (abin .eql x4 (.int .i64 9)) fun x87 =>
 Gd x87 true (
 Do (aload H52 10 true x1) fun x88 =>
Φ K.lower_maker_loop [a0, x88] H52 fun x89 H90 =>
 Q (.tup []) H90) (
 Do (abin .eql x4 (.int .i64 10)) fun x91 =>
 Gd x91 true (
Φ K.lower_step [(.int .i64 18)] H52 fun x92 H93 =>
 DoH (some (abox H93 true [.int .i64 0, .int .i64 0, .int .i64 0, .int .i64 0, .int .i64 0, .int .i64 0, .int .u64 0, .int .i64 0, .int .i64 0, .int .i64 0, .int .i64 0, .int .i64 0, .int .i64 0])) fun x94 H95 =>
 Do (astore H95 13 x94 x92) fun H96 =>
 Do (afaddr 7 x1) fun x97 =>
 Do (aload H96 1 false x97) fun x98 =>
 Do (aiaddr none 8 x98 (.int .i64 0)) fun x99 =>
 Do (aload H96 8 true x99) fun x100 =>
Φ K.lower_maker_expr [a0, x100] H96 fun x101 H102 =>
 Do (afaddr 3 x94) fun x103 =>
 Do (astore H102 1 x103 x101) fun H104 =>
 Do (aload H104 13 true x94) fun x105 =>
Φ K.lower_maker_add [a0, x105] H104 fun x106 H107 =>
 Q (.tup []) H107) (
 Q (.tup []) H52))))))
def lower_maker_stmt (Φ : Calls') (a0 : AV) (a1 : AV) (H : AH) (Q : Post) : Prop :=
 DoH (aboxv H false 10 a1) fun x1 H2 =>
 Do (afaddr 0 x1) fun x3 =>
 Do (aload H2 1 false x3) fun x4 =>
 Do (abin .eql x4 (.int .i64 1)) fun x5 =>
 Gd x5 true (
 Do (afaddr 7 x1) fun x6 =>
 Do (aload H2 1 false x6) fun x7 =>
 Do (aiaddr none 8 x7 (.int .i64 0)) fun x8 =>
 Do (aload H2 8 true x8) fun x9 =>
Φ K.lower_maker_expr [a0, x9] H2 fun x10 H11 =>
Φ K.lower_maker_fresh [a0] H11 fun x12 H13 =>
Φ K.lower_maker_set [a0, x12, x10] H13 fun x14 H15 =>
 Do (anilck a0) fun x16 =>
 Do (afaddr 7 x16) fun x17 =>
 Do (aload H15 1 false x17) fun x18 =>
 Do (afaddr 2 x1) fun x19 =>
 Do (aload H15 1 false x19) fun x20 =>
 Do (abuild [.str [], .int .i64 0] [(0, 1, x20), (1, 1, x12)]) fun x21 =>
 DoH (abslice H15 false 2 1 [.str [], .int .i64 0] [(0, 2, x21)]) fun x22 H23 =>
 DoH (aappend H23 false 2 24 x18 x22) fun x24 H25 =>
 Do (anilck a0) fun x26 =>
 Do (afaddr 7 x26) fun x27 =>
 Do (astore H25 1 x27 x24) fun H28 =>
 Q (.tup []) H28) (
 Do (abin .eql x4 (.int .i64 2)) fun x29 =>
 Gd x29 true (
 Do (afaddr 7 x1) fun x30 =>
 Do (aload H2 1 false x30) fun x31 =>
 Do (aiaddr none 8 x31 (.int .i64 0)) fun x32 =>
 Do (aload H2 8 true x32) fun x33 =>
Φ K.lower_maker_expr [a0, x33] H2 fun x34 H35 =>
 Do (afaddr 2 x1) fun x36 =>
 Do (aload H35 1 false x36) fun x37 =>
Φ K.lower_maker_find [a0, x37] H35 fun x38 H39 =>
Φ K.lower_maker_set [a0, x38, x34] H39 fun x40 H41 =>
 Q (.tup []) H41) (
 Do (abin .eql x4 (.int .i64 3)) fun x42 =>
 Gd x42 true (
 Do (afaddr 5 x1) fun x43 =>
 Do (aload H2 2 true x43) fun x44 =>
 Do (afaddr 7 x1) fun x45 =>
 Do (aload H2 1 false x45) fun x46 =>
 Do (aiaddr none 8 x46 (.int .i64 0)) fun x47 =>
 Do (aload H2 8 true x47) fun x48 =>
Φ K.lower_maker_write [a0, x44, x48] H2 fun x49 H50 =>
 Q (.tup []) H50) (
 Do (abin .eql x4 (.int .i64 4)) fun x53 =>
 Gd x53 true (
 JoinP (lower_maker_stmt_k1 Φ a0 x1 x4 Q) [x53] H2) (
 Do (abin .eql x4 (.int .i64 6)) fun x108 =>
 JoinP (lower_maker_stmt_k1 Φ a0 x1 x4 Q) [x108] H2))))
def ir_lower_maker_stmt : AFunc := ⟨114, [],
 .seq (.region [
   ⟨some 3, .box false 10 (.t 1), none⟩])
 (.seq (.region [
   ⟨some 9, .faddr 0 (.t 3), none⟩,
   ⟨some 10, .load 1 false (.t 9), none⟩])
 (.block 0 (.seq (.region [
   ⟨some 12, .bin .eql (.t 10) (.k (.int .i64 1)), none⟩,
   ⟨some 11, .mv (.t 12), none⟩])
 (.cond (.t 11) (.seq (.region [
     ⟨some 13, .mv (.t 0), none⟩,
     ⟨some 14, .faddr 7 (.t 3), none⟩,
     ⟨some 15, .load 1 false (.t 14), none⟩,
     ⟨some 16, .iaddr none 8 (.t 15) (.k (.int .i64 0)), none⟩,
     ⟨some 17, .load 8 true (.t 16), none⟩,
     ⟨some 18, .call K.lower_maker_expr [(.t 13), (.t 17)], none⟩,
     ⟨some 4, .mv (.t 18), none⟩])
   (.seq (.region [
     ⟨some 19, .mv (.t 0), none⟩,
     ⟨some 20, .call K.lower_maker_fresh [(.t 19)], none⟩,
     ⟨some 5, .mv (.t 20), none⟩])
   (.seq (.region [
     ⟨some 21, .mv (.t 0), none⟩,
     ⟨some 22, .mv (.t 5), none⟩,
     ⟨some 23, .mv (.t 4), none⟩,
     ⟨some 24, .call K.lower_maker_set [(.t 21), (.t 22), (.t 23)], none⟩])
   (.draw [
     ⟨some 25, .mv (.t 0), none⟩,
     ⟨some 26, .mv (.t 0), none⟩,
     ⟨some 27, .nilck (.t 26), none⟩,
     ⟨some 28, .faddr 7 (.t 27), none⟩,
     ⟨some 29, .load 1 false (.t 28), none⟩,
     ⟨some 30, .faddr 2 (.t 3), none⟩,
     ⟨some 31, .load 1 false (.t 30), none⟩,
     ⟨some 32, .mv (.t 5), none⟩,
     ⟨some 33, .build [.str [], .int .i64 0] [(0, 1, (.t 31)), (1, 1, (.t 32))], none⟩,
     ⟨some 34, .bslice false 2 1 [.str [], .int .i64 0] [(0, 2, (.t 33))], none⟩,
     ⟨some 35, .append false 2 24 (.t 29) (.t 34), none⟩,
     ⟨some 36, .nilck (.t 25), none⟩,
     ⟨some 37, .faddr 7 (.t 36), none⟩,
     ⟨none, .store 1 (.t 37) (.t 35), none⟩]
   [[], [], [1], [1, 2], [1, 2, 3], [], [5], [], [5, 6, 7], [5, 6, 7, 8], [1, 2, 3, 4, 5, 6, 7, 8, 9], [0, 1, 2, 3, 4, 5, 6, 7, 8, 9, 10], [0, 1, 2, 3, 4, 5, 6, 7, 8, 9, 10, 11], [0, 1, 2, 3, 4, 5, 6, 7, 8, 9, 10, 11, 12]] [([0, 1, 2, 3, 4, 5, 6, 7, 8, 9], 10, []), ([11, 12], 13, [])] []))))
   (.seq (.region [
     ⟨some 39, .bin .eql (.t 10) (.k (.int .i64 2)), none⟩,
     ⟨some 38, .mv (.t 39), none⟩])
   (.cond (.t 38) (.seq (.region [
       ⟨some 40, .mv (.t 0), none⟩,
       ⟨some 41, .faddr 7 (.t 3), none⟩,
       ⟨some 42, .load 1 false (.t 41), none⟩,
       ⟨some 43, .iaddr none 8 (.t 42) (.k (.int .i64 0)), none⟩,
       ⟨some 44, .load 8 true (.t 43), none⟩,
       ⟨some 45, .call K.lower_maker_expr [(.t 40), (.t 44)], none⟩,
       ⟨some 6, .mv (.t 45), none⟩])
     (.region [
       ⟨some 46, .mv (.t 0), none⟩,
       ⟨some 47, .mv (.t 0), none⟩,
       ⟨some 48, .faddr 2 (.t 3), none⟩,
       ⟨some 49, .load 1 false (.t 48), none⟩,
       ⟨some 50, .call K.lower_maker_find [(.t 47), (.t 49)], none⟩,
       ⟨some 51, .mv (.t 6), none⟩,
       ⟨some 52, .call K.lower_maker_set [(.t 46), (.t 50), (.t 51)], none⟩]))
     (.seq (.region [
       ⟨some 54, .bin .eql (.t 10) (.k (.int .i64 3)), none⟩,
       ⟨some 53, .mv (.t 54), none⟩])
     (.cond (.t 53) (.draw [
         ⟨some 55, .mv (.t 0), none⟩,
         ⟨some 56, .faddr 5 (.t 3), none⟩,
         ⟨some 57, .load 2 true (.t 56), none⟩,
         ⟨some 58, .faddr 7 (.t 3), none⟩,
         ⟨some 59, .load 1 false (.t 58), none⟩,
         ⟨some 60, .iaddr none 8 (.t 59) (.k (.int .i64 0)), none⟩,
         ⟨some 61, .load 8 true (.t 60), none⟩,
         ⟨some 62, .call K.lower_maker_write [(.t 55), (.t 57), (.t 61)], none⟩]
       [[], [], [1], [], [3], [3, 4], [3, 4, 5], [0, 1, 2, 3, 4, 5, 6]] [([0, 1, 2, 3, 4, 5, 6], 7, [])] [])
       (.join [63] [64, 65] (.seq (.region [
         ⟨some 64, .bin .eql (.t 10) (.k (.int .i64 4)), none⟩,
         ⟨some 63, .mv (.t 64), none⟩])
       (.cond (.t 63) (.skip)
         (.region [
           ⟨some 65, .bin .eql (.t 10) (.k (.int .i64 6)), none⟩,
           ⟨some 63, .mv (.t 65), none⟩])))
       (.cond (.t 63) (.region [
           ⟨some 66, .mv (.t 0), none⟩,
           ⟨some 67, .load 10 true (.t 3), none⟩,
           ⟨some 68, .call K.lower_maker_stored [(.t 66), (.t 67)], none⟩])
         (.seq (.region [
           ⟨some 70, .bin .eql (.t 10) (.k (.int .i64 5)), none⟩,
           ⟨some 69, .mv (.t 70), none⟩])
         (.cond (.t 69) (.region [
             ⟨some 71, .mv (.t 0), none⟩,
             ⟨some 72, .load 10 true (.t 3), none⟩,
             ⟨some 73, .call K.lower_maker_loaded [(.t 71), (.t 72)], none⟩])
           (.seq (.region [
             ⟨some 75, .bin .eql (.t 10) (.k (.int .i64 7)), none⟩,
             ⟨some 74, .mv (.t 75), none⟩])
           (.cond (.t 74) (.seq (.region [
               ⟨some 76, .call K.lower_step [(.k (.int .i64 13))], none⟩,
               ⟨some 7, .alloc true [.int .i64 0, .int .i64 0, .int .i64 0, .int .i64 0, .int .i64 0, .int .i64 0, .int .u64 0, .int .i64 0, .int .i64 0, .int .i64 0, .int .i64 0, .int .i64 0, .int .i64 0], none⟩,
               ⟨none, .store 13 (.t 7) (.t 76), none⟩])
             (.seq (.draw [
               ⟨some 77, .faddr 4 (.t 3), none⟩,
               ⟨some 78, .load 1 false (.t 77), none⟩,
               ⟨some 79, .mv (.t 0), none⟩,
               ⟨some 80, .faddr 0 (.t 3), none⟩,
               ⟨some 81, .load 1 false (.t 80), none⟩,
               ⟨some 82, .faddr 4 (.t 3), none⟩,
               ⟨some 83, .load 1 false (.t 82), none⟩,
               ⟨some 84, .build [.str [], .lst .nil 0 []] [], none⟩,
               ⟨some 85, .call K.lower_maker_site [(.t 79), (.t 81), (.t 83), (.t 84)], none⟩,
               ⟨some 86, .faddr 9 (.t 7), none⟩,
               ⟨none, .store 1 (.t 86) (.t 78), none⟩,
               ⟨some 87, .faddr 11 (.t 7), none⟩,
               ⟨none, .store 1 (.t 87) (.t 85), none⟩]
             [[], [0], [], [], [3], [], [5], [], [2, 3, 4, 5, 6, 7], [0, 1], [0, 1, 2, 3, 4, 5, 6, 7, 8, 9], [0, 1, 2, 3, 4, 5, 6, 7, 8, 9, 10], [0, 1, 2, 3, 4, 5, 6, 7, 8, 9, 10, 11]] [([0, 1, 2, 3, 4, 5, 6, 7, 9], 8, [1]), ([], 10, []), ([11], 12, [])] [])
             (.region [
               ⟨some 88, .mv (.t 0), none⟩,
               ⟨some 89, .load 13 true (.t 7), none⟩,
               ⟨some 90, .call K.lower_maker_add [(.t 88), (.t 89)], none⟩])))
             (.seq (.region [
               ⟨some 92, .bin .eql (.t 10) (.k (.int .i64 8)), none⟩,
               ⟨some 91, .mv (.t 92), none⟩])
             (.cond (.t 91) (.region [
                 ⟨some 93, .mv (.t 0), none⟩,
                 ⟨some 94, .load 10 true (.t 3), none⟩,
                 ⟨some 95, .call K.lower_maker_choose [(.t 93), (.t 94)], none⟩])
               (.seq (.region [
                 ⟨some 97, .bin .eql (.t 10) (.k (.int .i64 9)), none⟩,
                 ⟨some 96, .mv (.t 97), none⟩])
               (.cond (.t 96) (.region [
                   ⟨some 98, .mv (.t 0), none⟩,
                   ⟨some 99, .load 10 true (.t 3), none⟩,
                   ⟨some 100, .call K.lower_maker_loop [(.t 98), (.t 99)], none⟩])
                 (.seq (.region [
                   ⟨some 102, .bin .eql (.t 10) (.k (.int .i64 10)), none⟩,
                   ⟨some 101, .mv (.t 102), none⟩])
                 (.cond (.t 101) (.seq (.region [
                     ⟨some 103, .call K.lower_step [(.k (.int .i64 18))], none⟩,
                     ⟨some 8, .alloc true [.int .i64 0, .int .i64 0, .int .i64 0, .int .i64 0, .int .i64 0, .int .i64 0, .int .u64 0, .int .i64 0, .int .i64 0, .int .i64 0, .int .i64 0, .int .i64 0, .int .i64 0], none⟩,
                     ⟨none, .store 13 (.t 8) (.t 103), none⟩])
                   (.seq (.region [
                     ⟨some 104, .mv (.t 0), none⟩,
                     ⟨some 105, .faddr 7 (.t 3), none⟩,
                     ⟨some 106, .load 1 false (.t 105), none⟩,
                     ⟨some 107, .iaddr none 8 (.t 106) (.k (.int .i64 0)), none⟩,
                     ⟨some 108, .load 8 true (.t 107), none⟩,
                     ⟨some 109, .call K.lower_maker_expr [(.t 104), (.t 108)], none⟩,
                     ⟨some 110, .faddr 3 (.t 8), none⟩,
                     ⟨none, .store 1 (.t 110) (.t 109), none⟩])
                   (.region [
                     ⟨some 111, .mv (.t 0), none⟩,
                     ⟨some 112, .load 13 true (.t 8), none⟩,
                     ⟨some 113, .call K.lower_maker_add [(.t 111), (.t 112)], none⟩])))
                   (.skip)))))))))))))))))))))⟩
theorem eq_lower_maker_stmt (Φ : Calls') (a0 a1 : AV) (H : AH) (Q : Post) : fnE1 Φ ir_lower_maker_stmt [a0, a1] H Q = lower_maker_stmt Φ a0 a1 H Q := by kernel_rfl

/-! (rabbet/lower.maker).expr -/
def lower_maker_expr (Φ : Calls') (a0 : AV) (a1 : AV) (H : AH) (Q : Post) : Prop :=
 DoH (aboxv H false 8 a1) fun x1 H2 =>
 Do (afaddr 0 x1) fun x3 =>
 Do (aload H2 1 false x3) fun x4 =>
 Do (abin .eql x4 (.int .i64 1)) fun x5 =>
 Gd x5 true (
 Do (afaddr 1 x1) fun x6 =>
 Do (aload H2 1 false x6) fun x7 =>
Φ K.lower_maker_number [a0, x7] H2 fun x8 H9 =>
 Q x8 H9) (
 Do (abin .eql x4 (.int .i64 2)) fun x10 =>
 Gd x10 true (
 Do (afaddr 2 x1) fun x11 =>
 Do (aload H2 1 false x11) fun x12 =>
Φ K.lower_maker_find [a0, x12] H2 fun x13 H14 =>
 Q x13 H14) (
 Do (abin .eql x4 (.int .i64 3)) fun x15 =>
 Gd x15 true (
 Do (afaddr 7 x1) fun x16 =>
 Do (aload H2 1 false x16) fun x17 =>
 Do (aiaddr none 8 x17 (.int .i64 0)) fun x18 =>
 Do (aload H2 8 true x18) fun x19 =>
Φ K.lower_maker_expr [a0, x19] H2 fun x20 H21 =>
 Do (afaddr 3 x1) fun x22 =>
 Do (aload H21 1 false x22) fun x23 =>
 Do (afaddr 7 x1) fun x24 =>
 Do (aload H21 1 false x24) fun x25 =>
 Do (aiaddr none 8 x25 (.int .i64 1)) fun x26 =>
 Do (aload H21 8 true x26) fun x27 =>
Φ K.lower_maker_expr [a0, x27] H21 fun x28 H29 =>
(aload H29 1 false x22 = some x23) ∧
(Φ K.lower_maker_bin [a0, x23, x20, x28] H29 fun x30 H31 =>
 Q x30 H31)) (
 Do (abin .eql x4 (.int .i64 4)) fun x32 =>
 Gd x32 true (
 Do (afaddr 5 x1) fun x33 =>
 Do (aload H2 2 true x33) fun x34 =>
Φ K.lower_maker_read [a0, x34] H2 fun x35 H36 =>
 Q x35 H36) (
 Do (aload H2 8 true x1) fun x37 =>
Φ K.lower_maker_atomic [a0, x37] H2 fun x38 H39 =>
 Q x38 H39))))
def ir_lower_maker_expr : AFunc := ⟨48, [.tmp 4],
 .seq (.region [
   ⟨some 3, .box false 8 (.t 1), none⟩,
   ⟨some 4, .mv (.k (.int .i64 0)), none⟩])
 (.seq (.seq (.region [
   ⟨some 6, .faddr 0 (.t 3), none⟩,
   ⟨some 7, .load 1 false (.t 6), none⟩])
 (.block 0 (.seq (.region [
   ⟨some 9, .bin .eql (.t 7) (.k (.int .i64 1)), none⟩,
   ⟨some 8, .mv (.t 9), none⟩])
 (.cond (.t 8) (.seq (.region [
     ⟨some 10, .mv (.t 0), none⟩,
     ⟨some 11, .faddr 1 (.t 3), none⟩,
     ⟨some 12, .load 1 false (.t 11), none⟩,
     ⟨some 13, .call K.lower_maker_number [(.t 10), (.t 12)], none⟩,
     ⟨some 4, .mv (.t 13), none⟩])
   (.ret))
   (.seq (.region [
     ⟨some 15, .bin .eql (.t 7) (.k (.int .i64 2)), none⟩,
     ⟨some 14, .mv (.t 15), none⟩])
   (.cond (.t 14) (.seq (.region [
       ⟨some 16, .mv (.t 0), none⟩,
       ⟨some 17, .faddr 2 (.t 3), none⟩,
       ⟨some 18, .load 1 false (.t 17), none⟩,
       ⟨some 19, .call K.lower_maker_find [(.t 16), (.t 18)], none⟩,
       ⟨some 4, .mv (.t 19), none⟩])
     (.ret))
     (.seq (.region [
       ⟨some 21, .bin .eql (.t 7) (.k (.int .i64 3)), none⟩,
       ⟨some 20, .mv (.t 21), none⟩])
     (.cond (.t 20) (.seq (.region [
         ⟨some 22, .mv (.t 0), none⟩,
         ⟨some 23, .faddr 7 (.t 3), none⟩,
         ⟨some 24, .load 1 false (.t 23), none⟩,
         ⟨some 25, .iaddr none 8 (.t 24) (.k (.int .i64 0)), none⟩,
         ⟨some 26, .load 8 true (.t 25), none⟩,
         ⟨some 27, .call K.lower_maker_expr [(.t 22), (.t 26)], none⟩,
         ⟨some 5, .mv (.t 27), none⟩])
       (.seq (.draw [
         ⟨some 28, .mv (.t 0), none⟩,
         ⟨some 29, .faddr 3 (.t 3), none⟩,
         ⟨some 30, .load 1 false (.t 29), none⟩,
         ⟨some 31, .mv (.t 5), none⟩,
         ⟨some 32, .mv (.t 0), none⟩,
         ⟨some 33, .faddr 7 (.t 3), none⟩,
         ⟨some 34, .load 1 false (.t 33), none⟩,
         ⟨some 35, .iaddr none 8 (.t 34) (.k (.int .i64 1)), none⟩,
         ⟨some 36, .load 8 true (.t 35), none⟩,
         ⟨some 37, .call K.lower_maker_expr [(.t 32), (.t 36)], none⟩,
         ⟨some 38, .call K.lower_maker_bin [(.t 28), (.t 30), (.t 31), (.t 37)], none⟩,
         ⟨some 4, .mv (.t 38), none⟩]
       [[], [], [1], [], [], [], [5], [5, 6], [5, 6, 7], [4, 5, 6, 7, 8], [0, 1, 2, 3, 4, 5, 6, 7, 8, 9], [0, 1, 2, 3, 4, 5, 6, 7, 8, 9, 10]] [([0, 1, 2, 3, 4, 5, 6, 7, 8], 9, [2]), ([], 10, [])] [11])
       (.ret)))
       (.seq (.region [
         ⟨some 40, .bin .eql (.t 7) (.k (.int .i64 4)), none⟩,
         ⟨some 39, .mv (.t 40), none⟩])
       (.cond (.t 39) (.seq (.region [
           ⟨some 41, .mv (.t 0), none⟩,
           ⟨some 42, .faddr 5 (.t 3), none⟩,
           ⟨some 43, .load 2 true (.t 42), none⟩,
           ⟨some 44, .call K.lower_maker_read [(.t 41), (.t 43)], none⟩,
           ⟨some 4, .mv (.t 44), none⟩])
         (.ret))
         (.skip)))))))))))
 (.seq (.region [
   ⟨some 45, .mv (.t 0), none⟩,
   ⟨some 46, .load 8 true (.t 3), none⟩,
   ⟨some 47, .call K.lower_maker_atomic [(.t 45), (.t 46)], none⟩,
   ⟨some 4, .mv (.t 47), none⟩])
 (.ret)))⟩
theorem eq_lower_maker_expr (Φ : Calls') (a0 a1 : AV) (H : AH) (Q : Post) : fnE1 Φ ir_lower_maker_expr [a0, a1] H Q = lower_maker_expr Φ a0 a1 H Q := by kernel_rfl

/-! (rabbet/lower.maker).fresh -/
def lower_maker_fresh (Φ : Calls') (a0 : AV) (H : AH) (Q : Post) : Prop :=
 Do (anilck a0) fun x1 =>
 Do (afaddr 3 x1) fun x2 =>
 Do (aload H 1 false x2) fun x3 =>
 Do (abin .add x3 (.int .i64 1)) fun x4 =>
 Do (anilck a0) fun x5 =>
 Do (afaddr 3 x5) fun x6 =>
 Do (astore H 1 x6 x4) fun H7 =>
 Do (anilck a0) fun x8 =>
 Do (afaddr 3 x8) fun x9 =>
 Do (aload H7 1 false x9) fun x10 =>
 Do (abin .sub x10 (.int .i64 1)) fun x11 =>
 Q x11 H7
def ir_lower_maker_fresh : AFunc := ⟨15, [.tmp 2],
 .seq (.region [
   ⟨some 2, .mv (.k (.int .i64 0)), none⟩])
 (.seq (.region [
   ⟨some 3, .mv (.t 0), none⟩,
   ⟨some 4, .nilck (.t 3), none⟩,
   ⟨some 5, .faddr 3 (.t 4), none⟩,
   ⟨some 6, .load 1 false (.t 5), none⟩,
   ⟨some 7, .bin .add (.t 6) (.k (.int .i64 1)), none⟩,
   ⟨some 8, .nilck (.t 3), none⟩,
   ⟨some 9, .faddr 3 (.t 8), none⟩,
   ⟨none, .store 1 (.t 9) (.t 7), none⟩])
 (.seq (.region [
   ⟨some 10, .mv (.t 0), none⟩,
   ⟨some 11, .nilck (.t 10), none⟩,
   ⟨some 12, .faddr 3 (.t 11), none⟩,
   ⟨some 13, .load 1 false (.t 12), none⟩,
   ⟨some 14, .bin .sub (.t 13) (.k (.int .i64 1)), none⟩,
   ⟨some 2, .mv (.t 14), none⟩])
 (.ret)))⟩
theorem eq_lower_maker_fresh (Φ : Calls') (a0 : AV) (H : AH) (Q : Post) : fnE1 Φ ir_lower_maker_fresh [a0] H Q = lower_maker_fresh Φ a0 H Q := by kernel_rfl

/-! (rabbet/lower.maker).set -/
def lower_maker_set (Φ : Calls') (a0 : AV) (a1 : AV) (a2 : AV) (H : AH) (Q : Post) : Prop :=
Φ K.lower_step [(.int .i64 2)] H fun x1 H2 =>
 DoH (some (abox H2 true [.int .i64 0, .int .i64 0, .int .i64 0, .int .i64 0, .int .i64 0, .int .i64 0, .int .u64 0, .int .i64 0, .int .i64 0, .int .i64 0, .int .i64 0, .int .i64 0, .int .i64 0])) fun x3 H4 =>
 Do (astore H4 13 x3 x1) fun H5 =>
 Do (afaddr 1 x3) fun x6 =>
 Do (astore H5 1 x6 a1) fun H7 =>
 Do (afaddr 3 x3) fun x8 =>
 Do (astore H7 1 x8 a2) fun H9 =>
 Do (aload H9 13 true x3) fun x10 =>
Φ K.lower_maker_add [a0, x10] H9 fun x11 H12 =>
 Q (.tup []) H12
def ir_lower_maker_set : AFunc := ⟨15, [],
 .seq (.region [
   ⟨some 7, .call K.lower_step [(.k (.int .i64 2))], none⟩,
   ⟨some 6, .alloc true [.int .i64 0, .int .i64 0, .int .i64 0, .int .i64 0, .int .i64 0, .int .i64 0, .int .u64 0, .int .i64 0, .int .i64 0, .int .i64 0, .int .i64 0, .int .i64 0, .int .i64 0], none⟩,
   ⟨none, .store 13 (.t 6) (.t 7), none⟩])
 (.seq (.region [
   ⟨some 8, .mv (.t 1), none⟩,
   ⟨some 9, .mv (.t 2), none⟩,
   ⟨some 10, .faddr 1 (.t 6), none⟩,
   ⟨none, .store 1 (.t 10) (.t 8), none⟩,
   ⟨some 11, .faddr 3 (.t 6), none⟩,
   ⟨none, .store 1 (.t 11) (.t 9), none⟩])
 (.region [
   ⟨some 12, .mv (.t 0), none⟩,
   ⟨some 13, .load 13 true (.t 6), none⟩,
   ⟨some 14, .call K.lower_maker_add [(.t 12), (.t 13)], none⟩]))⟩
theorem eq_lower_maker_set (Φ : Calls') (a0 a1 a2 : AV) (H : AH) (Q : Post) : fnE1 Φ ir_lower_maker_set [a0, a1, a2] H Q = lower_maker_set Φ a0 a1 a2 H Q := by kernel_rfl

/-! (rabbet/lower.maker).find -/
def lower_maker_find (Φ : Calls') (a0 : AV) (a1 : AV) (H : AH) (Q : Post) : Prop :=
 DoH (aboxv H true 1 a1) fun x1 H2 =>
 Do (anilck a0) fun x3 =>
 Do (afaddr 7 x3) fun x4 =>
 Do (aload H2 1 false x4) fun x5 =>
Φ K.slices_IndexFunc___lower_local_lower_local_ [x5, (.fn K.lower_maker_find_c1 [x1])] H2 fun x6 H7 =>
 Do (anilck a0) fun x8 =>
 Do (afaddr 7 x8) fun x9 =>
 Do (aload H7 1 false x9) fun x10 =>
 Do (aiaddr none 2 x10 x6) fun x11 =>
 Do (afaddr 1 x11) fun x12 =>
 Do (aload H7 1 false x12) fun x13 =>
 Q x13 H7
def ir_lower_maker_find : AFunc := ⟨20, [.tmp 4],
 .seq (.region [
   ⟨some 3, .box true 1 (.t 1), none⟩,
   ⟨some 4, .mv (.k (.int .i64 0)), none⟩])
 (.seq (.region [
   ⟨some 6, .mv (.t 0), none⟩,
   ⟨some 7, .nilck (.t 6), none⟩,
   ⟨some 8, .faddr 7 (.t 7), none⟩,
   ⟨some 9, .load 1 false (.t 8), none⟩,
   ⟨some 10, .mkfn K.lower_maker_find_c1 [(.t 3)], none⟩,
   ⟨some 11, .call K.slices_IndexFunc___lower_local_lower_local_ [(.t 9), (.t 10)], none⟩,
   ⟨some 5, .mv (.t 11), none⟩])
 (.seq (.region [
   ⟨some 12, .mv (.t 0), none⟩,
   ⟨some 13, .nilck (.t 12), none⟩,
   ⟨some 14, .faddr 7 (.t 13), none⟩,
   ⟨some 15, .load 1 false (.t 14), none⟩,
   ⟨some 16, .mv (.t 5), none⟩,
   ⟨some 17, .iaddr none 2 (.t 15) (.t 16), none⟩,
   ⟨some 18, .faddr 1 (.t 17), none⟩,
   ⟨some 19, .load 1 false (.t 18), none⟩,
   ⟨some 4, .mv (.t 19), none⟩])
 (.ret)))⟩
theorem eq_lower_maker_find (Φ : Calls') (a0 a1 : AV) (H : AH) (Q : Post) : fnE1 Φ ir_lower_maker_find [a0, a1] H Q = lower_maker_find Φ a0 a1 H Q := by kernel_rfl

/-! (rabbet/lower.maker).write -/
def lower_maker_write_k1 (Φ : Calls') (a0 : AV) (x8 : AV) (x15 : AV) (x18 : AV) (Q : Post) : List AV → AH → Prop := fun j20 H21 =>
 Do (aload H21 8 true x8) fun x55 =>
Φ K.lower_maker_store [a0, x55, x15, (sl j20 0), x18] H21 fun x56 H57 =>
 Q (.tup []) H57
def lower_maker_write (Φ : Calls') (a0 : AV) (a1 : AV) (a2 : AV) (H : AH) (Q : Post) : Prop :=
 DoH (aboxv H false 2 a1) fun x1 H2 =>
 DoH (aboxv H2 false 8 a2) fun x3 H4 =>
 Do (aload H4 2 true x1) fun x5 =>
Φ K.lower_maker_place [a0, x5] H4 fun x6 H7 =>
 DoH (some (abox H7 true [.int .i64 0, .int .i64 0, .int .i64 0, .bool false, .int .i64 0, .int .i64 0, .int .i64 0, .int .i64 0])) fun x8 H9 =>
 Do (astore H9 8 x8 x6) fun H10 =>
 Do (aload H10 8 true x3) fun x11 =>
Φ K.lower_maker_expr [a0, x11] H10 fun x12 H13 =>
 Do (aload H13 8 true x8) fun x14 =>
Φ K.lower_maker_address [a0, x14] H13 fun x15 H16 =>
 Do (aload H16 2 true x1) fun x17 =>
Φ K.lower_maker_site [a0, (.int .i64 3), (.int .i64 0), x17] H16 fun x18 H19 =>
 Do (afaddr 0 x8) fun x22 =>
 Do (afaddr 3 x22) fun x23 =>
 Do (aload H19 1 false x23) fun x24 =>
 Gd x24 true (
 Do (aload H19 8 true x8) fun x25 =>
Φ K.lower_maker_load [a0, x25, x15, x18] H19 fun x26 H27 =>
 Do (afaddr 0 x8) fun x28 =>
 Do (afaddr 5 x28) fun x29 =>
 Do (aload H27 1 false x29) fun x30 =>
 Do (afaddr 0 x8) fun x31 =>
 Do (afaddr 4 x31) fun x32 =>
 Do (aload H27 1 false x32) fun x33 =>
Φ K.lower_ones [x30] H27 fun x34 H35 =>
(aload H35 1 false x32 = some x33) ∧
(Do (abin .shl x34 x33) fun x36 =>
 Do (aun .xor x36) fun x37 =>
Φ K.lower_maker_with [a0, (.int .i64 4), x26, x37] H35 fun x38 H39 =>
 Do (afaddr 0 x8) fun x40 =>
 Do (afaddr 5 x40) fun x41 =>
 Do (aload H39 1 false x41) fun x42 =>
 Do (afaddr 0 x8) fun x43 =>
 Do (afaddr 4 x43) fun x44 =>
 Do (aload H39 1 false x44) fun x45 =>
 Do (aconv .u64 x45) fun x46 =>
Φ K.lower_ones [x42] H39 fun x47 H48 =>
(aload H48 1 false x44 = some x45) ∧
(Φ K.lower_maker_with [a0, (.int .i64 4), x12, x47] H48 fun x49 H50 =>
(aload H50 1 false x44 = some x45) ∧
(Φ K.lower_maker_with [a0, (.int .i64 7), x49, x46] H50 fun x51 H52 =>
Φ K.lower_maker_bin [a0, (.int .i64 5), x38, x51] H52 fun x53 H54 =>
 JoinP (lower_maker_write_k1 Φ a0 x8 x15 x18 Q) [x53] H54)))) (
 JoinP (lower_maker_write_k1 Φ a0 x8 x15 x18 Q) [x12] H19)
def ir_lower_maker_write : AFunc := ⟨66, [],
 .seq (.region [
   ⟨some 4, .box false 2 (.t 1), none⟩,
   ⟨some 5, .box false 8 (.t 2), none⟩])
 (.seq (.region [
   ⟨some 12, .mv (.t 0), none⟩,
   ⟨some 13, .load 2 true (.t 4), none⟩,
   ⟨some 14, .call K.lower_maker_place [(.t 12), (.t 13)], none⟩,
   ⟨some 6, .alloc true [.int .i64 0, .int .i64 0, .int .i64 0, .bool false, .int .i64 0, .int .i64 0, .int .i64 0, .int .i64 0], none⟩,
   ⟨none, .store 8 (.t 6) (.t 14), none⟩])
 (.seq (.region [
   ⟨some 15, .mv (.t 0), none⟩,
   ⟨some 16, .load 8 true (.t 5), none⟩,
   ⟨some 17, .call K.lower_maker_expr [(.t 15), (.t 16)], none⟩,
   ⟨some 7, .mv (.t 17), none⟩])
 (.seq (.region [
   ⟨some 18, .mv (.t 0), none⟩,
   ⟨some 19, .load 8 true (.t 6), none⟩,
   ⟨some 20, .call K.lower_maker_address [(.t 18), (.t 19)], none⟩,
   ⟨some 8, .mv (.t 20), none⟩])
 (.seq (.region [
   ⟨some 21, .mv (.t 0), none⟩,
   ⟨some 22, .load 2 true (.t 4), none⟩,
   ⟨some 23, .call K.lower_maker_site [(.t 21), (.k (.int .i64 3)), (.k (.int .i64 0)), (.t 22)], none⟩,
   ⟨some 9, .mv (.t 23), none⟩])
 (.join [7] [10, 11, 24, 25, 26, 27, 28, 29, 30, 31, 32, 33, 34, 35, 36, 37, 38, 39, 40, 41, 42, 43, 44, 45, 46, 47, 48, 49, 50, 51, 52, 53, 54, 55, 56, 57, 58, 59] (.seq (.region [
   ⟨some 24, .faddr 0 (.t 6), none⟩,
   ⟨some 25, .faddr 3 (.t 24), none⟩,
   ⟨some 26, .load 1 false (.t 25), none⟩])
 (.cond (.t 26) (.seq (.region [
     ⟨some 27, .mv (.t 0), none⟩,
     ⟨some 28, .load 8 true (.t 6), none⟩,
     ⟨some 29, .mv (.t 8), none⟩,
     ⟨some 30, .mv (.t 9), none⟩,
     ⟨some 31, .call K.lower_maker_load [(.t 27), (.t 28), (.t 29), (.t 30)], none⟩,
     ⟨some 10, .mv (.t 31), none⟩])
   (.seq (.draw [
     ⟨some 32, .mv (.t 0), none⟩,
     ⟨some 33, .mv (.t 10), none⟩,
     ⟨some 34, .faddr 0 (.t 6), none⟩,
     ⟨some 35, .faddr 5 (.t 34), none⟩,
     ⟨some 36, .load 1 false (.t 35), none⟩,
     ⟨some 37, .call K.lower_ones [(.t 36)], none⟩,
     ⟨some 38, .faddr 0 (.t 6), none⟩,
     ⟨some 39, .faddr 4 (.t 38), none⟩,
     ⟨some 40, .load 1 false (.t 39), none⟩,
     ⟨some 41, .bin .shl (.t 37) (.t 40), none⟩,
     ⟨some 42, .un .xor (.t 41), none⟩,
     ⟨some 43, .call K.lower_maker_with [(.t 32), (.k (.int .i64 4)), (.t 33), (.t 42)], none⟩,
     ⟨some 11, .mv (.t 43), none⟩]
   [[], [], [], [2], [2, 3], [2, 3, 4], [], [6], [6, 7], [2, 3, 4, 5, 6, 7, 8], [2, 3, 4, 5, 6, 7, 8, 9], [0, 1, 2, 3, 4, 5, 6, 7, 8, 9, 10], [0, 1, 2, 3, 4, 5, 6, 7, 8, 9, 10, 11]] [([0, 1, 2, 3, 4, 6, 7, 8], 5, [8]), ([9, 10], 11, [])] [12])
   (.draw [
     ⟨some 44, .mv (.t 0), none⟩,
     ⟨some 45, .mv (.t 11), none⟩,
     ⟨some 46, .mv (.t 0), none⟩,
     ⟨some 47, .mv (.t 0), none⟩,
     ⟨some 48, .mv (.t 7), none⟩,
     ⟨some 49, .faddr 0 (.t 6), none⟩,
     ⟨some 50, .faddr 5 (.t 49), none⟩,
     ⟨some 51, .load 1 false (.t 50), none⟩,
     ⟨some 52, .call K.lower_ones [(.t 51)], none⟩,
     ⟨some 53, .call K.lower_maker_with [(.t 47), (.k (.int .i64 4)), (.t 48), (.t 52)], none⟩,
     ⟨some 54, .faddr 0 (.t 6), none⟩,
     ⟨some 55, .faddr 4 (.t 54), none⟩,
     ⟨some 56, .load 1 false (.t 55), none⟩,
     ⟨some 57, .conv .u64 (.t 56), none⟩,
     ⟨some 58, .call K.lower_maker_with [(.t 46), (.k (.int .i64 7)), (.t 53), (.t 57)], none⟩,
     ⟨some 59, .call K.lower_maker_bin [(.t 44), (.k (.int .i64 5)), (.t 45), (.t 58)], none⟩,
     ⟨some 7, .mv (.t 59), none⟩]
   [[], [], [], [], [], [], [5], [5, 6], [5, 6, 7], [3, 4, 5, 6, 7, 8], [], [10], [10, 11], [10, 11, 12], [2, 3, 4, 5, 6, 7, 8, 9, 10, 11, 12, 13], [0, 1, 2, 3, 4, 5, 6, 7, 8, 9, 10, 11, 12, 13, 14], [0, 1, 2, 3, 4, 5, 6, 7, 8, 9, 10, 11, 12, 13, 14, 15]] [([0, 1, 2, 3, 4, 5, 6, 7, 10, 11, 12, 13], 8, [12]), ([], 9, [12]), ([], 14, []), ([], 15, [])] [16])))
   (.skip)))
 (.region [
   ⟨some 60, .mv (.t 0), none⟩,
   ⟨some 61, .load 8 true (.t 6), none⟩,
   ⟨some 62, .mv (.t 8), none⟩,
   ⟨some 63, .mv (.t 7), none⟩,
   ⟨some 64, .mv (.t 9), none⟩,
   ⟨some 65, .call K.lower_maker_store [(.t 60), (.t 61), (.t 62), (.t 63), (.t 64)], none⟩]))))))⟩
theorem eq_lower_maker_write (Φ : Calls') (a0 a1 a2 : AV) (H : AH) (Q : Post) : fnE1 Φ ir_lower_maker_write [a0, a1, a2] H Q = lower_maker_write Φ a0 a1 a2 H Q := by kernel_rfl

/-! (rabbet/lower.maker).stored -/
def lower_maker_stored_k1 (Φ : Calls') (a0 : AV) (x1 : AV) (x7 : AV) (x12 : AV) (Q : Post) : List AV → AH → Prop := fun j23 H24 =>
 Do (aload H24 8 true x7) fun x38 =>
Φ K.lower_maker_address [a0, x38] H24 fun x39 H40 =>
 Do (afaddr 3 x12) fun x41 =>
 Do (astore H40 1 x41 x39) fun H42 =>
 Do (afaddr 0 x7) fun x43 =>
 Do (afaddr 0 x43) fun x44 =>
 Do (afaddr 1 x44) fun x45 =>
 Do (aload H42 1 false x45) fun x46 =>
 Do (afaddr 4 x1) fun x47 =>
 Do (aload H42 1 false x47) fun x48 =>
 Do (afaddr 0 x1) fun x49 =>
 Do (aload H42 1 false x49) fun x50 =>
 Do (afaddr 4 x1) fun x51 =>
 Do (aload H42 1 false x51) fun x52 =>
 Do (afaddr 5 x1) fun x53 =>
 Do (aload H42 2 true x53) fun x54 =>
 Do (afaddr 8 x12) fun x55 =>
Φ K.lower_maker_site [a0, x50, x52, x54] H42 fun x56 H57 =>
(aload H57 1 false x45 = some x46) ∧
(aload H57 1 false x47 = some x48) ∧
(Do (astore H57 1 x55 x46) fun H58 =>
(aload H58 1 false x47 = some x48) ∧
(Do (afaddr 9 x12) fun x59 =>
 Do (astore H58 1 x59 x48) fun H60 =>
 Do (afaddr 11 x12) fun x61 =>
 Do (astore H60 1 x61 x56) fun H62 =>
 Do (aload H62 13 true x12) fun x63 =>
Φ K.lower_maker_add [a0, x63] H62 fun x64 H65 =>
 Q (.tup []) H65))
def lower_maker_stored (Φ : Calls') (a0 : AV) (a1 : AV) (H : AH) (Q : Post) : Prop :=
 DoH (aboxv H false 10 a1) fun x1 H2 =>
 Do (afaddr 5 x1) fun x3 =>
 Do (aload H2 2 true x3) fun x4 =>
Φ K.lower_maker_place [a0, x4] H2 fun x5 H6 =>
 DoH (some (abox H6 true [.int .i64 0, .int .i64 0, .int .i64 0, .bool false, .int .i64 0, .int .i64 0, .int .i64 0, .int .i64 0])) fun x7 H8 =>
 Do (astore H8 8 x7 x5) fun H9 =>
Φ K.lower_step [(.int .i64 7)] H9 fun x10 H11 =>
 DoH (some (abox H11 true [.int .i64 0, .int .i64 0, .int .i64 0, .int .i64 0, .int .i64 0, .int .i64 0, .int .u64 0, .int .i64 0, .int .i64 0, .int .i64 0, .int .i64 0, .int .i64 0, .int .i64 0])) fun x12 H13 =>
 Do (astore H13 13 x12 x10) fun H14 =>
 Do (afaddr 7 x1) fun x15 =>
 Do (aload H14 1 false x15) fun x16 =>
 Do (aiaddr none 8 x16 (.int .i64 0)) fun x17 =>
 Do (aload H14 8 true x17) fun x18 =>
Φ K.lower_maker_expr [a0, x18] H14 fun x19 H20 =>
 Do (afaddr 4 x12) fun x21 =>
 Do (astore H20 1 x21 x19) fun H22 =>
 Do (afaddr 0 x1) fun x25 =>
 Do (aload H22 1 false x25) fun x26 =>
 Do (abin .eql x26 (.int .i64 6)) fun x27 =>
 Gd x27 true (
 Do (afaddr 0 x12) fun x28 =>
 Do (astore H22 1 x28 (.int .i64 12)) fun H29 =>
 Do (afaddr 7 x1) fun x30 =>
 Do (aload H29 1 false x30) fun x31 =>
 Do (aiaddr none 8 x31 (.int .i64 1)) fun x32 =>
 Do (aload H29 8 true x32) fun x33 =>
Φ K.lower_maker_expr [a0, x33] H29 fun x34 H35 =>
 Do (afaddr 5 x12) fun x36 =>
 Do (astore H35 1 x36 x34) fun H37 =>
 JoinP (lower_maker_stored_k1 Φ a0 x1 x7 x12 Q) [] H37) (
 JoinP (lower_maker_stored_k1 Φ a0 x1 x7 x12 Q) [] H22)
def ir_lower_maker_stored : AFunc := ⟨53, [],
 .seq (.region [
   ⟨some 3, .box false 10 (.t 1), none⟩])
 (.seq (.region [
   ⟨some 6, .mv (.t 0), none⟩,
   ⟨some 7, .faddr 5 (.t 3), none⟩,
   ⟨some 8, .load 2 true (.t 7), none⟩,
   ⟨some 9, .call K.lower_maker_place [(.t 6), (.t 8)], none⟩,
   ⟨some 4, .alloc true [.int .i64 0, .int .i64 0, .int .i64 0, .bool false, .int .i64 0, .int .i64 0, .int .i64 0, .int .i64 0], none⟩,
   ⟨none, .store 8 (.t 4) (.t 9), none⟩])
 (.seq (.region [
   ⟨some 10, .call K.lower_step [(.k (.int .i64 7))], none⟩,
   ⟨some 5, .alloc true [.int .i64 0, .int .i64 0, .int .i64 0, .int .i64 0, .int .i64 0, .int .i64 0, .int .u64 0, .int .i64 0, .int .i64 0, .int .i64 0, .int .i64 0, .int .i64 0, .int .i64 0], none⟩,
   ⟨none, .store 13 (.t 5) (.t 10), none⟩])
 (.seq (.region [
   ⟨some 11, .mv (.t 0), none⟩,
   ⟨some 12, .faddr 7 (.t 3), none⟩,
   ⟨some 13, .load 1 false (.t 12), none⟩,
   ⟨some 14, .iaddr none 8 (.t 13) (.k (.int .i64 0)), none⟩,
   ⟨some 15, .load 8 true (.t 14), none⟩,
   ⟨some 16, .call K.lower_maker_expr [(.t 11), (.t 15)], none⟩,
   ⟨some 17, .faddr 4 (.t 5), none⟩,
   ⟨none, .store 1 (.t 17) (.t 16), none⟩])
 (.join [] [18, 19, 20, 21, 22, 23, 24, 25, 26, 27, 28] (.seq (.region [
   ⟨some 18, .faddr 0 (.t 3), none⟩,
   ⟨some 19, .load 1 false (.t 18), none⟩,
   ⟨some 20, .bin .eql (.t 19) (.k (.int .i64 6)), none⟩])
 (.cond (.t 20) (.seq (.region [
     ⟨some 21, .faddr 0 (.t 5), none⟩,
     ⟨none, .store 1 (.t 21) (.k (.int .i64 12)), none⟩])
   (.region [
     ⟨some 22, .mv (.t 0), none⟩,
     ⟨some 23, .faddr 7 (.t 3), none⟩,
     ⟨some 24, .load 1 false (.t 23), none⟩,
     ⟨some 25, .iaddr none 8 (.t 24) (.k (.int .i64 1)), none⟩,
     ⟨some 26, .load 8 true (.t 25), none⟩,
     ⟨some 27, .call K.lower_maker_expr [(.t 22), (.t 26)], none⟩,
     ⟨some 28, .faddr 5 (.t 5), none⟩,
     ⟨none, .store 1 (.t 28) (.t 27), none⟩]))
   (.skip)))
 (.seq (.region [
   ⟨some 29, .mv (.t 0), none⟩,
   ⟨some 30, .load 8 true (.t 4), none⟩,
   ⟨some 31, .call K.lower_maker_address [(.t 29), (.t 30)], none⟩,
   ⟨some 32, .faddr 3 (.t 5), none⟩,
   ⟨none, .store 1 (.t 32) (.t 31), none⟩])
 (.seq (.draw [
   ⟨some 33, .faddr 0 (.t 4), none⟩,
   ⟨some 34, .faddr 0 (.t 33), none⟩,
   ⟨some 35, .faddr 1 (.t 34), none⟩,
   ⟨some 36, .load 1 false (.t 35), none⟩,
   ⟨some 37, .faddr 4 (.t 3), none⟩,
   ⟨some 38, .load 1 false (.t 37), none⟩,
   ⟨some 39, .mv (.t 0), none⟩,
   ⟨some 40, .faddr 0 (.t 3), none⟩,
   ⟨some 41, .load 1 false (.t 40), none⟩,
   ⟨some 42, .faddr 4 (.t 3), none⟩,
   ⟨some 43, .load 1 false (.t 42), none⟩,
   ⟨some 44, .faddr 5 (.t 3), none⟩,
   ⟨some 45, .load 2 true (.t 44), none⟩,
   ⟨some 46, .call K.lower_maker_site [(.t 39), (.t 41), (.t 43), (.t 45)], none⟩,
   ⟨some 47, .faddr 8 (.t 5), none⟩,
   ⟨none, .store 1 (.t 47) (.t 36), none⟩,
   ⟨some 48, .faddr 9 (.t 5), none⟩,
   ⟨none, .store 1 (.t 48) (.t 38), none⟩,
   ⟨some 49, .faddr 11 (.t 5), none⟩,
   ⟨none, .store 1 (.t 49) (.t 46), none⟩]
 [[], [0], [0, 1], [0, 1, 2], [], [4], [], [], [7], [], [9], [], [11], [6, 7, 8, 9, 10, 11, 12], [0, 1, 2, 3], [0, 1, 2, 3, 6, 7, 8, 9, 10, 11, 12, 13, 14], [0, 1, 2, 3, 4, 5, 6, 7, 8, 9, 10, 11, 12, 13, 14, 15], [0, 1, 2, 3, 4, 5, 6, 7, 8, 9, 10, 11, 12, 13, 14, 15, 16], [0, 1, 2, 3, 4, 5, 6, 7, 8, 9, 10, 11, 12, 13, 14, 15, 16, 17], [0, 1, 2, 3, 4, 5, 6, 7, 8, 9, 10, 11, 12, 13, 14, 15, 16, 17, 18]] [([0, 1, 2, 3, 4, 5, 6, 7, 8, 9, 10, 11, 12, 14], 13, [3, 5]), ([], 15, [5]), ([16], 17, []), ([18], 19, [])] [])
 (.region [
   ⟨some 50, .mv (.t 0), none⟩,
   ⟨some 51, .load 13 true (.t 5), none⟩,
   ⟨some 52, .call K.lower_maker_add [(.t 50), (.t 51)], none⟩])))))))⟩
theorem eq_lower_maker_stored (Φ : Calls') (a0 a1 : AV) (H : AH) (Q : Post) : fnE1 Φ ir_lower_maker_stored [a0, a1] H Q = lower_maker_stored Φ a0 a1 H Q := by kernel_rfl

/-! (rabbet/lower.maker).loaded -/
def lower_maker_loaded (Φ : Calls') (a0 : AV) (a1 : AV) (H : AH) (Q : Post) : Prop :=
 DoH (aboxv H false 10 a1) fun x1 H2 =>
 Do (afaddr 5 x1) fun x3 =>
 Do (aload H2 2 true x3) fun x4 =>
Φ K.lower_maker_place [a0, x4] H2 fun x5 H6 =>
 DoH (some (abox H6 true [.int .i64 0, .int .i64 0, .int .i64 0, .bool false, .int .i64 0, .int .i64 0, .int .i64 0, .int .i64 0])) fun x7 H8 =>
 Do (astore H8 8 x7 x5) fun H9 =>
Φ K.lower_step [(.int .i64 11)] H9 fun x10 H11 =>
 DoH (some (abox H11 true [.int .i64 0, .int .i64 0, .int .i64 0, .int .i64 0, .int .i64 0, .int .i64 0, .int .u64 0, .int .i64 0, .int .i64 0, .int .i64 0, .int .i64 0, .int .i64 0, .int .i64 0])) fun x12 H13 =>
 Do (astore H13 13 x12 x10) fun H14 =>
 Do (aload H14 8 true x7) fun x15 =>
Φ K.lower_maker_address [a0, x15] H14 fun x16 H17 =>
 Do (afaddr 3 x12) fun x18 =>
 Do (astore H17 1 x18 x16) fun H19 =>
 Do (afaddr 0 x7) fun x20 =>
 Do (afaddr 0 x20) fun x21 =>
 Do (afaddr 1 x21) fun x22 =>
 Do (aload H19 1 false x22) fun x23 =>
 Do (afaddr 4 x1) fun x24 =>
 Do (aload H19 1 false x24) fun x25 =>
 Do (afaddr 0 x1) fun x26 =>
 Do (aload H19 1 false x26) fun x27 =>
 Do (afaddr 4 x1) fun x28 =>
 Do (aload H19 1 false x28) fun x29 =>
 Do (afaddr 5 x1) fun x30 =>
 Do (aload H19 2 true x30) fun x31 =>
Φ K.lower_maker_fresh [a0] H19 fun x32 H33 =>
(aload H33 1 false x22 = some x23) ∧
(aload H33 1 false x24 = some x25) ∧
(aload H33 1 false x26 = some x27) ∧
(aload H33 1 false x28 = some x29) ∧
(aload H33 2 true x30 = some x31) ∧
(Do (afaddr 1 x12) fun x34 =>
Φ K.lower_maker_fresh [a0] H33 fun x35 H36 =>
(aload H36 1 false x22 = some x23) ∧
(aload H36 1 false x24 = some x25) ∧
(aload H36 1 false x26 = some x27) ∧
(aload H36 1 false x28 = some x29) ∧
(aload H36 2 true x30 = some x31) ∧
(Φ K.lower_maker_site [a0, x27, x29, x31] H36 fun x37 H38 =>
(aload H38 1 false x22 = some x23) ∧
(aload H38 1 false x24 = some x25) ∧
(Do (astore H38 1 x34 x32) fun H39 =>
(aload H39 1 false x22 = some x23) ∧
(aload H39 1 false x24 = some x25) ∧
(Do (afaddr 2 x12) fun x40 =>
 Do (astore H39 1 x40 x35) fun H41 =>
(aload H41 1 false x22 = some x23) ∧
(aload H41 1 false x24 = some x25) ∧
(Do (afaddr 8 x12) fun x42 =>
 Do (astore H41 1 x42 x23) fun H43 =>
(aload H43 1 false x24 = some x25) ∧
(Do (afaddr 9 x12) fun x44 =>
 Do (astore H43 1 x44 x25) fun H45 =>
 Do (afaddr 11 x12) fun x46 =>
 Do (astore H45 1 x46 x37) fun H47 =>
 Do (aload H47 13 true x12) fun x48 =>
Φ K.lower_maker_add [a0, x48] H47 fun x49 H50 =>
 Do (afaddr 2 x1) fun x51 =>
 Do (aload H50 1 false x51) fun x52 =>
 Do (afaddr 1 x12) fun x53 =>
 Do (aload H50 1 false x53) fun x54 =>
Φ K.lower_maker_find [a0, x52] H50 fun x55 H56 =>
(aload H56 1 false x53 = some x54) ∧
(Φ K.lower_maker_set [a0, x55, x54] H56 fun x57 H58 =>
 Do (afaddr 3 x1) fun x59 =>
 Do (aload H58 1 false x59) fun x60 =>
 Do (afaddr 2 x12) fun x61 =>
 Do (aload H58 1 false x61) fun x62 =>
Φ K.lower_maker_find [a0, x60] H58 fun x63 H64 =>
(aload H64 1 false x61 = some x62) ∧
(Φ K.lower_maker_set [a0, x63, x62] H64 fun x65 H66 =>
 Q (.tup []) H66))))))))
def ir_lower_maker_loaded : AFunc := ⟨57, [],
 .seq (.region [
   ⟨some 3, .box false 10 (.t 1), none⟩])
 (.seq (.region [
   ⟨some 6, .mv (.t 0), none⟩,
   ⟨some 7, .faddr 5 (.t 3), none⟩,
   ⟨some 8, .load 2 true (.t 7), none⟩,
   ⟨some 9, .call K.lower_maker_place [(.t 6), (.t 8)], none⟩,
   ⟨some 4, .alloc true [.int .i64 0, .int .i64 0, .int .i64 0, .bool false, .int .i64 0, .int .i64 0, .int .i64 0, .int .i64 0], none⟩,
   ⟨none, .store 8 (.t 4) (.t 9), none⟩])
 (.seq (.region [
   ⟨some 10, .call K.lower_step [(.k (.int .i64 11))], none⟩,
   ⟨some 5, .alloc true [.int .i64 0, .int .i64 0, .int .i64 0, .int .i64 0, .int .i64 0, .int .i64 0, .int .u64 0, .int .i64 0, .int .i64 0, .int .i64 0, .int .i64 0, .int .i64 0, .int .i64 0], none⟩,
   ⟨none, .store 13 (.t 5) (.t 10), none⟩])
 (.seq (.region [
   ⟨some 11, .mv (.t 0), none⟩,
   ⟨some 12, .load 8 true (.t 4), none⟩,
   ⟨some 13, .call K.lower_maker_address [(.t 11), (.t 12)], none⟩,
   ⟨some 14, .faddr 3 (.t 5), none⟩,
   ⟨none, .store 1 (.t 14) (.t 13), none⟩])
 (.seq (.draw [
   ⟨some 15, .mv (.t 0), none⟩,
   ⟨some 16, .call K.lower_maker_fresh [(.t 15)], none⟩,
   ⟨some 17, .mv (.t 0), none⟩,
   ⟨some 18, .call K.lower_maker_fresh [(.t 17)], none⟩,
   ⟨some 19, .faddr 0 (.t 4), none⟩,
   ⟨some 20, .faddr 0 (.t 19), none⟩,
   ⟨some 21, .faddr 1 (.t 20), none⟩,
   ⟨some 22, .load 1 false (.t 21), none⟩,
   ⟨some 23, .faddr 4 (.t 3), none⟩,
   ⟨some 24, .load 1 false (.t 23), none⟩,
   ⟨some 25, .mv (.t 0), none⟩,
   ⟨some 26, .faddr 0 (.t 3), none⟩,
   ⟨some 27, .load 1 false (.t 26), none⟩,
   ⟨some 28, .faddr 4 (.t 3), none⟩,
   ⟨some 29, .load 1 false (.t 28), none⟩,
   ⟨some 30, .faddr 5 (.t 3), none⟩,
   ⟨some 31, .load 2 true (.t 30), none⟩,
   ⟨some 32, .call K.lower_maker_site [(.t 25), (.t 27), (.t 29), (.t 31)], none⟩,
   ⟨some 33, .faddr 1 (.t 5), none⟩,
   ⟨none, .store 1 (.t 33) (.t 16), none⟩,
   ⟨some 34, .faddr 2 (.t 5), none⟩,
   ⟨none, .store 1 (.t 34) (.t 18), none⟩,
   ⟨some 35, .faddr 8 (.t 5), none⟩,
   ⟨none, .store 1 (.t 35) (.t 22), none⟩,
   ⟨some 36, .faddr 9 (.t 5), none⟩,
   ⟨none, .store 1 (.t 36) (.t 24), none⟩,
   ⟨some 37, .faddr 11 (.t 5), none⟩,
   ⟨none, .store 1 (.t 37) (.t 32), none⟩]
 [[], [0], [], [0, 1, 2], [], [4], [4, 5], [4, 5, 6], [], [8], [], [], [11], [], [13], [], [15], [0, 1, 2, 3, 10, 11, 12, 13, 14, 15, 16], [0, 1], [0, 1, 2, 3, 10, 11, 12, 13, 14, 15, 16, 17, 18], [0, 1, 2, 3, 10, 11, 12, 13, 14, 15, 16, 17, 18, 19], [0, 1, 2, 3, 10, 11, 12, 13, 14, 15, 16, 17, 18, 19, 20], [0, 1, 2, 3, 4, 5, 6, 7, 10, 11, 12, 13, 14, 15, 16, 17, 18, 19, 20, 21], [0, 1, 2, 3, 4, 5, 6, 7, 10, 11, 12, 13, 14, 15, 16, 17, 18, 19, 20, 21, 22], [0, 1, 2, 3, 4, 5, 6, 7, 8, 9, 10, 11, 12, 13, 14, 15, 16, 17, 18, 19, 20, 21, 22, 23], [0, 1, 2, 3, 4, 5, 6, 7, 8, 9, 10, 11, 12, 13, 14, 15, 16, 17, 18, 19, 20, 21, 22, 23, 24], [0, 1, 2, 3, 4, 5, 6, 7, 8, 9, 10, 11, 12, 13, 14, 15, 16, 17, 18, 19, 20, 21, 22, 23, 24, 25], [0, 1, 2, 3, 4, 5, 6, 7, 8, 9, 10, 11, 12, 13, 14, 15, 16, 17, 18, 19, 20, 21, 22, 23, 24, 25, 26]] [([0, 2, 4, 5, 6, 7, 8, 9, 10, 11, 12, 13, 14, 15, 16], 1, [7, 9, 12, 14, 16]), ([18], 3, [7, 9, 12, 14, 16]), ([], 17, [7, 9]), ([], 19, [7, 9]), ([20], 21, [7, 9]), ([22], 23, [9]), ([24], 25, []), ([26], 27, [])] [])
 (.seq (.region [
   ⟨some 38, .mv (.t 0), none⟩,
   ⟨some 39, .load 13 true (.t 5), none⟩,
   ⟨some 40, .call K.lower_maker_add [(.t 38), (.t 39)], none⟩])
 (.seq (.draw [
   ⟨some 41, .mv (.t 0), none⟩,
   ⟨some 42, .mv (.t 0), none⟩,
   ⟨some 43, .faddr 2 (.t 3), none⟩,
   ⟨some 44, .load 1 false (.t 43), none⟩,
   ⟨some 45, .call K.lower_maker_find [(.t 42), (.t 44)], none⟩,
   ⟨some 46, .faddr 1 (.t 5), none⟩,
   ⟨some 47, .load 1 false (.t 46), none⟩,
   ⟨some 48, .call K.lower_maker_set [(.t 41), (.t 45), (.t 47)], none⟩]
 [[], [], [], [2], [1, 2, 3], [], [5], [0, 1, 2, 3, 4, 5, 6]] [([0, 1, 2, 3, 5, 6], 4, [6]), ([], 7, [])] [])
 (.draw [
   ⟨some 49, .mv (.t 0), none⟩,
   ⟨some 50, .mv (.t 0), none⟩,
   ⟨some 51, .faddr 3 (.t 3), none⟩,
   ⟨some 52, .load 1 false (.t 51), none⟩,
   ⟨some 53, .call K.lower_maker_find [(.t 50), (.t 52)], none⟩,
   ⟨some 54, .faddr 2 (.t 5), none⟩,
   ⟨some 55, .load 1 false (.t 54), none⟩,
   ⟨some 56, .call K.lower_maker_set [(.t 49), (.t 53), (.t 55)], none⟩]
 [[], [], [], [2], [1, 2, 3], [], [5], [0, 1, 2, 3, 4, 5, 6]] [([0, 1, 2, 3, 5, 6], 4, [6]), ([], 7, [])] [])))))))⟩
theorem eq_lower_maker_loaded (Φ : Calls') (a0 a1 : AV) (H : AH) (Q : Post) : fnE1 Φ ir_lower_maker_loaded [a0, a1] H Q = lower_maker_loaded Φ a0 a1 H Q := by kernel_rfl

/-! rabbet/lower.step -/
def lower_step (Φ : Calls') (a0 : AV) (H : AH) (Q : Post) : Prop :=
 DoH (some (abox H true [.int .i64 0, .int .i64 0, .int .i64 0, .int .i64 0, .int .i64 0, .int .i64 0, .int .u64 0, .int .i64 0, .int .i64 0, .int .i64 0, .int .i64 0, .int .i64 0, .int .i64 0])) fun x1 H2 =>
 Do (abuild [.int .i64 0, .int .i64 0, .int .i64 0, .int .i64 0, .int .i64 0, .int .i64 0, .int .u64 0, .int .i64 0, .int .i64 0, .int .i64 0, .int .i64 0, .int .i64 0, .int .i64 0] [(0, 1, a0), (1, 1, (.int .i64 (-1))), (2, 1, (.int .i64 (-1))), (3, 1, (.int .i64 (-1))), (4, 1, (.int .i64 (-1))), (5, 1, (.int .i64 (-1)))]) fun x3 =>
 Do (astore H2 13 x1 x3) fun H4 =>
 Do (aload H4 13 true x1) fun x5 =>
 Q x5 H4
def ir_lower_step : AFunc := ⟨5, [.cell 2 13 true],
 .seq (.region [
   ⟨some 2, .alloc true [.int .i64 0, .int .i64 0, .int .i64 0, .int .i64 0, .int .i64 0, .int .i64 0, .int .u64 0, .int .i64 0, .int .i64 0, .int .i64 0, .int .i64 0, .int .i64 0, .int .i64 0], none⟩])
 (.seq (.region [
   ⟨some 3, .mv (.t 0), none⟩,
   ⟨some 4, .build [.int .i64 0, .int .i64 0, .int .i64 0, .int .i64 0, .int .i64 0, .int .i64 0, .int .u64 0, .int .i64 0, .int .i64 0, .int .i64 0, .int .i64 0, .int .i64 0, .int .i64 0] [(0, 1, (.t 3)), (1, 1, (.k (.int .i64 (-1)))), (2, 1, (.k (.int .i64 (-1)))), (3, 1, (.k (.int .i64 (-1)))), (4, 1, (.k (.int .i64 (-1)))), (5, 1, (.k (.int .i64 (-1))))], none⟩,
   ⟨none, .store 13 (.t 2) (.t 4), none⟩])
 (.ret))⟩
theorem eq_lower_step (Φ : Calls') (a0 : AV) (H : AH) (Q : Post) : fnE1 Φ ir_lower_step [a0] H Q = lower_step Φ a0 H Q := by kernel_rfl

/-! (rabbet/lower.maker).site -/
def lower_maker_site (Φ : Calls') (a0 : AV) (a1 : AV) (a2 : AV) (a3 : AV) (H : AH) (Q : Post) : Prop :=
 DoH (aboxv H false 2 a3) fun x1 H2 =>
 Do (anilck a0) fun x3 =>
 Do (afaddr 5 x3) fun x4 =>
 Do (aload H2 1 false x4) fun x5 =>
 Do (anilck a0) fun x6 =>
 Do (afaddr 6 x6) fun x7 =>
 Do (aload H2 1 false x7) fun x8 =>
 Do (aload H2 2 true x1) fun x9 =>
 Do (abuild [.int .i64 0, .int .i64 0, .int .i64 0, .str [], .lst .nil 0 []] [(0, 1, a1), (1, 1, a2), (2, 1, x8), (3, 2, x9)]) fun x10 =>
 DoH (abslice H2 false 5 1 [.int .i64 0, .int .i64 0, .int .i64 0, .str [], .lst .nil 0 []] [(0, 5, x10)]) fun x11 H12 =>
 DoH (aappend H12 false 5 64 x5 x11) fun x13 H14 =>
 Do (anilck a0) fun x15 =>
 Do (afaddr 5 x15) fun x16 =>
 Do (astore H14 1 x16 x13) fun H17 =>
 Do (anilck a0) fun x18 =>
 Do (afaddr 5 x18) fun x19 =>
 Do (aload H17 1 false x19) fun x20 =>
 Do (alen false x20) fun x21 =>
 Q x21 H17
def ir_lower_maker_site : AFunc := ⟨31, [.tmp 8],
 .seq (.region [
   ⟨some 7, .box false 2 (.t 3), none⟩,
   ⟨some 8, .mv (.k (.int .i64 0)), none⟩])
 (.seq (.draw [
   ⟨some 9, .mv (.t 0), none⟩,
   ⟨some 10, .mv (.t 0), none⟩,
   ⟨some 11, .nilck (.t 10), none⟩,
   ⟨some 12, .faddr 5 (.t 11), none⟩,
   ⟨some 13, .load 1 false (.t 12), none⟩,
   ⟨some 14, .mv (.t 1), none⟩,
   ⟨some 15, .mv (.t 2), none⟩,
   ⟨some 16, .mv (.t 0), none⟩,
   ⟨some 17, .nilck (.t 16), none⟩,
   ⟨some 18, .faddr 6 (.t 17), none⟩,
   ⟨some 19, .load 1 false (.t 18), none⟩,
   ⟨some 20, .load 2 true (.t 7), none⟩,
   ⟨some 21, .build [.int .i64 0, .int .i64 0, .int .i64 0, .str [], .lst .nil 0 []] [(0, 1, (.t 14)), (1, 1, (.t 15)), (2, 1, (.t 19)), (3, 2, (.t 20))], none⟩,
   ⟨some 22, .bslice false 5 1 [.int .i64 0, .int .i64 0, .int .i64 0, .str [], .lst .nil 0 []] [(0, 5, (.t 21))], none⟩,
   ⟨some 23, .append false 5 64 (.t 13) (.t 22), none⟩,
   ⟨some 24, .nilck (.t 9), none⟩,
   ⟨some 25, .faddr 5 (.t 24), none⟩,
   ⟨none, .store 1 (.t 25) (.t 23), none⟩]
 [[], [], [1], [1, 2], [1, 2, 3], [], [], [], [7], [7, 8], [7, 8, 9], [], [5, 6, 7, 8, 9, 10, 11], [5, 6, 7, 8, 9, 10, 11, 12], [1, 2, 3, 4, 5, 6, 7, 8, 9, 10, 11, 12, 13], [0, 1, 2, 3, 4, 5, 6, 7, 8, 9, 10, 11, 12, 13, 14], [0, 1, 2, 3, 4, 5, 6, 7, 8, 9, 10, 11, 12, 13, 14, 15], [0, 1, 2, 3, 4, 5, 6, 7, 8, 9, 10, 11, 12, 13, 14, 15, 16]] [([0, 1, 2, 3, 4, 5, 6, 7, 8, 9, 10, 11, 12, 13], 14, []), ([15, 16], 17, [])] [])
 (.seq (.region [
   ⟨some 26, .mv (.t 0), none⟩,
   ⟨some 27, .nilck (.t 26), none⟩,
   ⟨some 28, .faddr 5 (.t 27), none⟩,
   ⟨some 29, .load 1 false (.t 28), none⟩,
   ⟨some 30, .len false (.t 29), none⟩,
   ⟨some 8, .mv (.t 30), none⟩])
 (.ret)))⟩
theorem eq_lower_maker_site (Φ : Calls') (a0 a1 a2 a3 : AV) (H : AH) (Q : Post) : fnE1 Φ ir_lower_maker_site [a0, a1, a2, a3] H Q = lower_maker_site Φ a0 a1 a2 a3 H Q := by kernel_rfl

/-! (rabbet/lower.maker).add -/
def lower_maker_add (Φ : Calls') (a0 : AV) (a1 : AV) (H : AH) (Q : Post) : Prop :=
 DoH (aboxv H true 13 a1) fun x1 H2 =>
 Do (anilck a0) fun x3 =>
 Do (afaddr 6 x3) fun x4 =>
 Do (aload H2 1 false x4) fun x5 =>
 Do (afaddr 12 x1) fun x6 =>
 Do (astore H2 1 x6 x5) fun H7 =>
 Do (anilck a0) fun x8 =>
 Do (afaddr 2 x8) fun x9 =>
 Do (aload H7 1 false x9) fun x10 =>
 Do (aload H7 13 true x1) fun x11 =>
 DoH (abslice H7 false 13 1 [.int .i64 0, .int .i64 0, .int .i64 0, .int .i64 0, .int .i64 0, .int .i64 0, .int .u64 0, .int .i64 0, .int .i64 0, .int .i64 0, .int .i64 0, .int .i64 0, .int .i64 0] [(0, 13, x11)]) fun x12 H13 =>
 DoH (aappend H13 false 13 104 x10 x12) fun x14 H15 =>
 Do (anilck a0) fun x16 =>
 Do (afaddr 2 x16) fun x17 =>
 Do (astore H15 1 x17 x14) fun H18 =>
 Q (.tup []) H18
def ir_lower_maker_add : AFunc := ⟨19, [],
 .seq (.region [
   ⟨some 3, .box true 13 (.t 1), none⟩])
 (.seq (.region [
   ⟨some 4, .mv (.t 0), none⟩,
   ⟨some 5, .nilck (.t 4), none⟩,
   ⟨some 6, .faddr 6 (.t 5), none⟩,
   ⟨some 7, .load 1 false (.t 6), none⟩,
   ⟨some 8, .faddr 12 (.t 3), none⟩,
   ⟨none, .store 1 (.t 8) (.t 7), none⟩])
 (.draw [
   ⟨some 9, .mv (.t 0), none⟩,
   ⟨some 10, .mv (.t 0), none⟩,
   ⟨some 11, .nilck (.t 10), none⟩,
   ⟨some 12, .faddr 2 (.t 11), none⟩,
   ⟨some 13, .load 1 false (.t 12), none⟩,
   ⟨some 14, .load 13 true (.t 3), none⟩,
   ⟨some 15, .bslice false 13 1 [.int .i64 0, .int .i64 0, .int .i64 0, .int .i64 0, .int .i64 0, .int .i64 0, .int .u64 0, .int .i64 0, .int .i64 0, .int .i64 0, .int .i64 0, .int .i64 0, .int .i64 0] [(0, 13, (.t 14))], none⟩,
   ⟨some 16, .append false 13 104 (.t 13) (.t 15), none⟩,
   ⟨some 17, .nilck (.t 9), none⟩,
   ⟨some 18, .faddr 2 (.t 17), none⟩,
   ⟨none, .store 1 (.t 18) (.t 16), none⟩]
 [[], [], [1], [1, 2], [1, 2, 3], [], [5], [1, 2, 3, 4, 5, 6], [0, 1, 2, 3, 4, 5, 6, 7], [0, 1, 2, 3, 4, 5, 6, 7, 8], [0, 1, 2, 3, 4, 5, 6, 7, 8, 9]] [([0, 1, 2, 3, 4, 5, 6], 7, []), ([8, 9], 10, [])] []))⟩
theorem eq_lower_maker_add (Φ : Calls') (a0 a1 : AV) (H : AH) (Q : Post) : fnE1 Φ ir_lower_maker_add [a0, a1] H Q = lower_maker_add Φ a0 a1 H Q := by kernel_rfl

/-! (rabbet/lower.maker).choose -/
def lower_maker_choose (Φ : Calls') (a0 : AV) (a1 : AV) (H : AH) (Q : Post) : Prop :=
 DoH (aboxv H false 10 a1) fun x1 H2 =>
Φ K.lower_maker_label [a0] H2 fun x3 H4 =>
Φ K.lower_maker_label [a0] H4 fun x5 H6 =>
 Do (afaddr 7 x1) fun x7 =>
 Do (aload H6 1 false x7) fun x8 =>
 Do (aiaddr none 8 x8 (.int .i64 0)) fun x9 =>
 Do (aload H6 8 true x9) fun x10 =>
Φ K.lower_maker_expr [a0, x10] H6 fun x11 H12 =>
Φ K.lower_maker_jump [a0, x3, x11] H12 fun x13 H14 =>
 Do (afaddr 8 x1) fun x15 =>
 Do (aload H14 1 false x15) fun x16 =>
Φ K.lower_maker_block [a0, x16] H14 fun x17 H18 =>
 Do (afaddr 1 x1) fun x19 =>
 Do (aload H18 1 false x19) fun x20 =>
 Do (anilck a0) fun x21 =>
 Do (afaddr 6 x21) fun x22 =>
 Do (astore H18 1 x22 x20) fun H23 =>
Φ K.lower_maker_jump [a0, x5, (.int .i64 (-1))] H23 fun x24 H25 =>
Φ K.lower_maker_mark [a0, x3] H25 fun x26 H27 =>
 Do (afaddr 9 x1) fun x28 =>
 Do (aload H27 1 false x28) fun x29 =>
Φ K.lower_maker_block [a0, x29] H27 fun x30 H31 =>
 Do (afaddr 1 x1) fun x32 =>
 Do (aload H31 1 false x32) fun x33 =>
 Do (anilck a0) fun x34 =>
 Do (afaddr 6 x34) fun x35 =>
 Do (astore H31 1 x35 x33) fun H36 =>
Φ K.lower_maker_mark [a0, x5] H36 fun x37 H38 =>
 Q (.tup []) H38
def ir_lower_maker_choose : AFunc := ⟨46, [],
 .seq (.region [
   ⟨some 3, .box false 10 (.t 1), none⟩])
 (.seq (.region [
   ⟨some 6, .mv (.t 0), none⟩,
   ⟨some 7, .call K.lower_maker_label [(.t 6)], none⟩,
   ⟨some 8, .mv (.t 0), none⟩,
   ⟨some 9, .call K.lower_maker_label [(.t 8)], none⟩,
   ⟨some 4, .mv (.t 7), none⟩,
   ⟨some 5, .mv (.t 9), none⟩])
 (.seq (.region [
   ⟨some 10, .mv (.t 0), none⟩,
   ⟨some 11, .mv (.t 4), none⟩,
   ⟨some 12, .mv (.t 0), none⟩,
   ⟨some 13, .faddr 7 (.t 3), none⟩,
   ⟨some 14, .load 1 false (.t 13), none⟩,
   ⟨some 15, .iaddr none 8 (.t 14) (.k (.int .i64 0)), none⟩,
   ⟨some 16, .load 8 true (.t 15), none⟩,
   ⟨some 17, .call K.lower_maker_expr [(.t 12), (.t 16)], none⟩,
   ⟨some 18, .call K.lower_maker_jump [(.t 10), (.t 11), (.t 17)], none⟩])
 (.seq (.region [
   ⟨some 19, .mv (.t 0), none⟩,
   ⟨some 20, .faddr 8 (.t 3), none⟩,
   ⟨some 21, .load 1 false (.t 20), none⟩,
   ⟨some 22, .call K.lower_maker_block [(.t 19), (.t 21)], none⟩])
 (.seq (.region [
   ⟨some 23, .mv (.t 0), none⟩,
   ⟨some 24, .faddr 1 (.t 3), none⟩,
   ⟨some 25, .load 1 false (.t 24), none⟩,
   ⟨some 26, .nilck (.t 23), none⟩,
   ⟨some 27, .faddr 6 (.t 26), none⟩,
   ⟨none, .store 1 (.t 27) (.t 25), none⟩])
 (.seq (.region [
   ⟨some 28, .mv (.t 0), none⟩,
   ⟨some 29, .mv (.t 5), none⟩,
   ⟨some 30, .call K.lower_maker_jump [(.t 28), (.t 29), (.k (.int .i64 (-1)))], none⟩])
 (.seq (.region [
   ⟨some 31, .mv (.t 0), none⟩,
   ⟨some 32, .mv (.t 4), none⟩,
   ⟨some 33, .call K.lower_maker_mark [(.t 31), (.t 32)], none⟩])
 (.seq (.region [
   ⟨some 34, .mv (.t 0), none⟩,
   ⟨some 35, .faddr 9 (.t 3), none⟩,
   ⟨some 36, .load 1 false (.t 35), none⟩,
   ⟨some 37, .call K.lower_maker_block [(.t 34), (.t 36)], none⟩])
 (.seq (.region [
   ⟨some 38, .mv (.t 0), none⟩,
   ⟨some 39, .faddr 1 (.t 3), none⟩,
   ⟨some 40, .load 1 false (.t 39), none⟩,
   ⟨some 41, .nilck (.t 38), none⟩,
   ⟨some 42, .faddr 6 (.t 41), none⟩,
   ⟨none, .store 1 (.t 42) (.t 40), none⟩])
 (.region [
   ⟨some 43, .mv (.t 0), none⟩,
   ⟨some 44, .mv (.t 5), none⟩,
   ⟨some 45, .call K.lower_maker_mark [(.t 43), (.t 44)], none⟩])))))))))⟩
theorem eq_lower_maker_choose (Φ : Calls') (a0 a1 : AV) (H : AH) (Q : Post) : fnE1 Φ ir_lower_maker_choose [a0, a1] H Q = lower_maker_choose Φ a0 a1 H Q := by kernel_rfl

/-! (rabbet/lower.maker).loop -/
def lower_maker_loop (Φ : Calls') (a0 : AV) (a1 : AV) (H : AH) (Q : Post) : Prop :=
 DoH (aboxv H false 10 a1) fun x1 H2 =>
Φ K.lower_maker_label [a0] H2 fun x3 H4 =>
Φ K.lower_maker_label [a0] H4 fun x5 H6 =>
Φ K.lower_maker_mark [a0, x3] H6 fun x7 H8 =>
 Do (afaddr 7 x1) fun x9 =>
 Do (aload H8 1 false x9) fun x10 =>
 Do (aiaddr none 8 x10 (.int .i64 0)) fun x11 =>
 Do (aload H8 8 true x11) fun x12 =>
Φ K.lower_maker_expr [a0, x12] H8 fun x13 H14 =>
Φ K.lower_maker_jump [a0, x5, x13] H14 fun x15 H16 =>
 Do (afaddr 8 x1) fun x17 =>
 Do (aload H16 1 false x17) fun x18 =>
Φ K.lower_maker_block [a0, x18] H16 fun x19 H20 =>
 Do (afaddr 1 x1) fun x21 =>
 Do (aload H20 1 false x21) fun x22 =>
 Do (anilck a0) fun x23 =>
 Do (afaddr 6 x23) fun x24 =>
 Do (astore H20 1 x24 x22) fun H25 =>
Φ K.lower_maker_jump [a0, x3, (.int .i64 (-1))] H25 fun x26 H27 =>
Φ K.lower_maker_mark [a0, x5] H27 fun x28 H29 =>
 Q (.tup []) H29
def ir_lower_maker_loop : AFunc := ⟨37, [],
 .seq (.region [
   ⟨some 3, .box false 10 (.t 1), none⟩])
 (.seq (.region [
   ⟨some 6, .mv (.t 0), none⟩,
   ⟨some 7, .call K.lower_maker_label [(.t 6)], none⟩,
   ⟨some 8, .mv (.t 0), none⟩,
   ⟨some 9, .call K.lower_maker_label [(.t 8)], none⟩,
   ⟨some 4, .mv (.t 7), none⟩,
   ⟨some 5, .mv (.t 9), none⟩])
 (.seq (.region [
   ⟨some 10, .mv (.t 0), none⟩,
   ⟨some 11, .mv (.t 4), none⟩,
   ⟨some 12, .call K.lower_maker_mark [(.t 10), (.t 11)], none⟩])
 (.seq (.region [
   ⟨some 13, .mv (.t 0), none⟩,
   ⟨some 14, .mv (.t 5), none⟩,
   ⟨some 15, .mv (.t 0), none⟩,
   ⟨some 16, .faddr 7 (.t 3), none⟩,
   ⟨some 17, .load 1 false (.t 16), none⟩,
   ⟨some 18, .iaddr none 8 (.t 17) (.k (.int .i64 0)), none⟩,
   ⟨some 19, .load 8 true (.t 18), none⟩,
   ⟨some 20, .call K.lower_maker_expr [(.t 15), (.t 19)], none⟩,
   ⟨some 21, .call K.lower_maker_jump [(.t 13), (.t 14), (.t 20)], none⟩])
 (.seq (.region [
   ⟨some 22, .mv (.t 0), none⟩,
   ⟨some 23, .faddr 8 (.t 3), none⟩,
   ⟨some 24, .load 1 false (.t 23), none⟩,
   ⟨some 25, .call K.lower_maker_block [(.t 22), (.t 24)], none⟩])
 (.seq (.region [
   ⟨some 26, .mv (.t 0), none⟩,
   ⟨some 27, .faddr 1 (.t 3), none⟩,
   ⟨some 28, .load 1 false (.t 27), none⟩,
   ⟨some 29, .nilck (.t 26), none⟩,
   ⟨some 30, .faddr 6 (.t 29), none⟩,
   ⟨none, .store 1 (.t 30) (.t 28), none⟩])
 (.seq (.region [
   ⟨some 31, .mv (.t 0), none⟩,
   ⟨some 32, .mv (.t 4), none⟩,
   ⟨some 33, .call K.lower_maker_jump [(.t 31), (.t 32), (.k (.int .i64 (-1)))], none⟩])
 (.region [
   ⟨some 34, .mv (.t 0), none⟩,
   ⟨some 35, .mv (.t 5), none⟩,
   ⟨some 36, .call K.lower_maker_mark [(.t 34), (.t 35)], none⟩])))))))⟩
theorem eq_lower_maker_loop (Φ : Calls') (a0 a1 : AV) (H : AH) (Q : Post) : fnE1 Φ ir_lower_maker_loop [a0, a1] H Q = lower_maker_loop Φ a0 a1 H Q := by kernel_rfl

/-! (rabbet/lower.maker).number -/
def lower_maker_number (Φ : Calls') (a0 : AV) (a1 : AV) (H : AH) (Q : Post) : Prop :=
Φ K.lower_step [(.int .i64 1)] H fun x1 H2 =>
 DoH (some (abox H2 true [.int .i64 0, .int .i64 0, .int .i64 0, .int .i64 0, .int .i64 0, .int .i64 0, .int .u64 0, .int .i64 0, .int .i64 0, .int .i64 0, .int .i64 0, .int .i64 0, .int .i64 0])) fun x3 H4 =>
 Do (astore H4 13 x3 x1) fun H5 =>
Φ K.lower_maker_fresh [a0] H5 fun x6 H7 =>
 Do (afaddr 1 x3) fun x8 =>
 Do (astore H7 1 x8 x6) fun H9 =>
 Do (afaddr 6 x3) fun x10 =>
 Do (astore H9 1 x10 a1) fun H11 =>
 Do (aload H11 13 true x3) fun x12 =>
Φ K.lower_maker_add [a0, x12] H11 fun x13 H14 =>
 Do (afaddr 1 x3) fun x15 =>
 Do (aload H14 1 false x15) fun x16 =>
 Q x16 H14
def ir_lower_maker_number : AFunc := ⟨17, [.tmp 4],
 .seq (.region [
   ⟨some 4, .mv (.k (.int .i64 0)), none⟩])
 (.seq (.region [
   ⟨some 6, .call K.lower_step [(.k (.int .i64 1))], none⟩,
   ⟨some 5, .alloc true [.int .i64 0, .int .i64 0, .int .i64 0, .int .i64 0, .int .i64 0, .int .i64 0, .int .u64 0, .int .i64 0, .int .i64 0, .int .i64 0, .int .i64 0, .int .i64 0, .int .i64 0], none⟩,
   ⟨none, .store 13 (.t 5) (.t 6), none⟩])
 (.seq (.region [
   ⟨some 7, .mv (.t 0), none⟩,
   ⟨some 8, .call K.lower_maker_fresh [(.t 7)], none⟩,
   ⟨some 9, .mv (.t 1), none⟩,
   ⟨some 10, .faddr 1 (.t 5), none⟩,
   ⟨none, .store 1 (.t 10) (.t 8), none⟩,
   ⟨some 11, .faddr 6 (.t 5), none⟩,
   ⟨none, .store 1 (.t 11) (.t 9), none⟩])
 (.seq (.region [
   ⟨some 12, .mv (.t 0), none⟩,
   ⟨some 13, .load 13 true (.t 5), none⟩,
   ⟨some 14, .call K.lower_maker_add [(.t 12), (.t 13)], none⟩])
 (.seq (.region [
   ⟨some 15, .faddr 1 (.t 5), none⟩,
   ⟨some 16, .load 1 false (.t 15), none⟩,
   ⟨some 4, .mv (.t 16), none⟩])
 (.ret)))))⟩
theorem eq_lower_maker_number (Φ : Calls') (a0 a1 : AV) (H : AH) (Q : Post) : fnE1 Φ ir_lower_maker_number [a0, a1] H Q = lower_maker_number Φ a0 a1 H Q := by kernel_rfl

/-! (rabbet/lower.maker).bin -/
def lower_maker_bin (Φ : Calls') (a0 : AV) (a1 : AV) (a2 : AV) (a3 : AV) (H : AH) (Q : Post) : Prop :=
Φ K.lower_step [(.int .i64 3)] H fun x1 H2 =>
 DoH (some (abox H2 true [.int .i64 0, .int .i64 0, .int .i64 0, .int .i64 0, .int .i64 0, .int .i64 0, .int .u64 0, .int .i64 0, .int .i64 0, .int .i64 0, .int .i64 0, .int .i64 0, .int .i64 0])) fun x3 H4 =>
 Do (astore H4 13 x3 x1) fun H5 =>
Φ K.lower_maker_fresh [a0] H5 fun x6 H7 =>
 Do (afaddr 1 x3) fun x8 =>
 Do (astore H7 1 x8 x6) fun H9 =>
 Do (afaddr 7 x3) fun x10 =>
 Do (astore H9 1 x10 a1) fun H11 =>
 Do (afaddr 3 x3) fun x12 =>
 Do (astore H11 1 x12 a2) fun H13 =>
 Do (afaddr 4 x3) fun x14 =>
 Do (astore H13 1 x14 a3) fun H15 =>
 Do (aload H15 13 true x3) fun x16 =>
Φ K.lower_maker_add [a0, x16] H15 fun x17 H18 =>
 Do (afaddr 1 x3) fun x19 =>
 Do (aload H18 1 false x19) fun x20 =>
 Q x20 H18
def ir_lower_maker_bin : AFunc := ⟨25, [.tmp 8],
 .seq (.region [
   ⟨some 8, .mv (.k (.int .i64 0)), none⟩])
 (.seq (.region [
   ⟨some 10, .call K.lower_step [(.k (.int .i64 3))], none⟩,
   ⟨some 9, .alloc true [.int .i64 0, .int .i64 0, .int .i64 0, .int .i64 0, .int .i64 0, .int .i64 0, .int .u64 0, .int .i64 0, .int .i64 0, .int .i64 0, .int .i64 0, .int .i64 0, .int .i64 0], none⟩,
   ⟨none, .store 13 (.t 9) (.t 10), none⟩])
 (.seq (.region [
   ⟨some 11, .mv (.t 0), none⟩,
   ⟨some 12, .call K.lower_maker_fresh [(.t 11)], none⟩,
   ⟨some 13, .mv (.t 1), none⟩,
   ⟨some 14, .mv (.t 2), none⟩,
   ⟨some 15, .mv (.t 3), none⟩,
   ⟨some 16, .faddr 1 (.t 9), none⟩,
   ⟨none, .store 1 (.t 16) (.t 12), none⟩,
   ⟨some 17, .faddr 7 (.t 9), none⟩,
   ⟨none, .store 1 (.t 17) (.t 13), none⟩,
   ⟨some 18, .faddr 3 (.t 9), none⟩,
   ⟨none, .store 1 (.t 18) (.t 14), none⟩,
   ⟨some 19, .faddr 4 (.t 9), none⟩,
   ⟨none, .store 1 (.t 19) (.t 15), none⟩])
 (.seq (.region [
   ⟨some 20, .mv (.t 0), none⟩,
   ⟨some 21, .load 13 true (.t 9), none⟩,
   ⟨some 22, .call K.lower_maker_add [(.t 20), (.t 21)], none⟩])
 (.seq (.region [
   ⟨some 23, .faddr 1 (.t 9), none⟩,
   ⟨some 24, .load 1 false (.t 23), none⟩,
   ⟨some 8, .mv (.t 24), none⟩])
 (.ret)))))⟩
theorem eq_lower_maker_bin (Φ : Calls') (a0 a1 a2 a3 : AV) (H : AH) (Q : Post) : fnE1 Φ ir_lower_maker_bin [a0, a1, a2, a3] H Q = lower_maker_bin Φ a0 a1 a2 a3 H Q := by kernel_rfl

/-! (rabbet/lower.maker).read -/
def lower_maker_read (Φ : Calls') (a0 : AV) (a1 : AV) (H : AH) (Q : Post) : Prop :=
 DoH (aboxv H false 2 a1) fun x1 H2 =>
 Do (aload H2 2 true x1) fun x3 =>
Φ K.lower_maker_place [a0, x3] H2 fun x4 H5 =>
 DoH (some (abox H5 true [.int .i64 0, .int .i64 0, .int .i64 0, .bool false, .int .i64 0, .int .i64 0, .int .i64 0, .int .i64 0])) fun x6 H7 =>
 Do (astore H7 8 x6 x4) fun H8 =>
 Do (aload H8 8 true x6) fun x9 =>
Φ K.lower_maker_address [a0, x9] H8 fun x10 H11 =>
 Do (aload H11 8 true x6) fun x12 =>
 Do (aload H11 2 true x1) fun x13 =>
Φ K.lower_maker_site [a0, (.int .i64 14), (.int .i64 0), x13] H11 fun x14 H15 =>
(aload H15 8 true x6 = some x12) ∧
(Φ K.lower_maker_load [a0, x12, x10, x14] H15 fun x16 H17 =>
 Do (afaddr 0 x6) fun x18 =>
 Do (afaddr 3 x18) fun x19 =>
 Do (aload H17 1 false x19) fun x20 =>
 Gd x20 true (
 Do (afaddr 0 x6) fun x21 =>
 Do (afaddr 4 x21) fun x22 =>
 Do (aload H17 1 false x22) fun x23 =>
 Do (aconv .u64 x23) fun x24 =>
 Do (afaddr 0 x6) fun x25 =>
 Do (afaddr 5 x25) fun x26 =>
 Do (aload H17 1 false x26) fun x27 =>
Φ K.lower_maker_with [a0, (.int .i64 8), x16, x24] H17 fun x28 H29 =>
(aload H29 1 false x26 = some x27) ∧
(Φ K.lower_ones [x27] H29 fun x30 H31 =>
Φ K.lower_maker_with [a0, (.int .i64 4), x28, x30] H31 fun x32 H33 =>
 Q x32 H33)) (
 Q x16 H17))
def ir_lower_maker_read : AFunc := ⟨38, [.tmp 4],
 .seq (.region [
   ⟨some 3, .box false 2 (.t 1), none⟩,
   ⟨some 4, .mv (.k (.int .i64 0)), none⟩])
 (.seq (.region [
   ⟨some 8, .mv (.t 0), none⟩,
   ⟨some 9, .load 2 true (.t 3), none⟩,
   ⟨some 10, .call K.lower_maker_place [(.t 8), (.t 9)], none⟩,
   ⟨some 5, .alloc true [.int .i64 0, .int .i64 0, .int .i64 0, .bool false, .int .i64 0, .int .i64 0, .int .i64 0, .int .i64 0], none⟩,
   ⟨none, .store 8 (.t 5) (.t 10), none⟩])
 (.seq (.region [
   ⟨some 11, .mv (.t 0), none⟩,
   ⟨some 12, .load 8 true (.t 5), none⟩,
   ⟨some 13, .call K.lower_maker_address [(.t 11), (.t 12)], none⟩,
   ⟨some 6, .mv (.t 13), none⟩])
 (.seq (.draw [
   ⟨some 14, .mv (.t 0), none⟩,
   ⟨some 15, .load 8 true (.t 5), none⟩,
   ⟨some 16, .mv (.t 6), none⟩,
   ⟨some 17, .mv (.t 0), none⟩,
   ⟨some 18, .load 2 true (.t 3), none⟩,
   ⟨some 19, .call K.lower_maker_site [(.t 17), (.k (.int .i64 14)), (.k (.int .i64 0)), (.t 18)], none⟩,
   ⟨some 20, .call K.lower_maker_load [(.t 14), (.t 15), (.t 16), (.t 19)], none⟩,
   ⟨some 7, .mv (.t 20), none⟩]
 [[], [], [], [], [], [3, 4], [0, 1, 2, 3, 4, 5], [0, 1, 2, 3, 4, 5, 6]] [([0, 1, 2, 3, 4], 5, [1]), ([], 6, [])] [7])
 (.seq (.seq (.region [
   ⟨some 21, .faddr 0 (.t 5), none⟩,
   ⟨some 22, .faddr 3 (.t 21), none⟩,
   ⟨some 23, .load 1 false (.t 22), none⟩])
 (.cond (.t 23) (.draw [
     ⟨some 24, .mv (.t 0), none⟩,
     ⟨some 25, .mv (.t 0), none⟩,
     ⟨some 26, .mv (.t 7), none⟩,
     ⟨some 27, .faddr 0 (.t 5), none⟩,
     ⟨some 28, .faddr 4 (.t 27), none⟩,
     ⟨some 29, .load 1 false (.t 28), none⟩,
     ⟨some 30, .conv .u64 (.t 29), none⟩,
     ⟨some 31, .call K.lower_maker_with [(.t 25), (.k (.int .i64 8)), (.t 26), (.t 30)], none⟩,
     ⟨some 32, .faddr 0 (.t 5), none⟩,
     ⟨some 33, .faddr 5 (.t 32), none⟩,
     ⟨some 34, .load 1 false (.t 33), none⟩,
     ⟨some 35, .call K.lower_ones [(.t 34)], none⟩,
     ⟨some 36, .call K.lower_maker_with [(.t 24), (.k (.int .i64 4)), (.t 31), (.t 35)], none⟩,
     ⟨some 7, .mv (.t 36), none⟩]
   [[], [], [], [], [3], [3, 4], [3, 4, 5], [1, 2, 3, 4, 5, 6], [], [8], [8, 9], [1, 2, 3, 4, 5, 6, 7, 8, 9, 10], [0, 1, 2, 3, 4, 5, 6, 7, 8, 9, 10, 11], [0, 1, 2, 3, 4, 5, 6, 7, 8, 9, 10, 11, 12]] [([0, 1, 2, 3, 4, 5, 6, 8, 9, 10], 7, [10]), ([], 11, []), ([], 12, [])] [13])
   (.skip)))
 (.seq (.region [
   ⟨some 37, .mv (.t 7), none⟩,
   ⟨some 4, .mv (.t 37), none⟩])
 (.ret))))))⟩
theorem eq_lower_maker_read (Φ : Calls') (a0 a1 : AV) (H : AH) (Q : Post) : fnE1 Φ ir_lower_maker_read [a0, a1] H Q = lower_maker_read Φ a0 a1 H Q := by kernel_rfl

/-! (rabbet/lower.maker).atomic -/
def lower_maker_atomic_k1 (Φ : Calls') (a0 : AV) (x1 : AV) (x7 : AV) (x37 : AV) (Q : Post) : List AV → AH → Prop := fun j55 H56 =>
 Do (aload H56 8 true x7) fun x64 =>
Φ K.lower_maker_address [a0, x64] H56 fun x65 H66 =>
 Do (afaddr 3 x37) fun x67 =>
 Do (astore H66 1 x67 x65) fun H68 =>
 Do (afaddr 0 x7) fun x69 =>
 Do (afaddr 0 x69) fun x70 =>
 Do (afaddr 1 x70) fun x71 =>
 Do (aload H68 1 false x71) fun x72 =>
 Do (afaddr 4 x1) fun x73 =>
 Do (aload H68 1 false x73) fun x74 =>
 Do (afaddr 0 x1) fun x75 =>
 Do (aload H68 1 false x75) fun x76 =>
 Do (abin .add (.int .i64 10) x76) fun x77 =>
 Do (afaddr 4 x1) fun x78 =>
 Do (aload H68 1 false x78) fun x79 =>
 Do (afaddr 5 x1) fun x80 =>
 Do (aload H68 2 true x80) fun x81 =>
Φ K.lower_maker_fresh [a0] H68 fun x82 H83 =>
(aload H83 1 false x71 = some x72) ∧
(aload H83 1 false x73 = some x74) ∧
(aload H83 1 false x75 = some x76) ∧
(aload H83 1 false x78 = some x79) ∧
(aload H83 2 true x80 = some x81) ∧
(Do (afaddr 1 x37) fun x84 =>
Φ K.lower_maker_site [a0, x77, x79, x81] H83 fun x85 H86 =>
(aload H86 1 false x71 = some x72) ∧
(aload H86 1 false x73 = some x74) ∧
(Do (astore H86 1 x84 x82) fun H87 =>
(aload H87 1 false x71 = some x72) ∧
(aload H87 1 false x73 = some x74) ∧
(Do (afaddr 8 x37) fun x88 =>
 Do (astore H87 1 x88 x72) fun H89 =>
(aload H89 1 false x73 = some x74) ∧
(Do (afaddr 9 x37) fun x90 =>
 Do (astore H89 1 x90 x74) fun H91 =>
 Do (afaddr 11 x37) fun x92 =>
 Do (astore H91 1 x92 x85) fun H93 =>
 Do (aload H93 13 true x37) fun x94 =>
Φ K.lower_maker_add [a0, x94] H93 fun x95 H96 =>
 Do (afaddr 1 x37) fun x97 =>
 Do (aload H96 1 false x97) fun x98 =>
 Q x98 H96))))
def lower_maker_atomic_k2 (Φ : Calls') (a0 : AV) (x1 : AV) (x7 : AV) (x37 : AV) (j10 : List AV) (Q : Post) : List AV → AH → Prop := fun j40 H41 =>
 Do (afaddr 0 x1) fun x57 =>
 Do (aload H41 1 false x57) fun x58 =>
 Do (abin .eql x58 (.int .i64 8)) fun x59 =>
 Gd x59 true (
 Do (aiaddr none 1 (sl j10 0) (.int .i64 1)) fun x60 =>
 Do (aload H41 1 false x60) fun x61 =>
 Do (afaddr 5 x37) fun x62 =>
 Do (astore H41 1 x62 x61) fun H63 =>
 JoinP (lower_maker_atomic_k1 Φ a0 x1 x7 x37 Q) [] H63) (
 JoinP (lower_maker_atomic_k1 Φ a0 x1 x7 x37 Q) [] H41)
def lower_maker_atomic_k3 (Φ : Calls') (a0 : AV) (x1 : AV) (x7 : AV) (Q : Post) : List AV → AH → Prop := fun j10 H11 =>
 Do (afaddr 0 x1) fun x31 =>
 Do (aload H11 1 false x31) fun x32 =>
 Do (abin .sub x32 (.int .i64 5)) fun x33 =>
 Do (abin .add x33 (.int .i64 6)) fun x34 =>
Φ K.lower_step [x34] H11 fun x35 H36 =>
 DoH (some (abox H36 true [.int .i64 0, .int .i64 0, .int .i64 0, .int .i64 0, .int .i64 0, .int .i64 0, .int .u64 0, .int .i64 0, .int .i64 0, .int .i64 0, .int .i64 0, .int .i64 0, .int .i64 0])) fun x37 H38 =>
 Do (astore H38 13 x37 x35) fun H39 =>
 Do (afaddr 0 x1) fun x42 =>
 Do (aload H39 1 false x42) fun x43 =>
 Do (abin .neq x43 (.int .i64 5)) fun x44 =>
 Gd x44 true (
 Do (afaddr 0 x1) fun x45 =>
 Do (aload H39 1 false x45) fun x46 =>
 Do (abin .sub x46 (.int .i64 6)) fun x47 =>
 Do (abin .add x47 (.int .i64 8)) fun x48 =>
 Do (afaddr 0 x37) fun x49 =>
 Do (astore H39 1 x49 x48) fun H50 =>
 Do (aiaddr none 1 (sl j10 0) (.int .i64 0)) fun x51 =>
 Do (aload H50 1 false x51) fun x52 =>
 Do (afaddr 4 x37) fun x53 =>
 Do (astore H50 1 x53 x52) fun H54 =>
 JoinP (lower_maker_atomic_k2 Φ a0 x1 x7 x37 j10 Q) [] H54) (
 JoinP (lower_maker_atomic_k2 Φ a0 x1 x7 x37 j10 Q) [] H39)
def lower_maker_atomic_l4 (Φ : Calls') (a0 : AV) (x1 : AV) (x7 : AV) (x13 : AV) (x14 : AV) (Q : Post) : (List AV × AH) → ((List AV × AH) → Prop) → Prop := fun s15 L16 =>
 Do (abin .lss (sl s15.1 1) x14) fun x17 =>
 Gd x17 true (
 Do (aiaddr none 8 x13 (sl s15.1 1)) fun x18 =>
 Do (aload s15.2 8 true x18) fun x19 =>
 DoH (some (abox s15.2 true [.int .i64 0, .int .u64 0, .str [], .int .i64 0, .int .i64 0, .str [], .lst .nil 0 [], .lst .nil 0 []])) fun x20 H21 =>
 Do (astore H21 8 x20 x19) fun H22 =>
 Do (aload H22 8 true x20) fun x23 =>
Φ K.lower_maker_expr [a0, x23] H22 fun x24 H25 =>
 DoH (abslice H25 false 1 1 [.int .i64 0] [(0, 1, x24)]) fun x26 H27 =>
 DoH (aappend H27 false 1 8 (sl s15.1 0) x26) fun x28 H29 =>
 Do (abin .add (sl s15.1 1) (.int .i64 1)) fun x30 =>
 L16 ([x28, x30], H29)) (
 JoinP (lower_maker_atomic_k3 Φ a0 x1 x7 Q) [(sl s15.1 0)] s15.2)
def lower_maker_atomic (Φ : Calls') (a0 : AV) (a1 : AV) (H : AH) (Q : Post) : Prop :=
 DoH (aboxv H false 8 a1) fun x1 H2 =>
 Do (afaddr 5 x1) fun x3 =>
 Do (aload H2 2 true x3) fun x4 =>
Φ K.lower_maker_place [a0, x4] H2 fun x5 H6 =>
 DoH (some (abox H6 true [.int .i64 0, .int .i64 0, .int .i64 0, .bool false, .int .i64 0, .int .i64 0, .int .i64 0, .int .i64 0])) fun x7 H8 =>
 Do (astore H8 8 x7 x5) fun H9 =>
 Do (afaddr 7 x1) fun x12 =>
 Do (aload H9 1 false x12) fun x13 =>
 Do (alen false x13) fun x14 =>
 LoopP (lower_maker_atomic_l4 Φ a0 x1 x7 x13 x14 Q) ([(.lst .nil 0 []), (.int .i64 0)], H9)
def ir_lower_maker_atomic : AFunc := ⟨82, [.tmp 4],
 .seq (.region [
   ⟨some 3, .box false 8 (.t 1), none⟩,
   ⟨some 4, .mv (.k (.int .i64 0)), none⟩])
 (.seq (.region [
   ⟨some 10, .mv (.t 0), none⟩,
   ⟨some 11, .faddr 5 (.t 3), none⟩,
   ⟨some 12, .load 2 true (.t 11), none⟩,
   ⟨some 13, .call K.lower_maker_place [(.t 10), (.t 12)], none⟩,
   ⟨some 5, .alloc true [.int .i64 0, .int .i64 0, .int .i64 0, .bool false, .int .i64 0, .int .i64 0, .int .i64 0, .int .i64 0], none⟩,
   ⟨none, .store 8 (.t 5) (.t 13), none⟩])
 (.seq (.region [
   ⟨some 6, .mv (.k (.lst .nil 0 [])), none⟩])
 (.join [6] [8, 14, 15, 16, 17, 18, 19, 20, 21, 22, 23, 24, 25, 26, 27] (.seq (.region [
   ⟨some 14, .faddr 7 (.t 3), none⟩,
   ⟨some 15, .load 1 false (.t 14), none⟩,
   ⟨some 16, .len false (.t 15), none⟩,
   ⟨some 17, .mv (.k (.int .i64 0)), none⟩])
 (.block 0 (.loop [6, 17] [8, 18, 19, 20, 21, 22, 23, 24, 25, 26, 27] (.seq (.region [
   ⟨some 18, .bin .lss (.t 17) (.t 16), none⟩])
 (.seq (.cond (.t 18) (.skip)
   (.exit 0))
 (.seq (.block 1 (.seq (.region [
   ⟨some 19, .iaddr none 8 (.t 15) (.t 17), none⟩,
   ⟨some 20, .load 8 true (.t 19), none⟩,
   ⟨some 8, .alloc true [.int .i64 0, .int .u64 0, .str [], .int .i64 0, .int .i64 0, .str [], .lst .nil 0 [], .lst .nil 0 []], none⟩,
   ⟨none, .store 8 (.t 8) (.t 20), none⟩])
 (.region [
   ⟨some 21, .mv (.t 6), none⟩,
   ⟨some 22, .mv (.t 0), none⟩,
   ⟨some 23, .load 8 true (.t 8), none⟩,
   ⟨some 24, .call K.lower_maker_expr [(.t 22), (.t 23)], none⟩,
   ⟨some 25, .bslice false 1 1 [.int .i64 0] [(0, 1, (.t 24))], none⟩,
   ⟨some 26, .append false 1 8 (.t 21) (.t 25), none⟩,
   ⟨some 6, .mv (.t 26), none⟩])))
 (.region [
   ⟨some 27, .bin .add (.t 17) (.k (.int .i64 1)), none⟩,
   ⟨some 17, .mv (.t 27), none⟩])))))))
 (.seq (.region [
   ⟨some 28, .faddr 0 (.t 3), none⟩,
   ⟨some 29, .load 1 false (.t 28), none⟩,
   ⟨some 30, .bin .sub (.t 29) (.k (.int .i64 5)), none⟩,
   ⟨some 31, .bin .add (.t 30) (.k (.int .i64 6)), none⟩,
   ⟨some 32, .call K.lower_step [(.t 31)], none⟩,
   ⟨some 9, .alloc true [.int .i64 0, .int .i64 0, .int .i64 0, .int .i64 0, .int .i64 0, .int .i64 0, .int .u64 0, .int .i64 0, .int .i64 0, .int .i64 0, .int .i64 0, .int .i64 0, .int .i64 0], none⟩,
   ⟨none, .store 13 (.t 9) (.t 32), none⟩])
 (.join [] [33, 34, 35, 36, 37, 38, 39, 40, 41, 42, 43, 44] (.seq (.region [
   ⟨some 33, .faddr 0 (.t 3), none⟩,
   ⟨some 34, .load 1 false (.t 33), none⟩,
   ⟨some 35, .bin .neq (.t 34) (.k (.int .i64 5)), none⟩])
 (.cond (.t 35) (.seq (.region [
     ⟨some 36, .faddr 0 (.t 3), none⟩,
     ⟨some 37, .load 1 false (.t 36), none⟩,
     ⟨some 38, .bin .sub (.t 37) (.k (.int .i64 6)), none⟩,
     ⟨some 39, .bin .add (.t 38) (.k (.int .i64 8)), none⟩,
     ⟨some 40, .faddr 0 (.t 9), none⟩,
     ⟨none, .store 1 (.t 40) (.t 39), none⟩])
   (.region [
     ⟨some 41, .mv (.t 6), none⟩,
     ⟨some 42, .iaddr none 1 (.t 41) (.k (.int .i64 0)), none⟩,
     ⟨some 43, .load 1 false (.t 42), none⟩,
     ⟨some 44, .faddr 4 (.t 9), none⟩,
     ⟨none, .store 1 (.t 44) (.t 43), none⟩]))
   (.skip)))
 (.join [] [45, 46, 47, 48, 49, 50, 51] (.seq (.region [
   ⟨some 45, .faddr 0 (.t 3), none⟩,
   ⟨some 46, .load 1 false (.t 45), none⟩,
   ⟨some 47, .bin .eql (.t 46) (.k (.int .i64 8)), none⟩])
 (.cond (.t 47) (.region [
     ⟨some 48, .mv (.t 6), none⟩,
     ⟨some 49, .iaddr none 1 (.t 48) (.k (.int .i64 1)), none⟩,
     ⟨some 50, .load 1 false (.t 49), none⟩,
     ⟨some 51, .faddr 5 (.t 9), none⟩,
     ⟨none, .store 1 (.t 51) (.t 50), none⟩])
   (.skip)))
 (.seq (.region [
   ⟨some 52, .mv (.t 0), none⟩,
   ⟨some 53, .load 8 true (.t 5), none⟩,
   ⟨some 54, .call K.lower_maker_address [(.t 52), (.t 53)], none⟩,
   ⟨some 55, .faddr 3 (.t 9), none⟩,
   ⟨none, .store 1 (.t 55) (.t 54), none⟩])
 (.seq (.draw [
   ⟨some 56, .mv (.t 0), none⟩,
   ⟨some 57, .call K.lower_maker_fresh [(.t 56)], none⟩,
   ⟨some 58, .faddr 0 (.t 5), none⟩,
   ⟨some 59, .faddr 0 (.t 58), none⟩,
   ⟨some 60, .faddr 1 (.t 59), none⟩,
   ⟨some 61, .load 1 false (.t 60), none⟩,
   ⟨some 62, .faddr 4 (.t 3), none⟩,
   ⟨some 63, .load 1 false (.t 62), none⟩,
   ⟨some 64, .mv (.t 0), none⟩,
   ⟨some 65, .faddr 0 (.t 3), none⟩,
   ⟨some 66, .load 1 false (.t 65), none⟩,
   ⟨some 67, .bin .add (.k (.int .i64 10)) (.t 66), none⟩,
   ⟨some 68, .faddr 4 (.t 3), none⟩,
   ⟨some 69, .load 1 false (.t 68), none⟩,
   ⟨some 70, .faddr 5 (.t 3), none⟩,
   ⟨some 71, .load 2 true (.t 70), none⟩,
   ⟨some 72, .call K.lower_maker_site [(.t 64), (.t 67), (.t 69), (.t 71)], none⟩,
   ⟨some 73, .faddr 1 (.t 9), none⟩,
   ⟨none, .store 1 (.t 73) (.t 57), none⟩,
   ⟨some 74, .faddr 8 (.t 9), none⟩,
   ⟨none, .store 1 (.t 74) (.t 61), none⟩,
   ⟨some 75, .faddr 9 (.t 9), none⟩,
   ⟨none, .store 1 (.t 75) (.t 63), none⟩,
   ⟨some 76, .faddr 11 (.t 9), none⟩,
   ⟨none, .store 1 (.t 76) (.t 72), none⟩]
 [[], [0], [], [2], [2, 3], [2, 3, 4], [], [6], [], [], [9], [9, 10], [], [12], [], [14], [0, 1, 8, 9, 10, 11, 12, 13, 14, 15], [0, 1], [0, 1, 8, 9, 10, 11, 12, 13, 14, 15, 16, 17], [0, 1, 2, 3, 4, 5, 8, 9, 10, 11, 12, 13, 14, 15, 16, 17, 18], [0, 1, 2, 3, 4, 5, 8, 9, 10, 11, 12, 13, 14, 15, 16, 17, 18, 19], [0, 1, 2, 3, 4, 5, 6, 7, 8, 9, 10, 11, 12, 13, 14, 15, 16, 17, 18, 19, 20], [0, 1, 2, 3, 4, 5, 6, 7, 8, 9, 10, 11, 12, 13, 14, 15, 16, 17, 18, 19, 20, 21], [0, 1, 2, 3, 4, 5, 6, 7, 8, 9, 10, 11, 12, 13, 14, 15, 16, 17, 18, 19, 20, 21, 22], [0, 1, 2, 3, 4, 5, 6, 7, 8, 9, 10, 11, 12, 13, 14, 15, 16, 17, 18, 19, 20, 21, 22, 23]] [([0, 2, 3, 4, 5, 6, 7, 8, 9, 10, 11, 12, 13, 14, 15], 1, [5, 7, 10, 13, 15]), ([17], 16, [5, 7]), ([], 18, [5, 7]), ([19], 20, [7]), ([21], 22, []), ([23], 24, [])] [])
 (.seq (.region [
   ⟨some 77, .mv (.t 0), none⟩,
   ⟨some 78, .load 13 true (.t 9), none⟩,
   ⟨some 79, .call K.lower_maker_add [(.t 77), (.t 78)], none⟩])
 (.seq (.region [
   ⟨some 80, .faddr 1 (.t 9), none⟩,
   ⟨some 81, .load 1 false (.t 80), none⟩,
   ⟨some 4, .mv (.t 81), none⟩])
 (.ret)))))))))))⟩
theorem eq_lower_maker_atomic (Φ : Calls') (a0 a1 : AV) (H : AH) (Q : Post) : fnE1 Φ ir_lower_maker_atomic [a0, a1] H Q = lower_maker_atomic Φ a0 a1 H Q := by kernel_rfl

/-! (rabbet/lower.maker).find$1 -/
def lower_maker_find_c1 (Φ : Calls') (a0 : AV) (a1 : AV) (H : AH) (Q : Post) : Prop :=
 DoH (aboxv H false 2 a0) fun x1 H2 =>
 Do (afaddr 0 x1) fun x3 =>
 Do (aload H2 1 false x3) fun x4 =>
 Do (aload H2 1 false a1) fun x5 =>
 Do (abin .eql x4 x5) fun x6 =>
 Q x6 H2
def ir_lower_maker_find_c1 : AFunc := ⟨8, [.tmp 3],
 .seq (.region [
   ⟨some 2, .box false 2 (.t 0), none⟩,
   ⟨some 3, .mv (.k (.bool false)), none⟩])
 (.seq (.region [
   ⟨some 4, .faddr 0 (.t 2), none⟩,
   ⟨some 5, .load 1 false (.t 4), none⟩,
   ⟨some 6, .load 1 false (.t 1), none⟩,
   ⟨some 7, .bin .eql (.t 5) (.t 6), none⟩,
   ⟨some 3, .mv (.t 7), none⟩])
 (.ret))⟩
theorem eq_lower_maker_find_c1 (Φ : Calls') (a0 a1 : AV) (H : AH) (Q : Post) : fnE1 Φ ir_lower_maker_find_c1 [a0, a1] H Q = lower_maker_find_c1 Φ a0 a1 H Q := by kernel_rfl

/-! (rabbet/lower.maker).place -/
def lower_maker_place_k1 (Φ : Calls') (s35 : List AV × AH) (L36 : (List AV × AH) → Prop) (Q : Post) : List AV → AH → Prop := fun j38 H39 =>
 Do (abin .add (sl s35.1 0) (.int .i64 1)) fun x83 =>
 L36 ([x83], H39)
def lower_maker_place_k2 (Φ : Calls') (x27 : AV) (x113 : AV) (s35 : List AV × AH) (L36 : (List AV × AH) → Prop) (Q : Post) : List AV → AH → Prop := fun j119 H120 =>
 Do (afaddr 0 x27) fun x126 =>
 Do (afaddr 0 x126) fun x127 =>
 Do (afaddr 1 x127) fun x128 =>
 Do (astore H120 1 x128 x113) fun H129 =>
 Do (afaddr 7 x27) fun x130 =>
 Do (aload H129 1 false x130) fun x131 =>
Φ K.lower_low [x113, (.int .i64 16)] H129 fun x132 H133 =>
(aload H133 1 false x130 = some x131) ∧
(Do (aminmax false [x131, x132]) fun x134 =>
 Do (afaddr 7 x27) fun x135 =>
 Do (astore H133 1 x135 x134) fun H136 =>
 JoinP (lower_maker_place_k1 Φ s35 L36 Q) [] H136)
def lower_maker_place_k3 (Φ : Calls') (x3 : AV) (x27 : AV) (Q : Post) : List AV → AH → Prop := fun j30 H31 =>
 Do (afaddr 7 x27) fun x143 =>
 Do (aload H31 1 false x143) fun x144 =>
 Do (afaddr 0 x27) fun x145 =>
 Do (afaddr 0 x145) fun x146 =>
 Do (afaddr 0 x146) fun x147 =>
 Do (aload H31 1 false x147) fun x148 =>
Φ K.lower_low [x148, (.int .i64 16)] H31 fun x149 H150 =>
(aload H150 1 false x143 = some x144) ∧
(Do (aminmax false [x144, x149]) fun x151 =>
 Do (afaddr 7 x27) fun x152 =>
 Do (astore H150 1 x152 x151) fun H153 =>
 Do (aload H153 8 true x27) fun x154 =>
 Do (astore H153 8 x3 x154) fun H155 =>
 Do (aload H155 8 true x3) fun x156 =>
 Q x156 H155)
def lower_maker_place_l4 (Φ : Calls') (a0 : AV) (x3 : AV) (x16 : AV) (x27 : AV) (x33 : AV) (x34 : AV) (Q : Post) : (List AV × AH) → ((List AV × AH) → Prop) → Prop := fun s35 L36 =>
 Do (abin .lss (sl s35.1 0) x34) fun x37 =>
 Gd x37 true (
 Do (aiaddr none 2 x33 (sl s35.1 0)) fun x40 =>
 Do (aload s35.2 2 true x40) fun x41 =>
 DoH (some (abox s35.2 true [.str [], .lst .nil 0 []])) fun x42 H43 =>
 Do (astore H43 2 x42 x41) fun H44 =>
 Do (afaddr 1 x42) fun x45 =>
 Do (aload H44 1 false x45) fun x46 =>
 Do (alen false x46) fun x47 =>
 Do (abin .eql x47 (.int .i64 0)) fun x48 =>
 Gd x48 true (
 Do (afaddr 3 x16) fun x49 =>
 Do (aload H44 1 false x49) fun x50 =>
Φ K.slices_IndexFunc___api_Field_api_Field_ [x50, (.fn K.lower_maker_place_c2 [x42])] H44 fun x51 H52 =>
 Do (aload H52 6 true x16) fun x53 =>
Φ K.layout_Fields [x53] H52 fun x54 H55 =>
 Do (aextract 0 x54) fun x56 =>
 Do (aextract 1 x54) fun x57 =>
 Do (aiaddr none 6 x56 x51) fun x58 =>
 Do (aload H55 6 true x58) fun x59 =>
 DoH (some (abox H55 true [.int .i64 0, .int .i64 0, .int .i64 0, .bool false, .int .i64 0, .int .i64 0])) fun x60 H61 =>
 Do (astore H61 6 x60 x59) fun H62 =>
 Do (afaddr 0 x60) fun x63 =>
 Do (afaddr 0 x63) fun x64 =>
 Do (aload H62 1 false x64) fun x65 =>
 Do (afaddr 0 x27) fun x66 =>
 Do (afaddr 0 x66) fun x67 =>
 Do (afaddr 0 x67) fun x68 =>
 Do (aload H62 1 false x68) fun x69 =>
 Do (abin .add x65 x69) fun x70 =>
 Do (afaddr 0 x60) fun x71 =>
 Do (afaddr 0 x71) fun x72 =>
 Do (astore H62 1 x72 x70) fun H73 =>
 Do (aload H73 6 true x60) fun x74 =>
 Do (afaddr 3 x16) fun x75 =>
 Do (aload H73 1 false x75) fun x76 =>
 Do (aiaddr none 9 x76 x51) fun x77 =>
 Do (afaddr 1 x77) fun x78 =>
 Do (aload H73 6 true x78) fun x79 =>
 Do (afaddr 0 x27) fun x80 =>
 Do (astore H73 6 x80 x74) fun H81 =>
(aload H81 1 false x75 = some x76) ∧
(aload H81 6 true x78 = some x79) ∧
(Do (astore H81 6 x16 x79) fun H82 =>
 JoinP (lower_maker_place_k1 Φ s35 L36 Q) [] H82)) (
 Do (afaddr 1 x42) fun x84 =>
 Do (aload H44 1 false x84) fun x85 =>
 Do (aiaddr none 8 x85 (.int .i64 0)) fun x86 =>
 Do (aload H44 8 true x86) fun x87 =>
Φ K.lower_maker_expr [a0, x87] H44 fun x88 H89 =>
Φ K.lower_step [(.int .i64 17)] H89 fun x90 H91 =>
 DoH (some (abox H91 true [.int .i64 0, .int .i64 0, .int .i64 0, .int .i64 0, .int .i64 0, .int .i64 0, .int .u64 0, .int .i64 0, .int .i64 0, .int .i64 0, .int .i64 0, .int .i64 0, .int .i64 0])) fun x92 H93 =>
 Do (astore H93 13 x92 x90) fun H94 =>
 Do (afaddr 4 x16) fun x95 =>
 Do (aload H94 1 false x95) fun x96 =>
 Do (aconv .u64 x96) fun x97 =>
 Do (afaddr 3 x92) fun x98 =>
 Do (astore H94 1 x98 x88) fun H99 =>
(aload H99 1 false x95 = some x96) ∧
(Do (afaddr 6 x92) fun x100 =>
 Do (astore H99 1 x100 x97) fun H101 =>
 Do (aload H101 13 true x92) fun x102 =>
Φ K.lower_maker_add [a0, x102] H101 fun x103 H104 =>
 Do (afaddr 5 x16) fun x105 =>
 Do (aload H104 1 false x105) fun x106 =>
 Do (aiaddr none 6 x106 (.int .i64 0)) fun x107 =>
 Do (aload H104 6 true x107) fun x108 =>
 Do (astore H104 6 x16 x108) fun H109 =>
 Do (aload H109 6 true x16) fun x110 =>
Φ K.layout_Of [x110] H109 fun x111 H112 =>
 Do (aextract 0 x111) fun x113 =>
 Do (aextract 1 x111) fun x114 =>
 Do (aextract 2 x111) fun x115 =>
 Do (aconv .u64 x113) fun x116 =>
Φ K.lower_maker_with [a0, (.int .i64 3), x88, x116] H112 fun x117 H118 =>
 Do (afaddr 6 x27) fun x121 =>
 Do (aload H118 1 false x121) fun x122 =>
 Do (abin .eql x122 (.int .i64 (-1))) fun x123 =>
 Gd x123 true (
 Do (afaddr 6 x27) fun x124 =>
 Do (astore H118 1 x124 x117) fun H125 =>
 JoinP (lower_maker_place_k2 Φ x27 x113 s35 L36 Q) [] H125) (
 Do (afaddr 6 x27) fun x137 =>
 Do (aload H118 1 false x137) fun x138 =>
Φ K.lower_maker_bin [a0, (.int .i64 1), x138, x117] H118 fun x139 H140 =>
 Do (afaddr 6 x27) fun x141 =>
 Do (astore H140 1 x141 x139) fun H142 =>
 JoinP (lower_maker_place_k2 Φ x27 x113 s35 L36 Q) [] H142)))) (
 JoinP (lower_maker_place_k3 Φ x3 x27 Q) [] s35.2)
def lower_maker_place (Φ : Calls') (a0 : AV) (a1 : AV) (H : AH) (Q : Post) : Prop :=
 DoH (aboxv H true 2 a1) fun x1 H2 =>
 DoH (some (abox H2 true [.int .i64 0, .int .i64 0, .int .i64 0, .bool false, .int .i64 0, .int .i64 0, .int .i64 0, .int .i64 0])) fun x3 H4 =>
 Do (anilck a0) fun x5 =>
 Do (afaddr 0 x5) fun x6 =>
 Do (aload H4 1 false x6) fun x7 =>
Φ K.slices_IndexFunc___api_Var_api_Var_ [x7, (.fn K.lower_maker_place_c1 [x1])] H4 fun x8 H9 =>
 Do (anilck a0) fun x10 =>
 Do (afaddr 0 x10) fun x11 =>
 Do (aload H9 1 false x11) fun x12 =>
 Do (aiaddr none 7 x12 x8) fun x13 =>
 Do (afaddr 1 x13) fun x14 =>
 Do (aload H9 6 true x14) fun x15 =>
 DoH (some (abox H9 true [.int .i64 0, .int .i64 0, .bool false, .lst .nil 0 [], .int .i64 0, .lst .nil 0 []])) fun x16 H17 =>
 Do (astore H17 6 x16 x15) fun H18 =>
 Do (anilck a0) fun x19 =>
 Do (afaddr 1 x19) fun x20 =>
 Do (aload H18 1 false x20) fun x21 =>
 Do (aiaddr none 3 x21 x8) fun x22 =>
 Do (afaddr 1 x22) fun x23 =>
 Do (aload H18 2 true x23) fun x24 =>
 Do (abuild [.int .i64 0, .int .i64 0, .int .i64 0, .bool false, .int .i64 0, .int .i64 0] [(0, 2, x24)]) fun x25 =>
 Do (abuild [.int .i64 0, .int .i64 0, .int .i64 0, .bool false, .int .i64 0, .int .i64 0, .int .i64 0, .int .i64 0] [(0, 6, x25), (6, 1, (.int .i64 (-1))), (7, 1, (.int .i64 16))]) fun x26 =>
 DoH (some (abox H18 true [.int .i64 0, .int .i64 0, .int .i64 0, .bool false, .int .i64 0, .int .i64 0, .int .i64 0, .int .i64 0])) fun x27 H28 =>
 Do (astore H28 8 x27 x26) fun H29 =>
 Do (afaddr 1 x1) fun x32 =>
 Do (aload H29 1 false x32) fun x33 =>
 Do (alen false x33) fun x34 =>
 LoopP (lower_maker_place_l4 Φ a0 x3 x16 x27 x33 x34 Q) ([(.int .i64 0)], H29)
def ir_lower_maker_place : AFunc := ⟨148, [.cell 4 8 true],
 .seq (.region [
   ⟨some 3, .box true 2 (.t 1), none⟩,
   ⟨some 4, .alloc true [.int .i64 0, .int .i64 0, .int .i64 0, .bool false, .int .i64 0, .int .i64 0, .int .i64 0, .int .i64 0], none⟩])
 (.seq (.region [
   ⟨some 19, .mv (.t 0), none⟩,
   ⟨some 20, .nilck (.t 19), none⟩,
   ⟨some 21, .faddr 0 (.t 20), none⟩,
   ⟨some 22, .load 1 false (.t 21), none⟩,
   ⟨some 23, .mkfn K.lower_maker_place_c1 [(.t 3)], none⟩,
   ⟨some 24, .call K.slices_IndexFunc___api_Var_api_Var_ [(.t 22), (.t 23)], none⟩,
   ⟨some 5, .mv (.t 24), none⟩])
 (.seq (.region [
   ⟨some 25, .mv (.t 0), none⟩,
   ⟨some 26, .nilck (.t 25), none⟩,
   ⟨some 27, .faddr 0 (.t 26), none⟩,
   ⟨some 28, .load 1 false (.t 27), none⟩,
   ⟨some 29, .mv (.t 5), none⟩,
   ⟨some 30, .iaddr none 7 (.t 28) (.t 29), none⟩,
   ⟨some 31, .faddr 1 (.t 30), none⟩,
   ⟨some 32, .load 6 true (.t 31), none⟩,
   ⟨some 6, .alloc true [.int .i64 0, .int .i64 0, .bool false, .lst .nil 0 [], .int .i64 0, .lst .nil 0 []], none⟩,
   ⟨none, .store 6 (.t 6) (.t 32), none⟩])
 (.seq (.region [
   ⟨some 33, .mv (.t 0), none⟩,
   ⟨some 34, .nilck (.t 33), none⟩,
   ⟨some 35, .faddr 1 (.t 34), none⟩,
   ⟨some 36, .load 1 false (.t 35), none⟩,
   ⟨some 37, .mv (.t 5), none⟩,
   ⟨some 38, .iaddr none 3 (.t 36) (.t 37), none⟩,
   ⟨some 39, .faddr 1 (.t 38), none⟩,
   ⟨some 40, .load 2 true (.t 39), none⟩,
   ⟨some 41, .build [.int .i64 0, .int .i64 0, .int .i64 0, .bool false, .int .i64 0, .int .i64 0] [(0, 2, (.t 40))], none⟩,
   ⟨some 42, .build [.int .i64 0, .int .i64 0, .int .i64 0, .bool false, .int .i64 0, .int .i64 0, .int .i64 0, .int .i64 0] [(0, 6, (.t 41)), (6, 1, (.k (.int .i64 (-1)))), (7, 1, (.k (.int .i64 16)))], none⟩,
   ⟨some 7, .alloc true [.int .i64 0, .int .i64 0, .int .i64 0, .bool false, .int .i64 0, .int .i64 0, .int .i64 0, .int .i64 0], none⟩,
   ⟨none, .store 8 (.t 7) (.t 42), none⟩])
 (.join [] [9, 10, 11, 12, 13, 14, 15, 16, 17, 18, 43, 44, 45, 46, 47, 48, 49, 50, 51, 52, 53, 54, 55, 56, 57, 58, 59, 60, 61, 62, 63, 64, 65, 66, 67, 68, 69, 70, 71, 72, 73, 74, 75, 76, 77, 78, 79, 80, 81, 82, 83, 84, 85, 86, 87, 88, 89, 90, 91, 92, 93, 94, 95, 96, 97, 98, 99, 100, 101, 102, 103, 104, 105, 106, 107, 108, 109, 110, 111, 112, 113, 114, 115, 116, 117, 118, 119, 120, 121, 122, 123, 124, 125, 126, 127, 128, 129, 130, 131, 132, 133, 134, 135, 136, 137] (.seq (.region [
   ⟨some 43, .faddr 1 (.t 3), none⟩,
   ⟨some 44, .load 1 false (.t 43), none⟩,
   ⟨some 45, .len false (.t 44), none⟩,
   ⟨some 46, .mv (.k (.int .i64 0)), none⟩])
 (.block 0 (.loop [46] [9, 10, 11, 12, 13, 14, 15, 16, 17, 18, 47, 48, 49, 50, 51, 52, 53, 54, 55, 56, 57, 58, 59, 60, 61, 62, 63, 64, 65, 66, 67, 68, 69, 70, 71, 72, 73, 74, 75, 76, 77, 78, 79, 80, 81, 82, 83, 84, 85, 86, 87, 88, 89, 90, 91, 92, 93, 94, 95, 96, 97, 98, 99, 100, 101, 102, 103, 104, 105, 106, 107, 108, 109, 110, 111, 112, 113, 114, 115, 116, 117, 118, 119, 120, 121, 122, 123, 124, 125, 126, 127, 128, 129, 130, 131, 132, 133, 134, 135, 136, 137] (.seq (.region [
   ⟨some 47, .bin .lss (.t 46) (.t 45), none⟩])
 (.seq (.cond (.t 47) (.skip)
   (.exit 0))
 (.join [] [9, 10, 11, 12, 13, 14, 15, 16, 17, 18, 48, 49, 50, 51, 52, 53, 54, 55, 56, 57, 58, 59, 60, 61, 62, 63, 64, 65, 66, 67, 68, 69, 70, 71, 72, 73, 74, 75, 76, 77, 78, 79, 80, 81, 82, 83, 84, 85, 86, 87, 88, 89, 90, 91, 92, 93, 94, 95, 96, 97, 98, 99, 100, 101, 102, 103, 104, 105, 106, 107, 108, 109, 110, 111, 112, 113, 114, 115, 116, 117, 118, 119, 120, 121, 122, 123, 124, 125, 126, 127, 128, 129, 130, 131, 132, 133, 134, 135, 136] (.block 1 (.seq (.region [
   ⟨some 48, .iaddr none 2 (.t 44) (.t 46), none⟩,
   ⟨some 49, .load 2 true (.t 48), none⟩,
   ⟨some 9, .alloc true [.str [], .lst .nil 0 []], none⟩,
   ⟨none, .store 2 (.t 9) (.t 49), none⟩])
 (.seq (.seq (.region [
   ⟨some 50, .faddr 1 (.t 9), none⟩,
   ⟨some 51, .load 1 false (.t 50), none⟩,
   ⟨some 52, .len false (.t 51), none⟩,
   ⟨some 53, .bin .eql (.t 52) (.k (.int .i64 0)), none⟩])
 (.cond (.t 53) (.seq (.region [
     ⟨some 54, .faddr 3 (.t 6), none⟩,
     ⟨some 55, .load 1 false (.t 54), none⟩,
     ⟨some 56, .mkfn K.lower_maker_place_c2 [(.t 9)], none⟩,
     ⟨some 57, .call K.slices_IndexFunc___api_Field_api_Field_ [(.t 55), (.t 56)], none⟩,
     ⟨some 10, .mv (.t 57), none⟩])
   (.seq (.region [
     ⟨some 59, .load 6 true (.t 6), none⟩,
     ⟨some 60, .call K.layout_Fields [(.t 59)], none⟩,
     ⟨some 58, .mv (.t 60), none⟩,
     ⟨some 61, .extract 0 (.t 58), none⟩,
     ⟨some 62, .extract 1 (.t 58), none⟩,
     ⟨some 11, .mv (.t 61), none⟩,
     ⟨some 12, .mv (.t 62), none⟩])
   (.seq (.region [
     ⟨some 63, .mv (.t 11), none⟩,
     ⟨some 64, .mv (.t 10), none⟩,
     ⟨some 65, .iaddr none 6 (.t 63) (.t 64), none⟩,
     ⟨some 66, .load 6 true (.t 65), none⟩,
     ⟨some 13, .alloc true [.int .i64 0, .int .i64 0, .int .i64 0, .bool false, .int .i64 0, .int .i64 0], none⟩,
     ⟨none, .store 6 (.t 13) (.t 66), none⟩])
   (.seq (.region [
     ⟨some 67, .faddr 0 (.t 13), none⟩,
     ⟨some 68, .faddr 0 (.t 67), none⟩,
     ⟨some 69, .load 1 false (.t 68), none⟩,
     ⟨some 70, .faddr 0 (.t 7), none⟩,
     ⟨some 71, .faddr 0 (.t 70), none⟩,
     ⟨some 72, .faddr 0 (.t 71), none⟩,
     ⟨some 73, .load 1 false (.t 72), none⟩,
     ⟨some 74, .bin .add (.t 69) (.t 73), none⟩,
     ⟨some 75, .faddr 0 (.t 13), none⟩,
     ⟨some 76, .faddr 0 (.t 75), none⟩,
     ⟨none, .store 1 (.t 76) (.t 74), none⟩])
   (.seq (.draw [
     ⟨some 77, .load 6 true (.t 13), none⟩,
     ⟨some 78, .faddr 3 (.t 6), none⟩,
     ⟨some 79, .load 1 false (.t 78), none⟩,
     ⟨some 80, .mv (.t 10), none⟩,
     ⟨some 81, .iaddr none 9 (.t 79) (.t 80), none⟩,
     ⟨some 82, .faddr 1 (.t 81), none⟩,
     ⟨some 83, .load 6 true (.t 82), none⟩,
     ⟨some 84, .faddr 0 (.t 7), none⟩,
     ⟨none, .store 6 (.t 84) (.t 77), none⟩,
     ⟨none, .store 6 (.t 6) (.t 83), none⟩]
   [[], [], [1], [], [1, 2, 3], [1, 2, 3, 4], [1, 2, 3, 4, 5], [0], [0, 7], [0, 1, 2, 3, 4, 5, 6, 7, 8]] [([0, 1, 2, 3, 4, 5, 6, 7], 8, [2, 6]), ([], 9, [])] [])
   (.exit 1))))))
   (.skip)))
 (.seq (.region [
   ⟨some 85, .mv (.t 0), none⟩,
   ⟨some 86, .faddr 1 (.t 9), none⟩,
   ⟨some 87, .load 1 false (.t 86), none⟩,
   ⟨some 88, .iaddr none 8 (.t 87) (.k (.int .i64 0)), none⟩,
   ⟨some 89, .load 8 true (.t 88), none⟩,
   ⟨some 90, .call K.lower_maker_expr [(.t 85), (.t 89)], none⟩,
   ⟨some 14, .mv (.t 90), none⟩])
 (.seq (.region [
   ⟨some 91, .call K.lower_step [(.k (.int .i64 17))], none⟩,
   ⟨some 15, .alloc true [.int .i64 0, .int .i64 0, .int .i64 0, .int .i64 0, .int .i64 0, .int .i64 0, .int .u64 0, .int .i64 0, .int .i64 0, .int .i64 0, .int .i64 0, .int .i64 0, .int .i64 0], none⟩,
   ⟨none, .store 13 (.t 15) (.t 91), none⟩])
 (.seq (.draw [
   ⟨some 92, .mv (.t 14), none⟩,
   ⟨some 93, .faddr 4 (.t 6), none⟩,
   ⟨some 94, .load 1 false (.t 93), none⟩,
   ⟨some 95, .conv .u64 (.t 94), none⟩,
   ⟨some 96, .faddr 3 (.t 15), none⟩,
   ⟨none, .store 1 (.t 96) (.t 92), none⟩,
   ⟨some 97, .faddr 6 (.t 15), none⟩,
   ⟨none, .store 1 (.t 97) (.t 95), none⟩]
 [[], [], [1], [1, 2], [0], [0, 4], [0, 1, 2, 3, 4, 5], [0, 1, 2, 3, 4, 5, 6]] [([0, 1, 2, 3, 4], 5, [2]), ([6], 7, [])] [])
 (.seq (.region [
   ⟨some 98, .mv (.t 0), none⟩,
   ⟨some 99, .load 13 true (.t 15), none⟩,
   ⟨some 100, .call K.lower_maker_add [(.t 98), (.t 99)], none⟩])
 (.seq (.region [
   ⟨some 101, .faddr 5 (.t 6), none⟩,
   ⟨some 102, .load 1 false (.t 101), none⟩,
   ⟨some 103, .iaddr none 6 (.t 102) (.k (.int .i64 0)), none⟩,
   ⟨some 104, .load 6 true (.t 103), none⟩,
   ⟨none, .store 6 (.t 6) (.t 104), none⟩])
 (.seq (.region [
   ⟨some 106, .load 6 true (.t 6), none⟩,
   ⟨some 107, .call K.layout_Of [(.t 106)], none⟩,
   ⟨some 105, .mv (.t 107), none⟩,
   ⟨some 108, .extract 0 (.t 105), none⟩,
   ⟨some 109, .extract 1 (.t 105), none⟩,
   ⟨some 110, .extract 2 (.t 105), none⟩,
   ⟨some 16, .mv (.t 108), none⟩,
   ⟨some 17, .mv (.t 109), none⟩,
   ⟨some 18, .mv (.t 110), none⟩])
 (.seq (.region [
   ⟨some 111, .mv (.t 0), none⟩,
   ⟨some 112, .mv (.t 14), none⟩,
   ⟨some 113, .mv (.t 16), none⟩,
   ⟨some 114, .conv .u64 (.t 113), none⟩,
   ⟨some 115, .call K.lower_maker_with [(.t 111), (.k (.int .i64 3)), (.t 112), (.t 114)], none⟩,
   ⟨some 14, .mv (.t 115), none⟩])
 (.join [] [116, 117, 118, 119, 120, 121, 122, 123, 124, 125, 126] (.seq (.region [
   ⟨some 116, .faddr 6 (.t 7), none⟩,
   ⟨some 117, .load 1 false (.t 116), none⟩,
   ⟨some 118, .bin .eql (.t 117) (.k (.int .i64 (-1))), none⟩])
 (.cond (.t 118) (.region [
     ⟨some 119, .mv (.t 14), none⟩,
     ⟨some 120, .faddr 6 (.t 7), none⟩,
     ⟨none, .store 1 (.t 120) (.t 119), none⟩])
   (.region [
     ⟨some 121, .mv (.t 0), none⟩,
     ⟨some 122, .faddr 6 (.t 7), none⟩,
     ⟨some 123, .load 1 false (.t 122), none⟩,
     ⟨some 124, .mv (.t 14), none⟩,
     ⟨some 125, .call K.lower_maker_bin [(.t 121), (.k (.int .i64 1)), (.t 123), (.t 124)], none⟩,
     ⟨some 126, .faddr 6 (.t 7), none⟩,
     ⟨none, .store 1 (.t 126) (.t 125), none⟩])))
 (.seq (.region [
   ⟨some 127, .mv (.t 16), none⟩,
   ⟨some 128, .faddr 0 (.t 7), none⟩,
   ⟨some 129, .faddr 0 (.t 128), none⟩,
   ⟨some 130, .faddr 1 (.t 129), none⟩,
   ⟨none, .store 1 (.t 130) (.t 127), none⟩])
 (.draw [
   ⟨some 131, .faddr 7 (.t 7), none⟩,
   ⟨some 132, .load 1 false (.t 131), none⟩,
   ⟨some 133, .mv (.t 16), none⟩,
   ⟨some 134, .call K.lower_low [(.t 133), (.k (.int .i64 16))], none⟩,
   ⟨some 135, .minmax false [(.t 132), (.t 134)], none⟩,
   ⟨some 136, .faddr 7 (.t 7), none⟩,
   ⟨none, .store 1 (.t 136) (.t 135), none⟩]
 [[], [0], [], [2], [0, 1, 2, 3], [0, 1, 2, 3, 4], [0, 1, 2, 3, 4, 5]] [([0, 1, 2], 3, [1]), ([4, 5], 6, [])] [])))))))))))))
 (.region [
   ⟨some 137, .bin .add (.t 46) (.k (.int .i64 1)), none⟩,
   ⟨some 46, .mv (.t 137), none⟩])))))))
 (.seq (.draw [
   ⟨some 138, .faddr 7 (.t 7), none⟩,
   ⟨some 139, .load 1 false (.t 138), none⟩,
   ⟨some 140, .faddr 0 (.t 7), none⟩,
   ⟨some 141, .faddr 0 (.t 140), none⟩,
   ⟨some 142, .faddr 0 (.t 141), none⟩,
   ⟨some 143, .load 1 false (.t 142), none⟩,
   ⟨some 144, .call K.lower_low [(.t 143), (.k (.int .i64 16))], none⟩,
   ⟨some 145, .minmax false [(.t 139), (.t 144)], none⟩,
   ⟨some 146, .faddr 7 (.t 7), none⟩,
   ⟨none, .store 1 (.t 146) (.t 145), none⟩]
 [[], [0], [], [2], [2, 3], [2, 3, 4], [2, 3, 4, 5], [0, 1, 2, 3, 4, 5, 6], [0, 1, 2, 3, 4, 5, 6, 7], [0, 1, 2, 3, 4, 5, 6, 7, 8]] [([0, 1, 2, 3, 4, 5], 6, [1]), ([7, 8], 9, [])] [])
 (.seq (.region [
   ⟨some 147, .load 8 true (.t 7), none⟩,
   ⟨none, .store 8 (.t 4) (.t 147), none⟩])
 (.ret)))))))⟩
theorem eq_lower_maker_place (Φ : Calls') (a0 a1 : AV) (H : AH) (Q : Post) : fnE1 Φ ir_lower_maker_place [a0, a1] H Q = lower_maker_place Φ a0 a1 H Q := by kernel_rfl

/-! (rabbet/lower.maker).address -/
def lower_maker_address (Φ : Calls') (a0 : AV) (a1 : AV) (H : AH) (Q : Post) : Prop :=
 DoH (aboxv H false 8 a1) fun x1 H2 =>
 Do (afaddr 6 x1) fun x3 =>
 Do (aload H2 1 false x3) fun x4 =>
 Do (abin .eql x4 (.int .i64 (-1))) fun x5 =>
 Gd x5 true (
 Do (afaddr 0 x1) fun x6 =>
 Do (afaddr 0 x6) fun x7 =>
 Do (afaddr 0 x7) fun x8 =>
 Do (aload H2 1 false x8) fun x9 =>
 Do (aconv .u64 x9) fun x10 =>
Φ K.lower_maker_number [a0, x10] H2 fun x11 H12 =>
 Q x11 H12) (
 Do (afaddr 6 x1) fun x13 =>
 Do (aload H2 1 false x13) fun x14 =>
 Do (afaddr 0 x1) fun x15 =>
 Do (afaddr 0 x15) fun x16 =>
 Do (afaddr 0 x16) fun x17 =>
 Do (aload H2 1 false x17) fun x18 =>
 Do (aconv .u64 x18) fun x19 =>
Φ K.lower_maker_with [a0, (.int .i64 1), x14, x19] H2 fun x20 H21 =>
 Q x20 H21)
def ir_lower_maker_address : AFunc := ⟨24, [.tmp 4],
 .seq (.region [
   ⟨some 3, .box false 8 (.t 1), none⟩,
   ⟨some 4, .mv (.k (.int .i64 0)), none⟩])
 (.seq (.seq (.region [
   ⟨some 5, .faddr 6 (.t 3), none⟩,
   ⟨some 6, .load 1 false (.t 5), none⟩,
   ⟨some 7, .bin .eql (.t 6) (.k (.int .i64 (-1))), none⟩])
 (.cond (.t 7) (.seq (.region [
     ⟨some 8, .mv (.t 0), none⟩,
     ⟨some 9, .faddr 0 (.t 3), none⟩,
     ⟨some 10, .faddr 0 (.t 9), none⟩,
     ⟨some 11, .faddr 0 (.t 10), none⟩,
     ⟨some 12, .load 1 false (.t 11), none⟩,
     ⟨some 13, .conv .u64 (.t 12), none⟩,
     ⟨some 14, .call K.lower_maker_number [(.t 8), (.t 13)], none⟩,
     ⟨some 4, .mv (.t 14), none⟩])
   (.ret))
   (.skip)))
 (.seq (.region [
   ⟨some 15, .mv (.t 0), none⟩,
   ⟨some 16, .faddr 6 (.t 3), none⟩,
   ⟨some 17, .load 1 false (.t 16), none⟩,
   ⟨some 18, .faddr 0 (.t 3), none⟩,
   ⟨some 19, .faddr 0 (.t 18), none⟩,
   ⟨some 20, .faddr 0 (.t 19), none⟩,
   ⟨some 21, .load 1 false (.t 20), none⟩,
   ⟨some 22, .conv .u64 (.t 21), none⟩,
   ⟨some 23, .call K.lower_maker_with [(.t 15), (.k (.int .i64 1)), (.t 17), (.t 22)], none⟩,
   ⟨some 4, .mv (.t 23), none⟩])
 (.ret)))⟩
theorem eq_lower_maker_address (Φ : Calls') (a0 a1 : AV) (H : AH) (Q : Post) : fnE1 Φ ir_lower_maker_address [a0, a1] H Q = lower_maker_address Φ a0 a1 H Q := by kernel_rfl

/-! (rabbet/lower.maker).load -/
def lower_maker_load_k1 (Φ : Calls') (s7 : List AV × AH) (L8 : (List AV × AH) → Prop) (Q : Post) : List AV → AH → Prop := fun j10 H11 =>
 Do (abin .add (sl s7.1 1) (.int .i64 1)) fun x51 =>
 L8 ([(sl j10 0), x51], H11)
def lower_maker_load_l2 (Φ : Calls') (a0 : AV) (a2 : AV) (a3 : AV) (x4 : AV) (x6 : AV) (Q : Post) : (List AV × AH) → ((List AV × AH) → Prop) → Prop := fun s7 L8 =>
 Do (abin .lss (sl s7.1 1) x6) fun x9 =>
 Gd x9 true (
 Do (aiaddr none 2 x4 (sl s7.1 1)) fun x12 =>
 Do (aload s7.2 2 true x12) fun x13 =>
 DoH (some (abox s7.2 true [.int .i64 0, .int .i64 0])) fun x14 H15 =>
 Do (astore H15 2 x14 x13) fun H16 =>
Φ K.lower_step [(.int .i64 4)] H16 fun x17 H18 =>
 DoH (some (abox H18 true [.int .i64 0, .int .i64 0, .int .i64 0, .int .i64 0, .int .i64 0, .int .i64 0, .int .u64 0, .int .i64 0, .int .i64 0, .int .i64 0, .int .i64 0, .int .i64 0, .int .i64 0])) fun x19 H20 =>
 Do (astore H20 13 x19 x17) fun H21 =>
 Do (afaddr 0 x14) fun x22 =>
 Do (aload H21 1 false x22) fun x23 =>
 Do (aconv .u64 x23) fun x24 =>
 Do (afaddr 1 x14) fun x25 =>
 Do (aload H21 1 false x25) fun x26 =>
Φ K.lower_maker_fresh [a0] H21 fun x27 H28 =>
(aload H28 1 false x22 = some x23) ∧
(aload H28 1 false x25 = some x26) ∧
(Do (afaddr 1 x19) fun x29 =>
 Do (astore H28 1 x29 x27) fun H30 =>
(aload H30 1 false x22 = some x23) ∧
(aload H30 1 false x25 = some x26) ∧
(Do (afaddr 3 x19) fun x31 =>
 Do (astore H30 1 x31 a2) fun H32 =>
(aload H32 1 false x22 = some x23) ∧
(aload H32 1 false x25 = some x26) ∧
(Do (afaddr 6 x19) fun x33 =>
 Do (astore H32 1 x33 x24) fun H34 =>
(aload H34 1 false x25 = some x26) ∧
(Do (afaddr 8 x19) fun x35 =>
 Do (astore H34 1 x35 x26) fun H36 =>
 Do (afaddr 11 x19) fun x37 =>
 Do (astore H36 1 x37 a3) fun H38 =>
 Do (aload H38 13 true x19) fun x39 =>
Φ K.lower_maker_add [a0, x39] H38 fun x40 H41 =>
 Do (afaddr 1 x19) fun x42 =>
 Do (aload H41 1 false x42) fun x43 =>
 Do (afaddr 0 x14) fun x44 =>
 Do (aload H41 1 false x44) fun x45 =>
 Do (abin .mul (.int .i64 8) x45) fun x46 =>
 Do (aconv .u64 x46) fun x47 =>
Φ K.lower_maker_with [a0, (.int .i64 7), x43, x47] H41 fun x48 H49 =>
 Do (abin .eql (sl s7.1 0) (.int .i64 (-1))) fun x50 =>
 Gd x50 true (
 JoinP (lower_maker_load_k1 Φ s7 L8 Q) [x48] H49) (
Φ K.lower_maker_bin [a0, (.int .i64 5), (sl s7.1 0), x48] H49 fun x52 H53 =>
 JoinP (lower_maker_load_k1 Φ s7 L8 Q) [x52] H53)))))) (
 Q (sl s7.1 0) s7.2)
def lower_maker_load (Φ : Calls') (a0 : AV) (a1 : AV) (a2 : AV) (a3 : AV) (H : AH) (Q : Post) : Prop :=
 DoH (aboxv H false 8 a1) fun x1 H2 =>
 Do (aload H2 8 true x1) fun x3 =>
Φ K.lower_spot_pieces [x3] H2 fun x4 H5 =>
 Do (alen false x4) fun x6 =>
 LoopP (lower_maker_load_l2 Φ a0 a2 a3 x4 x6 Q) ([(.int .i64 (-1)), (.int .i64 0)], H5)
def ir_lower_maker_load : AFunc := ⟨56, [.tmp 8],
 .seq (.region [
   ⟨some 5, .box false 8 (.t 1), none⟩,
   ⟨some 8, .mv (.k (.int .i64 0)), none⟩])
 (.seq (.region [
   ⟨some 9, .mv (.k (.int .i64 (-1))), none⟩])
 (.seq (.seq (.region [
   ⟨some 14, .load 8 true (.t 5), none⟩,
   ⟨some 15, .call K.lower_spot_pieces [(.t 14)], none⟩,
   ⟨some 16, .len false (.t 15), none⟩,
   ⟨some 17, .mv (.k (.int .i64 0)), none⟩])
 (.block 0 (.loop [9, 17] [11, 12, 13, 18, 19, 20, 21, 22, 23, 24, 25, 26, 27, 28, 29, 30, 31, 32, 33, 34, 35, 36, 37, 38, 39, 40, 41, 42, 43, 44, 45, 46, 47, 48, 49, 50, 51, 52, 53, 54] (.seq (.region [
   ⟨some 18, .bin .lss (.t 17) (.t 16), none⟩])
 (.seq (.cond (.t 18) (.skip)
   (.exit 0))
 (.join [9] [11, 12, 13, 19, 20, 21, 22, 23, 24, 25, 26, 27, 28, 29, 30, 31, 32, 33, 34, 35, 36, 37, 38, 39, 40, 41, 42, 43, 44, 45, 46, 47, 48, 49, 50, 51, 52, 53] (.block 1 (.seq (.region [
   ⟨some 19, .iaddr none 2 (.t 15) (.t 17), none⟩,
   ⟨some 20, .load 2 true (.t 19), none⟩,
   ⟨some 11, .alloc true [.int .i64 0, .int .i64 0], none⟩,
   ⟨none, .store 2 (.t 11) (.t 20), none⟩])
 (.seq (.region [
   ⟨some 21, .call K.lower_step [(.k (.int .i64 4))], none⟩,
   ⟨some 12, .alloc true [.int .i64 0, .int .i64 0, .int .i64 0, .int .i64 0, .int .i64 0, .int .i64 0, .int .u64 0, .int .i64 0, .int .i64 0, .int .i64 0, .int .i64 0, .int .i64 0, .int .i64 0], none⟩,
   ⟨none, .store 13 (.t 12) (.t 21), none⟩])
 (.seq (.draw [
   ⟨some 22, .mv (.t 0), none⟩,
   ⟨some 23, .call K.lower_maker_fresh [(.t 22)], none⟩,
   ⟨some 24, .mv (.t 2), none⟩,
   ⟨some 25, .faddr 0 (.t 11), none⟩,
   ⟨some 26, .load 1 false (.t 25), none⟩,
   ⟨some 27, .conv .u64 (.t 26), none⟩,
   ⟨some 28, .faddr 1 (.t 11), none⟩,
   ⟨some 29, .load 1 false (.t 28), none⟩,
   ⟨some 30, .mv (.t 3), none⟩,
   ⟨some 31, .faddr 1 (.t 12), none⟩,
   ⟨none, .store 1 (.t 31) (.t 23), none⟩,
   ⟨some 32, .faddr 3 (.t 12), none⟩,
   ⟨none, .store 1 (.t 32) (.t 24), none⟩,
   ⟨some 33, .faddr 6 (.t 12), none⟩,
   ⟨none, .store 1 (.t 33) (.t 27), none⟩,
   ⟨some 34, .faddr 8 (.t 12), none⟩,
   ⟨none, .store 1 (.t 34) (.t 29), none⟩,
   ⟨some 35, .faddr 11 (.t 12), none⟩,
   ⟨none, .store 1 (.t 35) (.t 30), none⟩]
 [[], [0], [], [], [3], [3, 4], [], [6], [], [0, 1], [0, 1, 9], [0, 1, 2, 9, 10], [0, 1, 2, 9, 10, 11], [0, 1, 2, 3, 4, 5, 9, 10, 11, 12], [0, 1, 2, 3, 4, 5, 9, 10, 11, 12, 13], [0, 1, 2, 3, 4, 5, 6, 7, 9, 10, 11, 12, 13, 14], [0, 1, 2, 3, 4, 5, 6, 7, 9, 10, 11, 12, 13, 14, 15], [0, 1, 2, 3, 4, 5, 6, 7, 8, 9, 10, 11, 12, 13, 14, 15, 16], [0, 1, 2, 3, 4, 5, 6, 7, 8, 9, 10, 11, 12, 13, 14, 15, 16, 17]] [([0, 2, 3, 4, 5, 6, 7, 8], 1, [4, 7]), ([9], 10, [4, 7]), ([11], 12, [4, 7]), ([13], 14, [7]), ([15], 16, []), ([17], 18, [])] [])
 (.seq (.region [
   ⟨some 36, .mv (.t 0), none⟩,
   ⟨some 37, .load 13 true (.t 12), none⟩,
   ⟨some 38, .call K.lower_maker_add [(.t 36), (.t 37)], none⟩])
 (.seq (.region [
   ⟨some 39, .mv (.t 0), none⟩,
   ⟨some 40, .faddr 1 (.t 12), none⟩,
   ⟨some 41, .load 1 false (.t 40), none⟩,
   ⟨some 42, .faddr 0 (.t 11), none⟩,
   ⟨some 43, .load 1 false (.t 42), none⟩,
   ⟨some 44, .bin .mul (.k (.int .i64 8)) (.t 43), none⟩,
   ⟨some 45, .conv .u64 (.t 44), none⟩,
   ⟨some 46, .call K.lower_maker_with [(.t 39), (.k (.int .i64 7)), (.t 41), (.t 45)], none⟩,
   ⟨some 13, .mv (.t 46), none⟩])
 (.seq (.region [
   ⟨some 47, .mv (.t 9), none⟩,
   ⟨some 48, .bin .eql (.t 47) (.k (.int .i64 (-1))), none⟩])
 (.cond (.t 48) (.region [
     ⟨some 49, .mv (.t 13), none⟩,
     ⟨some 9, .mv (.t 49), none⟩])
   (.region [
     ⟨some 50, .mv (.t 0), none⟩,
     ⟨some 51, .mv (.t 9), none⟩,
     ⟨some 52, .mv (.t 13), none⟩,
     ⟨some 53, .call K.lower_maker_bin [(.t 50), (.k (.int .i64 5)), (.t 51), (.t 52)], none⟩,
     ⟨some 9, .mv (.t 53), none⟩])))))))))
 (.region [
   ⟨some 54, .bin .add (.t 17) (.k (.int .i64 1)), none⟩,
   ⟨some 17, .mv (.t 54), none⟩])))))))
 (.seq (.region [
   ⟨some 55, .mv (.t 9), none⟩,
   ⟨some 8, .mv (.t 55), none⟩])
 (.ret))))⟩
theorem eq_lower_maker_load (Φ : Calls') (a0 a1 a2 a3 : AV) (H : AH) (Q : Post) : fnE1 Φ ir_lower_maker_load [a0, a1, a2, a3] H Q = lower_maker_load Φ a0 a1 a2 a3 H Q := by kernel_rfl

/-! (rabbet/lower.maker).with -/
def lower_maker_with_k1 (Φ : Calls') (a0 : AV) (a1 : AV) (a2 : AV) (a3 : AV) (Q : Post) : List AV → AH → Prop := fun j1 H2 =>
Φ K.lower_maker_number [a0, a3] H2 fun x10 H11 =>
Φ K.lower_maker_bin [a0, a1, a2, x10] H11 fun x12 H13 =>
 Q x12 H13
def lower_maker_with_k2 (Φ : Calls') (a0 : AV) (a1 : AV) (a2 : AV) (a3 : AV) (Q : Post) : List AV → AH → Prop := fun j3 H4 =>
 Gd (sl j3 0) true (
 Q a2 H4) (
 JoinP (lower_maker_with_k1 Φ a0 a1 a2 a3 Q) [] H4)
def lower_maker_with (Φ : Calls') (a0 : AV) (a1 : AV) (a2 : AV) (a3 : AV) (H : AH) (Q : Post) : Prop :=
 Do (abin .eql a3 (.int .u64 0)) fun x5 =>
 Gd3 x5 true (
 Do (abin .eql a1 (.int .i64 1)) fun x6 =>
 Gd3 x6 false (
 Do (abin .eql a1 (.int .i64 7)) fun x7 =>
 Gd3 x7 false (
 Do (abin .eql a1 (.int .i64 8)) fun x8 =>
 Gd3 x8 false (
 Do (abin .eql a1 (.int .i64 5)) fun x9 =>
 JoinP (lower_maker_with_k2 Φ a0 a1 a2 a3 Q) [x9] H) (
 JoinP (lower_maker_with_k2 Φ a0 a1 a2 a3 Q) [(.bool true)] H) (
 False)) (
 JoinP (lower_maker_with_k2 Φ a0 a1 a2 a3 Q) [(.bool true)] H) (
 False)) (
 JoinP (lower_maker_with_k2 Φ a0 a1 a2 a3 Q) [(.bool true)] H) (
 False)) (
 JoinP (lower_maker_with_k2 Φ a0 a1 a2 a3 Q) [(.bool false)] H) (
 False)
def ir_lower_maker_with : AFunc := ⟨35, [.tmp 8],
 .seq (.region [
   ⟨some 8, .mv (.k (.int .i64 0)), none⟩])
 (.join [] [8, 9, 10, 11, 12, 13, 14, 15, 16, 17, 18, 19, 20, 21, 22, 23, 24, 25, 26, 27] (.join [26] [9, 10, 11, 12, 13, 14, 15, 16, 17, 18, 19, 20, 21, 22, 23, 24, 25] (.region [
   ⟨some 9, .mv (.t 3), none⟩,
   ⟨some 10, .bin .eql (.t 9) (.k (.int .u64 0)), none⟩,
   ⟨some 11, .mv (.t 10), none⟩,
   ⟨some 12, .mv (.t 1), some (11, true)⟩,
   ⟨some 13, .bin .eql (.t 12) (.k (.int .i64 1)), some (11, true)⟩,
   ⟨some 14, .mv (.t 13), some (11, true)⟩,
   ⟨some 15, .mv (.t 1), some (14, false)⟩,
   ⟨some 16, .bin .eql (.t 15) (.k (.int .i64 7)), some (14, false)⟩,
   ⟨some 17, .pick (.t 14) (.k (.bool true)) (.t 16), some (11, true)⟩,
   ⟨some 18, .mv (.t 17), some (11, true)⟩,
   ⟨some 19, .mv (.t 1), some (18, false)⟩,
   ⟨some 20, .bin .eql (.t 19) (.k (.int .i64 8)), some (18, false)⟩,
   ⟨some 21, .pick (.t 18) (.k (.bool true)) (.t 20), some (11, true)⟩,
   ⟨some 22, .mv (.t 21), some (11, true)⟩,
   ⟨some 23, .mv (.t 1), some (22, false)⟩,
   ⟨some 24, .bin .eql (.t 23) (.k (.int .i64 5)), some (22, false)⟩,
   ⟨some 25, .pick (.t 22) (.k (.bool true)) (.t 24), some (11, true)⟩,
   ⟨some 26, .pick (.t 11) (.t 25) (.k (.bool false)), none⟩])
 (.cond (.t 26) (.seq (.region [
     ⟨some 27, .mv (.t 2), none⟩,
     ⟨some 8, .mv (.t 27), none⟩])
   (.ret))
   (.skip)))
 (.seq (.region [
   ⟨some 28, .mv (.t 0), none⟩,
   ⟨some 29, .mv (.t 1), none⟩,
   ⟨some 30, .mv (.t 2), none⟩,
   ⟨some 31, .mv (.t 0), none⟩,
   ⟨some 32, .mv (.t 3), none⟩,
   ⟨some 33, .call K.lower_maker_number [(.t 31), (.t 32)], none⟩,
   ⟨some 34, .call K.lower_maker_bin [(.t 28), (.t 29), (.t 30), (.t 33)], none⟩,
   ⟨some 8, .mv (.t 34), none⟩])
 (.ret)))⟩
theorem eq_lower_maker_with (Φ : Calls') (a0 a1 a2 a3 : AV) (H : AH) (Q : Post) : fnE1 Φ ir_lower_maker_with [a0, a1, a2, a3] H Q = lower_maker_with Φ a0 a1 a2 a3 H Q := by kernel_rfl

/-! rabbet/lower.ones -/
def lower_ones (Φ : Calls') (a0 : AV) (H : AH) (Q : Post) : Prop :=
 Do (abin .geq a0 (.int .i64 64)) fun x1 =>
 Gd x1 true (
 Q (.int .u64 18446744073709551615) H) (
 Do (abin .shl (.int .u64 1) a0) fun x2 =>
 Do (abin .sub x2 (.int .u64 1)) fun x3 =>
 Q x3 H)
def ir_lower_ones : AFunc := ⟨8, [.tmp 2],
 .seq (.region [
   ⟨some 2, .mv (.k (.int .u64 0)), none⟩])
 (.seq (.seq (.region [
   ⟨some 3, .mv (.t 0), none⟩,
   ⟨some 4, .bin .geq (.t 3) (.k (.int .i64 64)), none⟩])
 (.cond (.t 4) (.seq (.region [
     ⟨some 2, .mv (.k (.int .u64 18446744073709551615)), none⟩])
   (.ret))
   (.skip)))
 (.seq (.region [
   ⟨some 5, .mv (.t 0), none⟩,
   ⟨some 6, .bin .shl (.k (.int .u64 1)) (.t 5), none⟩,
   ⟨some 7, .bin .sub (.t 6) (.k (.int .u64 1)), none⟩,
   ⟨some 2, .mv (.t 7), none⟩])
 (.ret)))⟩
theorem eq_lower_ones (Φ : Calls') (a0 : AV) (H : AH) (Q : Post) : fnE1 Φ ir_lower_ones [a0] H Q = lower_ones Φ a0 H Q := by kernel_rfl

/-! (rabbet/lower.maker).store -/
def lower_maker_store_l1 (Φ : Calls') (a0 : AV) (a2 : AV) (a3 : AV) (a4 : AV) (x4 : AV) (x6 : AV) (Q : Post) : (List AV × AH) → ((List AV × AH) → Prop) → Prop := fun s7 L8 =>
 Do (abin .lss (sl s7.1 0) x6) fun x9 =>
 Gd x9 true (
 Do (aiaddr none 2 x4 (sl s7.1 0)) fun x10 =>
 Do (aload s7.2 2 true x10) fun x11 =>
 DoH (some (abox s7.2 true [.int .i64 0, .int .i64 0])) fun x12 H13 =>
 Do (astore H13 2 x12 x11) fun H14 =>
Φ K.lower_step [(.int .i64 5)] H14 fun x15 H16 =>
 DoH (some (abox H16 true [.int .i64 0, .int .i64 0, .int .i64 0, .int .i64 0, .int .i64 0, .int .i64 0, .int .u64 0, .int .i64 0, .int .i64 0, .int .i64 0, .int .i64 0, .int .i64 0, .int .i64 0])) fun x17 H18 =>
 Do (astore H18 13 x17 x15) fun H19 =>
 Do (afaddr 0 x12) fun x20 =>
 Do (aload H19 1 false x20) fun x21 =>
 Do (aconv .u64 x21) fun x22 =>
 Do (afaddr 1 x12) fun x23 =>
 Do (aload H19 1 false x23) fun x24 =>
 Do (afaddr 3 x17) fun x25 =>
 Do (astore H19 1 x25 a2) fun H26 =>
(aload H26 1 false x20 = some x21) ∧
(aload H26 1 false x23 = some x24) ∧
(Do (afaddr 6 x17) fun x27 =>
 Do (astore H26 1 x27 x22) fun H28 =>
(aload H28 1 false x23 = some x24) ∧
(Do (afaddr 8 x17) fun x29 =>
 Do (astore H28 1 x29 x24) fun H30 =>
 Do (afaddr 11 x17) fun x31 =>
 Do (astore H30 1 x31 a4) fun H32 =>
 Do (afaddr 0 x12) fun x33 =>
 Do (aload H32 1 false x33) fun x34 =>
 Do (abin .mul (.int .i64 8) x34) fun x35 =>
 Do (aconv .u64 x35) fun x36 =>
Φ K.lower_maker_with [a0, (.int .i64 8), a3, x36] H32 fun x37 H38 =>
 Do (afaddr 4 x17) fun x39 =>
 Do (astore H38 1 x39 x37) fun H40 =>
 Do (aload H40 13 true x17) fun x41 =>
Φ K.lower_maker_add [a0, x41] H40 fun x42 H43 =>
 Do (abin .add (sl s7.1 0) (.int .i64 1)) fun x44 =>
 L8 ([x44], H43)))) (
 Q (.tup []) s7.2)
def lower_maker_store (Φ : Calls') (a0 : AV) (a1 : AV) (a2 : AV) (a3 : AV) (a4 : AV) (H : AH) (Q : Post) : Prop :=
 DoH (aboxv H false 8 a1) fun x1 H2 =>
 Do (aload H2 8 true x1) fun x3 =>
Φ K.lower_spot_pieces [x3] H2 fun x4 H5 =>
 Do (alen false x4) fun x6 =>
 LoopP (lower_maker_store_l1 Φ a0 a2 a3 a4 x4 x6 Q) ([(.int .i64 0)], H5)
def ir_lower_maker_store : AFunc := ⟨44, [],
 .seq (.region [
   ⟨some 6, .box false 8 (.t 1), none⟩])
 (.seq (.region [
   ⟨some 13, .load 8 true (.t 6), none⟩,
   ⟨some 14, .call K.lower_spot_pieces [(.t 13)], none⟩,
   ⟨some 15, .len false (.t 14), none⟩,
   ⟨some 16, .mv (.k (.int .i64 0)), none⟩])
 (.block 0 (.loop [16] [11, 12, 17, 18, 19, 20, 21, 22, 23, 24, 25, 26, 27, 28, 29, 30, 31, 32, 33, 34, 35, 36, 37, 38, 39, 40, 41, 42, 43] (.seq (.region [
   ⟨some 17, .bin .lss (.t 16) (.t 15), none⟩])
 (.seq (.cond (.t 17) (.skip)
   (.exit 0))
 (.seq (.block 1 (.seq (.region [
   ⟨some 18, .iaddr none 2 (.t 14) (.t 16), none⟩,
   ⟨some 19, .load 2 true (.t 18), none⟩,
   ⟨some 11, .alloc true [.int .i64 0, .int .i64 0], none⟩,
   ⟨none, .store 2 (.t 11) (.t 19), none⟩])
 (.seq (.region [
   ⟨some 20, .call K.lower_step [(.k (.int .i64 5))], none⟩,
   ⟨some 12, .alloc true [.int .i64 0, .int .i64 0, .int .i64 0, .int .i64 0, .int .i64 0, .int .i64 0, .int .u64 0, .int .i64 0, .int .i64 0, .int .i64 0, .int .i64 0, .int .i64 0, .int .i64 0], none⟩,
   ⟨none, .store 13 (.t 12) (.t 20), none⟩])
 (.seq (.draw [
   ⟨some 21, .mv (.t 2), none⟩,
   ⟨some 22, .faddr 0 (.t 11), none⟩,
   ⟨some 23, .load 1 false (.t 22), none⟩,
   ⟨some 24, .conv .u64 (.t 23), none⟩,
   ⟨some 25, .faddr 1 (.t 11), none⟩,
   ⟨some 26, .load 1 false (.t 25), none⟩,
   ⟨some 27, .mv (.t 4), none⟩,
   ⟨some 28, .faddr 3 (.t 12), none⟩,
   ⟨none, .store 1 (.t 28) (.t 21), none⟩,
   ⟨some 29, .faddr 6 (.t 12), none⟩,
   ⟨none, .store 1 (.t 29) (.t 24), none⟩,
   ⟨some 30, .faddr 8 (.t 12), none⟩,
   ⟨none, .store 1 (.t 30) (.t 26), none⟩,
   ⟨some 31, .faddr 11 (.t 12), none⟩,
   ⟨none, .store 1 (.t 31) (.t 27), none⟩]
 [[], [], [1], [1, 2], [], [4], [], [0], [0, 7], [0, 1, 2, 3, 7, 8], [0, 1, 2, 3, 7, 8, 9], [0, 1, 2, 3, 4, 5, 7, 8, 9, 10], [0, 1, 2, 3, 4, 5, 7, 8, 9, 10, 11], [0, 1, 2, 3, 4, 5, 6, 7, 8, 9, 10, 11, 12], [0, 1, 2, 3, 4, 5, 6, 7, 8, 9, 10, 11, 12, 13]] [([0, 1, 2, 3, 4, 5, 6, 7], 8, [2, 5]), ([9], 10, [5]), ([11], 12, []), ([13], 14, [])] [])
 (.seq (.region [
   ⟨some 32, .mv (.t 0), none⟩,
   ⟨some 33, .mv (.t 3), none⟩,
   ⟨some 34, .faddr 0 (.t 11), none⟩,
   ⟨some 35, .load 1 false (.t 34), none⟩,
   ⟨some 36, .bin .mul (.k (.int .i64 8)) (.t 35), none⟩,
   ⟨some 37, .conv .u64 (.t 36), none⟩,
   ⟨some 38, .call K.lower_maker_with [(.t 32), (.k (.int .i64 8)), (.t 33), (.t 37)], none⟩,
   ⟨some 39, .faddr 4 (.t 12), none⟩,
   ⟨none, .store 1 (.t 39) (.t 38), none⟩])
 (.region [
   ⟨some 40, .mv (.t 0), none⟩,
   ⟨some 41, .load 13 true (.t 12), none⟩,
   ⟨some 42, .call K.lower_maker_add [(.t 40), (.t 41)], none⟩]))))))
 (.region [
   ⟨some 43, .bin .add (.t 16) (.k (.int .i64 1)), none⟩,
   ⟨some 16, .mv (.t 43), none⟩])))))))⟩
theorem eq_lower_maker_store (Φ : Calls') (a0 a1 a2 a3 a4 : AV) (H : AH) (Q : Post) : fnE1 Φ ir_lower_maker_store [a0, a1, a2, a3, a4] H Q = lower_maker_store Φ a0 a1 a2 a3 a4 H Q := by kernel_rfl

/-! (rabbet/lower.maker).label -/
def lower_maker_label (Φ : Calls') (a0 : AV) (H : AH) (Q : Post) : Prop :=
 Do (anilck a0) fun x1 =>
 Do (afaddr 4 x1) fun x2 =>
 Do (aload H 1 false x2) fun x3 =>
 Do (abin .add x3 (.int .i64 1)) fun x4 =>
 Do (anilck a0) fun x5 =>
 Do (afaddr 4 x5) fun x6 =>
 Do (astore H 1 x6 x4) fun H7 =>
 Do (anilck a0) fun x8 =>
 Do (afaddr 4 x8) fun x9 =>
 Do (aload H7 1 false x9) fun x10 =>
 Q x10 H7
def ir_lower_maker_label : AFunc := ⟨14, [.tmp 2],
 .seq (.region [
   ⟨some 2, .mv (.k (.int .i64 0)), none⟩])
 (.seq (.region [
   ⟨some 3, .mv (.t 0), none⟩,
   ⟨some 4, .nilck (.t 3), none⟩,
   ⟨some 5, .faddr 4 (.t 4), none⟩,
   ⟨some 6, .load 1 false (.t 5), none⟩,
   ⟨some 7, .bin .add (.t 6) (.k (.int .i64 1)), none⟩,
   ⟨some 8, .nilck (.t 3), none⟩,
   ⟨some 9, .faddr 4 (.t 8), none⟩,
   ⟨none, .store 1 (.t 9) (.t 7), none⟩])
 (.seq (.region [
   ⟨some 10, .mv (.t 0), none⟩,
   ⟨some 11, .nilck (.t 10), none⟩,
   ⟨some 12, .faddr 4 (.t 11), none⟩,
   ⟨some 13, .load 1 false (.t 12), none⟩,
   ⟨some 2, .mv (.t 13), none⟩])
 (.ret)))⟩
theorem eq_lower_maker_label (Φ : Calls') (a0 : AV) (H : AH) (Q : Post) : fnE1 Φ ir_lower_maker_label [a0] H Q = lower_maker_label Φ a0 H Q := by kernel_rfl

/-! (rabbet/lower.maker).jump -/
def lower_maker_jump_k1 (Φ : Calls') (a0 : AV) (a1 : AV) (x3 : AV) (Q : Post) : List AV → AH → Prop := fun j6 H7 =>
 Do (afaddr 10 x3) fun x13 =>
 Do (astore H7 1 x13 a1) fun H14 =>
 Do (aload H14 13 true x3) fun x15 =>
Φ K.lower_maker_add [a0, x15] H14 fun x16 H17 =>
 Q (.tup []) H17
def lower_maker_jump (Φ : Calls') (a0 : AV) (a1 : AV) (a2 : AV) (H : AH) (Q : Post) : Prop :=
Φ K.lower_step [(.int .i64 15)] H fun x1 H2 =>
 DoH (some (abox H2 true [.int .i64 0, .int .i64 0, .int .i64 0, .int .i64 0, .int .i64 0, .int .i64 0, .int .u64 0, .int .i64 0, .int .i64 0, .int .i64 0, .int .i64 0, .int .i64 0, .int .i64 0])) fun x3 H4 =>
 Do (astore H4 13 x3 x1) fun H5 =>
 Do (abin .neq a2 (.int .i64 (-1))) fun x8 =>
 Gd x8 true (
 Do (afaddr 0 x3) fun x9 =>
 Do (astore H5 1 x9 (.int .i64 16)) fun H10 =>
 Do (afaddr 3 x3) fun x11 =>
 Do (astore H10 1 x11 a2) fun H12 =>
 JoinP (lower_maker_jump_k1 Φ a0 a1 x3 Q) [] H12) (
 JoinP (lower_maker_jump_k1 Φ a0 a1 x3 Q) [] H5)
def ir_lower_maker_jump : AFunc := ⟨18, [],
 .seq (.region [
   ⟨some 7, .call K.lower_step [(.k (.int .i64 15))], none⟩,
   ⟨some 6, .alloc true [.int .i64 0, .int .i64 0, .int .i64 0, .int .i64 0, .int .i64 0, .int .i64 0, .int .u64 0, .int .i64 0, .int .i64 0, .int .i64 0, .int .i64 0, .int .i64 0, .int .i64 0], none⟩,
   ⟨none, .store 13 (.t 6) (.t 7), none⟩])
 (.join [] [8, 9, 10, 11, 12] (.seq (.region [
   ⟨some 8, .mv (.t 2), none⟩,
   ⟨some 9, .bin .neq (.t 8) (.k (.int .i64 (-1))), none⟩])
 (.cond (.t 9) (.region [
     ⟨some 10, .mv (.t 2), none⟩,
     ⟨some 11, .faddr 0 (.t 6), none⟩,
     ⟨none, .store 1 (.t 11) (.k (.int .i64 16)), none⟩,
     ⟨some 12, .faddr 3 (.t 6), none⟩,
     ⟨none, .store 1 (.t 12) (.t 10), none⟩])
   (.skip)))
 (.seq (.region [
   ⟨some 13, .mv (.t 1), none⟩,
   ⟨some 14, .faddr 10 (.t 6), none⟩,
   ⟨none, .store 1 (.t 14) (.t 13), none⟩])
 (.region [
   ⟨some 15, .mv (.t 0), none⟩,
   ⟨some 16, .load 13 true (.t 6), none⟩,
   ⟨some 17, .call K.lower_maker_add [(.t 15), (.t 16)], none⟩])))⟩
theorem eq_lower_maker_jump (Φ : Calls') (a0 a1 a2 : AV) (H : AH) (Q : Post) : fnE1 Φ ir_lower_maker_jump [a0, a1, a2] H Q = lower_maker_jump Φ a0 a1 a2 H Q := by kernel_rfl

/-! (rabbet/lower.maker).mark -/
def lower_maker_mark (Φ : Calls') (a0 : AV) (a1 : AV) (H : AH) (Q : Post) : Prop :=
Φ K.lower_step [(.int .i64 14)] H fun x1 H2 =>
 DoH (some (abox H2 true [.int .i64 0, .int .i64 0, .int .i64 0, .int .i64 0, .int .i64 0, .int .i64 0, .int .u64 0, .int .i64 0, .int .i64 0, .int .i64 0, .int .i64 0, .int .i64 0, .int .i64 0])) fun x3 H4 =>
 Do (astore H4 13 x3 x1) fun H5 =>
 Do (afaddr 10 x3) fun x6 =>
 Do (astore H5 1 x6 a1) fun H7 =>
 Do (aload H7 13 true x3) fun x8 =>
Φ K.lower_maker_add [a0, x8] H7 fun x9 H10 =>
 Q (.tup []) H10
def ir_lower_maker_mark : AFunc := ⟨11, [],
 .seq (.region [
   ⟨some 5, .call K.lower_step [(.k (.int .i64 14))], none⟩,
   ⟨some 4, .alloc true [.int .i64 0, .int .i64 0, .int .i64 0, .int .i64 0, .int .i64 0, .int .i64 0, .int .u64 0, .int .i64 0, .int .i64 0, .int .i64 0, .int .i64 0, .int .i64 0, .int .i64 0], none⟩,
   ⟨none, .store 13 (.t 4) (.t 5), none⟩])
 (.seq (.region [
   ⟨some 6, .mv (.t 1), none⟩,
   ⟨some 7, .faddr 10 (.t 4), none⟩,
   ⟨none, .store 1 (.t 7) (.t 6), none⟩])
 (.region [
   ⟨some 8, .mv (.t 0), none⟩,
   ⟨some 9, .load 13 true (.t 4), none⟩,
   ⟨some 10, .call K.lower_maker_add [(.t 8), (.t 9)], none⟩]))⟩
theorem eq_lower_maker_mark (Φ : Calls') (a0 a1 : AV) (H : AH) (Q : Post) : fnE1 Φ ir_lower_maker_mark [a0, a1] H Q = lower_maker_mark Φ a0 a1 H Q := by kernel_rfl

/-! (rabbet/lower.maker).place$1 -/
def lower_maker_place_c1 (Φ : Calls') (a0 : AV) (a1 : AV) (H : AH) (Q : Post) : Prop :=
 DoH (aboxv H false 7 a0) fun x1 H2 =>
 Do (afaddr 0 x1) fun x3 =>
 Do (aload H2 1 false x3) fun x4 =>
 Do (afaddr 0 a1) fun x5 =>
 Do (aload H2 1 false x5) fun x6 =>
 Do (abin .eql x4 x6) fun x7 =>
 Q x7 H2
def ir_lower_maker_place_c1 : AFunc := ⟨9, [.tmp 3],
 .seq (.region [
   ⟨some 2, .box false 7 (.t 0), none⟩,
   ⟨some 3, .mv (.k (.bool false)), none⟩])
 (.seq (.region [
   ⟨some 4, .faddr 0 (.t 2), none⟩,
   ⟨some 5, .load 1 false (.t 4), none⟩,
   ⟨some 6, .faddr 0 (.t 1), none⟩,
   ⟨some 7, .load 1 false (.t 6), none⟩,
   ⟨some 8, .bin .eql (.t 5) (.t 7), none⟩,
   ⟨some 3, .mv (.t 8), none⟩])
 (.ret))⟩
theorem eq_lower_maker_place_c1 (Φ : Calls') (a0 a1 : AV) (H : AH) (Q : Post) : fnE1 Φ ir_lower_maker_place_c1 [a0, a1] H Q = lower_maker_place_c1 Φ a0 a1 H Q := by kernel_rfl

/-! (rabbet/lower.maker).place$2 -/
def lower_maker_place_c2 (Φ : Calls') (a0 : AV) (a1 : AV) (H : AH) (Q : Post) : Prop :=
 DoH (aboxv H false 9 a0) fun x1 H2 =>
 Do (afaddr 0 x1) fun x3 =>
 Do (aload H2 1 false x3) fun x4 =>
 Do (afaddr 0 a1) fun x5 =>
 Do (aload H2 1 false x5) fun x6 =>
 Do (abin .eql x4 x6) fun x7 =>
 Q x7 H2
def ir_lower_maker_place_c2 : AFunc := ⟨9, [.tmp 3],
 .seq (.region [
   ⟨some 2, .box false 9 (.t 0), none⟩,
   ⟨some 3, .mv (.k (.bool false)), none⟩])
 (.seq (.region [
   ⟨some 4, .faddr 0 (.t 2), none⟩,
   ⟨some 5, .load 1 false (.t 4), none⟩,
   ⟨some 6, .faddr 0 (.t 1), none⟩,
   ⟨some 7, .load 1 false (.t 6), none⟩,
   ⟨some 8, .bin .eql (.t 5) (.t 7), none⟩,
   ⟨some 3, .mv (.t 8), none⟩])
 (.ret))⟩
theorem eq_lower_maker_place_c2 (Φ : Calls') (a0 a1 : AV) (H : AH) (Q : Post) : fnE1 Φ ir_lower_maker_place_c2 [a0, a1] H Q = lower_maker_place_c2 Φ a0 a1 H Q := by kernel_rfl

/-! rabbet/lower.low -/
def lower_low_k1 (Φ : Calls') (s1 : List AV × AH) (L2 : (List AV × AH) → Prop) (Q : Post) : List AV → AH → Prop := fun j3 H4 =>
 Do (abin .quo (sl s1.1 0) (.int .i64 2)) fun x10 =>
 L2 ([x10], H4)
def lower_low_k2 (Φ : Calls') (s1 : List AV × AH) (L2 : (List AV × AH) → Prop) (Q : Post) : List AV → AH → Prop := fun j5 H6 =>
 Gd (sl j5 0) true (
 JoinP (lower_low_k1 Φ s1 L2 Q) [] H6) (
 Q (sl s1.1 0) H6)
def lower_low_l3 (Φ : Calls') (a0 : AV) (Q : Post) : (List AV × AH) → ((List AV × AH) → Prop) → Prop := fun s1 L2 =>
 Do (abin .gtr (sl s1.1 0) (.int .i64 1)) fun x7 =>
 Gd3 x7 true (
 Do (abin .rem a0 (sl s1.1 0)) fun x8 =>
 Do (abin .neq x8 (.int .i64 0)) fun x9 =>
 JoinP (lower_low_k2 Φ s1 L2 Q) [x9] s1.2) (
 JoinP (lower_low_k2 Φ s1 L2 Q) [(.bool false)] s1.2) (
 False)
def lower_low (Φ : Calls') (a0 : AV) (a1 : AV) (H : AH) (Q : Post) : Prop :=
 LoopP (lower_low_l3 Φ a0 Q) ([a1], H)
def ir_lower_low : AFunc := ⟨16, [.tmp 4],
 .seq (.region [
   ⟨some 4, .mv (.k (.int .i64 0)), none⟩])
 (.seq (.block 0 (.loop [1] [5, 6, 7, 8, 9, 10, 11, 12, 13, 14] (.join [] [5, 6, 7, 8, 9, 10, 11, 12] (.join [12] [5, 6, 7, 8, 9, 10, 11] (.region [
   ⟨some 5, .mv (.t 1), none⟩,
   ⟨some 6, .bin .gtr (.t 5) (.k (.int .i64 1)), none⟩,
   ⟨some 7, .mv (.t 6), none⟩,
   ⟨some 8, .mv (.t 0), some (7, true)⟩,
   ⟨some 9, .mv (.t 1), some (7, true)⟩,
   ⟨some 10, .bin .rem (.t 8) (.t 9), some (7, true)⟩,
   ⟨some 11, .bin .neq (.t 10) (.k (.int .i64 0)), some (7, true)⟩,
   ⟨some 12, .pick (.t 7) (.t 11) (.k (.bool false)), none⟩])
 (.cond (.t 12) (.skip)
   (.exit 0)))
 (.block 1 (.region [
   ⟨some 13, .mv (.t 1), none⟩,
   ⟨some 14, .bin .quo (.t 13) (.k (.int .i64 2)), none⟩,
   ⟨some 1, .mv (.t 14), none⟩])))))
 (.seq (.region [
   ⟨some 15, .mv (.t 1), none⟩,
   ⟨some 4, .mv (.t 15), none⟩])
 (.ret)))⟩
theorem eq_lower_low (Φ : Calls') (a0 a1 : AV) (H : AH) (Q : Post) : fnE1 Φ ir_lower_low [a0, a1] H Q = lower_low Φ a0 a1 H Q := by kernel_rfl

/-! (rabbet/lower.spot).pieces -/
def lower_spot_pieces_l1 (Φ : Calls') (x1 : AV) (x9 : AV) (x11 : AV) (Q : Post) : (List AV × AH) → ((List AV × AH) → Prop) → Prop := fun s12 L13 =>
 Do (abin .lss (sl s12.1 1) x11) fun x14 =>
 Gd x14 true (
 Do (aiaddr none 2 x9 (sl s12.1 1)) fun x15 =>
 Do (aload s12.2 2 true x15) fun x16 =>
 DoH (some (abox s12.2 true [.int .i64 0, .int .i64 0])) fun x17 H18 =>
 Do (astore H18 2 x17 x16) fun H19 =>
 Do (afaddr 0 x17) fun x20 =>
 Do (aload H19 1 false x20) fun x21 =>
 Do (afaddr 0 x1) fun x22 =>
 Do (afaddr 0 x22) fun x23 =>
 Do (afaddr 0 x23) fun x24 =>
 Do (aload H19 1 false x24) fun x25 =>
 Do (abin .sub x21 x25) fun x26 =>
 Do (afaddr 1 x17) fun x27 =>
 Do (aload H19 1 false x27) fun x28 =>
 Do (abuild [.int .i64 0, .int .i64 0] [(0, 1, x26), (1, 1, x28)]) fun x29 =>
 DoH (abslice H19 false 2 1 [.int .i64 0, .int .i64 0] [(0, 2, x29)]) fun x30 H31 =>
 DoH (aappend H31 false 2 16 (sl s12.1 0) x30) fun x32 H33 =>
 Do (abin .add (sl s12.1 1) (.int .i64 1)) fun x34 =>
 L13 ([x32, x34], H33)) (
 Q (sl s12.1 0) s12.2)
def lower_spot_pieces_k2 (Φ : Calls') (s35 : List AV × AH) (L36 : (List AV × AH) → Prop) (Q : Post) : List AV → AH → Prop := fun j47 H48 =>
 Do (abuild [.int .i64 0, .int .i64 0] [(0, 1, (sl s35.1 1)), (1, 1, (sl j47 0))]) fun x58 =>
 DoH (abslice H48 false 2 1 [.int .i64 0, .int .i64 0] [(0, 2, x58)]) fun x59 H60 =>
 DoH (aappend H60 false 2 16 (sl s35.1 0) x59) fun x61 H62 =>
 Do (abin .add (sl s35.1 1) (sl j47 0)) fun x63 =>
 L36 ([x61, x63], H62)
def lower_spot_pieces_l3 (Φ : Calls') (x1 : AV) (s35 : List AV × AH) (L36 : (List AV × AH) → Prop) (Q : Post) : (List AV × AH) → ((List AV × AH) → Prop) → Prop := fun s49 L50 =>
 Do (afaddr 0 x1) fun x51 =>
 Do (afaddr 0 x51) fun x52 =>
 Do (afaddr 1 x52) fun x53 =>
 Do (aload s49.2 1 false x53) fun x54 =>
 Do (abin .sub x54 (sl s35.1 1)) fun x55 =>
 Do (abin .gtr (sl s49.1 0) x55) fun x56 =>
 Gd x56 true (
 Do (abin .quo (sl s49.1 0) (.int .i64 2)) fun x57 =>
 L50 ([x57], s49.2)) (
 JoinP (lower_spot_pieces_k2 Φ s35 L36 Q) [(sl s49.1 0)] s49.2)
def lower_spot_pieces_l4 (Φ : Calls') (x1 : AV) (Q : Post) : (List AV × AH) → ((List AV × AH) → Prop) → Prop := fun s35 L36 =>
 Do (afaddr 0 x1) fun x37 =>
 Do (afaddr 0 x37) fun x38 =>
 Do (afaddr 1 x38) fun x39 =>
 Do (aload s35.2 1 false x39) fun x40 =>
 Do (abin .lss (sl s35.1 1) x40) fun x41 =>
 Gd x41 true (
 Do (afaddr 7 x1) fun x42 =>
 Do (aload s35.2 1 false x42) fun x43 =>
 Do (aminmax false [x43, (.int .i64 8)]) fun x44 =>
Φ K.lower_low [(sl s35.1 1), x44] s35.2 fun x45 H46 =>
 LoopP (lower_spot_pieces_l3 Φ x1 s35 L36 Q) ([x45], H46)) (
 Q (sl s35.1 0) s35.2)
def lower_spot_pieces (Φ : Calls') (a0 : AV) (H : AH) (Q : Post) : Prop :=
 DoH (aboxv H false 8 a0) fun x1 H2 =>
 Do (afaddr 6 x1) fun x3 =>
 Do (aload H2 1 false x3) fun x4 =>
 Do (abin .eql x4 (.int .i64 (-1))) fun x5 =>
 Gd x5 true (
 Do (afaddr 0 x1) fun x6 =>
 Do (afaddr 0 x6) fun x7 =>
 Do (aload H2 2 true x7) fun x8 =>
Φ K.span_Pieces [x8] H2 fun x9 H10 =>
 Do (alen false x9) fun x11 =>
 LoopP (lower_spot_pieces_l1 Φ x1 x9 x11 Q) ([(.lst .nil 0 []), (.int .i64 0)], H10)) (
 LoopP (lower_spot_pieces_l4 Φ x1 Q) ([(.lst .nil 0 []), (.int .i64 0)], H2))
def ir_lower_spot_pieces : AFunc := ⟨66, [.tmp 2],
 .seq (.region [
   ⟨some 1, .box false 8 (.t 0), none⟩,
   ⟨some 2, .mv (.k (.lst .nil 0 [])), none⟩])
 (.seq (.region [
   ⟨some 3, .mv (.k (.lst .nil 0 [])), none⟩])
 (.seq (.seq (.region [
   ⟨some 8, .faddr 6 (.t 1), none⟩,
   ⟨some 9, .load 1 false (.t 8), none⟩,
   ⟨some 10, .bin .eql (.t 9) (.k (.int .i64 (-1))), none⟩])
 (.cond (.t 10) (.seq (.seq (.region [
     ⟨some 11, .faddr 0 (.t 1), none⟩,
     ⟨some 12, .faddr 0 (.t 11), none⟩,
     ⟨some 13, .load 2 true (.t 12), none⟩,
     ⟨some 14, .call K.span_Pieces [(.t 13)], none⟩,
     ⟨some 15, .len false (.t 14), none⟩,
     ⟨some 16, .mv (.k (.int .i64 0)), none⟩])
   (.block 0 (.loop [3, 16] [5, 17, 18, 19, 20, 21, 22, 23, 24, 25, 26, 27, 28, 29, 30, 31, 32, 33] (.seq (.region [
     ⟨some 17, .bin .lss (.t 16) (.t 15), none⟩])
   (.seq (.cond (.t 17) (.skip)
     (.exit 0))
   (.seq (.block 1 (.seq (.region [
     ⟨some 18, .iaddr none 2 (.t 14) (.t 16), none⟩,
     ⟨some 19, .load 2 true (.t 18), none⟩,
     ⟨some 5, .alloc true [.int .i64 0, .int .i64 0], none⟩,
     ⟨none, .store 2 (.t 5) (.t 19), none⟩])
   (.region [
     ⟨some 20, .mv (.t 3), none⟩,
     ⟨some 21, .faddr 0 (.t 5), none⟩,
     ⟨some 22, .load 1 false (.t 21), none⟩,
     ⟨some 23, .faddr 0 (.t 1), none⟩,
     ⟨some 24, .faddr 0 (.t 23), none⟩,
     ⟨some 25, .faddr 0 (.t 24), none⟩,
     ⟨some 26, .load 1 false (.t 25), none⟩,
     ⟨some 27, .bin .sub (.t 22) (.t 26), none⟩,
     ⟨some 28, .faddr 1 (.t 5), none⟩,
     ⟨some 29, .load 1 false (.t 28), none⟩,
     ⟨some 30, .build [.int .i64 0, .int .i64 0] [(0, 1, (.t 27)), (1, 1, (.t 29))], none⟩,
     ⟨some 31, .bslice false 2 1 [.int .i64 0, .int .i64 0] [(0, 2, (.t 30))], none⟩,
     ⟨some 32, .append false 2 16 (.t 20) (.t 31), none⟩,
     ⟨some 3, .mv (.t 32), none⟩])))
   (.region [
     ⟨some 33, .bin .add (.t 16) (.k (.int .i64 1)), none⟩,
     ⟨some 16, .mv (.t 33), none⟩])))))))
   (.seq (.region [
     ⟨some 34, .mv (.t 3), none⟩,
     ⟨some 2, .mv (.t 34), none⟩])
   (.ret)))
   (.skip)))
 (.seq (.seq (.region [
   ⟨some 6, .mv (.k (.int .i64 0)), none⟩])
 (.block 2 (.loop [3, 6] [7, 35, 36, 37, 38, 39, 40, 41, 42, 43, 44, 45, 46, 47, 48, 49, 50, 51, 52, 53, 54, 55, 56, 57, 58, 59, 60, 61, 62, 63, 64] (.seq (.seq (.region [
   ⟨some 35, .mv (.t 6), none⟩,
   ⟨some 36, .faddr 0 (.t 1), none⟩,
   ⟨some 37, .faddr 0 (.t 36), none⟩,
   ⟨some 38, .faddr 1 (.t 37), none⟩,
   ⟨some 39, .load 1 false (.t 38), none⟩,
   ⟨some 40, .bin .lss (.t 35) (.t 39), none⟩])
 (.cond (.t 40) (.skip)
   (.exit 2)))
 (.block 3 (.seq (.region [
   ⟨some 41, .mv (.t 6), none⟩,
   ⟨some 42, .faddr 7 (.t 1), none⟩,
   ⟨some 43, .load 1 false (.t 42), none⟩,
   ⟨some 44, .minmax false [(.t 43), (.k (.int .i64 8))], none⟩,
   ⟨some 45, .call K.lower_low [(.t 41), (.t 44)], none⟩,
   ⟨some 7, .mv (.t 45), none⟩])
 (.join [7] [46, 47, 48, 49, 50, 51, 52, 53, 54, 55] (.block 4 (.loop [7] [46, 47, 48, 49, 50, 51, 52, 53, 54, 55] (.seq (.seq (.region [
   ⟨some 46, .mv (.t 7), none⟩,
   ⟨some 47, .faddr 0 (.t 1), none⟩,
   ⟨some 48, .faddr 0 (.t 47), none⟩,
   ⟨some 49, .faddr 1 (.t 48), none⟩,
   ⟨some 50, .load 1 false (.t 49), none⟩,
   ⟨some 51, .mv (.t 6), none⟩,
   ⟨some 52, .bin .sub (.t 50) (.t 51), none⟩,
   ⟨some 53, .bin .gtr (.t 46) (.t 52), none⟩])
 (.cond (.t 53) (.skip)
   (.exit 4)))
 (.block 5 (.region [
   ⟨some 54, .mv (.t 7), none⟩,
   ⟨some 55, .bin .quo (.t 54) (.k (.int .i64 2)), none⟩,
   ⟨some 7, .mv (.t 55), none⟩])))))
 (.seq (.region [
   ⟨some 56, .mv (.t 3), none⟩,
   ⟨some 57, .mv (.t 6), none⟩,
   ⟨some 58, .mv (.t 7), none⟩,
   ⟨some 59, .build [.int .i64 0, .int .i64 0] [(0, 1, (.t 57)), (1, 1, (.t 58))], none⟩,
   ⟨some 60, .bslice false 2 1 [.int .i64 0, .int .i64 0] [(0, 2, (.t 59))], none⟩,
   ⟨some 61, .append false 2 16 (.t 56) (.t 60), none⟩,
   ⟨some 3, .mv (.t 61), none⟩])
 (.region [
   ⟨some 62, .mv (.t 6), none⟩,
   ⟨some 63, .mv (.t 7), none⟩,
   ⟨some 64, .bin .add (.t 62) (.t 63), none⟩,
   ⟨some 6, .mv (.t 64), none⟩])))))))))
 (.seq (.region [
   ⟨some 65, .mv (.t 3), none⟩,
   ⟨some 2, .mv (.t 65), none⟩])
 (.ret)))))⟩
theorem eq_lower_spot_pieces (Φ : Calls') (a0 : AV) (H : AH) (Q : Post) : fnE1 Φ ir_lower_spot_pieces [a0] H Q = lower_spot_pieces Φ a0 H Q := by kernel_rfl

def tab_lower : Tab := [
  (K.lower_Thread, ir_lower_Thread),
  (K.lower_maker_block, ir_lower_maker_block),
  (K.lower_Accesses, ir_lower_Accesses),
  (K.lower_maker_stmt, ir_lower_maker_stmt),
  (K.lower_maker_expr, ir_lower_maker_expr),
  (K.lower_maker_fresh, ir_lower_maker_fresh),
  (K.lower_maker_set, ir_lower_maker_set),
  (K.lower_maker_find, ir_lower_maker_find),
  (K.lower_maker_write, ir_lower_maker_write),
  (K.lower_maker_stored, ir_lower_maker_stored),
  (K.lower_maker_loaded, ir_lower_maker_loaded),
  (K.lower_step, ir_lower_step),
  (K.lower_maker_site, ir_lower_maker_site),
  (K.lower_maker_add, ir_lower_maker_add),
  (K.lower_maker_choose, ir_lower_maker_choose),
  (K.lower_maker_loop, ir_lower_maker_loop),
  (K.lower_maker_number, ir_lower_maker_number),
  (K.lower_maker_bin, ir_lower_maker_bin),
  (K.lower_maker_read, ir_lower_maker_read),
  (K.lower_maker_atomic, ir_lower_maker_atomic),
  (K.lower_maker_find_c1, ir_lower_maker_find_c1),
  (K.lower_maker_place, ir_lower_maker_place),
  (K.lower_maker_address, ir_lower_maker_address),
  (K.lower_maker_load, ir_lower_maker_load),
  (K.lower_maker_with, ir_lower_maker_with),
  (K.lower_ones, ir_lower_ones),
  (K.lower_maker_store, ir_lower_maker_store),
  (K.lower_maker_label, ir_lower_maker_label),
  (K.lower_maker_jump, ir_lower_maker_jump),
  (K.lower_maker_mark, ir_lower_maker_mark),
  (K.lower_maker_place_c1, ir_lower_maker_place_c1),
  (K.lower_maker_place_c2, ir_lower_maker_place_c2),
  (K.lower_low, ir_lower_low),
  (K.lower_spot_pieces, ir_lower_spot_pieces)]

theorem cl_lower_Thread {Φ : Calls'} (hT : Cl Φ tab_lower) {a0 a1 : AV} {H : AH} {Q : Post} (h : lower_Thread Φ a0 a1 H Q) : Φ K.lower_Thread [a0, a1] H Q := hT.call (by kernel_rfl) (by kernel_rfl) (by rw [eq_lower_Thread]; exact h)
theorem cl_lower_maker_block {Φ : Calls'} (hT : Cl Φ tab_lower) {a0 a1 : AV} {H : AH} {Q : Post} (h : lower_maker_block Φ a0 a1 H Q) : Φ K.lower_maker_block [a0, a1] H Q := hT.call (by kernel_rfl) (by kernel_rfl) (by rw [eq_lower_maker_block]; exact h)
theorem cl_lower_Accesses {Φ : Calls'} (hT : Cl Φ tab_lower) {a0 a1 : AV} {H : AH} {Q : Post} (h : lower_Accesses Φ a0 a1 H Q) : Φ K.lower_Accesses [a0, a1] H Q := hT.call (by kernel_rfl) (by kernel_rfl) (by rw [eq_lower_Accesses]; exact h)
theorem cl_lower_maker_stmt {Φ : Calls'} (hT : Cl Φ tab_lower) {a0 a1 : AV} {H : AH} {Q : Post} (h : lower_maker_stmt Φ a0 a1 H Q) : Φ K.lower_maker_stmt [a0, a1] H Q := hT.call (by kernel_rfl) (by kernel_rfl) (by rw [eq_lower_maker_stmt]; exact h)
theorem cl_lower_maker_expr {Φ : Calls'} (hT : Cl Φ tab_lower) {a0 a1 : AV} {H : AH} {Q : Post} (h : lower_maker_expr Φ a0 a1 H Q) : Φ K.lower_maker_expr [a0, a1] H Q := hT.call (by kernel_rfl) (by kernel_rfl) (by rw [eq_lower_maker_expr]; exact h)
theorem cl_lower_maker_fresh {Φ : Calls'} (hT : Cl Φ tab_lower) {a0 : AV} {H : AH} {Q : Post} (h : lower_maker_fresh Φ a0 H Q) : Φ K.lower_maker_fresh [a0] H Q := hT.call (by kernel_rfl) (by kernel_rfl) (by rw [eq_lower_maker_fresh]; exact h)
theorem cl_lower_maker_set {Φ : Calls'} (hT : Cl Φ tab_lower) {a0 a1 a2 : AV} {H : AH} {Q : Post} (h : lower_maker_set Φ a0 a1 a2 H Q) : Φ K.lower_maker_set [a0, a1, a2] H Q := hT.call (by kernel_rfl) (by kernel_rfl) (by rw [eq_lower_maker_set]; exact h)
theorem cl_lower_maker_find {Φ : Calls'} (hT : Cl Φ tab_lower) {a0 a1 : AV} {H : AH} {Q : Post} (h : lower_maker_find Φ a0 a1 H Q) : Φ K.lower_maker_find [a0, a1] H Q := hT.call (by kernel_rfl) (by kernel_rfl) (by rw [eq_lower_maker_find]; exact h)
theorem cl_lower_maker_write {Φ : Calls'} (hT : Cl Φ tab_lower) {a0 a1 a2 : AV} {H : AH} {Q : Post} (h : lower_maker_write Φ a0 a1 a2 H Q) : Φ K.lower_maker_write [a0, a1, a2] H Q := hT.call (by kernel_rfl) (by kernel_rfl) (by rw [eq_lower_maker_write]; exact h)
theorem cl_lower_maker_stored {Φ : Calls'} (hT : Cl Φ tab_lower) {a0 a1 : AV} {H : AH} {Q : Post} (h : lower_maker_stored Φ a0 a1 H Q) : Φ K.lower_maker_stored [a0, a1] H Q := hT.call (by kernel_rfl) (by kernel_rfl) (by rw [eq_lower_maker_stored]; exact h)
theorem cl_lower_maker_loaded {Φ : Calls'} (hT : Cl Φ tab_lower) {a0 a1 : AV} {H : AH} {Q : Post} (h : lower_maker_loaded Φ a0 a1 H Q) : Φ K.lower_maker_loaded [a0, a1] H Q := hT.call (by kernel_rfl) (by kernel_rfl) (by rw [eq_lower_maker_loaded]; exact h)
theorem cl_lower_step {Φ : Calls'} (hT : Cl Φ tab_lower) {a0 : AV} {H : AH} {Q : Post} (h : lower_step Φ a0 H Q) : Φ K.lower_step [a0] H Q := hT.call (by kernel_rfl) (by kernel_rfl) (by rw [eq_lower_step]; exact h)
theorem cl_lower_maker_site {Φ : Calls'} (hT : Cl Φ tab_lower) {a0 a1 a2 a3 : AV} {H : AH} {Q : Post} (h : lower_maker_site Φ a0 a1 a2 a3 H Q) : Φ K.lower_maker_site [a0, a1, a2, a3] H Q := hT.call (by kernel_rfl) (by kernel_rfl) (by rw [eq_lower_maker_site]; exact h)
theorem cl_lower_maker_add {Φ : Calls'} (hT : Cl Φ tab_lower) {a0 a1 : AV} {H : AH} {Q : Post} (h : lower_maker_add Φ a0 a1 H Q) : Φ K.lower_maker_add [a0, a1] H Q := hT.call (by kernel_rfl) (by kernel_rfl) (by rw [eq_lower_maker_add]; exact h)
theorem cl_lower_maker_choose {Φ : Calls'} (hT : Cl Φ tab_lower) {a0 a1 : AV} {H : AH} {Q : Post} (h : lower_maker_choose Φ a0 a1 H Q) : Φ K.lower_maker_choose [a0, a1] H Q := hT.call (by kernel_rfl) (by kernel_rfl) (by rw [eq_lower_maker_choose]; exact h)
theorem cl_lower_maker_loop {Φ : Calls'} (hT : Cl Φ tab_lower) {a0 a1 : AV} {H : AH} {Q : Post} (h : lower_maker_loop Φ a0 a1 H Q) : Φ K.lower_maker_loop [a0, a1] H Q := hT.call (by kernel_rfl) (by kernel_rfl) (by rw [eq_lower_maker_loop]; exact h)
theorem cl_lower_maker_number {Φ : Calls'} (hT : Cl Φ tab_lower) {a0 a1 : AV} {H : AH} {Q : Post} (h : lower_maker_number Φ a0 a1 H Q) : Φ K.lower_maker_number [a0, a1] H Q := hT.call (by kernel_rfl) (by kernel_rfl) (by rw [eq_lower_maker_number]; exact h)
theorem cl_lower_maker_bin {Φ : Calls'} (hT : Cl Φ tab_lower) {a0 a1 a2 a3 : AV} {H : AH} {Q : Post} (h : lower_maker_bin Φ a0 a1 a2 a3 H Q) : Φ K.lower_maker_bin [a0, a1, a2, a3] H Q := hT.call (by kernel_rfl) (by kernel_rfl) (by rw [eq_lower_maker_bin]; exact h)
theorem cl_lower_maker_read {Φ : Calls'} (hT : Cl Φ tab_lower) {a0 a1 : AV} {H : AH} {Q : Post} (h : lower_maker_read Φ a0 a1 H Q) : Φ K.lower_maker_read [a0, a1] H Q := hT.call (by kernel_rfl) (by kernel_rfl) (by rw [eq_lower_maker_read]; exact h)
theorem cl_lower_maker_atomic {Φ : Calls'} (hT : Cl Φ tab_lower) {a0 a1 : AV} {H : AH} {Q : Post} (h : lower_maker_atomic Φ a0 a1 H Q) : Φ K.lower_maker_atomic [a0, a1] H Q := hT.call (by kernel_rfl) (by kernel_rfl) (by rw [eq_lower_maker_atomic]; exact h)
theorem cl_lower_maker_find_c1 {Φ : Calls'} (hT : Cl Φ tab_lower) {a0 a1 : AV} {H : AH} {Q : Post} (h : lower_maker_find_c1 Φ a0 a1 H Q) : Φ K.lower_maker_find_c1 [a0, a1] H Q := hT.call (by kernel_rfl) (by kernel_rfl) (by rw [eq_lower_maker_find_c1]; exact h)
theorem cl_lower_maker_place {Φ : Calls'} (hT : Cl Φ tab_lower) {a0 a1 : AV} {H : AH} {Q : Post} (h : lower_maker_place Φ a0 a1 H Q) : Φ K.lower_maker_place [a0, a1] H Q := hT.call (by kernel_rfl) (by kernel_rfl) (by rw [eq_lower_maker_place]; exact h)
theorem cl_lower_maker_address {Φ : Calls'} (hT : Cl Φ tab_lower) {a0 a1 : AV} {H : AH} {Q : Post} (h : lower_maker_address Φ a0 a1 H Q) : Φ K.lower_maker_address [a0, a1] H Q := hT.call (by kernel_rfl) (by kernel_rfl) (by rw [eq_lower_maker_address]; exact h)
theorem cl_lower_maker_load {Φ : Calls'} (hT : Cl Φ tab_lower) {a0 a1 a2 a3 : AV} {H : AH} {Q : Post} (h : lower_maker_load Φ a0 a1 a2 a3 H Q) : Φ K.lower_maker_load [a0, a1, a2, a3] H Q := hT.call (by kernel_rfl) (by kernel_rfl) (by rw [eq_lower_maker_load]; exact h)
theorem cl_lower_maker_with {Φ : Calls'} (hT : Cl Φ tab_lower) {a0 a1 a2 a3 : AV} {H : AH} {Q : Post} (h : lower_maker_with Φ a0 a1 a2 a3 H Q) : Φ K.lower_maker_with [a0, a1, a2, a3] H Q := hT.call (by kernel_rfl) (by kernel_rfl) (by rw [eq_lower_maker_with]; exact h)
theorem cl_lower_ones {Φ : Calls'} (hT : Cl Φ tab_lower) {a0 : AV} {H : AH} {Q : Post} (h : lower_ones Φ a0 H Q) : Φ K.lower_ones [a0] H Q := hT.call (by kernel_rfl) (by kernel_rfl) (by rw [eq_lower_ones]; exact h)
theorem cl_lower_maker_store {Φ : Calls'} (hT : Cl Φ tab_lower) {a0 a1 a2 a3 a4 : AV} {H : AH} {Q : Post} (h : lower_maker_store Φ a0 a1 a2 a3 a4 H Q) : Φ K.lower_maker_store [a0, a1, a2, a3, a4] H Q := hT.call (by kernel_rfl) (by kernel_rfl) (by rw [eq_lower_maker_store]; exact h)
theorem cl_lower_maker_label {Φ : Calls'} (hT : Cl Φ tab_lower) {a0 : AV} {H : AH} {Q : Post} (h : lower_maker_label Φ a0 H Q) : Φ K.lower_maker_label [a0] H Q := hT.call (by kernel_rfl) (by kernel_rfl) (by rw [eq_lower_maker_label]; exact h)
theorem cl_lower_maker_jump {Φ : Calls'} (hT : Cl Φ tab_lower) {a0 a1 a2 : AV} {H : AH} {Q : Post} (h : lower_maker_jump Φ a0 a1 a2 H Q) : Φ K.lower_maker_jump [a0, a1, a2] H Q := hT.call (by kernel_rfl) (by kernel_rfl) (by rw [eq_lower_maker_jump]; exact h)
theorem cl_lower_maker_mark {Φ : Calls'} (hT : Cl Φ tab_lower) {a0 a1 : AV} {H : AH} {Q : Post} (h : lower_maker_mark Φ a0 a1 H Q) : Φ K.lower_maker_mark [a0, a1] H Q := hT.call (by kernel_rfl) (by kernel_rfl) (by rw [eq_lower_maker_mark]; exact h)
theorem cl_lower_maker_place_c1 {Φ : Calls'} (hT : Cl Φ tab_lower) {a0 a1 : AV} {H : AH} {Q : Post} (h : lower_maker_place_c1 Φ a0 a1 H Q) : Φ K.lower_maker_place_c1 [a0, a1] H Q := hT.call (by kernel_rfl) (by kernel_rfl) (by rw [eq_lower_maker_place_c1]; exact h)
theorem cl_lower_maker_place_c2 {Φ : Calls'} (hT : Cl Φ tab_lower) {a0 a1 : AV} {H : AH} {Q : Post} (h : lower_maker_place_c2 Φ a0 a1 H Q) : Φ K.lower_maker_place_c2 [a0, a1] H Q := hT.call (by kernel_rfl) (by kernel_rfl) (by rw [eq_lower_maker_place_c2]; exact h)
theorem cl_lower_low {Φ : Calls'} (hT : Cl Φ tab_lower) {a0 a1 : AV} {H : AH} {Q : Post} (h : lower_low Φ a0 a1 H Q) : Φ K.lower_low [a0, a1] H Q := hT.call (by kernel_rfl) (by kernel_rfl) (by rw [eq_lower_low]; exact h)
theorem cl_lower_spot_pieces {Φ : Calls'} (hT : Cl Φ tab_lower) {a0 : AV} {H : AH} {Q : Post} (h : lower_spot_pieces Φ a0 H Q) : Φ K.lower_spot_pieces [a0] H Q := hT.call (by kernel_rfl) (by kernel_rfl) (by rw [eq_lower_spot_pieces]; exact h)
end Rb.S

/- Package lower: its functions as runs. By gen.py. -/
set_option linter.unusedVariables false
namespace Rb.R
open Go

def lower_Thread_k1 (Φ : CallsB) (n : Nat) (a1 : AV) (x1 : AV) (x3 : AV) (Q : PostB) : List AV → TH → Bool := fun j22 H23 =>
 DoB (afaddr 0 x1) fun x36 =>
 DoB (aload H23.ah 1 false x36) fun x37 =>
Φ K.world_Map [x37] H23 fun x39 H40 =>
 DoB (aextract 0 x39) fun x41 =>
 DoB (aextract 1 x39) fun x42 =>
 DoB (aextract 2 x39) fun x43 =>
 DoB (afaddr 0 x1) fun x44 =>
 DoB (aload H40.ah 1 false x44) fun x45 =>
 DoB (abuild [.lst .nil 0 [], .lst .nil 0 [], .lst .nil 0 [], .int .i64 0, .int .i64 0, .lst .nil 0 [], .int .i64 0, .lst .nil 0 []] [(0, 1, x45), (1, 1, x41)]) fun x47 =>
 DoHB (tboxv H40 true 8 x47) fun x48 H49 =>
 DoB (afaddr 1 x1) fun x50 =>
 DoB (aload H49.ah 1 false x50) fun x51 =>
 DoB (aiaddr none 1 x51 a1) fun x53 =>
 DoB (aload H49.ah 1 false x53) fun x54 =>
Φ K.lower_maker_block [x48, x54] H49 fun x56 H57 =>
 DoB (anilck x48) fun x58 =>
 DoB (afaddr 2 x58) fun x59 =>
 DoB (aload H57.ah 1 false x59) fun x60 =>
 DoB (alen false x60) fun x62 =>
 DoB (abin .gtr x62 (.int .i64 16384)) fun x63 =>
 GdB x63 true (
 DoB (abuild [.int .i64 0, .int .i64 0] [(1, 1, (.int .i64 12))]) fun x64 =>
 DoB (tstore H57 2 x3 x64) fun H66 =>
 DoB (aload H66.ah 2 true x3) fun x67 =>
 Q (.tup [(.lst .nil 0 []), (.int .i64 0), x67]) H66) (
 DoB (anilck x48) fun x68 =>
 DoB (afaddr 2 x68) fun x69 =>
 DoB (aload H57.ah 1 false x69) fun x70 =>
 DoB (anilck x48) fun x72 =>
 DoB (afaddr 3 x72) fun x73 =>
 DoB (aload H57.ah 1 false x73) fun x74 =>
 DoB (abuild [.int .i64 0, .int .i64 0] []) fun x76 =>
 DoB (tstore H57 2 x3 x76) fun H78 =>
 DoB (aload H78.ah 2 true x3) fun x79 =>
 Q (.tup [x70, x74, x79]) H78)
def lower_Thread_k2 (Φ : CallsB) (n : Nat) (a1 : AV) (x1 : AV) (x3 : AV) (Q : PostB) : List AV → TH → Bool := fun j24 H25 =>
 GdB (sl j24 0) true (
 DoB (abuild [.int .i64 0, .int .i64 0] [(1, 1, (.int .i64 1))]) fun x32 =>
 DoB (tstore H25 2 x3 x32) fun H34 =>
 DoB (aload H34.ah 2 true x3) fun x35 =>
 Q (.tup [(.lst .nil 0 []), (.int .i64 0), x35]) H34) (
 JoinB (lower_Thread_k1 Φ n a1 x1 x3 Q) [] H25)
def lower_Thread (Φ : CallsB) (n : Nat) (a0 : AV) (a1 : AV) (H : TH) (Q : PostB) : Bool :=
 DoHB (tboxv H false 2 a0) fun x1 H2 =>
 DoHB (some (tbox H2 true [.int .i64 0, .int .i64 0])) fun x3 H4 =>
 DoB (aload H4.ah 2 true x1) fun x5 =>
Φ K.check_Prog [x5] H4 fun x7 H8 =>
 DoHB (some (tbox H8 true [.int .i64 0, .int .i64 0])) fun x9 H10 =>
 DoB (tstore H10 2 x9 x7) fun H12 =>
 DoB (afaddr 1 x9) fun x13 =>
 DoB (aload H12.ah 1 false x13) fun x14 =>
 DoB (abin .neq x14 (.int .i64 0)) fun x16 =>
 GdB x16 true (
 DoB (aload H12.ah 2 true x9) fun x17 =>
 DoB (tstore H12 2 x3 x17) fun H20 =>
 DoB (aload H20.ah 2 true x3) fun x21 =>
 Q (.tup [(.lst .nil 0 []), (.int .i64 0), x21]) H20) (
 DoB (abin .lss a1 (.int .i64 0)) fun x26 =>
 Gd3B x26 false (
 DoB (afaddr 1 x1) fun x27 =>
 DoB (aload H12.ah 1 false x27) fun x28 =>
 DoB (alen false x28) fun x30 =>
 DoB (abin .geq a1 x30) fun x31 =>
 JoinB (lower_Thread_k2 Φ n a1 x1 x3 Q) [x31] H12) (
 JoinB (lower_Thread_k2 Φ n a1 x1 x3 Q) [(.bool true)] H12) (
 false))
theorem eq_lower_Thread (Φ : CallsB) (n : Nat) (a0 a1 : AV) (H : TH) (Q : PostB) : fnB1 Φ n S.ir_lower_Thread [a0, a1] H Q = lower_Thread Φ n a0 a1 H Q := by kernel_rfl

def lower_maker_block_k1 (Φ : CallsB) (n : Nat) (a0 : AV) (x5 : AV) (Q : PostB) : List AV → TH → Bool := fun j6 H7 =>
 DoB (anilck a0) fun x31 =>
 DoB (afaddr 7 x31) fun x32 =>
 DoB (aload H7.ah 1 false x32) fun x33 =>
 DoB (aslice 2 x33 none (some x5) none) fun x35 =>
 DoB (anilck a0) fun x36 =>
 DoB (afaddr 7 x36) fun x37 =>
 DoB (tstore H7 1 x37 x35) fun H39 =>
 Q (.tup []) H39
def lower_maker_block_l2 (Φ : CallsB) (n : Nat) (a0 : AV) (a1 : AV) (x5 : AV) (x8 : AV) (Q : PostB) : (List AV × TH) → ((List AV × TH) → Bool) → Bool := fun s9 L10 =>
 DoB (abin .lss (sl s9.1 0) x8) fun x11 =>
 GdB x11 true (
 DoB (aiaddr none 10 a1 (sl s9.1 0)) fun x12 =>
 DoB (aload s9.2.ah 10 true x12) fun x13 =>
 DoHB (some (tbox s9.2 true [.int .i64 0, .int .i64 0, .str [], .str [], .int .i64 0, .str [], .lst .nil 0 [], .lst .nil 0 [], .lst .nil 0 [], .lst .nil 0 []])) fun x15 H16 =>
 DoB (tstore H16 10 x15 x13) fun H18 =>
 DoB (afaddr 1 x15) fun x19 =>
 DoB (aload H18.ah 1 false x19) fun x20 =>
 DoB (anilck a0) fun x22 =>
 DoB (afaddr 6 x22) fun x23 =>
 DoB (tstore H18 1 x23 x20) fun H25 =>
 DoB (aload H25.ah 10 true x15) fun x26 =>
Φ K.lower_maker_stmt [a0, x26] H25 fun x28 H29 =>
 DoB (abin .add (sl s9.1 0) (.int .i64 1)) fun x30 =>
 L10 ([x30], H29)) (
 JoinB (lower_maker_block_k1 Φ n a0 x5 Q) [] s9.2)
def lower_maker_block (Φ : CallsB) (n : Nat) (a0 : AV) (a1 : AV) (H : TH) (Q : PostB) : Bool :=
 DoB (anilck a0) fun x1 =>
 DoB (afaddr 7 x1) fun x2 =>
 DoB (aload H.ah 1 false x2) fun x3 =>
 DoB (alen false x3) fun x5 =>
 DoB (alen false a1) fun x8 =>
 LoopB (lower_maker_block_l2 Φ n a0 a1 x5 x8 Q) n ([(.int .i64 0)], H)
theorem eq_lower_maker_block (Φ : CallsB) (n : Nat) (a0 a1 : AV) (H : TH) (Q : PostB) : fnB1 Φ n S.ir_lower_maker_block [a0, a1] H Q = lower_maker_block Φ n a0 a1 H Q := by kernel_rfl

def lower_Accesses_k1 (Φ : CallsB) (n : Nat) (a1 : AV) (x1 : AV) (Q : PostB) : List AV → TH → Bool := fun j3 H4 =>
 DoB (afaddr 0 x1) fun x27 =>
 DoB (aload H4.ah 1 false x27) fun x28 =>
Φ K.world_Map [x28] H4 fun x30 H31 =>
 DoB (aextract 0 x30) fun x32 =>
 DoB (aextract 1 x30) fun x33 =>
 DoB (aextract 2 x30) fun x34 =>
 DoB (afaddr 0 x1) fun x35 =>
 DoB (aload H31.ah 1 false x35) fun x36 =>
 DoB (abuild [.lst .nil 0 [], .lst .nil 0 [], .lst .nil 0 [], .int .i64 0, .int .i64 0, .lst .nil 0 [], .int .i64 0, .lst .nil 0 []] [(0, 1, x36), (1, 1, x32)]) fun x38 =>
 DoHB (tboxv H31 true 8 x38) fun x39 H40 =>
 DoB (afaddr 1 x1) fun x41 =>
 DoB (aload H40.ah 1 false x41) fun x42 =>
 DoB (aiaddr none 1 x42 a1) fun x44 =>
 DoB (aload H40.ah 1 false x44) fun x45 =>
Φ K.lower_maker_block [x39, x45] H40 fun x47 H48 =>
 DoB (anilck x39) fun x49 =>
 DoB (afaddr 5 x49) fun x50 =>
 DoB (aload H48.ah 1 false x50) fun x51 =>
 Q x51 H48
def lower_Accesses_k2 (Φ : CallsB) (n : Nat) (a1 : AV) (x1 : AV) (Q : PostB) : List AV → TH → Bool := fun j13 H14 =>
 GdB (sl j13 0) true (
 Q (.lst .nil 0 []) H14) (
 JoinB (lower_Accesses_k1 Φ n a1 x1 Q) [] H14)
def lower_Accesses_k3 (Φ : CallsB) (n : Nat) (a1 : AV) (x1 : AV) (Q : PostB) : List AV → TH → Bool := fun j15 H16 =>
 Gd3B (sl j15 0) false (
 DoB (afaddr 1 x1) fun x22 =>
 DoB (aload H16.ah 1 false x22) fun x23 =>
 DoB (alen false x23) fun x25 =>
 DoB (abin .geq a1 x25) fun x26 =>
 JoinB (lower_Accesses_k2 Φ n a1 x1 Q) [x26] H16) (
 JoinB (lower_Accesses_k2 Φ n a1 x1 Q) [(.bool true)] H16) (
 false)
def lower_Accesses (Φ : CallsB) (n : Nat) (a0 : AV) (a1 : AV) (H : TH) (Q : PostB) : Bool :=
 DoHB (tboxv H false 2 a0) fun x1 H2 =>
 DoB (aload H2.ah 2 true x1) fun x5 =>
Φ K.check_Prog [x5] H2 fun x7 H8 =>
 DoHB (some (tbox H8 true [.int .i64 0, .int .i64 0])) fun x9 H10 =>
 DoB (tstore H10 2 x9 x7) fun H12 =>
 DoB (afaddr 1 x9) fun x17 =>
 DoB (aload H12.ah 1 false x17) fun x18 =>
 DoB (abin .neq x18 (.int .i64 0)) fun x20 =>
 Gd3B x20 false (
 DoB (abin .lss a1 (.int .i64 0)) fun x21 =>
 JoinB (lower_Accesses_k3 Φ n a1 x1 Q) [x21] H12) (
 JoinB (lower_Accesses_k3 Φ n a1 x1 Q) [(.bool true)] H12) (
 false)
theorem eq_lower_Accesses (Φ : CallsB) (n : Nat) (a0 a1 : AV) (H : TH) (Q : PostB) : fnB1 Φ n S.ir_lower_Accesses [a0, a1] H Q = lower_Accesses Φ n a0 a1 H Q := by kernel_rfl

def lower_maker_stmt_k1 (Φ : CallsB) (n : Nat) (a0 : AV) (x1 : AV) (x4 : AV) (Q : PostB) : List AV → TH → Bool := fun j63 H64 =>
 GdB (sl j63 0) true (
 DoB (aload H64.ah 10 true x1) fun x66 =>
Φ K.lower_maker_stored [a0, x66] H64 fun x68 H69 =>
 Q (.tup []) H69) (
 DoB (abin .eql x4 (.int .i64 5)) fun x70 =>
 GdB x70 true (
 DoB (aload H64.ah 10 true x1) fun x71 =>
Φ K.lower_maker_loaded [a0, x71] H64 fun x73 H74 =>
 Q (.tup []) H74) (
 DoB (abin .eql x4 (.int .i64 7)) fun x75 =>
 GdB x75 true (
Φ K.lower_step [(.int .i64 13)] H64 fun x76 H77 =>
 DoHB (some (tbox H77 true [.int .i64 0, .int .i64 0, .int .i64 0, .int .i64 0, .int .i64 0, .int .i64 0, .int .u64 0, .int .i64 0, .int .i64 0, .int .i64 0, .int .i64 0, .int .i64 0, .int .i64 0])) fun x78 H79 =>
 DoB (tstore H79 13 x78 x76) fun H81 =>
 DoB (afaddr 4 x1) fun x82 =>
 DoB (aload H81.ah 1 false x82) fun x83 =>
 DoB (afaddr 0 x1) fun x85 =>
 DoB (aload H81.ah 1 false x85) fun x86 =>
 DoB (afaddr 4 x1) fun x88 =>
 DoB (aload H81.ah 1 false x88) fun x89 =>
 DoB (abuild [.str [], .lst .nil 0 []] []) fun x91 =>
 DoB (afaddr 9 x78) fun x92 =>
Φ K.lower_maker_site [a0, x86, x89, x91] H81 fun x93 H94 =>
 and (sameV (aload H94.ah 1 false x82) x83) (
 DoB (tstore H94 1 x92 x83) fun H96 =>
 DoB (afaddr 11 x78) fun x97 =>
 DoB (tstore H96 1 x97 x93) fun H99 =>
 DoB (aload H99.ah 13 true x78) fun x100 =>
Φ K.lower_maker_add [a0, x100] H99 fun x102 H103 =>
 Q (.tup []) H103)) (
 DoB (abin .eql x4 (.int .i64 8)) fun x104 =>
 GdB x104 true (
 DoB (aload H64.ah 10 true x1) fun x105 =>
Φ K.lower_maker_choose [a0, x105] H64 fun x107 H108 =>
 Q (.tup []) H108) (
 DoB (abin .eql x4 (.int .i64 9)) fun x109 =>
 GdB x109 true (
 DoB (aload H64.ah 10 true x1) fun x110 =>
Φ K.lower_maker_loop [a0, x110] H64 fun x112 H113 =>
 Q (.tup []) H113) (
 DoB (abin .eql x4 (.int .i64 10)) fun x114 =>
 GdB x114 true (
Φ K.lower_step [(.int .i64 18)] H64 fun x115 H116 =>
 DoHB (some (tbox H116 true [.int .i64 0, .int .i64 0, .int .i64 0, .int .i64 0, .int .i64 0, .int .i64 0, .int .u64 0, .int .i64 0, .int .i64 0, .int .i64 0, .int .i64 0, .int .i64 0, .int .i64 0])) fun x117 H118 =>
 DoB (tstore H118 13 x117 x115) fun H120 =>
 DoB (afaddr 7 x1) fun x121 =>
 DoB (aload H120.ah 1 false x121) fun x122 =>
 DoB (aiaddr none 8 x122 (.int .i64 0)) fun x124 =>
 DoB (aload H120.ah 8 true x124) fun x125 =>
Φ K.lower_maker_expr [a0, x125] H120 fun x127 H128 =>
 DoB (afaddr 3 x117) fun x129 =>
 DoB (tstore H128 1 x129 x127) fun H131 =>
 DoB (aload H131.ah 13 true x117) fun x132 =>
Φ K.lower_maker_add [a0, x132] H131 fun x134 H135 =>
 Q (.tup []) H135) (
 Q (.tup []) H64))))))
def lower_maker_stmt (Φ : CallsB) (n : Nat) (a0 : AV) (a1 : AV) (H : TH) (Q : PostB) : Bool :=
 DoHB (tboxv H false 10 a1) fun x1 H2 =>
 DoB (afaddr 0 x1) fun x3 =>
 DoB (aload H2.ah 1 false x3) fun x4 =>
 DoB (abin .eql x4 (.int .i64 1)) fun x6 =>
 GdB x6 true (
 DoB (afaddr 7 x1) fun x7 =>
 DoB (aload H2.ah 1 false x7) fun x8 =>
 DoB (aiaddr none 8 x8 (.int .i64 0)) fun x10 =>
 DoB (aload H2.ah 8 true x10) fun x11 =>
Φ K.lower_maker_expr [a0, x11] H2 fun x13 H14 =>
Φ K.lower_maker_fresh [a0] H14 fun x15 H16 =>
Φ K.lower_maker_set [a0, x15, x13] H16 fun x17 H18 =>
 DoB (anilck a0) fun x19 =>
 DoB (afaddr 7 x19) fun x20 =>
 DoB (aload H18.ah 1 false x20) fun x21 =>
 DoB (afaddr 2 x1) fun x23 =>
 DoB (aload H18.ah 1 false x23) fun x24 =>
 DoB (abuild [.str [], .int .i64 0] [(0, 1, x24), (1, 1, x15)]) fun x26 =>
 DoHB (tbslice H18 false 2 1 [.str [], .int .i64 0] [(0, 2, x26)]) fun x27 H28 =>
 DoHB (tappend H28 false 2 24 x21 x27) fun x29 H30 =>
 DoB (anilck a0) fun x31 =>
 DoB (afaddr 7 x31) fun x32 =>
 DoB (tstore H30 1 x32 x29) fun H34 =>
 Q (.tup []) H34) (
 DoB (abin .eql x4 (.int .i64 2)) fun x35 =>
 GdB x35 true (
 DoB (afaddr 7 x1) fun x36 =>
 DoB (aload H2.ah 1 false x36) fun x37 =>
 DoB (aiaddr none 8 x37 (.int .i64 0)) fun x39 =>
 DoB (aload H2.ah 8 true x39) fun x40 =>
Φ K.lower_maker_expr [a0, x40] H2 fun x42 H43 =>
 DoB (afaddr 2 x1) fun x44 =>
 DoB (aload H43.ah 1 false x44) fun x45 =>
Φ K.lower_maker_find [a0, x45] H43 fun x47 H48 =>
Φ K.lower_maker_set [a0, x47, x42] H48 fun x49 H50 =>
 Q (.tup []) H50) (
 DoB (abin .eql x4 (.int .i64 3)) fun x51 =>
 GdB x51 true (
 DoB (afaddr 5 x1) fun x52 =>
 DoB (aload H2.ah 2 true x52) fun x53 =>
 DoB (afaddr 7 x1) fun x55 =>
 DoB (aload H2.ah 1 false x55) fun x56 =>
 DoB (aiaddr none 8 x56 (.int .i64 0)) fun x58 =>
 DoB (aload H2.ah 8 true x58) fun x59 =>
Φ K.lower_maker_write [a0, x53, x59] H2 fun x61 H62 =>
 Q (.tup []) H62) (
 DoB (abin .eql x4 (.int .i64 4)) fun x65 =>
 GdB x65 true (
 JoinB (lower_maker_stmt_k1 Φ n a0 x1 x4 Q) [x65] H2) (
 DoB (abin .eql x4 (.int .i64 6)) fun x136 =>
 JoinB (lower_maker_stmt_k1 Φ n a0 x1 x4 Q) [x136] H2))))
theorem eq_lower_maker_stmt (Φ : CallsB) (n : Nat) (a0 a1 : AV) (H : TH) (Q : PostB) : fnB1 Φ n S.ir_lower_maker_stmt [a0, a1] H Q = lower_maker_stmt Φ n a0 a1 H Q := by kernel_rfl

def lower_maker_expr (Φ : CallsB) (n : Nat) (a0 : AV) (a1 : AV) (H : TH) (Q : PostB) : Bool :=
 DoHB (tboxv H false 8 a1) fun x1 H2 =>
 DoB (afaddr 0 x1) fun x3 =>
 DoB (aload H2.ah 1 false x3) fun x4 =>
 DoB (abin .eql x4 (.int .i64 1)) fun x6 =>
 GdB x6 true (
 DoB (afaddr 1 x1) fun x7 =>
 DoB (aload H2.ah 1 false x7) fun x8 =>
Φ K.lower_maker_number [a0, x8] H2 fun x10 H11 =>
 Q x10 H11) (
 DoB (abin .eql x4 (.int .i64 2)) fun x12 =>
 GdB x12 true (
 DoB (afaddr 2 x1) fun x13 =>
 DoB (aload H2.ah 1 false x13) fun x14 =>
Φ K.lower_maker_find [a0, x14] H2 fun x16 H17 =>
 Q x16 H17) (
 DoB (abin .eql x4 (.int .i64 3)) fun x18 =>
 GdB x18 true (
 DoB (afaddr 7 x1) fun x19 =>
 DoB (aload H2.ah 1 false x19) fun x20 =>
 DoB (aiaddr none 8 x20 (.int .i64 0)) fun x22 =>
 DoB (aload H2.ah 8 true x22) fun x23 =>
Φ K.lower_maker_expr [a0, x23] H2 fun x25 H26 =>
 DoB (afaddr 3 x1) fun x27 =>
 DoB (aload H26.ah 1 false x27) fun x28 =>
 DoB (afaddr 7 x1) fun x30 =>
 DoB (aload H26.ah 1 false x30) fun x31 =>
 DoB (aiaddr none 8 x31 (.int .i64 1)) fun x33 =>
 DoB (aload H26.ah 8 true x33) fun x34 =>
Φ K.lower_maker_expr [a0, x34] H26 fun x36 H37 =>
 and (sameV (aload H37.ah 1 false x27) x28) (
Φ K.lower_maker_bin [a0, x28, x25, x36] H37 fun x38 H39 =>
 Q x38 H39)) (
 DoB (abin .eql x4 (.int .i64 4)) fun x40 =>
 GdB x40 true (
 DoB (afaddr 5 x1) fun x41 =>
 DoB (aload H2.ah 2 true x41) fun x42 =>
Φ K.lower_maker_read [a0, x42] H2 fun x44 H45 =>
 Q x44 H45) (
 DoB (aload H2.ah 8 true x1) fun x46 =>
Φ K.lower_maker_atomic [a0, x46] H2 fun x48 H49 =>
 Q x48 H49))))
theorem eq_lower_maker_expr (Φ : CallsB) (n : Nat) (a0 a1 : AV) (H : TH) (Q : PostB) : fnB1 Φ n S.ir_lower_maker_expr [a0, a1] H Q = lower_maker_expr Φ n a0 a1 H Q := by kernel_rfl

def lower_maker_fresh (Φ : CallsB) (n : Nat) (a0 : AV) (H : TH) (Q : PostB) : Bool :=
 DoB (anilck a0) fun x1 =>
 DoB (afaddr 3 x1) fun x2 =>
 DoB (aload H.ah 1 false x2) fun x3 =>
 DoB (abin .add x3 (.int .i64 1)) fun x5 =>
 DoB (anilck a0) fun x6 =>
 DoB (afaddr 3 x6) fun x7 =>
 DoB (tstore H 1 x7 x5) fun H9 =>
 DoB (anilck a0) fun x10 =>
 DoB (afaddr 3 x10) fun x11 =>
 DoB (aload H9.ah 1 false x11) fun x12 =>
 DoB (abin .sub x12 (.int .i64 1)) fun x14 =>
 Q x14 H9
theorem eq_lower_maker_fresh (Φ : CallsB) (n : Nat) (a0 : AV) (H : TH) (Q : PostB) : fnB1 Φ n S.ir_lower_maker_fresh [a0] H Q = lower_maker_fresh Φ n a0 H Q := by kernel_rfl

def lower_maker_set (Φ : CallsB) (n : Nat) (a0 : AV) (a1 : AV) (a2 : AV) (H : TH) (Q : PostB) : Bool :=
Φ K.lower_step [(.int .i64 2)] H fun x1 H2 =>
 DoHB (some (tbox H2 true [.int .i64 0, .int .i64 0, .int .i64 0, .int .i64 0, .int .i64 0, .int .i64 0, .int .u64 0, .int .i64 0, .int .i64 0, .int .i64 0, .int .i64 0, .int .i64 0, .int .i64 0])) fun x3 H4 =>
 DoB (tstore H4 13 x3 x1) fun H6 =>
 DoB (afaddr 1 x3) fun x7 =>
 DoB (tstore H6 1 x7 a1) fun H9 =>
 DoB (afaddr 3 x3) fun x10 =>
 DoB (tstore H9 1 x10 a2) fun H12 =>
 DoB (aload H12.ah 13 true x3) fun x13 =>
Φ K.lower_maker_add [a0, x13] H12 fun x15 H16 =>
 Q (.tup []) H16
theorem eq_lower_maker_set (Φ : CallsB) (n : Nat) (a0 a1 a2 : AV) (H : TH) (Q : PostB) : fnB1 Φ n S.ir_lower_maker_set [a0, a1, a2] H Q = lower_maker_set Φ n a0 a1 a2 H Q := by kernel_rfl

def lower_maker_find (Φ : CallsB) (n : Nat) (a0 : AV) (a1 : AV) (H : TH) (Q : PostB) : Bool :=
 DoHB (tboxv H true 1 a1) fun x1 H2 =>
 DoB (anilck a0) fun x3 =>
 DoB (afaddr 7 x3) fun x4 =>
 DoB (aload H2.ah 1 false x4) fun x5 =>
Φ K.slices_IndexFunc___lower_local_lower_local_ [x5, (.fn K.lower_maker_find_c1 [x1])] H2 fun x7 H8 =>
 DoB (anilck a0) fun x9 =>
 DoB (afaddr 7 x9) fun x10 =>
 DoB (aload H8.ah 1 false x10) fun x11 =>
 DoB (aiaddr none 2 x11 x7) fun x13 =>
 DoB (afaddr 1 x13) fun x14 =>
 DoB (aload H8.ah 1 false x14) fun x15 =>
 Q x15 H8
theorem eq_lower_maker_find (Φ : CallsB) (n : Nat) (a0 a1 : AV) (H : TH) (Q : PostB) : fnB1 Φ n S.ir_lower_maker_find [a0, a1] H Q = lower_maker_find Φ n a0 a1 H Q := by kernel_rfl

def lower_maker_write_k1 (Φ : CallsB) (n : Nat) (a0 : AV) (x9 : AV) (x19 : AV) (x23 : AV) (Q : PostB) : List AV → TH → Bool := fun j25 H26 =>
 DoB (aload H26.ah 8 true x9) fun x66 =>
Φ K.lower_maker_store [a0, x66, x19, (sl j25 0), x23] H26 fun x68 H69 =>
 Q (.tup []) H69
def lower_maker_write (Φ : CallsB) (n : Nat) (a0 : AV) (a1 : AV) (a2 : AV) (H : TH) (Q : PostB) : Bool :=
 DoHB (tboxv H false 2 a1) fun x1 H2 =>
 DoHB (tboxv H2 false 8 a2) fun x3 H4 =>
 DoB (aload H4.ah 2 true x1) fun x5 =>
Φ K.lower_maker_place [a0, x5] H4 fun x7 H8 =>
 DoHB (some (tbox H8 true [.int .i64 0, .int .i64 0, .int .i64 0, .bool false, .int .i64 0, .int .i64 0, .int .i64 0, .int .i64 0])) fun x9 H10 =>
 DoB (tstore H10 8 x9 x7) fun H12 =>
 DoB (aload H12.ah 8 true x3) fun x13 =>
Φ K.lower_maker_expr [a0, x13] H12 fun x15 H16 =>
 DoB (aload H16.ah 8 true x9) fun x17 =>
Φ K.lower_maker_address [a0, x17] H16 fun x19 H20 =>
 DoB (aload H20.ah 2 true x1) fun x21 =>
Φ K.lower_maker_site [a0, (.int .i64 3), (.int .i64 0), x21] H20 fun x23 H24 =>
 DoB (afaddr 0 x9) fun x27 =>
 DoB (afaddr 3 x27) fun x28 =>
 DoB (aload H24.ah 1 false x28) fun x29 =>
 GdB x29 true (
 DoB (aload H24.ah 8 true x9) fun x31 =>
Φ K.lower_maker_load [a0, x31, x19, x23] H24 fun x33 H34 =>
 DoB (afaddr 0 x9) fun x35 =>
 DoB (afaddr 5 x35) fun x36 =>
 DoB (aload H34.ah 1 false x36) fun x37 =>
 DoB (afaddr 0 x9) fun x39 =>
 DoB (afaddr 4 x39) fun x40 =>
 DoB (aload H34.ah 1 false x40) fun x41 =>
Φ K.lower_ones [x37] H34 fun x43 H44 =>
 and (sameV (aload H44.ah 1 false x40) x41) (
 DoB (abin .shl x43 x41) fun x45 =>
 DoB (aun .xor x45) fun x46 =>
Φ K.lower_maker_with [a0, (.int .i64 4), x33, x46] H44 fun x47 H48 =>
 DoB (afaddr 0 x9) fun x49 =>
 DoB (afaddr 5 x49) fun x50 =>
 DoB (aload H48.ah 1 false x50) fun x51 =>
 DoB (afaddr 0 x9) fun x53 =>
 DoB (afaddr 4 x53) fun x54 =>
 DoB (aload H48.ah 1 false x54) fun x55 =>
 DoB (aconv .u64 x55) fun x57 =>
Φ K.lower_ones [x51] H48 fun x58 H59 =>
 and (sameV (aload H59.ah 1 false x54) x55) (
Φ K.lower_maker_with [a0, (.int .i64 4), x15, x58] H59 fun x60 H61 =>
 and (sameV (aload H61.ah 1 false x54) x55) (
Φ K.lower_maker_with [a0, (.int .i64 7), x60, x57] H61 fun x62 H63 =>
Φ K.lower_maker_bin [a0, (.int .i64 5), x47, x62] H63 fun x64 H65 =>
 JoinB (lower_maker_write_k1 Φ n a0 x9 x19 x23 Q) [x64] H65)))) (
 JoinB (lower_maker_write_k1 Φ n a0 x9 x19 x23 Q) [x15] H24)
theorem eq_lower_maker_write (Φ : CallsB) (n : Nat) (a0 a1 a2 : AV) (H : TH) (Q : PostB) : fnB1 Φ n S.ir_lower_maker_write [a0, a1, a2] H Q = lower_maker_write Φ n a0 a1 a2 H Q := by kernel_rfl

def lower_maker_stored_k1 (Φ : CallsB) (n : Nat) (a0 : AV) (x1 : AV) (x8 : AV) (x14 : AV) (Q : PostB) : List AV → TH → Bool := fun j29 H30 =>
 DoB (aload H30.ah 8 true x8) fun x49 =>
Φ K.lower_maker_address [a0, x49] H30 fun x51 H52 =>
 DoB (afaddr 3 x14) fun x53 =>
 DoB (tstore H52 1 x53 x51) fun H55 =>
 DoB (afaddr 0 x8) fun x56 =>
 DoB (afaddr 0 x56) fun x57 =>
 DoB (afaddr 1 x57) fun x58 =>
 DoB (aload H55.ah 1 false x58) fun x59 =>
 DoB (afaddr 4 x1) fun x61 =>
 DoB (aload H55.ah 1 false x61) fun x62 =>
 DoB (afaddr 0 x1) fun x64 =>
 DoB (aload H55.ah 1 false x64) fun x65 =>
 DoB (afaddr 4 x1) fun x67 =>
 DoB (aload H55.ah 1 false x67) fun x68 =>
 DoB (afaddr 5 x1) fun x70 =>
 DoB (aload H55.ah 2 true x70) fun x71 =>
 DoB (afaddr 8 x14) fun x73 =>
Φ K.lower_maker_site [a0, x65, x68, x71] H55 fun x74 H75 =>
 and (sameV (aload H75.ah 1 false x58) x59) (
 and (sameV (aload H75.ah 1 false x61) x62) (
 DoB (tstore H75 1 x73 x59) fun H77 =>
 and (sameV (aload H77.ah 1 false x61) x62) (
 DoB (afaddr 9 x14) fun x78 =>
 DoB (tstore H77 1 x78 x62) fun H80 =>
 DoB (afaddr 11 x14) fun x81 =>
 DoB (tstore H80 1 x81 x74) fun H83 =>
 DoB (aload H83.ah 13 true x14) fun x84 =>
Φ K.lower_maker_add [a0, x84] H83 fun x86 H87 =>
 Q (.tup []) H87)))
def lower_maker_stored (Φ : CallsB) (n : Nat) (a0 : AV) (a1 : AV) (H : TH) (Q : PostB) : Bool :=
 DoHB (tboxv H false 10 a1) fun x1 H2 =>
 DoB (afaddr 5 x1) fun x3 =>
 DoB (aload H2.ah 2 true x3) fun x4 =>
Φ K.lower_maker_place [a0, x4] H2 fun x6 H7 =>
 DoHB (some (tbox H7 true [.int .i64 0, .int .i64 0, .int .i64 0, .bool false, .int .i64 0, .int .i64 0, .int .i64 0, .int .i64 0])) fun x8 H9 =>
 DoB (tstore H9 8 x8 x6) fun H11 =>
Φ K.lower_step [(.int .i64 7)] H11 fun x12 H13 =>
 DoHB (some (tbox H13 true [.int .i64 0, .int .i64 0, .int .i64 0, .int .i64 0, .int .i64 0, .int .i64 0, .int .u64 0, .int .i64 0, .int .i64 0, .int .i64 0, .int .i64 0, .int .i64 0, .int .i64 0])) fun x14 H15 =>
 DoB (tstore H15 13 x14 x12) fun H17 =>
 DoB (afaddr 7 x1) fun x18 =>
 DoB (aload H17.ah 1 false x18) fun x19 =>
 DoB (aiaddr none 8 x19 (.int .i64 0)) fun x21 =>
 DoB (aload H17.ah 8 true x21) fun x22 =>
Φ K.lower_maker_expr [a0, x22] H17 fun x24 H25 =>
 DoB (afaddr 4 x14) fun x26 =>
 DoB (tstore H25 1 x26 x24) fun H28 =>
 DoB (afaddr 0 x1) fun x31 =>
 DoB (aload H28.ah 1 false x31) fun x32 =>
 DoB (abin .eql x32 (.int .i64 6)) fun x34 =>
 GdB x34 true (
 DoB (afaddr 0 x14) fun x35 =>
 DoB (tstore H28 1 x35 (.int .i64 12)) fun H37 =>
 DoB (afaddr 7 x1) fun x38 =>
 DoB (aload H37.ah 1 false x38) fun x39 =>
 DoB (aiaddr none 8 x39 (.int .i64 1)) fun x41 =>
 DoB (aload H37.ah 8 true x41) fun x42 =>
Φ K.lower_maker_expr [a0, x42] H37 fun x44 H45 =>
 DoB (afaddr 5 x14) fun x46 =>
 DoB (tstore H45 1 x46 x44) fun H48 =>
 JoinB (lower_maker_stored_k1 Φ n a0 x1 x8 x14 Q) [] H48) (
 JoinB (lower_maker_stored_k1 Φ n a0 x1 x8 x14 Q) [] H28)
theorem eq_lower_maker_stored (Φ : CallsB) (n : Nat) (a0 a1 : AV) (H : TH) (Q : PostB) : fnB1 Φ n S.ir_lower_maker_stored [a0, a1] H Q = lower_maker_stored Φ n a0 a1 H Q := by kernel_rfl

def lower_maker_loaded (Φ : CallsB) (n : Nat) (a0 : AV) (a1 : AV) (H : TH) (Q : PostB) : Bool :=
 DoHB (tboxv H false 10 a1) fun x1 H2 =>
 DoB (afaddr 5 x1) fun x3 =>
 DoB (aload H2.ah 2 true x3) fun x4 =>
Φ K.lower_maker_place [a0, x4] H2 fun x6 H7 =>
 DoHB (some (tbox H7 true [.int .i64 0, .int .i64 0, .int .i64 0, .bool false, .int .i64 0, .int .i64 0, .int .i64 0, .int .i64 0])) fun x8 H9 =>
 DoB (tstore H9 8 x8 x6) fun H11 =>
Φ K.lower_step [(.int .i64 11)] H11 fun x12 H13 =>
 DoHB (some (tbox H13 true [.int .i64 0, .int .i64 0, .int .i64 0, .int .i64 0, .int .i64 0, .int .i64 0, .int .u64 0, .int .i64 0, .int .i64 0, .int .i64 0, .int .i64 0, .int .i64 0, .int .i64 0])) fun x14 H15 =>
 DoB (tstore H15 13 x14 x12) fun H17 =>
 DoB (aload H17.ah 8 true x8) fun x18 =>
Φ K.lower_maker_address [a0, x18] H17 fun x20 H21 =>
 DoB (afaddr 3 x14) fun x22 =>
 DoB (tstore H21 1 x22 x20) fun H24 =>
 DoB (afaddr 0 x8) fun x25 =>
 DoB (afaddr 0 x25) fun x26 =>
 DoB (afaddr 1 x26) fun x27 =>
 DoB (aload H24.ah 1 false x27) fun x28 =>
 DoB (afaddr 4 x1) fun x30 =>
 DoB (aload H24.ah 1 false x30) fun x31 =>
 DoB (afaddr 0 x1) fun x33 =>
 DoB (aload H24.ah 1 false x33) fun x34 =>
 DoB (afaddr 4 x1) fun x36 =>
 DoB (aload H24.ah 1 false x36) fun x37 =>
 DoB (afaddr 5 x1) fun x39 =>
 DoB (aload H24.ah 2 true x39) fun x40 =>
Φ K.lower_maker_fresh [a0] H24 fun x42 H43 =>
 and (sameV (aload H43.ah 1 false x27) x28) (
 and (sameV (aload H43.ah 1 false x30) x31) (
 and (sameV (aload H43.ah 1 false x33) x34) (
 and (sameV (aload H43.ah 1 false x36) x37) (
 and (sameV (aload H43.ah 2 true x39) x40) (
 DoB (afaddr 1 x14) fun x44 =>
Φ K.lower_maker_fresh [a0] H43 fun x45 H46 =>
 and (sameV (aload H46.ah 1 false x27) x28) (
 and (sameV (aload H46.ah 1 false x30) x31) (
 and (sameV (aload H46.ah 1 false x33) x34) (
 and (sameV (aload H46.ah 1 false x36) x37) (
 and (sameV (aload H46.ah 2 true x39) x40) (
Φ K.lower_maker_site [a0, x34, x37, x40] H46 fun x47 H48 =>
 and (sameV (aload H48.ah 1 false x27) x28) (
 and (sameV (aload H48.ah 1 false x30) x31) (
 DoB (tstore H48 1 x44 x42) fun H50 =>
 and (sameV (aload H50.ah 1 false x27) x28) (
 and (sameV (aload H50.ah 1 false x30) x31) (
 DoB (afaddr 2 x14) fun x51 =>
 DoB (tstore H50 1 x51 x45) fun H53 =>
 and (sameV (aload H53.ah 1 false x27) x28) (
 and (sameV (aload H53.ah 1 false x30) x31) (
 DoB (afaddr 8 x14) fun x54 =>
 DoB (tstore H53 1 x54 x28) fun H56 =>
 and (sameV (aload H56.ah 1 false x30) x31) (
 DoB (afaddr 9 x14) fun x57 =>
 DoB (tstore H56 1 x57 x31) fun H59 =>
 DoB (afaddr 11 x14) fun x60 =>
 DoB (tstore H59 1 x60 x47) fun H62 =>
 DoB (aload H62.ah 13 true x14) fun x63 =>
Φ K.lower_maker_add [a0, x63] H62 fun x65 H66 =>
 DoB (afaddr 2 x1) fun x67 =>
 DoB (aload H66.ah 1 false x67) fun x68 =>
 DoB (afaddr 1 x14) fun x70 =>
 DoB (aload H66.ah 1 false x70) fun x71 =>
Φ K.lower_maker_find [a0, x68] H66 fun x73 H74 =>
 and (sameV (aload H74.ah 1 false x70) x71) (
Φ K.lower_maker_set [a0, x73, x71] H74 fun x75 H76 =>
 DoB (afaddr 3 x1) fun x77 =>
 DoB (aload H76.ah 1 false x77) fun x78 =>
 DoB (afaddr 2 x14) fun x80 =>
 DoB (aload H76.ah 1 false x80) fun x81 =>
Φ K.lower_maker_find [a0, x78] H76 fun x83 H84 =>
 and (sameV (aload H84.ah 1 false x80) x81) (
Φ K.lower_maker_set [a0, x83, x81] H84 fun x85 H86 =>
 Q (.tup []) H86)))))))))))))))))))
theorem eq_lower_maker_loaded (Φ : CallsB) (n : Nat) (a0 a1 : AV) (H : TH) (Q : PostB) : fnB1 Φ n S.ir_lower_maker_loaded [a0, a1] H Q = lower_maker_loaded Φ n a0 a1 H Q := by kernel_rfl

def lower_step (Φ : CallsB) (n : Nat) (a0 : AV) (H : TH) (Q : PostB) : Bool :=
 DoHB (some (tbox H true [.int .i64 0, .int .i64 0, .int .i64 0, .int .i64 0, .int .i64 0, .int .i64 0, .int .u64 0, .int .i64 0, .int .i64 0, .int .i64 0, .int .i64 0, .int .i64 0, .int .i64 0])) fun x1 H2 =>
 DoB (abuild [.int .i64 0, .int .i64 0, .int .i64 0, .int .i64 0, .int .i64 0, .int .i64 0, .int .u64 0, .int .i64 0, .int .i64 0, .int .i64 0, .int .i64 0, .int .i64 0, .int .i64 0] [(0, 1, a0), (1, 1, (.int .i64 (-1))), (2, 1, (.int .i64 (-1))), (3, 1, (.int .i64 (-1))), (4, 1, (.int .i64 (-1))), (5, 1, (.int .i64 (-1)))]) fun x3 =>
 DoB (tstore H2 13 x1 x3) fun H5 =>
 DoB (aload H5.ah 13 true x1) fun x6 =>
 Q x6 H5
theorem eq_lower_step (Φ : CallsB) (n : Nat) (a0 : AV) (H : TH) (Q : PostB) : fnB1 Φ n S.ir_lower_step [a0] H Q = lower_step Φ n a0 H Q := by kernel_rfl

def lower_maker_site (Φ : CallsB) (n : Nat) (a0 : AV) (a1 : AV) (a2 : AV) (a3 : AV) (H : TH) (Q : PostB) : Bool :=
 DoHB (tboxv H false 2 a3) fun x1 H2 =>
 DoB (anilck a0) fun x3 =>
 DoB (afaddr 5 x3) fun x4 =>
 DoB (aload H2.ah 1 false x4) fun x5 =>
 DoB (anilck a0) fun x7 =>
 DoB (afaddr 6 x7) fun x8 =>
 DoB (aload H2.ah 1 false x8) fun x9 =>
 DoB (aload H2.ah 2 true x1) fun x11 =>
 DoB (abuild [.int .i64 0, .int .i64 0, .int .i64 0, .str [], .lst .nil 0 []] [(0, 1, a1), (1, 1, a2), (2, 1, x9), (3, 2, x11)]) fun x13 =>
 DoHB (tbslice H2 false 5 1 [.int .i64 0, .int .i64 0, .int .i64 0, .str [], .lst .nil 0 []] [(0, 5, x13)]) fun x14 H15 =>
 DoHB (tappend H15 false 5 64 x5 x14) fun x16 H17 =>
 DoB (anilck a0) fun x18 =>
 DoB (afaddr 5 x18) fun x19 =>
 DoB (tstore H17 1 x19 x16) fun H21 =>
 DoB (anilck a0) fun x22 =>
 DoB (afaddr 5 x22) fun x23 =>
 DoB (aload H21.ah 1 false x23) fun x24 =>
 DoB (alen false x24) fun x26 =>
 Q x26 H21
theorem eq_lower_maker_site (Φ : CallsB) (n : Nat) (a0 a1 a2 a3 : AV) (H : TH) (Q : PostB) : fnB1 Φ n S.ir_lower_maker_site [a0, a1, a2, a3] H Q = lower_maker_site Φ n a0 a1 a2 a3 H Q := by kernel_rfl

def lower_maker_add (Φ : CallsB) (n : Nat) (a0 : AV) (a1 : AV) (H : TH) (Q : PostB) : Bool :=
 DoHB (tboxv H true 13 a1) fun x1 H2 =>
 DoB (anilck a0) fun x3 =>
 DoB (afaddr 6 x3) fun x4 =>
 DoB (aload H2.ah 1 false x4) fun x5 =>
 DoB (afaddr 12 x1) fun x7 =>
 DoB (tstore H2 1 x7 x5) fun H9 =>
 DoB (anilck a0) fun x10 =>
 DoB (afaddr 2 x10) fun x11 =>
 DoB (aload H9.ah 1 false x11) fun x12 =>
 DoB (aload H9.ah 13 true x1) fun x14 =>
 DoHB (tbslice H9 false 13 1 [.int .i64 0, .int .i64 0, .int .i64 0, .int .i64 0, .int .i64 0, .int .i64 0, .int .u64 0, .int .i64 0, .int .i64 0, .int .i64 0, .int .i64 0, .int .i64 0, .int .i64 0] [(0, 13, x14)]) fun x16 H17 =>
 DoHB (tappend H17 false 13 104 x12 x16) fun x18 H19 =>
 DoB (anilck a0) fun x20 =>
 DoB (afaddr 2 x20) fun x21 =>
 DoB (tstore H19 1 x21 x18) fun H23 =>
 Q (.tup []) H23
theorem eq_lower_maker_add (Φ : CallsB) (n : Nat) (a0 a1 : AV) (H : TH) (Q : PostB) : fnB1 Φ n S.ir_lower_maker_add [a0, a1] H Q = lower_maker_add Φ n a0 a1 H Q := by kernel_rfl

def lower_maker_choose (Φ : CallsB) (n : Nat) (a0 : AV) (a1 : AV) (H : TH) (Q : PostB) : Bool :=
 DoHB (tboxv H false 10 a1) fun x1 H2 =>
Φ K.lower_maker_label [a0] H2 fun x3 H4 =>
Φ K.lower_maker_label [a0] H4 fun x5 H6 =>
 DoB (afaddr 7 x1) fun x7 =>
 DoB (aload H6.ah 1 false x7) fun x8 =>
 DoB (aiaddr none 8 x8 (.int .i64 0)) fun x10 =>
 DoB (aload H6.ah 8 true x10) fun x11 =>
Φ K.lower_maker_expr [a0, x11] H6 fun x13 H14 =>
Φ K.lower_maker_jump [a0, x3, x13] H14 fun x15 H16 =>
 DoB (afaddr 8 x1) fun x17 =>
 DoB (aload H16.ah 1 false x17) fun x18 =>
Φ K.lower_maker_block [a0, x18] H16 fun x20 H21 =>
 DoB (afaddr 1 x1) fun x22 =>
 DoB (aload H21.ah 1 false x22) fun x23 =>
 DoB (anilck a0) fun x25 =>
 DoB (afaddr 6 x25) fun x26 =>
 DoB (tstore H21 1 x26 x23) fun H28 =>
Φ K.lower_maker_jump [a0, x5, (.int .i64 (-1))] H28 fun x29 H30 =>
Φ K.lower_maker_mark [a0, x3] H30 fun x31 H32 =>
 DoB (afaddr 9 x1) fun x33 =>
 DoB (aload H32.ah 1 false x33) fun x34 =>
Φ K.lower_maker_block [a0, x34] H32 fun x36 H37 =>
 DoB (afaddr 1 x1) fun x38 =>
 DoB (aload H37.ah 1 false x38) fun x39 =>
 DoB (anilck a0) fun x41 =>
 DoB (afaddr 6 x41) fun x42 =>
 DoB (tstore H37 1 x42 x39) fun H44 =>
Φ K.lower_maker_mark [a0, x5] H44 fun x45 H46 =>
 Q (.tup []) H46
theorem eq_lower_maker_choose (Φ : CallsB) (n : Nat) (a0 a1 : AV) (H : TH) (Q : PostB) : fnB1 Φ n S.ir_lower_maker_choose [a0, a1] H Q = lower_maker_choose Φ n a0 a1 H Q := by kernel_rfl

def lower_maker_loop (Φ : CallsB) (n : Nat) (a0 : AV) (a1 : AV) (H : TH) (Q : PostB) : Bool :=
 DoHB (tboxv H false 10 a1) fun x1 H2 =>
Φ K.lower_maker_label [a0] H2 fun x3 H4 =>
Φ K.lower_maker_label [a0] H4 fun x5 H6 =>
Φ K.lower_maker_mark [a0, x3] H6 fun x7 H8 =>
 DoB (afaddr 7 x1) fun x9 =>
 DoB (aload H8.ah 1 false x9) fun x10 =>
 DoB (aiaddr none 8 x10 (.int .i64 0)) fun x12 =>
 DoB (aload H8.ah 8 true x12) fun x13 =>
Φ K.lower_maker_expr [a0, x13] H8 fun x15 H16 =>
Φ K.lower_maker_jump [a0, x5, x15] H16 fun x17 H18 =>
 DoB (afaddr 8 x1) fun x19 =>
 DoB (aload H18.ah 1 false x19) fun x20 =>
Φ K.lower_maker_block [a0, x20] H18 fun x22 H23 =>
 DoB (afaddr 1 x1) fun x24 =>
 DoB (aload H23.ah 1 false x24) fun x25 =>
 DoB (anilck a0) fun x27 =>
 DoB (afaddr 6 x27) fun x28 =>
 DoB (tstore H23 1 x28 x25) fun H30 =>
Φ K.lower_maker_jump [a0, x3, (.int .i64 (-1))] H30 fun x31 H32 =>
Φ K.lower_maker_mark [a0, x5] H32 fun x33 H34 =>
 Q (.tup []) H34
theorem eq_lower_maker_loop (Φ : CallsB) (n : Nat) (a0 a1 : AV) (H : TH) (Q : PostB) : fnB1 Φ n S.ir_lower_maker_loop [a0, a1] H Q = lower_maker_loop Φ n a0 a1 H Q := by kernel_rfl

def lower_maker_number (Φ : CallsB) (n : Nat) (a0 : AV) (a1 : AV) (H : TH) (Q : PostB) : Bool :=
Φ K.lower_step [(.int .i64 1)] H fun x1 H2 =>
 DoHB (some (tbox H2 true [.int .i64 0, .int .i64 0, .int .i64 0, .int .i64 0, .int .i64 0, .int .i64 0, .int .u64 0, .int .i64 0, .int .i64 0, .int .i64 0, .int .i64 0, .int .i64 0, .int .i64 0])) fun x3 H4 =>
 DoB (tstore H4 13 x3 x1) fun H6 =>
Φ K.lower_maker_fresh [a0] H6 fun x7 H8 =>
 DoB (afaddr 1 x3) fun x9 =>
 DoB (tstore H8 1 x9 x7) fun H11 =>
 DoB (afaddr 6 x3) fun x12 =>
 DoB (tstore H11 1 x12 a1) fun H14 =>
 DoB (aload H14.ah 13 true x3) fun x15 =>
Φ K.lower_maker_add [a0, x15] H14 fun x17 H18 =>
 DoB (afaddr 1 x3) fun x19 =>
 DoB (aload H18.ah 1 false x19) fun x20 =>
 Q x20 H18
theorem eq_lower_maker_number (Φ : CallsB) (n : Nat) (a0 a1 : AV) (H : TH) (Q : PostB) : fnB1 Φ n S.ir_lower_maker_number [a0, a1] H Q = lower_maker_number Φ n a0 a1 H Q := by kernel_rfl

def lower_maker_bin (Φ : CallsB) (n : Nat) (a0 : AV) (a1 : AV) (a2 : AV) (a3 : AV) (H : TH) (Q : PostB) : Bool :=
Φ K.lower_step [(.int .i64 3)] H fun x1 H2 =>
 DoHB (some (tbox H2 true [.int .i64 0, .int .i64 0, .int .i64 0, .int .i64 0, .int .i64 0, .int .i64 0, .int .u64 0, .int .i64 0, .int .i64 0, .int .i64 0, .int .i64 0, .int .i64 0, .int .i64 0])) fun x3 H4 =>
 DoB (tstore H4 13 x3 x1) fun H6 =>
Φ K.lower_maker_fresh [a0] H6 fun x7 H8 =>
 DoB (afaddr 1 x3) fun x9 =>
 DoB (tstore H8 1 x9 x7) fun H11 =>
 DoB (afaddr 7 x3) fun x12 =>
 DoB (tstore H11 1 x12 a1) fun H14 =>
 DoB (afaddr 3 x3) fun x15 =>
 DoB (tstore H14 1 x15 a2) fun H17 =>
 DoB (afaddr 4 x3) fun x18 =>
 DoB (tstore H17 1 x18 a3) fun H20 =>
 DoB (aload H20.ah 13 true x3) fun x21 =>
Φ K.lower_maker_add [a0, x21] H20 fun x23 H24 =>
 DoB (afaddr 1 x3) fun x25 =>
 DoB (aload H24.ah 1 false x25) fun x26 =>
 Q x26 H24
theorem eq_lower_maker_bin (Φ : CallsB) (n : Nat) (a0 a1 a2 a3 : AV) (H : TH) (Q : PostB) : fnB1 Φ n S.ir_lower_maker_bin [a0, a1, a2, a3] H Q = lower_maker_bin Φ n a0 a1 a2 a3 H Q := by kernel_rfl

def lower_maker_read (Φ : CallsB) (n : Nat) (a0 : AV) (a1 : AV) (H : TH) (Q : PostB) : Bool :=
 DoHB (tboxv H false 2 a1) fun x1 H2 =>
 DoB (aload H2.ah 2 true x1) fun x3 =>
Φ K.lower_maker_place [a0, x3] H2 fun x5 H6 =>
 DoHB (some (tbox H6 true [.int .i64 0, .int .i64 0, .int .i64 0, .bool false, .int .i64 0, .int .i64 0, .int .i64 0, .int .i64 0])) fun x7 H8 =>
 DoB (tstore H8 8 x7 x5) fun H10 =>
 DoB (aload H10.ah 8 true x7) fun x11 =>
Φ K.lower_maker_address [a0, x11] H10 fun x13 H14 =>
 DoB (aload H14.ah 8 true x7) fun x15 =>
 DoB (aload H14.ah 2 true x1) fun x17 =>
Φ K.lower_maker_site [a0, (.int .i64 14), (.int .i64 0), x17] H14 fun x19 H20 =>
 and (sameV (aload H20.ah 8 true x7) x15) (
Φ K.lower_maker_load [a0, x15, x13, x19] H20 fun x21 H22 =>
 DoB (afaddr 0 x7) fun x23 =>
 DoB (afaddr 3 x23) fun x24 =>
 DoB (aload H22.ah 1 false x24) fun x25 =>
 GdB x25 true (
 DoB (afaddr 0 x7) fun x27 =>
 DoB (afaddr 4 x27) fun x28 =>
 DoB (aload H22.ah 1 false x28) fun x29 =>
 DoB (aconv .u64 x29) fun x31 =>
 DoB (afaddr 0 x7) fun x32 =>
 DoB (afaddr 5 x32) fun x33 =>
 DoB (aload H22.ah 1 false x33) fun x34 =>
Φ K.lower_maker_with [a0, (.int .i64 8), x21, x31] H22 fun x36 H37 =>
 and (sameV (aload H37.ah 1 false x33) x34) (
Φ K.lower_ones [x34] H37 fun x38 H39 =>
Φ K.lower_maker_with [a0, (.int .i64 4), x36, x38] H39 fun x40 H41 =>
 Q x40 H41)) (
 Q x21 H22))
theorem eq_lower_maker_read (Φ : CallsB) (n : Nat) (a0 a1 : AV) (H : TH) (Q : PostB) : fnB1 Φ n S.ir_lower_maker_read [a0, a1] H Q = lower_maker_read Φ n a0 a1 H Q := by kernel_rfl

def lower_maker_atomic_k1 (Φ : CallsB) (n : Nat) (a0 : AV) (x1 : AV) (x8 : AV) (x44 : AV) (Q : PostB) : List AV → TH → Bool := fun j68 H69 =>
 DoB (aload H69.ah 8 true x8) fun x80 =>
Φ K.lower_maker_address [a0, x80] H69 fun x82 H83 =>
 DoB (afaddr 3 x44) fun x84 =>
 DoB (tstore H83 1 x84 x82) fun H86 =>
 DoB (afaddr 0 x8) fun x87 =>
 DoB (afaddr 0 x87) fun x88 =>
 DoB (afaddr 1 x88) fun x89 =>
 DoB (aload H86.ah 1 false x89) fun x90 =>
 DoB (afaddr 4 x1) fun x92 =>
 DoB (aload H86.ah 1 false x92) fun x93 =>
 DoB (afaddr 0 x1) fun x95 =>
 DoB (aload H86.ah 1 false x95) fun x96 =>
 DoB (abin .add (.int .i64 10) x96) fun x98 =>
 DoB (afaddr 4 x1) fun x99 =>
 DoB (aload H86.ah 1 false x99) fun x100 =>
 DoB (afaddr 5 x1) fun x102 =>
 DoB (aload H86.ah 2 true x102) fun x103 =>
Φ K.lower_maker_fresh [a0] H86 fun x105 H106 =>
 and (sameV (aload H106.ah 1 false x89) x90) (
 and (sameV (aload H106.ah 1 false x92) x93) (
 and (sameV (aload H106.ah 1 false x95) x96) (
 and (sameV (aload H106.ah 1 false x99) x100) (
 and (sameV (aload H106.ah 2 true x102) x103) (
 DoB (afaddr 1 x44) fun x107 =>
Φ K.lower_maker_site [a0, x98, x100, x103] H106 fun x108 H109 =>
 and (sameV (aload H109.ah 1 false x89) x90) (
 and (sameV (aload H109.ah 1 false x92) x93) (
 DoB (tstore H109 1 x107 x105) fun H111 =>
 and (sameV (aload H111.ah 1 false x89) x90) (
 and (sameV (aload H111.ah 1 false x92) x93) (
 DoB (afaddr 8 x44) fun x112 =>
 DoB (tstore H111 1 x112 x90) fun H114 =>
 and (sameV (aload H114.ah 1 false x92) x93) (
 DoB (afaddr 9 x44) fun x115 =>
 DoB (tstore H114 1 x115 x93) fun H117 =>
 DoB (afaddr 11 x44) fun x118 =>
 DoB (tstore H117 1 x118 x108) fun H120 =>
 DoB (aload H120.ah 13 true x44) fun x121 =>
Φ K.lower_maker_add [a0, x121] H120 fun x123 H124 =>
 DoB (afaddr 1 x44) fun x125 =>
 DoB (aload H124.ah 1 false x125) fun x126 =>
 Q x126 H124))))))))))
def lower_maker_atomic_k2 (Φ : CallsB) (n : Nat) (a0 : AV) (x1 : AV) (x8 : AV) (x44 : AV) (j12 : List AV) (Q : PostB) : List AV → TH → Bool := fun j48 H49 =>
 DoB (afaddr 0 x1) fun x70 =>
 DoB (aload H49.ah 1 false x70) fun x71 =>
 DoB (abin .eql x71 (.int .i64 8)) fun x73 =>
 GdB x73 true (
 DoB (aiaddr none 1 (sl j12 0) (.int .i64 1)) fun x74 =>
 DoB (aload H49.ah 1 false x74) fun x75 =>
 DoB (afaddr 5 x44) fun x77 =>
 DoB (tstore H49 1 x77 x75) fun H79 =>
 JoinB (lower_maker_atomic_k1 Φ n a0 x1 x8 x44 Q) [] H79) (
 JoinB (lower_maker_atomic_k1 Φ n a0 x1 x8 x44 Q) [] H49)
def lower_maker_atomic_k3 (Φ : CallsB) (n : Nat) (a0 : AV) (x1 : AV) (x8 : AV) (Q : PostB) : List AV → TH → Bool := fun j12 H13 =>
 DoB (afaddr 0 x1) fun x37 =>
 DoB (aload H13.ah 1 false x37) fun x38 =>
 DoB (abin .sub x38 (.int .i64 5)) fun x40 =>
 DoB (abin .add x40 (.int .i64 6)) fun x41 =>
Φ K.lower_step [x41] H13 fun x42 H43 =>
 DoHB (some (tbox H43 true [.int .i64 0, .int .i64 0, .int .i64 0, .int .i64 0, .int .i64 0, .int .i64 0, .int .u64 0, .int .i64 0, .int .i64 0, .int .i64 0, .int .i64 0, .int .i64 0, .int .i64 0])) fun x44 H45 =>
 DoB (tstore H45 13 x44 x42) fun H47 =>
 DoB (afaddr 0 x1) fun x50 =>
 DoB (aload H47.ah 1 false x50) fun x51 =>
 DoB (abin .neq x51 (.int .i64 5)) fun x53 =>
 GdB x53 true (
 DoB (afaddr 0 x1) fun x54 =>
 DoB (aload H47.ah 1 false x54) fun x55 =>
 DoB (abin .sub x55 (.int .i64 6)) fun x57 =>
 DoB (abin .add x57 (.int .i64 8)) fun x58 =>
 DoB (afaddr 0 x44) fun x59 =>
 DoB (tstore H47 1 x59 x58) fun H61 =>
 DoB (aiaddr none 1 (sl j12 0) (.int .i64 0)) fun x62 =>
 DoB (aload H61.ah 1 false x62) fun x63 =>
 DoB (afaddr 4 x44) fun x65 =>
 DoB (tstore H61 1 x65 x63) fun H67 =>
 JoinB (lower_maker_atomic_k2 Φ n a0 x1 x8 x44 j12 Q) [] H67) (
 JoinB (lower_maker_atomic_k2 Φ n a0 x1 x8 x44 j12 Q) [] H47)
def lower_maker_atomic_l4 (Φ : CallsB) (n : Nat) (a0 : AV) (x1 : AV) (x8 : AV) (x15 : AV) (x17 : AV) (Q : PostB) : (List AV × TH) → ((List AV × TH) → Bool) → Bool := fun s18 L19 =>
 DoB (abin .lss (sl s18.1 1) x17) fun x20 =>
 GdB x20 true (
 DoB (aiaddr none 8 x15 (sl s18.1 1)) fun x21 =>
 DoB (aload s18.2.ah 8 true x21) fun x22 =>
 DoHB (some (tbox s18.2 true [.int .i64 0, .int .u64 0, .str [], .int .i64 0, .int .i64 0, .str [], .lst .nil 0 [], .lst .nil 0 []])) fun x24 H25 =>
 DoB (tstore H25 8 x24 x22) fun H27 =>
 DoB (aload H27.ah 8 true x24) fun x28 =>
Φ K.lower_maker_expr [a0, x28] H27 fun x30 H31 =>
 DoHB (tbslice H31 false 1 1 [.int .i64 0] [(0, 1, x30)]) fun x32 H33 =>
 DoHB (tappend H33 false 1 8 (sl s18.1 0) x32) fun x34 H35 =>
 DoB (abin .add (sl s18.1 1) (.int .i64 1)) fun x36 =>
 L19 ([x34, x36], H35)) (
 JoinB (lower_maker_atomic_k3 Φ n a0 x1 x8 Q) [(sl s18.1 0)] s18.2)
def lower_maker_atomic (Φ : CallsB) (n : Nat) (a0 : AV) (a1 : AV) (H : TH) (Q : PostB) : Bool :=
 DoHB (tboxv H false 8 a1) fun x1 H2 =>
 DoB (afaddr 5 x1) fun x3 =>
 DoB (aload H2.ah 2 true x3) fun x4 =>
Φ K.lower_maker_place [a0, x4] H2 fun x6 H7 =>
 DoHB (some (tbox H7 true [.int .i64 0, .int .i64 0, .int .i64 0, .bool false, .int .i64 0, .int .i64 0, .int .i64 0, .int .i64 0])) fun x8 H9 =>
 DoB (tstore H9 8 x8 x6) fun H11 =>
 DoB (afaddr 7 x1) fun x14 =>
 DoB (aload H11.ah 1 false x14) fun x15 =>
 DoB (alen false x15) fun x17 =>
 LoopB (lower_maker_atomic_l4 Φ n a0 x1 x8 x15 x17 Q) n ([(.lst .nil 0 []), (.int .i64 0)], H11)
theorem eq_lower_maker_atomic (Φ : CallsB) (n : Nat) (a0 a1 : AV) (H : TH) (Q : PostB) : fnB1 Φ n S.ir_lower_maker_atomic [a0, a1] H Q = lower_maker_atomic Φ n a0 a1 H Q := by kernel_rfl

def lower_maker_find_c1 (Φ : CallsB) (n : Nat) (a0 : AV) (a1 : AV) (H : TH) (Q : PostB) : Bool :=
 DoHB (tboxv H false 2 a0) fun x1 H2 =>
 DoB (afaddr 0 x1) fun x3 =>
 DoB (aload H2.ah 1 false x3) fun x4 =>
 DoB (aload H2.ah 1 false a1) fun x6 =>
 DoB (abin .eql x4 x6) fun x8 =>
 Q x8 H2
theorem eq_lower_maker_find_c1 (Φ : CallsB) (n : Nat) (a0 a1 : AV) (H : TH) (Q : PostB) : fnB1 Φ n S.ir_lower_maker_find_c1 [a0, a1] H Q = lower_maker_find_c1 Φ n a0 a1 H Q := by kernel_rfl

def lower_maker_place_k1 (Φ : CallsB) (n : Nat) (s43 : List AV × TH) (L44 : (List AV × TH) → Bool) (Q : PostB) : List AV → TH → Bool := fun j46 H47 =>
 DoB (abin .add (sl s43.1 0) (.int .i64 1)) fun x106 =>
 L44 ([x106], H47)
def lower_maker_place_k2 (Φ : CallsB) (n : Nat) (x33 : AV) (x147 : AV) (s43 : List AV × TH) (L44 : (List AV × TH) → Bool) (Q : PostB) : List AV → TH → Bool := fun j153 H154 =>
 DoB (afaddr 0 x33) fun x162 =>
 DoB (afaddr 0 x162) fun x163 =>
 DoB (afaddr 1 x163) fun x164 =>
 DoB (tstore H154 1 x164 x147) fun H166 =>
 DoB (afaddr 7 x33) fun x167 =>
 DoB (aload H166.ah 1 false x167) fun x168 =>
Φ K.lower_low [x147, (.int .i64 16)] H166 fun x170 H171 =>
 and (sameV (aload H171.ah 1 false x167) x168) (
 DoB (aminmax false [x168, x170]) fun x172 =>
 DoB (afaddr 7 x33) fun x173 =>
 DoB (tstore H171 1 x173 x172) fun H175 =>
 JoinB (lower_maker_place_k1 Φ n s43 L44 Q) [] H175)
def lower_maker_place_k3 (Φ : CallsB) (n : Nat) (x3 : AV) (x33 : AV) (Q : PostB) : List AV → TH → Bool := fun j37 H38 =>
 DoB (afaddr 7 x33) fun x184 =>
 DoB (aload H38.ah 1 false x184) fun x185 =>
 DoB (afaddr 0 x33) fun x187 =>
 DoB (afaddr 0 x187) fun x188 =>
 DoB (afaddr 0 x188) fun x189 =>
 DoB (aload H38.ah 1 false x189) fun x190 =>
Φ K.lower_low [x190, (.int .i64 16)] H38 fun x192 H193 =>
 and (sameV (aload H193.ah 1 false x184) x185) (
 DoB (aminmax false [x185, x192]) fun x194 =>
 DoB (afaddr 7 x33) fun x195 =>
 DoB (tstore H193 1 x195 x194) fun H197 =>
 DoB (aload H197.ah 8 true x33) fun x198 =>
 DoB (tstore H197 8 x3 x198) fun H201 =>
 DoB (aload H201.ah 8 true x3) fun x202 =>
 Q x202 H201)
def lower_maker_place_l4 (Φ : CallsB) (n : Nat) (a0 : AV) (x3 : AV) (x19 : AV) (x33 : AV) (x40 : AV) (x42 : AV) (Q : PostB) : (List AV × TH) → ((List AV × TH) → Bool) → Bool := fun s43 L44 =>
 DoB (abin .lss (sl s43.1 0) x42) fun x45 =>
 GdB x45 true (
 DoB (aiaddr none 2 x40 (sl s43.1 0)) fun x48 =>
 DoB (aload s43.2.ah 2 true x48) fun x49 =>
 DoHB (some (tbox s43.2 true [.str [], .lst .nil 0 []])) fun x51 H52 =>
 DoB (tstore H52 2 x51 x49) fun H54 =>
 DoB (afaddr 1 x51) fun x55 =>
 DoB (aload H54.ah 1 false x55) fun x56 =>
 DoB (alen false x56) fun x58 =>
 DoB (abin .eql x58 (.int .i64 0)) fun x59 =>
 GdB x59 true (
 DoB (afaddr 3 x19) fun x60 =>
 DoB (aload H54.ah 1 false x60) fun x61 =>
Φ K.slices_IndexFunc___api_Field_api_Field_ [x61, (.fn K.lower_maker_place_c2 [x51])] H54 fun x63 H64 =>
 DoB (aload H64.ah 6 true x19) fun x65 =>
Φ K.layout_Fields [x65] H64 fun x67 H68 =>
 DoB (aextract 0 x67) fun x69 =>
 DoB (aextract 1 x67) fun x70 =>
 DoB (aiaddr none 6 x69 x63) fun x71 =>
 DoB (aload H68.ah 6 true x71) fun x72 =>
 DoHB (some (tbox H68 true [.int .i64 0, .int .i64 0, .int .i64 0, .bool false, .int .i64 0, .int .i64 0])) fun x74 H75 =>
 DoB (tstore H75 6 x74 x72) fun H77 =>
 DoB (afaddr 0 x74) fun x78 =>
 DoB (afaddr 0 x78) fun x79 =>
 DoB (aload H77.ah 1 false x79) fun x80 =>
 DoB (afaddr 0 x33) fun x82 =>
 DoB (afaddr 0 x82) fun x83 =>
 DoB (afaddr 0 x83) fun x84 =>
 DoB (aload H77.ah 1 false x84) fun x85 =>
 DoB (abin .add x80 x85) fun x87 =>
 DoB (afaddr 0 x74) fun x88 =>
 DoB (afaddr 0 x88) fun x89 =>
 DoB (tstore H77 1 x89 x87) fun H91 =>
 DoB (aload H91.ah 6 true x74) fun x92 =>
 DoB (afaddr 3 x19) fun x94 =>
 DoB (aload H91.ah 1 false x94) fun x95 =>
 DoB (aiaddr none 9 x95 x63) fun x97 =>
 DoB (afaddr 1 x97) fun x98 =>
 DoB (aload H91.ah 6 true x98) fun x99 =>
 DoB (afaddr 0 x33) fun x101 =>
 DoB (tstore H91 6 x101 x92) fun H103 =>
 and (sameV (aload H103.ah 1 false x94) x95) (
 and (sameV (aload H103.ah 6 true x98) x99) (
 DoB (tstore H103 6 x19 x99) fun H105 =>
 JoinB (lower_maker_place_k1 Φ n s43 L44 Q) [] H105))) (
 DoB (afaddr 1 x51) fun x107 =>
 DoB (aload H54.ah 1 false x107) fun x108 =>
 DoB (aiaddr none 8 x108 (.int .i64 0)) fun x110 =>
 DoB (aload H54.ah 8 true x110) fun x111 =>
Φ K.lower_maker_expr [a0, x111] H54 fun x113 H114 =>
Φ K.lower_step [(.int .i64 17)] H114 fun x115 H116 =>
 DoHB (some (tbox H116 true [.int .i64 0, .int .i64 0, .int .i64 0, .int .i64 0, .int .i64 0, .int .i64 0, .int .u64 0, .int .i64 0, .int .i64 0, .int .i64 0, .int .i64 0, .int .i64 0, .int .i64 0])) fun x117 H118 =>
 DoB (tstore H118 13 x117 x115) fun H120 =>
 DoB (afaddr 4 x19) fun x121 =>
 DoB (aload H120.ah 1 false x121) fun x122 =>
 DoB (aconv .u64 x122) fun x124 =>
 DoB (afaddr 3 x117) fun x125 =>
 DoB (tstore H120 1 x125 x113) fun H127 =>
 and (sameV (aload H127.ah 1 false x121) x122) (
 DoB (afaddr 6 x117) fun x128 =>
 DoB (tstore H127 1 x128 x124) fun H130 =>
 DoB (aload H130.ah 13 true x117) fun x131 =>
Φ K.lower_maker_add [a0, x131] H130 fun x133 H134 =>
 DoB (afaddr 5 x19) fun x135 =>
 DoB (aload H134.ah 1 false x135) fun x136 =>
 DoB (aiaddr none 6 x136 (.int .i64 0)) fun x138 =>
 DoB (aload H134.ah 6 true x138) fun x139 =>
 DoB (tstore H134 6 x19 x139) fun H142 =>
 DoB (aload H142.ah 6 true x19) fun x143 =>
Φ K.layout_Of [x143] H142 fun x145 H146 =>
 DoB (aextract 0 x145) fun x147 =>
 DoB (aextract 1 x145) fun x148 =>
 DoB (aextract 2 x145) fun x149 =>
 DoB (aconv .u64 x147) fun x150 =>
Φ K.lower_maker_with [a0, (.int .i64 3), x113, x150] H146 fun x151 H152 =>
 DoB (afaddr 6 x33) fun x155 =>
 DoB (aload H152.ah 1 false x155) fun x156 =>
 DoB (abin .eql x156 (.int .i64 (-1))) fun x158 =>
 GdB x158 true (
 DoB (afaddr 6 x33) fun x159 =>
 DoB (tstore H152 1 x159 x151) fun H161 =>
 JoinB (lower_maker_place_k2 Φ n x33 x147 s43 L44 Q) [] H161) (
 DoB (afaddr 6 x33) fun x176 =>
 DoB (aload H152.ah 1 false x176) fun x177 =>
Φ K.lower_maker_bin [a0, (.int .i64 1), x177, x151] H152 fun x179 H180 =>
 DoB (afaddr 6 x33) fun x181 =>
 DoB (tstore H180 1 x181 x179) fun H183 =>
 JoinB (lower_maker_place_k2 Φ n x33 x147 s43 L44 Q) [] H183)))) (
 JoinB (lower_maker_place_k3 Φ n x3 x33 Q) [] s43.2)
def lower_maker_place (Φ : CallsB) (n : Nat) (a0 : AV) (a1 : AV) (H : TH) (Q : PostB) : Bool :=
 DoHB (tboxv H true 2 a1) fun x1 H2 =>
 DoHB (some (tbox H2 true [.int .i64 0, .int .i64 0, .int .i64 0, .bool false, .int .i64 0, .int .i64 0, .int .i64 0, .int .i64 0])) fun x3 H4 =>
 DoB (anilck a0) fun x5 =>
 DoB (afaddr 0 x5) fun x6 =>
 DoB (aload H4.ah 1 false x6) fun x7 =>
Φ K.slices_IndexFunc___api_Var_api_Var_ [x7, (.fn K.lower_maker_place_c1 [x1])] H4 fun x9 H10 =>
 DoB (anilck a0) fun x11 =>
 DoB (afaddr 0 x11) fun x12 =>
 DoB (aload H10.ah 1 false x12) fun x13 =>
 DoB (aiaddr none 7 x13 x9) fun x15 =>
 DoB (afaddr 1 x15) fun x16 =>
 DoB (aload H10.ah 6 true x16) fun x17 =>
 DoHB (some (tbox H10 true [.int .i64 0, .int .i64 0, .bool false, .lst .nil 0 [], .int .i64 0, .lst .nil 0 []])) fun x19 H20 =>
 DoB (tstore H20 6 x19 x17) fun H22 =>
 DoB (anilck a0) fun x23 =>
 DoB (afaddr 1 x23) fun x24 =>
 DoB (aload H22.ah 1 false x24) fun x25 =>
 DoB (aiaddr none 3 x25 x9) fun x27 =>
 DoB (afaddr 1 x27) fun x28 =>
 DoB (aload H22.ah 2 true x28) fun x29 =>
 DoB (abuild [.int .i64 0, .int .i64 0, .int .i64 0, .bool false, .int .i64 0, .int .i64 0] [(0, 2, x29)]) fun x31 =>
 DoB (abuild [.int .i64 0, .int .i64 0, .int .i64 0, .bool false, .int .i64 0, .int .i64 0, .int .i64 0, .int .i64 0] [(0, 6, x31), (6, 1, (.int .i64 (-1))), (7, 1, (.int .i64 16))]) fun x32 =>
 DoHB (some (tbox H22 true [.int .i64 0, .int .i64 0, .int .i64 0, .bool false, .int .i64 0, .int .i64 0, .int .i64 0, .int .i64 0])) fun x33 H34 =>
 DoB (tstore H34 8 x33 x32) fun H36 =>
 DoB (afaddr 1 x1) fun x39 =>
 DoB (aload H36.ah 1 false x39) fun x40 =>
 DoB (alen false x40) fun x42 =>
 LoopB (lower_maker_place_l4 Φ n a0 x3 x19 x33 x40 x42 Q) n ([(.int .i64 0)], H36)
theorem eq_lower_maker_place (Φ : CallsB) (n : Nat) (a0 a1 : AV) (H : TH) (Q : PostB) : fnB1 Φ n S.ir_lower_maker_place [a0, a1] H Q = lower_maker_place Φ n a0 a1 H Q := by kernel_rfl

def lower_maker_address (Φ : CallsB) (n : Nat) (a0 : AV) (a1 : AV) (H : TH) (Q : PostB) : Bool :=
 DoHB (tboxv H false 8 a1) fun x1 H2 =>
 DoB (afaddr 6 x1) fun x3 =>
 DoB (aload H2.ah 1 false x3) fun x4 =>
 DoB (abin .eql x4 (.int .i64 (-1))) fun x6 =>
 GdB x6 true (
 DoB (afaddr 0 x1) fun x7 =>
 DoB (afaddr 0 x7) fun x8 =>
 DoB (afaddr 0 x8) fun x9 =>
 DoB (aload H2.ah 1 false x9) fun x10 =>
 DoB (aconv .u64 x10) fun x12 =>
Φ K.lower_maker_number [a0, x12] H2 fun x13 H14 =>
 Q x13 H14) (
 DoB (afaddr 6 x1) fun x15 =>
 DoB (aload H2.ah 1 false x15) fun x16 =>
 DoB (afaddr 0 x1) fun x18 =>
 DoB (afaddr 0 x18) fun x19 =>
 DoB (afaddr 0 x19) fun x20 =>
 DoB (aload H2.ah 1 false x20) fun x21 =>
 DoB (aconv .u64 x21) fun x23 =>
Φ K.lower_maker_with [a0, (.int .i64 1), x16, x23] H2 fun x24 H25 =>
 Q x24 H25)
theorem eq_lower_maker_address (Φ : CallsB) (n : Nat) (a0 a1 : AV) (H : TH) (Q : PostB) : fnB1 Φ n S.ir_lower_maker_address [a0, a1] H Q = lower_maker_address Φ n a0 a1 H Q := by kernel_rfl

def lower_maker_load_k1 (Φ : CallsB) (n : Nat) (s8 : List AV × TH) (L9 : (List AV × TH) → Bool) (Q : PostB) : List AV → TH → Bool := fun j11 H12 =>
 DoB (abin .add (sl s8.1 1) (.int .i64 1)) fun x65 =>
 L9 ([(sl j11 0), x65], H12)
def lower_maker_load_l2 (Φ : CallsB) (n : Nat) (a0 : AV) (a2 : AV) (a3 : AV) (x5 : AV) (x7 : AV) (Q : PostB) : (List AV × TH) → ((List AV × TH) → Bool) → Bool := fun s8 L9 =>
 DoB (abin .lss (sl s8.1 1) x7) fun x10 =>
 GdB x10 true (
 DoB (aiaddr none 2 x5 (sl s8.1 1)) fun x13 =>
 DoB (aload s8.2.ah 2 true x13) fun x14 =>
 DoHB (some (tbox s8.2 true [.int .i64 0, .int .i64 0])) fun x16 H17 =>
 DoB (tstore H17 2 x16 x14) fun H19 =>
Φ K.lower_step [(.int .i64 4)] H19 fun x20 H21 =>
 DoHB (some (tbox H21 true [.int .i64 0, .int .i64 0, .int .i64 0, .int .i64 0, .int .i64 0, .int .i64 0, .int .u64 0, .int .i64 0, .int .i64 0, .int .i64 0, .int .i64 0, .int .i64 0, .int .i64 0])) fun x22 H23 =>
 DoB (tstore H23 13 x22 x20) fun H25 =>
 DoB (afaddr 0 x16) fun x26 =>
 DoB (aload H25.ah 1 false x26) fun x27 =>
 DoB (aconv .u64 x27) fun x29 =>
 DoB (afaddr 1 x16) fun x30 =>
 DoB (aload H25.ah 1 false x30) fun x31 =>
Φ K.lower_maker_fresh [a0] H25 fun x33 H34 =>
 and (sameV (aload H34.ah 1 false x26) x27) (
 and (sameV (aload H34.ah 1 false x30) x31) (
 DoB (afaddr 1 x22) fun x35 =>
 DoB (tstore H34 1 x35 x33) fun H37 =>
 and (sameV (aload H37.ah 1 false x26) x27) (
 and (sameV (aload H37.ah 1 false x30) x31) (
 DoB (afaddr 3 x22) fun x38 =>
 DoB (tstore H37 1 x38 a2) fun H40 =>
 and (sameV (aload H40.ah 1 false x26) x27) (
 and (sameV (aload H40.ah 1 false x30) x31) (
 DoB (afaddr 6 x22) fun x41 =>
 DoB (tstore H40 1 x41 x29) fun H43 =>
 and (sameV (aload H43.ah 1 false x30) x31) (
 DoB (afaddr 8 x22) fun x44 =>
 DoB (tstore H43 1 x44 x31) fun H46 =>
 DoB (afaddr 11 x22) fun x47 =>
 DoB (tstore H46 1 x47 a3) fun H49 =>
 DoB (aload H49.ah 13 true x22) fun x50 =>
Φ K.lower_maker_add [a0, x50] H49 fun x52 H53 =>
 DoB (afaddr 1 x22) fun x54 =>
 DoB (aload H53.ah 1 false x54) fun x55 =>
 DoB (afaddr 0 x16) fun x57 =>
 DoB (aload H53.ah 1 false x57) fun x58 =>
 DoB (abin .mul (.int .i64 8) x58) fun x60 =>
 DoB (aconv .u64 x60) fun x61 =>
Φ K.lower_maker_with [a0, (.int .i64 7), x55, x61] H53 fun x62 H63 =>
 DoB (abin .eql (sl s8.1 0) (.int .i64 (-1))) fun x64 =>
 GdB x64 true (
 JoinB (lower_maker_load_k1 Φ n s8 L9 Q) [x62] H63) (
Φ K.lower_maker_bin [a0, (.int .i64 5), (sl s8.1 0), x62] H63 fun x66 H67 =>
 JoinB (lower_maker_load_k1 Φ n s8 L9 Q) [x66] H67))))))))) (
 Q (sl s8.1 0) s8.2)
def lower_maker_load (Φ : CallsB) (n : Nat) (a0 : AV) (a1 : AV) (a2 : AV) (a3 : AV) (H : TH) (Q : PostB) : Bool :=
 DoHB (tboxv H false 8 a1) fun x1 H2 =>
 DoB (aload H2.ah 8 true x1) fun x3 =>
Φ K.lower_spot_pieces [x3] H2 fun x5 H6 =>
 DoB (alen false x5) fun x7 =>
 LoopB (lower_maker_load_l2 Φ n a0 a2 a3 x5 x7 Q) n ([(.int .i64 (-1)), (.int .i64 0)], H6)
theorem eq_lower_maker_load (Φ : CallsB) (n : Nat) (a0 a1 a2 a3 : AV) (H : TH) (Q : PostB) : fnB1 Φ n S.ir_lower_maker_load [a0, a1, a2, a3] H Q = lower_maker_load Φ n a0 a1 a2 a3 H Q := by kernel_rfl

def lower_maker_with_k1 (Φ : CallsB) (n : Nat) (a0 : AV) (a1 : AV) (a2 : AV) (a3 : AV) (Q : PostB) : List AV → TH → Bool := fun j1 H2 =>
Φ K.lower_maker_number [a0, a3] H2 fun x10 H11 =>
Φ K.lower_maker_bin [a0, a1, a2, x10] H11 fun x12 H13 =>
 Q x12 H13
def lower_maker_with_k2 (Φ : CallsB) (n : Nat) (a0 : AV) (a1 : AV) (a2 : AV) (a3 : AV) (Q : PostB) : List AV → TH → Bool := fun j3 H4 =>
 GdB (sl j3 0) true (
 Q a2 H4) (
 JoinB (lower_maker_with_k1 Φ n a0 a1 a2 a3 Q) [] H4)
def lower_maker_with (Φ : CallsB) (n : Nat) (a0 : AV) (a1 : AV) (a2 : AV) (a3 : AV) (H : TH) (Q : PostB) : Bool :=
 DoB (abin .eql a3 (.int .u64 0)) fun x5 =>
 Gd3B x5 true (
 DoB (abin .eql a1 (.int .i64 1)) fun x6 =>
 Gd3B x6 false (
 DoB (abin .eql a1 (.int .i64 7)) fun x7 =>
 Gd3B x7 false (
 DoB (abin .eql a1 (.int .i64 8)) fun x8 =>
 Gd3B x8 false (
 DoB (abin .eql a1 (.int .i64 5)) fun x9 =>
 JoinB (lower_maker_with_k2 Φ n a0 a1 a2 a3 Q) [x9] H) (
 JoinB (lower_maker_with_k2 Φ n a0 a1 a2 a3 Q) [(.bool true)] H) (
 false)) (
 JoinB (lower_maker_with_k2 Φ n a0 a1 a2 a3 Q) [(.bool true)] H) (
 false)) (
 JoinB (lower_maker_with_k2 Φ n a0 a1 a2 a3 Q) [(.bool true)] H) (
 false)) (
 JoinB (lower_maker_with_k2 Φ n a0 a1 a2 a3 Q) [(.bool false)] H) (
 false)
theorem eq_lower_maker_with (Φ : CallsB) (n : Nat) (a0 a1 a2 a3 : AV) (H : TH) (Q : PostB) : fnB1 Φ n S.ir_lower_maker_with [a0, a1, a2, a3] H Q = lower_maker_with Φ n a0 a1 a2 a3 H Q := by kernel_rfl

def lower_ones (Φ : CallsB) (n : Nat) (a0 : AV) (H : TH) (Q : PostB) : Bool :=
 DoB (abin .geq a0 (.int .i64 64)) fun x1 =>
 GdB x1 true (
 Q (.int .u64 18446744073709551615) H) (
 DoB (abin .shl (.int .u64 1) a0) fun x2 =>
 DoB (abin .sub x2 (.int .u64 1)) fun x3 =>
 Q x3 H)
theorem eq_lower_ones (Φ : CallsB) (n : Nat) (a0 : AV) (H : TH) (Q : PostB) : fnB1 Φ n S.ir_lower_ones [a0] H Q = lower_ones Φ n a0 H Q := by kernel_rfl

def lower_maker_store_l1 (Φ : CallsB) (n : Nat) (a0 : AV) (a2 : AV) (a3 : AV) (a4 : AV) (x5 : AV) (x7 : AV) (Q : PostB) : (List AV × TH) → ((List AV × TH) → Bool) → Bool := fun s8 L9 =>
 DoB (abin .lss (sl s8.1 0) x7) fun x10 =>
 GdB x10 true (
 DoB (aiaddr none 2 x5 (sl s8.1 0)) fun x11 =>
 DoB (aload s8.2.ah 2 true x11) fun x12 =>
 DoHB (some (tbox s8.2 true [.int .i64 0, .int .i64 0])) fun x14 H15 =>
 DoB (tstore H15 2 x14 x12) fun H17 =>
Φ K.lower_step [(.int .i64 5)] H17 fun x18 H19 =>
 DoHB (some (tbox H19 true [.int .i64 0, .int .i64 0, .int .i64 0, .int .i64 0, .int .i64 0, .int .i64 0, .int .u64 0, .int .i64 0, .int .i64 0, .int .i64 0, .int .i64 0, .int .i64 0, .int .i64 0])) fun x20 H21 =>
 DoB (tstore H21 13 x20 x18) fun H23 =>
 DoB (afaddr 0 x14) fun x24 =>
 DoB (aload H23.ah 1 false x24) fun x25 =>
 DoB (aconv .u64 x25) fun x27 =>
 DoB (afaddr 1 x14) fun x28 =>
 DoB (aload H23.ah 1 false x28) fun x29 =>
 DoB (afaddr 3 x20) fun x31 =>
 DoB (tstore H23 1 x31 a2) fun H33 =>
 and (sameV (aload H33.ah 1 false x24) x25) (
 and (sameV (aload H33.ah 1 false x28) x29) (
 DoB (afaddr 6 x20) fun x34 =>
 DoB (tstore H33 1 x34 x27) fun H36 =>
 and (sameV (aload H36.ah 1 false x28) x29) (
 DoB (afaddr 8 x20) fun x37 =>
 DoB (tstore H36 1 x37 x29) fun H39 =>
 DoB (afaddr 11 x20) fun x40 =>
 DoB (tstore H39 1 x40 a4) fun H42 =>
 DoB (afaddr 0 x14) fun x43 =>
 DoB (aload H42.ah 1 false x43) fun x44 =>
 DoB (abin .mul (.int .i64 8) x44) fun x46 =>
 DoB (aconv .u64 x46) fun x47 =>
Φ K.lower_maker_with [a0, (.int .i64 8), a3, x47] H42 fun x48 H49 =>
 DoB (afaddr 4 x20) fun x50 =>
 DoB (tstore H49 1 x50 x48) fun H52 =>
 DoB (aload H52.ah 13 true x20) fun x53 =>
Φ K.lower_maker_add [a0, x53] H52 fun x55 H56 =>
 DoB (abin .add (sl s8.1 0) (.int .i64 1)) fun x57 =>
 L9 ([x57], H56))))) (
 Q (.tup []) s8.2)
def lower_maker_store (Φ : CallsB) (n : Nat) (a0 : AV) (a1 : AV) (a2 : AV) (a3 : AV) (a4 : AV) (H : TH) (Q : PostB) : Bool :=
 DoHB (tboxv H false 8 a1) fun x1 H2 =>
 DoB (aload H2.ah 8 true x1) fun x3 =>
Φ K.lower_spot_pieces [x3] H2 fun x5 H6 =>
 DoB (alen false x5) fun x7 =>
 LoopB (lower_maker_store_l1 Φ n a0 a2 a3 a4 x5 x7 Q) n ([(.int .i64 0)], H6)
theorem eq_lower_maker_store (Φ : CallsB) (n : Nat) (a0 a1 a2 a3 a4 : AV) (H : TH) (Q : PostB) : fnB1 Φ n S.ir_lower_maker_store [a0, a1, a2, a3, a4] H Q = lower_maker_store Φ n a0 a1 a2 a3 a4 H Q := by kernel_rfl

def lower_maker_label (Φ : CallsB) (n : Nat) (a0 : AV) (H : TH) (Q : PostB) : Bool :=
 DoB (anilck a0) fun x1 =>
 DoB (afaddr 4 x1) fun x2 =>
 DoB (aload H.ah 1 false x2) fun x3 =>
 DoB (abin .add x3 (.int .i64 1)) fun x5 =>
 DoB (anilck a0) fun x6 =>
 DoB (afaddr 4 x6) fun x7 =>
 DoB (tstore H 1 x7 x5) fun H9 =>
 DoB (anilck a0) fun x10 =>
 DoB (afaddr 4 x10) fun x11 =>
 DoB (aload H9.ah 1 false x11) fun x12 =>
 Q x12 H9
theorem eq_lower_maker_label (Φ : CallsB) (n : Nat) (a0 : AV) (H : TH) (Q : PostB) : fnB1 Φ n S.ir_lower_maker_label [a0] H Q = lower_maker_label Φ n a0 H Q := by kernel_rfl

def lower_maker_jump_k1 (Φ : CallsB) (n : Nat) (a0 : AV) (a1 : AV) (x3 : AV) (Q : PostB) : List AV → TH → Bool := fun j7 H8 =>
 DoB (afaddr 10 x3) fun x16 =>
 DoB (tstore H8 1 x16 a1) fun H18 =>
 DoB (aload H18.ah 13 true x3) fun x19 =>
Φ K.lower_maker_add [a0, x19] H18 fun x21 H22 =>
 Q (.tup []) H22
def lower_maker_jump (Φ : CallsB) (n : Nat) (a0 : AV) (a1 : AV) (a2 : AV) (H : TH) (Q : PostB) : Bool :=
Φ K.lower_step [(.int .i64 15)] H fun x1 H2 =>
 DoHB (some (tbox H2 true [.int .i64 0, .int .i64 0, .int .i64 0, .int .i64 0, .int .i64 0, .int .i64 0, .int .u64 0, .int .i64 0, .int .i64 0, .int .i64 0, .int .i64 0, .int .i64 0, .int .i64 0])) fun x3 H4 =>
 DoB (tstore H4 13 x3 x1) fun H6 =>
 DoB (abin .neq a2 (.int .i64 (-1))) fun x9 =>
 GdB x9 true (
 DoB (afaddr 0 x3) fun x10 =>
 DoB (tstore H6 1 x10 (.int .i64 16)) fun H12 =>
 DoB (afaddr 3 x3) fun x13 =>
 DoB (tstore H12 1 x13 a2) fun H15 =>
 JoinB (lower_maker_jump_k1 Φ n a0 a1 x3 Q) [] H15) (
 JoinB (lower_maker_jump_k1 Φ n a0 a1 x3 Q) [] H6)
theorem eq_lower_maker_jump (Φ : CallsB) (n : Nat) (a0 a1 a2 : AV) (H : TH) (Q : PostB) : fnB1 Φ n S.ir_lower_maker_jump [a0, a1, a2] H Q = lower_maker_jump Φ n a0 a1 a2 H Q := by kernel_rfl

def lower_maker_mark (Φ : CallsB) (n : Nat) (a0 : AV) (a1 : AV) (H : TH) (Q : PostB) : Bool :=
Φ K.lower_step [(.int .i64 14)] H fun x1 H2 =>
 DoHB (some (tbox H2 true [.int .i64 0, .int .i64 0, .int .i64 0, .int .i64 0, .int .i64 0, .int .i64 0, .int .u64 0, .int .i64 0, .int .i64 0, .int .i64 0, .int .i64 0, .int .i64 0, .int .i64 0])) fun x3 H4 =>
 DoB (tstore H4 13 x3 x1) fun H6 =>
 DoB (afaddr 10 x3) fun x7 =>
 DoB (tstore H6 1 x7 a1) fun H9 =>
 DoB (aload H9.ah 13 true x3) fun x10 =>
Φ K.lower_maker_add [a0, x10] H9 fun x12 H13 =>
 Q (.tup []) H13
theorem eq_lower_maker_mark (Φ : CallsB) (n : Nat) (a0 a1 : AV) (H : TH) (Q : PostB) : fnB1 Φ n S.ir_lower_maker_mark [a0, a1] H Q = lower_maker_mark Φ n a0 a1 H Q := by kernel_rfl

def lower_maker_place_c1 (Φ : CallsB) (n : Nat) (a0 : AV) (a1 : AV) (H : TH) (Q : PostB) : Bool :=
 DoHB (tboxv H false 7 a0) fun x1 H2 =>
 DoB (afaddr 0 x1) fun x3 =>
 DoB (aload H2.ah 1 false x3) fun x4 =>
 DoB (afaddr 0 a1) fun x6 =>
 DoB (aload H2.ah 1 false x6) fun x7 =>
 DoB (abin .eql x4 x7) fun x9 =>
 Q x9 H2
theorem eq_lower_maker_place_c1 (Φ : CallsB) (n : Nat) (a0 a1 : AV) (H : TH) (Q : PostB) : fnB1 Φ n S.ir_lower_maker_place_c1 [a0, a1] H Q = lower_maker_place_c1 Φ n a0 a1 H Q := by kernel_rfl

def lower_maker_place_c2 (Φ : CallsB) (n : Nat) (a0 : AV) (a1 : AV) (H : TH) (Q : PostB) : Bool :=
 DoHB (tboxv H false 9 a0) fun x1 H2 =>
 DoB (afaddr 0 x1) fun x3 =>
 DoB (aload H2.ah 1 false x3) fun x4 =>
 DoB (afaddr 0 a1) fun x6 =>
 DoB (aload H2.ah 1 false x6) fun x7 =>
 DoB (abin .eql x4 x7) fun x9 =>
 Q x9 H2
theorem eq_lower_maker_place_c2 (Φ : CallsB) (n : Nat) (a0 a1 : AV) (H : TH) (Q : PostB) : fnB1 Φ n S.ir_lower_maker_place_c2 [a0, a1] H Q = lower_maker_place_c2 Φ n a0 a1 H Q := by kernel_rfl

def lower_low_k1 (Φ : CallsB) (n : Nat) (s1 : List AV × TH) (L2 : (List AV × TH) → Bool) (Q : PostB) : List AV → TH → Bool := fun j3 H4 =>
 DoB (abin .quo (sl s1.1 0) (.int .i64 2)) fun x10 =>
 L2 ([x10], H4)
def lower_low_k2 (Φ : CallsB) (n : Nat) (s1 : List AV × TH) (L2 : (List AV × TH) → Bool) (Q : PostB) : List AV → TH → Bool := fun j5 H6 =>
 GdB (sl j5 0) true (
 JoinB (lower_low_k1 Φ n s1 L2 Q) [] H6) (
 Q (sl s1.1 0) H6)
def lower_low_l3 (Φ : CallsB) (n : Nat) (a0 : AV) (Q : PostB) : (List AV × TH) → ((List AV × TH) → Bool) → Bool := fun s1 L2 =>
 DoB (abin .gtr (sl s1.1 0) (.int .i64 1)) fun x7 =>
 Gd3B x7 true (
 DoB (abin .rem a0 (sl s1.1 0)) fun x8 =>
 DoB (abin .neq x8 (.int .i64 0)) fun x9 =>
 JoinB (lower_low_k2 Φ n s1 L2 Q) [x9] s1.2) (
 JoinB (lower_low_k2 Φ n s1 L2 Q) [(.bool false)] s1.2) (
 false)
def lower_low (Φ : CallsB) (n : Nat) (a0 : AV) (a1 : AV) (H : TH) (Q : PostB) : Bool :=
 LoopB (lower_low_l3 Φ n a0 Q) n ([a1], H)
theorem eq_lower_low (Φ : CallsB) (n : Nat) (a0 a1 : AV) (H : TH) (Q : PostB) : fnB1 Φ n S.ir_lower_low [a0, a1] H Q = lower_low Φ n a0 a1 H Q := by kernel_rfl

def lower_spot_pieces_l1 (Φ : CallsB) (n : Nat) (x1 : AV) (x11 : AV) (x13 : AV) (Q : PostB) : (List AV × TH) → ((List AV × TH) → Bool) → Bool := fun s14 L15 =>
 DoB (abin .lss (sl s14.1 1) x13) fun x16 =>
 GdB x16 true (
 DoB (aiaddr none 2 x11 (sl s14.1 1)) fun x17 =>
 DoB (aload s14.2.ah 2 true x17) fun x18 =>
 DoHB (some (tbox s14.2 true [.int .i64 0, .int .i64 0])) fun x20 H21 =>
 DoB (tstore H21 2 x20 x18) fun H23 =>
 DoB (afaddr 0 x20) fun x24 =>
 DoB (aload H23.ah 1 false x24) fun x25 =>
 DoB (afaddr 0 x1) fun x27 =>
 DoB (afaddr 0 x27) fun x28 =>
 DoB (afaddr 0 x28) fun x29 =>
 DoB (aload H23.ah 1 false x29) fun x30 =>
 DoB (abin .sub x25 x30) fun x32 =>
 DoB (afaddr 1 x20) fun x33 =>
 DoB (aload H23.ah 1 false x33) fun x34 =>
 DoB (abuild [.int .i64 0, .int .i64 0] [(0, 1, x32), (1, 1, x34)]) fun x36 =>
 DoHB (tbslice H23 false 2 1 [.int .i64 0, .int .i64 0] [(0, 2, x36)]) fun x37 H38 =>
 DoHB (tappend H38 false 2 16 (sl s14.1 0) x37) fun x39 H40 =>
 DoB (abin .add (sl s14.1 1) (.int .i64 1)) fun x41 =>
 L15 ([x39, x41], H40)) (
 Q (sl s14.1 0) s14.2)
def lower_spot_pieces_k2 (Φ : CallsB) (n : Nat) (s42 : List AV × TH) (L43 : (List AV × TH) → Bool) (Q : PostB) : List AV → TH → Bool := fun j56 H57 =>
 DoB (abuild [.int .i64 0, .int .i64 0] [(0, 1, (sl s42.1 1)), (1, 1, (sl j56 0))]) fun x68 =>
 DoHB (tbslice H57 false 2 1 [.int .i64 0, .int .i64 0] [(0, 2, x68)]) fun x69 H70 =>
 DoHB (tappend H70 false 2 16 (sl s42.1 0) x69) fun x71 H72 =>
 DoB (abin .add (sl s42.1 1) (sl j56 0)) fun x73 =>
 L43 ([x71, x73], H72)
def lower_spot_pieces_l3 (Φ : CallsB) (n : Nat) (x1 : AV) (s42 : List AV × TH) (L43 : (List AV × TH) → Bool) (Q : PostB) : (List AV × TH) → ((List AV × TH) → Bool) → Bool := fun s58 L59 =>
 DoB (afaddr 0 x1) fun x60 =>
 DoB (afaddr 0 x60) fun x61 =>
 DoB (afaddr 1 x61) fun x62 =>
 DoB (aload s58.2.ah 1 false x62) fun x63 =>
 DoB (abin .sub x63 (sl s42.1 1)) fun x65 =>
 DoB (abin .gtr (sl s58.1 0) x65) fun x66 =>
 GdB x66 true (
 DoB (abin .quo (sl s58.1 0) (.int .i64 2)) fun x67 =>
 L59 ([x67], s58.2)) (
 JoinB (lower_spot_pieces_k2 Φ n s42 L43 Q) [(sl s58.1 0)] s58.2)
def lower_spot_pieces_l4 (Φ : CallsB) (n : Nat) (x1 : AV) (Q : PostB) : (List AV × TH) → ((List AV × TH) → Bool) → Bool := fun s42 L43 =>
 DoB (afaddr 0 x1) fun x44 =>
 DoB (afaddr 0 x44) fun x45 =>
 DoB (afaddr 1 x45) fun x46 =>
 DoB (aload s42.2.ah 1 false x46) fun x47 =>
 DoB (abin .lss (sl s42.1 1) x47) fun x49 =>
 GdB x49 true (
 DoB (afaddr 7 x1) fun x50 =>
 DoB (aload s42.2.ah 1 false x50) fun x51 =>
 DoB (aminmax false [x51, (.int .i64 8)]) fun x53 =>
Φ K.lower_low [(sl s42.1 1), x53] s42.2 fun x54 H55 =>
 LoopB (lower_spot_pieces_l3 Φ n x1 s42 L43 Q) n ([x54], H55)) (
 Q (sl s42.1 0) s42.2)
def lower_spot_pieces (Φ : CallsB) (n : Nat) (a0 : AV) (H : TH) (Q : PostB) : Bool :=
 DoHB (tboxv H false 8 a0) fun x1 H2 =>
 DoB (afaddr 6 x1) fun x3 =>
 DoB (aload H2.ah 1 false x3) fun x4 =>
 DoB (abin .eql x4 (.int .i64 (-1))) fun x6 =>
 GdB x6 true (
 DoB (afaddr 0 x1) fun x7 =>
 DoB (afaddr 0 x7) fun x8 =>
 DoB (aload H2.ah 2 true x8) fun x9 =>
Φ K.span_Pieces [x9] H2 fun x11 H12 =>
 DoB (alen false x11) fun x13 =>
 LoopB (lower_spot_pieces_l1 Φ n x1 x11 x13 Q) n ([(.lst .nil 0 []), (.int .i64 0)], H12)) (
 LoopB (lower_spot_pieces_l4 Φ n x1 Q) n ([(.lst .nil 0 []), (.int .i64 0)], H2))
theorem eq_lower_spot_pieces (Φ : CallsB) (n : Nat) (a0 : AV) (H : TH) (Q : PostB) : fnB1 Φ n S.ir_lower_spot_pieces [a0] H Q = lower_spot_pieces Φ n a0 H Q := by kernel_rfl

end Rb.R

/- Package rabbetlaw13: its functions in the small language, and what they mean. By gen.py. -/
set_option linter.unusedVariables false
namespace Rb.S
open Go

/-! rabbet/rabbetlaw13.LowerSingle -/
def rabbetlaw13_LowerSingle_k1 (Φ : Calls') (s56 : List AV × AH) (L57 : (List AV × AH) → Prop) (Q : Post) : List AV → AH → Prop := fun j60 H61 =>
 Do (abin .add (sl s56.1 2) (.int .i64 1)) fun x77 =>
 L57 ([(sl j60 0), (sl j60 1), x77], H61)
def rabbetlaw13_LowerSingle_k2 (Φ : Calls') (x48 : AV) (s56 : List AV × AH) (L57 : (List AV × AH) → Prop) (Q : Post) : List AV → AH → Prop := fun j62 H63 =>
 Do (aiaddr none 13 x48 (sl s56.1 2)) fun x73 =>
 Do (afaddr 0 x73) fun x74 =>
 Do (aload H63 1 false x74) fun x75 =>
 Do (abin .eql x75 (.int .i64 4)) fun x76 =>
 Gd x76 true (
 Q (.bool false) H63) (
 JoinP (rabbetlaw13_LowerSingle_k1 Φ s56 L57 Q) [(sl j62 0), (sl j62 1)] H63)
def rabbetlaw13_LowerSingle_k3 (Φ : Calls') (s86 : List AV × AH) (L87 : (List AV × AH) → Prop) (Q : Post) : List AV → AH → Prop := fun j88 H89 =>
 Do (abin .quo (sl s86.1 0) (.int .i64 2)) fun x97 =>
 L87 ([x97], H89)
def rabbetlaw13_LowerSingle_k4 (Φ : Calls') (s80 : List AV × AH) (L81 : (List AV × AH) → Prop) (Q : Post) : List AV → AH → Prop := fun j84 H85 =>
 Do (abin .add (sl s80.1 1) (sl j84 0)) fun x98 =>
 Do (abin .add (sl s80.1 0) (.int .i64 1)) fun x99 =>
 L81 ([x99, x98], H85)
def rabbetlaw13_LowerSingle_k5 (Φ : Calls') (s80 : List AV × AH) (L81 : (List AV × AH) → Prop) (s86 : List AV × AH) (L87 : (List AV × AH) → Prop) (Q : Post) : List AV → AH → Prop := fun j90 H91 =>
 Gd (sl j90 0) true (
 JoinP (rabbetlaw13_LowerSingle_k3 Φ s86 L87 Q) [] H91) (
 JoinP (rabbetlaw13_LowerSingle_k4 Φ s80 L81 Q) [(sl s86.1 0)] H91)
def rabbetlaw13_LowerSingle_l6 (Φ : Calls') (x3 : AV) (x6 : AV) (s80 : List AV × AH) (L81 : (List AV × AH) → Prop) (Q : Post) : (List AV × AH) → ((List AV × AH) → Prop) → Prop := fun s86 L87 =>
 Do (abin .rem (sl s80.1 1) (sl s86.1 0)) fun x92 =>
 Do (abin .neq x92 (.int .i64 0)) fun x93 =>
 Gd3 x93 false (
 Do (abin .add (sl s80.1 1) (sl s86.1 0)) fun x94 =>
 Do (abin .add x3 x6) fun x95 =>
 Do (abin .gtr x94 x95) fun x96 =>
 JoinP (rabbetlaw13_LowerSingle_k5 Φ s80 L81 s86 L87 Q) [x96] s86.2) (
 JoinP (rabbetlaw13_LowerSingle_k5 Φ s80 L81 s86 L87 Q) [(.bool true)] s86.2) (
 False)
def rabbetlaw13_LowerSingle_k7 (Φ : Calls') (x6 : AV) (j54 : List AV) (Q : Post) : List AV → AH → Prop := fun j107 H108 =>
 Gd3 (sl j107 0) true (
 Do (abin .eql (sl j54 1) x6) fun x110 =>
 Q x110 H108) (
 Q (.bool false) H108) (
 False)
def rabbetlaw13_LowerSingle_k8 (Φ : Calls') (x6 : AV) (j54 : List AV) (j78 : List AV) (Q : Post) : List AV → AH → Prop := fun j100 H101 =>
 Gd3 (sl j100 0) true (
 Do (abin .eql (sl j54 0) (sl j78 0)) fun x109 =>
 JoinP (rabbetlaw13_LowerSingle_k7 Φ x6 j54 Q) [x109] H101) (
 JoinP (rabbetlaw13_LowerSingle_k7 Φ x6 j54 Q) [(.bool false)] H101) (
 False)
def rabbetlaw13_LowerSingle_k9 (Φ : Calls') (x6 : AV) (x51 : AV) (j54 : List AV) (Q : Post) : List AV → AH → Prop := fun j78 H79 =>
Φ K.rabbetlaw13_awake [] H79 fun x102 H103 =>
 Gd3 x102 true (
 Do (afaddr 1 x51) fun x104 =>
 Do (aload H103 1 false x104) fun x105 =>
 Do (abin .eql x105 (.int .i64 0)) fun x106 =>
 JoinP (rabbetlaw13_LowerSingle_k8 Φ x6 j54 j78 Q) [x106] H103) (
 JoinP (rabbetlaw13_LowerSingle_k8 Φ x6 j54 j78 Q) [(.bool false)] H103) (
 False)
def rabbetlaw13_LowerSingle_l10 (Φ : Calls') (x3 : AV) (x6 : AV) (x51 : AV) (j54 : List AV) (Q : Post) : (List AV × AH) → ((List AV × AH) → Prop) → Prop := fun s80 L81 =>
 Do (abin .add x3 x6) fun x82 =>
 Do (abin .lss (sl s80.1 1) x82) fun x83 =>
 Gd x83 true (
 LoopP (rabbetlaw13_LowerSingle_l6 Φ x3 x6 s80 L81 Q) ([(.int .i64 8)], s80.2)) (
 JoinP (rabbetlaw13_LowerSingle_k9 Φ x6 x51 j54 Q) [(sl s80.1 0)] s80.2)
def rabbetlaw13_LowerSingle_k11 (Φ : Calls') (x3 : AV) (x6 : AV) (x51 : AV) (Q : Post) : List AV → AH → Prop := fun j54 H55 =>
 LoopP (rabbetlaw13_LowerSingle_l10 Φ x3 x6 x51 j54 Q) ([(.int .i64 0), x3], H55)
def rabbetlaw13_LowerSingle_l12 (Φ : Calls') (x3 : AV) (x6 : AV) (x48 : AV) (x51 : AV) (Q : Post) : (List AV × AH) → ((List AV × AH) → Prop) → Prop := fun s56 L57 =>
 Do (alen false x48) fun x58 =>
 Do (abin .lss (sl s56.1 2) x58) fun x59 =>
 Gd x59 true (
 Do (aiaddr none 13 x48 (sl s56.1 2)) fun x64 =>
 Do (afaddr 0 x64) fun x65 =>
 Do (aload s56.2 1 false x65) fun x66 =>
 Do (abin .eql x66 (.int .i64 5)) fun x67 =>
 Gd x67 true (
 Do (abin .add (sl s56.1 0) (.int .i64 1)) fun x68 =>
 Do (aiaddr none 13 x48 (sl s56.1 2)) fun x69 =>
 Do (afaddr 8 x69) fun x70 =>
 Do (aload s56.2 1 false x70) fun x71 =>
 Do (abin .add (sl s56.1 1) x71) fun x72 =>
 JoinP (rabbetlaw13_LowerSingle_k2 Φ x48 s56 L57 Q) [x68, x72] s56.2) (
 JoinP (rabbetlaw13_LowerSingle_k2 Φ x48 s56 L57 Q) [(sl s56.1 0), (sl s56.1 1)] s56.2)) (
 JoinP (rabbetlaw13_LowerSingle_k11 Φ x3 x6 x51 Q) [(sl s56.1 0), (sl s56.1 1)] s56.2)
def rabbetlaw13_LowerSingle (Φ : Calls') (a0 : AV) (a1 : AV) (H : AH) (Q : Post) : Prop :=
 Do (abin .rem a0 (.int .u8 9)) fun x1 =>
 Do (aconv .i64 x1) fun x2 =>
 Do (abin .add x2 (.int .i64 1)) fun x3 =>
 Do (abin .rem a1 (.int .u8 4)) fun x4 =>
 Do (aconv .u64 x4) fun x5 =>
 Do (abin .shl (.int .i64 1) x5) fun x6 =>
 Do (abuild [.int .i64 0, .int .i64 0, .bool false, .lst .nil 0 [], .int .i64 0, .lst .nil 0 []] [(0, 1, (.int .i64 1)), (1, 1, (.int .i64 1))]) fun x7 =>
 DoH (abslice H false 6 1 [.int .i64 0, .int .i64 0, .bool false, .lst .nil 0 [], .int .i64 0, .lst .nil 0 []] [(0, 6, x7)]) fun x8 H9 =>
 Do (abuild [.int .i64 0, .int .i64 0, .bool false, .lst .nil 0 [], .int .i64 0, .lst .nil 0 []] [(0, 1, (.int .i64 5)), (4, 1, x3), (5, 1, x8)]) fun x10 =>
 DoH (some (abox H9 true [.int .i64 0, .int .i64 0, .bool false, .lst .nil 0 [], .int .i64 0, .lst .nil 0 []])) fun x11 H12 =>
 Do (astore H12 6 x11 x10) fun H13 =>
 Do (aload H13 6 true x11) fun x14 =>
 Do (abuild [.str [], .int .i64 0, .int .i64 0, .bool false, .lst .nil 0 [], .int .i64 0, .lst .nil 0 [], .bool false, .int .i64 0] [(0, 1, (.str [112])), (1, 6, x14)]) fun x15 =>
 Do (abuild [.int .i64 0, .int .i64 0, .bool false, .lst .nil 0 [], .int .i64 0, .lst .nil 0 []] [(0, 1, (.int .i64 1)), (1, 1, x6)]) fun x16 =>
 Do (abuild [.str [], .int .i64 0, .int .i64 0, .bool false, .lst .nil 0 [], .int .i64 0, .lst .nil 0 [], .bool false, .int .i64 0] [(0, 1, (.str [113])), (1, 6, x16)]) fun x17 =>
 DoH (abslice H13 false 9 2 [.str [], .int .i64 0, .int .i64 0, .bool false, .lst .nil 0 [], .int .i64 0, .lst .nil 0 [], .bool false, .int .i64 0] [(0, 9, x15), (9, 9, x17)]) fun x18 H19 =>
 Do (abuild [.int .i64 0, .int .i64 0, .bool false, .lst .nil 0 [], .int .i64 0, .lst .nil 0 []] [(0, 1, (.int .i64 3)), (2, 1, (.bool true)), (3, 1, x18)]) fun x20 =>
 DoH (some (abox H19 true [.int .i64 0, .int .i64 0, .bool false, .lst .nil 0 [], .int .i64 0, .lst .nil 0 []])) fun x21 H22 =>
 Do (astore H22 6 x21 x20) fun H23 =>
 Do (aload H23 6 true x21) fun x24 =>
 Do (abuild [.str [], .int .i64 0, .int .i64 0, .bool false, .lst .nil 0 [], .int .i64 0, .lst .nil 0 []] [(0, 1, (.str [115])), (1, 6, x24)]) fun x25 =>
 DoH (abslice H23 false 7 1 [.str [], .int .i64 0, .int .i64 0, .bool false, .lst .nil 0 [], .int .i64 0, .lst .nil 0 []] [(0, 7, x25)]) fun x26 H27 =>
 Do (abuild [.str [], .lst .nil 0 []] [(0, 1, (.str [113]))]) fun x28 =>
 DoH (abslice H27 false 2 1 [.str [], .lst .nil 0 []] [(0, 2, x28)]) fun x29 H30 =>
 Do (abuild [.str [], .lst .nil 0 []] [(0, 1, (.str [115])), (1, 1, x29)]) fun x31 =>
Φ K.rabbetlaw13_num [(.int .u64 7)] H30 fun x32 H33 =>
(aload H33 6 true x21 = some x24) ∧
(DoH (abslice H33 false 8 1 [.int .i64 0, .int .u64 0, .str [], .int .i64 0, .int .i64 0, .str [], .lst .nil 0 [], .lst .nil 0 []] [(0, 8, x32)]) fun x34 H35 =>
 Do (abuild [.int .i64 0, .int .i64 0, .str [], .str [], .int .i64 0, .str [], .lst .nil 0 [], .lst .nil 0 [], .lst .nil 0 [], .lst .nil 0 []] [(0, 1, (.int .i64 3)), (5, 2, x31), (7, 1, x34)]) fun x36 =>
 DoH (abslice H35 false 10 1 [.int .i64 0, .int .i64 0, .str [], .str [], .int .i64 0, .str [], .lst .nil 0 [], .lst .nil 0 [], .lst .nil 0 [], .lst .nil 0 []] [(0, 10, x36)]) fun x37 H38 =>
 DoH (abslice H38 false 1 1 [.lst .nil 0 []] [(0, 1, x37)]) fun x39 H40 =>
 Do (abuild [.lst .nil 0 [], .lst .nil 0 []] [(0, 1, x26), (1, 1, x39)]) fun x41 =>
 DoH (some (abox H40 true [.lst .nil 0 [], .lst .nil 0 []])) fun x42 H43 =>
(aload H43 6 true x21 = some x24) ∧
(Do (astore H43 2 x42 x41) fun H44 =>
 Do (aload H44 2 true x42) fun x45 =>
Φ K.lower_Thread [x45, (.int .i64 0)] H44 fun x46 H47 =>
 Do (aextract 0 x46) fun x48 =>
 Do (aextract 1 x46) fun x49 =>
 Do (aextract 2 x46) fun x50 =>
 DoH (some (abox H47 true [.int .i64 0, .int .i64 0])) fun x51 H52 =>
 Do (astore H52 2 x51 x50) fun H53 =>
 LoopP (rabbetlaw13_LowerSingle_l12 Φ x3 x6 x48 x51 Q) ([(.int .i64 0), (.int .i64 0), (.int .i64 0)], H53)))
def ir_rabbetlaw13_LowerSingle : AFunc := ⟨125, [.tmp 4],
 .seq (.region [
   ⟨some 4, .mv (.k (.bool false)), none⟩])
 (.seq (.region [
   ⟨some 19, .mv (.t 0), none⟩,
   ⟨some 20, .bin .rem (.t 19) (.k (.int .u8 9)), none⟩,
   ⟨some 21, .conv .i64 (.t 20), none⟩,
   ⟨some 22, .bin .add (.t 21) (.k (.int .i64 1)), none⟩,
   ⟨some 23, .mv (.t 1), none⟩,
   ⟨some 24, .bin .rem (.t 23) (.k (.int .u8 4)), none⟩,
   ⟨some 25, .conv .u64 (.t 24), none⟩,
   ⟨some 26, .bin .shl (.k (.int .i64 1)) (.t 25), none⟩,
   ⟨some 5, .mv (.t 22), none⟩,
   ⟨some 6, .mv (.t 26), none⟩])
 (.seq (.region [
   ⟨some 27, .mv (.t 5), none⟩,
   ⟨some 28, .build [.int .i64 0, .int .i64 0, .bool false, .lst .nil 0 [], .int .i64 0, .lst .nil 0 []] [(0, 1, (.k (.int .i64 1))), (1, 1, (.k (.int .i64 1)))], none⟩,
   ⟨some 29, .bslice false 6 1 [.int .i64 0, .int .i64 0, .bool false, .lst .nil 0 [], .int .i64 0, .lst .nil 0 []] [(0, 6, (.t 28))], none⟩,
   ⟨some 30, .build [.int .i64 0, .int .i64 0, .bool false, .lst .nil 0 [], .int .i64 0, .lst .nil 0 []] [(0, 1, (.k (.int .i64 5))), (4, 1, (.t 27)), (5, 1, (.t 29))], none⟩,
   ⟨some 7, .alloc true [.int .i64 0, .int .i64 0, .bool false, .lst .nil 0 [], .int .i64 0, .lst .nil 0 []], none⟩,
   ⟨none, .store 6 (.t 7) (.t 30), none⟩])
 (.seq (.region [
   ⟨some 31, .load 6 true (.t 7), none⟩,
   ⟨some 32, .build [.str [], .int .i64 0, .int .i64 0, .bool false, .lst .nil 0 [], .int .i64 0, .lst .nil 0 [], .bool false, .int .i64 0] [(0, 1, (.k (.str [112]))), (1, 6, (.t 31))], none⟩,
   ⟨some 33, .mv (.t 6), none⟩,
   ⟨some 34, .build [.int .i64 0, .int .i64 0, .bool false, .lst .nil 0 [], .int .i64 0, .lst .nil 0 []] [(0, 1, (.k (.int .i64 1))), (1, 1, (.t 33))], none⟩,
   ⟨some 35, .build [.str [], .int .i64 0, .int .i64 0, .bool false, .lst .nil 0 [], .int .i64 0, .lst .nil 0 [], .bool false, .int .i64 0] [(0, 1, (.k (.str [113]))), (1, 6, (.t 34))], none⟩,
   ⟨some 36, .bslice false 9 2 [.str [], .int .i64 0, .int .i64 0, .bool false, .lst .nil 0 [], .int .i64 0, .lst .nil 0 [], .bool false, .int .i64 0] [(0, 9, (.t 32)), (9, 9, (.t 35))], none⟩,
   ⟨some 37, .build [.int .i64 0, .int .i64 0, .bool false, .lst .nil 0 [], .int .i64 0, .lst .nil 0 []] [(0, 1, (.k (.int .i64 3))), (2, 1, (.k (.bool true))), (3, 1, (.t 36))], none⟩,
   ⟨some 8, .alloc true [.int .i64 0, .int .i64 0, .bool false, .lst .nil 0 [], .int .i64 0, .lst .nil 0 []], none⟩,
   ⟨none, .store 6 (.t 8) (.t 37), none⟩])
 (.seq (.draw [
   ⟨some 38, .load 6 true (.t 8), none⟩,
   ⟨some 39, .build [.str [], .int .i64 0, .int .i64 0, .bool false, .lst .nil 0 [], .int .i64 0, .lst .nil 0 []] [(0, 1, (.k (.str [115]))), (1, 6, (.t 38))], none⟩,
   ⟨some 40, .bslice false 7 1 [.str [], .int .i64 0, .int .i64 0, .bool false, .lst .nil 0 [], .int .i64 0, .lst .nil 0 []] [(0, 7, (.t 39))], none⟩,
   ⟨some 41, .build [.str [], .lst .nil 0 []] [(0, 1, (.k (.str [113])))], none⟩,
   ⟨some 42, .bslice false 2 1 [.str [], .lst .nil 0 []] [(0, 2, (.t 41))], none⟩,
   ⟨some 43, .build [.str [], .lst .nil 0 []] [(0, 1, (.k (.str [115]))), (1, 1, (.t 42))], none⟩,
   ⟨some 44, .call K.rabbetlaw13_num [(.k (.int .u64 7))], none⟩,
   ⟨some 45, .bslice false 8 1 [.int .i64 0, .int .u64 0, .str [], .int .i64 0, .int .i64 0, .str [], .lst .nil 0 [], .lst .nil 0 []] [(0, 8, (.t 44))], none⟩,
   ⟨some 46, .build [.int .i64 0, .int .i64 0, .str [], .str [], .int .i64 0, .str [], .lst .nil 0 [], .lst .nil 0 [], .lst .nil 0 [], .lst .nil 0 []] [(0, 1, (.k (.int .i64 3))), (5, 2, (.t 43)), (7, 1, (.t 45))], none⟩,
   ⟨some 47, .bslice false 10 1 [.int .i64 0, .int .i64 0, .str [], .str [], .int .i64 0, .str [], .lst .nil 0 [], .lst .nil 0 [], .lst .nil 0 [], .lst .nil 0 []] [(0, 10, (.t 46))], none⟩,
   ⟨some 48, .bslice false 1 1 [.lst .nil 0 []] [(0, 1, (.t 47))], none⟩,
   ⟨some 49, .build [.lst .nil 0 [], .lst .nil 0 []] [(0, 1, (.t 40)), (1, 1, (.t 48))], none⟩,
   ⟨some 9, .alloc true [.lst .nil 0 [], .lst .nil 0 []], none⟩,
   ⟨none, .store 2 (.t 9) (.t 49), none⟩]
 [[], [0], [0, 1], [], [3], [3, 4], [], [6], [3, 4, 5, 6, 7], [3, 4, 5, 6, 7, 8], [3, 4, 5, 6, 7, 8, 9], [0, 1, 2, 3, 4, 5, 6, 7, 8, 9, 10], [], [0, 1, 2, 3, 4, 5, 6, 7, 8, 9, 10, 11, 12]] [([0, 1, 2, 3, 4, 5], 6, [0]), ([7, 8, 9, 10, 11], 12, [0]), ([], 13, [])] [])
 (.seq (.region [
   ⟨some 51, .load 2 true (.t 9), none⟩,
   ⟨some 52, .call K.lower_Thread [(.t 51), (.k (.int .i64 0))], none⟩,
   ⟨some 50, .mv (.t 52), none⟩,
   ⟨some 53, .extract 0 (.t 50), none⟩,
   ⟨some 54, .extract 1 (.t 50), none⟩,
   ⟨some 55, .extract 2 (.t 50), none⟩,
   ⟨some 12, .alloc true [.int .i64 0, .int .i64 0], none⟩,
   ⟨some 10, .mv (.t 53), none⟩,
   ⟨some 11, .mv (.t 54), none⟩,
   ⟨none, .store 2 (.t 12) (.t 55), none⟩])
 (.seq (.region [
   ⟨some 13, .mv (.k (.int .i64 0)), none⟩,
   ⟨some 14, .mv (.k (.int .i64 0)), none⟩])
 (.join [13, 14] [4, 15, 56, 57, 58, 59, 60, 61, 62, 63, 64, 65, 66, 67, 68, 69, 70, 71, 72, 73, 74, 75, 76, 77, 78, 79, 80, 81, 82] (.seq (.region [
   ⟨some 15, .mv (.k (.int .i64 0)), none⟩])
 (.block 0 (.loop [13, 14, 15] [4, 56, 57, 58, 59, 60, 61, 62, 63, 64, 65, 66, 67, 68, 69, 70, 71, 72, 73, 74, 75, 76, 77, 78, 79, 80, 81, 82] (.seq (.seq (.region [
   ⟨some 56, .mv (.t 15), none⟩,
   ⟨some 57, .mv (.t 10), none⟩,
   ⟨some 58, .len false (.t 57), none⟩,
   ⟨some 59, .bin .lss (.t 56) (.t 58), none⟩])
 (.cond (.t 59) (.skip)
   (.exit 0)))
 (.join [13, 14] [4, 62, 63, 64, 65, 66, 67, 68, 69, 70, 71, 72, 73, 74, 75, 76, 77, 78, 79, 80, 81, 82] (.block 1 (.join [13, 14] [62, 63, 64, 65, 66, 67, 68, 69, 70, 71, 72, 73, 74, 75, 76] (.seq (.region [
   ⟨some 62, .mv (.t 10), none⟩,
   ⟨some 63, .mv (.t 15), none⟩,
   ⟨some 64, .iaddr none 13 (.t 62) (.t 63), none⟩,
   ⟨some 65, .faddr 0 (.t 64), none⟩,
   ⟨some 66, .load 1 false (.t 65), none⟩,
   ⟨some 67, .bin .eql (.t 66) (.k (.int .i64 5)), none⟩])
 (.cond (.t 67) (.seq (.region [
     ⟨some 68, .mv (.t 13), none⟩,
     ⟨some 69, .bin .add (.t 68) (.k (.int .i64 1)), none⟩,
     ⟨some 13, .mv (.t 69), none⟩])
   (.region [
     ⟨some 70, .mv (.t 14), none⟩,
     ⟨some 71, .mv (.t 10), none⟩,
     ⟨some 72, .mv (.t 15), none⟩,
     ⟨some 73, .iaddr none 13 (.t 71) (.t 72), none⟩,
     ⟨some 74, .faddr 8 (.t 73), none⟩,
     ⟨some 75, .load 1 false (.t 74), none⟩,
     ⟨some 76, .bin .add (.t 70) (.t 75), none⟩,
     ⟨some 14, .mv (.t 76), none⟩]))
   (.skip)))
 (.seq (.region [
   ⟨some 77, .mv (.t 10), none⟩,
   ⟨some 78, .mv (.t 15), none⟩,
   ⟨some 79, .iaddr none 13 (.t 77) (.t 78), none⟩,
   ⟨some 80, .faddr 0 (.t 79), none⟩,
   ⟨some 81, .load 1 false (.t 80), none⟩,
   ⟨some 82, .bin .eql (.t 81) (.k (.int .i64 4)), none⟩])
 (.cond (.t 82) (.seq (.region [
     ⟨some 4, .mv (.k (.bool false)), none⟩])
   (.ret))
   (.skip)))))
 (.region [
   ⟨some 60, .mv (.t 15), none⟩,
   ⟨some 61, .bin .add (.t 60) (.k (.int .i64 1)), none⟩,
   ⟨some 15, .mv (.t 61), none⟩]))))))
 (.seq (.region [
   ⟨some 83, .mv (.t 5), none⟩,
   ⟨some 16, .mv (.k (.int .i64 0)), none⟩,
   ⟨some 17, .mv (.t 83), none⟩])
 (.join [16] [17, 18, 84, 85, 86, 87, 88, 89, 90, 91, 92, 93, 94, 95, 96, 97, 98, 99, 100, 101, 102, 103, 104, 105, 106, 107, 108] (.block 2 (.loop [16, 17] [18, 84, 85, 86, 87, 88, 89, 90, 91, 92, 93, 94, 95, 96, 97, 98, 99, 100, 101, 102, 103, 104, 105, 106, 107, 108] (.seq (.seq (.region [
   ⟨some 84, .mv (.t 17), none⟩,
   ⟨some 85, .mv (.t 5), none⟩,
   ⟨some 86, .mv (.t 6), none⟩,
   ⟨some 87, .bin .add (.t 85) (.t 86), none⟩,
   ⟨some 88, .bin .lss (.t 84) (.t 87), none⟩])
 (.cond (.t 88) (.skip)
   (.exit 2)))
 (.block 3 (.seq (.region [
   ⟨some 18, .mv (.k (.int .i64 8)), none⟩])
 (.join [18] [89, 90, 91, 92, 93, 94, 95, 96, 97, 98, 99, 100, 101, 102, 103] (.block 4 (.loop [18] [89, 90, 91, 92, 93, 94, 95, 96, 97, 98, 99, 100, 101, 102, 103] (.join [] [89, 90, 91, 92, 93, 94, 95, 96, 97, 98, 99, 100, 101] (.join [101] [89, 90, 91, 92, 93, 94, 95, 96, 97, 98, 99, 100] (.region [
   ⟨some 89, .mv (.t 17), none⟩,
   ⟨some 90, .mv (.t 18), none⟩,
   ⟨some 91, .bin .rem (.t 89) (.t 90), none⟩,
   ⟨some 92, .bin .neq (.t 91) (.k (.int .i64 0)), none⟩,
   ⟨some 93, .mv (.t 92), none⟩,
   ⟨some 94, .mv (.t 17), some (93, false)⟩,
   ⟨some 95, .mv (.t 18), some (93, false)⟩,
   ⟨some 96, .bin .add (.t 94) (.t 95), some (93, false)⟩,
   ⟨some 97, .mv (.t 5), some (93, false)⟩,
   ⟨some 98, .mv (.t 6), some (93, false)⟩,
   ⟨some 99, .bin .add (.t 97) (.t 98), some (93, false)⟩,
   ⟨some 100, .bin .gtr (.t 96) (.t 99), some (93, false)⟩,
   ⟨some 101, .pick (.t 93) (.k (.bool true)) (.t 100), none⟩])
 (.cond (.t 101) (.skip)
   (.exit 4)))
 (.block 5 (.region [
   ⟨some 102, .mv (.t 18), none⟩,
   ⟨some 103, .bin .quo (.t 102) (.k (.int .i64 2)), none⟩,
   ⟨some 18, .mv (.t 103), none⟩])))))
 (.seq (.region [
   ⟨some 104, .mv (.t 17), none⟩,
   ⟨some 105, .mv (.t 18), none⟩,
   ⟨some 106, .bin .add (.t 104) (.t 105), none⟩,
   ⟨some 17, .mv (.t 106), none⟩])
 (.region [
   ⟨some 107, .mv (.t 16), none⟩,
   ⟨some 108, .bin .add (.t 107) (.k (.int .i64 1)), none⟩,
   ⟨some 16, .mv (.t 108), none⟩]))))))))
 (.seq (.rjoin [114] [109, 110, 111, 112, 113] [
   ⟨some 109, .call K.rabbetlaw13_awake [], none⟩,
   ⟨some 110, .mv (.t 109), none⟩,
   ⟨some 111, .faddr 1 (.t 12), some (110, true)⟩,
   ⟨some 112, .load 1 false (.t 111), some (110, true)⟩,
   ⟨some 113, .bin .eql (.t 112) (.k (.int .i64 0)), some (110, true)⟩,
   ⟨some 114, .pick (.t 110) (.t 113) (.k (.bool false)), none⟩]
 (.rjoin [119] [115, 116, 117, 118] [
   ⟨some 115, .mv (.t 114), none⟩,
   ⟨some 116, .mv (.t 13), some (115, true)⟩,
   ⟨some 117, .mv (.t 16), some (115, true)⟩,
   ⟨some 118, .bin .eql (.t 116) (.t 117), some (115, true)⟩,
   ⟨some 119, .pick (.t 115) (.t 118) (.k (.bool false)), none⟩]
 (.region [
   ⟨some 120, .mv (.t 119), none⟩,
   ⟨some 121, .mv (.t 14), some (120, true)⟩,
   ⟨some 122, .mv (.t 6), some (120, true)⟩,
   ⟨some 123, .bin .eql (.t 121) (.t 122), some (120, true)⟩,
   ⟨some 124, .pick (.t 120) (.t 123) (.k (.bool false)), none⟩,
   ⟨some 4, .mv (.t 124), none⟩])))
 (.ret)))))))))))⟩
theorem eq_rabbetlaw13_LowerSingle (Φ : Calls') (a0 a1 : AV) (H : AH) (Q : Post) : fnE1 Φ ir_rabbetlaw13_LowerSingle [a0, a1] H Q = rabbetlaw13_LowerSingle Φ a0 a1 H Q := by kernel_rfl

/-! rabbet/rabbetlaw13.num -/
def rabbetlaw13_num (Φ : Calls') (a0 : AV) (H : AH) (Q : Post) : Prop :=
 DoH (some (abox H true [.int .i64 0, .int .u64 0, .str [], .int .i64 0, .int .i64 0, .str [], .lst .nil 0 [], .lst .nil 0 []])) fun x1 H2 =>
 Do (abuild [.int .i64 0, .int .u64 0, .str [], .int .i64 0, .int .i64 0, .str [], .lst .nil 0 [], .lst .nil 0 []] [(0, 1, (.int .i64 1)), (1, 1, a0)]) fun x3 =>
 Do (astore H2 8 x1 x3) fun H4 =>
 Do (aload H4 8 true x1) fun x5 =>
 Q x5 H4
def ir_rabbetlaw13_num : AFunc := ⟨5, [.cell 2 8 true],
 .seq (.region [
   ⟨some 2, .alloc true [.int .i64 0, .int .u64 0, .str [], .int .i64 0, .int .i64 0, .str [], .lst .nil 0 [], .lst .nil 0 []], none⟩])
 (.seq (.region [
   ⟨some 3, .mv (.t 0), none⟩,
   ⟨some 4, .build [.int .i64 0, .int .u64 0, .str [], .int .i64 0, .int .i64 0, .str [], .lst .nil 0 [], .lst .nil 0 []] [(0, 1, (.k (.int .i64 1))), (1, 1, (.t 3))], none⟩,
   ⟨none, .store 8 (.t 2) (.t 4), none⟩])
 (.ret))⟩
theorem eq_rabbetlaw13_num (Φ : Calls') (a0 : AV) (H : AH) (Q : Post) : fnE1 Φ ir_rabbetlaw13_num [a0] H Q = rabbetlaw13_num Φ a0 H Q := by kernel_rfl

/-! rabbet/rabbetlaw13.awake -/
def rabbetlaw13_awake_k1 (Φ : Calls') (x30 : AV) (Q : Post) : List AV → AH → Prop := fun j66 H67 =>
 Gd3 (sl j66 0) true (
 Do (aiaddr none 5 x30 (.int .i64 1)) fun x72 =>
 Do (afaddr 2 x72) fun x73 =>
 Do (aload H67 1 false x73) fun x74 =>
 Do (abin .eql x74 (.int .i64 4)) fun x75 =>
 Q x75 H67) (
 Q (.bool false) H67) (
 False)
def rabbetlaw13_awake_k2 (Φ : Calls') (x30 : AV) (Q : Post) : List AV → AH → Prop := fun j60 H61 =>
 Gd3 (sl j60 0) true (
 Do (aiaddr none 5 x30 (.int .i64 1)) fun x68 =>
 Do (afaddr 0 x68) fun x69 =>
 Do (aload H61 1 false x69) fun x70 =>
 Do (abin .eql x70 (.int .i64 3)) fun x71 =>
 JoinP (rabbetlaw13_awake_k1 Φ x30 Q) [x71] H61) (
 JoinP (rabbetlaw13_awake_k1 Φ x30 Q) [(.bool false)] H61) (
 False)
def rabbetlaw13_awake_k3 (Φ : Calls') (x30 : AV) (Q : Post) : List AV → AH → Prop := fun j56 H57 =>
 Gd3 (sl j56 0) true (
 Do (aiaddr none 5 x30 (.int .i64 0)) fun x62 =>
 Do (afaddr 0 x62) fun x63 =>
 Do (aload H57 1 false x63) fun x64 =>
 Do (abin .eql x64 (.int .i64 16)) fun x65 =>
 JoinP (rabbetlaw13_awake_k2 Φ x30 Q) [x65] H57) (
 JoinP (rabbetlaw13_awake_k2 Φ x30 Q) [(.bool false)] H57) (
 False)
def rabbetlaw13_awake_k4 (Φ : Calls') (x30 : AV) (Q : Post) : List AV → AH → Prop := fun j52 H53 =>
 Gd3 (sl j52 0) true (
 Do (alen false x30) fun x58 =>
 Do (abin .eql x58 (.int .i64 2)) fun x59 =>
 JoinP (rabbetlaw13_awake_k3 Φ x30 Q) [x59] H53) (
 JoinP (rabbetlaw13_awake_k3 Φ x30 Q) [(.bool false)] H53) (
 False)
def rabbetlaw13_awake_k5 (Φ : Calls') (x23 : AV) (x30 : AV) (Q : Post) : List AV → AH → Prop := fun j49 H50 =>
 Gd3 (sl j49 0) true (
 Do (alen false x23) fun x54 =>
 Do (abin .gtr x54 (.int .i64 1)) fun x55 =>
 JoinP (rabbetlaw13_awake_k4 Φ x30 Q) [x55] H50) (
 JoinP (rabbetlaw13_awake_k4 Φ x30 Q) [(.bool false)] H50) (
 False)
def rabbetlaw13_awake_k6 (Φ : Calls') (x23 : AV) (x24 : AV) (x30 : AV) (Q : Post) : List AV → AH → Prop := fun j41 H42 =>
 Gd3 (sl j41 0) true (
 Do (abin .gtr x24 (.int .i64 0)) fun x51 =>
 JoinP (rabbetlaw13_awake_k5 Φ x23 x30 Q) [x51] H42) (
 JoinP (rabbetlaw13_awake_k5 Φ x23 x30 Q) [(.bool false)] H42) (
 False)
def rabbetlaw13_awake (Φ : Calls') (H : AH) (Q : Post) : Prop :=
Φ K.rabbetlaw13_x [(.str [98])] H fun x1 H2 =>
Φ K.rabbetlaw13_x [(.str [97])] H2 fun x3 H4 =>
Φ K.rabbetlaw13_num [(.int .u64 1)] H4 fun x5 H6 =>
 DoH (abslice H6 false 8 1 [.int .i64 0, .int .u64 0, .str [], .int .i64 0, .int .i64 0, .str [], .lst .nil 0 [], .lst .nil 0 []] [(0, 8, x5)]) fun x7 H8 =>
 Do (abuild [.int .i64 0, .int .u64 0, .str [], .int .i64 0, .int .i64 0, .str [], .lst .nil 0 [], .lst .nil 0 []] [(0, 1, (.int .i64 6)), (4, 1, (.int .i64 1)), (5, 2, x3), (7, 1, x7)]) fun x9 =>
 DoH (abslice H8 false 8 1 [.int .i64 0, .int .u64 0, .str [], .int .i64 0, .int .i64 0, .str [], .lst .nil 0 [], .lst .nil 0 []] [(0, 8, x9)]) fun x10 H11 =>
 Do (abuild [.int .i64 0, .int .i64 0, .str [], .str [], .int .i64 0, .str [], .lst .nil 0 [], .lst .nil 0 [], .lst .nil 0 [], .lst .nil 0 []] [(0, 1, (.int .i64 3)), (1, 1, (.int .i64 4)), (5, 2, x1), (7, 1, x10)]) fun x12 =>
 DoH (abslice H11 false 10 1 [.int .i64 0, .int .i64 0, .str [], .str [], .int .i64 0, .str [], .lst .nil 0 [], .lst .nil 0 [], .lst .nil 0 [], .lst .nil 0 []] [(0, 10, x12)]) fun x13 H14 =>
Φ K.rabbetlaw13_tiny [x13] H14 fun x15 H16 =>
 DoH (some (abox H16 true [.lst .nil 0 [], .lst .nil 0 []])) fun x17 H18 =>
 Do (astore H18 2 x17 x15) fun H19 =>
 Do (aload H19 2 true x17) fun x20 =>
Φ K.lower_Thread [x20, (.int .i64 0)] H19 fun x21 H22 =>
 Do (aextract 0 x21) fun x23 =>
 Do (aextract 1 x21) fun x24 =>
 Do (aextract 2 x21) fun x25 =>
 DoH (some (abox H22 true [.int .i64 0, .int .i64 0])) fun x26 H27 =>
 Do (astore H27 2 x26 x25) fun H28 =>
 Do (aload H28 2 true x17) fun x29 =>
Φ K.lower_Accesses [x29, (.int .i64 0)] H28 fun x30 H31 =>
 Do (aload H31 2 true x17) fun x32 =>
Φ K.lower_Thread [x32, (.int .i64 1)] H31 fun x33 H34 =>
 Do (aextract 0 x33) fun x35 =>
 Do (aextract 1 x33) fun x36 =>
 Do (aextract 2 x33) fun x37 =>
 DoH (some (abox H34 true [.int .i64 0, .int .i64 0])) fun x38 H39 =>
 Do (astore H39 2 x38 x37) fun H40 =>
 Do (afaddr 1 x26) fun x43 =>
 Do (aload H40 1 false x43) fun x44 =>
 Do (abin .eql x44 (.int .i64 0)) fun x45 =>
 Gd3 x45 true (
 Do (afaddr 1 x38) fun x46 =>
 Do (aload H40 1 false x46) fun x47 =>
 Do (abin .eql x47 (.int .i64 1)) fun x48 =>
 JoinP (rabbetlaw13_awake_k6 Φ x23 x24 x30 Q) [x48] H40) (
 JoinP (rabbetlaw13_awake_k6 Φ x23 x24 x30 Q) [(.bool false)] H40) (
 False)
def ir_rabbetlaw13_awake : AFunc := ⟨75, [.tmp 0],
 .seq (.region [
   ⟨some 0, .mv (.k (.bool false)), none⟩])
 (.seq (.region [
   ⟨some 9, .call K.rabbetlaw13_x [(.k (.str [98]))], none⟩,
   ⟨some 10, .call K.rabbetlaw13_x [(.k (.str [97]))], none⟩,
   ⟨some 11, .call K.rabbetlaw13_num [(.k (.int .u64 1))], none⟩,
   ⟨some 12, .bslice false 8 1 [.int .i64 0, .int .u64 0, .str [], .int .i64 0, .int .i64 0, .str [], .lst .nil 0 [], .lst .nil 0 []] [(0, 8, (.t 11))], none⟩,
   ⟨some 13, .build [.int .i64 0, .int .u64 0, .str [], .int .i64 0, .int .i64 0, .str [], .lst .nil 0 [], .lst .nil 0 []] [(0, 1, (.k (.int .i64 6))), (4, 1, (.k (.int .i64 1))), (5, 2, (.t 10)), (7, 1, (.t 12))], none⟩,
   ⟨some 14, .bslice false 8 1 [.int .i64 0, .int .u64 0, .str [], .int .i64 0, .int .i64 0, .str [], .lst .nil 0 [], .lst .nil 0 []] [(0, 8, (.t 13))], none⟩,
   ⟨some 15, .build [.int .i64 0, .int .i64 0, .str [], .str [], .int .i64 0, .str [], .lst .nil 0 [], .lst .nil 0 [], .lst .nil 0 [], .lst .nil 0 []] [(0, 1, (.k (.int .i64 3))), (1, 1, (.k (.int .i64 4))), (5, 2, (.t 9)), (7, 1, (.t 14))], none⟩,
   ⟨some 16, .bslice false 10 1 [.int .i64 0, .int .i64 0, .str [], .str [], .int .i64 0, .str [], .lst .nil 0 [], .lst .nil 0 [], .lst .nil 0 [], .lst .nil 0 []] [(0, 10, (.t 15))], none⟩,
   ⟨some 17, .call K.rabbetlaw13_tiny [(.t 16)], none⟩,
   ⟨some 1, .alloc true [.lst .nil 0 [], .lst .nil 0 []], none⟩,
   ⟨none, .store 2 (.t 1) (.t 17), none⟩])
 (.seq (.region [
   ⟨some 19, .load 2 true (.t 1), none⟩,
   ⟨some 20, .call K.lower_Thread [(.t 19), (.k (.int .i64 0))], none⟩,
   ⟨some 18, .mv (.t 20), none⟩,
   ⟨some 21, .extract 0 (.t 18), none⟩,
   ⟨some 22, .extract 1 (.t 18), none⟩,
   ⟨some 23, .extract 2 (.t 18), none⟩,
   ⟨some 4, .alloc true [.int .i64 0, .int .i64 0], none⟩,
   ⟨some 2, .mv (.t 21), none⟩,
   ⟨some 3, .mv (.t 22), none⟩,
   ⟨none, .store 2 (.t 4) (.t 23), none⟩])
 (.seq (.region [
   ⟨some 24, .load 2 true (.t 1), none⟩,
   ⟨some 25, .call K.lower_Accesses [(.t 24), (.k (.int .i64 0))], none⟩,
   ⟨some 5, .mv (.t 25), none⟩])
 (.seq (.region [
   ⟨some 27, .load 2 true (.t 1), none⟩,
   ⟨some 28, .call K.lower_Thread [(.t 27), (.k (.int .i64 1))], none⟩,
   ⟨some 26, .mv (.t 28), none⟩,
   ⟨some 29, .extract 0 (.t 26), none⟩,
   ⟨some 30, .extract 1 (.t 26), none⟩,
   ⟨some 31, .extract 2 (.t 26), none⟩,
   ⟨some 8, .alloc true [.int .i64 0, .int .i64 0], none⟩,
   ⟨some 6, .mv (.t 29), none⟩,
   ⟨some 7, .mv (.t 30), none⟩,
   ⟨none, .store 2 (.t 8) (.t 31), none⟩])
 (.seq (.rjoin [39] [32, 33, 34, 35, 36, 37, 38] [
   ⟨some 32, .faddr 1 (.t 4), none⟩,
   ⟨some 33, .load 1 false (.t 32), none⟩,
   ⟨some 34, .bin .eql (.t 33) (.k (.int .i64 0)), none⟩,
   ⟨some 35, .mv (.t 34), none⟩,
   ⟨some 36, .faddr 1 (.t 8), some (35, true)⟩,
   ⟨some 37, .load 1 false (.t 36), some (35, true)⟩,
   ⟨some 38, .bin .eql (.t 37) (.k (.int .i64 1)), some (35, true)⟩,
   ⟨some 39, .pick (.t 35) (.t 38) (.k (.bool false)), none⟩]
 (.rjoin [43] [40, 41, 42] [
   ⟨some 40, .mv (.t 39), none⟩,
   ⟨some 41, .mv (.t 3), some (40, true)⟩,
   ⟨some 42, .bin .gtr (.t 41) (.k (.int .i64 0)), some (40, true)⟩,
   ⟨some 43, .pick (.t 40) (.t 42) (.k (.bool false)), none⟩]
 (.rjoin [48] [44, 45, 46, 47] [
   ⟨some 44, .mv (.t 43), none⟩,
   ⟨some 45, .mv (.t 2), some (44, true)⟩,
   ⟨some 46, .len false (.t 45), some (44, true)⟩,
   ⟨some 47, .bin .gtr (.t 46) (.k (.int .i64 1)), some (44, true)⟩,
   ⟨some 48, .pick (.t 44) (.t 47) (.k (.bool false)), none⟩]
 (.rjoin [53] [49, 50, 51, 52] [
   ⟨some 49, .mv (.t 48), none⟩,
   ⟨some 50, .mv (.t 5), some (49, true)⟩,
   ⟨some 51, .len false (.t 50), some (49, true)⟩,
   ⟨some 52, .bin .eql (.t 51) (.k (.int .i64 2)), some (49, true)⟩,
   ⟨some 53, .pick (.t 49) (.t 52) (.k (.bool false)), none⟩]
 (.rjoin [60] [54, 55, 56, 57, 58, 59] [
   ⟨some 54, .mv (.t 53), none⟩,
   ⟨some 55, .mv (.t 5), some (54, true)⟩,
   ⟨some 56, .iaddr none 5 (.t 55) (.k (.int .i64 0)), some (54, true)⟩,
   ⟨some 57, .faddr 0 (.t 56), some (54, true)⟩,
   ⟨some 58, .load 1 false (.t 57), some (54, true)⟩,
   ⟨some 59, .bin .eql (.t 58) (.k (.int .i64 16)), some (54, true)⟩,
   ⟨some 60, .pick (.t 54) (.t 59) (.k (.bool false)), none⟩]
 (.rjoin [67] [61, 62, 63, 64, 65, 66] [
   ⟨some 61, .mv (.t 60), none⟩,
   ⟨some 62, .mv (.t 5), some (61, true)⟩,
   ⟨some 63, .iaddr none 5 (.t 62) (.k (.int .i64 1)), some (61, true)⟩,
   ⟨some 64, .faddr 0 (.t 63), some (61, true)⟩,
   ⟨some 65, .load 1 false (.t 64), some (61, true)⟩,
   ⟨some 66, .bin .eql (.t 65) (.k (.int .i64 3)), some (61, true)⟩,
   ⟨some 67, .pick (.t 61) (.t 66) (.k (.bool false)), none⟩]
 (.region [
   ⟨some 68, .mv (.t 67), none⟩,
   ⟨some 69, .mv (.t 5), some (68, true)⟩,
   ⟨some 70, .iaddr none 5 (.t 69) (.k (.int .i64 1)), some (68, true)⟩,
   ⟨some 71, .faddr 2 (.t 70), some (68, true)⟩,
   ⟨some 72, .load 1 false (.t 71), some (68, true)⟩,
   ⟨some 73, .bin .eql (.t 72) (.k (.int .i64 4)), some (68, true)⟩,
   ⟨some 74, .pick (.t 68) (.t 73) (.k (.bool false)), none⟩,
   ⟨some 0, .mv (.t 74), none⟩])))))))
 (.ret))))))⟩
theorem eq_rabbetlaw13_awake (Φ : Calls') (H : AH) (Q : Post) : fnE1 Φ ir_rabbetlaw13_awake [] H Q = rabbetlaw13_awake Φ H Q := by kernel_rfl

/-! rabbet/rabbetlaw13.tiny -/
def rabbetlaw13_tiny (Φ : Calls') (a0 : AV) (H : AH) (Q : Post) : Prop :=
 DoH (some (abox H true [.lst .nil 0 [], .lst .nil 0 []])) fun x1 H2 =>
 Do (abuild [.int .i64 0, .int .i64 0, .bool false, .lst .nil 0 [], .int .i64 0, .lst .nil 0 []] [(0, 1, (.int .i64 2)), (1, 1, (.int .i64 4))]) fun x3 =>
 Do (abuild [.str [], .int .i64 0, .int .i64 0, .bool false, .lst .nil 0 [], .int .i64 0, .lst .nil 0 []] [(0, 1, (.str [97])), (1, 6, x3)]) fun x4 =>
 Do (abuild [.int .i64 0, .int .i64 0, .bool false, .lst .nil 0 [], .int .i64 0, .lst .nil 0 []] [(0, 1, (.int .i64 1)), (1, 1, (.int .i64 4))]) fun x5 =>
 Do (abuild [.str [], .int .i64 0, .int .i64 0, .bool false, .lst .nil 0 [], .int .i64 0, .lst .nil 0 []] [(0, 1, (.str [98])), (1, 6, x5)]) fun x6 =>
 DoH (abslice H2 false 7 2 [.str [], .int .i64 0, .int .i64 0, .bool false, .lst .nil 0 [], .int .i64 0, .lst .nil 0 []] [(0, 7, x4), (7, 7, x6)]) fun x7 H8 =>
 DoH (abslice H8 false 1 1 [.lst .nil 0 []] [(0, 1, a0)]) fun x9 H10 =>
 Do (abuild [.lst .nil 0 [], .lst .nil 0 []] [(0, 1, x7), (1, 1, x9)]) fun x11 =>
 Do (astore H10 2 x1 x11) fun H12 =>
 Do (aload H12 2 true x1) fun x13 =>
 Q x13 H12
def ir_rabbetlaw13_tiny : AFunc := ⟨11, [.cell 2 2 true],
 .seq (.region [
   ⟨some 2, .alloc true [.lst .nil 0 [], .lst .nil 0 []], none⟩])
 (.seq (.region [
   ⟨some 3, .build [.int .i64 0, .int .i64 0, .bool false, .lst .nil 0 [], .int .i64 0, .lst .nil 0 []] [(0, 1, (.k (.int .i64 2))), (1, 1, (.k (.int .i64 4)))], none⟩,
   ⟨some 4, .build [.str [], .int .i64 0, .int .i64 0, .bool false, .lst .nil 0 [], .int .i64 0, .lst .nil 0 []] [(0, 1, (.k (.str [97]))), (1, 6, (.t 3))], none⟩,
   ⟨some 5, .build [.int .i64 0, .int .i64 0, .bool false, .lst .nil 0 [], .int .i64 0, .lst .nil 0 []] [(0, 1, (.k (.int .i64 1))), (1, 1, (.k (.int .i64 4)))], none⟩,
   ⟨some 6, .build [.str [], .int .i64 0, .int .i64 0, .bool false, .lst .nil 0 [], .int .i64 0, .lst .nil 0 []] [(0, 1, (.k (.str [98]))), (1, 6, (.t 5))], none⟩,
   ⟨some 7, .bslice false 7 2 [.str [], .int .i64 0, .int .i64 0, .bool false, .lst .nil 0 [], .int .i64 0, .lst .nil 0 []] [(0, 7, (.t 4)), (7, 7, (.t 6))], none⟩,
   ⟨some 8, .mv (.t 0), none⟩,
   ⟨some 9, .bslice false 1 1 [.lst .nil 0 []] [(0, 1, (.t 8))], none⟩,
   ⟨some 10, .build [.lst .nil 0 [], .lst .nil 0 []] [(0, 1, (.t 7)), (1, 1, (.t 9))], none⟩,
   ⟨none, .store 2 (.t 2) (.t 10), none⟩])
 (.ret))⟩
theorem eq_rabbetlaw13_tiny (Φ : Calls') (a0 : AV) (H : AH) (Q : Post) : fnE1 Φ ir_rabbetlaw13_tiny [a0] H Q = rabbetlaw13_tiny Φ a0 H Q := by kernel_rfl

/-! rabbet/rabbetlaw13.x -/
def rabbetlaw13_x (Φ : Calls') (a0 : AV) (H : AH) (Q : Post) : Prop :=
 DoH (some (abox H true [.str [], .lst .nil 0 []])) fun x1 H2 =>
 Do (abuild [.str [], .lst .nil 0 []] [(0, 1, a0)]) fun x3 =>
 Do (astore H2 2 x1 x3) fun H4 =>
 Do (aload H4 2 true x1) fun x5 =>
 Q x5 H4
def ir_rabbetlaw13_x : AFunc := ⟨5, [.cell 2 2 true],
 .seq (.region [
   ⟨some 2, .alloc true [.str [], .lst .nil 0 []], none⟩])
 (.seq (.region [
   ⟨some 3, .mv (.t 0), none⟩,
   ⟨some 4, .build [.str [], .lst .nil 0 []] [(0, 1, (.t 3))], none⟩,
   ⟨none, .store 2 (.t 2) (.t 4), none⟩])
 (.ret))⟩
theorem eq_rabbetlaw13_x (Φ : Calls') (a0 : AV) (H : AH) (Q : Post) : fnE1 Φ ir_rabbetlaw13_x [a0] H Q = rabbetlaw13_x Φ a0 H Q := by kernel_rfl

def tab_rabbetlaw13 : Tab := [
  (K.rabbetlaw13_LowerSingle, ir_rabbetlaw13_LowerSingle),
  (K.rabbetlaw13_num, ir_rabbetlaw13_num),
  (K.rabbetlaw13_awake, ir_rabbetlaw13_awake),
  (K.rabbetlaw13_tiny, ir_rabbetlaw13_tiny),
  (K.rabbetlaw13_x, ir_rabbetlaw13_x)]

theorem cl_rabbetlaw13_LowerSingle {Φ : Calls'} (hT : Cl Φ tab_rabbetlaw13) {a0 a1 : AV} {H : AH} {Q : Post} (h : rabbetlaw13_LowerSingle Φ a0 a1 H Q) : Φ K.rabbetlaw13_LowerSingle [a0, a1] H Q := hT.call (by kernel_rfl) (by kernel_rfl) (by rw [eq_rabbetlaw13_LowerSingle]; exact h)
theorem cl_rabbetlaw13_num {Φ : Calls'} (hT : Cl Φ tab_rabbetlaw13) {a0 : AV} {H : AH} {Q : Post} (h : rabbetlaw13_num Φ a0 H Q) : Φ K.rabbetlaw13_num [a0] H Q := hT.call (by kernel_rfl) (by kernel_rfl) (by rw [eq_rabbetlaw13_num]; exact h)
theorem cl_rabbetlaw13_awake {Φ : Calls'} (hT : Cl Φ tab_rabbetlaw13) {H : AH} {Q : Post} (h : rabbetlaw13_awake Φ H Q) : Φ K.rabbetlaw13_awake [] H Q := hT.call (by kernel_rfl) (by kernel_rfl) (by rw [eq_rabbetlaw13_awake]; exact h)
theorem cl_rabbetlaw13_tiny {Φ : Calls'} (hT : Cl Φ tab_rabbetlaw13) {a0 : AV} {H : AH} {Q : Post} (h : rabbetlaw13_tiny Φ a0 H Q) : Φ K.rabbetlaw13_tiny [a0] H Q := hT.call (by kernel_rfl) (by kernel_rfl) (by rw [eq_rabbetlaw13_tiny]; exact h)
theorem cl_rabbetlaw13_x {Φ : Calls'} (hT : Cl Φ tab_rabbetlaw13) {a0 : AV} {H : AH} {Q : Post} (h : rabbetlaw13_x Φ a0 H Q) : Φ K.rabbetlaw13_x [a0] H Q := hT.call (by kernel_rfl) (by kernel_rfl) (by rw [eq_rabbetlaw13_x]; exact h)
end Rb.S

/- Package rabbetlaw13: its functions as runs. By gen.py. -/
set_option linter.unusedVariables false
namespace Rb.R
open Go

def rabbetlaw13_LowerSingle_k1 (Φ : CallsB) (n : Nat) (s63 : List AV × TH) (L64 : (List AV × TH) → Bool) (Q : PostB) : List AV → TH → Bool := fun j67 H68 =>
 DoB (abin .add (sl s63.1 2) (.int .i64 1)) fun x87 =>
 L64 ([(sl j67 0), (sl j67 1), x87], H68)
def rabbetlaw13_LowerSingle_k2 (Φ : CallsB) (n : Nat) (x54 : AV) (s63 : List AV × TH) (L64 : (List AV × TH) → Bool) (Q : PostB) : List AV → TH → Bool := fun j69 H70 =>
 DoB (aiaddr none 13 x54 (sl s63.1 2)) fun x82 =>
 DoB (afaddr 0 x82) fun x83 =>
 DoB (aload H70.ah 1 false x83) fun x84 =>
 DoB (abin .eql x84 (.int .i64 4)) fun x86 =>
 GdB x86 true (
 Q (.bool false) H70) (
 JoinB (rabbetlaw13_LowerSingle_k1 Φ n s63 L64 Q) [(sl j69 0), (sl j69 1)] H70)
def rabbetlaw13_LowerSingle_k3 (Φ : CallsB) (n : Nat) (s96 : List AV × TH) (L97 : (List AV × TH) → Bool) (Q : PostB) : List AV → TH → Bool := fun j98 H99 =>
 DoB (abin .quo (sl s96.1 0) (.int .i64 2)) fun x107 =>
 L97 ([x107], H99)
def rabbetlaw13_LowerSingle_k4 (Φ : CallsB) (n : Nat) (s90 : List AV × TH) (L91 : (List AV × TH) → Bool) (Q : PostB) : List AV → TH → Bool := fun j94 H95 =>
 DoB (abin .add (sl s90.1 1) (sl j94 0)) fun x108 =>
 DoB (abin .add (sl s90.1 0) (.int .i64 1)) fun x109 =>
 L91 ([x109, x108], H95)
def rabbetlaw13_LowerSingle_k5 (Φ : CallsB) (n : Nat) (s90 : List AV × TH) (L91 : (List AV × TH) → Bool) (s96 : List AV × TH) (L97 : (List AV × TH) → Bool) (Q : PostB) : List AV → TH → Bool := fun j100 H101 =>
 GdB (sl j100 0) true (
 JoinB (rabbetlaw13_LowerSingle_k3 Φ n s96 L97 Q) [] H101) (
 JoinB (rabbetlaw13_LowerSingle_k4 Φ n s90 L91 Q) [(sl s96.1 0)] H101)
def rabbetlaw13_LowerSingle_l6 (Φ : CallsB) (n : Nat) (x3 : AV) (x6 : AV) (s90 : List AV × TH) (L91 : (List AV × TH) → Bool) (Q : PostB) : (List AV × TH) → ((List AV × TH) → Bool) → Bool := fun s96 L97 =>
 DoB (abin .rem (sl s90.1 1) (sl s96.1 0)) fun x102 =>
 DoB (abin .neq x102 (.int .i64 0)) fun x103 =>
 Gd3B x103 false (
 DoB (abin .add (sl s90.1 1) (sl s96.1 0)) fun x104 =>
 DoB (abin .add x3 x6) fun x105 =>
 DoB (abin .gtr x104 x105) fun x106 =>
 JoinB (rabbetlaw13_LowerSingle_k5 Φ n s90 L91 s96 L97 Q) [x106] s96.2) (
 JoinB (rabbetlaw13_LowerSingle_k5 Φ n s90 L91 s96 L97 Q) [(.bool true)] s96.2) (
 false)
def rabbetlaw13_LowerSingle_k7 (Φ : CallsB) (n : Nat) (x6 : AV) (j61 : List AV) (Q : PostB) : List AV → TH → Bool := fun j118 H119 =>
 Gd3B (sl j118 0) true (
 DoB (abin .eql (sl j61 1) x6) fun x121 =>
 Q x121 H119) (
 Q (.bool false) H119) (
 false)
def rabbetlaw13_LowerSingle_k8 (Φ : CallsB) (n : Nat) (x6 : AV) (j61 : List AV) (j88 : List AV) (Q : PostB) : List AV → TH → Bool := fun j110 H111 =>
 Gd3B (sl j110 0) true (
 DoB (abin .eql (sl j61 0) (sl j88 0)) fun x120 =>
 JoinB (rabbetlaw13_LowerSingle_k7 Φ n x6 j61 Q) [x120] H111) (
 JoinB (rabbetlaw13_LowerSingle_k7 Φ n x6 j61 Q) [(.bool false)] H111) (
 false)
def rabbetlaw13_LowerSingle_k9 (Φ : CallsB) (n : Nat) (x6 : AV) (x57 : AV) (j61 : List AV) (Q : PostB) : List AV → TH → Bool := fun j88 H89 =>
Φ K.rabbetlaw13_awake [] H89 fun x112 H113 =>
 Gd3B x112 true (
 DoB (afaddr 1 x57) fun x114 =>
 DoB (aload H113.ah 1 false x114) fun x115 =>
 DoB (abin .eql x115 (.int .i64 0)) fun x117 =>
 JoinB (rabbetlaw13_LowerSingle_k8 Φ n x6 j61 j88 Q) [x117] H113) (
 JoinB (rabbetlaw13_LowerSingle_k8 Φ n x6 j61 j88 Q) [(.bool false)] H113) (
 false)
def rabbetlaw13_LowerSingle_l10 (Φ : CallsB) (n : Nat) (x3 : AV) (x6 : AV) (x57 : AV) (j61 : List AV) (Q : PostB) : (List AV × TH) → ((List AV × TH) → Bool) → Bool := fun s90 L91 =>
 DoB (abin .add x3 x6) fun x92 =>
 DoB (abin .lss (sl s90.1 1) x92) fun x93 =>
 GdB x93 true (
 LoopB (rabbetlaw13_LowerSingle_l6 Φ n x3 x6 s90 L91 Q) n ([(.int .i64 8)], s90.2)) (
 JoinB (rabbetlaw13_LowerSingle_k9 Φ n x6 x57 j61 Q) [(sl s90.1 0)] s90.2)
def rabbetlaw13_LowerSingle_k11 (Φ : CallsB) (n : Nat) (x3 : AV) (x6 : AV) (x57 : AV) (Q : PostB) : List AV → TH → Bool := fun j61 H62 =>
 LoopB (rabbetlaw13_LowerSingle_l10 Φ n x3 x6 x57 j61 Q) n ([(.int .i64 0), x3], H62)
def rabbetlaw13_LowerSingle_l12 (Φ : CallsB) (n : Nat) (x3 : AV) (x6 : AV) (x54 : AV) (x57 : AV) (Q : PostB) : (List AV × TH) → ((List AV × TH) → Bool) → Bool := fun s63 L64 =>
 DoB (alen false x54) fun x65 =>
 DoB (abin .lss (sl s63.1 2) x65) fun x66 =>
 GdB x66 true (
 DoB (aiaddr none 13 x54 (sl s63.1 2)) fun x71 =>
 DoB (afaddr 0 x71) fun x72 =>
 DoB (aload s63.2.ah 1 false x72) fun x73 =>
 DoB (abin .eql x73 (.int .i64 5)) fun x75 =>
 GdB x75 true (
 DoB (abin .add (sl s63.1 0) (.int .i64 1)) fun x76 =>
 DoB (aiaddr none 13 x54 (sl s63.1 2)) fun x77 =>
 DoB (afaddr 8 x77) fun x78 =>
 DoB (aload s63.2.ah 1 false x78) fun x79 =>
 DoB (abin .add (sl s63.1 1) x79) fun x81 =>
 JoinB (rabbetlaw13_LowerSingle_k2 Φ n x54 s63 L64 Q) [x76, x81] s63.2) (
 JoinB (rabbetlaw13_LowerSingle_k2 Φ n x54 s63 L64 Q) [(sl s63.1 0), (sl s63.1 1)] s63.2)) (
 JoinB (rabbetlaw13_LowerSingle_k11 Φ n x3 x6 x57 Q) [(sl s63.1 0), (sl s63.1 1)] s63.2)
def rabbetlaw13_LowerSingle (Φ : CallsB) (n : Nat) (a0 : AV) (a1 : AV) (H : TH) (Q : PostB) : Bool :=
 DoB (abin .rem a0 (.int .u8 9)) fun x1 =>
 DoB (aconv .i64 x1) fun x2 =>
 DoB (abin .add x2 (.int .i64 1)) fun x3 =>
 DoB (abin .rem a1 (.int .u8 4)) fun x4 =>
 DoB (aconv .u64 x4) fun x5 =>
 DoB (abin .shl (.int .i64 1) x5) fun x6 =>
 DoB (abuild [.int .i64 0, .int .i64 0, .bool false, .lst .nil 0 [], .int .i64 0, .lst .nil 0 []] [(0, 1, (.int .i64 1)), (1, 1, (.int .i64 1))]) fun x7 =>
 DoHB (tbslice H false 6 1 [.int .i64 0, .int .i64 0, .bool false, .lst .nil 0 [], .int .i64 0, .lst .nil 0 []] [(0, 6, x7)]) fun x8 H9 =>
 DoB (abuild [.int .i64 0, .int .i64 0, .bool false, .lst .nil 0 [], .int .i64 0, .lst .nil 0 []] [(0, 1, (.int .i64 5)), (4, 1, x3), (5, 1, x8)]) fun x10 =>
 DoHB (some (tbox H9 true [.int .i64 0, .int .i64 0, .bool false, .lst .nil 0 [], .int .i64 0, .lst .nil 0 []])) fun x11 H12 =>
 DoB (tstore H12 6 x11 x10) fun H14 =>
 DoB (aload H14.ah 6 true x11) fun x15 =>
 DoB (abuild [.str [], .int .i64 0, .int .i64 0, .bool false, .lst .nil 0 [], .int .i64 0, .lst .nil 0 [], .bool false, .int .i64 0] [(0, 1, (.str [112])), (1, 6, x15)]) fun x17 =>
 DoB (abuild [.int .i64 0, .int .i64 0, .bool false, .lst .nil 0 [], .int .i64 0, .lst .nil 0 []] [(0, 1, (.int .i64 1)), (1, 1, x6)]) fun x18 =>
 DoB (abuild [.str [], .int .i64 0, .int .i64 0, .bool false, .lst .nil 0 [], .int .i64 0, .lst .nil 0 [], .bool false, .int .i64 0] [(0, 1, (.str [113])), (1, 6, x18)]) fun x19 =>
 DoHB (tbslice H14 false 9 2 [.str [], .int .i64 0, .int .i64 0, .bool false, .lst .nil 0 [], .int .i64 0, .lst .nil 0 [], .bool false, .int .i64 0] [(0, 9, x17), (9, 9, x19)]) fun x20 H21 =>
 DoB (abuild [.int .i64 0, .int .i64 0, .bool false, .lst .nil 0 [], .int .i64 0, .lst .nil 0 []] [(0, 1, (.int .i64 3)), (2, 1, (.bool true)), (3, 1, x20)]) fun x22 =>
 DoHB (some (tbox H21 true [.int .i64 0, .int .i64 0, .bool false, .lst .nil 0 [], .int .i64 0, .lst .nil 0 []])) fun x23 H24 =>
 DoB (tstore H24 6 x23 x22) fun H26 =>
 DoB (aload H26.ah 6 true x23) fun x27 =>
 DoB (abuild [.str [], .int .i64 0, .int .i64 0, .bool false, .lst .nil 0 [], .int .i64 0, .lst .nil 0 []] [(0, 1, (.str [115])), (1, 6, x27)]) fun x29 =>
 DoHB (tbslice H26 false 7 1 [.str [], .int .i64 0, .int .i64 0, .bool false, .lst .nil 0 [], .int .i64 0, .lst .nil 0 []] [(0, 7, x29)]) fun x30 H31 =>
 DoB (abuild [.str [], .lst .nil 0 []] [(0, 1, (.str [113]))]) fun x32 =>
 DoHB (tbslice H31 false 2 1 [.str [], .lst .nil 0 []] [(0, 2, x32)]) fun x33 H34 =>
 DoB (abuild [.str [], .lst .nil 0 []] [(0, 1, (.str [115])), (1, 1, x33)]) fun x35 =>
Φ K.rabbetlaw13_num [(.int .u64 7)] H34 fun x36 H37 =>
 and (sameV (aload H37.ah 6 true x23) x27) (
 DoHB (tbslice H37 false 8 1 [.int .i64 0, .int .u64 0, .str [], .int .i64 0, .int .i64 0, .str [], .lst .nil 0 [], .lst .nil 0 []] [(0, 8, x36)]) fun x38 H39 =>
 DoB (abuild [.int .i64 0, .int .i64 0, .str [], .str [], .int .i64 0, .str [], .lst .nil 0 [], .lst .nil 0 [], .lst .nil 0 [], .lst .nil 0 []] [(0, 1, (.int .i64 3)), (5, 2, x35), (7, 1, x38)]) fun x40 =>
 DoHB (tbslice H39 false 10 1 [.int .i64 0, .int .i64 0, .str [], .str [], .int .i64 0, .str [], .lst .nil 0 [], .lst .nil 0 [], .lst .nil 0 [], .lst .nil 0 []] [(0, 10, x40)]) fun x41 H42 =>
 DoHB (tbslice H42 false 1 1 [.lst .nil 0 []] [(0, 1, x41)]) fun x43 H44 =>
 DoB (abuild [.lst .nil 0 [], .lst .nil 0 []] [(0, 1, x30), (1, 1, x43)]) fun x45 =>
 DoHB (some (tbox H44 true [.lst .nil 0 [], .lst .nil 0 []])) fun x46 H47 =>
 and (sameV (aload H47.ah 6 true x23) x27) (
 DoB (tstore H47 2 x46 x45) fun H49 =>
 DoB (aload H49.ah 2 true x46) fun x50 =>
Φ K.lower_Thread [x50, (.int .i64 0)] H49 fun x52 H53 =>
 DoB (aextract 0 x52) fun x54 =>
 DoB (aextract 1 x52) fun x55 =>
 DoB (aextract 2 x52) fun x56 =>
 DoHB (some (tbox H53 true [.int .i64 0, .int .i64 0])) fun x57 H58 =>
 DoB (tstore H58 2 x57 x56) fun H60 =>
 LoopB (rabbetlaw13_LowerSingle_l12 Φ n x3 x6 x54 x57 Q) n ([(.int .i64 0), (.int .i64 0), (.int .i64 0)], H60)))
theorem eq_rabbetlaw13_LowerSingle (Φ : CallsB) (n : Nat) (a0 a1 : AV) (H : TH) (Q : PostB) : fnB1 Φ n S.ir_rabbetlaw13_LowerSingle [a0, a1] H Q = rabbetlaw13_LowerSingle Φ n a0 a1 H Q := by kernel_rfl

def rabbetlaw13_num (Φ : CallsB) (n : Nat) (a0 : AV) (H : TH) (Q : PostB) : Bool :=
 DoHB (some (tbox H true [.int .i64 0, .int .u64 0, .str [], .int .i64 0, .int .i64 0, .str [], .lst .nil 0 [], .lst .nil 0 []])) fun x1 H2 =>
 DoB (abuild [.int .i64 0, .int .u64 0, .str [], .int .i64 0, .int .i64 0, .str [], .lst .nil 0 [], .lst .nil 0 []] [(0, 1, (.int .i64 1)), (1, 1, a0)]) fun x3 =>
 DoB (tstore H2 8 x1 x3) fun H5 =>
 DoB (aload H5.ah 8 true x1) fun x6 =>
 Q x6 H5
theorem eq_rabbetlaw13_num (Φ : CallsB) (n : Nat) (a0 : AV) (H : TH) (Q : PostB) : fnB1 Φ n S.ir_rabbetlaw13_num [a0] H Q = rabbetlaw13_num Φ n a0 H Q := by kernel_rfl

def rabbetlaw13_awake_k1 (Φ : CallsB) (n : Nat) (x34 : AV) (Q : PostB) : List AV → TH → Bool := fun j75 H76 =>
 Gd3B (sl j75 0) true (
 DoB (aiaddr none 5 x34 (.int .i64 1)) fun x82 =>
 DoB (afaddr 2 x82) fun x83 =>
 DoB (aload H76.ah 1 false x83) fun x84 =>
 DoB (abin .eql x84 (.int .i64 4)) fun x86 =>
 Q x86 H76) (
 Q (.bool false) H76) (
 false)
def rabbetlaw13_awake_k2 (Φ : CallsB) (n : Nat) (x34 : AV) (Q : PostB) : List AV → TH → Bool := fun j68 H69 =>
 Gd3B (sl j68 0) true (
 DoB (aiaddr none 5 x34 (.int .i64 1)) fun x77 =>
 DoB (afaddr 0 x77) fun x78 =>
 DoB (aload H69.ah 1 false x78) fun x79 =>
 DoB (abin .eql x79 (.int .i64 3)) fun x81 =>
 JoinB (rabbetlaw13_awake_k1 Φ n x34 Q) [x81] H69) (
 JoinB (rabbetlaw13_awake_k1 Φ n x34 Q) [(.bool false)] H69) (
 false)
def rabbetlaw13_awake_k3 (Φ : CallsB) (n : Nat) (x34 : AV) (Q : PostB) : List AV → TH → Bool := fun j64 H65 =>
 Gd3B (sl j64 0) true (
 DoB (aiaddr none 5 x34 (.int .i64 0)) fun x70 =>
 DoB (afaddr 0 x70) fun x71 =>
 DoB (aload H65.ah 1 false x71) fun x72 =>
 DoB (abin .eql x72 (.int .i64 16)) fun x74 =>
 JoinB (rabbetlaw13_awake_k2 Φ n x34 Q) [x74] H65) (
 JoinB (rabbetlaw13_awake_k2 Φ n x34 Q) [(.bool false)] H65) (
 false)
def rabbetlaw13_awake_k4 (Φ : CallsB) (n : Nat) (x34 : AV) (Q : PostB) : List AV → TH → Bool := fun j60 H61 =>
 Gd3B (sl j60 0) true (
 DoB (alen false x34) fun x66 =>
 DoB (abin .eql x66 (.int .i64 2)) fun x67 =>
 JoinB (rabbetlaw13_awake_k3 Φ n x34 Q) [x67] H61) (
 JoinB (rabbetlaw13_awake_k3 Φ n x34 Q) [(.bool false)] H61) (
 false)
def rabbetlaw13_awake_k5 (Φ : CallsB) (n : Nat) (x25 : AV) (x34 : AV) (Q : PostB) : List AV → TH → Bool := fun j57 H58 =>
 Gd3B (sl j57 0) true (
 DoB (alen false x25) fun x62 =>
 DoB (abin .gtr x62 (.int .i64 1)) fun x63 =>
 JoinB (rabbetlaw13_awake_k4 Φ n x34 Q) [x63] H58) (
 JoinB (rabbetlaw13_awake_k4 Φ n x34 Q) [(.bool false)] H58) (
 false)
def rabbetlaw13_awake_k6 (Φ : CallsB) (n : Nat) (x25 : AV) (x26 : AV) (x34 : AV) (Q : PostB) : List AV → TH → Bool := fun j47 H48 =>
 Gd3B (sl j47 0) true (
 DoB (abin .gtr x26 (.int .i64 0)) fun x59 =>
 JoinB (rabbetlaw13_awake_k5 Φ n x25 x34 Q) [x59] H48) (
 JoinB (rabbetlaw13_awake_k5 Φ n x25 x34 Q) [(.bool false)] H48) (
 false)
def rabbetlaw13_awake (Φ : CallsB) (n : Nat) (H : TH) (Q : PostB) : Bool :=
Φ K.rabbetlaw13_x [(.str [98])] H fun x1 H2 =>
Φ K.rabbetlaw13_x [(.str [97])] H2 fun x3 H4 =>
Φ K.rabbetlaw13_num [(.int .u64 1)] H4 fun x5 H6 =>
 DoHB (tbslice H6 false 8 1 [.int .i64 0, .int .u64 0, .str [], .int .i64 0, .int .i64 0, .str [], .lst .nil 0 [], .lst .nil 0 []] [(0, 8, x5)]) fun x7 H8 =>
 DoB (abuild [.int .i64 0, .int .u64 0, .str [], .int .i64 0, .int .i64 0, .str [], .lst .nil 0 [], .lst .nil 0 []] [(0, 1, (.int .i64 6)), (4, 1, (.int .i64 1)), (5, 2, x3), (7, 1, x7)]) fun x9 =>
 DoHB (tbslice H8 false 8 1 [.int .i64 0, .int .u64 0, .str [], .int .i64 0, .int .i64 0, .str [], .lst .nil 0 [], .lst .nil 0 []] [(0, 8, x9)]) fun x10 H11 =>
 DoB (abuild [.int .i64 0, .int .i64 0, .str [], .str [], .int .i64 0, .str [], .lst .nil 0 [], .lst .nil 0 [], .lst .nil 0 [], .lst .nil 0 []] [(0, 1, (.int .i64 3)), (1, 1, (.int .i64 4)), (5, 2, x1), (7, 1, x10)]) fun x12 =>
 DoHB (tbslice H11 false 10 1 [.int .i64 0, .int .i64 0, .str [], .str [], .int .i64 0, .str [], .lst .nil 0 [], .lst .nil 0 [], .lst .nil 0 [], .lst .nil 0 []] [(0, 10, x12)]) fun x13 H14 =>
Φ K.rabbetlaw13_tiny [x13] H14 fun x15 H16 =>
 DoHB (some (tbox H16 true [.lst .nil 0 [], .lst .nil 0 []])) fun x17 H18 =>
 DoB (tstore H18 2 x17 x15) fun H20 =>
 DoB (aload H20.ah 2 true x17) fun x21 =>
Φ K.lower_Thread [x21, (.int .i64 0)] H20 fun x23 H24 =>
 DoB (aextract 0 x23) fun x25 =>
 DoB (aextract 1 x23) fun x26 =>
 DoB (aextract 2 x23) fun x27 =>
 DoHB (some (tbox H24 true [.int .i64 0, .int .i64 0])) fun x28 H29 =>
 DoB (tstore H29 2 x28 x27) fun H31 =>
 DoB (aload H31.ah 2 true x17) fun x32 =>
Φ K.lower_Accesses [x32, (.int .i64 0)] H31 fun x34 H35 =>
 DoB (aload H35.ah 2 true x17) fun x36 =>
Φ K.lower_Thread [x36, (.int .i64 1)] H35 fun x38 H39 =>
 DoB (aextract 0 x38) fun x40 =>
 DoB (aextract 1 x38) fun x41 =>
 DoB (aextract 2 x38) fun x42 =>
 DoHB (some (tbox H39 true [.int .i64 0, .int .i64 0])) fun x43 H44 =>
 DoB (tstore H44 2 x43 x42) fun H46 =>
 DoB (afaddr 1 x28) fun x49 =>
 DoB (aload H46.ah 1 false x49) fun x50 =>
 DoB (abin .eql x50 (.int .i64 0)) fun x52 =>
 Gd3B x52 true (
 DoB (afaddr 1 x43) fun x53 =>
 DoB (aload H46.ah 1 false x53) fun x54 =>
 DoB (abin .eql x54 (.int .i64 1)) fun x56 =>
 JoinB (rabbetlaw13_awake_k6 Φ n x25 x26 x34 Q) [x56] H46) (
 JoinB (rabbetlaw13_awake_k6 Φ n x25 x26 x34 Q) [(.bool false)] H46) (
 false)
theorem eq_rabbetlaw13_awake (Φ : CallsB) (n : Nat) (H : TH) (Q : PostB) : fnB1 Φ n S.ir_rabbetlaw13_awake [] H Q = rabbetlaw13_awake Φ n H Q := by kernel_rfl

def rabbetlaw13_tiny (Φ : CallsB) (n : Nat) (a0 : AV) (H : TH) (Q : PostB) : Bool :=
 DoHB (some (tbox H true [.lst .nil 0 [], .lst .nil 0 []])) fun x1 H2 =>
 DoB (abuild [.int .i64 0, .int .i64 0, .bool false, .lst .nil 0 [], .int .i64 0, .lst .nil 0 []] [(0, 1, (.int .i64 2)), (1, 1, (.int .i64 4))]) fun x3 =>
 DoB (abuild [.str [], .int .i64 0, .int .i64 0, .bool false, .lst .nil 0 [], .int .i64 0, .lst .nil 0 []] [(0, 1, (.str [97])), (1, 6, x3)]) fun x4 =>
 DoB (abuild [.int .i64 0, .int .i64 0, .bool false, .lst .nil 0 [], .int .i64 0, .lst .nil 0 []] [(0, 1, (.int .i64 1)), (1, 1, (.int .i64 4))]) fun x5 =>
 DoB (abuild [.str [], .int .i64 0, .int .i64 0, .bool false, .lst .nil 0 [], .int .i64 0, .lst .nil 0 []] [(0, 1, (.str [98])), (1, 6, x5)]) fun x6 =>
 DoHB (tbslice H2 false 7 2 [.str [], .int .i64 0, .int .i64 0, .bool false, .lst .nil 0 [], .int .i64 0, .lst .nil 0 []] [(0, 7, x4), (7, 7, x6)]) fun x7 H8 =>
 DoHB (tbslice H8 false 1 1 [.lst .nil 0 []] [(0, 1, a0)]) fun x9 H10 =>
 DoB (abuild [.lst .nil 0 [], .lst .nil 0 []] [(0, 1, x7), (1, 1, x9)]) fun x11 =>
 DoB (tstore H10 2 x1 x11) fun H13 =>
 DoB (aload H13.ah 2 true x1) fun x14 =>
 Q x14 H13
theorem eq_rabbetlaw13_tiny (Φ : CallsB) (n : Nat) (a0 : AV) (H : TH) (Q : PostB) : fnB1 Φ n S.ir_rabbetlaw13_tiny [a0] H Q = rabbetlaw13_tiny Φ n a0 H Q := by kernel_rfl

def rabbetlaw13_x (Φ : CallsB) (n : Nat) (a0 : AV) (H : TH) (Q : PostB) : Bool :=
 DoHB (some (tbox H true [.str [], .lst .nil 0 []])) fun x1 H2 =>
 DoB (abuild [.str [], .lst .nil 0 []] [(0, 1, a0)]) fun x3 =>
 DoB (tstore H2 2 x1 x3) fun H5 =>
 DoB (aload H5.ah 2 true x1) fun x6 =>
 Q x6 H5
theorem eq_rabbetlaw13_x (Φ : CallsB) (n : Nat) (a0 : AV) (H : TH) (Q : PostB) : fnB1 Φ n S.ir_rabbetlaw13_x [a0] H Q = rabbetlaw13_x Φ n a0 H Q := by kernel_rfl

end Rb.R
