/- A part of the proof (part 3): see the last text. -/
import Derived.Test.YtcececgpjnpeoaaRb2
import Derived.KernelRfl
/- Package a64: its functions in the small language, and what they mean. By gen.py. -/
set_option linter.unusedVariables false
namespace Rb.S
open Go

/-! rabbet/a64.Encode -/
def a64_Encode_k1 (Φ : Calls') (s25 : List AV × AH) (L26 : (List AV × AH) → Prop) (Q : Post) : List AV → AH → Prop := fun j28 H29 =>
 Do (abin .add (sl s25.1 1) (.int .i64 1)) fun x33 =>
 L26 ([(sl j28 0), x33], H29)
def a64_Encode_k2 (Φ : Calls') (x1 : AV) (x16 : AV) (Q : Post) : List AV → AH → Prop := fun j19 H20 =>
 Do (aload H20 7 true x16) fun x59 =>
 Do (afaddr 0 x1) fun x60 =>
 Do (aload H20 1 false x60) fun x61 =>
 Do (abuild [.int .i64 0, .int .i64 0, .int .i64 0, .int .i64 0, .int .i64 0, .int .i64 0, .int .i64 0] [(0, 1, x61)]) fun x62 =>
 Do (aeqAgg true [.n, .n, .n, .n, .n, .n, .n] x59 x62) fun x63 =>
 Gd x63 true (
 Q (.tup [(.int .u32 0), (.int .i64 2)]) H20) (
 Q (.tup [(sl j19 0), (.int .i64 0)]) H20)
def a64_Encode_l3 (Φ : Calls') (x1 : AV) (x16 : AV) (x23 : AV) (x24 : AV) (Q : Post) : (List AV × AH) → ((List AV × AH) → Prop) → Prop := fun s25 L26 =>
 Do (abin .lss (sl s25.1 1) x24) fun x27 =>
 Gd x27 true (
 Do (aiaddr none 1 x23 (sl s25.1 1)) fun x30 =>
 Do (aload s25.2 1 false x30) fun x31 =>
 Do (abin .eql x31 (.int .u8 122)) fun x32 =>
 Gd x32 true (
 JoinP (a64_Encode_k1 Φ s25 L26 Q) [(sl s25.1 0)] s25.2) (
Φ K.a64_place [x31] s25.2 fun x34 H35 =>
 DoH (some (abox H35 true [.int .i64 0, .int .i64 0, .bool false, .int .u32 0, .int .i64 0])) fun x36 H37 =>
 Do (astore H37 5 x36 x34) fun H38 =>
Φ K.a64_at [x16, x31] H38 fun x39 H40 =>
 Do (aload H40 5 true x36) fun x41 =>
 Do (anilck x39) fun x42 =>
 Do (aload H40 1 false x42) fun x43 =>
Φ K.a64_field_fits [x41, x43] H40 fun x44 H45 =>
 Do (aun .not x44) fun x46 =>
 Gd x46 true (
 Q (.tup [(.int .u32 0), (.int .i64 2)]) H45) (
 Do (aload H45 5 true x36) fun x47 =>
 Do (aload H45 5 true x36) fun x48 =>
 Do (anilck x39) fun x49 =>
 Do (aload H45 1 false x49) fun x50 =>
Φ K.a64_field_mask [x47] H45 fun x51 H52 =>
(aload H52 5 true x36 = some x48) ∧
(aload H52 1 false x49 = some x50) ∧
(Do (abin .andNot (sl s25.1 0) x51) fun x53 =>
Φ K.a64_field_put [x48, x31, x50] H52 fun x54 H55 =>
 Do (abin .or x53 x54) fun x56 =>
 Do (anilck x39) fun x57 =>
 Do (astore H55 1 x57 (.int .i64 0)) fun H58 =>
 JoinP (a64_Encode_k1 Φ s25 L26 Q) [x56] H58)))) (
 JoinP (a64_Encode_k2 Φ x1 x16 Q) [(sl s25.1 0)] s25.2)
def a64_Encode (Φ : Calls') (a0 : AV) (H : AH) (Q : Post) : Prop :=
 DoH (aboxv H false 7 a0) fun x1 H2 =>
 Do (afaddr 0 x1) fun x3 =>
 Do (aload H2 1 false x3) fun x4 =>
Φ K.a64_of [x4] H2 fun x5 H6 =>
 DoH (some (abox H6 true [.int .u32 0, .str []])) fun x7 H8 =>
 Do (astore H8 2 x7 x5) fun H9 =>
 Do (afaddr 1 x7) fun x10 =>
 Do (aload H9 1 false x10) fun x11 =>
 Do (abin .eql x11 (.str [])) fun x12 =>
 Gd x12 true (
 Q (.tup [(.int .u32 0), (.int .i64 2)]) H9) (
 Do (afaddr 0 x7) fun x13 =>
 Do (aload H9 1 false x13) fun x14 =>
 Do (aload H9 7 true x1) fun x15 =>
 DoH (some (abox H9 true [.int .i64 0, .int .i64 0, .int .i64 0, .int .i64 0, .int .i64 0, .int .i64 0, .int .i64 0])) fun x16 H17 =>
 Do (astore H17 7 x16 x15) fun H18 =>
 Do (afaddr 1 x7) fun x21 =>
 Do (aload H18 1 false x21) fun x22 =>
 Do (asbytes x22) fun x23 =>
 Do (alen false x23) fun x24 =>
 LoopP (a64_Encode_l3 Φ x1 x16 x23 x24 Q) ([x14, (.int .i64 0)], H18))
def ir_a64_Encode : AFunc := ⟨60, [.tmp 2, .tmp 3],
 .seq (.region [
   ⟨some 1, .box false 7 (.t 0), none⟩,
   ⟨some 2, .mv (.k (.int .u32 0)), none⟩,
   ⟨some 3, .mv (.k (.int .i64 0)), none⟩])
 (.seq (.region [
   ⟨some 11, .faddr 0 (.t 1), none⟩,
   ⟨some 12, .load 1 false (.t 11), none⟩,
   ⟨some 13, .call K.a64_of [(.t 12)], none⟩,
   ⟨some 4, .alloc true [.int .u32 0, .str []], none⟩,
   ⟨none, .store 2 (.t 4) (.t 13), none⟩])
 (.seq (.seq (.region [
   ⟨some 14, .faddr 1 (.t 4), none⟩,
   ⟨some 15, .load 1 false (.t 14), none⟩,
   ⟨some 16, .bin .eql (.t 15) (.k (.str [])), none⟩])
 (.cond (.t 16) (.seq (.region [
     ⟨some 2, .mv (.k (.int .u32 0)), none⟩,
     ⟨some 3, .mv (.k (.int .i64 2)), none⟩])
   (.ret))
   (.skip)))
 (.seq (.region [
   ⟨some 17, .faddr 0 (.t 4), none⟩,
   ⟨some 18, .load 1 false (.t 17), none⟩,
   ⟨some 5, .mv (.t 18), none⟩])
 (.seq (.region [
   ⟨some 19, .load 7 true (.t 1), none⟩,
   ⟨some 6, .alloc true [.int .i64 0, .int .i64 0, .int .i64 0, .int .i64 0, .int .i64 0, .int .i64 0, .int .i64 0], none⟩,
   ⟨none, .store 7 (.t 6) (.t 19), none⟩])
 (.join [5] [2, 3, 8, 9, 10, 20, 21, 22, 23, 24, 25, 26, 27, 28, 29, 30, 31, 32, 33, 34, 35, 36, 37, 38, 39, 40, 41, 42, 43, 44, 45, 46, 47, 48, 49, 50, 51, 52, 53] (.seq (.region [
   ⟨some 20, .faddr 1 (.t 4), none⟩,
   ⟨some 21, .load 1 false (.t 20), none⟩,
   ⟨some 22, .sbytes (.t 21), none⟩,
   ⟨some 23, .len false (.t 22), none⟩,
   ⟨some 24, .mv (.k (.int .i64 0)), none⟩])
 (.block 0 (.loop [5, 24] [2, 3, 8, 9, 10, 25, 26, 27, 28, 29, 30, 31, 32, 33, 34, 35, 36, 37, 38, 39, 40, 41, 42, 43, 44, 45, 46, 47, 48, 49, 50, 51, 52, 53] (.seq (.region [
   ⟨some 25, .bin .lss (.t 24) (.t 23), none⟩])
 (.seq (.cond (.t 25) (.skip)
   (.exit 0))
 (.join [5] [2, 3, 8, 9, 10, 26, 27, 28, 29, 30, 31, 32, 33, 34, 35, 36, 37, 38, 39, 40, 41, 42, 43, 44, 45, 46, 47, 48, 49, 50, 51, 52] (.block 1 (.seq (.region [
   ⟨some 26, .iaddr none 1 (.t 22) (.t 24), none⟩,
   ⟨some 27, .load 1 false (.t 26), none⟩,
   ⟨some 8, .mv (.t 27), none⟩])
 (.seq (.seq (.region [
   ⟨some 28, .mv (.t 8), none⟩,
   ⟨some 29, .bin .eql (.t 28) (.k (.int .u8 122)), none⟩])
 (.cond (.t 29) (.exit 1)
   (.skip)))
 (.seq (.region [
   ⟨some 30, .mv (.t 8), none⟩,
   ⟨some 31, .call K.a64_place [(.t 30)], none⟩,
   ⟨some 9, .alloc true [.int .i64 0, .int .i64 0, .bool false, .int .u32 0, .int .i64 0], none⟩,
   ⟨none, .store 5 (.t 9) (.t 31), none⟩])
 (.seq (.region [
   ⟨some 32, .mv (.t 8), none⟩,
   ⟨some 33, .call K.a64_at [(.t 6), (.t 32)], none⟩,
   ⟨some 10, .mv (.t 33), none⟩])
 (.seq (.seq (.draw [
   ⟨some 34, .load 5 true (.t 9), none⟩,
   ⟨some 35, .mv (.t 10), none⟩,
   ⟨some 36, .nilck (.t 35), none⟩,
   ⟨some 37, .load 1 false (.t 36), none⟩,
   ⟨some 38, .call K.a64_field_fits [(.t 34), (.t 37)], none⟩,
   ⟨some 39, .un .not (.t 38), none⟩]
 [[], [], [1], [1, 2], [0, 1, 2, 3], [0, 1, 2, 3, 4]] [([0, 1, 2, 3], 4, [])] [5])
 (.cond (.t 39) (.seq (.region [
     ⟨some 2, .mv (.k (.int .u32 0)), none⟩,
     ⟨some 3, .mv (.k (.int .i64 2)), none⟩])
   (.ret))
   (.skip)))
 (.seq (.draw [
   ⟨some 40, .mv (.t 5), none⟩,
   ⟨some 41, .load 5 true (.t 9), none⟩,
   ⟨some 42, .call K.a64_field_mask [(.t 41)], none⟩,
   ⟨some 43, .bin .andNot (.t 40) (.t 42), none⟩,
   ⟨some 44, .load 5 true (.t 9), none⟩,
   ⟨some 45, .mv (.t 8), none⟩,
   ⟨some 46, .mv (.t 10), none⟩,
   ⟨some 47, .nilck (.t 46), none⟩,
   ⟨some 48, .load 1 false (.t 47), none⟩,
   ⟨some 49, .call K.a64_field_put [(.t 44), (.t 45), (.t 48)], none⟩,
   ⟨some 50, .bin .or (.t 43) (.t 49), none⟩,
   ⟨some 5, .mv (.t 50), none⟩]
 [[], [], [1], [0, 1, 2], [], [], [], [6], [6, 7], [1, 2, 4, 5, 6, 7, 8], [0, 1, 2, 3, 4, 5, 6, 7, 8, 9], [0, 1, 2, 3, 4, 5, 6, 7, 8, 9, 10]] [([0, 1, 4, 5, 6, 7, 8], 2, [4, 8]), ([3], 9, [])] [10, 11])
 (.region [
   ⟨some 51, .mv (.t 10), none⟩,
   ⟨some 52, .nilck (.t 51), none⟩,
   ⟨none, .store 1 (.t 52) (.k (.int .i64 0)), none⟩]))))))))
 (.region [
   ⟨some 53, .bin .add (.t 24) (.k (.int .i64 1)), none⟩,
   ⟨some 24, .mv (.t 53), none⟩])))))))
 (.seq (.seq (.region [
   ⟨some 54, .load 7 true (.t 6), none⟩,
   ⟨some 55, .faddr 0 (.t 1), none⟩,
   ⟨some 56, .load 1 false (.t 55), none⟩,
   ⟨some 57, .build [.int .i64 0, .int .i64 0, .int .i64 0, .int .i64 0, .int .i64 0, .int .i64 0, .int .i64 0] [(0, 1, (.t 56))], none⟩,
   ⟨some 58, .eqagg true [.n, .n, .n, .n, .n, .n, .n] (.t 54) (.t 57), none⟩])
 (.cond (.t 58) (.seq (.region [
     ⟨some 2, .mv (.k (.int .u32 0)), none⟩,
     ⟨some 3, .mv (.k (.int .i64 2)), none⟩])
   (.ret))
   (.skip)))
 (.seq (.region [
   ⟨some 59, .mv (.t 5), none⟩,
   ⟨some 2, .mv (.t 59), none⟩,
   ⟨some 3, .mv (.k (.int .i64 0)), none⟩])
 (.ret))))))))⟩
theorem eq_a64_Encode (Φ : Calls') (a0 : AV) (H : AH) (Q : Post) : fnE1 Φ ir_a64_Encode [a0] H Q = a64_Encode Φ a0 H Q := by kernel_rfl

/-! rabbet/a64.of -/
def a64_of (Φ : Calls') (a0 : AV) (H : AH) (Q : Post) : Prop :=
 DoH (some (abox H true [.int .u32 0, .str []])) fun x1 H2 =>
 Do (abin .eql a0 (.int .i64 1)) fun x3 =>
 Gd x3 true (
 Do (abuild [.int .u32 0, .str []] [(0, 1, (.int .u32 3531603968)), (1, 1, (.str [100, 105, 113]))]) fun x4 =>
 Do (astore H2 2 x1 x4) fun H5 =>
 Do (aload H5 2 true x1) fun x6 =>
 Q x6 H5) (
 Do (abin .eql a0 (.int .i64 2)) fun x7 =>
 Gd x7 true (
 Do (abuild [.int .u32 0, .str []] [(0, 1, (.int .u32 4068474880)), (1, 1, (.str [100, 105, 113]))]) fun x8 =>
 Do (astore H2 2 x1 x8) fun H9 =>
 Do (aload H9 2 true x1) fun x10 =>
 Q x10 H9) (
 Do (abin .eql a0 (.int .i64 3)) fun x11 =>
 Gd x11 true (
 Do (abuild [.int .u32 0, .str []] [(0, 1, (.int .u32 2332033024)), (1, 1, (.str [100, 110, 109]))]) fun x12 =>
 Do (astore H2 2 x1 x12) fun H13 =>
 Do (aload H13 2 true x1) fun x14 =>
 Q x14 H13) (
 Do (abin .eql a0 (.int .i64 4)) fun x15 =>
 Gd x15 true (
 Do (abuild [.int .u32 0, .str []] [(0, 1, (.int .u32 3405774848)), (1, 1, (.str [100, 110, 109]))]) fun x16 =>
 Do (astore H2 2 x1 x16) fun H17 =>
 Do (aload H17 2 true x1) fun x18 =>
 Q x18 H17) (
 Do (abin .eql a0 (.int .i64 5)) fun x19 =>
 Gd x19 true (
 Do (abuild [.int .u32 0, .str []] [(0, 1, (.int .u32 3942645760)), (1, 1, (.str [100, 110, 109]))]) fun x20 =>
 Do (astore H2 2 x1 x20) fun H21 =>
 Do (aload H21 2 true x1) fun x22 =>
 Q x22 H21) (
 Do (abin .eql a0 (.int .i64 6)) fun x23 =>
 Gd x23 true (
 Do (abuild [.int .u32 0, .str []] [(0, 1, (.int .u32 2315255808)), (1, 1, (.str [100, 110, 109]))]) fun x24 =>
 Do (astore H2 2 x1 x24) fun H25 =>
 Do (aload H25 2 true x1) fun x26 =>
 Q x26 H25) (
 Do (abin .eql a0 (.int .i64 7)) fun x27 =>
 Gd x27 true (
 Do (abuild [.int .u32 0, .str []] [(0, 1, (.int .u32 2852126720)), (1, 1, (.str [100, 110, 109]))]) fun x28 =>
 Do (astore H2 2 x1 x28) fun H29 =>
 Do (aload H29 2 true x1) fun x30 =>
 Q x30 H29) (
 Do (abin .eql a0 (.int .i64 8)) fun x31 =>
 Gd x31 true (
 Do (abuild [.int .u32 0, .str []] [(0, 1, (.int .u32 3388997632)), (1, 1, (.str [100, 110, 109]))]) fun x32 =>
 Do (astore H2 2 x1 x32) fun H33 =>
 Do (aload H33 2 true x1) fun x34 =>
 Q x34 H33) (
 Do (abin .eql a0 (.int .i64 9)) fun x35 =>
 Gd x35 true (
 Do (abuild [.int .u32 0, .str []] [(0, 1, (.int .u32 2600500224)), (1, 1, (.str [100, 110, 109]))]) fun x36 =>
 Do (astore H2 2 x1 x36) fun H37 =>
 Do (aload H37 2 true x1) fun x38 =>
 Q x38 H37) (
 Do (abin .eql a0 (.int .i64 10)) fun x39 =>
 Gd x39 true (
 Do (abuild [.int .u32 0, .str []] [(0, 1, (.int .u32 2596282368)), (1, 1, (.str [100, 110, 109]))]) fun x40 =>
 Do (astore H2 2 x1 x40) fun H41 =>
 Do (aload H41 2 true x1) fun x42 =>
 Q x42 H41) (
 Do (abin .eql a0 (.int .i64 11)) fun x43 =>
 Gd x43 true (
 Do (abuild [.int .u32 0, .str []] [(0, 1, (.int .u32 2596283392)), (1, 1, (.str [100, 110, 109]))]) fun x44 =>
 Do (astore H2 2 x1 x44) fun H45 =>
 Do (aload H45 2 true x1) fun x46 =>
 Q x46 H45) (
 Do (abin .eql a0 (.int .i64 12)) fun x47 =>
 Gd x47 true (
 Do (abuild [.int .u32 0, .str []] [(0, 1, (.int .u32 2594113504)), (1, 1, (.str [100, 107]))]) fun x48 =>
 Do (astore H2 2 x1 x48) fun H49 =>
 Do (aload H49 2 true x1) fun x50 =>
 Q x50 H49) (
Φ K.a64_jump [a0] H2 fun x51 H52 =>
 Do (astore H52 2 x1 x51) fun H53 =>
 Do (aload H53 2 true x1) fun x54 =>
 Q x54 H53))))))))))))
def ir_a64_of : AFunc := ⟨42, [.cell 2 2 true],
 .seq (.region [
   ⟨some 2, .alloc true [.int .u32 0, .str []], none⟩])
 (.seq (.seq (.region [
   ⟨some 3, .mv (.t 0), none⟩])
 (.block 0 (.seq (.region [
   ⟨some 5, .bin .eql (.t 3) (.k (.int .i64 1)), none⟩,
   ⟨some 4, .mv (.t 5), none⟩])
 (.cond (.t 4) (.seq (.region [
     ⟨some 6, .build [.int .u32 0, .str []] [(0, 1, (.k (.int .u32 3531603968))), (1, 1, (.k (.str [100, 105, 113])))], none⟩,
     ⟨none, .store 2 (.t 2) (.t 6), none⟩])
   (.ret))
   (.seq (.region [
     ⟨some 8, .bin .eql (.t 3) (.k (.int .i64 2)), none⟩,
     ⟨some 7, .mv (.t 8), none⟩])
   (.cond (.t 7) (.seq (.region [
       ⟨some 9, .build [.int .u32 0, .str []] [(0, 1, (.k (.int .u32 4068474880))), (1, 1, (.k (.str [100, 105, 113])))], none⟩,
       ⟨none, .store 2 (.t 2) (.t 9), none⟩])
     (.ret))
     (.seq (.region [
       ⟨some 11, .bin .eql (.t 3) (.k (.int .i64 3)), none⟩,
       ⟨some 10, .mv (.t 11), none⟩])
     (.cond (.t 10) (.seq (.region [
         ⟨some 12, .build [.int .u32 0, .str []] [(0, 1, (.k (.int .u32 2332033024))), (1, 1, (.k (.str [100, 110, 109])))], none⟩,
         ⟨none, .store 2 (.t 2) (.t 12), none⟩])
       (.ret))
       (.seq (.region [
         ⟨some 14, .bin .eql (.t 3) (.k (.int .i64 4)), none⟩,
         ⟨some 13, .mv (.t 14), none⟩])
       (.cond (.t 13) (.seq (.region [
           ⟨some 15, .build [.int .u32 0, .str []] [(0, 1, (.k (.int .u32 3405774848))), (1, 1, (.k (.str [100, 110, 109])))], none⟩,
           ⟨none, .store 2 (.t 2) (.t 15), none⟩])
         (.ret))
         (.seq (.region [
           ⟨some 17, .bin .eql (.t 3) (.k (.int .i64 5)), none⟩,
           ⟨some 16, .mv (.t 17), none⟩])
         (.cond (.t 16) (.seq (.region [
             ⟨some 18, .build [.int .u32 0, .str []] [(0, 1, (.k (.int .u32 3942645760))), (1, 1, (.k (.str [100, 110, 109])))], none⟩,
             ⟨none, .store 2 (.t 2) (.t 18), none⟩])
           (.ret))
           (.seq (.region [
             ⟨some 20, .bin .eql (.t 3) (.k (.int .i64 6)), none⟩,
             ⟨some 19, .mv (.t 20), none⟩])
           (.cond (.t 19) (.seq (.region [
               ⟨some 21, .build [.int .u32 0, .str []] [(0, 1, (.k (.int .u32 2315255808))), (1, 1, (.k (.str [100, 110, 109])))], none⟩,
               ⟨none, .store 2 (.t 2) (.t 21), none⟩])
             (.ret))
             (.seq (.region [
               ⟨some 23, .bin .eql (.t 3) (.k (.int .i64 7)), none⟩,
               ⟨some 22, .mv (.t 23), none⟩])
             (.cond (.t 22) (.seq (.region [
                 ⟨some 24, .build [.int .u32 0, .str []] [(0, 1, (.k (.int .u32 2852126720))), (1, 1, (.k (.str [100, 110, 109])))], none⟩,
                 ⟨none, .store 2 (.t 2) (.t 24), none⟩])
               (.ret))
               (.seq (.region [
                 ⟨some 26, .bin .eql (.t 3) (.k (.int .i64 8)), none⟩,
                 ⟨some 25, .mv (.t 26), none⟩])
               (.cond (.t 25) (.seq (.region [
                   ⟨some 27, .build [.int .u32 0, .str []] [(0, 1, (.k (.int .u32 3388997632))), (1, 1, (.k (.str [100, 110, 109])))], none⟩,
                   ⟨none, .store 2 (.t 2) (.t 27), none⟩])
                 (.ret))
                 (.seq (.region [
                   ⟨some 29, .bin .eql (.t 3) (.k (.int .i64 9)), none⟩,
                   ⟨some 28, .mv (.t 29), none⟩])
                 (.cond (.t 28) (.seq (.region [
                     ⟨some 30, .build [.int .u32 0, .str []] [(0, 1, (.k (.int .u32 2600500224))), (1, 1, (.k (.str [100, 110, 109])))], none⟩,
                     ⟨none, .store 2 (.t 2) (.t 30), none⟩])
                   (.ret))
                   (.seq (.region [
                     ⟨some 32, .bin .eql (.t 3) (.k (.int .i64 10)), none⟩,
                     ⟨some 31, .mv (.t 32), none⟩])
                   (.cond (.t 31) (.seq (.region [
                       ⟨some 33, .build [.int .u32 0, .str []] [(0, 1, (.k (.int .u32 2596282368))), (1, 1, (.k (.str [100, 110, 109])))], none⟩,
                       ⟨none, .store 2 (.t 2) (.t 33), none⟩])
                     (.ret))
                     (.seq (.region [
                       ⟨some 35, .bin .eql (.t 3) (.k (.int .i64 11)), none⟩,
                       ⟨some 34, .mv (.t 35), none⟩])
                     (.cond (.t 34) (.seq (.region [
                         ⟨some 36, .build [.int .u32 0, .str []] [(0, 1, (.k (.int .u32 2596283392))), (1, 1, (.k (.str [100, 110, 109])))], none⟩,
                         ⟨none, .store 2 (.t 2) (.t 36), none⟩])
                       (.ret))
                       (.seq (.region [
                         ⟨some 38, .bin .eql (.t 3) (.k (.int .i64 12)), none⟩,
                         ⟨some 37, .mv (.t 38), none⟩])
                       (.cond (.t 37) (.seq (.region [
                           ⟨some 39, .build [.int .u32 0, .str []] [(0, 1, (.k (.int .u32 2594113504))), (1, 1, (.k (.str [100, 107])))], none⟩,
                           ⟨none, .store 2 (.t 2) (.t 39), none⟩])
                         (.ret))
                         (.skip)))))))))))))))))))))))))))
 (.seq (.region [
   ⟨some 40, .mv (.t 0), none⟩,
   ⟨some 41, .call K.a64_jump [(.t 40)], none⟩,
   ⟨none, .store 2 (.t 2) (.t 41), none⟩])
 (.ret)))⟩
theorem eq_a64_of (Φ : Calls') (a0 : AV) (H : AH) (Q : Post) : fnE1 Φ ir_a64_of [a0] H Q = a64_of Φ a0 H Q := by kernel_rfl

/-! rabbet/a64.place -/
def a64_place (Φ : Calls') (a0 : AV) (H : AH) (Q : Post) : Prop :=
 DoH (some (abox H true [.int .i64 0, .int .i64 0, .bool false, .int .u32 0, .int .i64 0])) fun x1 H2 =>
 Do (abin .eql a0 (.int .u8 100)) fun x3 =>
 Gd x3 true (
 Do (abuild [.int .i64 0, .int .i64 0, .bool false, .int .u32 0, .int .i64 0] [(0, 1, (.int .i64 0)), (1, 1, (.int .i64 5)), (4, 1, (.int .i64 31))]) fun x4 =>
 Do (astore H2 5 x1 x4) fun H5 =>
 Do (aload H5 5 true x1) fun x6 =>
 Q x6 H5) (
 Do (abin .eql a0 (.int .u8 110)) fun x7 =>
 Gd x7 true (
 Do (abuild [.int .i64 0, .int .i64 0, .bool false, .int .u32 0, .int .i64 0] [(0, 1, (.int .i64 5)), (1, 1, (.int .i64 5)), (4, 1, (.int .i64 31))]) fun x8 =>
 Do (astore H2 5 x1 x8) fun H9 =>
 Do (aload H9 5 true x1) fun x10 =>
 Q x10 H9) (
 Do (abin .eql a0 (.int .u8 97)) fun x11 =>
 Gd x11 true (
 Do (abuild [.int .i64 0, .int .i64 0, .bool false, .int .u32 0, .int .i64 0] [(0, 1, (.int .i64 5)), (1, 1, (.int .i64 5)), (4, 1, (.int .i64 30))]) fun x12 =>
 Do (astore H2 5 x1 x12) fun H13 =>
 Do (aload H13 5 true x1) fun x14 =>
 Q x14 H13) (
 Do (abin .eql a0 (.int .u8 109)) fun x15 =>
 Gd x15 true (
 Do (abuild [.int .i64 0, .int .i64 0, .bool false, .int .u32 0, .int .i64 0] [(0, 1, (.int .i64 16)), (1, 1, (.int .i64 5)), (4, 1, (.int .i64 31))]) fun x16 =>
 Do (astore H2 5 x1 x16) fun H17 =>
 Do (aload H17 5 true x1) fun x18 =>
 Q x18 H17) (
 Do (abin .eql a0 (.int .u8 101)) fun x19 =>
 Gd x19 true (
 Do (abuild [.int .i64 0, .int .i64 0, .bool false, .int .u32 0, .int .i64 0] [(0, 1, (.int .i64 10)), (1, 1, (.int .i64 5)), (4, 1, (.int .i64 31))]) fun x20 =>
 Do (astore H2 5 x1 x20) fun H21 =>
 Do (aload H21 5 true x1) fun x22 =>
 Q x22 H21) (
 Do (abin .eql a0 (.int .u8 113)) fun x23 =>
 Gd x23 true (
 Do (abuild [.int .i64 0, .int .i64 0, .bool false, .int .u32 0, .int .i64 0] [(0, 1, (.int .i64 21)), (1, 1, (.int .i64 2)), (4, 1, (.int .i64 3))]) fun x24 =>
 Do (astore H2 5 x1 x24) fun H25 =>
 Do (aload H25 5 true x1) fun x26 =>
 Q x26 H25) (
 Do (abin .eql a0 (.int .u8 99)) fun x27 =>
 Gd x27 true (
 Do (abuild [.int .i64 0, .int .i64 0, .bool false, .int .u32 0, .int .i64 0] [(0, 1, (.int .i64 0)), (1, 1, (.int .i64 2)), (4, 1, (.int .i64 3))]) fun x28 =>
 Do (astore H2 5 x1 x28) fun H29 =>
 Do (aload H29 5 true x1) fun x30 =>
 Q x30 H29) (
 Do (abin .eql a0 (.int .u8 107)) fun x31 =>
 Gd x31 true (
 Do (abuild [.int .i64 0, .int .i64 0, .bool false, .int .u32 0, .int .i64 0] [(0, 1, (.int .i64 12)), (1, 1, (.int .i64 2)), (4, 1, (.int .i64 3)), (3, 1, (.int .u32 1))]) fun x32 =>
 Do (astore H2 5 x1 x32) fun H33 =>
 Do (aload H33 5 true x1) fun x34 =>
 Q x34 H33) (
 Do (abin .eql a0 (.int .u8 115)) fun x35 =>
 Gd x35 true (
 Do (abuild [.int .i64 0, .int .i64 0, .bool false, .int .u32 0, .int .i64 0] [(0, 1, (.int .i64 30)), (1, 1, (.int .i64 2)), (4, 1, (.int .i64 3))]) fun x36 =>
 Do (astore H2 5 x1 x36) fun H37 =>
 Do (aload H37 5 true x1) fun x38 =>
 Q x38 H37) (
 Do (abin .eql a0 (.int .u8 105)) fun x39 =>
 Gd x39 true (
 Do (abuild [.int .i64 0, .int .i64 0, .bool false, .int .u32 0, .int .i64 0] [(0, 1, (.int .i64 5)), (1, 1, (.int .i64 16)), (4, 1, (.int .i64 65535))]) fun x40 =>
 Do (astore H2 5 x1 x40) fun H41 =>
 Do (aload H41 5 true x1) fun x42 =>
 Q x42 H41) (
 Do (abin .eql a0 (.int .u8 111)) fun x43 =>
 Gd x43 true (
 Do (abuild [.int .i64 0, .int .i64 0, .bool false, .int .u32 0, .int .i64 0] [(0, 1, (.int .i64 10)), (1, 1, (.int .i64 12)), (4, 1, (.int .i64 4095))]) fun x44 =>
 Do (astore H2 5 x1 x44) fun H45 =>
 Do (aload H45 5 true x1) fun x46 =>
 Q x46 H45) (
 Do (abin .eql a0 (.int .u8 98)) fun x47 =>
 Gd x47 true (
 Do (abuild [.int .i64 0, .int .i64 0, .bool false, .int .u32 0, .int .i64 0] [(0, 1, (.int .i64 0)), (1, 1, (.int .i64 26)), (2, 1, (.bool true))]) fun x48 =>
 Do (astore H2 5 x1 x48) fun H49 =>
 Do (aload H49 5 true x1) fun x50 =>
 Q x50 H49) (
 Do (abin .eql a0 (.int .u8 120)) fun x51 =>
 Gd x51 true (
 Do (abuild [.int .i64 0, .int .i64 0, .bool false, .int .u32 0, .int .i64 0] [(0, 1, (.int .i64 5)), (1, 1, (.int .i64 19)), (2, 1, (.bool true))]) fun x52 =>
 Do (astore H2 5 x1 x52) fun H53 =>
 Do (aload H53 5 true x1) fun x54 =>
 Q x54 H53) (
 Do (abin .eql a0 (.int .u8 102)) fun x55 =>
 Gd x55 true (
 Do (abuild [.int .i64 0, .int .i64 0, .bool false, .int .u32 0, .int .i64 0] [(0, 1, (.int .i64 8)), (1, 1, (.int .i64 4)), (4, 1, (.int .i64 2))]) fun x56 =>
 Do (astore H2 5 x1 x56) fun H57 =>
 Do (aload H57 5 true x1) fun x58 =>
 Q x58 H57) (
 Do (abuild [.int .i64 0, .int .i64 0, .bool false, .int .u32 0, .int .i64 0] []) fun x59 =>
 Do (astore H2 5 x1 x59) fun H60 =>
 Do (aload H60 5 true x1) fun x61 =>
 Q x61 H60))))))))))))))
def ir_a64_place : AFunc := ⟨47, [.cell 2 5 true],
 .seq (.region [
   ⟨some 2, .alloc true [.int .i64 0, .int .i64 0, .bool false, .int .u32 0, .int .i64 0], none⟩])
 (.seq (.seq (.region [
   ⟨some 3, .mv (.t 0), none⟩])
 (.block 0 (.seq (.region [
   ⟨some 5, .bin .eql (.t 3) (.k (.int .u8 100)), none⟩,
   ⟨some 4, .mv (.t 5), none⟩])
 (.cond (.t 4) (.seq (.region [
     ⟨some 6, .build [.int .i64 0, .int .i64 0, .bool false, .int .u32 0, .int .i64 0] [(0, 1, (.k (.int .i64 0))), (1, 1, (.k (.int .i64 5))), (4, 1, (.k (.int .i64 31)))], none⟩,
     ⟨none, .store 5 (.t 2) (.t 6), none⟩])
   (.ret))
   (.seq (.region [
     ⟨some 8, .bin .eql (.t 3) (.k (.int .u8 110)), none⟩,
     ⟨some 7, .mv (.t 8), none⟩])
   (.cond (.t 7) (.seq (.region [
       ⟨some 9, .build [.int .i64 0, .int .i64 0, .bool false, .int .u32 0, .int .i64 0] [(0, 1, (.k (.int .i64 5))), (1, 1, (.k (.int .i64 5))), (4, 1, (.k (.int .i64 31)))], none⟩,
       ⟨none, .store 5 (.t 2) (.t 9), none⟩])
     (.ret))
     (.seq (.region [
       ⟨some 11, .bin .eql (.t 3) (.k (.int .u8 97)), none⟩,
       ⟨some 10, .mv (.t 11), none⟩])
     (.cond (.t 10) (.seq (.region [
         ⟨some 12, .build [.int .i64 0, .int .i64 0, .bool false, .int .u32 0, .int .i64 0] [(0, 1, (.k (.int .i64 5))), (1, 1, (.k (.int .i64 5))), (4, 1, (.k (.int .i64 30)))], none⟩,
         ⟨none, .store 5 (.t 2) (.t 12), none⟩])
       (.ret))
       (.seq (.region [
         ⟨some 14, .bin .eql (.t 3) (.k (.int .u8 109)), none⟩,
         ⟨some 13, .mv (.t 14), none⟩])
       (.cond (.t 13) (.seq (.region [
           ⟨some 15, .build [.int .i64 0, .int .i64 0, .bool false, .int .u32 0, .int .i64 0] [(0, 1, (.k (.int .i64 16))), (1, 1, (.k (.int .i64 5))), (4, 1, (.k (.int .i64 31)))], none⟩,
           ⟨none, .store 5 (.t 2) (.t 15), none⟩])
         (.ret))
         (.seq (.region [
           ⟨some 17, .bin .eql (.t 3) (.k (.int .u8 101)), none⟩,
           ⟨some 16, .mv (.t 17), none⟩])
         (.cond (.t 16) (.seq (.region [
             ⟨some 18, .build [.int .i64 0, .int .i64 0, .bool false, .int .u32 0, .int .i64 0] [(0, 1, (.k (.int .i64 10))), (1, 1, (.k (.int .i64 5))), (4, 1, (.k (.int .i64 31)))], none⟩,
             ⟨none, .store 5 (.t 2) (.t 18), none⟩])
           (.ret))
           (.seq (.region [
             ⟨some 20, .bin .eql (.t 3) (.k (.int .u8 113)), none⟩,
             ⟨some 19, .mv (.t 20), none⟩])
           (.cond (.t 19) (.seq (.region [
               ⟨some 21, .build [.int .i64 0, .int .i64 0, .bool false, .int .u32 0, .int .i64 0] [(0, 1, (.k (.int .i64 21))), (1, 1, (.k (.int .i64 2))), (4, 1, (.k (.int .i64 3)))], none⟩,
               ⟨none, .store 5 (.t 2) (.t 21), none⟩])
             (.ret))
             (.seq (.region [
               ⟨some 23, .bin .eql (.t 3) (.k (.int .u8 99)), none⟩,
               ⟨some 22, .mv (.t 23), none⟩])
             (.cond (.t 22) (.seq (.region [
                 ⟨some 24, .build [.int .i64 0, .int .i64 0, .bool false, .int .u32 0, .int .i64 0] [(0, 1, (.k (.int .i64 0))), (1, 1, (.k (.int .i64 2))), (4, 1, (.k (.int .i64 3)))], none⟩,
                 ⟨none, .store 5 (.t 2) (.t 24), none⟩])
               (.ret))
               (.seq (.region [
                 ⟨some 26, .bin .eql (.t 3) (.k (.int .u8 107)), none⟩,
                 ⟨some 25, .mv (.t 26), none⟩])
               (.cond (.t 25) (.seq (.region [
                   ⟨some 27, .build [.int .i64 0, .int .i64 0, .bool false, .int .u32 0, .int .i64 0] [(0, 1, (.k (.int .i64 12))), (1, 1, (.k (.int .i64 2))), (4, 1, (.k (.int .i64 3))), (3, 1, (.k (.int .u32 1)))], none⟩,
                   ⟨none, .store 5 (.t 2) (.t 27), none⟩])
                 (.ret))
                 (.seq (.region [
                   ⟨some 29, .bin .eql (.t 3) (.k (.int .u8 115)), none⟩,
                   ⟨some 28, .mv (.t 29), none⟩])
                 (.cond (.t 28) (.seq (.region [
                     ⟨some 30, .build [.int .i64 0, .int .i64 0, .bool false, .int .u32 0, .int .i64 0] [(0, 1, (.k (.int .i64 30))), (1, 1, (.k (.int .i64 2))), (4, 1, (.k (.int .i64 3)))], none⟩,
                     ⟨none, .store 5 (.t 2) (.t 30), none⟩])
                   (.ret))
                   (.seq (.region [
                     ⟨some 32, .bin .eql (.t 3) (.k (.int .u8 105)), none⟩,
                     ⟨some 31, .mv (.t 32), none⟩])
                   (.cond (.t 31) (.seq (.region [
                       ⟨some 33, .build [.int .i64 0, .int .i64 0, .bool false, .int .u32 0, .int .i64 0] [(0, 1, (.k (.int .i64 5))), (1, 1, (.k (.int .i64 16))), (4, 1, (.k (.int .i64 65535)))], none⟩,
                       ⟨none, .store 5 (.t 2) (.t 33), none⟩])
                     (.ret))
                     (.seq (.region [
                       ⟨some 35, .bin .eql (.t 3) (.k (.int .u8 111)), none⟩,
                       ⟨some 34, .mv (.t 35), none⟩])
                     (.cond (.t 34) (.seq (.region [
                         ⟨some 36, .build [.int .i64 0, .int .i64 0, .bool false, .int .u32 0, .int .i64 0] [(0, 1, (.k (.int .i64 10))), (1, 1, (.k (.int .i64 12))), (4, 1, (.k (.int .i64 4095)))], none⟩,
                         ⟨none, .store 5 (.t 2) (.t 36), none⟩])
                       (.ret))
                       (.seq (.region [
                         ⟨some 38, .bin .eql (.t 3) (.k (.int .u8 98)), none⟩,
                         ⟨some 37, .mv (.t 38), none⟩])
                       (.cond (.t 37) (.seq (.region [
                           ⟨some 39, .build [.int .i64 0, .int .i64 0, .bool false, .int .u32 0, .int .i64 0] [(0, 1, (.k (.int .i64 0))), (1, 1, (.k (.int .i64 26))), (2, 1, (.k (.bool true)))], none⟩,
                           ⟨none, .store 5 (.t 2) (.t 39), none⟩])
                         (.ret))
                         (.seq (.region [
                           ⟨some 41, .bin .eql (.t 3) (.k (.int .u8 120)), none⟩,
                           ⟨some 40, .mv (.t 41), none⟩])
                         (.cond (.t 40) (.seq (.region [
                             ⟨some 42, .build [.int .i64 0, .int .i64 0, .bool false, .int .u32 0, .int .i64 0] [(0, 1, (.k (.int .i64 5))), (1, 1, (.k (.int .i64 19))), (2, 1, (.k (.bool true)))], none⟩,
                             ⟨none, .store 5 (.t 2) (.t 42), none⟩])
                           (.ret))
                           (.seq (.region [
                             ⟨some 44, .bin .eql (.t 3) (.k (.int .u8 102)), none⟩,
                             ⟨some 43, .mv (.t 44), none⟩])
                           (.cond (.t 43) (.seq (.region [
                               ⟨some 45, .build [.int .i64 0, .int .i64 0, .bool false, .int .u32 0, .int .i64 0] [(0, 1, (.k (.int .i64 8))), (1, 1, (.k (.int .i64 4))), (4, 1, (.k (.int .i64 2)))], none⟩,
                               ⟨none, .store 5 (.t 2) (.t 45), none⟩])
                             (.ret))
                             (.skip)))))))))))))))))))))))))))))))
 (.seq (.region [
   ⟨some 46, .build [.int .i64 0, .int .i64 0, .bool false, .int .u32 0, .int .i64 0] [], none⟩,
   ⟨none, .store 5 (.t 2) (.t 46), none⟩])
 (.ret)))⟩
theorem eq_a64_place (Φ : Calls') (a0 : AV) (H : AH) (Q : Post) : fnE1 Φ ir_a64_place [a0] H Q = a64_place Φ a0 H Q := by kernel_rfl

/-! rabbet/a64.at -/
def a64_at_k1 (Φ : Calls') (a0 : AV) (Q : Post) : List AV → AH → Prop := fun j1 H2 =>
 Do (anilck a0) fun x22 =>
 Do (afaddr 6 x22) fun x23 =>
 Q x23 H2
def a64_at_k2 (Φ : Calls') (a0 : AV) (a1 : AV) (Q : Post) : List AV → AH → Prop := fun j14 H15 =>
 Gd (sl j14 0) true (
 Do (anilck a0) fun x17 =>
 Do (afaddr 4 x17) fun x18 =>
 Q x18 H15) (
 Do (abin .eql a1 (.int .u8 115)) fun x19 =>
 Gd x19 true (
 Do (anilck a0) fun x20 =>
 Do (afaddr 5 x20) fun x21 =>
 Q x21 H15) (
 JoinP (a64_at_k1 Φ a0 Q) [] H15))
def a64_at_k3 (Φ : Calls') (a0 : AV) (a1 : AV) (Q : Post) : List AV → AH → Prop := fun j6 H7 =>
 Gd (sl j6 0) true (
 Do (anilck a0) fun x9 =>
 Do (afaddr 2 x9) fun x10 =>
 Q x10 H7) (
 Do (abin .eql a1 (.int .u8 109)) fun x11 =>
 Gd x11 true (
 Do (anilck a0) fun x12 =>
 Do (afaddr 3 x12) fun x13 =>
 Q x13 H7) (
 Do (abin .eql a1 (.int .u8 101)) fun x16 =>
 Gd x16 true (
 JoinP (a64_at_k2 Φ a0 a1 Q) [x16] H7) (
 Do (abin .eql a1 (.int .u8 113)) fun x24 =>
 Gd x24 true (
 JoinP (a64_at_k2 Φ a0 a1 Q) [x24] H7) (
 Do (abin .eql a1 (.int .u8 99)) fun x25 =>
 Gd x25 true (
 JoinP (a64_at_k2 Φ a0 a1 Q) [x25] H7) (
 Do (abin .eql a1 (.int .u8 107)) fun x26 =>
 JoinP (a64_at_k2 Φ a0 a1 Q) [x26] H7)))))
def a64_at (Φ : Calls') (a0 : AV) (a1 : AV) (H : AH) (Q : Post) : Prop :=
 Do (abin .eql a1 (.int .u8 100)) fun x3 =>
 Gd x3 true (
 Do (anilck a0) fun x4 =>
 Do (afaddr 1 x4) fun x5 =>
 Q x5 H) (
 Do (abin .eql a1 (.int .u8 110)) fun x8 =>
 Gd x8 true (
 JoinP (a64_at_k3 Φ a0 a1 Q) [x8] H) (
 Do (abin .eql a1 (.int .u8 97)) fun x27 =>
 JoinP (a64_at_k3 Φ a0 a1 Q) [x27] H))
def ir_a64_at : AFunc := ⟨38, [.tmp 4],
 .seq (.region [
   ⟨some 4, .mv (.k (.nilp)), none⟩])
 (.join [] [4, 5, 6, 7, 8, 9, 10, 11, 12, 13, 14, 15, 16, 17, 18, 19, 20, 21, 22, 23, 24, 25, 26, 27, 28, 29, 30, 31, 32, 33, 34] (.seq (.region [
   ⟨some 5, .mv (.t 1), none⟩])
 (.block 0 (.seq (.region [
   ⟨some 7, .bin .eql (.t 5) (.k (.int .u8 100)), none⟩,
   ⟨some 6, .mv (.t 7), none⟩])
 (.cond (.t 6) (.seq (.region [
     ⟨some 8, .mv (.t 0), none⟩,
     ⟨some 9, .nilck (.t 8), none⟩,
     ⟨some 10, .faddr 1 (.t 9), none⟩,
     ⟨some 4, .mv (.t 10), none⟩])
   (.ret))
   (.join [11] [12, 13] (.seq (.region [
     ⟨some 12, .bin .eql (.t 5) (.k (.int .u8 110)), none⟩,
     ⟨some 11, .mv (.t 12), none⟩])
   (.cond (.t 11) (.skip)
     (.region [
       ⟨some 13, .bin .eql (.t 5) (.k (.int .u8 97)), none⟩,
       ⟨some 11, .mv (.t 13), none⟩])))
   (.cond (.t 11) (.seq (.region [
       ⟨some 14, .mv (.t 0), none⟩,
       ⟨some 15, .nilck (.t 14), none⟩,
       ⟨some 16, .faddr 2 (.t 15), none⟩,
       ⟨some 4, .mv (.t 16), none⟩])
     (.ret))
     (.seq (.region [
       ⟨some 18, .bin .eql (.t 5) (.k (.int .u8 109)), none⟩,
       ⟨some 17, .mv (.t 18), none⟩])
     (.cond (.t 17) (.seq (.region [
         ⟨some 19, .mv (.t 0), none⟩,
         ⟨some 20, .nilck (.t 19), none⟩,
         ⟨some 21, .faddr 3 (.t 20), none⟩,
         ⟨some 4, .mv (.t 21), none⟩])
       (.ret))
       (.join [22] [23, 24, 25, 26] (.seq (.region [
         ⟨some 23, .bin .eql (.t 5) (.k (.int .u8 101)), none⟩,
         ⟨some 22, .mv (.t 23), none⟩])
       (.cond (.t 22) (.skip)
         (.seq (.region [
           ⟨some 24, .bin .eql (.t 5) (.k (.int .u8 113)), none⟩,
           ⟨some 22, .mv (.t 24), none⟩])
         (.cond (.t 22) (.skip)
           (.seq (.region [
             ⟨some 25, .bin .eql (.t 5) (.k (.int .u8 99)), none⟩,
             ⟨some 22, .mv (.t 25), none⟩])
           (.cond (.t 22) (.skip)
             (.region [
               ⟨some 26, .bin .eql (.t 5) (.k (.int .u8 107)), none⟩,
               ⟨some 22, .mv (.t 26), none⟩])))))))
       (.cond (.t 22) (.seq (.region [
           ⟨some 27, .mv (.t 0), none⟩,
           ⟨some 28, .nilck (.t 27), none⟩,
           ⟨some 29, .faddr 4 (.t 28), none⟩,
           ⟨some 4, .mv (.t 29), none⟩])
         (.ret))
         (.seq (.region [
           ⟨some 31, .bin .eql (.t 5) (.k (.int .u8 115)), none⟩,
           ⟨some 30, .mv (.t 31), none⟩])
         (.cond (.t 30) (.seq (.region [
             ⟨some 32, .mv (.t 0), none⟩,
             ⟨some 33, .nilck (.t 32), none⟩,
             ⟨some 34, .faddr 5 (.t 33), none⟩,
             ⟨some 4, .mv (.t 34), none⟩])
           (.ret))
           (.skip)))))))))))))
 (.seq (.region [
   ⟨some 35, .mv (.t 0), none⟩,
   ⟨some 36, .nilck (.t 35), none⟩,
   ⟨some 37, .faddr 6 (.t 36), none⟩,
   ⟨some 4, .mv (.t 37), none⟩])
 (.ret)))⟩
theorem eq_a64_at (Φ : Calls') (a0 a1 : AV) (H : AH) (Q : Post) : fnE1 Φ ir_a64_at [a0, a1] H Q = a64_at Φ a0 a1 H Q := by kernel_rfl

/-! (rabbet/a64.field).fits -/
def a64_field_fits (Φ : Calls') (a0 : AV) (a1 : AV) (H : AH) (Q : Post) : Prop :=
 DoH (aboxv H false 5 a0) fun x1 H2 =>
 Do (afaddr 2 x1) fun x3 =>
 Do (aload H2 1 false x3) fun x4 =>
 Gd x4 true (
 Do (afaddr 1 x1) fun x5 =>
 Do (aload H2 1 false x5) fun x6 =>
 Do (abin .sub x6 (.int .i64 1)) fun x7 =>
 Do (abin .shl (.int .i64 1) x7) fun x8 =>
 Do (aun .neg x8) fun x9 =>
 Do (abin .geq a1 x9) fun x10 =>
 Gd3 x10 true (
 Do (afaddr 1 x1) fun x11 =>
 Do (aload H2 1 false x11) fun x12 =>
 Do (abin .sub x12 (.int .i64 1)) fun x13 =>
 Do (abin .shl (.int .i64 1) x13) fun x14 =>
 Do (abin .lss a1 x14) fun x15 =>
 Q x15 H2) (
 Q (.bool false) H2) (
 False)) (
 Do (abin .geq a1 (.int .i64 0)) fun x16 =>
 Gd3 x16 true (
 Do (afaddr 4 x1) fun x17 =>
 Do (aload H2 1 false x17) fun x18 =>
 Do (abin .leq a1 x18) fun x19 =>
 Q x19 H2) (
 Q (.bool false) H2) (
 False))
def ir_a64_field_fits : AFunc := ⟨30, [.tmp 4],
 .seq (.region [
   ⟨some 2, .box false 5 (.t 0), none⟩,
   ⟨some 4, .mv (.k (.bool false)), none⟩])
 (.seq (.seq (.region [
   ⟨some 5, .faddr 2 (.t 2), none⟩,
   ⟨some 6, .load 1 false (.t 5), none⟩])
 (.cond (.t 6) (.seq (.region [
     ⟨some 7, .mv (.t 1), none⟩,
     ⟨some 8, .faddr 1 (.t 2), none⟩,
     ⟨some 9, .load 1 false (.t 8), none⟩,
     ⟨some 10, .bin .sub (.t 9) (.k (.int .i64 1)), none⟩,
     ⟨some 11, .bin .shl (.k (.int .i64 1)) (.t 10), none⟩,
     ⟨some 12, .un .neg (.t 11), none⟩,
     ⟨some 13, .bin .geq (.t 7) (.t 12), none⟩,
     ⟨some 14, .mv (.t 13), none⟩,
     ⟨some 15, .mv (.t 1), some (14, true)⟩,
     ⟨some 16, .faddr 1 (.t 2), some (14, true)⟩,
     ⟨some 17, .load 1 false (.t 16), some (14, true)⟩,
     ⟨some 18, .bin .sub (.t 17) (.k (.int .i64 1)), some (14, true)⟩,
     ⟨some 19, .bin .shl (.k (.int .i64 1)) (.t 18), some (14, true)⟩,
     ⟨some 20, .bin .lss (.t 15) (.t 19), some (14, true)⟩,
     ⟨some 21, .pick (.t 14) (.t 20) (.k (.bool false)), none⟩,
     ⟨some 4, .mv (.t 21), none⟩])
   (.ret))
   (.skip)))
 (.seq (.region [
   ⟨some 22, .mv (.t 1), none⟩,
   ⟨some 23, .bin .geq (.t 22) (.k (.int .i64 0)), none⟩,
   ⟨some 24, .mv (.t 23), none⟩,
   ⟨some 25, .mv (.t 1), some (24, true)⟩,
   ⟨some 26, .faddr 4 (.t 2), some (24, true)⟩,
   ⟨some 27, .load 1 false (.t 26), some (24, true)⟩,
   ⟨some 28, .bin .leq (.t 25) (.t 27), some (24, true)⟩,
   ⟨some 29, .pick (.t 24) (.t 28) (.k (.bool false)), none⟩,
   ⟨some 4, .mv (.t 29), none⟩])
 (.ret)))⟩
theorem eq_a64_field_fits (Φ : Calls') (a0 a1 : AV) (H : AH) (Q : Post) : fnE1 Φ ir_a64_field_fits [a0, a1] H Q = a64_field_fits Φ a0 a1 H Q := by kernel_rfl

/-! (rabbet/a64.field).mask -/
def a64_field_mask (Φ : Calls') (a0 : AV) (H : AH) (Q : Post) : Prop :=
 DoH (aboxv H false 5 a0) fun x1 H2 =>
 Do (afaddr 1 x1) fun x3 =>
 Do (aload H2 1 false x3) fun x4 =>
 Do (abin .shl (.int .u32 1) x4) fun x5 =>
 Do (abin .sub x5 (.int .u32 1)) fun x6 =>
 Do (afaddr 0 x1) fun x7 =>
 Do (aload H2 1 false x7) fun x8 =>
 Do (abin .shl x6 x8) fun x9 =>
 Q x9 H2
def ir_a64_field_mask : AFunc := ⟨10, [.tmp 2],
 .seq (.region [
   ⟨some 1, .box false 5 (.t 0), none⟩,
   ⟨some 2, .mv (.k (.int .u32 0)), none⟩])
 (.seq (.draw [
   ⟨some 3, .faddr 1 (.t 1), none⟩,
   ⟨some 4, .load 1 false (.t 3), none⟩,
   ⟨some 5, .bin .shl (.k (.int .u32 1)) (.t 4), none⟩,
   ⟨some 6, .bin .sub (.t 5) (.k (.int .u32 1)), none⟩,
   ⟨some 7, .faddr 0 (.t 1), none⟩,
   ⟨some 8, .load 1 false (.t 7), none⟩,
   ⟨some 9, .bin .shl (.t 6) (.t 8), none⟩,
   ⟨some 2, .mv (.t 9), none⟩]
 [[], [0], [0, 1], [0, 1, 2], [], [4], [0, 1, 2, 3, 4, 5], [0, 1, 2, 3, 4, 5, 6]] [] [0, 1, 2, 3, 4, 5, 6, 7])
 (.ret))⟩
theorem eq_a64_field_mask (Φ : Calls') (a0 : AV) (H : AH) (Q : Post) : fnE1 Φ ir_a64_field_mask [a0] H Q = a64_field_mask Φ a0 H Q := by kernel_rfl

/-! (rabbet/a64.field).put -/
def a64_field_put_k1 (Φ : Calls') (x1 : AV) (Q : Post) : List AV → AH → Prop := fun j7 H8 =>
 Do (afaddr 0 x1) fun x13 =>
 Do (aload H8 1 false x13) fun x14 =>
 Do (abin .shl (sl j7 0) x14) fun x15 =>
 Do (aload H8 5 true x1) fun x16 =>
Φ K.a64_field_mask [x16] H8 fun x17 H18 =>
(aload H18 1 false x13 = some x14) ∧
(Do (abin .and x15 x17) fun x19 =>
 Q x19 H18)
def a64_field_put (Φ : Calls') (a0 : AV) (a1 : AV) (a2 : AV) (H : AH) (Q : Post) : Prop :=
 DoH (aboxv H false 5 a0) fun x1 H2 =>
 Do (aconv .u32 a2) fun x3 =>
 Do (afaddr 3 x1) fun x4 =>
 Do (aload H2 1 false x4) fun x5 =>
 Do (abin .xor x3 x5) fun x6 =>
 Do (abin .eql a1 (.int .u8 102)) fun x9 =>
 Gd x9 true (
Φ K.a64_barrier [] H2 fun x10 H11 =>
 Do (aidx 3 1 false x10 a2) fun x12 =>
 JoinP (a64_field_put_k1 Φ x1 Q) [x12] H11) (
 JoinP (a64_field_put_k1 Φ x1 Q) [x6] H2)
def ir_a64_field_put : AFunc := ⟨25, [.tmp 6],
 .seq (.region [
   ⟨some 3, .box false 5 (.t 0), none⟩,
   ⟨some 6, .mv (.k (.int .u32 0)), none⟩])
 (.seq (.region [
   ⟨some 8, .mv (.t 2), none⟩,
   ⟨some 9, .conv .u32 (.t 8), none⟩,
   ⟨some 10, .faddr 3 (.t 3), none⟩,
   ⟨some 11, .load 1 false (.t 10), none⟩,
   ⟨some 12, .bin .xor (.t 9) (.t 11), none⟩,
   ⟨some 7, .mv (.t 12), none⟩])
 (.join [7] [13, 14, 15, 16, 17] (.seq (.region [
   ⟨some 13, .mv (.t 1), none⟩,
   ⟨some 14, .bin .eql (.t 13) (.k (.int .u8 102)), none⟩])
 (.cond (.t 14) (.region [
     ⟨some 15, .call K.a64_barrier [], none⟩,
     ⟨some 16, .mv (.t 2), none⟩,
     ⟨some 17, .idx 3 1 false (.t 15) (.t 16), none⟩,
     ⟨some 7, .mv (.t 17), none⟩])
   (.skip)))
 (.seq (.draw [
   ⟨some 18, .mv (.t 7), none⟩,
   ⟨some 19, .faddr 0 (.t 3), none⟩,
   ⟨some 20, .load 1 false (.t 19), none⟩,
   ⟨some 21, .bin .shl (.t 18) (.t 20), none⟩,
   ⟨some 22, .load 5 true (.t 3), none⟩,
   ⟨some 23, .call K.a64_field_mask [(.t 22)], none⟩,
   ⟨some 24, .bin .and (.t 21) (.t 23), none⟩,
   ⟨some 6, .mv (.t 24), none⟩]
 [[], [], [1], [0, 1, 2], [], [4], [0, 1, 2, 3, 4, 5], [0, 1, 2, 3, 4, 5, 6]] [([0, 1, 2, 3, 4], 5, [2])] [6, 7])
 (.ret))))⟩
theorem eq_a64_field_put (Φ : Calls') (a0 a1 a2 : AV) (H : AH) (Q : Post) : fnE1 Φ ir_a64_field_put [a0, a1, a2] H Q = a64_field_put Φ a0 a1 a2 H Q := by kernel_rfl

/-! rabbet/a64.jump -/
def a64_jump (Φ : Calls') (a0 : AV) (H : AH) (Q : Post) : Prop :=
 DoH (some (abox H true [.int .u32 0, .str []])) fun x1 H2 =>
 Do (abin .eql a0 (.int .i64 13)) fun x3 =>
 Gd x3 true (
 Do (abuild [.int .u32 0, .str []] [(0, 1, (.int .u32 335544320)), (1, 1, (.str [98]))]) fun x4 =>
 Do (astore H2 2 x1 x4) fun H5 =>
 Do (aload H5 2 true x1) fun x6 =>
 Q x6 H5) (
 Do (abin .eql a0 (.int .i64 14)) fun x7 =>
 Gd x7 true (
 Do (abuild [.int .u32 0, .str []] [(0, 1, (.int .u32 1409286144)), (1, 1, (.str [120, 99]))]) fun x8 =>
 Do (astore H2 2 x1 x8) fun H9 =>
 Do (aload H9 2 true x1) fun x10 =>
 Q x10 H9) (
 Do (abin .eql a0 (.int .i64 15)) fun x11 =>
 Gd x11 true (
 Do (abuild [.int .u32 0, .str []] [(0, 1, (.int .u32 3019898880)), (1, 1, (.str [100, 120]))]) fun x12 =>
 Do (astore H2 2 x1 x12) fun H13 =>
 Do (aload H13 2 true x1) fun x14 =>
 Q x14 H13) (
 Do (abin .eql a0 (.int .i64 16)) fun x15 =>
 Gd x15 true (
 Do (abuild [.int .u32 0, .str []] [(0, 1, (.int .u32 3036676096)), (1, 1, (.str [100, 120]))]) fun x16 =>
 Do (astore H2 2 x1 x16) fun H17 =>
 Do (aload H17 2 true x1) fun x18 =>
 Q x18 H17) (
 Do (abin .eql a0 (.int .i64 29)) fun x19 =>
 Gd x19 true (
 Do (abuild [.int .u32 0, .str []] [(0, 1, (.int .u32 3573756095)), (1, 1, (.str [102]))]) fun x20 =>
 Do (astore H2 2 x1 x20) fun H21 =>
 Do (aload H21 2 true x1) fun x22 =>
 Q x22 H21) (
 Do (abin .eql a0 (.int .i64 30)) fun x23 =>
 Gd x23 true (
 Do (abuild [.int .u32 0, .str []] [(0, 1, (.int .u32 3573759839)), (1, 1, (.str [122]))]) fun x24 =>
 Do (astore H2 2 x1 x24) fun H25 =>
 Do (aload H25 2 true x1) fun x26 =>
 Q x26 H25) (
 Do (abin .eql a0 (.int .i64 31)) fun x27 =>
 Gd x27 true (
 Do (abuild [.int .u32 0, .str []] [(0, 1, (.int .u32 3556769793)), (1, 1, (.str [105]))]) fun x28 =>
 Do (astore H2 2 x1 x28) fun H29 =>
 Do (aload H29 2 true x1) fun x30 =>
 Q x30 H29) (
 Do (abin .eql a0 (.int .i64 32)) fun x31 =>
 Gd x31 true (
 Do (abuild [.int .u32 0, .str []] [(0, 1, (.int .u32 3558866944)), (1, 1, (.str [105]))]) fun x32 =>
 Do (astore H2 2 x1 x32) fun H33 =>
 Do (aload H33 2 true x1) fun x34 =>
 Q x34 H33) (
Φ K.a64_memory [a0] H2 fun x35 H36 =>
 Do (astore H36 2 x1 x35) fun H37 =>
 Do (aload H37 2 true x1) fun x38 =>
 Q x38 H37))))))))
def ir_a64_jump : AFunc := ⟨30, [.cell 2 2 true],
 .seq (.region [
   ⟨some 2, .alloc true [.int .u32 0, .str []], none⟩])
 (.seq (.seq (.region [
   ⟨some 3, .mv (.t 0), none⟩])
 (.block 0 (.seq (.region [
   ⟨some 5, .bin .eql (.t 3) (.k (.int .i64 13)), none⟩,
   ⟨some 4, .mv (.t 5), none⟩])
 (.cond (.t 4) (.seq (.region [
     ⟨some 6, .build [.int .u32 0, .str []] [(0, 1, (.k (.int .u32 335544320))), (1, 1, (.k (.str [98])))], none⟩,
     ⟨none, .store 2 (.t 2) (.t 6), none⟩])
   (.ret))
   (.seq (.region [
     ⟨some 8, .bin .eql (.t 3) (.k (.int .i64 14)), none⟩,
     ⟨some 7, .mv (.t 8), none⟩])
   (.cond (.t 7) (.seq (.region [
       ⟨some 9, .build [.int .u32 0, .str []] [(0, 1, (.k (.int .u32 1409286144))), (1, 1, (.k (.str [120, 99])))], none⟩,
       ⟨none, .store 2 (.t 2) (.t 9), none⟩])
     (.ret))
     (.seq (.region [
       ⟨some 11, .bin .eql (.t 3) (.k (.int .i64 15)), none⟩,
       ⟨some 10, .mv (.t 11), none⟩])
     (.cond (.t 10) (.seq (.region [
         ⟨some 12, .build [.int .u32 0, .str []] [(0, 1, (.k (.int .u32 3019898880))), (1, 1, (.k (.str [100, 120])))], none⟩,
         ⟨none, .store 2 (.t 2) (.t 12), none⟩])
       (.ret))
       (.seq (.region [
         ⟨some 14, .bin .eql (.t 3) (.k (.int .i64 16)), none⟩,
         ⟨some 13, .mv (.t 14), none⟩])
       (.cond (.t 13) (.seq (.region [
           ⟨some 15, .build [.int .u32 0, .str []] [(0, 1, (.k (.int .u32 3036676096))), (1, 1, (.k (.str [100, 120])))], none⟩,
           ⟨none, .store 2 (.t 2) (.t 15), none⟩])
         (.ret))
         (.seq (.region [
           ⟨some 17, .bin .eql (.t 3) (.k (.int .i64 29)), none⟩,
           ⟨some 16, .mv (.t 17), none⟩])
         (.cond (.t 16) (.seq (.region [
             ⟨some 18, .build [.int .u32 0, .str []] [(0, 1, (.k (.int .u32 3573756095))), (1, 1, (.k (.str [102])))], none⟩,
             ⟨none, .store 2 (.t 2) (.t 18), none⟩])
           (.ret))
           (.seq (.region [
             ⟨some 20, .bin .eql (.t 3) (.k (.int .i64 30)), none⟩,
             ⟨some 19, .mv (.t 20), none⟩])
           (.cond (.t 19) (.seq (.region [
               ⟨some 21, .build [.int .u32 0, .str []] [(0, 1, (.k (.int .u32 3573759839))), (1, 1, (.k (.str [122])))], none⟩,
               ⟨none, .store 2 (.t 2) (.t 21), none⟩])
             (.ret))
             (.seq (.region [
               ⟨some 23, .bin .eql (.t 3) (.k (.int .i64 31)), none⟩,
               ⟨some 22, .mv (.t 23), none⟩])
             (.cond (.t 22) (.seq (.region [
                 ⟨some 24, .build [.int .u32 0, .str []] [(0, 1, (.k (.int .u32 3556769793))), (1, 1, (.k (.str [105])))], none⟩,
                 ⟨none, .store 2 (.t 2) (.t 24), none⟩])
               (.ret))
               (.seq (.region [
                 ⟨some 26, .bin .eql (.t 3) (.k (.int .i64 32)), none⟩,
                 ⟨some 25, .mv (.t 26), none⟩])
               (.cond (.t 25) (.seq (.region [
                   ⟨some 27, .build [.int .u32 0, .str []] [(0, 1, (.k (.int .u32 3558866944))), (1, 1, (.k (.str [105])))], none⟩,
                   ⟨none, .store 2 (.t 2) (.t 27), none⟩])
                 (.ret))
                 (.skip)))))))))))))))))))
 (.seq (.region [
   ⟨some 28, .mv (.t 0), none⟩,
   ⟨some 29, .call K.a64_memory [(.t 28)], none⟩,
   ⟨none, .store 2 (.t 2) (.t 29), none⟩])
 (.ret)))⟩
theorem eq_a64_jump (Φ : Calls') (a0 : AV) (H : AH) (Q : Post) : fnE1 Φ ir_a64_jump [a0] H Q = a64_jump Φ a0 H Q := by kernel_rfl

/-! rabbet/a64.barrier -/
def a64_barrier (Φ : Calls') (H : AH) (Q : Post) : Prop :=
 DoH (some (abox H true [.int .u32 0, .int .u32 0, .int .u32 0])) fun x1 H2 =>
 Do (abuild [.int .u32 0, .int .u32 0, .int .u32 0] [(0, 1, (.int .u32 11)), (1, 1, (.int .u32 9)), (2, 1, (.int .u32 10))]) fun x3 =>
 Do (astore H2 3 x1 x3) fun H4 =>
 Do (aload H4 3 true x1) fun x5 =>
 Q x5 H4
def ir_a64_barrier : AFunc := ⟨2, [.cell 0 3 true],
 .seq (.region [
   ⟨some 0, .alloc true [.int .u32 0, .int .u32 0, .int .u32 0], none⟩])
 (.seq (.region [
   ⟨some 1, .build [.int .u32 0, .int .u32 0, .int .u32 0] [(0, 1, (.k (.int .u32 11))), (1, 1, (.k (.int .u32 9))), (2, 1, (.k (.int .u32 10)))], none⟩,
   ⟨none, .store 3 (.t 0) (.t 1), none⟩])
 (.ret))⟩
theorem eq_a64_barrier (Φ : Calls') (H : AH) (Q : Post) : fnE1 Φ ir_a64_barrier [] H Q = a64_barrier Φ H Q := by kernel_rfl

/-! rabbet/a64.memory -/
def a64_memory (Φ : Calls') (a0 : AV) (H : AH) (Q : Post) : Prop :=
 DoH (some (abox H true [.int .u32 0, .str []])) fun x1 H2 =>
 Do (abin .eql a0 (.int .i64 17)) fun x3 =>
 Gd x3 true (
 Do (abuild [.int .u32 0, .str []] [(0, 1, (.int .u32 960495616)), (1, 1, (.str [100, 97, 111, 115]))]) fun x4 =>
 Do (astore H2 2 x1 x4) fun H5 =>
 Do (aload H5 2 true x1) fun x6 =>
 Q x6 H5) (
 Do (abin .eql a0 (.int .i64 18)) fun x7 =>
 Gd x7 true (
 Do (abuild [.int .u32 0, .str []] [(0, 1, (.int .u32 956301312)), (1, 1, (.str [100, 97, 111, 115]))]) fun x8 =>
 Do (astore H2 2 x1 x8) fun H9 =>
 Do (aload H9 2 true x1) fun x10 =>
 Q x10 H9) (
 Do (abin .eql a0 (.int .i64 19)) fun x11 =>
 Gd x11 true (
 Do (abuild [.int .u32 0, .str []] [(0, 1, (.int .u32 148896768)), (1, 1, (.str [100, 97, 115]))]) fun x12 =>
 Do (astore H2 2 x1 x12) fun H13 =>
 Do (aload H13 2 true x1) fun x14 =>
 Q x14 H13) (
 Do (abin .eql a0 (.int .i64 20)) fun x15 =>
 Gd x15 true (
 Do (abuild [.int .u32 0, .str []] [(0, 1, (.int .u32 144702464)), (1, 1, (.str [100, 97, 115]))]) fun x16 =>
 Do (astore H2 2 x1 x16) fun H17 =>
 Do (aload H17 2 true x1) fun x18 =>
 Q x18 H17) (
 Do (abin .eql a0 (.int .i64 21)) fun x19 =>
 Gd x19 true (
 Do (abuild [.int .u32 0, .str []] [(0, 1, (.int .u32 140475392)), (1, 1, (.str [100, 97, 115]))]) fun x20 =>
 Do (astore H2 2 x1 x20) fun H21 =>
 Do (aload H21 2 true x1) fun x22 =>
 Q x22 H21) (
 Do (abin .eql a0 (.int .i64 22)) fun x23 =>
 Gd x23 true (
 Do (abuild [.int .u32 0, .str []] [(0, 1, (.int .u32 140508160)), (1, 1, (.str [100, 97, 115]))]) fun x24 =>
 Do (astore H2 2 x1 x24) fun H25 =>
 Do (aload H25 2 true x1) fun x26 =>
 Q x26 H25) (
 Do (abin .eql a0 (.int .i64 23)) fun x27 =>
 Gd x27 true (
 Do (abuild [.int .u32 0, .str []] [(0, 1, (.int .u32 134249472)), (1, 1, (.str [100, 97, 115, 109]))]) fun x28 =>
 Do (astore H2 2 x1 x28) fun H29 =>
 Do (aload H29 2 true x1) fun x30 =>
 Q x30 H29) (
 Do (abin .eql a0 (.int .i64 24)) fun x31 =>
 Gd x31 true (
 Do (abuild [.int .u32 0, .str []] [(0, 1, (.int .u32 134282240)), (1, 1, (.str [100, 97, 115, 109]))]) fun x32 =>
 Do (astore H2 2 x1 x32) fun H33 =>
 Do (aload H33 2 true x1) fun x34 =>
 Q x34 H33) (
 Do (abin .eql a0 (.int .i64 25)) fun x35 =>
 Gd x35 true (
 Do (abuild [.int .u32 0, .str []] [(0, 1, (.int .u32 3363766272)), (1, 1, (.str [100, 97, 101]))]) fun x36 =>
 Do (astore H2 2 x1 x36) fun H37 =>
 Do (aload H37 2 true x1) fun x38 =>
 Q x38 H37) (
 Do (abin .eql a0 (.int .i64 26)) fun x39 =>
 Gd x39 true (
 Do (abuild [.int .u32 0, .str []] [(0, 1, (.int .u32 3363799040)), (1, 1, (.str [100, 97, 101]))]) fun x40 =>
 Do (astore H2 2 x1 x40) fun H41 =>
 Do (aload H41 2 true x1) fun x42 =>
 Q x42 H41) (
 Do (abin .eql a0 (.int .i64 27)) fun x43 =>
 Gd x43 true (
 Do (abuild [.int .u32 0, .str []] [(0, 1, (.int .u32 3357540352)), (1, 1, (.str [100, 97, 101, 109]))]) fun x44 =>
 Do (astore H2 2 x1 x44) fun H45 =>
 Do (aload H45 2 true x1) fun x46 =>
 Q x46 H45) (
 Do (abin .eql a0 (.int .i64 28)) fun x47 =>
 Gd x47 true (
 Do (abuild [.int .u32 0, .str []] [(0, 1, (.int .u32 3357573120)), (1, 1, (.str [100, 97, 101, 109]))]) fun x48 =>
 Do (astore H2 2 x1 x48) fun H49 =>
 Do (aload H49 2 true x1) fun x50 =>
 Q x50 H49) (
 Do (abuild [.int .u32 0, .str []] []) fun x51 =>
 Do (astore H2 2 x1 x51) fun H52 =>
 Do (aload H52 2 true x1) fun x53 =>
 Q x53 H52))))))))))))
def ir_a64_memory : AFunc := ⟨41, [.cell 2 2 true],
 .seq (.region [
   ⟨some 2, .alloc true [.int .u32 0, .str []], none⟩])
 (.seq (.seq (.region [
   ⟨some 3, .mv (.t 0), none⟩])
 (.block 0 (.seq (.region [
   ⟨some 5, .bin .eql (.t 3) (.k (.int .i64 17)), none⟩,
   ⟨some 4, .mv (.t 5), none⟩])
 (.cond (.t 4) (.seq (.region [
     ⟨some 6, .build [.int .u32 0, .str []] [(0, 1, (.k (.int .u32 960495616))), (1, 1, (.k (.str [100, 97, 111, 115])))], none⟩,
     ⟨none, .store 2 (.t 2) (.t 6), none⟩])
   (.ret))
   (.seq (.region [
     ⟨some 8, .bin .eql (.t 3) (.k (.int .i64 18)), none⟩,
     ⟨some 7, .mv (.t 8), none⟩])
   (.cond (.t 7) (.seq (.region [
       ⟨some 9, .build [.int .u32 0, .str []] [(0, 1, (.k (.int .u32 956301312))), (1, 1, (.k (.str [100, 97, 111, 115])))], none⟩,
       ⟨none, .store 2 (.t 2) (.t 9), none⟩])
     (.ret))
     (.seq (.region [
       ⟨some 11, .bin .eql (.t 3) (.k (.int .i64 19)), none⟩,
       ⟨some 10, .mv (.t 11), none⟩])
     (.cond (.t 10) (.seq (.region [
         ⟨some 12, .build [.int .u32 0, .str []] [(0, 1, (.k (.int .u32 148896768))), (1, 1, (.k (.str [100, 97, 115])))], none⟩,
         ⟨none, .store 2 (.t 2) (.t 12), none⟩])
       (.ret))
       (.seq (.region [
         ⟨some 14, .bin .eql (.t 3) (.k (.int .i64 20)), none⟩,
         ⟨some 13, .mv (.t 14), none⟩])
       (.cond (.t 13) (.seq (.region [
           ⟨some 15, .build [.int .u32 0, .str []] [(0, 1, (.k (.int .u32 144702464))), (1, 1, (.k (.str [100, 97, 115])))], none⟩,
           ⟨none, .store 2 (.t 2) (.t 15), none⟩])
         (.ret))
         (.seq (.region [
           ⟨some 17, .bin .eql (.t 3) (.k (.int .i64 21)), none⟩,
           ⟨some 16, .mv (.t 17), none⟩])
         (.cond (.t 16) (.seq (.region [
             ⟨some 18, .build [.int .u32 0, .str []] [(0, 1, (.k (.int .u32 140475392))), (1, 1, (.k (.str [100, 97, 115])))], none⟩,
             ⟨none, .store 2 (.t 2) (.t 18), none⟩])
           (.ret))
           (.seq (.region [
             ⟨some 20, .bin .eql (.t 3) (.k (.int .i64 22)), none⟩,
             ⟨some 19, .mv (.t 20), none⟩])
           (.cond (.t 19) (.seq (.region [
               ⟨some 21, .build [.int .u32 0, .str []] [(0, 1, (.k (.int .u32 140508160))), (1, 1, (.k (.str [100, 97, 115])))], none⟩,
               ⟨none, .store 2 (.t 2) (.t 21), none⟩])
             (.ret))
             (.seq (.region [
               ⟨some 23, .bin .eql (.t 3) (.k (.int .i64 23)), none⟩,
               ⟨some 22, .mv (.t 23), none⟩])
             (.cond (.t 22) (.seq (.region [
                 ⟨some 24, .build [.int .u32 0, .str []] [(0, 1, (.k (.int .u32 134249472))), (1, 1, (.k (.str [100, 97, 115, 109])))], none⟩,
                 ⟨none, .store 2 (.t 2) (.t 24), none⟩])
               (.ret))
               (.seq (.region [
                 ⟨some 26, .bin .eql (.t 3) (.k (.int .i64 24)), none⟩,
                 ⟨some 25, .mv (.t 26), none⟩])
               (.cond (.t 25) (.seq (.region [
                   ⟨some 27, .build [.int .u32 0, .str []] [(0, 1, (.k (.int .u32 134282240))), (1, 1, (.k (.str [100, 97, 115, 109])))], none⟩,
                   ⟨none, .store 2 (.t 2) (.t 27), none⟩])
                 (.ret))
                 (.seq (.region [
                   ⟨some 29, .bin .eql (.t 3) (.k (.int .i64 25)), none⟩,
                   ⟨some 28, .mv (.t 29), none⟩])
                 (.cond (.t 28) (.seq (.region [
                     ⟨some 30, .build [.int .u32 0, .str []] [(0, 1, (.k (.int .u32 3363766272))), (1, 1, (.k (.str [100, 97, 101])))], none⟩,
                     ⟨none, .store 2 (.t 2) (.t 30), none⟩])
                   (.ret))
                   (.seq (.region [
                     ⟨some 32, .bin .eql (.t 3) (.k (.int .i64 26)), none⟩,
                     ⟨some 31, .mv (.t 32), none⟩])
                   (.cond (.t 31) (.seq (.region [
                       ⟨some 33, .build [.int .u32 0, .str []] [(0, 1, (.k (.int .u32 3363799040))), (1, 1, (.k (.str [100, 97, 101])))], none⟩,
                       ⟨none, .store 2 (.t 2) (.t 33), none⟩])
                     (.ret))
                     (.seq (.region [
                       ⟨some 35, .bin .eql (.t 3) (.k (.int .i64 27)), none⟩,
                       ⟨some 34, .mv (.t 35), none⟩])
                     (.cond (.t 34) (.seq (.region [
                         ⟨some 36, .build [.int .u32 0, .str []] [(0, 1, (.k (.int .u32 3357540352))), (1, 1, (.k (.str [100, 97, 101, 109])))], none⟩,
                         ⟨none, .store 2 (.t 2) (.t 36), none⟩])
                       (.ret))
                       (.seq (.region [
                         ⟨some 38, .bin .eql (.t 3) (.k (.int .i64 28)), none⟩,
                         ⟨some 37, .mv (.t 38), none⟩])
                       (.cond (.t 37) (.seq (.region [
                           ⟨some 39, .build [.int .u32 0, .str []] [(0, 1, (.k (.int .u32 3357573120))), (1, 1, (.k (.str [100, 97, 101, 109])))], none⟩,
                           ⟨none, .store 2 (.t 2) (.t 39), none⟩])
                         (.ret))
                         (.skip)))))))))))))))))))))))))))
 (.seq (.region [
   ⟨some 40, .build [.int .u32 0, .str []] [], none⟩,
   ⟨none, .store 2 (.t 2) (.t 40), none⟩])
 (.ret)))⟩
theorem eq_a64_memory (Φ : Calls') (a0 : AV) (H : AH) (Q : Post) : fnE1 Φ ir_a64_memory [a0] H Q = a64_memory Φ a0 H Q := by kernel_rfl

def tab_a64 : Tab := [
  (K.a64_Encode, ir_a64_Encode),
  (K.a64_of, ir_a64_of),
  (K.a64_place, ir_a64_place),
  (K.a64_at, ir_a64_at),
  (K.a64_field_fits, ir_a64_field_fits),
  (K.a64_field_mask, ir_a64_field_mask),
  (K.a64_field_put, ir_a64_field_put),
  (K.a64_jump, ir_a64_jump),
  (K.a64_barrier, ir_a64_barrier),
  (K.a64_memory, ir_a64_memory)]

theorem cl_a64_Encode {Φ : Calls'} (hT : Cl Φ tab_a64) {a0 : AV} {H : AH} {Q : Post} (h : a64_Encode Φ a0 H Q) : Φ K.a64_Encode [a0] H Q := hT.call (by kernel_rfl) (by kernel_rfl) (by rw [eq_a64_Encode]; exact h)
theorem cl_a64_of {Φ : Calls'} (hT : Cl Φ tab_a64) {a0 : AV} {H : AH} {Q : Post} (h : a64_of Φ a0 H Q) : Φ K.a64_of [a0] H Q := hT.call (by kernel_rfl) (by kernel_rfl) (by rw [eq_a64_of]; exact h)
theorem cl_a64_place {Φ : Calls'} (hT : Cl Φ tab_a64) {a0 : AV} {H : AH} {Q : Post} (h : a64_place Φ a0 H Q) : Φ K.a64_place [a0] H Q := hT.call (by kernel_rfl) (by kernel_rfl) (by rw [eq_a64_place]; exact h)
theorem cl_a64_at {Φ : Calls'} (hT : Cl Φ tab_a64) {a0 a1 : AV} {H : AH} {Q : Post} (h : a64_at Φ a0 a1 H Q) : Φ K.a64_at [a0, a1] H Q := hT.call (by kernel_rfl) (by kernel_rfl) (by rw [eq_a64_at]; exact h)
theorem cl_a64_field_fits {Φ : Calls'} (hT : Cl Φ tab_a64) {a0 a1 : AV} {H : AH} {Q : Post} (h : a64_field_fits Φ a0 a1 H Q) : Φ K.a64_field_fits [a0, a1] H Q := hT.call (by kernel_rfl) (by kernel_rfl) (by rw [eq_a64_field_fits]; exact h)
theorem cl_a64_field_mask {Φ : Calls'} (hT : Cl Φ tab_a64) {a0 : AV} {H : AH} {Q : Post} (h : a64_field_mask Φ a0 H Q) : Φ K.a64_field_mask [a0] H Q := hT.call (by kernel_rfl) (by kernel_rfl) (by rw [eq_a64_field_mask]; exact h)
theorem cl_a64_field_put {Φ : Calls'} (hT : Cl Φ tab_a64) {a0 a1 a2 : AV} {H : AH} {Q : Post} (h : a64_field_put Φ a0 a1 a2 H Q) : Φ K.a64_field_put [a0, a1, a2] H Q := hT.call (by kernel_rfl) (by kernel_rfl) (by rw [eq_a64_field_put]; exact h)
theorem cl_a64_jump {Φ : Calls'} (hT : Cl Φ tab_a64) {a0 : AV} {H : AH} {Q : Post} (h : a64_jump Φ a0 H Q) : Φ K.a64_jump [a0] H Q := hT.call (by kernel_rfl) (by kernel_rfl) (by rw [eq_a64_jump]; exact h)
theorem cl_a64_barrier {Φ : Calls'} (hT : Cl Φ tab_a64) {H : AH} {Q : Post} (h : a64_barrier Φ H Q) : Φ K.a64_barrier [] H Q := hT.call (by kernel_rfl) (by kernel_rfl) (by rw [eq_a64_barrier]; exact h)
theorem cl_a64_memory {Φ : Calls'} (hT : Cl Φ tab_a64) {a0 : AV} {H : AH} {Q : Post} (h : a64_memory Φ a0 H Q) : Φ K.a64_memory [a0] H Q := hT.call (by kernel_rfl) (by kernel_rfl) (by rw [eq_a64_memory]; exact h)
end Rb.S

/- Package a64: its functions as runs. By gen.py. -/
set_option linter.unusedVariables false
namespace Rb.R
open Go

def a64_Encode_k1 (Φ : CallsB) (n : Nat) (s32 : List AV × TH) (L33 : (List AV × TH) → Bool) (Q : PostB) : List AV → TH → Bool := fun j35 H36 =>
 DoB (abin .add (sl s32.1 1) (.int .i64 1)) fun x41 =>
 L33 ([(sl j35 0), x41], H36)
def a64_Encode_k2 (Φ : CallsB) (n : Nat) (x1 : AV) (x21 : AV) (Q : PostB) : List AV → TH → Bool := fun j25 H26 =>
 DoB (aload H26.ah 7 true x21) fun x74 =>
 DoB (afaddr 0 x1) fun x76 =>
 DoB (aload H26.ah 1 false x76) fun x77 =>
 DoB (abuild [.int .i64 0, .int .i64 0, .int .i64 0, .int .i64 0, .int .i64 0, .int .i64 0, .int .i64 0] [(0, 1, x77)]) fun x79 =>
 DoB (aeqAgg true [.n, .n, .n, .n, .n, .n, .n] x74 x79) fun x80 =>
 GdB x80 true (
 Q (.tup [(.int .u32 0), (.int .i64 2)]) H26) (
 Q (.tup [(sl j25 0), (.int .i64 0)]) H26)
def a64_Encode_l3 (Φ : CallsB) (n : Nat) (x1 : AV) (x21 : AV) (x30 : AV) (x31 : AV) (Q : PostB) : (List AV × TH) → ((List AV × TH) → Bool) → Bool := fun s32 L33 =>
 DoB (abin .lss (sl s32.1 1) x31) fun x34 =>
 GdB x34 true (
 DoB (aiaddr none 1 x30 (sl s32.1 1)) fun x37 =>
 DoB (aload s32.2.ah 1 false x37) fun x38 =>
 DoB (abin .eql x38 (.int .u8 122)) fun x40 =>
 GdB x40 true (
 JoinB (a64_Encode_k1 Φ n s32 L33 Q) [(sl s32.1 0)] s32.2) (
Φ K.a64_place [x38] s32.2 fun x42 H43 =>
 DoHB (some (tbox H43 true [.int .i64 0, .int .i64 0, .bool false, .int .u32 0, .int .i64 0])) fun x44 H45 =>
 DoB (tstore H45 5 x44 x42) fun H47 =>
Φ K.a64_at [x21, x38] H47 fun x48 H49 =>
 DoB (aload H49.ah 5 true x44) fun x50 =>
 DoB (anilck x48) fun x52 =>
 DoB (aload H49.ah 1 false x52) fun x53 =>
Φ K.a64_field_fits [x50, x53] H49 fun x55 H56 =>
 DoB (aun .not x55) fun x57 =>
 GdB x57 true (
 Q (.tup [(.int .u32 0), (.int .i64 2)]) H56) (
 DoB (aload H56.ah 5 true x44) fun x58 =>
 DoB (aload H56.ah 5 true x44) fun x60 =>
 DoB (anilck x48) fun x62 =>
 DoB (aload H56.ah 1 false x62) fun x63 =>
Φ K.a64_field_mask [x58] H56 fun x65 H66 =>
 and (sameV (aload H66.ah 5 true x44) x60) (
 and (sameV (aload H66.ah 1 false x62) x63) (
 DoB (abin .andNot (sl s32.1 0) x65) fun x67 =>
Φ K.a64_field_put [x60, x38, x63] H66 fun x68 H69 =>
 DoB (abin .or x67 x68) fun x70 =>
 DoB (anilck x48) fun x71 =>
 DoB (tstore H69 1 x71 (.int .i64 0)) fun H73 =>
 JoinB (a64_Encode_k1 Φ n s32 L33 Q) [x70] H73))))) (
 JoinB (a64_Encode_k2 Φ n x1 x21 Q) [(sl s32.1 0)] s32.2)
def a64_Encode (Φ : CallsB) (n : Nat) (a0 : AV) (H : TH) (Q : PostB) : Bool :=
 DoHB (tboxv H false 7 a0) fun x1 H2 =>
 DoB (afaddr 0 x1) fun x3 =>
 DoB (aload H2.ah 1 false x3) fun x4 =>
Φ K.a64_of [x4] H2 fun x6 H7 =>
 DoHB (some (tbox H7 true [.int .u32 0, .str []])) fun x8 H9 =>
 DoB (tstore H9 2 x8 x6) fun H11 =>
 DoB (afaddr 1 x8) fun x12 =>
 DoB (aload H11.ah 1 false x12) fun x13 =>
 DoB (abin .eql x13 (.str [])) fun x15 =>
 GdB x15 true (
 Q (.tup [(.int .u32 0), (.int .i64 2)]) H11) (
 DoB (afaddr 0 x8) fun x16 =>
 DoB (aload H11.ah 1 false x16) fun x17 =>
 DoB (aload H11.ah 7 true x1) fun x19 =>
 DoHB (some (tbox H11 true [.int .i64 0, .int .i64 0, .int .i64 0, .int .i64 0, .int .i64 0, .int .i64 0, .int .i64 0])) fun x21 H22 =>
 DoB (tstore H22 7 x21 x19) fun H24 =>
 DoB (afaddr 1 x8) fun x27 =>
 DoB (aload H24.ah 1 false x27) fun x28 =>
 DoB (asbytes x28) fun x30 =>
 DoB (alen false x30) fun x31 =>
 LoopB (a64_Encode_l3 Φ n x1 x21 x30 x31 Q) n ([x17, (.int .i64 0)], H24))
theorem eq_a64_Encode (Φ : CallsB) (n : Nat) (a0 : AV) (H : TH) (Q : PostB) : fnB1 Φ n S.ir_a64_Encode [a0] H Q = a64_Encode Φ n a0 H Q := by kernel_rfl

def a64_of (Φ : CallsB) (n : Nat) (a0 : AV) (H : TH) (Q : PostB) : Bool :=
 DoHB (some (tbox H true [.int .u32 0, .str []])) fun x1 H2 =>
 DoB (abin .eql a0 (.int .i64 1)) fun x3 =>
 GdB x3 true (
 DoB (abuild [.int .u32 0, .str []] [(0, 1, (.int .u32 3531603968)), (1, 1, (.str [100, 105, 113]))]) fun x4 =>
 DoB (tstore H2 2 x1 x4) fun H6 =>
 DoB (aload H6.ah 2 true x1) fun x7 =>
 Q x7 H6) (
 DoB (abin .eql a0 (.int .i64 2)) fun x8 =>
 GdB x8 true (
 DoB (abuild [.int .u32 0, .str []] [(0, 1, (.int .u32 4068474880)), (1, 1, (.str [100, 105, 113]))]) fun x9 =>
 DoB (tstore H2 2 x1 x9) fun H11 =>
 DoB (aload H11.ah 2 true x1) fun x12 =>
 Q x12 H11) (
 DoB (abin .eql a0 (.int .i64 3)) fun x13 =>
 GdB x13 true (
 DoB (abuild [.int .u32 0, .str []] [(0, 1, (.int .u32 2332033024)), (1, 1, (.str [100, 110, 109]))]) fun x14 =>
 DoB (tstore H2 2 x1 x14) fun H16 =>
 DoB (aload H16.ah 2 true x1) fun x17 =>
 Q x17 H16) (
 DoB (abin .eql a0 (.int .i64 4)) fun x18 =>
 GdB x18 true (
 DoB (abuild [.int .u32 0, .str []] [(0, 1, (.int .u32 3405774848)), (1, 1, (.str [100, 110, 109]))]) fun x19 =>
 DoB (tstore H2 2 x1 x19) fun H21 =>
 DoB (aload H21.ah 2 true x1) fun x22 =>
 Q x22 H21) (
 DoB (abin .eql a0 (.int .i64 5)) fun x23 =>
 GdB x23 true (
 DoB (abuild [.int .u32 0, .str []] [(0, 1, (.int .u32 3942645760)), (1, 1, (.str [100, 110, 109]))]) fun x24 =>
 DoB (tstore H2 2 x1 x24) fun H26 =>
 DoB (aload H26.ah 2 true x1) fun x27 =>
 Q x27 H26) (
 DoB (abin .eql a0 (.int .i64 6)) fun x28 =>
 GdB x28 true (
 DoB (abuild [.int .u32 0, .str []] [(0, 1, (.int .u32 2315255808)), (1, 1, (.str [100, 110, 109]))]) fun x29 =>
 DoB (tstore H2 2 x1 x29) fun H31 =>
 DoB (aload H31.ah 2 true x1) fun x32 =>
 Q x32 H31) (
 DoB (abin .eql a0 (.int .i64 7)) fun x33 =>
 GdB x33 true (
 DoB (abuild [.int .u32 0, .str []] [(0, 1, (.int .u32 2852126720)), (1, 1, (.str [100, 110, 109]))]) fun x34 =>
 DoB (tstore H2 2 x1 x34) fun H36 =>
 DoB (aload H36.ah 2 true x1) fun x37 =>
 Q x37 H36) (
 DoB (abin .eql a0 (.int .i64 8)) fun x38 =>
 GdB x38 true (
 DoB (abuild [.int .u32 0, .str []] [(0, 1, (.int .u32 3388997632)), (1, 1, (.str [100, 110, 109]))]) fun x39 =>
 DoB (tstore H2 2 x1 x39) fun H41 =>
 DoB (aload H41.ah 2 true x1) fun x42 =>
 Q x42 H41) (
 DoB (abin .eql a0 (.int .i64 9)) fun x43 =>
 GdB x43 true (
 DoB (abuild [.int .u32 0, .str []] [(0, 1, (.int .u32 2600500224)), (1, 1, (.str [100, 110, 109]))]) fun x44 =>
 DoB (tstore H2 2 x1 x44) fun H46 =>
 DoB (aload H46.ah 2 true x1) fun x47 =>
 Q x47 H46) (
 DoB (abin .eql a0 (.int .i64 10)) fun x48 =>
 GdB x48 true (
 DoB (abuild [.int .u32 0, .str []] [(0, 1, (.int .u32 2596282368)), (1, 1, (.str [100, 110, 109]))]) fun x49 =>
 DoB (tstore H2 2 x1 x49) fun H51 =>
 DoB (aload H51.ah 2 true x1) fun x52 =>
 Q x52 H51) (
 DoB (abin .eql a0 (.int .i64 11)) fun x53 =>
 GdB x53 true (
 DoB (abuild [.int .u32 0, .str []] [(0, 1, (.int .u32 2596283392)), (1, 1, (.str [100, 110, 109]))]) fun x54 =>
 DoB (tstore H2 2 x1 x54) fun H56 =>
 DoB (aload H56.ah 2 true x1) fun x57 =>
 Q x57 H56) (
 DoB (abin .eql a0 (.int .i64 12)) fun x58 =>
 GdB x58 true (
 DoB (abuild [.int .u32 0, .str []] [(0, 1, (.int .u32 2594113504)), (1, 1, (.str [100, 107]))]) fun x59 =>
 DoB (tstore H2 2 x1 x59) fun H61 =>
 DoB (aload H61.ah 2 true x1) fun x62 =>
 Q x62 H61) (
Φ K.a64_jump [a0] H2 fun x63 H64 =>
 DoB (tstore H64 2 x1 x63) fun H66 =>
 DoB (aload H66.ah 2 true x1) fun x67 =>
 Q x67 H66))))))))))))
theorem eq_a64_of (Φ : CallsB) (n : Nat) (a0 : AV) (H : TH) (Q : PostB) : fnB1 Φ n S.ir_a64_of [a0] H Q = a64_of Φ n a0 H Q := by kernel_rfl

def a64_place (Φ : CallsB) (n : Nat) (a0 : AV) (H : TH) (Q : PostB) : Bool :=
 DoHB (some (tbox H true [.int .i64 0, .int .i64 0, .bool false, .int .u32 0, .int .i64 0])) fun x1 H2 =>
 DoB (abin .eql a0 (.int .u8 100)) fun x3 =>
 GdB x3 true (
 DoB (abuild [.int .i64 0, .int .i64 0, .bool false, .int .u32 0, .int .i64 0] [(0, 1, (.int .i64 0)), (1, 1, (.int .i64 5)), (4, 1, (.int .i64 31))]) fun x4 =>
 DoB (tstore H2 5 x1 x4) fun H6 =>
 DoB (aload H6.ah 5 true x1) fun x7 =>
 Q x7 H6) (
 DoB (abin .eql a0 (.int .u8 110)) fun x8 =>
 GdB x8 true (
 DoB (abuild [.int .i64 0, .int .i64 0, .bool false, .int .u32 0, .int .i64 0] [(0, 1, (.int .i64 5)), (1, 1, (.int .i64 5)), (4, 1, (.int .i64 31))]) fun x9 =>
 DoB (tstore H2 5 x1 x9) fun H11 =>
 DoB (aload H11.ah 5 true x1) fun x12 =>
 Q x12 H11) (
 DoB (abin .eql a0 (.int .u8 97)) fun x13 =>
 GdB x13 true (
 DoB (abuild [.int .i64 0, .int .i64 0, .bool false, .int .u32 0, .int .i64 0] [(0, 1, (.int .i64 5)), (1, 1, (.int .i64 5)), (4, 1, (.int .i64 30))]) fun x14 =>
 DoB (tstore H2 5 x1 x14) fun H16 =>
 DoB (aload H16.ah 5 true x1) fun x17 =>
 Q x17 H16) (
 DoB (abin .eql a0 (.int .u8 109)) fun x18 =>
 GdB x18 true (
 DoB (abuild [.int .i64 0, .int .i64 0, .bool false, .int .u32 0, .int .i64 0] [(0, 1, (.int .i64 16)), (1, 1, (.int .i64 5)), (4, 1, (.int .i64 31))]) fun x19 =>
 DoB (tstore H2 5 x1 x19) fun H21 =>
 DoB (aload H21.ah 5 true x1) fun x22 =>
 Q x22 H21) (
 DoB (abin .eql a0 (.int .u8 101)) fun x23 =>
 GdB x23 true (
 DoB (abuild [.int .i64 0, .int .i64 0, .bool false, .int .u32 0, .int .i64 0] [(0, 1, (.int .i64 10)), (1, 1, (.int .i64 5)), (4, 1, (.int .i64 31))]) fun x24 =>
 DoB (tstore H2 5 x1 x24) fun H26 =>
 DoB (aload H26.ah 5 true x1) fun x27 =>
 Q x27 H26) (
 DoB (abin .eql a0 (.int .u8 113)) fun x28 =>
 GdB x28 true (
 DoB (abuild [.int .i64 0, .int .i64 0, .bool false, .int .u32 0, .int .i64 0] [(0, 1, (.int .i64 21)), (1, 1, (.int .i64 2)), (4, 1, (.int .i64 3))]) fun x29 =>
 DoB (tstore H2 5 x1 x29) fun H31 =>
 DoB (aload H31.ah 5 true x1) fun x32 =>
 Q x32 H31) (
 DoB (abin .eql a0 (.int .u8 99)) fun x33 =>
 GdB x33 true (
 DoB (abuild [.int .i64 0, .int .i64 0, .bool false, .int .u32 0, .int .i64 0] [(0, 1, (.int .i64 0)), (1, 1, (.int .i64 2)), (4, 1, (.int .i64 3))]) fun x34 =>
 DoB (tstore H2 5 x1 x34) fun H36 =>
 DoB (aload H36.ah 5 true x1) fun x37 =>
 Q x37 H36) (
 DoB (abin .eql a0 (.int .u8 107)) fun x38 =>
 GdB x38 true (
 DoB (abuild [.int .i64 0, .int .i64 0, .bool false, .int .u32 0, .int .i64 0] [(0, 1, (.int .i64 12)), (1, 1, (.int .i64 2)), (4, 1, (.int .i64 3)), (3, 1, (.int .u32 1))]) fun x39 =>
 DoB (tstore H2 5 x1 x39) fun H41 =>
 DoB (aload H41.ah 5 true x1) fun x42 =>
 Q x42 H41) (
 DoB (abin .eql a0 (.int .u8 115)) fun x43 =>
 GdB x43 true (
 DoB (abuild [.int .i64 0, .int .i64 0, .bool false, .int .u32 0, .int .i64 0] [(0, 1, (.int .i64 30)), (1, 1, (.int .i64 2)), (4, 1, (.int .i64 3))]) fun x44 =>
 DoB (tstore H2 5 x1 x44) fun H46 =>
 DoB (aload H46.ah 5 true x1) fun x47 =>
 Q x47 H46) (
 DoB (abin .eql a0 (.int .u8 105)) fun x48 =>
 GdB x48 true (
 DoB (abuild [.int .i64 0, .int .i64 0, .bool false, .int .u32 0, .int .i64 0] [(0, 1, (.int .i64 5)), (1, 1, (.int .i64 16)), (4, 1, (.int .i64 65535))]) fun x49 =>
 DoB (tstore H2 5 x1 x49) fun H51 =>
 DoB (aload H51.ah 5 true x1) fun x52 =>
 Q x52 H51) (
 DoB (abin .eql a0 (.int .u8 111)) fun x53 =>
 GdB x53 true (
 DoB (abuild [.int .i64 0, .int .i64 0, .bool false, .int .u32 0, .int .i64 0] [(0, 1, (.int .i64 10)), (1, 1, (.int .i64 12)), (4, 1, (.int .i64 4095))]) fun x54 =>
 DoB (tstore H2 5 x1 x54) fun H56 =>
 DoB (aload H56.ah 5 true x1) fun x57 =>
 Q x57 H56) (
 DoB (abin .eql a0 (.int .u8 98)) fun x58 =>
 GdB x58 true (
 DoB (abuild [.int .i64 0, .int .i64 0, .bool false, .int .u32 0, .int .i64 0] [(0, 1, (.int .i64 0)), (1, 1, (.int .i64 26)), (2, 1, (.bool true))]) fun x59 =>
 DoB (tstore H2 5 x1 x59) fun H61 =>
 DoB (aload H61.ah 5 true x1) fun x62 =>
 Q x62 H61) (
 DoB (abin .eql a0 (.int .u8 120)) fun x63 =>
 GdB x63 true (
 DoB (abuild [.int .i64 0, .int .i64 0, .bool false, .int .u32 0, .int .i64 0] [(0, 1, (.int .i64 5)), (1, 1, (.int .i64 19)), (2, 1, (.bool true))]) fun x64 =>
 DoB (tstore H2 5 x1 x64) fun H66 =>
 DoB (aload H66.ah 5 true x1) fun x67 =>
 Q x67 H66) (
 DoB (abin .eql a0 (.int .u8 102)) fun x68 =>
 GdB x68 true (
 DoB (abuild [.int .i64 0, .int .i64 0, .bool false, .int .u32 0, .int .i64 0] [(0, 1, (.int .i64 8)), (1, 1, (.int .i64 4)), (4, 1, (.int .i64 2))]) fun x69 =>
 DoB (tstore H2 5 x1 x69) fun H71 =>
 DoB (aload H71.ah 5 true x1) fun x72 =>
 Q x72 H71) (
 DoB (abuild [.int .i64 0, .int .i64 0, .bool false, .int .u32 0, .int .i64 0] []) fun x73 =>
 DoB (tstore H2 5 x1 x73) fun H75 =>
 DoB (aload H75.ah 5 true x1) fun x76 =>
 Q x76 H75))))))))))))))
theorem eq_a64_place (Φ : CallsB) (n : Nat) (a0 : AV) (H : TH) (Q : PostB) : fnB1 Φ n S.ir_a64_place [a0] H Q = a64_place Φ n a0 H Q := by kernel_rfl

def a64_at_k1 (Φ : CallsB) (n : Nat) (a0 : AV) (Q : PostB) : List AV → TH → Bool := fun j1 H2 =>
 DoB (anilck a0) fun x22 =>
 DoB (afaddr 6 x22) fun x23 =>
 Q x23 H2
def a64_at_k2 (Φ : CallsB) (n : Nat) (a0 : AV) (a1 : AV) (Q : PostB) : List AV → TH → Bool := fun j14 H15 =>
 GdB (sl j14 0) true (
 DoB (anilck a0) fun x17 =>
 DoB (afaddr 4 x17) fun x18 =>
 Q x18 H15) (
 DoB (abin .eql a1 (.int .u8 115)) fun x19 =>
 GdB x19 true (
 DoB (anilck a0) fun x20 =>
 DoB (afaddr 5 x20) fun x21 =>
 Q x21 H15) (
 JoinB (a64_at_k1 Φ n a0 Q) [] H15))
def a64_at_k3 (Φ : CallsB) (n : Nat) (a0 : AV) (a1 : AV) (Q : PostB) : List AV → TH → Bool := fun j6 H7 =>
 GdB (sl j6 0) true (
 DoB (anilck a0) fun x9 =>
 DoB (afaddr 2 x9) fun x10 =>
 Q x10 H7) (
 DoB (abin .eql a1 (.int .u8 109)) fun x11 =>
 GdB x11 true (
 DoB (anilck a0) fun x12 =>
 DoB (afaddr 3 x12) fun x13 =>
 Q x13 H7) (
 DoB (abin .eql a1 (.int .u8 101)) fun x16 =>
 GdB x16 true (
 JoinB (a64_at_k2 Φ n a0 a1 Q) [x16] H7) (
 DoB (abin .eql a1 (.int .u8 113)) fun x24 =>
 GdB x24 true (
 JoinB (a64_at_k2 Φ n a0 a1 Q) [x24] H7) (
 DoB (abin .eql a1 (.int .u8 99)) fun x25 =>
 GdB x25 true (
 JoinB (a64_at_k2 Φ n a0 a1 Q) [x25] H7) (
 DoB (abin .eql a1 (.int .u8 107)) fun x26 =>
 JoinB (a64_at_k2 Φ n a0 a1 Q) [x26] H7)))))
def a64_at (Φ : CallsB) (n : Nat) (a0 : AV) (a1 : AV) (H : TH) (Q : PostB) : Bool :=
 DoB (abin .eql a1 (.int .u8 100)) fun x3 =>
 GdB x3 true (
 DoB (anilck a0) fun x4 =>
 DoB (afaddr 1 x4) fun x5 =>
 Q x5 H) (
 DoB (abin .eql a1 (.int .u8 110)) fun x8 =>
 GdB x8 true (
 JoinB (a64_at_k3 Φ n a0 a1 Q) [x8] H) (
 DoB (abin .eql a1 (.int .u8 97)) fun x27 =>
 JoinB (a64_at_k3 Φ n a0 a1 Q) [x27] H))
theorem eq_a64_at (Φ : CallsB) (n : Nat) (a0 a1 : AV) (H : TH) (Q : PostB) : fnB1 Φ n S.ir_a64_at [a0, a1] H Q = a64_at Φ n a0 a1 H Q := by kernel_rfl

def a64_field_fits (Φ : CallsB) (n : Nat) (a0 : AV) (a1 : AV) (H : TH) (Q : PostB) : Bool :=
 DoHB (tboxv H false 5 a0) fun x1 H2 =>
 DoB (afaddr 2 x1) fun x3 =>
 DoB (aload H2.ah 1 false x3) fun x4 =>
 GdB x4 true (
 DoB (afaddr 1 x1) fun x6 =>
 DoB (aload H2.ah 1 false x6) fun x7 =>
 DoB (abin .sub x7 (.int .i64 1)) fun x9 =>
 DoB (abin .shl (.int .i64 1) x9) fun x10 =>
 DoB (aun .neg x10) fun x11 =>
 DoB (abin .geq a1 x11) fun x12 =>
 Gd3B x12 true (
 DoB (afaddr 1 x1) fun x13 =>
 DoB (aload H2.ah 1 false x13) fun x14 =>
 DoB (abin .sub x14 (.int .i64 1)) fun x16 =>
 DoB (abin .shl (.int .i64 1) x16) fun x17 =>
 DoB (abin .lss a1 x17) fun x18 =>
 Q x18 H2) (
 Q (.bool false) H2) (
 false)) (
 DoB (abin .geq a1 (.int .i64 0)) fun x19 =>
 Gd3B x19 true (
 DoB (afaddr 4 x1) fun x20 =>
 DoB (aload H2.ah 1 false x20) fun x21 =>
 DoB (abin .leq a1 x21) fun x23 =>
 Q x23 H2) (
 Q (.bool false) H2) (
 false))
theorem eq_a64_field_fits (Φ : CallsB) (n : Nat) (a0 a1 : AV) (H : TH) (Q : PostB) : fnB1 Φ n S.ir_a64_field_fits [a0, a1] H Q = a64_field_fits Φ n a0 a1 H Q := by kernel_rfl

def a64_field_mask (Φ : CallsB) (n : Nat) (a0 : AV) (H : TH) (Q : PostB) : Bool :=
 DoHB (tboxv H false 5 a0) fun x1 H2 =>
 DoB (afaddr 1 x1) fun x3 =>
 DoB (aload H2.ah 1 false x3) fun x4 =>
 DoB (abin .shl (.int .u32 1) x4) fun x6 =>
 DoB (abin .sub x6 (.int .u32 1)) fun x7 =>
 DoB (afaddr 0 x1) fun x8 =>
 DoB (aload H2.ah 1 false x8) fun x9 =>
 DoB (abin .shl x7 x9) fun x11 =>
 Q x11 H2
theorem eq_a64_field_mask (Φ : CallsB) (n : Nat) (a0 : AV) (H : TH) (Q : PostB) : fnB1 Φ n S.ir_a64_field_mask [a0] H Q = a64_field_mask Φ n a0 H Q := by kernel_rfl

def a64_field_put_k1 (Φ : CallsB) (n : Nat) (x1 : AV) (Q : PostB) : List AV → TH → Bool := fun j8 H9 =>
 DoB (afaddr 0 x1) fun x14 =>
 DoB (aload H9.ah 1 false x14) fun x15 =>
 DoB (abin .shl (sl j8 0) x15) fun x17 =>
 DoB (aload H9.ah 5 true x1) fun x18 =>
Φ K.a64_field_mask [x18] H9 fun x20 H21 =>
 and (sameV (aload H21.ah 1 false x14) x15) (
 DoB (abin .and x17 x20) fun x22 =>
 Q x22 H21)
def a64_field_put (Φ : CallsB) (n : Nat) (a0 : AV) (a1 : AV) (a2 : AV) (H : TH) (Q : PostB) : Bool :=
 DoHB (tboxv H false 5 a0) fun x1 H2 =>
 DoB (aconv .u32 a2) fun x3 =>
 DoB (afaddr 3 x1) fun x4 =>
 DoB (aload H2.ah 1 false x4) fun x5 =>
 DoB (abin .xor x3 x5) fun x7 =>
 DoB (abin .eql a1 (.int .u8 102)) fun x10 =>
 GdB x10 true (
Φ K.a64_barrier [] H2 fun x11 H12 =>
 DoB (aidx 3 1 false x11 a2) fun x13 =>
 JoinB (a64_field_put_k1 Φ n x1 Q) [x13] H12) (
 JoinB (a64_field_put_k1 Φ n x1 Q) [x7] H2)
theorem eq_a64_field_put (Φ : CallsB) (n : Nat) (a0 a1 a2 : AV) (H : TH) (Q : PostB) : fnB1 Φ n S.ir_a64_field_put [a0, a1, a2] H Q = a64_field_put Φ n a0 a1 a2 H Q := by kernel_rfl

def a64_jump (Φ : CallsB) (n : Nat) (a0 : AV) (H : TH) (Q : PostB) : Bool :=
 DoHB (some (tbox H true [.int .u32 0, .str []])) fun x1 H2 =>
 DoB (abin .eql a0 (.int .i64 13)) fun x3 =>
 GdB x3 true (
 DoB (abuild [.int .u32 0, .str []] [(0, 1, (.int .u32 335544320)), (1, 1, (.str [98]))]) fun x4 =>
 DoB (tstore H2 2 x1 x4) fun H6 =>
 DoB (aload H6.ah 2 true x1) fun x7 =>
 Q x7 H6) (
 DoB (abin .eql a0 (.int .i64 14)) fun x8 =>
 GdB x8 true (
 DoB (abuild [.int .u32 0, .str []] [(0, 1, (.int .u32 1409286144)), (1, 1, (.str [120, 99]))]) fun x9 =>
 DoB (tstore H2 2 x1 x9) fun H11 =>
 DoB (aload H11.ah 2 true x1) fun x12 =>
 Q x12 H11) (
 DoB (abin .eql a0 (.int .i64 15)) fun x13 =>
 GdB x13 true (
 DoB (abuild [.int .u32 0, .str []] [(0, 1, (.int .u32 3019898880)), (1, 1, (.str [100, 120]))]) fun x14 =>
 DoB (tstore H2 2 x1 x14) fun H16 =>
 DoB (aload H16.ah 2 true x1) fun x17 =>
 Q x17 H16) (
 DoB (abin .eql a0 (.int .i64 16)) fun x18 =>
 GdB x18 true (
 DoB (abuild [.int .u32 0, .str []] [(0, 1, (.int .u32 3036676096)), (1, 1, (.str [100, 120]))]) fun x19 =>
 DoB (tstore H2 2 x1 x19) fun H21 =>
 DoB (aload H21.ah 2 true x1) fun x22 =>
 Q x22 H21) (
 DoB (abin .eql a0 (.int .i64 29)) fun x23 =>
 GdB x23 true (
 DoB (abuild [.int .u32 0, .str []] [(0, 1, (.int .u32 3573756095)), (1, 1, (.str [102]))]) fun x24 =>
 DoB (tstore H2 2 x1 x24) fun H26 =>
 DoB (aload H26.ah 2 true x1) fun x27 =>
 Q x27 H26) (
 DoB (abin .eql a0 (.int .i64 30)) fun x28 =>
 GdB x28 true (
 DoB (abuild [.int .u32 0, .str []] [(0, 1, (.int .u32 3573759839)), (1, 1, (.str [122]))]) fun x29 =>
 DoB (tstore H2 2 x1 x29) fun H31 =>
 DoB (aload H31.ah 2 true x1) fun x32 =>
 Q x32 H31) (
 DoB (abin .eql a0 (.int .i64 31)) fun x33 =>
 GdB x33 true (
 DoB (abuild [.int .u32 0, .str []] [(0, 1, (.int .u32 3556769793)), (1, 1, (.str [105]))]) fun x34 =>
 DoB (tstore H2 2 x1 x34) fun H36 =>
 DoB (aload H36.ah 2 true x1) fun x37 =>
 Q x37 H36) (
 DoB (abin .eql a0 (.int .i64 32)) fun x38 =>
 GdB x38 true (
 DoB (abuild [.int .u32 0, .str []] [(0, 1, (.int .u32 3558866944)), (1, 1, (.str [105]))]) fun x39 =>
 DoB (tstore H2 2 x1 x39) fun H41 =>
 DoB (aload H41.ah 2 true x1) fun x42 =>
 Q x42 H41) (
Φ K.a64_memory [a0] H2 fun x43 H44 =>
 DoB (tstore H44 2 x1 x43) fun H46 =>
 DoB (aload H46.ah 2 true x1) fun x47 =>
 Q x47 H46))))))))
theorem eq_a64_jump (Φ : CallsB) (n : Nat) (a0 : AV) (H : TH) (Q : PostB) : fnB1 Φ n S.ir_a64_jump [a0] H Q = a64_jump Φ n a0 H Q := by kernel_rfl

def a64_barrier (Φ : CallsB) (n : Nat) (H : TH) (Q : PostB) : Bool :=
 DoHB (some (tbox H true [.int .u32 0, .int .u32 0, .int .u32 0])) fun x1 H2 =>
 DoB (abuild [.int .u32 0, .int .u32 0, .int .u32 0] [(0, 1, (.int .u32 11)), (1, 1, (.int .u32 9)), (2, 1, (.int .u32 10))]) fun x3 =>
 DoB (tstore H2 3 x1 x3) fun H5 =>
 DoB (aload H5.ah 3 true x1) fun x6 =>
 Q x6 H5
theorem eq_a64_barrier (Φ : CallsB) (n : Nat) (H : TH) (Q : PostB) : fnB1 Φ n S.ir_a64_barrier [] H Q = a64_barrier Φ n H Q := by kernel_rfl

def a64_memory (Φ : CallsB) (n : Nat) (a0 : AV) (H : TH) (Q : PostB) : Bool :=
 DoHB (some (tbox H true [.int .u32 0, .str []])) fun x1 H2 =>
 DoB (abin .eql a0 (.int .i64 17)) fun x3 =>
 GdB x3 true (
 DoB (abuild [.int .u32 0, .str []] [(0, 1, (.int .u32 960495616)), (1, 1, (.str [100, 97, 111, 115]))]) fun x4 =>
 DoB (tstore H2 2 x1 x4) fun H6 =>
 DoB (aload H6.ah 2 true x1) fun x7 =>
 Q x7 H6) (
 DoB (abin .eql a0 (.int .i64 18)) fun x8 =>
 GdB x8 true (
 DoB (abuild [.int .u32 0, .str []] [(0, 1, (.int .u32 956301312)), (1, 1, (.str [100, 97, 111, 115]))]) fun x9 =>
 DoB (tstore H2 2 x1 x9) fun H11 =>
 DoB (aload H11.ah 2 true x1) fun x12 =>
 Q x12 H11) (
 DoB (abin .eql a0 (.int .i64 19)) fun x13 =>
 GdB x13 true (
 DoB (abuild [.int .u32 0, .str []] [(0, 1, (.int .u32 148896768)), (1, 1, (.str [100, 97, 115]))]) fun x14 =>
 DoB (tstore H2 2 x1 x14) fun H16 =>
 DoB (aload H16.ah 2 true x1) fun x17 =>
 Q x17 H16) (
 DoB (abin .eql a0 (.int .i64 20)) fun x18 =>
 GdB x18 true (
 DoB (abuild [.int .u32 0, .str []] [(0, 1, (.int .u32 144702464)), (1, 1, (.str [100, 97, 115]))]) fun x19 =>
 DoB (tstore H2 2 x1 x19) fun H21 =>
 DoB (aload H21.ah 2 true x1) fun x22 =>
 Q x22 H21) (
 DoB (abin .eql a0 (.int .i64 21)) fun x23 =>
 GdB x23 true (
 DoB (abuild [.int .u32 0, .str []] [(0, 1, (.int .u32 140475392)), (1, 1, (.str [100, 97, 115]))]) fun x24 =>
 DoB (tstore H2 2 x1 x24) fun H26 =>
 DoB (aload H26.ah 2 true x1) fun x27 =>
 Q x27 H26) (
 DoB (abin .eql a0 (.int .i64 22)) fun x28 =>
 GdB x28 true (
 DoB (abuild [.int .u32 0, .str []] [(0, 1, (.int .u32 140508160)), (1, 1, (.str [100, 97, 115]))]) fun x29 =>
 DoB (tstore H2 2 x1 x29) fun H31 =>
 DoB (aload H31.ah 2 true x1) fun x32 =>
 Q x32 H31) (
 DoB (abin .eql a0 (.int .i64 23)) fun x33 =>
 GdB x33 true (
 DoB (abuild [.int .u32 0, .str []] [(0, 1, (.int .u32 134249472)), (1, 1, (.str [100, 97, 115, 109]))]) fun x34 =>
 DoB (tstore H2 2 x1 x34) fun H36 =>
 DoB (aload H36.ah 2 true x1) fun x37 =>
 Q x37 H36) (
 DoB (abin .eql a0 (.int .i64 24)) fun x38 =>
 GdB x38 true (
 DoB (abuild [.int .u32 0, .str []] [(0, 1, (.int .u32 134282240)), (1, 1, (.str [100, 97, 115, 109]))]) fun x39 =>
 DoB (tstore H2 2 x1 x39) fun H41 =>
 DoB (aload H41.ah 2 true x1) fun x42 =>
 Q x42 H41) (
 DoB (abin .eql a0 (.int .i64 25)) fun x43 =>
 GdB x43 true (
 DoB (abuild [.int .u32 0, .str []] [(0, 1, (.int .u32 3363766272)), (1, 1, (.str [100, 97, 101]))]) fun x44 =>
 DoB (tstore H2 2 x1 x44) fun H46 =>
 DoB (aload H46.ah 2 true x1) fun x47 =>
 Q x47 H46) (
 DoB (abin .eql a0 (.int .i64 26)) fun x48 =>
 GdB x48 true (
 DoB (abuild [.int .u32 0, .str []] [(0, 1, (.int .u32 3363799040)), (1, 1, (.str [100, 97, 101]))]) fun x49 =>
 DoB (tstore H2 2 x1 x49) fun H51 =>
 DoB (aload H51.ah 2 true x1) fun x52 =>
 Q x52 H51) (
 DoB (abin .eql a0 (.int .i64 27)) fun x53 =>
 GdB x53 true (
 DoB (abuild [.int .u32 0, .str []] [(0, 1, (.int .u32 3357540352)), (1, 1, (.str [100, 97, 101, 109]))]) fun x54 =>
 DoB (tstore H2 2 x1 x54) fun H56 =>
 DoB (aload H56.ah 2 true x1) fun x57 =>
 Q x57 H56) (
 DoB (abin .eql a0 (.int .i64 28)) fun x58 =>
 GdB x58 true (
 DoB (abuild [.int .u32 0, .str []] [(0, 1, (.int .u32 3357573120)), (1, 1, (.str [100, 97, 101, 109]))]) fun x59 =>
 DoB (tstore H2 2 x1 x59) fun H61 =>
 DoB (aload H61.ah 2 true x1) fun x62 =>
 Q x62 H61) (
 DoB (abuild [.int .u32 0, .str []] []) fun x63 =>
 DoB (tstore H2 2 x1 x63) fun H65 =>
 DoB (aload H65.ah 2 true x1) fun x66 =>
 Q x66 H65))))))))))))
theorem eq_a64_memory (Φ : CallsB) (n : Nat) (a0 : AV) (H : TH) (Q : PostB) : fnB1 Φ n S.ir_a64_memory [a0] H Q = a64_memory Φ n a0 H Q := by kernel_rfl

end Rb.R

/- Package bits: its functions in the small language, and what they mean. By gen.py. -/
set_option linter.unusedVariables false
namespace Rb.S
open Go

/-! rabbet/bits.Put -/
def bits_Put (Φ : Calls') (a0 : AV) (a1 : AV) (a2 : AV) (a3 : AV) (H : AH) (Q : Post) : Prop :=
Φ K.bits_in [a1] H fun x1 H2 =>
 Do (aun .not x1) fun x3 =>
 Gd x3 true (
 Q a0 H2) (
Φ K.bits_Mask [a2] H2 fun x4 H5 =>
 Do (abin .shl x4 a1) fun x6 =>
 Do (abin .andNot a0 x6) fun x7 =>
Φ K.bits_Mask [a2] H5 fun x8 H9 =>
 Do (abin .and a3 x8) fun x10 =>
 Do (abin .shl x10 a1) fun x11 =>
 Do (abin .or x7 x11) fun x12 =>
 Q x12 H9)
def ir_bits_Put : AFunc := ⟨26, [.tmp 8],
 .seq (.region [
   ⟨some 8, .mv (.k (.int .u64 0)), none⟩])
 (.seq (.seq (.region [
   ⟨some 9, .mv (.t 1), none⟩,
   ⟨some 10, .call K.bits_in [(.t 9)], none⟩,
   ⟨some 11, .un .not (.t 10), none⟩])
 (.cond (.t 11) (.seq (.region [
     ⟨some 12, .mv (.t 0), none⟩,
     ⟨some 8, .mv (.t 12), none⟩])
   (.ret))
   (.skip)))
 (.seq (.draw [
   ⟨some 13, .mv (.t 0), none⟩,
   ⟨some 14, .mv (.t 2), none⟩,
   ⟨some 15, .call K.bits_Mask [(.t 14)], none⟩,
   ⟨some 16, .mv (.t 1), none⟩,
   ⟨some 17, .bin .shl (.t 15) (.t 16), none⟩,
   ⟨some 18, .bin .andNot (.t 13) (.t 17), none⟩,
   ⟨some 19, .mv (.t 3), none⟩,
   ⟨some 20, .mv (.t 2), none⟩,
   ⟨some 21, .call K.bits_Mask [(.t 20)], none⟩,
   ⟨some 22, .bin .and (.t 19) (.t 21), none⟩,
   ⟨some 23, .mv (.t 1), none⟩,
   ⟨some 24, .bin .shl (.t 22) (.t 23), none⟩,
   ⟨some 25, .bin .or (.t 18) (.t 24), none⟩,
   ⟨some 8, .mv (.t 25), none⟩]
 [[], [], [1], [], [1, 2, 3], [0, 1, 2, 3, 4], [], [], [1, 2, 7], [1, 2, 6, 7, 8], [], [1, 2, 6, 7, 8, 9, 10], [0, 1, 2, 3, 4, 5, 6, 7, 8, 9, 10, 11], [0, 1, 2, 3, 4, 5, 6, 7, 8, 9, 10, 11, 12]] [([0, 1, 3, 6, 7, 10], 2, []), ([4, 5], 8, [])] [9, 11, 12, 13])
 (.ret)))⟩
theorem eq_bits_Put (Φ : Calls') (a0 a1 a2 a3 : AV) (H : AH) (Q : Post) : fnE1 Φ ir_bits_Put [a0, a1, a2, a3] H Q = bits_Put Φ a0 a1 a2 a3 H Q := by kernel_rfl

/-! rabbet/bits.Mask -/
def bits_Mask (Φ : Calls') (a0 : AV) (H : AH) (Q : Post) : Prop :=
 Do (abin .lss a0 (.int .i64 1)) fun x1 =>
 Gd x1 true (
 Q (.int .u64 0) H) (
 Do (abin .geq a0 (.int .i64 64)) fun x2 =>
 Gd x2 true (
 Q (.int .u64 18446744073709551615) H) (
 Do (abin .shl (.int .u64 1) a0) fun x3 =>
 Do (abin .sub x3 (.int .u64 1)) fun x4 =>
 Q x4 H))
def ir_bits_Mask : AFunc := ⟨12, [.tmp 2],
 .seq (.region [
   ⟨some 2, .mv (.k (.int .u64 0)), none⟩])
 (.seq (.block 0 (.seq (.region [
   ⟨some 4, .mv (.t 0), none⟩,
   ⟨some 5, .bin .lss (.t 4) (.k (.int .i64 1)), none⟩,
   ⟨some 3, .mv (.t 5), none⟩])
 (.cond (.t 3) (.seq (.region [
     ⟨some 2, .mv (.k (.int .u64 0)), none⟩])
   (.ret))
   (.seq (.region [
     ⟨some 7, .mv (.t 0), none⟩,
     ⟨some 8, .bin .geq (.t 7) (.k (.int .i64 64)), none⟩,
     ⟨some 6, .mv (.t 8), none⟩])
   (.cond (.t 6) (.seq (.region [
       ⟨some 2, .mv (.k (.int .u64 18446744073709551615)), none⟩])
     (.ret))
     (.skip))))))
 (.seq (.region [
   ⟨some 9, .mv (.t 0), none⟩,
   ⟨some 10, .bin .shl (.k (.int .u64 1)) (.t 9), none⟩,
   ⟨some 11, .bin .sub (.t 10) (.k (.int .u64 1)), none⟩,
   ⟨some 2, .mv (.t 11), none⟩])
 (.ret)))⟩
theorem eq_bits_Mask (Φ : Calls') (a0 : AV) (H : AH) (Q : Post) : fnE1 Φ ir_bits_Mask [a0] H Q = bits_Mask Φ a0 H Q := by kernel_rfl

/-! rabbet/bits.in -/
def bits_in (Φ : Calls') (a0 : AV) (H : AH) (Q : Post) : Prop :=
 Do (abin .geq a0 (.int .i64 0)) fun x1 =>
 Gd3 x1 true (
 Do (abin .lss a0 (.int .i64 64)) fun x2 =>
 Q x2 H) (
 Q (.bool false) H) (
 False)
def ir_bits_in : AFunc := ⟨9, [.tmp 2],
 .seq (.region [
   ⟨some 2, .mv (.k (.bool false)), none⟩])
 (.seq (.region [
   ⟨some 3, .mv (.t 0), none⟩,
   ⟨some 4, .bin .geq (.t 3) (.k (.int .i64 0)), none⟩,
   ⟨some 5, .mv (.t 4), none⟩,
   ⟨some 6, .mv (.t 0), some (5, true)⟩,
   ⟨some 7, .bin .lss (.t 6) (.k (.int .i64 64)), some (5, true)⟩,
   ⟨some 8, .pick (.t 5) (.t 7) (.k (.bool false)), none⟩,
   ⟨some 2, .mv (.t 8), none⟩])
 (.ret))⟩
theorem eq_bits_in (Φ : Calls') (a0 : AV) (H : AH) (Q : Post) : fnE1 Φ ir_bits_in [a0] H Q = bits_in Φ a0 H Q := by kernel_rfl

def tab_bits : Tab := [
  (K.bits_Put, ir_bits_Put),
  (K.bits_Mask, ir_bits_Mask),
  (K.bits_in, ir_bits_in)]

theorem cl_bits_Put {Φ : Calls'} (hT : Cl Φ tab_bits) {a0 a1 a2 a3 : AV} {H : AH} {Q : Post} (h : bits_Put Φ a0 a1 a2 a3 H Q) : Φ K.bits_Put [a0, a1, a2, a3] H Q := hT.call (by kernel_rfl) (by kernel_rfl) (by rw [eq_bits_Put]; exact h)
theorem cl_bits_Mask {Φ : Calls'} (hT : Cl Φ tab_bits) {a0 : AV} {H : AH} {Q : Post} (h : bits_Mask Φ a0 H Q) : Φ K.bits_Mask [a0] H Q := hT.call (by kernel_rfl) (by kernel_rfl) (by rw [eq_bits_Mask]; exact h)
theorem cl_bits_in {Φ : Calls'} (hT : Cl Φ tab_bits) {a0 : AV} {H : AH} {Q : Post} (h : bits_in Φ a0 H Q) : Φ K.bits_in [a0] H Q := hT.call (by kernel_rfl) (by kernel_rfl) (by rw [eq_bits_in]; exact h)
end Rb.S

/- Package bits: its functions as runs. By gen.py. -/
set_option linter.unusedVariables false
namespace Rb.R
open Go

def bits_Put (Φ : CallsB) (n : Nat) (a0 : AV) (a1 : AV) (a2 : AV) (a3 : AV) (H : TH) (Q : PostB) : Bool :=
Φ K.bits_in [a1] H fun x1 H2 =>
 DoB (aun .not x1) fun x3 =>
 GdB x3 true (
 Q a0 H2) (
Φ K.bits_Mask [a2] H2 fun x4 H5 =>
 DoB (abin .shl x4 a1) fun x6 =>
 DoB (abin .andNot a0 x6) fun x7 =>
Φ K.bits_Mask [a2] H5 fun x8 H9 =>
 DoB (abin .and a3 x8) fun x10 =>
 DoB (abin .shl x10 a1) fun x11 =>
 DoB (abin .or x7 x11) fun x12 =>
 Q x12 H9)
theorem eq_bits_Put (Φ : CallsB) (n : Nat) (a0 a1 a2 a3 : AV) (H : TH) (Q : PostB) : fnB1 Φ n S.ir_bits_Put [a0, a1, a2, a3] H Q = bits_Put Φ n a0 a1 a2 a3 H Q := by kernel_rfl

def bits_Mask (Φ : CallsB) (n : Nat) (a0 : AV) (H : TH) (Q : PostB) : Bool :=
 DoB (abin .lss a0 (.int .i64 1)) fun x1 =>
 GdB x1 true (
 Q (.int .u64 0) H) (
 DoB (abin .geq a0 (.int .i64 64)) fun x2 =>
 GdB x2 true (
 Q (.int .u64 18446744073709551615) H) (
 DoB (abin .shl (.int .u64 1) a0) fun x3 =>
 DoB (abin .sub x3 (.int .u64 1)) fun x4 =>
 Q x4 H))
theorem eq_bits_Mask (Φ : CallsB) (n : Nat) (a0 : AV) (H : TH) (Q : PostB) : fnB1 Φ n S.ir_bits_Mask [a0] H Q = bits_Mask Φ n a0 H Q := by kernel_rfl

def bits_in (Φ : CallsB) (n : Nat) (a0 : AV) (H : TH) (Q : PostB) : Bool :=
 DoB (abin .geq a0 (.int .i64 0)) fun x1 =>
 Gd3B x1 true (
 DoB (abin .lss a0 (.int .i64 64)) fun x2 =>
 Q x2 H) (
 Q (.bool false) H) (
 false)
theorem eq_bits_in (Φ : CallsB) (n : Nat) (a0 : AV) (H : TH) (Q : PostB) : fnB1 Φ n S.ir_bits_in [a0] H Q = bits_in Φ n a0 H Q := by kernel_rfl

end Rb.R

/- Package emit: its functions in the small language, and what they mean. By gen.py. -/
set_option linter.unusedVariables false
namespace Rb.S
open Go

/-! rabbet/emit.Constant -/
def emit_Constant_k1 (Φ : Calls') (s3 : List AV × AH) (L4 : (List AV × AH) → Prop) (Q : Post) : List AV → AH → Prop := fun j6 H7 =>
 Do (abin .add (sl s3.1 1) (.int .i64 1)) fun x13 =>
 L4 ([(sl j6 0), x13], H7)
def emit_Constant_k2 (Φ : Calls') (a0 : AV) (Q : Post) : List AV → AH → Prop := fun j1 H2 =>
 Do (alen false (sl j1 0)) fun x26 =>
 Do (abin .eql x26 (.int .i64 0)) fun x27 =>
 Gd x27 true (
 Do (abuild [.int .i64 0, .int .i64 0, .int .i64 0, .int .i64 0, .int .i64 0, .int .i64 0, .int .i64 0] [(0, 1, (.int .i64 1)), (1, 1, a0)]) fun x28 =>
 DoH (abslice H2 false 7 1 [.int .i64 0, .int .i64 0, .int .i64 0, .int .i64 0, .int .i64 0, .int .i64 0, .int .i64 0] [(0, 7, x28)]) fun x29 H30 =>
 DoH (aappend H30 false 7 56 (sl j1 0) x29) fun x31 H32 =>
 Q x31 H32) (
 Q (sl j1 0) H2)
def emit_Constant_l3 (Φ : Calls') (a0 : AV) (a1 : AV) (Q : Post) : (List AV × AH) → ((List AV × AH) → Prop) → Prop := fun s3 L4 =>
 Do (abin .lss (sl s3.1 1) (.int .i64 4)) fun x5 =>
 Gd x5 true (
 Do (abin .mul (.int .i64 16) (sl s3.1 1)) fun x8 =>
 Do (abin .shr a1 x8) fun x9 =>
 Do (abin .and x9 (.int .u64 65535)) fun x10 =>
 Do (aconv .i64 x10) fun x11 =>
 Do (abin .eql x11 (.int .i64 0)) fun x12 =>
 Gd x12 true (
 JoinP (emit_Constant_k1 Φ s3 L4 Q) [(sl s3.1 0)] s3.2) (
 Do (alen false (sl s3.1 0)) fun x14 =>
 Do (abin .eql x14 (.int .i64 0)) fun x15 =>
 Gd x15 true (
 Do (abuild [.int .i64 0, .int .i64 0, .int .i64 0, .int .i64 0, .int .i64 0, .int .i64 0, .int .i64 0] [(0, 1, (.int .i64 1)), (1, 1, a0), (4, 1, (sl s3.1 1)), (6, 1, x11)]) fun x16 =>
 DoH (abslice s3.2 false 7 1 [.int .i64 0, .int .i64 0, .int .i64 0, .int .i64 0, .int .i64 0, .int .i64 0, .int .i64 0] [(0, 7, x16)]) fun x17 H18 =>
 DoH (aappend H18 false 7 56 (sl s3.1 0) x17) fun x19 H20 =>
 JoinP (emit_Constant_k1 Φ s3 L4 Q) [x19] H20) (
 Do (abuild [.int .i64 0, .int .i64 0, .int .i64 0, .int .i64 0, .int .i64 0, .int .i64 0, .int .i64 0] [(0, 1, (.int .i64 2)), (1, 1, a0), (4, 1, (sl s3.1 1)), (6, 1, x11)]) fun x21 =>
 DoH (abslice s3.2 false 7 1 [.int .i64 0, .int .i64 0, .int .i64 0, .int .i64 0, .int .i64 0, .int .i64 0, .int .i64 0] [(0, 7, x21)]) fun x22 H23 =>
 DoH (aappend H23 false 7 56 (sl s3.1 0) x22) fun x24 H25 =>
 JoinP (emit_Constant_k1 Φ s3 L4 Q) [x24] H25))) (
 JoinP (emit_Constant_k2 Φ a0 Q) [(sl s3.1 0)] s3.2)
def emit_Constant (Φ : Calls') (a0 : AV) (a1 : AV) (H : AH) (Q : Post) : Prop :=
 LoopP (emit_Constant_l3 Φ a0 a1 Q) ([(.lst .nil 0 []), (.int .i64 0)], H)
def ir_emit_Constant : AFunc := ⟨48, [.tmp 4],
 .seq (.region [
   ⟨some 4, .mv (.k (.lst .nil 0 [])), none⟩])
 (.seq (.region [
   ⟨some 5, .mv (.k (.lst .nil 0 [])), none⟩])
 (.join [5] [6, 7, 8, 9, 10, 11, 12, 13, 14, 15, 16, 17, 18, 19, 20, 21, 22, 23, 24, 25, 26, 27, 28, 29, 30, 31, 32, 33, 34, 35, 36, 37, 38] (.seq (.region [
   ⟨some 8, .mv (.k (.int .i64 0)), none⟩])
 (.block 0 (.loop [5, 8] [6, 7, 9, 10, 11, 12, 13, 14, 15, 16, 17, 18, 19, 20, 21, 22, 23, 24, 25, 26, 27, 28, 29, 30, 31, 32, 33, 34, 35, 36, 37, 38] (.seq (.region [
   ⟨some 9, .bin .lss (.t 8) (.k (.int .i64 4)), none⟩])
 (.seq (.cond (.t 9) (.skip)
   (.exit 0))
 (.join [5] [6, 7, 10, 11, 12, 13, 14, 15, 16, 17, 18, 19, 20, 21, 22, 23, 24, 25, 26, 27, 28, 29, 30, 31, 32, 33, 34, 35, 36, 37] (.block 1 (.seq (.region [
   ⟨some 10, .mv (.t 8), none⟩,
   ⟨some 6, .mv (.t 10), none⟩])
 (.seq (.region [
   ⟨some 11, .mv (.t 1), none⟩,
   ⟨some 12, .mv (.t 6), none⟩,
   ⟨some 13, .bin .mul (.k (.int .i64 16)) (.t 12), none⟩,
   ⟨some 14, .bin .shr (.t 11) (.t 13), none⟩,
   ⟨some 15, .bin .and (.t 14) (.k (.int .u64 65535)), none⟩,
   ⟨some 16, .conv .i64 (.t 15), none⟩,
   ⟨some 7, .mv (.t 16), none⟩])
 (.block 2 (.seq (.region [
   ⟨some 25, .mv (.t 7), none⟩,
   ⟨some 26, .bin .eql (.t 25) (.k (.int .i64 0)), none⟩,
   ⟨some 24, .mv (.t 26), none⟩])
 (.cond (.t 24) (.skip)
   (.seq (.region [
     ⟨some 28, .mv (.t 5), none⟩,
     ⟨some 29, .len false (.t 28), none⟩,
     ⟨some 30, .bin .eql (.t 29) (.k (.int .i64 0)), none⟩,
     ⟨some 27, .mv (.t 30), none⟩])
   (.cond (.t 27) (.region [
       ⟨some 31, .mv (.t 5), none⟩,
       ⟨some 32, .mv (.t 0), none⟩,
       ⟨some 33, .mv (.t 6), none⟩,
       ⟨some 34, .mv (.t 7), none⟩,
       ⟨some 35, .build [.int .i64 0, .int .i64 0, .int .i64 0, .int .i64 0, .int .i64 0, .int .i64 0, .int .i64 0] [(0, 1, (.k (.int .i64 1))), (1, 1, (.t 32)), (4, 1, (.t 33)), (6, 1, (.t 34))], none⟩,
       ⟨some 36, .bslice false 7 1 [.int .i64 0, .int .i64 0, .int .i64 0, .int .i64 0, .int .i64 0, .int .i64 0, .int .i64 0] [(0, 7, (.t 35))], none⟩,
       ⟨some 37, .append false 7 56 (.t 31) (.t 36), none⟩,
       ⟨some 5, .mv (.t 37), none⟩])
     (.region [
       ⟨some 17, .mv (.t 5), none⟩,
       ⟨some 18, .mv (.t 0), none⟩,
       ⟨some 19, .mv (.t 6), none⟩,
       ⟨some 20, .mv (.t 7), none⟩,
       ⟨some 21, .build [.int .i64 0, .int .i64 0, .int .i64 0, .int .i64 0, .int .i64 0, .int .i64 0, .int .i64 0] [(0, 1, (.k (.int .i64 2))), (1, 1, (.t 18)), (4, 1, (.t 19)), (6, 1, (.t 20))], none⟩,
       ⟨some 22, .bslice false 7 1 [.int .i64 0, .int .i64 0, .int .i64 0, .int .i64 0, .int .i64 0, .int .i64 0, .int .i64 0] [(0, 7, (.t 21))], none⟩,
       ⟨some 23, .append false 7 56 (.t 17) (.t 22), none⟩,
       ⟨some 5, .mv (.t 23), none⟩])))))))))
 (.region [
   ⟨some 38, .bin .add (.t 8) (.k (.int .i64 1)), none⟩,
   ⟨some 8, .mv (.t 38), none⟩])))))))
 (.seq (.seq (.region [
   ⟨some 39, .mv (.t 5), none⟩,
   ⟨some 40, .len false (.t 39), none⟩,
   ⟨some 41, .bin .eql (.t 40) (.k (.int .i64 0)), none⟩])
 (.cond (.t 41) (.region [
     ⟨some 42, .mv (.t 5), none⟩,
     ⟨some 43, .mv (.t 0), none⟩,
     ⟨some 44, .build [.int .i64 0, .int .i64 0, .int .i64 0, .int .i64 0, .int .i64 0, .int .i64 0, .int .i64 0] [(0, 1, (.k (.int .i64 1))), (1, 1, (.t 43))], none⟩,
     ⟨some 45, .bslice false 7 1 [.int .i64 0, .int .i64 0, .int .i64 0, .int .i64 0, .int .i64 0, .int .i64 0, .int .i64 0] [(0, 7, (.t 44))], none⟩,
     ⟨some 46, .append false 7 56 (.t 42) (.t 45), none⟩,
     ⟨some 5, .mv (.t 46), none⟩])
   (.skip)))
 (.seq (.region [
   ⟨some 47, .mv (.t 5), none⟩,
   ⟨some 4, .mv (.t 47), none⟩])
 (.ret)))))⟩
theorem eq_emit_Constant (Φ : Calls') (a0 a1 : AV) (H : AH) (Q : Post) : fnE1 Φ ir_emit_Constant [a0, a1] H Q = emit_Constant Φ a0 a1 H Q := by kernel_rfl

/-! rabbet/emit.Thread -/
def emit_Thread_k1 (Φ : Calls') (s32 : List AV × AH) (L33 : (List AV × AH) → Prop) (Q : Post) : List AV → AH → Prop := fun j35 H36 =>
 Do (abin .add (sl s32.1 0) (.int .i64 1)) fun x68 =>
 L33 ([x68], H36)
def emit_Thread_k2 (Φ : Calls') (x4 : AV) (x39 : AV) (x49 : AV) (s32 : List AV × AH) (L33 : (List AV × AH) → Prop) (Q : Post) : List AV → AH → Prop := fun j51 H52 =>
 Do (anilck x4) fun x57 =>
 Do (afaddr 1 x57) fun x58 =>
 Do (aload H52 1 false x58) fun x59 =>
 Do (afaddr 0 x39) fun x60 =>
 Do (aload H52 1 false x60) fun x61 =>
 Do (afaddr 0 x39) fun x62 =>
 Do (aload H52 1 false x62) fun x63 =>
 Do (abin .sub x49 x63) fun x64 =>
 Do (aiaddr none 7 x59 x61) fun x65 =>
 Do (afaddr 6 x65) fun x66 =>
 Do (astore H52 1 x66 x64) fun H67 =>
 JoinP (emit_Thread_k1 Φ s32 L33 Q) [] H67
def emit_Thread_k3 (Φ : Calls') (x4 : AV) (Q : Post) : List AV → AH → Prop := fun j26 H27 =>
 Do (anilck x4) fun x69 =>
 Do (afaddr 7 x69) fun x70 =>
 Do (aload H27 1 false x70) fun x71 =>
 Do (abin .neq x71 (.int .i64 0)) fun x72 =>
 Gd x72 true (
 Do (anilck x4) fun x73 =>
 Do (afaddr 7 x73) fun x74 =>
 Do (aload H27 1 false x74) fun x75 =>
 Q (.tup [(.lst .nil 0 []), (.lst .nil 0 []), (.lst .nil 0 []), x75]) H27) (
 Do (anilck x4) fun x76 =>
 Do (afaddr 1 x76) fun x77 =>
 Do (aload H27 1 false x77) fun x78 =>
 Do (anilck x4) fun x79 =>
 Do (afaddr 2 x79) fun x80 =>
 Do (aload H27 1 false x80) fun x81 =>
 Do (anilck x4) fun x82 =>
 Do (afaddr 3 x82) fun x83 =>
 Do (aload H27 1 false x83) fun x84 =>
 Q (.tup [x78, x81, x84, (.int .i64 0)]) H27)
def emit_Thread_l4 (Φ : Calls') (x4 : AV) (x30 : AV) (x31 : AV) (Q : Post) : (List AV × AH) → ((List AV × AH) → Prop) → Prop := fun s32 L33 =>
 Do (abin .lss (sl s32.1 0) x31) fun x34 =>
 Gd x34 true (
 Do (aiaddr none 2 x30 (sl s32.1 0)) fun x37 =>
 Do (aload s32.2 2 true x37) fun x38 =>
 DoH (some (abox s32.2 true [.int .i64 0, .int .i64 0])) fun x39 H40 =>
 Do (astore H40 2 x39 x38) fun H41 =>
 Do (anilck x4) fun x42 =>
 Do (afaddr 5 x42) fun x43 =>
 Do (aload H41 1 false x43) fun x44 =>
 Do (afaddr 1 x39) fun x45 =>
 Do (aload H41 1 false x45) fun x46 =>
 Do (alookup H41 .n (.int .i64 0) true x44 x46) fun x47 =>
 Do (aextract 0 x47) fun x49 =>
 Do (aextract 1 x47) fun x50 =>
 Do (aun .not x50) fun x53 =>
 Gd x53 true (
 Do (anilck x4) fun x54 =>
 Do (afaddr 7 x54) fun x55 =>
 Do (astore H41 1 x55 (.int .i64 1)) fun H56 =>
 JoinP (emit_Thread_k2 Φ x4 x39 x49 s32 L33 Q) [] H56) (
 JoinP (emit_Thread_k2 Φ x4 x39 x49 s32 L33 Q) [] H41)) (
 JoinP (emit_Thread_k3 Φ x4 Q) [] s32.2)
def emit_Thread_k5 (Φ : Calls') (x4 : AV) (Q : Post) : List AV → AH → Prop := fun j8 H9 =>
 Do (abuild [.int .i64 0, .int .i64 0, .int .i64 0, .int .i64 0, .int .i64 0, .int .i64 0, .int .i64 0] [(0, 1, (.int .i64 31))]) fun x23 =>
Φ K.emit_maker_add [x4, x23] H9 fun x24 H25 =>
 Do (anilck x4) fun x28 =>
 Do (afaddr 6 x28) fun x29 =>
 Do (aload H25 1 false x29) fun x30 =>
 Do (alen false x30) fun x31 =>
 LoopP (emit_Thread_l4 Φ x4 x30 x31 Q) ([(.int .i64 0)], H25)
def emit_Thread_l6 (Φ : Calls') (a0 : AV) (x4 : AV) (x10 : AV) (Q : Post) : (List AV × AH) → ((List AV × AH) → Prop) → Prop := fun s11 L12 =>
 Do (abin .lss (sl s11.1 0) x10) fun x13 =>
 Gd x13 true (
 Do (aiaddr none 13 a0 (sl s11.1 0)) fun x14 =>
 Do (aload s11.2 13 true x14) fun x15 =>
 DoH (some (abox s11.2 true [.int .i64 0, .int .i64 0, .int .i64 0, .int .i64 0, .int .i64 0, .int .i64 0, .int .u64 0, .int .i64 0, .int .i64 0, .int .i64 0, .int .i64 0, .int .i64 0, .int .i64 0])) fun x16 H17 =>
 Do (astore H17 13 x16 x15) fun H18 =>
 Do (aload H18 13 true x16) fun x19 =>
Φ K.emit_maker_step [x4, x19] H18 fun x20 H21 =>
 Do (abin .add (sl s11.1 0) (.int .i64 1)) fun x22 =>
 L12 ([x22], H21)) (
 JoinP (emit_Thread_k5 Φ x4 Q) [] s11.2)
def emit_Thread (Φ : Calls') (a0 : AV) (a1 : AV) (a2 : AV) (H : AH) (Q : Post) : Prop :=
 Do (abuild [.lst .nil 0 [], .lst .nil 0 [], .lst .nil 0 [], .lst .nil 0 [], .int .i64 0, .nilmap, .lst .nil 0 [], .int .i64 0] [(0, 1, a1), (5, 1, (.map H.n))]) fun x3 =>
 DoH (aboxv (H.push (.map [])) true 8 x3) fun x4 H5 =>
Φ K.emit_maker_constant [x4, (.int .i64 28), a2] H5 fun x6 H7 =>
 Do (alen false a0) fun x10 =>
 LoopP (emit_Thread_l6 Φ a0 x4 x10 Q) ([(.int .i64 0)], H7)
def ir_emit_Thread : AFunc := ⟨95, [.tmp 6, .tmp 7, .tmp 8, .tmp 9],
 .seq (.region [
   ⟨some 6, .mv (.k (.lst .nil 0 [])), none⟩,
   ⟨some 7, .mv (.k (.lst .nil 0 [])), none⟩,
   ⟨some 8, .mv (.k (.lst .nil 0 [])), none⟩,
   ⟨some 9, .mv (.k (.int .i64 0)), none⟩])
 (.seq (.region [
   ⟨some 17, .mv (.t 1), none⟩,
   ⟨some 18, .mkmap, none⟩,
   ⟨some 19, .build [.lst .nil 0 [], .lst .nil 0 [], .lst .nil 0 [], .lst .nil 0 [], .int .i64 0, .nilmap, .lst .nil 0 [], .int .i64 0] [(0, 1, (.t 17)), (5, 1, (.t 18))], none⟩,
   ⟨some 20, .box true 8 (.t 19), none⟩,
   ⟨some 10, .mv (.t 20), none⟩])
 (.seq (.region [
   ⟨some 21, .mv (.t 10), none⟩,
   ⟨some 22, .mv (.t 2), none⟩,
   ⟨some 23, .call K.emit_maker_constant [(.t 21), (.k (.int .i64 28)), (.t 22)], none⟩])
 (.join [] [12, 24, 25, 26, 27, 28, 29, 30, 31, 32, 33] (.seq (.region [
   ⟨some 24, .mv (.t 0), none⟩,
   ⟨some 25, .len false (.t 24), none⟩,
   ⟨some 26, .mv (.k (.int .i64 0)), none⟩])
 (.block 0 (.loop [26] [12, 27, 28, 29, 30, 31, 32, 33] (.seq (.region [
   ⟨some 27, .bin .lss (.t 26) (.t 25), none⟩])
 (.seq (.cond (.t 27) (.skip)
   (.exit 0))
 (.seq (.block 1 (.seq (.region [
   ⟨some 28, .iaddr none 13 (.t 24) (.t 26), none⟩,
   ⟨some 29, .load 13 true (.t 28), none⟩,
   ⟨some 12, .alloc true [.int .i64 0, .int .i64 0, .int .i64 0, .int .i64 0, .int .i64 0, .int .i64 0, .int .u64 0, .int .i64 0, .int .i64 0, .int .i64 0, .int .i64 0, .int .i64 0, .int .i64 0], none⟩,
   ⟨none, .store 13 (.t 12) (.t 29), none⟩])
 (.region [
   ⟨some 30, .mv (.t 10), none⟩,
   ⟨some 31, .load 13 true (.t 12), none⟩,
   ⟨some 32, .call K.emit_maker_step [(.t 30), (.t 31)], none⟩])))
 (.region [
   ⟨some 33, .bin .add (.t 26) (.k (.int .i64 1)), none⟩,
   ⟨some 26, .mv (.t 33), none⟩])))))))
 (.seq (.region [
   ⟨some 34, .mv (.t 10), none⟩,
   ⟨some 35, .build [.int .i64 0, .int .i64 0, .int .i64 0, .int .i64 0, .int .i64 0, .int .i64 0, .int .i64 0] [(0, 1, (.k (.int .i64 31)))], none⟩,
   ⟨some 36, .call K.emit_maker_add [(.t 34), (.t 35)], none⟩])
 (.join [] [14, 15, 16, 37, 38, 39, 40, 41, 42, 43, 44, 45, 46, 47, 48, 49, 50, 51, 52, 53, 54, 55, 56, 57, 58, 59, 60, 61, 62, 63, 64, 65, 66, 67, 68, 69, 70, 71, 72, 73] (.seq (.region [
   ⟨some 37, .mv (.t 10), none⟩,
   ⟨some 38, .nilck (.t 37), none⟩,
   ⟨some 39, .faddr 6 (.t 38), none⟩,
   ⟨some 40, .load 1 false (.t 39), none⟩,
   ⟨some 41, .len false (.t 40), none⟩,
   ⟨some 42, .mv (.k (.int .i64 0)), none⟩])
 (.block 2 (.loop [42] [14, 15, 16, 43, 44, 45, 46, 47, 48, 49, 50, 51, 52, 53, 54, 55, 56, 57, 58, 59, 60, 61, 62, 63, 64, 65, 66, 67, 68, 69, 70, 71, 72, 73] (.seq (.region [
   ⟨some 43, .bin .lss (.t 42) (.t 41), none⟩])
 (.seq (.cond (.t 43) (.skip)
   (.exit 2))
 (.join [] [14, 15, 16, 44, 45, 46, 47, 48, 49, 50, 51, 52, 53, 54, 55, 56, 57, 58, 59, 60, 61, 62, 63, 64, 65, 66, 67, 68, 69, 70, 71, 72] (.block 3 (.seq (.region [
   ⟨some 44, .iaddr none 2 (.t 40) (.t 42), none⟩,
   ⟨some 45, .load 2 true (.t 44), none⟩,
   ⟨some 14, .alloc true [.int .i64 0, .int .i64 0], none⟩,
   ⟨none, .store 2 (.t 14) (.t 45), none⟩])
 (.seq (.draw [
   ⟨some 47, .mv (.t 10), none⟩,
   ⟨some 48, .nilck (.t 47), none⟩,
   ⟨some 49, .faddr 5 (.t 48), none⟩,
   ⟨some 50, .load 1 false (.t 49), none⟩,
   ⟨some 51, .faddr 1 (.t 14), none⟩,
   ⟨some 52, .load 1 false (.t 51), none⟩,
   ⟨some 53, .lookup .n (.int .i64 0) true (.t 50) (.t 52), none⟩,
   ⟨some 46, .mv (.t 53), none⟩,
   ⟨some 54, .extract 0 (.t 46), none⟩,
   ⟨some 55, .extract 1 (.t 46), none⟩,
   ⟨some 15, .mv (.t 54), none⟩,
   ⟨some 16, .mv (.t 55), none⟩]
 [[], [0], [0, 1], [0, 1, 2], [], [4], [0, 1, 2, 3, 4, 5], [0, 1, 2, 3, 4, 5, 6], [0, 1, 2, 3, 4, 5, 6, 7], [0, 1, 2, 3, 4, 5, 6, 7], [0, 1, 2, 3, 4, 5, 6, 7, 8], [0, 1, 2, 3, 4, 5, 6, 7, 8, 9, 10]] [] [0, 1, 2, 3, 4, 5, 6, 7, 8, 9, 10, 11])
 (.join [] [56, 57, 58, 59, 60] (.seq (.region [
   ⟨some 56, .mv (.t 16), none⟩,
   ⟨some 57, .un .not (.t 56), none⟩])
 (.cond (.t 57) (.region [
     ⟨some 58, .mv (.t 10), none⟩,
     ⟨some 59, .nilck (.t 58), none⟩,
     ⟨some 60, .faddr 7 (.t 59), none⟩,
     ⟨none, .store 1 (.t 60) (.k (.int .i64 1)), none⟩])
   (.skip)))
 (.draw [
   ⟨some 61, .mv (.t 10), none⟩,
   ⟨some 62, .nilck (.t 61), none⟩,
   ⟨some 63, .faddr 1 (.t 62), none⟩,
   ⟨some 64, .load 1 false (.t 63), none⟩,
   ⟨some 65, .faddr 0 (.t 14), none⟩,
   ⟨some 66, .load 1 false (.t 65), none⟩,
   ⟨some 67, .mv (.t 15), none⟩,
   ⟨some 68, .faddr 0 (.t 14), none⟩,
   ⟨some 69, .load 1 false (.t 68), none⟩,
   ⟨some 70, .bin .sub (.t 67) (.t 69), none⟩,
   ⟨some 71, .iaddr none 7 (.t 64) (.t 66), none⟩,
   ⟨some 72, .faddr 6 (.t 71), none⟩,
   ⟨none, .store 1 (.t 72) (.t 70), none⟩]
 [[], [0], [0, 1], [0, 1, 2], [], [4], [], [], [7], [6, 7, 8], [0, 1, 2, 3, 4, 5, 6, 7, 8, 9], [0, 1, 2, 3, 4, 5, 6, 7, 8, 9, 10], [0, 1, 2, 3, 4, 5, 6, 7, 8, 9, 10, 11]] [([0, 1, 2, 3, 4, 5, 6, 7, 8, 9, 10, 11], 12, [])] [])))))
 (.region [
   ⟨some 73, .bin .add (.t 42) (.k (.int .i64 1)), none⟩,
   ⟨some 42, .mv (.t 73), none⟩])))))))
 (.seq (.seq (.region [
   ⟨some 74, .mv (.t 10), none⟩,
   ⟨some 75, .nilck (.t 74), none⟩,
   ⟨some 76, .faddr 7 (.t 75), none⟩,
   ⟨some 77, .load 1 false (.t 76), none⟩,
   ⟨some 78, .bin .neq (.t 77) (.k (.int .i64 0)), none⟩])
 (.cond (.t 78) (.seq (.draw [
     ⟨some 79, .mv (.t 10), none⟩,
     ⟨some 80, .nilck (.t 79), none⟩,
     ⟨some 81, .faddr 7 (.t 80), none⟩,
     ⟨some 82, .load 1 false (.t 81), none⟩,
     ⟨some 6, .mv (.k (.lst .nil 0 [])), none⟩,
     ⟨some 7, .mv (.k (.lst .nil 0 [])), none⟩,
     ⟨some 8, .mv (.k (.lst .nil 0 [])), none⟩,
     ⟨some 9, .mv (.t 82), none⟩]
   [[], [0], [0, 1], [0, 1, 2], [], [4], [4, 5], [0, 1, 2, 3, 4, 5, 6]] [] [0, 1, 2, 3, 4, 5, 6, 7])
   (.ret))
   (.skip)))
 (.seq (.draw [
   ⟨some 83, .mv (.t 10), none⟩,
   ⟨some 84, .nilck (.t 83), none⟩,
   ⟨some 85, .faddr 1 (.t 84), none⟩,
   ⟨some 86, .load 1 false (.t 85), none⟩,
   ⟨some 87, .mv (.t 10), none⟩,
   ⟨some 88, .nilck (.t 87), none⟩,
   ⟨some 89, .faddr 2 (.t 88), none⟩,
   ⟨some 90, .load 1 false (.t 89), none⟩,
   ⟨some 91, .mv (.t 10), none⟩,
   ⟨some 92, .nilck (.t 91), none⟩,
   ⟨some 93, .faddr 3 (.t 92), none⟩,
   ⟨some 94, .load 1 false (.t 93), none⟩,
   ⟨some 6, .mv (.t 86), none⟩,
   ⟨some 7, .mv (.t 90), none⟩,
   ⟨some 8, .mv (.t 94), none⟩,
   ⟨some 9, .mv (.k (.int .i64 0)), none⟩]
 [[], [0], [0, 1], [0, 1, 2], [], [4], [4, 5], [4, 5, 6], [], [8], [8, 9], [8, 9, 10], [0, 1, 2, 3], [0, 1, 2, 3, 4, 5, 6, 7, 12], [0, 1, 2, 3, 4, 5, 6, 7, 8, 9, 10, 11, 12, 13], [0, 1, 2, 3, 4, 5, 6, 7, 8, 9, 10, 11, 12, 13, 14]] [] [0, 1, 2, 3, 4, 5, 6, 7, 8, 9, 10, 11, 12, 13, 14, 15])
 (.ret))))))))⟩
theorem eq_emit_Thread (Φ : Calls') (a0 a1 a2 : AV) (H : AH) (Q : Post) : fnE1 Φ ir_emit_Thread [a0, a1, a2] H Q = emit_Thread Φ a0 a1 a2 H Q := by kernel_rfl

/-! (rabbet/emit.maker).constant -/
def emit_maker_constant_l1 (Φ : Calls') (a0 : AV) (x1 : AV) (x3 : AV) (Q : Post) : (List AV × AH) → ((List AV × AH) → Prop) → Prop := fun s4 L5 =>
 Do (abin .lss (sl s4.1 0) x3) fun x6 =>
 Gd x6 true (
 Do (aiaddr none 7 x1 (sl s4.1 0)) fun x7 =>
 Do (aload s4.2 7 true x7) fun x8 =>
 DoH (some (abox s4.2 true [.int .i64 0, .int .i64 0, .int .i64 0, .int .i64 0, .int .i64 0, .int .i64 0, .int .i64 0])) fun x9 H10 =>
 Do (astore H10 7 x9 x8) fun H11 =>
 Do (aload H11 7 true x9) fun x12 =>
Φ K.emit_maker_add [a0, x12] H11 fun x13 H14 =>
 Do (abin .add (sl s4.1 0) (.int .i64 1)) fun x15 =>
 L5 ([x15], H14)) (
 Q (.tup []) s4.2)
def emit_maker_constant (Φ : Calls') (a0 : AV) (a1 : AV) (a2 : AV) (H : AH) (Q : Post) : Prop :=
Φ K.emit_Constant [a1, a2] H fun x1 H2 =>
 Do (alen false x1) fun x3 =>
 LoopP (emit_maker_constant_l1 Φ a0 x1 x3 Q) ([(.int .i64 0)], H2)
def ir_emit_maker_constant : AFunc := ⟨20, [],
 .seq (.region [
   ⟨some 8, .mv (.t 1), none⟩,
   ⟨some 9, .mv (.t 2), none⟩,
   ⟨some 10, .call K.emit_Constant [(.t 8), (.t 9)], none⟩,
   ⟨some 11, .len false (.t 10), none⟩,
   ⟨some 12, .mv (.k (.int .i64 0)), none⟩])
 (.block 0 (.loop [12] [7, 13, 14, 15, 16, 17, 18, 19] (.seq (.region [
   ⟨some 13, .bin .lss (.t 12) (.t 11), none⟩])
 (.seq (.cond (.t 13) (.skip)
   (.exit 0))
 (.seq (.block 1 (.seq (.region [
   ⟨some 14, .iaddr none 7 (.t 10) (.t 12), none⟩,
   ⟨some 15, .load 7 true (.t 14), none⟩,
   ⟨some 7, .alloc true [.int .i64 0, .int .i64 0, .int .i64 0, .int .i64 0, .int .i64 0, .int .i64 0, .int .i64 0], none⟩,
   ⟨none, .store 7 (.t 7) (.t 15), none⟩])
 (.region [
   ⟨some 16, .mv (.t 0), none⟩,
   ⟨some 17, .load 7 true (.t 7), none⟩,
   ⟨some 18, .call K.emit_maker_add [(.t 16), (.t 17)], none⟩])))
 (.region [
   ⟨some 19, .bin .add (.t 12) (.k (.int .i64 1)), none⟩,
   ⟨some 12, .mv (.t 19), none⟩]))))))⟩
theorem eq_emit_maker_constant (Φ : Calls') (a0 a1 a2 : AV) (H : AH) (Q : Post) : fnE1 Φ ir_emit_maker_constant [a0, a1, a2] H Q = emit_maker_constant Φ a0 a1 a2 H Q := by kernel_rfl

/-! (rabbet/emit.maker).step -/
def emit_maker_step_k1 (Φ : Calls') (a0 : AV) (x1 : AV) (Q : Post) : List AV → AH → Prop := fun j65 H66 =>
 Do (afaddr 11 x1) fun x70 =>
 Do (aload H66 1 false x70) fun x71 =>
 Do (abuild [.int .i64 0, .int .i64 0, .int .i64 0, .int .i64 0, .int .i64 0, .int .i64 0, .int .i64 0] [(0, 1, (.int .i64 29)), (6, 1, (sl j65 0))]) fun x72 =>
Φ K.emit_maker_at [a0, x71, x72] H66 fun x73 H74 =>
 Q (.tup []) H74
def emit_maker_step_k2 (Φ : Calls') (a0 : AV) (x1 : AV) (x9 : AV) (Q : Post) : List AV → AH → Prop := fun j87 H88 =>
 Gd (sl j87 0) true (
 Do (aload H88 13 true x1) fun x90 =>
Φ K.emit_maker_jump [a0, x90] H88 fun x91 H92 =>
 Q (.tup []) H92) (
 Do (abin .eql x9 (.int .i64 17)) fun x93 =>
 Gd x93 true (
 Do (aload H88 13 true x1) fun x94 =>
Φ K.emit_maker_bound [a0, x94] H88 fun x95 H96 =>
 Q (.tup []) H96) (
 Do (abin .eql x9 (.int .i64 18)) fun x97 =>
 Gd x97 true (
 Do (afaddr 3 x1) fun x98 =>
 Do (aload H88 1 false x98) fun x99 =>
Φ K.emit_maker_source [a0, x99, (.int .i64 8)] H88 fun x100 H101 =>
 Do (abin .add (.int .i64 1) x100) fun x102 =>
 Do (abuild [.int .i64 0, .int .i64 0, .int .i64 0, .int .i64 0, .int .i64 0, .int .i64 0, .int .i64 0] [(0, 1, (.int .i64 31)), (6, 1, x102)]) fun x103 =>
Φ K.emit_maker_add [a0, x103] H101 fun x104 H105 =>
 Q (.tup []) H105) (
 Do (anilck a0) fun x106 =>
 Do (afaddr 7 x106) fun x107 =>
 Do (astore H88 1 x107 (.int .i64 1)) fun H108 =>
 Q (.tup []) H108)))
def emit_maker_step_k3 (Φ : Calls') (a0 : AV) (x1 : AV) (x9 : AV) (Q : Post) : List AV → AH → Prop := fun j58 H59 =>
 Gd (sl j58 0) true (
 Do (aload H59 13 true x1) fun x61 =>
Φ K.emit_maker_two [a0, x61] H59 fun x62 H63 =>
 Q (.tup []) H63) (
 Do (abin .eql x9 (.int .i64 13)) fun x64 =>
 Gd x64 true (
 Do (afaddr 9 x1) fun x67 =>
 Do (aload H59 1 false x67) fun x68 =>
 Do (abin .eql x68 (.int .i64 2)) fun x69 =>
 Gd x69 true (
 JoinP (emit_maker_step_k1 Φ a0 x1 Q) [(.int .i64 1)] H59) (
 JoinP (emit_maker_step_k1 Φ a0 x1 Q) [(.int .i64 0)] H59)) (
 Do (abin .eql x9 (.int .i64 14)) fun x75 =>
 Gd x75 true (
 Do (anilck a0) fun x76 =>
 Do (afaddr 5 x76) fun x77 =>
 Do (aload H59 1 false x77) fun x78 =>
 Do (afaddr 10 x1) fun x79 =>
 Do (aload H59 1 false x79) fun x80 =>
 Do (anilck a0) fun x81 =>
 Do (afaddr 1 x81) fun x82 =>
 Do (aload H59 1 false x82) fun x83 =>
 Do (alen false x83) fun x84 =>
 Do (amapup H59 .n x78 x80 x84) fun H86 =>
 Q (.tup []) H86) (
 Do (abin .eql x9 (.int .i64 15)) fun x89 =>
 Gd x89 true (
 JoinP (emit_maker_step_k2 Φ a0 x1 x9 Q) [x89] H59) (
 Do (abin .eql x9 (.int .i64 16)) fun x109 =>
 JoinP (emit_maker_step_k2 Φ a0 x1 x9 Q) [x109] H59))))
def emit_maker_step_k4 (Φ : Calls') (a0 : AV) (x1 : AV) (x9 : AV) (Q : Post) : List AV → AH → Prop := fun j48 H49 =>
 Gd (sl j48 0) true (
 Do (aload H49 13 true x1) fun x51 =>
Φ K.emit_maker_change [a0, x51] H49 fun x52 H53 =>
 Q (.tup []) H53) (
 Do (abin .eql x9 (.int .i64 10)) fun x54 =>
 Gd x54 true (
 Do (aload H49 13 true x1) fun x55 =>
Φ K.emit_maker_compare [a0, x55] H49 fun x56 H57 =>
 Q (.tup []) H57) (
 Do (abin .eql x9 (.int .i64 11)) fun x60 =>
 Gd x60 true (
 JoinP (emit_maker_step_k3 Φ a0 x1 x9 Q) [x60] H49) (
 Do (abin .eql x9 (.int .i64 12)) fun x110 =>
 JoinP (emit_maker_step_k3 Φ a0 x1 x9 Q) [x110] H49)))
def emit_maker_step_k5 (Φ : Calls') (a0 : AV) (x1 : AV) (x9 : AV) (Q : Post) : List AV → AH → Prop := fun j42 H43 =>
 Gd (sl j42 0) true (
 Do (aload H43 13 true x1) fun x45 =>
Φ K.emit_maker_store [a0, x45] H43 fun x46 H47 =>
 Q (.tup []) H47) (
 Do (abin .eql x9 (.int .i64 8)) fun x50 =>
 Gd x50 true (
 JoinP (emit_maker_step_k4 Φ a0 x1 x9 Q) [x50] H43) (
 Do (abin .eql x9 (.int .i64 9)) fun x111 =>
 JoinP (emit_maker_step_k4 Φ a0 x1 x9 Q) [x111] H43))
def emit_maker_step_k6 (Φ : Calls') (a0 : AV) (x1 : AV) (x9 : AV) (Q : Post) : List AV → AH → Prop := fun j36 H37 =>
 Gd (sl j36 0) true (
 Do (aload H37 13 true x1) fun x39 =>
Φ K.emit_maker_load [a0, x39] H37 fun x40 H41 =>
 Q (.tup []) H41) (
 Do (abin .eql x9 (.int .i64 5)) fun x44 =>
 Gd x44 true (
 JoinP (emit_maker_step_k5 Φ a0 x1 x9 Q) [x44] H37) (
 Do (abin .eql x9 (.int .i64 7)) fun x112 =>
 JoinP (emit_maker_step_k5 Φ a0 x1 x9 Q) [x112] H37))
def emit_maker_step (Φ : Calls') (a0 : AV) (a1 : AV) (H : AH) (Q : Post) : Prop :=
 DoH (aboxv H false 13 a1) fun x1 H2 =>
 Do (afaddr 12 x1) fun x3 =>
 Do (aload H2 1 false x3) fun x4 =>
 Do (anilck a0) fun x5 =>
 Do (afaddr 4 x5) fun x6 =>
 Do (astore H2 1 x6 x4) fun H7 =>
 Do (afaddr 0 x1) fun x8 =>
 Do (aload H7 1 false x8) fun x9 =>
 Do (abin .eql x9 (.int .i64 1)) fun x10 =>
 Gd x10 true (
 Do (afaddr 1 x1) fun x11 =>
 Do (aload H7 1 false x11) fun x12 =>
Φ K.emit_maker_target [a0, x12, (.int .i64 11)] H7 fun x13 H14 =>
 Do (afaddr 6 x1) fun x15 =>
 Do (aload H14 1 false x15) fun x16 =>
Φ K.emit_maker_constant [a0, x13, x16] H14 fun x17 H18 =>
 Do (afaddr 1 x1) fun x19 =>
 Do (aload H18 1 false x19) fun x20 =>
Φ K.emit_maker_keep [a0, x20, x13] H18 fun x21 H22 =>
 Q (.tup []) H22) (
 Do (abin .eql x9 (.int .i64 2)) fun x23 =>
 Gd x23 true (
 Do (afaddr 1 x1) fun x24 =>
 Do (aload H7 1 false x24) fun x25 =>
 Do (afaddr 3 x1) fun x26 =>
 Do (aload H7 1 false x26) fun x27 =>
Φ K.emit_maker_source [a0, x27, (.int .i64 8)] H7 fun x28 H29 =>
(aload H29 1 false x24 = some x25) ∧
(Φ K.emit_maker_finish [a0, x25, x28] H29 fun x30 H31 =>
 Q (.tup []) H31)) (
 Do (abin .eql x9 (.int .i64 3)) fun x32 =>
 Gd x32 true (
 Do (aload H7 13 true x1) fun x33 =>
Φ K.emit_maker_bin [a0, x33] H7 fun x34 H35 =>
 Q (.tup []) H35) (
 Do (abin .eql x9 (.int .i64 4)) fun x38 =>
 Gd x38 true (
 JoinP (emit_maker_step_k6 Φ a0 x1 x9 Q) [x38] H7) (
 Do (abin .eql x9 (.int .i64 6)) fun x113 =>
 JoinP (emit_maker_step_k6 Φ a0 x1 x9 Q) [x113] H7))))
def ir_emit_maker_step : AFunc := ⟨121, [],
 .seq (.region [
   ⟨some 3, .box false 13 (.t 1), none⟩])
 (.seq (.region [
   ⟨some 6, .mv (.t 0), none⟩,
   ⟨some 7, .faddr 12 (.t 3), none⟩,
   ⟨some 8, .load 1 false (.t 7), none⟩,
   ⟨some 9, .nilck (.t 6), none⟩,
   ⟨some 10, .faddr 4 (.t 9), none⟩,
   ⟨none, .store 1 (.t 10) (.t 8), none⟩])
 (.seq (.region [
   ⟨some 11, .faddr 0 (.t 3), none⟩,
   ⟨some 12, .load 1 false (.t 11), none⟩])
 (.block 0 (.seq (.region [
   ⟨some 17, .bin .eql (.t 12) (.k (.int .i64 1)), none⟩,
   ⟨some 16, .mv (.t 17), none⟩])
 (.cond (.t 16) (.seq (.region [
     ⟨some 18, .mv (.t 0), none⟩,
     ⟨some 19, .faddr 1 (.t 3), none⟩,
     ⟨some 20, .load 1 false (.t 19), none⟩,
     ⟨some 21, .call K.emit_maker_target [(.t 18), (.t 20), (.k (.int .i64 11))], none⟩,
     ⟨some 4, .mv (.t 21), none⟩])
   (.seq (.region [
     ⟨some 22, .mv (.t 0), none⟩,
     ⟨some 23, .mv (.t 4), none⟩,
     ⟨some 24, .faddr 6 (.t 3), none⟩,
     ⟨some 25, .load 1 false (.t 24), none⟩,
     ⟨some 26, .call K.emit_maker_constant [(.t 22), (.t 23), (.t 25)], none⟩])
   (.region [
     ⟨some 27, .mv (.t 0), none⟩,
     ⟨some 28, .faddr 1 (.t 3), none⟩,
     ⟨some 29, .load 1 false (.t 28), none⟩,
     ⟨some 30, .mv (.t 4), none⟩,
     ⟨some 31, .call K.emit_maker_keep [(.t 27), (.t 29), (.t 30)], none⟩])))
   (.seq (.region [
     ⟨some 33, .bin .eql (.t 12) (.k (.int .i64 2)), none⟩,
     ⟨some 32, .mv (.t 33), none⟩])
   (.cond (.t 32) (.draw [
       ⟨some 34, .mv (.t 0), none⟩,
       ⟨some 35, .faddr 1 (.t 3), none⟩,
       ⟨some 36, .load 1 false (.t 35), none⟩,
       ⟨some 37, .mv (.t 0), none⟩,
       ⟨some 38, .faddr 3 (.t 3), none⟩,
       ⟨some 39, .load 1 false (.t 38), none⟩,
       ⟨some 40, .call K.emit_maker_source [(.t 37), (.t 39), (.k (.int .i64 8))], none⟩,
       ⟨some 41, .call K.emit_maker_finish [(.t 34), (.t 36), (.t 40)], none⟩]
     [[], [], [1], [], [], [4], [3, 4, 5], [0, 1, 2, 3, 4, 5, 6]] [([0, 1, 2, 3, 4, 5], 6, [2]), ([], 7, [])] [])
     (.seq (.region [
       ⟨some 43, .bin .eql (.t 12) (.k (.int .i64 3)), none⟩,
       ⟨some 42, .mv (.t 43), none⟩])
     (.cond (.t 42) (.region [
         ⟨some 44, .mv (.t 0), none⟩,
         ⟨some 45, .load 13 true (.t 3), none⟩,
         ⟨some 46, .call K.emit_maker_bin [(.t 44), (.t 45)], none⟩])
       (.join [47] [48, 49] (.seq (.region [
         ⟨some 48, .bin .eql (.t 12) (.k (.int .i64 4)), none⟩,
         ⟨some 47, .mv (.t 48), none⟩])
       (.cond (.t 47) (.skip)
         (.region [
           ⟨some 49, .bin .eql (.t 12) (.k (.int .i64 6)), none⟩,
           ⟨some 47, .mv (.t 49), none⟩])))
       (.cond (.t 47) (.region [
           ⟨some 50, .mv (.t 0), none⟩,
           ⟨some 51, .load 13 true (.t 3), none⟩,
           ⟨some 52, .call K.emit_maker_load [(.t 50), (.t 51)], none⟩])
         (.join [53] [54, 55] (.seq (.region [
           ⟨some 54, .bin .eql (.t 12) (.k (.int .i64 5)), none⟩,
           ⟨some 53, .mv (.t 54), none⟩])
         (.cond (.t 53) (.skip)
           (.region [
             ⟨some 55, .bin .eql (.t 12) (.k (.int .i64 7)), none⟩,
             ⟨some 53, .mv (.t 55), none⟩])))
         (.cond (.t 53) (.region [
             ⟨some 56, .mv (.t 0), none⟩,
             ⟨some 57, .load 13 true (.t 3), none⟩,
             ⟨some 58, .call K.emit_maker_store [(.t 56), (.t 57)], none⟩])
           (.join [59] [60, 61] (.seq (.region [
             ⟨some 60, .bin .eql (.t 12) (.k (.int .i64 8)), none⟩,
             ⟨some 59, .mv (.t 60), none⟩])
           (.cond (.t 59) (.skip)
             (.region [
               ⟨some 61, .bin .eql (.t 12) (.k (.int .i64 9)), none⟩,
               ⟨some 59, .mv (.t 61), none⟩])))
           (.cond (.t 59) (.region [
               ⟨some 62, .mv (.t 0), none⟩,
               ⟨some 63, .load 13 true (.t 3), none⟩,
               ⟨some 64, .call K.emit_maker_change [(.t 62), (.t 63)], none⟩])
             (.seq (.region [
               ⟨some 66, .bin .eql (.t 12) (.k (.int .i64 10)), none⟩,
               ⟨some 65, .mv (.t 66), none⟩])
             (.cond (.t 65) (.region [
                 ⟨some 67, .mv (.t 0), none⟩,
                 ⟨some 68, .load 13 true (.t 3), none⟩,
                 ⟨some 69, .call K.emit_maker_compare [(.t 67), (.t 68)], none⟩])
               (.join [70] [71, 72] (.seq (.region [
                 ⟨some 71, .bin .eql (.t 12) (.k (.int .i64 11)), none⟩,
                 ⟨some 70, .mv (.t 71), none⟩])
               (.cond (.t 70) (.skip)
                 (.region [
                   ⟨some 72, .bin .eql (.t 12) (.k (.int .i64 12)), none⟩,
                   ⟨some 70, .mv (.t 72), none⟩])))
               (.cond (.t 70) (.region [
                   ⟨some 73, .mv (.t 0), none⟩,
                   ⟨some 74, .load 13 true (.t 3), none⟩,
                   ⟨some 75, .call K.emit_maker_two [(.t 73), (.t 74)], none⟩])
                 (.seq (.region [
                   ⟨some 77, .bin .eql (.t 12) (.k (.int .i64 13)), none⟩,
                   ⟨some 76, .mv (.t 77), none⟩])
                 (.cond (.t 76) (.seq (.region [
                     ⟨some 5, .mv (.k (.int .i64 0)), none⟩])
                   (.join [5] [78, 79, 80] (.seq (.region [
                     ⟨some 78, .faddr 9 (.t 3), none⟩,
                     ⟨some 79, .load 1 false (.t 78), none⟩,
                     ⟨some 80, .bin .eql (.t 79) (.k (.int .i64 2)), none⟩])
                   (.cond (.t 80) (.region [
                       ⟨some 5, .mv (.k (.int .i64 1)), none⟩])
                     (.skip)))
                   (.region [
                     ⟨some 81, .mv (.t 0), none⟩,
                     ⟨some 82, .faddr 11 (.t 3), none⟩,
                     ⟨some 83, .load 1 false (.t 82), none⟩,
                     ⟨some 84, .mv (.t 5), none⟩,
                     ⟨some 85, .build [.int .i64 0, .int .i64 0, .int .i64 0, .int .i64 0, .int .i64 0, .int .i64 0, .int .i64 0] [(0, 1, (.k (.int .i64 29))), (6, 1, (.t 84))], none⟩,
                     ⟨some 86, .call K.emit_maker_at [(.t 81), (.t 83), (.t 85)], none⟩])))
                   (.seq (.region [
                     ⟨some 88, .bin .eql (.t 12) (.k (.int .i64 14)), none⟩,
                     ⟨some 87, .mv (.t 88), none⟩])
                   (.cond (.t 87) (.draw [
                       ⟨some 89, .mv (.t 0), none⟩,
                       ⟨some 90, .nilck (.t 89), none⟩,
                       ⟨some 91, .faddr 5 (.t 90), none⟩,
                       ⟨some 92, .load 1 false (.t 91), none⟩,
                       ⟨some 93, .faddr 10 (.t 3), none⟩,
                       ⟨some 94, .load 1 false (.t 93), none⟩,
                       ⟨some 95, .mv (.t 0), none⟩,
                       ⟨some 96, .nilck (.t 95), none⟩,
                       ⟨some 97, .faddr 1 (.t 96), none⟩,
                       ⟨some 98, .load 1 false (.t 97), none⟩,
                       ⟨some 99, .len false (.t 98), none⟩,
                       ⟨none, .mapup .n (.t 92) (.t 94) (.t 99), none⟩]
                     [[], [0], [0, 1], [0, 1, 2], [], [4], [], [6], [6, 7], [6, 7, 8], [6, 7, 8, 9], [0, 1, 2, 3, 4, 5, 6, 7, 8, 9, 10]] [([0, 1, 2, 3, 4, 5, 6, 7, 8, 9, 10], 11, [])] [])
                     (.join [100] [101, 102] (.seq (.region [
                       ⟨some 101, .bin .eql (.t 12) (.k (.int .i64 15)), none⟩,
                       ⟨some 100, .mv (.t 101), none⟩])
                     (.cond (.t 100) (.skip)
                       (.region [
                         ⟨some 102, .bin .eql (.t 12) (.k (.int .i64 16)), none⟩,
                         ⟨some 100, .mv (.t 102), none⟩])))
                     (.cond (.t 100) (.region [
                         ⟨some 103, .mv (.t 0), none⟩,
                         ⟨some 104, .load 13 true (.t 3), none⟩,
                         ⟨some 105, .call K.emit_maker_jump [(.t 103), (.t 104)], none⟩])
                       (.seq (.region [
                         ⟨some 107, .bin .eql (.t 12) (.k (.int .i64 17)), none⟩,
                         ⟨some 106, .mv (.t 107), none⟩])
                       (.cond (.t 106) (.region [
                           ⟨some 108, .mv (.t 0), none⟩,
                           ⟨some 109, .load 13 true (.t 3), none⟩,
                           ⟨some 110, .call K.emit_maker_bound [(.t 108), (.t 109)], none⟩])
                         (.seq (.region [
                           ⟨some 112, .bin .eql (.t 12) (.k (.int .i64 18)), none⟩,
                           ⟨some 111, .mv (.t 112), none⟩])
                         (.cond (.t 111) (.region [
                             ⟨some 113, .mv (.t 0), none⟩,
                             ⟨some 114, .mv (.t 0), none⟩,
                             ⟨some 115, .faddr 3 (.t 3), none⟩,
                             ⟨some 116, .load 1 false (.t 115), none⟩,
                             ⟨some 117, .call K.emit_maker_source [(.t 114), (.t 116), (.k (.int .i64 8))], none⟩,
                             ⟨some 118, .bin .add (.k (.int .i64 1)) (.t 117), none⟩,
                             ⟨some 119, .build [.int .i64 0, .int .i64 0, .int .i64 0, .int .i64 0, .int .i64 0, .int .i64 0, .int .i64 0] [(0, 1, (.k (.int .i64 31))), (6, 1, (.t 118))], none⟩,
                             ⟨some 120, .call K.emit_maker_add [(.t 113), (.t 119)], none⟩])
                           (.region [
                             ⟨some 13, .mv (.t 0), none⟩,
                             ⟨some 14, .nilck (.t 13), none⟩,
                             ⟨some 15, .faddr 7 (.t 14), none⟩,
                             ⟨none, .store 1 (.t 15) (.k (.int .i64 1)), none⟩]))))))))))))))))))))))))))))))⟩
theorem eq_emit_maker_step (Φ : Calls') (a0 a1 : AV) (H : AH) (Q : Post) : fnE1 Φ ir_emit_maker_step [a0, a1] H Q = emit_maker_step Φ a0 a1 H Q := by kernel_rfl

/-! (rabbet/emit.maker).add -/
def emit_maker_add (Φ : Calls') (a0 : AV) (a1 : AV) (H : AH) (Q : Post) : Prop :=
 DoH (aboxv H false 7 a1) fun x1 H2 =>
 Do (aload H2 7 true x1) fun x3 =>
Φ K.emit_maker_at [a0, (.int .i64 0), x3] H2 fun x4 H5 =>
 Q (.tup []) H5
def ir_emit_maker_add : AFunc := ⟨7, [],
 .seq (.region [
   ⟨some 3, .box false 7 (.t 1), none⟩])
 (.region [
   ⟨some 4, .mv (.t 0), none⟩,
   ⟨some 5, .load 7 true (.t 3), none⟩,
   ⟨some 6, .call K.emit_maker_at [(.t 4), (.k (.int .i64 0)), (.t 5)], none⟩])⟩
theorem eq_emit_maker_add (Φ : Calls') (a0 a1 : AV) (H : AH) (Q : Post) : fnE1 Φ ir_emit_maker_add [a0, a1] H Q = emit_maker_add Φ a0 a1 H Q := by kernel_rfl

/-! (rabbet/emit.maker).target -/
def emit_maker_target (Φ : Calls') (a0 : AV) (a1 : AV) (a2 : AV) (H : AH) (Q : Post) : Prop :=
Φ K.emit_maker_place [a0, a1] H fun x1 H2 =>
 Do (abin .geq x1 (.int .i64 0)) fun x3 =>
 Gd x3 true (
 Q x1 H2) (
 Q a2 H2)
def ir_emit_maker_target : AFunc := ⟨15, [.tmp 6],
 .seq (.region [
   ⟨some 6, .mv (.k (.int .i64 0)), none⟩])
 (.seq (.seq (.region [
   ⟨some 8, .mv (.t 0), none⟩,
   ⟨some 9, .mv (.t 1), none⟩,
   ⟨some 10, .call K.emit_maker_place [(.t 8), (.t 9)], none⟩,
   ⟨some 7, .mv (.t 10), none⟩])
 (.seq (.region [
   ⟨some 11, .mv (.t 7), none⟩,
   ⟨some 12, .bin .geq (.t 11) (.k (.int .i64 0)), none⟩])
 (.cond (.t 12) (.seq (.region [
     ⟨some 13, .mv (.t 7), none⟩,
     ⟨some 6, .mv (.t 13), none⟩])
   (.ret))
   (.skip))))
 (.seq (.region [
   ⟨some 14, .mv (.t 2), none⟩,
   ⟨some 6, .mv (.t 14), none⟩])
 (.ret)))⟩
theorem eq_emit_maker_target (Φ : Calls') (a0 a1 a2 : AV) (H : AH) (Q : Post) : fnE1 Φ ir_emit_maker_target [a0, a1, a2] H Q = emit_maker_target Φ a0 a1 a2 H Q := by kernel_rfl

/-! (rabbet/emit.maker).keep -/
def emit_maker_keep (Φ : Calls') (a0 : AV) (a1 : AV) (a2 : AV) (H : AH) (Q : Post) : Prop :=
Φ K.emit_maker_place [a0, a1] H fun x1 H2 =>
 Do (abin .lss x1 (.int .i64 0)) fun x3 =>
 Gd x3 true (
 Do (abin .sub (.int .i64 (-1)) x1) fun x4 =>
 Do (abuild [.int .i64 0, .int .i64 0, .int .i64 0, .int .i64 0, .int .i64 0, .int .i64 0, .int .i64 0] [(0, 1, (.int .i64 18)), (1, 1, a2), (2, 1, (.int .i64 28)), (5, 1, (.int .i64 3)), (6, 1, x4)]) fun x5 =>
Φ K.emit_maker_add [a0, x5] H2 fun x6 H7 =>
 Q (.tup []) H7) (
 Q (.tup []) H2)
def ir_emit_maker_keep : AFunc := ⟨18, [],
 .seq (.region [
   ⟨some 7, .mv (.t 0), none⟩,
   ⟨some 8, .mv (.t 1), none⟩,
   ⟨some 9, .call K.emit_maker_place [(.t 7), (.t 8)], none⟩,
   ⟨some 6, .mv (.t 9), none⟩])
 (.seq (.region [
   ⟨some 10, .mv (.t 6), none⟩,
   ⟨some 11, .bin .lss (.t 10) (.k (.int .i64 0)), none⟩])
 (.cond (.t 11) (.region [
     ⟨some 12, .mv (.t 0), none⟩,
     ⟨some 13, .mv (.t 2), none⟩,
     ⟨some 14, .mv (.t 6), none⟩,
     ⟨some 15, .bin .sub (.k (.int .i64 (-1))) (.t 14), none⟩,
     ⟨some 16, .build [.int .i64 0, .int .i64 0, .int .i64 0, .int .i64 0, .int .i64 0, .int .i64 0, .int .i64 0] [(0, 1, (.k (.int .i64 18))), (1, 1, (.t 13)), (2, 1, (.k (.int .i64 28))), (5, 1, (.k (.int .i64 3))), (6, 1, (.t 15))], none⟩,
     ⟨some 17, .call K.emit_maker_add [(.t 12), (.t 16)], none⟩])
   (.skip)))⟩
theorem eq_emit_maker_keep (Φ : Calls') (a0 a1 a2 : AV) (H : AH) (Q : Post) : fnE1 Φ ir_emit_maker_keep [a0, a1, a2] H Q = emit_maker_keep Φ a0 a1 a2 H Q := by kernel_rfl

/-! (rabbet/emit.maker).finish -/
def emit_maker_finish (Φ : Calls') (a0 : AV) (a1 : AV) (a2 : AV) (H : AH) (Q : Post) : Prop :=
Φ K.emit_maker_target [a0, a1, (.int .i64 11)] H fun x1 H2 =>
Φ K.emit_maker_move [a0, x1, a2] H2 fun x3 H4 =>
Φ K.emit_maker_keep [a0, a1, x1] H4 fun x5 H6 =>
 Q (.tup []) H6
def ir_emit_maker_finish : AFunc := ⟨18, [],
 .seq (.region [
   ⟨some 7, .mv (.t 0), none⟩,
   ⟨some 8, .mv (.t 1), none⟩,
   ⟨some 9, .call K.emit_maker_target [(.t 7), (.t 8), (.k (.int .i64 11))], none⟩,
   ⟨some 6, .mv (.t 9), none⟩])
 (.seq (.region [
   ⟨some 10, .mv (.t 0), none⟩,
   ⟨some 11, .mv (.t 6), none⟩,
   ⟨some 12, .mv (.t 2), none⟩,
   ⟨some 13, .call K.emit_maker_move [(.t 10), (.t 11), (.t 12)], none⟩])
 (.region [
   ⟨some 14, .mv (.t 0), none⟩,
   ⟨some 15, .mv (.t 1), none⟩,
   ⟨some 16, .mv (.t 6), none⟩,
   ⟨some 17, .call K.emit_maker_keep [(.t 14), (.t 15), (.t 16)], none⟩]))⟩
theorem eq_emit_maker_finish (Φ : Calls') (a0 a1 a2 : AV) (H : AH) (Q : Post) : fnE1 Φ ir_emit_maker_finish [a0, a1, a2] H Q = emit_maker_finish Φ a0 a1 a2 H Q := by kernel_rfl

/-! (rabbet/emit.maker).source -/
def emit_maker_source (Φ : Calls') (a0 : AV) (a1 : AV) (a2 : AV) (H : AH) (Q : Post) : Prop :=
Φ K.emit_maker_place [a0, a1] H fun x1 H2 =>
 Do (abin .geq x1 (.int .i64 0)) fun x3 =>
 Gd x3 true (
 Q x1 H2) (
 Do (abin .sub (.int .i64 (-1)) x1) fun x4 =>
 Do (abuild [.int .i64 0, .int .i64 0, .int .i64 0, .int .i64 0, .int .i64 0, .int .i64 0, .int .i64 0] [(0, 1, (.int .i64 17)), (1, 1, a2), (2, 1, (.int .i64 28)), (5, 1, (.int .i64 3)), (6, 1, x4)]) fun x5 =>
Φ K.emit_maker_add [a0, x5] H2 fun x6 H7 =>
 Q a2 H7)
def ir_emit_maker_source : AFunc := ⟨21, [.tmp 6],
 .seq (.region [
   ⟨some 6, .mv (.k (.int .i64 0)), none⟩])
 (.seq (.region [
   ⟨some 8, .mv (.t 0), none⟩,
   ⟨some 9, .mv (.t 1), none⟩,
   ⟨some 10, .call K.emit_maker_place [(.t 8), (.t 9)], none⟩,
   ⟨some 7, .mv (.t 10), none⟩])
 (.seq (.seq (.region [
   ⟨some 11, .mv (.t 7), none⟩,
   ⟨some 12, .bin .geq (.t 11) (.k (.int .i64 0)), none⟩])
 (.cond (.t 12) (.seq (.region [
     ⟨some 13, .mv (.t 7), none⟩,
     ⟨some 6, .mv (.t 13), none⟩])
   (.ret))
   (.skip)))
 (.seq (.region [
   ⟨some 14, .mv (.t 0), none⟩,
   ⟨some 15, .mv (.t 2), none⟩,
   ⟨some 16, .mv (.t 7), none⟩,
   ⟨some 17, .bin .sub (.k (.int .i64 (-1))) (.t 16), none⟩,
   ⟨some 18, .build [.int .i64 0, .int .i64 0, .int .i64 0, .int .i64 0, .int .i64 0, .int .i64 0, .int .i64 0] [(0, 1, (.k (.int .i64 17))), (1, 1, (.t 15)), (2, 1, (.k (.int .i64 28))), (5, 1, (.k (.int .i64 3))), (6, 1, (.t 17))], none⟩,
   ⟨some 19, .call K.emit_maker_add [(.t 14), (.t 18)], none⟩])
 (.seq (.region [
   ⟨some 20, .mv (.t 2), none⟩,
   ⟨some 6, .mv (.t 20), none⟩])
 (.ret)))))⟩
theorem eq_emit_maker_source (Φ : Calls') (a0 a1 a2 : AV) (H : AH) (Q : Post) : fnE1 Φ ir_emit_maker_source [a0, a1, a2] H Q = emit_maker_source Φ a0 a1 a2 H Q := by kernel_rfl

/-! (rabbet/emit.maker).bin -/
def emit_maker_bin_k1 (Φ : Calls') (a0 : AV) (x1 : AV) (x13 : AV) (Q : Post) : List AV → AH → Prop := fun j15 H16 =>
 Do (afaddr 1 x1) fun x25 =>
 Do (aload H16 1 false x25) fun x26 =>
Φ K.emit_maker_keep [a0, x26, x13] H16 fun x27 H28 =>
 Q (.tup []) H28
def emit_maker_bin (Φ : Calls') (a0 : AV) (a1 : AV) (H : AH) (Q : Post) : Prop :=
 DoH (aboxv H false 13 a1) fun x1 H2 =>
 Do (afaddr 3 x1) fun x3 =>
 Do (aload H2 1 false x3) fun x4 =>
 Do (afaddr 4 x1) fun x5 =>
 Do (aload H2 1 false x5) fun x6 =>
 Do (afaddr 1 x1) fun x7 =>
 Do (aload H2 1 false x7) fun x8 =>
Φ K.emit_maker_source [a0, x4, (.int .i64 8)] H2 fun x9 H10 =>
(aload H10 1 false x5 = some x6) ∧
(aload H10 1 false x7 = some x8) ∧
(Φ K.emit_maker_source [a0, x6, (.int .i64 9)] H10 fun x11 H12 =>
(aload H12 1 false x7 = some x8) ∧
(Φ K.emit_maker_target [a0, x8, (.int .i64 11)] H12 fun x13 H14 =>
 Do (afaddr 7 x1) fun x17 =>
 Do (aload H14 1 false x17) fun x18 =>
Φ K.emit_plain [x18] H14 fun x19 H20 =>
 Do (abin .neq x19 (.int .i64 0)) fun x21 =>
 Gd x21 true (
 Do (abuild [.int .i64 0, .int .i64 0, .int .i64 0, .int .i64 0, .int .i64 0, .int .i64 0, .int .i64 0] [(0, 1, x19), (1, 1, x13), (2, 1, x9), (3, 1, x11)]) fun x22 =>
Φ K.emit_maker_add [a0, x22] H20 fun x23 H24 =>
 JoinP (emit_maker_bin_k1 Φ a0 x1 x13 Q) [] H24) (
 Do (abuild [.int .i64 0, .int .i64 0, .int .i64 0, .int .i64 0, .int .i64 0, .int .i64 0, .int .i64 0] [(0, 1, (.int .i64 5)), (1, 1, (.int .i64 31)), (2, 1, x9), (3, 1, x11)]) fun x29 =>
Φ K.emit_maker_add [a0, x29] H20 fun x30 H31 =>
 Do (afaddr 7 x1) fun x32 =>
 Do (aload H31 1 false x32) fun x33 =>
Φ K.emit_condition [x33] H31 fun x34 H35 =>
 Do (abuild [.int .i64 0, .int .i64 0, .int .i64 0, .int .i64 0, .int .i64 0, .int .i64 0, .int .i64 0] [(0, 1, (.int .i64 12)), (1, 1, x13), (4, 1, x34)]) fun x36 =>
Φ K.emit_maker_add [a0, x36] H35 fun x37 H38 =>
 JoinP (emit_maker_bin_k1 Φ a0 x1 x13 Q) [] H38)))
def ir_emit_maker_bin : AFunc := ⟨49, [],
 .seq (.region [
   ⟨some 3, .box false 13 (.t 1), none⟩])
 (.seq (.draw [
   ⟨some 8, .mv (.t 0), none⟩,
   ⟨some 9, .faddr 3 (.t 3), none⟩,
   ⟨some 10, .load 1 false (.t 9), none⟩,
   ⟨some 11, .call K.emit_maker_source [(.t 8), (.t 10), (.k (.int .i64 8))], none⟩,
   ⟨some 12, .mv (.t 0), none⟩,
   ⟨some 13, .faddr 4 (.t 3), none⟩,
   ⟨some 14, .load 1 false (.t 13), none⟩,
   ⟨some 15, .call K.emit_maker_source [(.t 12), (.t 14), (.k (.int .i64 9))], none⟩,
   ⟨some 16, .mv (.t 0), none⟩,
   ⟨some 17, .faddr 1 (.t 3), none⟩,
   ⟨some 18, .load 1 false (.t 17), none⟩,
   ⟨some 19, .call K.emit_maker_target [(.t 16), (.t 18), (.k (.int .i64 11))], none⟩,
   ⟨some 4, .mv (.t 11), none⟩,
   ⟨some 5, .mv (.t 15), none⟩,
   ⟨some 6, .mv (.t 19), none⟩]
 [[], [], [1], [0, 1, 2], [], [], [5], [0, 1, 2, 3, 4, 5, 6], [], [], [9], [0, 1, 2, 3, 4, 5, 6, 7, 8, 9, 10], [0, 1, 2, 3, 4, 5, 6, 7, 8, 9, 10, 11], [0, 1, 2, 3, 4, 5, 6, 7, 8, 9, 10, 11, 12], [0, 1, 2, 3, 4, 5, 6, 7, 8, 9, 10, 11, 12, 13]] [([0, 1, 2, 4, 5, 6, 8, 9, 10], 3, [6, 10]), ([], 7, [10]), ([], 11, [])] [12, 13, 14])
 (.join [] [7, 20, 21, 22, 23, 24, 25, 26, 27, 28, 29, 30, 31, 32, 33, 34, 35, 36, 37, 38, 39, 40, 41, 42, 43] (.seq (.region [
   ⟨some 20, .faddr 7 (.t 3), none⟩,
   ⟨some 21, .load 1 false (.t 20), none⟩,
   ⟨some 22, .call K.emit_plain [(.t 21)], none⟩,
   ⟨some 7, .mv (.t 22), none⟩])
 (.seq (.region [
   ⟨some 23, .mv (.t 7), none⟩,
   ⟨some 24, .bin .neq (.t 23) (.k (.int .i64 0)), none⟩])
 (.cond (.t 24) (.region [
     ⟨some 25, .mv (.t 0), none⟩,
     ⟨some 26, .mv (.t 7), none⟩,
     ⟨some 27, .mv (.t 6), none⟩,
     ⟨some 28, .mv (.t 4), none⟩,
     ⟨some 29, .mv (.t 5), none⟩,
     ⟨some 30, .build [.int .i64 0, .int .i64 0, .int .i64 0, .int .i64 0, .int .i64 0, .int .i64 0, .int .i64 0] [(0, 1, (.t 26)), (1, 1, (.t 27)), (2, 1, (.t 28)), (3, 1, (.t 29))], none⟩,
     ⟨some 31, .call K.emit_maker_add [(.t 25), (.t 30)], none⟩])
   (.seq (.region [
     ⟨some 32, .mv (.t 0), none⟩,
     ⟨some 33, .mv (.t 4), none⟩,
     ⟨some 34, .mv (.t 5), none⟩,
     ⟨some 35, .build [.int .i64 0, .int .i64 0, .int .i64 0, .int .i64 0, .int .i64 0, .int .i64 0, .int .i64 0] [(0, 1, (.k (.int .i64 5))), (1, 1, (.k (.int .i64 31))), (2, 1, (.t 33)), (3, 1, (.t 34))], none⟩,
     ⟨some 36, .call K.emit_maker_add [(.t 32), (.t 35)], none⟩])
   (.region [
     ⟨some 37, .mv (.t 0), none⟩,
     ⟨some 38, .mv (.t 6), none⟩,
     ⟨some 39, .faddr 7 (.t 3), none⟩,
     ⟨some 40, .load 1 false (.t 39), none⟩,
     ⟨some 41, .call K.emit_condition [(.t 40)], none⟩,
     ⟨some 42, .build [.int .i64 0, .int .i64 0, .int .i64 0, .int .i64 0, .int .i64 0, .int .i64 0, .int .i64 0] [(0, 1, (.k (.int .i64 12))), (1, 1, (.t 38)), (4, 1, (.t 41))], none⟩,
     ⟨some 43, .call K.emit_maker_add [(.t 37), (.t 42)], none⟩])))))
 (.region [
   ⟨some 44, .mv (.t 0), none⟩,
   ⟨some 45, .faddr 1 (.t 3), none⟩,
   ⟨some 46, .load 1 false (.t 45), none⟩,
   ⟨some 47, .mv (.t 6), none⟩,
   ⟨some 48, .call K.emit_maker_keep [(.t 44), (.t 46), (.t 47)], none⟩])))⟩
theorem eq_emit_maker_bin (Φ : Calls') (a0 a1 : AV) (H : AH) (Q : Post) : fnE1 Φ ir_emit_maker_bin [a0, a1] H Q = emit_maker_bin Φ a0 a1 H Q := by kernel_rfl

/-! (rabbet/emit.maker).load -/
def emit_maker_load (Φ : Calls') (a0 : AV) (a1 : AV) (H : AH) (Q : Post) : Prop :=
 DoH (aboxv H false 13 a1) fun x1 H2 =>
 Do (aload H2 13 true x1) fun x3 =>
 Do (afaddr 1 x1) fun x4 =>
 Do (aload H2 1 false x4) fun x5 =>
Φ K.emit_maker_address [a0, x3] H2 fun x6 H7 =>
(aload H7 1 false x4 = some x5) ∧
(Φ K.emit_maker_target [a0, x5, (.int .i64 11)] H7 fun x8 H9 =>
 Do (afaddr 11 x1) fun x10 =>
 Do (aload H9 1 false x10) fun x11 =>
 Do (afaddr 9 x1) fun x12 =>
 Do (aload H9 1 false x12) fun x13 =>
 Do (afaddr 8 x1) fun x14 =>
 Do (aload H9 1 false x14) fun x15 =>
Φ K.emit_acquires [x13] H9 fun x16 H17 =>
(aload H17 1 false x10 = some x11) ∧
(aload H17 1 false x14 = some x15) ∧
(Φ K.emit_either [x16, (.int .i64 19), (.int .i64 17)] H17 fun x18 H19 =>
(aload H19 1 false x10 = some x11) ∧
(aload H19 1 false x14 = some x15) ∧
(Φ K.emit_size [x15] H19 fun x20 H21 =>
(aload H21 1 false x10 = some x11) ∧
(Do (abuild [.int .i64 0, .int .i64 0, .int .i64 0, .int .i64 0, .int .i64 0, .int .i64 0, .int .i64 0] [(0, 1, x18), (1, 1, x8), (2, 1, x6), (5, 1, x20)]) fun x22 =>
Φ K.emit_maker_at [a0, x11, x22] H21 fun x23 H24 =>
 Do (afaddr 1 x1) fun x25 =>
 Do (aload H24 1 false x25) fun x26 =>
Φ K.emit_maker_keep [a0, x26, x8] H24 fun x27 H28 =>
 Q (.tup []) H28))))
def ir_emit_maker_load : AFunc := ⟨32, [],
 .seq (.region [
   ⟨some 3, .box false 13 (.t 1), none⟩])
 (.seq (.draw [
   ⟨some 6, .mv (.t 0), none⟩,
   ⟨some 7, .load 13 true (.t 3), none⟩,
   ⟨some 8, .call K.emit_maker_address [(.t 6), (.t 7)], none⟩,
   ⟨some 9, .mv (.t 0), none⟩,
   ⟨some 10, .faddr 1 (.t 3), none⟩,
   ⟨some 11, .load 1 false (.t 10), none⟩,
   ⟨some 12, .call K.emit_maker_target [(.t 9), (.t 11), (.k (.int .i64 11))], none⟩,
   ⟨some 4, .mv (.t 8), none⟩,
   ⟨some 5, .mv (.t 12), none⟩]
 [[], [], [0, 1], [], [], [4], [0, 1, 2, 3, 4, 5], [0, 1, 2, 3, 4, 5, 6], [0, 1, 2, 3, 4, 5, 6, 7]] [([0, 1, 3, 4, 5], 2, [5]), ([], 6, [])] [7, 8])
 (.seq (.draw [
   ⟨some 13, .mv (.t 0), none⟩,
   ⟨some 14, .faddr 11 (.t 3), none⟩,
   ⟨some 15, .load 1 false (.t 14), none⟩,
   ⟨some 16, .faddr 9 (.t 3), none⟩,
   ⟨some 17, .load 1 false (.t 16), none⟩,
   ⟨some 18, .call K.emit_acquires [(.t 17)], none⟩,
   ⟨some 19, .call K.emit_either [(.t 18), (.k (.int .i64 19)), (.k (.int .i64 17))], none⟩,
   ⟨some 20, .mv (.t 5), none⟩,
   ⟨some 21, .mv (.t 4), none⟩,
   ⟨some 22, .faddr 8 (.t 3), none⟩,
   ⟨some 23, .load 1 false (.t 22), none⟩,
   ⟨some 24, .call K.emit_size [(.t 23)], none⟩,
   ⟨some 25, .build [.int .i64 0, .int .i64 0, .int .i64 0, .int .i64 0, .int .i64 0, .int .i64 0, .int .i64 0] [(0, 1, (.t 19)), (1, 1, (.t 20)), (2, 1, (.t 21)), (5, 1, (.t 24))], none⟩,
   ⟨some 26, .call K.emit_maker_at [(.t 13), (.t 15), (.t 25)], none⟩]
 [[], [], [1], [], [3], [3, 4], [3, 4, 5], [], [], [], [9], [3, 4, 5, 6, 9, 10], [3, 4, 5, 6, 7, 8, 9, 10, 11], [0, 1, 2, 3, 4, 5, 6, 7, 8, 9, 10, 11, 12]] [([0, 1, 2, 3, 4, 7, 8, 9, 10], 5, [2, 10]), ([], 6, [2, 10]), ([], 11, [2]), ([12], 13, [])] [])
 (.region [
   ⟨some 27, .mv (.t 0), none⟩,
   ⟨some 28, .faddr 1 (.t 3), none⟩,
   ⟨some 29, .load 1 false (.t 28), none⟩,
   ⟨some 30, .mv (.t 5), none⟩,
   ⟨some 31, .call K.emit_maker_keep [(.t 27), (.t 29), (.t 30)], none⟩])))⟩
theorem eq_emit_maker_load (Φ : Calls') (a0 a1 : AV) (H : AH) (Q : Post) : fnE1 Φ ir_emit_maker_load [a0, a1] H Q = emit_maker_load Φ a0 a1 H Q := by kernel_rfl

/-! (rabbet/emit.maker).store -/
def emit_maker_store (Φ : Calls') (a0 : AV) (a1 : AV) (H : AH) (Q : Post) : Prop :=
 DoH (aboxv H false 13 a1) fun x1 H2 =>
 Do (aload H2 13 true x1) fun x3 =>
 Do (afaddr 4 x1) fun x4 =>
 Do (aload H2 1 false x4) fun x5 =>
Φ K.emit_maker_address [a0, x3] H2 fun x6 H7 =>
(aload H7 1 false x4 = some x5) ∧
(Φ K.emit_maker_source [a0, x5, (.int .i64 9)] H7 fun x8 H9 =>
 Do (afaddr 11 x1) fun x10 =>
 Do (aload H9 1 false x10) fun x11 =>
 Do (afaddr 9 x1) fun x12 =>
 Do (aload H9 1 false x12) fun x13 =>
 Do (afaddr 8 x1) fun x14 =>
 Do (aload H9 1 false x14) fun x15 =>
Φ K.emit_releases [x13] H9 fun x16 H17 =>
(aload H17 1 false x10 = some x11) ∧
(aload H17 1 false x14 = some x15) ∧
(Φ K.emit_either [x16, (.int .i64 20), (.int .i64 18)] H17 fun x18 H19 =>
(aload H19 1 false x10 = some x11) ∧
(aload H19 1 false x14 = some x15) ∧
(Φ K.emit_size [x15] H19 fun x20 H21 =>
(aload H21 1 false x10 = some x11) ∧
(Do (abuild [.int .i64 0, .int .i64 0, .int .i64 0, .int .i64 0, .int .i64 0, .int .i64 0, .int .i64 0] [(0, 1, x18), (1, 1, x8), (2, 1, x6), (5, 1, x20)]) fun x22 =>
Φ K.emit_maker_at [a0, x11, x22] H21 fun x23 H24 =>
 Q (.tup []) H24))))
def ir_emit_maker_store : AFunc := ⟨27, [],
 .seq (.region [
   ⟨some 3, .box false 13 (.t 1), none⟩])
 (.seq (.draw [
   ⟨some 6, .mv (.t 0), none⟩,
   ⟨some 7, .load 13 true (.t 3), none⟩,
   ⟨some 8, .call K.emit_maker_address [(.t 6), (.t 7)], none⟩,
   ⟨some 9, .mv (.t 0), none⟩,
   ⟨some 10, .faddr 4 (.t 3), none⟩,
   ⟨some 11, .load 1 false (.t 10), none⟩,
   ⟨some 12, .call K.emit_maker_source [(.t 9), (.t 11), (.k (.int .i64 9))], none⟩,
   ⟨some 4, .mv (.t 8), none⟩,
   ⟨some 5, .mv (.t 12), none⟩]
 [[], [], [0, 1], [], [], [4], [0, 1, 2, 3, 4, 5], [0, 1, 2, 3, 4, 5, 6], [0, 1, 2, 3, 4, 5, 6, 7]] [([0, 1, 3, 4, 5], 2, [5]), ([], 6, [])] [7, 8])
 (.draw [
   ⟨some 13, .mv (.t 0), none⟩,
   ⟨some 14, .faddr 11 (.t 3), none⟩,
   ⟨some 15, .load 1 false (.t 14), none⟩,
   ⟨some 16, .faddr 9 (.t 3), none⟩,
   ⟨some 17, .load 1 false (.t 16), none⟩,
   ⟨some 18, .call K.emit_releases [(.t 17)], none⟩,
   ⟨some 19, .call K.emit_either [(.t 18), (.k (.int .i64 20)), (.k (.int .i64 18))], none⟩,
   ⟨some 20, .mv (.t 5), none⟩,
   ⟨some 21, .mv (.t 4), none⟩,
   ⟨some 22, .faddr 8 (.t 3), none⟩,
   ⟨some 23, .load 1 false (.t 22), none⟩,
   ⟨some 24, .call K.emit_size [(.t 23)], none⟩,
   ⟨some 25, .build [.int .i64 0, .int .i64 0, .int .i64 0, .int .i64 0, .int .i64 0, .int .i64 0, .int .i64 0] [(0, 1, (.t 19)), (1, 1, (.t 20)), (2, 1, (.t 21)), (5, 1, (.t 24))], none⟩,
   ⟨some 26, .call K.emit_maker_at [(.t 13), (.t 15), (.t 25)], none⟩]
 [[], [], [1], [], [3], [3, 4], [3, 4, 5], [], [], [], [9], [3, 4, 5, 6, 9, 10], [3, 4, 5, 6, 7, 8, 9, 10, 11], [0, 1, 2, 3, 4, 5, 6, 7, 8, 9, 10, 11, 12]] [([0, 1, 2, 3, 4, 7, 8, 9, 10], 5, [2, 10]), ([], 6, [2, 10]), ([], 11, [2]), ([12], 13, [])] []))⟩
theorem eq_emit_maker_store (Φ : Calls') (a0 a1 : AV) (H : AH) (Q : Post) : fnE1 Φ ir_emit_maker_store [a0, a1] H Q = emit_maker_store Φ a0 a1 H Q := by kernel_rfl

/-! (rabbet/emit.maker).change -/
def emit_maker_change_k1 (Φ : Calls') (a0 : AV) (x1 : AV) (x7 : AV) (x21 : AV) (x26 : AV) (x29 : AV) (Q : Post) : List AV → AH → Prop := fun j36 H37 =>
 Do (afaddr 11 x1) fun x44 =>
 Do (aload H37 1 false x44) fun x45 =>
 Do (abuild [.int .i64 0, .int .i64 0, .int .i64 0, .int .i64 0, .int .i64 0, .int .i64 0, .int .i64 0] [(0, 1, x21), (3, 1, (.int .i64 13)), (1, 1, (sl j36 0)), (2, 1, x7), (5, 1, x29)]) fun x46 =>
Φ K.emit_maker_at [a0, x45, x46] H37 fun x47 H48 =>
Φ K.emit_maker_back [a0, x26] H48 fun x49 H50 =>
 Do (afaddr 1 x1) fun x51 =>
 Do (aload H50 1 false x51) fun x52 =>
Φ K.emit_maker_finish [a0, x52, (.int .i64 14)] H50 fun x53 H54 =>
 Q (.tup []) H54
def emit_maker_change (Φ : Calls') (a0 : AV) (a1 : AV) (H : AH) (Q : Post) : Prop :=
 DoH (aboxv H false 13 a1) fun x1 H2 =>
 Do (afaddr 3 x1) fun x3 =>
 Do (aload H2 1 false x3) fun x4 =>
 Do (afaddr 4 x1) fun x5 =>
 Do (aload H2 1 false x5) fun x6 =>
Φ K.emit_maker_source [a0, x4, (.int .i64 8)] H2 fun x7 H8 =>
(aload H8 1 false x5 = some x6) ∧
(Φ K.emit_maker_source [a0, x6, (.int .i64 9)] H8 fun x9 H10 =>
 Do (afaddr 9 x1) fun x11 =>
 Do (aload H10 1 false x11) fun x12 =>
 Do (afaddr 9 x1) fun x13 =>
 Do (aload H10 1 false x13) fun x14 =>
Φ K.emit_acquires [x12] H10 fun x15 H16 =>
(aload H16 1 false x13 = some x14) ∧
(Φ K.emit_either [x15, (.int .i64 22), (.int .i64 21)] H16 fun x17 H18 =>
(aload H18 1 false x13 = some x14) ∧
(Φ K.emit_releases [x14] H18 fun x19 H20 =>
Φ K.emit_either [x19, (.int .i64 24), (.int .i64 23)] H20 fun x21 H22 =>
 Do (anilck a0) fun x23 =>
 Do (afaddr 1 x23) fun x24 =>
 Do (aload H22 1 false x24) fun x25 =>
 Do (alen false x25) fun x26 =>
 Do (afaddr 8 x1) fun x27 =>
 Do (aload H22 1 false x27) fun x28 =>
Φ K.emit_size [x28] H22 fun x29 H30 =>
(aload H30 1 false x24 = some x25) ∧
(Do (afaddr 11 x1) fun x31 =>
 Do (aload H30 1 false x31) fun x32 =>
 Do (abuild [.int .i64 0, .int .i64 0, .int .i64 0, .int .i64 0, .int .i64 0, .int .i64 0, .int .i64 0] [(0, 1, x17), (1, 1, (.int .i64 14)), (2, 1, x7), (5, 1, x29)]) fun x33 =>
Φ K.emit_maker_at [a0, x32, x33] H30 fun x34 H35 =>
 Do (afaddr 0 x1) fun x38 =>
 Do (aload H35 1 false x38) fun x39 =>
 Do (abin .eql x39 (.int .i64 8)) fun x40 =>
 Gd x40 true (
 Do (abuild [.int .i64 0, .int .i64 0, .int .i64 0, .int .i64 0, .int .i64 0, .int .i64 0, .int .i64 0] [(0, 1, (.int .i64 3)), (1, 1, (.int .i64 12)), (2, 1, (.int .i64 14)), (3, 1, x9)]) fun x41 =>
Φ K.emit_maker_add [a0, x41] H35 fun x42 H43 =>
 JoinP (emit_maker_change_k1 Φ a0 x1 x7 x21 x26 x29 Q) [(.int .i64 12)] H43) (
 JoinP (emit_maker_change_k1 Φ a0 x1 x7 x21 x26 x29 Q) [x9] H35)))))
def ir_emit_maker_change : AFunc := ⟨68, [],
 .seq (.region [
   ⟨some 3, .box false 13 (.t 1), none⟩])
 (.seq (.draw [
   ⟨some 11, .mv (.t 0), none⟩,
   ⟨some 12, .faddr 3 (.t 3), none⟩,
   ⟨some 13, .load 1 false (.t 12), none⟩,
   ⟨some 14, .call K.emit_maker_source [(.t 11), (.t 13), (.k (.int .i64 8))], none⟩,
   ⟨some 15, .mv (.t 0), none⟩,
   ⟨some 16, .faddr 4 (.t 3), none⟩,
   ⟨some 17, .load 1 false (.t 16), none⟩,
   ⟨some 18, .call K.emit_maker_source [(.t 15), (.t 17), (.k (.int .i64 9))], none⟩,
   ⟨some 4, .mv (.t 14), none⟩,
   ⟨some 5, .mv (.t 18), none⟩]
 [[], [], [1], [0, 1, 2], [], [], [5], [0, 1, 2, 3, 4, 5, 6], [0, 1, 2, 3, 4, 5, 6, 7], [0, 1, 2, 3, 4, 5, 6, 7, 8]] [([0, 1, 2, 4, 5, 6], 3, [6]), ([], 7, [])] [8, 9])
 (.seq (.draw [
   ⟨some 19, .faddr 9 (.t 3), none⟩,
   ⟨some 20, .load 1 false (.t 19), none⟩,
   ⟨some 21, .call K.emit_acquires [(.t 20)], none⟩,
   ⟨some 22, .call K.emit_either [(.t 21), (.k (.int .i64 22)), (.k (.int .i64 21))], none⟩,
   ⟨some 23, .faddr 9 (.t 3), none⟩,
   ⟨some 24, .load 1 false (.t 23), none⟩,
   ⟨some 25, .call K.emit_releases [(.t 24)], none⟩,
   ⟨some 26, .call K.emit_either [(.t 25), (.k (.int .i64 24)), (.k (.int .i64 23))], none⟩,
   ⟨some 6, .mv (.t 22), none⟩,
   ⟨some 7, .mv (.t 26), none⟩]
 [[], [0], [0, 1], [0, 1, 2], [], [4], [0, 1, 2, 3, 4, 5], [0, 1, 2, 3, 4, 5, 6], [0, 1, 2, 3, 4, 5, 6, 7], [0, 1, 2, 3, 4, 5, 6, 7, 8]] [([0, 1, 4, 5], 2, [5]), ([], 3, [5]), ([], 6, []), ([], 7, [])] [8, 9])
 (.seq (.draw [
   ⟨some 27, .mv (.t 0), none⟩,
   ⟨some 28, .nilck (.t 27), none⟩,
   ⟨some 29, .faddr 1 (.t 28), none⟩,
   ⟨some 30, .load 1 false (.t 29), none⟩,
   ⟨some 31, .len false (.t 30), none⟩,
   ⟨some 32, .faddr 8 (.t 3), none⟩,
   ⟨some 33, .load 1 false (.t 32), none⟩,
   ⟨some 34, .call K.emit_size [(.t 33)], none⟩,
   ⟨some 35, .mv (.t 5), none⟩,
   ⟨some 8, .mv (.t 31), none⟩,
   ⟨some 9, .mv (.t 34), none⟩,
   ⟨some 10, .mv (.t 35), none⟩]
 [[], [0], [0, 1], [0, 1, 2], [0, 1, 2, 3], [], [5], [5, 6], [], [0, 1, 2, 3, 4, 5, 6, 7], [0, 1, 2, 3, 4, 5, 6, 7, 9], [0, 1, 2, 3, 4, 5, 6, 7, 8, 9, 10]] [([0, 1, 2, 3, 4, 5, 6, 8], 7, [3])] [9, 10, 11])
 (.seq (.region [
   ⟨some 36, .mv (.t 0), none⟩,
   ⟨some 37, .faddr 11 (.t 3), none⟩,
   ⟨some 38, .load 1 false (.t 37), none⟩,
   ⟨some 39, .mv (.t 6), none⟩,
   ⟨some 40, .mv (.t 4), none⟩,
   ⟨some 41, .mv (.t 9), none⟩,
   ⟨some 42, .build [.int .i64 0, .int .i64 0, .int .i64 0, .int .i64 0, .int .i64 0, .int .i64 0, .int .i64 0] [(0, 1, (.t 39)), (1, 1, (.k (.int .i64 14))), (2, 1, (.t 40)), (5, 1, (.t 41))], none⟩,
   ⟨some 43, .call K.emit_maker_at [(.t 36), (.t 38), (.t 42)], none⟩])
 (.join [10] [44, 45, 46, 47, 48, 49, 50, 51] (.seq (.region [
   ⟨some 44, .faddr 0 (.t 3), none⟩,
   ⟨some 45, .load 1 false (.t 44), none⟩,
   ⟨some 46, .bin .eql (.t 45) (.k (.int .i64 8)), none⟩])
 (.cond (.t 46) (.seq (.region [
     ⟨some 10, .mv (.k (.int .i64 12)), none⟩])
   (.region [
     ⟨some 47, .mv (.t 0), none⟩,
     ⟨some 48, .mv (.t 10), none⟩,
     ⟨some 49, .mv (.t 5), none⟩,
     ⟨some 50, .build [.int .i64 0, .int .i64 0, .int .i64 0, .int .i64 0, .int .i64 0, .int .i64 0, .int .i64 0] [(0, 1, (.k (.int .i64 3))), (1, 1, (.t 48)), (2, 1, (.k (.int .i64 14))), (3, 1, (.t 49))], none⟩,
     ⟨some 51, .call K.emit_maker_add [(.t 47), (.t 50)], none⟩]))
   (.skip)))
 (.seq (.region [
   ⟨some 52, .mv (.t 0), none⟩,
   ⟨some 53, .faddr 11 (.t 3), none⟩,
   ⟨some 54, .load 1 false (.t 53), none⟩,
   ⟨some 55, .mv (.t 7), none⟩,
   ⟨some 56, .mv (.t 10), none⟩,
   ⟨some 57, .mv (.t 4), none⟩,
   ⟨some 58, .mv (.t 9), none⟩,
   ⟨some 59, .build [.int .i64 0, .int .i64 0, .int .i64 0, .int .i64 0, .int .i64 0, .int .i64 0, .int .i64 0] [(0, 1, (.t 55)), (3, 1, (.k (.int .i64 13))), (1, 1, (.t 56)), (2, 1, (.t 57)), (5, 1, (.t 58))], none⟩,
   ⟨some 60, .call K.emit_maker_at [(.t 52), (.t 54), (.t 59)], none⟩])
 (.seq (.region [
   ⟨some 61, .mv (.t 0), none⟩,
   ⟨some 62, .mv (.t 8), none⟩,
   ⟨some 63, .call K.emit_maker_back [(.t 61), (.t 62)], none⟩])
 (.region [
   ⟨some 64, .mv (.t 0), none⟩,
   ⟨some 65, .faddr 1 (.t 3), none⟩,
   ⟨some 66, .load 1 false (.t 65), none⟩,
   ⟨some 67, .call K.emit_maker_finish [(.t 64), (.t 66), (.k (.int .i64 14))], none⟩]))))))))⟩
theorem eq_emit_maker_change (Φ : Calls') (a0 a1 : AV) (H : AH) (Q : Post) : fnE1 Φ ir_emit_maker_change [a0, a1] H Q = emit_maker_change Φ a0 a1 H Q := by kernel_rfl

/-! (rabbet/emit.maker).compare -/
def emit_maker_compare_k1 (Φ : Calls') (a0 : AV) (x1 : AV) (x9 : AV) (x13 : AV) (x21 : AV) (x25 : AV) (x29 : AV) (Q : Post) : List AV → AH → Prop := fun j31 H32 =>
 Do (anilck a0) fun x46 =>
 Do (afaddr 1 x46) fun x47 =>
 Do (aload H32 1 false x47) fun x48 =>
 Do (alen false x48) fun x49 =>
 Do (afaddr 11 x1) fun x50 =>
 Do (aload H32 1 false x50) fun x51 =>
 Do (abuild [.int .i64 0, .int .i64 0, .int .i64 0, .int .i64 0, .int .i64 0, .int .i64 0, .int .i64 0] [(0, 1, x21), (1, 1, (.int .i64 14)), (2, 1, x9), (5, 1, x29)]) fun x52 =>
Φ K.emit_maker_at [a0, x51, x52] H32 fun x53 H54 =>
 Do (abuild [.int .i64 0, .int .i64 0, .int .i64 0, .int .i64 0, .int .i64 0, .int .i64 0, .int .i64 0] [(0, 1, (.int .i64 5)), (1, 1, (.int .i64 31)), (2, 1, (.int .i64 14)), (3, 1, (sl j31 0))]) fun x55 =>
Φ K.emit_maker_add [a0, x55] H54 fun x56 H57 =>
 Do (abuild [.int .i64 0, .int .i64 0, .int .i64 0, .int .i64 0, .int .i64 0, .int .i64 0, .int .i64 0] [(0, 1, (.int .i64 14)), (4, 1, (.int .i64 1)), (6, 1, (.int .i64 4))]) fun x58 =>
Φ K.emit_maker_add [a0, x58] H57 fun x59 H60 =>
 Do (afaddr 11 x1) fun x61 =>
 Do (aload H60 1 false x61) fun x62 =>
 Do (abuild [.int .i64 0, .int .i64 0, .int .i64 0, .int .i64 0, .int .i64 0, .int .i64 0, .int .i64 0] [(0, 1, x25), (3, 1, (.int .i64 13)), (1, 1, x13), (2, 1, x9), (5, 1, x29)]) fun x63 =>
Φ K.emit_maker_at [a0, x62, x63] H60 fun x64 H65 =>
Φ K.emit_maker_back [a0, x49] H65 fun x66 H67 =>
 Do (abuild [.int .i64 0, .int .i64 0, .int .i64 0, .int .i64 0, .int .i64 0, .int .i64 0, .int .i64 0] [(0, 1, (.int .i64 13)), (6, 1, (.int .i64 2))]) fun x68 =>
Φ K.emit_maker_add [a0, x68] H67 fun x69 H70 =>
 Do (abuild [.int .i64 0, .int .i64 0, .int .i64 0, .int .i64 0, .int .i64 0, .int .i64 0, .int .i64 0] [(0, 1, (.int .i64 30))]) fun x71 =>
Φ K.emit_maker_add [a0, x71] H70 fun x72 H73 =>
 Do (afaddr 1 x1) fun x74 =>
 Do (aload H73 1 false x74) fun x75 =>
Φ K.emit_maker_finish [a0, x75, (.int .i64 14)] H73 fun x76 H77 =>
 Q (.tup []) H77
def emit_maker_compare (Φ : Calls') (a0 : AV) (a1 : AV) (H : AH) (Q : Post) : Prop :=
 DoH (aboxv H false 13 a1) fun x1 H2 =>
 Do (afaddr 3 x1) fun x3 =>
 Do (aload H2 1 false x3) fun x4 =>
 Do (afaddr 4 x1) fun x5 =>
 Do (aload H2 1 false x5) fun x6 =>
 Do (afaddr 5 x1) fun x7 =>
 Do (aload H2 1 false x7) fun x8 =>
Φ K.emit_maker_source [a0, x4, (.int .i64 8)] H2 fun x9 H10 =>
(aload H10 1 false x5 = some x6) ∧
(aload H10 1 false x7 = some x8) ∧
(Φ K.emit_maker_source [a0, x6, (.int .i64 9)] H10 fun x11 H12 =>
(aload H12 1 false x7 = some x8) ∧
(Φ K.emit_maker_source [a0, x8, (.int .i64 10)] H12 fun x13 H14 =>
 Do (afaddr 9 x1) fun x15 =>
 Do (aload H14 1 false x15) fun x16 =>
 Do (afaddr 9 x1) fun x17 =>
 Do (aload H14 1 false x17) fun x18 =>
Φ K.emit_acquires [x16] H14 fun x19 H20 =>
(aload H20 1 false x17 = some x18) ∧
(Φ K.emit_either [x19, (.int .i64 22), (.int .i64 21)] H20 fun x21 H22 =>
(aload H22 1 false x17 = some x18) ∧
(Φ K.emit_releases [x18] H22 fun x23 H24 =>
Φ K.emit_either [x23, (.int .i64 24), (.int .i64 23)] H24 fun x25 H26 =>
 Do (afaddr 8 x1) fun x27 =>
 Do (aload H26 1 false x27) fun x28 =>
Φ K.emit_size [x28] H26 fun x29 H30 =>
 Do (afaddr 8 x1) fun x33 =>
 Do (aload H30 1 false x33) fun x34 =>
 Do (abin .lss x34 (.int .i64 8)) fun x35 =>
 Gd x35 true (
 Do (afaddr 8 x1) fun x36 =>
 Do (aload H30 1 false x36) fun x37 =>
 Do (abin .mul (.int .i64 8) x37) fun x38 =>
 Do (abin .shl (.int .u64 1) x38) fun x39 =>
 Do (abin .sub x39 (.int .u64 1)) fun x40 =>
Φ K.emit_maker_constant [a0, (.int .i64 12), x40] H30 fun x41 H42 =>
 Do (abuild [.int .i64 0, .int .i64 0, .int .i64 0, .int .i64 0, .int .i64 0, .int .i64 0, .int .i64 0] [(0, 1, (.int .i64 6)), (1, 1, (.int .i64 12)), (2, 1, x11), (3, 1, (.int .i64 12))]) fun x43 =>
Φ K.emit_maker_add [a0, x43] H42 fun x44 H45 =>
 JoinP (emit_maker_compare_k1 Φ a0 x1 x9 x13 x21 x25 x29 Q) [(.int .i64 12)] H45) (
 JoinP (emit_maker_compare_k1 Φ a0 x1 x9 x13 x21 x25 x29 Q) [x11] H30)))))
def ir_emit_maker_compare : AFunc := ⟨90, [],
 .seq (.region [
   ⟨some 3, .box false 13 (.t 1), none⟩])
 (.seq (.draw [
   ⟨some 11, .mv (.t 0), none⟩,
   ⟨some 12, .faddr 3 (.t 3), none⟩,
   ⟨some 13, .load 1 false (.t 12), none⟩,
   ⟨some 14, .call K.emit_maker_source [(.t 11), (.t 13), (.k (.int .i64 8))], none⟩,
   ⟨some 15, .mv (.t 0), none⟩,
   ⟨some 16, .faddr 4 (.t 3), none⟩,
   ⟨some 17, .load 1 false (.t 16), none⟩,
   ⟨some 18, .call K.emit_maker_source [(.t 15), (.t 17), (.k (.int .i64 9))], none⟩,
   ⟨some 19, .mv (.t 0), none⟩,
   ⟨some 20, .faddr 5 (.t 3), none⟩,
   ⟨some 21, .load 1 false (.t 20), none⟩,
   ⟨some 22, .call K.emit_maker_source [(.t 19), (.t 21), (.k (.int .i64 10))], none⟩,
   ⟨some 4, .mv (.t 14), none⟩,
   ⟨some 5, .mv (.t 18), none⟩,
   ⟨some 6, .mv (.t 22), none⟩]
 [[], [], [1], [0, 1, 2], [], [], [5], [0, 1, 2, 3, 4, 5, 6], [], [], [9], [0, 1, 2, 3, 4, 5, 6, 7, 8, 9, 10], [0, 1, 2, 3, 4, 5, 6, 7, 8, 9, 10, 11], [0, 1, 2, 3, 4, 5, 6, 7, 8, 9, 10, 11, 12], [0, 1, 2, 3, 4, 5, 6, 7, 8, 9, 10, 11, 12, 13]] [([0, 1, 2, 4, 5, 6, 8, 9, 10], 3, [6, 10]), ([], 7, [10]), ([], 11, [])] [12, 13, 14])
 (.seq (.draw [
   ⟨some 23, .faddr 9 (.t 3), none⟩,
   ⟨some 24, .load 1 false (.t 23), none⟩,
   ⟨some 25, .call K.emit_acquires [(.t 24)], none⟩,
   ⟨some 26, .call K.emit_either [(.t 25), (.k (.int .i64 22)), (.k (.int .i64 21))], none⟩,
   ⟨some 27, .faddr 9 (.t 3), none⟩,
   ⟨some 28, .load 1 false (.t 27), none⟩,
   ⟨some 29, .call K.emit_releases [(.t 28)], none⟩,
   ⟨some 30, .call K.emit_either [(.t 29), (.k (.int .i64 24)), (.k (.int .i64 23))], none⟩,
   ⟨some 7, .mv (.t 26), none⟩,
   ⟨some 8, .mv (.t 30), none⟩]
 [[], [0], [0, 1], [0, 1, 2], [], [4], [0, 1, 2, 3, 4, 5], [0, 1, 2, 3, 4, 5, 6], [0, 1, 2, 3, 4, 5, 6, 7], [0, 1, 2, 3, 4, 5, 6, 7, 8]] [([0, 1, 4, 5], 2, [5]), ([], 3, [5]), ([], 6, []), ([], 7, [])] [8, 9])
 (.seq (.region [
   ⟨some 31, .faddr 8 (.t 3), none⟩,
   ⟨some 32, .load 1 false (.t 31), none⟩,
   ⟨some 33, .call K.emit_size [(.t 32)], none⟩,
   ⟨some 9, .mv (.t 33), none⟩])
 (.join [5] [34, 35, 36, 37, 38, 39, 40, 41, 42, 43, 44, 45, 46, 47] (.seq (.region [
   ⟨some 34, .faddr 8 (.t 3), none⟩,
   ⟨some 35, .load 1 false (.t 34), none⟩,
   ⟨some 36, .bin .lss (.t 35) (.k (.int .i64 8)), none⟩])
 (.cond (.t 36) (.seq (.region [
     ⟨some 37, .mv (.t 0), none⟩,
     ⟨some 38, .faddr 8 (.t 3), none⟩,
     ⟨some 39, .load 1 false (.t 38), none⟩,
     ⟨some 40, .bin .mul (.k (.int .i64 8)) (.t 39), none⟩,
     ⟨some 41, .bin .shl (.k (.int .u64 1)) (.t 40), none⟩,
     ⟨some 42, .bin .sub (.t 41) (.k (.int .u64 1)), none⟩,
     ⟨some 43, .call K.emit_maker_constant [(.t 37), (.k (.int .i64 12)), (.t 42)], none⟩])
   (.seq (.region [
     ⟨some 44, .mv (.t 0), none⟩,
     ⟨some 45, .mv (.t 5), none⟩,
     ⟨some 46, .build [.int .i64 0, .int .i64 0, .int .i64 0, .int .i64 0, .int .i64 0, .int .i64 0, .int .i64 0] [(0, 1, (.k (.int .i64 6))), (1, 1, (.k (.int .i64 12))), (2, 1, (.t 45)), (3, 1, (.k (.int .i64 12)))], none⟩,
     ⟨some 47, .call K.emit_maker_add [(.t 44), (.t 46)], none⟩])
   (.region [
     ⟨some 5, .mv (.k (.int .i64 12)), none⟩])))
   (.skip)))
 (.seq (.region [
   ⟨some 48, .mv (.t 0), none⟩,
   ⟨some 49, .nilck (.t 48), none⟩,
   ⟨some 50, .faddr 1 (.t 49), none⟩,
   ⟨some 51, .load 1 false (.t 50), none⟩,
   ⟨some 52, .len false (.t 51), none⟩,
   ⟨some 10, .mv (.t 52), none⟩])
 (.seq (.region [
   ⟨some 53, .mv (.t 0), none⟩,
   ⟨some 54, .faddr 11 (.t 3), none⟩,
   ⟨some 55, .load 1 false (.t 54), none⟩,
   ⟨some 56, .mv (.t 7), none⟩,
   ⟨some 57, .mv (.t 4), none⟩,
   ⟨some 58, .mv (.t 9), none⟩,
   ⟨some 59, .build [.int .i64 0, .int .i64 0, .int .i64 0, .int .i64 0, .int .i64 0, .int .i64 0, .int .i64 0] [(0, 1, (.t 56)), (1, 1, (.k (.int .i64 14))), (2, 1, (.t 57)), (5, 1, (.t 58))], none⟩,
   ⟨some 60, .call K.emit_maker_at [(.t 53), (.t 55), (.t 59)], none⟩])
 (.seq (.region [
   ⟨some 61, .mv (.t 0), none⟩,
   ⟨some 62, .mv (.t 5), none⟩,
   ⟨some 63, .build [.int .i64 0, .int .i64 0, .int .i64 0, .int .i64 0, .int .i64 0, .int .i64 0, .int .i64 0] [(0, 1, (.k (.int .i64 5))), (1, 1, (.k (.int .i64 31))), (2, 1, (.k (.int .i64 14))), (3, 1, (.t 62))], none⟩,
   ⟨some 64, .call K.emit_maker_add [(.t 61), (.t 63)], none⟩])
 (.seq (.region [
   ⟨some 65, .mv (.t 0), none⟩,
   ⟨some 66, .build [.int .i64 0, .int .i64 0, .int .i64 0, .int .i64 0, .int .i64 0, .int .i64 0, .int .i64 0] [(0, 1, (.k (.int .i64 14))), (4, 1, (.k (.int .i64 1))), (6, 1, (.k (.int .i64 4)))], none⟩,
   ⟨some 67, .call K.emit_maker_add [(.t 65), (.t 66)], none⟩])
 (.seq (.region [
   ⟨some 68, .mv (.t 0), none⟩,
   ⟨some 69, .faddr 11 (.t 3), none⟩,
   ⟨some 70, .load 1 false (.t 69), none⟩,
   ⟨some 71, .mv (.t 8), none⟩,
   ⟨some 72, .mv (.t 6), none⟩,
   ⟨some 73, .mv (.t 4), none⟩,
   ⟨some 74, .mv (.t 9), none⟩,
   ⟨some 75, .build [.int .i64 0, .int .i64 0, .int .i64 0, .int .i64 0, .int .i64 0, .int .i64 0, .int .i64 0] [(0, 1, (.t 71)), (3, 1, (.k (.int .i64 13))), (1, 1, (.t 72)), (2, 1, (.t 73)), (5, 1, (.t 74))], none⟩,
   ⟨some 76, .call K.emit_maker_at [(.t 68), (.t 70), (.t 75)], none⟩])
 (.seq (.region [
   ⟨some 77, .mv (.t 0), none⟩,
   ⟨some 78, .mv (.t 10), none⟩,
   ⟨some 79, .call K.emit_maker_back [(.t 77), (.t 78)], none⟩])
 (.seq (.region [
   ⟨some 80, .mv (.t 0), none⟩,
   ⟨some 81, .build [.int .i64 0, .int .i64 0, .int .i64 0, .int .i64 0, .int .i64 0, .int .i64 0, .int .i64 0] [(0, 1, (.k (.int .i64 13))), (6, 1, (.k (.int .i64 2)))], none⟩,
   ⟨some 82, .call K.emit_maker_add [(.t 80), (.t 81)], none⟩])
 (.seq (.region [
   ⟨some 83, .mv (.t 0), none⟩,
   ⟨some 84, .build [.int .i64 0, .int .i64 0, .int .i64 0, .int .i64 0, .int .i64 0, .int .i64 0, .int .i64 0] [(0, 1, (.k (.int .i64 30)))], none⟩,
   ⟨some 85, .call K.emit_maker_add [(.t 83), (.t 84)], none⟩])
 (.region [
   ⟨some 86, .mv (.t 0), none⟩,
   ⟨some 87, .faddr 1 (.t 3), none⟩,
   ⟨some 88, .load 1 false (.t 87), none⟩,
   ⟨some 89, .call K.emit_maker_finish [(.t 86), (.t 88), (.k (.int .i64 14))], none⟩])))))))))))))⟩
theorem eq_emit_maker_compare (Φ : Calls') (a0 a1 : AV) (H : AH) (Q : Post) : fnE1 Φ ir_emit_maker_compare [a0, a1] H Q = emit_maker_compare Φ a0 a1 H Q := by kernel_rfl

/-! (rabbet/emit.maker).two -/
def emit_maker_two_k1 (Φ : Calls') (a0 : AV) (x1 : AV) (x5 : AV) (j7 : List AV) (j18 : List AV) (Q : Post) : List AV → AH → Prop := fun j32 H33 =>
 Do (anilck a0) fun x45 =>
 Do (afaddr 1 x45) fun x46 =>
 Do (aload H33 1 false x46) fun x47 =>
 Do (alen false x47) fun x48 =>
 Do (afaddr 11 x1) fun x49 =>
 Do (aload H33 1 false x49) fun x50 =>
 Do (abuild [.int .i64 0, .int .i64 0, .int .i64 0, .int .i64 0, .int .i64 0, .int .i64 0, .int .i64 0] [(0, 1, (sl j7 0)), (1, 1, (.int .i64 14)), (4, 1, (.int .i64 12)), (2, 1, x5)]) fun x51 =>
Φ K.emit_maker_at [a0, x50, x51] H33 fun x52 H53 =>
 Do (afaddr 11 x1) fun x54 =>
 Do (aload H53 1 false x54) fun x55 =>
 Do (abuild [.int .i64 0, .int .i64 0, .int .i64 0, .int .i64 0, .int .i64 0, .int .i64 0, .int .i64 0] [(0, 1, (sl j18 0)), (3, 1, (.int .i64 13)), (1, 1, (sl j32 0)), (4, 1, (sl j32 1)), (2, 1, x5)]) fun x56 =>
Φ K.emit_maker_at [a0, x55, x56] H53 fun x57 H58 =>
Φ K.emit_maker_back [a0, x48] H58 fun x59 H60 =>
 Do (afaddr 0 x1) fun x61 =>
 Do (aload H60 1 false x61) fun x62 =>
 Do (abin .eql x62 (.int .i64 11)) fun x63 =>
 Gd x63 true (
 Do (afaddr 1 x1) fun x64 =>
 Do (aload H60 1 false x64) fun x65 =>
Φ K.emit_maker_finish [a0, x65, (.int .i64 14)] H60 fun x66 H67 =>
 Do (afaddr 2 x1) fun x68 =>
 Do (aload H67 1 false x68) fun x69 =>
Φ K.emit_maker_finish [a0, x69, (.int .i64 12)] H67 fun x70 H71 =>
 Q (.tup []) H71) (
 Q (.tup []) H60)
def emit_maker_two_k2 (Φ : Calls') (a0 : AV) (x1 : AV) (x5 : AV) (j7 : List AV) (Q : Post) : List AV → AH → Prop := fun j18 H19 =>
 Do (afaddr 0 x1) fun x34 =>
 Do (aload H19 1 false x34) fun x35 =>
 Do (abin .eql x35 (.int .i64 12)) fun x36 =>
 Gd x36 true (
 Do (afaddr 4 x1) fun x37 =>
 Do (aload H19 1 false x37) fun x38 =>
 Do (afaddr 5 x1) fun x39 =>
 Do (aload H19 1 false x39) fun x40 =>
Φ K.emit_maker_source [a0, x38, (.int .i64 9)] H19 fun x41 H42 =>
(aload H42 1 false x39 = some x40) ∧
(Φ K.emit_maker_source [a0, x40, (.int .i64 10)] H42 fun x43 H44 =>
 JoinP (emit_maker_two_k1 Φ a0 x1 x5 j7 j18 Q) [x41, x43] H44)) (
 JoinP (emit_maker_two_k1 Φ a0 x1 x5 j7 j18 Q) [(.int .i64 14), (.int .i64 12)] H19)
def emit_maker_two_k3 (Φ : Calls') (a0 : AV) (x1 : AV) (x5 : AV) (Q : Post) : List AV → AH → Prop := fun j7 H8 =>
 Do (afaddr 9 x1) fun x20 =>
 Do (aload H8 1 false x20) fun x21 =>
 Do (abin .eql x21 (.int .i64 4)) fun x22 =>
 Gd3 x22 false (
 Do (afaddr 0 x1) fun x23 =>
 Do (aload H8 1 false x23) fun x24 =>
 Do (abin .eql x24 (.int .i64 12)) fun x25 =>
 Gd3 x25 true (
 Do (afaddr 9 x1) fun x26 =>
 Do (aload H8 1 false x26) fun x27 =>
Φ K.emit_releases [x27] H8 fun x28 H29 =>
Φ K.emit_either [x28, (.int .i64 28), (.int .i64 27)] H29 fun x30 H31 =>
 JoinP (emit_maker_two_k2 Φ a0 x1 x5 j7 Q) [x30] H31) (
Φ K.emit_either [(.bool false), (.int .i64 28), (.int .i64 27)] H8 fun x72 H73 =>
 JoinP (emit_maker_two_k2 Φ a0 x1 x5 j7 Q) [x72] H73) (
 False)) (
Φ K.emit_either [(.bool true), (.int .i64 28), (.int .i64 27)] H8 fun x74 H75 =>
 JoinP (emit_maker_two_k2 Φ a0 x1 x5 j7 Q) [x74] H75) (
 False)
def emit_maker_two (Φ : Calls') (a0 : AV) (a1 : AV) (H : AH) (Q : Post) : Prop :=
 DoH (aboxv H false 13 a1) fun x1 H2 =>
 Do (afaddr 3 x1) fun x3 =>
 Do (aload H2 1 false x3) fun x4 =>
Φ K.emit_maker_source [a0, x4, (.int .i64 8)] H2 fun x5 H6 =>
 Do (afaddr 0 x1) fun x9 =>
 Do (aload H6 1 false x9) fun x10 =>
 Do (abin .eql x10 (.int .i64 11)) fun x11 =>
 Gd3 x11 true (
 Do (afaddr 9 x1) fun x12 =>
 Do (aload H6 1 false x12) fun x13 =>
Φ K.emit_acquires [x13] H6 fun x14 H15 =>
Φ K.emit_either [x14, (.int .i64 26), (.int .i64 25)] H15 fun x16 H17 =>
 JoinP (emit_maker_two_k3 Φ a0 x1 x5 Q) [x16] H17) (
Φ K.emit_either [(.bool false), (.int .i64 26), (.int .i64 25)] H6 fun x76 H77 =>
 JoinP (emit_maker_two_k3 Φ a0 x1 x5 Q) [x76] H77) (
 False)
def ir_emit_maker_two : AFunc := ⟨83, [],
 .seq (.region [
   ⟨some 3, .box false 13 (.t 1), none⟩])
 (.seq (.region [
   ⟨some 10, .mv (.t 0), none⟩,
   ⟨some 11, .faddr 3 (.t 3), none⟩,
   ⟨some 12, .load 1 false (.t 11), none⟩,
   ⟨some 13, .call K.emit_maker_source [(.t 10), (.t 12), (.k (.int .i64 8))], none⟩,
   ⟨some 4, .mv (.t 13), none⟩])
 (.seq (.region [
   ⟨some 5, .mv (.k (.int .i64 14)), none⟩,
   ⟨some 6, .mv (.k (.int .i64 12)), none⟩])
 (.join [7] [14, 15, 16, 17, 18, 19, 20, 21, 22] (.region [
   ⟨some 14, .faddr 0 (.t 3), none⟩,
   ⟨some 15, .load 1 false (.t 14), none⟩,
   ⟨some 16, .bin .eql (.t 15) (.k (.int .i64 11)), none⟩,
   ⟨some 17, .mv (.t 16), none⟩,
   ⟨some 18, .faddr 9 (.t 3), some (17, true)⟩,
   ⟨some 19, .load 1 false (.t 18), some (17, true)⟩,
   ⟨some 20, .call K.emit_acquires [(.t 19)], some (17, true)⟩,
   ⟨some 21, .pick (.t 17) (.t 20) (.k (.bool false)), none⟩,
   ⟨some 22, .call K.emit_either [(.t 21), (.k (.int .i64 26)), (.k (.int .i64 25))], none⟩,
   ⟨some 7, .mv (.t 22), none⟩])
 (.join [8] [23, 24, 25, 26, 27, 28, 29, 30, 31, 32, 33, 34, 35, 36] (.region [
   ⟨some 23, .faddr 9 (.t 3), none⟩,
   ⟨some 24, .load 1 false (.t 23), none⟩,
   ⟨some 25, .bin .eql (.t 24) (.k (.int .i64 4)), none⟩,
   ⟨some 26, .mv (.t 25), none⟩,
   ⟨some 27, .faddr 0 (.t 3), some (26, false)⟩,
   ⟨some 28, .load 1 false (.t 27), some (26, false)⟩,
   ⟨some 29, .bin .eql (.t 28) (.k (.int .i64 12)), some (26, false)⟩,
   ⟨some 30, .mv (.t 29), some (26, false)⟩,
   ⟨some 31, .faddr 9 (.t 3), some (30, true)⟩,
   ⟨some 32, .load 1 false (.t 31), some (30, true)⟩,
   ⟨some 33, .call K.emit_releases [(.t 32)], some (30, true)⟩,
   ⟨some 34, .pick (.t 30) (.t 33) (.k (.bool false)), some (26, false)⟩,
   ⟨some 35, .pick (.t 26) (.k (.bool true)) (.t 34), none⟩,
   ⟨some 36, .call K.emit_either [(.t 35), (.k (.int .i64 28)), (.k (.int .i64 27))], none⟩,
   ⟨some 8, .mv (.t 36), none⟩])
 (.join [5, 6] [37, 38, 39, 40, 41, 42, 43, 44, 45, 46, 47] (.seq (.region [
   ⟨some 37, .faddr 0 (.t 3), none⟩,
   ⟨some 38, .load 1 false (.t 37), none⟩,
   ⟨some 39, .bin .eql (.t 38) (.k (.int .i64 12)), none⟩])
 (.cond (.t 39) (.draw [
     ⟨some 40, .mv (.t 0), none⟩,
     ⟨some 41, .faddr 4 (.t 3), none⟩,
     ⟨some 42, .load 1 false (.t 41), none⟩,
     ⟨some 43, .call K.emit_maker_source [(.t 40), (.t 42), (.k (.int .i64 9))], none⟩,
     ⟨some 44, .mv (.t 0), none⟩,
     ⟨some 45, .faddr 5 (.t 3), none⟩,
     ⟨some 46, .load 1 false (.t 45), none⟩,
     ⟨some 47, .call K.emit_maker_source [(.t 44), (.t 46), (.k (.int .i64 10))], none⟩,
     ⟨some 5, .mv (.t 43), none⟩,
     ⟨some 6, .mv (.t 47), none⟩]
   [[], [], [1], [0, 1, 2], [], [], [5], [0, 1, 2, 3, 4, 5, 6], [0, 1, 2, 3, 4, 5, 6, 7], [0, 1, 2, 3, 4, 5, 6, 7, 8]] [([0, 1, 2, 4, 5, 6], 3, [6]), ([], 7, [])] [8, 9])
   (.skip)))
 (.seq (.region [
   ⟨some 48, .mv (.t 0), none⟩,
   ⟨some 49, .nilck (.t 48), none⟩,
   ⟨some 50, .faddr 1 (.t 49), none⟩,
   ⟨some 51, .load 1 false (.t 50), none⟩,
   ⟨some 52, .len false (.t 51), none⟩,
   ⟨some 9, .mv (.t 52), none⟩])
 (.seq (.region [
   ⟨some 53, .mv (.t 0), none⟩,
   ⟨some 54, .faddr 11 (.t 3), none⟩,
   ⟨some 55, .load 1 false (.t 54), none⟩,
   ⟨some 56, .mv (.t 7), none⟩,
   ⟨some 57, .mv (.t 4), none⟩,
   ⟨some 58, .build [.int .i64 0, .int .i64 0, .int .i64 0, .int .i64 0, .int .i64 0, .int .i64 0, .int .i64 0] [(0, 1, (.t 56)), (1, 1, (.k (.int .i64 14))), (4, 1, (.k (.int .i64 12))), (2, 1, (.t 57))], none⟩,
   ⟨some 59, .call K.emit_maker_at [(.t 53), (.t 55), (.t 58)], none⟩])
 (.seq (.region [
   ⟨some 60, .mv (.t 0), none⟩,
   ⟨some 61, .faddr 11 (.t 3), none⟩,
   ⟨some 62, .load 1 false (.t 61), none⟩,
   ⟨some 63, .mv (.t 8), none⟩,
   ⟨some 64, .mv (.t 5), none⟩,
   ⟨some 65, .mv (.t 6), none⟩,
   ⟨some 66, .mv (.t 4), none⟩,
   ⟨some 67, .build [.int .i64 0, .int .i64 0, .int .i64 0, .int .i64 0, .int .i64 0, .int .i64 0, .int .i64 0] [(0, 1, (.t 63)), (3, 1, (.k (.int .i64 13))), (1, 1, (.t 64)), (4, 1, (.t 65)), (2, 1, (.t 66))], none⟩,
   ⟨some 68, .call K.emit_maker_at [(.t 60), (.t 62), (.t 67)], none⟩])
 (.seq (.region [
   ⟨some 69, .mv (.t 0), none⟩,
   ⟨some 70, .mv (.t 9), none⟩,
   ⟨some 71, .call K.emit_maker_back [(.t 69), (.t 70)], none⟩])
 (.seq (.region [
   ⟨some 72, .faddr 0 (.t 3), none⟩,
   ⟨some 73, .load 1 false (.t 72), none⟩,
   ⟨some 74, .bin .eql (.t 73) (.k (.int .i64 11)), none⟩])
 (.cond (.t 74) (.seq (.region [
     ⟨some 75, .mv (.t 0), none⟩,
     ⟨some 76, .faddr 1 (.t 3), none⟩,
     ⟨some 77, .load 1 false (.t 76), none⟩,
     ⟨some 78, .call K.emit_maker_finish [(.t 75), (.t 77), (.k (.int .i64 14))], none⟩])
   (.region [
     ⟨some 79, .mv (.t 0), none⟩,
     ⟨some 80, .faddr 2 (.t 3), none⟩,
     ⟨some 81, .load 1 false (.t 80), none⟩,
     ⟨some 82, .call K.emit_maker_finish [(.t 79), (.t 81), (.k (.int .i64 12))], none⟩]))
   (.skip))))))))))))⟩
theorem eq_emit_maker_two (Φ : Calls') (a0 a1 : AV) (H : AH) (Q : Post) : fnE1 Φ ir_emit_maker_two [a0, a1] H Q = emit_maker_two Φ a0 a1 H Q := by kernel_rfl

/-! (rabbet/emit.maker).at -/
def emit_maker_at (Φ : Calls') (a0 : AV) (a1 : AV) (a2 : AV) (H : AH) (Q : Post) : Prop :=
 DoH (aboxv H false 7 a2) fun x1 H2 =>
 Do (anilck a0) fun x3 =>
 Do (afaddr 1 x3) fun x4 =>
 Do (aload H2 1 false x4) fun x5 =>
 Do (aload H2 7 true x1) fun x6 =>
 DoH (abslice H2 false 7 1 [.int .i64 0, .int .i64 0, .int .i64 0, .int .i64 0, .int .i64 0, .int .i64 0, .int .i64 0] [(0, 7, x6)]) fun x7 H8 =>
 DoH (aappend H8 true 7 56 x5 x7) fun x9 H10 =>
 Do (anilck a0) fun x11 =>
 Do (afaddr 1 x11) fun x12 =>
 Do (astore H10 1 x12 x9) fun H13 =>
 Do (anilck a0) fun x14 =>
 Do (afaddr 2 x14) fun x15 =>
 Do (aload H13 1 false x15) fun x16 =>
 DoH (abslice H13 false 1 1 [.int .i64 0] [(0, 1, a1)]) fun x17 H18 =>
 DoH (aappend H18 true 1 8 x16 x17) fun x19 H20 =>
 Do (anilck a0) fun x21 =>
 Do (afaddr 2 x21) fun x22 =>
 Do (astore H20 1 x22 x19) fun H23 =>
 Do (anilck a0) fun x24 =>
 Do (afaddr 3 x24) fun x25 =>
 Do (aload H23 1 false x25) fun x26 =>
 Do (anilck a0) fun x27 =>
 Do (afaddr 4 x27) fun x28 =>
 Do (aload H23 1 false x28) fun x29 =>
 DoH (abslice H23 false 1 1 [.int .i64 0] [(0, 1, x29)]) fun x30 H31 =>
 DoH (aappend H31 true 1 8 x26 x30) fun x32 H33 =>
 Do (anilck a0) fun x34 =>
 Do (afaddr 3 x34) fun x35 =>
 Do (astore H33 1 x35 x32) fun H36 =>
 Q (.tup []) H36
def ir_emit_maker_at : AFunc := ⟨39, [],
 .seq (.region [
   ⟨some 5, .box false 7 (.t 2), none⟩])
 (.seq (.draw [
   ⟨some 6, .mv (.t 0), none⟩,
   ⟨some 7, .mv (.t 0), none⟩,
   ⟨some 8, .nilck (.t 7), none⟩,
   ⟨some 9, .faddr 1 (.t 8), none⟩,
   ⟨some 10, .load 1 false (.t 9), none⟩,
   ⟨some 11, .load 7 true (.t 5), none⟩,
   ⟨some 12, .bslice false 7 1 [.int .i64 0, .int .i64 0, .int .i64 0, .int .i64 0, .int .i64 0, .int .i64 0, .int .i64 0] [(0, 7, (.t 11))], none⟩,
   ⟨some 13, .append true 7 56 (.t 10) (.t 12), none⟩,
   ⟨some 14, .nilck (.t 6), none⟩,
   ⟨some 15, .faddr 1 (.t 14), none⟩,
   ⟨none, .store 1 (.t 15) (.t 13), none⟩]
 [[], [], [1], [1, 2], [1, 2, 3], [], [5], [1, 2, 3, 4, 5, 6], [0, 1, 2, 3, 4, 5, 6, 7], [0, 1, 2, 3, 4, 5, 6, 7, 8], [0, 1, 2, 3, 4, 5, 6, 7, 8, 9]] [([0, 1, 2, 3, 4, 5, 6], 7, []), ([8, 9], 10, [])] [])
 (.seq (.region [
   ⟨some 16, .mv (.t 0), none⟩,
   ⟨some 17, .mv (.t 0), none⟩,
   ⟨some 18, .nilck (.t 17), none⟩,
   ⟨some 19, .faddr 2 (.t 18), none⟩,
   ⟨some 20, .load 1 false (.t 19), none⟩,
   ⟨some 21, .mv (.t 1), none⟩,
   ⟨some 22, .bslice false 1 1 [.int .i64 0] [(0, 1, (.t 21))], none⟩,
   ⟨some 23, .append true 1 8 (.t 20) (.t 22), none⟩,
   ⟨some 24, .nilck (.t 16), none⟩,
   ⟨some 25, .faddr 2 (.t 24), none⟩,
   ⟨none, .store 1 (.t 25) (.t 23), none⟩])
 (.draw [
   ⟨some 26, .mv (.t 0), none⟩,
   ⟨some 27, .mv (.t 0), none⟩,
   ⟨some 28, .nilck (.t 27), none⟩,
   ⟨some 29, .faddr 3 (.t 28), none⟩,
   ⟨some 30, .load 1 false (.t 29), none⟩,
   ⟨some 31, .mv (.t 0), none⟩,
   ⟨some 32, .nilck (.t 31), none⟩,
   ⟨some 33, .faddr 4 (.t 32), none⟩,
   ⟨some 34, .load 1 false (.t 33), none⟩,
   ⟨some 35, .bslice false 1 1 [.int .i64 0] [(0, 1, (.t 34))], none⟩,
   ⟨some 36, .append true 1 8 (.t 30) (.t 35), none⟩,
   ⟨some 37, .nilck (.t 26), none⟩,
   ⟨some 38, .faddr 3 (.t 37), none⟩,
   ⟨none, .store 1 (.t 38) (.t 36), none⟩]
 [[], [], [1], [1, 2], [1, 2, 3], [], [5], [5, 6], [5, 6, 7], [5, 6, 7, 8], [1, 2, 3, 4, 5, 6, 7, 8, 9], [0, 1, 2, 3, 4, 5, 6, 7, 8, 9, 10], [0, 1, 2, 3, 4, 5, 6, 7, 8, 9, 10, 11], [0, 1, 2, 3, 4, 5, 6, 7, 8, 9, 10, 11, 12]] [([0, 1, 2, 3, 4, 5, 6, 7, 8, 9], 10, []), ([11, 12], 13, [])] [])))⟩
theorem eq_emit_maker_at (Φ : Calls') (a0 a1 a2 : AV) (H : AH) (Q : Post) : fnE1 Φ ir_emit_maker_at [a0, a1, a2] H Q = emit_maker_at Φ a0 a1 a2 H Q := by kernel_rfl

/-! (rabbet/emit.maker).jump -/
def emit_maker_jump_k1 (Φ : Calls') (a0 : AV) (x1 : AV) (x4 : AV) (Q : Post) : List AV → AH → Prop := fun j7 H8 =>
 Do (anilck a0) fun x18 =>
 Do (afaddr 6 x18) fun x19 =>
 Do (aload H8 1 false x19) fun x20 =>
 Do (anilck a0) fun x21 =>
 Do (afaddr 1 x21) fun x22 =>
 Do (aload H8 1 false x22) fun x23 =>
 Do (alen false x23) fun x24 =>
 Do (afaddr 10 x1) fun x25 =>
 Do (aload H8 1 false x25) fun x26 =>
 Do (abuild [.int .i64 0, .int .i64 0] [(0, 1, x24), (1, 1, x26)]) fun x27 =>
 DoH (abslice H8 false 2 1 [.int .i64 0, .int .i64 0] [(0, 2, x27)]) fun x28 H29 =>
 DoH (aappend H29 false 2 16 x20 x28) fun x30 H31 =>
 Do (anilck a0) fun x32 =>
 Do (afaddr 6 x32) fun x33 =>
 Do (astore H31 1 x33 x30) fun H34 =>
 Do (aload H34 7 true x4) fun x35 =>
Φ K.emit_maker_add [a0, x35] H34 fun x36 H37 =>
 Q (.tup []) H37
def emit_maker_jump (Φ : Calls') (a0 : AV) (a1 : AV) (H : AH) (Q : Post) : Prop :=
 DoH (aboxv H false 13 a1) fun x1 H2 =>
 Do (abuild [.int .i64 0, .int .i64 0, .int .i64 0, .int .i64 0, .int .i64 0, .int .i64 0, .int .i64 0] [(0, 1, (.int .i64 13))]) fun x3 =>
 DoH (some (abox H2 true [.int .i64 0, .int .i64 0, .int .i64 0, .int .i64 0, .int .i64 0, .int .i64 0, .int .i64 0])) fun x4 H5 =>
 Do (astore H5 7 x4 x3) fun H6 =>
 Do (afaddr 0 x1) fun x9 =>
 Do (aload H6 1 false x9) fun x10 =>
 Do (abin .eql x10 (.int .i64 16)) fun x11 =>
 Gd x11 true (
 Do (afaddr 3 x1) fun x12 =>
 Do (aload H6 1 false x12) fun x13 =>
Φ K.emit_maker_source [a0, x13, (.int .i64 8)] H6 fun x14 H15 =>
 Do (abuild [.int .i64 0, .int .i64 0, .int .i64 0, .int .i64 0, .int .i64 0, .int .i64 0, .int .i64 0] [(0, 1, (.int .i64 15)), (1, 1, x14)]) fun x16 =>
 Do (astore H15 7 x4 x16) fun H17 =>
 JoinP (emit_maker_jump_k1 Φ a0 x1 x4 Q) [] H17) (
 JoinP (emit_maker_jump_k1 Φ a0 x1 x4 Q) [] H6)
def ir_emit_maker_jump : AFunc := ⟨34, [],
 .seq (.region [
   ⟨some 3, .box false 13 (.t 1), none⟩])
 (.seq (.region [
   ⟨some 5, .build [.int .i64 0, .int .i64 0, .int .i64 0, .int .i64 0, .int .i64 0, .int .i64 0, .int .i64 0] [(0, 1, (.k (.int .i64 13)))], none⟩,
   ⟨some 4, .alloc true [.int .i64 0, .int .i64 0, .int .i64 0, .int .i64 0, .int .i64 0, .int .i64 0, .int .i64 0], none⟩,
   ⟨none, .store 7 (.t 4) (.t 5), none⟩])
 (.join [] [6, 7, 8, 9, 10, 11, 12, 13] (.seq (.region [
   ⟨some 6, .faddr 0 (.t 3), none⟩,
   ⟨some 7, .load 1 false (.t 6), none⟩,
   ⟨some 8, .bin .eql (.t 7) (.k (.int .i64 16)), none⟩])
 (.cond (.t 8) (.region [
     ⟨some 9, .mv (.t 0), none⟩,
     ⟨some 10, .faddr 3 (.t 3), none⟩,
     ⟨some 11, .load 1 false (.t 10), none⟩,
     ⟨some 12, .call K.emit_maker_source [(.t 9), (.t 11), (.k (.int .i64 8))], none⟩,
     ⟨some 13, .build [.int .i64 0, .int .i64 0, .int .i64 0, .int .i64 0, .int .i64 0, .int .i64 0, .int .i64 0] [(0, 1, (.k (.int .i64 15))), (1, 1, (.t 12))], none⟩,
     ⟨none, .store 7 (.t 4) (.t 13), none⟩])
   (.skip)))
 (.seq (.draw [
   ⟨some 14, .mv (.t 0), none⟩,
   ⟨some 15, .mv (.t 0), none⟩,
   ⟨some 16, .nilck (.t 15), none⟩,
   ⟨some 17, .faddr 6 (.t 16), none⟩,
   ⟨some 18, .load 1 false (.t 17), none⟩,
   ⟨some 19, .mv (.t 0), none⟩,
   ⟨some 20, .nilck (.t 19), none⟩,
   ⟨some 21, .faddr 1 (.t 20), none⟩,
   ⟨some 22, .load 1 false (.t 21), none⟩,
   ⟨some 23, .len false (.t 22), none⟩,
   ⟨some 24, .faddr 10 (.t 3), none⟩,
   ⟨some 25, .load 1 false (.t 24), none⟩,
   ⟨some 26, .build [.int .i64 0, .int .i64 0] [(0, 1, (.t 23)), (1, 1, (.t 25))], none⟩,
   ⟨some 27, .bslice false 2 1 [.int .i64 0, .int .i64 0] [(0, 2, (.t 26))], none⟩,
   ⟨some 28, .append false 2 16 (.t 18) (.t 27), none⟩,
   ⟨some 29, .nilck (.t 14), none⟩,
   ⟨some 30, .faddr 6 (.t 29), none⟩,
   ⟨none, .store 1 (.t 30) (.t 28), none⟩]
 [[], [], [1], [1, 2], [1, 2, 3], [], [5], [5, 6], [5, 6, 7], [5, 6, 7, 8], [], [10], [5, 6, 7, 8, 9, 10, 11], [5, 6, 7, 8, 9, 10, 11, 12], [1, 2, 3, 4, 5, 6, 7, 8, 9, 10, 11, 12, 13], [0, 1, 2, 3, 4, 5, 6, 7, 8, 9, 10, 11, 12, 13, 14], [0, 1, 2, 3, 4, 5, 6, 7, 8, 9, 10, 11, 12, 13, 14, 15], [0, 1, 2, 3, 4, 5, 6, 7, 8, 9, 10, 11, 12, 13, 14, 15, 16]] [([0, 1, 2, 3, 4, 5, 6, 7, 8, 9, 10, 11, 12, 13], 14, []), ([15, 16], 17, [])] [])
 (.region [
   ⟨some 31, .mv (.t 0), none⟩,
   ⟨some 32, .load 7 true (.t 4), none⟩,
   ⟨some 33, .call K.emit_maker_add [(.t 31), (.t 32)], none⟩]))))⟩
theorem eq_emit_maker_jump (Φ : Calls') (a0 a1 : AV) (H : AH) (Q : Post) : fnE1 Φ ir_emit_maker_jump [a0, a1] H Q = emit_maker_jump Φ a0 a1 H Q := by kernel_rfl

/-! (rabbet/emit.maker).bound -/
def emit_maker_bound (Φ : Calls') (a0 : AV) (a1 : AV) (H : AH) (Q : Post) : Prop :=
 DoH (aboxv H false 13 a1) fun x1 H2 =>
 Do (afaddr 3 x1) fun x3 =>
 Do (aload H2 1 false x3) fun x4 =>
Φ K.emit_maker_source [a0, x4, (.int .i64 8)] H2 fun x5 H6 =>
 Do (afaddr 6 x1) fun x7 =>
 Do (aload H6 1 false x7) fun x8 =>
Φ K.emit_maker_constant [a0, (.int .i64 14), x8] H6 fun x9 H10 =>
 Do (abuild [.int .i64 0, .int .i64 0, .int .i64 0, .int .i64 0, .int .i64 0, .int .i64 0, .int .i64 0] [(0, 1, (.int .i64 5)), (1, 1, (.int .i64 31)), (2, 1, x5), (3, 1, (.int .i64 14))]) fun x11 =>
Φ K.emit_maker_add [a0, x11] H10 fun x12 H13 =>
 Do (abuild [.int .i64 0, .int .i64 0, .int .i64 0, .int .i64 0, .int .i64 0, .int .i64 0, .int .i64 0] [(0, 1, (.int .i64 14)), (4, 1, (.int .i64 3)), (6, 1, (.int .i64 2))]) fun x14 =>
Φ K.emit_maker_add [a0, x14] H13 fun x15 H16 =>
 Do (abuild [.int .i64 0, .int .i64 0, .int .i64 0, .int .i64 0, .int .i64 0, .int .i64 0, .int .i64 0] [(0, 1, (.int .i64 32)), (6, 1, (.int .i64 1))]) fun x17 =>
Φ K.emit_maker_add [a0, x17] H16 fun x18 H19 =>
 Q (.tup []) H19
def ir_emit_maker_bound : AFunc := ⟨23, [],
 .seq (.region [
   ⟨some 3, .box false 13 (.t 1), none⟩])
 (.seq (.region [
   ⟨some 5, .mv (.t 0), none⟩,
   ⟨some 6, .faddr 3 (.t 3), none⟩,
   ⟨some 7, .load 1 false (.t 6), none⟩,
   ⟨some 8, .call K.emit_maker_source [(.t 5), (.t 7), (.k (.int .i64 8))], none⟩,
   ⟨some 4, .mv (.t 8), none⟩])
 (.seq (.region [
   ⟨some 9, .mv (.t 0), none⟩,
   ⟨some 10, .faddr 6 (.t 3), none⟩,
   ⟨some 11, .load 1 false (.t 10), none⟩,
   ⟨some 12, .call K.emit_maker_constant [(.t 9), (.k (.int .i64 14)), (.t 11)], none⟩])
 (.seq (.region [
   ⟨some 13, .mv (.t 0), none⟩,
   ⟨some 14, .mv (.t 4), none⟩,
   ⟨some 15, .build [.int .i64 0, .int .i64 0, .int .i64 0, .int .i64 0, .int .i64 0, .int .i64 0, .int .i64 0] [(0, 1, (.k (.int .i64 5))), (1, 1, (.k (.int .i64 31))), (2, 1, (.t 14)), (3, 1, (.k (.int .i64 14)))], none⟩,
   ⟨some 16, .call K.emit_maker_add [(.t 13), (.t 15)], none⟩])
 (.seq (.region [
   ⟨some 17, .mv (.t 0), none⟩,
   ⟨some 18, .build [.int .i64 0, .int .i64 0, .int .i64 0, .int .i64 0, .int .i64 0, .int .i64 0, .int .i64 0] [(0, 1, (.k (.int .i64 14))), (4, 1, (.k (.int .i64 3))), (6, 1, (.k (.int .i64 2)))], none⟩,
   ⟨some 19, .call K.emit_maker_add [(.t 17), (.t 18)], none⟩])
 (.region [
   ⟨some 20, .mv (.t 0), none⟩,
   ⟨some 21, .build [.int .i64 0, .int .i64 0, .int .i64 0, .int .i64 0, .int .i64 0, .int .i64 0, .int .i64 0] [(0, 1, (.k (.int .i64 32))), (6, 1, (.k (.int .i64 1)))], none⟩,
   ⟨some 22, .call K.emit_maker_add [(.t 20), (.t 21)], none⟩])))))⟩
theorem eq_emit_maker_bound (Φ : Calls') (a0 a1 : AV) (H : AH) (Q : Post) : fnE1 Φ ir_emit_maker_bound [a0, a1] H Q = emit_maker_bound Φ a0 a1 H Q := by kernel_rfl

/-! (rabbet/emit.maker).place -/
def emit_maker_place_k1 (Φ : Calls') (a0 : AV) (a1 : AV) (Q : Post) : List AV → AH → Prop := fun j1 H2 =>
 Do (anilck a0) fun x14 =>
 Do (afaddr 0 x14) fun x15 =>
 Do (aload H2 1 false x15) fun x16 =>
 Do (aiaddr none 1 x16 a1) fun x17 =>
 Do (aload H2 1 false x17) fun x18 =>
 Q x18 H2
def emit_maker_place_k2 (Φ : Calls') (a0 : AV) (a1 : AV) (Q : Post) : List AV → AH → Prop := fun j3 H4 =>
 Gd (sl j3 0) true (
 Do (anilck a0) fun x11 =>
 Do (afaddr 7 x11) fun x12 =>
 Do (astore H4 1 x12 (.int .i64 1)) fun H13 =>
 Q (.int .i64 0) H13) (
 JoinP (emit_maker_place_k1 Φ a0 a1 Q) [] H4)
def emit_maker_place (Φ : Calls') (a0 : AV) (a1 : AV) (H : AH) (Q : Post) : Prop :=
 Do (abin .lss a1 (.int .i64 0)) fun x5 =>
 Gd3 x5 false (
 Do (anilck a0) fun x6 =>
 Do (afaddr 0 x6) fun x7 =>
 Do (aload H 1 false x7) fun x8 =>
 Do (alen false x8) fun x9 =>
 Do (abin .geq a1 x9) fun x10 =>
 JoinP (emit_maker_place_k2 Φ a0 a1 Q) [x10] H) (
 JoinP (emit_maker_place_k2 Φ a0 a1 Q) [(.bool true)] H) (
 False)
def ir_emit_maker_place : AFunc := ⟨26, [.tmp 4],
 .seq (.region [
   ⟨some 4, .mv (.k (.int .i64 0)), none⟩])
 (.join [] [4, 5, 6, 7, 8, 9, 10, 11, 12, 13, 14, 15, 16, 17, 18] (.join [15] [5, 6, 7, 8, 9, 10, 11, 12, 13, 14] (.region [
   ⟨some 5, .mv (.t 1), none⟩,
   ⟨some 6, .bin .lss (.t 5) (.k (.int .i64 0)), none⟩,
   ⟨some 7, .mv (.t 6), none⟩,
   ⟨some 8, .mv (.t 1), some (7, false)⟩,
   ⟨some 9, .mv (.t 0), some (7, false)⟩,
   ⟨some 10, .nilck (.t 9), some (7, false)⟩,
   ⟨some 11, .faddr 0 (.t 10), some (7, false)⟩,
   ⟨some 12, .load 1 false (.t 11), some (7, false)⟩,
   ⟨some 13, .len false (.t 12), some (7, false)⟩,
   ⟨some 14, .bin .geq (.t 8) (.t 13), some (7, false)⟩,
   ⟨some 15, .pick (.t 7) (.k (.bool true)) (.t 14), none⟩])
 (.cond (.t 15) (.seq (.region [
     ⟨some 16, .mv (.t 0), none⟩,
     ⟨some 17, .nilck (.t 16), none⟩,
     ⟨some 18, .faddr 7 (.t 17), none⟩,
     ⟨none, .store 1 (.t 18) (.k (.int .i64 1)), none⟩])
   (.seq (.region [
     ⟨some 4, .mv (.k (.int .i64 0)), none⟩])
   (.ret)))
   (.skip)))
 (.seq (.region [
   ⟨some 19, .mv (.t 0), none⟩,
   ⟨some 20, .nilck (.t 19), none⟩,
   ⟨some 21, .faddr 0 (.t 20), none⟩,
   ⟨some 22, .load 1 false (.t 21), none⟩,
   ⟨some 23, .mv (.t 1), none⟩,
   ⟨some 24, .iaddr none 1 (.t 22) (.t 23), none⟩,
   ⟨some 25, .load 1 false (.t 24), none⟩,
   ⟨some 4, .mv (.t 25), none⟩])
 (.ret)))⟩
theorem eq_emit_maker_place (Φ : Calls') (a0 a1 : AV) (H : AH) (Q : Post) : fnE1 Φ ir_emit_maker_place [a0, a1] H Q = emit_maker_place Φ a0 a1 H Q := by kernel_rfl

/-! (rabbet/emit.maker).move -/
def emit_maker_move (Φ : Calls') (a0 : AV) (a1 : AV) (a2 : AV) (H : AH) (Q : Post) : Prop :=
 Do (abuild [.int .i64 0, .int .i64 0, .int .i64 0, .int .i64 0, .int .i64 0, .int .i64 0, .int .i64 0] [(0, 1, (.int .i64 7)), (1, 1, a1), (2, 1, (.int .i64 31)), (3, 1, a2)]) fun x1 =>
Φ K.emit_maker_add [a0, x1] H fun x2 H3 =>
 Q (.tup []) H3
def ir_emit_maker_move : AFunc := ⟨11, [],
 .region [
   ⟨some 6, .mv (.t 0), none⟩,
   ⟨some 7, .mv (.t 1), none⟩,
   ⟨some 8, .mv (.t 2), none⟩,
   ⟨some 9, .build [.int .i64 0, .int .i64 0, .int .i64 0, .int .i64 0, .int .i64 0, .int .i64 0, .int .i64 0] [(0, 1, (.k (.int .i64 7))), (1, 1, (.t 7)), (2, 1, (.k (.int .i64 31))), (3, 1, (.t 8))], none⟩,
   ⟨some 10, .call K.emit_maker_add [(.t 6), (.t 9)], none⟩]⟩
theorem eq_emit_maker_move (Φ : Calls') (a0 a1 a2 : AV) (H : AH) (Q : Post) : fnE1 Φ ir_emit_maker_move [a0, a1, a2] H Q = emit_maker_move Φ a0 a1 a2 H Q := by kernel_rfl

/-! rabbet/emit.plain -/
def emit_plain (Φ : Calls') (a0 : AV) (H : AH) (Q : Post) : Prop :=
 Do (abin .eql a0 (.int .i64 1)) fun x1 =>
 Gd x1 true (
 Q (.int .i64 3) H) (
 Do (abin .eql a0 (.int .i64 2)) fun x2 =>
 Gd x2 true (
 Q (.int .i64 4) H) (
 Do (abin .eql a0 (.int .i64 3)) fun x3 =>
 Gd x3 true (
 Q (.int .i64 9) H) (
 Do (abin .eql a0 (.int .i64 4)) fun x4 =>
 Gd x4 true (
 Q (.int .i64 6) H) (
 Do (abin .eql a0 (.int .i64 5)) fun x5 =>
 Gd x5 true (
 Q (.int .i64 7) H) (
 Do (abin .eql a0 (.int .i64 6)) fun x6 =>
 Gd x6 true (
 Q (.int .i64 8) H) (
 Do (abin .eql a0 (.int .i64 7)) fun x7 =>
 Gd x7 true (
 Q (.int .i64 10) H) (
 Do (abin .eql a0 (.int .i64 8)) fun x8 =>
 Gd x8 true (
 Q (.int .i64 11) H) (
 Q (.int .i64 0) H))))))))
def ir_emit_plain : AFunc := ⟨20, [.tmp 2],
 .seq (.region [
   ⟨some 2, .mv (.k (.int .i64 0)), none⟩])
 (.seq (.seq (.region [
   ⟨some 3, .mv (.t 0), none⟩])
 (.block 0 (.seq (.region [
   ⟨some 5, .bin .eql (.t 3) (.k (.int .i64 1)), none⟩,
   ⟨some 4, .mv (.t 5), none⟩])
 (.cond (.t 4) (.seq (.region [
     ⟨some 2, .mv (.k (.int .i64 3)), none⟩])
   (.ret))
   (.seq (.region [
     ⟨some 7, .bin .eql (.t 3) (.k (.int .i64 2)), none⟩,
     ⟨some 6, .mv (.t 7), none⟩])
   (.cond (.t 6) (.seq (.region [
       ⟨some 2, .mv (.k (.int .i64 4)), none⟩])
     (.ret))
     (.seq (.region [
       ⟨some 9, .bin .eql (.t 3) (.k (.int .i64 3)), none⟩,
       ⟨some 8, .mv (.t 9), none⟩])
     (.cond (.t 8) (.seq (.region [
         ⟨some 2, .mv (.k (.int .i64 9)), none⟩])
       (.ret))
       (.seq (.region [
         ⟨some 11, .bin .eql (.t 3) (.k (.int .i64 4)), none⟩,
         ⟨some 10, .mv (.t 11), none⟩])
       (.cond (.t 10) (.seq (.region [
           ⟨some 2, .mv (.k (.int .i64 6)), none⟩])
         (.ret))
         (.seq (.region [
           ⟨some 13, .bin .eql (.t 3) (.k (.int .i64 5)), none⟩,
           ⟨some 12, .mv (.t 13), none⟩])
         (.cond (.t 12) (.seq (.region [
             ⟨some 2, .mv (.k (.int .i64 7)), none⟩])
           (.ret))
           (.seq (.region [
             ⟨some 15, .bin .eql (.t 3) (.k (.int .i64 6)), none⟩,
             ⟨some 14, .mv (.t 15), none⟩])
           (.cond (.t 14) (.seq (.region [
               ⟨some 2, .mv (.k (.int .i64 8)), none⟩])
             (.ret))
             (.seq (.region [
               ⟨some 17, .bin .eql (.t 3) (.k (.int .i64 7)), none⟩,
               ⟨some 16, .mv (.t 17), none⟩])
             (.cond (.t 16) (.seq (.region [
                 ⟨some 2, .mv (.k (.int .i64 10)), none⟩])
               (.ret))
               (.seq (.region [
                 ⟨some 19, .bin .eql (.t 3) (.k (.int .i64 8)), none⟩,
                 ⟨some 18, .mv (.t 19), none⟩])
               (.cond (.t 18) (.seq (.region [
                   ⟨some 2, .mv (.k (.int .i64 11)), none⟩])
                 (.ret))
                 (.skip)))))))))))))))))))
 (.seq (.region [
   ⟨some 2, .mv (.k (.int .i64 0)), none⟩])
 (.ret)))⟩
theorem eq_emit_plain (Φ : Calls') (a0 : AV) (H : AH) (Q : Post) : fnE1 Φ ir_emit_plain [a0] H Q = emit_plain Φ a0 H Q := by kernel_rfl

/-! rabbet/emit.condition -/
def emit_condition (Φ : Calls') (a0 : AV) (H : AH) (Q : Post) : Prop :=
 Do (abin .eql a0 (.int .i64 9)) fun x1 =>
 Gd x1 true (
 Q (.int .i64 0) H) (
 Do (abin .eql a0 (.int .i64 10)) fun x2 =>
 Gd x2 true (
 Q (.int .i64 1) H) (
 Q (.int .i64 3) H))
def ir_emit_condition : AFunc := ⟨8, [.tmp 2],
 .seq (.region [
   ⟨some 2, .mv (.k (.int .i64 0)), none⟩])
 (.seq (.seq (.region [
   ⟨some 3, .mv (.t 0), none⟩])
 (.block 0 (.seq (.region [
   ⟨some 5, .bin .eql (.t 3) (.k (.int .i64 9)), none⟩,
   ⟨some 4, .mv (.t 5), none⟩])
 (.cond (.t 4) (.seq (.region [
     ⟨some 2, .mv (.k (.int .i64 0)), none⟩])
   (.ret))
   (.seq (.region [
     ⟨some 7, .bin .eql (.t 3) (.k (.int .i64 10)), none⟩,
     ⟨some 6, .mv (.t 7), none⟩])
   (.cond (.t 6) (.seq (.region [
       ⟨some 2, .mv (.k (.int .i64 1)), none⟩])
     (.ret))
     (.skip)))))))
 (.seq (.region [
   ⟨some 2, .mv (.k (.int .i64 3)), none⟩])
 (.ret)))⟩
theorem eq_emit_condition (Φ : Calls') (a0 : AV) (H : AH) (Q : Post) : fnE1 Φ ir_emit_condition [a0] H Q = emit_condition Φ a0 H Q := by kernel_rfl

/-! (rabbet/emit.maker).address -/
def emit_maker_address (Φ : Calls') (a0 : AV) (a1 : AV) (H : AH) (Q : Post) : Prop :=
 DoH (aboxv H false 13 a1) fun x1 H2 =>
 Do (afaddr 3 x1) fun x3 =>
 Do (aload H2 1 false x3) fun x4 =>
Φ K.emit_maker_source [a0, x4, (.int .i64 8)] H2 fun x5 H6 =>
 Do (afaddr 6 x1) fun x7 =>
 Do (aload H6 1 false x7) fun x8 =>
 Do (abin .eql x8 (.int .u64 0)) fun x9 =>
 Gd x9 true (
 Q x5 H6) (
 Do (afaddr 6 x1) fun x10 =>
 Do (aload H6 1 false x10) fun x11 =>
Φ K.emit_maker_constant [a0, (.int .i64 14), x11] H6 fun x12 H13 =>
 Do (abuild [.int .i64 0, .int .i64 0, .int .i64 0, .int .i64 0, .int .i64 0, .int .i64 0, .int .i64 0] [(0, 1, (.int .i64 3)), (1, 1, (.int .i64 8)), (2, 1, x5), (3, 1, (.int .i64 14))]) fun x14 =>
Φ K.emit_maker_add [a0, x14] H13 fun x15 H16 =>
 Q (.int .i64 8) H16)
def ir_emit_maker_address : AFunc := ⟨22, [.tmp 4],
 .seq (.region [
   ⟨some 3, .box false 13 (.t 1), none⟩,
   ⟨some 4, .mv (.k (.int .i64 0)), none⟩])
 (.seq (.region [
   ⟨some 6, .mv (.t 0), none⟩,
   ⟨some 7, .faddr 3 (.t 3), none⟩,
   ⟨some 8, .load 1 false (.t 7), none⟩,
   ⟨some 9, .call K.emit_maker_source [(.t 6), (.t 8), (.k (.int .i64 8))], none⟩,
   ⟨some 5, .mv (.t 9), none⟩])
 (.seq (.seq (.region [
   ⟨some 10, .faddr 6 (.t 3), none⟩,
   ⟨some 11, .load 1 false (.t 10), none⟩,
   ⟨some 12, .bin .eql (.t 11) (.k (.int .u64 0)), none⟩])
 (.cond (.t 12) (.seq (.region [
     ⟨some 13, .mv (.t 5), none⟩,
     ⟨some 4, .mv (.t 13), none⟩])
   (.ret))
   (.skip)))
 (.seq (.region [
   ⟨some 14, .mv (.t 0), none⟩,
   ⟨some 15, .faddr 6 (.t 3), none⟩,
   ⟨some 16, .load 1 false (.t 15), none⟩,
   ⟨some 17, .call K.emit_maker_constant [(.t 14), (.k (.int .i64 14)), (.t 16)], none⟩])
 (.seq (.region [
   ⟨some 18, .mv (.t 0), none⟩,
   ⟨some 19, .mv (.t 5), none⟩,
   ⟨some 20, .build [.int .i64 0, .int .i64 0, .int .i64 0, .int .i64 0, .int .i64 0, .int .i64 0, .int .i64 0] [(0, 1, (.k (.int .i64 3))), (1, 1, (.k (.int .i64 8))), (2, 1, (.t 19)), (3, 1, (.k (.int .i64 14)))], none⟩,
   ⟨some 21, .call K.emit_maker_add [(.t 18), (.t 20)], none⟩])
 (.seq (.region [
   ⟨some 4, .mv (.k (.int .i64 8)), none⟩])
 (.ret))))))⟩
theorem eq_emit_maker_address (Φ : Calls') (a0 a1 : AV) (H : AH) (Q : Post) : fnE1 Φ ir_emit_maker_address [a0, a1] H Q = emit_maker_address Φ a0 a1 H Q := by kernel_rfl

/-! rabbet/emit.either -/
def emit_either (Φ : Calls') (a0 : AV) (a1 : AV) (a2 : AV) (H : AH) (Q : Post) : Prop :=
 Gd a0 true (
 Q a1 H) (
 Q a2 H)
def ir_emit_either : AFunc := ⟨10, [.tmp 6],
 .seq (.region [
   ⟨some 6, .mv (.k (.int .i64 0)), none⟩])
 (.seq (.seq (.region [
   ⟨some 7, .mv (.t 0), none⟩])
 (.cond (.t 7) (.seq (.region [
     ⟨some 8, .mv (.t 1), none⟩,
     ⟨some 6, .mv (.t 8), none⟩])
   (.ret))
   (.skip)))
 (.seq (.region [
   ⟨some 9, .mv (.t 2), none⟩,
   ⟨some 6, .mv (.t 9), none⟩])
 (.ret)))⟩
theorem eq_emit_either (Φ : Calls') (a0 a1 a2 : AV) (H : AH) (Q : Post) : fnE1 Φ ir_emit_either [a0, a1, a2] H Q = emit_either Φ a0 a1 a2 H Q := by kernel_rfl

/-! rabbet/emit.acquires -/
def emit_acquires (Φ : Calls') (a0 : AV) (H : AH) (Q : Post) : Prop :=
 Do (abin .eql a0 (.int .i64 2)) fun x1 =>
 Gd3 x1 false (
 Do (abin .eql a0 (.int .i64 4)) fun x2 =>
 Q x2 H) (
 Q (.bool true) H) (
 False)
def ir_emit_acquires : AFunc := ⟨9, [.tmp 2],
 .seq (.region [
   ⟨some 2, .mv (.k (.bool false)), none⟩])
 (.seq (.region [
   ⟨some 3, .mv (.t 0), none⟩,
   ⟨some 4, .bin .eql (.t 3) (.k (.int .i64 2)), none⟩,
   ⟨some 5, .mv (.t 4), none⟩,
   ⟨some 6, .mv (.t 0), some (5, false)⟩,
   ⟨some 7, .bin .eql (.t 6) (.k (.int .i64 4)), some (5, false)⟩,
   ⟨some 8, .pick (.t 5) (.k (.bool true)) (.t 7), none⟩,
   ⟨some 2, .mv (.t 8), none⟩])
 (.ret))⟩
theorem eq_emit_acquires (Φ : Calls') (a0 : AV) (H : AH) (Q : Post) : fnE1 Φ ir_emit_acquires [a0] H Q = emit_acquires Φ a0 H Q := by kernel_rfl

/-! rabbet/emit.size -/
def emit_size_l1 (Φ : Calls') (a0 : AV) (Q : Post) : (List AV × AH) → ((List AV × AH) → Prop) → Prop := fun s1 L2 =>
 Do (abin .shl (.int .i64 1) (sl s1.1 0)) fun x3 =>
 Do (abin .lss x3 a0) fun x4 =>
 Gd x4 true (
 Do (abin .add (sl s1.1 0) (.int .i64 1)) fun x5 =>
 L2 ([x5], s1.2)) (
 Q (sl s1.1 0) s1.2)
def emit_size (Φ : Calls') (a0 : AV) (H : AH) (Q : Post) : Prop :=
 LoopP (emit_size_l1 Φ a0 Q) ([(.int .i64 0)], H)
def ir_emit_size : AFunc := ⟨11, [.tmp 2],
 .seq (.region [
   ⟨some 2, .mv (.k (.int .i64 0)), none⟩])
 (.seq (.region [
   ⟨some 3, .mv (.k (.int .i64 0)), none⟩])
 (.seq (.block 0 (.loop [3] [4, 5, 6, 7, 8, 9] (.seq (.seq (.region [
   ⟨some 4, .mv (.t 3), none⟩,
   ⟨some 5, .bin .shl (.k (.int .i64 1)) (.t 4), none⟩,
   ⟨some 6, .mv (.t 0), none⟩,
   ⟨some 7, .bin .lss (.t 5) (.t 6), none⟩])
 (.cond (.t 7) (.skip)
   (.exit 0)))
 (.block 1 (.region [
   ⟨some 8, .mv (.t 3), none⟩,
   ⟨some 9, .bin .add (.t 8) (.k (.int .i64 1)), none⟩,
   ⟨some 3, .mv (.t 9), none⟩])))))
 (.seq (.region [
   ⟨some 10, .mv (.t 3), none⟩,
   ⟨some 2, .mv (.t 10), none⟩])
 (.ret))))⟩
theorem eq_emit_size (Φ : Calls') (a0 : AV) (H : AH) (Q : Post) : fnE1 Φ ir_emit_size [a0] H Q = emit_size Φ a0 H Q := by kernel_rfl

/-! rabbet/emit.releases -/
def emit_releases (Φ : Calls') (a0 : AV) (H : AH) (Q : Post) : Prop :=
 Do (abin .eql a0 (.int .i64 3)) fun x1 =>
 Gd3 x1 false (
 Do (abin .eql a0 (.int .i64 4)) fun x2 =>
 Q x2 H) (
 Q (.bool true) H) (
 False)
def ir_emit_releases : AFunc := ⟨9, [.tmp 2],
 .seq (.region [
   ⟨some 2, .mv (.k (.bool false)), none⟩])
 (.seq (.region [
   ⟨some 3, .mv (.t 0), none⟩,
   ⟨some 4, .bin .eql (.t 3) (.k (.int .i64 3)), none⟩,
   ⟨some 5, .mv (.t 4), none⟩,
   ⟨some 6, .mv (.t 0), some (5, false)⟩,
   ⟨some 7, .bin .eql (.t 6) (.k (.int .i64 4)), some (5, false)⟩,
   ⟨some 8, .pick (.t 5) (.k (.bool true)) (.t 7), none⟩,
   ⟨some 2, .mv (.t 8), none⟩])
 (.ret))⟩
theorem eq_emit_releases (Φ : Calls') (a0 : AV) (H : AH) (Q : Post) : fnE1 Φ ir_emit_releases [a0] H Q = emit_releases Φ a0 H Q := by kernel_rfl

/-! (rabbet/emit.maker).back -/
def emit_maker_back (Φ : Calls') (a0 : AV) (a1 : AV) (H : AH) (Q : Post) : Prop :=
 Do (anilck a0) fun x1 =>
 Do (afaddr 1 x1) fun x2 =>
 Do (aload H 1 false x2) fun x3 =>
 Do (alen false x3) fun x4 =>
 Do (abin .sub a1 x4) fun x5 =>
 Do (abuild [.int .i64 0, .int .i64 0, .int .i64 0, .int .i64 0, .int .i64 0, .int .i64 0, .int .i64 0] [(0, 1, (.int .i64 16)), (1, 1, (.int .i64 13)), (6, 1, x5)]) fun x6 =>
Φ K.emit_maker_add [a0, x6] H fun x7 H8 =>
 Q (.tup []) H8
def ir_emit_maker_back : AFunc := ⟨14, [],
 .region [
   ⟨some 4, .mv (.t 0), none⟩,
   ⟨some 5, .mv (.t 1), none⟩,
   ⟨some 6, .mv (.t 0), none⟩,
   ⟨some 7, .nilck (.t 6), none⟩,
   ⟨some 8, .faddr 1 (.t 7), none⟩,
   ⟨some 9, .load 1 false (.t 8), none⟩,
   ⟨some 10, .len false (.t 9), none⟩,
   ⟨some 11, .bin .sub (.t 5) (.t 10), none⟩,
   ⟨some 12, .build [.int .i64 0, .int .i64 0, .int .i64 0, .int .i64 0, .int .i64 0, .int .i64 0, .int .i64 0] [(0, 1, (.k (.int .i64 16))), (1, 1, (.k (.int .i64 13))), (6, 1, (.t 11))], none⟩,
   ⟨some 13, .call K.emit_maker_add [(.t 4), (.t 12)], none⟩]⟩
theorem eq_emit_maker_back (Φ : Calls') (a0 a1 : AV) (H : AH) (Q : Post) : fnE1 Φ ir_emit_maker_back [a0, a1] H Q = emit_maker_back Φ a0 a1 H Q := by kernel_rfl

def tab_emit : Tab := [
  (K.emit_Constant, ir_emit_Constant),
  (K.emit_Thread, ir_emit_Thread),
  (K.emit_maker_constant, ir_emit_maker_constant),
  (K.emit_maker_step, ir_emit_maker_step),
  (K.emit_maker_add, ir_emit_maker_add),
  (K.emit_maker_target, ir_emit_maker_target),
  (K.emit_maker_keep, ir_emit_maker_keep),
  (K.emit_maker_finish, ir_emit_maker_finish),
  (K.emit_maker_source, ir_emit_maker_source),
  (K.emit_maker_bin, ir_emit_maker_bin),
  (K.emit_maker_load, ir_emit_maker_load),
  (K.emit_maker_store, ir_emit_maker_store),
  (K.emit_maker_change, ir_emit_maker_change),
  (K.emit_maker_compare, ir_emit_maker_compare),
  (K.emit_maker_two, ir_emit_maker_two),
  (K.emit_maker_at, ir_emit_maker_at),
  (K.emit_maker_jump, ir_emit_maker_jump),
  (K.emit_maker_bound, ir_emit_maker_bound),
  (K.emit_maker_place, ir_emit_maker_place),
  (K.emit_maker_move, ir_emit_maker_move),
  (K.emit_plain, ir_emit_plain),
  (K.emit_condition, ir_emit_condition),
  (K.emit_maker_address, ir_emit_maker_address),
  (K.emit_either, ir_emit_either),
  (K.emit_acquires, ir_emit_acquires),
  (K.emit_size, ir_emit_size),
  (K.emit_releases, ir_emit_releases),
  (K.emit_maker_back, ir_emit_maker_back)]

theorem cl_emit_Constant {Φ : Calls'} (hT : Cl Φ tab_emit) {a0 a1 : AV} {H : AH} {Q : Post} (h : emit_Constant Φ a0 a1 H Q) : Φ K.emit_Constant [a0, a1] H Q := hT.call (by kernel_rfl) (by kernel_rfl) (by rw [eq_emit_Constant]; exact h)
theorem cl_emit_Thread {Φ : Calls'} (hT : Cl Φ tab_emit) {a0 a1 a2 : AV} {H : AH} {Q : Post} (h : emit_Thread Φ a0 a1 a2 H Q) : Φ K.emit_Thread [a0, a1, a2] H Q := hT.call (by kernel_rfl) (by kernel_rfl) (by rw [eq_emit_Thread]; exact h)
theorem cl_emit_maker_constant {Φ : Calls'} (hT : Cl Φ tab_emit) {a0 a1 a2 : AV} {H : AH} {Q : Post} (h : emit_maker_constant Φ a0 a1 a2 H Q) : Φ K.emit_maker_constant [a0, a1, a2] H Q := hT.call (by kernel_rfl) (by kernel_rfl) (by rw [eq_emit_maker_constant]; exact h)
theorem cl_emit_maker_step {Φ : Calls'} (hT : Cl Φ tab_emit) {a0 a1 : AV} {H : AH} {Q : Post} (h : emit_maker_step Φ a0 a1 H Q) : Φ K.emit_maker_step [a0, a1] H Q := hT.call (by kernel_rfl) (by kernel_rfl) (by rw [eq_emit_maker_step]; exact h)
theorem cl_emit_maker_add {Φ : Calls'} (hT : Cl Φ tab_emit) {a0 a1 : AV} {H : AH} {Q : Post} (h : emit_maker_add Φ a0 a1 H Q) : Φ K.emit_maker_add [a0, a1] H Q := hT.call (by kernel_rfl) (by kernel_rfl) (by rw [eq_emit_maker_add]; exact h)
theorem cl_emit_maker_target {Φ : Calls'} (hT : Cl Φ tab_emit) {a0 a1 a2 : AV} {H : AH} {Q : Post} (h : emit_maker_target Φ a0 a1 a2 H Q) : Φ K.emit_maker_target [a0, a1, a2] H Q := hT.call (by kernel_rfl) (by kernel_rfl) (by rw [eq_emit_maker_target]; exact h)
theorem cl_emit_maker_keep {Φ : Calls'} (hT : Cl Φ tab_emit) {a0 a1 a2 : AV} {H : AH} {Q : Post} (h : emit_maker_keep Φ a0 a1 a2 H Q) : Φ K.emit_maker_keep [a0, a1, a2] H Q := hT.call (by kernel_rfl) (by kernel_rfl) (by rw [eq_emit_maker_keep]; exact h)
theorem cl_emit_maker_finish {Φ : Calls'} (hT : Cl Φ tab_emit) {a0 a1 a2 : AV} {H : AH} {Q : Post} (h : emit_maker_finish Φ a0 a1 a2 H Q) : Φ K.emit_maker_finish [a0, a1, a2] H Q := hT.call (by kernel_rfl) (by kernel_rfl) (by rw [eq_emit_maker_finish]; exact h)
theorem cl_emit_maker_source {Φ : Calls'} (hT : Cl Φ tab_emit) {a0 a1 a2 : AV} {H : AH} {Q : Post} (h : emit_maker_source Φ a0 a1 a2 H Q) : Φ K.emit_maker_source [a0, a1, a2] H Q := hT.call (by kernel_rfl) (by kernel_rfl) (by rw [eq_emit_maker_source]; exact h)
theorem cl_emit_maker_bin {Φ : Calls'} (hT : Cl Φ tab_emit) {a0 a1 : AV} {H : AH} {Q : Post} (h : emit_maker_bin Φ a0 a1 H Q) : Φ K.emit_maker_bin [a0, a1] H Q := hT.call (by kernel_rfl) (by kernel_rfl) (by rw [eq_emit_maker_bin]; exact h)
theorem cl_emit_maker_load {Φ : Calls'} (hT : Cl Φ tab_emit) {a0 a1 : AV} {H : AH} {Q : Post} (h : emit_maker_load Φ a0 a1 H Q) : Φ K.emit_maker_load [a0, a1] H Q := hT.call (by kernel_rfl) (by kernel_rfl) (by rw [eq_emit_maker_load]; exact h)
theorem cl_emit_maker_store {Φ : Calls'} (hT : Cl Φ tab_emit) {a0 a1 : AV} {H : AH} {Q : Post} (h : emit_maker_store Φ a0 a1 H Q) : Φ K.emit_maker_store [a0, a1] H Q := hT.call (by kernel_rfl) (by kernel_rfl) (by rw [eq_emit_maker_store]; exact h)
theorem cl_emit_maker_change {Φ : Calls'} (hT : Cl Φ tab_emit) {a0 a1 : AV} {H : AH} {Q : Post} (h : emit_maker_change Φ a0 a1 H Q) : Φ K.emit_maker_change [a0, a1] H Q := hT.call (by kernel_rfl) (by kernel_rfl) (by rw [eq_emit_maker_change]; exact h)
theorem cl_emit_maker_compare {Φ : Calls'} (hT : Cl Φ tab_emit) {a0 a1 : AV} {H : AH} {Q : Post} (h : emit_maker_compare Φ a0 a1 H Q) : Φ K.emit_maker_compare [a0, a1] H Q := hT.call (by kernel_rfl) (by kernel_rfl) (by rw [eq_emit_maker_compare]; exact h)
theorem cl_emit_maker_two {Φ : Calls'} (hT : Cl Φ tab_emit) {a0 a1 : AV} {H : AH} {Q : Post} (h : emit_maker_two Φ a0 a1 H Q) : Φ K.emit_maker_two [a0, a1] H Q := hT.call (by kernel_rfl) (by kernel_rfl) (by rw [eq_emit_maker_two]; exact h)
theorem cl_emit_maker_at {Φ : Calls'} (hT : Cl Φ tab_emit) {a0 a1 a2 : AV} {H : AH} {Q : Post} (h : emit_maker_at Φ a0 a1 a2 H Q) : Φ K.emit_maker_at [a0, a1, a2] H Q := hT.call (by kernel_rfl) (by kernel_rfl) (by rw [eq_emit_maker_at]; exact h)
theorem cl_emit_maker_jump {Φ : Calls'} (hT : Cl Φ tab_emit) {a0 a1 : AV} {H : AH} {Q : Post} (h : emit_maker_jump Φ a0 a1 H Q) : Φ K.emit_maker_jump [a0, a1] H Q := hT.call (by kernel_rfl) (by kernel_rfl) (by rw [eq_emit_maker_jump]; exact h)
theorem cl_emit_maker_bound {Φ : Calls'} (hT : Cl Φ tab_emit) {a0 a1 : AV} {H : AH} {Q : Post} (h : emit_maker_bound Φ a0 a1 H Q) : Φ K.emit_maker_bound [a0, a1] H Q := hT.call (by kernel_rfl) (by kernel_rfl) (by rw [eq_emit_maker_bound]; exact h)
theorem cl_emit_maker_place {Φ : Calls'} (hT : Cl Φ tab_emit) {a0 a1 : AV} {H : AH} {Q : Post} (h : emit_maker_place Φ a0 a1 H Q) : Φ K.emit_maker_place [a0, a1] H Q := hT.call (by kernel_rfl) (by kernel_rfl) (by rw [eq_emit_maker_place]; exact h)
theorem cl_emit_maker_move {Φ : Calls'} (hT : Cl Φ tab_emit) {a0 a1 a2 : AV} {H : AH} {Q : Post} (h : emit_maker_move Φ a0 a1 a2 H Q) : Φ K.emit_maker_move [a0, a1, a2] H Q := hT.call (by kernel_rfl) (by kernel_rfl) (by rw [eq_emit_maker_move]; exact h)
theorem cl_emit_plain {Φ : Calls'} (hT : Cl Φ tab_emit) {a0 : AV} {H : AH} {Q : Post} (h : emit_plain Φ a0 H Q) : Φ K.emit_plain [a0] H Q := hT.call (by kernel_rfl) (by kernel_rfl) (by rw [eq_emit_plain]; exact h)
theorem cl_emit_condition {Φ : Calls'} (hT : Cl Φ tab_emit) {a0 : AV} {H : AH} {Q : Post} (h : emit_condition Φ a0 H Q) : Φ K.emit_condition [a0] H Q := hT.call (by kernel_rfl) (by kernel_rfl) (by rw [eq_emit_condition]; exact h)
theorem cl_emit_maker_address {Φ : Calls'} (hT : Cl Φ tab_emit) {a0 a1 : AV} {H : AH} {Q : Post} (h : emit_maker_address Φ a0 a1 H Q) : Φ K.emit_maker_address [a0, a1] H Q := hT.call (by kernel_rfl) (by kernel_rfl) (by rw [eq_emit_maker_address]; exact h)
theorem cl_emit_either {Φ : Calls'} (hT : Cl Φ tab_emit) {a0 a1 a2 : AV} {H : AH} {Q : Post} (h : emit_either Φ a0 a1 a2 H Q) : Φ K.emit_either [a0, a1, a2] H Q := hT.call (by kernel_rfl) (by kernel_rfl) (by rw [eq_emit_either]; exact h)
theorem cl_emit_acquires {Φ : Calls'} (hT : Cl Φ tab_emit) {a0 : AV} {H : AH} {Q : Post} (h : emit_acquires Φ a0 H Q) : Φ K.emit_acquires [a0] H Q := hT.call (by kernel_rfl) (by kernel_rfl) (by rw [eq_emit_acquires]; exact h)
theorem cl_emit_size {Φ : Calls'} (hT : Cl Φ tab_emit) {a0 : AV} {H : AH} {Q : Post} (h : emit_size Φ a0 H Q) : Φ K.emit_size [a0] H Q := hT.call (by kernel_rfl) (by kernel_rfl) (by rw [eq_emit_size]; exact h)
theorem cl_emit_releases {Φ : Calls'} (hT : Cl Φ tab_emit) {a0 : AV} {H : AH} {Q : Post} (h : emit_releases Φ a0 H Q) : Φ K.emit_releases [a0] H Q := hT.call (by kernel_rfl) (by kernel_rfl) (by rw [eq_emit_releases]; exact h)
theorem cl_emit_maker_back {Φ : Calls'} (hT : Cl Φ tab_emit) {a0 a1 : AV} {H : AH} {Q : Post} (h : emit_maker_back Φ a0 a1 H Q) : Φ K.emit_maker_back [a0, a1] H Q := hT.call (by kernel_rfl) (by kernel_rfl) (by rw [eq_emit_maker_back]; exact h)
end Rb.S

/- Package emit: its functions as runs. By gen.py. -/
set_option linter.unusedVariables false
namespace Rb.R
open Go

def emit_Constant_k1 (Φ : CallsB) (n : Nat) (s3 : List AV × TH) (L4 : (List AV × TH) → Bool) (Q : PostB) : List AV → TH → Bool := fun j6 H7 =>
 DoB (abin .add (sl s3.1 1) (.int .i64 1)) fun x13 =>
 L4 ([(sl j6 0), x13], H7)
def emit_Constant_k2 (Φ : CallsB) (n : Nat) (a0 : AV) (Q : PostB) : List AV → TH → Bool := fun j1 H2 =>
 DoB (alen false (sl j1 0)) fun x26 =>
 DoB (abin .eql x26 (.int .i64 0)) fun x27 =>
 GdB x27 true (
 DoB (abuild [.int .i64 0, .int .i64 0, .int .i64 0, .int .i64 0, .int .i64 0, .int .i64 0, .int .i64 0] [(0, 1, (.int .i64 1)), (1, 1, a0)]) fun x28 =>
 DoHB (tbslice H2 false 7 1 [.int .i64 0, .int .i64 0, .int .i64 0, .int .i64 0, .int .i64 0, .int .i64 0, .int .i64 0] [(0, 7, x28)]) fun x29 H30 =>
 DoHB (tappend H30 false 7 56 (sl j1 0) x29) fun x31 H32 =>
 Q x31 H32) (
 Q (sl j1 0) H2)
def emit_Constant_l3 (Φ : CallsB) (n : Nat) (a0 : AV) (a1 : AV) (Q : PostB) : (List AV × TH) → ((List AV × TH) → Bool) → Bool := fun s3 L4 =>
 DoB (abin .lss (sl s3.1 1) (.int .i64 4)) fun x5 =>
 GdB x5 true (
 DoB (abin .mul (.int .i64 16) (sl s3.1 1)) fun x8 =>
 DoB (abin .shr a1 x8) fun x9 =>
 DoB (abin .and x9 (.int .u64 65535)) fun x10 =>
 DoB (aconv .i64 x10) fun x11 =>
 DoB (abin .eql x11 (.int .i64 0)) fun x12 =>
 GdB x12 true (
 JoinB (emit_Constant_k1 Φ n s3 L4 Q) [(sl s3.1 0)] s3.2) (
 DoB (alen false (sl s3.1 0)) fun x14 =>
 DoB (abin .eql x14 (.int .i64 0)) fun x15 =>
 GdB x15 true (
 DoB (abuild [.int .i64 0, .int .i64 0, .int .i64 0, .int .i64 0, .int .i64 0, .int .i64 0, .int .i64 0] [(0, 1, (.int .i64 1)), (1, 1, a0), (4, 1, (sl s3.1 1)), (6, 1, x11)]) fun x16 =>
 DoHB (tbslice s3.2 false 7 1 [.int .i64 0, .int .i64 0, .int .i64 0, .int .i64 0, .int .i64 0, .int .i64 0, .int .i64 0] [(0, 7, x16)]) fun x17 H18 =>
 DoHB (tappend H18 false 7 56 (sl s3.1 0) x17) fun x19 H20 =>
 JoinB (emit_Constant_k1 Φ n s3 L4 Q) [x19] H20) (
 DoB (abuild [.int .i64 0, .int .i64 0, .int .i64 0, .int .i64 0, .int .i64 0, .int .i64 0, .int .i64 0] [(0, 1, (.int .i64 2)), (1, 1, a0), (4, 1, (sl s3.1 1)), (6, 1, x11)]) fun x21 =>
 DoHB (tbslice s3.2 false 7 1 [.int .i64 0, .int .i64 0, .int .i64 0, .int .i64 0, .int .i64 0, .int .i64 0, .int .i64 0] [(0, 7, x21)]) fun x22 H23 =>
 DoHB (tappend H23 false 7 56 (sl s3.1 0) x22) fun x24 H25 =>
 JoinB (emit_Constant_k1 Φ n s3 L4 Q) [x24] H25))) (
 JoinB (emit_Constant_k2 Φ n a0 Q) [(sl s3.1 0)] s3.2)
def emit_Constant (Φ : CallsB) (n : Nat) (a0 : AV) (a1 : AV) (H : TH) (Q : PostB) : Bool :=
 LoopB (emit_Constant_l3 Φ n a0 a1 Q) n ([(.lst .nil 0 []), (.int .i64 0)], H)
theorem eq_emit_Constant (Φ : CallsB) (n : Nat) (a0 a1 : AV) (H : TH) (Q : PostB) : fnB1 Φ n S.ir_emit_Constant [a0, a1] H Q = emit_Constant Φ n a0 a1 H Q := by kernel_rfl

def emit_Thread_k1 (Φ : CallsB) (n : Nat) (s36 : List AV × TH) (L37 : (List AV × TH) → Bool) (Q : PostB) : List AV → TH → Bool := fun j39 H40 =>
 DoB (abin .add (sl s36.1 0) (.int .i64 1)) fun x81 =>
 L37 ([x81], H40)
def emit_Thread_k2 (Φ : CallsB) (n : Nat) (x4 : AV) (x44 : AV) (x57 : AV) (s36 : List AV × TH) (L37 : (List AV × TH) → Bool) (Q : PostB) : List AV → TH → Bool := fun j59 H60 =>
 DoB (anilck x4) fun x66 =>
 DoB (afaddr 1 x66) fun x67 =>
 DoB (aload H60.ah 1 false x67) fun x68 =>
 DoB (afaddr 0 x44) fun x70 =>
 DoB (aload H60.ah 1 false x70) fun x71 =>
 DoB (afaddr 0 x44) fun x73 =>
 DoB (aload H60.ah 1 false x73) fun x74 =>
 DoB (abin .sub x57 x74) fun x76 =>
 DoB (aiaddr none 7 x68 x71) fun x77 =>
 DoB (afaddr 6 x77) fun x78 =>
 DoB (tstore H60 1 x78 x76) fun H80 =>
 JoinB (emit_Thread_k1 Φ n s36 L37 Q) [] H80
def emit_Thread_k3 (Φ : CallsB) (n : Nat) (x4 : AV) (Q : PostB) : List AV → TH → Bool := fun j29 H30 =>
 DoB (anilck x4) fun x82 =>
 DoB (afaddr 7 x82) fun x83 =>
 DoB (aload H30.ah 1 false x83) fun x84 =>
 DoB (abin .neq x84 (.int .i64 0)) fun x86 =>
 GdB x86 true (
 DoB (anilck x4) fun x87 =>
 DoB (afaddr 7 x87) fun x88 =>
 DoB (aload H30.ah 1 false x88) fun x89 =>
 Q (.tup [(.lst .nil 0 []), (.lst .nil 0 []), (.lst .nil 0 []), x89]) H30) (
 DoB (anilck x4) fun x91 =>
 DoB (afaddr 1 x91) fun x92 =>
 DoB (aload H30.ah 1 false x92) fun x93 =>
 DoB (anilck x4) fun x95 =>
 DoB (afaddr 2 x95) fun x96 =>
 DoB (aload H30.ah 1 false x96) fun x97 =>
 DoB (anilck x4) fun x99 =>
 DoB (afaddr 3 x99) fun x100 =>
 DoB (aload H30.ah 1 false x100) fun x101 =>
 Q (.tup [x93, x97, x101, (.int .i64 0)]) H30)
def emit_Thread_l4 (Φ : CallsB) (n : Nat) (x4 : AV) (x33 : AV) (x35 : AV) (Q : PostB) : (List AV × TH) → ((List AV × TH) → Bool) → Bool := fun s36 L37 =>
 DoB (abin .lss (sl s36.1 0) x35) fun x38 =>
 GdB x38 true (
 DoB (aiaddr none 2 x33 (sl s36.1 0)) fun x41 =>
 DoB (aload s36.2.ah 2 true x41) fun x42 =>
 DoHB (some (tbox s36.2 true [.int .i64 0, .int .i64 0])) fun x44 H45 =>
 DoB (tstore H45 2 x44 x42) fun H47 =>
 DoB (anilck x4) fun x48 =>
 DoB (afaddr 5 x48) fun x49 =>
 DoB (aload H47.ah 1 false x49) fun x50 =>
 DoB (afaddr 1 x44) fun x52 =>
 DoB (aload H47.ah 1 false x52) fun x53 =>
 DoB (alookup H47.ah .n (.int .i64 0) true x50 x53) fun x55 =>
 DoB (aextract 0 x55) fun x57 =>
 DoB (aextract 1 x55) fun x58 =>
 DoB (aun .not x58) fun x61 =>
 GdB x61 true (
 DoB (anilck x4) fun x62 =>
 DoB (afaddr 7 x62) fun x63 =>
 DoB (tstore H47 1 x63 (.int .i64 1)) fun H65 =>
 JoinB (emit_Thread_k2 Φ n x4 x44 x57 s36 L37 Q) [] H65) (
 JoinB (emit_Thread_k2 Φ n x4 x44 x57 s36 L37 Q) [] H47)) (
 JoinB (emit_Thread_k3 Φ n x4 Q) [] s36.2)
def emit_Thread_k5 (Φ : CallsB) (n : Nat) (x4 : AV) (Q : PostB) : List AV → TH → Bool := fun j8 H9 =>
 DoB (abuild [.int .i64 0, .int .i64 0, .int .i64 0, .int .i64 0, .int .i64 0, .int .i64 0, .int .i64 0] [(0, 1, (.int .i64 31))]) fun x26 =>
Φ K.emit_maker_add [x4, x26] H9 fun x27 H28 =>
 DoB (anilck x4) fun x31 =>
 DoB (afaddr 6 x31) fun x32 =>
 DoB (aload H28.ah 1 false x32) fun x33 =>
 DoB (alen false x33) fun x35 =>
 LoopB (emit_Thread_l4 Φ n x4 x33 x35 Q) n ([(.int .i64 0)], H28)
def emit_Thread_l6 (Φ : CallsB) (n : Nat) (a0 : AV) (x4 : AV) (x10 : AV) (Q : PostB) : (List AV × TH) → ((List AV × TH) → Bool) → Bool := fun s11 L12 =>
 DoB (abin .lss (sl s11.1 0) x10) fun x13 =>
 GdB x13 true (
 DoB (aiaddr none 13 a0 (sl s11.1 0)) fun x14 =>
 DoB (aload s11.2.ah 13 true x14) fun x15 =>
 DoHB (some (tbox s11.2 true [.int .i64 0, .int .i64 0, .int .i64 0, .int .i64 0, .int .i64 0, .int .i64 0, .int .u64 0, .int .i64 0, .int .i64 0, .int .i64 0, .int .i64 0, .int .i64 0, .int .i64 0])) fun x17 H18 =>
 DoB (tstore H18 13 x17 x15) fun H20 =>
 DoB (aload H20.ah 13 true x17) fun x21 =>
Φ K.emit_maker_step [x4, x21] H20 fun x23 H24 =>
 DoB (abin .add (sl s11.1 0) (.int .i64 1)) fun x25 =>
 L12 ([x25], H24)) (
 JoinB (emit_Thread_k5 Φ n x4 Q) [] s11.2)
def emit_Thread (Φ : CallsB) (n : Nat) (a0 : AV) (a1 : AV) (a2 : AV) (H : TH) (Q : PostB) : Bool :=
 DoB (abuild [.lst .nil 0 [], .lst .nil 0 [], .lst .nil 0 [], .lst .nil 0 [], .int .i64 0, .nilmap, .lst .nil 0 [], .int .i64 0] [(0, 1, a1), (5, 1, (.map H.n))]) fun x3 =>
 DoHB (tboxv (H.push (.map [])) true 8 x3) fun x4 H5 =>
Φ K.emit_maker_constant [x4, (.int .i64 28), a2] H5 fun x6 H7 =>
 DoB (alen false a0) fun x10 =>
 LoopB (emit_Thread_l6 Φ n a0 x4 x10 Q) n ([(.int .i64 0)], H7)
theorem eq_emit_Thread (Φ : CallsB) (n : Nat) (a0 a1 a2 : AV) (H : TH) (Q : PostB) : fnB1 Φ n S.ir_emit_Thread [a0, a1, a2] H Q = emit_Thread Φ n a0 a1 a2 H Q := by kernel_rfl

def emit_maker_constant_l1 (Φ : CallsB) (n : Nat) (a0 : AV) (x1 : AV) (x3 : AV) (Q : PostB) : (List AV × TH) → ((List AV × TH) → Bool) → Bool := fun s4 L5 =>
 DoB (abin .lss (sl s4.1 0) x3) fun x6 =>
 GdB x6 true (
 DoB (aiaddr none 7 x1 (sl s4.1 0)) fun x7 =>
 DoB (aload s4.2.ah 7 true x7) fun x8 =>
 DoHB (some (tbox s4.2 true [.int .i64 0, .int .i64 0, .int .i64 0, .int .i64 0, .int .i64 0, .int .i64 0, .int .i64 0])) fun x10 H11 =>
 DoB (tstore H11 7 x10 x8) fun H13 =>
 DoB (aload H13.ah 7 true x10) fun x14 =>
Φ K.emit_maker_add [a0, x14] H13 fun x16 H17 =>
 DoB (abin .add (sl s4.1 0) (.int .i64 1)) fun x18 =>
 L5 ([x18], H17)) (
 Q (.tup []) s4.2)
def emit_maker_constant (Φ : CallsB) (n : Nat) (a0 : AV) (a1 : AV) (a2 : AV) (H : TH) (Q : PostB) : Bool :=
Φ K.emit_Constant [a1, a2] H fun x1 H2 =>
 DoB (alen false x1) fun x3 =>
 LoopB (emit_maker_constant_l1 Φ n a0 x1 x3 Q) n ([(.int .i64 0)], H2)
theorem eq_emit_maker_constant (Φ : CallsB) (n : Nat) (a0 a1 a2 : AV) (H : TH) (Q : PostB) : fnB1 Φ n S.ir_emit_maker_constant [a0, a1, a2] H Q = emit_maker_constant Φ n a0 a1 a2 H Q := by kernel_rfl

def emit_maker_step_k1 (Φ : CallsB) (n : Nat) (a0 : AV) (x1 : AV) (Q : PostB) : List AV → TH → Bool := fun j79 H80 =>
 DoB (afaddr 11 x1) fun x85 =>
 DoB (aload H80.ah 1 false x85) fun x86 =>
 DoB (abuild [.int .i64 0, .int .i64 0, .int .i64 0, .int .i64 0, .int .i64 0, .int .i64 0, .int .i64 0] [(0, 1, (.int .i64 29)), (6, 1, (sl j79 0))]) fun x88 =>
Φ K.emit_maker_at [a0, x86, x88] H80 fun x89 H90 =>
 Q (.tup []) H90
def emit_maker_step_k2 (Φ : CallsB) (n : Nat) (a0 : AV) (x1 : AV) (x11 : AV) (Q : PostB) : List AV → TH → Bool := fun j106 H107 =>
 GdB (sl j106 0) true (
 DoB (aload H107.ah 13 true x1) fun x109 =>
Φ K.emit_maker_jump [a0, x109] H107 fun x111 H112 =>
 Q (.tup []) H112) (
 DoB (abin .eql x11 (.int .i64 17)) fun x113 =>
 GdB x113 true (
 DoB (aload H107.ah 13 true x1) fun x114 =>
Φ K.emit_maker_bound [a0, x114] H107 fun x116 H117 =>
 Q (.tup []) H117) (
 DoB (abin .eql x11 (.int .i64 18)) fun x118 =>
 GdB x118 true (
 DoB (afaddr 3 x1) fun x119 =>
 DoB (aload H107.ah 1 false x119) fun x120 =>
Φ K.emit_maker_source [a0, x120, (.int .i64 8)] H107 fun x122 H123 =>
 DoB (abin .add (.int .i64 1) x122) fun x124 =>
 DoB (abuild [.int .i64 0, .int .i64 0, .int .i64 0, .int .i64 0, .int .i64 0, .int .i64 0, .int .i64 0] [(0, 1, (.int .i64 31)), (6, 1, x124)]) fun x125 =>
Φ K.emit_maker_add [a0, x125] H123 fun x126 H127 =>
 Q (.tup []) H127) (
 DoB (anilck a0) fun x128 =>
 DoB (afaddr 7 x128) fun x129 =>
 DoB (tstore H107 1 x129 (.int .i64 1)) fun H131 =>
 Q (.tup []) H131)))
def emit_maker_step_k3 (Φ : CallsB) (n : Nat) (a0 : AV) (x1 : AV) (x11 : AV) (Q : PostB) : List AV → TH → Bool := fun j71 H72 =>
 GdB (sl j71 0) true (
 DoB (aload H72.ah 13 true x1) fun x74 =>
Φ K.emit_maker_two [a0, x74] H72 fun x76 H77 =>
 Q (.tup []) H77) (
 DoB (abin .eql x11 (.int .i64 13)) fun x78 =>
 GdB x78 true (
 DoB (afaddr 9 x1) fun x81 =>
 DoB (aload H72.ah 1 false x81) fun x82 =>
 DoB (abin .eql x82 (.int .i64 2)) fun x84 =>
 GdB x84 true (
 JoinB (emit_maker_step_k1 Φ n a0 x1 Q) [(.int .i64 1)] H72) (
 JoinB (emit_maker_step_k1 Φ n a0 x1 Q) [(.int .i64 0)] H72)) (
 DoB (abin .eql x11 (.int .i64 14)) fun x91 =>
 GdB x91 true (
 DoB (anilck a0) fun x92 =>
 DoB (afaddr 5 x92) fun x93 =>
 DoB (aload H72.ah 1 false x93) fun x94 =>
 DoB (afaddr 10 x1) fun x96 =>
 DoB (aload H72.ah 1 false x96) fun x97 =>
 DoB (anilck a0) fun x99 =>
 DoB (afaddr 1 x99) fun x100 =>
 DoB (aload H72.ah 1 false x100) fun x101 =>
 DoB (alen false x101) fun x103 =>
 DoB (tmapup H72 .n x94 x97 x103) fun H105 =>
 Q (.tup []) H105) (
 DoB (abin .eql x11 (.int .i64 15)) fun x108 =>
 GdB x108 true (
 JoinB (emit_maker_step_k2 Φ n a0 x1 x11 Q) [x108] H72) (
 DoB (abin .eql x11 (.int .i64 16)) fun x132 =>
 JoinB (emit_maker_step_k2 Φ n a0 x1 x11 Q) [x132] H72))))
def emit_maker_step_k4 (Φ : CallsB) (n : Nat) (a0 : AV) (x1 : AV) (x11 : AV) (Q : PostB) : List AV → TH → Bool := fun j59 H60 =>
 GdB (sl j59 0) true (
 DoB (aload H60.ah 13 true x1) fun x62 =>
Φ K.emit_maker_change [a0, x62] H60 fun x64 H65 =>
 Q (.tup []) H65) (
 DoB (abin .eql x11 (.int .i64 10)) fun x66 =>
 GdB x66 true (
 DoB (aload H60.ah 13 true x1) fun x67 =>
Φ K.emit_maker_compare [a0, x67] H60 fun x69 H70 =>
 Q (.tup []) H70) (
 DoB (abin .eql x11 (.int .i64 11)) fun x73 =>
 GdB x73 true (
 JoinB (emit_maker_step_k3 Φ n a0 x1 x11 Q) [x73] H60) (
 DoB (abin .eql x11 (.int .i64 12)) fun x133 =>
 JoinB (emit_maker_step_k3 Φ n a0 x1 x11 Q) [x133] H60)))
def emit_maker_step_k5 (Φ : CallsB) (n : Nat) (a0 : AV) (x1 : AV) (x11 : AV) (Q : PostB) : List AV → TH → Bool := fun j52 H53 =>
 GdB (sl j52 0) true (
 DoB (aload H53.ah 13 true x1) fun x55 =>
Φ K.emit_maker_store [a0, x55] H53 fun x57 H58 =>
 Q (.tup []) H58) (
 DoB (abin .eql x11 (.int .i64 8)) fun x61 =>
 GdB x61 true (
 JoinB (emit_maker_step_k4 Φ n a0 x1 x11 Q) [x61] H53) (
 DoB (abin .eql x11 (.int .i64 9)) fun x134 =>
 JoinB (emit_maker_step_k4 Φ n a0 x1 x11 Q) [x134] H53))
def emit_maker_step_k6 (Φ : CallsB) (n : Nat) (a0 : AV) (x1 : AV) (x11 : AV) (Q : PostB) : List AV → TH → Bool := fun j45 H46 =>
 GdB (sl j45 0) true (
 DoB (aload H46.ah 13 true x1) fun x48 =>
Φ K.emit_maker_load [a0, x48] H46 fun x50 H51 =>
 Q (.tup []) H51) (
 DoB (abin .eql x11 (.int .i64 5)) fun x54 =>
 GdB x54 true (
 JoinB (emit_maker_step_k5 Φ n a0 x1 x11 Q) [x54] H46) (
 DoB (abin .eql x11 (.int .i64 7)) fun x135 =>
 JoinB (emit_maker_step_k5 Φ n a0 x1 x11 Q) [x135] H46))
def emit_maker_step (Φ : CallsB) (n : Nat) (a0 : AV) (a1 : AV) (H : TH) (Q : PostB) : Bool :=
 DoHB (tboxv H false 13 a1) fun x1 H2 =>
 DoB (afaddr 12 x1) fun x3 =>
 DoB (aload H2.ah 1 false x3) fun x4 =>
 DoB (anilck a0) fun x6 =>
 DoB (afaddr 4 x6) fun x7 =>
 DoB (tstore H2 1 x7 x4) fun H9 =>
 DoB (afaddr 0 x1) fun x10 =>
 DoB (aload H9.ah 1 false x10) fun x11 =>
 DoB (abin .eql x11 (.int .i64 1)) fun x13 =>
 GdB x13 true (
 DoB (afaddr 1 x1) fun x14 =>
 DoB (aload H9.ah 1 false x14) fun x15 =>
Φ K.emit_maker_target [a0, x15, (.int .i64 11)] H9 fun x17 H18 =>
 DoB (afaddr 6 x1) fun x19 =>
 DoB (aload H18.ah 1 false x19) fun x20 =>
Φ K.emit_maker_constant [a0, x17, x20] H18 fun x22 H23 =>
 DoB (afaddr 1 x1) fun x24 =>
 DoB (aload H23.ah 1 false x24) fun x25 =>
Φ K.emit_maker_keep [a0, x25, x17] H23 fun x27 H28 =>
 Q (.tup []) H28) (
 DoB (abin .eql x11 (.int .i64 2)) fun x29 =>
 GdB x29 true (
 DoB (afaddr 1 x1) fun x30 =>
 DoB (aload H9.ah 1 false x30) fun x31 =>
 DoB (afaddr 3 x1) fun x33 =>
 DoB (aload H9.ah 1 false x33) fun x34 =>
Φ K.emit_maker_source [a0, x34, (.int .i64 8)] H9 fun x36 H37 =>
 and (sameV (aload H37.ah 1 false x30) x31) (
Φ K.emit_maker_finish [a0, x31, x36] H37 fun x38 H39 =>
 Q (.tup []) H39)) (
 DoB (abin .eql x11 (.int .i64 3)) fun x40 =>
 GdB x40 true (
 DoB (aload H9.ah 13 true x1) fun x41 =>
Φ K.emit_maker_bin [a0, x41] H9 fun x43 H44 =>
 Q (.tup []) H44) (
 DoB (abin .eql x11 (.int .i64 4)) fun x47 =>
 GdB x47 true (
 JoinB (emit_maker_step_k6 Φ n a0 x1 x11 Q) [x47] H9) (
 DoB (abin .eql x11 (.int .i64 6)) fun x136 =>
 JoinB (emit_maker_step_k6 Φ n a0 x1 x11 Q) [x136] H9))))
theorem eq_emit_maker_step (Φ : CallsB) (n : Nat) (a0 a1 : AV) (H : TH) (Q : PostB) : fnB1 Φ n S.ir_emit_maker_step [a0, a1] H Q = emit_maker_step Φ n a0 a1 H Q := by kernel_rfl

def emit_maker_add (Φ : CallsB) (n : Nat) (a0 : AV) (a1 : AV) (H : TH) (Q : PostB) : Bool :=
 DoHB (tboxv H false 7 a1) fun x1 H2 =>
 DoB (aload H2.ah 7 true x1) fun x3 =>
Φ K.emit_maker_at [a0, (.int .i64 0), x3] H2 fun x5 H6 =>
 Q (.tup []) H6
theorem eq_emit_maker_add (Φ : CallsB) (n : Nat) (a0 a1 : AV) (H : TH) (Q : PostB) : fnB1 Φ n S.ir_emit_maker_add [a0, a1] H Q = emit_maker_add Φ n a0 a1 H Q := by kernel_rfl

def emit_maker_target (Φ : CallsB) (n : Nat) (a0 : AV) (a1 : AV) (a2 : AV) (H : TH) (Q : PostB) : Bool :=
Φ K.emit_maker_place [a0, a1] H fun x1 H2 =>
 DoB (abin .geq x1 (.int .i64 0)) fun x3 =>
 GdB x3 true (
 Q x1 H2) (
 Q a2 H2)
theorem eq_emit_maker_target (Φ : CallsB) (n : Nat) (a0 a1 a2 : AV) (H : TH) (Q : PostB) : fnB1 Φ n S.ir_emit_maker_target [a0, a1, a2] H Q = emit_maker_target Φ n a0 a1 a2 H Q := by kernel_rfl

def emit_maker_keep (Φ : CallsB) (n : Nat) (a0 : AV) (a1 : AV) (a2 : AV) (H : TH) (Q : PostB) : Bool :=
Φ K.emit_maker_place [a0, a1] H fun x1 H2 =>
 DoB (abin .lss x1 (.int .i64 0)) fun x3 =>
 GdB x3 true (
 DoB (abin .sub (.int .i64 (-1)) x1) fun x4 =>
 DoB (abuild [.int .i64 0, .int .i64 0, .int .i64 0, .int .i64 0, .int .i64 0, .int .i64 0, .int .i64 0] [(0, 1, (.int .i64 18)), (1, 1, a2), (2, 1, (.int .i64 28)), (5, 1, (.int .i64 3)), (6, 1, x4)]) fun x5 =>
Φ K.emit_maker_add [a0, x5] H2 fun x6 H7 =>
 Q (.tup []) H7) (
 Q (.tup []) H2)
theorem eq_emit_maker_keep (Φ : CallsB) (n : Nat) (a0 a1 a2 : AV) (H : TH) (Q : PostB) : fnB1 Φ n S.ir_emit_maker_keep [a0, a1, a2] H Q = emit_maker_keep Φ n a0 a1 a2 H Q := by kernel_rfl

def emit_maker_finish (Φ : CallsB) (n : Nat) (a0 : AV) (a1 : AV) (a2 : AV) (H : TH) (Q : PostB) : Bool :=
Φ K.emit_maker_target [a0, a1, (.int .i64 11)] H fun x1 H2 =>
Φ K.emit_maker_move [a0, x1, a2] H2 fun x3 H4 =>
Φ K.emit_maker_keep [a0, a1, x1] H4 fun x5 H6 =>
 Q (.tup []) H6
theorem eq_emit_maker_finish (Φ : CallsB) (n : Nat) (a0 a1 a2 : AV) (H : TH) (Q : PostB) : fnB1 Φ n S.ir_emit_maker_finish [a0, a1, a2] H Q = emit_maker_finish Φ n a0 a1 a2 H Q := by kernel_rfl

def emit_maker_source (Φ : CallsB) (n : Nat) (a0 : AV) (a1 : AV) (a2 : AV) (H : TH) (Q : PostB) : Bool :=
Φ K.emit_maker_place [a0, a1] H fun x1 H2 =>
 DoB (abin .geq x1 (.int .i64 0)) fun x3 =>
 GdB x3 true (
 Q x1 H2) (
 DoB (abin .sub (.int .i64 (-1)) x1) fun x4 =>
 DoB (abuild [.int .i64 0, .int .i64 0, .int .i64 0, .int .i64 0, .int .i64 0, .int .i64 0, .int .i64 0] [(0, 1, (.int .i64 17)), (1, 1, a2), (2, 1, (.int .i64 28)), (5, 1, (.int .i64 3)), (6, 1, x4)]) fun x5 =>
Φ K.emit_maker_add [a0, x5] H2 fun x6 H7 =>
 Q a2 H7)
theorem eq_emit_maker_source (Φ : CallsB) (n : Nat) (a0 a1 a2 : AV) (H : TH) (Q : PostB) : fnB1 Φ n S.ir_emit_maker_source [a0, a1, a2] H Q = emit_maker_source Φ n a0 a1 a2 H Q := by kernel_rfl

def emit_maker_bin_k1 (Φ : CallsB) (n : Nat) (a0 : AV) (x1 : AV) (x16 : AV) (Q : PostB) : List AV → TH → Bool := fun j18 H19 =>
 DoB (afaddr 1 x1) fun x29 =>
 DoB (aload H19.ah 1 false x29) fun x30 =>
Φ K.emit_maker_keep [a0, x30, x16] H19 fun x32 H33 =>
 Q (.tup []) H33
def emit_maker_bin (Φ : CallsB) (n : Nat) (a0 : AV) (a1 : AV) (H : TH) (Q : PostB) : Bool :=
 DoHB (tboxv H false 13 a1) fun x1 H2 =>
 DoB (afaddr 3 x1) fun x3 =>
 DoB (aload H2.ah 1 false x3) fun x4 =>
 DoB (afaddr 4 x1) fun x6 =>
 DoB (aload H2.ah 1 false x6) fun x7 =>
 DoB (afaddr 1 x1) fun x9 =>
 DoB (aload H2.ah 1 false x9) fun x10 =>
Φ K.emit_maker_source [a0, x4, (.int .i64 8)] H2 fun x12 H13 =>
 and (sameV (aload H13.ah 1 false x6) x7) (
 and (sameV (aload H13.ah 1 false x9) x10) (
Φ K.emit_maker_source [a0, x7, (.int .i64 9)] H13 fun x14 H15 =>
 and (sameV (aload H15.ah 1 false x9) x10) (
Φ K.emit_maker_target [a0, x10, (.int .i64 11)] H15 fun x16 H17 =>
 DoB (afaddr 7 x1) fun x20 =>
 DoB (aload H17.ah 1 false x20) fun x21 =>
Φ K.emit_plain [x21] H17 fun x23 H24 =>
 DoB (abin .neq x23 (.int .i64 0)) fun x25 =>
 GdB x25 true (
 DoB (abuild [.int .i64 0, .int .i64 0, .int .i64 0, .int .i64 0, .int .i64 0, .int .i64 0, .int .i64 0] [(0, 1, x23), (1, 1, x16), (2, 1, x12), (3, 1, x14)]) fun x26 =>
Φ K.emit_maker_add [a0, x26] H24 fun x27 H28 =>
 JoinB (emit_maker_bin_k1 Φ n a0 x1 x16 Q) [] H28) (
 DoB (abuild [.int .i64 0, .int .i64 0, .int .i64 0, .int .i64 0, .int .i64 0, .int .i64 0, .int .i64 0] [(0, 1, (.int .i64 5)), (1, 1, (.int .i64 31)), (2, 1, x12), (3, 1, x14)]) fun x34 =>
Φ K.emit_maker_add [a0, x34] H24 fun x35 H36 =>
 DoB (afaddr 7 x1) fun x37 =>
 DoB (aload H36.ah 1 false x37) fun x38 =>
Φ K.emit_condition [x38] H36 fun x40 H41 =>
 DoB (abuild [.int .i64 0, .int .i64 0, .int .i64 0, .int .i64 0, .int .i64 0, .int .i64 0, .int .i64 0] [(0, 1, (.int .i64 12)), (1, 1, x16), (4, 1, x40)]) fun x42 =>
Φ K.emit_maker_add [a0, x42] H41 fun x43 H44 =>
 JoinB (emit_maker_bin_k1 Φ n a0 x1 x16 Q) [] H44))))
theorem eq_emit_maker_bin (Φ : CallsB) (n : Nat) (a0 a1 : AV) (H : TH) (Q : PostB) : fnB1 Φ n S.ir_emit_maker_bin [a0, a1] H Q = emit_maker_bin Φ n a0 a1 H Q := by kernel_rfl

def emit_maker_load (Φ : CallsB) (n : Nat) (a0 : AV) (a1 : AV) (H : TH) (Q : PostB) : Bool :=
 DoHB (tboxv H false 13 a1) fun x1 H2 =>
 DoB (aload H2.ah 13 true x1) fun x3 =>
 DoB (afaddr 1 x1) fun x5 =>
 DoB (aload H2.ah 1 false x5) fun x6 =>
Φ K.emit_maker_address [a0, x3] H2 fun x8 H9 =>
 and (sameV (aload H9.ah 1 false x5) x6) (
Φ K.emit_maker_target [a0, x6, (.int .i64 11)] H9 fun x10 H11 =>
 DoB (afaddr 11 x1) fun x12 =>
 DoB (aload H11.ah 1 false x12) fun x13 =>
 DoB (afaddr 9 x1) fun x15 =>
 DoB (aload H11.ah 1 false x15) fun x16 =>
 DoB (afaddr 8 x1) fun x18 =>
 DoB (aload H11.ah 1 false x18) fun x19 =>
Φ K.emit_acquires [x16] H11 fun x21 H22 =>
 and (sameV (aload H22.ah 1 false x12) x13) (
 and (sameV (aload H22.ah 1 false x18) x19) (
Φ K.emit_either [x21, (.int .i64 19), (.int .i64 17)] H22 fun x23 H24 =>
 and (sameV (aload H24.ah 1 false x12) x13) (
 and (sameV (aload H24.ah 1 false x18) x19) (
Φ K.emit_size [x19] H24 fun x25 H26 =>
 and (sameV (aload H26.ah 1 false x12) x13) (
 DoB (abuild [.int .i64 0, .int .i64 0, .int .i64 0, .int .i64 0, .int .i64 0, .int .i64 0, .int .i64 0] [(0, 1, x23), (1, 1, x10), (2, 1, x8), (5, 1, x25)]) fun x27 =>
Φ K.emit_maker_at [a0, x13, x27] H26 fun x28 H29 =>
 DoB (afaddr 1 x1) fun x30 =>
 DoB (aload H29.ah 1 false x30) fun x31 =>
Φ K.emit_maker_keep [a0, x31, x10] H29 fun x33 H34 =>
 Q (.tup []) H34))))))
theorem eq_emit_maker_load (Φ : CallsB) (n : Nat) (a0 a1 : AV) (H : TH) (Q : PostB) : fnB1 Φ n S.ir_emit_maker_load [a0, a1] H Q = emit_maker_load Φ n a0 a1 H Q := by kernel_rfl

def emit_maker_store (Φ : CallsB) (n : Nat) (a0 : AV) (a1 : AV) (H : TH) (Q : PostB) : Bool :=
 DoHB (tboxv H false 13 a1) fun x1 H2 =>
 DoB (aload H2.ah 13 true x1) fun x3 =>
 DoB (afaddr 4 x1) fun x5 =>
 DoB (aload H2.ah 1 false x5) fun x6 =>
Φ K.emit_maker_address [a0, x3] H2 fun x8 H9 =>
 and (sameV (aload H9.ah 1 false x5) x6) (
Φ K.emit_maker_source [a0, x6, (.int .i64 9)] H9 fun x10 H11 =>
 DoB (afaddr 11 x1) fun x12 =>
 DoB (aload H11.ah 1 false x12) fun x13 =>
 DoB (afaddr 9 x1) fun x15 =>
 DoB (aload H11.ah 1 false x15) fun x16 =>
 DoB (afaddr 8 x1) fun x18 =>
 DoB (aload H11.ah 1 false x18) fun x19 =>
Φ K.emit_releases [x16] H11 fun x21 H22 =>
 and (sameV (aload H22.ah 1 false x12) x13) (
 and (sameV (aload H22.ah 1 false x18) x19) (
Φ K.emit_either [x21, (.int .i64 20), (.int .i64 18)] H22 fun x23 H24 =>
 and (sameV (aload H24.ah 1 false x12) x13) (
 and (sameV (aload H24.ah 1 false x18) x19) (
Φ K.emit_size [x19] H24 fun x25 H26 =>
 and (sameV (aload H26.ah 1 false x12) x13) (
 DoB (abuild [.int .i64 0, .int .i64 0, .int .i64 0, .int .i64 0, .int .i64 0, .int .i64 0, .int .i64 0] [(0, 1, x23), (1, 1, x10), (2, 1, x8), (5, 1, x25)]) fun x27 =>
Φ K.emit_maker_at [a0, x13, x27] H26 fun x28 H29 =>
 Q (.tup []) H29))))))
theorem eq_emit_maker_store (Φ : CallsB) (n : Nat) (a0 a1 : AV) (H : TH) (Q : PostB) : fnB1 Φ n S.ir_emit_maker_store [a0, a1] H Q = emit_maker_store Φ n a0 a1 H Q := by kernel_rfl

def emit_maker_change_k1 (Φ : CallsB) (n : Nat) (a0 : AV) (x1 : AV) (x9 : AV) (x25 : AV) (x31 : AV) (x35 : AV) (Q : PostB) : List AV → TH → Bool := fun j43 H44 =>
 DoB (afaddr 11 x1) fun x52 =>
 DoB (aload H44.ah 1 false x52) fun x53 =>
 DoB (abuild [.int .i64 0, .int .i64 0, .int .i64 0, .int .i64 0, .int .i64 0, .int .i64 0, .int .i64 0] [(0, 1, x25), (3, 1, (.int .i64 13)), (1, 1, (sl j43 0)), (2, 1, x9), (5, 1, x35)]) fun x55 =>
Φ K.emit_maker_at [a0, x53, x55] H44 fun x56 H57 =>
Φ K.emit_maker_back [a0, x31] H57 fun x58 H59 =>
 DoB (afaddr 1 x1) fun x60 =>
 DoB (aload H59.ah 1 false x60) fun x61 =>
Φ K.emit_maker_finish [a0, x61, (.int .i64 14)] H59 fun x63 H64 =>
 Q (.tup []) H64
def emit_maker_change (Φ : CallsB) (n : Nat) (a0 : AV) (a1 : AV) (H : TH) (Q : PostB) : Bool :=
 DoHB (tboxv H false 13 a1) fun x1 H2 =>
 DoB (afaddr 3 x1) fun x3 =>
 DoB (aload H2.ah 1 false x3) fun x4 =>
 DoB (afaddr 4 x1) fun x6 =>
 DoB (aload H2.ah 1 false x6) fun x7 =>
Φ K.emit_maker_source [a0, x4, (.int .i64 8)] H2 fun x9 H10 =>
 and (sameV (aload H10.ah 1 false x6) x7) (
Φ K.emit_maker_source [a0, x7, (.int .i64 9)] H10 fun x11 H12 =>
 DoB (afaddr 9 x1) fun x13 =>
 DoB (aload H12.ah 1 false x13) fun x14 =>
 DoB (afaddr 9 x1) fun x16 =>
 DoB (aload H12.ah 1 false x16) fun x17 =>
Φ K.emit_acquires [x14] H12 fun x19 H20 =>
 and (sameV (aload H20.ah 1 false x16) x17) (
Φ K.emit_either [x19, (.int .i64 22), (.int .i64 21)] H20 fun x21 H22 =>
 and (sameV (aload H22.ah 1 false x16) x17) (
Φ K.emit_releases [x17] H22 fun x23 H24 =>
Φ K.emit_either [x23, (.int .i64 24), (.int .i64 23)] H24 fun x25 H26 =>
 DoB (anilck a0) fun x27 =>
 DoB (afaddr 1 x27) fun x28 =>
 DoB (aload H26.ah 1 false x28) fun x29 =>
 DoB (alen false x29) fun x31 =>
 DoB (afaddr 8 x1) fun x32 =>
 DoB (aload H26.ah 1 false x32) fun x33 =>
Φ K.emit_size [x33] H26 fun x35 H36 =>
 and (sameV (aload H36.ah 1 false x28) x29) (
 DoB (afaddr 11 x1) fun x37 =>
 DoB (aload H36.ah 1 false x37) fun x38 =>
 DoB (abuild [.int .i64 0, .int .i64 0, .int .i64 0, .int .i64 0, .int .i64 0, .int .i64 0, .int .i64 0] [(0, 1, x21), (1, 1, (.int .i64 14)), (2, 1, x9), (5, 1, x35)]) fun x40 =>
Φ K.emit_maker_at [a0, x38, x40] H36 fun x41 H42 =>
 DoB (afaddr 0 x1) fun x45 =>
 DoB (aload H42.ah 1 false x45) fun x46 =>
 DoB (abin .eql x46 (.int .i64 8)) fun x48 =>
 GdB x48 true (
 DoB (abuild [.int .i64 0, .int .i64 0, .int .i64 0, .int .i64 0, .int .i64 0, .int .i64 0, .int .i64 0] [(0, 1, (.int .i64 3)), (1, 1, (.int .i64 12)), (2, 1, (.int .i64 14)), (3, 1, x11)]) fun x49 =>
Φ K.emit_maker_add [a0, x49] H42 fun x50 H51 =>
 JoinB (emit_maker_change_k1 Φ n a0 x1 x9 x25 x31 x35 Q) [(.int .i64 12)] H51) (
 JoinB (emit_maker_change_k1 Φ n a0 x1 x9 x25 x31 x35 Q) [x11] H42)))))
theorem eq_emit_maker_change (Φ : CallsB) (n : Nat) (a0 a1 : AV) (H : TH) (Q : PostB) : fnB1 Φ n S.ir_emit_maker_change [a0, a1] H Q = emit_maker_change Φ n a0 a1 H Q := by kernel_rfl

def emit_maker_compare_k1 (Φ : CallsB) (n : Nat) (a0 : AV) (x1 : AV) (x12 : AV) (x16 : AV) (x26 : AV) (x30 : AV) (x35 : AV) (Q : PostB) : List AV → TH → Bool := fun j37 H38 =>
 DoB (anilck a0) fun x54 =>
 DoB (afaddr 1 x54) fun x55 =>
 DoB (aload H38.ah 1 false x55) fun x56 =>
 DoB (alen false x56) fun x58 =>
 DoB (afaddr 11 x1) fun x59 =>
 DoB (aload H38.ah 1 false x59) fun x60 =>
 DoB (abuild [.int .i64 0, .int .i64 0, .int .i64 0, .int .i64 0, .int .i64 0, .int .i64 0, .int .i64 0] [(0, 1, x26), (1, 1, (.int .i64 14)), (2, 1, x12), (5, 1, x35)]) fun x62 =>
Φ K.emit_maker_at [a0, x60, x62] H38 fun x63 H64 =>
 DoB (abuild [.int .i64 0, .int .i64 0, .int .i64 0, .int .i64 0, .int .i64 0, .int .i64 0, .int .i64 0] [(0, 1, (.int .i64 5)), (1, 1, (.int .i64 31)), (2, 1, (.int .i64 14)), (3, 1, (sl j37 0))]) fun x65 =>
Φ K.emit_maker_add [a0, x65] H64 fun x66 H67 =>
 DoB (abuild [.int .i64 0, .int .i64 0, .int .i64 0, .int .i64 0, .int .i64 0, .int .i64 0, .int .i64 0] [(0, 1, (.int .i64 14)), (4, 1, (.int .i64 1)), (6, 1, (.int .i64 4))]) fun x68 =>
Φ K.emit_maker_add [a0, x68] H67 fun x69 H70 =>
 DoB (afaddr 11 x1) fun x71 =>
 DoB (aload H70.ah 1 false x71) fun x72 =>
 DoB (abuild [.int .i64 0, .int .i64 0, .int .i64 0, .int .i64 0, .int .i64 0, .int .i64 0, .int .i64 0] [(0, 1, x30), (3, 1, (.int .i64 13)), (1, 1, x16), (2, 1, x12), (5, 1, x35)]) fun x74 =>
Φ K.emit_maker_at [a0, x72, x74] H70 fun x75 H76 =>
Φ K.emit_maker_back [a0, x58] H76 fun x77 H78 =>
 DoB (abuild [.int .i64 0, .int .i64 0, .int .i64 0, .int .i64 0, .int .i64 0, .int .i64 0, .int .i64 0] [(0, 1, (.int .i64 13)), (6, 1, (.int .i64 2))]) fun x79 =>
Φ K.emit_maker_add [a0, x79] H78 fun x80 H81 =>
 DoB (abuild [.int .i64 0, .int .i64 0, .int .i64 0, .int .i64 0, .int .i64 0, .int .i64 0, .int .i64 0] [(0, 1, (.int .i64 30))]) fun x82 =>
Φ K.emit_maker_add [a0, x82] H81 fun x83 H84 =>
 DoB (afaddr 1 x1) fun x85 =>
 DoB (aload H84.ah 1 false x85) fun x86 =>
Φ K.emit_maker_finish [a0, x86, (.int .i64 14)] H84 fun x88 H89 =>
 Q (.tup []) H89
def emit_maker_compare (Φ : CallsB) (n : Nat) (a0 : AV) (a1 : AV) (H : TH) (Q : PostB) : Bool :=
 DoHB (tboxv H false 13 a1) fun x1 H2 =>
 DoB (afaddr 3 x1) fun x3 =>
 DoB (aload H2.ah 1 false x3) fun x4 =>
 DoB (afaddr 4 x1) fun x6 =>
 DoB (aload H2.ah 1 false x6) fun x7 =>
 DoB (afaddr 5 x1) fun x9 =>
 DoB (aload H2.ah 1 false x9) fun x10 =>
Φ K.emit_maker_source [a0, x4, (.int .i64 8)] H2 fun x12 H13 =>
 and (sameV (aload H13.ah 1 false x6) x7) (
 and (sameV (aload H13.ah 1 false x9) x10) (
Φ K.emit_maker_source [a0, x7, (.int .i64 9)] H13 fun x14 H15 =>
 and (sameV (aload H15.ah 1 false x9) x10) (
Φ K.emit_maker_source [a0, x10, (.int .i64 10)] H15 fun x16 H17 =>
 DoB (afaddr 9 x1) fun x18 =>
 DoB (aload H17.ah 1 false x18) fun x19 =>
 DoB (afaddr 9 x1) fun x21 =>
 DoB (aload H17.ah 1 false x21) fun x22 =>
Φ K.emit_acquires [x19] H17 fun x24 H25 =>
 and (sameV (aload H25.ah 1 false x21) x22) (
Φ K.emit_either [x24, (.int .i64 22), (.int .i64 21)] H25 fun x26 H27 =>
 and (sameV (aload H27.ah 1 false x21) x22) (
Φ K.emit_releases [x22] H27 fun x28 H29 =>
Φ K.emit_either [x28, (.int .i64 24), (.int .i64 23)] H29 fun x30 H31 =>
 DoB (afaddr 8 x1) fun x32 =>
 DoB (aload H31.ah 1 false x32) fun x33 =>
Φ K.emit_size [x33] H31 fun x35 H36 =>
 DoB (afaddr 8 x1) fun x39 =>
 DoB (aload H36.ah 1 false x39) fun x40 =>
 DoB (abin .lss x40 (.int .i64 8)) fun x42 =>
 GdB x42 true (
 DoB (afaddr 8 x1) fun x43 =>
 DoB (aload H36.ah 1 false x43) fun x44 =>
 DoB (abin .mul (.int .i64 8) x44) fun x46 =>
 DoB (abin .shl (.int .u64 1) x46) fun x47 =>
 DoB (abin .sub x47 (.int .u64 1)) fun x48 =>
Φ K.emit_maker_constant [a0, (.int .i64 12), x48] H36 fun x49 H50 =>
 DoB (abuild [.int .i64 0, .int .i64 0, .int .i64 0, .int .i64 0, .int .i64 0, .int .i64 0, .int .i64 0] [(0, 1, (.int .i64 6)), (1, 1, (.int .i64 12)), (2, 1, x14), (3, 1, (.int .i64 12))]) fun x51 =>
Φ K.emit_maker_add [a0, x51] H50 fun x52 H53 =>
 JoinB (emit_maker_compare_k1 Φ n a0 x1 x12 x16 x26 x30 x35 Q) [(.int .i64 12)] H53) (
 JoinB (emit_maker_compare_k1 Φ n a0 x1 x12 x16 x26 x30 x35 Q) [x14] H36))))))
theorem eq_emit_maker_compare (Φ : CallsB) (n : Nat) (a0 a1 : AV) (H : TH) (Q : PostB) : fnB1 Φ n S.ir_emit_maker_compare [a0, a1] H Q = emit_maker_compare Φ n a0 a1 H Q := by kernel_rfl

def emit_maker_two_k1 (Φ : CallsB) (n : Nat) (a0 : AV) (x1 : AV) (x6 : AV) (j8 : List AV) (j21 : List AV) (Q : PostB) : List AV → TH → Bool := fun j38 H39 =>
 DoB (anilck a0) fun x54 =>
 DoB (afaddr 1 x54) fun x55 =>
 DoB (aload H39.ah 1 false x55) fun x56 =>
 DoB (alen false x56) fun x58 =>
 DoB (afaddr 11 x1) fun x59 =>
 DoB (aload H39.ah 1 false x59) fun x60 =>
 DoB (abuild [.int .i64 0, .int .i64 0, .int .i64 0, .int .i64 0, .int .i64 0, .int .i64 0, .int .i64 0] [(0, 1, (sl j8 0)), (1, 1, (.int .i64 14)), (4, 1, (.int .i64 12)), (2, 1, x6)]) fun x62 =>
Φ K.emit_maker_at [a0, x60, x62] H39 fun x63 H64 =>
 DoB (afaddr 11 x1) fun x65 =>
 DoB (aload H64.ah 1 false x65) fun x66 =>
 DoB (abuild [.int .i64 0, .int .i64 0, .int .i64 0, .int .i64 0, .int .i64 0, .int .i64 0, .int .i64 0] [(0, 1, (sl j21 0)), (3, 1, (.int .i64 13)), (1, 1, (sl j38 0)), (4, 1, (sl j38 1)), (2, 1, x6)]) fun x68 =>
Φ K.emit_maker_at [a0, x66, x68] H64 fun x69 H70 =>
Φ K.emit_maker_back [a0, x58] H70 fun x71 H72 =>
 DoB (afaddr 0 x1) fun x73 =>
 DoB (aload H72.ah 1 false x73) fun x74 =>
 DoB (abin .eql x74 (.int .i64 11)) fun x76 =>
 GdB x76 true (
 DoB (afaddr 1 x1) fun x77 =>
 DoB (aload H72.ah 1 false x77) fun x78 =>
Φ K.emit_maker_finish [a0, x78, (.int .i64 14)] H72 fun x80 H81 =>
 DoB (afaddr 2 x1) fun x82 =>
 DoB (aload H81.ah 1 false x82) fun x83 =>
Φ K.emit_maker_finish [a0, x83, (.int .i64 12)] H81 fun x85 H86 =>
 Q (.tup []) H86) (
 Q (.tup []) H72)
def emit_maker_two_k2 (Φ : CallsB) (n : Nat) (a0 : AV) (x1 : AV) (x6 : AV) (j8 : List AV) (Q : PostB) : List AV → TH → Bool := fun j21 H22 =>
 DoB (afaddr 0 x1) fun x40 =>
 DoB (aload H22.ah 1 false x40) fun x41 =>
 DoB (abin .eql x41 (.int .i64 12)) fun x43 =>
 GdB x43 true (
 DoB (afaddr 4 x1) fun x44 =>
 DoB (aload H22.ah 1 false x44) fun x45 =>
 DoB (afaddr 5 x1) fun x47 =>
 DoB (aload H22.ah 1 false x47) fun x48 =>
Φ K.emit_maker_source [a0, x45, (.int .i64 9)] H22 fun x50 H51 =>
 and (sameV (aload H51.ah 1 false x47) x48) (
Φ K.emit_maker_source [a0, x48, (.int .i64 10)] H51 fun x52 H53 =>
 JoinB (emit_maker_two_k1 Φ n a0 x1 x6 j8 j21 Q) [x50, x52] H53)) (
 JoinB (emit_maker_two_k1 Φ n a0 x1 x6 j8 j21 Q) [(.int .i64 14), (.int .i64 12)] H22)
def emit_maker_two_k3 (Φ : CallsB) (n : Nat) (a0 : AV) (x1 : AV) (x6 : AV) (Q : PostB) : List AV → TH → Bool := fun j8 H9 =>
 DoB (afaddr 9 x1) fun x23 =>
 DoB (aload H9.ah 1 false x23) fun x24 =>
 DoB (abin .eql x24 (.int .i64 4)) fun x26 =>
 Gd3B x26 false (
 DoB (afaddr 0 x1) fun x27 =>
 DoB (aload H9.ah 1 false x27) fun x28 =>
 DoB (abin .eql x28 (.int .i64 12)) fun x30 =>
 Gd3B x30 true (
 DoB (afaddr 9 x1) fun x31 =>
 DoB (aload H9.ah 1 false x31) fun x32 =>
Φ K.emit_releases [x32] H9 fun x34 H35 =>
Φ K.emit_either [x34, (.int .i64 28), (.int .i64 27)] H35 fun x36 H37 =>
 JoinB (emit_maker_two_k2 Φ n a0 x1 x6 j8 Q) [x36] H37) (
Φ K.emit_either [(.bool false), (.int .i64 28), (.int .i64 27)] H9 fun x87 H88 =>
 JoinB (emit_maker_two_k2 Φ n a0 x1 x6 j8 Q) [x87] H88) (
 false)) (
Φ K.emit_either [(.bool true), (.int .i64 28), (.int .i64 27)] H9 fun x89 H90 =>
 JoinB (emit_maker_two_k2 Φ n a0 x1 x6 j8 Q) [x89] H90) (
 false)
def emit_maker_two (Φ : CallsB) (n : Nat) (a0 : AV) (a1 : AV) (H : TH) (Q : PostB) : Bool :=
 DoHB (tboxv H false 13 a1) fun x1 H2 =>
 DoB (afaddr 3 x1) fun x3 =>
 DoB (aload H2.ah 1 false x3) fun x4 =>
Φ K.emit_maker_source [a0, x4, (.int .i64 8)] H2 fun x6 H7 =>
 DoB (afaddr 0 x1) fun x10 =>
 DoB (aload H7.ah 1 false x10) fun x11 =>
 DoB (abin .eql x11 (.int .i64 11)) fun x13 =>
 Gd3B x13 true (
 DoB (afaddr 9 x1) fun x14 =>
 DoB (aload H7.ah 1 false x14) fun x15 =>
Φ K.emit_acquires [x15] H7 fun x17 H18 =>
Φ K.emit_either [x17, (.int .i64 26), (.int .i64 25)] H18 fun x19 H20 =>
 JoinB (emit_maker_two_k3 Φ n a0 x1 x6 Q) [x19] H20) (
Φ K.emit_either [(.bool false), (.int .i64 26), (.int .i64 25)] H7 fun x91 H92 =>
 JoinB (emit_maker_two_k3 Φ n a0 x1 x6 Q) [x91] H92) (
 false)
theorem eq_emit_maker_two (Φ : CallsB) (n : Nat) (a0 a1 : AV) (H : TH) (Q : PostB) : fnB1 Φ n S.ir_emit_maker_two [a0, a1] H Q = emit_maker_two Φ n a0 a1 H Q := by kernel_rfl

def emit_maker_at (Φ : CallsB) (n : Nat) (a0 : AV) (a1 : AV) (a2 : AV) (H : TH) (Q : PostB) : Bool :=
 DoHB (tboxv H false 7 a2) fun x1 H2 =>
 DoB (anilck a0) fun x3 =>
 DoB (afaddr 1 x3) fun x4 =>
 DoB (aload H2.ah 1 false x4) fun x5 =>
 DoB (aload H2.ah 7 true x1) fun x7 =>
 DoHB (tbslice H2 false 7 1 [.int .i64 0, .int .i64 0, .int .i64 0, .int .i64 0, .int .i64 0, .int .i64 0, .int .i64 0] [(0, 7, x7)]) fun x9 H10 =>
 DoHB (tappend H10 true 7 56 x5 x9) fun x11 H12 =>
 DoB (anilck a0) fun x13 =>
 DoB (afaddr 1 x13) fun x14 =>
 DoB (tstore H12 1 x14 x11) fun H16 =>
 DoB (anilck a0) fun x17 =>
 DoB (afaddr 2 x17) fun x18 =>
 DoB (aload H16.ah 1 false x18) fun x19 =>
 DoHB (tbslice H16 false 1 1 [.int .i64 0] [(0, 1, a1)]) fun x21 H22 =>
 DoHB (tappend H22 true 1 8 x19 x21) fun x23 H24 =>
 DoB (anilck a0) fun x25 =>
 DoB (afaddr 2 x25) fun x26 =>
 DoB (tstore H24 1 x26 x23) fun H28 =>
 DoB (anilck a0) fun x29 =>
 DoB (afaddr 3 x29) fun x30 =>
 DoB (aload H28.ah 1 false x30) fun x31 =>
 DoB (anilck a0) fun x33 =>
 DoB (afaddr 4 x33) fun x34 =>
 DoB (aload H28.ah 1 false x34) fun x35 =>
 DoHB (tbslice H28 false 1 1 [.int .i64 0] [(0, 1, x35)]) fun x37 H38 =>
 DoHB (tappend H38 true 1 8 x31 x37) fun x39 H40 =>
 DoB (anilck a0) fun x41 =>
 DoB (afaddr 3 x41) fun x42 =>
 DoB (tstore H40 1 x42 x39) fun H44 =>
 Q (.tup []) H44
theorem eq_emit_maker_at (Φ : CallsB) (n : Nat) (a0 a1 a2 : AV) (H : TH) (Q : PostB) : fnB1 Φ n S.ir_emit_maker_at [a0, a1, a2] H Q = emit_maker_at Φ n a0 a1 a2 H Q := by kernel_rfl

def emit_maker_jump_k1 (Φ : CallsB) (n : Nat) (a0 : AV) (x1 : AV) (x4 : AV) (Q : PostB) : List AV → TH → Bool := fun j8 H9 =>
 DoB (anilck a0) fun x22 =>
 DoB (afaddr 6 x22) fun x23 =>
 DoB (aload H9.ah 1 false x23) fun x24 =>
 DoB (anilck a0) fun x26 =>
 DoB (afaddr 1 x26) fun x27 =>
 DoB (aload H9.ah 1 false x27) fun x28 =>
 DoB (alen false x28) fun x30 =>
 DoB (afaddr 10 x1) fun x31 =>
 DoB (aload H9.ah 1 false x31) fun x32 =>
 DoB (abuild [.int .i64 0, .int .i64 0] [(0, 1, x30), (1, 1, x32)]) fun x34 =>
 DoHB (tbslice H9 false 2 1 [.int .i64 0, .int .i64 0] [(0, 2, x34)]) fun x35 H36 =>
 DoHB (tappend H36 false 2 16 x24 x35) fun x37 H38 =>
 DoB (anilck a0) fun x39 =>
 DoB (afaddr 6 x39) fun x40 =>
 DoB (tstore H38 1 x40 x37) fun H42 =>
 DoB (aload H42.ah 7 true x4) fun x43 =>
Φ K.emit_maker_add [a0, x43] H42 fun x45 H46 =>
 Q (.tup []) H46
def emit_maker_jump (Φ : CallsB) (n : Nat) (a0 : AV) (a1 : AV) (H : TH) (Q : PostB) : Bool :=
 DoHB (tboxv H false 13 a1) fun x1 H2 =>
 DoB (abuild [.int .i64 0, .int .i64 0, .int .i64 0, .int .i64 0, .int .i64 0, .int .i64 0, .int .i64 0] [(0, 1, (.int .i64 13))]) fun x3 =>
 DoHB (some (tbox H2 true [.int .i64 0, .int .i64 0, .int .i64 0, .int .i64 0, .int .i64 0, .int .i64 0, .int .i64 0])) fun x4 H5 =>
 DoB (tstore H5 7 x4 x3) fun H7 =>
 DoB (afaddr 0 x1) fun x10 =>
 DoB (aload H7.ah 1 false x10) fun x11 =>
 DoB (abin .eql x11 (.int .i64 16)) fun x13 =>
 GdB x13 true (
 DoB (afaddr 3 x1) fun x14 =>
 DoB (aload H7.ah 1 false x14) fun x15 =>
Φ K.emit_maker_source [a0, x15, (.int .i64 8)] H7 fun x17 H18 =>
 DoB (abuild [.int .i64 0, .int .i64 0, .int .i64 0, .int .i64 0, .int .i64 0, .int .i64 0, .int .i64 0] [(0, 1, (.int .i64 15)), (1, 1, x17)]) fun x19 =>
 DoB (tstore H18 7 x4 x19) fun H21 =>
 JoinB (emit_maker_jump_k1 Φ n a0 x1 x4 Q) [] H21) (
 JoinB (emit_maker_jump_k1 Φ n a0 x1 x4 Q) [] H7)
theorem eq_emit_maker_jump (Φ : CallsB) (n : Nat) (a0 a1 : AV) (H : TH) (Q : PostB) : fnB1 Φ n S.ir_emit_maker_jump [a0, a1] H Q = emit_maker_jump Φ n a0 a1 H Q := by kernel_rfl

def emit_maker_bound (Φ : CallsB) (n : Nat) (a0 : AV) (a1 : AV) (H : TH) (Q : PostB) : Bool :=
 DoHB (tboxv H false 13 a1) fun x1 H2 =>
 DoB (afaddr 3 x1) fun x3 =>
 DoB (aload H2.ah 1 false x3) fun x4 =>
Φ K.emit_maker_source [a0, x4, (.int .i64 8)] H2 fun x6 H7 =>
 DoB (afaddr 6 x1) fun x8 =>
 DoB (aload H7.ah 1 false x8) fun x9 =>
Φ K.emit_maker_constant [a0, (.int .i64 14), x9] H7 fun x11 H12 =>
 DoB (abuild [.int .i64 0, .int .i64 0, .int .i64 0, .int .i64 0, .int .i64 0, .int .i64 0, .int .i64 0] [(0, 1, (.int .i64 5)), (1, 1, (.int .i64 31)), (2, 1, x6), (3, 1, (.int .i64 14))]) fun x13 =>
Φ K.emit_maker_add [a0, x13] H12 fun x14 H15 =>
 DoB (abuild [.int .i64 0, .int .i64 0, .int .i64 0, .int .i64 0, .int .i64 0, .int .i64 0, .int .i64 0] [(0, 1, (.int .i64 14)), (4, 1, (.int .i64 3)), (6, 1, (.int .i64 2))]) fun x16 =>
Φ K.emit_maker_add [a0, x16] H15 fun x17 H18 =>
 DoB (abuild [.int .i64 0, .int .i64 0, .int .i64 0, .int .i64 0, .int .i64 0, .int .i64 0, .int .i64 0] [(0, 1, (.int .i64 32)), (6, 1, (.int .i64 1))]) fun x19 =>
Φ K.emit_maker_add [a0, x19] H18 fun x20 H21 =>
 Q (.tup []) H21
theorem eq_emit_maker_bound (Φ : CallsB) (n : Nat) (a0 a1 : AV) (H : TH) (Q : PostB) : fnB1 Φ n S.ir_emit_maker_bound [a0, a1] H Q = emit_maker_bound Φ n a0 a1 H Q := by kernel_rfl

def emit_maker_place_k1 (Φ : CallsB) (n : Nat) (a0 : AV) (a1 : AV) (Q : PostB) : List AV → TH → Bool := fun j1 H2 =>
 DoB (anilck a0) fun x16 =>
 DoB (afaddr 0 x16) fun x17 =>
 DoB (aload H2.ah 1 false x17) fun x18 =>
 DoB (aiaddr none 1 x18 a1) fun x20 =>
 DoB (aload H2.ah 1 false x20) fun x21 =>
 Q x21 H2
def emit_maker_place_k2 (Φ : CallsB) (n : Nat) (a0 : AV) (a1 : AV) (Q : PostB) : List AV → TH → Bool := fun j3 H4 =>
 GdB (sl j3 0) true (
 DoB (anilck a0) fun x12 =>
 DoB (afaddr 7 x12) fun x13 =>
 DoB (tstore H4 1 x13 (.int .i64 1)) fun H15 =>
 Q (.int .i64 0) H15) (
 JoinB (emit_maker_place_k1 Φ n a0 a1 Q) [] H4)
def emit_maker_place (Φ : CallsB) (n : Nat) (a0 : AV) (a1 : AV) (H : TH) (Q : PostB) : Bool :=
 DoB (abin .lss a1 (.int .i64 0)) fun x5 =>
 Gd3B x5 false (
 DoB (anilck a0) fun x6 =>
 DoB (afaddr 0 x6) fun x7 =>
 DoB (aload H.ah 1 false x7) fun x8 =>
 DoB (alen false x8) fun x10 =>
 DoB (abin .geq a1 x10) fun x11 =>
 JoinB (emit_maker_place_k2 Φ n a0 a1 Q) [x11] H) (
 JoinB (emit_maker_place_k2 Φ n a0 a1 Q) [(.bool true)] H) (
 false)
theorem eq_emit_maker_place (Φ : CallsB) (n : Nat) (a0 a1 : AV) (H : TH) (Q : PostB) : fnB1 Φ n S.ir_emit_maker_place [a0, a1] H Q = emit_maker_place Φ n a0 a1 H Q := by kernel_rfl

def emit_maker_move (Φ : CallsB) (n : Nat) (a0 : AV) (a1 : AV) (a2 : AV) (H : TH) (Q : PostB) : Bool :=
 DoB (abuild [.int .i64 0, .int .i64 0, .int .i64 0, .int .i64 0, .int .i64 0, .int .i64 0, .int .i64 0] [(0, 1, (.int .i64 7)), (1, 1, a1), (2, 1, (.int .i64 31)), (3, 1, a2)]) fun x1 =>
Φ K.emit_maker_add [a0, x1] H fun x2 H3 =>
 Q (.tup []) H3
theorem eq_emit_maker_move (Φ : CallsB) (n : Nat) (a0 a1 a2 : AV) (H : TH) (Q : PostB) : fnB1 Φ n S.ir_emit_maker_move [a0, a1, a2] H Q = emit_maker_move Φ n a0 a1 a2 H Q := by kernel_rfl

def emit_plain (Φ : CallsB) (n : Nat) (a0 : AV) (H : TH) (Q : PostB) : Bool :=
 DoB (abin .eql a0 (.int .i64 1)) fun x1 =>
 GdB x1 true (
 Q (.int .i64 3) H) (
 DoB (abin .eql a0 (.int .i64 2)) fun x2 =>
 GdB x2 true (
 Q (.int .i64 4) H) (
 DoB (abin .eql a0 (.int .i64 3)) fun x3 =>
 GdB x3 true (
 Q (.int .i64 9) H) (
 DoB (abin .eql a0 (.int .i64 4)) fun x4 =>
 GdB x4 true (
 Q (.int .i64 6) H) (
 DoB (abin .eql a0 (.int .i64 5)) fun x5 =>
 GdB x5 true (
 Q (.int .i64 7) H) (
 DoB (abin .eql a0 (.int .i64 6)) fun x6 =>
 GdB x6 true (
 Q (.int .i64 8) H) (
 DoB (abin .eql a0 (.int .i64 7)) fun x7 =>
 GdB x7 true (
 Q (.int .i64 10) H) (
 DoB (abin .eql a0 (.int .i64 8)) fun x8 =>
 GdB x8 true (
 Q (.int .i64 11) H) (
 Q (.int .i64 0) H))))))))
theorem eq_emit_plain (Φ : CallsB) (n : Nat) (a0 : AV) (H : TH) (Q : PostB) : fnB1 Φ n S.ir_emit_plain [a0] H Q = emit_plain Φ n a0 H Q := by kernel_rfl

def emit_condition (Φ : CallsB) (n : Nat) (a0 : AV) (H : TH) (Q : PostB) : Bool :=
 DoB (abin .eql a0 (.int .i64 9)) fun x1 =>
 GdB x1 true (
 Q (.int .i64 0) H) (
 DoB (abin .eql a0 (.int .i64 10)) fun x2 =>
 GdB x2 true (
 Q (.int .i64 1) H) (
 Q (.int .i64 3) H))
theorem eq_emit_condition (Φ : CallsB) (n : Nat) (a0 : AV) (H : TH) (Q : PostB) : fnB1 Φ n S.ir_emit_condition [a0] H Q = emit_condition Φ n a0 H Q := by kernel_rfl

def emit_maker_address (Φ : CallsB) (n : Nat) (a0 : AV) (a1 : AV) (H : TH) (Q : PostB) : Bool :=
 DoHB (tboxv H false 13 a1) fun x1 H2 =>
 DoB (afaddr 3 x1) fun x3 =>
 DoB (aload H2.ah 1 false x3) fun x4 =>
Φ K.emit_maker_source [a0, x4, (.int .i64 8)] H2 fun x6 H7 =>
 DoB (afaddr 6 x1) fun x8 =>
 DoB (aload H7.ah 1 false x8) fun x9 =>
 DoB (abin .eql x9 (.int .u64 0)) fun x11 =>
 GdB x11 true (
 Q x6 H7) (
 DoB (afaddr 6 x1) fun x12 =>
 DoB (aload H7.ah 1 false x12) fun x13 =>
Φ K.emit_maker_constant [a0, (.int .i64 14), x13] H7 fun x15 H16 =>
 DoB (abuild [.int .i64 0, .int .i64 0, .int .i64 0, .int .i64 0, .int .i64 0, .int .i64 0, .int .i64 0] [(0, 1, (.int .i64 3)), (1, 1, (.int .i64 8)), (2, 1, x6), (3, 1, (.int .i64 14))]) fun x17 =>
Φ K.emit_maker_add [a0, x17] H16 fun x18 H19 =>
 Q (.int .i64 8) H19)
theorem eq_emit_maker_address (Φ : CallsB) (n : Nat) (a0 a1 : AV) (H : TH) (Q : PostB) : fnB1 Φ n S.ir_emit_maker_address [a0, a1] H Q = emit_maker_address Φ n a0 a1 H Q := by kernel_rfl

def emit_either (Φ : CallsB) (n : Nat) (a0 : AV) (a1 : AV) (a2 : AV) (H : TH) (Q : PostB) : Bool :=
 GdB a0 true (
 Q a1 H) (
 Q a2 H)
theorem eq_emit_either (Φ : CallsB) (n : Nat) (a0 a1 a2 : AV) (H : TH) (Q : PostB) : fnB1 Φ n S.ir_emit_either [a0, a1, a2] H Q = emit_either Φ n a0 a1 a2 H Q := by kernel_rfl

def emit_acquires (Φ : CallsB) (n : Nat) (a0 : AV) (H : TH) (Q : PostB) : Bool :=
 DoB (abin .eql a0 (.int .i64 2)) fun x1 =>
 Gd3B x1 false (
 DoB (abin .eql a0 (.int .i64 4)) fun x2 =>
 Q x2 H) (
 Q (.bool true) H) (
 false)
theorem eq_emit_acquires (Φ : CallsB) (n : Nat) (a0 : AV) (H : TH) (Q : PostB) : fnB1 Φ n S.ir_emit_acquires [a0] H Q = emit_acquires Φ n a0 H Q := by kernel_rfl

def emit_size_l1 (Φ : CallsB) (n : Nat) (a0 : AV) (Q : PostB) : (List AV × TH) → ((List AV × TH) → Bool) → Bool := fun s1 L2 =>
 DoB (abin .shl (.int .i64 1) (sl s1.1 0)) fun x3 =>
 DoB (abin .lss x3 a0) fun x4 =>
 GdB x4 true (
 DoB (abin .add (sl s1.1 0) (.int .i64 1)) fun x5 =>
 L2 ([x5], s1.2)) (
 Q (sl s1.1 0) s1.2)
def emit_size (Φ : CallsB) (n : Nat) (a0 : AV) (H : TH) (Q : PostB) : Bool :=
 LoopB (emit_size_l1 Φ n a0 Q) n ([(.int .i64 0)], H)
theorem eq_emit_size (Φ : CallsB) (n : Nat) (a0 : AV) (H : TH) (Q : PostB) : fnB1 Φ n S.ir_emit_size [a0] H Q = emit_size Φ n a0 H Q := by kernel_rfl

def emit_releases (Φ : CallsB) (n : Nat) (a0 : AV) (H : TH) (Q : PostB) : Bool :=
 DoB (abin .eql a0 (.int .i64 3)) fun x1 =>
 Gd3B x1 false (
 DoB (abin .eql a0 (.int .i64 4)) fun x2 =>
 Q x2 H) (
 Q (.bool true) H) (
 false)
theorem eq_emit_releases (Φ : CallsB) (n : Nat) (a0 : AV) (H : TH) (Q : PostB) : fnB1 Φ n S.ir_emit_releases [a0] H Q = emit_releases Φ n a0 H Q := by kernel_rfl

def emit_maker_back (Φ : CallsB) (n : Nat) (a0 : AV) (a1 : AV) (H : TH) (Q : PostB) : Bool :=
 DoB (anilck a0) fun x1 =>
 DoB (afaddr 1 x1) fun x2 =>
 DoB (aload H.ah 1 false x2) fun x3 =>
 DoB (alen false x3) fun x5 =>
 DoB (abin .sub a1 x5) fun x6 =>
 DoB (abuild [.int .i64 0, .int .i64 0, .int .i64 0, .int .i64 0, .int .i64 0, .int .i64 0, .int .i64 0] [(0, 1, (.int .i64 16)), (1, 1, (.int .i64 13)), (6, 1, x6)]) fun x7 =>
Φ K.emit_maker_add [a0, x7] H fun x8 H9 =>
 Q (.tup []) H9
theorem eq_emit_maker_back (Φ : CallsB) (n : Nat) (a0 a1 : AV) (H : TH) (Q : PostB) : fnB1 Φ n S.ir_emit_maker_back [a0, a1] H Q = emit_maker_back Φ n a0 a1 H Q := by kernel_rfl

end Rb.R
