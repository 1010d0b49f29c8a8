/- Proved: rabbetlaw16.EmitConstants returns true for every input, its arguments read afterwards as before. No conditions. -/
import Derived.Test.YtcececgpjnpeoaaRb2
import Derived.KernelRfl
import Derived.Test.YtcececgpjnpeoaaRb3
import Derived.Test.YtcececgpjnpeoaaRows
import Derived.LaidLaws
import Derived.LaidHandle
import Derived.Lib.LaidU8
import Derived.Deep.DeepLaidRun
import Derived.Handed
import Derived.JoinedOf
import Derived.SevenTiedAt
import Derived.ProofKit
import Derived.Lib.Space
/- Package flow: its functions in the small language, and what they mean. By gen.py. -/
set_option linter.unusedVariables false
namespace Rb.S
open Go

/-! rabbet/flow.Next -/
def flow_Next_k1 (Φ : Calls') (x1 : AV) (x7 : AV) (j19 : List AV) (Q : Post) : List AV → AH → Prop := fun j34 H35 =>
 Do (afaddr 31 x1) fun x42 =>
 Do (astore H35 1 x42 (sl j19 0)) fun H43 =>
 Do (aload H43 36 true x1) fun x44 =>
 Do (astore H43 36 x7 x44) fun H45 =>
 Do (aload H45 36 true x7) fun x46 =>
 Q (.tup [x46, (.int .i64 0)]) H45
def flow_Next_k2 (Φ : Calls') (x1 : AV) (x3 : AV) (x7 : AV) (x32 : AV) (j19 : List AV) (Q : Post) : List AV → AH → Prop := fun j55 H56 =>
 Do (afaddr 1 x3) fun x74 =>
 Do (aload H56 1 false x74) fun x75 =>
Φ K.flow_put [x1, x75, x32] H56 fun x76 H77 =>
 JoinP (flow_Next_k1 Φ x1 x7 j19 Q) [] H77
def flow_Next_k3 (Φ : Calls') (a3 : AV) (x1 : AV) (x3 : AV) (x5 : AV) (x7 : AV) (Q : Post) : List AV → AH → Prop := fun j19 H20 =>
 Do (aload H20 7 true x3) fun x29 =>
Φ K.flow_number [x1, x29] H20 fun x30 H31 =>
 Do (aextract 0 x30) fun x32 =>
 Do (aextract 1 x30) fun x33 =>
 Do (afaddr 0 x3) fun x36 =>
 Do (aload H31 1 false x36) fun x37 =>
 Do (abin .eql x37 (.int .i64 30)) fun x38 =>
 Gd x38 true (
 Do (abuild [.int .i64 0, .int .i64 0] []) fun x39 =>
 Do (afaddr 34 x1) fun x40 =>
 Do (astore H31 2 x40 x39) fun H41 =>
 JoinP (flow_Next_k1 Φ x1 x7 j19 Q) [] H41) (
 Do (afaddr 0 x3) fun x47 =>
 Do (aload H31 1 false x47) fun x48 =>
Φ K.flow_memory [x48] H31 fun x49 H50 =>
 Gd x49 true (
 Do (aload H50 7 true x3) fun x51 =>
 Do (aload H50 2 true x5) fun x52 =>
Φ K.flow_access [x1, x51, x52, a3] H50 fun x53 H54 =>
 JoinP (flow_Next_k1 Φ x1 x7 j19 Q) [] H54) (
 Gd x33 true (
 Do (afaddr 0 x3) fun x57 =>
 Do (aload H50 1 false x57) fun x58 =>
 Do (abin .eql x58 (.int .i64 5)) fun x59 =>
 Gd x59 true (
 Do (abin .eql x32 (.int .u64 0)) fun x60 =>
 Do (afaddr 2 x3) fun x61 =>
 Do (aload H50 1 false x61) fun x62 =>
 Do (afaddr 3 x3) fun x63 =>
 Do (aload H50 1 false x63) fun x64 =>
Φ K.flow_get [x1, x62] H50 fun x65 H66 =>
(aload H66 1 false x63 = some x64) ∧
(Φ K.flow_get [x1, x64] H66 fun x67 H68 =>
 Do (abin .geq x65 x67) fun x69 =>
 Do (afaddr 32 x1) fun x70 =>
 Do (astore H68 1 x70 x60) fun H71 =>
 Do (afaddr 33 x1) fun x72 =>
 Do (astore H71 1 x72 x69) fun H73 =>
 JoinP (flow_Next_k2 Φ x1 x3 x7 x32 j19 Q) [] H73)) (
 JoinP (flow_Next_k2 Φ x1 x3 x7 x32 j19 Q) [] H50)) (
 JoinP (flow_Next_k1 Φ x1 x7 j19 Q) [] H50)))
def flow_Next (Φ : Calls') (a0 : AV) (a1 : AV) (a2 : AV) (a3 : AV) (H : AH) (Q : Post) : Prop :=
 DoH (aboxv H true 36 a0) fun x1 H2 =>
 DoH (aboxv H2 false 7 a1) fun x3 H4 =>
 DoH (aboxv H4 false 2 a2) fun x5 H6 =>
 DoH (some (abox H6 true [.int .u64 0, .int .u64 0, .int .u64 0, .int .u64 0, .int .u64 0, .int .u64 0, .int .u64 0, .int .u64 0, .int .u64 0, .int .u64 0, .int .u64 0, .int .u64 0, .int .u64 0, .int .u64 0, .int .u64 0, .int .u64 0, .int .u64 0, .int .u64 0, .int .u64 0, .int .u64 0, .int .u64 0, .int .u64 0, .int .u64 0, .int .u64 0, .int .u64 0, .int .u64 0, .int .u64 0, .int .u64 0, .int .u64 0, .int .u64 0, .int .u64 0, .int .i64 0, .bool false, .bool false, .int .i64 0, .int .i64 0])) fun x7 H8 =>
 Do (aload H8 7 true x3) fun x9 =>
Φ K.flow_sound [x9] H8 fun x10 H11 =>
 Do (aun .not x10) fun x12 =>
 Gd x12 true (
 Do (abuild [.int .u64 0, .int .u64 0, .int .u64 0, .int .u64 0, .int .u64 0, .int .u64 0, .int .u64 0, .int .u64 0, .int .u64 0, .int .u64 0, .int .u64 0, .int .u64 0, .int .u64 0, .int .u64 0, .int .u64 0, .int .u64 0, .int .u64 0, .int .u64 0, .int .u64 0, .int .u64 0, .int .u64 0, .int .u64 0, .int .u64 0, .int .u64 0, .int .u64 0, .int .u64 0, .int .u64 0, .int .u64 0, .int .u64 0, .int .u64 0, .int .u64 0, .int .i64 0, .bool false, .bool false, .int .i64 0, .int .i64 0] []) fun x13 =>
 Do (astore H11 36 x7 x13) fun H14 =>
 Do (aload H14 36 true x7) fun x15 =>
 Q (.tup [x15, (.int .i64 2)]) H14) (
 Do (afaddr 31 x1) fun x16 =>
 Do (aload H11 1 false x16) fun x17 =>
 Do (abin .add x17 (.int .i64 1)) fun x18 =>
 Do (aload H11 7 true x3) fun x21 =>
Φ K.flow_taken [x1, x21] H11 fun x22 H23 =>
 Gd x22 true (
 Do (afaddr 31 x1) fun x24 =>
 Do (aload H23 1 false x24) fun x25 =>
 Do (afaddr 6 x3) fun x26 =>
 Do (aload H23 1 false x26) fun x27 =>
 Do (abin .add x25 x27) fun x28 =>
 JoinP (flow_Next_k3 Φ a3 x1 x3 x5 x7 Q) [x28] H23) (
 JoinP (flow_Next_k3 Φ a3 x1 x3 x5 x7 Q) [x18] H23))
def ir_flow_Next : AFunc := ⟨69, [.cell 8 36 true, .tmp 9],
 .seq (.region [
   ⟨some 4, .box true 36 (.t 0), none⟩,
   ⟨some 5, .box false 7 (.t 1), none⟩,
   ⟨some 6, .box false 2 (.t 2), none⟩,
   ⟨some 8, .alloc true [.int .u64 0, .int .u64 0, .int .u64 0, .int .u64 0, .int .u64 0, .int .u64 0, .int .u64 0, .int .u64 0, .int .u64 0, .int .u64 0, .int .u64 0, .int .u64 0, .int .u64 0, .int .u64 0, .int .u64 0, .int .u64 0, .int .u64 0, .int .u64 0, .int .u64 0, .int .u64 0, .int .u64 0, .int .u64 0, .int .u64 0, .int .u64 0, .int .u64 0, .int .u64 0, .int .u64 0, .int .u64 0, .int .u64 0, .int .u64 0, .int .u64 0, .int .i64 0, .bool false, .bool false, .int .i64 0, .int .i64 0], none⟩,
   ⟨some 9, .mv (.k (.int .i64 0)), none⟩])
 (.seq (.seq (.region [
   ⟨some 13, .load 7 true (.t 5), none⟩,
   ⟨some 14, .call K.flow_sound [(.t 13)], none⟩,
   ⟨some 15, .un .not (.t 14), none⟩])
 (.cond (.t 15) (.seq (.region [
     ⟨some 16, .build [.int .u64 0, .int .u64 0, .int .u64 0, .int .u64 0, .int .u64 0, .int .u64 0, .int .u64 0, .int .u64 0, .int .u64 0, .int .u64 0, .int .u64 0, .int .u64 0, .int .u64 0, .int .u64 0, .int .u64 0, .int .u64 0, .int .u64 0, .int .u64 0, .int .u64 0, .int .u64 0, .int .u64 0, .int .u64 0, .int .u64 0, .int .u64 0, .int .u64 0, .int .u64 0, .int .u64 0, .int .u64 0, .int .u64 0, .int .u64 0, .int .u64 0, .int .i64 0, .bool false, .bool false, .int .i64 0, .int .i64 0] [], none⟩,
     ⟨none, .store 36 (.t 8) (.t 16), none⟩,
     ⟨some 9, .mv (.k (.int .i64 2)), none⟩])
   (.ret))
   (.skip)))
 (.seq (.region [
   ⟨some 17, .faddr 31 (.t 4), none⟩,
   ⟨some 18, .load 1 false (.t 17), none⟩,
   ⟨some 19, .bin .add (.t 18) (.k (.int .i64 1)), none⟩,
   ⟨some 10, .mv (.t 19), none⟩])
 (.join [10] [20, 21, 22, 23, 24, 25, 26] (.seq (.region [
   ⟨some 20, .load 7 true (.t 5), none⟩,
   ⟨some 21, .call K.flow_taken [(.t 4), (.t 20)], none⟩])
 (.cond (.t 21) (.region [
     ⟨some 22, .faddr 31 (.t 4), none⟩,
     ⟨some 23, .load 1 false (.t 22), none⟩,
     ⟨some 24, .faddr 6 (.t 5), none⟩,
     ⟨some 25, .load 1 false (.t 24), none⟩,
     ⟨some 26, .bin .add (.t 23) (.t 25), none⟩,
     ⟨some 10, .mv (.t 26), none⟩])
   (.skip)))
 (.seq (.region [
   ⟨some 28, .load 7 true (.t 5), none⟩,
   ⟨some 29, .call K.flow_number [(.t 4), (.t 28)], none⟩,
   ⟨some 27, .mv (.t 29), none⟩,
   ⟨some 30, .extract 0 (.t 27), none⟩,
   ⟨some 31, .extract 1 (.t 27), none⟩,
   ⟨some 11, .mv (.t 30), none⟩,
   ⟨some 12, .mv (.t 31), none⟩])
 (.join [] [32, 33, 34, 35, 36, 37, 38, 39, 40, 41, 42, 43, 44, 45, 46, 47, 48, 49, 50, 51, 52, 53, 54, 55, 56, 57, 58, 59, 60, 61, 62, 63, 64, 65] (.block 0 (.seq (.region [
   ⟨some 33, .faddr 0 (.t 5), none⟩,
   ⟨some 34, .load 1 false (.t 33), none⟩,
   ⟨some 35, .bin .eql (.t 34) (.k (.int .i64 30)), none⟩,
   ⟨some 32, .mv (.t 35), none⟩])
 (.cond (.t 32) (.region [
     ⟨some 36, .build [.int .i64 0, .int .i64 0] [], none⟩,
     ⟨some 37, .faddr 34 (.t 4), none⟩,
     ⟨none, .store 2 (.t 37) (.t 36), none⟩])
   (.seq (.region [
     ⟨some 39, .faddr 0 (.t 5), none⟩,
     ⟨some 40, .load 1 false (.t 39), none⟩,
     ⟨some 41, .call K.flow_memory [(.t 40)], none⟩,
     ⟨some 38, .mv (.t 41), none⟩])
   (.cond (.t 38) (.region [
       ⟨some 42, .load 7 true (.t 5), none⟩,
       ⟨some 43, .load 2 true (.t 6), none⟩,
       ⟨some 44, .mv (.t 3), none⟩,
       ⟨some 45, .call K.flow_access [(.t 4), (.t 42), (.t 43), (.t 44)], none⟩])
     (.seq (.region [
       ⟨some 47, .mv (.t 12), none⟩,
       ⟨some 46, .mv (.t 47), none⟩])
     (.cond (.t 46) (.join [] [48, 49, 50, 51, 52, 53, 54, 55, 56, 57, 58, 59, 60, 61] (.seq (.region [
         ⟨some 48, .faddr 0 (.t 5), none⟩,
         ⟨some 49, .load 1 false (.t 48), none⟩,
         ⟨some 50, .bin .eql (.t 49) (.k (.int .i64 5)), none⟩])
       (.cond (.t 50) (.draw [
           ⟨some 51, .mv (.t 11), none⟩,
           ⟨some 52, .bin .eql (.t 51) (.k (.int .u64 0)), none⟩,
           ⟨some 53, .faddr 2 (.t 5), none⟩,
           ⟨some 54, .load 1 false (.t 53), none⟩,
           ⟨some 55, .call K.flow_get [(.t 4), (.t 54)], none⟩,
           ⟨some 56, .faddr 3 (.t 5), none⟩,
           ⟨some 57, .load 1 false (.t 56), none⟩,
           ⟨some 58, .call K.flow_get [(.t 4), (.t 57)], none⟩,
           ⟨some 59, .bin .geq (.t 55) (.t 58), none⟩,
           ⟨some 60, .faddr 32 (.t 4), none⟩,
           ⟨none, .store 1 (.t 60) (.t 52), none⟩,
           ⟨some 61, .faddr 33 (.t 4), none⟩,
           ⟨none, .store 1 (.t 61) (.t 59), none⟩]
         [[], [0], [], [2], [2, 3], [], [5], [2, 3, 4, 5, 6], [2, 3, 4, 5, 6, 7], [0, 1, 2, 3, 4, 5, 6, 7], [0, 1, 2, 3, 4, 5, 6, 7, 9], [0, 1, 2, 3, 4, 5, 6, 7, 8, 9, 10], [0, 1, 2, 3, 4, 5, 6, 7, 8, 9, 10, 11]] [([0, 1, 2, 3, 5, 6], 4, [6]), ([], 7, []), ([8, 9], 10, []), ([11], 12, [])] [])
         (.skip)))
       (.region [
         ⟨some 62, .faddr 1 (.t 5), none⟩,
         ⟨some 63, .load 1 false (.t 62), none⟩,
         ⟨some 64, .mv (.t 11), none⟩,
         ⟨some 65, .call K.flow_put [(.t 4), (.t 63), (.t 64)], none⟩]))
       (.skip))))))))
 (.seq (.region [
   ⟨some 66, .mv (.t 10), none⟩,
   ⟨some 67, .faddr 31 (.t 4), none⟩,
   ⟨none, .store 1 (.t 67) (.t 66), none⟩])
 (.seq (.region [
   ⟨some 68, .load 36 true (.t 4), none⟩,
   ⟨none, .store 36 (.t 8) (.t 68), none⟩,
   ⟨some 9, .mv (.k (.int .i64 0)), none⟩])
 (.ret))))))))⟩
theorem eq_flow_Next (Φ : Calls') (a0 a1 a2 a3 : AV) (H : AH) (Q : Post) : fnE1 Φ ir_flow_Next [a0, a1, a2, a3] H Q = flow_Next Φ a0 a1 a2 a3 H Q := by kernel_rfl

/-! rabbet/flow.sound -/
def flow_sound (Φ : Calls') (a0 : AV) (H : AH) (Q : Post) : Prop :=
 DoH (aboxv H false 7 a0) fun x1 H2 =>
 Do (aload H2 7 true x1) fun x3 =>
Φ K.a64_Encode [x3] H2 fun x4 H5 =>
 Do (aextract 0 x4) fun x6 =>
 Do (aextract 1 x4) fun x7 =>
 Do (abin .eql x7 (.int .i64 0)) fun x8 =>
 Q x8 H5
def ir_flow_sound : AFunc := ⟨12, [.tmp 2],
 .seq (.region [
   ⟨some 1, .box false 7 (.t 0), none⟩,
   ⟨some 2, .mv (.k (.bool false)), none⟩])
 (.seq (.region [
   ⟨some 6, .load 7 true (.t 1), none⟩,
   ⟨some 7, .call K.a64_Encode [(.t 6)], none⟩,
   ⟨some 5, .mv (.t 7), none⟩,
   ⟨some 8, .extract 0 (.t 5), none⟩,
   ⟨some 9, .extract 1 (.t 5), none⟩,
   ⟨some 3, .mv (.t 8), none⟩,
   ⟨some 4, .mv (.t 9), none⟩])
 (.seq (.region [
   ⟨some 10, .mv (.t 4), none⟩,
   ⟨some 11, .bin .eql (.t 10) (.k (.int .i64 0)), none⟩,
   ⟨some 2, .mv (.t 11), none⟩])
 (.ret)))⟩
theorem eq_flow_sound (Φ : Calls') (a0 : AV) (H : AH) (Q : Post) : fnE1 Φ ir_flow_sound [a0] H Q = flow_sound Φ a0 H Q := by kernel_rfl

/-! rabbet/flow.taken -/
def flow_taken (Φ : Calls') (a0 : AV) (a1 : AV) (H : AH) (Q : Post) : Prop :=
 DoH (aboxv H false 7 a1) fun x1 H2 =>
 Do (afaddr 0 x1) fun x3 =>
 Do (aload H2 1 false x3) fun x4 =>
 Do (abin .eql x4 (.int .i64 13)) fun x5 =>
 Gd x5 true (
 Q (.bool true) H2) (
 Do (abin .eql x4 (.int .i64 14)) fun x6 =>
 Gd x6 true (
 Do (afaddr 4 x1) fun x7 =>
 Do (aload H2 1 false x7) fun x8 =>
Φ K.flow_holds [a0, x8] H2 fun x9 H10 =>
 Q x9 H10) (
 Do (abin .eql x4 (.int .i64 15)) fun x11 =>
 Gd x11 true (
 Do (afaddr 1 x1) fun x12 =>
 Do (aload H2 1 false x12) fun x13 =>
Φ K.flow_get [a0, x13] H2 fun x14 H15 =>
 Do (abin .eql x14 (.int .u64 0)) fun x16 =>
 Q x16 H15) (
 Do (abin .eql x4 (.int .i64 16)) fun x17 =>
 Gd x17 true (
 Do (afaddr 1 x1) fun x18 =>
 Do (aload H2 1 false x18) fun x19 =>
Φ K.flow_get [a0, x19] H2 fun x20 H21 =>
 Do (abin .neq x20 (.int .u64 0)) fun x22 =>
 Q x22 H21) (
 Q (.bool false) H2))))
def ir_flow_taken : AFunc := ⟨29, [.tmp 4],
 .seq (.region [
   ⟨some 3, .box false 7 (.t 1), none⟩,
   ⟨some 4, .mv (.k (.bool false)), none⟩])
 (.seq (.seq (.region [
   ⟨some 5, .faddr 0 (.t 3), none⟩,
   ⟨some 6, .load 1 false (.t 5), none⟩])
 (.block 0 (.seq (.region [
   ⟨some 8, .bin .eql (.t 6) (.k (.int .i64 13)), none⟩,
   ⟨some 7, .mv (.t 8), none⟩])
 (.cond (.t 7) (.seq (.region [
     ⟨some 4, .mv (.k (.bool true)), none⟩])
   (.ret))
   (.seq (.region [
     ⟨some 10, .bin .eql (.t 6) (.k (.int .i64 14)), none⟩,
     ⟨some 9, .mv (.t 10), none⟩])
   (.cond (.t 9) (.seq (.region [
       ⟨some 11, .mv (.t 0), none⟩,
       ⟨some 12, .faddr 4 (.t 3), none⟩,
       ⟨some 13, .load 1 false (.t 12), none⟩,
       ⟨some 14, .call K.flow_holds [(.t 11), (.t 13)], none⟩,
       ⟨some 4, .mv (.t 14), none⟩])
     (.ret))
     (.seq (.region [
       ⟨some 16, .bin .eql (.t 6) (.k (.int .i64 15)), none⟩,
       ⟨some 15, .mv (.t 16), none⟩])
     (.cond (.t 15) (.seq (.region [
         ⟨some 17, .mv (.t 0), none⟩,
         ⟨some 18, .faddr 1 (.t 3), none⟩,
         ⟨some 19, .load 1 false (.t 18), none⟩,
         ⟨some 20, .call K.flow_get [(.t 17), (.t 19)], none⟩,
         ⟨some 21, .bin .eql (.t 20) (.k (.int .u64 0)), none⟩,
         ⟨some 4, .mv (.t 21), none⟩])
       (.ret))
       (.seq (.region [
         ⟨some 23, .bin .eql (.t 6) (.k (.int .i64 16)), none⟩,
         ⟨some 22, .mv (.t 23), none⟩])
       (.cond (.t 22) (.seq (.region [
           ⟨some 24, .mv (.t 0), none⟩,
           ⟨some 25, .faddr 1 (.t 3), none⟩,
           ⟨some 26, .load 1 false (.t 25), none⟩,
           ⟨some 27, .call K.flow_get [(.t 24), (.t 26)], none⟩,
           ⟨some 28, .bin .neq (.t 27) (.k (.int .u64 0)), none⟩,
           ⟨some 4, .mv (.t 28), none⟩])
         (.ret))
         (.skip)))))))))))
 (.seq (.region [
   ⟨some 4, .mv (.k (.bool false)), none⟩])
 (.ret)))⟩
theorem eq_flow_taken (Φ : Calls') (a0 a1 : AV) (H : AH) (Q : Post) : fnE1 Φ ir_flow_taken [a0, a1] H Q = flow_taken Φ a0 a1 H Q := by kernel_rfl

/-! rabbet/flow.number -/
def flow_number_k1 (Φ : Calls') (a0 : AV) (x1 : AV) (x7 : AV) (x9 : AV) (x12 : AV) (Q : Post) : List AV → AH → Prop := fun j36 H37 =>
 Gd (sl j36 0) true (
 Do (abin .sub x7 x9) fun x39 =>
 Q (.tup [x39, (.bool true)]) H37) (
 Do (abin .eql x12 (.int .i64 6)) fun x40 =>
 Gd x40 true (
 Do (abin .and x7 x9) fun x41 =>
 Q (.tup [x41, (.bool true)]) H37) (
 Do (abin .eql x12 (.int .i64 7)) fun x42 =>
 Gd x42 true (
 Do (abin .or x7 x9) fun x43 =>
 Q (.tup [x43, (.bool true)]) H37) (
 Do (abin .eql x12 (.int .i64 8)) fun x44 =>
 Gd x44 true (
 Do (abin .xor x7 x9) fun x45 =>
 Q (.tup [x45, (.bool true)]) H37) (
 Do (abin .eql x12 (.int .i64 9)) fun x46 =>
 Gd x46 true (
 Do (abin .mul x7 x9) fun x47 =>
 Q (.tup [x47, (.bool true)]) H37) (
 Do (abin .eql x12 (.int .i64 10)) fun x48 =>
 Gd x48 true (
 Do (abin .rem x9 (.int .u64 64)) fun x49 =>
 Do (abin .shl x7 x49) fun x50 =>
 Q (.tup [x50, (.bool true)]) H37) (
 Do (abin .eql x12 (.int .i64 11)) fun x51 =>
 Gd x51 true (
 Do (abin .rem x9 (.int .u64 64)) fun x52 =>
 Do (abin .shr x7 x52) fun x53 =>
 Q (.tup [x53, (.bool true)]) H37) (
 Do (abin .eql x12 (.int .i64 12)) fun x54 =>
 Gd x54 true (
 Do (afaddr 4 x1) fun x55 =>
 Do (aload H37 1 false x55) fun x56 =>
Φ K.flow_holds [a0, x56] H37 fun x57 H58 =>
 Gd x57 true (
 Q (.tup [(.int .u64 1), (.bool true)]) H58) (
 Q (.tup [(.int .u64 0), (.bool true)]) H58)) (
 Q (.tup [(.int .u64 0), (.bool false)]) H37))))))))
def flow_number (Φ : Calls') (a0 : AV) (a1 : AV) (H : AH) (Q : Post) : Prop :=
 DoH (aboxv H false 7 a1) fun x1 H2 =>
 Do (afaddr 2 x1) fun x3 =>
 Do (aload H2 1 false x3) fun x4 =>
 Do (afaddr 3 x1) fun x5 =>
 Do (aload H2 1 false x5) fun x6 =>
Φ K.flow_get [a0, x4] H2 fun x7 H8 =>
(aload H8 1 false x5 = some x6) ∧
(Φ K.flow_get [a0, x6] H8 fun x9 H10 =>
 Do (afaddr 0 x1) fun x11 =>
 Do (aload H10 1 false x11) fun x12 =>
 Do (abin .eql x12 (.int .i64 1)) fun x13 =>
 Gd x13 true (
 Do (afaddr 6 x1) fun x14 =>
 Do (aload H10 1 false x14) fun x15 =>
 Do (aconv .u64 x15) fun x16 =>
 Do (afaddr 4 x1) fun x17 =>
 Do (aload H10 1 false x17) fun x18 =>
 Do (abin .mul (.int .i64 16) x18) fun x19 =>
 Do (abin .shl x16 x19) fun x20 =>
 Q (.tup [x20, (.bool true)]) H10) (
 Do (abin .eql x12 (.int .i64 2)) fun x21 =>
 Gd x21 true (
 Do (afaddr 1 x1) fun x22 =>
 Do (aload H10 1 false x22) fun x23 =>
 Do (afaddr 4 x1) fun x24 =>
 Do (aload H10 1 false x24) fun x25 =>
 Do (abin .mul (.int .i64 16) x25) fun x26 =>
 Do (afaddr 6 x1) fun x27 =>
 Do (aload H10 1 false x27) fun x28 =>
 Do (aconv .u64 x28) fun x29 =>
Φ K.flow_get [a0, x23] H10 fun x30 H31 =>
(aload H31 1 false x24 = some x25) ∧
(aload H31 1 false x27 = some x28) ∧
(Φ K.bits_Put [x30, x26, (.int .i64 16), x29] H31 fun x32 H33 =>
 Q (.tup [x32, (.bool true)]) H33)) (
 Do (abin .eql x12 (.int .i64 3)) fun x34 =>
 Gd x34 true (
 Do (abin .add x7 x9) fun x35 =>
 Q (.tup [x35, (.bool true)]) H10) (
 Do (abin .eql x12 (.int .i64 4)) fun x38 =>
 Gd x38 true (
 JoinP (flow_number_k1 Φ a0 x1 x7 x9 x12 Q) [x38] H10) (
 Do (abin .eql x12 (.int .i64 5)) fun x59 =>
 JoinP (flow_number_k1 Φ a0 x1 x7 x9 x12 Q) [x59] H10)))))
def ir_flow_number : AFunc := ⟨89, [.tmp 4, .tmp 5],
 .seq (.region [
   ⟨some 3, .box false 7 (.t 1), none⟩,
   ⟨some 4, .mv (.k (.int .u64 0)), none⟩,
   ⟨some 5, .mv (.k (.bool false)), none⟩])
 (.seq (.draw [
   ⟨some 8, .mv (.t 0), none⟩,
   ⟨some 9, .faddr 2 (.t 3), none⟩,
   ⟨some 10, .load 1 false (.t 9), none⟩,
   ⟨some 11, .call K.flow_get [(.t 8), (.t 10)], none⟩,
   ⟨some 12, .mv (.t 0), none⟩,
   ⟨some 13, .faddr 3 (.t 3), none⟩,
   ⟨some 14, .load 1 false (.t 13), none⟩,
   ⟨some 15, .call K.flow_get [(.t 12), (.t 14)], none⟩,
   ⟨some 6, .mv (.t 11), none⟩,
   ⟨some 7, .mv (.t 15), none⟩]
 [[], [], [1], [0, 1, 2], [], [], [5], [0, 1, 2, 3, 4, 5, 6], [0, 1, 2, 3, 4, 5, 6, 7], [0, 1, 2, 3, 4, 5, 6, 7, 8]] [([0, 1, 2, 4, 5, 6], 3, [6]), ([], 7, [])] [8, 9])
 (.seq (.seq (.region [
   ⟨some 16, .faddr 0 (.t 3), none⟩,
   ⟨some 17, .load 1 false (.t 16), none⟩])
 (.block 0 (.seq (.region [
   ⟨some 19, .bin .eql (.t 17) (.k (.int .i64 1)), none⟩,
   ⟨some 18, .mv (.t 19), none⟩])
 (.cond (.t 18) (.seq (.region [
     ⟨some 20, .faddr 6 (.t 3), none⟩,
     ⟨some 21, .load 1 false (.t 20), none⟩,
     ⟨some 22, .conv .u64 (.t 21), none⟩,
     ⟨some 23, .faddr 4 (.t 3), none⟩,
     ⟨some 24, .load 1 false (.t 23), none⟩,
     ⟨some 25, .bin .mul (.k (.int .i64 16)) (.t 24), none⟩,
     ⟨some 26, .bin .shl (.t 22) (.t 25), none⟩,
     ⟨some 4, .mv (.t 26), none⟩,
     ⟨some 5, .mv (.k (.bool true)), none⟩])
   (.ret))
   (.seq (.region [
     ⟨some 28, .bin .eql (.t 17) (.k (.int .i64 2)), none⟩,
     ⟨some 27, .mv (.t 28), none⟩])
   (.cond (.t 27) (.seq (.draw [
       ⟨some 29, .mv (.t 0), none⟩,
       ⟨some 30, .faddr 1 (.t 3), none⟩,
       ⟨some 31, .load 1 false (.t 30), none⟩,
       ⟨some 32, .call K.flow_get [(.t 29), (.t 31)], none⟩,
       ⟨some 33, .faddr 4 (.t 3), none⟩,
       ⟨some 34, .load 1 false (.t 33), none⟩,
       ⟨some 35, .bin .mul (.k (.int .i64 16)) (.t 34), none⟩,
       ⟨some 36, .faddr 6 (.t 3), none⟩,
       ⟨some 37, .load 1 false (.t 36), none⟩,
       ⟨some 38, .conv .u64 (.t 37), none⟩,
       ⟨some 39, .call K.bits_Put [(.t 32), (.t 35), (.k (.int .i64 16)), (.t 38)], none⟩,
       ⟨some 4, .mv (.t 39), none⟩,
       ⟨some 5, .mv (.k (.bool true)), none⟩]
     [[], [], [1], [0, 1, 2], [], [4], [4, 5], [], [7], [7, 8], [0, 1, 2, 3, 4, 5, 6, 7, 8, 9], [0, 1, 2, 3, 4, 5, 6, 7, 8, 9, 10], [0, 1, 2, 3, 4, 5, 6, 7, 8, 9, 10, 11]] [([0, 1, 2, 4, 5, 6, 7, 8, 9], 3, [5, 8]), ([], 10, [])] [11, 12])
     (.ret))
     (.seq (.region [
       ⟨some 41, .bin .eql (.t 17) (.k (.int .i64 3)), none⟩,
       ⟨some 40, .mv (.t 41), none⟩])
     (.cond (.t 40) (.seq (.region [
         ⟨some 42, .mv (.t 6), none⟩,
         ⟨some 43, .mv (.t 7), none⟩,
         ⟨some 44, .bin .add (.t 42) (.t 43), none⟩,
         ⟨some 4, .mv (.t 44), none⟩,
         ⟨some 5, .mv (.k (.bool true)), none⟩])
       (.ret))
       (.join [45] [46, 47] (.seq (.region [
         ⟨some 46, .bin .eql (.t 17) (.k (.int .i64 4)), none⟩,
         ⟨some 45, .mv (.t 46), none⟩])
       (.cond (.t 45) (.skip)
         (.region [
           ⟨some 47, .bin .eql (.t 17) (.k (.int .i64 5)), none⟩,
           ⟨some 45, .mv (.t 47), none⟩])))
       (.cond (.t 45) (.seq (.region [
           ⟨some 48, .mv (.t 6), none⟩,
           ⟨some 49, .mv (.t 7), none⟩,
           ⟨some 50, .bin .sub (.t 48) (.t 49), none⟩,
           ⟨some 4, .mv (.t 50), none⟩,
           ⟨some 5, .mv (.k (.bool true)), none⟩])
         (.ret))
         (.seq (.region [
           ⟨some 52, .bin .eql (.t 17) (.k (.int .i64 6)), none⟩,
           ⟨some 51, .mv (.t 52), none⟩])
         (.cond (.t 51) (.seq (.region [
             ⟨some 53, .mv (.t 6), none⟩,
             ⟨some 54, .mv (.t 7), none⟩,
             ⟨some 55, .bin .and (.t 53) (.t 54), none⟩,
             ⟨some 4, .mv (.t 55), none⟩,
             ⟨some 5, .mv (.k (.bool true)), none⟩])
           (.ret))
           (.seq (.region [
             ⟨some 57, .bin .eql (.t 17) (.k (.int .i64 7)), none⟩,
             ⟨some 56, .mv (.t 57), none⟩])
           (.cond (.t 56) (.seq (.region [
               ⟨some 58, .mv (.t 6), none⟩,
               ⟨some 59, .mv (.t 7), none⟩,
               ⟨some 60, .bin .or (.t 58) (.t 59), none⟩,
               ⟨some 4, .mv (.t 60), none⟩,
               ⟨some 5, .mv (.k (.bool true)), none⟩])
             (.ret))
             (.seq (.region [
               ⟨some 62, .bin .eql (.t 17) (.k (.int .i64 8)), none⟩,
               ⟨some 61, .mv (.t 62), none⟩])
             (.cond (.t 61) (.seq (.region [
                 ⟨some 63, .mv (.t 6), none⟩,
                 ⟨some 64, .mv (.t 7), none⟩,
                 ⟨some 65, .bin .xor (.t 63) (.t 64), none⟩,
                 ⟨some 4, .mv (.t 65), none⟩,
                 ⟨some 5, .mv (.k (.bool true)), none⟩])
               (.ret))
               (.seq (.region [
                 ⟨some 67, .bin .eql (.t 17) (.k (.int .i64 9)), none⟩,
                 ⟨some 66, .mv (.t 67), none⟩])
               (.cond (.t 66) (.seq (.region [
                   ⟨some 68, .mv (.t 6), none⟩,
                   ⟨some 69, .mv (.t 7), none⟩,
                   ⟨some 70, .bin .mul (.t 68) (.t 69), none⟩,
                   ⟨some 4, .mv (.t 70), none⟩,
                   ⟨some 5, .mv (.k (.bool true)), none⟩])
                 (.ret))
                 (.seq (.region [
                   ⟨some 72, .bin .eql (.t 17) (.k (.int .i64 10)), none⟩,
                   ⟨some 71, .mv (.t 72), none⟩])
                 (.cond (.t 71) (.seq (.region [
                     ⟨some 73, .mv (.t 6), none⟩,
                     ⟨some 74, .mv (.t 7), none⟩,
                     ⟨some 75, .bin .rem (.t 74) (.k (.int .u64 64)), none⟩,
                     ⟨some 76, .bin .shl (.t 73) (.t 75), none⟩,
                     ⟨some 4, .mv (.t 76), none⟩,
                     ⟨some 5, .mv (.k (.bool true)), none⟩])
                   (.ret))
                   (.seq (.region [
                     ⟨some 78, .bin .eql (.t 17) (.k (.int .i64 11)), none⟩,
                     ⟨some 77, .mv (.t 78), none⟩])
                   (.cond (.t 77) (.seq (.region [
                       ⟨some 79, .mv (.t 6), none⟩,
                       ⟨some 80, .mv (.t 7), none⟩,
                       ⟨some 81, .bin .rem (.t 80) (.k (.int .u64 64)), none⟩,
                       ⟨some 82, .bin .shr (.t 79) (.t 81), none⟩,
                       ⟨some 4, .mv (.t 82), none⟩,
                       ⟨some 5, .mv (.k (.bool true)), none⟩])
                     (.ret))
                     (.seq (.region [
                       ⟨some 84, .bin .eql (.t 17) (.k (.int .i64 12)), none⟩,
                       ⟨some 83, .mv (.t 84), none⟩])
                     (.cond (.t 83) (.seq (.seq (.region [
                         ⟨some 85, .mv (.t 0), none⟩,
                         ⟨some 86, .faddr 4 (.t 3), none⟩,
                         ⟨some 87, .load 1 false (.t 86), none⟩,
                         ⟨some 88, .call K.flow_holds [(.t 85), (.t 87)], none⟩])
                       (.cond (.t 88) (.seq (.region [
                           ⟨some 4, .mv (.k (.int .u64 1)), none⟩,
                           ⟨some 5, .mv (.k (.bool true)), none⟩])
                         (.ret))
                         (.skip)))
                       (.seq (.region [
                         ⟨some 4, .mv (.k (.int .u64 0)), none⟩,
                         ⟨some 5, .mv (.k (.bool true)), none⟩])
                       (.ret)))
                       (.skip)))))))))))))))))))))))))
 (.seq (.region [
   ⟨some 4, .mv (.k (.int .u64 0)), none⟩,
   ⟨some 5, .mv (.k (.bool false)), none⟩])
 (.ret))))⟩
theorem eq_flow_number (Φ : Calls') (a0 a1 : AV) (H : AH) (Q : Post) : fnE1 Φ ir_flow_number [a0, a1] H Q = flow_number Φ a0 a1 H Q := by kernel_rfl

/-! rabbet/flow.memory -/
def flow_memory (Φ : Calls') (a0 : AV) (H : AH) (Q : Post) : Prop :=
Φ K.flow_between [a0, (.int .i64 17), (.int .i64 28)] H fun x1 H2 =>
 Q x1 H2
def ir_flow_memory : AFunc := ⟨5, [.tmp 2],
 .seq (.region [
   ⟨some 2, .mv (.k (.bool false)), none⟩])
 (.seq (.region [
   ⟨some 3, .mv (.t 0), none⟩,
   ⟨some 4, .call K.flow_between [(.t 3), (.k (.int .i64 17)), (.k (.int .i64 28))], none⟩,
   ⟨some 2, .mv (.t 4), none⟩])
 (.ret))⟩
theorem eq_flow_memory (Φ : Calls') (a0 : AV) (H : AH) (Q : Post) : fnE1 Φ ir_flow_memory [a0] H Q = flow_memory Φ a0 H Q := by kernel_rfl

/-! rabbet/flow.access -/
def flow_access_k1 (Φ : Calls') (a0 : AV) (x1 : AV) (Q : Post) : List AV → AH → Prop := fun j21 H22 =>
 Do (afaddr 3 x1) fun x23 =>
 Do (aload H22 1 false x23) fun x24 =>
Φ K.flow_put [a0, x24, (sl j21 0)] H22 fun x25 H26 =>
 Do (abuild [.int .i64 0, .int .i64 0] []) fun x27 =>
 Do (anilck a0) fun x28 =>
 Do (afaddr 34 x28) fun x29 =>
 Do (astore H26 2 x29 x27) fun H30 =>
 Q (.tup []) H30
def flow_access_k2 (Φ : Calls') (a0 : AV) (a3 : AV) (x1 : AV) (x3 : AV) (x8 : AV) (Q : Post) : List AV → AH → Prop := fun j11 H12 =>
 Gd (sl j11 0) true (
 Gd a3 true (
 JoinP (flow_access_k1 Φ a0 x1 Q) [(.int .u64 0)] H12) (
 JoinP (flow_access_k1 Φ a0 x1 Q) [(.int .u64 1)] H12)) (
 Do (afaddr 0 x1) fun x31 =>
 Do (aload H12 1 false x31) fun x32 =>
Φ K.flow_writes [x32] H12 fun x33 H34 =>
 Gd x33 true (
 Q (.tup []) H34) (
 Do (afaddr 0 x1) fun x35 =>
 Do (aload H34 1 false x35) fun x36 =>
Φ K.flow_pair [x36] H34 fun x37 H38 =>
 Gd x37 true (
 Do (afaddr 1 x1) fun x39 =>
 Do (aload H38 1 false x39) fun x40 =>
 Do (aiaddr (some 2) 1 x3 (.int .i64 0)) fun x41 =>
 Do (aload H38 1 false x41) fun x42 =>
Φ K.flow_put [a0, x40, x42] H38 fun x43 H44 =>
 Do (afaddr 4 x1) fun x45 =>
 Do (aload H44 1 false x45) fun x46 =>
 Do (aiaddr (some 2) 1 x3 (.int .i64 1)) fun x47 =>
 Do (aload H44 1 false x47) fun x48 =>
Φ K.flow_put [a0, x46, x48] H44 fun x49 H50 =>
 Do (aload H50 2 true x8) fun x51 =>
 Do (anilck a0) fun x52 =>
 Do (afaddr 34 x52) fun x53 =>
 Do (astore H50 2 x53 x51) fun H54 =>
 Q (.tup []) H54) (
 Do (afaddr 1 x1) fun x55 =>
 Do (aload H38 1 false x55) fun x56 =>
 Do (aiaddr (some 2) 1 x3 (.int .i64 0)) fun x57 =>
 Do (aload H38 1 false x57) fun x58 =>
 Do (afaddr 1 x8) fun x59 =>
 Do (aload H38 1 false x59) fun x60 =>
 Do (abin .mul (.int .i64 8) x60) fun x61 =>
Φ K.bits_Mask [x61] H38 fun x62 H63 =>
(aload H63 1 false x55 = some x56) ∧
(aload H63 1 false x57 = some x58) ∧
(Do (abin .and x58 x62) fun x64 =>
Φ K.flow_put [a0, x56, x64] H63 fun x65 H66 =>
 Do (afaddr 0 x1) fun x67 =>
 Do (aload H66 1 false x67) fun x68 =>
Φ K.flow_exclusive [x68] H66 fun x69 H70 =>
 Gd x69 true (
 Do (aload H70 2 true x8) fun x71 =>
 Do (anilck a0) fun x72 =>
 Do (afaddr 34 x72) fun x73 =>
 Do (astore H70 2 x73 x71) fun H74 =>
 Q (.tup []) H74) (
 Q (.tup []) H70)))))
def flow_access (Φ : Calls') (a0 : AV) (a1 : AV) (a2 : AV) (a3 : AV) (H : AH) (Q : Post) : Prop :=
 DoH (aboxv H false 7 a1) fun x1 H2 =>
 DoH (aboxv H2 false 2 a2) fun x3 H4 =>
 Do (aload H4 7 true x1) fun x5 =>
Φ K.flow_where [a0, x5] H4 fun x6 H7 =>
 DoH (some (abox H7 true [.int .i64 0, .int .i64 0])) fun x8 H9 =>
 Do (astore H9 2 x8 x6) fun H10 =>
 Do (afaddr 0 x1) fun x13 =>
 Do (aload H10 1 false x13) fun x14 =>
Φ K.flow_writes [x14] H10 fun x15 H16 =>
 Gd3 x15 true (
 Do (afaddr 0 x1) fun x17 =>
 Do (aload H16 1 false x17) fun x18 =>
Φ K.flow_exclusive [x18] H16 fun x19 H20 =>
 JoinP (flow_access_k2 Φ a0 a3 x1 x3 x8 Q) [x19] H20) (
 JoinP (flow_access_k2 Φ a0 a3 x1 x3 x8 Q) [(.bool false)] H16) (
 False)
def ir_flow_access : AFunc := ⟨74, [],
 .seq (.region [
   ⟨some 5, .box false 7 (.t 1), none⟩,
   ⟨some 6, .box false 2 (.t 2), none⟩])
 (.seq (.region [
   ⟨some 10, .mv (.t 0), none⟩,
   ⟨some 11, .load 7 true (.t 5), none⟩,
   ⟨some 12, .call K.flow_where [(.t 10), (.t 11)], none⟩,
   ⟨some 8, .alloc true [.int .i64 0, .int .i64 0], none⟩,
   ⟨none, .store 2 (.t 8) (.t 12), none⟩])
 (.block 0 (.join [31] [32, 33, 34, 35, 36, 37, 38, 39] (.region [
   ⟨some 32, .faddr 0 (.t 5), none⟩,
   ⟨some 33, .load 1 false (.t 32), none⟩,
   ⟨some 34, .call K.flow_writes [(.t 33)], none⟩,
   ⟨some 35, .mv (.t 34), none⟩,
   ⟨some 36, .faddr 0 (.t 5), some (35, true)⟩,
   ⟨some 37, .load 1 false (.t 36), some (35, true)⟩,
   ⟨some 38, .call K.flow_exclusive [(.t 37)], some (35, true)⟩,
   ⟨some 39, .pick (.t 35) (.t 38) (.k (.bool false)), none⟩,
   ⟨some 31, .mv (.t 39), none⟩])
 (.cond (.t 31) (.seq (.region [
     ⟨some 9, .mv (.k (.int .u64 1)), none⟩])
   (.join [9] [40] (.seq (.region [
     ⟨some 40, .mv (.t 3), none⟩])
   (.cond (.t 40) (.region [
       ⟨some 9, .mv (.k (.int .u64 0)), none⟩])
     (.skip)))
   (.seq (.region [
     ⟨some 41, .mv (.t 0), none⟩,
     ⟨some 42, .faddr 3 (.t 5), none⟩,
     ⟨some 43, .load 1 false (.t 42), none⟩,
     ⟨some 44, .mv (.t 9), none⟩,
     ⟨some 45, .call K.flow_put [(.t 41), (.t 43), (.t 44)], none⟩])
   (.region [
     ⟨some 46, .mv (.t 0), none⟩,
     ⟨some 47, .build [.int .i64 0, .int .i64 0] [], none⟩,
     ⟨some 48, .nilck (.t 46), none⟩,
     ⟨some 49, .faddr 34 (.t 48), none⟩,
     ⟨none, .store 2 (.t 49) (.t 47), none⟩]))))
   (.seq (.region [
     ⟨some 51, .faddr 0 (.t 5), none⟩,
     ⟨some 52, .load 1 false (.t 51), none⟩,
     ⟨some 53, .call K.flow_writes [(.t 52)], none⟩,
     ⟨some 50, .mv (.t 53), none⟩])
   (.cond (.t 50) (.skip)
     (.seq (.region [
       ⟨some 55, .faddr 0 (.t 5), none⟩,
       ⟨some 56, .load 1 false (.t 55), none⟩,
       ⟨some 57, .call K.flow_pair [(.t 56)], none⟩,
       ⟨some 54, .mv (.t 57), none⟩])
     (.cond (.t 54) (.seq (.region [
         ⟨some 58, .mv (.t 0), none⟩,
         ⟨some 59, .faddr 1 (.t 5), none⟩,
         ⟨some 60, .load 1 false (.t 59), none⟩,
         ⟨some 61, .iaddr (some 2) 1 (.t 6) (.k (.int .i64 0)), none⟩,
         ⟨some 62, .load 1 false (.t 61), none⟩,
         ⟨some 63, .call K.flow_put [(.t 58), (.t 60), (.t 62)], none⟩])
       (.seq (.region [
         ⟨some 64, .mv (.t 0), none⟩,
         ⟨some 65, .faddr 4 (.t 5), none⟩,
         ⟨some 66, .load 1 false (.t 65), none⟩,
         ⟨some 67, .iaddr (some 2) 1 (.t 6) (.k (.int .i64 1)), none⟩,
         ⟨some 68, .load 1 false (.t 67), none⟩,
         ⟨some 69, .call K.flow_put [(.t 64), (.t 66), (.t 68)], none⟩])
       (.region [
         ⟨some 70, .mv (.t 0), none⟩,
         ⟨some 71, .load 2 true (.t 8), none⟩,
         ⟨some 72, .nilck (.t 70), none⟩,
         ⟨some 73, .faddr 34 (.t 72), none⟩,
         ⟨none, .store 2 (.t 73) (.t 71), none⟩])))
       (.seq (.draw [
         ⟨some 13, .mv (.t 0), none⟩,
         ⟨some 14, .faddr 1 (.t 5), none⟩,
         ⟨some 15, .load 1 false (.t 14), none⟩,
         ⟨some 16, .iaddr (some 2) 1 (.t 6) (.k (.int .i64 0)), none⟩,
         ⟨some 17, .load 1 false (.t 16), none⟩,
         ⟨some 18, .faddr 1 (.t 8), none⟩,
         ⟨some 19, .load 1 false (.t 18), none⟩,
         ⟨some 20, .bin .mul (.k (.int .i64 8)) (.t 19), none⟩,
         ⟨some 21, .call K.bits_Mask [(.t 20)], none⟩,
         ⟨some 22, .bin .and (.t 17) (.t 21), none⟩,
         ⟨some 23, .call K.flow_put [(.t 13), (.t 15), (.t 22)], none⟩]
       [[], [], [1], [], [3], [], [5], [5, 6], [5, 6, 7], [3, 4, 5, 6, 7, 8], [0, 1, 2, 3, 4, 5, 6, 7, 8, 9]] [([0, 1, 2, 3, 4, 5, 6, 7], 8, [2, 4]), ([9], 10, [])] [])
       (.seq (.region [
         ⟨some 24, .faddr 0 (.t 5), none⟩,
         ⟨some 25, .load 1 false (.t 24), none⟩,
         ⟨some 26, .call K.flow_exclusive [(.t 25)], none⟩])
       (.cond (.t 26) (.region [
           ⟨some 27, .mv (.t 0), none⟩,
           ⟨some 28, .load 2 true (.t 8), none⟩,
           ⟨some 29, .nilck (.t 27), none⟩,
           ⟨some 30, .faddr 34 (.t 29), none⟩,
           ⟨none, .store 2 (.t 30) (.t 28), none⟩])
         (.skip))))))))))))⟩
theorem eq_flow_access (Φ : Calls') (a0 a1 a2 a3 : AV) (H : AH) (Q : Post) : fnE1 Φ ir_flow_access [a0, a1, a2, a3] H Q = flow_access Φ a0 a1 a2 a3 H Q := by kernel_rfl

/-! rabbet/flow.get -/
def flow_get (Φ : Calls') (a0 : AV) (a1 : AV) (H : AH) (Q : Post) : Prop :=
 Do (abin .eql a1 (.int .i64 31)) fun x1 =>
 Gd x1 true (
 Q (.int .u64 0) H) (
 Do (anilck a0) fun x2 =>
 Do (afaddr 0 x2) fun x3 =>
 Do (aiaddr (some 31) 1 x3 a1) fun x4 =>
 Do (aload H 1 false x4) fun x5 =>
 Q x5 H)
def ir_flow_get : AFunc := ⟨13, [.tmp 4],
 .seq (.region [
   ⟨some 4, .mv (.k (.int .u64 0)), none⟩])
 (.seq (.seq (.region [
   ⟨some 5, .mv (.t 1), none⟩,
   ⟨some 6, .bin .eql (.t 5) (.k (.int .i64 31)), none⟩])
 (.cond (.t 6) (.seq (.region [
     ⟨some 4, .mv (.k (.int .u64 0)), none⟩])
   (.ret))
   (.skip)))
 (.seq (.region [
   ⟨some 7, .mv (.t 0), none⟩,
   ⟨some 8, .mv (.t 1), none⟩,
   ⟨some 9, .nilck (.t 7), none⟩,
   ⟨some 10, .faddr 0 (.t 9), none⟩,
   ⟨some 11, .iaddr (some 31) 1 (.t 10) (.t 8), none⟩,
   ⟨some 12, .load 1 false (.t 11), none⟩,
   ⟨some 4, .mv (.t 12), none⟩])
 (.ret)))⟩
theorem eq_flow_get (Φ : Calls') (a0 a1 : AV) (H : AH) (Q : Post) : fnE1 Φ ir_flow_get [a0, a1] H Q = flow_get Φ a0 a1 H Q := by kernel_rfl

/-! rabbet/flow.put -/
def flow_put (Φ : Calls') (a0 : AV) (a1 : AV) (a2 : AV) (H : AH) (Q : Post) : Prop :=
 Do (abin .neq a1 (.int .i64 31)) fun x1 =>
 Gd x1 true (
 Do (anilck a0) fun x2 =>
 Do (afaddr 0 x2) fun x3 =>
 Do (aiaddr (some 31) 1 x3 a1) fun x4 =>
 Do (astore H 1 x4 a2) fun H5 =>
 Q (.tup []) H5) (
 Q (.tup []) H)
def ir_flow_put : AFunc := ⟨14, [],
 .seq (.region [
   ⟨some 6, .mv (.t 1), none⟩,
   ⟨some 7, .bin .neq (.t 6) (.k (.int .i64 31)), none⟩])
 (.cond (.t 7) (.region [
     ⟨some 8, .mv (.t 0), none⟩,
     ⟨some 9, .mv (.t 1), none⟩,
     ⟨some 10, .mv (.t 2), none⟩,
     ⟨some 11, .nilck (.t 8), none⟩,
     ⟨some 12, .faddr 0 (.t 11), none⟩,
     ⟨some 13, .iaddr (some 31) 1 (.t 12) (.t 9), none⟩,
     ⟨none, .store 1 (.t 13) (.t 10), none⟩])
   (.skip))⟩
theorem eq_flow_put (Φ : Calls') (a0 a1 a2 : AV) (H : AH) (Q : Post) : fnE1 Φ ir_flow_put [a0, a1, a2] H Q = flow_put Φ a0 a1 a2 H Q := by kernel_rfl

/-! rabbet/flow.holds -/
def flow_holds (Φ : Calls') (a0 : AV) (a1 : AV) (H : AH) (Q : Post) : Prop :=
 Do (abin .eql a1 (.int .i64 0)) fun x1 =>
 Gd x1 true (
 Do (anilck a0) fun x2 =>
 Do (afaddr 32 x2) fun x3 =>
 Do (aload H 1 false x3) fun x4 =>
 Q x4 H) (
 Do (abin .eql a1 (.int .i64 1)) fun x5 =>
 Gd x5 true (
 Do (anilck a0) fun x6 =>
 Do (afaddr 32 x6) fun x7 =>
 Do (aload H 1 false x7) fun x8 =>
 Do (aun .not x8) fun x9 =>
 Q x9 H) (
 Do (abin .eql a1 (.int .i64 2)) fun x10 =>
 Gd x10 true (
 Do (anilck a0) fun x11 =>
 Do (afaddr 33 x11) fun x12 =>
 Do (aload H 1 false x12) fun x13 =>
 Q x13 H) (
 Do (anilck a0) fun x14 =>
 Do (afaddr 33 x14) fun x15 =>
 Do (aload H 1 false x15) fun x16 =>
 Do (aun .not x16) fun x17 =>
 Q x17 H)))
def ir_flow_holds : AFunc := ⟨30, [.tmp 4],
 .seq (.region [
   ⟨some 4, .mv (.k (.bool false)), none⟩])
 (.seq (.seq (.region [
   ⟨some 5, .mv (.t 1), none⟩])
 (.block 0 (.seq (.region [
   ⟨some 7, .bin .eql (.t 5) (.k (.int .i64 0)), none⟩,
   ⟨some 6, .mv (.t 7), none⟩])
 (.cond (.t 6) (.seq (.region [
     ⟨some 8, .mv (.t 0), none⟩,
     ⟨some 9, .nilck (.t 8), none⟩,
     ⟨some 10, .faddr 32 (.t 9), none⟩,
     ⟨some 11, .load 1 false (.t 10), none⟩,
     ⟨some 4, .mv (.t 11), none⟩])
   (.ret))
   (.seq (.region [
     ⟨some 13, .bin .eql (.t 5) (.k (.int .i64 1)), none⟩,
     ⟨some 12, .mv (.t 13), none⟩])
   (.cond (.t 12) (.seq (.region [
       ⟨some 14, .mv (.t 0), none⟩,
       ⟨some 15, .nilck (.t 14), none⟩,
       ⟨some 16, .faddr 32 (.t 15), none⟩,
       ⟨some 17, .load 1 false (.t 16), none⟩,
       ⟨some 18, .un .not (.t 17), none⟩,
       ⟨some 4, .mv (.t 18), none⟩])
     (.ret))
     (.seq (.region [
       ⟨some 20, .bin .eql (.t 5) (.k (.int .i64 2)), none⟩,
       ⟨some 19, .mv (.t 20), none⟩])
     (.cond (.t 19) (.seq (.region [
         ⟨some 21, .mv (.t 0), none⟩,
         ⟨some 22, .nilck (.t 21), none⟩,
         ⟨some 23, .faddr 33 (.t 22), none⟩,
         ⟨some 24, .load 1 false (.t 23), none⟩,
         ⟨some 4, .mv (.t 24), none⟩])
       (.ret))
       (.skip)))))))))
 (.seq (.region [
   ⟨some 25, .mv (.t 0), none⟩,
   ⟨some 26, .nilck (.t 25), none⟩,
   ⟨some 27, .faddr 33 (.t 26), none⟩,
   ⟨some 28, .load 1 false (.t 27), none⟩,
   ⟨some 29, .un .not (.t 28), none⟩,
   ⟨some 4, .mv (.t 29), none⟩])
 (.ret)))⟩
theorem eq_flow_holds (Φ : Calls') (a0 a1 : AV) (H : AH) (Q : Post) : fnE1 Φ ir_flow_holds [a0, a1] H Q = flow_holds Φ a0 a1 H Q := by kernel_rfl

/-! rabbet/flow.between -/
def flow_between (Φ : Calls') (a0 : AV) (a1 : AV) (a2 : AV) (H : AH) (Q : Post) : Prop :=
 Do (abin .geq a0 a1) fun x1 =>
 Gd3 x1 true (
 Do (abin .leq a0 a2) fun x2 =>
 Q x2 H) (
 Q (.bool false) H) (
 False)
def ir_flow_between : AFunc := ⟨15, [.tmp 6],
 .seq (.region [
   ⟨some 6, .mv (.k (.bool false)), none⟩])
 (.seq (.region [
   ⟨some 7, .mv (.t 0), none⟩,
   ⟨some 8, .mv (.t 1), none⟩,
   ⟨some 9, .bin .geq (.t 7) (.t 8), none⟩,
   ⟨some 10, .mv (.t 9), none⟩,
   ⟨some 11, .mv (.t 0), some (10, true)⟩,
   ⟨some 12, .mv (.t 2), some (10, true)⟩,
   ⟨some 13, .bin .leq (.t 11) (.t 12), some (10, true)⟩,
   ⟨some 14, .pick (.t 10) (.t 13) (.k (.bool false)), none⟩,
   ⟨some 6, .mv (.t 14), none⟩])
 (.ret))⟩
theorem eq_flow_between (Φ : Calls') (a0 a1 a2 : AV) (H : AH) (Q : Post) : fnE1 Φ ir_flow_between [a0, a1, a2] H Q = flow_between Φ a0 a1 a2 H Q := by kernel_rfl

/-! rabbet/flow.where -/
def flow_where_k1 (Φ : Calls') (x3 : AV) (j8 : List AV) (Q : Post) : List AV → AH → Prop := fun j18 H19 =>
 Do (abin .geq (sl j18 0) (.int .u64 1099511627776)) fun x35 =>
 Gd x35 true (
 Do (abuild [.int .i64 0, .int .i64 0] [(0, 1, (.int .i64 (-1))), (1, 1, (sl j8 0))]) fun x36 =>
 Do (astore H19 2 x3 x36) fun H37 =>
 Do (aload H37 2 true x3) fun x38 =>
 Q x38 H37) (
 Do (aconv .i64 (sl j18 0)) fun x39 =>
 Do (abuild [.int .i64 0, .int .i64 0] [(0, 1, x39), (1, 1, (sl j8 0))]) fun x40 =>
 Do (astore H19 2 x3 x40) fun H41 =>
 Do (aload H41 2 true x3) fun x42 =>
 Q x42 H41)
def flow_where_k2 (Φ : Calls') (x1 : AV) (x3 : AV) (x16 : AV) (j8 : List AV) (Q : Post) : List AV → AH → Prop := fun j20 H21 =>
 Gd (sl j20 0) true (
 Do (afaddr 6 x1) fun x28 =>
 Do (aload H21 1 false x28) fun x29 =>
 Do (aconv .u64 x29) fun x30 =>
 Do (afaddr 5 x1) fun x31 =>
 Do (aload H21 1 false x31) fun x32 =>
 Do (abin .shl x30 x32) fun x33 =>
 Do (abin .add x16 x33) fun x34 =>
 JoinP (flow_where_k1 Φ x3 j8 Q) [x34] H21) (
 JoinP (flow_where_k1 Φ x3 j8 Q) [x16] H21)
def flow_where_k3 (Φ : Calls') (a0 : AV) (x1 : AV) (x3 : AV) (Q : Post) : List AV → AH → Prop := fun j8 H9 =>
 Do (afaddr 2 x1) fun x14 =>
 Do (aload H9 1 false x14) fun x15 =>
Φ K.flow_get [a0, x15] H9 fun x16 H17 =>
 Do (afaddr 0 x1) fun x22 =>
 Do (aload H17 1 false x22) fun x23 =>
 Do (abin .eql x23 (.int .i64 17)) fun x24 =>
 Gd3 x24 false (
 Do (afaddr 0 x1) fun x25 =>
 Do (aload H17 1 false x25) fun x26 =>
 Do (abin .eql x26 (.int .i64 18)) fun x27 =>
 JoinP (flow_where_k2 Φ x1 x3 x16 j8 Q) [x27] H17) (
 JoinP (flow_where_k2 Φ x1 x3 x16 j8 Q) [(.bool true)] H17) (
 False)
def flow_where (Φ : Calls') (a0 : AV) (a1 : AV) (H : AH) (Q : Post) : Prop :=
 DoH (aboxv H false 7 a1) fun x1 H2 =>
 DoH (some (abox H2 true [.int .i64 0, .int .i64 0])) fun x3 H4 =>
 Do (afaddr 5 x1) fun x5 =>
 Do (aload H4 1 false x5) fun x6 =>
 Do (abin .shl (.int .i64 1) x6) fun x7 =>
 Do (afaddr 0 x1) fun x10 =>
 Do (aload H4 1 false x10) fun x11 =>
Φ K.flow_pair [x11] H4 fun x12 H13 =>
 Gd x12 true (
 JoinP (flow_where_k3 Φ a0 x1 x3 Q) [(.int .i64 16)] H13) (
 JoinP (flow_where_k3 Φ a0 x1 x3 Q) [x7] H13)
def ir_flow_where : AFunc := ⟨41, [.cell 4 2 true],
 .seq (.region [
   ⟨some 3, .box false 7 (.t 1), none⟩,
   ⟨some 4, .alloc true [.int .i64 0, .int .i64 0], none⟩])
 (.seq (.region [
   ⟨some 7, .faddr 5 (.t 3), none⟩,
   ⟨some 8, .load 1 false (.t 7), none⟩,
   ⟨some 9, .bin .shl (.k (.int .i64 1)) (.t 8), none⟩,
   ⟨some 5, .mv (.t 9), none⟩])
 (.join [5] [10, 11, 12] (.seq (.region [
   ⟨some 10, .faddr 0 (.t 3), none⟩,
   ⟨some 11, .load 1 false (.t 10), none⟩,
   ⟨some 12, .call K.flow_pair [(.t 11)], none⟩])
 (.cond (.t 12) (.region [
     ⟨some 5, .mv (.k (.int .i64 16)), none⟩])
   (.skip)))
 (.seq (.region [
   ⟨some 13, .mv (.t 0), none⟩,
   ⟨some 14, .faddr 2 (.t 3), none⟩,
   ⟨some 15, .load 1 false (.t 14), none⟩,
   ⟨some 16, .call K.flow_get [(.t 13), (.t 15)], none⟩,
   ⟨some 6, .mv (.t 16), none⟩])
 (.join [6] [17, 18, 19, 20, 21, 22, 23, 24, 25, 26, 27, 28, 29, 30, 31, 32] (.join [24] [17, 18, 19, 20, 21, 22, 23] (.region [
   ⟨some 17, .faddr 0 (.t 3), none⟩,
   ⟨some 18, .load 1 false (.t 17), none⟩,
   ⟨some 19, .bin .eql (.t 18) (.k (.int .i64 17)), none⟩,
   ⟨some 20, .mv (.t 19), none⟩,
   ⟨some 21, .faddr 0 (.t 3), some (20, false)⟩,
   ⟨some 22, .load 1 false (.t 21), some (20, false)⟩,
   ⟨some 23, .bin .eql (.t 22) (.k (.int .i64 18)), some (20, false)⟩,
   ⟨some 24, .pick (.t 20) (.k (.bool true)) (.t 23), none⟩])
 (.cond (.t 24) (.region [
     ⟨some 25, .mv (.t 6), none⟩,
     ⟨some 26, .faddr 6 (.t 3), none⟩,
     ⟨some 27, .load 1 false (.t 26), none⟩,
     ⟨some 28, .conv .u64 (.t 27), none⟩,
     ⟨some 29, .faddr 5 (.t 3), none⟩,
     ⟨some 30, .load 1 false (.t 29), none⟩,
     ⟨some 31, .bin .shl (.t 28) (.t 30), none⟩,
     ⟨some 32, .bin .add (.t 25) (.t 31), none⟩,
     ⟨some 6, .mv (.t 32), none⟩])
   (.skip)))
 (.seq (.seq (.region [
   ⟨some 33, .mv (.t 6), none⟩,
   ⟨some 34, .bin .geq (.t 33) (.k (.int .u64 1099511627776)), none⟩])
 (.cond (.t 34) (.seq (.region [
     ⟨some 35, .mv (.t 5), none⟩,
     ⟨some 36, .build [.int .i64 0, .int .i64 0] [(0, 1, (.k (.int .i64 (-1)))), (1, 1, (.t 35))], none⟩,
     ⟨none, .store 2 (.t 4) (.t 36), none⟩])
   (.ret))
   (.skip)))
 (.seq (.region [
   ⟨some 37, .mv (.t 6), none⟩,
   ⟨some 38, .conv .i64 (.t 37), none⟩,
   ⟨some 39, .mv (.t 5), none⟩,
   ⟨some 40, .build [.int .i64 0, .int .i64 0] [(0, 1, (.t 38)), (1, 1, (.t 39))], none⟩,
   ⟨none, .store 2 (.t 4) (.t 40), none⟩])
 (.ret)))))))⟩
theorem eq_flow_where (Φ : Calls') (a0 a1 : AV) (H : AH) (Q : Post) : fnE1 Φ ir_flow_where [a0, a1] H Q = flow_where Φ a0 a1 H Q := by kernel_rfl

/-! rabbet/flow.writes -/
def flow_writes_k1 (Φ : Calls') (a0 : AV) (Q : Post) : List AV → AH → Prop := fun j11 H12 =>
 Gd3 (sl j11 0) false (
 Do (abin .eql a0 (.int .i64 28)) fun x14 =>
 Q x14 H12) (
 Q (.bool true) H12) (
 False)
def flow_writes_k2 (Φ : Calls') (a0 : AV) (Q : Post) : List AV → AH → Prop := fun j8 H9 =>
 Gd3 (sl j8 0) false (
 Do (abin .eql a0 (.int .i64 27)) fun x13 =>
 JoinP (flow_writes_k1 Φ a0 Q) [x13] H9) (
 JoinP (flow_writes_k1 Φ a0 Q) [(.bool true)] H9) (
 False)
def flow_writes_k3 (Φ : Calls') (a0 : AV) (Q : Post) : List AV → AH → Prop := fun j5 H6 =>
 Gd3 (sl j5 0) false (
 Do (abin .eql a0 (.int .i64 24)) fun x10 =>
 JoinP (flow_writes_k2 Φ a0 Q) [x10] H6) (
 JoinP (flow_writes_k2 Φ a0 Q) [(.bool true)] H6) (
 False)
def flow_writes_k4 (Φ : Calls') (a0 : AV) (Q : Post) : List AV → AH → Prop := fun j1 H2 =>
 Gd3 (sl j1 0) false (
 Do (abin .eql a0 (.int .i64 23)) fun x7 =>
 JoinP (flow_writes_k3 Φ a0 Q) [x7] H2) (
 JoinP (flow_writes_k3 Φ a0 Q) [(.bool true)] H2) (
 False)
def flow_writes (Φ : Calls') (a0 : AV) (H : AH) (Q : Post) : Prop :=
 Do (abin .eql a0 (.int .i64 18)) fun x3 =>
 Gd3 x3 false (
 Do (abin .eql a0 (.int .i64 20)) fun x4 =>
 JoinP (flow_writes_k4 Φ a0 Q) [x4] H) (
 JoinP (flow_writes_k4 Φ a0 Q) [(.bool true)] H) (
 False)
def ir_flow_writes : AFunc := ⟨25, [.tmp 2],
 .seq (.region [
   ⟨some 2, .mv (.k (.bool false)), none⟩])
 (.seq (.rjoin [8] [3, 4, 5, 6, 7] [
   ⟨some 3, .mv (.t 0), none⟩,
   ⟨some 4, .bin .eql (.t 3) (.k (.int .i64 18)), none⟩,
   ⟨some 5, .mv (.t 4), none⟩,
   ⟨some 6, .mv (.t 0), some (5, false)⟩,
   ⟨some 7, .bin .eql (.t 6) (.k (.int .i64 20)), some (5, false)⟩,
   ⟨some 8, .pick (.t 5) (.k (.bool true)) (.t 7), none⟩]
 (.rjoin [12] [9, 10, 11] [
   ⟨some 9, .mv (.t 8), none⟩,
   ⟨some 10, .mv (.t 0), some (9, false)⟩,
   ⟨some 11, .bin .eql (.t 10) (.k (.int .i64 23)), some (9, false)⟩,
   ⟨some 12, .pick (.t 9) (.k (.bool true)) (.t 11), none⟩]
 (.rjoin [16] [13, 14, 15] [
   ⟨some 13, .mv (.t 12), none⟩,
   ⟨some 14, .mv (.t 0), some (13, false)⟩,
   ⟨some 15, .bin .eql (.t 14) (.k (.int .i64 24)), some (13, false)⟩,
   ⟨some 16, .pick (.t 13) (.k (.bool true)) (.t 15), none⟩]
 (.rjoin [20] [17, 18, 19] [
   ⟨some 17, .mv (.t 16), none⟩,
   ⟨some 18, .mv (.t 0), some (17, false)⟩,
   ⟨some 19, .bin .eql (.t 18) (.k (.int .i64 27)), some (17, false)⟩,
   ⟨some 20, .pick (.t 17) (.k (.bool true)) (.t 19), none⟩]
 (.region [
   ⟨some 21, .mv (.t 20), none⟩,
   ⟨some 22, .mv (.t 0), some (21, false)⟩,
   ⟨some 23, .bin .eql (.t 22) (.k (.int .i64 28)), some (21, false)⟩,
   ⟨some 24, .pick (.t 21) (.k (.bool true)) (.t 23), none⟩,
   ⟨some 2, .mv (.t 24), none⟩])))))
 (.ret))⟩
theorem eq_flow_writes (Φ : Calls') (a0 : AV) (H : AH) (Q : Post) : fnE1 Φ ir_flow_writes [a0] H Q = flow_writes Φ a0 H Q := by kernel_rfl

/-! rabbet/flow.exclusive -/
def flow_exclusive (Φ : Calls') (a0 : AV) (H : AH) (Q : Post) : Prop :=
Φ K.flow_between [a0, (.int .i64 21), (.int .i64 28)] H fun x1 H2 =>
 Q x1 H2
def ir_flow_exclusive : AFunc := ⟨5, [.tmp 2],
 .seq (.region [
   ⟨some 2, .mv (.k (.bool false)), none⟩])
 (.seq (.region [
   ⟨some 3, .mv (.t 0), none⟩,
   ⟨some 4, .call K.flow_between [(.t 3), (.k (.int .i64 21)), (.k (.int .i64 28))], none⟩,
   ⟨some 2, .mv (.t 4), none⟩])
 (.ret))⟩
theorem eq_flow_exclusive (Φ : Calls') (a0 : AV) (H : AH) (Q : Post) : fnE1 Φ ir_flow_exclusive [a0] H Q = flow_exclusive Φ a0 H Q := by kernel_rfl

/-! rabbet/flow.pair -/
def flow_pair (Φ : Calls') (a0 : AV) (H : AH) (Q : Post) : Prop :=
Φ K.flow_between [a0, (.int .i64 25), (.int .i64 28)] H fun x1 H2 =>
 Q x1 H2
def ir_flow_pair : AFunc := ⟨5, [.tmp 2],
 .seq (.region [
   ⟨some 2, .mv (.k (.bool false)), none⟩])
 (.seq (.region [
   ⟨some 3, .mv (.t 0), none⟩,
   ⟨some 4, .call K.flow_between [(.t 3), (.k (.int .i64 25)), (.k (.int .i64 28))], none⟩,
   ⟨some 2, .mv (.t 4), none⟩])
 (.ret))⟩
theorem eq_flow_pair (Φ : Calls') (a0 : AV) (H : AH) (Q : Post) : fnE1 Φ ir_flow_pair [a0] H Q = flow_pair Φ a0 H Q := by kernel_rfl

def tab_flow : Tab := [
  (K.flow_Next, ir_flow_Next),
  (K.flow_sound, ir_flow_sound),
  (K.flow_taken, ir_flow_taken),
  (K.flow_number, ir_flow_number),
  (K.flow_memory, ir_flow_memory),
  (K.flow_access, ir_flow_access),
  (K.flow_get, ir_flow_get),
  (K.flow_put, ir_flow_put),
  (K.flow_holds, ir_flow_holds),
  (K.flow_between, ir_flow_between),
  (K.flow_where, ir_flow_where),
  (K.flow_writes, ir_flow_writes),
  (K.flow_exclusive, ir_flow_exclusive),
  (K.flow_pair, ir_flow_pair)]

theorem cl_flow_Next {Φ : Calls'} (hT : Cl Φ tab_flow) {a0 a1 a2 a3 : AV} {H : AH} {Q : Post} (h : flow_Next Φ a0 a1 a2 a3 H Q) : Φ K.flow_Next [a0, a1, a2, a3] H Q := hT.call (by kernel_rfl) (by kernel_rfl) (by rw [eq_flow_Next]; exact h)
theorem cl_flow_sound {Φ : Calls'} (hT : Cl Φ tab_flow) {a0 : AV} {H : AH} {Q : Post} (h : flow_sound Φ a0 H Q) : Φ K.flow_sound [a0] H Q := hT.call (by kernel_rfl) (by kernel_rfl) (by rw [eq_flow_sound]; exact h)
theorem cl_flow_taken {Φ : Calls'} (hT : Cl Φ tab_flow) {a0 a1 : AV} {H : AH} {Q : Post} (h : flow_taken Φ a0 a1 H Q) : Φ K.flow_taken [a0, a1] H Q := hT.call (by kernel_rfl) (by kernel_rfl) (by rw [eq_flow_taken]; exact h)
theorem cl_flow_number {Φ : Calls'} (hT : Cl Φ tab_flow) {a0 a1 : AV} {H : AH} {Q : Post} (h : flow_number Φ a0 a1 H Q) : Φ K.flow_number [a0, a1] H Q := hT.call (by kernel_rfl) (by kernel_rfl) (by rw [eq_flow_number]; exact h)
theorem cl_flow_memory {Φ : Calls'} (hT : Cl Φ tab_flow) {a0 : AV} {H : AH} {Q : Post} (h : flow_memory Φ a0 H Q) : Φ K.flow_memory [a0] H Q := hT.call (by kernel_rfl) (by kernel_rfl) (by rw [eq_flow_memory]; exact h)
theorem cl_flow_access {Φ : Calls'} (hT : Cl Φ tab_flow) {a0 a1 a2 a3 : AV} {H : AH} {Q : Post} (h : flow_access Φ a0 a1 a2 a3 H Q) : Φ K.flow_access [a0, a1, a2, a3] H Q := hT.call (by kernel_rfl) (by kernel_rfl) (by rw [eq_flow_access]; exact h)
theorem cl_flow_get {Φ : Calls'} (hT : Cl Φ tab_flow) {a0 a1 : AV} {H : AH} {Q : Post} (h : flow_get Φ a0 a1 H Q) : Φ K.flow_get [a0, a1] H Q := hT.call (by kernel_rfl) (by kernel_rfl) (by rw [eq_flow_get]; exact h)
theorem cl_flow_put {Φ : Calls'} (hT : Cl Φ tab_flow) {a0 a1 a2 : AV} {H : AH} {Q : Post} (h : flow_put Φ a0 a1 a2 H Q) : Φ K.flow_put [a0, a1, a2] H Q := hT.call (by kernel_rfl) (by kernel_rfl) (by rw [eq_flow_put]; exact h)
theorem cl_flow_holds {Φ : Calls'} (hT : Cl Φ tab_flow) {a0 a1 : AV} {H : AH} {Q : Post} (h : flow_holds Φ a0 a1 H Q) : Φ K.flow_holds [a0, a1] H Q := hT.call (by kernel_rfl) (by kernel_rfl) (by rw [eq_flow_holds]; exact h)
theorem cl_flow_between {Φ : Calls'} (hT : Cl Φ tab_flow) {a0 a1 a2 : AV} {H : AH} {Q : Post} (h : flow_between Φ a0 a1 a2 H Q) : Φ K.flow_between [a0, a1, a2] H Q := hT.call (by kernel_rfl) (by kernel_rfl) (by rw [eq_flow_between]; exact h)
theorem cl_flow_where {Φ : Calls'} (hT : Cl Φ tab_flow) {a0 a1 : AV} {H : AH} {Q : Post} (h : flow_where Φ a0 a1 H Q) : Φ K.flow_where [a0, a1] H Q := hT.call (by kernel_rfl) (by kernel_rfl) (by rw [eq_flow_where]; exact h)
theorem cl_flow_writes {Φ : Calls'} (hT : Cl Φ tab_flow) {a0 : AV} {H : AH} {Q : Post} (h : flow_writes Φ a0 H Q) : Φ K.flow_writes [a0] H Q := hT.call (by kernel_rfl) (by kernel_rfl) (by rw [eq_flow_writes]; exact h)
theorem cl_flow_exclusive {Φ : Calls'} (hT : Cl Φ tab_flow) {a0 : AV} {H : AH} {Q : Post} (h : flow_exclusive Φ a0 H Q) : Φ K.flow_exclusive [a0] H Q := hT.call (by kernel_rfl) (by kernel_rfl) (by rw [eq_flow_exclusive]; exact h)
theorem cl_flow_pair {Φ : Calls'} (hT : Cl Φ tab_flow) {a0 : AV} {H : AH} {Q : Post} (h : flow_pair Φ a0 H Q) : Φ K.flow_pair [a0] H Q := hT.call (by kernel_rfl) (by kernel_rfl) (by rw [eq_flow_pair]; exact h)
end Rb.S

/- Package flow: its functions as runs. By gen.py. -/
set_option linter.unusedVariables false
namespace Rb.R
open Go

def flow_Next_k1 (Φ : CallsB) (n : Nat) (x1 : AV) (x7 : AV) (j22 : List AV) (Q : PostB) : List AV → TH → Bool := fun j41 H42 =>
 DoB (afaddr 31 x1) fun x51 =>
 DoB (tstore H42 1 x51 (sl j22 0)) fun H53 =>
 DoB (aload H53.ah 36 true x1) fun x54 =>
 DoB (tstore H53 36 x7 x54) fun H57 =>
 DoB (aload H57.ah 36 true x7) fun x58 =>
 Q (.tup [x58, (.int .i64 0)]) H57
def flow_Next_k2 (Φ : CallsB) (n : Nat) (x1 : AV) (x3 : AV) (x7 : AV) (x39 : AV) (j22 : List AV) (Q : PostB) : List AV → TH → Bool := fun j70 H71 =>
 DoB (afaddr 1 x3) fun x94 =>
 DoB (aload H71.ah 1 false x94) fun x95 =>
Φ K.flow_put [x1, x95, x39] H71 fun x97 H98 =>
 JoinB (flow_Next_k1 Φ n x1 x7 j22 Q) [] H98
def flow_Next_k3 (Φ : CallsB) (n : Nat) (a3 : AV) (x1 : AV) (x3 : AV) (x5 : AV) (x7 : AV) (Q : PostB) : List AV → TH → Bool := fun j22 H23 =>
 DoB (aload H23.ah 7 true x3) fun x35 =>
Φ K.flow_number [x1, x35] H23 fun x37 H38 =>
 DoB (aextract 0 x37) fun x39 =>
 DoB (aextract 1 x37) fun x40 =>
 DoB (afaddr 0 x3) fun x43 =>
 DoB (aload H38.ah 1 false x43) fun x44 =>
 DoB (abin .eql x44 (.int .i64 30)) fun x46 =>
 GdB x46 true (
 DoB (abuild [.int .i64 0, .int .i64 0] []) fun x47 =>
 DoB (afaddr 34 x1) fun x48 =>
 DoB (tstore H38 2 x48 x47) fun H50 =>
 JoinB (flow_Next_k1 Φ n x1 x7 j22 Q) [] H50) (
 DoB (afaddr 0 x3) fun x59 =>
 DoB (aload H38.ah 1 false x59) fun x60 =>
Φ K.flow_memory [x60] H38 fun x62 H63 =>
 GdB x62 true (
 DoB (aload H63.ah 7 true x3) fun x64 =>
 DoB (aload H63.ah 2 true x5) fun x66 =>
Φ K.flow_access [x1, x64, x66, a3] H63 fun x68 H69 =>
 JoinB (flow_Next_k1 Φ n x1 x7 j22 Q) [] H69) (
 GdB x40 true (
 DoB (afaddr 0 x3) fun x72 =>
 DoB (aload H63.ah 1 false x72) fun x73 =>
 DoB (abin .eql x73 (.int .i64 5)) fun x75 =>
 GdB x75 true (
 DoB (abin .eql x39 (.int .u64 0)) fun x76 =>
 DoB (afaddr 2 x3) fun x77 =>
 DoB (aload H63.ah 1 false x77) fun x78 =>
 DoB (afaddr 3 x3) fun x80 =>
 DoB (aload H63.ah 1 false x80) fun x81 =>
Φ K.flow_get [x1, x78] H63 fun x83 H84 =>
 and (sameV (aload H84.ah 1 false x80) x81) (
Φ K.flow_get [x1, x81] H84 fun x85 H86 =>
 DoB (abin .geq x83 x85) fun x87 =>
 DoB (afaddr 32 x1) fun x88 =>
 DoB (tstore H86 1 x88 x76) fun H90 =>
 DoB (afaddr 33 x1) fun x91 =>
 DoB (tstore H90 1 x91 x87) fun H93 =>
 JoinB (flow_Next_k2 Φ n x1 x3 x7 x39 j22 Q) [] H93)) (
 JoinB (flow_Next_k2 Φ n x1 x3 x7 x39 j22 Q) [] H63)) (
 JoinB (flow_Next_k1 Φ n x1 x7 j22 Q) [] H63)))
def flow_Next (Φ : CallsB) (n : Nat) (a0 : AV) (a1 : AV) (a2 : AV) (a3 : AV) (H : TH) (Q : PostB) : Bool :=
 DoHB (tboxv H true 36 a0) fun x1 H2 =>
 DoHB (tboxv H2 false 7 a1) fun x3 H4 =>
 DoHB (tboxv H4 false 2 a2) fun x5 H6 =>
 DoHB (some (tbox H6 true [.int .u64 0, .int .u64 0, .int .u64 0, .int .u64 0, .int .u64 0, .int .u64 0, .int .u64 0, .int .u64 0, .int .u64 0, .int .u64 0, .int .u64 0, .int .u64 0, .int .u64 0, .int .u64 0, .int .u64 0, .int .u64 0, .int .u64 0, .int .u64 0, .int .u64 0, .int .u64 0, .int .u64 0, .int .u64 0, .int .u64 0, .int .u64 0, .int .u64 0, .int .u64 0, .int .u64 0, .int .u64 0, .int .u64 0, .int .u64 0, .int .u64 0, .int .i64 0, .bool false, .bool false, .int .i64 0, .int .i64 0])) fun x7 H8 =>
 DoB (aload H8.ah 7 true x3) fun x9 =>
Φ K.flow_sound [x9] H8 fun x11 H12 =>
 DoB (aun .not x11) fun x13 =>
 GdB x13 true (
 DoB (abuild [.int .u64 0, .int .u64 0, .int .u64 0, .int .u64 0, .int .u64 0, .int .u64 0, .int .u64 0, .int .u64 0, .int .u64 0, .int .u64 0, .int .u64 0, .int .u64 0, .int .u64 0, .int .u64 0, .int .u64 0, .int .u64 0, .int .u64 0, .int .u64 0, .int .u64 0, .int .u64 0, .int .u64 0, .int .u64 0, .int .u64 0, .int .u64 0, .int .u64 0, .int .u64 0, .int .u64 0, .int .u64 0, .int .u64 0, .int .u64 0, .int .u64 0, .int .i64 0, .bool false, .bool false, .int .i64 0, .int .i64 0] []) fun x14 =>
 DoB (tstore H12 36 x7 x14) fun H16 =>
 DoB (aload H16.ah 36 true x7) fun x17 =>
 Q (.tup [x17, (.int .i64 2)]) H16) (
 DoB (afaddr 31 x1) fun x18 =>
 DoB (aload H12.ah 1 false x18) fun x19 =>
 DoB (abin .add x19 (.int .i64 1)) fun x21 =>
 DoB (aload H12.ah 7 true x3) fun x24 =>
Φ K.flow_taken [x1, x24] H12 fun x26 H27 =>
 GdB x26 true (
 DoB (afaddr 31 x1) fun x28 =>
 DoB (aload H27.ah 1 false x28) fun x29 =>
 DoB (afaddr 6 x3) fun x31 =>
 DoB (aload H27.ah 1 false x31) fun x32 =>
 DoB (abin .add x29 x32) fun x34 =>
 JoinB (flow_Next_k3 Φ n a3 x1 x3 x5 x7 Q) [x34] H27) (
 JoinB (flow_Next_k3 Φ n a3 x1 x3 x5 x7 Q) [x21] H27))
theorem eq_flow_Next (Φ : CallsB) (n : Nat) (a0 a1 a2 a3 : AV) (H : TH) (Q : PostB) : fnB1 Φ n S.ir_flow_Next [a0, a1, a2, a3] H Q = flow_Next Φ n a0 a1 a2 a3 H Q := by kernel_rfl

def flow_sound (Φ : CallsB) (n : Nat) (a0 : AV) (H : TH) (Q : PostB) : Bool :=
 DoHB (tboxv H false 7 a0) fun x1 H2 =>
 DoB (aload H2.ah 7 true x1) fun x3 =>
Φ K.a64_Encode [x3] H2 fun x5 H6 =>
 DoB (aextract 0 x5) fun x7 =>
 DoB (aextract 1 x5) fun x8 =>
 DoB (abin .eql x8 (.int .i64 0)) fun x9 =>
 Q x9 H6
theorem eq_flow_sound (Φ : CallsB) (n : Nat) (a0 : AV) (H : TH) (Q : PostB) : fnB1 Φ n S.ir_flow_sound [a0] H Q = flow_sound Φ n a0 H Q := by kernel_rfl

def flow_taken (Φ : CallsB) (n : Nat) (a0 : AV) (a1 : AV) (H : TH) (Q : PostB) : Bool :=
 DoHB (tboxv H false 7 a1) fun x1 H2 =>
 DoB (afaddr 0 x1) fun x3 =>
 DoB (aload H2.ah 1 false x3) fun x4 =>
 DoB (abin .eql x4 (.int .i64 13)) fun x6 =>
 GdB x6 true (
 Q (.bool true) H2) (
 DoB (abin .eql x4 (.int .i64 14)) fun x7 =>
 GdB x7 true (
 DoB (afaddr 4 x1) fun x8 =>
 DoB (aload H2.ah 1 false x8) fun x9 =>
Φ K.flow_holds [a0, x9] H2 fun x11 H12 =>
 Q x11 H12) (
 DoB (abin .eql x4 (.int .i64 15)) fun x13 =>
 GdB x13 true (
 DoB (afaddr 1 x1) fun x14 =>
 DoB (aload H2.ah 1 false x14) fun x15 =>
Φ K.flow_get [a0, x15] H2 fun x17 H18 =>
 DoB (abin .eql x17 (.int .u64 0)) fun x19 =>
 Q x19 H18) (
 DoB (abin .eql x4 (.int .i64 16)) fun x20 =>
 GdB x20 true (
 DoB (afaddr 1 x1) fun x21 =>
 DoB (aload H2.ah 1 false x21) fun x22 =>
Φ K.flow_get [a0, x22] H2 fun x24 H25 =>
 DoB (abin .neq x24 (.int .u64 0)) fun x26 =>
 Q x26 H25) (
 Q (.bool false) H2))))
theorem eq_flow_taken (Φ : CallsB) (n : Nat) (a0 a1 : AV) (H : TH) (Q : PostB) : fnB1 Φ n S.ir_flow_taken [a0, a1] H Q = flow_taken Φ n a0 a1 H Q := by kernel_rfl

def flow_number_k1 (Φ : CallsB) (n : Nat) (a0 : AV) (x1 : AV) (x9 : AV) (x11 : AV) (x14 : AV) (Q : PostB) : List AV → TH → Bool := fun j44 H45 =>
 GdB (sl j44 0) true (
 DoB (abin .sub x9 x11) fun x47 =>
 Q (.tup [x47, (.bool true)]) H45) (
 DoB (abin .eql x14 (.int .i64 6)) fun x48 =>
 GdB x48 true (
 DoB (abin .and x9 x11) fun x49 =>
 Q (.tup [x49, (.bool true)]) H45) (
 DoB (abin .eql x14 (.int .i64 7)) fun x50 =>
 GdB x50 true (
 DoB (abin .or x9 x11) fun x51 =>
 Q (.tup [x51, (.bool true)]) H45) (
 DoB (abin .eql x14 (.int .i64 8)) fun x52 =>
 GdB x52 true (
 DoB (abin .xor x9 x11) fun x53 =>
 Q (.tup [x53, (.bool true)]) H45) (
 DoB (abin .eql x14 (.int .i64 9)) fun x54 =>
 GdB x54 true (
 DoB (abin .mul x9 x11) fun x55 =>
 Q (.tup [x55, (.bool true)]) H45) (
 DoB (abin .eql x14 (.int .i64 10)) fun x56 =>
 GdB x56 true (
 DoB (abin .rem x11 (.int .u64 64)) fun x57 =>
 DoB (abin .shl x9 x57) fun x58 =>
 Q (.tup [x58, (.bool true)]) H45) (
 DoB (abin .eql x14 (.int .i64 11)) fun x59 =>
 GdB x59 true (
 DoB (abin .rem x11 (.int .u64 64)) fun x60 =>
 DoB (abin .shr x9 x60) fun x61 =>
 Q (.tup [x61, (.bool true)]) H45) (
 DoB (abin .eql x14 (.int .i64 12)) fun x62 =>
 GdB x62 true (
 DoB (afaddr 4 x1) fun x63 =>
 DoB (aload H45.ah 1 false x63) fun x64 =>
Φ K.flow_holds [a0, x64] H45 fun x66 H67 =>
 GdB x66 true (
 Q (.tup [(.int .u64 1), (.bool true)]) H67) (
 Q (.tup [(.int .u64 0), (.bool true)]) H67)) (
 Q (.tup [(.int .u64 0), (.bool false)]) H45))))))))
def flow_number (Φ : CallsB) (n : Nat) (a0 : AV) (a1 : AV) (H : TH) (Q : PostB) : Bool :=
 DoHB (tboxv H false 7 a1) fun x1 H2 =>
 DoB (afaddr 2 x1) fun x3 =>
 DoB (aload H2.ah 1 false x3) fun x4 =>
 DoB (afaddr 3 x1) fun x6 =>
 DoB (aload H2.ah 1 false x6) fun x7 =>
Φ K.flow_get [a0, x4] H2 fun x9 H10 =>
 and (sameV (aload H10.ah 1 false x6) x7) (
Φ K.flow_get [a0, x7] H10 fun x11 H12 =>
 DoB (afaddr 0 x1) fun x13 =>
 DoB (aload H12.ah 1 false x13) fun x14 =>
 DoB (abin .eql x14 (.int .i64 1)) fun x16 =>
 GdB x16 true (
 DoB (afaddr 6 x1) fun x17 =>
 DoB (aload H12.ah 1 false x17) fun x18 =>
 DoB (aconv .u64 x18) fun x20 =>
 DoB (afaddr 4 x1) fun x21 =>
 DoB (aload H12.ah 1 false x21) fun x22 =>
 DoB (abin .mul (.int .i64 16) x22) fun x24 =>
 DoB (abin .shl x20 x24) fun x25 =>
 Q (.tup [x25, (.bool true)]) H12) (
 DoB (abin .eql x14 (.int .i64 2)) fun x26 =>
 GdB x26 true (
 DoB (afaddr 1 x1) fun x27 =>
 DoB (aload H12.ah 1 false x27) fun x28 =>
 DoB (afaddr 4 x1) fun x30 =>
 DoB (aload H12.ah 1 false x30) fun x31 =>
 DoB (abin .mul (.int .i64 16) x31) fun x33 =>
 DoB (afaddr 6 x1) fun x34 =>
 DoB (aload H12.ah 1 false x34) fun x35 =>
 DoB (aconv .u64 x35) fun x37 =>
Φ K.flow_get [a0, x28] H12 fun x38 H39 =>
 and (sameV (aload H39.ah 1 false x30) x31) (
 and (sameV (aload H39.ah 1 false x34) x35) (
Φ K.bits_Put [x38, x33, (.int .i64 16), x37] H39 fun x40 H41 =>
 Q (.tup [x40, (.bool true)]) H41))) (
 DoB (abin .eql x14 (.int .i64 3)) fun x42 =>
 GdB x42 true (
 DoB (abin .add x9 x11) fun x43 =>
 Q (.tup [x43, (.bool true)]) H12) (
 DoB (abin .eql x14 (.int .i64 4)) fun x46 =>
 GdB x46 true (
 JoinB (flow_number_k1 Φ n a0 x1 x9 x11 x14 Q) [x46] H12) (
 DoB (abin .eql x14 (.int .i64 5)) fun x68 =>
 JoinB (flow_number_k1 Φ n a0 x1 x9 x11 x14 Q) [x68] H12)))))
theorem eq_flow_number (Φ : CallsB) (n : Nat) (a0 a1 : AV) (H : TH) (Q : PostB) : fnB1 Φ n S.ir_flow_number [a0, a1] H Q = flow_number Φ n a0 a1 H Q := by kernel_rfl

def flow_memory (Φ : CallsB) (n : Nat) (a0 : AV) (H : TH) (Q : PostB) : Bool :=
Φ K.flow_between [a0, (.int .i64 17), (.int .i64 28)] H fun x1 H2 =>
 Q x1 H2
theorem eq_flow_memory (Φ : CallsB) (n : Nat) (a0 : AV) (H : TH) (Q : PostB) : fnB1 Φ n S.ir_flow_memory [a0] H Q = flow_memory Φ n a0 H Q := by kernel_rfl

def flow_access_k1 (Φ : CallsB) (n : Nat) (a0 : AV) (x1 : AV) (Q : PostB) : List AV → TH → Bool := fun j25 H26 =>
 DoB (afaddr 3 x1) fun x27 =>
 DoB (aload H26.ah 1 false x27) fun x28 =>
Φ K.flow_put [a0, x28, (sl j25 0)] H26 fun x30 H31 =>
 DoB (abuild [.int .i64 0, .int .i64 0] []) fun x32 =>
 DoB (anilck a0) fun x33 =>
 DoB (afaddr 34 x33) fun x34 =>
 DoB (tstore H31 2 x34 x32) fun H36 =>
 Q (.tup []) H36
def flow_access_k2 (Φ : CallsB) (n : Nat) (a0 : AV) (a3 : AV) (x1 : AV) (x3 : AV) (x9 : AV) (Q : PostB) : List AV → TH → Bool := fun j13 H14 =>
 GdB (sl j13 0) true (
 GdB a3 true (
 JoinB (flow_access_k1 Φ n a0 x1 Q) [(.int .u64 0)] H14) (
 JoinB (flow_access_k1 Φ n a0 x1 Q) [(.int .u64 1)] H14)) (
 DoB (afaddr 0 x1) fun x37 =>
 DoB (aload H14.ah 1 false x37) fun x38 =>
Φ K.flow_writes [x38] H14 fun x40 H41 =>
 GdB x40 true (
 Q (.tup []) H41) (
 DoB (afaddr 0 x1) fun x42 =>
 DoB (aload H41.ah 1 false x42) fun x43 =>
Φ K.flow_pair [x43] H41 fun x45 H46 =>
 GdB x45 true (
 DoB (afaddr 1 x1) fun x47 =>
 DoB (aload H46.ah 1 false x47) fun x48 =>
 DoB (aiaddr (some 2) 1 x3 (.int .i64 0)) fun x50 =>
 DoB (aload H46.ah 1 false x50) fun x51 =>
Φ K.flow_put [a0, x48, x51] H46 fun x53 H54 =>
 DoB (afaddr 4 x1) fun x55 =>
 DoB (aload H54.ah 1 false x55) fun x56 =>
 DoB (aiaddr (some 2) 1 x3 (.int .i64 1)) fun x58 =>
 DoB (aload H54.ah 1 false x58) fun x59 =>
Φ K.flow_put [a0, x56, x59] H54 fun x61 H62 =>
 DoB (aload H62.ah 2 true x9) fun x63 =>
 DoB (anilck a0) fun x65 =>
 DoB (afaddr 34 x65) fun x66 =>
 DoB (tstore H62 2 x66 x63) fun H68 =>
 Q (.tup []) H68) (
 DoB (afaddr 1 x1) fun x69 =>
 DoB (aload H46.ah 1 false x69) fun x70 =>
 DoB (aiaddr (some 2) 1 x3 (.int .i64 0)) fun x72 =>
 DoB (aload H46.ah 1 false x72) fun x73 =>
 DoB (afaddr 1 x9) fun x75 =>
 DoB (aload H46.ah 1 false x75) fun x76 =>
 DoB (abin .mul (.int .i64 8) x76) fun x78 =>
Φ K.bits_Mask [x78] H46 fun x79 H80 =>
 and (sameV (aload H80.ah 1 false x69) x70) (
 and (sameV (aload H80.ah 1 false x72) x73) (
 DoB (abin .and x73 x79) fun x81 =>
Φ K.flow_put [a0, x70, x81] H80 fun x82 H83 =>
 DoB (afaddr 0 x1) fun x84 =>
 DoB (aload H83.ah 1 false x84) fun x85 =>
Φ K.flow_exclusive [x85] H83 fun x87 H88 =>
 GdB x87 true (
 DoB (aload H88.ah 2 true x9) fun x89 =>
 DoB (anilck a0) fun x91 =>
 DoB (afaddr 34 x91) fun x92 =>
 DoB (tstore H88 2 x92 x89) fun H94 =>
 Q (.tup []) H94) (
 Q (.tup []) H88))))))
def flow_access (Φ : CallsB) (n : Nat) (a0 : AV) (a1 : AV) (a2 : AV) (a3 : AV) (H : TH) (Q : PostB) : Bool :=
 DoHB (tboxv H false 7 a1) fun x1 H2 =>
 DoHB (tboxv H2 false 2 a2) fun x3 H4 =>
 DoB (aload H4.ah 7 true x1) fun x5 =>
Φ K.flow_where [a0, x5] H4 fun x7 H8 =>
 DoHB (some (tbox H8 true [.int .i64 0, .int .i64 0])) fun x9 H10 =>
 DoB (tstore H10 2 x9 x7) fun H12 =>
 DoB (afaddr 0 x1) fun x15 =>
 DoB (aload H12.ah 1 false x15) fun x16 =>
Φ K.flow_writes [x16] H12 fun x18 H19 =>
 Gd3B x18 true (
 DoB (afaddr 0 x1) fun x20 =>
 DoB (aload H19.ah 1 false x20) fun x21 =>
Φ K.flow_exclusive [x21] H19 fun x23 H24 =>
 JoinB (flow_access_k2 Φ n a0 a3 x1 x3 x9 Q) [x23] H24) (
 JoinB (flow_access_k2 Φ n a0 a3 x1 x3 x9 Q) [(.bool false)] H19) (
 false)
theorem eq_flow_access (Φ : CallsB) (n : Nat) (a0 a1 a2 a3 : AV) (H : TH) (Q : PostB) : fnB1 Φ n S.ir_flow_access [a0, a1, a2, a3] H Q = flow_access Φ n a0 a1 a2 a3 H Q := by kernel_rfl

def flow_get (Φ : CallsB) (n : Nat) (a0 : AV) (a1 : AV) (H : TH) (Q : PostB) : Bool :=
 DoB (abin .eql a1 (.int .i64 31)) fun x1 =>
 GdB x1 true (
 Q (.int .u64 0) H) (
 DoB (anilck a0) fun x2 =>
 DoB (afaddr 0 x2) fun x3 =>
 DoB (aiaddr (some 31) 1 x3 a1) fun x4 =>
 DoB (aload H.ah 1 false x4) fun x5 =>
 Q x5 H)
theorem eq_flow_get (Φ : CallsB) (n : Nat) (a0 a1 : AV) (H : TH) (Q : PostB) : fnB1 Φ n S.ir_flow_get [a0, a1] H Q = flow_get Φ n a0 a1 H Q := by kernel_rfl

def flow_put (Φ : CallsB) (n : Nat) (a0 : AV) (a1 : AV) (a2 : AV) (H : TH) (Q : PostB) : Bool :=
 DoB (abin .neq a1 (.int .i64 31)) fun x1 =>
 GdB x1 true (
 DoB (anilck a0) fun x2 =>
 DoB (afaddr 0 x2) fun x3 =>
 DoB (aiaddr (some 31) 1 x3 a1) fun x4 =>
 DoB (tstore H 1 x4 a2) fun H6 =>
 Q (.tup []) H6) (
 Q (.tup []) H)
theorem eq_flow_put (Φ : CallsB) (n : Nat) (a0 a1 a2 : AV) (H : TH) (Q : PostB) : fnB1 Φ n S.ir_flow_put [a0, a1, a2] H Q = flow_put Φ n a0 a1 a2 H Q := by kernel_rfl

def flow_holds (Φ : CallsB) (n : Nat) (a0 : AV) (a1 : AV) (H : TH) (Q : PostB) : Bool :=
 DoB (abin .eql a1 (.int .i64 0)) fun x1 =>
 GdB x1 true (
 DoB (anilck a0) fun x2 =>
 DoB (afaddr 32 x2) fun x3 =>
 DoB (aload H.ah 1 false x3) fun x4 =>
 Q x4 H) (
 DoB (abin .eql a1 (.int .i64 1)) fun x6 =>
 GdB x6 true (
 DoB (anilck a0) fun x7 =>
 DoB (afaddr 32 x7) fun x8 =>
 DoB (aload H.ah 1 false x8) fun x9 =>
 DoB (aun .not x9) fun x11 =>
 Q x11 H) (
 DoB (abin .eql a1 (.int .i64 2)) fun x12 =>
 GdB x12 true (
 DoB (anilck a0) fun x13 =>
 DoB (afaddr 33 x13) fun x14 =>
 DoB (aload H.ah 1 false x14) fun x15 =>
 Q x15 H) (
 DoB (anilck a0) fun x17 =>
 DoB (afaddr 33 x17) fun x18 =>
 DoB (aload H.ah 1 false x18) fun x19 =>
 DoB (aun .not x19) fun x21 =>
 Q x21 H)))
theorem eq_flow_holds (Φ : CallsB) (n : Nat) (a0 a1 : AV) (H : TH) (Q : PostB) : fnB1 Φ n S.ir_flow_holds [a0, a1] H Q = flow_holds Φ n a0 a1 H Q := by kernel_rfl

def flow_between (Φ : CallsB) (n : Nat) (a0 : AV) (a1 : AV) (a2 : AV) (H : TH) (Q : PostB) : Bool :=
 DoB (abin .geq a0 a1) fun x1 =>
 Gd3B x1 true (
 DoB (abin .leq a0 a2) fun x2 =>
 Q x2 H) (
 Q (.bool false) H) (
 false)
theorem eq_flow_between (Φ : CallsB) (n : Nat) (a0 a1 a2 : AV) (H : TH) (Q : PostB) : fnB1 Φ n S.ir_flow_between [a0, a1, a2] H Q = flow_between Φ n a0 a1 a2 H Q := by kernel_rfl

def flow_where_k1 (Φ : CallsB) (n : Nat) (x3 : AV) (j9 : List AV) (Q : PostB) : List AV → TH → Bool := fun j21 H22 =>
 DoB (abin .geq (sl j21 0) (.int .u64 1099511627776)) fun x42 =>
 GdB x42 true (
 DoB (abuild [.int .i64 0, .int .i64 0] [(0, 1, (.int .i64 (-1))), (1, 1, (sl j9 0))]) fun x43 =>
 DoB (tstore H22 2 x3 x43) fun H45 =>
 DoB (aload H45.ah 2 true x3) fun x46 =>
 Q x46 H45) (
 DoB (aconv .i64 (sl j21 0)) fun x47 =>
 DoB (abuild [.int .i64 0, .int .i64 0] [(0, 1, x47), (1, 1, (sl j9 0))]) fun x48 =>
 DoB (tstore H22 2 x3 x48) fun H50 =>
 DoB (aload H50.ah 2 true x3) fun x51 =>
 Q x51 H50)
def flow_where_k2 (Φ : CallsB) (n : Nat) (x1 : AV) (x3 : AV) (x19 : AV) (j9 : List AV) (Q : PostB) : List AV → TH → Bool := fun j23 H24 =>
 GdB (sl j23 0) true (
 DoB (afaddr 6 x1) fun x33 =>
 DoB (aload H24.ah 1 false x33) fun x34 =>
 DoB (aconv .u64 x34) fun x36 =>
 DoB (afaddr 5 x1) fun x37 =>
 DoB (aload H24.ah 1 false x37) fun x38 =>
 DoB (abin .shl x36 x38) fun x40 =>
 DoB (abin .add x19 x40) fun x41 =>
 JoinB (flow_where_k1 Φ n x3 j9 Q) [x41] H24) (
 JoinB (flow_where_k1 Φ n x3 j9 Q) [x19] H24)
def flow_where_k3 (Φ : CallsB) (n : Nat) (a0 : AV) (x1 : AV) (x3 : AV) (Q : PostB) : List AV → TH → Bool := fun j9 H10 =>
 DoB (afaddr 2 x1) fun x16 =>
 DoB (aload H10.ah 1 false x16) fun x17 =>
Φ K.flow_get [a0, x17] H10 fun x19 H20 =>
 DoB (afaddr 0 x1) fun x25 =>
 DoB (aload H20.ah 1 false x25) fun x26 =>
 DoB (abin .eql x26 (.int .i64 17)) fun x28 =>
 Gd3B x28 false (
 DoB (afaddr 0 x1) fun x29 =>
 DoB (aload H20.ah 1 false x29) fun x30 =>
 DoB (abin .eql x30 (.int .i64 18)) fun x32 =>
 JoinB (flow_where_k2 Φ n x1 x3 x19 j9 Q) [x32] H20) (
 JoinB (flow_where_k2 Φ n x1 x3 x19 j9 Q) [(.bool true)] H20) (
 false)
def flow_where (Φ : CallsB) (n : Nat) (a0 : AV) (a1 : AV) (H : TH) (Q : PostB) : Bool :=
 DoHB (tboxv H false 7 a1) fun x1 H2 =>
 DoHB (some (tbox H2 true [.int .i64 0, .int .i64 0])) fun x3 H4 =>
 DoB (afaddr 5 x1) fun x5 =>
 DoB (aload H4.ah 1 false x5) fun x6 =>
 DoB (abin .shl (.int .i64 1) x6) fun x8 =>
 DoB (afaddr 0 x1) fun x11 =>
 DoB (aload H4.ah 1 false x11) fun x12 =>
Φ K.flow_pair [x12] H4 fun x14 H15 =>
 GdB x14 true (
 JoinB (flow_where_k3 Φ n a0 x1 x3 Q) [(.int .i64 16)] H15) (
 JoinB (flow_where_k3 Φ n a0 x1 x3 Q) [x8] H15)
theorem eq_flow_where (Φ : CallsB) (n : Nat) (a0 a1 : AV) (H : TH) (Q : PostB) : fnB1 Φ n S.ir_flow_where [a0, a1] H Q = flow_where Φ n a0 a1 H Q := by kernel_rfl

def flow_writes_k1 (Φ : CallsB) (n : Nat) (a0 : AV) (Q : PostB) : List AV → TH → Bool := fun j11 H12 =>
 Gd3B (sl j11 0) false (
 DoB (abin .eql a0 (.int .i64 28)) fun x14 =>
 Q x14 H12) (
 Q (.bool true) H12) (
 false)
def flow_writes_k2 (Φ : CallsB) (n : Nat) (a0 : AV) (Q : PostB) : List AV → TH → Bool := fun j8 H9 =>
 Gd3B (sl j8 0) false (
 DoB (abin .eql a0 (.int .i64 27)) fun x13 =>
 JoinB (flow_writes_k1 Φ n a0 Q) [x13] H9) (
 JoinB (flow_writes_k1 Φ n a0 Q) [(.bool true)] H9) (
 false)
def flow_writes_k3 (Φ : CallsB) (n : Nat) (a0 : AV) (Q : PostB) : List AV → TH → Bool := fun j5 H6 =>
 Gd3B (sl j5 0) false (
 DoB (abin .eql a0 (.int .i64 24)) fun x10 =>
 JoinB (flow_writes_k2 Φ n a0 Q) [x10] H6) (
 JoinB (flow_writes_k2 Φ n a0 Q) [(.bool true)] H6) (
 false)
def flow_writes_k4 (Φ : CallsB) (n : Nat) (a0 : AV) (Q : PostB) : List AV → TH → Bool := fun j1 H2 =>
 Gd3B (sl j1 0) false (
 DoB (abin .eql a0 (.int .i64 23)) fun x7 =>
 JoinB (flow_writes_k3 Φ n a0 Q) [x7] H2) (
 JoinB (flow_writes_k3 Φ n a0 Q) [(.bool true)] H2) (
 false)
def flow_writes (Φ : CallsB) (n : Nat) (a0 : AV) (H : TH) (Q : PostB) : Bool :=
 DoB (abin .eql a0 (.int .i64 18)) fun x3 =>
 Gd3B x3 false (
 DoB (abin .eql a0 (.int .i64 20)) fun x4 =>
 JoinB (flow_writes_k4 Φ n a0 Q) [x4] H) (
 JoinB (flow_writes_k4 Φ n a0 Q) [(.bool true)] H) (
 false)
theorem eq_flow_writes (Φ : CallsB) (n : Nat) (a0 : AV) (H : TH) (Q : PostB) : fnB1 Φ n S.ir_flow_writes [a0] H Q = flow_writes Φ n a0 H Q := by kernel_rfl

def flow_exclusive (Φ : CallsB) (n : Nat) (a0 : AV) (H : TH) (Q : PostB) : Bool :=
Φ K.flow_between [a0, (.int .i64 21), (.int .i64 28)] H fun x1 H2 =>
 Q x1 H2
theorem eq_flow_exclusive (Φ : CallsB) (n : Nat) (a0 : AV) (H : TH) (Q : PostB) : fnB1 Φ n S.ir_flow_exclusive [a0] H Q = flow_exclusive Φ n a0 H Q := by kernel_rfl

def flow_pair (Φ : CallsB) (n : Nat) (a0 : AV) (H : TH) (Q : PostB) : Bool :=
Φ K.flow_between [a0, (.int .i64 25), (.int .i64 28)] H fun x1 H2 =>
 Q x1 H2
theorem eq_flow_pair (Φ : CallsB) (n : Nat) (a0 : AV) (H : TH) (Q : PostB) : fnB1 Φ n S.ir_flow_pair [a0] H Q = flow_pair Φ n a0 H Q := by kernel_rfl

end Rb.R

/- Package rabbetlaw16: its functions in the small language, and what they mean. By gen.py. -/
set_option linter.unusedVariables false
namespace Rb.S
open Go

/-! rabbet/rabbetlaw16.EmitConstants -/
def rabbetlaw16_EmitConstants_k1 (Φ : Calls') (s14 : List AV × AH) (L15 : (List AV × AH) → Prop) (Q : Post) : List AV → AH → Prop := fun j17 H18 =>
 Do (abin .add (sl s14.1 1) (.int .i64 1)) fun x25 =>
 L15 ([(sl j17 0), x25], H18)
def rabbetlaw16_EmitConstants_k2 (Φ : Calls') (s33 : List AV × AH) (L34 : (List AV × AH) → Prop) (Q : Post) : List AV → AH → Prop := fun j37 H38 =>
 Do (abin .add (sl s33.1 1) (.int .i64 1)) fun x65 =>
 L34 ([(sl j37 0), x65], H38)
def rabbetlaw16_EmitConstants_k3 (Φ : Calls') (x3 : AV) (x6 : AV) (s33 : List AV × AH) (L34 : (List AV × AH) → Prop) (Q : Post) : List AV → AH → Prop := fun j39 H40 =>
 Do (aiaddr none 7 x3 (sl s33.1 1)) fun x48 =>
 Do (afaddr 4 x48) fun x49 =>
 Do (aload H40 1 false x49) fun x50 =>
 Do (aload H40 36 true x6) fun x51 =>
 Do (aiaddr none 7 x3 (sl s33.1 1)) fun x52 =>
 Do (aload H40 7 true x52) fun x53 =>
 Do (abuild [.int .u64 0, .int .u64 0] []) fun x54 =>
Φ K.flow_Next [x51, x53, x54, (.bool true)] H40 fun x55 H56 =>
 Do (aextract 0 x55) fun x57 =>
 Do (aextract 1 x55) fun x58 =>
 DoH (some (abox H56 true [.int .u64 0, .int .u64 0, .int .u64 0, .int .u64 0, .int .u64 0, .int .u64 0, .int .u64 0, .int .u64 0, .int .u64 0, .int .u64 0, .int .u64 0, .int .u64 0, .int .u64 0, .int .u64 0, .int .u64 0, .int .u64 0, .int .u64 0, .int .u64 0, .int .u64 0, .int .u64 0, .int .u64 0, .int .u64 0, .int .u64 0, .int .u64 0, .int .u64 0, .int .u64 0, .int .u64 0, .int .u64 0, .int .u64 0, .int .u64 0, .int .u64 0, .int .i64 0, .bool false, .bool false, .int .i64 0, .int .i64 0])) fun x59 H60 =>
(aload H60 36 true x6 = some x51) ∧
(aload H60 7 true x52 = some x53) ∧
(Do (astore H60 36 x59 x57) fun H61 =>
 Do (abin .neq x58 (.int .i64 0)) fun x62 =>
 Gd x62 true (
 Q (.bool false) H61) (
 Do (aload H61 36 true x59) fun x63 =>
 Do (astore H61 36 x6 x63) fun H64 =>
 JoinP (rabbetlaw16_EmitConstants_k2 Φ s33 L34 Q) [x50] H64))
def rabbetlaw16_EmitConstants_k4 (Φ : Calls') (x3 : AV) (x6 : AV) (s33 : List AV × AH) (L34 : (List AV × AH) → Prop) (Q : Post) : List AV → AH → Prop := fun j41 H42 =>
 Gd (sl j41 0) true (
 Q (.bool false) H42) (
 JoinP (rabbetlaw16_EmitConstants_k3 Φ x3 x6 s33 L34 Q) [] H42)
def rabbetlaw16_EmitConstants_k5 (Φ : Calls') (a1 : AV) (x2 : AV) (x6 : AV) (Q : Post) : List AV → AH → Prop := fun j31 H32 =>
Φ K.rabbetlaw16_awake [] H32 fun x66 H67 =>
 Gd3 x66 true (
 Do (afaddr 0 x6) fun x68 =>
 Do (aiaddr (some 31) 1 x68 x2) fun x69 =>
 Do (aload H67 1 false x69) fun x70 =>
 Do (abin .eql x70 a1) fun x71 =>
 Q x71 H67) (
 Q (.bool false) H67) (
 False)
def rabbetlaw16_EmitConstants_l6 (Φ : Calls') (a1 : AV) (x2 : AV) (x3 : AV) (x6 : AV) (Q : Post) : (List AV × AH) → ((List AV × AH) → Prop) → Prop := fun s33 L34 =>
 Do (alen false x3) fun x35 =>
 Do (abin .lss (sl s33.1 1) x35) fun x36 =>
 Gd x36 true (
 Do (aiaddr none 7 x3 (sl s33.1 1)) fun x43 =>
 Do (afaddr 4 x43) fun x44 =>
 Do (aload s33.2 1 false x44) fun x45 =>
 Do (abin .leq x45 (sl s33.1 0)) fun x46 =>
 Gd3 x46 true (
 Do (abin .neq a1 (.int .u64 0)) fun x47 =>
 JoinP (rabbetlaw16_EmitConstants_k4 Φ x3 x6 s33 L34 Q) [x47] s33.2) (
 JoinP (rabbetlaw16_EmitConstants_k4 Φ x3 x6 s33 L34 Q) [(.bool false)] s33.2) (
 False)) (
 JoinP (rabbetlaw16_EmitConstants_k5 Φ a1 x2 x6 Q) [] s33.2)
def rabbetlaw16_EmitConstants_k7 (Φ : Calls') (a1 : AV) (x2 : AV) (x3 : AV) (x6 : AV) (Q : Post) : List AV → AH → Prop := fun j26 H27 =>
 Do (alen false x3) fun x29 =>
 Do (abin .neq x29 (sl j26 0)) fun x30 =>
 Gd x30 true (
 Q (.bool false) H27) (
 LoopP (rabbetlaw16_EmitConstants_l6 Φ a1 x2 x3 x6 Q) ([(.int .i64 (-1)), (.int .i64 0)], H27))
def rabbetlaw16_EmitConstants_k8 (Φ : Calls') (a1 : AV) (x2 : AV) (x3 : AV) (x6 : AV) (Q : Post) : List AV → AH → Prop := fun j12 H13 =>
 Do (abin .eql (sl j12 0) (.int .i64 0)) fun x28 =>
 Gd x28 true (
 JoinP (rabbetlaw16_EmitConstants_k7 Φ a1 x2 x3 x6 Q) [(.int .i64 1)] H13) (
 JoinP (rabbetlaw16_EmitConstants_k7 Φ a1 x2 x3 x6 Q) [(sl j12 0)] H13)
def rabbetlaw16_EmitConstants_l9 (Φ : Calls') (a1 : AV) (x2 : AV) (x3 : AV) (x6 : AV) (Q : Post) : (List AV × AH) → ((List AV × AH) → Prop) → Prop := fun s14 L15 =>
 Do (abin .lss (sl s14.1 1) (.int .i64 4)) fun x16 =>
 Gd x16 true (
 Do (abin .mul (.int .i64 16) (sl s14.1 1)) fun x19 =>
 Do (aconv .u64 x19) fun x20 =>
 Do (abin .shr a1 x20) fun x21 =>
 Do (abin .rem x21 (.int .u64 65536)) fun x22 =>
 Do (abin .gtr x22 (.int .u64 0)) fun x23 =>
 Gd x23 true (
 Do (abin .add (sl s14.1 0) (.int .i64 1)) fun x24 =>
 JoinP (rabbetlaw16_EmitConstants_k1 Φ s14 L15 Q) [x24] s14.2) (
 JoinP (rabbetlaw16_EmitConstants_k1 Φ s14 L15 Q) [(sl s14.1 0)] s14.2)) (
 JoinP (rabbetlaw16_EmitConstants_k8 Φ a1 x2 x3 x6 Q) [(sl s14.1 0)] s14.2)
def rabbetlaw16_EmitConstants (Φ : Calls') (a0 : AV) (a1 : AV) (H : AH) (Q : Post) : Prop :=
 Do (abin .rem a0 (.int .u8 31)) fun x1 =>
 Do (aconv .i64 x1) fun x2 =>
Φ K.emit_Constant [x2, a1] H fun x3 H4 =>
 Do (abuild [.int .u64 0, .int .u64 0, .int .u64 0, .int .u64 0, .int .u64 0, .int .u64 0, .int .u64 0, .int .u64 0, .int .u64 0, .int .u64 0, .int .u64 0, .int .u64 0, .int .u64 0, .int .u64 0, .int .u64 0, .int .u64 0, .int .u64 0, .int .u64 0, .int .u64 0, .int .u64 0, .int .u64 0, .int .u64 0, .int .u64 0, .int .u64 0, .int .u64 0, .int .u64 0, .int .u64 0, .int .u64 0, .int .u64 0, .int .u64 0, .int .u64 0, .int .i64 0, .bool false, .bool false, .int .i64 0, .int .i64 0] []) fun x5 =>
 DoH (some (abox H4 true [.int .u64 0, .int .u64 0, .int .u64 0, .int .u64 0, .int .u64 0, .int .u64 0, .int .u64 0, .int .u64 0, .int .u64 0, .int .u64 0, .int .u64 0, .int .u64 0, .int .u64 0, .int .u64 0, .int .u64 0, .int .u64 0, .int .u64 0, .int .u64 0, .int .u64 0, .int .u64 0, .int .u64 0, .int .u64 0, .int .u64 0, .int .u64 0, .int .u64 0, .int .u64 0, .int .u64 0, .int .u64 0, .int .u64 0, .int .u64 0, .int .u64 0, .int .i64 0, .bool false, .bool false, .int .i64 0, .int .i64 0])) fun x6 H7 =>
 Do (astore H7 36 x6 x5) fun H8 =>
 Do (afaddr 0 x6) fun x9 =>
 Do (aiaddr (some 31) 1 x9 x2) fun x10 =>
 Do (astore H8 1 x10 (.int .u64 18446744073709551615)) fun H11 =>
 LoopP (rabbetlaw16_EmitConstants_l9 Φ a1 x2 x3 x6 Q) ([(.int .i64 0), (.int .i64 0)], H11)
def ir_rabbetlaw16_EmitConstants : AFunc := ⟨87, [.tmp 4],
 .seq (.region [
   ⟨some 4, .mv (.k (.bool false)), none⟩])
 (.seq (.region [
   ⟨some 14, .mv (.t 0), none⟩,
   ⟨some 15, .bin .rem (.t 14) (.k (.int .u8 31)), none⟩,
   ⟨some 16, .conv .i64 (.t 15), none⟩,
   ⟨some 5, .mv (.t 16), none⟩])
 (.seq (.region [
   ⟨some 17, .mv (.t 5), none⟩,
   ⟨some 18, .mv (.t 1), none⟩,
   ⟨some 19, .call K.emit_Constant [(.t 17), (.t 18)], none⟩,
   ⟨some 6, .mv (.t 19), none⟩])
 (.seq (.region [
   ⟨some 20, .build [.int .u64 0, .int .u64 0, .int .u64 0, .int .u64 0, .int .u64 0, .int .u64 0, .int .u64 0, .int .u64 0, .int .u64 0, .int .u64 0, .int .u64 0, .int .u64 0, .int .u64 0, .int .u64 0, .int .u64 0, .int .u64 0, .int .u64 0, .int .u64 0, .int .u64 0, .int .u64 0, .int .u64 0, .int .u64 0, .int .u64 0, .int .u64 0, .int .u64 0, .int .u64 0, .int .u64 0, .int .u64 0, .int .u64 0, .int .u64 0, .int .u64 0, .int .i64 0, .bool false, .bool false, .int .i64 0, .int .i64 0] [], none⟩,
   ⟨some 7, .alloc true [.int .u64 0, .int .u64 0, .int .u64 0, .int .u64 0, .int .u64 0, .int .u64 0, .int .u64 0, .int .u64 0, .int .u64 0, .int .u64 0, .int .u64 0, .int .u64 0, .int .u64 0, .int .u64 0, .int .u64 0, .int .u64 0, .int .u64 0, .int .u64 0, .int .u64 0, .int .u64 0, .int .u64 0, .int .u64 0, .int .u64 0, .int .u64 0, .int .u64 0, .int .u64 0, .int .u64 0, .int .u64 0, .int .u64 0, .int .u64 0, .int .u64 0, .int .i64 0, .bool false, .bool false, .int .i64 0, .int .i64 0], none⟩,
   ⟨none, .store 36 (.t 7) (.t 20), none⟩])
 (.seq (.region [
   ⟨some 21, .mv (.t 5), none⟩,
   ⟨some 22, .faddr 0 (.t 7), none⟩,
   ⟨some 23, .iaddr (some 31) 1 (.t 22) (.t 21), none⟩,
   ⟨none, .store 1 (.t 23) (.k (.int .u64 18446744073709551615)), none⟩])
 (.seq (.region [
   ⟨some 8, .mv (.k (.int .i64 0)), none⟩])
 (.join [8] [9, 24, 25, 26, 27, 28, 29, 30, 31, 32, 33, 34, 35, 36] (.seq (.region [
   ⟨some 9, .mv (.k (.int .i64 0)), none⟩])
 (.block 0 (.loop [8, 9] [24, 25, 26, 27, 28, 29, 30, 31, 32, 33, 34, 35, 36] (.seq (.seq (.region [
   ⟨some 24, .mv (.t 9), none⟩,
   ⟨some 25, .bin .lss (.t 24) (.k (.int .i64 4)), none⟩])
 (.cond (.t 25) (.skip)
   (.exit 0)))
 (.join [8] [28, 29, 30, 31, 32, 33, 34, 35, 36] (.block 1 (.seq (.region [
   ⟨some 28, .mv (.t 1), none⟩,
   ⟨some 29, .mv (.t 9), none⟩,
   ⟨some 30, .bin .mul (.k (.int .i64 16)) (.t 29), none⟩,
   ⟨some 31, .conv .u64 (.t 30), none⟩,
   ⟨some 32, .bin .shr (.t 28) (.t 31), none⟩,
   ⟨some 33, .bin .rem (.t 32) (.k (.int .u64 65536)), none⟩,
   ⟨some 34, .bin .gtr (.t 33) (.k (.int .u64 0)), none⟩])
 (.cond (.t 34) (.region [
     ⟨some 35, .mv (.t 8), none⟩,
     ⟨some 36, .bin .add (.t 35) (.k (.int .i64 1)), none⟩,
     ⟨some 8, .mv (.t 36), none⟩])
   (.skip))))
 (.region [
   ⟨some 26, .mv (.t 9), none⟩,
   ⟨some 27, .bin .add (.t 26) (.k (.int .i64 1)), none⟩,
   ⟨some 9, .mv (.t 27), none⟩]))))))
 (.join [8] [37, 38] (.seq (.region [
   ⟨some 37, .mv (.t 8), none⟩,
   ⟨some 38, .bin .eql (.t 37) (.k (.int .i64 0)), none⟩])
 (.cond (.t 38) (.region [
     ⟨some 8, .mv (.k (.int .i64 1)), none⟩])
   (.skip)))
 (.seq (.seq (.region [
   ⟨some 39, .mv (.t 6), none⟩,
   ⟨some 40, .len false (.t 39), none⟩,
   ⟨some 41, .mv (.t 8), none⟩,
   ⟨some 42, .bin .neq (.t 40) (.t 41), none⟩])
 (.cond (.t 42) (.seq (.region [
     ⟨some 4, .mv (.k (.bool false)), none⟩])
   (.ret))
   (.skip)))
 (.seq (.region [
   ⟨some 10, .mv (.k (.int .i64 (-1))), none⟩])
 (.join [] [4, 10, 11, 12, 13, 43, 44, 45, 46, 47, 48, 49, 50, 51, 52, 53, 54, 55, 56, 57, 58, 59, 60, 61, 62, 63, 64, 65, 66, 67, 68, 69, 70, 71, 72, 73, 74, 75, 76, 77] (.seq (.region [
   ⟨some 11, .mv (.k (.int .i64 0)), none⟩])
 (.block 2 (.loop [10, 11] [4, 12, 13, 43, 44, 45, 46, 47, 48, 49, 50, 51, 52, 53, 54, 55, 56, 57, 58, 59, 60, 61, 62, 63, 64, 65, 66, 67, 68, 69, 70, 71, 72, 73, 74, 75, 76, 77] (.seq (.seq (.region [
   ⟨some 43, .mv (.t 11), none⟩,
   ⟨some 44, .mv (.t 6), none⟩,
   ⟨some 45, .len false (.t 44), none⟩,
   ⟨some 46, .bin .lss (.t 43) (.t 45), none⟩])
 (.cond (.t 46) (.skip)
   (.exit 2)))
 (.join [10] [4, 12, 13, 49, 50, 51, 52, 53, 54, 55, 56, 57, 58, 59, 60, 61, 62, 63, 64, 65, 66, 67, 68, 69, 70, 71, 72, 73, 74, 75, 76, 77] (.block 3 (.join [] [4, 49, 50, 51, 52, 53, 54, 55, 56, 57, 58, 59] (.join [59] [49, 50, 51, 52, 53, 54, 55, 56, 57, 58] (.region [
   ⟨some 49, .mv (.t 6), none⟩,
   ⟨some 50, .mv (.t 11), none⟩,
   ⟨some 51, .iaddr none 7 (.t 49) (.t 50), none⟩,
   ⟨some 52, .faddr 4 (.t 51), none⟩,
   ⟨some 53, .load 1 false (.t 52), none⟩,
   ⟨some 54, .mv (.t 10), none⟩,
   ⟨some 55, .bin .leq (.t 53) (.t 54), none⟩,
   ⟨some 56, .mv (.t 55), none⟩,
   ⟨some 57, .mv (.t 1), some (56, true)⟩,
   ⟨some 58, .bin .neq (.t 57) (.k (.int .u64 0)), some (56, true)⟩,
   ⟨some 59, .pick (.t 56) (.t 58) (.k (.bool false)), none⟩])
 (.cond (.t 59) (.seq (.region [
     ⟨some 4, .mv (.k (.bool false)), none⟩])
   (.ret))
   (.skip)))
 (.seq (.region [
   ⟨some 60, .mv (.t 6), none⟩,
   ⟨some 61, .mv (.t 11), none⟩,
   ⟨some 62, .iaddr none 7 (.t 60) (.t 61), none⟩,
   ⟨some 63, .faddr 4 (.t 62), none⟩,
   ⟨some 64, .load 1 false (.t 63), none⟩,
   ⟨some 10, .mv (.t 64), none⟩])
 (.seq (.draw [
   ⟨some 66, .load 36 true (.t 7), none⟩,
   ⟨some 67, .mv (.t 6), none⟩,
   ⟨some 68, .mv (.t 11), none⟩,
   ⟨some 69, .iaddr none 7 (.t 67) (.t 68), none⟩,
   ⟨some 70, .load 7 true (.t 69), none⟩,
   ⟨some 71, .build [.int .u64 0, .int .u64 0] [], none⟩,
   ⟨some 72, .call K.flow_Next [(.t 66), (.t 70), (.t 71), (.k (.bool true))], none⟩,
   ⟨some 65, .mv (.t 72), none⟩,
   ⟨some 73, .extract 0 (.t 65), none⟩,
   ⟨some 74, .extract 1 (.t 65), none⟩,
   ⟨some 12, .alloc true [.int .u64 0, .int .u64 0, .int .u64 0, .int .u64 0, .int .u64 0, .int .u64 0, .int .u64 0, .int .u64 0, .int .u64 0, .int .u64 0, .int .u64 0, .int .u64 0, .int .u64 0, .int .u64 0, .int .u64 0, .int .u64 0, .int .u64 0, .int .u64 0, .int .u64 0, .int .u64 0, .int .u64 0, .int .u64 0, .int .u64 0, .int .u64 0, .int .u64 0, .int .u64 0, .int .u64 0, .int .u64 0, .int .u64 0, .int .u64 0, .int .u64 0, .int .i64 0, .bool false, .bool false, .int .i64 0, .int .i64 0], none⟩,
   ⟨none, .store 36 (.t 12) (.t 73), none⟩,
   ⟨some 13, .mv (.t 74), none⟩]
 [[], [], [], [1, 2], [1, 2, 3], [], [0, 1, 2, 3, 4, 5], [0, 1, 2, 3, 4, 5, 6], [0, 1, 2, 3, 4, 5, 6, 7], [0, 1, 2, 3, 4, 5, 6, 7], [], [0, 1, 2, 3, 4, 5, 6, 7, 8, 10], [0, 1, 2, 3, 4, 5, 6, 7, 8, 9, 10, 11]] [([0, 1, 2, 3, 4, 5], 6, []), ([7, 8, 9], 10, [0, 4]), ([], 11, [])] [12])
 (.seq (.seq (.region [
   ⟨some 75, .mv (.t 13), none⟩,
   ⟨some 76, .bin .neq (.t 75) (.k (.int .i64 0)), none⟩])
 (.cond (.t 76) (.seq (.region [
     ⟨some 4, .mv (.k (.bool false)), none⟩])
   (.ret))
   (.skip)))
 (.region [
   ⟨some 77, .load 36 true (.t 12), none⟩,
   ⟨none, .store 36 (.t 7) (.t 77), none⟩]))))))
 (.region [
   ⟨some 47, .mv (.t 11), none⟩,
   ⟨some 48, .bin .add (.t 47) (.k (.int .i64 1)), none⟩,
   ⟨some 11, .mv (.t 48), none⟩]))))))
 (.seq (.region [
   ⟨some 78, .call K.rabbetlaw16_awake [], none⟩,
   ⟨some 79, .mv (.t 78), none⟩,
   ⟨some 80, .mv (.t 5), some (79, true)⟩,
   ⟨some 81, .faddr 0 (.t 7), some (79, true)⟩,
   ⟨some 82, .iaddr (some 31) 1 (.t 81) (.t 80), some (79, true)⟩,
   ⟨some 83, .load 1 false (.t 82), some (79, true)⟩,
   ⟨some 84, .mv (.t 1), some (79, true)⟩,
   ⟨some 85, .bin .eql (.t 83) (.t 84), some (79, true)⟩,
   ⟨some 86, .pick (.t 79) (.t 85) (.k (.bool false)), none⟩,
   ⟨some 4, .mv (.t 86), none⟩])
 (.ret))))))))))))⟩
theorem eq_rabbetlaw16_EmitConstants (Φ : Calls') (a0 a1 : AV) (H : AH) (Q : Post) : fnE1 Φ ir_rabbetlaw16_EmitConstants [a0, a1] H Q = rabbetlaw16_EmitConstants Φ a0 a1 H Q := by kernel_rfl

/-! rabbet/rabbetlaw16.awake -/
def rabbetlaw16_awake_k1 (Φ : Calls') (x10 : AV) (Q : Post) : List AV → AH → Prop := fun j46 H47 =>
 Gd3 (sl j46 0) true (
 Do (alen false x10) fun x51 =>
 Do (abin .sub x51 (.int .i64 1)) fun x52 =>
 Do (aiaddr none 7 x10 x52) fun x53 =>
 Do (aload H47 7 true x53) fun x54 =>
 Do (abuild [.int .i64 0, .int .i64 0, .int .i64 0, .int .i64 0, .int .i64 0, .int .i64 0, .int .i64 0] [(0, 1, (.int .i64 31))]) fun x55 =>
 Do (aeqAgg false [.n, .n, .n, .n, .n, .n, .n] x54 x55) fun x56 =>
 Q x56 H47) (
 Q (.bool false) H47) (
 False)
def rabbetlaw16_awake_k2 (Φ : Calls') (x10 : AV) (x12 : AV) (Q : Post) : List AV → AH → Prop := fun j41 H42 =>
 Gd3 (sl j41 0) true (
 Do (alen false x12) fun x48 =>
 Do (alen false x10) fun x49 =>
 Do (abin .eql x48 x49) fun x50 =>
 JoinP (rabbetlaw16_awake_k1 Φ x10 Q) [x50] H42) (
 JoinP (rabbetlaw16_awake_k1 Φ x10 Q) [(.bool false)] H42) (
 False)
def rabbetlaw16_awake_k3 (Φ : Calls') (x10 : AV) (x11 : AV) (x12 : AV) (Q : Post) : List AV → AH → Prop := fun j37 H38 =>
 Gd3 (sl j37 0) true (
 Do (alen false x11) fun x43 =>
 Do (alen false x10) fun x44 =>
 Do (abin .eql x43 x44) fun x45 =>
 JoinP (rabbetlaw16_awake_k2 Φ x10 x12 Q) [x45] H38) (
 JoinP (rabbetlaw16_awake_k2 Φ x10 x12 Q) [(.bool false)] H38) (
 False)
def rabbetlaw16_awake_k4 (Φ : Calls') (x10 : AV) (x11 : AV) (x12 : AV) (Q : Post) : List AV → AH → Prop := fun j34 H35 =>
 Gd3 (sl j34 0) true (
 Do (alen false x10) fun x39 =>
 Do (abin .gtr x39 (.int .i64 1)) fun x40 =>
 JoinP (rabbetlaw16_awake_k3 Φ x10 x11 x12 Q) [x40] H35) (
 JoinP (rabbetlaw16_awake_k3 Φ x10 x11 x12 Q) [(.bool false)] H35) (
 False)
def rabbetlaw16_awake_k5 (Φ : Calls') (x10 : AV) (x11 : AV) (x12 : AV) (x22 : AV) (Q : Post) : List AV → AH → Prop := fun j31 H32 =>
 Gd3 (sl j31 0) true (
 Do (abin .eql x22 (.int .i64 1)) fun x36 =>
 JoinP (rabbetlaw16_awake_k4 Φ x10 x11 x12 Q) [x36] H32) (
 JoinP (rabbetlaw16_awake_k4 Φ x10 x11 x12 Q) [(.bool false)] H32) (
 False)
def rabbetlaw16_awake_k6 (Φ : Calls') (x10 : AV) (x11 : AV) (x12 : AV) (x13 : AV) (x22 : AV) (Q : Post) : List AV → AH → Prop := fun j23 H24 =>
 Gd3 (sl j23 0) true (
 Do (abin .eql x13 (.int .i64 0)) fun x33 =>
 JoinP (rabbetlaw16_awake_k5 Φ x10 x11 x12 x22 Q) [x33] H24) (
 JoinP (rabbetlaw16_awake_k5 Φ x10 x11 x12 x22 Q) [(.bool false)] H24) (
 False)
def rabbetlaw16_awake (Φ : Calls') (H : AH) (Q : Post) : Prop :=
Φ K.emit_Constant [(.int .i64 3), (.int .u64 327680)] H fun x1 H2 =>
 Do (abuild [.int .i64 0, .int .i64 0, .int .i64 0, .int .i64 0, .int .i64 0, .int .i64 0, .int .u64 0, .int .i64 0, .int .i64 0, .int .i64 0, .int .i64 0, .int .i64 0, .int .i64 0] [(0, 1, (.int .i64 1)), (1, 1, (.int .i64 0)), (2, 1, (.int .i64 (-1))), (3, 1, (.int .i64 (-1))), (4, 1, (.int .i64 (-1))), (5, 1, (.int .i64 (-1))), (6, 1, (.int .u64 5)), (12, 1, (.int .i64 7))]) fun x3 =>
 DoH (abslice H2 false 13 1 [.int .i64 0, .int .i64 0, .int .i64 0, .int .i64 0, .int .i64 0, .int .i64 0, .int .u64 0, .int .i64 0, .int .i64 0, .int .i64 0, .int .i64 0, .int .i64 0, .int .i64 0] [(0, 13, x3)]) fun x4 H5 =>
 DoH (abslice H5 false 1 1 [.int .i64 0] [(0, 1, (.int .i64 2))]) fun x6 H7 =>
Φ K.emit_Thread [x4, x6, (.int .u64 131072)] H7 fun x8 H9 =>
 Do (aextract 0 x8) fun x10 =>
 Do (aextract 1 x8) fun x11 =>
 Do (aextract 2 x8) fun x12 =>
 Do (aextract 3 x8) fun x13 =>
 Do (abuild [.int .i64 0, .int .i64 0, .int .i64 0, .int .i64 0, .int .i64 0, .int .i64 0, .int .u64 0, .int .i64 0, .int .i64 0, .int .i64 0, .int .i64 0, .int .i64 0, .int .i64 0] [(0, 1, (.int .i64 15)), (1, 1, (.int .i64 (-1))), (2, 1, (.int .i64 (-1))), (3, 1, (.int .i64 (-1))), (4, 1, (.int .i64 (-1))), (5, 1, (.int .i64 (-1))), (10, 1, (.int .i64 1))]) fun x14 =>
 DoH (abslice H9 false 13 1 [.int .i64 0, .int .i64 0, .int .i64 0, .int .i64 0, .int .i64 0, .int .i64 0, .int .u64 0, .int .i64 0, .int .i64 0, .int .i64 0, .int .i64 0, .int .i64 0, .int .i64 0] [(0, 13, x14)]) fun x15 H16 =>
Φ K.emit_Thread [x15, (.lst .nil 0 []), (.int .u64 0)] H16 fun x17 H18 =>
 Do (aextract 0 x17) fun x19 =>
 Do (aextract 1 x17) fun x20 =>
 Do (aextract 2 x17) fun x21 =>
 Do (aextract 3 x17) fun x22 =>
 Do (alen false x1) fun x25 =>
 Do (abin .eql x25 (.int .i64 1)) fun x26 =>
 Gd3 x26 true (
 Do (aiaddr none 7 x1 (.int .i64 0)) fun x27 =>
 Do (aload H18 7 true x27) fun x28 =>
 Do (abuild [.int .i64 0, .int .i64 0, .int .i64 0, .int .i64 0, .int .i64 0, .int .i64 0, .int .i64 0] [(0, 1, (.int .i64 1)), (1, 1, (.int .i64 3)), (4, 1, (.int .i64 1)), (6, 1, (.int .i64 5))]) fun x29 =>
 Do (aeqAgg false [.n, .n, .n, .n, .n, .n, .n] x28 x29) fun x30 =>
 JoinP (rabbetlaw16_awake_k6 Φ x10 x11 x12 x13 x22 Q) [x30] H18) (
 JoinP (rabbetlaw16_awake_k6 Φ x10 x11 x12 x13 x22 Q) [(.bool false)] H18) (
 False)
def ir_rabbetlaw16_awake : AFunc := ⟨75, [.tmp 0],
 .seq (.region [
   ⟨some 0, .mv (.k (.bool false)), none⟩])
 (.seq (.region [
   ⟨some 10, .call K.emit_Constant [(.k (.int .i64 3)), (.k (.int .u64 327680))], none⟩,
   ⟨some 1, .mv (.t 10), none⟩])
 (.seq (.region [
   ⟨some 12, .build [.int .i64 0, .int .i64 0, .int .i64 0, .int .i64 0, .int .i64 0, .int .i64 0, .int .u64 0, .int .i64 0, .int .i64 0, .int .i64 0, .int .i64 0, .int .i64 0, .int .i64 0] [(0, 1, (.k (.int .i64 1))), (1, 1, (.k (.int .i64 0))), (2, 1, (.k (.int .i64 (-1)))), (3, 1, (.k (.int .i64 (-1)))), (4, 1, (.k (.int .i64 (-1)))), (5, 1, (.k (.int .i64 (-1)))), (6, 1, (.k (.int .u64 5))), (12, 1, (.k (.int .i64 7)))], none⟩,
   ⟨some 13, .bslice false 13 1 [.int .i64 0, .int .i64 0, .int .i64 0, .int .i64 0, .int .i64 0, .int .i64 0, .int .u64 0, .int .i64 0, .int .i64 0, .int .i64 0, .int .i64 0, .int .i64 0, .int .i64 0] [(0, 13, (.t 12))], none⟩,
   ⟨some 14, .bslice false 1 1 [.int .i64 0] [(0, 1, (.k (.int .i64 2)))], none⟩,
   ⟨some 15, .call K.emit_Thread [(.t 13), (.t 14), (.k (.int .u64 131072))], none⟩,
   ⟨some 11, .mv (.t 15), none⟩,
   ⟨some 16, .extract 0 (.t 11), none⟩,
   ⟨some 17, .extract 1 (.t 11), none⟩,
   ⟨some 18, .extract 2 (.t 11), none⟩,
   ⟨some 19, .extract 3 (.t 11), none⟩,
   ⟨some 2, .mv (.t 16), none⟩,
   ⟨some 3, .mv (.t 17), none⟩,
   ⟨some 4, .mv (.t 18), none⟩,
   ⟨some 5, .mv (.t 19), none⟩])
 (.seq (.region [
   ⟨some 21, .build [.int .i64 0, .int .i64 0, .int .i64 0, .int .i64 0, .int .i64 0, .int .i64 0, .int .u64 0, .int .i64 0, .int .i64 0, .int .i64 0, .int .i64 0, .int .i64 0, .int .i64 0] [(0, 1, (.k (.int .i64 15))), (1, 1, (.k (.int .i64 (-1)))), (2, 1, (.k (.int .i64 (-1)))), (3, 1, (.k (.int .i64 (-1)))), (4, 1, (.k (.int .i64 (-1)))), (5, 1, (.k (.int .i64 (-1)))), (10, 1, (.k (.int .i64 1)))], none⟩,
   ⟨some 22, .bslice false 13 1 [.int .i64 0, .int .i64 0, .int .i64 0, .int .i64 0, .int .i64 0, .int .i64 0, .int .u64 0, .int .i64 0, .int .i64 0, .int .i64 0, .int .i64 0, .int .i64 0, .int .i64 0] [(0, 13, (.t 21))], none⟩,
   ⟨some 23, .call K.emit_Thread [(.t 22), (.k (.lst .nil 0 [])), (.k (.int .u64 0))], none⟩,
   ⟨some 20, .mv (.t 23), none⟩,
   ⟨some 24, .extract 0 (.t 20), none⟩,
   ⟨some 25, .extract 1 (.t 20), none⟩,
   ⟨some 26, .extract 2 (.t 20), none⟩,
   ⟨some 27, .extract 3 (.t 20), none⟩,
   ⟨some 6, .mv (.t 24), none⟩,
   ⟨some 7, .mv (.t 25), none⟩,
   ⟨some 8, .mv (.t 26), none⟩,
   ⟨some 9, .mv (.t 27), none⟩])
 (.seq (.rjoin [37] [28, 29, 30, 31, 32, 33, 34, 35, 36] [
   ⟨some 28, .mv (.t 1), none⟩,
   ⟨some 29, .len false (.t 28), none⟩,
   ⟨some 30, .bin .eql (.t 29) (.k (.int .i64 1)), none⟩,
   ⟨some 31, .mv (.t 30), none⟩,
   ⟨some 32, .mv (.t 1), some (31, true)⟩,
   ⟨some 33, .iaddr none 7 (.t 32) (.k (.int .i64 0)), some (31, true)⟩,
   ⟨some 34, .load 7 true (.t 33), some (31, true)⟩,
   ⟨some 35, .build [.int .i64 0, .int .i64 0, .int .i64 0, .int .i64 0, .int .i64 0, .int .i64 0, .int .i64 0] [(0, 1, (.k (.int .i64 1))), (1, 1, (.k (.int .i64 3))), (4, 1, (.k (.int .i64 1))), (6, 1, (.k (.int .i64 5)))], some (31, true)⟩,
   ⟨some 36, .eqagg false [.n, .n, .n, .n, .n, .n, .n] (.t 34) (.t 35), some (31, true)⟩,
   ⟨some 37, .pick (.t 31) (.t 36) (.k (.bool false)), none⟩]
 (.rjoin [41] [38, 39, 40] [
   ⟨some 38, .mv (.t 37), none⟩,
   ⟨some 39, .mv (.t 5), some (38, true)⟩,
   ⟨some 40, .bin .eql (.t 39) (.k (.int .i64 0)), some (38, true)⟩,
   ⟨some 41, .pick (.t 38) (.t 40) (.k (.bool false)), none⟩]
 (.rjoin [45] [42, 43, 44] [
   ⟨some 42, .mv (.t 41), none⟩,
   ⟨some 43, .mv (.t 9), some (42, true)⟩,
   ⟨some 44, .bin .eql (.t 43) (.k (.int .i64 1)), some (42, true)⟩,
   ⟨some 45, .pick (.t 42) (.t 44) (.k (.bool false)), none⟩]
 (.rjoin [50] [46, 47, 48, 49] [
   ⟨some 46, .mv (.t 45), none⟩,
   ⟨some 47, .mv (.t 2), some (46, true)⟩,
   ⟨some 48, .len false (.t 47), some (46, true)⟩,
   ⟨some 49, .bin .gtr (.t 48) (.k (.int .i64 1)), some (46, true)⟩,
   ⟨some 50, .pick (.t 46) (.t 49) (.k (.bool false)), none⟩]
 (.rjoin [57] [51, 52, 53, 54, 55, 56] [
   ⟨some 51, .mv (.t 50), none⟩,
   ⟨some 52, .mv (.t 3), some (51, true)⟩,
   ⟨some 53, .len false (.t 52), some (51, true)⟩,
   ⟨some 54, .mv (.t 2), some (51, true)⟩,
   ⟨some 55, .len false (.t 54), some (51, true)⟩,
   ⟨some 56, .bin .eql (.t 53) (.t 55), some (51, true)⟩,
   ⟨some 57, .pick (.t 51) (.t 56) (.k (.bool false)), none⟩]
 (.rjoin [64] [58, 59, 60, 61, 62, 63] [
   ⟨some 58, .mv (.t 57), none⟩,
   ⟨some 59, .mv (.t 4), some (58, true)⟩,
   ⟨some 60, .len false (.t 59), some (58, true)⟩,
   ⟨some 61, .mv (.t 2), some (58, true)⟩,
   ⟨some 62, .len false (.t 61), some (58, true)⟩,
   ⟨some 63, .bin .eql (.t 60) (.t 62), some (58, true)⟩,
   ⟨some 64, .pick (.t 58) (.t 63) (.k (.bool false)), none⟩]
 (.region [
   ⟨some 65, .mv (.t 64), none⟩,
   ⟨some 66, .mv (.t 2), some (65, true)⟩,
   ⟨some 67, .mv (.t 2), some (65, true)⟩,
   ⟨some 68, .len false (.t 67), some (65, true)⟩,
   ⟨some 69, .bin .sub (.t 68) (.k (.int .i64 1)), some (65, true)⟩,
   ⟨some 70, .iaddr none 7 (.t 66) (.t 69), some (65, true)⟩,
   ⟨some 71, .load 7 true (.t 70), some (65, true)⟩,
   ⟨some 72, .build [.int .i64 0, .int .i64 0, .int .i64 0, .int .i64 0, .int .i64 0, .int .i64 0, .int .i64 0] [(0, 1, (.k (.int .i64 31)))], some (65, true)⟩,
   ⟨some 73, .eqagg false [.n, .n, .n, .n, .n, .n, .n] (.t 71) (.t 72), some (65, true)⟩,
   ⟨some 74, .pick (.t 65) (.t 73) (.k (.bool false)), none⟩,
   ⟨some 0, .mv (.t 74), none⟩])))))))
 (.ret)))))⟩
theorem eq_rabbetlaw16_awake (Φ : Calls') (H : AH) (Q : Post) : fnE1 Φ ir_rabbetlaw16_awake [] H Q = rabbetlaw16_awake Φ H Q := by kernel_rfl

def tab_rabbetlaw16 : Tab := [
  (K.rabbetlaw16_EmitConstants, ir_rabbetlaw16_EmitConstants),
  (K.rabbetlaw16_awake, ir_rabbetlaw16_awake)]

theorem cl_rabbetlaw16_EmitConstants {Φ : Calls'} (hT : Cl Φ tab_rabbetlaw16) {a0 a1 : AV} {H : AH} {Q : Post} (h : rabbetlaw16_EmitConstants Φ a0 a1 H Q) : Φ K.rabbetlaw16_EmitConstants [a0, a1] H Q := hT.call (by kernel_rfl) (by kernel_rfl) (by rw [eq_rabbetlaw16_EmitConstants]; exact h)
theorem cl_rabbetlaw16_awake {Φ : Calls'} (hT : Cl Φ tab_rabbetlaw16) {H : AH} {Q : Post} (h : rabbetlaw16_awake Φ H Q) : Φ K.rabbetlaw16_awake [] H Q := hT.call (by kernel_rfl) (by kernel_rfl) (by rw [eq_rabbetlaw16_awake]; exact h)
end Rb.S

/- Package rabbetlaw16: its functions as runs. By gen.py. -/
set_option linter.unusedVariables false
namespace Rb.R
open Go

def rabbetlaw16_EmitConstants_k1 (Φ : CallsB) (n : Nat) (s16 : List AV × TH) (L17 : (List AV × TH) → Bool) (Q : PostB) : List AV → TH → Bool := fun j19 H20 =>
 DoB (abin .add (sl s16.1 1) (.int .i64 1)) fun x27 =>
 L17 ([(sl j19 0), x27], H20)
def rabbetlaw16_EmitConstants_k2 (Φ : CallsB) (n : Nat) (s35 : List AV × TH) (L36 : (List AV × TH) → Bool) (Q : PostB) : List AV → TH → Bool := fun j39 H40 =>
 DoB (abin .add (sl s35.1 1) (.int .i64 1)) fun x74 =>
 L36 ([(sl j39 0), x74], H40)
def rabbetlaw16_EmitConstants_k3 (Φ : CallsB) (n : Nat) (x3 : AV) (x6 : AV) (s35 : List AV × TH) (L36 : (List AV × TH) → Bool) (Q : PostB) : List AV → TH → Bool := fun j41 H42 =>
 DoB (aiaddr none 7 x3 (sl s35.1 1)) fun x51 =>
 DoB (afaddr 4 x51) fun x52 =>
 DoB (aload H42.ah 1 false x52) fun x53 =>
 DoB (aload H42.ah 36 true x6) fun x55 =>
 DoB (aiaddr none 7 x3 (sl s35.1 1)) fun x57 =>
 DoB (aload H42.ah 7 true x57) fun x58 =>
 DoB (abuild [.int .u64 0, .int .u64 0] []) fun x60 =>
Φ K.flow_Next [x55, x58, x60, (.bool true)] H42 fun x61 H62 =>
 DoB (aextract 0 x61) fun x63 =>
 DoB (aextract 1 x61) fun x64 =>
 DoHB (some (tbox H62 true [.int .u64 0, .int .u64 0, .int .u64 0, .int .u64 0, .int .u64 0, .int .u64 0, .int .u64 0, .int .u64 0, .int .u64 0, .int .u64 0, .int .u64 0, .int .u64 0, .int .u64 0, .int .u64 0, .int .u64 0, .int .u64 0, .int .u64 0, .int .u64 0, .int .u64 0, .int .u64 0, .int .u64 0, .int .u64 0, .int .u64 0, .int .u64 0, .int .u64 0, .int .u64 0, .int .u64 0, .int .u64 0, .int .u64 0, .int .u64 0, .int .u64 0, .int .i64 0, .bool false, .bool false, .int .i64 0, .int .i64 0])) fun x65 H66 =>
 and (sameV (aload H66.ah 36 true x6) x55) (
 and (sameV (aload H66.ah 7 true x57) x58) (
 DoB (tstore H66 36 x65 x63) fun H68 =>
 DoB (abin .neq x64 (.int .i64 0)) fun x69 =>
 GdB x69 true (
 Q (.bool false) H68) (
 DoB (aload H68.ah 36 true x65) fun x70 =>
 DoB (tstore H68 36 x6 x70) fun H73 =>
 JoinB (rabbetlaw16_EmitConstants_k2 Φ n s35 L36 Q) [x53] H73)))
def rabbetlaw16_EmitConstants_k4 (Φ : CallsB) (n : Nat) (x3 : AV) (x6 : AV) (s35 : List AV × TH) (L36 : (List AV × TH) → Bool) (Q : PostB) : List AV → TH → Bool := fun j43 H44 =>
 GdB (sl j43 0) true (
 Q (.bool false) H44) (
 JoinB (rabbetlaw16_EmitConstants_k3 Φ n x3 x6 s35 L36 Q) [] H44)
def rabbetlaw16_EmitConstants_k5 (Φ : CallsB) (n : Nat) (a1 : AV) (x2 : AV) (x6 : AV) (Q : PostB) : List AV → TH → Bool := fun j33 H34 =>
Φ K.rabbetlaw16_awake [] H34 fun x75 H76 =>
 Gd3B x75 true (
 DoB (afaddr 0 x6) fun x77 =>
 DoB (aiaddr (some 31) 1 x77 x2) fun x78 =>
 DoB (aload H76.ah 1 false x78) fun x79 =>
 DoB (abin .eql x79 a1) fun x81 =>
 Q x81 H76) (
 Q (.bool false) H76) (
 false)
def rabbetlaw16_EmitConstants_l6 (Φ : CallsB) (n : Nat) (a1 : AV) (x2 : AV) (x3 : AV) (x6 : AV) (Q : PostB) : (List AV × TH) → ((List AV × TH) → Bool) → Bool := fun s35 L36 =>
 DoB (alen false x3) fun x37 =>
 DoB (abin .lss (sl s35.1 1) x37) fun x38 =>
 GdB x38 true (
 DoB (aiaddr none 7 x3 (sl s35.1 1)) fun x45 =>
 DoB (afaddr 4 x45) fun x46 =>
 DoB (aload s35.2.ah 1 false x46) fun x47 =>
 DoB (abin .leq x47 (sl s35.1 0)) fun x49 =>
 Gd3B x49 true (
 DoB (abin .neq a1 (.int .u64 0)) fun x50 =>
 JoinB (rabbetlaw16_EmitConstants_k4 Φ n x3 x6 s35 L36 Q) [x50] s35.2) (
 JoinB (rabbetlaw16_EmitConstants_k4 Φ n x3 x6 s35 L36 Q) [(.bool false)] s35.2) (
 false)) (
 JoinB (rabbetlaw16_EmitConstants_k5 Φ n a1 x2 x6 Q) [] s35.2)
def rabbetlaw16_EmitConstants_k7 (Φ : CallsB) (n : Nat) (a1 : AV) (x2 : AV) (x3 : AV) (x6 : AV) (Q : PostB) : List AV → TH → Bool := fun j28 H29 =>
 DoB (alen false x3) fun x31 =>
 DoB (abin .neq x31 (sl j28 0)) fun x32 =>
 GdB x32 true (
 Q (.bool false) H29) (
 LoopB (rabbetlaw16_EmitConstants_l6 Φ n a1 x2 x3 x6 Q) n ([(.int .i64 (-1)), (.int .i64 0)], H29))
def rabbetlaw16_EmitConstants_k8 (Φ : CallsB) (n : Nat) (a1 : AV) (x2 : AV) (x3 : AV) (x6 : AV) (Q : PostB) : List AV → TH → Bool := fun j14 H15 =>
 DoB (abin .eql (sl j14 0) (.int .i64 0)) fun x30 =>
 GdB x30 true (
 JoinB (rabbetlaw16_EmitConstants_k7 Φ n a1 x2 x3 x6 Q) [(.int .i64 1)] H15) (
 JoinB (rabbetlaw16_EmitConstants_k7 Φ n a1 x2 x3 x6 Q) [(sl j14 0)] H15)
def rabbetlaw16_EmitConstants_l9 (Φ : CallsB) (n : Nat) (a1 : AV) (x2 : AV) (x3 : AV) (x6 : AV) (Q : PostB) : (List AV × TH) → ((List AV × TH) → Bool) → Bool := fun s16 L17 =>
 DoB (abin .lss (sl s16.1 1) (.int .i64 4)) fun x18 =>
 GdB x18 true (
 DoB (abin .mul (.int .i64 16) (sl s16.1 1)) fun x21 =>
 DoB (aconv .u64 x21) fun x22 =>
 DoB (abin .shr a1 x22) fun x23 =>
 DoB (abin .rem x23 (.int .u64 65536)) fun x24 =>
 DoB (abin .gtr x24 (.int .u64 0)) fun x25 =>
 GdB x25 true (
 DoB (abin .add (sl s16.1 0) (.int .i64 1)) fun x26 =>
 JoinB (rabbetlaw16_EmitConstants_k1 Φ n s16 L17 Q) [x26] s16.2) (
 JoinB (rabbetlaw16_EmitConstants_k1 Φ n s16 L17 Q) [(sl s16.1 0)] s16.2)) (
 JoinB (rabbetlaw16_EmitConstants_k8 Φ n a1 x2 x3 x6 Q) [(sl s16.1 0)] s16.2)
def rabbetlaw16_EmitConstants (Φ : CallsB) (n : Nat) (a0 : AV) (a1 : AV) (H : TH) (Q : PostB) : Bool :=
 DoB (abin .rem a0 (.int .u8 31)) fun x1 =>
 DoB (aconv .i64 x1) fun x2 =>
Φ K.emit_Constant [x2, a1] H fun x3 H4 =>
 DoB (abuild [.int .u64 0, .int .u64 0, .int .u64 0, .int .u64 0, .int .u64 0, .int .u64 0, .int .u64 0, .int .u64 0, .int .u64 0, .int .u64 0, .int .u64 0, .int .u64 0, .int .u64 0, .int .u64 0, .int .u64 0, .int .u64 0, .int .u64 0, .int .u64 0, .int .u64 0, .int .u64 0, .int .u64 0, .int .u64 0, .int .u64 0, .int .u64 0, .int .u64 0, .int .u64 0, .int .u64 0, .int .u64 0, .int .u64 0, .int .u64 0, .int .u64 0, .int .i64 0, .bool false, .bool false, .int .i64 0, .int .i64 0] []) fun x5 =>
 DoHB (some (tbox H4 true [.int .u64 0, .int .u64 0, .int .u64 0, .int .u64 0, .int .u64 0, .int .u64 0, .int .u64 0, .int .u64 0, .int .u64 0, .int .u64 0, .int .u64 0, .int .u64 0, .int .u64 0, .int .u64 0, .int .u64 0, .int .u64 0, .int .u64 0, .int .u64 0, .int .u64 0, .int .u64 0, .int .u64 0, .int .u64 0, .int .u64 0, .int .u64 0, .int .u64 0, .int .u64 0, .int .u64 0, .int .u64 0, .int .u64 0, .int .u64 0, .int .u64 0, .int .i64 0, .bool false, .bool false, .int .i64 0, .int .i64 0])) fun x6 H7 =>
 DoB (tstore H7 36 x6 x5) fun H9 =>
 DoB (afaddr 0 x6) fun x10 =>
 DoB (aiaddr (some 31) 1 x10 x2) fun x11 =>
 DoB (tstore H9 1 x11 (.int .u64 18446744073709551615)) fun H13 =>
 LoopB (rabbetlaw16_EmitConstants_l9 Φ n a1 x2 x3 x6 Q) n ([(.int .i64 0), (.int .i64 0)], H13)
theorem eq_rabbetlaw16_EmitConstants (Φ : CallsB) (n : Nat) (a0 a1 : AV) (H : TH) (Q : PostB) : fnB1 Φ n S.ir_rabbetlaw16_EmitConstants [a0, a1] H Q = rabbetlaw16_EmitConstants Φ n a0 a1 H Q := by kernel_rfl

def rabbetlaw16_awake_k1 (Φ : CallsB) (n : Nat) (x10 : AV) (Q : PostB) : List AV → TH → Bool := fun j47 H48 =>
 Gd3B (sl j47 0) true (
 DoB (alen false x10) fun x52 =>
 DoB (abin .sub x52 (.int .i64 1)) fun x53 =>
 DoB (aiaddr none 7 x10 x53) fun x54 =>
 DoB (aload H48.ah 7 true x54) fun x55 =>
 DoB (abuild [.int .i64 0, .int .i64 0, .int .i64 0, .int .i64 0, .int .i64 0, .int .i64 0, .int .i64 0] [(0, 1, (.int .i64 31))]) fun x57 =>
 DoB (aeqAgg false [.n, .n, .n, .n, .n, .n, .n] x55 x57) fun x58 =>
 Q x58 H48) (
 Q (.bool false) H48) (
 false)
def rabbetlaw16_awake_k2 (Φ : CallsB) (n : Nat) (x10 : AV) (x12 : AV) (Q : PostB) : List AV → TH → Bool := fun j42 H43 =>
 Gd3B (sl j42 0) true (
 DoB (alen false x12) fun x49 =>
 DoB (alen false x10) fun x50 =>
 DoB (abin .eql x49 x50) fun x51 =>
 JoinB (rabbetlaw16_awake_k1 Φ n x10 Q) [x51] H43) (
 JoinB (rabbetlaw16_awake_k1 Φ n x10 Q) [(.bool false)] H43) (
 false)
def rabbetlaw16_awake_k3 (Φ : CallsB) (n : Nat) (x10 : AV) (x11 : AV) (x12 : AV) (Q : PostB) : List AV → TH → Bool := fun j38 H39 =>
 Gd3B (sl j38 0) true (
 DoB (alen false x11) fun x44 =>
 DoB (alen false x10) fun x45 =>
 DoB (abin .eql x44 x45) fun x46 =>
 JoinB (rabbetlaw16_awake_k2 Φ n x10 x12 Q) [x46] H39) (
 JoinB (rabbetlaw16_awake_k2 Φ n x10 x12 Q) [(.bool false)] H39) (
 false)
def rabbetlaw16_awake_k4 (Φ : CallsB) (n : Nat) (x10 : AV) (x11 : AV) (x12 : AV) (Q : PostB) : List AV → TH → Bool := fun j35 H36 =>
 Gd3B (sl j35 0) true (
 DoB (alen false x10) fun x40 =>
 DoB (abin .gtr x40 (.int .i64 1)) fun x41 =>
 JoinB (rabbetlaw16_awake_k3 Φ n x10 x11 x12 Q) [x41] H36) (
 JoinB (rabbetlaw16_awake_k3 Φ n x10 x11 x12 Q) [(.bool false)] H36) (
 false)
def rabbetlaw16_awake_k5 (Φ : CallsB) (n : Nat) (x10 : AV) (x11 : AV) (x12 : AV) (x22 : AV) (Q : PostB) : List AV → TH → Bool := fun j32 H33 =>
 Gd3B (sl j32 0) true (
 DoB (abin .eql x22 (.int .i64 1)) fun x37 =>
 JoinB (rabbetlaw16_awake_k4 Φ n x10 x11 x12 Q) [x37] H33) (
 JoinB (rabbetlaw16_awake_k4 Φ n x10 x11 x12 Q) [(.bool false)] H33) (
 false)
def rabbetlaw16_awake_k6 (Φ : CallsB) (n : Nat) (x10 : AV) (x11 : AV) (x12 : AV) (x13 : AV) (x22 : AV) (Q : PostB) : List AV → TH → Bool := fun j23 H24 =>
 Gd3B (sl j23 0) true (
 DoB (abin .eql x13 (.int .i64 0)) fun x34 =>
 JoinB (rabbetlaw16_awake_k5 Φ n x10 x11 x12 x22 Q) [x34] H24) (
 JoinB (rabbetlaw16_awake_k5 Φ n x10 x11 x12 x22 Q) [(.bool false)] H24) (
 false)
def rabbetlaw16_awake (Φ : CallsB) (n : Nat) (H : TH) (Q : PostB) : Bool :=
Φ K.emit_Constant [(.int .i64 3), (.int .u64 327680)] H fun x1 H2 =>
 DoB (abuild [.int .i64 0, .int .i64 0, .int .i64 0, .int .i64 0, .int .i64 0, .int .i64 0, .int .u64 0, .int .i64 0, .int .i64 0, .int .i64 0, .int .i64 0, .int .i64 0, .int .i64 0] [(0, 1, (.int .i64 1)), (1, 1, (.int .i64 0)), (2, 1, (.int .i64 (-1))), (3, 1, (.int .i64 (-1))), (4, 1, (.int .i64 (-1))), (5, 1, (.int .i64 (-1))), (6, 1, (.int .u64 5)), (12, 1, (.int .i64 7))]) fun x3 =>
 DoHB (tbslice H2 false 13 1 [.int .i64 0, .int .i64 0, .int .i64 0, .int .i64 0, .int .i64 0, .int .i64 0, .int .u64 0, .int .i64 0, .int .i64 0, .int .i64 0, .int .i64 0, .int .i64 0, .int .i64 0] [(0, 13, x3)]) fun x4 H5 =>
 DoHB (tbslice H5 false 1 1 [.int .i64 0] [(0, 1, (.int .i64 2))]) fun x6 H7 =>
Φ K.emit_Thread [x4, x6, (.int .u64 131072)] H7 fun x8 H9 =>
 DoB (aextract 0 x8) fun x10 =>
 DoB (aextract 1 x8) fun x11 =>
 DoB (aextract 2 x8) fun x12 =>
 DoB (aextract 3 x8) fun x13 =>
 DoB (abuild [.int .i64 0, .int .i64 0, .int .i64 0, .int .i64 0, .int .i64 0, .int .i64 0, .int .u64 0, .int .i64 0, .int .i64 0, .int .i64 0, .int .i64 0, .int .i64 0, .int .i64 0] [(0, 1, (.int .i64 15)), (1, 1, (.int .i64 (-1))), (2, 1, (.int .i64 (-1))), (3, 1, (.int .i64 (-1))), (4, 1, (.int .i64 (-1))), (5, 1, (.int .i64 (-1))), (10, 1, (.int .i64 1))]) fun x14 =>
 DoHB (tbslice H9 false 13 1 [.int .i64 0, .int .i64 0, .int .i64 0, .int .i64 0, .int .i64 0, .int .i64 0, .int .u64 0, .int .i64 0, .int .i64 0, .int .i64 0, .int .i64 0, .int .i64 0, .int .i64 0] [(0, 13, x14)]) fun x15 H16 =>
Φ K.emit_Thread [x15, (.lst .nil 0 []), (.int .u64 0)] H16 fun x17 H18 =>
 DoB (aextract 0 x17) fun x19 =>
 DoB (aextract 1 x17) fun x20 =>
 DoB (aextract 2 x17) fun x21 =>
 DoB (aextract 3 x17) fun x22 =>
 DoB (alen false x1) fun x25 =>
 DoB (abin .eql x25 (.int .i64 1)) fun x26 =>
 Gd3B x26 true (
 DoB (aiaddr none 7 x1 (.int .i64 0)) fun x27 =>
 DoB (aload H18.ah 7 true x27) fun x28 =>
 DoB (abuild [.int .i64 0, .int .i64 0, .int .i64 0, .int .i64 0, .int .i64 0, .int .i64 0, .int .i64 0] [(0, 1, (.int .i64 1)), (1, 1, (.int .i64 3)), (4, 1, (.int .i64 1)), (6, 1, (.int .i64 5))]) fun x30 =>
 DoB (aeqAgg false [.n, .n, .n, .n, .n, .n, .n] x28 x30) fun x31 =>
 JoinB (rabbetlaw16_awake_k6 Φ n x10 x11 x12 x13 x22 Q) [x31] H18) (
 JoinB (rabbetlaw16_awake_k6 Φ n x10 x11 x12 x13 x22 Q) [(.bool false)] H18) (
 false)
theorem eq_rabbetlaw16_awake (Φ : CallsB) (n : Nat) (H : TH) (Q : PostB) : fnB1 Φ n S.ir_rabbetlaw16_awake [] H Q = rabbetlaw16_awake Φ n H Q := by kernel_rfl

end Rb.R

/- The seat's functions: which they are; that each is as its text says; as runs. By seat.py. -/
set_option linter.unusedVariables false
namespace Go.Proofs.Ytcececgpjnpeoaa.rb
open Rb
noncomputable def fids : List (Nat × FuncId) := [(3, 3), (4, 4), (5, 5), (6, 6), (7, 7), (8, 8), (9, 9), (10, 10), (11, 11), (12, 12), (13, 13), (14, 14), (15, 15), (16, 16), (17, 17), (18, 18), (19, 19), (20, 20), (21, 21), (22, 22), (23, 23), (24, 24), (25, 25), (26, 26), (27, 27), (28, 28), (29, 29), (30, 30), (31, 31), (32, 32), (33, 33), (34, 34), (35, 35), (36, 36), (37, 37), (38, 38), (39, 39), (40, 40), (41, 41), (42, 42), (43, 43), (44, 44), (45, 45), (46, 46), (47, 47), (48, 48), (49, 49), (50, 50), (51, 51), (52, 52), (53, 53), (54, 54), (55, 55), (56, 56), (57, 57), (58, 58), (59, 59)]
noncomputable def gt (g : Nat) : Option (List AV) := none
theorem gtok : ∀ g l, gt g = some l → AV.frozs l = true := by
  intro g l h
  unfold gt at h
  cases h
noncomputable def C : Ctx := mkC Try.prog fids gt
theorem fok : FOK C := fok_of (by kernel_rfl)
theorem gtC : GTok C := gtok
theorem cl_a64 : Cl (ACall C) S.tab_a64 := Cl.of (ACall_mono C) (closed_of fok (by kernel_rfl))
theorem cl_bits : Cl (ACall C) S.tab_bits := Cl.of (ACall_mono C) (closed_of fok (by kernel_rfl))
theorem cl_emit : Cl (ACall C) S.tab_emit := Cl.of (ACall_mono C) (closed_of fok (by kernel_rfl))
theorem cl_flow : Cl (ACall C) S.tab_flow := Cl.of (ACall_mono C) (closed_of fok (by kernel_rfl))
theorem cl_rabbetlaw16 : Cl (ACall C) S.tab_rabbetlaw16 := Cl.of (ACall_mono C) (closed_of fok (by kernel_rfl))
noncomputable def disp (n : Nat) (Φ : CallsB) : CallsB := fun k a T Q =>
  cond (Nat.blt k 31) (cond (Nat.blt k 17) (cond (Nat.blt k 10) (cond (Nat.blt k 6) (cond (Nat.blt k 4) (cond (Nat.beq k 3) (ap2 (R.rabbetlaw16_EmitConstants Φ n) a T Q) false) (cond (Nat.blt k 5) (cond (Nat.beq k 4) (ap2 (R.emit_Constant Φ n) a T Q) false) (cond (Nat.beq k 5) (ap4 (R.flow_Next Φ n) a T Q) false))) (cond (Nat.blt k 8) (cond (Nat.blt k 7) (cond (Nat.beq k 6) (ap0 (R.rabbetlaw16_awake Φ n) a T Q) false) (cond (Nat.beq k 7) (ap1 (R.flow_sound Φ n) a T Q) false)) (cond (Nat.blt k 9) (cond (Nat.beq k 8) (ap2 (R.flow_taken Φ n) a T Q) false) (cond (Nat.beq k 9) (ap2 (R.flow_number Φ n) a T Q) false)))) (cond (Nat.blt k 13) (cond (Nat.blt k 11) (cond (Nat.beq k 10) (ap1 (R.flow_memory Φ n) a T Q) false) (cond (Nat.blt k 12) (cond (Nat.beq k 11) (ap4 (R.flow_access Φ n) a T Q) false) (cond (Nat.beq k 12) (ap2 (R.flow_get Φ n) a T Q) false))) (cond (Nat.blt k 15) (cond (Nat.blt k 14) (cond (Nat.beq k 13) (ap3 (R.flow_put Φ n) a T Q) false) (cond (Nat.beq k 14) (ap3 (R.emit_Thread Φ n) a T Q) false)) (cond (Nat.blt k 16) (cond (Nat.beq k 15) (ap1 (R.a64_Encode Φ n) a T Q) false) (cond (Nat.beq k 16) (ap2 (R.flow_holds Φ n) a T Q) false))))) (cond (Nat.blt k 24) (cond (Nat.blt k 20) (cond (Nat.blt k 18) (cond (Nat.beq k 17) (ap4 (R.bits_Put Φ n) a T Q) false) (cond (Nat.blt k 19) (cond (Nat.beq k 18) (ap3 (R.flow_between Φ n) a T Q) false) (cond (Nat.beq k 19) (ap2 (R.flow_where Φ n) a T Q) false))) (cond (Nat.blt k 22) (cond (Nat.blt k 21) (cond (Nat.beq k 20) (ap1 (R.flow_writes Φ n) a T Q) false) (cond (Nat.beq k 21) (ap1 (R.flow_exclusive Φ n) a T Q) false)) (cond (Nat.blt k 23) (cond (Nat.beq k 22) (ap1 (R.flow_pair Φ n) a T Q) false) (cond (Nat.beq k 23) (ap1 (R.bits_Mask Φ n) a T Q) false)))) (cond (Nat.blt k 27) (cond (Nat.blt k 25) (cond (Nat.beq k 24) (ap3 (R.emit_maker_constant Φ n) a T Q) false) (cond (Nat.blt k 26) (cond (Nat.beq k 25) (ap2 (R.emit_maker_step Φ n) a T Q) false) (cond (Nat.beq k 26) (ap2 (R.emit_maker_add Φ n) a T Q) false))) (cond (Nat.blt k 29) (cond (Nat.blt k 28) (cond (Nat.beq k 27) (ap1 (R.a64_of Φ n) a T Q) false) (cond (Nat.beq k 28) (ap1 (R.a64_place Φ n) a T Q) false)) (cond (Nat.blt k 30) (cond (Nat.beq k 29) (ap2 (R.a64_at Φ n) a T Q) false) (cond (Nat.beq k 30) (ap2 (R.a64_field_fits Φ n) a T Q) false)))))) (cond (Nat.blt k 45) (cond (Nat.blt k 38) (cond (Nat.blt k 34) (cond (Nat.blt k 32) (cond (Nat.beq k 31) (ap1 (R.a64_field_mask Φ n) a T Q) false) (cond (Nat.blt k 33) (cond (Nat.beq k 32) (ap3 (R.a64_field_put Φ n) a T Q) false) (cond (Nat.beq k 33) (ap1 (R.bits_in Φ n) a T Q) false))) (cond (Nat.blt k 36) (cond (Nat.blt k 35) (cond (Nat.beq k 34) (ap3 (R.emit_maker_target Φ n) a T Q) false) (cond (Nat.beq k 35) (ap3 (R.emit_maker_keep Φ n) a T Q) false)) (cond (Nat.blt k 37) (cond (Nat.beq k 36) (ap3 (R.emit_maker_finish Φ n) a T Q) false) (cond (Nat.beq k 37) (ap3 (R.emit_maker_source Φ n) a T Q) false)))) (cond (Nat.blt k 41) (cond (Nat.blt k 39) (cond (Nat.beq k 38) (ap2 (R.emit_maker_bin Φ n) a T Q) false) (cond (Nat.blt k 40) (cond (Nat.beq k 39) (ap2 (R.emit_maker_load Φ n) a T Q) false) (cond (Nat.beq k 40) (ap2 (R.emit_maker_store Φ n) a T Q) false))) (cond (Nat.blt k 43) (cond (Nat.blt k 42) (cond (Nat.beq k 41) (ap2 (R.emit_maker_change Φ n) a T Q) false) (cond (Nat.beq k 42) (ap2 (R.emit_maker_compare Φ n) a T Q) false)) (cond (Nat.blt k 44) (cond (Nat.beq k 43) (ap2 (R.emit_maker_two Φ n) a T Q) false) (cond (Nat.beq k 44) (ap3 (R.emit_maker_at Φ n) a T Q) false))))) (cond (Nat.blt k 52) (cond (Nat.blt k 48) (cond (Nat.blt k 46) (cond (Nat.beq k 45) (ap2 (R.emit_maker_jump Φ n) a T Q) false) (cond (Nat.blt k 47) (cond (Nat.beq k 46) (ap2 (R.emit_maker_bound Φ n) a T Q) false) (cond (Nat.beq k 47) (ap1 (R.a64_jump Φ n) a T Q) false))) (cond (Nat.blt k 50) (cond (Nat.blt k 49) (cond (Nat.beq k 48) (ap0 (R.a64_barrier Φ n) a T Q) false) (cond (Nat.beq k 49) (ap2 (R.emit_maker_place Φ n) a T Q) false)) (cond (Nat.blt k 51) (cond (Nat.beq k 50) (ap3 (R.emit_maker_move Φ n) a T Q) false) (cond (Nat.beq k 51) (ap1 (R.emit_plain Φ n) a T Q) false)))) (cond (Nat.blt k 56) (cond (Nat.blt k 54) (cond (Nat.blt k 53) (cond (Nat.beq k 52) (ap1 (R.emit_condition Φ n) a T Q) false) (cond (Nat.beq k 53) (ap2 (R.emit_maker_address Φ n) a T Q) false)) (cond (Nat.blt k 55) (cond (Nat.beq k 54) (ap3 (R.emit_either Φ n) a T Q) false) (cond (Nat.beq k 55) (ap1 (R.emit_acquires Φ n) a T Q) false))) (cond (Nat.blt k 58) (cond (Nat.blt k 57) (cond (Nat.beq k 56) (ap1 (R.emit_size Φ n) a T Q) false) (cond (Nat.beq k 57) (ap1 (R.emit_releases Φ n) a T Q) false)) (cond (Nat.blt k 59) (cond (Nat.beq k 58) (ap2 (R.emit_maker_back Φ n) a T Q) false) (cond (Nat.beq k 59) (ap1 (R.a64_memory Φ n) a T Q) false))))))
theorem dispOK (n : Nat) : DispOK (ACall C) (disp n) := fun B hB =>
  (.node 31 (.node 17 (.node 10 (.node 6 (.node 4 (.leaf cl_rabbetlaw16 hB (n := n) (m := 2) (ir := S.ir_rabbetlaw16_EmitConstants) (by kernel_rfl) (by kernel_rfl) (leaf2 fun a0 a1 T Q => R.eq_rabbetlaw16_EmitConstants B n a0 a1 T Q)) (.node 5 (.leaf cl_emit hB (n := n) (m := 2) (ir := S.ir_emit_Constant) (by kernel_rfl) (by kernel_rfl) (leaf2 fun a0 a1 T Q => R.eq_emit_Constant B n a0 a1 T Q)) (.leaf cl_flow hB (n := n) (m := 4) (ir := S.ir_flow_Next) (by kernel_rfl) (by kernel_rfl) (leaf4 fun a0 a1 a2 a3 T Q => R.eq_flow_Next B n a0 a1 a2 a3 T Q)))) (.node 8 (.node 7 (.leaf cl_rabbetlaw16 hB (n := n) (m := 0) (ir := S.ir_rabbetlaw16_awake) (by kernel_rfl) (by kernel_rfl) (leaf0 fun T Q => R.eq_rabbetlaw16_awake B n T Q)) (.leaf cl_flow hB (n := n) (m := 1) (ir := S.ir_flow_sound) (by kernel_rfl) (by kernel_rfl) (leaf1 fun a0 T Q => R.eq_flow_sound B n a0 T Q))) (.node 9 (.leaf cl_flow hB (n := n) (m := 2) (ir := S.ir_flow_taken) (by kernel_rfl) (by kernel_rfl) (leaf2 fun a0 a1 T Q => R.eq_flow_taken B n a0 a1 T Q)) (.leaf cl_flow hB (n := n) (m := 2) (ir := S.ir_flow_number) (by kernel_rfl) (by kernel_rfl) (leaf2 fun a0 a1 T Q => R.eq_flow_number B n a0 a1 T Q))))) (.node 13 (.node 11 (.leaf cl_flow hB (n := n) (m := 1) (ir := S.ir_flow_memory) (by kernel_rfl) (by kernel_rfl) (leaf1 fun a0 T Q => R.eq_flow_memory B n a0 T Q)) (.node 12 (.leaf cl_flow hB (n := n) (m := 4) (ir := S.ir_flow_access) (by kernel_rfl) (by kernel_rfl) (leaf4 fun a0 a1 a2 a3 T Q => R.eq_flow_access B n a0 a1 a2 a3 T Q)) (.leaf cl_flow hB (n := n) (m := 2) (ir := S.ir_flow_get) (by kernel_rfl) (by kernel_rfl) (leaf2 fun a0 a1 T Q => R.eq_flow_get B n a0 a1 T Q)))) (.node 15 (.node 14 (.leaf cl_flow hB (n := n) (m := 3) (ir := S.ir_flow_put) (by kernel_rfl) (by kernel_rfl) (leaf3 fun a0 a1 a2 T Q => R.eq_flow_put B n a0 a1 a2 T Q)) (.leaf cl_emit hB (n := n) (m := 3) (ir := S.ir_emit_Thread) (by kernel_rfl) (by kernel_rfl) (leaf3 fun a0 a1 a2 T Q => R.eq_emit_Thread B n a0 a1 a2 T Q))) (.node 16 (.leaf cl_a64 hB (n := n) (m := 1) (ir := S.ir_a64_Encode) (by kernel_rfl) (by kernel_rfl) (leaf1 fun a0 T Q => R.eq_a64_Encode B n a0 T Q)) (.leaf cl_flow hB (n := n) (m := 2) (ir := S.ir_flow_holds) (by kernel_rfl) (by kernel_rfl) (leaf2 fun a0 a1 T Q => R.eq_flow_holds B n a0 a1 T Q)))))) (.node 24 (.node 20 (.node 18 (.leaf cl_bits hB (n := n) (m := 4) (ir := S.ir_bits_Put) (by kernel_rfl) (by kernel_rfl) (leaf4 fun a0 a1 a2 a3 T Q => R.eq_bits_Put B n a0 a1 a2 a3 T Q)) (.node 19 (.leaf cl_flow hB (n := n) (m := 3) (ir := S.ir_flow_between) (by kernel_rfl) (by kernel_rfl) (leaf3 fun a0 a1 a2 T Q => R.eq_flow_between B n a0 a1 a2 T Q)) (.leaf cl_flow hB (n := n) (m := 2) (ir := S.ir_flow_where) (by kernel_rfl) (by kernel_rfl) (leaf2 fun a0 a1 T Q => R.eq_flow_where B n a0 a1 T Q)))) (.node 22 (.node 21 (.leaf cl_flow hB (n := n) (m := 1) (ir := S.ir_flow_writes) (by kernel_rfl) (by kernel_rfl) (leaf1 fun a0 T Q => R.eq_flow_writes B n a0 T Q)) (.leaf cl_flow hB (n := n) (m := 1) (ir := S.ir_flow_exclusive) (by kernel_rfl) (by kernel_rfl) (leaf1 fun a0 T Q => R.eq_flow_exclusive B n a0 T Q))) (.node 23 (.leaf cl_flow hB (n := n) (m := 1) (ir := S.ir_flow_pair) (by kernel_rfl) (by kernel_rfl) (leaf1 fun a0 T Q => R.eq_flow_pair B n a0 T Q)) (.leaf cl_bits hB (n := n) (m := 1) (ir := S.ir_bits_Mask) (by kernel_rfl) (by kernel_rfl) (leaf1 fun a0 T Q => R.eq_bits_Mask B n a0 T Q))))) (.node 27 (.node 25 (.leaf cl_emit hB (n := n) (m := 3) (ir := S.ir_emit_maker_constant) (by kernel_rfl) (by kernel_rfl) (leaf3 fun a0 a1 a2 T Q => R.eq_emit_maker_constant B n a0 a1 a2 T Q)) (.node 26 (.leaf cl_emit hB (n := n) (m := 2) (ir := S.ir_emit_maker_step) (by kernel_rfl) (by kernel_rfl) (leaf2 fun a0 a1 T Q => R.eq_emit_maker_step B n a0 a1 T Q)) (.leaf cl_emit hB (n := n) (m := 2) (ir := S.ir_emit_maker_add) (by kernel_rfl) (by kernel_rfl) (leaf2 fun a0 a1 T Q => R.eq_emit_maker_add B n a0 a1 T Q)))) (.node 29 (.node 28 (.leaf cl_a64 hB (n := n) (m := 1) (ir := S.ir_a64_of) (by kernel_rfl) (by kernel_rfl) (leaf1 fun a0 T Q => R.eq_a64_of B n a0 T Q)) (.leaf cl_a64 hB (n := n) (m := 1) (ir := S.ir_a64_place) (by kernel_rfl) (by kernel_rfl) (leaf1 fun a0 T Q => R.eq_a64_place B n a0 T Q))) (.node 30 (.leaf cl_a64 hB (n := n) (m := 2) (ir := S.ir_a64_at) (by kernel_rfl) (by kernel_rfl) (leaf2 fun a0 a1 T Q => R.eq_a64_at B n a0 a1 T Q)) (.leaf cl_a64 hB (n := n) (m := 2) (ir := S.ir_a64_field_fits) (by kernel_rfl) (by kernel_rfl) (leaf2 fun a0 a1 T Q => R.eq_a64_field_fits B n a0 a1 T Q))))))) (.node 45 (.node 38 (.node 34 (.node 32 (.leaf cl_a64 hB (n := n) (m := 1) (ir := S.ir_a64_field_mask) (by kernel_rfl) (by kernel_rfl) (leaf1 fun a0 T Q => R.eq_a64_field_mask B n a0 T Q)) (.node 33 (.leaf cl_a64 hB (n := n) (m := 3) (ir := S.ir_a64_field_put) (by kernel_rfl) (by kernel_rfl) (leaf3 fun a0 a1 a2 T Q => R.eq_a64_field_put B n a0 a1 a2 T Q)) (.leaf cl_bits hB (n := n) (m := 1) (ir := S.ir_bits_in) (by kernel_rfl) (by kernel_rfl) (leaf1 fun a0 T Q => R.eq_bits_in B n a0 T Q)))) (.node 36 (.node 35 (.leaf cl_emit hB (n := n) (m := 3) (ir := S.ir_emit_maker_target) (by kernel_rfl) (by kernel_rfl) (leaf3 fun a0 a1 a2 T Q => R.eq_emit_maker_target B n a0 a1 a2 T Q)) (.leaf cl_emit hB (n := n) (m := 3) (ir := S.ir_emit_maker_keep) (by kernel_rfl) (by kernel_rfl) (leaf3 fun a0 a1 a2 T Q => R.eq_emit_maker_keep B n a0 a1 a2 T Q))) (.node 37 (.leaf cl_emit hB (n := n) (m := 3) (ir := S.ir_emit_maker_finish) (by kernel_rfl) (by kernel_rfl) (leaf3 fun a0 a1 a2 T Q => R.eq_emit_maker_finish B n a0 a1 a2 T Q)) (.leaf cl_emit hB (n := n) (m := 3) (ir := S.ir_emit_maker_source) (by kernel_rfl) (by kernel_rfl) (leaf3 fun a0 a1 a2 T Q => R.eq_emit_maker_source B n a0 a1 a2 T Q))))) (.node 41 (.node 39 (.leaf cl_emit hB (n := n) (m := 2) (ir := S.ir_emit_maker_bin) (by kernel_rfl) (by kernel_rfl) (leaf2 fun a0 a1 T Q => R.eq_emit_maker_bin B n a0 a1 T Q)) (.node 40 (.leaf cl_emit hB (n := n) (m := 2) (ir := S.ir_emit_maker_load) (by kernel_rfl) (by kernel_rfl) (leaf2 fun a0 a1 T Q => R.eq_emit_maker_load B n a0 a1 T Q)) (.leaf cl_emit hB (n := n) (m := 2) (ir := S.ir_emit_maker_store) (by kernel_rfl) (by kernel_rfl) (leaf2 fun a0 a1 T Q => R.eq_emit_maker_store B n a0 a1 T Q)))) (.node 43 (.node 42 (.leaf cl_emit hB (n := n) (m := 2) (ir := S.ir_emit_maker_change) (by kernel_rfl) (by kernel_rfl) (leaf2 fun a0 a1 T Q => R.eq_emit_maker_change B n a0 a1 T Q)) (.leaf cl_emit hB (n := n) (m := 2) (ir := S.ir_emit_maker_compare) (by kernel_rfl) (by kernel_rfl) (leaf2 fun a0 a1 T Q => R.eq_emit_maker_compare B n a0 a1 T Q))) (.node 44 (.leaf cl_emit hB (n := n) (m := 2) (ir := S.ir_emit_maker_two) (by kernel_rfl) (by kernel_rfl) (leaf2 fun a0 a1 T Q => R.eq_emit_maker_two B n a0 a1 T Q)) (.leaf cl_emit hB (n := n) (m := 3) (ir := S.ir_emit_maker_at) (by kernel_rfl) (by kernel_rfl) (leaf3 fun a0 a1 a2 T Q => R.eq_emit_maker_at B n a0 a1 a2 T Q)))))) (.node 52 (.node 48 (.node 46 (.leaf cl_emit hB (n := n) (m := 2) (ir := S.ir_emit_maker_jump) (by kernel_rfl) (by kernel_rfl) (leaf2 fun a0 a1 T Q => R.eq_emit_maker_jump B n a0 a1 T Q)) (.node 47 (.leaf cl_emit hB (n := n) (m := 2) (ir := S.ir_emit_maker_bound) (by kernel_rfl) (by kernel_rfl) (leaf2 fun a0 a1 T Q => R.eq_emit_maker_bound B n a0 a1 T Q)) (.leaf cl_a64 hB (n := n) (m := 1) (ir := S.ir_a64_jump) (by kernel_rfl) (by kernel_rfl) (leaf1 fun a0 T Q => R.eq_a64_jump B n a0 T Q)))) (.node 50 (.node 49 (.leaf cl_a64 hB (n := n) (m := 0) (ir := S.ir_a64_barrier) (by kernel_rfl) (by kernel_rfl) (leaf0 fun T Q => R.eq_a64_barrier B n T Q)) (.leaf cl_emit hB (n := n) (m := 2) (ir := S.ir_emit_maker_place) (by kernel_rfl) (by kernel_rfl) (leaf2 fun a0 a1 T Q => R.eq_emit_maker_place B n a0 a1 T Q))) (.node 51 (.leaf cl_emit hB (n := n) (m := 3) (ir := S.ir_emit_maker_move) (by kernel_rfl) (by kernel_rfl) (leaf3 fun a0 a1 a2 T Q => R.eq_emit_maker_move B n a0 a1 a2 T Q)) (.leaf cl_emit hB (n := n) (m := 1) (ir := S.ir_emit_plain) (by kernel_rfl) (by kernel_rfl) (leaf1 fun a0 T Q => R.eq_emit_plain B n a0 T Q))))) (.node 56 (.node 54 (.node 53 (.leaf cl_emit hB (n := n) (m := 1) (ir := S.ir_emit_condition) (by kernel_rfl) (by kernel_rfl) (leaf1 fun a0 T Q => R.eq_emit_condition B n a0 T Q)) (.leaf cl_emit hB (n := n) (m := 2) (ir := S.ir_emit_maker_address) (by kernel_rfl) (by kernel_rfl) (leaf2 fun a0 a1 T Q => R.eq_emit_maker_address B n a0 a1 T Q))) (.node 55 (.leaf cl_emit hB (n := n) (m := 3) (ir := S.ir_emit_either) (by kernel_rfl) (by kernel_rfl) (leaf3 fun a0 a1 a2 T Q => R.eq_emit_either B n a0 a1 a2 T Q)) (.leaf cl_emit hB (n := n) (m := 1) (ir := S.ir_emit_acquires) (by kernel_rfl) (by kernel_rfl) (leaf1 fun a0 T Q => R.eq_emit_acquires B n a0 T Q)))) (.node 58 (.node 57 (.leaf cl_emit hB (n := n) (m := 1) (ir := S.ir_emit_size) (by kernel_rfl) (by kernel_rfl) (leaf1 fun a0 T Q => R.eq_emit_size B n a0 T Q)) (.leaf cl_emit hB (n := n) (m := 1) (ir := S.ir_emit_releases) (by kernel_rfl) (by kernel_rfl) (leaf1 fun a0 T Q => R.eq_emit_releases B n a0 T Q))) (.node 59 (.leaf cl_emit hB (n := n) (m := 2) (ir := S.ir_emit_maker_back) (by kernel_rfl) (by kernel_rfl) (leaf2 fun a0 a1 T Q => R.eq_emit_maker_back B n a0 a1 T Q)) (.leaf cl_a64 hB (n := n) (m := 1) (ir := S.ir_a64_memory) (by kernel_rfl) (by kernel_rfl) (leaf1 fun a0 T Q => R.eq_a64_memory B n a0 T Q))))))))
end Go.Proofs.Ytcececgpjnpeoaa.rb

/- Laws for reading what a function means, by simp. -/
set_option linter.unusedVariables false
namespace Rb
open Go

@[simp] theorem Do_of {α : Type} (a : α) (K : α → Prop) : Do (some a) K ↔ K a := ⟨fun ⟨b, h, k⟩ => by cases h; exact k, fun h => ⟨a, rfl, h⟩⟩
@[simp] theorem DoH_some (v : AV) (H : AH) (K : Post) : DoH (some (v, H)) K ↔ K v H := ⟨fun ⟨a, b, h, k⟩ => by cases h; exact k, fun h => ⟨v, H, rfl, h⟩⟩
@[simp] theorem Gd_true (b : Bool) (A B : Prop) : Gd (.bool b) true A B ↔ if b = true then A else B := Iff.rfl
@[simp] theorem Gd_false (b : Bool) (A B : Prop) : Gd (.bool b) false A B ↔ if b = false then A else B := Iff.rfl
@[simp] theorem JoinP_def (K : List AV → AH → Prop) (st : List AV) (H : AH) : JoinP K st H ↔ K st H := Iff.rfl
@[simp] theorem sl_zero (a : AV) (l : List AV) : sl (a :: l) 0 = a := rfl
@[simp] theorem sl_succ (a : AV) (l : List AV) (i : Nat) : sl (a :: l) (i + 1) = sl l i := rfl

section
variable (k : IntKind) (a b : Int)
@[simp] theorem abin_add : abin .add (.int k a) (.int k b) = some (.int k (k.wrap (a + b))) := by simp [abin, abinInt]
@[simp] theorem abin_sub : abin .sub (.int k a) (.int k b) = some (.int k (k.wrap (a - b))) := by simp [abin, abinInt]
@[simp] theorem abin_mul : abin .mul (.int k a) (.int k b) = some (.int k (k.wrap (a * b))) := by simp [abin, abinInt]
@[simp] theorem abin_eql : abin .eql (.int k a) (.int k b) = some (.bool (a == b)) := by simp [abin, abinInt]
@[simp] theorem abin_neq : abin .neq (.int k a) (.int k b) = some (.bool (a != b)) := by simp [abin, abinInt]
@[simp] theorem abin_lss : abin .lss (.int k a) (.int k b) = some (.bool (decide (a < b))) := by simp [abin, abinInt]
@[simp] theorem abin_leq : abin .leq (.int k a) (.int k b) = some (.bool (decide (a ≤ b))) := by simp [abin, abinInt]
@[simp] theorem abin_gtr : abin .gtr (.int k a) (.int k b) = some (.bool (decide (a > b))) := by simp [abin, abinInt]
@[simp] theorem abin_geq : abin .geq (.int k a) (.int k b) = some (.bool (decide (a ≥ b))) := by simp [abin, abinInt]
theorem abin_rem (h : b ≠ 0) : abin .rem (.int k a) (.int k b) = some (.int k (a.tmod b)) := by simp [abin, abinInt, h]
theorem abin_quo (h : b ≠ 0) : abin .quo (.int k a) (.int k b) = some (.int k (k.wrap (a.tdiv b))) := by simp [abin, abinInt, h]
@[simp] theorem abin_and : abin .and (.int k a) (.int k b) = some (.int k (k.wrap (BitVec.ofInt k.bits a &&& BitVec.ofInt k.bits b).toNat)) := by simp [abin, abinInt, bitsOp]
@[simp] theorem abin_or : abin .or (.int k a) (.int k b) = some (.int k (k.wrap (BitVec.ofInt k.bits a ||| BitVec.ofInt k.bits b).toNat)) := by simp [abin, abinInt, bitsOp]
@[simp] theorem abin_xor : abin .xor (.int k a) (.int k b) = some (.int k (k.wrap (BitVec.ofInt k.bits a ^^^ BitVec.ofInt k.bits b).toNat)) := by simp [abin, abinInt, bitsOp]
theorem abin_shr (k' : IntKind) (h : 0 ≤ b) : abin .shr (.int k a) (.int k' b) = some (.int k (a.fdiv (2 ^ (min b.toNat k.bits)))) := by simp [abin, abinInt, Int.not_lt.2 h]
theorem abin_shl (k' : IntKind) (h : 0 ≤ b) : abin .shl (.int k a) (.int k' b) = some (.int k (k.wrap (a * 2 ^ (min b.toNat k.bits)))) := by simp [abin, abinInt, Int.not_lt.2 h]
@[simp] theorem aconv_int (k' : IntKind) : aconv k' (.int k a) = some (.int k' (k'.wrap a)) := rfl
@[simp] theorem abeq_def (neg : Bool) (x y : Bool) : abeq neg (.bool x) (.bool y) = some (.bool (if neg then !(x == y) else x == y)) := rfl
@[simp] theorem aun_not (x : Bool) : aun .not (.bool x) = some (.bool !x) := rfl
end
@[simp] theorem alen_lst (tk : Tok) (n : Nat) (cs : List AV) : alen false (.lst tk n cs) = some (.int .i64 n) := rfl
@[simp] theorem alen_row (id o n sz : Nat) : alen false (.row id o n sz) = some (.int .i64 n) := rfl
@[simp] theorem alen_str (s : List UInt8) : alen true (.str s) = some (.int .i64 s.length) := rfl

end Rb

/- Memory that only grew; numbers. -/
set_option linter.unusedVariables false
namespace Rb
open Go

/-- What was there is as it was. -/
def AH.Ext (H H' : AH) : Prop := H.n ≤ H'.n ∧ ∀ i, i < H.n → H'.o i = H.o i
theorem AH.Ext.refl (H : AH) : AH.Ext H H := ⟨Nat.le_refl _, fun _ _ => rfl⟩
theorem AH.Ext.trans {a b c : AH} (h : AH.Ext a b) (k : AH.Ext b c) : AH.Ext a c := ⟨Nat.le_trans h.1 k.1, fun i hi => (k.2 i (Nat.lt_of_lt_of_le hi h.1)).trans (h.2 i hi)⟩
theorem AH.Ext.push (H : AH) (x : AObj) : AH.Ext H (H.push x) := ⟨Nat.le_succ _, fun i hi => if_neg (Nat.ne_of_lt hi)⟩
theorem AH.Ext.set {H H' : AH} (h : AH.Ext H H') {i : Nat} (hi : H.n ≤ i) (x : AObj) : AH.Ext H (H'.set i x) := ⟨h.1, fun j hj => by
  simp only [AH.set]; rw [if_neg (by omega)]; exact h.2 j hj⟩
@[simp] theorem AH.push_n (H : AH) (x : AObj) : (H.push x).n = H.n + 1 := rfl
@[simp] theorem AH.set_n (H : AH) (i : Nat) (x : AObj) : (H.set i x).n = H.n := rfl
theorem AH.push_self (H : AH) (x : AObj) : (H.push x).o H.n = x := if_pos rfl
theorem AH.push_ne (H : AH) (x : AObj) {i : Nat} (h : i ≠ H.n) : (H.push x).o i = H.o i := if_neg h
theorem AH.set_self (H : AH) (i : Nat) (x : AObj) : (H.set i x).o i = x := if_pos rfl
theorem AH.set_ne (H : AH) {i j : Nat} (x : AObj) (h : j ≠ i) : (H.set i x).o j = H.o j := if_neg h

theorem wrap_i64 {n : Int} (h1 : -9223372036854775808 ≤ n) (h2 : n ≤ 9223372036854775807) : IntKind.wrap .i64 n = n := by
  simp [IntKind.wrap, IntKind.signed, IntKind.bits]; omega
theorem wrap_u64 {n : Int} (h1 : 0 ≤ n) (h2 : n < 18446744073709551616) : IntKind.wrap .u64 n = n := by
  simp [IntKind.wrap, IntKind.signed, IntKind.bits]; omega
theorem wrap_u8 {n : Int} (h1 : 0 ≤ n) (h2 : n < 256) : IntKind.wrap .u8 n = n := by
  simp [IntKind.wrap, IntKind.signed, IntKind.bits]; omega
theorem wrap_u32 {n : Int} (h1 : 0 ≤ n) (h2 : n < 4294967296) : IntKind.wrap .u32 n = n := by
  simp [IntKind.wrap, IntKind.signed, IntKind.bits]; omega

/-- A list that grows at its end, and that nobody else holds. -/
def Lst (H0 H : AH) (sz : Nat) (x : AV) (len : Nat) (cells : List AV) : Prop :=
  AH.Ext H0 H ∧ ∃ tk, x = .lst tk len cells ∧ cells.length = len * sz ∧ ((tk = .nil ∧ len = 0) ∨ ∃ t, tk = .own t ∧ H0.n ≤ t ∧ t < H.n ∧ H.o t = .tok (len * sz) sz)

theorem Lst.nil (H : AH) (sz : Nat) : Lst H H sz (.lst .nil 0 []) 0 [] := ⟨AH.Ext.refl H, .nil, rfl, by simp, .inl ⟨rfl, rfl⟩⟩

theorem Lst.append {H0 H : AH} {sz bytes len m : Nat} {x y : AV} {cells news : List AV} {K : Post} (h : Lst H0 H sz x len cells) (hy : acells H sz y = some (m, news)) (hn : news.length = m * sz) (hs : news.all AV.scalar = true) (hm : m ≠ 0)
    (hb : (len + m) * bytes ≤ 140737488355328) (hl : len + m ≤ 9223372036854775807) (hK : ∀ x' H', Lst H0 H' sz x' (len + m) (cells ++ news) → K x' H') : DoH (aappend H false sz bytes x y) K := by
  obtain ⟨hx, tk, rfl, hc, htk⟩ := h
  have hlen : (cells ++ news).length = (len + m) * sz := by simp [hc, hn, Nat.add_mul]
  rcases htk with ⟨rfl, rfl⟩ | ⟨t, rfl, h1, h2, h3⟩
  · refine ⟨.lst (.own H.n) (0 + m) (cells ++ news), H.push (.tok ((0 + m) * sz) sz), ?_, hK _ _ ⟨hx.trans (AH.Ext.push _ _), _, rfl, hlen, .inr ⟨H.n, rfl, hx.1, Nat.lt_succ_self _, AH.push_self _ _⟩⟩⟩
    simp only [aappend, hy, hs, not_true_eq_false, if_false, if_neg hm]
    rw [if_neg (by simp only [Decidable.not_not]; exact ⟨hc, hb, hl⟩)]
  · refine ⟨.lst (.own H.n) (len + m) (cells ++ news), (H.set t .gone).push (.tok ((len + m) * sz) sz), ?_, hK _ _ ⟨(hx.set h1 _).trans (AH.Ext.push _ _), _, rfl, hlen, .inr ⟨H.n, rfl, hx.1, Nat.lt_succ_self _, AH.push_self _ _⟩⟩⟩
    simp only [aappend, hy, hs, not_true_eq_false, if_false, if_neg hm]
    rw [if_neg (by simp only [Decidable.not_not]; exact ⟨hc, hb, hl⟩)]
    simp [h3]

/-- What stands at a place. -/
def At (H : AH) (id : Nat) (x : AObj) : Prop := id < H.n ∧ H.o id = x
theorem At.new (H : AH) (x : AObj) : At (H.push x) H.n x := ⟨Nat.lt_succ_self _, AH.push_self H x⟩
theorem At.ext {H H' : AH} {id : Nat} {x : AObj} (h : At H id x) (hE : AH.Ext H H') : At H' id x := ⟨Nat.lt_of_lt_of_le h.1 hE.1, (hE.2 id h.1).trans h.2⟩
theorem At.push {H : AH} {id : Nat} {x : AObj} (h : At H id x) (y : AObj) : At (H.push y) id x := h.ext (AH.Ext.push H y)
theorem At.set_ne {H : AH} {id i : Nat} {x : AObj} (h : At H id x) (hne : id ≠ i) (y : AObj) : At (H.set i y) id x := ⟨h.1, (AH.set_ne H y hne).trans h.2⟩
theorem At.set {H : AH} {id : Nat} {x : AObj} (h : At H id x) (y : AObj) : At (H.set id y) id y := ⟨h.1, AH.set_self H id y⟩
theorem At.ne {H : AH} {id i : Nat} {x y : AObj} (h : At H id x) (k : At H i y) (hxy : x ≠ y) : id ≠ i := fun e => hxy (by rw [← h.2, ← k.2, e])
theorem At.lt_new {H : AH} {id : Nat} {x : AObj} (h : At H id x) : id ≠ H.n := Nat.ne_of_lt h.1

theorem At.load {H : AH} {id : Nat} {cs : List AV} (h : At H id (.row cs)) (n o : Nat) (agg : Bool) : aload H n agg (.ptr id o) = takeCells cs o n agg := by simp [aload, h.2]
theorem At.store {H : AH} {id : Nat} {cs : List AV} (h : At H id (.row cs)) (n o : Nat) (v : AV) : astore H n (.ptr id o) v = if v.known ∧ v.cells.length = n ∧ v.cells.all AV.scalar ∧ o + n ≤ cs.length then some (H.set id (.row (setCells cs o v.cells))) else none := by simp [astore, h.2]

end Rb

/- More laws for reading. -/
set_option linter.unusedVariables false
namespace Rb
open Go
@[simp] theorem Gd3_true (b : Bool) (A B C : Prop) : Gd3 (.bool b) true A B C ↔ if b = true then A else B := Iff.rfl
@[simp] theorem Gd3_false (b : Bool) (A B C : Prop) : Gd3 (.bool b) false A B C ↔ if b = false then A else B := Iff.rfl
@[simp] theorem Gd3_tup (want : Bool) (A B C : Prop) : Gd3 (.tup []) want A B C ↔ C := Iff.rfl
theorem ite_both {c : Prop} [Decidable c] {A B : Prop} (h1 : c → A) (h2 : ¬ c → B) : if c then A else B := by
  split
  · exact h1 ‹_›
  · exact h2 ‹_›
theorem drop_nil_le {α : Type} {xs : List α} {i : Nat} (h : xs.drop i = []) : xs.length ≤ i := by simpa using h
theorem drop_cons_lt {α : Type} {xs ys : List α} {i : Nat} {y : α} (h : xs.drop i = y :: ys) : i < xs.length ∧ xs[i]? = some y ∧ xs.drop (i + 1) = ys := by
  have hlt : i < xs.length := by
    rcases Nat.lt_or_ge i xs.length with h' | h'
    · exact h'
    · rw [List.drop_eq_nil_of_le h'] at h; cases h
  refine ⟨hlt, ?_, ?_⟩
  · have := congrArg (fun l => l[0]?) h
    simpa using this
  · have := congrArg List.tail h
    simpa using this
end Rb

/- Law 16: constants. -/
set_option linter.unusedVariables false
namespace Rb
open Go

def ins (op d q p : Nat) : List AV := [.int .i64 op, .int .i64 d, .int .i64 0, .int .i64 0, .int .i64 q, .int .i64 0, .int .i64 p]
def pt (n q : Nat) : Nat := n / 2 ^ (16 * q) % 65536
def cL (d n : Nat) : Nat → List (List AV)
  | 0 => []
  | q + 1 => if pt n q = 0 then cL d n q else cL d n q ++ [ins (if (cL d n q).length = 0 then 1 else 2) d q (pt n q)]
def cF (d n : Nat) : List (List AV) := if (cL d n 4).length = 0 then [ins 1 d 0 0] else cL d n 4

theorem cL_len (d n : Nat) : ∀ q, (cL d n q).length ≤ q
  | 0 => Nat.le_refl _
  | q + 1 => by
    have := cL_len d n q
    simp only [cL]
    split
    · omega
    · simp; omega

theorem and16 (x : Nat) (h : x < 18446744073709551616) : (BitVec.ofInt 64 (x : Int) &&& BitVec.ofInt 64 65535).toNat = x % 65536 := by
  rw [BitVec.toNat_and]
  have h1 : (BitVec.ofInt 64 (x : Int)).toNat = x := by simp [BitVec.toNat_ofInt]; omega
  have h2 : (BitVec.ofInt 64 65535).toNat = 2 ^ 16 - 1 := by decide
  rw [h1, h2, Nat.and_two_pow_sub_one_eq_mod]

theorem ins_scalar (op d q p : Nat) : (ins op d q p).all AV.scalar = true := rfl
theorem ins_len (op d q p : Nat) : (ins op d q p).length = 1 * 7 := rfl

theorem Constant_spec {Φ : Calls'} {d n : Nat} {H : AH} {Q : Post} (hn : n < 18446744073709551616) (hQ : ∀ x H', Lst H H' 7 x (cF d n).length (cF d n).flatten → Q x H') :
    S.emit_Constant Φ (.int .i64 d) (.int .u64 n) H Q := by
  unfold S.emit_Constant
  have main : ∀ (k q : Nat), k + q = 4 → ∀ x H1, Lst H H1 7 x (cL d n q).length (cL d n q).flatten → LoopP (S.emit_Constant_l3 Φ (.int .i64 d) (.int .u64 n) Q) ([x, .int .i64 q], H1) := by
    intro k
    induction k with
    | zero =>
      intro q hq x H1 hx
      obtain rfl : q = 4 := by omega
      refine LoopP.step ?_
      have hx' := hx
      obtain ⟨_, tk, rfl, _⟩ := hx'
      simp only [S.emit_Constant_l3, sl_zero, sl_succ, abin_lss, Do_of, Gd_true, JoinP_def]
      simp only [S.emit_Constant_k2, sl_zero, alen_lst, Do_of, abin_eql, Gd_true]
      rw [if_neg (by simp)]
      split
      · rename_i h0
        have h0' : (cL d n 4).length = 0 := by simpa using h0
        have hf : (cL d n 4) = [] := List.length_eq_zero_iff.1 h0'
        have hb : abuild [.int .i64 0, .int .i64 0, .int .i64 0, .int .i64 0, .int .i64 0, .int .i64 0, .int .i64 0] [(0, 1, (.int .i64 1)), (1, 1, (.int .i64 d))] = some (.agg (ins 1 d 0 0)) := rfl
        rw [hb]
        simp only [Do_of]
        have hs : ∀ H2 : AH, abslice H2 false 7 1 [.int .i64 0, .int .i64 0, .int .i64 0, .int .i64 0, .int .i64 0, .int .i64 0, .int .i64 0] [(0, 7, .agg (ins 1 d 0 0))] = some (.lst .full 1 (ins 1 d 0 0), H2) := fun _ => rfl
        rw [hs]
        simp only [DoH_some]
        refine hx.append (m := 1) (news := ins 1 d 0 0) rfl rfl rfl (by decide) (by omega) (by omega) fun x' H' hx' => hQ _ _ ?_
        rw [hf] at hx'
        simpa [cF, hf] using hx'
      · rename_i h0
        have h0' : ¬ (cL d n 4).length = 0 := by intro h; apply h0; simp [h]
        refine hQ _ _ ?_
        simpa [cF, h0'] using hx
    | succ k ih =>
      intro q hq x H1 hx
      refine LoopP.step ?_
      have hx' := hx
      obtain ⟨_, tk, rfl, _⟩ := hx'
      have hlen := cL_len d n q
      have hshr : abin .shr (.int .u64 n) (.int .i64 (16 * q : Nat)) = some (.int .u64 ((n / 2 ^ (16 * q) : Nat) : Int)) := by
        rw [abin_shr _ _ _ _ (by omega)]
        have h1 : min ((16 * q : Nat) : Int).toNat IntKind.u64.bits = 16 * q := by
          simp [IntKind.bits]; omega
        rw [h1]
        congr 2
        rw [show ((2 : Int) ^ (16 * q)) = ((2 ^ (16 * q) : Nat) : Int) by simp, Int.fdiv_eq_ediv_of_nonneg _ (Int.natCast_nonneg _)]
        simp
      have hand : abin .and (.int .u64 ((n / 2 ^ (16 * q) : Nat) : Int)) (.int .u64 65535) = some (.int .u64 (pt n q)) := by
        rw [abin_and]
        have hlt : n / 2 ^ (16 * q) < 18446744073709551616 := Nat.lt_of_le_of_lt (Nat.div_le_self _ _) hn
        have := and16 (n / 2 ^ (16 * q)) hlt
        show some (AV.int .u64 (IntKind.u64.wrap ((BitVec.ofInt 64 ((n / 2 ^ (16 * q) : Nat) : Int) &&& BitVec.ofInt 64 65535).toNat : Int))) = _
        rw [this, wrap_u64 (by omega) (by omega)]
        rfl
      have hpt : pt n q < 65536 := Nat.mod_lt _ (by decide)
      simp only [S.emit_Constant_l3, sl_zero, sl_succ, abin_lss, Do_of, Gd_true, JoinP_def]
      rw [if_pos (by simp; omega)]
      simp only [abin_mul, Do_of]
      rw [wrap_i64 (by omega) (by omega), show ((16 : Int) * (q : Int)) = ((16 * q : Nat) : Int) by simp, hshr]
      simp only [Do_of]
      rw [hand]
      simp only [Do_of, aconv_int]
      rw [wrap_i64 (by omega) (by omega)]
      simp only [abin_eql, Do_of, Gd_true, alen_lst]
      have fin : ∀ x' H', Lst H H' 7 x' (cL d n (q + 1)).length (cL d n (q + 1)).flatten → S.emit_Constant_k1 Φ ([.lst tk (cL d n q).length (cL d n q).flatten, .int .i64 q], H1) (LoopP (S.emit_Constant_l3 Φ (.int .i64 d) (.int .u64 n) Q)) Q [x'] H' := by
        intro x' H' hx2
        simp only [S.emit_Constant_k1, sl_zero, sl_succ, abin_add, Do_of]
        rw [wrap_i64 (by omega) (by omega), show ((q : Int) + 1) = ((q + 1 : Nat) : Int) by simp]
        exact ih (q + 1) (by omega) x' H' hx2
      split
      · rename_i h0
        have h0' : pt n q = 0 := by simpa using h0
        refine fin _ _ ?_
        simpa [cL, h0'] using hx
      · rename_i h0
        have h0' : ¬ pt n q = 0 := by simpa using h0
        have one : ∀ (op : Nat), (if (cL d n q).length = 0 then 1 else 2) = op →
            DoH (aappend H1 false 7 56 (.lst tk (cL d n q).length (cL d n q).flatten) (.lst .full 1 (ins op d q (pt n q)))) fun x H' => S.emit_Constant_k1 Φ ([.lst tk (cL d n q).length (cL d n q).flatten, .int .i64 q], H1) (LoopP (S.emit_Constant_l3 Φ (.int .i64 d) (.int .u64 n) Q)) Q [x] H' := by
          intro op hop
          refine hx.append (m := 1) (news := ins op d q (pt n q)) rfl rfl rfl (by decide) (by omega) (by omega) fun x' H' hx' => fin _ _ ?_
          simp only [cL, if_neg h0', hop]
          simpa using hx'
        have hs : ∀ (op : Nat) (H2 : AH), abslice H2 false 7 1 [.int .i64 0, .int .i64 0, .int .i64 0, .int .i64 0, .int .i64 0, .int .i64 0, .int .i64 0] [(0, 7, .agg (ins op d q (pt n q)))] = some (.lst .full 1 (ins op d q (pt n q)), H2) := fun _ _ => rfl
        split
        · rename_i h1
          have h1' : (cL d n q).length = 0 := by simpa using h1
          have hb : abuild [.int .i64 0, .int .i64 0, .int .i64 0, .int .i64 0, .int .i64 0, .int .i64 0, .int .i64 0] [(0, 1, (.int .i64 1)), (1, 1, (.int .i64 d)), (4, 1, .int .i64 q), (6, 1, .int .i64 (pt n q))] = some (.agg (ins 1 d q (pt n q))) := rfl
          rw [hb]
          simp only [Do_of]
          rw [hs]
          simp only [DoH_some]
          exact one 1 (if_pos h1')
        · rename_i h1
          have h1' : ¬ (cL d n q).length = 0 := by intro h; apply h1; simp [h]
          have hb : abuild [.int .i64 0, .int .i64 0, .int .i64 0, .int .i64 0, .int .i64 0, .int .i64 0, .int .i64 0] [(0, 1, (.int .i64 2)), (1, 1, (.int .i64 d)), (4, 1, .int .i64 q), (6, 1, .int .i64 (pt n q))] = some (.agg (ins 2 d q (pt n q))) := rfl
          rw [hb]
          simp only [Do_of]
          rw [hs]
          simp only [DoH_some]
          exact one 2 (if_neg h1')
  exact main 4 0 rfl _ _ (Lst.nil H 7)
end Rb

/- Law 16: what stands under a constant's instructions. -/
set_option linter.unusedVariables false
set_option linter.unusedSimpArgs false
namespace Rb
open Go

@[simp] theorem aboxv_agg (H : AH) (n : Nat) (cs : List AV) (h : cs.length = n) : aboxv H false n (.agg cs) = some (.fptr cs, H) := by simp [aboxv, AV.known, AV.cells, h, abox]
@[simp] theorem aload_fptr (H : AH) (n : Nat) (agg : Bool) (cs : List AV) : aload H n agg (.fptr cs) = takeCells cs 0 n agg := rfl
@[simp] theorem afaddr_fptr (o : Nat) (cs : List AV) : afaddr o (.fptr cs) = some (.fptr (cs.drop o)) := rfl
@[simp] theorem afaddr_ptr (k id o : Nat) : afaddr k (.ptr id o) = some (.ptr id (o + k)) := rfl
@[simp] theorem anilck_ptr (id o : Nat) : anilck (.ptr id o) = some (.ptr id o) := rfl
@[simp] theorem anilck_fptr (cs : List AV) : anilck (.fptr cs) = some (.fptr cs) := rfl
@[simp] theorem takeCells_agg (a : AV) (cs : List AV) (n : Nat) (h : n ≤ (a :: cs).length) : takeCells (a :: cs) 0 n true = some (.agg ((a :: cs).take n)) := by simp only [takeCells]; rw [if_pos (by omega)]; simp
@[simp] theorem takeCells_one (a : AV) (cs : List AV) : takeCells (a :: cs) 0 1 false = some a := by simp [takeCells]
@[simp] theorem aextract_zero (a : AV) (l : List AV) : aextract 0 (.tup (a :: l)) = some a := rfl
@[simp] theorem aextract_one (a b : AV) (l : List AV) : aextract 1 (.tup (a :: b :: l)) = some b := rfl

section
variable {C : Ctx} {H : AH} {Q : Post}

theorem at_d {Φ : Calls'} (id o : Nat) (h : Q (.ptr id (o + 1)) H) : S.a64_at Φ (.ptr id o) (.int .u8 100) H Q := by
  simpa [S.a64_at] using h
theorem at_i {Φ : Calls'} (id o : Nat) (h : Q (.ptr id (o + 6)) H) : S.a64_at Φ (.ptr id o) (.int .u8 105) H Q := by
  simpa [S.a64_at, S.a64_at_k1, S.a64_at_k2, S.a64_at_k3] using h
theorem at_q {Φ : Calls'} (id o : Nat) (h : Q (.ptr id (o + 4)) H) : S.a64_at Φ (.ptr id o) (.int .u8 113) H Q := by
  simpa [S.a64_at, S.a64_at_k1, S.a64_at_k2, S.a64_at_k3] using h
theorem fits_u {Φ : Calls'} (a n t : AV) (m x : Int) (h0 : 0 ≤ x) (h1 : x ≤ m) (h : Q (.bool true) H) : S.a64_field_fits Φ (.agg [a, n, .bool false, t, .int .i64 m]) (.int .i64 x) H Q := by
  simpa [S.a64_field_fits, h0, h1] using h
theorem put_u {Φ : Calls'} (c : Int) (a m x t mk : Int) (n : AV) (hc : c ≠ 102) (ha : 0 ≤ a) (hmask : ∀ (H : AH) (R : Post), R (.int .u32 mk) H → Φ K.a64_field_mask [.agg [.int .i64 a, n, .bool false, .int .u32 t, .int .i64 m]] H R)
    (h : ∀ w, Q (.int .u32 w) H) : S.a64_field_put Φ (.agg [.int .i64 a, n, .bool false, .int .u32 t, .int .i64 m]) (.int .u8 c) (.int .i64 x) H Q := by
  have hc' : (c == 102) = false := by simpa using hc
  simp [S.a64_field_put, S.a64_field_put_k1, hc', abin_shl _ _ _ _ ha]
  exact hmask _ _ (by simp; exact h _)
end
end Rb

/- Law 16: a constant's instructions may be encoded. -/
set_option linter.unusedVariables false
set_option linter.unusedSimpArgs false
namespace Rb
open Go

theorem place_d : runIs S.tab_a64 3 K.a64_place [.int .u8 100] (.agg [.int .i64 0, .int .i64 5, .bool false, .int .u32 0, .int .i64 31]) = true := by kernel_rfl
theorem place_i : runIs S.tab_a64 3 K.a64_place [.int .u8 105] (.agg [.int .i64 5, .int .i64 16, .bool false, .int .u32 0, .int .i64 65535]) = true := by kernel_rfl
theorem place_q : runIs S.tab_a64 3 K.a64_place [.int .u8 113] (.agg [.int .i64 21, .int .i64 2, .bool false, .int .u32 0, .int .i64 3]) = true := by kernel_rfl
theorem mask_d : runIs S.tab_a64 3 K.a64_field_mask [.agg [.int .i64 0, .int .i64 5, .bool false, .int .u32 0, .int .i64 31]] (.int .u32 31) = true := by kernel_rfl
theorem mask_i : runIs S.tab_a64 3 K.a64_field_mask [.agg [.int .i64 5, .int .i64 16, .bool false, .int .u32 0, .int .i64 65535]] (.int .u32 2097120) = true := by kernel_rfl
theorem mask_q : runIs S.tab_a64 3 K.a64_field_mask [.agg [.int .i64 21, .int .i64 2, .bool false, .int .u32 0, .int .i64 3]] (.int .u32 6291456) = true := by kernel_rfl
def diq : List UInt8 := [100, 105, 113]
theorem of_1 : runIs S.tab_a64 3 K.a64_of [.int .i64 1] (.agg [.int .u32 3531603968, .str diq]) = true := by kernel_rfl
theorem of_2 : runIs S.tab_a64 3 K.a64_of [.int .i64 2] (.agg [.int .u32 4068474880, .str diq]) = true := by kernel_rfl

/-- What each letter's field says: place, width, turned bits, greatest number, mask; where the instruction keeps it. -/
structure Letter (c : Nat) (k : Nat) (a m mk n : Int) : Prop where
  place : runIs S.tab_a64 3 K.a64_place [.int .u8 c] (.agg [.int .i64 a, .int .i64 n, .bool false, .int .u32 0, .int .i64 m]) = true
  mask : runIs S.tab_a64 3 K.a64_field_mask [.agg [.int .i64 a, .int .i64 n, .bool false, .int .u32 0, .int .i64 m]] (.int .u32 mk) = true
  at_ : ∀ (Φ : Calls') (id : Nat) (H : AH) (Q : Post), Q (.ptr id k) H → S.a64_at Φ (.ptr id 0) (.int .u8 c) H Q
  nz : (c : Int) ≠ 122
  nf : (c : Int) ≠ 102
  ha : 0 ≤ a

theorem letter_d : Letter 100 1 0 31 31 5 := ⟨place_d, mask_d, fun _ _ _ _ h => at_d _ _ (by simpa using h), by decide, by decide, by decide⟩
theorem letter_i : Letter 105 6 5 65535 2097120 16 := ⟨place_i, mask_i, fun _ _ _ _ h => at_i _ _ (by simpa using h), by decide, by decide, by decide⟩
theorem letter_q : Letter 113 4 21 3 6291456 2 := ⟨place_q, mask_q, fun _ _ _ _ h => at_q _ _ (by simpa using h), by decide, by decide, by decide⟩

section
variable {C : Ctx}

theorem enc_round (hT : Closed (ACall C) S.tab_a64) (hGT : ∀ g l, C.GT g = some l → l.all AV.flat = true) {H0 H : AH} {Q : Post} {c k : Nat} {a m mk n : Int} {x1 : AV} (hL : Letter c k a m mk n) {cells : List AV} {len i : Nat} {rest : List AV} {id : Nat} {w x : Int}
    (hi : i < len) (hlen : len ≤ 1000) (hc : cells[i]? = some (.int .u8 c)) (hx : rest[k]? = some (.int .i64 x)) (hx0 : 0 ≤ x) (hxm : x ≤ m) (hE : AH.Ext H0 H) (hid : H0.n ≤ id) (hat : At H id (.row rest)) {L : List AV × AH → Prop}
    (hK : ∀ w' H', AH.Ext H0 H' → At H' id (.row (rest.set k (.int .i64 0))) → L ([.int .u32 w', .int .i64 (i + 1 : Nat)], H')) :
    S.a64_Encode_l3 (ACall C) x1 (.ptr id 0) (.lst .dead len cells) (.int .i64 len) Q ([.int .u32 w, .int .i64 i], H) L := by
  have hnz : ((c : Int) == 122) = false := by simpa using hL.nz
  have hik : k < rest.length := (List.getElem?_eq_some_iff.1 hx).1
  have hic : i < cells.length := (List.getElem?_eq_some_iff.1 hc).1
  have hld : aload H 1 false (.fptr (cells.drop i)) = some (.int .u8 c) := by
    simp only [aload_fptr, takeCells]
    rw [if_pos (by simp; omega)]
    simp [hc]
  simp only [S.a64_Encode_l3, sl_zero, sl_succ, abin_lss, Do_of, Gd_true]
  rw [if_pos (by simp; omega)]
  have hia : aiaddr none 1 (.lst .dead len cells) (.int .i64 i) = some (.fptr (cells.drop i)) := by
    simp only [aiaddr]; rw [if_pos ⟨by omega, by omega⟩]; simp
  rw [hia]
  simp only [Do_of]
  rw [hld]
  simp only [Do_of, abin_eql, Gd_true, hnz, Bool.false_eq_true, if_false]
  refine call_val hT hGT 3 _ _ _ hL.place _ _ ?_
  simp only [abox, if_true, DoH_some]
  have hat1 := hat.push (.row [.int .i64 0, .int .i64 0, .bool false, .int .u32 0, .int .i64 0])
  have hE1 := hE.trans (AH.Ext.push H (.row [.int .i64 0, .int .i64 0, .bool false, .int .u32 0, .int .i64 0]))
  have hnew := At.new H (.row [.int .i64 0, .int .i64 0, .bool false, .int .u32 0, .int .i64 0])
  have hfld : (AV.agg [.int .i64 a, .int .i64 n, .bool false, .int .u32 0, .int .i64 m]).known = true := rfl
  rw [hnew.store, if_pos ⟨rfl, rfl, rfl, by simp⟩]
  simp only [Do_of]
  have hset : setCells [.int .i64 0, .int .i64 0, .bool false, .int .u32 0, .int .i64 0] 0 (AV.cells (.agg [.int .i64 a, .int .i64 n, .bool false, .int .u32 0, .int .i64 m])) = [.int .i64 a, .int .i64 n, .bool false, .int .u32 0, .int .i64 m] := rfl
  rw [hset]
  have hat2 := hat1.set_ne hat.lt_new (.row [.int .i64 a, .int .i64 n, .bool false, .int .u32 0, .int .i64 m])
  have hE2 := hE1.set (i := H.n) hE.1 (.row [.int .i64 a, .int .i64 n, .bool false, .int .u32 0, .int .i64 m])
  have hnew2 := hnew.set (.row [.int .i64 a, .int .i64 n, .bool false, .int .u32 0, .int .i64 m])
  generalize (H.push (.row [.int .i64 0, .int .i64 0, .bool false, .int .u32 0, .int .i64 0])).set H.n (.row [.int .i64 a, .int .i64 n, .bool false, .int .u32 0, .int .i64 m]) = H2 at *
  refine S.cl_a64_at (Cl.of (ACall_mono _) hT) (hL.at_ _ _ _ _ ?_)
  have hl5 : aload H2 5 true (.ptr H.n 0) = some (.agg [.int .i64 a, .int .i64 n, .bool false, .int .u32 0, .int .i64 m]) := by
    rw [hnew2.load]; rfl
  have hlk : aload H2 1 false (.ptr id k) = some (.int .i64 x) := by
    rw [hat2.load]; simp only [takeCells]; rw [if_pos (by omega)]; simpa using hx
  rw [hl5]
  simp only [Do_of, anilck_ptr]
  rw [hlk]
  simp only [Do_of]
  refine S.cl_a64_field_fits (Cl.of (ACall_mono _) hT) (fits_u _ _ _ _ _ hx0 hxm ?_)
  simp only [aun_not, Bool.not_true, Do_of, Gd_true, Bool.false_eq_true, if_false]
  rw [hl5]
  simp only [Do_of]
  rw [hlk]
  simp only [Do_of]
  refine call_val hT hGT 3 _ _ _ hL.mask _ _ ?_
  refine ⟨hl5, hlk, ?_⟩
  have handn : ∃ w2, abin .andNot (.int .u32 w) (.int .u32 mk) = some (.int .u32 w2) := ⟨_, by simp [abin, abinInt, bitsOp]; rfl⟩
  obtain ⟨w2, hw2⟩ := handn
  rw [hw2]
  simp only [Do_of]
  refine S.cl_a64_field_put (Cl.of (ACall_mono _) hT) (put_u _ _ _ _ _ mk _ hL.nf hL.ha (fun H' R hR => call_val hT hGT 3 _ _ _ hL.mask _ _ hR) fun w3 => ?_)
  simp only [abin_or, Do_of, anilck_ptr]
  rw [hat2.store, if_pos ⟨rfl, rfl, rfl, by omega⟩]
  simp only [Do_of, JoinP_def, S.a64_Encode_k1, sl_zero, sl_succ, abin_add]
  rw [wrap_i64 (by omega) (by omega), show ((i : Int) + 1) = ((i + 1 : Nat) : Int) by simp]
  have hsc : setCells rest k (AV.cells (.int .i64 0)) = rest.set k (.int .i64 0) := rfl
  rw [hsc]
  exact hK _ _ (hE2.set hid _) (hat2.set _)
end
end Rb

/- Law 16: a constant's instruction may be encoded, and what it does. -/
set_option linter.unusedVariables false
set_option linter.unusedSimpArgs false
namespace Rb
open Go

section
variable {C : Ctx}

theorem Encode_ok (hT : Closed (ACall C) S.tab_a64) (hGT : ∀ g l, C.GT g = some l → l.all AV.flat = true) {op d q p : Nat} {base : Int} (hof : runIs S.tab_a64 3 K.a64_of [.int .i64 op] (.agg [.int .u32 base, .str diq]) = true)
    (hd : d ≤ 31) (hq : q ≤ 3) (hp : p ≤ 65535) : S.a64_Encode (ACall C) (.agg (ins op d q p)) AH.mt (fun v _ => ∃ w, v = .tup [.int .u32 w, .int .i64 0]) := by
  unfold S.a64_Encode
  rw [aboxv_agg _ _ _ (by rfl)]
  simp only [DoH_some, afaddr_fptr, Do_of]
  have h0 : aload AH.mt 1 false (.fptr ((ins op d q p).drop 0)) = some (.int .i64 op) := rfl
  rw [h0]
  simp only [Do_of]
  refine call_val hT hGT 3 _ _ _ hof _ _ ?_
  simp only [abox, if_true, DoH_some]
  have a1 := At.new AH.mt (.row [.int .u32 0, .str []])
  have hs1 : astore (AH.mt.push (.row [.int .u32 0, .str []])) 2 (.ptr AH.mt.n 0) (.agg [.int .u32 base, .str diq]) = some ((AH.mt.push (.row [.int .u32 0, .str []])).set AH.mt.n (.row [.int .u32 base, .str diq])) := by
    rw [a1.store, if_pos ⟨rfl, rfl, rfl, by simp⟩]; rfl
  rw [hs1]
  simp only [Do_of, afaddr_ptr]
  have a2 := a1.set (.row [.int .u32 base, .str diq])
  generalize hH9 : (AH.mt.push (.row [.int .u32 0, .str []])).set AH.mt.n (.row [.int .u32 base, .str diq]) = H9 at *
  have hn9 : H9.n = 1 := by rw [← hH9]; rfl
  have hl1 : aload H9 1 false (.ptr AH.mt.n (0 + 1)) = some (.str diq) := by rw [a2.load]; rfl
  have hl0 : aload H9 1 false (.ptr AH.mt.n (0 + 0)) = some (.int .u32 base) := by rw [a2.load]; rfl
  have hl7 : aload H9 7 true (.fptr (ins op d q p)) = some (.agg (ins op d q p)) := rfl
  rw [hl1]
  simp only [Do_of, abin, abinStr, Gd_true]
  rw [if_neg (by decide)]
  rw [hl0, hl7]
  simp only [Do_of]
  have b1 := At.new H9 (.row [.int .i64 0, .int .i64 0, .int .i64 0, .int .i64 0, .int .i64 0, .int .i64 0, .int .i64 0])
  have hs2 : astore (H9.push (.row [.int .i64 0, .int .i64 0, .int .i64 0, .int .i64 0, .int .i64 0, .int .i64 0, .int .i64 0])) 7 (.ptr H9.n 0) (.agg (ins op d q p)) = some ((H9.push (.row [.int .i64 0, .int .i64 0, .int .i64 0, .int .i64 0, .int .i64 0, .int .i64 0, .int .i64 0])).set H9.n (.row (ins op d q p))) := by
    rw [b1.store, if_pos ⟨rfl, rfl, rfl, by simp⟩]; rfl
  rw [hs2]
  simp only [Do_of]
  have b2 := b1.set (.row (ins op d q p))
  have hE : AH.Ext H9 ((H9.push (.row [.int .i64 0, .int .i64 0, .int .i64 0, .int .i64 0, .int .i64 0, .int .i64 0, .int .i64 0])).set H9.n (.row (ins op d q p))) := (AH.Ext.push H9 _).set (Nat.le_refl _) _
  have hl1' : aload ((H9.push (.row [.int .i64 0, .int .i64 0, .int .i64 0, .int .i64 0, .int .i64 0, .int .i64 0, .int .i64 0])).set H9.n (.row (ins op d q p))) 1 false (.ptr AH.mt.n (0 + 1)) = some (.str diq) := by
    rw [(a2.ext hE).load]; rfl
  rw [hl1']
  simp only [Do_of]
  generalize (H9.push (.row [.int .i64 0, .int .i64 0, .int .i64 0, .int .i64 0, .int .i64 0, .int .i64 0, .int .i64 0])).set H9.n (.row (ins op d q p)) = H18 at *
  have hb : asbytes (.str diq) = some (.lst .dead 3 [.int .u8 100, .int .u8 105, .int .u8 113]) := rfl
  rw [hb]
  simp only [Do_of, alen_lst]
  have e2 : (ins op d q p)[1]? = some (.int .i64 (d : Int)) := rfl
  refine LoopP.step ?_
  refine enc_round hT hGT (H0 := H9) (i := 0) letter_d (by omega) (by omega) rfl e2 (by omega) (by omega) hE (by omega) b2 fun w1 H1 x1 y1 => ?_
  refine LoopP.step ?_
  refine enc_round hT hGT (H0 := H9) (i := 1) (rest := (ins op d q p).set 1 (.int .i64 0)) (x := p) letter_i (by omega) (by omega) rfl rfl (by omega) (by omega) x1 (by omega) y1 fun w2 H2 x2 y2 => ?_
  refine LoopP.step ?_
  refine enc_round hT hGT (H0 := H9) (i := 2) (rest := ((ins op d q p).set 1 (.int .i64 0)).set 6 (.int .i64 0)) (x := q) letter_q (by omega) (by omega) rfl rfl (by omega) (by omega) x2 (by omega) y2 fun w3 H3 x3 y3 => ?_
  refine LoopP.step ?_
  simp only [S.a64_Encode_l3, sl_zero, sl_succ, abin_lss, Do_of, Gd_true]
  rw [if_neg (by decide)]
  simp only [JoinP_def, S.a64_Encode_k2, sl_zero, afaddr_fptr, Do_of]
  have hr : aload H3 7 true (.ptr H9.n 0) = some (.agg [.int .i64 op, .int .i64 0, .int .i64 0, .int .i64 0, .int .i64 0, .int .i64 0, .int .i64 0]) := by rw [y3.load]; rfl
  have ho : aload H3 1 false (.fptr ((ins op d q p).drop 0)) = some (.int .i64 op) := rfl
  have hbd : abuild [.int .i64 0, .int .i64 0, .int .i64 0, .int .i64 0, .int .i64 0, .int .i64 0, .int .i64 0] [(0, 1, .int .i64 op)] = some (.agg [.int .i64 op, .int .i64 0, .int .i64 0, .int .i64 0, .int .i64 0, .int .i64 0, .int .i64 0]) := rfl
  have hq' : aeqAgg true [.n, .n, .n, .n, .n, .n, .n] (.agg [.int .i64 op, .int .i64 0, .int .i64 0, .int .i64 0, .int .i64 0, .int .i64 0, .int .i64 0]) (.agg [.int .i64 op, .int .i64 0, .int .i64 0, .int .i64 0, .int .i64 0, .int .i64 0, .int .i64 0]) = some (.bool false) := by
    simp [aeqAgg, eqCells]
  rw [hr]
  simp only [Do_of]
  rw [ho]
  simp only [Do_of]
  rw [hbd]
  simp only [Do_of]
  rw [hq']
  simp only [Do_of, Gd_true]
  rw [if_neg (by simp)]
  exact ⟨_, rfl⟩

theorem of_any {op : Nat} (h : op = 1 ∨ op = 2) : ∃ base, runIs S.tab_a64 3 K.a64_of [.int .i64 op] (.agg [.int .u32 base, .str diq]) = true := by
  rcases h with rfl | rfl
  · exact ⟨_, of_1⟩
  · exact ⟨_, of_2⟩

theorem sound_ok (hA : Closed (ACall C) S.tab_a64) (hF : Closed (ACall C) S.tab_flow) (hGT : ∀ g l, C.GT g = some l → l.all AV.flat = true) (hG2 : GTok C) {op d q p : Nat} (hop : op = 1 ∨ op = 2)
    (hd : d ≤ 31) (hq : q ≤ 3) (hp : p ≤ 65535) (H : AH) (Q : Post) (hQ : Q (.bool true) H) : ACall C K.flow_sound [.agg (ins op d q p)] H Q := by
  obtain ⟨base, hof⟩ := of_any hop
  refine ACall.frame2 hG2 (Q := fun v _ => v = .bool true) ?_ (by rfl) H Q fun v H' hv => by subst hv; exact ⟨rfl, hQ⟩
  refine S.cl_flow_sound (Cl.of (ACall_mono _) hF) ?_
  unfold S.flow_sound
  rw [aboxv_agg _ _ _ (by rfl)]
  simp only [DoH_some]
  have hl7 : aload AH.mt 7 true (.fptr (ins op d q p)) = some (.agg (ins op d q p)) := rfl
  rw [hl7]
  simp only [Do_of]
  refine ACall_mono C _ _ _ _ _ (fun v H' hv => ?_) (S.cl_a64_Encode (Cl.of (ACall_mono _) hA) (Encode_ok hA hGT hof hd hq hp))
  obtain ⟨w, rfl⟩ := hv
  simp

/-! Registers -/
def regs (f : Nat → Nat) (pc : Int) : List AV := (List.range 31).map (fun i => AV.int .u64 (f i)) ++ [.int .i64 pc, .bool false, .bool false, .int .i64 0, .int .i64 0]
def upd (f : Nat → Nat) (d v : Nat) : Nat → Nat := fun i => if i = d then v else f i

theorem regs_len (f : Nat → Nat) (pc : Int) : (regs f pc).length = 36 := by simp [regs]
theorem regs_get (f : Nat → Nat) (pc : Int) (i : Nat) (h : i < 31) : (regs f pc)[i]? = some (.int .u64 (f i)) := by
  simp only [regs]
  rw [List.getElem?_append_left (by simpa using h)]
  simp [h]
theorem regs_pc (f : Nat → Nat) (pc : Int) : (regs f pc)[31]? = some (.int .i64 pc) := by
  simp only [regs]
  rw [List.getElem?_append_right (by simp)]
  simp
theorem regs_set (f : Nat → Nat) (pc : Int) (d v : Nat) (h : d < 31) : (regs f pc).set d (.int .u64 v) = regs (upd f d v) pc := by
  apply List.ext_getElem?
  intro i
  simp only [regs]
  rw [List.set_append_left _ _ (by simpa using h)]
  by_cases hi : i < 31
  · rw [List.getElem?_append_left (by simpa using hi), List.getElem?_append_left (by simpa using hi), List.getElem?_set]
    by_cases e : d = i
    · subst e; simp [upd, h]
    · rw [if_neg e]; simp [upd, hi, Ne.symm e]
  · rw [List.getElem?_append_right (by simpa using hi), List.getElem?_append_right (by simpa using hi)]
    simp
theorem regs_set_pc (f : Nat → Nat) (pc n : Int) : (regs f pc).set 31 (.int .i64 n) = regs f n := by
  simp only [regs]
  rw [List.set_append_right _ _ (by simp)]
  simp
theorem regs_scalar (f : Nat → Nat) (pc : Int) : (regs f pc).all AV.scalar = true := by
  rw [List.all_eq_true]
  intro x hx
  simp only [regs, List.mem_append, List.mem_map] at hx
  rcases hx with ⟨i, _, rfl⟩ | hx
  · rfl
  · simp at hx
    rcases hx with rfl | rfl | rfl | rfl <;> rfl
theorem regs_froz (f : Nat → Nat) (pc : Int) : AV.frozs (regs f pc) = true := by
  rw [frozs_all, List.all_eq_true]
  intro x hx
  simp only [regs, List.mem_append, List.mem_map] at hx
  rcases hx with ⟨i, _, rfl⟩ | hx
  · rfl
  · simp at hx
    rcases hx with rfl | rfl | rfl | rfl <;> rfl

theorem get_reg {Φ : Calls'} {H : AH} {Q : Post} {id : Nat} {f : Nat → Nat} {pc : Int} (ha : At H id (.row (regs f pc))) {n : Nat} (hn : n < 31) (hQ : Q (.int .u64 (f n)) H) : S.flow_get Φ (.ptr id 0) (.int .i64 n) H Q := by
  unfold S.flow_get
  simp only [abin_eql, Do_of, Gd_true, anilck_ptr, afaddr_ptr]
  rw [if_neg (by simp; omega)]
  have hi : aiaddr (some 31) 1 (.ptr id (0 + 0)) (.int .i64 n) = some (.ptr id n) := by
    simp only [aiaddr]; rw [if_pos ⟨by omega, by omega⟩]; simp
  rw [hi]
  simp only [Do_of]
  have hl : aload H 1 false (.ptr id n) = some (.int .u64 (f n)) := by
    rw [ha.load]; simp only [takeCells]; rw [if_pos (by rw [regs_len]; omega)]; simpa using regs_get f pc n hn
  rw [hl]
  simpa using hQ
theorem put_reg {Φ : Calls'} {H : AH} {Q : Post} {id : Nat} {f : Nat → Nat} {pc : Int} (ha : At H id (.row (regs f pc))) {n v : Nat} (hn : n < 31) (hQ : Q (.tup []) (H.set id (.row (regs (upd f n v) pc)))) : S.flow_put Φ (.ptr id 0) (.int .i64 n) (.int .u64 v) H Q := by
  unfold S.flow_put
  simp only [abin_neq, Do_of, Gd_true, anilck_ptr, afaddr_ptr]
  rw [if_pos (by simp; omega)]
  have hi : aiaddr (some 31) 1 (.ptr id (0 + 0)) (.int .i64 n) = some (.ptr id n) := by
    simp only [aiaddr]; rw [if_pos ⟨by omega, by omega⟩]; simp
  rw [hi]
  simp only [Do_of]
  rw [ha.store, if_pos ⟨rfl, rfl, rfl, by rw [regs_len]; omega⟩]
  simp only [Do_of]
  have : setCells (regs f pc) n (AV.cells (.int .u64 v)) = regs (upd f n v) pc := by
    rw [← regs_set f pc n v hn]; rfl
  rw [this]; exact hQ
end
end Rb

/- Law 16: what a constant's instruction makes of registers. -/
set_option linter.unusedVariables false
set_option linter.unusedSimpArgs false
namespace Rb
open Go

theorem pow16 {q : Nat} (hq : q ≤ 3) : 2 ^ (16 * q) ≤ 281474976710656 := by
  have : q = 0 ∨ q = 1 ∨ q = 2 ∨ q = 3 := by omega
  rcases this with rfl | rfl | rfl | rfl <;> decide

theorem shl_p {p q : Nat} (hp : p ≤ 65535) (hq : q ≤ 3) : p * 2 ^ (16 * q) < 18446744073709551616 := by
  have := pow16 hq
  calc p * 2 ^ (16 * q) ≤ 65535 * 281474976710656 := Nat.mul_le_mul hp this
    _ < 18446744073709551616 := by decide

theorem abin_shl_p {k' : IntKind} {p q : Nat} (hp : p ≤ 65535) (hq : q ≤ 3) : abin .shl (.int .u64 p) (.int k' ((16 * q : Nat) : Int)) = some (.int .u64 ((p * 2 ^ (16 * q) : Nat) : Int)) := by
  rw [abin_shl _ _ _ _ (by omega)]
  have h1 : min ((16 * q : Nat) : Int).toNat IntKind.u64.bits = 16 * q := by simp [IntKind.bits]; omega
  rw [h1]
  congr 2
  have h2 := shl_p hp hq
  rw [show ((p : Int) * 2 ^ (16 * q)) = ((p * 2 ^ (16 * q) : Nat) : Int) by simp]
  exact wrap_u64 (by omega) (by omega)

theorem or_bits {x p s : Nat} (hx : x < 2 ^ s) : x ||| p * 2 ^ s = x + p * 2 ^ s := by
  have := Nat.shiftLeft_add_eq_or_of_lt hx p
  rw [Nat.shiftLeft_eq] at this
  rw [Nat.or_comm, ← this, Nat.add_comm]

theorem andnot_bits {x s m : Nat} (hx : x < 2 ^ s) (hs : s ≤ 64) : (BitVec.ofNat 64 x &&& ~~~ BitVec.ofNat 64 (m * 2 ^ s)).toNat = x := by
  have hx64 : x < 2 ^ 64 := Nat.lt_of_lt_of_le hx (Nat.pow_le_pow_right (by decide) hs)
  apply Nat.eq_of_testBit_eq
  intro i
  rw [BitVec.testBit_toNat, BitVec.getLsbD_and, BitVec.getLsbD_not, BitVec.getLsbD_ofNat, BitVec.getLsbD_ofNat]
  by_cases hi : i < s
  · have : (m * 2 ^ s).testBit i = false := by
      rw [← Nat.shiftLeft_eq, Nat.testBit_shiftLeft]; simp; omega
    rw [this]
    have : i < 64 := by omega
    simp [this]
  · have : x.testBit i = false := Nat.testBit_lt_two_pow (Nat.lt_of_lt_of_le hx (Nat.pow_le_pow_right (by decide) (by omega)))
    rw [this]; simp

section
variable {C : Ctx}

theorem Put_spec (hB : Closed (ACall C) S.tab_bits) {x p q : Nat} (hx : x < 2 ^ (16 * q)) (hp : p ≤ 65535) (hq : q ≤ 3) {H : AH} {Q : Post} (hQ : Q (.int .u64 ((x + p * 2 ^ (16 * q) : Nat) : Int)) H) :
    S.bits_Put (ACall C) (.int .u64 x) (.int .i64 ((16 * q : Nat) : Int)) (.int .i64 16) (.int .u64 p) H Q := by
  have hcl := Cl.of (ACall_mono C) hB
  have h64 : x < 18446744073709551616 := by
    have := pow16 hq; omega
  unfold S.bits_Put
  refine S.cl_bits_in hcl ?_
  unfold S.bits_in
  simp only [abin_geq, abin_lss, Do_of, Gd3_true]
  rw [if_pos (by simp; omega)]
  have hlt : decide (((16 * q : Nat) : Int) < 64) = true := by simp; omega
  rw [hlt]
  simp only [aun_not, Do_of, Gd_true, Bool.not_true, Bool.false_eq_true, if_false]
  have hmask : ∀ (H : AH) (R : Post), R (.int .u64 65535) H → ACall C K.bits_Mask [.int .i64 16] H R := by
    intro H R hR
    refine S.cl_bits_Mask hcl ?_
    unfold S.bits_Mask
    simp only [abin_lss, abin_geq, Do_of, Gd_true]
    rw [if_neg (by decide), if_neg (by decide)]
    have : abin .shl (.int .u64 1) (.int .i64 16) = some (.int .u64 65536) := by kernel_rfl
    rw [this]
    simp only [Do_of]
    have : abin .sub (.int .u64 65536) (.int .u64 1) = some (.int .u64 65535) := by kernel_rfl
    rw [this]
    simpa using hR
  refine hmask _ _ ?_
  have e1 := abin_shl_p (k' := .i64) (p := 65535) (by omega) hq
  have e1' : abin .shl (.int .u64 65535) (.int .i64 ((16 * q : Nat) : Int)) = some (.int .u64 ((65535 * 2 ^ (16 * q) : Nat) : Int)) := e1
  rw [e1']
  simp only [Do_of]
  have e2 : abin .andNot (.int .u64 x) (.int .u64 ((65535 * 2 ^ (16 * q) : Nat) : Int)) = some (.int .u64 x) := by
    have hb := andnot_bits (m := 65535) hx (by omega)
    have : abin .andNot (.int .u64 x) (.int .u64 ((65535 * 2 ^ (16 * q) : Nat) : Int)) = some (.int .u64 (IntKind.u64.wrap ((BitVec.ofInt 64 (x : Int) &&& ~~~ BitVec.ofInt 64 ((65535 * 2 ^ (16 * q) : Nat) : Int)).toNat : Int))) := by
      rfl
    rw [this, BitVec.ofInt_natCast, BitVec.ofInt_natCast, hb, wrap_u64 (by omega) (by omega)]
  rw [e2]
  simp only [Do_of]
  refine hmask _ _ ?_
  have e3 : abin .and (.int .u64 p) (.int .u64 65535) = some (.int .u64 p) := by
    rw [abin_and]
    have : (BitVec.ofInt IntKind.u64.bits (p : Int) &&& BitVec.ofInt IntKind.u64.bits 65535).toNat = p % 65536 := and16 p (by omega)
    rw [this, Nat.mod_eq_of_lt (by omega), wrap_u64 (by omega) (by omega)]
  rw [e3]
  simp only [Do_of]
  rw [abin_shl_p hp hq]
  simp only [Do_of]
  have e4 : abin .or (.int .u64 x) (.int .u64 ((p * 2 ^ (16 * q) : Nat) : Int)) = some (.int .u64 ((x + p * 2 ^ (16 * q) : Nat) : Int)) := by
    have hsp := shl_p hp hq
    have hsum : x + p * 2 ^ (16 * q) < 18446744073709551616 := by
      have := pow16 hq
      have h2 : x + p * 2 ^ (16 * q) < 2 ^ (16 * q) + 65535 * 2 ^ (16 * q) := by
        have : p * 2 ^ (16 * q) ≤ 65535 * 2 ^ (16 * q) := Nat.mul_le_mul_right _ hp
        omega
      have h3 : 2 ^ (16 * q) + 65535 * 2 ^ (16 * q) = 65536 * 2 ^ (16 * q) := by omega
      omega
    rw [abin_or]
    have : (BitVec.ofInt IntKind.u64.bits (x : Int) ||| BitVec.ofInt IntKind.u64.bits ((p * 2 ^ (16 * q) : Nat) : Int)).toNat = x + p * 2 ^ (16 * q) := by
      rw [BitVec.toNat_or, BitVec.ofInt_natCast, BitVec.ofInt_natCast]
      simp only [BitVec.toNat_ofNat, IntKind.bits]
      rw [Nat.mod_eq_of_lt (by omega), Nat.mod_eq_of_lt (by omega)]
      exact or_bits hx
    rw [this, wrap_u64 (by omega) (by omega)]
  rw [e4]
  simpa using hQ

def numv (op x q p : Nat) : Nat := if op = 1 then p * 2 ^ (16 * q) else x + p * 2 ^ (16 * q)

theorem number_spec (hB : Closed (ACall C) S.tab_bits) (hF : Closed (ACall C) S.tab_flow) {H : AH} {Q : Post} {id : Nat} {f : Nat → Nat} {pc : Int} (ha : At H id (.row (regs f pc))) {op d q p : Nat} (hop : op = 1 ∨ op = 2 ∧ f d < 2 ^ (16 * q))
    (hd : d < 31) (hq : q ≤ 3) (hp : p ≤ 65535) (hQ : Q (.tup [.int .u64 (numv op (f d) q p), .bool true]) H) : S.flow_number (ACall C) (.ptr id 0) (.agg (ins op d q p)) H Q := by
  have hcl := Cl.of (ACall_mono C) hF
  unfold S.flow_number
  rw [aboxv_agg _ _ _ (by rfl)]
  simp only [DoH_some, afaddr_fptr, Do_of]
  have rd : ∀ (H : AH) (k : Nat) (z : AV), (ins op d q p)[k]? = some z → aload H 1 false (.fptr ((ins op d q p).drop k)) = some z := by
    intro H k z hz
    have hk : k < (ins op d q p).length := (List.getElem?_eq_some_iff.1 hz).1
    simp only [aload_fptr, takeCells]
    rw [if_pos (by simp; omega)]
    simp [hz]
  rw [rd _ 2 _ rfl]
  simp only [Do_of]
  rw [rd _ 3 _ rfl]
  simp only [Do_of]
  refine S.cl_flow_get hcl (get_reg (n := 0) ha (by omega) ?_)
  refine ⟨rd _ 3 _ rfl, ?_⟩
  refine S.cl_flow_get hcl (get_reg (n := 0) ha (by omega) ?_)
  rw [rd _ 0 _ rfl]
  simp only [Do_of, abin_eql, Gd_true]
  have hmul : abin .mul (.int .i64 16) (.int .i64 (q : Int)) = some (.int .i64 ((16 * q : Nat) : Int)) := by
    rw [abin_mul, wrap_i64 (by omega) (by omega)]; simp
  rcases hop with rfl | ⟨rfl, hx⟩
  · rw [if_pos (by rfl)]
    rw [rd _ 6 _ rfl]
    simp only [Do_of, aconv_int]
    rw [rd _ 4 _ rfl]
    simp only [Do_of]
    rw [hmul, wrap_u64 (by omega) (by omega)]
    simp only [Do_of]
    rw [abin_shl_p hp hq]
    simpa [numv] using hQ
  · rw [if_neg (by decide), if_pos (by rfl)]
    rw [rd _ 1 _ rfl]
    simp only [Do_of]
    rw [rd _ 4 _ rfl]
    simp only [Do_of]
    rw [hmul]
    simp only [Do_of]
    rw [rd _ 6 _ rfl]
    simp only [Do_of, aconv_int]
    rw [wrap_u64 (by omega) (by omega)]
    refine S.cl_flow_get hcl (get_reg (n := d) ha hd ?_)
    refine ⟨rd _ 4 _ rfl, rd _ 6 _ rfl, ?_⟩
    refine S.cl_bits_Put (Cl.of (ACall_mono C) hB) (Put_spec hB hx hp hq ?_)
    simpa [numv] using hQ
end
end Rb

/- Law 16: a constant's instruction, done. -/
set_option linter.unusedVariables false
set_option linter.unusedSimpArgs false
namespace Rb
open Go

section
variable {C : Ctx}

theorem ins_rd {op d q p : Nat} (H : AH) (k : Nat) (z : AV) (hz : (ins op d q p)[k]? = some z) : aload H 1 false (.fptr ((ins op d q p).drop k)) = some z := by
  have hk : k < (ins op d q p).length := (List.getElem?_eq_some_iff.1 hz).1
  simp only [aload_fptr, takeCells]
  rw [if_pos (by simp; omega)]
  simp [hz]

theorem taken_spec {H : AH} {Q : Post} {x : AV} {op d q p : Nat} (hop : op = 1 ∨ op = 2) (hQ : Q (.bool false) H) {Φ : Calls'} : S.flow_taken Φ x (.agg (ins op d q p)) H Q := by
  unfold S.flow_taken
  rw [aboxv_agg _ _ _ (by rfl)]
  simp only [DoH_some, afaddr_fptr, Do_of]
  rw [ins_rd _ 0 _ rfl]
  simp only [Do_of, abin_eql, Gd_true]
  rw [if_neg (by simp; omega), if_neg (by simp; omega), if_neg (by simp; omega), if_neg (by simp; omega)]
  exact hQ

theorem memory_spec (hF : Cl (ACall C) S.tab_flow) {H : AH} {Q : Post} {op : Nat} (hop : op = 1 ∨ op = 2) (hQ : Q (.bool false) H) : S.flow_memory (ACall C) (.int .i64 op) H Q := by
  unfold S.flow_memory
  refine S.cl_flow_between hF ?_
  unfold S.flow_between
  simp only [abin_geq, Do_of, Gd3_true]
  rw [if_neg (by simp; omega)]
  exact hQ

theorem Next_spec (hA : Closed (ACall C) S.tab_a64) (hB : Closed (ACall C) S.tab_bits) (hF : Closed (ACall C) S.tab_flow) (hGT : ∀ g l, C.GT g = some l → l.all AV.flat = true) (hG2 : GTok C)
    {f : Nat → Nat} {pc : Int} {op d q p : Nat} (hop : op = 1 ∨ op = 2 ∧ f d < 2 ^ (16 * q)) (hd : d < 31) (hq : q ≤ 3) (hp : p ≤ 65535) (H : AH) (Q : Post)
    (hQ : ∀ n, Q (.tup [.agg (regs (upd f d (numv op (f d) q p)) n), .int .i64 0]) H) :
    ACall C K.flow_Next [.agg (regs f pc), .agg (ins op d q p), .agg [.int .u64 0, .int .u64 0], .bool true] H Q := by
  have hop' : op = 1 ∨ op = 2 := by rcases hop with h | h; exact .inl h; exact .inr h.1
  have hcl := Cl.of (ACall_mono C) hF
  refine ACall.frame2 hG2 (Q := fun v _ => ∃ n, v = .tup [.agg (regs (upd f d (numv op (f d) q p)) n), .int .i64 0]) ?_ ?_ H Q ?_
  rotate_left
  · simp only [AV.frozs, AV.froz, regs_froz, ins, Bool.and_self]
  · rintro v H' ⟨n, rfl⟩
    exact ⟨by simp only [AV.frozs, AV.froz, regs_froz, Bool.and_self], hQ n⟩
  refine S.cl_flow_Next hcl ?_
  unfold S.flow_Next
  have hb1 : aboxv AH.mt true 36 (.agg (regs f pc)) = some (.ptr 0 0, AH.mt.push (.row (regs f pc))) := by
    simp only [aboxv, AV.known, AV.cells, regs_len, true_and, if_true, abox]; rfl
  rw [hb1]
  simp only [DoH_some]
  rw [aboxv_agg _ _ _ (by rfl)]
  simp only [DoH_some]
  rw [aboxv_agg _ _ _ (by rfl)]
  simp only [DoH_some, abox, if_true]
  have a1 : At (AH.mt.push (.row (regs f pc))) 0 (.row (regs f pc)) := At.new AH.mt _
  have a2 := a1.push (.row [.int .u64 0, .int .u64 0, .int .u64 0, .int .u64 0, .int .u64 0, .int .u64 0, .int .u64 0, .int .u64 0, .int .u64 0, .int .u64 0, .int .u64 0, .int .u64 0, .int .u64 0, .int .u64 0, .int .u64 0, .int .u64 0, .int .u64 0, .int .u64 0, .int .u64 0, .int .u64 0, .int .u64 0, .int .u64 0, .int .u64 0, .int .u64 0, .int .u64 0, .int .u64 0, .int .u64 0, .int .u64 0, .int .u64 0, .int .u64 0, .int .u64 0, .int .i64 0, .bool false, .bool false, .int .i64 0, .int .i64 0])
  have b2 := At.new (AH.mt.push (.row (regs f pc))) (.row [.int .u64 0, .int .u64 0, .int .u64 0, .int .u64 0, .int .u64 0, .int .u64 0, .int .u64 0, .int .u64 0, .int .u64 0, .int .u64 0, .int .u64 0, .int .u64 0, .int .u64 0, .int .u64 0, .int .u64 0, .int .u64 0, .int .u64 0, .int .u64 0, .int .u64 0, .int .u64 0, .int .u64 0, .int .u64 0, .int .u64 0, .int .u64 0, .int .u64 0, .int .u64 0, .int .u64 0, .int .u64 0, .int .u64 0, .int .u64 0, .int .u64 0, .int .i64 0, .bool false, .bool false, .int .i64 0, .int .i64 0])
  have hn : (AH.mt.push (.row (regs f pc))).n = 1 := rfl
  rw [hn] at b2 ⊢
  generalize (AH.mt.push (.row (regs f pc))).push (.row [.int .u64 0, .int .u64 0, .int .u64 0, .int .u64 0, .int .u64 0, .int .u64 0, .int .u64 0, .int .u64 0, .int .u64 0, .int .u64 0, .int .u64 0, .int .u64 0, .int .u64 0, .int .u64 0, .int .u64 0, .int .u64 0, .int .u64 0, .int .u64 0, .int .u64 0, .int .u64 0, .int .u64 0, .int .u64 0, .int .u64 0, .int .u64 0, .int .u64 0, .int .u64 0, .int .u64 0, .int .u64 0, .int .u64 0, .int .u64 0, .int .u64 0, .int .i64 0, .bool false, .bool false, .int .i64 0, .int .i64 0]) = H8 at *
  generalize hzz : ([.int .u64 0, .int .u64 0, .int .u64 0, .int .u64 0, .int .u64 0, .int .u64 0, .int .u64 0, .int .u64 0, .int .u64 0, .int .u64 0, .int .u64 0, .int .u64 0, .int .u64 0, .int .u64 0, .int .u64 0, .int .u64 0, .int .u64 0, .int .u64 0, .int .u64 0, .int .u64 0, .int .u64 0, .int .u64 0, .int .u64 0, .int .u64 0, .int .u64 0, .int .u64 0, .int .u64 0, .int .u64 0, .int .u64 0, .int .u64 0, .int .u64 0, .int .i64 0, .bool false, .bool false, .int .i64 0, .int .i64 0] : List AV) = Z at *
  have hZ : Z.length = 36 := by rw [← hzz]; rfl
  have hl7 : ∀ H : AH, aload H 7 true (.fptr (ins op d q p)) = some (.agg (ins op d q p)) := fun _ => rfl
  rw [hl7]
  simp only [Do_of]
  refine sound_ok hA hF hGT hG2 hop' (by omega) hq hp _ _ ?_
  simp only [aun_not, Do_of, Gd_true, Bool.not_true, Bool.false_eq_true, if_false, afaddr_ptr]
  have hpc : aload H8 1 false (.ptr 0 (0 + 31)) = some (.int .i64 pc) := by
    rw [a2.load]; simp only [takeCells]; rw [if_pos (by rw [regs_len]; omega)]; simpa using regs_pc f pc
  rw [hpc]
  simp only [Do_of, abin_add]
  rw [hl7]
  simp only [Do_of]
  refine S.cl_flow_taken hcl (taken_spec hop' ?_)
  simp only [Gd_true, Bool.false_eq_true, if_false, JoinP_def]
  generalize IntKind.i64.wrap (pc + 1) = pc'
  unfold S.flow_Next_k3
  rw [hl7]
  simp only [Do_of]
  refine S.cl_flow_number hcl (number_spec hB hF a2 hop hd hq hp ?_)
  simp only [aextract_zero, aextract_one, Do_of, afaddr_fptr]
  rw [ins_rd _ 0 _ rfl]
  simp only [Do_of, abin_eql, Gd_true]
  rw [if_neg (by simp; omega)]
  refine S.cl_flow_memory hcl (memory_spec hcl hop' ?_)
  simp only [Gd_true, Bool.false_eq_true, if_false, if_true]
  rw [ins_rd _ 0 _ rfl]
  simp only [Do_of, abin_eql, Gd_true]
  rw [if_neg (by simp; omega)]
  simp only [JoinP_def, S.flow_Next_k2, afaddr_fptr, Do_of]
  rw [ins_rd _ 1 _ rfl]
  simp only [Do_of]
  refine S.cl_flow_put hcl (put_reg a2 hd ?_)
  have a3 := a2.set (.row (regs (upd f d (numv op (f d) q p)) pc))
  have b3 := b2.set_ne (i := 0) (by decide) (.row (regs (upd f d (numv op (f d) q p)) pc))
  generalize H8.set 0 (.row (regs (upd f d (numv op (f d) q p)) pc)) = H9 at *
  simp only [JoinP_def, S.flow_Next_k1, sl_zero, afaddr_ptr, Do_of]
  rw [a3.store, if_pos ⟨rfl, rfl, rfl, by rw [regs_len]; omega⟩]
  simp only [Do_of]
  have hs : setCells (regs (upd f d (numv op (f d) q p)) pc) (0 + 31) (AV.cells (.int .i64 pc')) = regs (upd f d (numv op (f d) q p)) pc' := regs_set_pc _ _ _
  rw [hs]
  have a4 := a3.set (.row (regs (upd f d (numv op (f d) q p)) pc'))
  have b4 := b3.set_ne (i := 0) (by decide) (.row (regs (upd f d (numv op (f d) q p)) pc'))
  generalize H9.set 0 (.row (regs (upd f d (numv op (f d) q p)) pc')) = H10 at *
  have hload : ∀ {H : AH} {id : Nat} {g : Nat → Nat} {n : Int}, At H id (.row (regs g n)) → aload H 36 true (.ptr id 0) = some (.agg (regs g n)) := by
    intro H id g n h
    rw [h.load]; simp only [takeCells]; rw [if_pos (by rw [regs_len]; omega)]
    simp only [if_true, List.drop_zero]
    rw [List.take_of_length_le (by rw [regs_len]; omega)]
  rw [hload a4]
  simp only [Do_of]
  rw [b4.store, if_pos ⟨rfl, by simp only [AV.cells, regs_len], by simpa only [AV.cells] using regs_scalar _ _, by rw [hZ]; omega⟩]
  simp only [Do_of]
  have hset : ∀ (xs ys : List AV) (k : Nat), k + ys.length = xs.length → setCells xs k ys = xs.take k ++ ys := by
    intro xs ys
    induction ys generalizing xs with
    | nil => intro k h; simp only [setCells]; rw [List.append_nil, List.take_of_length_le (by simp at h; omega)]
    | cons y ys ih =>
      intro k h
      simp only [setCells]
      rw [ih _ _ (by simp at h ⊢; omega)]
      have hk : k < xs.length := by simp at h; omega
      rw [List.take_add_one, List.getElem?_set_self hk, List.take_set_of_le (by omega)]
      simp
  rw [hset Z _ 0 (by simp only [AV.cells, regs_len, hZ])]
  simp only [List.take_zero, List.nil_append, AV.cells]
  rw [hload (b4.set _)]
  simp only [Do_of]
  exact ⟨_, rfl⟩
end
end Rb

/- Law 16, EmitConstants: the whole law. -/
set_option linter.unusedVariables false
set_option linter.unusedSimpArgs false
namespace Rb
open Go

def tL (n : Nat) : Nat → List (Nat × Nat × Nat)
  | 0 => []
  | q + 1 => if pt n q = 0 then tL n q else tL n q ++ [(if (tL n q).length = 0 then 1 else 2, q, pt n q)]
def tF (n : Nat) : List (Nat × Nat × Nat) := if (tL n 4).length = 0 then [(1, 0, 0)] else tL n 4
def insT (d : Nat) (t : Nat × Nat × Nat) : List AV := ins t.1 d t.2.1 t.2.2

theorem cL_map (d n : Nat) : ∀ q, cL d n q = (tL n q).map (insT d)
  | 0 => rfl
  | q + 1 => by
    have ih := cL_map d n q
    simp only [cL, tL]
    split
    · exact ih
    · rw [ih, List.map_append]; simp [insT]
theorem cF_map (d n : Nat) : cF d n = (tF n).map (insT d) := by
  unfold cF tF
  rw [cL_map]
  simp only [List.length_map]
  split <;> rfl

/-- What a row of instructions makes of a register. -/
def GoT (n : Nat) : List (Nat × Nat × Nat) → Int → Nat → (Int → Nat → Prop) → Prop
  | [], last, x, K => K last x
  | t :: r, last, x, K => (n = 0 ∨ last < t.2.1) ∧ t.2.1 ≤ 3 ∧ t.2.2 ≤ 65535 ∧ (t.1 = 1 ∨ t.1 = 2 ∧ x < 2 ^ (16 * t.2.1)) ∧ GoT n r t.2.1 (numv t.1 x t.2.1 t.2.2) K

theorem GoT_append {n : Nat} {r : List (Nat × Nat × Nat)} {K : Int → Nat → Prop} : ∀ {l : List (Nat × Nat × Nat)} {last : Int} {x : Nat}, GoT n l last x (fun last x => GoT n r last x K) → GoT n (l ++ r) last x K
  | [], _, _, h => h
  | t :: l, _, _, h => ⟨h.1, h.2.1, h.2.2.1, h.2.2.2.1, GoT_append h.2.2.2.2⟩
theorem GoT_mono {n : Nat} {K K' : Int → Nat → Prop} (hK : ∀ a b, K a b → K' a b) : ∀ {l : List (Nat × Nat × Nat)} {last : Int} {x : Nat}, GoT n l last x K → GoT n l last x K'
  | [], _, _, h => hK _ _ h
  | t :: l, _, _, h => ⟨h.1, h.2.1, h.2.2.1, h.2.2.2.1, GoT_mono hK h.2.2.2.2⟩

theorem mod_step (n q : Nat) : n % 2 ^ (16 * (q + 1)) = n % 2 ^ (16 * q) + pt n q * 2 ^ (16 * q) := by
  have : 2 ^ (16 * (q + 1)) = 2 ^ (16 * q) * 65536 := by rw [Nat.mul_add, Nat.pow_add]
  rw [this, Nat.mod_mul, pt, Nat.mul_comm (2 ^ (16 * q)) (n / 2 ^ (16 * q) % 65536)]

theorem tL_good (n x0 : Nat) : ∀ q, q ≤ 4 → GoT n (tL n q) (-1) x0 (fun last x => last < q ∧ ((tL n q).length = 0 ∧ n % 2 ^ (16 * q) = 0 ∨ (tL n q).length ≠ 0 ∧ x = n % 2 ^ (16 * q)))
  | 0, _ => ⟨by decide, .inl ⟨rfl, by simp [Nat.mod_one]⟩⟩
  | q + 1, hq => by
    have ih := tL_good n x0 q (by omega)
    have hm := mod_step n q
    simp only [tL]
    split
    · rename_i h0
      refine GoT_mono (fun a b h => ⟨by have := h.1; omega, ?_⟩) ih
      rw [h0, Nat.zero_mul, Nat.add_zero] at hm
      rw [hm]; exact h.2
    · rename_i h0
      have hp : pt n q ≤ 65535 := by unfold pt; omega
      refine GoT_append (GoT_mono (fun a b h => ?_) ih)
      obtain ⟨h1, h2⟩ := h
      refine ⟨.inr h1, by show q ≤ 3; omega, hp, ?_, ?_, ?_⟩
      · rcases h2 with ⟨h2, _⟩ | ⟨h2, h3⟩
        · left; simp [h2]
        · right
          refine ⟨by simp [h2], ?_⟩
          show b < 2 ^ (16 * q)
          rw [h3]; exact Nat.mod_lt _ (Nat.pow_pos (by decide))
      · show ((q : Nat) : Int) < (q + 1 : Nat); omega
      · right
        refine ⟨by simp, ?_⟩
        show numv _ b q (pt n q) = _
        rw [hm]
        rcases h2 with ⟨h2, h3⟩ | ⟨h2, h3⟩
        · simp [numv, h2, h3]
        · simp [numv, h2, h3]

theorem tF_good (n x0 : Nat) (hn : n < 18446744073709551616) : GoT n (tF n) (-1) x0 (fun _ x => x = n) := by
  have h := tL_good n x0 4 (by omega)
  have hmod : n % 2 ^ (16 * 4) = n := Nat.mod_eq_of_lt (by simpa using hn)
  unfold tF
  split
  · rename_i h0
    have h0' : tL n 4 = [] := List.length_eq_zero_iff.1 h0
    rw [h0'] at h
    obtain ⟨_, h | h⟩ := h
    · rw [hmod] at h
      exact ⟨.inl h.2, by decide, by decide, .inl rfl, by simp [GoT, numv, h.2]⟩
    · exact absurd rfl h.1
  · rename_i h0
    refine GoT_mono (fun a b h => ?_) h
    rcases h.2 with h | h
    · exact absurd h.1 h0
    · rw [h.2, hmod]

theorem flat_drop {L : List (List AV)} {s : Nat} (h : ∀ e ∈ L, e.length = s) : ∀ i, L.flatten.drop (i * s) = (L.drop i).flatten := by
  intro i
  induction i generalizing L with
  | zero => simp
  | succ i ih =>
    cases L with
    | nil => simp
    | cons e L =>
      have he := h e (by simp)
      simp only [List.flatten_cons, List.drop_succ_cons]
      rw [show (i + 1) * s = e.length + i * s by rw [he, Nat.add_mul, Nat.one_mul, Nat.add_comm], ← List.drop_drop, List.drop_left]
      exact ih fun e' he' => h e' (by simp [he'])

section
variable {C : Ctx}

theorem el_addr {L : List (List AV)} {tk : Tok} {i : Nat} {e : List AV} {r : List (List AV)} (h : ∀ e ∈ L, e.length = 7) (hi : L.drop i = e :: r) : aiaddr none 7 (.lst tk L.length L.flatten) (.int .i64 i) = some (.fptr (e ++ r.flatten)) := by
  obtain ⟨hlt, _, _⟩ := drop_cons_lt hi
  simp only [aiaddr]
  rw [if_pos ⟨by omega, by omega⟩]
  rw [show ((i : Int).toNat * 7) = i * 7 by simp, flat_drop h, hi]; rfl

theorem law_loop (hA : Closed (ACall C) S.tab_a64) (hB : Closed (ACall C) S.tab_bits) (hF : Closed (ACall C) S.tab_flow) (hGT : ∀ g l, C.GT g = some l → l.all AV.flat = true) (hG2 : GTok C)
    (hAw : ∀ (H : AH) (R : Post), R (.bool true) H → ACall C K.rabbetlaw16_awake [] H R) {n k : Nat} (hk : k < 31) {T : List (Nat × Nat × Nat)} (hlen : T.length ≤ 1000) {tk : Tok} {id : Nat} :
    ∀ (rest : List (Nat × Nat × Nat)) (i : Nat) (last : Int) (f : Nat → Nat) (pc : Int) (H : AH), T.drop i = rest → GoT n rest last (f k) (fun _ x => x = n) → At H id (.row (regs f pc)) →
      LoopP (S.rabbetlaw16_EmitConstants_l6 (ACall C) (.int .u64 n) (.int .i64 k) (.lst tk (T.map (insT k)).length (T.map (insT k)).flatten) (.ptr id 0) (fun v _ => v = .bool true)) ([.int .i64 last, .int .i64 i], H) := by
  have hall : ∀ e ∈ T.map (insT k), e.length = 7 := by
    intro e he
    obtain ⟨t, _, rfl⟩ := List.mem_map.1 he
    rfl
  intro rest
  induction rest with
  | nil =>
    intro i last f pc H hi hg ha
    have hle := drop_nil_le hi
    refine LoopP.step ?_
    simp only [S.rabbetlaw16_EmitConstants_l6, sl_zero, sl_succ, alen_lst, abin_lss, Do_of, Gd_true]
    rw [if_neg (by simp; omega)]
    simp only [JoinP_def, S.rabbetlaw16_EmitConstants_k5]
    refine hAw _ _ ?_
    simp only [Gd3_true, if_true, afaddr_ptr, Do_of]
    have hx : aiaddr (some 31) 1 (.ptr id (0 + 0)) (.int .i64 k) = some (.ptr id k) := by
      simp only [aiaddr]; rw [if_pos ⟨by omega, by omega⟩]; simp
    rw [hx]
    simp only [Do_of]
    have hl : aload H 1 false (.ptr id k) = some (.int .u64 (f k)) := by
      rw [ha.load]; simp only [takeCells]; rw [if_pos (by rw [regs_len]; omega)]; simpa using regs_get f pc k hk
    rw [hl]
    have hfk : f k = n := hg
    simp [hfk]
  | cons t rest ih =>
    intro i last f pc H hi hg ha
    obtain ⟨g1, g2, g3, g4, g5⟩ := hg
    obtain ⟨op, q, p⟩ := t
    simp only at g1 g2 g3 g4 g5
    obtain ⟨hlt, _, hd'⟩ := drop_cons_lt hi
    have hi' : (T.map (insT k)).drop i = ins op k q p :: rest.map (insT k) := by rw [← List.map_drop, hi]; rfl
    have hel := el_addr (tk := tk) hall hi'
    refine LoopP.step ?_
    simp only [S.rabbetlaw16_EmitConstants_l6, sl_zero, sl_succ, alen_lst, abin_lss, Do_of, Gd_true]
    rw [if_pos (by simp; omega), hel]
    simp only [Do_of, afaddr_fptr]
    have r4 : ∀ H : AH, aload H 1 false (.fptr ((ins op k q p ++ (rest.map (insT k)).flatten).drop 4)) = some (.int .i64 q) := by
      intro H
      simp only [aload_fptr, takeCells]
      rw [if_pos (by simp [ins])]; rfl
    have r7 : ∀ H : AH, aload H 7 true (.fptr (ins op k q p ++ (rest.map (insT k)).flatten)) = some (.agg (ins op k q p)) := by
      intro H
      simp only [aload_fptr, takeCells]
      rw [if_pos (by simp [ins])]; rfl
    have r36 : aload H 36 true (.ptr id 0) = some (.agg (regs f pc)) := by
      rw [ha.load]; simp only [takeCells]; rw [if_pos (by rw [regs_len]; omega)]
      simp only [if_true, List.drop_zero]
      rw [List.take_of_length_le (by rw [regs_len]; omega)]
    rw [r4]
    simp only [Do_of, abin_leq, Gd3_true, abin_neq, JoinP_def]
    -- the step
    have step : S.rabbetlaw16_EmitConstants_k3 (ACall C) (.lst tk (T.map (insT k)).length (T.map (insT k)).flatten) (.ptr id 0) ([.int .i64 last, .int .i64 i], H)
        (LoopP (S.rabbetlaw16_EmitConstants_l6 (ACall C) (.int .u64 n) (.int .i64 k) (.lst tk (T.map (insT k)).length (T.map (insT k)).flatten) (.ptr id 0) (fun v _ => v = .bool true))) (fun v _ => v = .bool true) [] H := by
      simp only [S.rabbetlaw16_EmitConstants_k3, sl_succ, sl_zero]
      rw [hel]
      simp only [Do_of, afaddr_fptr]
      rw [r4]
      simp only [Do_of]
      rw [r36]
      simp only [Do_of]
      rw [r7]
      simp only [Do_of]
      have hb : abuild [.int .u64 0, .int .u64 0] [] = some (.agg [.int .u64 0, .int .u64 0]) := rfl
      rw [hb]
      simp only [Do_of]
      refine Next_spec hA hB hF hGT hG2 g4 hk g2 g3 H _ fun m => ?_
      simp only [aextract_zero, aextract_one, Do_of, abox, if_true, DoH_some]
      generalize hzz : ([.int .u64 0, .int .u64 0, .int .u64 0, .int .u64 0, .int .u64 0, .int .u64 0, .int .u64 0, .int .u64 0, .int .u64 0, .int .u64 0, .int .u64 0, .int .u64 0, .int .u64 0, .int .u64 0, .int .u64 0, .int .u64 0, .int .u64 0, .int .u64 0, .int .u64 0, .int .u64 0, .int .u64 0, .int .u64 0, .int .u64 0, .int .u64 0, .int .u64 0, .int .u64 0, .int .u64 0, .int .u64 0, .int .u64 0, .int .u64 0, .int .u64 0, .int .i64 0, .bool false, .bool false, .int .i64 0, .int .i64 0] : List AV) = Z
      have hZ : Z.length = 36 := by rw [← hzz]; rfl
      have a1 := ha.push (.row Z)
      have b1 := At.new H (.row Z)
      have hne : id ≠ H.n := ha.lt_new
      generalize H.push (.row Z) = H1 at *
      have ld : ∀ {H : AH} {id : Nat} {g : Nat → Nat} {m : Int}, At H id (.row (regs g m)) → aload H 36 true (.ptr id 0) = some (.agg (regs g m)) := by
        intro H id g m h
        rw [h.load]; simp only [takeCells]; rw [if_pos (by rw [regs_len]; omega)]
        simp only [if_true, List.drop_zero]
        rw [List.take_of_length_le (by rw [regs_len]; omega)]
      refine ⟨ld a1, r7 _, ?_⟩
      have hset : ∀ (xs ys : List AV) (k : Nat), k + ys.length = xs.length → setCells xs k ys = xs.take k ++ ys := by
        intro xs ys
        induction ys generalizing xs with
        | nil => intro k h; simp only [setCells]; rw [List.append_nil, List.take_of_length_le (by simp at h; omega)]
        | cons y ys ih =>
          intro k h
          simp only [setCells]
          rw [ih _ _ (by simp at h ⊢; omega)]
          have hk : k < xs.length := by simp at h; omega
          rw [List.take_add_one, List.getElem?_set_self hk, List.take_set_of_le (by omega)]
          simp
      rw [b1.store, if_pos ⟨rfl, by simp only [AV.cells, regs_len], by simpa only [AV.cells] using regs_scalar _ _, by rw [hZ]; omega⟩]
      simp only [Do_of, abin_neq, Gd_true]
      rw [if_neg (by simp)]
      rw [hset Z _ 0 (by simp only [AV.cells, regs_len, hZ])]
      simp only [List.take_zero, List.nil_append, AV.cells]
      have a2 := a1.set_ne hne (.row (regs (upd f k (numv op (f k) q p)) m))
      have b2 := b1.set (.row (regs (upd f k (numv op (f k) q p)) m))
      generalize H1.set H.n (.row (regs (upd f k (numv op (f k) q p)) m)) = H2 at *
      rw [ld b2]
      simp only [Do_of]
      rw [a2.store, if_pos ⟨rfl, by simp only [AV.cells, regs_len], by simpa only [AV.cells] using regs_scalar _ _, by rw [regs_len]; omega⟩]
      simp only [Do_of]
      rw [hset (regs f pc) _ 0 (by simp only [AV.cells, regs_len])]
      simp only [List.take_zero, List.nil_append, AV.cells, JoinP_def, S.rabbetlaw16_EmitConstants_k2, sl_zero, sl_succ, abin_add, Do_of]
      rw [wrap_i64 (by omega) (by omega), show ((i : Int) + 1) = ((i + 1 : Nat) : Int) by simp]
      refine ih (i + 1) q _ m _ hd' ?_ (a2.set _)
      have : upd f k (numv op (f k) q p) k = numv op (f k) q p := by simp [upd]
      rw [this]
      exact g5
    have fin : ∀ b : Bool, b = false → S.rabbetlaw16_EmitConstants_k4 (ACall C) (.lst tk (T.map (insT k)).length (T.map (insT k)).flatten) (.ptr id 0) ([.int .i64 last, .int .i64 i], H)
        (LoopP (S.rabbetlaw16_EmitConstants_l6 (ACall C) (.int .u64 n) (.int .i64 k) (.lst tk (T.map (insT k)).length (T.map (insT k)).flatten) (.ptr id 0) (fun v _ => v = .bool true))) (fun v _ => v = .bool true) [.bool b] H := by
      intro b hb
      subst hb
      simp only [S.rabbetlaw16_EmitConstants_k4, sl_zero, Gd_true, Bool.false_eq_true, if_false, JoinP_def]
      exact step
    refine ite_both (fun h => ?_) (fun _ => fin _ rfl)
    refine fin _ ?_
    simp at h ⊢
    rcases g1 with g1 | g1
    · exact_mod_cast g1
    · omega
end
end Rb

/- Law 16, EmitConstants: it returns true. -/
set_option linter.unusedVariables false
set_option linter.unusedSimpArgs false
namespace Rb
open Go

section
variable {C : Ctx}

theorem EmitConstants_true (hA : Closed (ACall C) S.tab_a64) (hB : Closed (ACall C) S.tab_bits) (hF : Closed (ACall C) S.tab_flow) (hE : Cl (ACall C) S.tab_emit) (hGT : ∀ g l, C.GT g = some l → l.all AV.flat = true) (hG2 : GTok C)
    (hAw : ∀ (H : AH) (R : Post), R (.bool true) H → ACall C K.rabbetlaw16_awake [] H R) {d : Int} (hd : 0 ≤ d) {n : Nat} (hn : n < 18446744073709551616) :
    S.rabbetlaw16_EmitConstants (ACall C) (.int .u8 d) (.int .u64 n) AH.mt (fun v _ => v = .bool true) := by
  unfold S.rabbetlaw16_EmitConstants
  rw [abin_rem _ _ _ (by decide), Int.tmod_eq_emod_of_nonneg hd]
  simp only [Do_of, aconv_int]
  obtain ⟨k, hk⟩ : ∃ k : Nat, d % 31 = (k : Int) := ⟨(d % 31).toNat, by omega⟩
  have hk31 : k < 31 := by omega
  rw [hk, wrap_i64 (by omega) (by omega)]
  refine S.cl_emit_Constant hE (Constant_spec hn fun x H4 hx => ?_)
  obtain ⟨_, tk, rfl, _⟩ := hx
  generalize hzz : ([.int .u64 0, .int .u64 0, .int .u64 0, .int .u64 0, .int .u64 0, .int .u64 0, .int .u64 0, .int .u64 0, .int .u64 0, .int .u64 0, .int .u64 0, .int .u64 0, .int .u64 0, .int .u64 0, .int .u64 0, .int .u64 0, .int .u64 0, .int .u64 0, .int .u64 0, .int .u64 0, .int .u64 0, .int .u64 0, .int .u64 0, .int .u64 0, .int .u64 0, .int .u64 0, .int .u64 0, .int .u64 0, .int .u64 0, .int .u64 0, .int .u64 0, .int .i64 0, .bool false, .bool false, .int .i64 0, .int .i64 0] : List AV) = Z
  have hZr : Z = regs (fun _ => 0) 0 := by rw [← hzz]; rfl
  have hb : abuild Z [] = some (.agg Z) := rfl
  rw [hb]
  simp only [Do_of, abox, if_true, DoH_some]
  subst hZr
  have a1 := At.new H4 (.row (regs (fun _ => 0) 0))
  generalize H4.push (.row (regs (fun _ => 0) 0)) = H7 at *
  have hset : ∀ (xs ys : List AV) (k : Nat), k + ys.length = xs.length → setCells xs k ys = xs.take k ++ ys := by
    intro xs ys
    induction ys generalizing xs with
    | nil => intro k h; simp only [setCells]; rw [List.append_nil, List.take_of_length_le (by simp at h; omega)]
    | cons y ys ih =>
      intro k h
      simp only [setCells]
      rw [ih _ _ (by simp at h ⊢; omega)]
      have hk : k < xs.length := by simp at h; omega
      rw [List.take_add_one, List.getElem?_set_self hk, List.take_set_of_le (by omega)]
      simp
  rw [a1.store, if_pos ⟨rfl, by simp only [AV.cells, regs_len], by simpa only [AV.cells] using regs_scalar _ _, by rw [regs_len]; omega⟩]
  simp only [Do_of]
  rw [hset _ _ 0 (by simp only [AV.cells, regs_len])]
  simp only [List.take_zero, List.nil_append, AV.cells, afaddr_ptr, Do_of]
  have a2 := a1.set (.row (regs (fun _ => 0) 0))
  generalize H7.set H4.n (.row (regs (fun _ => 0) 0)) = H8 at *
  have hx : aiaddr (some 31) 1 (.ptr H4.n (0 + 0)) (.int .i64 k) = some (.ptr H4.n k) := by
    simp only [aiaddr]; rw [if_pos ⟨by omega, by omega⟩]; simp
  rw [hx]
  simp only [Do_of]
  rw [a2.store, if_pos ⟨rfl, rfl, rfl, by rw [regs_len]; omega⟩]
  simp only [Do_of]
  have hs1 : setCells (regs (fun _ => 0) 0) k (AV.cells (.int .u64 18446744073709551615)) = regs (upd (fun _ => 0) k 18446744073709551615) 0 := by
    rw [← regs_set _ _ _ _ hk31]; rfl
  rw [hs1]
  have a3 := a2.set (.row (regs (upd (fun _ => 0) k 18446744073709551615) 0))
  generalize H8.set H4.n (.row (regs (upd (fun _ => 0) k 18446744073709551615) 0)) = H11 at *
  have hT : (cF k n) = (tF n).map (insT k) := cF_map k n
  -- the parts are counted
  have main : ∀ (m q : Nat), m + q = 4 → LoopP (S.rabbetlaw16_EmitConstants_l9 (ACall C) (.int .u64 n) (.int .i64 k) (.lst tk (cF k n).length (cF k n).flatten) (.ptr H4.n 0) (fun v _ => v = .bool true)) ([.int .i64 (cL k n q).length, .int .i64 q], H11) := by
    intro m
    induction m with
    | zero =>
      intro q hq
      obtain rfl : q = 4 := by omega
      refine LoopP.step ?_
      simp only [S.rabbetlaw16_EmitConstants_l9, sl_zero, sl_succ, abin_lss, Do_of, Gd_true, JoinP_def]
      rw [if_neg (by decide)]
      have last : ∀ c : Nat, c = (cF k n).length → S.rabbetlaw16_EmitConstants_k7 (ACall C) (.int .u64 n) (.int .i64 k) (.lst tk (cF k n).length (cF k n).flatten) (.ptr H4.n 0) (fun v _ => v = .bool true) [.int .i64 c] H11 := by
        intro c hc
        simp only [S.rabbetlaw16_EmitConstants_k7, sl_zero, alen_lst, abin_neq, Do_of, Gd_true]
        rw [if_neg (by rw [hc]; simp)]
        rw [hT]
        refine law_loop hA hB hF hGT hG2 hAw hk31 ?_ (tF n) 0 (-1) _ 0 H11 rfl ?_ a3
        · have h1 : (cF k n).length ≤ 4 := by
            unfold cF
            have := cL_len k n 4
            split
            · simp
            · omega
          rw [hT] at h1
          simp at h1
          omega
        · have : upd (fun _ => 0) k 18446744073709551615 k = 18446744073709551615 := by simp [upd]
          rw [this]
          exact tF_good n _ hn
      simp only [S.rabbetlaw16_EmitConstants_k8, sl_zero, abin_eql, Do_of, Gd_true, JoinP_def]
      refine ite_both (fun h => ?_) (fun h => ?_)
      · have h0 : (cL k n 4).length = 0 := by simpa using h
        refine last 1 ?_
        unfold cF; rw [if_pos h0]; rfl
      · have h0 : ¬ (cL k n 4).length = 0 := by intro h'; apply h; simp [h']
        refine last _ ?_
        unfold cF; rw [if_neg h0]
    | succ m ih =>
      intro q hq
      refine LoopP.step ?_
      have hlen := cL_len k n q
      simp only [S.rabbetlaw16_EmitConstants_l9, sl_zero, sl_succ, abin_lss, Do_of, Gd_true]
      rw [if_pos (by simp; omega)]
      simp only [abin_mul, Do_of, aconv_int]
      rw [wrap_i64 (by omega) (by omega), wrap_u64 (by omega) (by omega), show ((16 : Int) * (q : Int)) = ((16 * q : Nat) : Int) by simp]
      have hshr : abin .shr (.int .u64 n) (.int .u64 (16 * q : Nat)) = some (.int .u64 ((n / 2 ^ (16 * q) : Nat) : Int)) := by
        rw [abin_shr _ _ _ _ (by omega)]
        have h1 : min ((16 * q : Nat) : Int).toNat IntKind.u64.bits = 16 * q := by simp [IntKind.bits]; omega
        rw [h1]
        congr 2
        rw [show ((2 : Int) ^ (16 * q)) = ((2 ^ (16 * q) : Nat) : Int) by simp, Int.fdiv_eq_ediv_of_nonneg _ (Int.natCast_nonneg _)]
        simp
      rw [hshr]
      simp only [Do_of]
      rw [abin_rem _ _ _ (by decide)]
      have hpt : ((n / 2 ^ (16 * q) : Nat) : Int).tmod 65536 = (pt n q : Int) := by
        rw [Int.tmod_eq_emod_of_nonneg (Int.natCast_nonneg _)]; unfold pt; rw [Int.natCast_emod]; rfl
      rw [hpt]
      simp only [Do_of, abin_gtr, Gd_true]
      have fin : ∀ c : Nat, c = (cL k n (q + 1)).length → S.rabbetlaw16_EmitConstants_k1 (ACall C) ([.int .i64 (cL k n q).length, .int .i64 q], H11) (LoopP (S.rabbetlaw16_EmitConstants_l9 (ACall C) (.int .u64 n) (.int .i64 k) (.lst tk (cF k n).length (cF k n).flatten) (.ptr H4.n 0) (fun v _ => v = .bool true))) (fun v _ => v = .bool true) [.int .i64 c] H11 := by
        intro c hc
        simp only [S.rabbetlaw16_EmitConstants_k1, sl_zero, sl_succ, abin_add, Do_of]
        rw [wrap_i64 (by omega) (by omega), show ((q : Int) + 1) = ((q + 1 : Nat) : Int) by simp, hc]
        exact ih (q + 1) (by omega)
      refine ite_both (fun h => ?_) (fun h => ?_)
      · have h0 : ¬ pt n q = 0 := by
          have h1 := h
          rw [decide_eq_true_eq] at h1
          omega
        simp only [abin_add, Do_of, JoinP_def]
        rw [wrap_i64 (by omega) (by omega), show (((cL k n q).length : Int) + 1) = (((cL k n q).length + 1 : Nat) : Int) by simp]
        refine fin _ ?_
        simp [cL, h0]
      · have h0 : pt n q = 0 := by
          have h1 := h
          rw [decide_eq_true_eq] at h1
          omega
        simp only [JoinP_def]
        refine fin _ ?_
        simp [cL, h0]
  exact main 4 0 rfl
end
end Rb

/- From what a law's function does to the statement. -/
set_option linter.unusedVariables false
namespace Rb
open Go Go.RowKit

/-- All that is there may be read, and nothing is written: frozen. -/
def allFz (W : World) : Nat → Nat → Prop := fun b o => ∃ V, W.cell? ⟨b, o, none⟩ = some V

theorem law_calls {C : Ctx} {key : Nat} {f : FuncId} {args : List AV} {Vs : Array Value} {W : World} (hf : C.F key = some f) (h : ACall C key args AH.mt (fun v _ => v = .bool true)) (hG : GOK C W (Ghost.mt (allFz W)))
    (hargs : VRs C.F W (Ghost.mt (allFz W)) args Vs) : Calls C.P f Vs W fun e W' => e = .returned (.bool true) ∧ Below W.heap.size W W' := by
  refine Calls.mono (h f hf _ W Vs hG (Rel.mt fun _ _ h => h) hargs) fun e w' he => ?_
  obtain ⟨V, v, H', G', rfl, rfl, hv, _, hst⟩ := he
  obtain rfl := hv.bool_inv
  exact ⟨rfl, hst.below⟩

/-- A variable that holds small numbers. -/
theorem fptr_of_tab {F : FTab} {W : World} {g : Nat} {k : IntKind} {zs : List Int} (h : ∀ i, i < zs.length → W.cell? ⟨g, i, none⟩ = some (.int k (zs.getD i 0))) : VR F W (Ghost.mt (allFz W)) (.fptr (zs.map (.int k))) (.pointer (some ⟨g, 0, none⟩)) := by
  refine .fptr _ g 0 (fun j => .int k (zs.getD j 0)) (fun j c hj => ?_) fun j c hj => ?_
  · have hl : j < zs.length := by simpa using (List.getElem?_eq_some_iff.1 hj).1
    rw [Nat.zero_add]
    exact ⟨⟨_, h j hl⟩, h j hl⟩
  · have hl : j < zs.length := by simpa using (List.getElem?_eq_some_iff.1 hj).1
    have : c = .int k (zs.getD j 0) := by
      rw [List.getElem?_map, List.getElem?_eq_getElem hl] at hj
      simp only [Option.map_some, Option.some.injEq] at hj
      rw [← hj, List.getD_eq_getElem?_getD, List.getElem?_eq_getElem hl]; rfl
    rw [this]
    exact .int _ _

theorem VRs.two {F : FTab} {w : World} {G : Ghost} {c d : AV} {V U : Value} (h : VR F w G c V) (h' : VR F w G d U) : VRs F w G [c, d] #[V, U] := ⟨rfl, fun j c' V' hc hV => by
  rcases j with _ | _ | j
  · simp at hc hV; subst hc; subst hV; exact h
  · simp at hc hV; subst hc; subst hV; exact h'
  · simp at hc⟩
theorem VRs.three {F : FTab} {w : World} {G : Ghost} {c d e : AV} {V U X : Value} (h : VR F w G c V) (h' : VR F w G d U) (h'' : VR F w G e X) : VRs F w G [c, d, e] #[V, U, X] := ⟨rfl, fun j c' V' hc hV => by
  rcases j with _ | _ | _ | j
  · simp at hc hV; subst hc; subst hV; exact h
  · simp at hc hV; subst hc; subst hV; exact h'
  · simp at hc hV; subst hc; subst hV; exact h''
  · simp at hc⟩

theorem asciiSpace_eq : asciiSpace = (Go.Lib.asciiSpaceTab.map (AV.int .u8)) := by kernel_rfl
end Rb

/- Law 16, EmitConstants: the statement. -/
set_option linter.unusedVariables false
namespace Go.Proofs.Ytcececgpjnpeoaa.rb
open Rb Go.ChangeShapes Go.WideShapes Go.ChangeAt Go.RowKit

theorem own : ownKnob Try.prog.godebug = none := by kernel_rfl
theorem laidOut : laidOutB Try.prog = true := by kernel_rfl
def M0 : Memo := fun _ _ => none
theorem M0_ok : MemoOK (ACall C) M0 := fun _ _ _ h => by cases h
noncomputable def B0 : CallsB := runM M0 (disp 4096) 60
theorem B0_ok : SoundB (ACall C) B0 := runM_sound M0_ok (dispOK 4096) 60
theorem awake_run : B0 K.rabbetlaw16_awake [] TH.mt (fun u _ => u.same (.bool true)) = true := by kernel_rfl
theorem awake (H : AH) (Q : Post) (hQ : Q (.bool true) H) : ACall C K.rabbetlaw16_awake [] H Q := run_any gtC B0_ok (by kernel_rfl) (by kernel_rfl) awake_run H Q hQ
theorem oa : Closed (ACall C) S.tab_a64 := closed_of fok (by kernel_rfl)
theorem ob : Closed (ACall C) S.tab_bits := closed_of fok (by kernel_rfl)
theorem of : Closed (ACall C) S.tab_flow := closed_of fok (by kernel_rfl)
theorem gok {W : World} : GOK C W (Ghost.mt (allFz W)) := by
  intro g l hg
  change gt g = some l at hg
  unfold gt at hg
  cases hg

theorem emitConstants.any (d : Int) (h0 : 0 ≤ d) (n : Int) (h1 : 0 ≤ n) (h2 : n ≤ 18446744073709551615) : ACall C K.rabbetlaw16_EmitConstants [.int .u8 d, .int .u64 n] AH.mt (fun v _ => v = .bool true) := by
  obtain ⟨m, rfl⟩ : ∃ m : Nat, n = m := ⟨n.toNat, by omega⟩
  exact S.cl_rabbetlaw16_EmitConstants cl_rabbetlaw16 (EmitConstants_true oa ob of cl_emit (fun g l h => by change gt g = some l at h; unfold gt at h; cases h) gtC awake h0 (by omega))

set_option maxRecDepth 100000 in
theorem lifted (os : Os) (started : os.Started) (H : Type) (enc : TypeId × Value → H) :
    ReturnsInHanded {} Try.checked os 3 .any (Rows.emitConstantsSpec.pre6 enc Try.prog Try.f3 Rows.emitConstantsRow.domain false) (Rows.emitConstantsSpec.post enc Try.prog Try.f3 false true false false) := by
  refine returnsInHanded_of_change (C := Try.checked) own started (by kernel_rfl) Try.func3
    (ChangeSpec.witness6 (enc := enc) (C := Try.checked) false ⟨#[], #[.int .u8 0, .int .u64 0], []⟩ 8 (by kernel_rfl) (by kernel_rfl) (by kernel_rfl) (by kernel_rfl)) ?_
  intro W base args ds gs before hval0 hW hcnd _
  have hval : ∀ (j : Nat) t v, Try.f3.params[j]? = some t → args[j]? = some v → Value.okWide Try.prog W .any base t v := hval0
  have hW' := hW
  obtain ⟨p, q, hA0, hV, rfl, hfz, hnd⟩ := hW
  have hA : DataW.TrodAll enc Try.prog W 0 (fun _ => true) true Try.f3.params.toList args.toList ds p := hA0
  rw [Try.params3] at hA hval
  obtain ⟨v0, v1, d0, d1, p0, p1, rfl, rfl, rfl, h0, h1⟩ := trodAll_two hA
  obtain ⟨rfl, rfl⟩ := trodVars_none hV
  obtain ⟨a, rfl, rfl, rfl, wa⟩ := open_int Try.underlying5 (hval 0 5 v0 rfl rfl) h0
  obtain ⟨b, rfl, rfl, rfl, wb⟩ := open_int Try.underlying22 (hval 1 22 v1 rfl rfl) h1
  have ha : 0 ≤ a := by simp [Lit.wf, IntKind.min, IntKind.max, IntKind.signed, IntKind.bits] at wa; omega
  have hb : 0 ≤ b ∧ b ≤ 18446744073709551615 := by simp [Lit.wf, IntKind.min, IntKind.max, IntKind.signed, IntKind.bits] at wb; omega
  refine (law_calls (C := C) (f := 3) (by kernel_rfl) (emitConstants.any a ha b hb.1 hb.2) gok (VRs.two (.int _ _) (.int _ _))).mono fun e W' ⟨he, hbel⟩ => ?_
  subst he
  exact ⟨_, rfl, post_true (bt := 4) hW' laidOut (by kernel_rfl) (by kernel_rfl) (by kernel_rfl) Try.underlying4 rfl hbel⟩
end Go.Proofs.Ytcececgpjnpeoaa.rb
namespace Go.Proofs.Ytcececgpjnpeoaa
open Go

theorem emitConstants_holds : Rows.EmitConstantsSaid :=
  OpenClaim.holds_of_wide 3 Try.f3 rfl rfl rfl rfl rfl rfl rfl ⟨rfl, rfl, rfl, rfl, rfl⟩ rfl rfl rfl rfl rfl (by kernel_rfl) Try.func3 (by kernel_rfl)
    (of_decide_eq_true (by kernel_rfl)) (by unfold Func.isWrapper; first | (rw [if_pos (by decide +kernel)]; kernel_rfl) | (rw [if_neg (by decide +kernel)]; exact ⟨rfl, rfl⟩))
    (fun os started H enc _ => rb.lifted os started H enc)
#print axioms emitConstants_holds
end Go.Proofs.Ytcececgpjnpeoaa
