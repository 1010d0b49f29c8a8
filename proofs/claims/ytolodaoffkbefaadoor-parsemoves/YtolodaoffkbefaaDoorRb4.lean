/- A part of the proof (part 4): see the last text. -/
import Derived.Test.YtolodaoffkbefaaDoorRb2
import Derived.Test.YtolodaoffkbefaaDoorRb3
import Derived.KernelRfl
import Derived.LaidLaws
import Derived.LaidHandle
import Derived.Lib.LaidU8
import Derived.Deep.DeepLaidRun
import Derived.Handed
import Derived.JoinedOf
import Derived.SevenTiedAt
import Derived.ProofKit
import Derived.Lib.Space
import Derived.ChangeArms
import Derived.Lib.DecodeN
import Derived.Lib.ParseIntB
import Derived.Lib.Bytealg
/- Functions in the small language, and what they mean. By spec.py. -/
set_option linter.unusedVariables false
namespace Rb.S
open Go

/-! (rabbet/parse.parser).stmt -/
def parse_parser_stmt_k1 (Φ : Calls') (a0 : AV) (x1 : AV) (x10 : AV) (Q : Post) : List AV → AH → Prop := fun j13 H14 =>
Φ K.parse_parser_want [a0, (.str [59])] H14 fun x27 H28 =>
 Do (aload H28 10 true x10) fun x29 =>
 Do (astore H28 10 x1 x29) fun H30 =>
 Do (aload H30 10 true x1) fun x31 =>
 Q x31 H30
def parse_parser_stmt (Φ : Calls') (a0 : AV) (a1 : AV) (H : AH) (Q : Post) : Prop :=
 DoH (some (abox H true [.int .i64 0, .int .i64 0, .str [], .str [], .int .i64 0, .str [], .lst .nil 0 [], .lst .nil 0 [], .lst .nil 0 [], .lst .nil 0 []])) fun x1 H2 =>
 Do (anilck a0) fun x3 =>
 Do (afaddr 0 x3) fun x4 =>
 Do (aload H2 1 false x4) fun x5 =>
 Do (aiaddr none 2 x5 (.int .i64 0)) fun x6 =>
 Do (afaddr 1 x6) fun x7 =>
 Do (aload H2 1 false x7) fun x8 =>
 Do (abuild [.int .i64 0, .int .i64 0, .str [], .str [], .int .i64 0, .str [], .lst .nil 0 [], .lst .nil 0 [], .lst .nil 0 [], .lst .nil 0 []] [(1, 1, x8)]) fun x9 =>
 DoH (some (abox H2 true [.int .i64 0, .int .i64 0, .str [], .str [], .int .i64 0, .str [], .lst .nil 0 [], .lst .nil 0 [], .lst .nil 0 [], .lst .nil 0 []])) fun x10 H11 =>
 Do (astore H11 10 x10 x9) fun H12 =>
Φ K.parse_parser_is [a0, (.str [108, 101, 116])] H12 fun x15 H16 =>
 Gd x15 true (
Φ K.parse_parser_name [a0] H16 fun x17 H18 =>
Φ K.parse_parser_value [a0, a1] H18 fun x19 H20 =>
 Do (afaddr 0 x10) fun x21 =>
 Do (astore H20 1 x21 (.int .i64 1)) fun H22 =>
 Do (afaddr 2 x10) fun x23 =>
 Do (astore H22 1 x23 x17) fun H24 =>
 Do (afaddr 7 x10) fun x25 =>
 Do (astore H24 1 x25 x19) fun H26 =>
 JoinP (parse_parser_stmt_k1 Φ a0 x1 x10 Q) [] H26) (
Φ K.parse_parser_is [a0, (.str [115, 101, 116])] H16 fun x32 H33 =>
 Gd x32 true (
Φ K.parse_parser_name [a0] H33 fun x34 H35 =>
Φ K.parse_parser_value [a0, a1] H35 fun x36 H37 =>
 Do (afaddr 0 x10) fun x38 =>
 Do (astore H37 1 x38 (.int .i64 2)) fun H39 =>
 Do (afaddr 2 x10) fun x40 =>
 Do (astore H39 1 x40 x34) fun H41 =>
 Do (afaddr 7 x10) fun x42 =>
 Do (astore H41 1 x42 x36) fun H43 =>
 JoinP (parse_parser_stmt_k1 Φ a0 x1 x10 Q) [] H43) (
Φ K.parse_parser_is [a0, (.str [119, 114, 105, 116, 101])] H33 fun x44 H45 =>
 Gd x44 true (
Φ K.parse_parser_place [a0, a1] H45 fun x46 H47 =>
Φ K.parse_parser_value [a0, a1] H47 fun x48 H49 =>
 Do (afaddr 0 x10) fun x50 =>
 Do (astore H49 1 x50 (.int .i64 3)) fun H51 =>
 Do (afaddr 5 x10) fun x52 =>
 Do (astore H51 2 x52 x46) fun H53 =>
 Do (afaddr 7 x10) fun x54 =>
 Do (astore H53 1 x54 x48) fun H55 =>
 JoinP (parse_parser_stmt_k1 Φ a0 x1 x10 Q) [] H55) (
Φ K.parse_parser_is [a0, (.str [115, 116, 111, 114, 101])] H45 fun x56 H57 =>
 Gd x56 true (
Φ K.parse_parser_order [a0] H57 fun x58 H59 =>
Φ K.parse_parser_place [a0, a1] H59 fun x60 H61 =>
Φ K.parse_parser_value [a0, a1] H61 fun x62 H63 =>
 Do (afaddr 0 x10) fun x64 =>
 Do (astore H63 1 x64 (.int .i64 4)) fun H65 =>
 Do (afaddr 4 x10) fun x66 =>
 Do (astore H65 1 x66 x58) fun H67 =>
 Do (afaddr 5 x10) fun x68 =>
 Do (astore H67 2 x68 x60) fun H69 =>
 Do (afaddr 7 x10) fun x70 =>
 Do (astore H69 1 x70 x62) fun H71 =>
 JoinP (parse_parser_stmt_k1 Φ a0 x1 x10 Q) [] H71) (
Φ K.parse_parser_is [a0, (.str [108, 111, 97, 100, 50])] H57 fun x72 H73 =>
 Gd x72 true (
Φ K.parse_parser_order [a0] H73 fun x74 H75 =>
Φ K.parse_parser_place [a0, a1] H75 fun x76 H77 =>
Φ K.parse_parser_name [a0] H77 fun x78 H79 =>
Φ K.parse_parser_name [a0] H79 fun x80 H81 =>
 Do (afaddr 0 x10) fun x82 =>
 Do (astore H81 1 x82 (.int .i64 5)) fun H83 =>
 Do (afaddr 4 x10) fun x84 =>
 Do (astore H83 1 x84 x74) fun H85 =>
 Do (afaddr 5 x10) fun x86 =>
 Do (astore H85 2 x86 x76) fun H87 =>
 Do (afaddr 2 x10) fun x88 =>
 Do (astore H87 1 x88 x78) fun H89 =>
 Do (afaddr 3 x10) fun x90 =>
 Do (astore H89 1 x90 x80) fun H91 =>
 JoinP (parse_parser_stmt_k1 Φ a0 x1 x10 Q) [] H91) (
Φ K.parse_parser_is [a0, (.str [115, 116, 111, 114, 101, 50])] H73 fun x92 H93 =>
 Gd x92 true (
Φ K.parse_parser_order [a0] H93 fun x94 H95 =>
Φ K.parse_parser_place [a0, a1] H95 fun x96 H97 =>
Φ K.parse_parser_value [a0, a1] H97 fun x98 H99 =>
 Do (afaddr 0 x10) fun x100 =>
 Do (astore H99 1 x100 (.int .i64 6)) fun H101 =>
 Do (afaddr 4 x10) fun x102 =>
 Do (astore H101 1 x102 x94) fun H103 =>
 Do (afaddr 5 x10) fun x104 =>
 Do (astore H103 2 x104 x96) fun H105 =>
 Do (afaddr 7 x10) fun x106 =>
 Do (astore H105 1 x106 x98) fun H107 =>
Φ K.parse_parser_want [a0, (.str [44])] H107 fun x108 H109 =>
 Do (afaddr 7 x10) fun x110 =>
 Do (aload H109 1 false x110) fun x111 =>
 Do (abin .add a1 (.int .i64 1)) fun x112 =>
Φ K.parse_parser_expr [a0, x112] H109 fun x113 H114 =>
(aload H114 1 false x110 = some x111) ∧
(DoH (abslice H114 false 8 1 [.int .i64 0, .int .u64 0, .str [], .int .i64 0, .int .i64 0, .str [], .lst .nil 0 [], .lst .nil 0 []] [(0, 8, x113)]) fun x115 H116 =>
 DoH (aappend H116 false 8 112 x111 x115) fun x117 H118 =>
 Do (afaddr 7 x10) fun x119 =>
 Do (astore H118 1 x119 x117) fun H120 =>
 JoinP (parse_parser_stmt_k1 Φ a0 x1 x10 Q) [] H120)) (
Φ K.parse_parser_is [a0, (.str [102, 101, 110, 99, 101])] H93 fun x121 H122 =>
 Gd x121 true (
Φ K.parse_parser_order [a0] H122 fun x123 H124 =>
 Do (afaddr 0 x10) fun x125 =>
 Do (astore H124 1 x125 (.int .i64 7)) fun H126 =>
 Do (afaddr 4 x10) fun x127 =>
 Do (astore H126 1 x127 x123) fun H128 =>
 JoinP (parse_parser_stmt_k1 Φ a0 x1 x10 Q) [] H128) (
Φ K.parse_parser_is [a0, (.str [112, 114, 105, 110, 116])] H122 fun x129 H130 =>
 Gd x129 true (
 Do (abin .add a1 (.int .i64 1)) fun x131 =>
Φ K.parse_parser_expr [a0, x131] H130 fun x132 H133 =>
 DoH (abslice H133 false 8 1 [.int .i64 0, .int .u64 0, .str [], .int .i64 0, .int .i64 0, .str [], .lst .nil 0 [], .lst .nil 0 []] [(0, 8, x132)]) fun x134 H135 =>
 Do (afaddr 0 x10) fun x136 =>
 Do (astore H135 1 x136 (.int .i64 10)) fun H137 =>
 Do (afaddr 7 x10) fun x138 =>
 Do (astore H137 1 x138 x134) fun H139 =>
 JoinP (parse_parser_stmt_k1 Φ a0 x1 x10 Q) [] H139) (
 Do (aload H130 10 true x10) fun x140 =>
Φ K.parse_parser_control [a0, x140, a1] H130 fun x141 H142 =>
 Do (astore H142 10 x1 x141) fun H143 =>
 Do (aload H143 10 true x1) fun x144 =>
 Q x144 H143))))))))
def ir_parse_parser_stmt : AFunc := ⟨130, [.cell 4 10 true],
 .seq (.region [
   ⟨some 4, .alloc true [.int .i64 0, .int .i64 0, .str [], .str [], .int .i64 0, .str [], .lst .nil 0 [], .lst .nil 0 [], .lst .nil 0 [], .lst .nil 0 []], none⟩])
 (.seq (.region [
   ⟨some 6, .mv (.t 0), none⟩,
   ⟨some 7, .nilck (.t 6), none⟩,
   ⟨some 8, .faddr 0 (.t 7), none⟩,
   ⟨some 9, .load 1 false (.t 8), none⟩,
   ⟨some 10, .iaddr none 2 (.t 9) (.k (.int .i64 0)), none⟩,
   ⟨some 11, .faddr 1 (.t 10), none⟩,
   ⟨some 12, .load 1 false (.t 11), none⟩,
   ⟨some 13, .build [.int .i64 0, .int .i64 0, .str [], .str [], .int .i64 0, .str [], .lst .nil 0 [], .lst .nil 0 [], .lst .nil 0 [], .lst .nil 0 []] [(1, 1, (.t 12))], none⟩,
   ⟨some 5, .alloc true [.int .i64 0, .int .i64 0, .str [], .str [], .int .i64 0, .str [], .lst .nil 0 [], .lst .nil 0 [], .lst .nil 0 [], .lst .nil 0 []], none⟩,
   ⟨none, .store 10 (.t 5) (.t 13), none⟩])
 (.join [] [14, 15, 16, 17, 18, 19, 20, 21, 22, 23, 24, 25, 26, 27, 28, 29, 30, 31, 32, 33, 34, 35, 36, 37, 38, 39, 40, 41, 42, 43, 44, 45, 46, 47, 48, 49, 50, 51, 52, 53, 54, 55, 56, 57, 58, 59, 60, 61, 62, 63, 64, 65, 66, 67, 68, 69, 70, 71, 72, 73, 74, 75, 76, 77, 78, 79, 80, 81, 82, 83, 84, 85, 86, 87, 88, 89, 90, 91, 92, 93, 94, 95, 96, 97, 98, 99, 100, 101, 102, 103, 104, 105, 106, 107, 108, 109, 110, 111, 112, 113, 114, 115, 116, 117, 118, 119, 120, 121, 122, 123, 124, 125, 126] (.block 0 (.seq (.region [
   ⟨some 19, .mv (.t 0), none⟩,
   ⟨some 20, .call K.parse_parser_is [(.t 19), (.k (.str [108, 101, 116]))], none⟩,
   ⟨some 18, .mv (.t 20), none⟩])
 (.cond (.t 18) (.region [
     ⟨some 21, .mv (.t 0), none⟩,
     ⟨some 22, .call K.parse_parser_name [(.t 21)], none⟩,
     ⟨some 23, .mv (.t 0), none⟩,
     ⟨some 24, .mv (.t 1), none⟩,
     ⟨some 25, .call K.parse_parser_value [(.t 23), (.t 24)], none⟩,
     ⟨some 26, .faddr 0 (.t 5), none⟩,
     ⟨none, .store 1 (.t 26) (.k (.int .i64 1)), none⟩,
     ⟨some 27, .faddr 2 (.t 5), none⟩,
     ⟨none, .store 1 (.t 27) (.t 22), none⟩,
     ⟨some 28, .faddr 7 (.t 5), none⟩,
     ⟨none, .store 1 (.t 28) (.t 25), none⟩])
   (.seq (.region [
     ⟨some 30, .mv (.t 0), none⟩,
     ⟨some 31, .call K.parse_parser_is [(.t 30), (.k (.str [115, 101, 116]))], none⟩,
     ⟨some 29, .mv (.t 31), none⟩])
   (.cond (.t 29) (.region [
       ⟨some 32, .mv (.t 0), none⟩,
       ⟨some 33, .call K.parse_parser_name [(.t 32)], none⟩,
       ⟨some 34, .mv (.t 0), none⟩,
       ⟨some 35, .mv (.t 1), none⟩,
       ⟨some 36, .call K.parse_parser_value [(.t 34), (.t 35)], none⟩,
       ⟨some 37, .faddr 0 (.t 5), none⟩,
       ⟨none, .store 1 (.t 37) (.k (.int .i64 2)), none⟩,
       ⟨some 38, .faddr 2 (.t 5), none⟩,
       ⟨none, .store 1 (.t 38) (.t 33), none⟩,
       ⟨some 39, .faddr 7 (.t 5), none⟩,
       ⟨none, .store 1 (.t 39) (.t 36), none⟩])
     (.seq (.region [
       ⟨some 41, .mv (.t 0), none⟩,
       ⟨some 42, .call K.parse_parser_is [(.t 41), (.k (.str [119, 114, 105, 116, 101]))], none⟩,
       ⟨some 40, .mv (.t 42), none⟩])
     (.cond (.t 40) (.region [
         ⟨some 43, .mv (.t 0), none⟩,
         ⟨some 44, .mv (.t 1), none⟩,
         ⟨some 45, .call K.parse_parser_place [(.t 43), (.t 44)], none⟩,
         ⟨some 46, .mv (.t 0), none⟩,
         ⟨some 47, .mv (.t 1), none⟩,
         ⟨some 48, .call K.parse_parser_value [(.t 46), (.t 47)], none⟩,
         ⟨some 49, .faddr 0 (.t 5), none⟩,
         ⟨none, .store 1 (.t 49) (.k (.int .i64 3)), none⟩,
         ⟨some 50, .faddr 5 (.t 5), none⟩,
         ⟨none, .store 2 (.t 50) (.t 45), none⟩,
         ⟨some 51, .faddr 7 (.t 5), none⟩,
         ⟨none, .store 1 (.t 51) (.t 48), none⟩])
       (.seq (.region [
         ⟨some 53, .mv (.t 0), none⟩,
         ⟨some 54, .call K.parse_parser_is [(.t 53), (.k (.str [115, 116, 111, 114, 101]))], none⟩,
         ⟨some 52, .mv (.t 54), none⟩])
       (.cond (.t 52) (.region [
           ⟨some 55, .mv (.t 0), none⟩,
           ⟨some 56, .call K.parse_parser_order [(.t 55)], none⟩,
           ⟨some 57, .mv (.t 0), none⟩,
           ⟨some 58, .mv (.t 1), none⟩,
           ⟨some 59, .call K.parse_parser_place [(.t 57), (.t 58)], none⟩,
           ⟨some 60, .mv (.t 0), none⟩,
           ⟨some 61, .mv (.t 1), none⟩,
           ⟨some 62, .call K.parse_parser_value [(.t 60), (.t 61)], none⟩,
           ⟨some 63, .faddr 0 (.t 5), none⟩,
           ⟨none, .store 1 (.t 63) (.k (.int .i64 4)), none⟩,
           ⟨some 64, .faddr 4 (.t 5), none⟩,
           ⟨none, .store 1 (.t 64) (.t 56), none⟩,
           ⟨some 65, .faddr 5 (.t 5), none⟩,
           ⟨none, .store 2 (.t 65) (.t 59), none⟩,
           ⟨some 66, .faddr 7 (.t 5), none⟩,
           ⟨none, .store 1 (.t 66) (.t 62), none⟩])
         (.seq (.region [
           ⟨some 68, .mv (.t 0), none⟩,
           ⟨some 69, .call K.parse_parser_is [(.t 68), (.k (.str [108, 111, 97, 100, 50]))], none⟩,
           ⟨some 67, .mv (.t 69), none⟩])
         (.cond (.t 67) (.region [
             ⟨some 70, .mv (.t 0), none⟩,
             ⟨some 71, .call K.parse_parser_order [(.t 70)], none⟩,
             ⟨some 72, .mv (.t 0), none⟩,
             ⟨some 73, .mv (.t 1), none⟩,
             ⟨some 74, .call K.parse_parser_place [(.t 72), (.t 73)], none⟩,
             ⟨some 75, .mv (.t 0), none⟩,
             ⟨some 76, .call K.parse_parser_name [(.t 75)], none⟩,
             ⟨some 77, .mv (.t 0), none⟩,
             ⟨some 78, .call K.parse_parser_name [(.t 77)], none⟩,
             ⟨some 79, .faddr 0 (.t 5), none⟩,
             ⟨none, .store 1 (.t 79) (.k (.int .i64 5)), none⟩,
             ⟨some 80, .faddr 4 (.t 5), none⟩,
             ⟨none, .store 1 (.t 80) (.t 71), none⟩,
             ⟨some 81, .faddr 5 (.t 5), none⟩,
             ⟨none, .store 2 (.t 81) (.t 74), none⟩,
             ⟨some 82, .faddr 2 (.t 5), none⟩,
             ⟨none, .store 1 (.t 82) (.t 76), none⟩,
             ⟨some 83, .faddr 3 (.t 5), none⟩,
             ⟨none, .store 1 (.t 83) (.t 78), none⟩])
           (.seq (.region [
             ⟨some 85, .mv (.t 0), none⟩,
             ⟨some 86, .call K.parse_parser_is [(.t 85), (.k (.str [115, 116, 111, 114, 101, 50]))], none⟩,
             ⟨some 84, .mv (.t 86), none⟩])
           (.cond (.t 84) (.seq (.region [
               ⟨some 87, .mv (.t 0), none⟩,
               ⟨some 88, .call K.parse_parser_order [(.t 87)], none⟩,
               ⟨some 89, .mv (.t 0), none⟩,
               ⟨some 90, .mv (.t 1), none⟩,
               ⟨some 91, .call K.parse_parser_place [(.t 89), (.t 90)], none⟩,
               ⟨some 92, .mv (.t 0), none⟩,
               ⟨some 93, .mv (.t 1), none⟩,
               ⟨some 94, .call K.parse_parser_value [(.t 92), (.t 93)], none⟩,
               ⟨some 95, .faddr 0 (.t 5), none⟩,
               ⟨none, .store 1 (.t 95) (.k (.int .i64 6)), none⟩,
               ⟨some 96, .faddr 4 (.t 5), none⟩,
               ⟨none, .store 1 (.t 96) (.t 88), none⟩,
               ⟨some 97, .faddr 5 (.t 5), none⟩,
               ⟨none, .store 2 (.t 97) (.t 91), none⟩,
               ⟨some 98, .faddr 7 (.t 5), none⟩,
               ⟨none, .store 1 (.t 98) (.t 94), none⟩])
             (.seq (.region [
               ⟨some 99, .mv (.t 0), none⟩,
               ⟨some 100, .call K.parse_parser_want [(.t 99), (.k (.str [44]))], none⟩])
             (.draw [
               ⟨some 101, .faddr 7 (.t 5), none⟩,
               ⟨some 102, .load 1 false (.t 101), none⟩,
               ⟨some 103, .mv (.t 0), none⟩,
               ⟨some 104, .mv (.t 1), none⟩,
               ⟨some 105, .bin .add (.t 104) (.k (.int .i64 1)), none⟩,
               ⟨some 106, .call K.parse_parser_expr [(.t 103), (.t 105)], none⟩,
               ⟨some 107, .bslice false 8 1 [.int .i64 0, .int .u64 0, .str [], .int .i64 0, .int .i64 0, .str [], .lst .nil 0 [], .lst .nil 0 []] [(0, 8, (.t 106))], none⟩,
               ⟨some 108, .append false 8 112 (.t 102) (.t 107), none⟩,
               ⟨some 109, .faddr 7 (.t 5), none⟩,
               ⟨none, .store 1 (.t 109) (.t 108), none⟩]
             [[], [0], [], [], [3], [2, 3, 4], [2, 3, 4, 5], [0, 1, 2, 3, 4, 5, 6], [0, 1, 2, 3, 4, 5, 6, 7], [0, 1, 2, 3, 4, 5, 6, 7, 8]] [([0, 1, 2, 3, 4], 5, [1]), ([6], 7, []), ([8], 9, [])] [])))
             (.seq (.region [
               ⟨some 111, .mv (.t 0), none⟩,
               ⟨some 112, .call K.parse_parser_is [(.t 111), (.k (.str [102, 101, 110, 99, 101]))], none⟩,
               ⟨some 110, .mv (.t 112), none⟩])
             (.cond (.t 110) (.region [
                 ⟨some 113, .mv (.t 0), none⟩,
                 ⟨some 114, .call K.parse_parser_order [(.t 113)], none⟩,
                 ⟨some 115, .faddr 0 (.t 5), none⟩,
                 ⟨none, .store 1 (.t 115) (.k (.int .i64 7)), none⟩,
                 ⟨some 116, .faddr 4 (.t 5), none⟩,
                 ⟨none, .store 1 (.t 116) (.t 114), none⟩])
               (.seq (.region [
                 ⟨some 118, .mv (.t 0), none⟩,
                 ⟨some 119, .call K.parse_parser_is [(.t 118), (.k (.str [112, 114, 105, 110, 116]))], none⟩,
                 ⟨some 117, .mv (.t 119), none⟩])
               (.cond (.t 117) (.region [
                   ⟨some 120, .mv (.t 0), none⟩,
                   ⟨some 121, .mv (.t 1), none⟩,
                   ⟨some 122, .bin .add (.t 121) (.k (.int .i64 1)), none⟩,
                   ⟨some 123, .call K.parse_parser_expr [(.t 120), (.t 122)], none⟩,
                   ⟨some 124, .bslice false 8 1 [.int .i64 0, .int .u64 0, .str [], .int .i64 0, .int .i64 0, .str [], .lst .nil 0 [], .lst .nil 0 []] [(0, 8, (.t 123))], none⟩,
                   ⟨some 125, .faddr 0 (.t 5), none⟩,
                   ⟨none, .store 1 (.t 125) (.k (.int .i64 10)), none⟩,
                   ⟨some 126, .faddr 7 (.t 5), none⟩,
                   ⟨none, .store 1 (.t 126) (.t 124), none⟩])
                 (.seq (.region [
                   ⟨some 14, .mv (.t 0), none⟩,
                   ⟨some 15, .load 10 true (.t 5), none⟩,
                   ⟨some 16, .mv (.t 1), none⟩,
                   ⟨some 17, .call K.parse_parser_control [(.t 14), (.t 15), (.t 16)], none⟩,
                   ⟨none, .store 10 (.t 4) (.t 17), none⟩])
                 (.ret)))))))))))))))))))
 (.seq (.region [
   ⟨some 127, .mv (.t 0), none⟩,
   ⟨some 128, .call K.parse_parser_want [(.t 127), (.k (.str [59]))], none⟩])
 (.seq (.region [
   ⟨some 129, .load 10 true (.t 5), none⟩,
   ⟨none, .store 10 (.t 4) (.t 129), none⟩])
 (.ret)))))⟩
theorem eq_parse_parser_stmt (Φ : Calls') (a0 a1 : AV) (H : AH) (Q : Post) : fnE1 Φ ir_parse_parser_stmt [a0, a1] H Q = parse_parser_stmt Φ a0 a1 H Q := by kernel_rfl

/-! (rabbet/lex.scanner).next -/
def lex_scanner_next (Φ : Calls') (a0 : AV) (H : AH) (Q : Post) : Prop :=
 Do (anilck a0) fun x1 =>
 Do (afaddr 0 x1) fun x2 =>
 Do (aload H 1 false x2) fun x3 =>
 Do (anilck a0) fun x4 =>
 Do (afaddr 1 x4) fun x5 =>
 Do (aload H 1 false x5) fun x6 =>
 Do (aidxs x3 x6) fun x7 =>
 Do (abin .eql x7 (.int .u8 10)) fun x8 =>
 Gd x8 true (
 Do (anilck a0) fun x9 =>
 Do (afaddr 2 x9) fun x10 =>
 Do (aload H 1 false x10) fun x11 =>
 Do (abin .add x11 (.int .i64 1)) fun x12 =>
 Do (anilck a0) fun x13 =>
 Do (afaddr 2 x13) fun x14 =>
 Do (astore H 1 x14 x12) fun H15 =>
 Do (anilck a0) fun x16 =>
 Do (afaddr 1 x16) fun x17 =>
 Do (aload H15 1 false x17) fun x18 =>
 Do (abin .add x18 (.int .i64 1)) fun x19 =>
 Do (anilck a0) fun x20 =>
 Do (afaddr 1 x20) fun x21 =>
 Do (astore H15 1 x21 x19) fun H22 =>
 Q (.bool true) H22) (
 Do (abin .eql x7 (.int .u8 32)) fun x23 =>
 Gd x23 true (
 Do (anilck a0) fun x24 =>
 Do (afaddr 1 x24) fun x25 =>
 Do (aload H 1 false x25) fun x26 =>
 Do (abin .add x26 (.int .i64 1)) fun x27 =>
 Do (anilck a0) fun x28 =>
 Do (afaddr 1 x28) fun x29 =>
 Do (astore H 1 x29 x27) fun H30 =>
 Q (.bool true) H30) (
Φ K.lex_letter [x7] H fun x31 H32 =>
 Gd x31 true (
Φ K.lex_scanner_word [a0] H32 fun x33 H34 =>
 Q x33 H34) (
Φ K.lex_digit [x7] H32 fun x35 H36 =>
 Gd x35 true (
Φ K.lex_scanner_number [a0] H36 fun x37 H38 =>
 Q x37 H38) (
Φ K.lex_scanner_sign [a0] H36 fun x39 H40 =>
 Q x39 H40))))
def ir_lex_scanner_next : AFunc := ⟨52, [.tmp 2],
 .seq (.region [
   ⟨some 2, .mv (.k (.bool false)), none⟩])
 (.seq (.seq (.draw [
   ⟨some 4, .mv (.t 0), none⟩,
   ⟨some 5, .nilck (.t 4), none⟩,
   ⟨some 6, .faddr 0 (.t 5), none⟩,
   ⟨some 7, .load 1 false (.t 6), none⟩,
   ⟨some 8, .mv (.t 0), none⟩,
   ⟨some 9, .nilck (.t 8), none⟩,
   ⟨some 10, .faddr 1 (.t 9), none⟩,
   ⟨some 11, .load 1 false (.t 10), none⟩,
   ⟨some 12, .idxs (.t 7) (.t 11), none⟩,
   ⟨some 3, .mv (.t 12), none⟩]
 [[], [0], [0, 1], [0, 1, 2], [], [4], [4, 5], [4, 5, 6], [0, 1, 2, 3, 4, 5, 6, 7], [0, 1, 2, 3, 4, 5, 6, 7, 8]] [] [0, 1, 2, 3, 4, 5, 6, 7, 8, 9])
 (.block 0 (.seq (.region [
   ⟨some 16, .mv (.t 3), none⟩,
   ⟨some 17, .bin .eql (.t 16) (.k (.int .u8 10)), none⟩,
   ⟨some 15, .mv (.t 17), none⟩])
 (.cond (.t 15) (.seq (.region [
     ⟨some 18, .mv (.t 0), none⟩,
     ⟨some 19, .nilck (.t 18), none⟩,
     ⟨some 20, .faddr 2 (.t 19), none⟩,
     ⟨some 21, .load 1 false (.t 20), none⟩,
     ⟨some 22, .bin .add (.t 21) (.k (.int .i64 1)), none⟩,
     ⟨some 23, .nilck (.t 18), none⟩,
     ⟨some 24, .faddr 2 (.t 23), none⟩,
     ⟨none, .store 1 (.t 24) (.t 22), none⟩])
   (.region [
     ⟨some 25, .mv (.t 0), none⟩,
     ⟨some 26, .nilck (.t 25), none⟩,
     ⟨some 27, .faddr 1 (.t 26), none⟩,
     ⟨some 28, .load 1 false (.t 27), none⟩,
     ⟨some 29, .bin .add (.t 28) (.k (.int .i64 1)), none⟩,
     ⟨some 30, .nilck (.t 25), none⟩,
     ⟨some 31, .faddr 1 (.t 30), none⟩,
     ⟨none, .store 1 (.t 31) (.t 29), none⟩]))
   (.seq (.region [
     ⟨some 33, .mv (.t 3), none⟩,
     ⟨some 34, .bin .eql (.t 33) (.k (.int .u8 32)), none⟩,
     ⟨some 32, .mv (.t 34), none⟩])
   (.cond (.t 32) (.region [
       ⟨some 35, .mv (.t 0), none⟩,
       ⟨some 36, .nilck (.t 35), none⟩,
       ⟨some 37, .faddr 1 (.t 36), none⟩,
       ⟨some 38, .load 1 false (.t 37), none⟩,
       ⟨some 39, .bin .add (.t 38) (.k (.int .i64 1)), none⟩,
       ⟨some 40, .nilck (.t 35), none⟩,
       ⟨some 41, .faddr 1 (.t 40), none⟩,
       ⟨none, .store 1 (.t 41) (.t 39), none⟩])
     (.seq (.region [
       ⟨some 43, .mv (.t 3), none⟩,
       ⟨some 44, .call K.lex_letter [(.t 43)], none⟩,
       ⟨some 42, .mv (.t 44), none⟩])
     (.cond (.t 42) (.seq (.region [
         ⟨some 45, .mv (.t 0), none⟩,
         ⟨some 46, .call K.lex_scanner_word [(.t 45)], none⟩,
         ⟨some 2, .mv (.t 46), none⟩])
       (.ret))
       (.seq (.region [
         ⟨some 48, .mv (.t 3), none⟩,
         ⟨some 49, .call K.lex_digit [(.t 48)], none⟩,
         ⟨some 47, .mv (.t 49), none⟩])
       (.cond (.t 47) (.seq (.region [
           ⟨some 50, .mv (.t 0), none⟩,
           ⟨some 51, .call K.lex_scanner_number [(.t 50)], none⟩,
           ⟨some 2, .mv (.t 51), none⟩])
         (.ret))
         (.seq (.region [
           ⟨some 13, .mv (.t 0), none⟩,
           ⟨some 14, .call K.lex_scanner_sign [(.t 13)], none⟩,
           ⟨some 2, .mv (.t 14), none⟩])
         (.ret))))))))))))
 (.seq (.region [
   ⟨some 2, .mv (.k (.bool true)), none⟩])
 (.ret)))⟩
theorem eq_lex_scanner_next (Φ : Calls') (a0 : AV) (H : AH) (Q : Post) : fnE1 Φ ir_lex_scanner_next [a0] H Q = lex_scanner_next Φ a0 H Q := by kernel_rfl

/-! slices.Contains[[]string,string] -/
def slices_Contains___string_string_ (Φ : Calls') (a0 : AV) (a1 : AV) (H : AH) (Q : Post) : Prop :=
Φ K.slices_Index___string_string_ [a0, a1] H fun x1 H2 =>
 Do (abin .geq x1 (.int .i64 0)) fun x3 =>
 Q x3 H2
def ir_slices_Contains___string_string_ : AFunc := ⟨9, [.tmp 4],
 .seq (.region [
   ⟨some 4, .mv (.k (.bool false)), none⟩])
 (.seq (.region [
   ⟨some 5, .mv (.t 0), none⟩,
   ⟨some 6, .mv (.t 1), none⟩,
   ⟨some 7, .call K.slices_Index___string_string_ [(.t 5), (.t 6)], none⟩,
   ⟨some 8, .bin .geq (.t 7) (.k (.int .i64 0)), none⟩,
   ⟨some 4, .mv (.t 8), none⟩])
 (.ret))⟩
theorem eq_slices_Contains___string_string_ (Φ : Calls') (a0 a1 : AV) (H : AH) (Q : Post) : fnE1 Φ ir_slices_Contains___string_string_ [a0, a1] H Q = slices_Contains___string_string_ Φ a0 a1 H Q := by kernel_rfl

/-! rabbet/parse.digits -/
def parse_digits_k1 (Φ : Calls') (a0 : AV) (Q : Post) : List AV → AH → Prop := fun j1 H2 =>
 Gd3 (sl j1 0) true (
 Do (aidxs a0 (.int .i64 0)) fun x6 =>
 Do (abin .leq x6 (.int .u8 57)) fun x7 =>
 Q x7 H2) (
 Q (.bool false) H2) (
 False)
def parse_digits (Φ : Calls') (a0 : AV) (H : AH) (Q : Post) : Prop :=
 Do (abin .neq a0 (.str [])) fun x3 =>
 Gd3 x3 true (
 Do (aidxs a0 (.int .i64 0)) fun x4 =>
 Do (abin .geq x4 (.int .u8 48)) fun x5 =>
 JoinP (parse_digits_k1 Φ a0 Q) [x5] H) (
 JoinP (parse_digits_k1 Φ a0 Q) [(.bool false)] H) (
 False)
def ir_parse_digits : AFunc := ⟨15, [.tmp 2],
 .seq (.region [
   ⟨some 2, .mv (.k (.bool false)), none⟩])
 (.seq (.rjoin [9] [3, 4, 5, 6, 7, 8] [
   ⟨some 3, .mv (.t 0), none⟩,
   ⟨some 4, .bin .neq (.t 3) (.k (.str [])), none⟩,
   ⟨some 5, .mv (.t 4), none⟩,
   ⟨some 6, .mv (.t 0), some (5, true)⟩,
   ⟨some 7, .idxs (.t 6) (.k (.int .i64 0)), some (5, true)⟩,
   ⟨some 8, .bin .geq (.t 7) (.k (.int .u8 48)), some (5, true)⟩,
   ⟨some 9, .pick (.t 5) (.t 8) (.k (.bool false)), none⟩]
 (.region [
   ⟨some 10, .mv (.t 9), none⟩,
   ⟨some 11, .mv (.t 0), some (10, true)⟩,
   ⟨some 12, .idxs (.t 11) (.k (.int .i64 0)), some (10, true)⟩,
   ⟨some 13, .bin .leq (.t 12) (.k (.int .u8 57)), some (10, true)⟩,
   ⟨some 14, .pick (.t 10) (.t 13) (.k (.bool false)), none⟩,
   ⟨some 2, .mv (.t 14), none⟩]))
 (.ret))⟩
theorem eq_parse_digits (Φ : Calls') (a0 : AV) (H : AH) (Q : Post) : fnE1 Φ ir_parse_digits [a0] H Q = parse_digits Φ a0 H Q := by kernel_rfl

/-! (rabbet/parse.parser).value -/
def parse_parser_value (Φ : Calls') (a0 : AV) (a1 : AV) (H : AH) (Q : Post) : Prop :=
Φ K.parse_parser_want [a0, (.str [61])] H fun x1 H2 =>
 Do (abin .add a1 (.int .i64 1)) fun x3 =>
Φ K.parse_parser_expr [a0, x3] H2 fun x4 H5 =>
 DoH (abslice H5 false 8 1 [.int .i64 0, .int .u64 0, .str [], .int .i64 0, .int .i64 0, .str [], .lst .nil 0 [], .lst .nil 0 []] [(0, 8, x4)]) fun x6 H7 =>
 Q x6 H7
def ir_parse_parser_value : AFunc := ⟨12, [.tmp 4],
 .seq (.region [
   ⟨some 4, .mv (.k (.lst .nil 0 [])), none⟩])
 (.seq (.region [
   ⟨some 5, .mv (.t 0), none⟩,
   ⟨some 6, .call K.parse_parser_want [(.t 5), (.k (.str [61]))], none⟩])
 (.seq (.region [
   ⟨some 7, .mv (.t 0), none⟩,
   ⟨some 8, .mv (.t 1), none⟩,
   ⟨some 9, .bin .add (.t 8) (.k (.int .i64 1)), none⟩,
   ⟨some 10, .call K.parse_parser_expr [(.t 7), (.t 9)], none⟩,
   ⟨some 11, .bslice false 8 1 [.int .i64 0, .int .u64 0, .str [], .int .i64 0, .int .i64 0, .str [], .lst .nil 0 [], .lst .nil 0 []] [(0, 8, (.t 10))], none⟩,
   ⟨some 4, .mv (.t 11), none⟩])
 (.ret)))⟩
theorem eq_parse_parser_value (Φ : Calls') (a0 a1 : AV) (H : AH) (Q : Post) : fnE1 Φ ir_parse_parser_value [a0, a1] H Q = parse_parser_value Φ a0 a1 H Q := by kernel_rfl

/-! (rabbet/parse.parser).place -/
def parse_parser_place_k1 (Φ : Calls') (x1 : AV) (x6 : AV) (Q : Post) : List AV → AH → Prop := fun j9 H10 =>
 Do (aload H10 2 true x6) fun x50 =>
 Do (astore H10 2 x1 x50) fun H51 =>
 Do (aload H51 2 true x1) fun x52 =>
 Q x52 H51
def parse_parser_place_l2 (Φ : Calls') (a0 : AV) (a1 : AV) (x1 : AV) (x6 : AV) (Q : Post) : (List AV × AH) → ((List AV × AH) → Prop) → Prop := fun s11 L12 =>
Φ K.parse_parser_bad [a0] s11.2 fun x13 H14 =>
 Do (aun .not x13) fun x15 =>
 Gd x15 true (
Φ K.parse_parser_is [a0, (.str [46])] H14 fun x16 H17 =>
 Gd x16 true (
 Do (afaddr 1 x6) fun x18 =>
 Do (aload H17 1 false x18) fun x19 =>
Φ K.parse_parser_name [a0] H17 fun x20 H21 =>
(aload H21 1 false x18 = some x19) ∧
(Do (abuild [.str [], .lst .nil 0 []] [(0, 1, x20)]) fun x22 =>
 DoH (abslice H21 false 2 1 [.str [], .lst .nil 0 []] [(0, 2, x22)]) fun x23 H24 =>
 DoH (aappend H24 false 2 40 x19 x23) fun x25 H26 =>
 Do (afaddr 1 x6) fun x27 =>
 Do (astore H26 1 x27 x25) fun H28 =>
 L12 ([], H28))) (
Φ K.parse_parser_is [a0, (.str [91])] H17 fun x29 H30 =>
 Gd x29 true (
 Do (afaddr 1 x6) fun x31 =>
 Do (aload H30 1 false x31) fun x32 =>
 Do (abin .add a1 (.int .i64 1)) fun x33 =>
Φ K.parse_parser_expr [a0, x33] H30 fun x34 H35 =>
(aload H35 1 false x31 = some x32) ∧
(DoH (abslice H35 false 8 1 [.int .i64 0, .int .u64 0, .str [], .int .i64 0, .int .i64 0, .str [], .lst .nil 0 [], .lst .nil 0 []] [(0, 8, x34)]) fun x36 H37 =>
 Do (abuild [.str [], .lst .nil 0 []] [(1, 1, x36)]) fun x38 =>
 DoH (abslice H37 false 2 1 [.str [], .lst .nil 0 []] [(0, 2, x38)]) fun x39 H40 =>
 DoH (aappend H40 false 2 40 x32 x39) fun x41 H42 =>
 Do (afaddr 1 x6) fun x43 =>
 Do (astore H42 1 x43 x41) fun H44 =>
Φ K.parse_parser_want [a0, (.str [93])] H44 fun x45 H46 =>
 L12 ([], H46))) (
 Do (aload H30 2 true x6) fun x47 =>
 Do (astore H30 2 x1 x47) fun H48 =>
 Do (aload H48 2 true x1) fun x49 =>
 Q x49 H48))) (
 JoinP (parse_parser_place_k1 Φ x1 x6 Q) [] H14)
def parse_parser_place (Φ : Calls') (a0 : AV) (a1 : AV) (H : AH) (Q : Post) : Prop :=
 DoH (some (abox H true [.str [], .lst .nil 0 []])) fun x1 H2 =>
Φ K.parse_parser_name [a0] H2 fun x3 H4 =>
 Do (abuild [.str [], .lst .nil 0 []] [(0, 1, x3)]) fun x5 =>
 DoH (some (abox H4 true [.str [], .lst .nil 0 []])) fun x6 H7 =>
 Do (astore H7 2 x6 x5) fun H8 =>
 LoopP (parse_parser_place_l2 Φ a0 a1 x1 x6 Q) ([], H8)
def ir_parse_parser_place : AFunc := ⟨41, [.cell 4 2 true],
 .seq (.region [
   ⟨some 4, .alloc true [.str [], .lst .nil 0 []], none⟩])
 (.seq (.region [
   ⟨some 6, .mv (.t 0), none⟩,
   ⟨some 7, .call K.parse_parser_name [(.t 6)], none⟩,
   ⟨some 8, .build [.str [], .lst .nil 0 []] [(0, 1, (.t 7))], none⟩,
   ⟨some 5, .alloc true [.str [], .lst .nil 0 []], none⟩,
   ⟨none, .store 2 (.t 5) (.t 8), none⟩])
 (.join [] [9, 10, 11, 12, 13, 14, 15, 16, 17, 18, 19, 20, 21, 22, 23, 24, 25, 26, 27, 28, 29, 30, 31, 32, 33, 34, 35, 36, 37, 38, 39] (.block 0 (.loop [] [9, 10, 11, 12, 13, 14, 15, 16, 17, 18, 19, 20, 21, 22, 23, 24, 25, 26, 27, 28, 29, 30, 31, 32, 33, 34, 35, 36, 37, 38, 39] (.seq (.seq (.region [
   ⟨some 9, .mv (.t 0), none⟩,
   ⟨some 10, .call K.parse_parser_bad [(.t 9)], none⟩,
   ⟨some 11, .un .not (.t 10), none⟩])
 (.cond (.t 11) (.skip)
   (.exit 0)))
 (.block 1 (.block 2 (.seq (.region [
   ⟨some 14, .mv (.t 0), none⟩,
   ⟨some 15, .call K.parse_parser_is [(.t 14), (.k (.str [46]))], none⟩,
   ⟨some 13, .mv (.t 15), none⟩])
 (.cond (.t 13) (.draw [
     ⟨some 16, .faddr 1 (.t 5), none⟩,
     ⟨some 17, .load 1 false (.t 16), none⟩,
     ⟨some 18, .mv (.t 0), none⟩,
     ⟨some 19, .call K.parse_parser_name [(.t 18)], none⟩,
     ⟨some 20, .build [.str [], .lst .nil 0 []] [(0, 1, (.t 19))], none⟩,
     ⟨some 21, .bslice false 2 1 [.str [], .lst .nil 0 []] [(0, 2, (.t 20))], none⟩,
     ⟨some 22, .append false 2 40 (.t 17) (.t 21), none⟩,
     ⟨some 23, .faddr 1 (.t 5), none⟩,
     ⟨none, .store 1 (.t 23) (.t 22), none⟩]
   [[], [0], [], [2], [2, 3], [2, 3, 4], [0, 1, 2, 3, 4, 5], [0, 1, 2, 3, 4, 5, 6], [0, 1, 2, 3, 4, 5, 6, 7]] [([0, 1, 2], 3, [1]), ([4, 5], 6, []), ([7], 8, [])] [])
   (.seq (.region [
     ⟨some 25, .mv (.t 0), none⟩,
     ⟨some 26, .call K.parse_parser_is [(.t 25), (.k (.str [91]))], none⟩,
     ⟨some 24, .mv (.t 26), none⟩])
   (.cond (.t 24) (.seq (.draw [
       ⟨some 27, .faddr 1 (.t 5), none⟩,
       ⟨some 28, .load 1 false (.t 27), none⟩,
       ⟨some 29, .mv (.t 0), none⟩,
       ⟨some 30, .mv (.t 1), none⟩,
       ⟨some 31, .bin .add (.t 30) (.k (.int .i64 1)), none⟩,
       ⟨some 32, .call K.parse_parser_expr [(.t 29), (.t 31)], none⟩,
       ⟨some 33, .bslice false 8 1 [.int .i64 0, .int .u64 0, .str [], .int .i64 0, .int .i64 0, .str [], .lst .nil 0 [], .lst .nil 0 []] [(0, 8, (.t 32))], none⟩,
       ⟨some 34, .build [.str [], .lst .nil 0 []] [(1, 1, (.t 33))], none⟩,
       ⟨some 35, .bslice false 2 1 [.str [], .lst .nil 0 []] [(0, 2, (.t 34))], none⟩,
       ⟨some 36, .append false 2 40 (.t 28) (.t 35), none⟩,
       ⟨some 37, .faddr 1 (.t 5), none⟩,
       ⟨none, .store 1 (.t 37) (.t 36), none⟩]
     [[], [0], [], [], [3], [2, 3, 4], [2, 3, 4, 5], [2, 3, 4, 5, 6], [2, 3, 4, 5, 6, 7], [0, 1, 2, 3, 4, 5, 6, 7, 8], [0, 1, 2, 3, 4, 5, 6, 7, 8, 9], [0, 1, 2, 3, 4, 5, 6, 7, 8, 9, 10]] [([0, 1, 2, 3, 4], 5, [1]), ([6, 7, 8], 9, []), ([10], 11, [])] [])
     (.region [
       ⟨some 38, .mv (.t 0), none⟩,
       ⟨some 39, .call K.parse_parser_want [(.t 38), (.k (.str [93]))], none⟩]))
     (.seq (.region [
       ⟨some 12, .load 2 true (.t 5), none⟩,
       ⟨none, .store 2 (.t 4) (.t 12), none⟩])
     (.ret)))))))))))
 (.seq (.region [
   ⟨some 40, .load 2 true (.t 5), none⟩,
   ⟨none, .store 2 (.t 4) (.t 40), none⟩])
 (.ret))))⟩
theorem eq_parse_parser_place (Φ : Calls') (a0 a1 : AV) (H : AH) (Q : Post) : fnE1 Φ ir_parse_parser_place [a0, a1] H Q = parse_parser_place Φ a0 a1 H Q := by kernel_rfl

/-! (rabbet/parse.parser).order -/
def parse_parser_order_k1 (Φ : Calls') (a0 : AV) (Q : Post) : List AV → AH → Prop := fun j1 H2 =>
Φ K.parse_parser_fail [a0, (.int .i64 4)] H2 fun x12 H13 =>
 Q (.int .i64 0) H13
def parse_parser_order_l2 (Φ : Calls') (a0 : AV) (x3 : AV) (Q : Post) : (List AV × AH) → ((List AV × AH) → Prop) → Prop := fun s4 L5 =>
 Do (abin .lss (sl s4.1 0) (.int .i64 4)) fun x6 =>
 Gd x6 true (
 Do (aidx 4 1 false x3 (sl s4.1 0)) fun x7 =>
Φ K.parse_parser_is [a0, x7] s4.2 fun x8 H9 =>
 Gd x8 true (
 Do (abin .add (sl s4.1 0) (.int .i64 1)) fun x10 =>
 Q x10 H9) (
 Do (abin .add (sl s4.1 0) (.int .i64 1)) fun x11 =>
 L5 ([x11], H9))) (
 JoinP (parse_parser_order_k1 Φ a0 Q) [] s4.2)
def parse_parser_order (Φ : Calls') (a0 : AV) (H : AH) (Q : Post) : Prop :=
 Do (abuild [.str [], .str [], .str [], .str []] [(0, 1, (.str [114, 108, 120])), (1, 1, (.str [97, 99, 113])), (2, 1, (.str [114, 101, 108])), (3, 1, (.str [115, 99]))]) fun x3 =>
 LoopP (parse_parser_order_l2 Φ a0 x3 Q) ([(.int .i64 0)], H)
def ir_parse_parser_order : AFunc := ⟨18, [.tmp 2],
 .seq (.region [
   ⟨some 2, .mv (.k (.int .i64 0)), none⟩])
 (.join [] [2, 3, 4, 5, 6, 7, 8, 9, 10, 11, 12, 13, 14, 15] (.seq (.region [
   ⟨some 5, .build [.str [], .str [], .str [], .str []] [(0, 1, (.k (.str [114, 108, 120]))), (1, 1, (.k (.str [97, 99, 113]))), (2, 1, (.k (.str [114, 101, 108]))), (3, 1, (.k (.str [115, 99])))], none⟩,
   ⟨some 6, .mv (.k (.int .i64 0)), none⟩])
 (.block 0 (.loop [6] [2, 3, 4, 7, 8, 9, 10, 11, 12, 13, 14, 15] (.seq (.region [
   ⟨some 7, .bin .lss (.t 6) (.k (.int .i64 4)), none⟩])
 (.seq (.cond (.t 7) (.skip)
   (.exit 0))
 (.seq (.block 1 (.seq (.region [
   ⟨some 8, .mv (.t 6), none⟩,
   ⟨some 9, .idx 4 1 false (.t 5) (.t 6), none⟩,
   ⟨some 3, .mv (.t 8), none⟩,
   ⟨some 4, .mv (.t 9), none⟩])
 (.seq (.region [
   ⟨some 10, .mv (.t 0), none⟩,
   ⟨some 11, .mv (.t 4), none⟩,
   ⟨some 12, .call K.parse_parser_is [(.t 10), (.t 11)], none⟩])
 (.cond (.t 12) (.seq (.region [
     ⟨some 13, .mv (.t 3), none⟩,
     ⟨some 14, .bin .add (.t 13) (.k (.int .i64 1)), none⟩,
     ⟨some 2, .mv (.t 14), none⟩])
   (.ret))
   (.skip)))))
 (.region [
   ⟨some 15, .bin .add (.t 6) (.k (.int .i64 1)), none⟩,
   ⟨some 6, .mv (.t 15), none⟩])))))))
 (.seq (.region [
   ⟨some 16, .mv (.t 0), none⟩,
   ⟨some 17, .call K.parse_parser_fail [(.t 16), (.k (.int .i64 4))], none⟩])
 (.seq (.region [
   ⟨some 2, .mv (.k (.int .i64 0)), none⟩])
 (.ret))))⟩
theorem eq_parse_parser_order (Φ : Calls') (a0 : AV) (H : AH) (Q : Post) : fnE1 Φ ir_parse_parser_order [a0] H Q = parse_parser_order Φ a0 H Q := by kernel_rfl

/-! (rabbet/parse.parser).expr -/
def parse_parser_expr_k1 (Φ : Calls') (a0 : AV) (x1 : AV) (Q : Post) : List AV → AH → Prop := fun j9 H10 =>
Φ K.parse_parser_fail [a0, (.int .i64 4)] H10 fun x68 H69 =>
 Do (abuild [.int .i64 0, .int .u64 0, .str [], .int .i64 0, .int .i64 0, .str [], .lst .nil 0 [], .lst .nil 0 []] []) fun x70 =>
 Do (astore H69 8 x1 x70) fun H71 =>
 Do (aload H71 8 true x1) fun x72 =>
 Q x72 H71
def parse_parser_expr_k2 (Φ : Calls') (a0 : AV) (a1 : AV) (x1 : AV) (Q : Post) : List AV → AH → Prop := fun j20 H21 =>
 Gd (sl j20 0) true (
Φ K.parse_parser_next [a0] H21 fun x27 H28 =>
 Do (abuild [.int .i64 0, .int .u64 0, .str [], .int .i64 0, .int .i64 0, .str [], .lst .nil 0 [], .lst .nil 0 []] [(0, 1, (.int .i64 2)), (2, 1, x27)]) fun x29 =>
 Do (astore H28 8 x1 x29) fun H30 =>
 Do (aload H30 8 true x1) fun x31 =>
 Q x31 H30) (
Φ K.parse_parser_is [a0, (.str [40])] H21 fun x32 H33 =>
 Gd x32 true (
Φ K.parse_parser_binary [a0, a1] H33 fun x34 H35 =>
 Do (astore H35 8 x1 x34) fun H36 =>
 Do (aload H36 8 true x1) fun x37 =>
 Q x37 H36) (
Φ K.parse_parser_is [a0, (.str [114, 101, 97, 100])] H33 fun x38 H39 =>
 Gd x38 true (
Φ K.parse_parser_access [a0, (.int .i64 4), (.int .i64 0), a1] H39 fun x40 H41 =>
 Do (astore H41 8 x1 x40) fun H42 =>
 Do (aload H42 8 true x1) fun x43 =>
 Q x43 H42) (
Φ K.parse_parser_is [a0, (.str [108, 111, 97, 100])] H39 fun x44 H45 =>
 Gd x44 true (
Φ K.parse_parser_access [a0, (.int .i64 5), (.int .i64 0), a1] H45 fun x46 H47 =>
 Do (astore H47 8 x1 x46) fun H48 =>
 Do (aload H48 8 true x1) fun x49 =>
 Q x49 H48) (
Φ K.parse_parser_is [a0, (.str [97, 100, 100])] H45 fun x50 H51 =>
 Gd x50 true (
Φ K.parse_parser_access [a0, (.int .i64 6), (.int .i64 1), a1] H51 fun x52 H53 =>
 Do (astore H53 8 x1 x52) fun H54 =>
 Do (aload H54 8 true x1) fun x55 =>
 Q x55 H54) (
Φ K.parse_parser_is [a0, (.str [115, 119, 97, 112])] H51 fun x56 H57 =>
 Gd x56 true (
Φ K.parse_parser_access [a0, (.int .i64 7), (.int .i64 1), a1] H57 fun x58 H59 =>
 Do (astore H59 8 x1 x58) fun H60 =>
 Do (aload H60 8 true x1) fun x61 =>
 Q x61 H60) (
Φ K.parse_parser_is [a0, (.str [99, 97, 115])] H57 fun x62 H63 =>
 Gd x62 true (
Φ K.parse_parser_access [a0, (.int .i64 8), (.int .i64 2), a1] H63 fun x64 H65 =>
 Do (astore H65 8 x1 x64) fun H66 =>
 Do (aload H66 8 true x1) fun x67 =>
 Q x67 H66) (
 JoinP (parse_parser_expr_k1 Φ a0 x1 Q) [] H63)))))))
def parse_parser_expr (Φ : Calls') (a0 : AV) (a1 : AV) (H : AH) (Q : Post) : Prop :=
 DoH (some (abox H true [.int .i64 0, .int .u64 0, .str [], .int .i64 0, .int .i64 0, .str [], .lst .nil 0 [], .lst .nil 0 []])) fun x1 H2 =>
Φ K.parse_parser_deep [a0, a1] H2 fun x3 H4 =>
 Do (aun .not x3) fun x5 =>
 Gd x5 true (
 Do (abuild [.int .i64 0, .int .u64 0, .str [], .int .i64 0, .int .i64 0, .str [], .lst .nil 0 [], .lst .nil 0 []] []) fun x6 =>
 Do (astore H4 8 x1 x6) fun H7 =>
 Do (aload H7 8 true x1) fun x8 =>
 Q x8 H7) (
Φ K.parse_parser_peek [a0] H4 fun x11 H12 =>
Φ K.parse_digits [x11] H12 fun x13 H14 =>
 Gd x13 true (
Φ K.parse_parser_number [a0, (.int .u64 18446744073709551615)] H14 fun x15 H16 =>
 Do (abuild [.int .i64 0, .int .u64 0, .str [], .int .i64 0, .int .i64 0, .str [], .lst .nil 0 [], .lst .nil 0 []] [(0, 1, (.int .i64 1)), (1, 1, x15)]) fun x17 =>
 Do (astore H16 8 x1 x17) fun H18 =>
 Do (aload H18 8 true x1) fun x19 =>
 Q x19 H18) (
Φ K.parse_letters [x11] H14 fun x22 H23 =>
 Gd3 x22 true (
Φ K.lex_Keyword [x11] H23 fun x24 H25 =>
 Do (aun .not x24) fun x26 =>
 JoinP (parse_parser_expr_k2 Φ a0 a1 x1 Q) [x26] H25) (
 JoinP (parse_parser_expr_k2 Φ a0 a1 x1 Q) [(.bool false)] H23) (
 False)))
def ir_parse_parser_expr : AFunc := ⟨69, [.cell 4 8 true],
 .seq (.region [
   ⟨some 4, .alloc true [.int .i64 0, .int .u64 0, .str [], .int .i64 0, .int .i64 0, .str [], .lst .nil 0 [], .lst .nil 0 []], none⟩])
 (.seq (.seq (.region [
   ⟨some 6, .mv (.t 0), none⟩,
   ⟨some 7, .mv (.t 1), none⟩,
   ⟨some 8, .call K.parse_parser_deep [(.t 6), (.t 7)], none⟩,
   ⟨some 9, .un .not (.t 8), none⟩])
 (.cond (.t 9) (.seq (.region [
     ⟨some 10, .build [.int .i64 0, .int .u64 0, .str [], .int .i64 0, .int .i64 0, .str [], .lst .nil 0 [], .lst .nil 0 []] [], none⟩,
     ⟨none, .store 8 (.t 4) (.t 10), none⟩])
   (.ret))
   (.skip)))
 (.join [] [5, 11, 12, 13, 14, 15, 16, 17, 18, 19, 20, 21, 22, 23, 24, 25, 26, 27, 28, 29, 30, 31, 32, 33, 34, 35, 36, 37, 38, 39, 40, 41, 42, 43, 44, 45, 46, 47, 48, 49, 50, 51, 52, 53, 54, 55, 56, 57, 58, 59, 60, 61, 62, 63, 64, 65] (.seq (.region [
   ⟨some 11, .mv (.t 0), none⟩,
   ⟨some 12, .call K.parse_parser_peek [(.t 11)], none⟩,
   ⟨some 5, .mv (.t 12), none⟩])
 (.block 0 (.seq (.region [
   ⟨some 14, .mv (.t 5), none⟩,
   ⟨some 15, .call K.parse_digits [(.t 14)], none⟩,
   ⟨some 13, .mv (.t 15), none⟩])
 (.cond (.t 13) (.seq (.region [
     ⟨some 16, .mv (.t 0), none⟩,
     ⟨some 17, .call K.parse_parser_number [(.t 16), (.k (.int .u64 18446744073709551615))], none⟩,
     ⟨some 18, .build [.int .i64 0, .int .u64 0, .str [], .int .i64 0, .int .i64 0, .str [], .lst .nil 0 [], .lst .nil 0 []] [(0, 1, (.k (.int .i64 1))), (1, 1, (.t 17))], none⟩,
     ⟨none, .store 8 (.t 4) (.t 18), none⟩])
   (.ret))
   (.join [19] [20, 21, 22, 23, 24, 25, 26] (.region [
     ⟨some 20, .mv (.t 5), none⟩,
     ⟨some 21, .call K.parse_letters [(.t 20)], none⟩,
     ⟨some 22, .mv (.t 21), none⟩,
     ⟨some 23, .mv (.t 5), some (22, true)⟩,
     ⟨some 24, .call K.lex_Keyword [(.t 23)], some (22, true)⟩,
     ⟨some 25, .un .not (.t 24), some (22, true)⟩,
     ⟨some 26, .pick (.t 22) (.t 25) (.k (.bool false)), none⟩,
     ⟨some 19, .mv (.t 26), none⟩])
   (.cond (.t 19) (.seq (.region [
       ⟨some 27, .mv (.t 0), none⟩,
       ⟨some 28, .call K.parse_parser_next [(.t 27)], none⟩,
       ⟨some 29, .build [.int .i64 0, .int .u64 0, .str [], .int .i64 0, .int .i64 0, .str [], .lst .nil 0 [], .lst .nil 0 []] [(0, 1, (.k (.int .i64 2))), (2, 1, (.t 28))], none⟩,
       ⟨none, .store 8 (.t 4) (.t 29), none⟩])
     (.ret))
     (.seq (.region [
       ⟨some 31, .mv (.t 0), none⟩,
       ⟨some 32, .call K.parse_parser_is [(.t 31), (.k (.str [40]))], none⟩,
       ⟨some 30, .mv (.t 32), none⟩])
     (.cond (.t 30) (.seq (.region [
         ⟨some 33, .mv (.t 0), none⟩,
         ⟨some 34, .mv (.t 1), none⟩,
         ⟨some 35, .call K.parse_parser_binary [(.t 33), (.t 34)], none⟩,
         ⟨none, .store 8 (.t 4) (.t 35), none⟩])
       (.ret))
       (.seq (.region [
         ⟨some 37, .mv (.t 0), none⟩,
         ⟨some 38, .call K.parse_parser_is [(.t 37), (.k (.str [114, 101, 97, 100]))], none⟩,
         ⟨some 36, .mv (.t 38), none⟩])
       (.cond (.t 36) (.seq (.region [
           ⟨some 39, .mv (.t 0), none⟩,
           ⟨some 40, .mv (.t 1), none⟩,
           ⟨some 41, .call K.parse_parser_access [(.t 39), (.k (.int .i64 4)), (.k (.int .i64 0)), (.t 40)], none⟩,
           ⟨none, .store 8 (.t 4) (.t 41), none⟩])
         (.ret))
         (.seq (.region [
           ⟨some 43, .mv (.t 0), none⟩,
           ⟨some 44, .call K.parse_parser_is [(.t 43), (.k (.str [108, 111, 97, 100]))], none⟩,
           ⟨some 42, .mv (.t 44), none⟩])
         (.cond (.t 42) (.seq (.region [
             ⟨some 45, .mv (.t 0), none⟩,
             ⟨some 46, .mv (.t 1), none⟩,
             ⟨some 47, .call K.parse_parser_access [(.t 45), (.k (.int .i64 5)), (.k (.int .i64 0)), (.t 46)], none⟩,
             ⟨none, .store 8 (.t 4) (.t 47), none⟩])
           (.ret))
           (.seq (.region [
             ⟨some 49, .mv (.t 0), none⟩,
             ⟨some 50, .call K.parse_parser_is [(.t 49), (.k (.str [97, 100, 100]))], none⟩,
             ⟨some 48, .mv (.t 50), none⟩])
           (.cond (.t 48) (.seq (.region [
               ⟨some 51, .mv (.t 0), none⟩,
               ⟨some 52, .mv (.t 1), none⟩,
               ⟨some 53, .call K.parse_parser_access [(.t 51), (.k (.int .i64 6)), (.k (.int .i64 1)), (.t 52)], none⟩,
               ⟨none, .store 8 (.t 4) (.t 53), none⟩])
             (.ret))
             (.seq (.region [
               ⟨some 55, .mv (.t 0), none⟩,
               ⟨some 56, .call K.parse_parser_is [(.t 55), (.k (.str [115, 119, 97, 112]))], none⟩,
               ⟨some 54, .mv (.t 56), none⟩])
             (.cond (.t 54) (.seq (.region [
                 ⟨some 57, .mv (.t 0), none⟩,
                 ⟨some 58, .mv (.t 1), none⟩,
                 ⟨some 59, .call K.parse_parser_access [(.t 57), (.k (.int .i64 7)), (.k (.int .i64 1)), (.t 58)], none⟩,
                 ⟨none, .store 8 (.t 4) (.t 59), none⟩])
               (.ret))
               (.seq (.region [
                 ⟨some 61, .mv (.t 0), none⟩,
                 ⟨some 62, .call K.parse_parser_is [(.t 61), (.k (.str [99, 97, 115]))], none⟩,
                 ⟨some 60, .mv (.t 62), none⟩])
               (.cond (.t 60) (.seq (.region [
                   ⟨some 63, .mv (.t 0), none⟩,
                   ⟨some 64, .mv (.t 1), none⟩,
                   ⟨some 65, .call K.parse_parser_access [(.t 63), (.k (.int .i64 8)), (.k (.int .i64 2)), (.t 64)], none⟩,
                   ⟨none, .store 8 (.t 4) (.t 65), none⟩])
                 (.ret))
                 (.skip)))))))))))))))))))
 (.seq (.region [
   ⟨some 66, .mv (.t 0), none⟩,
   ⟨some 67, .call K.parse_parser_fail [(.t 66), (.k (.int .i64 4))], none⟩])
 (.seq (.region [
   ⟨some 68, .build [.int .i64 0, .int .u64 0, .str [], .int .i64 0, .int .i64 0, .str [], .lst .nil 0 [], .lst .nil 0 []] [], none⟩,
   ⟨none, .store 8 (.t 4) (.t 68), none⟩])
 (.ret)))))⟩
theorem eq_parse_parser_expr (Φ : Calls') (a0 a1 : AV) (H : AH) (Q : Post) : fnE1 Φ ir_parse_parser_expr [a0, a1] H Q = parse_parser_expr Φ a0 a1 H Q := by kernel_rfl

/-! (rabbet/parse.parser).control -/
def parse_parser_control_k1 (Φ : Calls') (x1 : AV) (x3 : AV) (Q : Post) : List AV → AH → Prop := fun j23 H24 =>
 Do (aload H24 10 true x1) fun x37 =>
 Do (astore H24 10 x3 x37) fun H38 =>
 Do (aload H38 10 true x3) fun x39 =>
 Q x39 H38
def parse_parser_control_k2 (Φ : Calls') (a0 : AV) (a2 : AV) (x1 : AV) (x3 : AV) (Q : Post) : List AV → AH → Prop := fun j25 H26 =>
 Gd (sl j25 0) true (
 Do (abin .add a2 (.int .i64 1)) fun x32 =>
Φ K.parse_parser_block [a0, x32] H26 fun x33 H34 =>
 Do (afaddr 9 x1) fun x35 =>
 Do (astore H34 1 x35 x33) fun H36 =>
 JoinP (parse_parser_control_k1 Φ x1 x3 Q) [] H36) (
 JoinP (parse_parser_control_k1 Φ x1 x3 Q) [] H26)
def parse_parser_control_k3 (Φ : Calls') (a0 : AV) (a2 : AV) (x1 : AV) (x3 : AV) (Q : Post) : List AV → AH → Prop := fun j5 H6 =>
 Do (abin .add a2 (.int .i64 1)) fun x11 =>
Φ K.parse_parser_expr [a0, x11] H6 fun x12 H13 =>
 DoH (abslice H13 false 8 1 [.int .i64 0, .int .u64 0, .str [], .int .i64 0, .int .i64 0, .str [], .lst .nil 0 [], .lst .nil 0 []] [(0, 8, x12)]) fun x14 H15 =>
 Do (afaddr 7 x1) fun x16 =>
 Do (astore H15 1 x16 x14) fun H17 =>
 Do (abin .add a2 (.int .i64 1)) fun x18 =>
Φ K.parse_parser_block [a0, x18] H17 fun x19 H20 =>
 Do (afaddr 8 x1) fun x21 =>
 Do (astore H20 1 x21 x19) fun H22 =>
 Do (afaddr 0 x1) fun x27 =>
 Do (aload H22 1 false x27) fun x28 =>
 Do (abin .eql x28 (.int .i64 8)) fun x29 =>
 Gd3 x29 true (
Φ K.parse_parser_is [a0, (.str [101, 108, 115, 101])] H22 fun x30 H31 =>
 JoinP (parse_parser_control_k2 Φ a0 a2 x1 x3 Q) [x30] H31) (
 JoinP (parse_parser_control_k2 Φ a0 a2 x1 x3 Q) [(.bool false)] H22) (
 False)
def parse_parser_control (Φ : Calls') (a0 : AV) (a1 : AV) (a2 : AV) (H : AH) (Q : Post) : Prop :=
 DoH (aboxv H true 10 a1) fun x1 H2 =>
 DoH (some (abox H2 true [.int .i64 0, .int .i64 0, .str [], .str [], .int .i64 0, .str [], .lst .nil 0 [], .lst .nil 0 [], .lst .nil 0 [], .lst .nil 0 []])) fun x3 H4 =>
Φ K.parse_parser_is [a0, (.str [105, 102])] H4 fun x7 H8 =>
 Gd x7 true (
 Do (afaddr 0 x1) fun x9 =>
 Do (astore H8 1 x9 (.int .i64 8)) fun H10 =>
 JoinP (parse_parser_control_k3 Φ a0 a2 x1 x3 Q) [] H10) (
Φ K.parse_parser_is [a0, (.str [119, 104, 105, 108, 101])] H8 fun x40 H41 =>
 Gd x40 true (
 Do (afaddr 0 x1) fun x42 =>
 Do (astore H41 1 x42 (.int .i64 9)) fun H43 =>
 JoinP (parse_parser_control_k3 Φ a0 a2 x1 x3 Q) [] H43) (
Φ K.parse_parser_fail [a0, (.int .i64 4)] H41 fun x44 H45 =>
 Do (aload H45 10 true x1) fun x46 =>
 Do (astore H45 10 x3 x46) fun H47 =>
 Do (aload H47 10 true x3) fun x48 =>
 Q x48 H47))
def ir_parse_parser_control : AFunc := ⟨42, [.cell 6 10 true],
 .seq (.region [
   ⟨some 4, .box true 10 (.t 1), none⟩,
   ⟨some 6, .alloc true [.int .i64 0, .int .i64 0, .str [], .str [], .int .i64 0, .str [], .lst .nil 0 [], .lst .nil 0 [], .lst .nil 0 [], .lst .nil 0 []], none⟩])
 (.join [] [7, 8, 9, 10, 11, 12, 13, 14, 15, 16, 17] (.block 0 (.seq (.region [
   ⟨some 11, .mv (.t 0), none⟩,
   ⟨some 12, .call K.parse_parser_is [(.t 11), (.k (.str [105, 102]))], none⟩,
   ⟨some 10, .mv (.t 12), none⟩])
 (.cond (.t 10) (.region [
     ⟨some 13, .faddr 0 (.t 4), none⟩,
     ⟨none, .store 1 (.t 13) (.k (.int .i64 8)), none⟩])
   (.seq (.region [
     ⟨some 15, .mv (.t 0), none⟩,
     ⟨some 16, .call K.parse_parser_is [(.t 15), (.k (.str [119, 104, 105, 108, 101]))], none⟩,
     ⟨some 14, .mv (.t 16), none⟩])
   (.cond (.t 14) (.region [
       ⟨some 17, .faddr 0 (.t 4), none⟩,
       ⟨none, .store 1 (.t 17) (.k (.int .i64 9)), none⟩])
     (.seq (.region [
       ⟨some 7, .mv (.t 0), none⟩,
       ⟨some 8, .call K.parse_parser_fail [(.t 7), (.k (.int .i64 4))], none⟩])
     (.seq (.region [
       ⟨some 9, .load 10 true (.t 4), none⟩,
       ⟨none, .store 10 (.t 6) (.t 9), none⟩])
     (.ret))))))))
 (.seq (.region [
   ⟨some 18, .mv (.t 0), none⟩,
   ⟨some 19, .mv (.t 2), none⟩,
   ⟨some 20, .bin .add (.t 19) (.k (.int .i64 1)), none⟩,
   ⟨some 21, .call K.parse_parser_expr [(.t 18), (.t 20)], none⟩,
   ⟨some 22, .bslice false 8 1 [.int .i64 0, .int .u64 0, .str [], .int .i64 0, .int .i64 0, .str [], .lst .nil 0 [], .lst .nil 0 []] [(0, 8, (.t 21))], none⟩,
   ⟨some 23, .faddr 7 (.t 4), none⟩,
   ⟨none, .store 1 (.t 23) (.t 22), none⟩])
 (.seq (.region [
   ⟨some 24, .mv (.t 0), none⟩,
   ⟨some 25, .mv (.t 2), none⟩,
   ⟨some 26, .bin .add (.t 25) (.k (.int .i64 1)), none⟩,
   ⟨some 27, .call K.parse_parser_block [(.t 24), (.t 26)], none⟩,
   ⟨some 28, .faddr 8 (.t 4), none⟩,
   ⟨none, .store 1 (.t 28) (.t 27), none⟩])
 (.join [] [29, 30, 31, 32, 33, 34, 35, 36, 37, 38, 39, 40] (.join [35] [29, 30, 31, 32, 33, 34] (.region [
   ⟨some 29, .faddr 0 (.t 4), none⟩,
   ⟨some 30, .load 1 false (.t 29), none⟩,
   ⟨some 31, .bin .eql (.t 30) (.k (.int .i64 8)), none⟩,
   ⟨some 32, .mv (.t 31), none⟩,
   ⟨some 33, .mv (.t 0), some (32, true)⟩,
   ⟨some 34, .call K.parse_parser_is [(.t 33), (.k (.str [101, 108, 115, 101]))], some (32, true)⟩,
   ⟨some 35, .pick (.t 32) (.t 34) (.k (.bool false)), none⟩])
 (.cond (.t 35) (.region [
     ⟨some 36, .mv (.t 0), none⟩,
     ⟨some 37, .mv (.t 2), none⟩,
     ⟨some 38, .bin .add (.t 37) (.k (.int .i64 1)), none⟩,
     ⟨some 39, .call K.parse_parser_block [(.t 36), (.t 38)], none⟩,
     ⟨some 40, .faddr 9 (.t 4), none⟩,
     ⟨none, .store 1 (.t 40) (.t 39), none⟩])
   (.skip)))
 (.seq (.region [
   ⟨some 41, .load 10 true (.t 4), none⟩,
   ⟨none, .store 10 (.t 6) (.t 41), none⟩])
 (.ret))))))⟩
theorem eq_parse_parser_control (Φ : Calls') (a0 a1 a2 : AV) (H : AH) (Q : Post) : fnE1 Φ ir_parse_parser_control [a0, a1, a2] H Q = parse_parser_control Φ a0 a1 a2 H Q := by kernel_rfl

/-! rabbet/lex.letter -/
def lex_letter (Φ : Calls') (a0 : AV) (H : AH) (Q : Post) : Prop :=
 Do (abin .geq a0 (.int .u8 97)) fun x1 =>
 Gd3 x1 true (
 Do (abin .leq a0 (.int .u8 122)) fun x2 =>
 Q x2 H) (
 Q (.bool false) H) (
 False)
def ir_lex_letter : AFunc := ⟨9, [.tmp 2],
 .seq (.region [
   ⟨some 2, .mv (.k (.bool false)), none⟩])
 (.seq (.region [
   ⟨some 3, .mv (.t 0), none⟩,
   ⟨some 4, .bin .geq (.t 3) (.k (.int .u8 97)), none⟩,
   ⟨some 5, .mv (.t 4), none⟩,
   ⟨some 6, .mv (.t 0), some (5, true)⟩,
   ⟨some 7, .bin .leq (.t 6) (.k (.int .u8 122)), some (5, true)⟩,
   ⟨some 8, .pick (.t 5) (.t 7) (.k (.bool false)), none⟩,
   ⟨some 2, .mv (.t 8), none⟩])
 (.ret))⟩
theorem eq_lex_letter (Φ : Calls') (a0 : AV) (H : AH) (Q : Post) : fnE1 Φ ir_lex_letter [a0] H Q = lex_letter Φ a0 H Q := by kernel_rfl

/-! (rabbet/lex.scanner).word -/
def lex_scanner_word (Φ : Calls') (a0 : AV) (H : AH) (Q : Post) : Prop :=
Φ K.lex_scanner_run [a0, (.fn K.lex_part [])] H fun x1 H2 =>
 Do (abin .gtr x1 (.int .i64 16)) fun x3 =>
 Gd x3 true (
 Q (.bool false) H2) (
Φ K.lex_scanner_take [a0, x1] H2 fun x4 H5 =>
 Q (.bool true) H5)
def ir_lex_scanner_word : AFunc := ⟨11, [.tmp 2],
 .seq (.region [
   ⟨some 2, .mv (.k (.bool false)), none⟩])
 (.seq (.region [
   ⟨some 4, .mv (.t 0), none⟩,
   ⟨some 5, .call K.lex_scanner_run [(.t 4), (.k (.fn K.lex_part []))], none⟩,
   ⟨some 3, .mv (.t 5), none⟩])
 (.seq (.seq (.region [
   ⟨some 6, .mv (.t 3), none⟩,
   ⟨some 7, .bin .gtr (.t 6) (.k (.int .i64 16)), none⟩])
 (.cond (.t 7) (.seq (.region [
     ⟨some 2, .mv (.k (.bool false)), none⟩])
   (.ret))
   (.skip)))
 (.seq (.region [
   ⟨some 8, .mv (.t 0), none⟩,
   ⟨some 9, .mv (.t 3), none⟩,
   ⟨some 10, .call K.lex_scanner_take [(.t 8), (.t 9)], none⟩])
 (.seq (.region [
   ⟨some 2, .mv (.k (.bool true)), none⟩])
 (.ret)))))⟩
theorem eq_lex_scanner_word (Φ : Calls') (a0 : AV) (H : AH) (Q : Post) : fnE1 Φ ir_lex_scanner_word [a0] H Q = lex_scanner_word Φ a0 H Q := by kernel_rfl

/-! rabbet/lex.digit -/
def lex_digit (Φ : Calls') (a0 : AV) (H : AH) (Q : Post) : Prop :=
 Do (abin .geq a0 (.int .u8 48)) fun x1 =>
 Gd3 x1 true (
 Do (abin .leq a0 (.int .u8 57)) fun x2 =>
 Q x2 H) (
 Q (.bool false) H) (
 False)
def ir_lex_digit : AFunc := ⟨9, [.tmp 2],
 .seq (.region [
   ⟨some 2, .mv (.k (.bool false)), none⟩])
 (.seq (.region [
   ⟨some 3, .mv (.t 0), none⟩,
   ⟨some 4, .bin .geq (.t 3) (.k (.int .u8 48)), none⟩,
   ⟨some 5, .mv (.t 4), none⟩,
   ⟨some 6, .mv (.t 0), some (5, true)⟩,
   ⟨some 7, .bin .leq (.t 6) (.k (.int .u8 57)), some (5, true)⟩,
   ⟨some 8, .pick (.t 5) (.t 7) (.k (.bool false)), none⟩,
   ⟨some 2, .mv (.t 8), none⟩])
 (.ret))⟩
theorem eq_lex_digit (Φ : Calls') (a0 : AV) (H : AH) (Q : Post) : fnE1 Φ ir_lex_digit [a0] H Q = lex_digit Φ a0 H Q := by kernel_rfl

/-! (rabbet/lex.scanner).number -/
def lex_scanner_number_k1 (Φ : Calls') (a0 : AV) (x1 : AV) (Q : Post) : List AV → AH → Prop := fun j26 H27 =>
Φ K.lex_scanner_take [a0, x1] H27 fun x42 H43 =>
 Q (.bool true) H43
def lex_scanner_number_k2 (Φ : Calls') (a0 : AV) (x1 : AV) (Q : Post) : List AV → AH → Prop := fun j36 H37 =>
 Gd (sl j36 0) true (
 Q (.bool false) H37) (
 JoinP (lex_scanner_number_k1 Φ a0 x1 Q) [] H37)
def lex_scanner_number_k3 (Φ : Calls') (a0 : AV) (x1 : AV) (Q : Post) : List AV → AH → Prop := fun j18 H19 =>
 Do (anilck a0) fun x28 =>
 Do (afaddr 0 x28) fun x29 =>
 Do (aload H19 1 false x29) fun x30 =>
 Do (anilck a0) fun x31 =>
 Do (afaddr 1 x31) fun x32 =>
 Do (aload H19 1 false x32) fun x33 =>
 Do (abin .add x33 x1) fun x34 =>
 Do (asslice x30 (some x34) none) fun x35 =>
 Do (abin .neq x35 (.str [])) fun x38 =>
 Gd3 x38 true (
 Do (aidxs x35 (.int .i64 0)) fun x39 =>
Φ K.lex_part [x39] H19 fun x40 H41 =>
 JoinP (lex_scanner_number_k2 Φ a0 x1 Q) [x40] H41) (
 JoinP (lex_scanner_number_k2 Φ a0 x1 Q) [(.bool false)] H19) (
 False)
def lex_scanner_number_k4 (Φ : Calls') (a0 : AV) (x1 : AV) (Q : Post) : List AV → AH → Prop := fun j20 H21 =>
 Gd (sl j20 0) true (
 Q (.bool false) H21) (
 JoinP (lex_scanner_number_k3 Φ a0 x1 Q) [] H21)
def lex_scanner_number (Φ : Calls') (a0 : AV) (H : AH) (Q : Post) : Prop :=
Φ K.lex_scanner_run [a0, (.fn K.lex_digit [])] H fun x1 H2 =>
 Do (anilck a0) fun x3 =>
 Do (afaddr 0 x3) fun x4 =>
 Do (aload H2 1 false x4) fun x5 =>
 Do (anilck a0) fun x6 =>
 Do (afaddr 1 x6) fun x7 =>
 Do (aload H2 1 false x7) fun x8 =>
 Do (anilck a0) fun x9 =>
 Do (afaddr 1 x9) fun x10 =>
 Do (aload H2 1 false x10) fun x11 =>
 Do (abin .add x11 x1) fun x12 =>
 Do (asslice x5 (some x8) (some x12)) fun x13 =>
Φ K.strconv_ParseUint [x13, (.int .i64 10), (.int .i64 64)] H2 fun x14 H15 =>
 Do (aextract 0 x14) fun x16 =>
 Do (aextract 1 x14) fun x17 =>
 Do (anil .i true x17) fun x22 =>
 Gd3 x22 false (
 Do (abin .gtr x1 (.int .i64 1)) fun x23 =>
 Gd3 x23 true (
 Do (aidxs x13 (.int .i64 0)) fun x24 =>
 Do (abin .eql x24 (.int .u8 48)) fun x25 =>
 JoinP (lex_scanner_number_k4 Φ a0 x1 Q) [x25] H15) (
 JoinP (lex_scanner_number_k4 Φ a0 x1 Q) [(.bool false)] H15) (
 False)) (
 JoinP (lex_scanner_number_k4 Φ a0 x1 Q) [(.bool true)] H15) (
 False)
def ir_lex_scanner_number : AFunc := ⟨62, [.tmp 2],
 .seq (.region [
   ⟨some 2, .mv (.k (.bool false)), none⟩])
 (.seq (.region [
   ⟨some 8, .mv (.t 0), none⟩,
   ⟨some 9, .call K.lex_scanner_run [(.t 8), (.k (.fn K.lex_digit []))], none⟩,
   ⟨some 3, .mv (.t 9), none⟩])
 (.seq (.draw [
   ⟨some 10, .mv (.t 0), none⟩,
   ⟨some 11, .nilck (.t 10), none⟩,
   ⟨some 12, .faddr 0 (.t 11), none⟩,
   ⟨some 13, .load 1 false (.t 12), none⟩,
   ⟨some 14, .mv (.t 0), none⟩,
   ⟨some 15, .nilck (.t 14), none⟩,
   ⟨some 16, .faddr 1 (.t 15), none⟩,
   ⟨some 17, .load 1 false (.t 16), none⟩,
   ⟨some 18, .mv (.t 0), none⟩,
   ⟨some 19, .nilck (.t 18), none⟩,
   ⟨some 20, .faddr 1 (.t 19), none⟩,
   ⟨some 21, .load 1 false (.t 20), none⟩,
   ⟨some 22, .mv (.t 3), none⟩,
   ⟨some 23, .bin .add (.t 21) (.t 22), none⟩,
   ⟨some 24, .sslice (.t 13) (some (.t 17)) (some (.t 23)), none⟩,
   ⟨some 4, .mv (.t 24), none⟩]
 [[], [0], [0, 1], [0, 1, 2], [], [4], [4, 5], [4, 5, 6], [], [8], [8, 9], [8, 9, 10], [], [8, 9, 10, 11, 12], [0, 1, 2, 3, 4, 5, 6, 7, 8, 9, 10, 11, 12, 13], [0, 1, 2, 3, 4, 5, 6, 7, 8, 9, 10, 11, 12, 13, 14]] [] [0, 1, 2, 3, 4, 5, 6, 7, 8, 9, 10, 11, 12, 13, 14, 15])
 (.seq (.region [
   ⟨some 26, .mv (.t 4), none⟩,
   ⟨some 27, .call K.strconv_ParseUint [(.t 26), (.k (.int .i64 10)), (.k (.int .i64 64))], none⟩,
   ⟨some 25, .mv (.t 27), none⟩,
   ⟨some 28, .extract 0 (.t 25), none⟩,
   ⟨some 29, .extract 1 (.t 25), none⟩,
   ⟨some 5, .mv (.t 28), none⟩,
   ⟨some 6, .mv (.t 29), none⟩])
 (.join [] [2, 30, 31, 32, 33, 34, 35, 36, 37, 38, 39, 40] (.join [40] [30, 31, 32, 33, 34, 35, 36, 37, 38, 39] (.region [
   ⟨some 30, .mv (.t 6), none⟩,
   ⟨some 31, .isnil .i true (.t 30), none⟩,
   ⟨some 32, .mv (.t 31), none⟩,
   ⟨some 33, .mv (.t 3), some (32, false)⟩,
   ⟨some 34, .bin .gtr (.t 33) (.k (.int .i64 1)), some (32, false)⟩,
   ⟨some 35, .mv (.t 34), some (32, false)⟩,
   ⟨some 36, .mv (.t 4), some (35, true)⟩,
   ⟨some 37, .idxs (.t 36) (.k (.int .i64 0)), some (35, true)⟩,
   ⟨some 38, .bin .eql (.t 37) (.k (.int .u8 48)), some (35, true)⟩,
   ⟨some 39, .pick (.t 35) (.t 38) (.k (.bool false)), some (32, false)⟩,
   ⟨some 40, .pick (.t 32) (.k (.bool true)) (.t 39), none⟩])
 (.cond (.t 40) (.seq (.region [
     ⟨some 2, .mv (.k (.bool false)), none⟩])
   (.ret))
   (.skip)))
 (.join [] [2, 7, 41, 42, 43, 44, 45, 46, 47, 48, 49, 50, 51, 52, 53, 54, 55, 56, 57, 58] (.seq (.draw [
   ⟨some 41, .mv (.t 0), none⟩,
   ⟨some 42, .nilck (.t 41), none⟩,
   ⟨some 43, .faddr 0 (.t 42), none⟩,
   ⟨some 44, .load 1 false (.t 43), none⟩,
   ⟨some 45, .mv (.t 0), none⟩,
   ⟨some 46, .nilck (.t 45), none⟩,
   ⟨some 47, .faddr 1 (.t 46), none⟩,
   ⟨some 48, .load 1 false (.t 47), none⟩,
   ⟨some 49, .mv (.t 3), none⟩,
   ⟨some 50, .bin .add (.t 48) (.t 49), none⟩,
   ⟨some 51, .sslice (.t 44) (some (.t 50)) none, none⟩,
   ⟨some 7, .mv (.t 51), none⟩]
 [[], [0], [0, 1], [0, 1, 2], [], [4], [4, 5], [4, 5, 6], [], [4, 5, 6, 7, 8], [0, 1, 2, 3, 4, 5, 6, 7, 8, 9], [0, 1, 2, 3, 4, 5, 6, 7, 8, 9, 10]] [] [0, 1, 2, 3, 4, 5, 6, 7, 8, 9, 10, 11])
 (.join [58] [52, 53, 54, 55, 56, 57] (.region [
   ⟨some 52, .mv (.t 7), none⟩,
   ⟨some 53, .bin .neq (.t 52) (.k (.str [])), none⟩,
   ⟨some 54, .mv (.t 53), none⟩,
   ⟨some 55, .mv (.t 7), some (54, true)⟩,
   ⟨some 56, .idxs (.t 55) (.k (.int .i64 0)), some (54, true)⟩,
   ⟨some 57, .call K.lex_part [(.t 56)], some (54, true)⟩,
   ⟨some 58, .pick (.t 54) (.t 57) (.k (.bool false)), none⟩])
 (.cond (.t 58) (.seq (.region [
     ⟨some 2, .mv (.k (.bool false)), none⟩])
   (.ret))
   (.skip))))
 (.seq (.region [
   ⟨some 59, .mv (.t 0), none⟩,
   ⟨some 60, .mv (.t 3), none⟩,
   ⟨some 61, .call K.lex_scanner_take [(.t 59), (.t 60)], none⟩])
 (.seq (.region [
   ⟨some 2, .mv (.k (.bool true)), none⟩])
 (.ret))))))))⟩
theorem eq_lex_scanner_number (Φ : Calls') (a0 : AV) (H : AH) (Q : Post) : fnE1 Φ ir_lex_scanner_number [a0] H Q = lex_scanner_number Φ a0 H Q := by kernel_rfl

/-! (rabbet/lex.scanner).sign -/
def lex_scanner_sign_k1 (Φ : Calls') (a0 : AV) (Q : Post) : List AV → AH → Prop := fun j1 H2 =>
 Do (anilck a0) fun x21 =>
 Do (afaddr 0 x21) fun x22 =>
 Do (aload H2 1 false x22) fun x23 =>
 Do (anilck a0) fun x24 =>
 Do (afaddr 1 x24) fun x25 =>
 Do (aload H2 1 false x25) fun x26 =>
 Do (aidxs x23 x26) fun x27 =>
Φ K.strings_IndexByte [(.str [123, 125, 91, 93, 40, 41, 59, 58, 44, 46, 95, 61, 43, 45, 42, 38, 124, 94, 60]), x27] H2 fun x28 H29 =>
 Do (abin .lss x28 (.int .i64 0)) fun x30 =>
 Gd x30 true (
 Q (.bool false) H29) (
Φ K.lex_scanner_take [a0, (.int .i64 1)] H29 fun x31 H32 =>
 Q (.bool true) H32)
def lex_scanner_sign_l2 (Φ : Calls') (a0 : AV) (x3 : AV) (Q : Post) : (List AV × AH) → ((List AV × AH) → Prop) → Prop := fun s4 L5 =>
 Do (abin .lss (sl s4.1 0) (.int .i64 4)) fun x6 =>
 Gd x6 true (
 Do (aidx 4 1 false x3 (sl s4.1 0)) fun x7 =>
 Do (anilck a0) fun x8 =>
 Do (afaddr 0 x8) fun x9 =>
 Do (aload s4.2 1 false x9) fun x10 =>
 Do (anilck a0) fun x11 =>
 Do (afaddr 1 x11) fun x12 =>
 Do (aload s4.2 1 false x12) fun x13 =>
 Do (asslice x10 (some x13) none) fun x14 =>
Φ K.strings_HasPrefix [x14, x7] s4.2 fun x15 H16 =>
 Gd x15 true (
 Do (alen true x7) fun x17 =>
Φ K.lex_scanner_take [a0, x17] H16 fun x18 H19 =>
 Q (.bool true) H19) (
 Do (abin .add (sl s4.1 0) (.int .i64 1)) fun x20 =>
 L5 ([x20], H16))) (
 JoinP (lex_scanner_sign_k1 Φ a0 Q) [] s4.2)
def lex_scanner_sign (Φ : Calls') (a0 : AV) (H : AH) (Q : Post) : Prop :=
 Do (abuild [.str [], .str [], .str [], .str []] [(0, 1, (.str [60, 60])), (1, 1, (.str [62, 62])), (2, 1, (.str [61, 61])), (3, 1, (.str [33, 61]))]) fun x3 =>
 LoopP (lex_scanner_sign_l2 Φ a0 x3 Q) ([(.int .i64 0)], H)
def ir_lex_scanner_sign : AFunc := ⟨38, [.tmp 2],
 .seq (.region [
   ⟨some 2, .mv (.k (.bool false)), none⟩])
 (.join [] [2, 4, 5, 6, 7, 8, 9, 10, 11, 12, 13, 14, 15, 16, 17, 18, 19, 20, 21, 22, 23, 24] (.seq (.region [
   ⟨some 5, .build [.str [], .str [], .str [], .str []] [(0, 1, (.k (.str [60, 60]))), (1, 1, (.k (.str [62, 62]))), (2, 1, (.k (.str [61, 61]))), (3, 1, (.k (.str [33, 61])))], none⟩,
   ⟨some 6, .mv (.k (.int .i64 0)), none⟩])
 (.block 0 (.loop [6] [2, 4, 7, 8, 9, 10, 11, 12, 13, 14, 15, 16, 17, 18, 19, 20, 21, 22, 23, 24] (.seq (.region [
   ⟨some 7, .bin .lss (.t 6) (.k (.int .i64 4)), none⟩])
 (.seq (.cond (.t 7) (.skip)
   (.exit 0))
 (.seq (.block 1 (.seq (.region [
   ⟨some 8, .idx 4 1 false (.t 5) (.t 6), none⟩,
   ⟨some 4, .mv (.t 8), none⟩])
 (.seq (.draw [
   ⟨some 9, .mv (.t 0), none⟩,
   ⟨some 10, .nilck (.t 9), none⟩,
   ⟨some 11, .faddr 0 (.t 10), none⟩,
   ⟨some 12, .load 1 false (.t 11), none⟩,
   ⟨some 13, .mv (.t 0), none⟩,
   ⟨some 14, .nilck (.t 13), none⟩,
   ⟨some 15, .faddr 1 (.t 14), none⟩,
   ⟨some 16, .load 1 false (.t 15), none⟩,
   ⟨some 17, .sslice (.t 12) (some (.t 16)) none, none⟩,
   ⟨some 18, .mv (.t 4), none⟩,
   ⟨some 19, .call K.strings_HasPrefix [(.t 17), (.t 18)], none⟩]
 [[], [0], [0, 1], [0, 1, 2], [], [4], [4, 5], [4, 5, 6], [0, 1, 2, 3, 4, 5, 6, 7], [], [0, 1, 2, 3, 4, 5, 6, 7, 8, 9]] [([0, 1, 2, 3, 4, 5, 6, 7, 8, 9], 10, [])] [])
 (.cond (.t 19) (.seq (.region [
     ⟨some 20, .mv (.t 0), none⟩,
     ⟨some 21, .mv (.t 4), none⟩,
     ⟨some 22, .len true (.t 21), none⟩,
     ⟨some 23, .call K.lex_scanner_take [(.t 20), (.t 22)], none⟩])
   (.seq (.region [
     ⟨some 2, .mv (.k (.bool true)), none⟩])
   (.ret)))
   (.skip)))))
 (.region [
   ⟨some 24, .bin .add (.t 6) (.k (.int .i64 1)), none⟩,
   ⟨some 6, .mv (.t 24), none⟩])))))))
 (.seq (.seq (.draw [
   ⟨some 25, .mv (.t 0), none⟩,
   ⟨some 26, .nilck (.t 25), none⟩,
   ⟨some 27, .faddr 0 (.t 26), none⟩,
   ⟨some 28, .load 1 false (.t 27), none⟩,
   ⟨some 29, .mv (.t 0), none⟩,
   ⟨some 30, .nilck (.t 29), none⟩,
   ⟨some 31, .faddr 1 (.t 30), none⟩,
   ⟨some 32, .load 1 false (.t 31), none⟩,
   ⟨some 33, .idxs (.t 28) (.t 32), none⟩,
   ⟨some 34, .call K.strings_IndexByte [(.k (.str [123, 125, 91, 93, 40, 41, 59, 58, 44, 46, 95, 61, 43, 45, 42, 38, 124, 94, 60])), (.t 33)], none⟩,
   ⟨some 35, .bin .lss (.t 34) (.k (.int .i64 0)), none⟩]
 [[], [0], [0, 1], [0, 1, 2], [], [4], [4, 5], [4, 5, 6], [0, 1, 2, 3, 4, 5, 6, 7], [0, 1, 2, 3, 4, 5, 6, 7, 8], [0, 1, 2, 3, 4, 5, 6, 7, 8, 9]] [([0, 1, 2, 3, 4, 5, 6, 7, 8], 9, [])] [10])
 (.cond (.t 35) (.seq (.region [
     ⟨some 2, .mv (.k (.bool false)), none⟩])
   (.ret))
   (.skip)))
 (.seq (.region [
   ⟨some 36, .mv (.t 0), none⟩,
   ⟨some 37, .call K.lex_scanner_take [(.t 36), (.k (.int .i64 1))], none⟩])
 (.seq (.region [
   ⟨some 2, .mv (.k (.bool true)), none⟩])
 (.ret)))))⟩
theorem eq_lex_scanner_sign (Φ : Calls') (a0 : AV) (H : AH) (Q : Post) : fnE1 Φ ir_lex_scanner_sign [a0] H Q = lex_scanner_sign Φ a0 H Q := by kernel_rfl

/-! slices.Index[[]string,string] -/
def slices_Index___string_string__l1 (Φ : Calls') (a0 : AV) (a1 : AV) (x1 : AV) (Q : Post) : (List AV × AH) → ((List AV × AH) → Prop) → Prop := fun s2 L3 =>
 Do (abin .lss (sl s2.1 0) x1) fun x4 =>
 Gd x4 true (
 Do (aiaddr none 1 a0 (sl s2.1 0)) fun x5 =>
 Do (aload s2.2 1 false x5) fun x6 =>
 Do (abin .eql a1 x6) fun x7 =>
 Gd x7 true (
 Q (sl s2.1 0) s2.2) (
 Do (abin .add (sl s2.1 0) (.int .i64 1)) fun x8 =>
 L3 ([x8], s2.2))) (
 Q (.int .i64 (-1)) s2.2)
def slices_Index___string_string_ (Φ : Calls') (a0 : AV) (a1 : AV) (H : AH) (Q : Post) : Prop :=
 Do (alen false a0) fun x1 =>
 LoopP (slices_Index___string_string__l1 Φ a0 a1 x1 Q) ([(.int .i64 0)], H)
def ir_slices_Index___string_string_ : AFunc := ⟨19, [.tmp 4],
 .seq (.region [
   ⟨some 4, .mv (.k (.int .i64 0)), none⟩])
 (.seq (.seq (.region [
   ⟨some 6, .mv (.t 0), none⟩,
   ⟨some 7, .len false (.t 6), none⟩,
   ⟨some 8, .mv (.k (.int .i64 0)), none⟩])
 (.block 0 (.loop [8] [4, 5, 9, 10, 11, 12, 13, 14, 15, 16, 17, 18] (.seq (.region [
   ⟨some 9, .bin .lss (.t 8) (.t 7), none⟩])
 (.seq (.cond (.t 9) (.skip)
   (.exit 0))
 (.seq (.block 1 (.seq (.region [
   ⟨some 10, .mv (.t 8), none⟩,
   ⟨some 5, .mv (.t 10), none⟩])
 (.seq (.region [
   ⟨some 11, .mv (.t 1), none⟩,
   ⟨some 12, .mv (.t 0), none⟩,
   ⟨some 13, .mv (.t 5), none⟩,
   ⟨some 14, .iaddr none 1 (.t 12) (.t 13), none⟩,
   ⟨some 15, .load 1 false (.t 14), none⟩,
   ⟨some 16, .bin .eql (.t 11) (.t 15), none⟩])
 (.cond (.t 16) (.seq (.region [
     ⟨some 17, .mv (.t 5), none⟩,
     ⟨some 4, .mv (.t 17), none⟩])
   (.ret))
   (.skip)))))
 (.region [
   ⟨some 18, .bin .add (.t 8) (.k (.int .i64 1)), none⟩,
   ⟨some 8, .mv (.t 18), none⟩])))))))
 (.seq (.region [
   ⟨some 4, .mv (.k (.int .i64 (-1))), none⟩])
 (.ret)))⟩
theorem eq_slices_Index___string_string_ (Φ : Calls') (a0 a1 : AV) (H : AH) (Q : Post) : fnE1 Φ ir_slices_Index___string_string_ [a0, a1] H Q = slices_Index___string_string_ Φ a0 a1 H Q := by kernel_rfl

/-! (rabbet/parse.parser).binary -/
def parse_parser_binary_k1 (Φ : Calls') (a0 : AV) (a1 : AV) (x1 : AV) (x6 : AV) (x11 : AV) (Q : Post) : List AV → AH → Prop := fun j23 H24 =>
 Do (abin .add a1 (.int .i64 1)) fun x30 =>
Φ K.parse_parser_expr [a0, x30] H24 fun x31 H32 =>
 DoH (some (abox H32 true [.int .i64 0, .int .u64 0, .str [], .int .i64 0, .int .i64 0, .str [], .lst .nil 0 [], .lst .nil 0 []])) fun x33 H34 =>
 Do (astore H34 8 x33 x31) fun H35 =>
Φ K.parse_parser_want [a0, (.str [41])] H35 fun x36 H37 =>
 Do (aload H37 8 true x6) fun x38 =>
 Do (aload H37 8 true x33) fun x39 =>
 DoH (abslice H37 false 8 2 [.int .i64 0, .int .u64 0, .str [], .int .i64 0, .int .i64 0, .str [], .lst .nil 0 [], .lst .nil 0 []] [(0, 8, x38), (8, 8, x39)]) fun x40 H41 =>
 Do (abuild [.int .i64 0, .int .u64 0, .str [], .int .i64 0, .int .i64 0, .str [], .lst .nil 0 [], .lst .nil 0 []] [(0, 1, (.int .i64 3)), (3, 1, x11), (7, 1, x40)]) fun x42 =>
 Do (astore H41 8 x1 x42) fun H43 =>
 Do (aload H43 8 true x1) fun x44 =>
 Q x44 H43
def parse_parser_binary_k2 (Φ : Calls') (a0 : AV) (a1 : AV) (x1 : AV) (x6 : AV) (x11 : AV) (Q : Post) : List AV → AH → Prop := fun j13 H14 =>
Φ K.parse_parser_bad [a0] H14 fun x25 H26 =>
 Do (aun .not x25) fun x27 =>
 Gd x27 true (
Φ K.parse_parser_next [a0] H26 fun x28 H29 =>
 JoinP (parse_parser_binary_k1 Φ a0 a1 x1 x6 x11 Q) [] H29) (
 JoinP (parse_parser_binary_k1 Φ a0 a1 x1 x6 x11 Q) [] H26)
def parse_parser_binary_k3 (Φ : Calls') (a0 : AV) (a1 : AV) (x1 : AV) (x6 : AV) (x11 : AV) (Q : Post) : List AV → AH → Prop := fun j15 H16 =>
 Gd (sl j15 0) true (
Φ K.parse_parser_fail [a0, (.int .i64 4)] H16 fun x21 H22 =>
 JoinP (parse_parser_binary_k2 Φ a0 a1 x1 x6 x11 Q) [] H22) (
 JoinP (parse_parser_binary_k2 Φ a0 a1 x1 x6 x11 Q) [] H16)
def parse_parser_binary (Φ : Calls') (a0 : AV) (a1 : AV) (H : AH) (Q : Post) : Prop :=
 DoH (some (abox H true [.int .i64 0, .int .u64 0, .str [], .int .i64 0, .int .i64 0, .str [], .lst .nil 0 [], .lst .nil 0 []])) fun x1 H2 =>
 Do (abin .add a1 (.int .i64 1)) fun x3 =>
Φ K.parse_parser_expr [a0, x3] H2 fun x4 H5 =>
 DoH (some (abox H5 true [.int .i64 0, .int .u64 0, .str [], .int .i64 0, .int .i64 0, .str [], .lst .nil 0 [], .lst .nil 0 []])) fun x6 H7 =>
 Do (astore H7 8 x6 x4) fun H8 =>
Φ K.parse_parser_peek [a0] H8 fun x9 H10 =>
Φ K.parse_operator [x9] H10 fun x11 H12 =>
Φ K.parse_parser_bad [a0] H12 fun x17 H18 =>
 Do (aun .not x17) fun x19 =>
 Gd3 x19 true (
 Do (abin .eql x11 (.int .i64 0)) fun x20 =>
 JoinP (parse_parser_binary_k3 Φ a0 a1 x1 x6 x11 Q) [x20] H18) (
 JoinP (parse_parser_binary_k3 Φ a0 a1 x1 x6 x11 Q) [(.bool false)] H18) (
 False)
def ir_parse_parser_binary : AFunc := ⟨40, [.cell 4 8 true],
 .seq (.region [
   ⟨some 4, .alloc true [.int .i64 0, .int .u64 0, .str [], .int .i64 0, .int .i64 0, .str [], .lst .nil 0 [], .lst .nil 0 []], none⟩])
 (.seq (.region [
   ⟨some 8, .mv (.t 0), none⟩,
   ⟨some 9, .mv (.t 1), none⟩,
   ⟨some 10, .bin .add (.t 9) (.k (.int .i64 1)), none⟩,
   ⟨some 11, .call K.parse_parser_expr [(.t 8), (.t 10)], none⟩,
   ⟨some 5, .alloc true [.int .i64 0, .int .u64 0, .str [], .int .i64 0, .int .i64 0, .str [], .lst .nil 0 [], .lst .nil 0 []], none⟩,
   ⟨none, .store 8 (.t 5) (.t 11), none⟩])
 (.seq (.region [
   ⟨some 12, .mv (.t 0), none⟩,
   ⟨some 13, .call K.parse_parser_peek [(.t 12)], none⟩,
   ⟨some 14, .call K.parse_operator [(.t 13)], none⟩,
   ⟨some 6, .mv (.t 14), none⟩])
 (.join [] [15, 16, 17, 18, 19, 20, 21, 22, 23] (.join [21] [15, 16, 17, 18, 19, 20] (.region [
   ⟨some 15, .mv (.t 0), none⟩,
   ⟨some 16, .call K.parse_parser_bad [(.t 15)], none⟩,
   ⟨some 17, .un .not (.t 16), none⟩,
   ⟨some 18, .mv (.t 17), none⟩,
   ⟨some 19, .mv (.t 6), some (18, true)⟩,
   ⟨some 20, .bin .eql (.t 19) (.k (.int .i64 0)), some (18, true)⟩,
   ⟨some 21, .pick (.t 18) (.t 20) (.k (.bool false)), none⟩])
 (.cond (.t 21) (.region [
     ⟨some 22, .mv (.t 0), none⟩,
     ⟨some 23, .call K.parse_parser_fail [(.t 22), (.k (.int .i64 4))], none⟩])
   (.skip)))
 (.join [] [24, 25, 26, 27, 28] (.seq (.region [
   ⟨some 24, .mv (.t 0), none⟩,
   ⟨some 25, .call K.parse_parser_bad [(.t 24)], none⟩,
   ⟨some 26, .un .not (.t 25), none⟩])
 (.cond (.t 26) (.region [
     ⟨some 27, .mv (.t 0), none⟩,
     ⟨some 28, .call K.parse_parser_next [(.t 27)], none⟩])
   (.skip)))
 (.seq (.region [
   ⟨some 29, .mv (.t 0), none⟩,
   ⟨some 30, .mv (.t 1), none⟩,
   ⟨some 31, .bin .add (.t 30) (.k (.int .i64 1)), none⟩,
   ⟨some 32, .call K.parse_parser_expr [(.t 29), (.t 31)], none⟩,
   ⟨some 7, .alloc true [.int .i64 0, .int .u64 0, .str [], .int .i64 0, .int .i64 0, .str [], .lst .nil 0 [], .lst .nil 0 []], none⟩,
   ⟨none, .store 8 (.t 7) (.t 32), none⟩])
 (.seq (.region [
   ⟨some 33, .mv (.t 0), none⟩,
   ⟨some 34, .call K.parse_parser_want [(.t 33), (.k (.str [41]))], none⟩])
 (.seq (.region [
   ⟨some 35, .mv (.t 6), none⟩,
   ⟨some 36, .load 8 true (.t 5), none⟩,
   ⟨some 37, .load 8 true (.t 7), none⟩,
   ⟨some 38, .bslice false 8 2 [.int .i64 0, .int .u64 0, .str [], .int .i64 0, .int .i64 0, .str [], .lst .nil 0 [], .lst .nil 0 []] [(0, 8, (.t 36)), (8, 8, (.t 37))], none⟩,
   ⟨some 39, .build [.int .i64 0, .int .u64 0, .str [], .int .i64 0, .int .i64 0, .str [], .lst .nil 0 [], .lst .nil 0 []] [(0, 1, (.k (.int .i64 3))), (3, 1, (.t 35)), (7, 1, (.t 38))], none⟩,
   ⟨none, .store 8 (.t 4) (.t 39), none⟩])
 (.ret))))))))⟩
theorem eq_parse_parser_binary (Φ : Calls') (a0 a1 : AV) (H : AH) (Q : Post) : fnE1 Φ ir_parse_parser_binary [a0, a1] H Q = parse_parser_binary Φ a0 a1 H Q := by kernel_rfl

/-! (rabbet/parse.parser).access -/
def parse_parser_access_k1 (Φ : Calls') (x1 : AV) (x4 : AV) (Q : Post) : List AV → AH → Prop := fun j18 H19 =>
 Do (aload H19 8 true x4) fun x35 =>
 Do (astore H19 8 x1 x35) fun H36 =>
 Do (aload H36 8 true x1) fun x37 =>
 Q x37 H36
def parse_parser_access_l2 (Φ : Calls') (a0 : AV) (a2 : AV) (a3 : AV) (x1 : AV) (x4 : AV) (Q : Post) : (List AV × AH) → ((List AV × AH) → Prop) → Prop := fun s20 L21 =>
 Do (abin .lss (sl s20.1 0) a2) fun x22 =>
 Gd x22 true (
 Do (afaddr 7 x4) fun x23 =>
 Do (aload s20.2 1 false x23) fun x24 =>
 Do (abin .add a3 (.int .i64 1)) fun x25 =>
Φ K.parse_parser_expr [a0, x25] s20.2 fun x26 H27 =>
(aload H27 1 false x23 = some x24) ∧
(DoH (abslice H27 false 8 1 [.int .i64 0, .int .u64 0, .str [], .int .i64 0, .int .i64 0, .str [], .lst .nil 0 [], .lst .nil 0 []] [(0, 8, x26)]) fun x28 H29 =>
 DoH (aappend H29 false 8 112 x24 x28) fun x30 H31 =>
 Do (afaddr 7 x4) fun x32 =>
 Do (astore H31 1 x32 x30) fun H33 =>
 Do (abin .add (sl s20.1 0) (.int .i64 1)) fun x34 =>
 L21 ([x34], H33))) (
 JoinP (parse_parser_access_k1 Φ x1 x4 Q) [] s20.2)
def parse_parser_access_k3 (Φ : Calls') (a0 : AV) (a2 : AV) (a3 : AV) (x1 : AV) (x4 : AV) (Q : Post) : List AV → AH → Prop := fun j7 H8 =>
Φ K.parse_parser_place [a0, a3] H8 fun x14 H15 =>
 Do (afaddr 5 x4) fun x16 =>
 Do (astore H15 2 x16 x14) fun H17 =>
 LoopP (parse_parser_access_l2 Φ a0 a2 a3 x1 x4 Q) ([(.int .i64 0)], H17)
def parse_parser_access (Φ : Calls') (a0 : AV) (a1 : AV) (a2 : AV) (a3 : AV) (H : AH) (Q : Post) : Prop :=
 DoH (some (abox H true [.int .i64 0, .int .u64 0, .str [], .int .i64 0, .int .i64 0, .str [], .lst .nil 0 [], .lst .nil 0 []])) fun x1 H2 =>
 Do (abuild [.int .i64 0, .int .u64 0, .str [], .int .i64 0, .int .i64 0, .str [], .lst .nil 0 [], .lst .nil 0 []] [(0, 1, a1)]) fun x3 =>
 DoH (some (abox H2 true [.int .i64 0, .int .u64 0, .str [], .int .i64 0, .int .i64 0, .str [], .lst .nil 0 [], .lst .nil 0 []])) fun x4 H5 =>
 Do (astore H5 8 x4 x3) fun H6 =>
 Do (abin .neq a1 (.int .i64 4)) fun x9 =>
 Gd x9 true (
Φ K.parse_parser_order [a0] H6 fun x10 H11 =>
 Do (afaddr 4 x4) fun x12 =>
 Do (astore H11 1 x12 x10) fun H13 =>
 JoinP (parse_parser_access_k3 Φ a0 a2 a3 x1 x4 Q) [] H13) (
 JoinP (parse_parser_access_k3 Φ a0 a2 a3 x1 x4 Q) [] H6)
def ir_parse_parser_access : AFunc := ⟨35, [.cell 8 8 true],
 .seq (.region [
   ⟨some 8, .alloc true [.int .i64 0, .int .u64 0, .str [], .int .i64 0, .int .i64 0, .str [], .lst .nil 0 [], .lst .nil 0 []], none⟩])
 (.seq (.region [
   ⟨some 10, .mv (.t 1), none⟩,
   ⟨some 11, .build [.int .i64 0, .int .u64 0, .str [], .int .i64 0, .int .i64 0, .str [], .lst .nil 0 [], .lst .nil 0 []] [(0, 1, (.t 10))], none⟩,
   ⟨some 9, .alloc true [.int .i64 0, .int .u64 0, .str [], .int .i64 0, .int .i64 0, .str [], .lst .nil 0 [], .lst .nil 0 []], none⟩,
   ⟨none, .store 8 (.t 9) (.t 11), none⟩])
 (.join [] [12, 13, 14, 15, 16] (.seq (.region [
   ⟨some 12, .mv (.t 1), none⟩,
   ⟨some 13, .bin .neq (.t 12) (.k (.int .i64 4)), none⟩])
 (.cond (.t 13) (.region [
     ⟨some 14, .mv (.t 0), none⟩,
     ⟨some 15, .call K.parse_parser_order [(.t 14)], none⟩,
     ⟨some 16, .faddr 4 (.t 9), none⟩,
     ⟨none, .store 1 (.t 16) (.t 15), none⟩])
   (.skip)))
 (.seq (.region [
   ⟨some 17, .mv (.t 0), none⟩,
   ⟨some 18, .mv (.t 3), none⟩,
   ⟨some 19, .call K.parse_parser_place [(.t 17), (.t 18)], none⟩,
   ⟨some 20, .faddr 5 (.t 9), none⟩,
   ⟨none, .store 2 (.t 20) (.t 19), none⟩])
 (.join [] [21, 22, 23, 24, 25, 26, 27, 28, 29, 30, 31, 32, 33] (.seq (.region [
   ⟨some 21, .mv (.t 2), none⟩,
   ⟨some 22, .mv (.k (.int .i64 0)), none⟩])
 (.block 0 (.loop [22] [23, 24, 25, 26, 27, 28, 29, 30, 31, 32, 33] (.seq (.region [
   ⟨some 23, .bin .lss (.t 22) (.t 21), none⟩])
 (.seq (.cond (.t 23) (.skip)
   (.exit 0))
 (.seq (.block 1 (.draw [
   ⟨some 24, .faddr 7 (.t 9), none⟩,
   ⟨some 25, .load 1 false (.t 24), none⟩,
   ⟨some 26, .mv (.t 0), none⟩,
   ⟨some 27, .mv (.t 3), none⟩,
   ⟨some 28, .bin .add (.t 27) (.k (.int .i64 1)), none⟩,
   ⟨some 29, .call K.parse_parser_expr [(.t 26), (.t 28)], none⟩,
   ⟨some 30, .bslice false 8 1 [.int .i64 0, .int .u64 0, .str [], .int .i64 0, .int .i64 0, .str [], .lst .nil 0 [], .lst .nil 0 []] [(0, 8, (.t 29))], none⟩,
   ⟨some 31, .append false 8 112 (.t 25) (.t 30), none⟩,
   ⟨some 32, .faddr 7 (.t 9), none⟩,
   ⟨none, .store 1 (.t 32) (.t 31), none⟩]
 [[], [0], [], [], [3], [2, 3, 4], [2, 3, 4, 5], [0, 1, 2, 3, 4, 5, 6], [0, 1, 2, 3, 4, 5, 6, 7], [0, 1, 2, 3, 4, 5, 6, 7, 8]] [([0, 1, 2, 3, 4], 5, [1]), ([6], 7, []), ([8], 9, [])] []))
 (.region [
   ⟨some 33, .bin .add (.t 22) (.k (.int .i64 1)), none⟩,
   ⟨some 22, .mv (.t 33), none⟩])))))))
 (.seq (.region [
   ⟨some 34, .load 8 true (.t 9), none⟩,
   ⟨none, .store 8 (.t 8) (.t 34), none⟩])
 (.ret))))))⟩
theorem eq_parse_parser_access (Φ : Calls') (a0 a1 a2 a3 : AV) (H : AH) (Q : Post) : fnE1 Φ ir_parse_parser_access [a0, a1, a2, a3] H Q = parse_parser_access Φ a0 a1 a2 a3 H Q := by kernel_rfl

/-! (rabbet/lex.scanner).run -/
def lex_scanner_run_k1 (Φ : Calls') (s6 : List AV × AH) (L7 : (List AV × AH) → Prop) (Q : Post) : List AV → AH → Prop := fun j8 H9 =>
 Do (abin .add (sl s6.1 0) (.int .i64 1)) fun x25 =>
 L7 ([x25], H9)
def lex_scanner_run_k2 (Φ : Calls') (a0 : AV) (Q : Post) : List AV → AH → Prop := fun j4 H5 =>
 Do (anilck a0) fun x26 =>
 Do (afaddr 1 x26) fun x27 =>
 Do (aload H5 1 false x27) fun x28 =>
 Do (abin .sub (sl j4 0) x28) fun x29 =>
 Q x29 H5
def lex_scanner_run_k3 (Φ : Calls') (a0 : AV) (s6 : List AV × AH) (L7 : (List AV × AH) → Prop) (Q : Post) : List AV → AH → Prop := fun j10 H11 =>
 Gd (sl j10 0) true (
 JoinP (lex_scanner_run_k1 Φ s6 L7 Q) [] H11) (
 JoinP (lex_scanner_run_k2 Φ a0 Q) [(sl s6.1 0)] H11)
def lex_scanner_run_l4 (Φ : Calls') (a0 : AV) (a1 : AV) (Q : Post) : (List AV × AH) → ((List AV × AH) → Prop) → Prop := fun s6 L7 =>
 Do (anilck a0) fun x12 =>
 Do (afaddr 0 x12) fun x13 =>
 Do (aload s6.2 1 false x13) fun x14 =>
 Do (alen true x14) fun x15 =>
 Do (abin .lss (sl s6.1 0) x15) fun x16 =>
 Gd3 x16 true (
 Do (anilck a0) fun x17 =>
 Do (afaddr 0 x17) fun x18 =>
 Do (aload s6.2 1 false x18) fun x19 =>
 Do (aidxs x19 (sl s6.1 0)) fun x20 =>
∃ k23 c24, a1 = .fn k23 c24 ∧ Φ k23 ([x20] ++ c24) s6.2 fun x21 H22 =>
 JoinP (lex_scanner_run_k3 Φ a0 s6 L7 Q) [x21] H22) (
 JoinP (lex_scanner_run_k3 Φ a0 s6 L7 Q) [(.bool false)] s6.2) (
 False)
def lex_scanner_run (Φ : Calls') (a0 : AV) (a1 : AV) (H : AH) (Q : Post) : Prop :=
 Do (anilck a0) fun x1 =>
 Do (afaddr 1 x1) fun x2 =>
 Do (aload H 1 false x2) fun x3 =>
 LoopP (lex_scanner_run_l4 Φ a0 a1 Q) ([x3], H)
def ir_lex_scanner_run : AFunc := ⟨35, [.tmp 4],
 .seq (.region [
   ⟨some 4, .mv (.k (.int .i64 0)), none⟩])
 (.seq (.region [
   ⟨some 6, .mv (.t 0), none⟩,
   ⟨some 7, .nilck (.t 6), none⟩,
   ⟨some 8, .faddr 1 (.t 7), none⟩,
   ⟨some 9, .load 1 false (.t 8), none⟩,
   ⟨some 5, .mv (.t 9), none⟩])
 (.join [5] [10, 11, 12, 13, 14, 15, 16, 17, 18, 19, 20, 21, 22, 23, 24, 25, 26, 27, 28] (.block 0 (.loop [5] [10, 11, 12, 13, 14, 15, 16, 17, 18, 19, 20, 21, 22, 23, 24, 25, 26, 27, 28] (.join [] [10, 11, 12, 13, 14, 15, 16, 17, 18, 19, 20, 21, 22, 23, 24, 25, 26] (.join [26] [10, 11, 12, 13, 14, 15, 16, 17, 18, 19, 20, 21, 22, 23, 24, 25] (.region [
   ⟨some 10, .mv (.t 5), none⟩,
   ⟨some 11, .mv (.t 0), none⟩,
   ⟨some 12, .nilck (.t 11), none⟩,
   ⟨some 13, .faddr 0 (.t 12), none⟩,
   ⟨some 14, .load 1 false (.t 13), none⟩,
   ⟨some 15, .len true (.t 14), none⟩,
   ⟨some 16, .bin .lss (.t 10) (.t 15), none⟩,
   ⟨some 17, .mv (.t 16), none⟩,
   ⟨some 18, .mv (.t 1), some (17, true)⟩,
   ⟨some 19, .mv (.t 0), some (17, true)⟩,
   ⟨some 20, .nilck (.t 19), some (17, true)⟩,
   ⟨some 21, .faddr 0 (.t 20), some (17, true)⟩,
   ⟨some 22, .load 1 false (.t 21), some (17, true)⟩,
   ⟨some 23, .mv (.t 5), some (17, true)⟩,
   ⟨some 24, .idxs (.t 22) (.t 23), some (17, true)⟩,
   ⟨some 25, .callv (.t 18) [(.t 24)], some (17, true)⟩,
   ⟨some 26, .pick (.t 17) (.t 25) (.k (.bool false)), none⟩])
 (.cond (.t 26) (.skip)
   (.exit 0)))
 (.block 1 (.region [
   ⟨some 27, .mv (.t 5), none⟩,
   ⟨some 28, .bin .add (.t 27) (.k (.int .i64 1)), none⟩,
   ⟨some 5, .mv (.t 28), none⟩])))))
 (.seq (.region [
   ⟨some 29, .mv (.t 5), none⟩,
   ⟨some 30, .mv (.t 0), none⟩,
   ⟨some 31, .nilck (.t 30), none⟩,
   ⟨some 32, .faddr 1 (.t 31), none⟩,
   ⟨some 33, .load 1 false (.t 32), none⟩,
   ⟨some 34, .bin .sub (.t 29) (.t 33), none⟩,
   ⟨some 4, .mv (.t 34), none⟩])
 (.ret))))⟩
theorem eq_lex_scanner_run (Φ : Calls') (a0 a1 : AV) (H : AH) (Q : Post) : fnE1 Φ ir_lex_scanner_run [a0, a1] H Q = lex_scanner_run Φ a0 a1 H Q := by kernel_rfl

/-! rabbet/lex.part -/
def lex_part_k1 (Φ : Calls') (a0 : AV) (Q : Post) : List AV → AH → Prop := fun j1 H2 =>
 Gd3 (sl j1 0) false (
 Do (abin .eql a0 (.int .u8 95)) fun x7 =>
 Q x7 H2) (
 Q (.bool true) H2) (
 False)
def lex_part (Φ : Calls') (a0 : AV) (H : AH) (Q : Post) : Prop :=
Φ K.lex_letter [a0] H fun x3 H4 =>
 Gd3 x3 false (
Φ K.lex_digit [a0] H4 fun x5 H6 =>
 JoinP (lex_part_k1 Φ a0 Q) [x5] H6) (
 JoinP (lex_part_k1 Φ a0 Q) [(.bool true)] H4) (
 False)
def ir_lex_part : AFunc := ⟨13, [.tmp 2],
 .seq (.region [
   ⟨some 2, .mv (.k (.bool false)), none⟩])
 (.seq (.rjoin [8] [3, 4, 5, 6, 7] [
   ⟨some 3, .mv (.t 0), none⟩,
   ⟨some 4, .call K.lex_letter [(.t 3)], none⟩,
   ⟨some 5, .mv (.t 4), none⟩,
   ⟨some 6, .mv (.t 0), some (5, false)⟩,
   ⟨some 7, .call K.lex_digit [(.t 6)], some (5, false)⟩,
   ⟨some 8, .pick (.t 5) (.k (.bool true)) (.t 7), none⟩]
 (.region [
   ⟨some 9, .mv (.t 8), none⟩,
   ⟨some 10, .mv (.t 0), some (9, false)⟩,
   ⟨some 11, .bin .eql (.t 10) (.k (.int .u8 95)), some (9, false)⟩,
   ⟨some 12, .pick (.t 9) (.k (.bool true)) (.t 11), none⟩,
   ⟨some 2, .mv (.t 12), none⟩]))
 (.ret))⟩
theorem eq_lex_part (Φ : Calls') (a0 : AV) (H : AH) (Q : Post) : fnE1 Φ ir_lex_part [a0] H Q = lex_part Φ a0 H Q := by kernel_rfl

/-! (rabbet/lex.scanner).take -/
def lex_scanner_take (Φ : Calls') (a0 : AV) (a1 : AV) (H : AH) (Q : Post) : Prop :=
 Do (anilck a0) fun x1 =>
 Do (afaddr 3 x1) fun x2 =>
 Do (aload H 1 false x2) fun x3 =>
 Do (anilck a0) fun x4 =>
 Do (afaddr 0 x4) fun x5 =>
 Do (aload H 1 false x5) fun x6 =>
 Do (anilck a0) fun x7 =>
 Do (afaddr 1 x7) fun x8 =>
 Do (aload H 1 false x8) fun x9 =>
 Do (anilck a0) fun x10 =>
 Do (afaddr 1 x10) fun x11 =>
 Do (aload H 1 false x11) fun x12 =>
 Do (abin .add x12 a1) fun x13 =>
 Do (asslice x6 (some x9) (some x13)) fun x14 =>
 Do (anilck a0) fun x15 =>
 Do (afaddr 2 x15) fun x16 =>
 Do (aload H 1 false x16) fun x17 =>
 Do (abuild [.str [], .int .i64 0] [(0, 1, x14), (1, 1, x17)]) fun x18 =>
 DoH (abslice H false 2 1 [.str [], .int .i64 0] [(0, 2, x18)]) fun x19 H20 =>
 DoH (aappend H20 false 2 24 x3 x19) fun x21 H22 =>
 Do (anilck a0) fun x23 =>
 Do (afaddr 3 x23) fun x24 =>
 Do (astore H22 1 x24 x21) fun H25 =>
 Do (anilck a0) fun x26 =>
 Do (afaddr 1 x26) fun x27 =>
 Do (aload H25 1 false x27) fun x28 =>
 Do (abin .add x28 a1) fun x29 =>
 Do (anilck a0) fun x30 =>
 Do (afaddr 1 x30) fun x31 =>
 Do (astore H25 1 x31 x29) fun H32 =>
 Q (.tup []) H32
def ir_lex_scanner_take : AFunc := ⟨41, [],
 .seq (.draw [
   ⟨some 4, .mv (.t 0), none⟩,
   ⟨some 5, .mv (.t 0), none⟩,
   ⟨some 6, .nilck (.t 5), none⟩,
   ⟨some 7, .faddr 3 (.t 6), none⟩,
   ⟨some 8, .load 1 false (.t 7), none⟩,
   ⟨some 9, .mv (.t 0), none⟩,
   ⟨some 10, .nilck (.t 9), none⟩,
   ⟨some 11, .faddr 0 (.t 10), none⟩,
   ⟨some 12, .load 1 false (.t 11), none⟩,
   ⟨some 13, .mv (.t 0), none⟩,
   ⟨some 14, .nilck (.t 13), none⟩,
   ⟨some 15, .faddr 1 (.t 14), none⟩,
   ⟨some 16, .load 1 false (.t 15), none⟩,
   ⟨some 17, .mv (.t 0), none⟩,
   ⟨some 18, .nilck (.t 17), none⟩,
   ⟨some 19, .faddr 1 (.t 18), none⟩,
   ⟨some 20, .load 1 false (.t 19), none⟩,
   ⟨some 21, .mv (.t 1), none⟩,
   ⟨some 22, .bin .add (.t 20) (.t 21), none⟩,
   ⟨some 23, .sslice (.t 12) (some (.t 16)) (some (.t 22)), none⟩,
   ⟨some 24, .mv (.t 0), none⟩,
   ⟨some 25, .nilck (.t 24), none⟩,
   ⟨some 26, .faddr 2 (.t 25), none⟩,
   ⟨some 27, .load 1 false (.t 26), none⟩,
   ⟨some 28, .build [.str [], .int .i64 0] [(0, 1, (.t 23)), (1, 1, (.t 27))], none⟩,
   ⟨some 29, .bslice false 2 1 [.str [], .int .i64 0] [(0, 2, (.t 28))], none⟩,
   ⟨some 30, .append false 2 24 (.t 8) (.t 29), none⟩,
   ⟨some 31, .nilck (.t 4), none⟩,
   ⟨some 32, .faddr 3 (.t 31), none⟩,
   ⟨none, .store 1 (.t 32) (.t 30), none⟩]
 [[], [], [1], [1, 2], [1, 2, 3], [], [5], [5, 6], [5, 6, 7], [], [9], [9, 10], [9, 10, 11], [], [13], [13, 14], [13, 14, 15], [], [13, 14, 15, 16, 17], [5, 6, 7, 8, 9, 10, 11, 12, 13, 14, 15, 16, 17, 18], [], [20], [20, 21], [20, 21, 22], [5, 6, 7, 8, 9, 10, 11, 12, 13, 14, 15, 16, 17, 18, 19, 20, 21, 22, 23], [5, 6, 7, 8, 9, 10, 11, 12, 13, 14, 15, 16, 17, 18, 19, 20, 21, 22, 23, 24], [1, 2, 3, 4, 5, 6, 7, 8, 9, 10, 11, 12, 13, 14, 15, 16, 17, 18, 19, 20, 21, 22, 23, 24, 25], [0, 1, 2, 3, 4, 5, 6, 7, 8, 9, 10, 11, 12, 13, 14, 15, 16, 17, 18, 19, 20, 21, 22, 23, 24, 25, 26], [0, 1, 2, 3, 4, 5, 6, 7, 8, 9, 10, 11, 12, 13, 14, 15, 16, 17, 18, 19, 20, 21, 22, 23, 24, 25, 26, 27], [0, 1, 2, 3, 4, 5, 6, 7, 8, 9, 10, 11, 12, 13, 14, 15, 16, 17, 18, 19, 20, 21, 22, 23, 24, 25, 26, 27, 28]] [([0, 1, 2, 3, 4, 5, 6, 7, 8, 9, 10, 11, 12, 13, 14, 15, 16, 17, 18, 19, 20, 21, 22, 23, 24, 25], 26, []), ([27, 28], 29, [])] [])
 (.region [
   ⟨some 33, .mv (.t 0), none⟩,
   ⟨some 34, .nilck (.t 33), none⟩,
   ⟨some 35, .faddr 1 (.t 34), none⟩,
   ⟨some 36, .load 1 false (.t 35), none⟩,
   ⟨some 37, .mv (.t 1), none⟩,
   ⟨some 38, .bin .add (.t 36) (.t 37), none⟩,
   ⟨some 39, .nilck (.t 33), none⟩,
   ⟨some 40, .faddr 1 (.t 39), none⟩,
   ⟨none, .store 1 (.t 40) (.t 38), none⟩])⟩
theorem eq_lex_scanner_take (Φ : Calls') (a0 a1 : AV) (H : AH) (Q : Post) : fnE1 Φ ir_lex_scanner_take [a0, a1] H Q = lex_scanner_take Φ a0 a1 H Q := by kernel_rfl

/-! strings.HasPrefix -/
def strings_HasPrefix (Φ : Calls') (a0 : AV) (a1 : AV) (H : AH) (Q : Post) : Prop :=
Φ K.internal_stringslite_HasPrefix [a0, a1] H fun x1 H2 =>
 Q x1 H2
def ir_strings_HasPrefix : AFunc := ⟨8, [.tmp 4],
 .seq (.region [
   ⟨some 4, .mv (.k (.bool false)), none⟩])
 (.seq (.region [
   ⟨some 5, .mv (.t 0), none⟩,
   ⟨some 6, .mv (.t 1), none⟩,
   ⟨some 7, .call K.internal_stringslite_HasPrefix [(.t 5), (.t 6)], none⟩,
   ⟨some 4, .mv (.t 7), none⟩])
 (.ret))⟩
theorem eq_strings_HasPrefix (Φ : Calls') (a0 a1 : AV) (H : AH) (Q : Post) : fnE1 Φ ir_strings_HasPrefix [a0, a1] H Q = strings_HasPrefix Φ a0 a1 H Q := by kernel_rfl

/-! strings.IndexByte -/
def strings_IndexByte (Φ : Calls') (a0 : AV) (a1 : AV) (H : AH) (Q : Post) : Prop :=
Φ K.internal_stringslite_IndexByte [a0, a1] H fun x1 H2 =>
 Q x1 H2
def ir_strings_IndexByte : AFunc := ⟨8, [.tmp 4],
 .seq (.region [
   ⟨some 4, .mv (.k (.int .i64 0)), none⟩])
 (.seq (.region [
   ⟨some 5, .mv (.t 0), none⟩,
   ⟨some 6, .mv (.t 1), none⟩,
   ⟨some 7, .call K.internal_stringslite_IndexByte [(.t 5), (.t 6)], none⟩,
   ⟨some 4, .mv (.t 7), none⟩])
 (.ret))⟩
theorem eq_strings_IndexByte (Φ : Calls') (a0 a1 : AV) (H : AH) (Q : Post) : fnE1 Φ ir_strings_IndexByte [a0, a1] H Q = strings_IndexByte Φ a0 a1 H Q := by kernel_rfl

/-! rabbet/parse.operator -/
def parse_operator_l1 (Φ : Calls') (a0 : AV) (x1 : AV) (Q : Post) : (List AV × AH) → ((List AV × AH) → Prop) → Prop := fun s2 L3 =>
 Do (abin .lss (sl s2.1 0) (.int .i64 11)) fun x4 =>
 Gd x4 true (
 Do (aidx 11 1 false x1 (sl s2.1 0)) fun x5 =>
 Do (abin .eql x5 a0) fun x6 =>
 Gd x6 true (
 Do (abin .add (sl s2.1 0) (.int .i64 1)) fun x7 =>
 Q x7 s2.2) (
 Do (abin .add (sl s2.1 0) (.int .i64 1)) fun x8 =>
 L3 ([x8], s2.2))) (
 Q (.int .i64 0) s2.2)
def parse_operator (Φ : Calls') (a0 : AV) (H : AH) (Q : Post) : Prop :=
 Do (abuild [.str [], .str [], .str [], .str [], .str [], .str [], .str [], .str [], .str [], .str [], .str []] [(0, 1, (.str [43])), (1, 1, (.str [45])), (2, 1, (.str [42])), (3, 1, (.str [38])), (4, 1, (.str [124])), (5, 1, (.str [94])), (6, 1, (.str [60, 60])), (7, 1, (.str [62, 62])), (8, 1, (.str [61, 61])), (9, 1, (.str [33, 61])), (10, 1, (.str [60]))]) fun x1 =>
 LoopP (parse_operator_l1 Φ a0 x1 Q) ([(.int .i64 0)], H)
def ir_parse_operator : AFunc := ⟨16, [.tmp 2],
 .seq (.region [
   ⟨some 2, .mv (.k (.int .i64 0)), none⟩])
 (.seq (.seq (.region [
   ⟨some 5, .build [.str [], .str [], .str [], .str [], .str [], .str [], .str [], .str [], .str [], .str [], .str []] [(0, 1, (.k (.str [43]))), (1, 1, (.k (.str [45]))), (2, 1, (.k (.str [42]))), (3, 1, (.k (.str [38]))), (4, 1, (.k (.str [124]))), (5, 1, (.k (.str [94]))), (6, 1, (.k (.str [60, 60]))), (7, 1, (.k (.str [62, 62]))), (8, 1, (.k (.str [61, 61]))), (9, 1, (.k (.str [33, 61]))), (10, 1, (.k (.str [60])))], none⟩,
   ⟨some 6, .mv (.k (.int .i64 0)), none⟩])
 (.block 0 (.loop [6] [2, 3, 4, 7, 8, 9, 10, 11, 12, 13, 14, 15] (.seq (.region [
   ⟨some 7, .bin .lss (.t 6) (.k (.int .i64 11)), none⟩])
 (.seq (.cond (.t 7) (.skip)
   (.exit 0))
 (.seq (.block 1 (.seq (.region [
   ⟨some 8, .mv (.t 6), none⟩,
   ⟨some 9, .idx 11 1 false (.t 5) (.t 6), none⟩,
   ⟨some 3, .mv (.t 8), none⟩,
   ⟨some 4, .mv (.t 9), none⟩])
 (.seq (.region [
   ⟨some 10, .mv (.t 4), none⟩,
   ⟨some 11, .mv (.t 0), none⟩,
   ⟨some 12, .bin .eql (.t 10) (.t 11), none⟩])
 (.cond (.t 12) (.seq (.region [
     ⟨some 13, .mv (.t 3), none⟩,
     ⟨some 14, .bin .add (.t 13) (.k (.int .i64 1)), none⟩,
     ⟨some 2, .mv (.t 14), none⟩])
   (.ret))
   (.skip)))))
 (.region [
   ⟨some 15, .bin .add (.t 6) (.k (.int .i64 1)), none⟩,
   ⟨some 6, .mv (.t 15), none⟩])))))))
 (.seq (.region [
   ⟨some 2, .mv (.k (.int .i64 0)), none⟩])
 (.ret)))⟩
theorem eq_parse_operator (Φ : Calls') (a0 : AV) (H : AH) (Q : Post) : fnE1 Φ ir_parse_operator [a0] H Q = parse_operator Φ a0 H Q := by kernel_rfl

/-! internal/stringslite.HasPrefix -/
def internal_stringslite_HasPrefix (Φ : Calls') (a0 : AV) (a1 : AV) (H : AH) (Q : Post) : Prop :=
 Do (alen true a0) fun x1 =>
 Do (alen true a1) fun x2 =>
 Do (abin .geq x1 x2) fun x3 =>
 Gd3 x3 true (
 Do (alen true a1) fun x4 =>
 Do (asslice a0 none (some x4)) fun x5 =>
 Do (abin .eql x5 a1) fun x6 =>
 Q x6 H) (
 Q (.bool false) H) (
 False)
def ir_internal_stringslite_HasPrefix : AFunc := ⟨18, [.tmp 4],
 .seq (.region [
   ⟨some 4, .mv (.k (.bool false)), none⟩])
 (.seq (.region [
   ⟨some 5, .mv (.t 0), none⟩,
   ⟨some 6, .len true (.t 5), none⟩,
   ⟨some 7, .mv (.t 1), none⟩,
   ⟨some 8, .len true (.t 7), none⟩,
   ⟨some 9, .bin .geq (.t 6) (.t 8), none⟩,
   ⟨some 10, .mv (.t 9), none⟩,
   ⟨some 11, .mv (.t 0), some (10, true)⟩,
   ⟨some 12, .mv (.t 1), some (10, true)⟩,
   ⟨some 13, .len true (.t 12), some (10, true)⟩,
   ⟨some 14, .sslice (.t 11) none (some (.t 13)), some (10, true)⟩,
   ⟨some 15, .mv (.t 1), some (10, true)⟩,
   ⟨some 16, .bin .eql (.t 14) (.t 15), some (10, true)⟩,
   ⟨some 17, .pick (.t 10) (.t 16) (.k (.bool false)), none⟩,
   ⟨some 4, .mv (.t 17), none⟩])
 (.ret))⟩
theorem eq_internal_stringslite_HasPrefix (Φ : Calls') (a0 a1 : AV) (H : AH) (Q : Post) : fnE1 Φ ir_internal_stringslite_HasPrefix [a0, a1] H Q = internal_stringslite_HasPrefix Φ a0 a1 H Q := by kernel_rfl

def tab_Lex : Tab := [
  (K.rabbetlaw09_ParseWords, ir_rabbetlaw09_ParseWords),
  (K.rabbetlaw09_ParseMoves, ir_rabbetlaw09_ParseMoves),
  (K.rabbetref08_Words, ir_rabbetref08_Words),
  (K.rabbetlaw09_awake, ir_rabbetlaw09_awake),
  (K.parse_Prog, ir_parse_Prog),
  (K.rabbetref08_one, ir_rabbetref08_one),
  (K.parse_Type, ir_parse_Type),
  (K.parse_begin, ir_parse_begin),
  (K.parse_parser_is, ir_parse_parser_is),
  (K.parse_parser_name, ir_parse_parser_name),
  (K.parse_parser_typ, ir_parse_parser_typ),
  (K.parse_parser_want, ir_parse_parser_want),
  (K.parse_parser_block, ir_parse_parser_block),
  (K.parse_parser_end, ir_parse_parser_end),
  (K.rabbetref08_class, ir_rabbetref08_class),
  (K.rabbetref08_great, ir_rabbetref08_great),
  (K.lex_Tokens, ir_lex_Tokens),
  (K.parse_parser_bad, ir_parse_parser_bad),
  (K.parse_parser_peek, ir_parse_parser_peek),
  (K.parse_parser_next, ir_parse_parser_next),
  (K.parse_letters, ir_parse_letters),
  (K.lex_Keyword, ir_lex_Keyword),
  (K.parse_parser_fail, ir_parse_parser_fail),
  (K.parse_parser_deep, ir_parse_parser_deep),
  (K.parse_scalar, ir_parse_scalar),
  (K.parse_kind, ir_parse_kind),
  (K.parse_parser_number, ir_parse_parser_number),
  (K.parse_parser_field, ir_parse_parser_field),
  (K.parse_parser_stmt, ir_parse_parser_stmt),
  (K.lex_scanner_next, ir_lex_scanner_next),
  (K.slices_Contains___string_string_, ir_slices_Contains___string_string_),
  (K.parse_digits, ir_parse_digits),
  (K.parse_parser_value, ir_parse_parser_value),
  (K.parse_parser_place, ir_parse_parser_place),
  (K.parse_parser_order, ir_parse_parser_order),
  (K.parse_parser_expr, ir_parse_parser_expr),
  (K.parse_parser_control, ir_parse_parser_control),
  (K.lex_letter, ir_lex_letter),
  (K.lex_scanner_word, ir_lex_scanner_word),
  (K.lex_digit, ir_lex_digit),
  (K.lex_scanner_number, ir_lex_scanner_number),
  (K.lex_scanner_sign, ir_lex_scanner_sign),
  (K.slices_Index___string_string_, ir_slices_Index___string_string_),
  (K.parse_parser_binary, ir_parse_parser_binary),
  (K.parse_parser_access, ir_parse_parser_access),
  (K.lex_scanner_run, ir_lex_scanner_run),
  (K.lex_part, ir_lex_part),
  (K.lex_scanner_take, ir_lex_scanner_take),
  (K.strings_HasPrefix, ir_strings_HasPrefix),
  (K.strings_IndexByte, ir_strings_IndexByte),
  (K.parse_operator, ir_parse_operator),
  (K.internal_stringslite_HasPrefix, ir_internal_stringslite_HasPrefix)]

theorem cl_rabbetlaw09_ParseWords {Φ : Calls'} (hT : Cl Φ tab_Lex) {a0 : AV} {H : AH} {Q : Post} (h : rabbetlaw09_ParseWords Φ a0 H Q) : Φ K.rabbetlaw09_ParseWords [a0] H Q := hT.call (by kernel_rfl) (by kernel_rfl) (by rw [eq_rabbetlaw09_ParseWords]; exact h)
theorem cl_rabbetlaw09_ParseMoves {Φ : Calls'} (hT : Cl Φ tab_Lex) {a0 a1 : AV} {H : AH} {Q : Post} (h : rabbetlaw09_ParseMoves Φ a0 a1 H Q) : Φ K.rabbetlaw09_ParseMoves [a0, a1] H Q := hT.call (by kernel_rfl) (by kernel_rfl) (by rw [eq_rabbetlaw09_ParseMoves]; exact h)
theorem cl_rabbetref08_Words {Φ : Calls'} (hT : Cl Φ tab_Lex) {a0 : AV} {H : AH} {Q : Post} (h : rabbetref08_Words Φ a0 H Q) : Φ K.rabbetref08_Words [a0] H Q := hT.call (by kernel_rfl) (by kernel_rfl) (by rw [eq_rabbetref08_Words]; exact h)
theorem cl_rabbetlaw09_awake {Φ : Calls'} (hT : Cl Φ tab_Lex) {H : AH} {Q : Post} (h : rabbetlaw09_awake Φ H Q) : Φ K.rabbetlaw09_awake [] H Q := hT.call (by kernel_rfl) (by kernel_rfl) (by rw [eq_rabbetlaw09_awake]; exact h)
theorem cl_parse_Prog {Φ : Calls'} (hT : Cl Φ tab_Lex) {a0 : AV} {H : AH} {Q : Post} (h : parse_Prog Φ a0 H Q) : Φ K.parse_Prog [a0] H Q := hT.call (by kernel_rfl) (by kernel_rfl) (by rw [eq_parse_Prog]; exact h)
theorem cl_rabbetref08_one {Φ : Calls'} (hT : Cl Φ tab_Lex) {a0 a1 : AV} {H : AH} {Q : Post} (h : rabbetref08_one Φ a0 a1 H Q) : Φ K.rabbetref08_one [a0, a1] H Q := hT.call (by kernel_rfl) (by kernel_rfl) (by rw [eq_rabbetref08_one]; exact h)
theorem cl_parse_Type {Φ : Calls'} (hT : Cl Φ tab_Lex) {a0 : AV} {H : AH} {Q : Post} (h : parse_Type Φ a0 H Q) : Φ K.parse_Type [a0] H Q := hT.call (by kernel_rfl) (by kernel_rfl) (by rw [eq_parse_Type]; exact h)
theorem cl_parse_begin {Φ : Calls'} (hT : Cl Φ tab_Lex) {a0 : AV} {H : AH} {Q : Post} (h : parse_begin Φ a0 H Q) : Φ K.parse_begin [a0] H Q := hT.call (by kernel_rfl) (by kernel_rfl) (by rw [eq_parse_begin]; exact h)
theorem cl_parse_parser_is {Φ : Calls'} (hT : Cl Φ tab_Lex) {a0 a1 : AV} {H : AH} {Q : Post} (h : parse_parser_is Φ a0 a1 H Q) : Φ K.parse_parser_is [a0, a1] H Q := hT.call (by kernel_rfl) (by kernel_rfl) (by rw [eq_parse_parser_is]; exact h)
theorem cl_parse_parser_name {Φ : Calls'} (hT : Cl Φ tab_Lex) {a0 : AV} {H : AH} {Q : Post} (h : parse_parser_name Φ a0 H Q) : Φ K.parse_parser_name [a0] H Q := hT.call (by kernel_rfl) (by kernel_rfl) (by rw [eq_parse_parser_name]; exact h)
theorem cl_parse_parser_typ {Φ : Calls'} (hT : Cl Φ tab_Lex) {a0 a1 : AV} {H : AH} {Q : Post} (h : parse_parser_typ Φ a0 a1 H Q) : Φ K.parse_parser_typ [a0, a1] H Q := hT.call (by kernel_rfl) (by kernel_rfl) (by rw [eq_parse_parser_typ]; exact h)
theorem cl_parse_parser_want {Φ : Calls'} (hT : Cl Φ tab_Lex) {a0 a1 : AV} {H : AH} {Q : Post} (h : parse_parser_want Φ a0 a1 H Q) : Φ K.parse_parser_want [a0, a1] H Q := hT.call (by kernel_rfl) (by kernel_rfl) (by rw [eq_parse_parser_want]; exact h)
theorem cl_parse_parser_block {Φ : Calls'} (hT : Cl Φ tab_Lex) {a0 a1 : AV} {H : AH} {Q : Post} (h : parse_parser_block Φ a0 a1 H Q) : Φ K.parse_parser_block [a0, a1] H Q := hT.call (by kernel_rfl) (by kernel_rfl) (by rw [eq_parse_parser_block]; exact h)
theorem cl_parse_parser_end {Φ : Calls'} (hT : Cl Φ tab_Lex) {a0 : AV} {H : AH} {Q : Post} (h : parse_parser_end Φ a0 H Q) : Φ K.parse_parser_end [a0] H Q := hT.call (by kernel_rfl) (by kernel_rfl) (by rw [eq_parse_parser_end]; exact h)
theorem cl_rabbetref08_class {Φ : Calls'} (hT : Cl Φ tab_Lex) {a0 : AV} {H : AH} {Q : Post} (h : rabbetref08_class Φ a0 H Q) : Φ K.rabbetref08_class [a0] H Q := hT.call (by kernel_rfl) (by kernel_rfl) (by rw [eq_rabbetref08_class]; exact h)
theorem cl_rabbetref08_great {Φ : Calls'} (hT : Cl Φ tab_Lex) {a0 : AV} {H : AH} {Q : Post} (h : rabbetref08_great Φ a0 H Q) : Φ K.rabbetref08_great [a0] H Q := hT.call (by kernel_rfl) (by kernel_rfl) (by rw [eq_rabbetref08_great]; exact h)
theorem cl_lex_Tokens {Φ : Calls'} (hT : Cl Φ tab_Lex) {a0 : AV} {H : AH} {Q : Post} (h : lex_Tokens Φ a0 H Q) : Φ K.lex_Tokens [a0] H Q := hT.call (by kernel_rfl) (by kernel_rfl) (by rw [eq_lex_Tokens]; exact h)
theorem cl_parse_parser_bad {Φ : Calls'} (hT : Cl Φ tab_Lex) {a0 : AV} {H : AH} {Q : Post} (h : parse_parser_bad Φ a0 H Q) : Φ K.parse_parser_bad [a0] H Q := hT.call (by kernel_rfl) (by kernel_rfl) (by rw [eq_parse_parser_bad]; exact h)
theorem cl_parse_parser_peek {Φ : Calls'} (hT : Cl Φ tab_Lex) {a0 : AV} {H : AH} {Q : Post} (h : parse_parser_peek Φ a0 H Q) : Φ K.parse_parser_peek [a0] H Q := hT.call (by kernel_rfl) (by kernel_rfl) (by rw [eq_parse_parser_peek]; exact h)
theorem cl_parse_parser_next {Φ : Calls'} (hT : Cl Φ tab_Lex) {a0 : AV} {H : AH} {Q : Post} (h : parse_parser_next Φ a0 H Q) : Φ K.parse_parser_next [a0] H Q := hT.call (by kernel_rfl) (by kernel_rfl) (by rw [eq_parse_parser_next]; exact h)
theorem cl_parse_letters {Φ : Calls'} (hT : Cl Φ tab_Lex) {a0 : AV} {H : AH} {Q : Post} (h : parse_letters Φ a0 H Q) : Φ K.parse_letters [a0] H Q := hT.call (by kernel_rfl) (by kernel_rfl) (by rw [eq_parse_letters]; exact h)
theorem cl_lex_Keyword {Φ : Calls'} (hT : Cl Φ tab_Lex) {a0 : AV} {H : AH} {Q : Post} (h : lex_Keyword Φ a0 H Q) : Φ K.lex_Keyword [a0] H Q := hT.call (by kernel_rfl) (by kernel_rfl) (by rw [eq_lex_Keyword]; exact h)
theorem cl_parse_parser_fail {Φ : Calls'} (hT : Cl Φ tab_Lex) {a0 a1 : AV} {H : AH} {Q : Post} (h : parse_parser_fail Φ a0 a1 H Q) : Φ K.parse_parser_fail [a0, a1] H Q := hT.call (by kernel_rfl) (by kernel_rfl) (by rw [eq_parse_parser_fail]; exact h)
theorem cl_parse_parser_deep {Φ : Calls'} (hT : Cl Φ tab_Lex) {a0 a1 : AV} {H : AH} {Q : Post} (h : parse_parser_deep Φ a0 a1 H Q) : Φ K.parse_parser_deep [a0, a1] H Q := hT.call (by kernel_rfl) (by kernel_rfl) (by rw [eq_parse_parser_deep]; exact h)
theorem cl_parse_scalar {Φ : Calls'} (hT : Cl Φ tab_Lex) {a0 : AV} {H : AH} {Q : Post} (h : parse_scalar Φ a0 H Q) : Φ K.parse_scalar [a0] H Q := hT.call (by kernel_rfl) (by kernel_rfl) (by rw [eq_parse_scalar]; exact h)
theorem cl_parse_kind {Φ : Calls'} (hT : Cl Φ tab_Lex) {a0 : AV} {H : AH} {Q : Post} (h : parse_kind Φ a0 H Q) : Φ K.parse_kind [a0] H Q := hT.call (by kernel_rfl) (by kernel_rfl) (by rw [eq_parse_kind]; exact h)
theorem cl_parse_parser_number {Φ : Calls'} (hT : Cl Φ tab_Lex) {a0 a1 : AV} {H : AH} {Q : Post} (h : parse_parser_number Φ a0 a1 H Q) : Φ K.parse_parser_number [a0, a1] H Q := hT.call (by kernel_rfl) (by kernel_rfl) (by rw [eq_parse_parser_number]; exact h)
theorem cl_parse_parser_field {Φ : Calls'} (hT : Cl Φ tab_Lex) {a0 a1 : AV} {H : AH} {Q : Post} (h : parse_parser_field Φ a0 a1 H Q) : Φ K.parse_parser_field [a0, a1] H Q := hT.call (by kernel_rfl) (by kernel_rfl) (by rw [eq_parse_parser_field]; exact h)
theorem cl_parse_parser_stmt {Φ : Calls'} (hT : Cl Φ tab_Lex) {a0 a1 : AV} {H : AH} {Q : Post} (h : parse_parser_stmt Φ a0 a1 H Q) : Φ K.parse_parser_stmt [a0, a1] H Q := hT.call (by kernel_rfl) (by kernel_rfl) (by rw [eq_parse_parser_stmt]; exact h)
theorem cl_lex_scanner_next {Φ : Calls'} (hT : Cl Φ tab_Lex) {a0 : AV} {H : AH} {Q : Post} (h : lex_scanner_next Φ a0 H Q) : Φ K.lex_scanner_next [a0] H Q := hT.call (by kernel_rfl) (by kernel_rfl) (by rw [eq_lex_scanner_next]; exact h)
theorem cl_slices_Contains___string_string_ {Φ : Calls'} (hT : Cl Φ tab_Lex) {a0 a1 : AV} {H : AH} {Q : Post} (h : slices_Contains___string_string_ Φ a0 a1 H Q) : Φ K.slices_Contains___string_string_ [a0, a1] H Q := hT.call (by kernel_rfl) (by kernel_rfl) (by rw [eq_slices_Contains___string_string_]; exact h)
theorem cl_parse_digits {Φ : Calls'} (hT : Cl Φ tab_Lex) {a0 : AV} {H : AH} {Q : Post} (h : parse_digits Φ a0 H Q) : Φ K.parse_digits [a0] H Q := hT.call (by kernel_rfl) (by kernel_rfl) (by rw [eq_parse_digits]; exact h)
theorem cl_parse_parser_value {Φ : Calls'} (hT : Cl Φ tab_Lex) {a0 a1 : AV} {H : AH} {Q : Post} (h : parse_parser_value Φ a0 a1 H Q) : Φ K.parse_parser_value [a0, a1] H Q := hT.call (by kernel_rfl) (by kernel_rfl) (by rw [eq_parse_parser_value]; exact h)
theorem cl_parse_parser_place {Φ : Calls'} (hT : Cl Φ tab_Lex) {a0 a1 : AV} {H : AH} {Q : Post} (h : parse_parser_place Φ a0 a1 H Q) : Φ K.parse_parser_place [a0, a1] H Q := hT.call (by kernel_rfl) (by kernel_rfl) (by rw [eq_parse_parser_place]; exact h)
theorem cl_parse_parser_order {Φ : Calls'} (hT : Cl Φ tab_Lex) {a0 : AV} {H : AH} {Q : Post} (h : parse_parser_order Φ a0 H Q) : Φ K.parse_parser_order [a0] H Q := hT.call (by kernel_rfl) (by kernel_rfl) (by rw [eq_parse_parser_order]; exact h)
theorem cl_parse_parser_expr {Φ : Calls'} (hT : Cl Φ tab_Lex) {a0 a1 : AV} {H : AH} {Q : Post} (h : parse_parser_expr Φ a0 a1 H Q) : Φ K.parse_parser_expr [a0, a1] H Q := hT.call (by kernel_rfl) (by kernel_rfl) (by rw [eq_parse_parser_expr]; exact h)
theorem cl_parse_parser_control {Φ : Calls'} (hT : Cl Φ tab_Lex) {a0 a1 a2 : AV} {H : AH} {Q : Post} (h : parse_parser_control Φ a0 a1 a2 H Q) : Φ K.parse_parser_control [a0, a1, a2] H Q := hT.call (by kernel_rfl) (by kernel_rfl) (by rw [eq_parse_parser_control]; exact h)
theorem cl_lex_letter {Φ : Calls'} (hT : Cl Φ tab_Lex) {a0 : AV} {H : AH} {Q : Post} (h : lex_letter Φ a0 H Q) : Φ K.lex_letter [a0] H Q := hT.call (by kernel_rfl) (by kernel_rfl) (by rw [eq_lex_letter]; exact h)
theorem cl_lex_scanner_word {Φ : Calls'} (hT : Cl Φ tab_Lex) {a0 : AV} {H : AH} {Q : Post} (h : lex_scanner_word Φ a0 H Q) : Φ K.lex_scanner_word [a0] H Q := hT.call (by kernel_rfl) (by kernel_rfl) (by rw [eq_lex_scanner_word]; exact h)
theorem cl_lex_digit {Φ : Calls'} (hT : Cl Φ tab_Lex) {a0 : AV} {H : AH} {Q : Post} (h : lex_digit Φ a0 H Q) : Φ K.lex_digit [a0] H Q := hT.call (by kernel_rfl) (by kernel_rfl) (by rw [eq_lex_digit]; exact h)
theorem cl_lex_scanner_number {Φ : Calls'} (hT : Cl Φ tab_Lex) {a0 : AV} {H : AH} {Q : Post} (h : lex_scanner_number Φ a0 H Q) : Φ K.lex_scanner_number [a0] H Q := hT.call (by kernel_rfl) (by kernel_rfl) (by rw [eq_lex_scanner_number]; exact h)
theorem cl_lex_scanner_sign {Φ : Calls'} (hT : Cl Φ tab_Lex) {a0 : AV} {H : AH} {Q : Post} (h : lex_scanner_sign Φ a0 H Q) : Φ K.lex_scanner_sign [a0] H Q := hT.call (by kernel_rfl) (by kernel_rfl) (by rw [eq_lex_scanner_sign]; exact h)
theorem cl_slices_Index___string_string_ {Φ : Calls'} (hT : Cl Φ tab_Lex) {a0 a1 : AV} {H : AH} {Q : Post} (h : slices_Index___string_string_ Φ a0 a1 H Q) : Φ K.slices_Index___string_string_ [a0, a1] H Q := hT.call (by kernel_rfl) (by kernel_rfl) (by rw [eq_slices_Index___string_string_]; exact h)
theorem cl_parse_parser_binary {Φ : Calls'} (hT : Cl Φ tab_Lex) {a0 a1 : AV} {H : AH} {Q : Post} (h : parse_parser_binary Φ a0 a1 H Q) : Φ K.parse_parser_binary [a0, a1] H Q := hT.call (by kernel_rfl) (by kernel_rfl) (by rw [eq_parse_parser_binary]; exact h)
theorem cl_parse_parser_access {Φ : Calls'} (hT : Cl Φ tab_Lex) {a0 a1 a2 a3 : AV} {H : AH} {Q : Post} (h : parse_parser_access Φ a0 a1 a2 a3 H Q) : Φ K.parse_parser_access [a0, a1, a2, a3] H Q := hT.call (by kernel_rfl) (by kernel_rfl) (by rw [eq_parse_parser_access]; exact h)
theorem cl_lex_scanner_run {Φ : Calls'} (hT : Cl Φ tab_Lex) {a0 a1 : AV} {H : AH} {Q : Post} (h : lex_scanner_run Φ a0 a1 H Q) : Φ K.lex_scanner_run [a0, a1] H Q := hT.call (by kernel_rfl) (by kernel_rfl) (by rw [eq_lex_scanner_run]; exact h)
theorem cl_lex_part {Φ : Calls'} (hT : Cl Φ tab_Lex) {a0 : AV} {H : AH} {Q : Post} (h : lex_part Φ a0 H Q) : Φ K.lex_part [a0] H Q := hT.call (by kernel_rfl) (by kernel_rfl) (by rw [eq_lex_part]; exact h)
theorem cl_lex_scanner_take {Φ : Calls'} (hT : Cl Φ tab_Lex) {a0 a1 : AV} {H : AH} {Q : Post} (h : lex_scanner_take Φ a0 a1 H Q) : Φ K.lex_scanner_take [a0, a1] H Q := hT.call (by kernel_rfl) (by kernel_rfl) (by rw [eq_lex_scanner_take]; exact h)
theorem cl_strings_HasPrefix {Φ : Calls'} (hT : Cl Φ tab_Lex) {a0 a1 : AV} {H : AH} {Q : Post} (h : strings_HasPrefix Φ a0 a1 H Q) : Φ K.strings_HasPrefix [a0, a1] H Q := hT.call (by kernel_rfl) (by kernel_rfl) (by rw [eq_strings_HasPrefix]; exact h)
theorem cl_strings_IndexByte {Φ : Calls'} (hT : Cl Φ tab_Lex) {a0 a1 : AV} {H : AH} {Q : Post} (h : strings_IndexByte Φ a0 a1 H Q) : Φ K.strings_IndexByte [a0, a1] H Q := hT.call (by kernel_rfl) (by kernel_rfl) (by rw [eq_strings_IndexByte]; exact h)
theorem cl_parse_operator {Φ : Calls'} (hT : Cl Φ tab_Lex) {a0 : AV} {H : AH} {Q : Post} (h : parse_operator Φ a0 H Q) : Φ K.parse_operator [a0] H Q := hT.call (by kernel_rfl) (by kernel_rfl) (by rw [eq_parse_operator]; exact h)
theorem cl_internal_stringslite_HasPrefix {Φ : Calls'} (hT : Cl Φ tab_Lex) {a0 a1 : AV} {H : AH} {Q : Post} (h : internal_stringslite_HasPrefix Φ a0 a1 H Q) : Φ K.internal_stringslite_HasPrefix [a0, a1] H Q := hT.call (by kernel_rfl) (by kernel_rfl) (by rw [eq_internal_stringslite_HasPrefix]; exact h)
end Rb.S

/- The texts are the program's. By spec.py. -/
set_option linter.unusedVariables false
namespace Go.Proofs.YtolodaoffkbefaaDoor.rb
open Rb
theorem cl_Lex : Cl (ACall C) S.tab_Lex := Cl.of (ACall_mono C) (closed_of (idC_fok _ _) (by kernel_rfl))
end Go.Proofs.YtolodaoffkbefaaDoor.rb

/- From what a law's function does to the statement. -/
set_option linter.unusedVariables false
namespace Rb
open Go Go.RowKit

/-- All that is there may be read, and nothing is written: frozen. -/
def allFz (W : World) : Nat → Nat → Prop := fun b o => ∃ V, W.cell? ⟨b, o, none⟩ = some V

theorem law_calls {C : Ctx} {key : Nat} {f : FuncId} {args : List AV} {Vs : Array Value} {W : World} (hf : C.F key = some f) (h : ACall C key args AH.mt (fun v _ => v = .bool true)) (hG : GOK C W (Ghost.mt (allFz W)))
    (hargs : VRs C.F W (Ghost.mt (allFz W)) args Vs) : Calls C.P f Vs W fun e W' => e = .returned (.bool true) ∧ Below W.heap.size W W' := by
  refine Calls.mono (h f hf _ W Vs hG (Rel.mt fun _ _ h => h) hargs) fun e w' he => ?_
  obtain ⟨V, v, H', G', rfl, rfl, hv, _, hst⟩ := he
  obtain rfl := hv.bool_inv
  exact ⟨rfl, hst.below⟩

/-- A variable that holds small numbers. -/
theorem fptr_of_tab {F : FTab} {W : World} {g : Nat} {k : IntKind} {zs : List Int} (h : ∀ i, i < zs.length → W.cell? ⟨g, i, none⟩ = some (.int k (zs.getD i 0))) : VR F W (Ghost.mt (allFz W)) (.fptr (zs.map (.int k))) (.pointer (some ⟨g, 0, none⟩)) := by
  refine .fptr _ g 0 (fun j => .int k (zs.getD j 0)) (fun j c hj => ?_) fun j c hj => ?_
  · have hl : j < zs.length := by simpa using (List.getElem?_eq_some_iff.1 hj).1
    rw [Nat.zero_add]
    exact ⟨⟨_, h j hl⟩, h j hl⟩
  · have hl : j < zs.length := by simpa using (List.getElem?_eq_some_iff.1 hj).1
    have : c = .int k (zs.getD j 0) := by
      rw [List.getElem?_map, List.getElem?_eq_getElem hl] at hj
      simp only [Option.map_some, Option.some.injEq] at hj
      rw [← hj, List.getD_eq_getElem?_getD, List.getElem?_eq_getElem hl]; rfl
    rw [this]
    exact .int _ _

theorem VRs.two {F : FTab} {w : World} {G : Ghost} {c d : AV} {V U : Value} (h : VR F w G c V) (h' : VR F w G d U) : VRs F w G [c, d] #[V, U] := ⟨rfl, fun j c' V' hc hV => by
  rcases j with _ | _ | j
  · simp at hc hV; subst hc; subst hV; exact h
  · simp at hc hV; subst hc; subst hV; exact h'
  · simp at hc⟩
theorem VRs.three {F : FTab} {w : World} {G : Ghost} {c d e : AV} {V U X : Value} (h : VR F w G c V) (h' : VR F w G d U) (h'' : VR F w G e X) : VRs F w G [c, d, e] #[V, U, X] := ⟨rfl, fun j c' V' hc hV => by
  rcases j with _ | _ | _ | j
  · simp at hc hV; subst hc; subst hV; exact h
  · simp at hc hV; subst hc; subst hV; exact h'
  · simp at hc hV; subst hc; subst hV; exact h''
  · simp at hc⟩

theorem VR_string {F : FTab} {w : World} {G : Ghost} (b : ByteArray) : VR F w G (.str b.data.toList) (.string b) := by
  have h : (⟨b.data.toList.toArray⟩ : ByteArray) = b := by cases b; simp
  have := VR.str (F := F) (w := w) (G := G) b.data.toList
  rwa [h] at this

theorem asciiSpace_eq : asciiSpace = (Go.Lib.asciiSpaceTab.map (AV.int .u8)) := by kernel_rfl
end Rb

/- What comes in as data, as abstract values: typed readings. -/
set_option linter.unusedVariables false
set_option linter.unusedSimpArgs false
namespace Rb
open Go Go.RowKit

section
variable {H : Type} {enc : TypeId × Value → H} {P : Program} {w : World} {sp : Nat → Bool} {held : Bool} {F : FTab}

/-- A type's cells, read as data with so much fuel, are those of a typed value. -/
def Dec (F : FTab) (enc : TypeId × Value → H) (P : Program) (w : World) (sp : Nat → Bool) (held : Bool) (n : Nat) (t : TypeId) {α : Type} (cells : α → List AV) (ok : α → Prop) : Prop :=
  ∀ fuel, fuel ≤ n → ∀ cs d ps, DataW.trod enc P w 0 sp held fuel t cs = some (d, ps) → ∃ x, ok x ∧ VRs F w (Ghost.mt (allFz w)) (cells x) cs.toArray

theorem Dec.mono {n m : Nat} {t : TypeId} {α : Type} {cells : α → List AV} {ok : α → Prop} (h : Dec F enc P w sp held n t cells ok) (hm : m ≤ n) : Dec F enc P w sp held m t cells ok :=
  fun fuel hf cs d ps ht => h fuel (Nat.le_trans hf hm) cs d ps ht

theorem Dec.zero {t : TypeId} {α : Type} {cells : α → List AV} {ok : α → Prop} : Dec F enc P w sp held 0 t cells ok := by
  intro fuel hf cs d ps h
  obtain rfl : fuel = 0 := by omega
  simp [DataW.trod] at h

theorem Dec.int {n : Nat} {t : TypeId} {k : IntKind} (ht : P.underlying t = some (.int k)) : Dec F enc P w sp held n t (fun z : Int => [.int k z]) (fun z => k.min ≤ z ∧ z ≤ k.max) := by
  intro fuel _ cs d ps h
  obtain ⟨z, rfl, _, hw⟩ := DataW.trod_int ht h
  exact ⟨z, by simpa [Lit.wf] using hw, VRs.one (.int _ _)⟩

theorem Dec.bool {n : Nat} {t : TypeId} (ht : P.underlying t = some .bool) : Dec F enc P w sp held n t (fun z : Bool => [.bool z]) (fun _ => True) := by
  intro fuel _ cs d ps h
  obtain ⟨z, rfl, _⟩ := DataW.trod_bool ht h
  exact ⟨z, trivial, VRs.one (.bool _)⟩

theorem Dec.string {n : Nat} {t : TypeId} (ht : P.underlying t = some .string) : Dec F enc P w sp held n t (fun z : List UInt8 => [.str z]) (fun z => z.length ≤ maxLen) := by
  intro fuel _ cs d ps h
  obtain ⟨s, rfl, _, hl⟩ := DataW.trod_string ht h
  exact ⟨s.data.toList, by simpa using hl, VRs.one (VR_string s)⟩

/-- A slice of such. -/
def lstA {α : Type} (cells : α → List AV) (xs : List α) : AV := .lst .dead xs.length (xs.flatMap cells)

theorem exists_list {α : Type} {p : Nat → α → Prop} : ∀ (n : Nat), (∀ i, i < n → ∃ x, p i x) → ∃ xs : List α, xs.length = n ∧ ∀ i x, xs[i]? = some x → p i x := by
  intro n
  induction n with
  | zero => intro _; exact ⟨[], rfl, fun i x h => by simp at h⟩
  | succ n ih =>
    intro h
    obtain ⟨xs, hl, hx⟩ := ih fun i hi => h i (by omega)
    obtain ⟨y, hy⟩ := h n (by omega)
    refine ⟨xs ++ [y], by simp [hl], fun i x hi => ?_⟩
    by_cases hlt : i < n
    · rw [List.getElem?_append_left (by omega)] at hi
      exact hx i x hi
    · rw [List.getElem?_append_right (by omega)] at hi
      have : i - xs.length = 0 := by
        rcases Nat.eq_zero_or_pos (i - xs.length) with h | h
        · exact h
        · rw [List.getElem?_eq_none (by simp; omega)] at hi; cases hi
      rw [this] at hi
      simp at hi
      subst hi
      have : i = n := by omega
      rw [this]; exact hy

theorem flat_get {α : Type} {cells : α → List AV} {sz : Nat} (hc : ∀ x, (cells x).length = sz) : ∀ (xs : List α) (j : Nat) (c : AV), (xs.flatMap cells)[j]? = some c → ∃ i k x, j = i * sz + k ∧ k < sz ∧ xs[i]? = some x ∧ (cells x)[k]? = some c := by
  intro xs
  induction xs with
  | nil => intro j c h; simp at h
  | cons y ys ih =>
    intro j c h
    rw [List.flatMap_cons] at h
    by_cases hj : j < sz
    · rw [List.getElem?_append_left (by rw [hc]; exact hj)] at h
      exact ⟨0, j, y, by omega, hj, rfl, h⟩
    · rw [List.getElem?_append_right (by rw [hc]; omega), hc] at h
      obtain ⟨i, k, x, h1, h2, h3, h4⟩ := ih _ _ h
      refine ⟨i + 1, k, x, ?_, h2, by simpa using h3, h4⟩
      rw [Nat.add_mul]; omega

theorem add_at {b o m : Nat} : (Addr.mk b o none).add m = ⟨b, o + m, none⟩ := by
  unfold Addr.add
  split
  · rename_i h; subst h; rfl
  · rfl

theorem Dec.slice {n : Nat} {t e : TypeId} {α : Type} {cells : α → List AV} {ok : α → Prop} (ht : P.underlying t = some (.slice e)) {sz : Nat} (hs : P.cellsOf e = sz) (hz : 0 < sz) (hc : ∀ x, (cells x).length = sz) (h : Dec F enc P w sp held n e cells ok) :
    Dec F enc P w sp held (n + 1) t (fun xs : List α => [lstA cells xs]) (fun xs => xs.length ≤ maxLen ∧ ∀ x ∈ xs, ok x) := by
  intro fuel hf cs d ps hd
  rcases DataW.trod_slice ht hd with ⟨rfl, _⟩ | ⟨a, len, cap, elems, rest, m, rfl, rfl, _, _, hle, hcap, hel, helems, _⟩
  · exact ⟨[], ⟨Nat.zero_le _, by simp⟩, VRs.one (.lst0 _ _)⟩
  · have each : ∀ i, i < len → ∃ x, ok x ∧ ∃ ci, w.cells? 0 (a.add (i * sz)) sz = some ci ∧ VRs F w (Ghost.mt (allFz w)) (cells x) ci.toArray := by
      intro i hi
      have h1 := helems i hi
      rw [List.getElem?_eq_getElem (by omega), hs] at h1
      obtain ⟨ci, h2, h3⟩ := Option.bind_eq_some_iff.1 h1
      obtain ⟨x, hx, hv⟩ := h m (by omega) ci _ _ h3
      exact ⟨x, hx, ci, h2, hv⟩
    obtain ⟨xs, hl, hx⟩ := exists_list len each
    refine ⟨xs, ⟨by omega, fun x hxm => ?_⟩, VRs.one ?_⟩
    · obtain ⟨i, hi, e⟩ := List.mem_iff_getElem.1 hxm
      exact (hx i x (by rw [List.getElem?_eq_getElem hi, e])).1
    · rcases Nat.eq_zero_or_pos len with h0 | h0
      · subst h0
        obtain rfl := List.length_eq_zero_iff.1 hl
        exact .lst0 _ _
      · -- the address is plain
        have hsp : a.spot = none := by
          obtain ⟨x, _, ci, h2, _⟩ := each 0 h0
          obtain ⟨_, h3, h4⟩ := World.cells?_some h2
          have h5 := h4 0 hz
          rw [List.getElem?_eq_getElem (by omega)] at h5
          rw [Nat.zero_mul] at h5
          have e0 : (a.add 0).add 0 = a := by simp [Addr.add]
          rw [e0] at h5
          unfold World.cell? at h5
          split at h5
          · split at h5
            · cases h5
            · rename_i hn; cases ha : a.spot with
              | none => rfl
              | some _ => rw [ha] at hn; simp at hn
          · cases h5
        obtain ⟨b, o, spt⟩ := a
        simp only at hsp
        subst hsp
        have key : ∀ (j : Nat) (c : AV), (xs.flatMap cells)[j]? = some c → ∃ V, w.cell? ⟨b, o + j, none⟩ = some V ∧ VR F w (Ghost.mt (allFz w)) c V := by
          intro j c hj
          obtain ⟨i, k, x, rfl, hk, hxi, hck⟩ := flat_get hc xs j c hj
          obtain ⟨_, ci, h2, hv⟩ := hx i x hxi
          obtain ⟨_, h3, h4⟩ := World.cells?_some h2
          have h5 := h4 k hk
          rw [add_at, add_at, List.getElem?_eq_getElem (by omega)] at h5
          refine ⟨ci[k], by rw [← Nat.add_assoc]; exact h5, hv.2 k c _ hck (by simp [List.getElem?_eq_getElem (show k < ci.length by omega)])⟩
        unfold lstA
        rw [hl]
        refine .lst .dead len _ b o cap (fun j => (w.cell? ⟨b, o + j, none⟩).getD undef) trivial hle (fun j c hj => ?_) fun j c hj => ?_
        · obtain ⟨V, h1, _⟩ := key j c hj
          exact ⟨⟨V, h1⟩, by rw [h1]; rfl⟩
        · obtain ⟨V, h1, h2⟩ := key j c hj
          rw [h1]; exact h2

/-! Structs: their fields, one behind the other -/
def chainB (P : Program) : Nat → List (TypeId × Nat) → Bool
  | _, [] => true
  | off, (t, o) :: r => o == off && chainB P (off + P.cellsOf t) r
def totC (P : Program) : List (TypeId × Nat) → Nat
  | [] => 0
  | (t, _) :: r => P.cellsOf t + totC P r

def DecL (F : FTab) (enc : TypeId × Value → H) (P : Program) (w : World) (sp : Nat → Bool) (held : Bool) (n : Nat) (L : List (TypeId × Nat)) {α : Type} (cells : α → List AV) (ok : α → Prop) : Prop :=
  ∀ m, m ≤ n → ∀ (off : Nat) (cs : List Value), chainB P off L = true → (∀ f ∈ L, ∃ y, DataW.trod enc P w 0 sp held m f.1 ((cs.drop f.2).take (P.cellsOf f.1)) = some y) →
    ∃ x, ok x ∧ VRs F w (Ghost.mt (allFz w)) (cells x) ((cs.drop off).take (totC P L)).toArray

theorem DecL.nil {n : Nat} : DecL F enc P w sp held n [] (fun _ : Unit => []) (fun _ => True) := by
  intro m _ off cs _ _
  exact ⟨(), trivial, by simp only [totC, List.take_zero]; exact VRs.nil⟩

theorem DecL.cons {n : Nat} {t : TypeId} {o : Nat} {L : List (TypeId × Nat)} {α β : Type} {c1 : α → List AV} {c2 : β → List AV} {o1 : α → Prop} {o2 : β → Prop} (h1 : Dec F enc P w sp held n t c1 o1) (h2 : DecL F enc P w sp held n L c2 o2) :
    DecL F enc P w sp held n ((t, o) :: L) (fun x : α × β => c1 x.1 ++ c2 x.2) (fun x => o1 x.1 ∧ o2 x.2) := by
  intro m hm off cs hch hf
  simp only [chainB, Bool.and_eq_true, beq_iff_eq] at hch
  obtain ⟨rfl, hch⟩ := hch
  obtain ⟨⟨d, ps⟩, hy⟩ := hf (t, o) (by simp)
  obtain ⟨x, hx, hv⟩ := h1 m hm _ _ _ hy
  obtain ⟨y, hy2, hv2⟩ := h2 m hm _ cs hch fun f hfm => hf f (by simp [hfm])
  refine ⟨(x, y), ⟨hx, hy2⟩, ?_⟩
  have e : ((cs.drop o).take (totC P ((t, o) :: L))) = (cs.drop o).take (P.cellsOf t) ++ (cs.drop (o + P.cellsOf t)).take (totC P L) := by
    simp only [totC]
    rw [List.take_add, List.drop_drop]
  rw [e]
  have := hv.app hv2
  simpa using this

theorem Dec.struct {n : Nat} {t : TypeId} {fs : Array Field} (ht : P.underlying t = some (.struct fs)) {L : List (TypeId × Nat)} (hL : fs.toList.map (fun f => (f.type, f.offset)) = L) (hch : chainB P 0 L = true) (htot : P.cellsOf t = totC P L)
    {α : Type} {cells : α → List AV} {ok : α → Prop} (h : DecL F enc P w sp held n L cells ok) : Dec F enc P w sp held (n + 1) t cells ok := by
  intro fuel hf cs d ps hd
  obtain ⟨xs, m, rfl, _, hlen, hxl, hfs⟩ := DataW.trod_struct ht hd
  obtain ⟨x, hx, hv⟩ := h m (by omega) 0 cs hch fun f hfm => by
    rw [← hL] at hfm
    obtain ⟨g, hg, rfl⟩ := List.mem_map.1 hfm
    obtain ⟨i, hi, e⟩ := List.mem_iff_getElem.1 hg
    have hi' : i < fs.size := by simpa using hi
    have h1 := hfs i g (by rw [Array.getElem?_eq_getElem hi']; congr 1)
    rw [List.getElem?_eq_getElem (by omega)] at h1
    exact ⟨_, h1⟩
  refine ⟨x, hx, ?_⟩
  rw [List.drop_zero, ← htot, ← hlen, List.take_length] at hv
  exact hv

/-- The same values, told otherwise. -/
theorem Dec.map {n : Nat} {t : TypeId} {α β : Type} {c1 : α → List AV} {c2 : β → List AV} {o1 : α → Prop} {o2 : β → Prop} (g : α → β) (hc : ∀ x, c2 (g x) = c1 x) (ho : ∀ x, o1 x → o2 (g x)) (h : Dec F enc P w sp held n t c1 o1) : Dec F enc P w sp held n t c2 o2 := by
  intro fuel hf cs d ps hd
  obtain ⟨x, hx, hv⟩ := h fuel hf cs d ps hd
  exact ⟨g x, ho x hx, by rw [hc]; exact hv⟩

/-- An argument of a law. -/
theorem Dec.arg {t : TypeId} {α : Type} {cells : α → List AV} {ok : α → Prop} (h : ∀ n, Dec F enc P w sp held n t cells ok) {v : Value} {d : DataW H} {ps : List MemPlace} (hd : DataW.Trod enc P w 0 sp held t v d ps) : ∃ x, ok x ∧ VRs F w (Ghost.mt (allFz w)) (cells x) v.cells := by
  obtain ⟨fuel, hf⟩ := hd
  obtain ⟨x, hx, hv⟩ := h fuel fuel (Nat.le_refl _) _ _ _ hf
  exact ⟨x, hx, by simpa using hv⟩
end
end Rb

/- The types of the api, as Lean's: types and their fields. -/
set_option linter.unusedVariables false
set_option linter.unusedSimpArgs false
namespace Rb
open Go
mutual
structure GType where
  kind : Int
  size : Int
  packed : Bool
  fields : List GField
  count : Int
  elem : List GType
structure GField where
  name : List UInt8
  type : GType
  bits : Bool
  width : Int
end
mutual
def GType.cells : GType → List AV
  | .mk kind size packed fields count elem => [.int .i64 kind, .int .i64 size, .bool packed, .lst .dead fields.length (GField.all fields), .int .i64 count, .lst .dead elem.length (GType.all elem)]
def GType.all : List GType → List AV
  | [] => []
  | x :: r => GType.cells x ++ GType.all r
def GField.cells : GField → List AV
  | .mk name type bits width => .str name :: (GType.cells type ++ [.bool bits, .int .i64 width])
def GField.all : List GField → List AV
  | [] => []
  | x :: r => GField.cells x ++ GField.all r
end
theorem GType.all_eq : ∀ xs : List GType, GType.all xs = xs.flatMap GType.cells
  | [] => rfl
  | x :: r => by rw [GType.all, GType.all_eq r, List.flatMap_cons]
theorem GField.all_eq : ∀ xs : List GField, GField.all xs = xs.flatMap GField.cells
  | [] => rfl
  | x :: r => by rw [GField.all, GField.all_eq r, List.flatMap_cons]
theorem GType.cells_eq (x : GType) : x.cells = [.int .i64 x.kind, .int .i64 x.size, .bool x.packed, lstA GField.cells x.fields, .int .i64 x.count, lstA GType.cells x.elem] := by
  cases x; simp only [GType.cells, GType.all_eq, GField.all_eq, lstA]
theorem GField.cells_eq (x : GField) : x.cells = .str x.name :: (x.type.cells ++ [.bool x.bits, .int .i64 x.width]) := by
  cases x; rfl
theorem GType.len (x : GType) : x.cells.length = 6 := by rw [GType.cells_eq]; rfl
theorem GField.len (x : GField) : x.cells.length = 9 := by rw [GField.cells_eq]; simp [GType.len]

def i64ok (z : Int) : Prop := -9223372036854775808 ≤ z ∧ z ≤ 9223372036854775807
mutual
/-- Numbers are such as the machine holds, lists not too long. -/
def GType.ok : GType → Prop
  | .mk kind size packed fields count elem => i64ok kind ∧ i64ok size ∧ fields.length ≤ maxLen ∧ GField.oks fields ∧ i64ok count ∧ elem.length ≤ maxLen ∧ GType.oks elem
def GType.oks : List GType → Prop
  | [] => True
  | x :: r => GType.ok x ∧ GType.oks r
def GField.ok : GField → Prop
  | .mk name type bits width => name.length ≤ maxLen ∧ GType.ok type ∧ i64ok width
def GField.oks : List GField → Prop
  | [] => True
  | x :: r => GField.ok x ∧ GField.oks r
end
theorem GType.oks_iff : ∀ {xs : List GType}, GType.oks xs ↔ ∀ x ∈ xs, x.ok
  | [] => by simp [GType.oks]
  | x :: r => by simp [GType.oks, GType.oks_iff (xs := r)]
theorem GField.oks_iff : ∀ {xs : List GField}, GField.oks xs ↔ ∀ x ∈ xs, x.ok
  | [] => by simp [GField.oks]
  | x :: r => by simp [GField.oks, GField.oks_iff (xs := r)]

section
variable {H : Type} {enc : TypeId × Value → H} {P : Program} {w : World} {sp : Nat → Bool} {held : Bool} {F : FTab}

/-- What a program must say of its types. -/
structure TyOK (P : Program) (ti tb ts tT tF sT sF : TypeId) (fT fF : Array Field) : Prop where
  int : P.underlying ti = some (.int .i64)
  bool : P.underlying tb = some .bool
  str : P.underlying ts = some .string
  typ : P.underlying tT = some (.struct fT)
  fld : P.underlying tF = some (.struct fF)
  slT : P.underlying sT = some (.slice tT)
  slF : P.underlying sF = some (.slice tF)
  lT : fT.toList.map (fun f => (f.type, f.offset)) = [(ti, 0), (ti, 1), (tb, 2), (sF, 3), (ti, 4), (sT, 5)]
  lF : fF.toList.map (fun f => (f.type, f.offset)) = [(ts, 0), (tT, 1), (tb, 7), (ti, 8)]
  cT : P.cellsOf tT = 6
  cF : P.cellsOf tF = 9
  c1 : ∀ t ∈ [ti, tb, ts, sT, sF], P.cellsOf t = 1

theorem Dec_type {ti tb ts tT tF sT sF : TypeId} {fT fF : Array Field} (h : TyOK P ti tb ts tT tF sT sF fT fF) : ∀ n, Dec F enc P w sp held n tT GType.cells GType.ok := by
  have c1 : P.cellsOf ti = 1 := h.c1 _ (by simp)
  have c2 : P.cellsOf tb = 1 := h.c1 _ (by simp)
  have c3 : P.cellsOf ts = 1 := h.c1 _ (by simp)
  have c4 : P.cellsOf sT = 1 := h.c1 _ (by simp)
  have c5 : P.cellsOf sF = 1 := h.c1 _ (by simp)
  have int : ∀ n, Dec F enc P w sp held n ti (fun z : Int => [.int .i64 z]) i64ok := fun n => Dec.map id (fun _ => rfl) (fun x hx => by
    simp only [IntKind.min, IntKind.max, IntKind.signed, IntKind.bits, if_true] at hx
    show -9223372036854775808 ≤ x ∧ x ≤ 9223372036854775807
    omega) (Dec.int h.int)
  intro n
  induction n using Nat.strongRecOn with
  | _ n ih =>
    cases n with
    | zero => exact Dec.zero
    | succ n =>
      have ihT : Dec F enc P w sp held n tT GType.cells GType.ok := ih n (by omega)
      have ihF : Dec F enc P w sp held n tF GField.cells GField.ok := by
        cases n with
        | zero => exact Dec.zero
        | succ n =>
          refine Dec.map (fun (x : List UInt8 × GType × Bool × Int × Unit) => (⟨x.1, x.2.1, x.2.2.1, x.2.2.2.1⟩ : GField)) (fun x => ?_) (fun x hx => ?_)
            (Dec.struct h.fld h.lF (by simp [chainB, c1, c2, c3, h.cT]) (by simp [totC, c1, c2, c3, h.cT, h.cF])
              (DecL.cons (Dec.string h.str) (DecL.cons (ih n (by omega)) (DecL.cons (Dec.bool h.bool) (DecL.cons (int n) DecL.nil)))))
          · simp [GField.cells]
          · exact ⟨hx.1, hx.2.1, hx.2.2.2.1⟩
      refine Dec.map (fun (x : Int × Int × Bool × List GField × Int × List GType × Unit) => (⟨x.1, x.2.1, x.2.2.1, x.2.2.2.1, x.2.2.2.2.1, x.2.2.2.2.2.1⟩ : GType)) (fun x => ?_) (fun x hx => ?_)
        (Dec.struct h.typ h.lT (by simp [chainB, c1, c2, c4, c5]) (by simp [totC, c1, c2, c4, c5, h.cT])
          (DecL.cons (int n) (DecL.cons (int n) (DecL.cons (Dec.bool h.bool) (DecL.cons (Dec.mono (Dec.slice h.slF h.cF (by decide) GField.len ihF) (Nat.le_succ n)) (DecL.cons (int n) (DecL.cons (Dec.mono (Dec.slice h.slT h.cT (by decide) GType.len ihT) (Nat.le_succ n)) DecL.nil)))))))
      · rw [GType.cells_eq]; rfl
      · obtain ⟨h1, h2, _, ⟨h3, h4⟩, h5, ⟨h6, h7⟩, _⟩ := hx
        exact ⟨h1, h2, h3, GField.oks_iff.2 h4, h5, h6, GType.oks_iff.2 h7⟩
end
end Rb

/- The types of the api, as Lean's: expressions, places, variables. -/
set_option linter.unusedVariables false
set_option linter.unusedSimpArgs false
namespace Rb
open Go
mutual
structure GExpr where
  kind : Int
  n : Int
  name : List UInt8
  op : Int
  order : Int
  place : GPlace
  kids : List GExpr
structure GPlace where
  var : List UInt8
  parts : List GPart
structure GPart where
  field : List UInt8
  index : List GExpr
end
mutual
def GExpr.cells : GExpr → List AV
  | .mk kind n name op order place kids => .int .i64 kind :: .int .u64 n :: .str name :: .int .i64 op :: .int .i64 order :: (GPlace.cells place ++ [.lst .dead kids.length (GExpr.all kids)])
def GExpr.all : List GExpr → List AV
  | [] => []
  | x :: r => GExpr.cells x ++ GExpr.all r
def GPlace.cells : GPlace → List AV
  | .mk var parts => [.str var, .lst .dead parts.length (GPart.all parts)]
def GPart.cells : GPart → List AV
  | .mk field index => [.str field, .lst .dead index.length (GExpr.all index)]
def GPart.all : List GPart → List AV
  | [] => []
  | x :: r => GPart.cells x ++ GPart.all r
end
theorem GExpr.all_eq : ∀ xs : List GExpr, GExpr.all xs = xs.flatMap GExpr.cells
  | [] => rfl
  | x :: r => by rw [GExpr.all, GExpr.all_eq r, List.flatMap_cons]
theorem GPart.all_eq : ∀ xs : List GPart, GPart.all xs = xs.flatMap GPart.cells
  | [] => rfl
  | x :: r => by rw [GPart.all, GPart.all_eq r, List.flatMap_cons]
theorem GPlace.cells_eq (x : GPlace) : x.cells = [.str x.var, lstA GPart.cells x.parts] := by
  cases x; simp only [GPlace.cells, GPart.all_eq, lstA]
theorem GPart.cells_eq (x : GPart) : x.cells = [.str x.field, lstA GExpr.cells x.index] := by
  cases x; simp only [GPart.cells, GExpr.all_eq, lstA]
theorem GExpr.cells_eq (x : GExpr) : x.cells = .int .i64 x.kind :: .int .u64 x.n :: .str x.name :: .int .i64 x.op :: .int .i64 x.order :: (x.place.cells ++ [lstA GExpr.cells x.kids]) := by
  cases x; simp only [GExpr.cells, GExpr.all_eq, lstA]
theorem GPlace.len (x : GPlace) : x.cells.length = 2 := by rw [GPlace.cells_eq]; rfl
theorem GPart.len (x : GPart) : x.cells.length = 2 := by rw [GPart.cells_eq]; rfl
theorem GExpr.len (x : GExpr) : x.cells.length = 8 := by rw [GExpr.cells_eq]; simp [GPlace.len]

def u64ok (z : Int) : Prop := 0 ≤ z ∧ z ≤ 18446744073709551615
mutual
def GExpr.ok : GExpr → Prop
  | .mk kind n name op order place kids => i64ok kind ∧ u64ok n ∧ name.length ≤ maxLen ∧ i64ok op ∧ i64ok order ∧ GPlace.ok place ∧ kids.length ≤ maxLen ∧ GExpr.oks kids
def GExpr.oks : List GExpr → Prop
  | [] => True
  | x :: r => GExpr.ok x ∧ GExpr.oks r
def GPlace.ok : GPlace → Prop
  | .mk var parts => var.length ≤ maxLen ∧ parts.length ≤ maxLen ∧ GPart.oks parts
def GPart.ok : GPart → Prop
  | .mk field index => field.length ≤ maxLen ∧ index.length ≤ maxLen ∧ GExpr.oks index
def GPart.oks : List GPart → Prop
  | [] => True
  | x :: r => GPart.ok x ∧ GPart.oks r
end
theorem GExpr.oks_iff : ∀ {xs : List GExpr}, GExpr.oks xs ↔ ∀ x ∈ xs, x.ok
  | [] => by simp [GExpr.oks]
  | x :: r => by simp [GExpr.oks, GExpr.oks_iff (xs := r)]
theorem GPart.oks_iff : ∀ {xs : List GPart}, GPart.oks xs ↔ ∀ x ∈ xs, x.ok
  | [] => by simp [GPart.oks]
  | x :: r => by simp [GPart.oks, GPart.oks_iff (xs := r)]

structure GVar where
  name : List UInt8
  type : GType
def GVar.cells (x : GVar) : List AV := .str x.name :: x.type.cells
theorem GVar.len (x : GVar) : x.cells.length = 7 := by simp [GVar.cells, GType.len]
def GVar.ok (x : GVar) : Prop := x.name.length ≤ maxLen ∧ x.type.ok

section
variable {H : Type} {enc : TypeId × Value → H} {P : Program} {w : World} {sp : Nat → Bool} {held : Bool} {F : FTab}

theorem Dec.i64 {n : Nat} {ti : TypeId} (h : P.underlying ti = some (.int .i64)) : Dec F enc P w sp held n ti (fun z : Int => [.int .i64 z]) i64ok := Dec.map id (fun _ => rfl) (fun x hx => by
    simp only [IntKind.min, IntKind.max, IntKind.signed, IntKind.bits, if_true] at hx
    show -9223372036854775808 ≤ x ∧ x ≤ 9223372036854775807
    omega) (Dec.int h)
theorem Dec.u64 {n : Nat} {ti : TypeId} (h : P.underlying ti = some (.int .u64)) : Dec F enc P w sp held n ti (fun z : Int => [.int .u64 z]) u64ok := Dec.map id (fun _ => rfl) (fun x hx => by
    simp [IntKind.min, IntKind.max, IntKind.signed, IntKind.bits] at hx
    show 0 ≤ x ∧ x ≤ 18446744073709551615
    omega) (Dec.int h)

structure ExOK (P : Program) (ti tu ts tE tL tR sE sR : TypeId) (fE fL fR : Array Field) : Prop where
  int : P.underlying ti = some (.int .i64)
  u64 : P.underlying tu = some (.int .u64)
  str : P.underlying ts = some .string
  exp : P.underlying tE = some (.struct fE)
  pla : P.underlying tL = some (.struct fL)
  par : P.underlying tR = some (.struct fR)
  slE : P.underlying sE = some (.slice tE)
  slR : P.underlying sR = some (.slice tR)
  lE : fE.toList.map (fun f => (f.type, f.offset)) = [(ti, 0), (tu, 1), (ts, 2), (ti, 3), (ti, 4), (tL, 5), (sE, 7)]
  lL : fL.toList.map (fun f => (f.type, f.offset)) = [(ts, 0), (sR, 1)]
  lR : fR.toList.map (fun f => (f.type, f.offset)) = [(ts, 0), (sE, 1)]
  cE : P.cellsOf tE = 8
  cL : P.cellsOf tL = 2
  cR : P.cellsOf tR = 2
  c1 : ∀ t ∈ [ti, tu, ts, sE, sR], P.cellsOf t = 1

theorem Dec_exprs {ti tu ts tE tL tR sE sR : TypeId} {fE fL fR : Array Field} (h : ExOK P ti tu ts tE tL tR sE sR fE fL fR) :
    ∀ n, Dec F enc P w sp held n tE GExpr.cells GExpr.ok ∧ Dec F enc P w sp held n tL GPlace.cells GPlace.ok ∧ Dec F enc P w sp held n tR GPart.cells GPart.ok := by
  have c1 : P.cellsOf ti = 1 := h.c1 _ (by simp)
  have c2 : P.cellsOf tu = 1 := h.c1 _ (by simp)
  have c3 : P.cellsOf ts = 1 := h.c1 _ (by simp)
  have c4 : P.cellsOf sE = 1 := h.c1 _ (by simp)
  have c5 : P.cellsOf sR = 1 := h.c1 _ (by simp)
  intro n
  induction n with
  | zero => exact ⟨Dec.zero, Dec.zero, Dec.zero⟩
  | succ n ih =>
    obtain ⟨iE, iL, iR⟩ := ih
    have kE := Dec.mono (Dec.slice h.slE h.cE (by decide) GExpr.len iE) (Nat.le_succ n)
    have kR := Dec.mono (Dec.slice h.slR h.cR (by decide) GPart.len iR) (Nat.le_succ n)
    refine ⟨?_, ?_, ?_⟩
    · refine Dec.map (fun (x : Int × Int × List UInt8 × Int × Int × GPlace × List GExpr × Unit) => (⟨x.1, x.2.1, x.2.2.1, x.2.2.2.1, x.2.2.2.2.1, x.2.2.2.2.2.1, x.2.2.2.2.2.2.1⟩ : GExpr)) (fun x => ?_) (fun x hx => ?_)
        (Dec.struct h.exp h.lE (by simp [chainB, c1, c2, c3, c4, h.cL]) (by simp [totC, c1, c2, c3, c4, h.cL, h.cE])
          (DecL.cons (Dec.i64 h.int) (DecL.cons (Dec.u64 h.u64) (DecL.cons (Dec.string h.str) (DecL.cons (Dec.i64 h.int) (DecL.cons (Dec.i64 h.int) (DecL.cons iL (DecL.cons kE DecL.nil))))))))
      · rw [GExpr.cells_eq]; simp
      · obtain ⟨h1, h2, h3, h4, h5, h6, ⟨h7, h8⟩, _⟩ := hx
        exact ⟨h1, h2, h3, h4, h5, h6, h7, GExpr.oks_iff.2 h8⟩
    · refine Dec.map (fun (x : List UInt8 × List GPart × Unit) => (⟨x.1, x.2.1⟩ : GPlace)) (fun x => ?_) (fun x hx => ?_)
        (Dec.struct h.pla h.lL (by simp [chainB, c3, c5]) (by simp [totC, c3, c5, h.cL]) (DecL.cons (Dec.string h.str) (DecL.cons kR DecL.nil)))
      · rw [GPlace.cells_eq]; rfl
      · obtain ⟨h1, ⟨h2, h3⟩, _⟩ := hx
        exact ⟨h1, h2, GPart.oks_iff.2 h3⟩
    · refine Dec.map (fun (x : List UInt8 × List GExpr × Unit) => (⟨x.1, x.2.1⟩ : GPart)) (fun x => ?_) (fun x hx => ?_)
        (Dec.struct h.par h.lR (by simp [chainB, c3, c4]) (by simp [totC, c3, c4, h.cR]) (DecL.cons (Dec.string h.str) (DecL.cons kE DecL.nil)))
      · rw [GPart.cells_eq]; rfl
      · obtain ⟨h1, ⟨h2, h3⟩, _⟩ := hx
        exact ⟨h1, h2, GExpr.oks_iff.2 h3⟩
end
end Rb

/- The types of the api, as Lean's: statements, programs. -/
set_option linter.unusedVariables false
set_option linter.unusedSimpArgs false
namespace Rb
open Go
structure GStmt where
  kind : Int
  line : Int
  name : List UInt8
  name2 : List UInt8
  order : Int
  place : GPlace
  exprs : List GExpr
  thn : List GStmt
  els : List GStmt
mutual
def GStmt.cells : GStmt → List AV
  | .mk kind line name name2 order place exprs thn els => .int .i64 kind :: .int .i64 line :: .str name :: .str name2 :: .int .i64 order :: (GPlace.cells place ++ [lstA GExpr.cells exprs, .lst .dead thn.length (GStmt.all thn), .lst .dead els.length (GStmt.all els)])
def GStmt.all : List GStmt → List AV
  | [] => []
  | x :: r => GStmt.cells x ++ GStmt.all r
end
theorem GStmt.all_eq : ∀ xs : List GStmt, GStmt.all xs = xs.flatMap GStmt.cells
  | [] => rfl
  | x :: r => by rw [GStmt.all, GStmt.all_eq r, List.flatMap_cons]
theorem GStmt.cells_eq (x : GStmt) : x.cells = .int .i64 x.kind :: .int .i64 x.line :: .str x.name :: .str x.name2 :: .int .i64 x.order :: (x.place.cells ++ [lstA GExpr.cells x.exprs, lstA GStmt.cells x.thn, lstA GStmt.cells x.els]) := by
  cases x; simp only [GStmt.cells, GStmt.all_eq, lstA]
theorem GStmt.len (x : GStmt) : x.cells.length = 10 := by rw [GStmt.cells_eq]; simp [GPlace.len]
mutual
def GStmt.ok : GStmt → Prop
  | .mk kind line name name2 order place exprs thn els => i64ok kind ∧ i64ok line ∧ name.length ≤ maxLen ∧ name2.length ≤ maxLen ∧ i64ok order ∧ GPlace.ok place ∧ exprs.length ≤ maxLen ∧ GExpr.oks exprs ∧ thn.length ≤ maxLen ∧ GStmt.oks thn ∧ els.length ≤ maxLen ∧ GStmt.oks els
def GStmt.oks : List GStmt → Prop
  | [] => True
  | x :: r => GStmt.ok x ∧ GStmt.oks r
end
theorem GStmt.oks_iff : ∀ {xs : List GStmt}, GStmt.oks xs ↔ ∀ x ∈ xs, x.ok
  | [] => by simp [GStmt.oks]
  | x :: r => by simp [GStmt.oks, GStmt.oks_iff (xs := r)]

structure GProg where
  vars : List GVar
  threads : List (List GStmt)
def thrCells (l : List GStmt) : List AV := [lstA GStmt.cells l]
def GProg.cells (x : GProg) : List AV := [lstA GVar.cells x.vars, lstA thrCells x.threads]
def GProg.ok (x : GProg) : Prop := (x.vars.length ≤ maxLen ∧ ∀ v ∈ x.vars, v.ok) ∧ x.threads.length ≤ maxLen ∧ ∀ t ∈ x.threads, t.length ≤ maxLen ∧ ∀ s ∈ t, s.ok

section
variable {H : Type} {enc : TypeId × Value → H} {P : Program} {w : World} {sp : Nat → Bool} {held : Bool} {F : FTab}

theorem Dec_var {ts tT tV : TypeId} {fV : Array Field} (hs : P.underlying ts = some .string) (c3 : P.cellsOf ts = 1) (cT : P.cellsOf tT = 6) (hT : ∀ n, Dec F enc P w sp held n tT GType.cells GType.ok)
    (hV : P.underlying tV = some (.struct fV)) (lV : fV.toList.map (fun f => (f.type, f.offset)) = [(ts, 0), (tT, 1)]) (cV : P.cellsOf tV = 7) : ∀ n, Dec F enc P w sp held n tV GVar.cells GVar.ok := by
  intro n
  refine Dec.mono (n := n + 1) ?_ (Nat.le_succ n)
  refine Dec.map (fun (x : List UInt8 × GType × Unit) => (⟨x.1, x.2.1⟩ : GVar)) (fun x => ?_) (fun x hx => ?_)
    (Dec.struct hV lV (by simp [chainB, c3]) (by simp [totC, c3, cT, cV]) (DecL.cons (Dec.string hs) (DecL.cons (hT n) DecL.nil)))
  · simp [GVar.cells]
  · exact ⟨hx.1, hx.2.1⟩

theorem Dec_stmt {ti tu ts tE tL tR sE sR tS sS : TypeId} {fE fL fR fS : Array Field} (h : ExOK P ti tu ts tE tL tR sE sR fE fL fR) (hS : P.underlying tS = some (.struct fS)) (slS : P.underlying sS = some (.slice tS))
    (lS : fS.toList.map (fun f => (f.type, f.offset)) = [(ti, 0), (ti, 1), (ts, 2), (ts, 3), (ti, 4), (tL, 5), (sE, 7), (sS, 8), (sS, 9)]) (cS : P.cellsOf tS = 10) (csS : P.cellsOf sS = 1) :
    ∀ n, Dec F enc P w sp held n tS GStmt.cells GStmt.ok := by
  have c1 : P.cellsOf ti = 1 := h.c1 _ (by simp)
  have c3 : P.cellsOf ts = 1 := h.c1 _ (by simp)
  have c4 : P.cellsOf sE = 1 := h.c1 _ (by simp)
  intro n
  induction n with
  | zero => exact Dec.zero
  | succ n ih =>
    have kE := Dec.mono (Dec.slice h.slE h.cE (by decide) GExpr.len (Dec_exprs (F := F) (enc := enc) (w := w) (sp := sp) (held := held) h n).1) (Nat.le_succ n)
    have kS := Dec.mono (Dec.slice slS cS (by decide) GStmt.len ih) (Nat.le_succ n)
    refine Dec.map (fun (x : Int × Int × List UInt8 × List UInt8 × Int × GPlace × List GExpr × List GStmt × List GStmt × Unit) => (⟨x.1, x.2.1, x.2.2.1, x.2.2.2.1, x.2.2.2.2.1, x.2.2.2.2.2.1, x.2.2.2.2.2.2.1, x.2.2.2.2.2.2.2.1, x.2.2.2.2.2.2.2.2.1⟩ : GStmt)) (fun x => ?_) (fun x hx => ?_)
      (Dec.struct hS lS (by simp [chainB, c1, c3, c4, csS, h.cL]) (by simp [totC, c1, c3, c4, csS, h.cL, cS])
        (DecL.cons (Dec.i64 h.int) (DecL.cons (Dec.i64 h.int) (DecL.cons (Dec.string h.str) (DecL.cons (Dec.string h.str) (DecL.cons (Dec.i64 h.int) (DecL.cons (Dec_exprs h n).2.1 (DecL.cons kE (DecL.cons kS (DecL.cons kS DecL.nil))))))))))
    · rw [GStmt.cells_eq]; simp
    · obtain ⟨h1, h2, h3, h4, h5, h6, ⟨h7, h8⟩, ⟨h9, h10⟩, ⟨h11, h12⟩, _⟩ := hx
      exact ⟨h1, h2, h3, h4, h5, h6, h7, GExpr.oks_iff.2 h8, h9, GStmt.oks_iff.2 h10, h11, GStmt.oks_iff.2 h12⟩

theorem Dec_prog {tV sV tS sS ssS tP : TypeId} {fP : Array Field} (hV : ∀ n, Dec F enc P w sp held n tV GVar.cells GVar.ok) (hS : ∀ n, Dec F enc P w sp held n tS GStmt.cells GStmt.ok)
    (slV : P.underlying sV = some (.slice tV)) (slS : P.underlying sS = some (.slice tS)) (slSS : P.underlying ssS = some (.slice sS)) (cV : P.cellsOf tV = 7) (cS : P.cellsOf tS = 10) (csS : P.cellsOf sS = 1) (csV : P.cellsOf sV = 1) (cssS : P.cellsOf ssS = 1)
    (hP : P.underlying tP = some (.struct fP)) (lP : fP.toList.map (fun f => (f.type, f.offset)) = [(sV, 0), (ssS, 1)]) (cP : P.cellsOf tP = 2) : ∀ n, Dec F enc P w sp held n tP GProg.cells GProg.ok := by
  intro n
  refine Dec.mono (n := n + 2 + 1) ?_ (by omega)
  have k1 : Dec F enc P w sp held (n + 2) sV (fun xs : List GVar => [lstA GVar.cells xs]) (fun xs => xs.length ≤ maxLen ∧ ∀ x ∈ xs, x.ok) := Dec.slice slV cV (by decide) GVar.len (hV (n + 1))
  have k2 : Dec F enc P w sp held (n + 1) sS thrCells (fun xs => xs.length ≤ maxLen ∧ ∀ x ∈ xs, x.ok) := Dec.slice slS cS (by decide) GStmt.len (hS n)
  have k3 : Dec F enc P w sp held (n + 2) ssS (fun xs : List (List GStmt) => [lstA thrCells xs]) (fun xs => xs.length ≤ maxLen ∧ ∀ x ∈ xs, x.length ≤ maxLen ∧ ∀ y ∈ x, y.ok) := Dec.slice slSS csS (by decide) (fun _ => rfl) k2
  refine Dec.map (fun (x : List GVar × List (List GStmt) × Unit) => (⟨x.1, x.2.1⟩ : GProg)) (fun x => ?_) (fun x hx => ?_)
    (Dec.struct hP lP (by simp [chainB, csV]) (by simp [totC, csV, cssS, cP]) (DecL.cons k1 (DecL.cons k3 DecL.nil)))
  · simp [GProg.cells]
  · exact ⟨hx.1, hx.2.1⟩
end
end Rb

/- Laws for reading what a function means, by simp. -/
set_option linter.unusedVariables false
namespace Rb
open Go

@[simp] theorem Do_of {α : Type} (a : α) (K : α → Prop) : Do (some a) K ↔ K a := ⟨fun ⟨b, h, k⟩ => by cases h; exact k, fun h => ⟨a, rfl, h⟩⟩
@[simp] theorem DoH_some (v : AV) (H : AH) (K : Post) : DoH (some (v, H)) K ↔ K v H := ⟨fun ⟨a, b, h, k⟩ => by cases h; exact k, fun h => ⟨v, H, rfl, h⟩⟩
@[simp] theorem Gd_true (b : Bool) (A B : Prop) : Gd (.bool b) true A B ↔ if b = true then A else B := Iff.rfl
@[simp] theorem Gd_false (b : Bool) (A B : Prop) : Gd (.bool b) false A B ↔ if b = false then A else B := Iff.rfl
@[simp] theorem JoinP_def (K : List AV → AH → Prop) (st : List AV) (H : AH) : JoinP K st H ↔ K st H := Iff.rfl
@[simp] theorem sl_zero (a : AV) (l : List AV) : sl (a :: l) 0 = a := rfl
@[simp] theorem sl_succ (a : AV) (l : List AV) (i : Nat) : sl (a :: l) (i + 1) = sl l i := rfl

section
variable (k : IntKind) (a b : Int)
@[simp] theorem abin_add : abin .add (.int k a) (.int k b) = some (.int k (k.wrap (a + b))) := by simp [abin, abinInt]
@[simp] theorem abin_sub : abin .sub (.int k a) (.int k b) = some (.int k (k.wrap (a - b))) := by simp [abin, abinInt]
@[simp] theorem abin_mul : abin .mul (.int k a) (.int k b) = some (.int k (k.wrap (a * b))) := by simp [abin, abinInt]
@[simp] theorem abin_eql : abin .eql (.int k a) (.int k b) = some (.bool (a == b)) := by simp [abin, abinInt]
@[simp] theorem abin_neq : abin .neq (.int k a) (.int k b) = some (.bool (a != b)) := by simp [abin, abinInt]
@[simp] theorem abin_lss : abin .lss (.int k a) (.int k b) = some (.bool (decide (a < b))) := by simp [abin, abinInt]
@[simp] theorem abin_leq : abin .leq (.int k a) (.int k b) = some (.bool (decide (a ≤ b))) := by simp [abin, abinInt]
@[simp] theorem abin_gtr : abin .gtr (.int k a) (.int k b) = some (.bool (decide (a > b))) := by simp [abin, abinInt]
@[simp] theorem abin_geq : abin .geq (.int k a) (.int k b) = some (.bool (decide (a ≥ b))) := by simp [abin, abinInt]
theorem abin_rem (h : b ≠ 0) : abin .rem (.int k a) (.int k b) = some (.int k (a.tmod b)) := by simp [abin, abinInt, h]
theorem abin_quo (h : b ≠ 0) : abin .quo (.int k a) (.int k b) = some (.int k (k.wrap (a.tdiv b))) := by simp [abin, abinInt, h]
@[simp] theorem abin_and : abin .and (.int k a) (.int k b) = some (.int k (k.wrap (BitVec.ofInt k.bits a &&& BitVec.ofInt k.bits b).toNat)) := by simp [abin, abinInt, bitsOp]
@[simp] theorem abin_or : abin .or (.int k a) (.int k b) = some (.int k (k.wrap (BitVec.ofInt k.bits a ||| BitVec.ofInt k.bits b).toNat)) := by simp [abin, abinInt, bitsOp]
@[simp] theorem abin_xor : abin .xor (.int k a) (.int k b) = some (.int k (k.wrap (BitVec.ofInt k.bits a ^^^ BitVec.ofInt k.bits b).toNat)) := by simp [abin, abinInt, bitsOp]
theorem abin_shr (k' : IntKind) (h : 0 ≤ b) : abin .shr (.int k a) (.int k' b) = some (.int k (a.fdiv (2 ^ (min b.toNat k.bits)))) := by simp [abin, abinInt, Int.not_lt.2 h]
theorem abin_shl (k' : IntKind) (h : 0 ≤ b) : abin .shl (.int k a) (.int k' b) = some (.int k (k.wrap (a * 2 ^ (min b.toNat k.bits)))) := by simp [abin, abinInt, Int.not_lt.2 h]
@[simp] theorem aconv_int (k' : IntKind) : aconv k' (.int k a) = some (.int k' (k'.wrap a)) := rfl
@[simp] theorem abeq_def (neg : Bool) (x y : Bool) : abeq neg (.bool x) (.bool y) = some (.bool (if neg then !(x == y) else x == y)) := rfl
@[simp] theorem aun_not (x : Bool) : aun .not (.bool x) = some (.bool !x) := rfl
end
@[simp] theorem alen_lst (tk : Tok) (n : Nat) (cs : List AV) : alen false (.lst tk n cs) = some (.int .i64 n) := rfl
@[simp] theorem alen_row (id o n sz : Nat) : alen false (.row id o n sz) = some (.int .i64 n) := rfl
@[simp] theorem alen_str (s : List UInt8) : alen true (.str s) = some (.int .i64 s.length) := rfl

end Rb

/- Memory that only grew; numbers. -/
set_option linter.unusedVariables false
namespace Rb
open Go

/-- What was there is as it was. -/
def AH.Ext (H H' : AH) : Prop := H.n ≤ H'.n ∧ ∀ i, i < H.n → H'.o i = H.o i
theorem AH.Ext.refl (H : AH) : AH.Ext H H := ⟨Nat.le_refl _, fun _ _ => rfl⟩
theorem AH.Ext.trans {a b c : AH} (h : AH.Ext a b) (k : AH.Ext b c) : AH.Ext a c := ⟨Nat.le_trans h.1 k.1, fun i hi => (k.2 i (Nat.lt_of_lt_of_le hi h.1)).trans (h.2 i hi)⟩
theorem AH.Ext.push (H : AH) (x : AObj) : AH.Ext H (H.push x) := ⟨Nat.le_succ _, fun i hi => if_neg (Nat.ne_of_lt hi)⟩
theorem AH.Ext.set {H H' : AH} (h : AH.Ext H H') {i : Nat} (hi : H.n ≤ i) (x : AObj) : AH.Ext H (H'.set i x) := ⟨h.1, fun j hj => by
  simp only [AH.set]; rw [if_neg (by omega)]; exact h.2 j hj⟩
@[simp] theorem AH.push_n (H : AH) (x : AObj) : (H.push x).n = H.n + 1 := rfl
@[simp] theorem AH.set_n (H : AH) (i : Nat) (x : AObj) : (H.set i x).n = H.n := rfl
theorem AH.push_self (H : AH) (x : AObj) : (H.push x).o H.n = x := if_pos rfl
theorem AH.push_ne (H : AH) (x : AObj) {i : Nat} (h : i ≠ H.n) : (H.push x).o i = H.o i := if_neg h
theorem AH.set_self (H : AH) (i : Nat) (x : AObj) : (H.set i x).o i = x := if_pos rfl
theorem AH.set_ne (H : AH) {i j : Nat} (x : AObj) (h : j ≠ i) : (H.set i x).o j = H.o j := if_neg h

theorem wrap_i64 {n : Int} (h1 : -9223372036854775808 ≤ n) (h2 : n ≤ 9223372036854775807) : IntKind.wrap .i64 n = n := by
  simp [IntKind.wrap, IntKind.signed, IntKind.bits]; omega
theorem wrap_u64 {n : Int} (h1 : 0 ≤ n) (h2 : n < 18446744073709551616) : IntKind.wrap .u64 n = n := by
  simp [IntKind.wrap, IntKind.signed, IntKind.bits]; omega
theorem wrap_u8 {n : Int} (h1 : 0 ≤ n) (h2 : n < 256) : IntKind.wrap .u8 n = n := by
  simp [IntKind.wrap, IntKind.signed, IntKind.bits]; omega
theorem wrap_u32 {n : Int} (h1 : 0 ≤ n) (h2 : n < 4294967296) : IntKind.wrap .u32 n = n := by
  simp [IntKind.wrap, IntKind.signed, IntKind.bits]; omega

/-- A list that grows at its end, and that nobody else holds. -/
def Lst (H0 H : AH) (sz : Nat) (x : AV) (len : Nat) (cells : List AV) : Prop :=
  AH.Ext H0 H ∧ ∃ tk, x = .lst tk len cells ∧ cells.length = len * sz ∧ ((tk = .nil ∧ len = 0) ∨ ∃ t, tk = .own t ∧ H0.n ≤ t ∧ t < H.n ∧ H.o t = .tok (len * sz) sz)

theorem Lst.nil (H : AH) (sz : Nat) : Lst H H sz (.lst .nil 0 []) 0 [] := ⟨AH.Ext.refl H, .nil, rfl, by simp, .inl ⟨rfl, rfl⟩⟩

theorem Lst.append {H0 H : AH} {sz bytes len m : Nat} {x y : AV} {cells news : List AV} {K : Post} (h : Lst H0 H sz x len cells) (hy : acells H sz y = some (m, news)) (hn : news.length = m * sz) (hs : news.all AV.scalar = true) (hm : m ≠ 0)
    (hb : (len + m) * bytes ≤ 140737488355328) (hl : len + m ≤ 9223372036854775807) (hK : ∀ x' H', Lst H0 H' sz x' (len + m) (cells ++ news) → K x' H') : DoH (aappend H false sz bytes x y) K := by
  obtain ⟨hx, tk, rfl, hc, htk⟩ := h
  have hlen : (cells ++ news).length = (len + m) * sz := by simp [hc, hn, Nat.add_mul]
  rcases htk with ⟨rfl, rfl⟩ | ⟨t, rfl, h1, h2, h3⟩
  · refine ⟨.lst (.own H.n) (0 + m) (cells ++ news), H.push (.tok ((0 + m) * sz) sz), ?_, hK _ _ ⟨hx.trans (AH.Ext.push _ _), _, rfl, hlen, .inr ⟨H.n, rfl, hx.1, Nat.lt_succ_self _, AH.push_self _ _⟩⟩⟩
    simp only [aappend, hy, hs, not_true_eq_false, if_false, if_neg hm]
    rw [if_neg (by simp only [Decidable.not_not]; exact ⟨hc, hb, hl⟩)]
  · refine ⟨.lst (.own H.n) (len + m) (cells ++ news), (H.set t .gone).push (.tok ((len + m) * sz) sz), ?_, hK _ _ ⟨(hx.set h1 _).trans (AH.Ext.push _ _), _, rfl, hlen, .inr ⟨H.n, rfl, hx.1, Nat.lt_succ_self _, AH.push_self _ _⟩⟩⟩
    simp only [aappend, hy, hs, not_true_eq_false, if_false, if_neg hm]
    rw [if_neg (by simp only [Decidable.not_not]; exact ⟨hc, hb, hl⟩)]
    simp [h3]

/-- What stands at a place. -/
def At (H : AH) (id : Nat) (x : AObj) : Prop := id < H.n ∧ H.o id = x
theorem At.new (H : AH) (x : AObj) : At (H.push x) H.n x := ⟨Nat.lt_succ_self _, AH.push_self H x⟩
theorem At.ext {H H' : AH} {id : Nat} {x : AObj} (h : At H id x) (hE : AH.Ext H H') : At H' id x := ⟨Nat.lt_of_lt_of_le h.1 hE.1, (hE.2 id h.1).trans h.2⟩
theorem At.push {H : AH} {id : Nat} {x : AObj} (h : At H id x) (y : AObj) : At (H.push y) id x := h.ext (AH.Ext.push H y)
theorem At.set_ne {H : AH} {id i : Nat} {x : AObj} (h : At H id x) (hne : id ≠ i) (y : AObj) : At (H.set i y) id x := ⟨h.1, (AH.set_ne H y hne).trans h.2⟩
theorem At.set {H : AH} {id : Nat} {x : AObj} (h : At H id x) (y : AObj) : At (H.set id y) id y := ⟨h.1, AH.set_self H id y⟩
theorem At.ne {H : AH} {id i : Nat} {x y : AObj} (h : At H id x) (k : At H i y) (hxy : x ≠ y) : id ≠ i := fun e => hxy (by rw [← h.2, ← k.2, e])
theorem At.lt_new {H : AH} {id : Nat} {x : AObj} (h : At H id x) : id ≠ H.n := Nat.ne_of_lt h.1

theorem At.load {H : AH} {id : Nat} {cs : List AV} (h : At H id (.row cs)) (n o : Nat) (agg : Bool) : aload H n agg (.ptr id o) = takeCells cs o n agg := by simp [aload, h.2]
theorem At.store {H : AH} {id : Nat} {cs : List AV} (h : At H id (.row cs)) (n o : Nat) (v : AV) : astore H n (.ptr id o) v = if v.known ∧ v.cells.length = n ∧ v.cells.all AV.scalar ∧ o + n ≤ cs.length then some (H.set id (.row (setCells cs o v.cells))) else none := by simp [astore, h.2]

end Rb

/- More laws for reading. -/
set_option linter.unusedVariables false
namespace Rb
open Go
@[simp] theorem Gd3_true (b : Bool) (A B C : Prop) : Gd3 (.bool b) true A B C ↔ if b = true then A else B := Iff.rfl
@[simp] theorem Gd3_false (b : Bool) (A B C : Prop) : Gd3 (.bool b) false A B C ↔ if b = false then A else B := Iff.rfl
@[simp] theorem Gd3_tup (want : Bool) (A B C : Prop) : Gd3 (.tup []) want A B C ↔ C := Iff.rfl
theorem ite_both {c : Prop} [Decidable c] {A B : Prop} (h1 : c → A) (h2 : ¬ c → B) : if c then A else B := by
  split
  · exact h1 ‹_›
  · exact h2 ‹_›
theorem drop_nil_le {α : Type} {xs : List α} {i : Nat} (h : xs.drop i = []) : xs.length ≤ i := by simpa using h
theorem drop_cons_lt {α : Type} {xs ys : List α} {i : Nat} {y : α} (h : xs.drop i = y :: ys) : i < xs.length ∧ xs[i]? = some y ∧ xs.drop (i + 1) = ys := by
  have hlt : i < xs.length := by
    rcases Nat.lt_or_ge i xs.length with h' | h'
    · exact h'
    · rw [List.drop_eq_nil_of_le h'] at h; cases h
  refine ⟨hlt, ?_, ?_⟩
  · have := congrArg (fun l => l[0]?) h
    simpa using this
  · have := congrArg List.tail h
    simpa using this
end Rb

/- Slices of typed values: reading an element; slices.IndexFunc. -/
set_option linter.unusedVariables false
set_option linter.unusedSimpArgs false
namespace Rb
open Go

section
variable {α : Type} {cells : α → List AV} {sz : Nat}

theorem flatMap_drop (hc : ∀ x, (cells x).length = sz) : ∀ (xs : List α) (i : Nat), (xs.flatMap cells).drop (i * sz) = (xs.drop i).flatMap cells := by
  intro xs i
  induction i generalizing xs with
  | zero => simp
  | succ i ih =>
    cases xs with
    | nil => simp
    | cons x xs =>
      rw [List.flatMap_cons, List.drop_succ_cons, ← ih]
      rw [show (i + 1) * sz = (cells x).length + i * sz by rw [hc, Nat.add_mul, Nat.one_mul, Nat.add_comm], ← List.drop_drop, List.drop_left]

theorem flatMap_len (hc : ∀ x, (cells x).length = sz) (xs : List α) : (xs.flatMap cells).length = xs.length * sz := by
  induction xs with
  | nil => simp
  | cons x xs ih => rw [List.flatMap_cons, List.length_append, ih, hc, List.length_cons, Nat.add_mul]; omega

/-- The address of an element. -/
def elA (cells : α → List AV) (sz : Nat) (xs : List α) (i : Nat) : AV := .fptr ((xs.flatMap cells).drop (i * sz))

theorem lstA_addr {xs : List α} {i : Nat} (hi : i < xs.length) : aiaddr none sz (lstA cells xs) (.int .i64 i) = some (elA cells sz xs i) := by
  simp only [lstA, aiaddr]
  rw [if_pos ⟨by omega, by omega⟩]; rfl

theorem elA_load (hc : ∀ x, (cells x).length = sz) (hz : 0 < sz) (H : AH) {xs : List α} {i : Nat} {x : α} (hx : xs[i]? = some x) : aload H sz true (elA cells sz xs i) = some (.agg (cells x)) := by
  have hlt := (List.getElem?_eq_some_iff.1 hx).1
  have hd : xs.drop i = x :: xs.drop (i + 1) := by
    rw [List.drop_eq_getElem_cons hlt]
    rw [List.getElem?_eq_getElem hlt] at hx
    simp at hx
    rw [hx]
  show takeCells ((xs.flatMap cells).drop (i * sz)) 0 sz true = _
  rw [flatMap_drop hc, hd, List.flatMap_cons]
  unfold takeCells
  rw [if_pos (by rw [List.length_append, hc]; omega)]
  simp only [if_true, List.drop_zero]
  rw [List.take_append_of_le_length (by rw [hc]; omega), List.take_of_length_le (by rw [hc]; omega)]

def IndexFuncL (sz : Nat) (Φ : Calls') (a0 : AV) (a1 : AV) (x1 : AV) (Q : Post) : (List AV × AH) → ((List AV × AH) → Prop) → Prop := fun s2 L3 =>
  Do (abin .lss (sl s2.1 0) x1) fun x4 =>
  Gd x4 true (
  Do (aiaddr none sz a0 (sl s2.1 0)) fun x5 =>
  Do (aload s2.2 sz true x5) fun x6 =>
  ∃ k9 c10, a1 = .fn k9 c10 ∧ Φ k9 ([x6] ++ c10) s2.2 fun x7 H8 =>
  Gd x7 true (
  Q (sl s2.1 0) H8) (
  Do (abin .add (sl s2.1 0) (.int .i64 1)) fun x11 =>
  L3 ([x11], H8))) (
  Q (.int .i64 (-1)) s2.2)
def IndexFunc (sz : Nat) (Φ : Calls') (a0 : AV) (a1 : AV) (H : AH) (Q : Post) : Prop :=
  Do (alen false a0) fun x1 =>
  LoopP (IndexFuncL sz Φ a0 a1 x1 Q) ([(.int .i64 0)], H)

def idxI : Option Nat → Int
  | some i => i
  | none => -1

theorem IndexFunc_spec {Φ : Calls'} (hc : ∀ x, (cells x).length = sz) (hz : 0 < sz) {p : α → Bool} {key : Nat} {caps : List AV} {xs : List α} {H : AH} (hf : ∀ x ∈ xs, ∀ (R : Post), R (.bool (p x)) H → Φ key ([.agg (cells x)] ++ caps) H R) (hl : xs.length ≤ 9223372036854775807) {Q : Post}
    (hQ : Q (.int .i64 (idxI (xs.findIdx? p))) H) : IndexFunc sz Φ (lstA cells xs) (.fn key caps) H Q := by
  unfold IndexFunc
  have hlen : alen false (lstA cells xs) = some (.int .i64 xs.length) := rfl
  rw [hlen]
  simp only [Do_of]
  have main : ∀ (ys : List α) (i : Nat), xs.drop i = ys → Q (.int .i64 (idxI ((ys.findIdx? p).map (· + i)))) H → LoopP (IndexFuncL sz Φ (lstA cells xs) (.fn key caps) (.int .i64 xs.length) Q) ([.int .i64 i], H) := by
    intro ys
    induction ys with
    | nil =>
      intro i hi hq
      have hle := drop_nil_le hi
      refine LoopP.step ?_
      simp only [IndexFuncL, sl_zero, abin_lss, Do_of, Gd_true]
      rw [if_neg (by simp only [decide_eq_true_eq]; omega)]
      simpa [idxI] using hq
    | cons y ys ih =>
      intro i hi hq
      obtain ⟨hlt, hy, hd⟩ := drop_cons_lt hi
      refine LoopP.step ?_
      simp only [IndexFuncL, sl_zero, abin_lss, Do_of, Gd_true]
      rw [if_pos (by simp only [decide_eq_true_eq]; omega), lstA_addr hlt]
      simp only [Do_of]
      rw [elA_load hc hz H hy]
      simp only [Do_of]
      refine ⟨key, caps, rfl, hf y (List.mem_of_getElem? hy) _ ?_⟩
      simp only [Gd_true]
      rw [List.findIdx?_cons] at hq
      by_cases he : p y = true
      · rw [if_pos he]
        rw [if_pos he] at hq
        simpa [idxI] using hq
      · rw [if_neg he]
        rw [if_neg he] at hq
        simp only [abin_add, Do_of]
        rw [wrap_i64 (by omega) (by omega), show ((i : Int) + 1) = ((i + 1 : Nat) : Int) by simp]
        refine ih (i + 1) hd ?_
        have : (List.findIdx? p ys).map (· + (i + 1)) = ((List.findIdx? p ys).map (· + 1)).map (· + i) := by
          rw [Option.map_map]; congr 1; funext k; simp only [Function.comp]; omega
        rw [this]; exact hq
  refine main xs 0 rfl ?_
  simpa using hQ
end
end Rb

/- Typed values are frozen. -/
set_option linter.unusedVariables false
set_option linter.unusedSimpArgs false
namespace Rb
open Go

theorem frozs_app (a b : List AV) : AV.frozs (a ++ b) = (AV.frozs a && AV.frozs b) := by
  rw [frozs_all, frozs_all, frozs_all, List.all_append]

mutual
theorem GType.froz : ∀ x : GType, AV.frozs x.cells = true
  | .mk kind size packed fields count elem => by
    simp only [GType.cells, AV.frozs, AV.froz, Tok.free, GField.allFroz fields, GType.allFroz elem, Bool.and_self]
theorem GType.allFroz : ∀ xs : List GType, AV.frozs (GType.all xs) = true
  | [] => rfl
  | x :: r => by rw [GType.all, frozs_app, GType.froz x, GType.allFroz r]; rfl
theorem GField.froz : ∀ x : GField, AV.frozs x.cells = true
  | .mk name type bits width => by
    simp only [GField.cells, AV.frozs, AV.froz, frozs_app, GType.froz type, Bool.and_self]
theorem GField.allFroz : ∀ xs : List GField, AV.frozs (GField.all xs) = true
  | [] => rfl
  | x :: r => by rw [GField.all, frozs_app, GField.froz x, GField.allFroz r]; rfl
end
mutual
theorem GExpr.froz : ∀ x : GExpr, AV.frozs x.cells = true
  | .mk kind n name op order place kids => by
    simp only [GExpr.cells, AV.frozs, AV.froz, frozs_app, Tok.free, GPlace.froz place, GExpr.allFroz kids, Bool.and_self]
theorem GExpr.allFroz : ∀ xs : List GExpr, AV.frozs (GExpr.all xs) = true
  | [] => rfl
  | x :: r => by rw [GExpr.all, frozs_app, GExpr.froz x, GExpr.allFroz r]; rfl
theorem GPlace.froz : ∀ x : GPlace, AV.frozs x.cells = true
  | .mk var parts => by simp only [GPlace.cells, AV.frozs, AV.froz, Tok.free, GPart.allFroz parts, Bool.and_self]
theorem GPart.froz : ∀ x : GPart, AV.frozs x.cells = true
  | .mk field index => by simp only [GPart.cells, AV.frozs, AV.froz, Tok.free, GExpr.allFroz index, Bool.and_self]
theorem GPart.allFroz : ∀ xs : List GPart, AV.frozs (GPart.all xs) = true
  | [] => rfl
  | x :: r => by rw [GPart.all, frozs_app, GPart.froz x, GPart.allFroz r]; rfl
end
theorem lstA_froz {α : Type} {cells : α → List AV} (h : ∀ x, AV.frozs (cells x) = true) (xs : List α) : (lstA cells xs).froz = true := by
  have : AV.frozs (xs.flatMap cells) = true := by
    induction xs with
    | nil => rfl
    | cons x xs ih => rw [List.flatMap_cons, frozs_app, h, ih]; rfl
  simp only [lstA, AV.froz, Tok.free, this, Bool.and_self]
theorem GVar.froz (x : GVar) : AV.frozs x.cells = true := by simp only [GVar.cells, AV.frozs, AV.froz, GType.froz, Bool.and_self]
mutual
theorem GStmt.froz : ∀ x : GStmt, AV.frozs x.cells = true
  | .mk kind line name name2 order place exprs thn els => by
    simp only [GStmt.cells, AV.frozs, AV.froz, frozs_app, Tok.free, GPlace.froz place, lstA_froz GExpr.froz exprs, GStmt.allFroz thn, GStmt.allFroz els, Bool.and_self]
theorem GStmt.allFroz : ∀ xs : List GStmt, AV.frozs (GStmt.all xs) = true
  | [] => rfl
  | x :: r => by rw [GStmt.all, frozs_app, GStmt.froz x, GStmt.allFroz r]; rfl
end
theorem thr_froz (l : List GStmt) : AV.frozs (thrCells l) = true := by simp only [thrCells, AV.frozs, lstA_froz GStmt.froz, Bool.and_self]
theorem GProg.froz (x : GProg) : AV.frozs x.cells = true := by simp only [GProg.cells, AV.frozs, lstA_froz GVar.froz, lstA_froz thr_froz, Bool.and_self]
end Rb

/- New variables, and what is read of them. -/
set_option linter.unusedVariables false
set_option linter.unusedSimpArgs false
namespace Rb
open Go

@[simp] theorem AH.push_set (H : AH) (x y : AObj) : (H.push x).set H.n y = H.push y := by
  simp only [AH.push, AH.set]
  congr 1
  funext j
  split <;> rfl
@[simp] theorem load_push (H : AH) (cs : List AV) (n o : Nat) (agg : Bool) : aload (H.push (.row cs)) n agg (.ptr H.n o) = takeCells cs o n agg := by
  simp [aload, AH.push_self]
theorem store_push (H : AH) (cs : List AV) (n o : Nat) (v : AV) (h1 : v.known = true) (h2 : v.cells.length = n) (h3 : v.cells.all AV.scalar = true) (h4 : o + n ≤ cs.length) : astore (H.push (.row cs)) n (.ptr H.n o) v = some (H.push (.row (setCells cs o v.cells))) := by
  rw [(At.new H (.row cs)).store, if_pos ⟨h1, h2, h3, h4⟩, AH.push_set]
theorem setCells_all {xs ys : List AV} : ∀ {k : Nat}, k + ys.length = xs.length → setCells xs k ys = xs.take k ++ ys := by
  induction ys generalizing xs with
  | nil => intro k h; simp only [setCells]; rw [List.append_nil, List.take_of_length_le (by simp at h; omega)]
  | cons y ys ih =>
    intro k h
    simp only [setCells]
    rw [ih (by simp at h ⊢; omega)]
    have hk : k < xs.length := by simp at h; omega
    rw [List.take_add_one, List.getElem?_set_self hk, List.take_set_of_le (by omega)]
    simp
/-- A new variable gets a struct. -/
theorem store_new (H : AH) (zs cs : List AV) (n : Nat) (h2 : cs.length = n) (h3 : cs.all AV.scalar = true) (h4 : zs.length = n) : astore (H.push (.row zs)) n (.ptr H.n 0) (.agg cs) = some (H.push (.row cs)) := by
  rw [store_push H zs n 0 (.agg cs) rfl h2 h3 (by omega)]
  congr 3
  show setCells zs 0 cs = cs
  rw [setCells_all (by omega)]; rfl

theorem takeCells_app {a b : List AV} {n : Nat} (h : a.length = n) : takeCells (a ++ b) 0 n true = some (.agg a) := by
  unfold takeCells
  rw [if_pos (by rw [List.length_append]; omega)]
  simp only [if_true, List.drop_zero]
  rw [List.take_append_of_le_length (by omega), List.take_of_length_le (by omega)]
theorem takeCells_whole {a : List AV} {n : Nat} (h : a.length = n) : takeCells a 0 n true = some (.agg a) := by
  have := takeCells_app (a := a) (b := []) h
  rwa [List.append_nil] at this
theorem takeCells_drop {cs : List AV} {o n : Nat} {agg : Bool} (h : o ≤ cs.length) : takeCells cs o n agg = takeCells (cs.drop o) 0 n agg := by
  by_cases hl : o + n ≤ cs.length
  · have hl' : 0 + n ≤ (cs.drop o).length := by rw [List.length_drop]; omega
    unfold takeCells
    simp only [hl, hl', if_true]
    cases agg <;> simp
  · have hl' : ¬ 0 + n ≤ (cs.drop o).length := by rw [List.length_drop]; omega
    unfold takeCells
    simp only [hl, hl', if_false]

/-- Frozen values may lie in a cell. -/
theorem froz_scalar : ∀ {cs : List AV}, (∀ c ∈ cs, c.scalar = true) → cs.all AV.scalar = true := fun h => List.all_eq_true.2 h
mutual
theorem GType.scalar : ∀ x : GType, x.cells.all AV.scalar = true
  | .mk kind size packed fields count elem => by simp [GType.cells, AV.scalar]
theorem GField.scalar : ∀ x : GField, x.cells.all AV.scalar = true
  | .mk name type bits width => by simp only [GField.cells, List.all_cons, List.all_append, GType.scalar type]; rfl
end
theorem GPlace.scalar (x : GPlace) : x.cells.all AV.scalar = true := by rw [GPlace.cells_eq]; rfl
theorem GPart.scalar (x : GPart) : x.cells.all AV.scalar = true := by rw [GPart.cells_eq]; rfl
theorem GExpr.scalar (x : GExpr) : x.cells.all AV.scalar = true := by rw [GExpr.cells_eq]; simp only [List.all_cons, List.all_append, GPlace.scalar]; rfl
theorem GStmt.scalar (x : GStmt) : x.cells.all AV.scalar = true := by rw [GStmt.cells_eq]; simp only [List.all_cons, List.all_append, GPlace.scalar]; rfl
theorem GVar.scalar (x : GVar) : x.cells.all AV.scalar = true := by simp only [GVar.cells, List.all_cons, GType.scalar]; rfl
end Rb

/- Slices of numbers held against one another. -/
set_option linter.unusedVariables false
set_option linter.unusedSimpArgs false
namespace Rb
open Go

/-- A number's cell. -/
def i1 (k : IntKind) (z : Int) : List AV := [.int k z]
theorem i1_len (k : IntKind) (z : Int) : (i1 k z).length = 1 := rfl

section
variable {α : Type} {c : α → AV}
theorem one_load (H : AH) {xs : List α} {i : Nat} {x : α} (hx : xs[i]? = some x) : aload H 1 false (elA (fun x => [c x]) 1 xs i) = some (c x) := by
  have hlt := (List.getElem?_eq_some_iff.1 hx).1
  have hd : xs.drop i = x :: xs.drop (i + 1) := by
    rw [List.drop_eq_getElem_cons hlt]
    rw [List.getElem?_eq_getElem hlt] at hx
    simp at hx
    rw [hx]
  show takeCells ((xs.flatMap fun x => [c x]).drop (i * 1)) 0 1 false = _
  rw [flatMap_drop (sz := 1) (fun _ => rfl), hd, List.flatMap_cons]
  rfl
end
theorem num_load {k : IntKind} (H : AH) {xs : List Int} {i : Nat} {x : Int} (hx : xs[i]? = some x) : aload H 1 false (elA (i1 k) 1 xs i) = some (.int k x) := one_load H hx

def EqualL (a0 : AV) (a1 : AV) (x4 : AV) (Q : Post) : (List AV × AH) → ((List AV × AH) → Prop) → Prop := fun s5 L6 =>
 Do (abin .lss (sl s5.1 0) x4) fun x7 =>
 Gd x7 true (
 Do (aiaddr none 1 a0 (sl s5.1 0)) fun x8 =>
 Do (aload s5.2 1 false x8) fun x9 =>
 Do (aiaddr none 1 a1 (sl s5.1 0)) fun x10 =>
 Do (aload s5.2 1 false x10) fun x11 =>
 Do (abin .neq x9 x11) fun x12 =>
 Gd x12 true (
 Q (.bool false) s5.2) (
 Do (abin .add (sl s5.1 0) (.int .i64 1)) fun x13 =>
 L6 ([x13], s5.2))) (
 Q (.bool true) s5.2)
/-- slices.Equal of numbers. -/
def Equal (a0 : AV) (a1 : AV) (H : AH) (Q : Post) : Prop :=
 Do (alen false a0) fun x1 =>
 Do (alen false a1) fun x2 =>
 Do (abin .neq x1 x2) fun x3 =>
 Gd x3 true (
 Q (.bool false) H) (
 Do (alen false a0) fun x4 =>
 LoopP (EqualL a0 a1 x4 Q) ([(.int .i64 0)], H))

theorem lstA_len' {α : Type} (cells : α → List AV) (xs : List α) : alen false (lstA cells xs) = some (.int .i64 xs.length) := rfl
theorem ne_len {α : Type} {xs ys : List α} [BEq α] [LawfulBEq α] (h : xs.length ≠ ys.length) : (xs == ys) = false := by
  rw [beq_eq_false_iff_ne]; intro e; exact h (by rw [e])

theorem Equal_spec {k : IntKind} {xs ys : List Int} {H : AH} {Q : Post} (hl : xs.length ≤ 9223372036854775807) (hQ : Q (.bool (xs == ys)) H) : Equal (lstA (i1 k) xs) (lstA (i1 k) ys) H Q := by
  unfold Equal
  simp only [lstA_len', Do_of, abin_neq, Gd_true]
  by_cases he : xs.length = ys.length
  · rw [if_neg (by simp [he])]
    have main : ∀ (us vs : List Int) (i : Nat), xs.drop i = us → ys.drop i = vs → us.length = vs.length → Q (.bool (us == vs)) H → LoopP (EqualL (lstA (i1 k) xs) (lstA (i1 k) ys) (.int .i64 xs.length) Q) ([.int .i64 i], H) := by
      intro us
      induction us with
      | nil =>
        intro vs i hu hv hlen hq
        have hle := drop_nil_le hu
        obtain rfl : vs = [] := by cases vs with | nil => rfl | cons _ _ => cases hlen
        refine LoopP.step ?_
        simp only [EqualL, sl_zero, abin_lss, Do_of, Gd_true]
        rw [if_neg (by simp only [decide_eq_true_eq]; omega)]
        exact hq
      | cons u us ih =>
        intro vs i hu hv hlen hq
        cases vs with
        | nil => cases hlen
        | cons v vs =>
          obtain ⟨hlt, hu1, hu2⟩ := drop_cons_lt hu
          obtain ⟨hlt', hv1, hv2⟩ := drop_cons_lt hv
          refine LoopP.step ?_
          simp only [EqualL, sl_zero, abin_lss, Do_of, Gd_true]
          rw [if_pos (by simp only [decide_eq_true_eq]; omega), lstA_addr hlt, lstA_addr hlt']
          simp only [Do_of]
          rw [num_load H hu1, num_load H hv1]
          simp only [Do_of, abin_neq, Gd_true]
          by_cases hx : u = v
          · subst hx
            rw [if_neg (by simp)]
            simp only [abin_add, Do_of]
            rw [wrap_i64 (by omega) (by omega), show ((i : Int) + 1) = ((i + 1 : Nat) : Int) by simp]
            refine ih vs (i + 1) hu2 hv2 (by simpa using hlen) ?_
            simpa using hq
          · rw [if_pos (by simpa using hx)]
            have : (u :: us == v :: vs) = false := by rw [beq_eq_false_iff_ne]; intro e; cases e; exact hx rfl
            rw [this] at hq; exact hq
    exact main xs ys 0 rfl rfl he hQ
  · rw [if_pos (by simpa using fun e => he (by omega))]
    rw [ne_len he] at hQ; exact hQ

def SameL (a0 : AV) (a1 : AV) (Q : Post) : (List AV × AH) → ((List AV × AH) → Prop) → Prop := fun s4 L5 =>
 Do (alen false a0) fun x6 =>
 Do (abin .lss (sl s4.1 0) x6) fun x7 =>
 Gd x7 true (
 Do (aiaddr none 1 a0 (sl s4.1 0)) fun x8 =>
 Do (aload s4.2 1 false x8) fun x9 =>
 Do (aiaddr none 1 a1 (sl s4.1 0)) fun x10 =>
 Do (aload s4.2 1 false x10) fun x11 =>
 Do (abin .neq x9 x11) fun x12 =>
 Gd x12 true (
 Q (.bool false) s4.2) (
 Do (abin .add (sl s4.1 0) (.int .i64 1)) fun x13 =>
 L5 ([x13], s4.2))) (
 Q (.bool true) s4.2)
def SameD (a0 : AV) (a1 : AV) (H : AH) (Q : Post) : Prop :=
 Do (alen false a0) fun x1 =>
 Do (alen false a1) fun x2 =>
 Do (abin .neq x1 x2) fun x3 =>
 Gd x3 true (
 Q (.bool false) H) (
 LoopP (SameL a0 a1 Q) ([(.int .i64 0)], H))
theorem SameD_spec {k : IntKind} {xs ys : List Int} {H : AH} {Q : Post} (hl : xs.length ≤ 9223372036854775807) (hQ : Q (.bool (xs == ys)) H) : SameD (lstA (i1 k) xs) (lstA (i1 k) ys) H Q := by
  have e : SameL (lstA (i1 k) xs) (lstA (i1 k) ys) Q = EqualL (lstA (i1 k) xs) (lstA (i1 k) ys) (.int .i64 xs.length) Q := by
    funext s L
    unfold SameL EqualL
    rw [lstA_len']
    simp only [Do_of]
  have := Equal_spec (k := k) (ys := ys) hl hQ
  unfold Equal at this
  unfold SameD
  rw [e]
  simp only [lstA_len', Do_of] at this ⊢
  exact this

/-- Bytes as a text. -/
theorem bytes_str {H : AH} : ∀ {xs : List Int}, (∀ x ∈ xs, 0 ≤ x ∧ x ≤ 255) → abstr H (lstA (i1 .u8) xs) = some (.str (xs.map fun x => UInt8.ofNat x.toNat)) := by
  intro xs hx
  have h1 : ∀ ys : List Int, cellBytes (ys.flatMap (i1 .u8)) = some (ys.map fun x => UInt8.ofNat x.toNat) := by
    intro ys
    induction ys with
    | nil => rfl
    | cons y ys ih =>
      rw [List.flatMap_cons]
      show cellBytes (.int .u8 y :: ys.flatMap (i1 .u8)) = _
      unfold cellBytes
      rw [ih]; rfl
  simp only [abstr, lstA, acells]
  rw [if_pos (by rw [flatMap_len (i1_len _)])]
  simp only [h1, Option.map_some]
theorem bytes_eq {xs ys : List Int} (hx : ∀ x ∈ xs, 0 ≤ x ∧ x ≤ 255) (hy : ∀ x ∈ ys, 0 ≤ x ∧ x ≤ 255) : ((xs.map fun x => UInt8.ofNat x.toNat) == ys.map fun x => UInt8.ofNat x.toNat) = (xs == ys) := by
  rw [Bool.eq_iff_iff]
  simp only [beq_iff_eq]
  constructor
  · intro h
    induction xs generalizing ys with
    | nil => cases ys with | nil => rfl | cons _ _ => cases h
    | cons x xs ih =>
      cases ys with
      | nil => cases h
      | cons y ys =>
        simp only [List.map_cons, List.cons.injEq] at h
        obtain ⟨h1, h2⟩ := h
        have h3 := hx x (by simp)
        have h4 := hy y (by simp)
        have h5 := congrArg UInt8.toNat h1
        simp only [UInt8.toNat_ofNat'] at h5
        rw [ih (fun z hz => hx z (by simp [hz])) (fun z hz => hy z (by simp [hz])) h2]
        congr 1
        omega
  · intro h; rw [h]
end Rb

/- Types: what the program's package kind, and the document, say of them: models. -/
set_option linter.unusedVariables false
set_option linter.unusedSimpArgs false
namespace Rb
open Go

/-- A call that gives a value, and leaves the memory as it is. -/
def Val (Φ : Calls') (k : Nat) (args : List AV) (v : AV) : Prop := ∀ (H : AH) (Q : Post), Q v H → Φ k args H Q
theorem Val.of {C : Ctx} (hGT : GTok C) {k : Nat} {args : List AV} {v : AV} (ha : AV.frozs args = true) (hv : v.froz = true) (h : ∀ Q : Post, (∀ H', Q v H') → ACall C k args AH.mt Q) : Val (ACall C) k args v :=
  fun H Q hQ => ACall.frame2 (Q := fun u _ => u = v) hGT (h _ fun _ => rfl) ha H Q fun u _ hu => by subst hu; exact ⟨hv, hQ⟩

/-! Names -/
def isLet (c : UInt8) : Bool := decide (97 ≤ c.toNat) && decide (c.toNat ≤ 122)
def isDig (c : UInt8) : Bool := decide (48 ≤ c.toNat) && decide (c.toNat ≤ 57)
def isPart (c : UInt8) : Bool := isLet c || isDig c || decide (c.toNat = 95)
def nameOk : List UInt8 → Bool
  | [] => false
  | c :: r => decide (r.length < 16) && isLet c && r.all isPart

theorem decodeN_lo {n b0 b1 b2 b3 : Nat} (h : b0 < 128) : Go.Lib.decodeN n b0 b1 b2 b3 = (b0, 1) := by unfold Go.Lib.decodeN; rw [if_pos h]
theorem decodeN_hi {n b0 b1 b2 b3 : Nat} (h : ¬ b0 < 128) : 128 ≤ (Go.Lib.decodeN n b0 b1 b2 b3).1 := by
  unfold Go.Lib.decodeN
  rw [if_neg h]
  repeat' split
  all_goals (dsimp only; omega)
theorem decode_lo {s : List UInt8} {i : Nat} {c : UInt8} (hc : s[i]? = some c) (h : c.toNat < 128) : Utf8.decode ⟨s.toArray⟩ i = (c.toNat, 1) := by
  have e : (ByteArray.mk s.toArray).get! i = c := by
    show s.toArray[i]! = c
    have hi := (List.getElem?_eq_some_iff.1 hc).1
    rw [getElem!_pos s.toArray i (by simpa using hi)]
    simp [List.getElem?_eq_getElem hi] at hc
    simpa using hc
  rw [Go.Lib.decode_at, e, decodeN_lo h]
theorem decode_hi {s : List UInt8} {i : Nat} {c : UInt8} (hc : s[i]? = some c) (h : ¬ c.toNat < 128) : 128 ≤ (Utf8.decode ⟨s.toArray⟩ i).1 := by
  have e : (ByteArray.mk s.toArray).get! i = c := by
    show s.toArray[i]! = c
    have hi := (List.getElem?_eq_some_iff.1 hc).1
    rw [getElem!_pos s.toArray i (by simpa using hi)]
    simp [List.getElem?_eq_getElem hi] at hc
    simpa using hc
  rw [Go.Lib.decode_at, e]
  exact decodeN_hi h

/-! Types -/
def pow2 (n most : Int) : Bool := (n == 1 || n == 2 || n == 4 || n == 8 || n == 16) && decide (n ≤ most)
def onlyM (kind size : Int) (packed : Bool) (nf : Nat) (count : Int) (ne : Nat) : Bool :=
  if kind = 1 ∨ kind = 2 then !packed && nf == 0 && count == 0 && ne == 0
  else if kind = 3 ∨ kind = 4 then size == 0 && count == 0 && ne == 0
  else if kind = 5 then size == 0 && !packed && nf == 0 && ne == 1
  else false

mutual
def sndT : GType → Int
  | .mk kind size packed fields count elem =>
    if onlyM kind size packed fields.length count elem.length = false then 8
    else if kind = 1 then (if pow2 size 8 then 0 else 9)
    else if kind = 2 then (if pow2 size 16 then 0 else 9)
    else if kind = 5 then (if count < 1 ∨ 65536 < count then 9 else sndE elem)
    else if fields.length < 1 ∨ 32 < fields.length then 12
    else sndFs packed [] fields
def sndE : List GType → Int
  | [] => 0
  | t :: _ => sndT t
def sndF (packed : Bool) (seen : List (List UInt8)) : GField → Int
  | .mk name type bits width =>
    if nameOk name = false ∧ (name ≠ [] ∨ bits = false) then 6
    else if name ≠ [] ∧ seen.contains name = true then 7
    else if sndT type ≠ 0 then sndT type
    else if (bits = false ∧ width ≠ 0) ∨ (bits = true ∧ (type.kind ≠ 1 ∨ packed = true)) then 8
    else if bits = true ∧ (width < 0 ∨ 8 * type.size < width ∨ (width = 0 ∧ name ≠ [])) then 9
    else 0
def sndFs (packed : Bool) (seen : List (List UInt8)) : List GField → Int
  | [] => 0
  | f :: r => if sndF packed seen f ≠ 0 then sndF packed seen f else sndFs packed (seen ++ [f.name]) r
end

mutual
def depT (most : Nat) : GType → Int
  | .mk kind size packed fields count elem => if 1 < most then max (depFs (most - 1) fields) (depEs (most - 1) elem) + 1 else 1
def depF (most : Nat) : GField → Int
  | .mk name type bits width => depT most type
def depFs (most : Nat) : List GField → Int
  | [] => 0
  | f :: r => max (depF most f) (depFs most r)
def depEs (most : Nat) : List GType → Int
  | [] => 0
  | t :: r => max (depT most t) (depEs most r)
end
def soundM (t : GType) : Int := if 64 < depT 65 t then 5 else sndT t

theorem GType.ind {P : GType → Prop} (h : ∀ t : GType, (∀ f ∈ t.fields, P f.type) → (∀ e ∈ t.elem, P e) → P t) : ∀ t, P t := by
  have main : ∀ (n : Nat) (t : GType), sizeOf t < n → P t := by
    intro n
    induction n with
    | zero => intro t ht; omega
    | succ n ih =>
      intro t ht
      refine h t (fun f hf => ih _ ?_) fun e he => ih _ ?_
      · cases t with
        | mk kind size packed fields count elem =>
          have := List.sizeOf_lt_of_mem hf
          cases f with
          | mk name type bits width => simp at this ht ⊢; omega
      · cases t with
        | mk kind size packed fields count elem =>
          have := List.sizeOf_lt_of_mem he
          simp at this ht ⊢; omega
  exact fun t => main _ t (Nat.lt_succ_self _)
end Rb

/- Package lex: a model of its words; what the laws ask of it. -/
set_option linter.unusedVariables false
set_option linter.unusedSimpArgs false
namespace Rb
open Go

def sgn1 : List UInt8 := [123, 125, 91, 93, 40, 41, 59, 58, 44, 46, 95, 61, 43, 45, 42, 38, 124, 94, 60]
def two (x : UInt8) : Option UInt8 := if x = 60 then some 60 else if x = 62 then some 62 else if x = 61 then some 61 else if x = 33 then some 61 else none
def restOk : List UInt8 → Bool
  | [] => true
  | c :: _ => !isPart c
/-- How many bytes the word has that stands at a text's head. -/
def wordM (num : List UInt8 → Bool) : List UInt8 → Option Nat
  | [] => none
  | x :: r =>
    if isLet x = true then (if 16 < ((x :: r).takeWhile isPart).length then none else some ((x :: r).takeWhile isPart).length)
    else if isDig x = true then (if (num ((x :: r).takeWhile isDig) = true ∧ ¬ (1 < ((x :: r).takeWhile isDig).length ∧ x = 48)) ∧ restOk ((x :: r).dropWhile isDig) = true then some ((x :: r).takeWhile isDig).length else none)
    else if two x ≠ none ∧ r.head? = two x then some 2
    else if sgn1.contains x = true then some 1 else none
theorem wordM_cons (num : List UInt8 → Bool) (x : UInt8) (r : List UInt8) : wordM num (x :: r) = if isLet x = true then (if 16 < ((x :: r).takeWhile isPart).length then none else some ((x :: r).takeWhile isPart).length)
    else if isDig x = true then (if (num ((x :: r).takeWhile isDig) = true ∧ ¬ (1 < ((x :: r).takeWhile isDig).length ∧ x = 48)) ∧ restOk ((x :: r).dropWhile isDig) = true then some ((x :: r).takeWhile isDig).length else none)
    else if two x ≠ none ∧ r.head? = two x then some 2
    else if sgn1.contains x = true then some 1 else none := rfl
def toks (num : List UInt8 → Bool) : Nat → List UInt8 → Int → Except Int (List (List UInt8 × Int))
  | 0, _, _ => .ok []
  | _ + 1, [], _ => .ok []
  | n + 1, x :: r, line =>
    if x = 10 then toks num n r (line + 1) else if x = 32 then toks num n r line
    else match wordM num (x :: r) with
      | none => .error line
      | some k => match toks num n ((x :: r).drop k) line with
        | .error l => .error l
        | .ok ws => .ok (((x :: r).take k, line) :: ws)

section
variable {num : List UInt8 → Bool}
theorem wordM_pos {s : List UInt8} {k : Nat} (h : wordM num s = some k) : 1 ≤ k ∧ k ≤ s.length := by
  cases s with
  | nil => cases h
  | cons x r =>
    rw [wordM_cons] at h
    have hl : ∀ p : UInt8 → Bool, ((x :: r).takeWhile p).length ≤ (x :: r).length := fun p => (List.takeWhile_prefix p).length_le
    split at h
    · rename_i hx
      have hp : isPart x = true := by simp [isPart, hx]
      have := hl isPart
      split at h
      · cases h
      · simp only [Option.some.injEq] at h
        subst h
        refine ⟨?_, this⟩
        rw [List.takeWhile_cons, if_pos hp]; simp
    · split at h
      · rename_i hx
        have := hl isDig
        split at h
        · simp only [Option.some.injEq] at h
          subst h
          refine ⟨?_, this⟩
          rw [List.takeWhile_cons, if_pos hx]; simp
        · cases h
      · split at h
        · rename_i ht
          simp only [Option.some.injEq] at h
          subst h
          cases r with
          | nil => exact absurd ht.2.symm ht.1
          | cons y r => simp
        · split at h
          · simp only [Option.some.injEq] at h
            subst h
            simp
          · cases h
theorem toks_nil (n : Nat) (line : Int) : toks num n [] line = .ok [] := by cases n <;> rfl
theorem toks_fuel : ∀ (n m : Nat) (s : List UInt8) (line : Int), s.length ≤ n → s.length ≤ m → toks num n s line = toks num m s line := by
  intro n
  induction n with
  | zero =>
    intro m s line h1 h2
    have : s = [] := List.length_eq_zero_iff.1 (by omega)
    subst this
    rw [toks_nil, toks_nil]
  | succ n ih =>
    intro m s line h1 h2
    cases s with
    | nil => rw [toks_nil, toks_nil]
    | cons x r =>
      simp only [List.length_cons] at h1 h2
      cases m with
      | zero => omega
      | succ m =>
        rw [toks, toks]
        rw [ih m r (line + 1) (by omega) (by omega), ih m r line (by omega) (by omega)]
        cases hw : wordM num (x :: r) with
        | none => rfl
        | some k =>
          have := wordM_pos hw
          simp only
          rw [ih m ((x :: r).drop k) line (by rw [List.length_drop, List.length_cons]; omega) (by rw [List.length_drop, List.length_cons]; omega)]

def shift (k : Int) : Except Int (List (List UInt8 × Int)) → Except Int (List (List UInt8 × Int))
  | .error l => .error (l + k)
  | .ok ws => .ok (ws.map fun w => (w.1, w.2 + k))
theorem toks_shift (k : Int) : ∀ (n : Nat) (s : List UInt8) (line : Int), toks num n s (line + k) = shift k (toks num n s line) := by
  intro n
  induction n with
  | zero => intro s line; rfl
  | succ n ih =>
    intro s line
    cases s with
    | nil => rfl
    | cons x r =>
      rw [toks, toks]
      split
      · rw [show line + k + 1 = line + 1 + k by omega, ih]
      · split
        · rw [ih]
        · cases hw : wordM num (x :: r) with
          | none => rfl
          | some j =>
            simp only
            rw [ih]
            cases toks num n ((x :: r).drop j) line with
            | error l => rfl
            | ok ws => rfl

def nls (s : List UInt8) : Int := (s.countP (· == 10) : Nat)

theorem takeWhile_stop {p : UInt8 → Bool} {c : UInt8} (hc : p c = false) (t : List UInt8) : ∀ s : List UInt8, (s ++ c :: t).takeWhile p = s.takeWhile p
  | [] => by rw [List.nil_append, List.takeWhile_cons, hc]; rfl
  | x :: r => by
    rw [List.cons_append, List.takeWhile_cons, List.takeWhile_cons, takeWhile_stop hc t r]
theorem dropWhile_stop {p : UInt8 → Bool} {c : UInt8} (hc : p c = false) (t : List UInt8) : ∀ s : List UInt8, (s ++ c :: t).dropWhile p = s.dropWhile p ++ c :: t
  | [] => by rw [List.nil_append, List.dropWhile_cons, hc]; rfl
  | x :: r => by
    rw [List.cons_append, List.dropWhile_cons, List.dropWhile_cons]
    split
    · exact dropWhile_stop hc t r
    · rfl
/-- A byte that ends words. -/
def stops (c : UInt8) : Prop := c = 10 ∨ c = 32
theorem stops_part {c : UInt8} (h : stops c) : isPart c = false := by rcases h with rfl | rfl <;> rfl
theorem stops_dig {c : UInt8} (h : stops c) : isDig c = false := by rcases h with rfl | rfl <;> rfl
theorem wordM_stop {c : UInt8} (hc : stops c) (x : UInt8) (r t : List UInt8) : wordM num (x :: (r ++ c :: t)) = wordM num (x :: r) := by
  have e1 : (x :: (r ++ c :: t)).takeWhile isPart = (x :: r).takeWhile isPart := takeWhile_stop (stops_part hc) t (x :: r)
  have e2 : (x :: (r ++ c :: t)).takeWhile isDig = (x :: r).takeWhile isDig := takeWhile_stop (stops_dig hc) t (x :: r)
  have e3 : (x :: (r ++ c :: t)).dropWhile isDig = (x :: r).dropWhile isDig ++ c :: t := dropWhile_stop (stops_dig hc) t (x :: r)
  have e4 : restOk ((x :: r).dropWhile isDig ++ c :: t) = restOk ((x :: r).dropWhile isDig) := by
    cases (x :: r).dropWhile isDig with
    | nil => show (!isPart c) = true; rw [stops_part hc]; rfl
    | cons y l => rfl
  have e5 : (two x ≠ none ∧ (r ++ c :: t).head? = two x) ↔ (two x ≠ none ∧ r.head? = two x) := by
    cases r with
    | nil =>
      simp only [List.nil_append, List.head?_cons, List.head?_nil]
      constructor
      · rintro ⟨h1, h2⟩
        exfalso
        have : ∀ y, two x = some y → ¬ stops y := by
          intro y hy
          unfold two at hy
          intro hs
          repeat' (split at hy)
          all_goals first | (simp only [Option.some.injEq] at hy; subst hy; rcases hs with h | h <;> exact absurd h (by decide)) | cases hy
        exact this c h2.symm hc
      · rintro ⟨h1, h2⟩; exact absurd h2.symm h1
    | cons y r => rfl
  rw [wordM_cons, wordM_cons, e1, e2, e3, e4]
  simp only [e5]

theorem mem_tw {p : UInt8 → Bool} {y : UInt8} : ∀ {s : List UInt8}, y ∈ s.takeWhile p → p y = true
  | [], h => by cases h
  | x :: r, h => by
    rw [List.takeWhile_cons] at h
    split at h
    · rename_i hx
      rcases List.mem_cons.1 h with rfl | h
      · exact hx
      · exact mem_tw h
    · cases h
theorem toks_app (t : List UInt8) : ∀ (n : Nat) (s : List UInt8) (line : Int), s.length + 1 + t.length ≤ n →
    toks num n (s ++ 10 :: t) line = match toks num n s line with
      | .error l => .error l
      | .ok a => match toks num n t (line + nls s + 1) with
        | .error l => .error l
        | .ok b => .ok (a ++ b) := by
  intro n
  induction n with
  | zero => intro s line h; omega
  | succ n ih =>
    intro s line h
    cases s with
    | nil =>
      simp only [List.length_nil] at h
      rw [List.nil_append, toks_nil]
      rw [show toks num (n + 1) (10 :: t) line = toks num n t (line + 1) by rw [toks, if_pos rfl]]
      simp only
      rw [show line + nls [] + 1 = line + 1 by simp [nls], toks_fuel n (n + 1) t (line + 1) (by omega) (by omega)]
      cases toks num (n + 1) t (line + 1) <;> rfl
    | cons x r =>
      simp only [List.length_cons] at h
      rw [List.cons_append, toks, toks]
      by_cases h1 : x = 10
      · subst h1
        rw [if_pos rfl, if_pos rfl, ih r (line + 1) (by omega)]
        have : line + 1 + nls r + 1 = line + nls (10 :: r) + 1 := by simp [nls]; omega
        rw [this, toks_fuel n (n + 1) t _ (by omega) (by omega)]
      · rw [if_neg h1, if_neg h1]
        have hn : nls (x :: r) = nls r := by simp [nls, h1]
        by_cases h2 : x = 32
        · rw [if_pos h2, if_pos h2, ih r line (by omega), hn, toks_fuel n (n + 1) t _ (by omega) (by omega)]
        · rw [if_neg h2, if_neg h2, wordM_stop (.inl rfl)]
          cases hw : wordM num (x :: r) with
          | none => rfl
          | some k =>
            obtain ⟨k1, k2⟩ := wordM_pos hw
            simp only
            have d1 : (x :: (r ++ 10 :: t)).drop k = (x :: r).drop k ++ 10 :: t := by
              rw [← List.cons_append, List.drop_append_of_le_length k2]
            have d2 : (x :: (r ++ 10 :: t)).take k = (x :: r).take k := by
              rw [← List.cons_append, List.take_append_of_le_length k2]
            rw [d1, d2, ih ((x :: r).drop k) line (by rw [List.length_drop, List.length_cons]; omega)]
            have hk : ∀ y ∈ (x :: r).take k, y ≠ 10 := by
              intro y hy e
              subst e
              rw [wordM_cons] at hw
              have tk : ∀ p : UInt8 → Bool, p 10 = false → 10 ∈ (x :: r).take ((x :: r).takeWhile p).length → False := by
                intro p hp hm
                rw [List.prefix_iff_eq_take.1 (List.takeWhile_prefix p) |>.symm] at hm
                have := mem_tw hm
                rw [hp] at this; cases this
              split at hw
              · split at hw
                · cases hw
                · simp only [Option.some.injEq] at hw; subst hw; exact tk isPart rfl hy
              · split at hw
                · split at hw
                  · simp only [Option.some.injEq] at hw; subst hw; exact tk isDig rfl hy
                  · cases hw
                · split at hw
                  · rename_i ht
                    simp only [Option.some.injEq] at hw; subst hw
                    cases r with
                    | nil => simp at hy; exact h1 hy.symm
                    | cons z r =>
                      simp only [List.head?_cons] at ht
                      simp only [List.take_succ_cons, List.take_zero, List.mem_cons, List.not_mem_nil, or_false] at hy
                      rcases hy with hy | hy
                      · exact h1 hy.symm
                      · subst hy
                        have := ht.2
                        unfold two at this
                        repeat' (split at this)
                        all_goals cases this
                  · split at hw
                    · simp only [Option.some.injEq] at hw; subst hw
                      simp at hy
                      exact h1 hy.symm
                    · cases hw
            have hnl : nls ((x :: r).drop k) = nls (x :: r) := by
              unfold nls
              have e : (x :: r).countP (· == 10) = ((x :: r).take k ++ (x :: r).drop k).countP (· == 10) := by rw [List.take_append_drop]
              rw [e, List.countP_append]
              have : ((x :: r).take k).countP (· == 10) = 0 := by
                rw [List.countP_eq_zero]
                intro y hy
                simpa using hk y hy
              omega
            rw [hnl, toks_fuel n (n + 1) t _ (by omega) (by omega)]
            cases toks num n ((x :: r).drop k) line with
            | error l => rfl
            | ok a =>
              simp only
              cases toks num (n + 1) t (line + nls (x :: r) + 1) with
              | error l => rfl
              | ok b => rfl

/-- A word that is found again where a blank stands behind it. -/
def WOK (num : List UInt8 → Bool) (w : List UInt8) : Prop := 1 ≤ w.length ∧ w.length ≤ 20 ∧ ∃ x l, w = x :: l ∧ x ≠ 10 ∧ x ≠ 32 ∧ wordM num (x :: l) = some (x :: l).length
theorem takeWhile_self (p : UInt8 → Bool) : ∀ s : List UInt8, (s.takeWhile p).takeWhile p = s.takeWhile p
  | [] => rfl
  | x :: r => by
    rw [List.takeWhile_cons]
    split
    · rename_i h; rw [List.takeWhile_cons, if_pos h, takeWhile_self p r]
    · rfl
theorem dropWhile_self (p : UInt8 → Bool) : ∀ s : List UInt8, (s.takeWhile p).dropWhile p = []
  | [] => rfl
  | x :: r => by
    rw [List.takeWhile_cons]
    split
    · rename_i h; rw [List.dropWhile_cons, if_pos h, dropWhile_self p r]
    · rfl
theorem wordM_self (hnum : ∀ w, num w = true → ¬ (1 < w.length ∧ w.head? = some 48) → w.length ≤ 20) {x : UInt8} {r : List UInt8} {k : Nat} (h : wordM num (x :: r) = some k) (h1 : x ≠ 10) (h2 : x ≠ 32) : WOK num ((x :: r).take k) := by
  obtain ⟨k1, k2⟩ := wordM_pos h
  have tk : ∀ p : UInt8 → Bool, (x :: r).take ((x :: r).takeWhile p).length = (x :: r).takeWhile p := fun p => (List.prefix_iff_eq_take.1 (List.takeWhile_prefix p)).symm
  rw [wordM_cons] at h
  split at h
  · rename_i hx
    have hp : isPart x = true := by simp [isPart, hx]
    split at h
    · cases h
    · rename_i hle
      simp only [Option.some.injEq] at h; subst h
      rw [tk]
      have e : (x :: r).takeWhile isPart = x :: r.takeWhile isPart := by rw [List.takeWhile_cons, if_pos hp]
      refine ⟨k1, by omega, x, _, e, h1, h2, ?_⟩
      rw [wordM_cons, if_pos hx, ← e, takeWhile_self, if_neg hle]
  · rename_i hx
    split at h
    · rename_i hd
      split at h
      · rename_i hc
        simp only [Option.some.injEq] at h; subst h
        rw [tk]
        have e : (x :: r).takeWhile isDig = x :: r.takeWhile isDig := by rw [List.takeWhile_cons, if_pos hd]
        refine ⟨k1, hnum _ hc.1.1 ?_, x, _, e, h1, h2, ?_⟩
        · have := hc.1.2
          rw [e] at this ⊢
          simpa using this
        · rw [wordM_cons, if_neg hx, if_pos hd, ← e, takeWhile_self, dropWhile_self, if_pos ⟨hc.1, rfl⟩]
      · cases h
    · rename_i hd
      split at h
      · rename_i ht
        simp only [Option.some.injEq] at h; subst h
        cases r with
        | nil => simp at k2
        | cons y r =>
          refine ⟨by simp, by simp, x, [y], by simp, h1, h2, ?_⟩
          rw [wordM_cons, if_neg hx, if_neg hd, if_pos ⟨ht.1, by simpa using ht.2⟩]; rfl
      · split at h
        · rename_i ht hs
          simp only [Option.some.injEq] at h; subst h
          refine ⟨by simp, by simp, x, [], by simp, h1, h2, ?_⟩
          rw [wordM_cons, if_neg hx, if_neg hd, if_neg (fun y => y.1 (by simpa using y.2.symm)), if_pos hs]; rfl
        · cases h
theorem toks_wok (hnum : ∀ w, num w = true → ¬ (1 < w.length ∧ w.head? = some 48) → w.length ≤ 20) : ∀ (n : Nat) (s : List UInt8) (line : Int) (ws : List (List UInt8 × Int)), toks num n s line = .ok ws → ∀ w ∈ ws, WOK num w.1 := by
  intro n
  induction n with
  | zero => intro s line ws h w hw; rw [toks] at h; cases h; cases hw
  | succ n ih =>
    intro s line ws h w hw
    cases s with
    | nil => rw [toks] at h; cases h; cases hw
    | cons x r =>
      rw [toks] at h
      split at h
      · exact ih _ _ _ h w hw
      · split at h
        · exact ih _ _ _ h w hw
        · rename_i h1 h2
          cases hk : wordM num (x :: r) with
          | none => rw [hk] at h; cases h
          | some k =>
            rw [hk] at h
            simp only at h
            cases ht : toks num n ((x :: r).drop k) line with
            | error l => rw [ht] at h; cases h
            | ok a =>
              rw [ht] at h
              cases h
              rcases List.mem_cons.1 hw with rfl | hw
              · exact wordM_self hnum hk h1 h2
              · exact ih _ _ _ ht w hw
def blanks (ws : List (List UInt8)) : List UInt8 := ws.flatMap fun w => w ++ [32]
theorem toks_back : ∀ (ws : List (List UInt8)) (n : Nat) (line : Int), (∀ w ∈ ws, WOK num w) → (blanks ws).length ≤ n → toks num n (blanks ws) line = .ok (ws.map fun w => (w, line))
  | [], n, line, _, _ => toks_nil n line
  | w :: r, n, line, h, hn => by
    obtain ⟨g1, g2, x, l, rfl, h1, h2, hw⟩ := h w (by simp)
    have e : blanks ((x :: l) :: r) = x :: (l ++ 32 :: blanks r) := by simp [blanks]
    rw [e] at hn ⊢
    simp only [List.length_cons, List.length_append] at hn
    cases n with
    | zero => omega
    | succ n =>
      rw [toks, if_neg h1, if_neg h2, wordM_stop (.inr rfl), hw]
      simp only
      have d1 : (x :: (l ++ 32 :: blanks r)).drop (x :: l).length = 32 :: blanks r := by
        rw [← List.cons_append, List.drop_left]
      have d2 : (x :: (l ++ 32 :: blanks r)).take (x :: l).length = x :: l := by
        rw [← List.cons_append, List.take_left]
      rw [d1, d2]
      cases n with
      | zero => omega
      | succ n =>
        rw [toks, if_neg (by decide), if_pos rfl, toks_back r n line (fun w hw => h w (by simp [hw])) (by omega)]
        rfl
theorem blanks_len : ∀ (ws : List (List UInt8)), (∀ w ∈ ws, WOK num w) → (blanks ws).length ≤ ws.length * 21
  | [], _ => by simp [blanks]
  | w :: r, h => by
    have := blanks_len r fun w hw => h w (by simp [hw])
    have h1 := (h w (by simp)).2.1
    have e : (blanks (w :: r)).length = w.length + 1 + (blanks r).length := by
      show ((w ++ [32]) ++ blanks r).length = _
      rw [List.length_append, List.length_append]; rfl
    rw [e, List.length_cons]
    omega
end
end Rb

/- Lists that grow beside other objects; texts held against one another. -/
set_option linter.unusedVariables false
set_option linter.unusedSimpArgs false
namespace Rb
open Go

theorem str_eql (s t : List UInt8) : abin .eql (.str s) (.str t) = some (.bool (s == t)) := rfl
theorem str_neq (s t : List UInt8) : abin .neq (.str s) (.str t) = some (.bool (!(s == t))) := rfl
theorem Lst.app2 {H0 H : AH} {sz bytes len m : Nat} {x y : AV} {cells news : List AV} {K : Post} (h : Lst H0 H sz x len cells) (hy : acells H sz y = some (m, news)) (hn : news.length = m * sz) (hs : news.all AV.scalar = true) (hm : m ≠ 0)
    (hb : (len + m) * bytes ≤ 140737488355328) (hl : len + m ≤ 9223372036854775807) (hK : ∀ x' H', Lst H0 H' sz x' (len + m) (cells ++ news) → (∀ i o, At H i o → (∀ a b, o ≠ .tok a b) → At H' i o) → K x' H') : DoH (aappend H false sz bytes x y) K := by
  obtain ⟨hx, tk, rfl, hc, htk⟩ := h
  have hlen : (cells ++ news).length = (len + m) * sz := by simp [hc, hn, Nat.add_mul]
  rcases htk with ⟨rfl, rfl⟩ | ⟨t, rfl, h1, h2, h3⟩
  · refine ⟨.lst (.own H.n) (0 + m) (cells ++ news), H.push (.tok ((0 + m) * sz) sz), ?_, hK _ _ ⟨hx.trans (AH.Ext.push _ _), _, rfl, hlen, .inr ⟨H.n, rfl, hx.1, Nat.lt_succ_self _, AH.push_self _ _⟩⟩ fun i o ho _ => ho.push _⟩
    simp only [aappend, hy, hs, not_true_eq_false, if_false, if_neg hm]
    rw [if_neg (by simp only [Decidable.not_not]; exact ⟨hc, hb, hl⟩)]
  · refine ⟨.lst (.own H.n) (len + m) (cells ++ news), (H.set t .gone).push (.tok ((len + m) * sz) sz), ?_, hK _ _ ⟨(hx.set h1 _).trans (AH.Ext.push _ _), _, rfl, hlen, .inr ⟨H.n, rfl, hx.1, Nat.lt_succ_self _, AH.push_self _ _⟩⟩ fun i o ho hno => ?_⟩
    · simp only [aappend, hy, hs, not_true_eq_false, if_false, if_neg hm]
      rw [if_neg (by simp only [Decidable.not_not]; exact ⟨hc, hb, hl⟩)]
      simp [h3]
    · exact (ho.set_ne (fun e => by subst e; rw [ho.2] at h3; exact hno _ _ h3) _).push _
theorem Lst.oth {H0 H : AH} {sz len : Nat} {x : AV} {cells : List AV} (h : Lst H0 H sz x len cells) {id : Nat} {cs : List AV} (ha : At H id (.row cs)) (hid : H0.n ≤ id) (y : AObj) : Lst H0 (H.set id y) sz x len cells := by
  obtain ⟨hx, tk, rfl, hc, htk⟩ := h
  refine ⟨hx.set hid y, tk, rfl, hc, ?_⟩
  rcases htk with h | ⟨t, rfl, h1, h2, h3⟩
  · exact .inl h
  · exact .inr ⟨t, rfl, h1, h2, by rw [AH.set_ne _ _ (fun e => by subst e; rw [ha.2] at h3; cases h3)]; exact h3⟩
theorem Lst.psh {H0 H : AH} {sz len : Nat} {x : AV} {cells : List AV} (h : Lst H0 H sz x len cells) (y : AObj) : Lst H0 (H.push y) sz x len cells := by
  obtain ⟨hx, tk, rfl, hc, htk⟩ := h
  refine ⟨hx.trans (AH.Ext.push _ _), tk, rfl, hc, ?_⟩
  rcases htk with h | ⟨t, rfl, h1, h2, h3⟩
  · exact .inl h
  · exact .inr ⟨t, rfl, h1, Nat.lt_succ_of_lt h2, by rw [AH.push_ne _ _ (by omega)]; exact h3⟩

end Rb

/- Package lex: what the program's scanner does. -/
set_option linter.unusedVariables false
set_option linter.unusedSimpArgs false
set_option linter.unusedSectionVars false
namespace Rb
open Go

/-- A word, as it lies in memory. -/
def tokC (w : List UInt8 × Int) : List AV := [.str w.1, .int .i64 w.2]
theorem tokC_len (w : List UInt8 × Int) : (tokC w).length = 2 := rfl
/-- The scanner as it lies in memory. -/
def SCN (H0 H : AH) (id : Nat) (s : List UInt8) (a : Nat) (line : Int) (ws : List (List UInt8 × Int)) : Prop :=
  H0.n ≤ id ∧ ∃ x, At H id (.row [.str s, .int .i64 a, .int .i64 line, x]) ∧ Lst H0 H 2 x ws.length (ws.flatMap tokC) ∧ (ws = [] → x = .lst .nil 0 [])
/-- What strconv.ParseUint gives, as far as the scanner asks. -/
def NumS (Φ : Calls') (num : List UInt8 → Bool) : Prop :=
  ∀ (w : List UInt8) (H : AH) (Q : Post), w.length ≤ 1048576 → (num w = true → ∀ u, Q (.tup [.int .u64 u, .nilif]) H) → (num w = false → ∀ u T, Q (.tup [.int .u64 u, .iface T .bot]) H) → Φ K.strconv_ParseUint [.str w, .int .i64 10, .int .i64 64] H Q
def IdxS (Φ : Calls') : Prop := ∀ (c : UInt8) (H : AH) (Q : Post), (∀ z : Int, (z < 0 ↔ sgn1.contains c = false) → Q (.int .i64 z) H) → Φ K.internal_stringslite_IndexByte [.str sgn1, .int .u8 c.toNat] H Q

section
variable {Φ : Calls'} {H H0 : AH} {Q : Post} {id : Nat} {s : List UInt8} {a : Nat} {line : Int} {ws : List (List UInt8 × Int)}
theorem lex_letter_spec {c : UInt8} (hQ : Q (.bool (isLet c)) H) : S.lex_letter Φ (.int .u8 c.toNat) H Q := by
  have fin : ∀ b : Bool, b = isLet c → Q (.bool b) H := fun b h => by rw [h]; exact hQ
  simp only [S.lex_letter, abin_geq, abin_leq, Do_of, Gd3_true]
  refine ite_both (fun h => fin _ ?_) (fun h => fin _ ?_)
  · have h' : 97 ≤ c.toNat := by simp only [ge_iff_le, decide_eq_true_eq] at h; omega
    rw [Bool.eq_iff_iff]; simp [isLet, h']; omega
  · have h' : ¬ 97 ≤ c.toNat := by simp only [ge_iff_le, decide_eq_true_eq] at h; omega
    simp [isLet, h']
theorem lex_digit_spec {c : UInt8} (hQ : Q (.bool (isDig c)) H) : S.lex_digit Φ (.int .u8 c.toNat) H Q := by
  have fin : ∀ b : Bool, b = isDig c → Q (.bool b) H := fun b h => by rw [h]; exact hQ
  simp only [S.lex_digit, abin_geq, abin_leq, Do_of, Gd3_true]
  refine ite_both (fun h => fin _ ?_) (fun h => fin _ ?_)
  · have h' : 48 ≤ c.toNat := by simp only [ge_iff_le, decide_eq_true_eq] at h; omega
    rw [Bool.eq_iff_iff]; simp [isDig, h']; omega
  · have h' : ¬ 48 ≤ c.toNat := by simp only [ge_iff_le, decide_eq_true_eq] at h; omega
    simp [isDig, h']
theorem lex_part_spec (hT : Cl Φ S.tab_Lex) {c : UInt8} (hQ : Q (.bool (isPart c)) H) : S.lex_part Φ (.int .u8 c.toNat) H Q := by
  have fin : ∀ b : Bool, b = isPart c → Q (.bool b) H := fun b h => by rw [h]; exact hQ
  unfold S.lex_part
  refine S.cl_lex_letter hT (lex_letter_spec ?_)
  have k1 : ∀ b : Bool, (b || decide (c.toNat = 95)) = isPart c → JoinP (S.lex_part_k1 Φ (.int .u8 c.toNat) Q) [.bool b] H := by
    intro b hb
    simp only [JoinP_def, S.lex_part_k1, sl_zero, Gd3_false, abin_eql, Do_of]
    cases b
    · refine fin _ ?_
      rw [← hb, Bool.false_or, Bool.eq_iff_iff]; simp; omega
    · exact fin _ (by rw [← hb]; rfl)
  simp only [Gd3_false]
  refine ite_both (fun h => ?_) (fun h => ?_)
  · refine S.cl_lex_digit hT (lex_digit_spec ?_)
    exact k1 _ (by simp [isPart, h])
  · exact k1 _ (by simp [isPart] at h ⊢; simp [h])

theorem SCN.l0 (h : SCN H0 H id s a line ws) : aload H 1 false (.ptr id 0) = some (.str s) := by obtain ⟨_, x, h, _⟩ := h; rw [h.load]; rfl
theorem SCN.l1 (h : SCN H0 H id s a line ws) : aload H 1 false (.ptr id 1) = some (.int .i64 a) := by obtain ⟨_, x, h, _⟩ := h; rw [h.load]; rfl
theorem SCN.l2 (h : SCN H0 H id s a line ws) : aload H 1 false (.ptr id 2) = some (.int .i64 line) := by obtain ⟨_, x, h, _⟩ := h; rw [h.load]; rfl

theorem lex_run_spec (hT : Cl Φ S.tab_Lex) {p : UInt8 → Bool} {key : Nat} (hp : ∀ (c : UInt8) (R : Post), R (.bool (p c)) H → Φ key [.int .u8 c.toNat] H R) (h : SCN H0 H id s a line ws) (ha : a ≤ s.length) (hl : s.length ≤ 1048576)
    (hQ : Q (.int .i64 (((s.drop a).takeWhile p).length : Nat)) H) : Φ K.lex_scanner_run [.ptr id 0, .fn key []] H Q := by
  refine S.cl_lex_scanner_run hT ?_
  unfold S.lex_scanner_run
  simp only [anilck, afaddr, Do_of, Nat.zero_add, h.l1]
  have main : ∀ (ys : List UInt8) (n : Nat), s.drop n = ys → a ≤ n → n ≤ s.length → n - a + (ys.takeWhile p).length = ((s.drop a).takeWhile p).length → LoopP (S.lex_scanner_run_l4 Φ (.ptr id 0) (.fn key []) Q) ([.int .i64 n], H) := by
    intro ys
    induction ys with
    | nil =>
      intro n hd hn hn2 he
      have hle := drop_nil_le hd
      refine LoopP.step ?_
      simp only [S.lex_scanner_run_l4, sl_zero, anilck, afaddr, Do_of, Nat.zero_add, Nat.add_zero, h.l0, alen_str, abin_lss, Gd3_true]
      rw [if_neg (by simp only [decide_eq_true_eq]; omega)]
      simp only [JoinP_def, S.lex_scanner_run_k3, sl_zero, Gd_true, Bool.false_eq_true, if_false, S.lex_scanner_run_k2, anilck, afaddr, Do_of, Nat.zero_add, h.l1, abin_sub]
      have e : IntKind.wrap .i64 ((n : Int) - a) = (((s.drop a).takeWhile p).length : Nat) := by
        simp at he
        rw [wrap_i64 (by omega) (by omega)]; omega
      rw [e]; exact hQ
    | cons y ys ih =>
      intro n hd hn hn2 he
      obtain ⟨hlt, hy, hd'⟩ := drop_cons_lt hd
      refine LoopP.step ?_
      simp only [S.lex_scanner_run_l4, sl_zero, anilck, afaddr, Do_of, Nat.zero_add, Nat.add_zero, h.l0, alen_str, abin_lss, Gd3_true]
      rw [if_pos (by simp only [decide_eq_true_eq]; omega)]
      have hx : aidxs (.str s) (.int .i64 n) = some (.int .u8 y.toNat) := by
        simp only [aidxs]; rw [if_pos (by omega)]; simp [hy]
      rw [hx]
      simp only [Do_of]
      refine ⟨key, [], rfl, ?_⟩
      rw [List.append_nil]
      refine hp y _ ?_
      simp only [JoinP_def, S.lex_scanner_run_k3, sl_zero, Gd_true]
      rw [List.takeWhile_cons] at he
      refine ite_both (fun hpy => ?_) (fun hpy => ?_)
      · rw [if_pos hpy] at he
        simp only [S.lex_scanner_run_k1, sl_zero, abin_add, Do_of]
        rw [wrap_i64 (by omega) (by omega), show ((n : Int) + 1) = ((n + 1 : Nat) : Int) by simp]
        refine ih (n + 1) hd' (by omega) (by omega) ?_
        simp only [List.length_cons] at he
        omega
      · rw [if_neg hpy] at he
        simp only [S.lex_scanner_run_k2, anilck, afaddr, Do_of, Nat.zero_add, sl_zero, h.l1, abin_sub]
        have e : IntKind.wrap .i64 ((n : Int) - a) = (((s.drop a).takeWhile p).length : Nat) := by
          simp at he
          rw [wrap_i64 (by omega) (by omega)]; omega
        rw [e]; exact hQ
  exact main (s.drop a) a rfl (Nat.le_refl _) ha (by omega)

theorem sslice_str {lo hi : Nat} (h1 : lo ≤ hi) (h2 : hi ≤ s.length) : asslice (.str s) (some (.int .i64 lo)) (some (.int .i64 hi)) = some (.str ((s.take hi).drop lo)) := by
  simp only [asslice, abound]
  rw [if_pos (by omega), if_pos (by omega)]
  simp only
  rw [if_pos ⟨by omega, by omega⟩]
  simp
theorem sslice_end {lo : Nat} (h1 : lo ≤ s.length) : asslice (.str s) (some (.int .i64 lo)) none = some (.str (s.drop lo)) := by
  simp only [asslice, abound]
  rw [if_pos (by omega)]
  simp only
  rw [if_pos ⟨by omega, by omega⟩]
  simp

theorem lex_take_spec (hT : Cl Φ S.tab_Lex) {n : Nat} (h : SCN H0 H id s a line ws) (hn : a + n ≤ s.length) (hl : s.length ≤ 1048576) (hws : ws.length ≤ 1048576)
    (hQ : ∀ H', SCN H0 H' id s (a + n) line (ws ++ [((s.drop a).take n, line)]) → Q (.tup []) H') : Φ K.lex_scanner_take [.ptr id 0, .int .i64 n] H Q := by
  refine S.cl_lex_scanner_take hT ?_
  unfold S.lex_scanner_take
  obtain ⟨hid, x, hat, hlst, hz⟩ := h
  have h' : SCN H0 H id s a line ws := ⟨hid, x, hat, hlst, hz⟩
  have l3 : aload H 1 false (.ptr id 3) = some x := by rw [hat.load]; rfl
  simp only [anilck, afaddr, Do_of, Nat.zero_add, Nat.add_zero, l3, h'.l0, h'.l1, h'.l2, abin_add]
  have e1 : IntKind.wrap .i64 ((a : Int) + n) = ((a + n : Nat) : Int) := by rw [wrap_i64 (by omega) (by omega)]; simp
  rw [e1, sslice_str (by omega) hn]
  have e2 : (s.take (a + n)).drop a = (s.drop a).take n := by rw [List.drop_take]; congr 1; omega
  rw [e2]
  simp only [Do_of]
  rw [show abuild [.str [], .int .i64 0] [(0, 1, .str ((s.drop a).take n)), (1, 1, .int .i64 line)] = some (.agg [.str ((s.drop a).take n), .int .i64 line]) from rfl]
  simp only [Do_of]
  rw [show abslice H false 2 1 [.str [], .int .i64 0] [(0, 2, .agg [.str ((s.drop a).take n), .int .i64 line])] = some (.lst .full 1 [.str ((s.drop a).take n), .int .i64 line], H) from rfl]
  simp only [DoH_some]
  refine hlst.app2 (m := 1) (news := [.str ((s.drop a).take n), .int .i64 line]) rfl rfl rfl (by decide) (by omega) (by omega) fun x' H' hl' hkeep => ?_
  have hat' : At H' id (.row [.str s, .int .i64 a, .int .i64 line, x]) := hkeep id _ hat (fun _ _ => by intro e; cases e)
  have kn : x'.known = true ∧ x'.cells = [x'] ∧ x'.scalar = true := by
    obtain ⟨_, tk, rfl, _⟩ := hl'
    exact ⟨rfl, rfl, rfl⟩
  rw [hat'.store, if_pos ⟨kn.1, by rw [kn.2.1]; rfl, by rw [kn.2.1]; simp [kn.2.2], by simp⟩, kn.2.1]
  simp only [Do_of]
  have e3 : setCells [AV.str s, .int .i64 a, .int .i64 line, x] 3 [x'] = [.str s, .int .i64 a, .int .i64 line, x'] := rfl
  rw [e3]
  have hat2 : At (H'.set id (.row [.str s, .int .i64 a, .int .i64 line, x'])) id (.row [.str s, .int .i64 a, .int .i64 line, x']) := hat'.set _
  have hl2 := hl'.oth hat' hid (.row [.str s, .int .i64 a, .int .i64 line, x'])
  generalize H'.set id (.row [.str s, .int .i64 a, .int .i64 line, x']) = H2 at *
  have l1 : aload H2 1 false (.ptr id 1) = some (.int .i64 a) := by rw [hat2.load]; rfl
  simp only [l1, Do_of, abin_add]
  rw [e1, hat2.store, if_pos ⟨rfl, rfl, rfl, by simp⟩]
  simp only [Do_of]
  refine hQ _ ⟨hid, x', hat2.set _, ?_, fun e => by simp at e⟩
  have hl3 := hl2.oth hat2 hid (.row (setCells [AV.str s, .int .i64 a, .int .i64 line, x'] 1 (AV.int .i64 ((a + n : Nat) : Int)).cells))
  rw [List.length_append, List.length_singleton, List.flatMap_append, List.flatMap_cons, List.flatMap_nil, List.append_nil]
  exact hl3

theorem drop_tw (p : UInt8 → Bool) : ∀ l : List UInt8, l.drop (l.takeWhile p).length = l.dropWhile p
  | [] => rfl
  | x :: r => by
    rw [List.takeWhile_cons, List.dropWhile_cons]
    split
    · rw [List.length_cons, List.drop_succ_cons, drop_tw p r]
    · rfl
/-- What a word at a place gives. -/
theorem lex_word_spec (hT : Cl Φ S.tab_Lex) {num : List UInt8 → Bool} {y : UInt8} {r : List UInt8} (h : SCN H0 H id s a line ws) (hd : s.drop a = y :: r) (hy : isLet y = true) (hl : s.length ≤ 1048576) (hws : ws.length ≤ 1048576)
    (hQ : ∀ H', (match wordM num (y :: r) with | none => SCN H0 H' id s a line ws → Q (.bool false) H' | some k => SCN H0 H' id s (a + k) line (ws ++ [((s.drop a).take k, line)]) → Q (.bool true) H')) : Φ K.lex_scanner_word [.ptr id 0] H Q := by
  refine S.cl_lex_scanner_word hT ?_
  unfold S.lex_scanner_word
  have hlt := (drop_cons_lt hd).1
  refine lex_run_spec hT (p := isPart) (fun c R hR => S.cl_lex_part hT (lex_part_spec hT hR)) h (by omega) hl ?_
  simp only [abin_gtr, Do_of, Gd_true]
  rw [wordM_cons, if_pos hy] at hQ
  rw [hd]
  have hk : ((y :: r).takeWhile isPart).length ≤ (y :: r).length := (List.takeWhile_prefix isPart).length_le
  have hlen : (y :: r).length = s.length - a := by rw [← hd, List.length_drop]
  refine ite_both (fun hg => ?_) (fun hg => ?_)
  · have hg' : 16 < ((y :: r).takeWhile isPart).length := by simp only [decide_eq_true_eq] at hg; omega
    rw [if_pos hg'] at hQ
    exact hQ H h
  · have hg' : ¬ 16 < ((y :: r).takeWhile isPart).length := by simp only [decide_eq_true_eq] at hg; omega
    rw [if_neg hg'] at hQ
    exact lex_take_spec hT h (by omega) hl hws fun H' h' => hQ H' h'

theorem lex_number_spec (hT : Cl Φ S.tab_Lex) {num : List UInt8 → Bool} (hnum : NumS Φ num) {y : UInt8} {r : List UInt8} (h : SCN H0 H id s a line ws) (hd : s.drop a = y :: r) (hy1 : isLet y = false) (hy : isDig y = true) (hl : s.length ≤ 1048576) (hws : ws.length ≤ 1048576)
    (hQ : ∀ H', (match wordM num (y :: r) with | none => SCN H0 H' id s a line ws → Q (.bool false) H' | some k => SCN H0 H' id s (a + k) line (ws ++ [((s.drop a).take k, line)]) → Q (.bool true) H')) : Φ K.lex_scanner_number [.ptr id 0] H Q := by
  refine S.cl_lex_scanner_number hT ?_
  unfold S.lex_scanner_number
  have hlt := (drop_cons_lt hd).1
  refine lex_run_spec hT (p := isDig) (fun c R hR => S.cl_lex_digit hT (lex_digit_spec hR)) h (by omega) hl ?_
  rw [wordM_cons, if_neg (by rw [hy1]; decide), if_pos hy] at hQ
  rw [hd]
  have hk : ((y :: r).takeWhile isDig).length ≤ (y :: r).length := (List.takeWhile_prefix isDig).length_le
  have hk1 : 1 ≤ ((y :: r).takeWhile isDig).length := by rw [List.takeWhile_cons, if_pos hy]; simp
  have hlen : (y :: r).length = s.length - a := by rw [← hd, List.length_drop]
  have hw : (s.take (a + ((y :: r).takeWhile isDig).length)).drop a = (y :: r).takeWhile isDig := by
    rw [List.drop_take, hd, show a + ((y :: r).takeWhile isDig).length - a = ((y :: r).takeWhile isDig).length by omega]
    exact (List.prefix_iff_eq_take.1 (List.takeWhile_prefix isDig)).symm
  have hrest : s.drop (a + ((y :: r).takeWhile isDig).length) = (y :: r).dropWhile isDig := by
    rw [← List.drop_drop, hd]
    exact drop_tw isDig _
  have hfirst : ∃ l, (y :: r).takeWhile isDig = y :: l := ⟨_, by rw [List.takeWhile_cons, if_pos hy]⟩
  generalize hW : (y :: r).takeWhile isDig = W at *
  simp only [anilck, afaddr, Do_of, Nat.zero_add, Nat.add_zero, h.l0, h.l1, abin_add]
  have e1 : IntKind.wrap .i64 ((a : Int) + W.length) = ((a + W.length : Nat) : Int) := by rw [wrap_i64 (by omega) (by omega)]; simp
  rw [e1, sslice_str (by omega) (by omega), hw]
  simp only [Do_of]
  -- behind the number
  have k3 : num W = true → ¬ (1 < W.length ∧ y = 48) → JoinP (S.lex_scanner_number_k3 Φ (.ptr id 0) (.int .i64 W.length) Q) [] H := by
    intro n1 n2
    simp only [JoinP_def, S.lex_scanner_number_k3, anilck, afaddr, Do_of, Nat.zero_add, Nat.add_zero, h.l0, h.l1, abin_add]
    rw [e1, sslice_end (by omega), hrest]
    simp only [Do_of, str_neq, Gd3_true]
    have k2 : ∀ b : Bool, b = !restOk ((y :: r).dropWhile isDig) → JoinP (S.lex_scanner_number_k2 Φ (.ptr id 0) (.int .i64 W.length) Q) [.bool b] H := by
      intro b hb
      simp only [JoinP_def, S.lex_scanner_number_k2, sl_zero, Gd_true]
      refine ite_both (fun hx => ?_) (fun hx => ?_)
      · have hr : restOk ((y :: r).dropWhile isDig) = false := by rw [hx] at hb; simpa using hb.symm
        rw [if_neg (by rw [hr]; simp)] at hQ
        exact hQ H h
      · have hr : restOk ((y :: r).dropWhile isDig) = true := by simp only [Bool.not_eq_true] at hx; rw [hx] at hb; simpa using hb.symm
        rw [if_pos ⟨⟨n1, n2⟩, hr⟩] at hQ
        simp only [S.lex_scanner_number_k1]
        exact lex_take_spec hT h (by omega) hl hws fun H' h' => hQ H' h'
    cases hdw : (y :: r).dropWhile isDig with
    | nil =>
      rw [hdw] at k2
      rw [if_neg (by decide)]
      exact k2 _ rfl
    | cons z l =>
      rw [hdw] at k2
      rw [if_pos (by simp)]
      have hx : aidxs (.str (z :: l)) (.int .i64 0) = some (.int .u8 z.toNat) := by simp [aidxs]
      rw [hx]
      simp only [Do_of]
      refine S.cl_lex_part hT (lex_part_spec hT ?_)
      exact k2 _ (by simp [restOk])
  have k4 : ∀ b : Bool, (b = true ↔ (num W = false ∨ (1 < W.length ∧ y = 48))) → JoinP (S.lex_scanner_number_k4 Φ (.ptr id 0) (.int .i64 W.length) Q) [.bool b] H := by
    intro b hb
    simp only [JoinP_def, S.lex_scanner_number_k4, sl_zero, Gd_true]
    refine ite_both (fun hx => ?_) (fun hx => ?_)
    · have := hb.1 hx
      rw [if_neg (by rintro ⟨⟨h1, h2⟩, _⟩; rcases this with h | h; rw [h1] at h; cases h; exact h2 h)] at hQ
      exact hQ H h
    · have hn : ¬ (num W = false ∨ (1 < W.length ∧ y = 48)) := fun q => hx (hb.2 q)
      exact k3 (by simpa using fun q => hn (.inl q)) fun q => hn (.inr q)
  refine hnum W H _ (by omega) (fun hn u => ?_) (fun hn u T => ?_)
  · simp only [aextract, List.getElem?_cons_zero, List.getElem?_cons_succ, Do_of]
    rw [show anil .i true .nilif = some (.bool false) from rfl]
    simp only [Do_of, Gd3_false, if_true, abin_gtr, Gd3_true]
    refine ite_both (fun hx => ?_) (fun hx => ?_)
    · obtain ⟨l, hWl⟩ := hfirst
      have hx0 : aidxs (.str W) (.int .i64 0) = some (.int .u8 y.toNat) := by rw [hWl]; simp [aidxs]
      rw [hx0]
      simp only [Do_of, abin_eql]
      refine k4 _ ?_
      have h1 : 1 < W.length := by simp only [decide_eq_true_eq] at hx; omega
      have hy48 : ((y.toNat : Int) == 48) = true ↔ y = 48 := by
        simp only [beq_iff_eq]
        constructor
        · intro e
          apply UInt8.toNat_inj.1
          show y.toNat = 48
          omega
        · rintro rfl; rfl
      rw [hy48]
      simp [hn, h1]
    · refine k4 _ ?_
      have h1 : ¬ 1 < W.length := by simp only [decide_eq_true_eq] at hx; omega
      simp [hn, h1]
  · simp only [aextract, List.getElem?_cons_zero, List.getElem?_cons_succ, Do_of]
    rw [show anil .i true (.iface T .bot) = some (.bool true) from rfl]
    simp only [Do_of, Gd3_false]
    rw [if_neg (by decide)]
    exact k4 _ (by simp [hn])

theorem HasPrefix_spec (hT : Cl Φ S.tab_Lex) {t p : List UInt8} (hQ : Q (.bool (decide (t.take p.length = p ∧ p.length ≤ t.length))) H) : Φ K.strings_HasPrefix [.str t, .str p] H Q := by
  have fin : ∀ b : Bool, b = decide (t.take p.length = p ∧ p.length ≤ t.length) → Q (.bool b) H := fun b h => by rw [h]; exact hQ
  refine S.cl_strings_HasPrefix hT ?_
  unfold S.strings_HasPrefix
  refine S.cl_internal_stringslite_HasPrefix hT ?_
  unfold S.internal_stringslite_HasPrefix
  simp only [alen_str, Do_of, abin_geq, Gd3_true]
  refine ite_both (fun h => ?_) (fun h => ?_)
  · have h' : p.length ≤ t.length := by simp only [ge_iff_le, decide_eq_true_eq] at h; omega
    have hs : asslice (.str t) none (some (.int .i64 p.length)) = some (.str (t.take p.length)) := by
      simp only [asslice, abound]
      rw [if_pos (by omega)]
      simp only
      rw [if_pos ⟨by omega, by omega⟩]
      simp
    rw [hs]
    simp only [Do_of, str_eql]
    refine fin _ ?_
    rw [Bool.eq_iff_iff]; simp [h']
  · refine fin _ ?_
    have h' : ¬ p.length ≤ t.length := by simp only [ge_iff_le, decide_eq_true_eq] at h; omega
    simp [h']

theorem lex_sign_spec (hT : Cl Φ S.tab_Lex) (hidx : IdxS Φ) {num : List UInt8 → Bool} {y : UInt8} {r : List UInt8} (h : SCN H0 H id s a line ws) (hd : s.drop a = y :: r) (hy1 : isLet y = false) (hy : isDig y = false) (hl : s.length ≤ 1048576) (hws : ws.length ≤ 1048576)
    (hQ : ∀ H', (match wordM num (y :: r) with | none => SCN H0 H' id s a line ws → Q (.bool false) H' | some k => SCN H0 H' id s (a + k) line (ws ++ [((s.drop a).take k, line)]) → Q (.bool true) H')) : Φ K.lex_scanner_sign [.ptr id 0] H Q := by
  refine S.cl_lex_scanner_sign hT ?_
  have hlt := (drop_cons_lt hd).1
  have hlen : (y :: r).length = s.length - a := by rw [← hd, List.length_drop]
  have hget := (drop_cons_lt hd).2.1
  rw [wordM_cons, if_neg (by rw [hy1]; decide), if_neg (by rw [hy]; decide)] at hQ
  unfold S.lex_scanner_sign
  rw [show abuild [.str [], .str [], .str [], .str []] [(0, 1, .str [60, 60]), (1, 1, .str [62, 62]), (2, 1, .str [61, 61]), (3, 1, .str [33, 61])] = some (.agg [.str [60, 60], .str [62, 62], .str [61, 61], .str [33, 61]]) from rfl]
  simp only [Do_of]
  have k1 : ¬ (two y ≠ none ∧ r.head? = two y) → JoinP (S.lex_scanner_sign_k1 Φ (.ptr id 0) Q) [] H := by
    intro hn
    rw [if_neg hn] at hQ
    simp only [JoinP_def, S.lex_scanner_sign_k1, anilck, afaddr, Do_of, Nat.zero_add, Nat.add_zero, h.l0, h.l1]
    have hx : aidxs (.str s) (.int .i64 a) = some (.int .u8 y.toNat) := by
      simp only [aidxs]; rw [if_pos (by omega)]; simp [hget]
    rw [hx]
    simp only [Do_of]
    refine S.cl_strings_IndexByte hT ?_
    unfold S.strings_IndexByte
    refine hidx y H _ fun z hz => ?_
    simp only [abin_lss, Do_of, Gd_true]
    refine ite_both (fun hx => ?_) (fun hx => ?_)
    · have hc : sgn1.contains y = false := hz.1 (by simpa using hx)
      rw [if_neg (by rw [hc]; decide)] at hQ
      exact hQ H h
    · have hc : sgn1.contains y = true := by
        cases hcc : sgn1.contains y with
        | true => rfl
        | false => exact absurd (hz.2 hcc) (by simpa using hx)
      rw [if_pos hc] at hQ
      refine lex_take_spec hT (n := 1) h (by simp at hlen; omega) hl hws fun H' h' => hQ H' h'
  -- one of the four
  have two_pre : ∀ (p q : UInt8) (b : Bool), b = decide ((y :: r).take 2 = [p, q] ∧ 2 ≤ (y :: r).length) → (b = true ↔ (y = p ∧ r.head? = some q)) := by
    intro p q b hb
    rw [hb]
    cases r with
    | nil => simp
    | cons z l => simp
  have step : ∀ (i : Nat) (p q : UInt8) (tl : Prop), i < 4 → aidx 4 1 false (.agg [.str [60, 60], .str [62, 62], .str [61, 61], .str [33, 61]]) (.int .i64 i) = some (.str [p, q]) → two p = some q →
      ((¬ (y = p ∧ r.head? = some q)) → LoopP (S.lex_scanner_sign_l2 Φ (.ptr id 0) (.agg [.str [60, 60], .str [62, 62], .str [61, 61], .str [33, 61]]) Q) ([.int .i64 ((i + 1 : Nat) : Int)], H)) →
      LoopP (S.lex_scanner_sign_l2 Φ (.ptr id 0) (.agg [.str [60, 60], .str [62, 62], .str [61, 61], .str [33, 61]]) Q) ([.int .i64 i], H) := by
    intro i p q _ hi hget2 htwo hnext
    refine LoopP.step ?_
    simp only [S.lex_scanner_sign_l2, sl_zero, abin_lss, Do_of, Gd_true]
    rw [if_pos (by simp only [decide_eq_true_eq]; omega), hget2]
    simp only [anilck, afaddr, Do_of, Nat.zero_add, Nat.add_zero, h.l0, h.l1]
    rw [sslice_end (by omega), hd]
    simp only [Do_of]
    refine HasPrefix_spec hT ?_
    have hb := two_pre p q _ rfl
    simp only [List.length_cons, List.length_nil, Nat.zero_add, Nat.reduceAdd, Gd_true]
    refine ite_both (fun hx => ?_) (fun hx => ?_)
    · obtain ⟨rfl, hr⟩ := hb.1 hx
      rw [if_pos ⟨by rw [htwo]; simp, by rw [htwo]; exact hr⟩] at hQ
      simp only [alen_str, Do_of, List.length_cons, List.length_nil, Nat.zero_add, Nat.reduceAdd]
      have h2 : 2 ≤ (y :: r).length := by
        cases r with
        | nil => cases hr
        | cons z l => simp
      exact lex_take_spec hT (n := 2) h (by omega) hl hws fun H' h' => hQ H' h'
    · simp only [abin_add, Do_of]
      rw [wrap_i64 (by omega) (by omega), show ((i : Int) + 1) = ((i + 1 : Nat) : Int) by simp]
      exact hnext fun q => hx (hb.2 q)
  refine step 0 60 60 True (by omega) rfl rfl fun n0 => ?_
  refine step 1 62 62 True (by omega) rfl rfl fun n1 => ?_
  refine step 2 61 61 True (by omega) rfl rfl fun n2 => ?_
  refine step 3 33 61 True (by omega) rfl rfl fun n3 => ?_
  refine LoopP.step ?_
  simp only [S.lex_scanner_sign_l2, sl_zero, abin_lss, Do_of, Gd_true]
  rw [if_neg (by decide)]
  refine k1 fun ⟨q1, q2⟩ => ?_
  unfold two at q1 q2
  split at q2
  · rename_i e; exact n0 ⟨e, q2⟩
  · split at q2
    · rename_i e; exact n1 ⟨e, q2⟩
    · split at q2
      · rename_i e; exact n2 ⟨e, q2⟩
      · split at q2
        · rename_i e; exact n3 ⟨e, q2⟩
        · rename_i e0 e1 e2 e3
          rw [if_neg e0, if_neg e1, if_neg e2, if_neg e3] at q1
          exact q1 rfl
end
end Rb

/- Package lex: the words of a text. -/
set_option linter.unusedVariables false
set_option linter.unusedSimpArgs false
set_option linter.unusedSectionVars false
namespace Rb
open Go

section
variable {Φ : Calls'} {H H0 : AH} {Q : Post} {id : Nat} {s : List UInt8} {a : Nat} {line : Int} {ws : List (List UInt8 × Int)}
theorem SCN.move (h : SCN H0 H id s a line ws) (a' : Nat) : ∃ H', astore H 1 (.ptr id 1) (.int .i64 (a' : Int)) = some H' ∧ SCN H0 H' id s a' line ws := by
  obtain ⟨hid, x, hat, hl, hz⟩ := h
  refine ⟨_, by rw [hat.store, if_pos ⟨rfl, rfl, rfl, by simp⟩]; rfl, hid, x, hat.set _, hl.oth hat hid _, hz⟩
theorem SCN.newline (h : SCN H0 H id s a line ws) (l' : Int) : ∃ H', astore H 1 (.ptr id 2) (.int .i64 l') = some H' ∧ SCN H0 H' id s a l' ws := by
  obtain ⟨hid, x, hat, hl, hz⟩ := h
  refine ⟨_, by rw [hat.store, if_pos ⟨rfl, rfl, rfl, by simp⟩]; rfl, hid, x, hat.set _, hl.oth hat hid _, hz⟩

theorem lex_next_spec (hT : Cl Φ S.tab_Lex) {num : List UInt8 → Bool} (hnum : NumS Φ num) (hidx : IdxS Φ) {y : UInt8} {r : List UInt8} (h : SCN H0 H id s a line ws) (hd : s.drop a = y :: r) (hl : s.length ≤ 1048576) (hws : ws.length ≤ 1048576) (hl0 : 0 ≤ line) (hl1 : line ≤ 2000000)
    (hQ : ∀ H', if y = 10 then (SCN H0 H' id s (a + 1) (line + 1) ws → Q (.bool true) H') else if y = 32 then (SCN H0 H' id s (a + 1) line ws → Q (.bool true) H')
      else (match wordM num (y :: r) with | none => SCN H0 H' id s a line ws → Q (.bool false) H' | some k => SCN H0 H' id s (a + k) line (ws ++ [((s.drop a).take k, line)]) → Q (.bool true) H')) : Φ K.lex_scanner_next [.ptr id 0] H Q := by
  refine S.cl_lex_scanner_next hT ?_
  have hlt := (drop_cons_lt hd).1
  have hget := (drop_cons_lt hd).2.1
  unfold S.lex_scanner_next
  simp only [anilck, afaddr, Do_of, Nat.zero_add, Nat.add_zero, h.l0, h.l1, h.l2, abin_add]
  have hx : aidxs (.str s) (.int .i64 a) = some (.int .u8 y.toNat) := by
    simp only [aidxs]; rw [if_pos (by omega)]; simp [hget]
  have e1 : IntKind.wrap .i64 ((a : Int) + 1) = ((a + 1 : Nat) : Int) := by rw [wrap_i64 (by omega) (by omega)]; simp
  have e2 : IntKind.wrap .i64 (line + 1) = line + 1 := wrap_i64 (by omega) (by omega)
  have hyn : ∀ n : Nat, n < 256 → (((y.toNat : Int) == (n : Int)) = true ↔ y = UInt8.ofNat n) := by
    intro n hn
    simp only [beq_iff_eq]
    constructor
    · intro e
      apply UInt8.toNat_inj.1
      rw [UInt8.toNat_ofNat']
      omega
    · rintro rfl
      rw [UInt8.toNat_ofNat']
      omega
  rw [hx]
  simp only [Do_of, abin_eql, Gd_true]
  refine ite_both (fun h10 => ?_) (fun h10 => ?_)
  · have hy : y = 10 := (hyn 10 (by omega)).1 h10
    rw [e2]
    obtain ⟨H1, q1, s1⟩ := h.newline (line + 1)
    rw [q1]
    simp only [Do_of, s1.l1, abin_add, e1]
    obtain ⟨H2, q2, s2⟩ := s1.move (a + 1)
    rw [q2]
    simp only [Do_of]
    have := hQ H2
    rw [if_pos hy] at this
    exact this s2
  · have hy10 : y ≠ 10 := fun e => h10 ((hyn 10 (by omega)).2 e)
    refine ite_both (fun h32 => ?_) (fun h32 => ?_)
    · have hy : y = 32 := (hyn 32 (by omega)).1 h32
      rw [e1]
      obtain ⟨H2, q2, s2⟩ := h.move (a + 1)
      rw [q2]
      simp only [Do_of]
      have := hQ H2
      rw [if_neg hy10, if_pos hy] at this
      exact this s2
    · have hy32 : y ≠ 32 := fun e => h32 ((hyn 32 (by omega)).2 e)
      have hQ' : ∀ H', (match wordM num (y :: r) with | none => SCN H0 H' id s a line ws → Q (.bool false) H' | some k => SCN H0 H' id s (a + k) line (ws ++ [((s.drop a).take k, line)]) → Q (.bool true) H') := fun H' => by
        have := hQ H'
        rw [if_neg hy10, if_neg hy32] at this
        exact this
      refine S.cl_lex_letter hT (lex_letter_spec ?_)
      simp only [Gd_true]
      refine ite_both (fun hlet => ?_) (fun hlet => ?_)
      · exact lex_word_spec hT h hd hlet hl hws hQ'
      · refine S.cl_lex_digit hT (lex_digit_spec ?_)
        simp only [Gd_true]
        refine ite_both (fun hdig => ?_) (fun hdig => ?_)
        · exact lex_number_spec hT hnum h hd (by simpa using hlet) hdig hl hws hQ'
        · exact lex_sign_spec hT hidx h hd (by simpa using hlet) (by simpa using hdig) hl hws hQ'

/-- The words of a text, or the fault. -/
def lexM (num : List UInt8 → Bool) (s : List UInt8) : Except (Int × Int) (List (List UInt8 × Int)) :=
  if 1048576 < s.length then .error (0, 12) else match toks num s.length s 1 with
    | .ok ws => .ok ws
    | .error l => .error (l, 3)
def lexV : Except (Int × Int) (List (List UInt8 × Int)) → AV
  | .ok ws => .tup [lstA tokC ws, .agg [.int .i64 0, .int .i64 0]]
  | .error e => .tup [.lst .dead 0 [], .agg [.int .i64 e.1, .int .i64 e.2]]
/-- As the program tells it: without words there is no list. -/
def lexV2 : Except (Int × Int) (List (List UInt8 × Int)) → AV
  | .ok [] => .tup [.lst .nil 0 [], .agg [.int .i64 0, .int .i64 0]]
  | r => lexV r
theorem tokC_weak (ws : List (List UInt8 × Int)) : AV.weaks (ws.flatMap tokC) = ws.flatMap tokC := by
  rw [weaks_map]
  induction ws with
  | nil => rfl
  | cons w r ih => rw [List.flatMap_cons, List.map_append, ih]; rfl
theorem tokC_froz (w : List UInt8 × Int) : AV.frozs (tokC w) = true := rfl
theorem lexV_froz (r : Except (Int × Int) (List (List UInt8 × Int))) : (lexV r).froz = true := by
  cases r with
  | ok ws => simp only [lexV, AV.froz, AV.frozs, lstA_froz tokC_froz, Bool.and_self]
  | error e => rfl

theorem lex_Tokens_spec (hT : Cl Φ S.tab_Lex) {num : List UInt8 → Bool} (hnum : NumS Φ num) (hidx : IdxS Φ) (hQ : ∀ (v : AV) H', v.weak = lexV (lexM num s) → (lexM num s = .ok [] → v = .tup [.lst .nil 0 [], .agg [.int .i64 0, .int .i64 0]]) → Q v H') : S.lex_Tokens Φ (.str s) H Q := by
  unfold S.lex_Tokens
  simp only [abox, if_true, DoH_some, alen_str, Do_of, abin_gtr, Gd_true]
  have at1 := At.new H (.row [.int .i64 0, .int .i64 0])
  generalize H.push (.row [.int .i64 0, .int .i64 0]) = H2 at *
  generalize H.n = id1 at *
  have out : ∀ (x : AV) (p q : Int) (H1 : AH), At H1 id1 (.row [.int .i64 0, .int .i64 0]) → (AV.tup [x, .agg [.int .i64 p, .int .i64 q]]).weak = lexV (lexM num s) → (lexM num s = .ok [] → AV.tup [x, .agg [.int .i64 p, .int .i64 q]] = .tup [.lst .nil 0 [], .agg [.int .i64 0, .int .i64 0]]) → Do (astore H1 2 (.ptr id1 0) (.agg [.int .i64 p, .int .i64 q])) fun H33 => Do (aload H33 2 true (.ptr id1 0)) fun x34 => Q (.tup [x, x34]) H33 := by
    intro x p q H1 ha he hz
    rw [ha.store, if_pos ⟨rfl, rfl, rfl, by simp [AV.cells]⟩]
    simp only [Do_of]
    rw [(ha.set _).load]
    rw [show takeCells (setCells [AV.int .i64 0, .int .i64 0] 0 (AV.agg [.int .i64 p, .int .i64 q]).cells) 0 2 true = some (.agg [.int .i64 p, .int .i64 q]) from rfl]
    simp only [Do_of]
    exact hQ _ _ he hz
  refine ite_both (fun hg => ?_) (fun hg => ?_)
  · have hg' : 1048576 < s.length := by simp only [decide_eq_true_eq] at hg; omega
    rw [show abuild [.int .i64 0, .int .i64 0] [(1, 1, .int .i64 12)] = some (.agg [.int .i64 0, .int .i64 12]) from rfl]
    simp only [Do_of]
    refine out _ 0 12 H2 at1 ?_ ?_
    · unfold lexM
      rw [if_pos hg']; rfl
    · unfold lexM
      rw [if_pos hg']; intro e; cases e
  · have hl : s.length ≤ 1048576 := by simp only [decide_eq_true_eq] at hg; omega
    have hM : lexM num s = match toks num s.length s 1 with | .ok ws => .ok ws | .error l => .error (l, 3) := by unfold lexM; rw [if_neg (by omega)]
    rw [show abuild [.str [], .int .i64 0, .int .i64 0, .lst .nil 0 []] [(0, 1, .str s), (2, 1, .int .i64 1)] = some (.agg [.str s, .int .i64 0, .int .i64 1, .lst .nil 0 []]) from rfl]
    simp only [Do_of]
    have hb : aboxv H2 true 4 (.agg [.str s, .int .i64 0, .int .i64 1, .lst .nil 0 []]) = some (.ptr H2.n 0, H2.push (.row [.str s, .int .i64 0, .int .i64 1, .lst .nil 0 []])) := by unfold aboxv; rw [if_pos ⟨rfl, rfl⟩]; rfl
    rw [hb]
    simp only [DoH_some]
    have sc0 : SCN H2 (H2.push (.row [.str s, .int .i64 0, .int .i64 1, .lst .nil 0 []])) H2.n s 0 1 [] := ⟨Nat.le_refl _, .lst .nil 0 [], At.new H2 _, (Lst.nil H2 2).psh _, fun _ => rfl⟩
    generalize H2.push (.row [.str s, .int .i64 0, .int .i64 1, .lst .nil 0 []]) = H10 at *
    generalize hid : H2.n = id at *
    have keep1 : ∀ {H1 : AH} {a : Nat} {line : Int} {ws}, SCN H2 H1 id s a line ws → At H1 id1 (.row [.int .i64 0, .int .i64 0]) := fun h => by
      obtain ⟨_, x, _, hl, _⟩ := h
      exact at1.ext hl.1
    have main : ∀ (n a : Nat) (line : Int) (ws : List (List UInt8 × Int)) (H1 : AH), s.length - a ≤ n → a ≤ s.length → ws.length ≤ a → 1 ≤ line → line ≤ a + 1 → SCN H2 H1 id s a line ws →
        (match toks num n (s.drop a) line with | .error l => toks num s.length s 1 = .error l | .ok r => toks num s.length s 1 = .ok (ws ++ r)) →
        LoopP (S.lex_Tokens_l2 Φ (.str s) (.ptr id1 0) (.ptr id 0) Q) ([], H1) := by
      intro n
      induction n with
      | zero =>
        intro a line ws H1 hn ha hw hl1 hl2 hsc hfin
        have hd : s.drop a = [] := List.drop_eq_nil_of_le (by omega)
        rw [hd, toks_nil] at hfin
        simp only [List.append_nil] at hfin
        refine LoopP.step ?_
        simp only [S.lex_Tokens_l2, anilck, afaddr, Do_of, Nat.zero_add, hsc.l1, alen_str, abin_lss, Gd_true]
        rw [if_neg (by simp only [decide_eq_true_eq]; omega)]
        simp only [JoinP_def, S.lex_Tokens_k1, anilck, afaddr, Do_of, Nat.zero_add]
        obtain ⟨hid', x, hat, hlst, hz⟩ := hsc
        have l3 : aload H1 1 false (.ptr id 3) = some x := by rw [hat.load]; rfl
        rw [l3]
        simp only [Do_of]
        rw [show abuild [.int .i64 0, .int .i64 0] [] = some (.agg [.int .i64 0, .int .i64 0]) from rfl]
        simp only [Do_of]
        refine out x 0 0 H1 (at1.ext hlst.1) ?_ ?_
        · rw [hM, hfin]
          obtain ⟨_, tk, rfl, _⟩ := hlst
          simp only [AV.weak, AV.weaks, tokC_weak, lexV, lstA]
        · rw [hM, hfin]
          intro e
          rw [hz (by injection e)]
      | succ n ih =>
        intro a line ws H1 hn ha hw hl1 hl2 hsc hfin
        by_cases hend : a = s.length
        · have hd : s.drop a = [] := List.drop_eq_nil_of_le (by omega)
          rw [hd, toks_nil] at hfin
          refine ih a line ws H1 (by omega) ha hw hl1 hl2 hsc ?_
          rw [hd, toks_nil]; exact hfin
        · have hlt : a < s.length := by omega
          obtain ⟨y, r, hd⟩ : ∃ y r, s.drop a = y :: r := by
            cases hc : s.drop a with
            | nil => rw [List.drop_eq_nil_iff] at hc; omega
            | cons y r => exact ⟨y, r, rfl⟩
          have hd' := (drop_cons_lt hd).2.2
          have hrl : r.length = s.length - (a + 1) := by rw [← hd', List.length_drop]
          rw [hd, toks] at hfin
          refine LoopP.step ?_
          simp only [S.lex_Tokens_l2, anilck, afaddr, Do_of, Nat.zero_add, hsc.l1, alen_str, abin_lss, Gd_true]
          rw [if_pos (by simp only [decide_eq_true_eq]; omega)]
          refine lex_next_spec hT hnum hidx hsc hd hl (by omega) (by omega) (by omega) fun H3 => ?_
          by_cases h10 : y = 10
          · rw [if_pos h10]
            rw [if_pos h10] at hfin
            intro s3
            simp only [aun_not, Do_of, Bool.not_true, Gd_true, Bool.false_eq_true, if_false]
            refine ih (a + 1) (line + 1) ws H3 (by omega) (by omega) (by omega) (by omega) (by omega) s3 ?_
            rw [hd']; exact hfin
          · rw [if_neg h10]
            rw [if_neg h10] at hfin
            by_cases h32 : y = 32
            · rw [if_pos h32]
              rw [if_pos h32] at hfin
              intro s3
              simp only [aun_not, Do_of, Bool.not_true, Gd_true, Bool.false_eq_true, if_false]
              refine ih (a + 1) line ws H3 (by omega) (by omega) (by omega) (by omega) (by omega) s3 ?_
              rw [hd']; exact hfin
            · rw [if_neg h32]
              rw [if_neg h32] at hfin
              cases hw2 : wordM num (y :: r) with
              | none =>
                rw [hw2] at hfin
                simp only at hfin
                intro s3
                simp only [aun_not, Do_of, Bool.not_false, Gd_true, if_true, anilck, afaddr, Nat.zero_add, s3.l2]
                rw [show abuild [.int .i64 0, .int .i64 0] [(0, 1, .int .i64 line), (1, 1, .int .i64 3)] = some (.agg [.int .i64 line, .int .i64 3]) from rfl]
                simp only [Do_of]
                refine out _ line 3 H3 (keep1 s3) ?_ ?_
                · rw [hM, hfin]; rfl
                · rw [hM, hfin]; intro e; cases e
              | some k =>
                rw [hw2] at hfin
                obtain ⟨k1, k2⟩ := wordM_pos hw2
                simp only [List.length_cons] at k2
                intro s3
                simp only [aun_not, Do_of, Bool.not_true, Gd_true, Bool.false_eq_true, if_false]
                refine ih (a + k) line _ H3 (by omega) (by omega) (by rw [List.length_append, List.length_singleton]; omega) hl1 (by omega) s3 ?_
                have hdk : s.drop (a + k) = (y :: r).drop k := by rw [← hd, List.drop_drop]
                rw [hdk, hd]
                simp only at hfin
                cases ht : toks num n ((y :: r).drop k) line with
                | error l => rw [ht] at hfin; exact hfin
                | ok r2 => rw [ht] at hfin; simp only at hfin ⊢; rw [hfin]; simp
    refine main s.length 0 1 [] H10 (by omega) (by omega) (by simp) (by omega) (by omega) sc0 ?_
    rw [List.drop_zero]
    cases toks num s.length s 1 with
    | error l => rfl
    | ok r => rfl
end

section
variable {C : Ctx} (hGT : GTok C) (hT : Cl (ACall C) S.tab_Lex) {num : List UInt8 → Bool} (hnum : NumS (ACall C) num) (hidx : IdxS (ACall C))
include hGT hT hnum hidx
theorem Tokens_val (s : List UInt8) : Val (ACall C) K.lex_Tokens [.str s] (lexV (lexM num s)) :=
  Val.of hGT rfl (lexV_froz _) fun Q hQ => ACall.weak (S.cl_lex_Tokens hT (lex_Tokens_spec hT hnum hidx fun v H' hv _ => by rw [hv]; exact hQ H'))
/-- A text without words: the list is none. -/
theorem Tokens_val2 (s : List UInt8) : Val (ACall C) K.lex_Tokens [.str s] (lexV2 (lexM num s)) := by
  cases h : lexM num s with
  | error e =>
    have := Tokens_val hGT hT hnum hidx s
    rw [h] at this; exact this
  | ok ws =>
    cases ws with
    | nil => exact Val.of hGT rfl rfl fun Q hQ => S.cl_lex_Tokens hT (lex_Tokens_spec hT hnum hidx fun v H' hv hz => by rw [hz h]; exact hQ H')
    | cons w r =>
      have := Tokens_val hGT hT hnum hidx s
      rw [h] at this; exact this
end
end Rb

/- The lexer: plain facts; how tokens are read. -/
set_option linter.unusedVariables false
set_option linter.unusedSimpArgs false
set_option linter.unusedSectionVars false
namespace Rb
open Go

section
variable {num : List UInt8 → Bool}
theorem lexM_err {s : List UInt8} {e : Int × Int} (h : lexM num s = .error e) : e.2 ≠ 0 := by
  unfold lexM at h
  split at h
  · cases h; decide
  · split at h
    · cases h
    · cases h; exact (by decide : (3 : Int) ≠ 0)
theorem lexM_small {s : List UInt8} (h : s.length ≤ 1048576) : lexM num s = match toks num s.length s 1 with | .ok ws => .ok ws | .error l => .error (l, 3) := by
  unfold lexM; rw [if_neg (by omega)]; all_goals (cases toks num s.length s 1 <;> rfl)
theorem lexM_ok {s : List UInt8} {ws : List (List UInt8 × Int)} (h : lexM num s = .ok ws) : toks num s.length s 1 = .ok ws := by
  unfold lexM at h
  split at h
  · cases h
  · split at h
    · rename_i h2; cases h; exact h2
    · cases h
theorem toks_lines : ∀ (n : Nat) (s : List UInt8) (line : Int) (ws : List (List UInt8 × Int)), toks num n s line = .ok ws → ∀ w ∈ ws, line ≤ w.2 ∧ w.2 ≤ line + s.length := by
  intro n
  induction n with
  | zero => intro s line ws h w hw; rw [toks] at h; cases h; cases hw
  | succ n ih =>
    intro s line ws h w hw
    cases s with
    | nil => rw [toks] at h; cases h; cases hw
    | cons x r =>
      rw [toks] at h
      split at h
      · have := ih _ _ _ h w hw
        simp only [List.length_cons]; omega
      · split at h
        · have := ih _ _ _ h w hw
          simp only [List.length_cons]; omega
        · cases hk : wordM num (x :: r) with
          | none => rw [hk] at h; cases h
          | some k =>
            rw [hk] at h
            simp only at h
            cases ht : toks num n ((x :: r).drop k) line with
            | error l => rw [ht] at h; cases h
            | ok a =>
              rw [ht] at h
              cases h
              rcases List.mem_cons.1 hw with rfl | hw
              · exact ⟨Int.le_refl _, by simp only [List.length_cons]; omega⟩
              · have h1 := ih _ _ _ ht w hw
                have h2 : ((x :: r).drop k).length ≤ (x :: r).length := by rw [List.length_drop]; omega
                omega

theorem toks_count : ∀ {n : Nat} {s : List UInt8} {line : Int} {ws : List (List UInt8 × Int)}, toks num n s line = .ok ws → ws.length ≤ s.length := by
  intro n
  induction n with
  | zero => intro s line ws h; rw [toks] at h; cases h; simp
  | succ n ih =>
    intro s line ws h
    cases s with
    | nil => rw [toks] at h; cases h; simp
    | cons x r =>
      rw [toks] at h
      split at h
      · have := ih h
        simp only [List.length_cons]; omega
      · split at h
        · have := ih h
          simp only [List.length_cons]; omega
        · cases hk : wordM num (x :: r) with
          | none => rw [hk] at h; cases h
          | some k =>
            obtain ⟨k1, k2⟩ := wordM_pos hk
            rw [hk] at h
            simp only at h
            cases ht : toks num n ((x :: r).drop k) line with
            | error l => rw [ht] at h; cases h
            | ok a =>
              rw [ht] at h
              cases h
              have h1 := ih ht
              rw [List.length_drop] at h1
              simp only [List.length_cons] at h1 ⊢
              omega

/-- One text, and then another one. -/
theorem joins_law {s t : List UInt8} (h : s.length + t.length ≤ 100000) :
    (match lexM num s, lexM num t with
      | .ok a, .ok b => lexM num (s ++ 10 :: t) = .ok (a ++ b.map fun w => (w.1, w.2 + (1 + nls s)))
      | _, _ => ∃ e, lexM num (s ++ 10 :: t) = .error e) := by
  have hl : (s ++ 10 :: t).length = s.length + 1 + t.length := by rw [List.length_append, List.length_cons]; omega
  rw [lexM_small (s := s) (by omega), lexM_small (s := t) (by omega), lexM_small (s := s ++ 10 :: t) (by omega), hl]
  rw [toks_app t (s.length + 1 + t.length) s 1 (Nat.le_refl _)]
  rw [toks_fuel (s.length + 1 + t.length) s.length s 1 (by omega) (Nat.le_refl _), toks_fuel (s.length + 1 + t.length) t.length t (1 + nls s + 1) (by omega) (Nat.le_refl _)]
  have hs : (1 : Int) + nls s + 1 = 1 + (1 + nls s) := by omega
  rw [hs, toks_shift]
  cases toks num s.length s 1 with
  | error l => exact ⟨_, rfl⟩
  | ok a =>
    cases toks num t.length t 1 with
    | error l => exact ⟨_, rfl⟩
    | ok b => rfl
end

theorem tok_text (H : AH) {ws : List (List UInt8 × Int)} {i : Nat} {w : List UInt8 × Int} (hi : ws[i]? = some w) : aload H 1 false (.fptr (((ws.flatMap tokC).drop (i * 2)).drop 0)) = some (.str w.1) := by
  have hlt := (List.getElem?_eq_some_iff.1 hi).1
  show takeCells _ 0 1 false = _
  rw [List.drop_zero, flatMap_drop tokC_len]
  have hd : ws.drop i = w :: ws.drop (i + 1) := by
    rw [List.drop_eq_getElem_cons hlt]
    rw [List.getElem?_eq_getElem hlt] at hi
    simp at hi
    rw [hi]
  rw [hd, List.flatMap_cons]
  rfl
theorem tok_line (H : AH) {ws : List (List UInt8 × Int)} {i : Nat} {w : List UInt8 × Int} (hi : ws[i]? = some w) : aload H 1 false (.fptr (((ws.flatMap tokC).drop (i * 2)).drop 1)) = some (.int .i64 w.2) := by
  have hlt := (List.getElem?_eq_some_iff.1 hi).1
  show takeCells _ 0 1 false = _
  rw [flatMap_drop tokC_len]
  have hd : ws.drop i = w :: ws.drop (i + 1) := by
    rw [List.drop_eq_getElem_cons hlt]
    rw [List.getElem?_eq_getElem hlt] at hi
    simp at hi
    rw [hi]
  rw [hd, List.flatMap_cons]
  rfl
theorem str_add {s t : List UInt8} (h : s.length + t.length ≤ 9223372036854775807) : abin .add (.str s) (.str t) = some (.str (s ++ t)) := by
  show abinStr .add s t = _
  unfold abinStr
  rw [if_pos h]
end Rb

/- Numbers in digits: how long they may be; where a byte stands. -/
set_option linter.unusedVariables false
set_option linter.unusedSimpArgs false
namespace Rb
open Go

/-- Is a text a number of 64 bits? -/
def numX (w : List UInt8) : Bool := match Go.Lib.parseUintB 64 w with
  | .ok _ => true
  | _ => false
theorem parseM_len : ∀ (l : List UInt8) (acc k v : Nat), 10 ^ k ≤ acc → acc ≤ 18446744073709551615 → Go.Lib.parseUintM 18446744073709551615 acc l = .ok v → l.length + k ≤ 19
  | [], acc, k, v, h1, h2, _ => by
    simp only [List.length_nil, Nat.zero_add]
    by_cases hk : k ≤ 19
    · exact hk
    · have : 10 ^ 20 ≤ 10 ^ k := Nat.pow_le_pow_right (by omega) (by omega)
      omega
  | c :: r, acc, k, v, h1, h2, h => by
    unfold Go.Lib.parseUintM at h
    split at h
    · split at h
      · cases h
      · rename_i hc hacc
        split at h
        · cases h
        · rename_i hm
          have h3 : 10 ^ (k + 1) ≤ acc * 10 + (c.toNat - 48) := by rw [Nat.pow_succ]; omega
          have := parseM_len r _ (k + 1) v h3 (by omega) h
          simp only [List.length_cons]
          omega
    · cases h
theorem numX_len (w : List UInt8) (h : numX w = true) (h0 : ¬ (1 < w.length ∧ w.head? = some 48)) : w.length ≤ 20 := by
  unfold numX Go.Lib.parseUintB at h
  split at h
  · rename_i v hv
    split at hv
    · cases hv
    · cases w with
      | nil => simp
      | cons c r =>
        by_cases hr : r = []
        · subst hr; simp
        · have hc : c ≠ 48 := by
            intro e
            subst e
            refine h0 ⟨?_, rfl⟩
            cases r with
            | nil => exact absurd rfl hr
            | cons _ _ => simp
          unfold Go.Lib.parseUintM at hv
          split at hv
          · rename_i hd
            split at hv
            · cases hv
            · split at hv
              · cases hv
              · have hcn : c.toNat ≠ 48 := fun e => hc (UInt8.toNat_inj.1 e)
                have := parseM_len r _ 0 v (by simp; omega) (by omega) hv
                simp only [List.length_cons]
                omega
          · cases hv
  · cases h
theorem indexByte_neg : ∀ (l : List UInt8) (c : UInt8), -1 ≤ Go.Lib.indexByte l c ∧ (Go.Lib.indexByte l c < 0 ↔ l.contains c = false)
  | [], c => by simp [Go.Lib.indexByte]
  | b :: l, c => by
    obtain ⟨h1, h2⟩ := indexByte_neg l c
    unfold Go.Lib.indexByte
    rw [List.contains_cons]
    by_cases hb : (b == c) = true
    · rw [if_pos hb]
      have : (c == b) = true := by rw [beq_iff_eq] at hb ⊢; exact hb.symm
      rw [this]; simp
    · rw [if_neg hb]
      have hcb : (c == b) = false := by
        simp only [Bool.not_eq_true, beq_eq_false_iff_ne, ne_eq] at hb ⊢
        exact fun e => hb e.symm
      rw [hcb, Bool.false_or, ← h2]
      split
      · rename_i he
        have : Go.Lib.indexByte l c = -1 := by simpa using he
        rw [this]; decide
      · rename_i he
        have : Go.Lib.indexByte l c ≠ -1 := by simpa using he
        omega
end Rb

/- Package parse: a model of the parser; its words. -/
set_option linter.unusedVariables false
set_option linter.unusedSimpArgs false
set_option linter.unusedSectionVars false
namespace Rb
open Go

/-- What the parser keeps: the words that are left, the fault. -/
structure PSt where
  toks : List (List UInt8 × Int)
  fl : Int
  fk : Int
abbrev x64 (n : Int) : Int := IntKind.wrap .i64 n
def PSt.hd (s : PSt) : List UInt8 × Int := s.toks.headD ([], 0)
def PSt.fail (s : PSt) (e : Int) : PSt := if s.fk = 0 then { s with fl := s.hd.2, fk := e } else s
def PSt.adv (s : PSt) : PSt := if 1 < s.toks.length then { s with toks := s.toks.drop 1 } else s
def PSt.isW (s : PSt) (w : List UInt8) : Bool := s.fk == 0 && s.hd.1 == w
def PSt.isA (s : PSt) (w : List UInt8) : PSt := if s.isW w = true then s.adv else s
def PSt.want (s : PSt) (w : List UInt8) : PSt := if s.fk ≠ 0 then s else if s.hd.1 = w then s.adv else s.fail 4
def lettersM : List UInt8 → Bool
  | [] => false
  | c :: _ => isLet c
def digitsM : List UInt8 → Bool
  | [] => false
  | c :: _ => isDig c
section
variable (kw : List UInt8 → Bool) (val : List UInt8 → Int)
def PSt.nameW (s : PSt) : Bool := s.fk == 0 && lettersM s.hd.1 && !kw s.hd.1
def PSt.nameT (s : PSt) : List UInt8 := if s.nameW kw = true then s.hd.1 else []
def PSt.nameS (s : PSt) : PSt := if s.nameW kw = true then s.adv else s.fail 4
def PSt.num (s : PSt) (most : Int) : Int × PSt :=
  if s.fk ≠ 0 ∨ digitsM s.hd.1 = false then (0, s.fail 4) else if val s.hd.1 > most then (0, s.fail 9) else (val s.hd.1, s.adv)
end
def PSt.deep (s : PSt) (d : Int) : PSt := if d > 64 then s.fail 5 else s

/-- Words, however their slice is told. -/
def tokV (tk : Tok) (ws : List (List UInt8 × Int)) : AV := .lst tk ws.length (ws.flatMap tokC)
theorem tokV_addr {tk : Tok} {ws : List (List UInt8 × Int)} {i : Nat} (hi : i < ws.length) : aiaddr none 2 (tokV tk ws) (.int .i64 i) = some (elA tokC 2 ws i) := by
  simp only [tokV, aiaddr]
  rw [if_pos ⟨by omega, by omega⟩]; rfl
theorem tokV_len {tk : Tok} {ws : List (List UInt8 × Int)} : alen false (tokV tk ws) = some (.int .i64 ws.length) := rfl
/-- The parser as it lies in memory. -/
def PS (H : AH) (id : Nat) (s : PSt) : Prop := s.toks ≠ [] ∧ s.toks.length ≤ 2000000 ∧ ∃ tk, At H id (.row [tokV tk s.toks, .int .i64 s.fl, .int .i64 s.fk])
/-- All but one object are as they were. -/
def KeepP (id : Nat) (H H' : AH) : Prop := H.n ≤ H'.n ∧ ∀ i o, i ≠ id → At H i o → At H' i o
theorem KeepP.refl (id : Nat) (H : AH) : KeepP id H H := ⟨Nat.le_refl _, fun _ _ _ h => h⟩
theorem KeepP.trans {id : Nat} {a b c : AH} (h : KeepP id a b) (k : KeepP id b c) : KeepP id a c := ⟨Nat.le_trans h.1 k.1, fun i o hi ho => k.2 i o hi (h.2 i o hi ho)⟩
theorem KeepP.push (id : Nat) (H : AH) (x : AObj) : KeepP id H (H.push x) := ⟨Nat.le_succ _, fun i o _ h => h.push x⟩
theorem KeepP.set (id : Nat) (H : AH) (x : AObj) : KeepP id H (H.set id x) := ⟨Nat.le_refl _, fun i o hi h => h.set_ne hi x⟩

theorem PSt.adv_ne {s : PSt} (h : s.toks ≠ []) : s.adv.toks ≠ [] := by
  unfold PSt.adv
  split
  · show s.toks.drop 1 ≠ []
    intro e
    rw [List.drop_eq_nil_iff] at e
    omega
  · exact h
theorem PSt.adv_len (s : PSt) : s.adv.toks.length ≤ s.toks.length := by
  unfold PSt.adv
  split
  · show (s.toks.drop 1).length ≤ _
    rw [List.length_drop]; omega
  · exact Nat.le_refl _
theorem PSt.fail_toks (s : PSt) (e : Int) : (s.fail e).toks = s.toks := by unfold PSt.fail; split <;> rfl
theorem PSt.adv_fk (s : PSt) : s.adv.fk = s.fk := by unfold PSt.adv; split <;> rfl
theorem PSt.adv_fl (s : PSt) : s.adv.fl = s.fl := by unfold PSt.adv; split <;> rfl

section
variable {Φ : Calls'} {H : AH} {Q : Post} {id : Nat} {s : PSt}
theorem PS.l0 (h : PS H id s) : ∃ tk, At H id (.row [tokV tk s.toks, .int .i64 s.fl, .int .i64 s.fk]) ∧ aload H 1 false (.ptr id 0) = some (tokV tk s.toks) := by obtain ⟨_, _, tk, h⟩ := h; exact ⟨tk, h, by rw [h.load]; rfl⟩
theorem PS.l2 (h : PS H id s) : aload H 1 false (.ptr id 2) = some (.int .i64 s.fk) := by obtain ⟨_, _, tk, h⟩ := h; rw [h.load]; rfl
theorem PS.hdc (h : PS H id s) : ∃ w, s.toks[0]? = some w ∧ s.hd = w ∧ 0 < s.toks.length := by
  obtain ⟨h1, _, _⟩ := h
  unfold PSt.hd
  cases hc : s.toks with
  | nil => exact absurd hc h1
  | cons w r => exact ⟨w, rfl, rfl, by simp⟩
theorem pz_text (H : AH) {ws : List (List UInt8 × Int)} {w : List UInt8 × Int} (hi : ws[0]? = some w) : aload H 1 false (.fptr (((ws.flatMap tokC).drop (0 * 2)).drop 0)) = some (.str w.1) := by
  cases ws with
  | nil => cases hi
  | cons x r => simp at hi; subst hi; rfl
theorem pz_line (H : AH) {ws : List (List UInt8 × Int)} {w : List UInt8 × Int} (hi : ws[0]? = some w) : aload H 1 false (.fptr (((ws.flatMap tokC).drop (0 * 2)).drop 1)) = some (.int .i64 w.2) := by
  cases ws with
  | nil => cases hi
  | cons x r => simp at hi; subst hi; rfl

theorem p_bad (hT : Cl Φ S.tab_Lex) (h : PS H id s) (hQ : Q (.bool (s.fk != 0)) H) : Φ K.parse_parser_bad [.ptr id 0] H Q := by
  refine S.cl_parse_parser_bad hT ?_
  unfold S.parse_parser_bad
  simp only [anilck, afaddr, Do_of, Nat.zero_add, Nat.add_zero, Nat.reduceAdd, h.l2, abin_neq]
  exact hQ
theorem p_fail (hT : Cl Φ S.tab_Lex) {e : Int} (h : PS H id s) (hQ : ∀ H', KeepP id H H' → PS H' id (s.fail e) → Q (.tup []) H') : Φ K.parse_parser_fail [.ptr id 0, .int .i64 e] H Q := by
  refine S.cl_parse_parser_fail hT ?_
  unfold S.parse_parser_fail
  refine p_bad hT h ?_
  simp only [aun_not, Do_of, Gd_true]
  obtain ⟨w, hw, hwd, hlt⟩ := h.hdc
  refine ite_both (fun hb => ?_) (fun hb => ?_)
  · have h0 : s.fk = 0 := by simpa using hb
    obtain ⟨tk, hat, hl0⟩ := h.l0
    simp only [anilck, afaddr, Do_of, Nat.zero_add, Nat.add_zero, hl0]
    have ha : aiaddr none 2 (tokV tk s.toks) (.int .i64 0) = some (elA tokC 2 s.toks 0) := tokV_addr hlt
    rw [ha]
    simp only [Do_of, elA, afaddr, pz_line H hw]
    rw [show abuild [.int .i64 0, .int .i64 0] [(0, 1, .int .i64 w.2), (1, 1, .int .i64 e)] = some (.agg [.int .i64 w.2, .int .i64 e]) from rfl]
    simp only [Do_of]
    rw [hat.store, if_pos ⟨rfl, rfl, rfl, by simp⟩]
    simp only [Do_of]
    refine hQ _ (KeepP.set id H _) ?_
    have es : s.fail e = { s with fl := w.2, fk := e } := by unfold PSt.fail; rw [if_pos h0, hwd]
    rw [es]
    exact ⟨h.1, h.2.1, tk, hat.set _⟩
  · have h0 : s.fk ≠ 0 := by simpa using hb
    refine hQ H (KeepP.refl _ _) ?_
    have es : s.fail e = s := by unfold PSt.fail; rw [if_neg h0]
    rw [es]; exact h
theorem p_peek (hT : Cl Φ S.tab_Lex) (h : PS H id s) (hQ : Q (.str s.hd.1) H) : Φ K.parse_parser_peek [.ptr id 0] H Q := by
  refine S.cl_parse_parser_peek hT ?_
  unfold S.parse_parser_peek
  obtain ⟨w, hw, hwd, hlt⟩ := h.hdc
  obtain ⟨tk, hat, hl0⟩ := h.l0
  simp only [anilck, afaddr, Do_of, Nat.zero_add, Nat.add_zero, hl0]
  have ha : aiaddr none 2 (tokV tk s.toks) (.int .i64 0) = some (elA tokC 2 s.toks 0) := tokV_addr hlt
  rw [ha]
  simp only [Do_of, elA, afaddr, pz_text H hw]
  rw [← hwd]; exact hQ
theorem slice_tail {tk : Tok} {ws : List (List UInt8 × Int)} (h : 1 < ws.length) : aslice 2 (tokV tk ws) (some (.int .i64 1)) none none = some (lstA tokC (ws.drop 1)) := by
  simp only [lstA, tokV, aslice, abound]
  rw [if_pos (by omega)]
  simp only [Option.map_none]
  rw [if_pos ⟨by omega, Nat.le_refl _, flatMap_len tokC_len ws⟩, if_neg (by omega)]
  have e1 : ((1 : Int)).toNat = 1 := rfl
  rw [e1, if_neg (by omega)]
  have hf : (ws.flatMap tokC).take (ws.length * 2) = ws.flatMap tokC := List.take_of_length_le (by rw [flatMap_len tokC_len]; omega)
  rw [hf, flatMap_drop tokC_len, List.length_drop]
theorem p_next (hT : Cl Φ S.tab_Lex) (h : PS H id s) (hQ : ∀ H', KeepP id H H' → PS H' id s.adv → Q (.str s.hd.1) H') : Φ K.parse_parser_next [.ptr id 0] H Q := by
  refine S.cl_parse_parser_next hT ?_
  unfold S.parse_parser_next
  refine p_peek hT h ?_
  obtain ⟨tk, hat, hl0⟩ := h.l0
  simp only [anilck, afaddr, Do_of, Nat.zero_add, Nat.add_zero, hl0, tokV_len, abin_gtr, Gd_true]
  refine ite_both (fun hb => ?_) (fun hb => ?_)
  · have h1 : 1 < s.toks.length := by simp only [decide_eq_true_eq, gt_iff_lt] at hb; omega
    rw [slice_tail h1]
    simp only [Do_of]
    rw [hat.store, if_pos ⟨rfl, rfl, rfl, by simp⟩]
    simp only [Do_of]
    refine hQ _ (KeepP.set id H _) ⟨PSt.adv_ne h.1, Nat.le_trans (PSt.adv_len s) h.2.1, ?_⟩
    have es : s.adv = { s with toks := s.toks.drop 1 } := by unfold PSt.adv; rw [if_pos h1]
    rw [es]
    exact ⟨.dead, hat.set _⟩
  · have h1 : ¬ 1 < s.toks.length := by simp only [decide_eq_true_eq, gt_iff_lt] at hb; omega
    refine hQ H (KeepP.refl _ _) ?_
    have es : s.adv = s := by unfold PSt.adv; rw [if_neg h1]
    rw [es]; exact h
theorem p_is (hT : Cl Φ S.tab_Lex) {w : List UInt8} (h : PS H id s) (hQ : ∀ H', KeepP id H H' → PS H' id (s.isA w) → Q (.bool (s.isW w)) H') : Φ K.parse_parser_is [.ptr id 0, .str w] H Q := by
  refine S.cl_parse_parser_is hT ?_
  unfold S.parse_parser_is
  refine p_bad hT h ?_
  have k2 : ∀ b : Bool, b = !s.isW w → JoinP (S.parse_parser_is_k2 Φ (.ptr id 0) Q) [.bool b] H := by
    intro b hb
    simp only [JoinP_def, S.parse_parser_is_k2, sl_zero, Gd_true]
    refine ite_both (fun hx => ?_) (fun hx => ?_)
    · have hf : s.isW w = false := by rw [hx] at hb; simpa using hb.symm
      have := hQ H (KeepP.refl _ _) (by unfold PSt.isA; rw [hf, if_neg (by decide)]; exact h)
      rw [hf] at this; exact this
    · have hf : s.isW w = true := by simp only [Bool.not_eq_true] at hx; rw [hx] at hb; simpa using hb.symm
      simp only [S.parse_parser_is_k1]
      refine p_next hT h fun H' k' p' => ?_
      have := hQ H' k' (by unfold PSt.isA; rw [if_pos hf]; exact p')
      rw [hf] at this; exact this
  simp only [Gd3_false]
  refine ite_both (fun hx => ?_) (fun hx => ?_)
  · have h0 : s.fk = 0 := by simpa using hx
    refine p_peek hT h ?_
    simp only [str_neq, Do_of]
    exact k2 _ (by simp [PSt.isW, h0])
  · have h0 : s.fk ≠ 0 := by simpa using hx
    exact k2 _ (by simp [PSt.isW, h0])
theorem p_want (hT : Cl Φ S.tab_Lex) {w : List UInt8} (h : PS H id s) (hQ : ∀ H', KeepP id H H' → PS H' id (s.want w) → Q (.tup []) H') : Φ K.parse_parser_want [.ptr id 0, .str w] H Q := by
  refine S.cl_parse_parser_want hT ?_
  unfold S.parse_parser_want
  refine p_bad hT h ?_
  simp only [aun_not, Do_of, Gd3_true]
  refine ite_both (fun hx => ?_) (fun hx => ?_)
  · have h0 : s.fk = 0 := by simpa using hx
    refine p_is hT h fun H1 k1 p1 => ?_
    simp only [aun_not, Do_of, JoinP_def, S.parse_parser_want_k1, sl_zero, Gd_true]
    refine ite_both (fun hy => ?_) (fun hy => ?_)
    · have hf : s.isW w = false := by simpa using hy
      have hne : s.hd.1 ≠ w := by unfold PSt.isW at hf; rw [h0] at hf; simpa using hf
      have e1 : s.isA w = s := by unfold PSt.isA; rw [hf, if_neg (by decide)]
      rw [e1] at p1
      refine p_fail hT p1 fun H2 k2 p2 => ?_
      refine hQ H2 (k1.trans k2) ?_
      have e2 : s.want w = s.fail 4 := by unfold PSt.want; rw [if_neg (by simpa using h0), if_neg hne]
      rw [e2]; exact p2
    · have hf : s.isW w = true := by simpa using hy
      have heq : s.hd.1 = w := by unfold PSt.isW at hf; rw [h0] at hf; simpa using hf
      have e1 : s.isA w = s.adv := by unfold PSt.isA; rw [if_pos hf]
      rw [e1] at p1
      refine hQ H1 k1 ?_
      have e2 : s.want w = s.adv := by unfold PSt.want; rw [if_neg (by simpa using h0), if_pos heq]
      rw [e2]; exact p1
  · have h0 : s.fk ≠ 0 := by simpa using hx
    simp only [JoinP_def, S.parse_parser_want_k1, sl_zero, Gd_true, Bool.false_eq_true, if_false]
    refine hQ H (KeepP.refl _ _) ?_
    have e2 : s.want w = s := by unfold PSt.want; rw [if_pos h0]
    rw [e2]; exact h
theorem p_letters (hT : Cl Φ S.tab_Lex) {w : List UInt8} (hQ : Q (.bool (lettersM w)) H) : Φ K.parse_letters [.str w] H Q := by
  have fin : ∀ b : Bool, b = lettersM w → Q (.bool b) H := fun b h => by rw [h]; exact hQ
  refine S.cl_parse_letters hT ?_
  unfold S.parse_letters
  simp only [str_neq, Do_of, Gd3_true, JoinP_def, S.parse_letters_k1, sl_zero]
  cases w with
  | nil =>
    rw [if_neg (by decide), if_neg (by decide)]
    exact fin _ rfl
  | cons c r =>
    rw [if_pos (by simp)]
    have hx : aidxs (.str (c :: r)) (.int .i64 0) = some (.int .u8 c.toNat) := by simp [aidxs]
    rw [hx]
    simp only [Do_of, abin_geq, abin_leq]
    refine ite_both (fun h => fin _ ?_) (fun h => fin _ ?_)
    · have h' : 97 ≤ c.toNat := by simp only [ge_iff_le, decide_eq_true_eq] at h; omega
      rw [Bool.eq_iff_iff]; simp [lettersM, isLet, h']; omega
    · have h' : ¬ 97 ≤ c.toNat := by simp only [ge_iff_le, decide_eq_true_eq] at h; omega
      simp [lettersM, isLet, h']
theorem p_digits (hT : Cl Φ S.tab_Lex) {w : List UInt8} (hQ : Q (.bool (digitsM w)) H) : Φ K.parse_digits [.str w] H Q := by
  have fin : ∀ b : Bool, b = digitsM w → Q (.bool b) H := fun b h => by rw [h]; exact hQ
  refine S.cl_parse_digits hT ?_
  unfold S.parse_digits
  simp only [str_neq, Do_of, Gd3_true, JoinP_def, S.parse_digits_k1, sl_zero]
  cases w with
  | nil =>
    rw [if_neg (by decide), if_neg (by decide)]
    exact fin _ rfl
  | cons c r =>
    rw [if_pos (by simp)]
    have hx : aidxs (.str (c :: r)) (.int .i64 0) = some (.int .u8 c.toNat) := by simp [aidxs]
    rw [hx]
    simp only [Do_of, abin_geq, abin_leq]
    refine ite_both (fun h => fin _ ?_) (fun h => fin _ ?_)
    · have h' : 48 ≤ c.toNat := by simp only [ge_iff_le, decide_eq_true_eq] at h; omega
      rw [Bool.eq_iff_iff]; simp [digitsM, isDig, h']; omega
    · have h' : ¬ 48 ≤ c.toNat := by simp only [ge_iff_le, decide_eq_true_eq] at h; omega
      simp [digitsM, isDig, h']
theorem p_name (hT : Cl Φ S.tab_Lex) {kw : List UInt8 → Bool} (hkw : ∀ x, Val Φ K.lex_Keyword [.str x] (.bool (kw x))) (h : PS H id s) (hQ : ∀ H', KeepP id H H' → PS H' id (s.nameS kw) → Q (.str (s.nameT kw)) H') : Φ K.parse_parser_name [.ptr id 0] H Q := by
  refine S.cl_parse_parser_name hT ?_
  unfold S.parse_parser_name
  refine p_bad hT h ?_
  have k2 : ∀ b : Bool, b = !s.nameW kw → JoinP (S.parse_parser_name_k2 Φ (.ptr id 0) Q) [.bool b] H := by
    intro b hb
    simp only [JoinP_def, S.parse_parser_name_k2, sl_zero, Gd_true]
    refine ite_both (fun hx => ?_) (fun hx => ?_)
    · have hf : s.nameW kw = false := by rw [hx] at hb; simpa using hb.symm
      refine p_fail hT h fun H1 k1 p1 => ?_
      have := hQ H1 k1 (by unfold PSt.nameS; rw [hf, if_neg (by decide)]; exact p1)
      unfold PSt.nameT at this
      rw [hf, if_neg (by decide)] at this; exact this
    · have hf : s.nameW kw = true := by simp only [Bool.not_eq_true] at hx; rw [hx] at hb; simpa using hb.symm
      simp only [S.parse_parser_name_k1]
      refine p_next hT h fun H' k' p' => ?_
      have := hQ H' k' (by unfold PSt.nameS; rw [if_pos hf]; exact p')
      unfold PSt.nameT at this
      rw [if_pos hf] at this; exact this
  have k3 : ∀ b : Bool, b = !(s.fk == 0 && lettersM s.hd.1) → JoinP (S.parse_parser_name_k3 Φ (.ptr id 0) Q) [.bool b] H := by
    intro b hb
    simp only [JoinP_def, S.parse_parser_name_k3, sl_zero, Gd3_false]
    refine ite_both (fun hx => ?_) (fun hx => ?_)
    · have hf : (s.fk == 0 && lettersM s.hd.1) = true := by rw [hx] at hb; simpa using hb.symm
      refine p_peek hT h ?_
      refine hkw _ _ _ ?_
      exact k2 _ (by unfold PSt.nameW; rw [hf]; simp)
    · have hf : (s.fk == 0 && lettersM s.hd.1) = false := by cases hy : (s.fk == 0 && lettersM s.hd.1) with
        | false => rfl
        | true => exact absurd (by rw [hb, hy]; rfl) hx
      exact k2 _ (by unfold PSt.nameW; rw [hf]; rfl)
  simp only [Gd3_false]
  refine ite_both (fun hx => ?_) (fun hx => ?_)
  · have h0 : s.fk = 0 := by simpa using hx
    refine p_peek hT h ?_
    refine p_letters hT ?_
    simp only [aun_not, Do_of]
    exact k3 _ (by simp [h0])
  · have h0 : s.fk ≠ 0 := by simpa using hx
    exact k3 _ (by simp [h0])
theorem p_deep (hT : Cl Φ S.tab_Lex) {d : Int} (h : PS H id s) (hQ : ∀ H', KeepP id H H' → PS H' id (s.deep d) → Q (.bool ((s.deep d).fk == 0)) H') : Φ K.parse_parser_deep [.ptr id 0, .int .i64 d] H Q := by
  refine S.cl_parse_parser_deep hT ?_
  unfold S.parse_parser_deep
  have k1 : ∀ (s' : PSt) (H1 : AH), s' = s.deep d → KeepP id H H1 → PS H1 id s' → JoinP (S.parse_parser_deep_k1 Φ (.ptr id 0) Q) [] H1 := by
    intro s' H1 e k p
    subst e
    simp only [JoinP_def, S.parse_parser_deep_k1]
    refine p_bad hT p ?_
    simp only [aun_not, Do_of]
    have := hQ H1 k p
    have e2 : (!((s.deep d).fk != 0)) = ((s.deep d).fk == 0) := by simp [bne]
    rw [e2]; exact this
  simp only [abin_gtr, Do_of, Gd_true]
  refine ite_both (fun hx => ?_) (fun hx => ?_)
  · refine p_fail hT h fun H1 kk p1 => ?_
    exact k1 _ H1 (by unfold PSt.deep; rw [if_pos (by simpa using hx)]) kk p1
  · exact k1 s H (by unfold PSt.deep; rw [if_neg (by simpa using hx)]) (KeepP.refl _ _) h
end
end Rb

/- Package parse: what is read, as the api's types; the model. -/
set_option linter.unusedVariables false
set_option linter.unusedSimpArgs false
set_option linter.unusedSectionVars false
namespace Rb
open Go

def tyZ : GType := ⟨0, 0, false, [], 0, []⟩
def plZ : GPlace := ⟨[], []⟩
def exZ : GExpr := ⟨0, 0, [], 0, 0, plZ, []⟩
def scL0 : List (List UInt8) := [[117, 56], [117, 49, 54], [117, 51, 50], [117, 54, 52]]
def scL1 : List (List UInt8) := [[97, 56], [97, 49, 54], [97, 51, 50], [97, 54, 52], [97, 49, 50, 56]]
def scalarM (w : List UInt8) : Option (Int × Int) := match scL0.findIdx? (· == w) with
  | some m => some (1, 2 ^ m)
  | none => (match scL1.findIdx? (· == w) with
    | some m => some (2, 2 ^ m)
    | none => none)
def kindM (w : List UInt8) : Int := if w = [115, 116, 114, 117, 99, 116] then 3 else if w = [117, 110, 105, 111, 110] then 4 else if w = [91] then 5 else 0
def operL : List (List UInt8) := [[43], [45], [42], [38], [124], [94], [60, 60], [62, 62], [61, 61], [33, 61], [60]]
def operM (w : List UInt8) : Int := match operL.findIdx? (· == w) with
  | some i => (i : Int) + 1
  | none => 0
def orderM (s : PSt) : Int × PSt :=
  if s.isW [114, 108, 120] = true then (1, s.adv) else if s.isW [97, 99, 113] = true then (2, s.adv) else if s.isW [114, 101, 108] = true then (3, s.adv) else if s.isW [115, 99] = true then (4, s.adv) else (0, s.fail 4)

section
variable (kw : List UInt8 → Bool) (val : List UInt8 → Int)

/-- A field, by what reads a type. -/
def fieldM (ty : Int → PSt → GType × PSt) (d : Int) (s : PSt) : GField × PSt :=
  let o := s.isW [95]
  let nm : List UInt8 := if o = true then [] else (s.isA [95]).nameT kw
  let s1 : PSt := if o = true then s.isA [95] else (s.isA [95]).nameS kw
  let t := ty (x64 (d + 1)) s1
  if o = true ∨ t.2.hd.1 = [58] then
    let q := (t.2.want [58]).num val 1073741824
    (⟨nm, t.1, true, x64 q.1⟩, q.2.want [59])
  else (⟨nm, t.1, false, 0⟩, t.2.want [59])
mutual
def typM : Nat → Int → PSt → GType × PSt
  | 0, d, s => (tyZ, s)
  | n + 1, d, s =>
    let s1 := s.deep d
    if s1.fk ≠ 0 then (tyZ, s1) else
    match scalarM s1.hd.1 with
    | some p => (⟨p.1, p.2, false, [], 0, []⟩, s1.adv)
    | none =>
      if kindM s1.hd.1 = 0 then (tyZ, s1.fail 4)
      else if kindM s1.hd.1 = 5 then
        let q := s1.adv.num val 1073741824
        let t := typM n (x64 (d + 1)) (q.2.want [93])
        (⟨5, 0, false, [], x64 q.1, [t.1]⟩, t.2)
      else
        let l := fldsM n d ((s1.adv.isA [112, 97, 99, 107, 101, 100]).want [123])
        (⟨kindM s1.hd.1, 0, s1.adv.isW [112, 97, 99, 107, 101, 100], l.1, 0, []⟩, l.2)
def fldsM : Nat → Int → PSt → List GField × PSt
  | 0, d, s => ([], s)
  | n + 1, d, s =>
    if s.fk ≠ 0 then ([], s) else if s.isW [125] = true then ([], s.adv) else
    let f := fieldM kw val (fun d s => typM n d s) d s
    let r := fldsM n d f.2
    (f.1 :: r.1, r.2)
end

/-- Two expressions, and what stands between them. -/
def binM (ex : Int → PSt → GExpr × PSt) (d : Int) (s : PSt) : GExpr × PSt :=
  let a := ex (x64 (d + 1)) s
  let op := operM a.2.hd.1
  let s3 := if a.2.fk = 0 ∧ op = 0 then a.2.fail 4 else a.2
  let s4 := if s3.fk = 0 then s3.adv else s3
  let b := ex (x64 (d + 1)) s4
  (⟨3, 0, [], op, 0, plZ, [a.1, b.1]⟩, b.2.want [41])
def kidsM (ex : Int → PSt → GExpr × PSt) (d : Int) : Nat → PSt → List GExpr × PSt
  | 0, s => ([], s)
  | k + 1, s => let e := ex (x64 (d + 1)) s; let r := kidsM ex d k e.2; (e.1 :: r.1, r.2)
def placeM' (pa : Int → PSt → List GPart × PSt) (d : Int) (s : PSt) : GPlace × PSt :=
  let r := pa d (s.nameS kw)
  (⟨s.nameT kw, r.1⟩, r.2)
def accM (ex : Int → PSt → GExpr × PSt) (pa : Int → PSt → List GPart × PSt) (kind : Int) (k : Nat) (d : Int) (s : PSt) : GExpr × PSt :=
  let o := if kind = 4 then (0, s) else orderM s
  let p := placeM' kw pa d o.2
  let r := kidsM ex d k p.2
  (⟨kind, 0, [], 0, o.1, p.1, r.1⟩, r.2)
mutual
def exprM : Nat → Int → PSt → GExpr × PSt
  | 0, d, s => (exZ, s)
  | n + 1, d, s =>
    let s1 := s.deep d
    if s1.fk ≠ 0 then (exZ, s1)
    else if digitsM s1.hd.1 = true then
      let q := s1.num val 18446744073709551615
      (⟨1, q.1, [], 0, 0, plZ, []⟩, q.2)
    else if lettersM s1.hd.1 = true ∧ kw s1.hd.1 = false then (⟨2, 0, s1.hd.1, 0, 0, plZ, []⟩, s1.adv)
    else if s1.isW [40] = true then binM (fun d s => exprM n d s) d s1.adv
    else if s1.isW [114, 101, 97, 100] = true then accM kw (fun d s => exprM n d s) (fun d s => partsM n d s) 4 0 d s1.adv
    else if s1.isW [108, 111, 97, 100] = true then accM kw (fun d s => exprM n d s) (fun d s => partsM n d s) 5 0 d s1.adv
    else if s1.isW [97, 100, 100] = true then accM kw (fun d s => exprM n d s) (fun d s => partsM n d s) 6 1 d s1.adv
    else if s1.isW [115, 119, 97, 112] = true then accM kw (fun d s => exprM n d s) (fun d s => partsM n d s) 7 1 d s1.adv
    else if s1.isW [99, 97, 115] = true then accM kw (fun d s => exprM n d s) (fun d s => partsM n d s) 8 2 d s1.adv
    else (exZ, s1.fail 4)
def partsM : Nat → Int → PSt → List GPart × PSt
  | 0, d, s => ([], s)
  | n + 1, d, s =>
    if s.fk ≠ 0 then ([], s)
    else if s.isW [46] = true then
      let r := partsM n d (s.adv.nameS kw)
      (⟨s.adv.nameT kw, []⟩ :: r.1, r.2)
    else if s.isW [91] = true then
      let e := exprM n (x64 (d + 1)) s.adv
      let r := partsM n d (e.2.want [93])
      (⟨[], [e.1]⟩ :: r.1, r.2)
    else ([], s)
end
end
end Rb

/- Package parse: statements, programs; the model. -/
set_option linter.unusedVariables false
set_option linter.unusedSimpArgs false
set_option linter.unusedSectionVars false
namespace Rb
open Go

def stZ (line : Int) : GStmt := ⟨0, line, [], [], 0, plZ, [], [], []⟩
section
variable (kw : List UInt8 → Bool) (val : List UInt8 → Int)
def blockF (ss : Int → PSt → List GStmt × PSt) (d : Int) (s : PSt) : List GStmt × PSt :=
  let s1 := s.deep d
  if s1.fk ≠ 0 then ([], s1) else ss d (s1.want [123])
def valueF (ex : Int → PSt → GExpr × PSt) (d : Int) (s : PSt) : GExpr × PSt := ex (x64 (d + 1)) (s.want [61])
/-- A statement with blocks. -/
def controlF (ex : Int → PSt → GExpr × PSt) (ss : Int → PSt → List GStmt × PSt) (x : GStmt) (d : Int) (s : PSt) : GStmt × PSt :=
  if s.isW [105, 102] = true then
    let e := ex (x64 (d + 1)) s.adv
    let a := blockF ss (x64 (d + 1)) e.2
    if a.2.isW [101, 108, 115, 101] = true then
      let b := blockF ss (x64 (d + 1)) a.2.adv
      ({ x with kind := 8, exprs := [e.1], thn := a.1, els := b.1 }, b.2)
    else ({ x with kind := 8, exprs := [e.1], thn := a.1 }, a.2)
  else if s.isW [119, 104, 105, 108, 101] = true then
    let e := ex (x64 (d + 1)) s.adv
    let a := blockF ss (x64 (d + 1)) e.2
    ({ x with kind := 9, exprs := [e.1], thn := a.1 }, a.2)
  else (x, s.fail 4)
/-- A statement. -/
def stmtF (ex : Int → PSt → GExpr × PSt) (pa : Int → PSt → List GPart × PSt) (ss : Int → PSt → List GStmt × PSt) (d : Int) (s : PSt) : GStmt × PSt :=
  let x := stZ s.hd.2
  if s.isW [108, 101, 116] = true then
    let v := valueF ex d (s.adv.nameS kw)
    ({ x with kind := 1, name := s.adv.nameT kw, exprs := [v.1] }, v.2.want [59])
  else if s.isW [115, 101, 116] = true then
    let v := valueF ex d (s.adv.nameS kw)
    ({ x with kind := 2, name := s.adv.nameT kw, exprs := [v.1] }, v.2.want [59])
  else if s.isW [119, 114, 105, 116, 101] = true then
    let p := placeM' kw pa d s.adv
    let v := valueF ex d p.2
    ({ x with kind := 3, place := p.1, exprs := [v.1] }, v.2.want [59])
  else if s.isW [115, 116, 111, 114, 101] = true then
    let o := orderM s.adv
    let p := placeM' kw pa d o.2
    let v := valueF ex d p.2
    ({ x with kind := 4, order := o.1, place := p.1, exprs := [v.1] }, v.2.want [59])
  else if s.isW [108, 111, 97, 100, 50] = true then
    let o := orderM s.adv
    let p := placeM' kw pa d o.2
    let s2 := p.2.nameS kw
    ({ x with kind := 5, order := o.1, place := p.1, name := p.2.nameT kw, name2 := s2.nameT kw }, (s2.nameS kw).want [59])
  else if s.isW [115, 116, 111, 114, 101, 50] = true then
    let o := orderM s.adv
    let p := placeM' kw pa d o.2
    let v := valueF ex d p.2
    let u := ex (x64 (d + 1)) (v.2.want [44])
    ({ x with kind := 6, order := o.1, place := p.1, exprs := [v.1, u.1] }, u.2.want [59])
  else if s.isW [102, 101, 110, 99, 101] = true then
    let o := orderM s.adv
    ({ x with kind := 7, order := o.1 }, o.2.want [59])
  else if s.isW [112, 114, 105, 110, 116] = true then
    let e := ex (x64 (d + 1)) s.adv
    ({ x with kind := 10, exprs := [e.1] }, e.2.want [59])
  else controlF ex ss x d s
def stmtsM : Nat → Int → PSt → List GStmt × PSt
  | 0, d, s => ([], s)
  | n + 1, d, s =>
    if s.fk ≠ 0 then ([], s) else if s.isW [125] = true then ([], s.adv) else
    let x := stmtF kw (exprM kw val n) (partsM kw val n) (fun d s => stmtsM n d s) d s
    let r := stmtsM n d x.2
    (x.1 :: r.1, r.2)
def varsM : Nat → PSt → List GVar × PSt
  | 0, s => ([], s)
  | n + 1, s => if s.isW [118, 97, 114] = true then
      let t := typM kw val n 1 (s.adv.nameS kw)
      let r := varsM n (t.2.want [59])
      (⟨s.adv.nameT kw, t.1⟩ :: r.1, r.2)
    else ([], s)
def thrsM : Nat → PSt → List (List GStmt) × PSt
  | 0, s => ([], s)
  | n + 1, s => if s.isW [116, 104, 114, 101, 97, 100] = true then
      let b := blockF (stmtsM kw val n) 1 s.adv
      let r := thrsM n b.2
      (b.1 :: r.1, r.2)
    else ([], s)
def PSt.endM (s : PSt) : PSt := if s.fk = 0 ∧ 1 < s.toks.length then s.fail 4 else s
def parseM (s : PSt) : GProg × Int × Int :=
  let v := varsM kw val s.toks.length s
  let t := thrsM kw val s.toks.length v.2
  let e := t.2.endM
  if e.fk ≠ 0 then (⟨[], []⟩, e.fl, e.fk) else (⟨v.1, t.1⟩, 0, 0)
end

/-! What always holds of the parser's state. -/
/-- The last word has no text; none is too long. -/
def Wf (s : PSt) : Prop := ∃ l : List (List UInt8 × Int), ∃ n : Int, s.toks = l ++ [([], n)] ∧ ∀ w ∈ l, w.1.length ≤ 1048576
theorem Wf.ne {s : PSt} (h : Wf s) : s.toks ≠ [] := by
  obtain ⟨l, n, e, _⟩ := h; rw [e]; simp
theorem Wf.fail {s : PSt} (h : Wf s) (e : Int) : Wf (s.fail e) := by
  obtain ⟨l, n, h, k⟩ := h; exact ⟨l, n, by rw [PSt.fail_toks]; exact h, k⟩
theorem Wf.adv {s : PSt} (h : Wf s) : Wf s.adv := by
  obtain ⟨l, n, h, k⟩ := h
  unfold PSt.adv
  split
  · rename_i hlt
    cases l with
    | nil => rw [h] at hlt; simp at hlt
    | cons a r => exact ⟨r, n, by show s.toks.drop 1 = _; rw [h]; rfl, fun w hw => k w (List.mem_cons_of_mem _ hw)⟩
  · exact ⟨l, n, h, k⟩
/-- A word is read, unless it is the last one. -/
theorem Wf.short {s : PSt} (h : Wf s) (hd : s.hd.1 ≠ []) : s.adv.toks.length + 1 = s.toks.length := by
  obtain ⟨l, n, h, _⟩ := h
  cases l with
  | nil => exact absurd (by unfold PSt.hd; rw [h]; rfl) hd
  | cons a r =>
    unfold PSt.adv
    rw [if_pos (by rw [h]; simp)]
    show (s.toks.drop 1).length + 1 = _
    rw [h]; simp

/-- So many words are left at most, unless something was wrong. -/
def Few (n : Nat) (s : PSt) : Prop := s.fk ≠ 0 ∨ s.toks.length ≤ n
theorem PSt.fail_fk (s : PSt) {e : Int} (he : e ≠ 0) : (s.fail e).fk ≠ 0 := by
  unfold PSt.fail; split
  · exact he
  · assumption
theorem Few.zero {s : PSt} (h : Few 0 s) (w : Wf s) : s.fk ≠ 0 := by
  rcases h with h | h
  · exact h
  · exact absurd (List.length_eq_zero_iff.1 (by omega)) w.ne
theorem Few.mono {n m : Nat} {s : PSt} (h : Few n s) (k : n ≤ m) : Few m s := h.imp id fun h => Nat.le_trans h k
theorem Few.fail {n : Nat} {s : PSt} (h : Few n s) (e : Int) : Few n (s.fail e) := by
  rcases h with h | h
  · exact .inl (by unfold PSt.fail; rw [if_neg h]; exact h)
  · exact .inr (by rw [PSt.fail_toks]; exact h)
theorem Few.adv {n : Nat} {s : PSt} (h : Few n s) : Few n s.adv := by
  rcases h with h | h
  · exact .inl (by rw [PSt.adv_fk]; exact h)
  · exact .inr (Nat.le_trans (PSt.adv_len s) h)
theorem Few.read {n : Nat} {s : PSt} (h : Few (n + 1) s) (w : Wf s) (hd : s.hd.1 ≠ []) : Few n s.adv := by
  rcases h with h | h
  · exact .inl (by rw [PSt.adv_fk]; exact h)
  · exact .inr (by have := w.short hd; omega)
theorem isW_hd {s : PSt} {w : List UInt8} (h : s.isW w = true) : s.fk = 0 ∧ s.hd.1 = w := by
  unfold PSt.isW at h; simpa using h
theorem Few.isW {n : Nat} {s : PSt} {w : List UInt8} (h : Few (n + 1) s) (f : Wf s) (k : s.isW w = true) (hw : w ≠ []) : Few n s.adv := h.read f (by rw [(isW_hd k).2]; exact hw)
theorem Wf.hd {s : PSt} (h : Wf s) : s.hd.1.length ≤ 1048576 := by
  obtain ⟨l, n, h, k⟩ := h
  unfold PSt.hd
  rw [h]
  cases l with
  | nil => simp
  | cons a r => exact k a List.mem_cons_self
end Rb
