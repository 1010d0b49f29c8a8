/- A part of the proof (part 4): see the last text. -/
import Derived.Test.YtbkkoplgicffgaaGreatDoorRb2
import Derived.Test.YtbkkoplgicffgaaGreatDoorRb3
import Derived.KernelRfl
import Derived.Lib.DecodeN
import Derived.Lib.ParseIntB
import Derived.Lib.Bytealg
set_option linter.unusedVariables false
namespace Rb.S
open Go
def rabbetlaw10_PrintLines_k1 (Φ : Calls') (s37 : List AV × AH) (L38 : (List AV × AH) → Prop) (Q : Post) : List AV → AH → Prop := fun j43 H44 =>
 Do (abin .add (sl s37.1 0) (.int .i64 1)) fun x73 =>
 L38 ([x73], H44)
def rabbetlaw10_PrintLines_k2 (Φ : Calls') (x32 : AV) (x51 : AV) (s37 : List AV × AH) (L38 : (List AV × AH) → Prop) (Q : Post) : List AV → AH → Prop := fun j53 H54 =>
 DoH (afreeze H54 x51) fun x63 H64 =>
 Do (afaddr 1 x32) fun x65 =>
 Do (aload H64 1 false x65) fun x66 =>
 DoH (abslice H64 false 1 1 [.lst .nil 0 []] [(0, 1, x63)]) fun x67 H68 =>
 DoH (aappend H68 false 1 24 x66 x67) fun x69 H70 =>
 Do (afaddr 1 x32) fun x71 =>
 Do (astore H70 1 x71 x69) fun H72 =>
 JoinP (rabbetlaw10_PrintLines_k1 Φ s37 L38 Q) [] H72
def rabbetlaw10_PrintLines_l3 (Φ : Calls') (a2 : AV) (x32 : AV) (x51 : AV) (s37 : List AV × AH) (L38 : (List AV × AH) → Prop) (Q : Post) : (List AV × AH) → ((List AV × AH) → Prop) → Prop := fun s55 L56 =>
 Do (alen false x51) fun x57 =>
 Do (abin .lss (sl s55.1 0) x57) fun x58 =>
 Gd x58 true (
 Do (aiaddr none 10 x51 (sl s55.1 0)) fun x59 =>
 Do (afaddr 1 x59) fun x60 =>
 Do (astore s55.2 1 x60 a2) fun H61 =>
 Do (abin .add (sl s55.1 0) (.int .i64 1)) fun x62 =>
 L56 ([x62], H61)) (
 JoinP (rabbetlaw10_PrintLines_k2 Φ x32 x51 s37 L38 Q) [] s55.2)
def rabbetlaw10_PrintLines_k4 (Φ : Calls') (x1 : AV) (x3 : AV) (x22 : AV) (x23 : AV) (x27 : AV) (x28 : AV) (Q : Post) : List AV → AH → Prop := fun j87 H88 =>
 Gd3 (sl j87 0) true (
 Do (abin .neq x23 (.int .i64 0)) fun x93 =>
 Gd3 x93 false (
 Do (abin .neq x28 (.int .i64 0)) fun x94 =>
 Gd3 x94 false (
 Do (abin .eql x22 x27) fun x95 =>
 Do (aload H88 2 true x1) fun x96 =>
 Do (aload H88 2 true x3) fun x97 =>
Φ K.print_Same [x96, x97] H88 fun x98 H99 =>
 Do (abeq false x95 x98) fun x100 =>
 Q x100 H99) (
 Q (.bool true) H88) (
 False)) (
 Q (.bool true) H88) (
 False)) (
 Q (.bool false) H88) (
 False)
def rabbetlaw10_PrintLines_k5 (Φ : Calls') (x1 : AV) (x3 : AV) (x22 : AV) (x23 : AV) (x27 : AV) (x28 : AV) (x32 : AV) (Q : Post) : List AV → AH → Prop := fun j84 H85 =>
 Gd3 (sl j84 0) true (
 Do (aload H85 2 true x1) fun x89 =>
 Do (aload H85 2 true x32) fun x90 =>
Φ K.print_Same [x89, x90] H85 fun x91 H92 =>
 JoinP (rabbetlaw10_PrintLines_k4 Φ x1 x3 x22 x23 x27 x28 Q) [x91] H92) (
 JoinP (rabbetlaw10_PrintLines_k4 Φ x1 x3 x22 x23 x27 x28 Q) [(.bool false)] H85) (
 False)
def rabbetlaw10_PrintLines_k6 (Φ : Calls') (x1 : AV) (x3 : AV) (x22 : AV) (x23 : AV) (x27 : AV) (x28 : AV) (x32 : AV) (x77 : AV) (Q : Post) : List AV → AH → Prop := fun j79 H80 =>
 Gd3 (sl j79 0) true (
 Do (abin .eql x22 x77) fun x86 =>
 JoinP (rabbetlaw10_PrintLines_k5 Φ x1 x3 x22 x23 x27 x28 x32 Q) [x86] H80) (
 JoinP (rabbetlaw10_PrintLines_k5 Φ x1 x3 x22 x23 x27 x28 x32 Q) [(.bool false)] H80) (
 False)
def rabbetlaw10_PrintLines_k7 (Φ : Calls') (x1 : AV) (x3 : AV) (x22 : AV) (x23 : AV) (x27 : AV) (x28 : AV) (x32 : AV) (Q : Post) : List AV → AH → Prop := fun j35 H36 =>
 Do (aload H36 2 true x32) fun x74 =>
Φ K.print_Prog [x74] H36 fun x75 H76 =>
 Do (aextract 0 x75) fun x77 =>
 Do (aextract 1 x75) fun x78 =>
Φ K.rabbetlaw10_awake [] H76 fun x81 H82 =>
 Gd3 x81 true (
 Do (abin .eql x23 x78) fun x83 =>
 JoinP (rabbetlaw10_PrintLines_k6 Φ x1 x3 x22 x23 x27 x28 x32 x77 Q) [x83] H82) (
 JoinP (rabbetlaw10_PrintLines_k6 Φ x1 x3 x22 x23 x27 x28 x32 x77 Q) [(.bool false)] H82) (
 False)
def rabbetlaw10_PrintLines_l8 (Φ : Calls') (a2 : AV) (x1 : AV) (x3 : AV) (x22 : AV) (x23 : AV) (x27 : AV) (x28 : AV) (x32 : AV) (Q : Post) : (List AV × AH) → ((List AV × AH) → Prop) → Prop := fun s37 L38 =>
 Do (afaddr 1 x1) fun x39 =>
 Do (aload s37.2 1 false x39) fun x40 =>
 Do (alen false x40) fun x41 =>
 Do (abin .lss (sl s37.1 0) x41) fun x42 =>
 Gd x42 true (
 DoH (abslice s37.2 false 10 0 [.int .i64 0, .int .i64 0, .str [], .str [], .int .i64 0, .str [], .lst .nil 0 [], .lst .nil 0 [], .lst .nil 0 [], .lst .nil 0 []] []) fun x45 H46 =>
 Do (afaddr 1 x1) fun x47 =>
 Do (aload H46 1 false x47) fun x48 =>
 Do (aiaddr none 1 x48 (sl s37.1 0)) fun x49 =>
 Do (aload H46 1 false x49) fun x50 =>
 DoH (aappend H46 true 10 168 x45 x50) fun x51 H52 =>
 LoopP (rabbetlaw10_PrintLines_l3 Φ a2 x32 x51 s37 L38 Q) ([(.int .i64 0)], H52)) (
 JoinP (rabbetlaw10_PrintLines_k7 Φ x1 x3 x22 x23 x27 x28 x32 Q) [] s37.2)
def rabbetlaw10_PrintLines_k9 (Φ : Calls') (a2 : AV) (x1 : AV) (x3 : AV) (Q : Post) : List AV → AH → Prop := fun j5 H6 =>
 Do (aload H6 2 true x1) fun x19 =>
Φ K.print_Prog [x19] H6 fun x20 H21 =>
 Do (aextract 0 x20) fun x22 =>
 Do (aextract 1 x20) fun x23 =>
 Do (aload H21 2 true x3) fun x24 =>
Φ K.print_Prog [x24] H21 fun x25 H26 =>
 Do (aextract 0 x25) fun x27 =>
 Do (aextract 1 x25) fun x28 =>
 Do (afaddr 0 x1) fun x29 =>
 Do (aload H26 1 false x29) fun x30 =>
 Do (abuild [.lst .nil 0 [], .lst .nil 0 []] [(0, 1, x30)]) fun x31 =>
 DoH (some (abox H26 true [.lst .nil 0 [], .lst .nil 0 []])) fun x32 H33 =>
 Do (astore H33 2 x32 x31) fun H34 =>
 LoopP (rabbetlaw10_PrintLines_l8 Φ a2 x1 x3 x22 x23 x27 x28 x32 Q) ([(.int .i64 0)], H34)
def rabbetlaw10_PrintLines_k10 (Φ : Calls') (a2 : AV) (x1 : AV) (x3 : AV) (Q : Post) : List AV → AH → Prop := fun j7 H8 =>
 Gd (sl j7 0) true (
Φ K.rabbetlaw10_awake [] H8 fun x17 H18 =>
 Q x17 H18) (
 JoinP (rabbetlaw10_PrintLines_k9 Φ a2 x1 x3 Q) [] H8)
def rabbetlaw10_PrintLines (Φ : Calls') (a0 : AV) (a1 : AV) (a2 : AV) (H : AH) (Q : Post) : Prop :=
 DoH (aboxv H false 2 a0) fun x1 H2 =>
 DoH (aboxv H2 false 2 a1) fun x3 H4 =>
 Do (aload H4 2 true x1) fun x9 =>
Φ K.rabbetlaw10_small [x9] H4 fun x10 H11 =>
 Do (aun .not x10) fun x12 =>
 Gd3 x12 false (
 Do (aload H11 2 true x3) fun x13 =>
Φ K.rabbetlaw10_small [x13] H11 fun x14 H15 =>
 Do (aun .not x14) fun x16 =>
 JoinP (rabbetlaw10_PrintLines_k10 Φ a2 x1 x3 Q) [x16] H15) (
 JoinP (rabbetlaw10_PrintLines_k10 Φ a2 x1 x3 Q) [(.bool true)] H11) (
 False)
noncomputable def ir_rabbetlaw10_PrintLines : AFunc := decF Go.Proofs.YtbkkoplgicffgaaGreatDoor.rb.C ⟨5,[11,52],[[12],[14]],none,[],[(14,[13])]⟩
theorem eq_rabbetlaw10_PrintLines (Φ : Calls') (a0 a1 a2 : AV) (H : AH) (Q : Post) : fnE1 Φ ir_rabbetlaw10_PrintLines [a0, a1, a2] H Q = rabbetlaw10_PrintLines Φ a0 a1 a2 H Q := by kernel_rfl
def parse_Prog_k1 (Φ : Calls') (x1 : AV) (x3 : AV) (x7 : AV) (x21 : AV) (Q : Post) : List AV → AH → Prop := fun j44 H45 =>
Φ K.parse_parser_end [x7] H45 fun x60 H61 =>
 DoH (some (abox H61 true [.int .i64 0, .int .i64 0])) fun x62 H63 =>
 Do (astore H63 2 x62 x60) fun H64 =>
 Do (afaddr 1 x62) fun x65 =>
 Do (aload H64 1 false x65) fun x66 =>
 Do (abin .neq x66 (.int .i64 0)) fun x67 =>
 Gd x67 true (
 Do (abuild [.lst .nil 0 [], .lst .nil 0 []] []) fun x68 =>
 Do (aload H64 2 true x62) fun x69 =>
 Do (astore H64 2 x1 x68) fun H70 =>
(aload H70 2 true x62 = some x69) ∧
(Do (astore H70 2 x3 x69) fun H71 =>
 Do (aload H71 2 true x1) fun x72 =>
 Do (aload H71 2 true x3) fun x73 =>
 Q (.tup [x72, x73]) H71)) (
 Do (aload H64 2 true x21) fun x74 =>
 Do (abuild [.int .i64 0, .int .i64 0] []) fun x75 =>
 Do (astore H64 2 x1 x74) fun H76 =>
 Do (astore H76 2 x3 x75) fun H77 =>
 Do (aload H77 2 true x1) fun x78 =>
 Do (aload H77 2 true x3) fun x79 =>
 Q (.tup [x78, x79]) H77)
def parse_Prog_l2 (Φ : Calls') (x1 : AV) (x3 : AV) (x7 : AV) (x21 : AV) (Q : Post) : (List AV × AH) → ((List AV × AH) → Prop) → Prop := fun s46 L47 =>
Φ K.parse_parser_is [x7, (.str [116, 104, 114, 101, 97, 100])] s46.2 fun x48 H49 =>
 Gd x48 true (
 Do (afaddr 1 x21) fun x50 =>
 Do (aload H49 1 false x50) fun x51 =>
Φ K.parse_parser_block [x7, (.int .i64 1)] H49 fun x52 H53 =>
(aload H53 1 false x50 = some x51) ∧
(DoH (abslice H53 false 1 1 [.lst .nil 0 []] [(0, 1, x52)]) fun x54 H55 =>
 DoH (aappend H55 false 1 24 x51 x54) fun x56 H57 =>
 Do (afaddr 1 x21) fun x58 =>
 Do (astore H57 1 x58 x56) fun H59 =>
 L47 ([], H59))) (
 JoinP (parse_Prog_k1 Φ x1 x3 x7 x21 Q) [] H49)
def parse_Prog_k3 (Φ : Calls') (x1 : AV) (x3 : AV) (x7 : AV) (x21 : AV) (Q : Post) : List AV → AH → Prop := fun j23 H24 =>
 LoopP (parse_Prog_l2 Φ x1 x3 x7 x21 Q) ([], H24)
def parse_Prog_l4 (Φ : Calls') (x1 : AV) (x3 : AV) (x7 : AV) (x21 : AV) (Q : Post) : (List AV × AH) → ((List AV × AH) → Prop) → Prop := fun s25 L26 =>
Φ K.parse_parser_is [x7, (.str [118, 97, 114])] s25.2 fun x27 H28 =>
 Gd x27 true (
 Do (afaddr 0 x21) fun x29 =>
 Do (aload H28 1 false x29) fun x30 =>
Φ K.parse_parser_name [x7] H28 fun x31 H32 =>
(aload H32 1 false x29 = some x30) ∧
(Φ K.parse_parser_typ [x7, (.int .i64 1)] H32 fun x33 H34 =>
(aload H34 1 false x29 = some x30) ∧
(Do (abuild [.str [], .int .i64 0, .int .i64 0, .bool false, .lst .nil 0 [], .int .i64 0, .lst .nil 0 []] [(0, 1, x31), (1, 6, x33)]) fun x35 =>
 DoH (abslice H34 false 7 1 [.str [], .int .i64 0, .int .i64 0, .bool false, .lst .nil 0 [], .int .i64 0, .lst .nil 0 []] [(0, 7, x35)]) fun x36 H37 =>
 DoH (aappend H37 false 7 96 x30 x36) fun x38 H39 =>
 Do (afaddr 0 x21) fun x40 =>
 Do (astore H39 1 x40 x38) fun H41 =>
Φ K.parse_parser_want [x7, (.str [59])] H41 fun x42 H43 =>
 L26 ([], H43)))) (
 JoinP (parse_Prog_k3 Φ x1 x3 x7 x21 Q) [] H28)
def parse_Prog (Φ : Calls') (a0 : AV) (H : AH) (Q : Post) : Prop :=
 DoH (some (abox H true [.lst .nil 0 [], .lst .nil 0 []])) fun x1 H2 =>
 DoH (some (abox H2 true [.int .i64 0, .int .i64 0])) fun x3 H4 =>
Φ K.parse_begin [a0] H4 fun x5 H6 =>
 Do (aextract 0 x5) fun x7 =>
 Do (aextract 1 x5) fun x8 =>
 DoH (some (abox H6 true [.int .i64 0, .int .i64 0])) fun x9 H10 =>
 Do (astore H10 2 x9 x8) fun H11 =>
 Do (afaddr 1 x9) fun x12 =>
 Do (aload H11 1 false x12) fun x13 =>
 Do (abin .neq x13 (.int .i64 0)) fun x14 =>
 Gd x14 true (
 Do (abuild [.lst .nil 0 [], .lst .nil 0 []] []) fun x15 =>
 Do (aload H11 2 true x9) fun x16 =>
 Do (astore H11 2 x1 x15) fun H17 =>
(aload H17 2 true x9 = some x16) ∧
(Do (astore H17 2 x3 x16) fun H18 =>
 Do (aload H18 2 true x1) fun x19 =>
 Do (aload H18 2 true x3) fun x20 =>
 Q (.tup [x19, x20]) H18)) (
 DoH (some (abox H11 true [.lst .nil 0 [], .lst .nil 0 []])) fun x21 H22 =>
 LoopP (parse_Prog_l4 Φ x1 x3 x7 x21 Q) ([], H22))
noncomputable def ir_parse_Prog : AFunc := decF Go.Proofs.YtbkkoplgicffgaaGreatDoor.rb.C ⟨6,[2,3,5,6,7],[[],[]],none,[],[]⟩
theorem eq_parse_Prog (Φ : Calls') (a0 : AV) (H : AH) (Q : Post) : fnE1 Φ ir_parse_Prog [a0] H Q = parse_Prog Φ a0 H Q := by kernel_rfl
def print_Prog_k1 (Φ : Calls') (x53 : AV) (Q : Post) : List AV → AH → Prop := fun j65 H66 =>
 Q (.tup [x53, (.int .i64 0)]) H66
def print_Prog_k2 (Φ : Calls') (x53 : AV) (Q : Post) : List AV → AH → Prop := fun j67 H68 =>
 Gd (sl j67 0) true (
 Q (.tup [(.str []), (.int .i64 4)]) H68) (
 JoinP (print_Prog_k1 Φ x53 Q) [] H68)
def print_Prog_k3 (Φ : Calls') (x1 : AV) (x4 : AV) (Q : Post) : List AV → AH → Prop := fun j34 H35 =>
 Do (anilck x4) fun x51 =>
 Do (afaddr 0 x51) fun x52 =>
Φ K.strings_Builder_String [x52] H35 fun x53 H54 =>
Φ K.parse_Prog [x53] H54 fun x55 H56 =>
 Do (aextract 0 x55) fun x57 =>
 Do (aextract 1 x55) fun x58 =>
 DoH (some (abox H56 true [.lst .nil 0 [], .lst .nil 0 []])) fun x59 H60 =>
 DoH (some (abox H60 true [.int .i64 0, .int .i64 0])) fun x61 H62 =>
 Do (astore H62 2 x59 x57) fun H63 =>
 Do (astore H63 2 x61 x58) fun H64 =>
 Do (afaddr 1 x61) fun x69 =>
 Do (aload H64 1 false x69) fun x70 =>
 Do (abin .neq x70 (.int .i64 0)) fun x71 =>
 Gd3 x71 false (
 Do (aload H64 2 true x1) fun x72 =>
 Do (aload H64 2 true x59) fun x73 =>
Φ K.print_Same [x72, x73] H64 fun x74 H75 =>
 Do (aun .not x74) fun x76 =>
 JoinP (print_Prog_k2 Φ x53 Q) [x76] H75) (
 JoinP (print_Prog_k2 Φ x53 Q) [(.bool true)] H64) (
 False)
def print_Prog_l4 (Φ : Calls') (x1 : AV) (x4 : AV) (x37 : AV) (x38 : AV) (Q : Post) : (List AV × AH) → ((List AV × AH) → Prop) → Prop := fun s39 L40 =>
 Do (abin .lss (sl s39.1 0) x38) fun x41 =>
 Gd x41 true (
 Do (aiaddr none 1 x37 (sl s39.1 0)) fun x42 =>
 Do (aload s39.2 1 false x42) fun x43 =>
 DoH (abslice s39.2 false 1 1 [.str []] [(0, 1, (.str [116, 104, 114, 101, 97, 100]))]) fun x44 H45 =>
Φ K.print_writer_words [x4, x44] H45 fun x46 H47 =>
Φ K.print_writer_block [x4, x43] H47 fun x48 H49 =>
 Do (abin .add (sl s39.1 0) (.int .i64 1)) fun x50 =>
 L40 ([x50], H49)) (
 JoinP (print_Prog_k3 Φ x1 x4 Q) [] s39.2)
def print_Prog_k5 (Φ : Calls') (x1 : AV) (x4 : AV) (Q : Post) : List AV → AH → Prop := fun j6 H7 =>
 Do (afaddr 1 x1) fun x36 =>
 Do (aload H7 1 false x36) fun x37 =>
 Do (alen false x37) fun x38 =>
 LoopP (print_Prog_l4 Φ x1 x4 x37 x38 Q) ([(.int .i64 0)], H7)
def print_Prog_l6 (Φ : Calls') (x1 : AV) (x4 : AV) (x9 : AV) (x10 : AV) (Q : Post) : (List AV × AH) → ((List AV × AH) → Prop) → Prop := fun s11 L12 =>
 Do (abin .lss (sl s11.1 0) x10) fun x13 =>
 Gd x13 true (
 Do (aiaddr none 7 x9 (sl s11.1 0)) fun x14 =>
 Do (aload s11.2 7 true x14) fun x15 =>
 DoH (some (abox s11.2 true [.str [], .int .i64 0, .int .i64 0, .bool false, .lst .nil 0 [], .int .i64 0, .lst .nil 0 []])) fun x16 H17 =>
 Do (astore H17 7 x16 x15) fun H18 =>
 Do (afaddr 0 x16) fun x19 =>
 Do (aload H18 1 false x19) fun x20 =>
 DoH (abslice H18 false 1 2 [.str []] [(0, 1, (.str [118, 97, 114])), (1, 1, x20)]) fun x21 H22 =>
Φ K.print_writer_words [x4, x21] H22 fun x23 H24 =>
 Do (afaddr 1 x16) fun x25 =>
 Do (aload H24 6 true x25) fun x26 =>
Φ K.print_writer_typ [x4, x26] H24 fun x27 H28 =>
 DoH (abslice H28 false 1 1 [.str []] [(0, 1, (.str [59]))]) fun x29 H30 =>
Φ K.print_writer_words [x4, x29] H30 fun x31 H32 =>
 Do (abin .add (sl s11.1 0) (.int .i64 1)) fun x33 =>
 L12 ([x33], H32)) (
 JoinP (print_Prog_k5 Φ x1 x4 Q) [] s11.2)
def print_Prog (Φ : Calls') (a0 : AV) (H : AH) (Q : Post) : Prop :=
 DoH (aboxv H false 2 a0) fun x1 H2 =>
 Do (abuild [.nilp, .lst .nil 0 []] []) fun x3 =>
 DoH (aext H2 (.bnew 79) [x3]) fun x4 H5 =>
 Do (afaddr 0 x1) fun x8 =>
 Do (aload H5 1 false x8) fun x9 =>
 Do (alen false x9) fun x10 =>
 LoopP (print_Prog_l6 Φ x1 x4 x9 x10 Q) ([(.int .i64 0)], H5)
noncomputable def ir_print_Prog : AFunc := decF Go.Proofs.YtbkkoplgicffgaaGreatDoor.rb.C ⟨8,[6,10,11,13],[[17],[37]],none,[],[]⟩
theorem eq_print_Prog (Φ : Calls') (a0 : AV) (H : AH) (Q : Post) : fnE1 Φ ir_print_Prog [a0] H Q = print_Prog Φ a0 H Q := by kernel_rfl
def print_Same (Φ : Calls') (a0 : AV) (a1 : AV) (H : AH) (Q : Post) : Prop :=
 DoH (aboxv H false 2 a0) fun x1 H2 =>
 DoH (aboxv H2 false 2 a1) fun x3 H4 =>
 Do (afaddr 0 x1) fun x5 =>
 Do (aload H4 1 false x5) fun x6 =>
 Do (afaddr 0 x3) fun x7 =>
 Do (aload H4 1 false x7) fun x8 =>
Φ K.slices_EqualFunc___api_Var___api_Var_api_Var_api_Var_ [x6, x8, (.fn K.print_Same_c1 [])] H4 fun x9 H10 =>
 Gd3 x9 true (
 Do (afaddr 1 x1) fun x11 =>
 Do (aload H10 1 false x11) fun x12 =>
 Do (afaddr 1 x3) fun x13 =>
 Do (aload H10 1 false x13) fun x14 =>
Φ K.slices_EqualFunc_____api_Stmt_____api_Stmt___api_Stmt___api_Stmt_ [x12, x14, (.fn K.print_Same_c2 [])] H10 fun x15 H16 =>
 Q x15 H16) (
 Q (.bool false) H10) (
 False)
noncomputable def ir_print_Same : AFunc := decF Go.Proofs.YtbkkoplgicffgaaGreatDoor.rb.C ⟨10,[],[],none,[],[]⟩
theorem eq_print_Same (Φ : Calls') (a0 a1 : AV) (H : AH) (Q : Post) : fnE1 Φ ir_print_Same [a0, a1] H Q = print_Same Φ a0 a1 H Q := by kernel_rfl
def rabbetlaw10_small_k1 (Φ : Calls') (x1 : AV) (s5 : List AV × AH) (L6 : (List AV × AH) → Prop) (Q : Post) : List AV → AH → Prop := fun j7 H8 =>
 Do (afaddr 1 x1) fun x16 =>
 Do (aload H8 1 false x16) fun x17 =>
 Do (aiaddr none 1 x17 (sl s5.1 1)) fun x18 =>
 Do (aload H8 1 false x18) fun x19 =>
 Do (alen false x19) fun x20 =>
 Do (abin .add (.int .i64 1) x20) fun x21 =>
 Do (abin .add (sl s5.1 0) x21) fun x22 =>
 Do (abin .add (sl s5.1 1) (.int .i64 1)) fun x23 =>
 L6 ([x22, x23], H8)
def rabbetlaw10_small_k2 (Φ : Calls') (x1 : AV) (Q : Post) : List AV → AH → Prop := fun j3 H4 =>
 Do (afaddr 0 x1) fun x24 =>
 Do (aload H4 1 false x24) fun x25 =>
 Do (alen false x25) fun x26 =>
 Do (abin .lss x26 (.int .i64 100)) fun x27 =>
 Gd3 x27 true (
 Do (abin .lss (sl j3 0) (.int .i64 400)) fun x28 =>
 Q x28 H4) (
 Q (.bool false) H4) (
 False)
def rabbetlaw10_small_k3 (Φ : Calls') (x1 : AV) (s5 : List AV × AH) (L6 : (List AV × AH) → Prop) (Q : Post) : List AV → AH → Prop := fun j9 H10 =>
 Gd (sl j9 0) true (
 JoinP (rabbetlaw10_small_k1 Φ x1 s5 L6 Q) [] H10) (
 JoinP (rabbetlaw10_small_k2 Φ x1 Q) [(sl s5.1 0)] H10)
def rabbetlaw10_small_l4 (Φ : Calls') (x1 : AV) (Q : Post) : (List AV × AH) → ((List AV × AH) → Prop) → Prop := fun s5 L6 =>
 Do (afaddr 1 x1) fun x11 =>
 Do (aload s5.2 1 false x11) fun x12 =>
 Do (alen false x12) fun x13 =>
 Do (abin .lss (sl s5.1 1) x13) fun x14 =>
 Gd3 x14 true (
 Do (abin .lss (sl s5.1 0) (.int .i64 400)) fun x15 =>
 JoinP (rabbetlaw10_small_k3 Φ x1 s5 L6 Q) [x15] s5.2) (
 JoinP (rabbetlaw10_small_k3 Φ x1 s5 L6 Q) [(.bool false)] s5.2) (
 False)
def rabbetlaw10_small (Φ : Calls') (a0 : AV) (H : AH) (Q : Post) : Prop :=
 DoH (aboxv H false 2 a0) fun x1 H2 =>
 LoopP (rabbetlaw10_small_l4 Φ x1 Q) ([(.int .i64 0), (.int .i64 0)], H2)
noncomputable def ir_rabbetlaw10_small : AFunc := decF Go.Proofs.YtbkkoplgicffgaaGreatDoor.rb.C ⟨17,[],[[3,4]],none,[],[]⟩
theorem eq_rabbetlaw10_small (Φ : Calls') (a0 : AV) (H : AH) (Q : Post) : fnE1 Φ ir_rabbetlaw10_small [a0] H Q = rabbetlaw10_small Φ a0 H Q := by kernel_rfl
def parse_begin_k1 (Φ : Calls') (x1 : AV) (x5 : AV) (Q : Post) : List AV → AH → Prop := fun j16 H17 =>
 Do (alen false x5) fun x25 =>
 Do (alen false x5) fun x26 =>
 Do (aslice 2 x5 none (some x25) (some x26)) fun x27 =>
 Do (abuild [.str [], .int .i64 0] [(1, 1, (sl j16 0))]) fun x28 =>
 DoH (abslice H17 false 2 1 [.str [], .int .i64 0] [(0, 2, x28)]) fun x29 H30 =>
 DoH (aappend H30 false 2 24 x27 x29) fun x31 H32 =>
 Do (abuild [.lst .nil 0 [], .int .i64 0, .int .i64 0] [(0, 1, x31)]) fun x33 =>
 DoH (aboxv H32 true 3 x33) fun x34 H35 =>
 Do (abuild [.int .i64 0, .int .i64 0] []) fun x36 =>
 Do (astore H35 2 x1 x36) fun H37 =>
 Do (aload H37 2 true x1) fun x38 =>
 Q (.tup [x34, x38]) H37
def parse_begin (Φ : Calls') (a0 : AV) (H : AH) (Q : Post) : Prop :=
 DoH (some (abox H true [.int .i64 0, .int .i64 0])) fun x1 H2 =>
Φ K.lex_Tokens [a0] H2 fun x3 H4 =>
 Do (aextract 0 x3) fun x5 =>
 Do (aextract 1 x3) fun x6 =>
 DoH (some (abox H4 true [.int .i64 0, .int .i64 0])) fun x7 H8 =>
 Do (astore H8 2 x7 x6) fun H9 =>
 Do (afaddr 1 x7) fun x10 =>
 Do (aload H9 1 false x10) fun x11 =>
 Do (abin .neq x11 (.int .i64 0)) fun x12 =>
 Gd x12 true (
 Do (aload H9 2 true x7) fun x13 =>
 Do (astore H9 2 x1 x13) fun H14 =>
 Do (aload H14 2 true x1) fun x15 =>
 Q (.tup [(.nilp), x15]) H14) (
 Do (alen false x5) fun x18 =>
 Do (abin .gtr x18 (.int .i64 0)) fun x19 =>
 Gd x19 true (
 Do (alen false x5) fun x20 =>
 Do (abin .sub x20 (.int .i64 1)) fun x21 =>
 Do (aiaddr none 2 x5 x21) fun x22 =>
 Do (afaddr 1 x22) fun x23 =>
 Do (aload H9 1 false x23) fun x24 =>
 JoinP (parse_begin_k1 Φ x1 x5 Q) [x24] H9) (
 JoinP (parse_begin_k1 Φ x1 x5 Q) [(.int .i64 0)] H9))
noncomputable def ir_parse_begin : AFunc := decF Go.Proofs.YtbkkoplgicffgaaGreatDoor.rb.C ⟨18,[3,5,37],[],none,[],[]⟩
theorem eq_parse_begin (Φ : Calls') (a0 : AV) (H : AH) (Q : Post) : fnE1 Φ ir_parse_begin [a0] H Q = parse_begin Φ a0 H Q := by kernel_rfl
def parse_parser_is_k1 (Φ : Calls') (a0 : AV) (Q : Post) : List AV → AH → Prop := fun j1 H2 =>
Φ K.parse_parser_next [a0] H2 fun x10 H11 =>
 Q (.bool true) H11
def parse_parser_is_k2 (Φ : Calls') (a0 : AV) (Q : Post) : List AV → AH → Prop := fun j3 H4 =>
 Gd (sl j3 0) true (
 Q (.bool false) H4) (
 JoinP (parse_parser_is_k1 Φ a0 Q) [] H4)
def parse_parser_is (Φ : Calls') (a0 : AV) (a1 : AV) (H : AH) (Q : Post) : Prop :=
Φ K.parse_parser_bad [a0] H fun x5 H6 =>
 Gd3 x5 false (
Φ K.parse_parser_peek [a0] H6 fun x7 H8 =>
 Do (abin .neq x7 a1) fun x9 =>
 JoinP (parse_parser_is_k2 Φ a0 Q) [x9] H8) (
 JoinP (parse_parser_is_k2 Φ a0 Q) [(.bool true)] H6) (
 False)
noncomputable def ir_parse_parser_is : AFunc := decF Go.Proofs.YtbkkoplgicffgaaGreatDoor.rb.C ⟨19,[],[],none,[],[]⟩
theorem eq_parse_parser_is (Φ : Calls') (a0 a1 : AV) (H : AH) (Q : Post) : fnE1 Φ ir_parse_parser_is [a0, a1] H Q = parse_parser_is Φ a0 a1 H Q := by kernel_rfl
def parse_parser_name_k1 (Φ : Calls') (a0 : AV) (Q : Post) : List AV → AH → Prop := fun j1 H2 =>
Φ K.parse_parser_next [a0] H2 fun x20 H21 =>
 Q x20 H21
def parse_parser_name_k2 (Φ : Calls') (a0 : AV) (Q : Post) : List AV → AH → Prop := fun j3 H4 =>
 Gd (sl j3 0) true (
Φ K.parse_parser_fail [a0, (.int .i64 4)] H4 fun x18 H19 =>
 Q (.str []) H19) (
 JoinP (parse_parser_name_k1 Φ a0 Q) [] H4)
def parse_parser_name_k3 (Φ : Calls') (a0 : AV) (Q : Post) : List AV → AH → Prop := fun j5 H6 =>
 Gd3 (sl j5 0) false (
Φ K.parse_parser_peek [a0] H6 fun x14 H15 =>
Φ K.lex_Keyword [x14] H15 fun x16 H17 =>
 JoinP (parse_parser_name_k2 Φ a0 Q) [x16] H17) (
 JoinP (parse_parser_name_k2 Φ a0 Q) [(.bool true)] H6) (
 False)
def parse_parser_name (Φ : Calls') (a0 : AV) (H : AH) (Q : Post) : Prop :=
Φ K.parse_parser_bad [a0] H fun x7 H8 =>
 Gd3 x7 false (
Φ K.parse_parser_peek [a0] H8 fun x9 H10 =>
Φ K.parse_letters [x9] H10 fun x11 H12 =>
 Do (aun .not x11) fun x13 =>
 JoinP (parse_parser_name_k3 Φ a0 Q) [x13] H12) (
 JoinP (parse_parser_name_k3 Φ a0 Q) [(.bool true)] H8) (
 False)
noncomputable def ir_parse_parser_name : AFunc := decF Go.Proofs.YtbkkoplgicffgaaGreatDoor.rb.C ⟨20,[],[],none,[],[]⟩
theorem eq_parse_parser_name (Φ : Calls') (a0 : AV) (H : AH) (Q : Post) : fnE1 Φ ir_parse_parser_name [a0] H Q = parse_parser_name Φ a0 H Q := by kernel_rfl
def parse_parser_typ_k1 (Φ : Calls') (a0 : AV) (a1 : AV) (x28 : AV) (L70 : (List AV × AH) → Prop) (Q : Post) : List AV → AH → Prop := fun j71 H72 =>
 Do (afaddr 3 x28) fun x81 =>
 Do (aload H72 1 false x81) fun x82 =>
Φ K.parse_parser_field [a0, a1] H72 fun x83 H84 =>
(aload H84 1 false x81 = some x82) ∧
(DoH (abslice H84 false 9 1 [.str [], .int .i64 0, .int .i64 0, .bool false, .lst .nil 0 [], .int .i64 0, .lst .nil 0 [], .bool false, .int .i64 0] [(0, 9, x83)]) fun x85 H86 =>
 DoH (aappend H86 false 9 112 x82 x85) fun x87 H88 =>
 Do (afaddr 3 x28) fun x89 =>
 Do (astore H88 1 x89 x87) fun H90 =>
 L70 ([], H90))
def parse_parser_typ_k2 (Φ : Calls') (x1 : AV) (x28 : AV) (Q : Post) : List AV → AH → Prop := fun j65 H66 =>
 Do (aload H66 6 true x28) fun x91 =>
 Do (astore H66 6 x1 x91) fun H92 =>
 Do (aload H92 6 true x1) fun x93 =>
 Q x93 H92
def parse_parser_typ_k3 (Φ : Calls') (a0 : AV) (a1 : AV) (x1 : AV) (x28 : AV) (L70 : (List AV × AH) → Prop) (Q : Post) : List AV → AH → Prop := fun j73 H74 =>
 Gd (sl j73 0) true (
 JoinP (parse_parser_typ_k1 Φ a0 a1 x28 L70 Q) [] H74) (
 JoinP (parse_parser_typ_k2 Φ x1 x28 Q) [] H74)
def parse_parser_typ_l4 (Φ : Calls') (a0 : AV) (a1 : AV) (x1 : AV) (x28 : AV) (Q : Post) : (List AV × AH) → ((List AV × AH) → Prop) → Prop := fun s69 L70 =>
Φ K.parse_parser_bad [a0] s69.2 fun x75 H76 =>
 Do (aun .not x75) fun x77 =>
 Gd3 x77 true (
Φ K.parse_parser_is [a0, (.str [125])] H76 fun x78 H79 =>
 Do (aun .not x78) fun x80 =>
 JoinP (parse_parser_typ_k3 Φ a0 a1 x1 x28 L70 Q) [x80] H79) (
 JoinP (parse_parser_typ_k3 Φ a0 a1 x1 x28 L70 Q) [(.bool false)] H76) (
 False)
def parse_parser_typ (Φ : Calls') (a0 : AV) (a1 : AV) (H : AH) (Q : Post) : Prop :=
 DoH (some (abox H true [.int .i64 0, .int .i64 0, .bool false, .lst .nil 0 [], .int .i64 0, .lst .nil 0 []])) fun x1 H2 =>
Φ K.parse_parser_deep [a0, a1] H2 fun x3 H4 =>
 Do (aun .not x3) fun x5 =>
 Gd x5 true (
 Do (abuild [.int .i64 0, .int .i64 0, .bool false, .lst .nil 0 [], .int .i64 0, .lst .nil 0 []] []) fun x6 =>
 Do (astore H4 6 x1 x6) fun H7 =>
 Do (aload H7 6 true x1) fun x8 =>
 Q x8 H7) (
Φ K.parse_parser_peek [a0] H4 fun x9 H10 =>
Φ K.parse_scalar [x9] H10 fun x11 H12 =>
 Do (aextract 0 x11) fun x13 =>
 Do (aextract 1 x11) fun x14 =>
 DoH (some (abox H12 true [.int .i64 0, .int .i64 0, .bool false, .lst .nil 0 [], .int .i64 0, .lst .nil 0 []])) fun x15 H16 =>
 Do (astore H16 6 x15 x13) fun H17 =>
 Gd x14 true (
Φ K.parse_parser_next [a0] H17 fun x18 H19 =>
 Do (aload H19 6 true x15) fun x20 =>
 Do (astore H19 6 x1 x20) fun H21 =>
 Do (aload H21 6 true x1) fun x22 =>
 Q x22 H21) (
Φ K.parse_parser_peek [a0] H17 fun x23 H24 =>
Φ K.parse_kind [x23] H24 fun x25 H26 =>
 Do (abuild [.int .i64 0, .int .i64 0, .bool false, .lst .nil 0 [], .int .i64 0, .lst .nil 0 []] [(0, 1, x25)]) fun x27 =>
 DoH (some (abox H26 true [.int .i64 0, .int .i64 0, .bool false, .lst .nil 0 [], .int .i64 0, .lst .nil 0 []])) fun x28 H29 =>
 Do (astore H29 6 x28 x27) fun H30 =>
 Do (afaddr 0 x28) fun x31 =>
 Do (aload H30 1 false x31) fun x32 =>
 Do (abin .eql x32 (.int .i64 0)) fun x33 =>
 Gd x33 true (
Φ K.parse_parser_fail [a0, (.int .i64 4)] H30 fun x34 H35 =>
 Do (abuild [.int .i64 0, .int .i64 0, .bool false, .lst .nil 0 [], .int .i64 0, .lst .nil 0 []] []) fun x36 =>
 Do (astore H35 6 x1 x36) fun H37 =>
 Do (aload H37 6 true x1) fun x38 =>
 Q x38 H37) (
 Do (abin .eql x32 (.int .i64 5)) fun x39 =>
 Gd x39 true (
Φ K.parse_parser_next [a0] H30 fun x40 H41 =>
Φ K.parse_parser_number [a0, (.int .u64 1073741824)] H41 fun x42 H43 =>
 Do (aconv .i64 x42) fun x44 =>
 Do (afaddr 4 x28) fun x45 =>
 Do (astore H43 1 x45 x44) fun H46 =>
Φ K.parse_parser_want [a0, (.str [93])] H46 fun x47 H48 =>
 Do (abin .add a1 (.int .i64 1)) fun x49 =>
Φ K.parse_parser_typ [a0, x49] H48 fun x50 H51 =>
 DoH (abslice H51 false 6 1 [.int .i64 0, .int .i64 0, .bool false, .lst .nil 0 [], .int .i64 0, .lst .nil 0 []] [(0, 6, x50)]) fun x52 H53 =>
 Do (afaddr 5 x28) fun x54 =>
 Do (astore H53 1 x54 x52) fun H55 =>
 Do (aload H55 6 true x28) fun x56 =>
 Do (astore H55 6 x1 x56) fun H57 =>
 Do (aload H57 6 true x1) fun x58 =>
 Q x58 H57) (
Φ K.parse_parser_next [a0] H30 fun x59 H60 =>
Φ K.parse_parser_is [a0, (.str [112, 97, 99, 107, 101, 100])] H60 fun x61 H62 =>
 Do (afaddr 2 x28) fun x63 =>
 Do (astore H62 1 x63 x61) fun H64 =>
Φ K.parse_parser_want [a0, (.str [123])] H64 fun x67 H68 =>
 LoopP (parse_parser_typ_l4 Φ a0 a1 x1 x28 Q) ([], H68)))))
noncomputable def ir_parse_parser_typ : AFunc := decF Go.Proofs.YtbkkoplgicffgaaGreatDoor.rb.C ⟨21,[4,5,7],[[]],none,[],[]⟩
theorem eq_parse_parser_typ (Φ : Calls') (a0 a1 : AV) (H : AH) (Q : Post) : fnE1 Φ ir_parse_parser_typ [a0, a1] H Q = parse_parser_typ Φ a0 a1 H Q := by kernel_rfl
def parse_parser_want_k1 (Φ : Calls') (a0 : AV) (Q : Post) : List AV → AH → Prop := fun j1 H2 =>
 Gd (sl j1 0) true (
Φ K.parse_parser_fail [a0, (.int .i64 4)] H2 fun x9 H10 =>
 Q (.tup []) H10) (
 Q (.tup []) H2)
def parse_parser_want (Φ : Calls') (a0 : AV) (a1 : AV) (H : AH) (Q : Post) : Prop :=
Φ K.parse_parser_bad [a0] H fun x3 H4 =>
 Do (aun .not x3) fun x5 =>
 Gd3 x5 true (
Φ K.parse_parser_is [a0, a1] H4 fun x6 H7 =>
 Do (aun .not x6) fun x8 =>
 JoinP (parse_parser_want_k1 Φ a0 Q) [x8] H7) (
 JoinP (parse_parser_want_k1 Φ a0 Q) [(.bool false)] H4) (
 False)
noncomputable def ir_parse_parser_want : AFunc := decF Go.Proofs.YtbkkoplgicffgaaGreatDoor.rb.C ⟨22,[],[],none,[],[]⟩
theorem eq_parse_parser_want (Φ : Calls') (a0 a1 : AV) (H : AH) (Q : Post) : fnE1 Φ ir_parse_parser_want [a0, a1] H Q = parse_parser_want Φ a0 a1 H Q := by kernel_rfl
def parse_parser_block_k1 (Φ : Calls') (a0 : AV) (a1 : AV) (s6 : List AV × AH) (L7 : (List AV × AH) → Prop) (Q : Post) : List AV → AH → Prop := fun j8 H9 =>
Φ K.parse_parser_stmt [a0, a1] H9 fun x18 H19 =>
 DoH (abslice H19 false 10 1 [.int .i64 0, .int .i64 0, .str [], .str [], .int .i64 0, .str [], .lst .nil 0 [], .lst .nil 0 [], .lst .nil 0 [], .lst .nil 0 []] [(0, 10, x18)]) fun x20 H21 =>
 DoH (aappend H21 false 10 168 (sl s6.1 0) x20) fun x22 H23 =>
 L7 ([x22], H23)
def parse_parser_block_k2 (Φ : Calls') (a0 : AV) (a1 : AV) (s6 : List AV × AH) (L7 : (List AV × AH) → Prop) (Q : Post) : List AV → AH → Prop := fun j10 H11 =>
 Gd (sl j10 0) true (
 JoinP (parse_parser_block_k1 Φ a0 a1 s6 L7 Q) [] H11) (
 Q (sl s6.1 0) H11)
def parse_parser_block_l3 (Φ : Calls') (a0 : AV) (a1 : AV) (Q : Post) : (List AV × AH) → ((List AV × AH) → Prop) → Prop := fun s6 L7 =>
Φ K.parse_parser_bad [a0] s6.2 fun x12 H13 =>
 Do (aun .not x12) fun x14 =>
 Gd3 x14 true (
Φ K.parse_parser_is [a0, (.str [125])] H13 fun x15 H16 =>
 Do (aun .not x15) fun x17 =>
 JoinP (parse_parser_block_k2 Φ a0 a1 s6 L7 Q) [x17] H16) (
 JoinP (parse_parser_block_k2 Φ a0 a1 s6 L7 Q) [(.bool false)] H13) (
 False)
def parse_parser_block (Φ : Calls') (a0 : AV) (a1 : AV) (H : AH) (Q : Post) : Prop :=
Φ K.parse_parser_deep [a0, a1] H fun x1 H2 =>
 Do (aun .not x1) fun x3 =>
 Gd x3 true (
 Q (.lst .nil 0 []) H2) (
Φ K.parse_parser_want [a0, (.str [123])] H2 fun x4 H5 =>
 LoopP (parse_parser_block_l3 Φ a0 a1 Q) ([(.lst .nil 0 [])], H5))
noncomputable def ir_parse_parser_block : AFunc := decF Go.Proofs.YtbkkoplgicffgaaGreatDoor.rb.C ⟨23,[],[[5]],none,[],[]⟩
theorem eq_parse_parser_block (Φ : Calls') (a0 a1 : AV) (H : AH) (Q : Post) : fnE1 Φ ir_parse_parser_block [a0, a1] H Q = parse_parser_block Φ a0 a1 H Q := by kernel_rfl
def parse_parser_end_k1 (Φ : Calls') (a0 : AV) (x1 : AV) (Q : Post) : List AV → AH → Prop := fun j3 H4 =>
 Do (anilck a0) fun x17 =>
 Do (afaddr 1 x17) fun x18 =>
 Do (aload H4 2 true x18) fun x19 =>
 Do (astore H4 2 x1 x19) fun H20 =>
 Do (aload H20 2 true x1) fun x21 =>
 Q x21 H20
def parse_parser_end_k2 (Φ : Calls') (a0 : AV) (x1 : AV) (Q : Post) : List AV → AH → Prop := fun j5 H6 =>
 Gd (sl j5 0) true (
Φ K.parse_parser_fail [a0, (.int .i64 4)] H6 fun x15 H16 =>
 JoinP (parse_parser_end_k1 Φ a0 x1 Q) [] H16) (
 JoinP (parse_parser_end_k1 Φ a0 x1 Q) [] H6)
def parse_parser_end (Φ : Calls') (a0 : AV) (H : AH) (Q : Post) : Prop :=
 DoH (some (abox H true [.int .i64 0, .int .i64 0])) fun x1 H2 =>
Φ K.parse_parser_bad [a0] H2 fun x7 H8 =>
 Do (aun .not x7) fun x9 =>
 Gd3 x9 true (
 Do (anilck a0) fun x10 =>
 Do (afaddr 0 x10) fun x11 =>
 Do (aload H8 1 false x11) fun x12 =>
 Do (alen false x12) fun x13 =>
 Do (abin .gtr x13 (.int .i64 1)) fun x14 =>
 JoinP (parse_parser_end_k2 Φ a0 x1 Q) [x14] H8) (
 JoinP (parse_parser_end_k2 Φ a0 x1 Q) [(.bool false)] H8) (
 False)
noncomputable def ir_parse_parser_end : AFunc := decF Go.Proofs.YtbkkoplgicffgaaGreatDoor.rb.C ⟨24,[2],[],none,[],[]⟩
theorem eq_parse_parser_end (Φ : Calls') (a0 : AV) (H : AH) (Q : Post) : fnE1 Φ ir_parse_parser_end [a0] H Q = parse_parser_end Φ a0 H Q := by kernel_rfl
def print_writer_words_k1 (Φ : Calls') (s2 : List AV × AH) (L3 : (List AV × AH) → Prop) (Q : Post) : List AV → AH → Prop := fun j5 H6 =>
 Do (abin .add (sl s2.1 0) (.int .i64 1)) fun x29 =>
 L3 ([x29], H6)
def print_writer_words_k2 (Φ : Calls') (a0 : AV) (s2 : List AV × AH) (L3 : (List AV × AH) → Prop) (Q : Post) : List AV → AH → Prop := fun j18 H19 =>
 Gd (sl j18 0) true (
 Do (anilck a0) fun x25 =>
 Do (afaddr 0 x25) fun x26 =>
Φ K.strings_Builder_WriteString [x26, (.str [10])] H19 fun x27 H28 =>
 JoinP (print_writer_words_k1 Φ s2 L3 Q) [] H28) (
 Do (anilck a0) fun x30 =>
 Do (afaddr 0 x30) fun x31 =>
Φ K.strings_Builder_WriteString [x31, (.str [32])] H19 fun x32 H33 =>
 JoinP (print_writer_words_k1 Φ s2 L3 Q) [] H33)
def print_writer_words_k3 (Φ : Calls') (a0 : AV) (x8 : AV) (s2 : List AV × AH) (L3 : (List AV × AH) → Prop) (Q : Post) : List AV → AH → Prop := fun j20 H21 =>
 Gd3 (sl j20 0) false (
 Do (abin .eql x8 (.str [125])) fun x24 =>
 JoinP (print_writer_words_k2 Φ a0 s2 L3 Q) [x24] H21) (
 JoinP (print_writer_words_k2 Φ a0 s2 L3 Q) [(.bool true)] H21) (
 False)
def print_writer_words_l4 (Φ : Calls') (a0 : AV) (a1 : AV) (x1 : AV) (Q : Post) : (List AV × AH) → ((List AV × AH) → Prop) → Prop := fun s2 L3 =>
 Do (abin .lss (sl s2.1 0) x1) fun x4 =>
 Gd x4 true (
 Do (aiaddr none 1 a1 (sl s2.1 0)) fun x7 =>
 Do (aload s2.2 1 false x7) fun x8 =>
 Do (anilck a0) fun x9 =>
 Do (afaddr 0 x9) fun x10 =>
Φ K.strings_Builder_Len [x10] s2.2 fun x11 H12 =>
 Do (abin .gtr x11 (.int .i64 4194304)) fun x13 =>
 Gd x13 true (
 Q (.tup []) H12) (
 Do (anilck a0) fun x14 =>
 Do (afaddr 0 x14) fun x15 =>
Φ K.strings_Builder_WriteString [x15, x8] H12 fun x16 H17 =>
 Do (abin .eql x8 (.str [59])) fun x22 =>
 Gd3 x22 false (
 Do (abin .eql x8 (.str [123])) fun x23 =>
 JoinP (print_writer_words_k3 Φ a0 x8 s2 L3 Q) [x23] H17) (
 JoinP (print_writer_words_k3 Φ a0 x8 s2 L3 Q) [(.bool true)] H17) (
 False))) (
 Q (.tup []) s2.2)
def print_writer_words (Φ : Calls') (a0 : AV) (a1 : AV) (H : AH) (Q : Post) : Prop :=
 Do (alen false a1) fun x1 =>
 LoopP (print_writer_words_l4 Φ a0 a1 x1 Q) ([(.int .i64 0)], H)
noncomputable def ir_print_writer_words : AFunc := decF Go.Proofs.YtbkkoplgicffgaaGreatDoor.rb.C ⟨26,[],[[8]],none,[],[]⟩
theorem eq_print_writer_words (Φ : Calls') (a0 a1 : AV) (H : AH) (Q : Post) : fnE1 Φ ir_print_writer_words [a0, a1] H Q = print_writer_words Φ a0 a1 H Q := by kernel_rfl
def print_writer_typ_k1 (Φ : Calls') (a0 : AV) (x1 : AV) (Q : Post) : List AV → AH → Prop := fun j73 H74 =>
 DoH (abslice H74 false 1 1 [.str []] [(0, 1, (.str [123]))]) fun x81 H82 =>
Φ K.print_writer_words [a0, x81] H82 fun x83 H84 =>
 Do (afaddr 3 x1) fun x85 =>
 Do (aload H84 1 false x85) fun x86 =>
Φ K.print_each_api_Field_ [x86, (.fn (K.print_writer_field + 1048576) [a0])] H84 fun x87 H88 =>
 DoH (abslice H88 false 1 1 [.str []] [(0, 1, (.str [125]))]) fun x89 H90 =>
Φ K.print_writer_words [a0, x89] H90 fun x91 H92 =>
 Q (.tup []) H92
def print_writer_typ_k2 (Φ : Calls') (a0 : AV) (x1 : AV) (Q : Post) : List AV → AH → Prop := fun j54 H55 =>
 Gd (sl j54 0) true (
 Do (afaddr 0 x1) fun x62 =>
 Do (aload H55 1 false x62) fun x63 =>
 Do (abin .sub x63 (.int .i64 3)) fun x64 =>
 DoH (abslice H55 false 1 2 [.str []] [(0, 1, (.str [115, 116, 114, 117, 99, 116])), (1, 1, (.str [117, 110, 105, 111, 110]))]) fun x65 H66 =>
Φ K.print_of [x64, x65] H66 fun x67 H68 =>
 DoH (abslice H68 false 1 1 [.str []] [(0, 1, x67)]) fun x69 H70 =>
Φ K.print_writer_words [a0, x69] H70 fun x71 H72 =>
 Do (afaddr 2 x1) fun x75 =>
 Do (aload H72 1 false x75) fun x76 =>
 Gd x76 true (
 DoH (abslice H72 false 1 1 [.str []] [(0, 1, (.str [112, 97, 99, 107, 101, 100]))]) fun x77 H78 =>
Φ K.print_writer_words [a0, x77] H78 fun x79 H80 =>
 JoinP (print_writer_typ_k1 Φ a0 x1 Q) [] H80) (
 JoinP (print_writer_typ_k1 Φ a0 x1 Q) [] H72)) (
 Q (.tup []) H55)
def print_writer_typ_k3 (Φ : Calls') (a0 : AV) (x1 : AV) (Q : Post) : List AV → AH → Prop := fun j31 H32 =>
 Gd (sl j31 0) true (
 Do (afaddr 4 x1) fun x40 =>
 Do (aload H32 1 false x40) fun x41 =>
Φ K.print_number [x41] H32 fun x42 H43 =>
 DoH (abslice H43 false 1 3 [.str []] [(0, 1, (.str [91])), (1, 1, x42), (2, 1, (.str [93]))]) fun x44 H45 =>
Φ K.print_writer_words [a0, x44] H45 fun x46 H47 =>
 Do (afaddr 5 x1) fun x48 =>
 Do (aload H47 1 false x48) fun x49 =>
 Do (aiaddr none 6 x49 (.int .i64 0)) fun x50 =>
 Do (aload H47 6 true x50) fun x51 =>
Φ K.print_writer_typ [a0, x51] H47 fun x52 H53 =>
 Q (.tup []) H53) (
 Do (afaddr 0 x1) fun x56 =>
 Do (aload H32 1 false x56) fun x57 =>
 Do (abin .eql x57 (.int .i64 3)) fun x58 =>
 Gd3 x58 false (
 Do (afaddr 0 x1) fun x59 =>
 Do (aload H32 1 false x59) fun x60 =>
 Do (abin .eql x60 (.int .i64 4)) fun x61 =>
 JoinP (print_writer_typ_k2 Φ a0 x1 Q) [x61] H32) (
 JoinP (print_writer_typ_k2 Φ a0 x1 Q) [(.bool true)] H32) (
 False))
def print_writer_typ (Φ : Calls') (a0 : AV) (a1 : AV) (H : AH) (Q : Post) : Prop :=
 DoH (aboxv H false 6 a1) fun x1 H2 =>
Φ K.print_writer_full [a0] H2 fun x3 H4 =>
 Gd x3 true (
 Q (.tup []) H4) (
 Do (afaddr 0 x1) fun x5 =>
 Do (aload H4 1 false x5) fun x6 =>
 Do (abin .eql x6 (.int .i64 1)) fun x7 =>
 Gd x7 true (
 Do (afaddr 1 x1) fun x8 =>
 Do (aload H4 1 false x8) fun x9 =>
 Do (abin .mul (.int .i64 8) x9) fun x10 =>
Φ K.print_number [x10] H4 fun x11 H12 =>
 Do (abin .add (.str [117]) x11) fun x13 =>
 DoH (abslice H12 false 1 1 [.str []] [(0, 1, x13)]) fun x14 H15 =>
Φ K.print_writer_words [a0, x14] H15 fun x16 H17 =>
 Q (.tup []) H17) (
 Do (afaddr 0 x1) fun x18 =>
 Do (aload H4 1 false x18) fun x19 =>
 Do (abin .eql x19 (.int .i64 2)) fun x20 =>
 Gd x20 true (
 Do (afaddr 1 x1) fun x21 =>
 Do (aload H4 1 false x21) fun x22 =>
 Do (abin .mul (.int .i64 8) x22) fun x23 =>
Φ K.print_number [x23] H4 fun x24 H25 =>
 Do (abin .add (.str [97]) x24) fun x26 =>
 DoH (abslice H25 false 1 1 [.str []] [(0, 1, x26)]) fun x27 H28 =>
Φ K.print_writer_words [a0, x27] H28 fun x29 H30 =>
 Q (.tup []) H30) (
 Do (afaddr 0 x1) fun x33 =>
 Do (aload H4 1 false x33) fun x34 =>
 Do (abin .eql x34 (.int .i64 5)) fun x35 =>
 Gd3 x35 true (
 Do (afaddr 5 x1) fun x36 =>
 Do (aload H4 1 false x36) fun x37 =>
 Do (alen false x37) fun x38 =>
 Do (abin .eql x38 (.int .i64 1)) fun x39 =>
 JoinP (print_writer_typ_k3 Φ a0 x1 Q) [x39] H4) (
 JoinP (print_writer_typ_k3 Φ a0 x1 Q) [(.bool false)] H4) (
 False))))
noncomputable def ir_print_writer_typ : AFunc := decF Go.Proofs.YtbkkoplgicffgaaGreatDoor.rb.C ⟨27,[],[],none,[],[]⟩
theorem eq_print_writer_typ (Φ : Calls') (a0 a1 : AV) (H : AH) (Q : Post) : fnE1 Φ ir_print_writer_typ [a0, a1] H Q = print_writer_typ Φ a0 a1 H Q := by kernel_rfl
def print_writer_block (Φ : Calls') (a0 : AV) (a1 : AV) (H : AH) (Q : Post) : Prop :=
 DoH (abslice H false 1 1 [.str []] [(0, 1, (.str [123]))]) fun x1 H2 =>
Φ K.print_writer_words [a0, x1] H2 fun x3 H4 =>
Φ K.print_each_api_Stmt_ [a1, (.fn (K.print_writer_stmt + 1048576) [a0])] H4 fun x5 H6 =>
 DoH (abslice H6 false 1 1 [.str []] [(0, 1, (.str [125]))]) fun x7 H8 =>
Φ K.print_writer_words [a0, x7] H8 fun x9 H10 =>
 Q (.tup []) H10
noncomputable def ir_print_writer_block : AFunc := decF Go.Proofs.YtbkkoplgicffgaaGreatDoor.rb.C ⟨28,[],[],none,[],[]⟩
theorem eq_print_writer_block (Φ : Calls') (a0 a1 : AV) (H : AH) (Q : Post) : fnE1 Φ ir_print_writer_block [a0, a1] H Q = print_writer_block Φ a0 a1 H Q := by kernel_rfl
def slices_EqualFunc___api_Var___api_Var_api_Var_api_Var__l1 (Φ : Calls') (a0 : AV) (a1 : AV) (a2 : AV) (x4 : AV) (Q : Post) : (List AV × AH) → ((List AV × AH) → Prop) → Prop := fun s5 L6 =>
 Do (abin .lss (sl s5.1 0) x4) fun x7 =>
 Gd x7 true (
 Do (aiaddr none 7 a0 (sl s5.1 0)) fun x8 =>
 Do (aload s5.2 7 true x8) fun x9 =>
 DoH (some (abox s5.2 true [.str [], .int .i64 0, .int .i64 0, .bool false, .lst .nil 0 [], .int .i64 0, .lst .nil 0 []])) fun x10 H11 =>
 Do (astore H11 7 x10 x9) fun H12 =>
 Do (aiaddr none 7 a1 (sl s5.1 0)) fun x13 =>
 Do (aload H12 7 true x13) fun x14 =>
 DoH (some (abox H12 true [.str [], .int .i64 0, .int .i64 0, .bool false, .lst .nil 0 [], .int .i64 0, .lst .nil 0 []])) fun x15 H16 =>
 Do (astore H16 7 x15 x14) fun H17 =>
 Do (aload H17 7 true x10) fun x18 =>
 Do (aload H17 7 true x15) fun x19 =>
∃ k22 c23, a2 = .fn k22 c23 ∧ Φ (fkey k22) (fargs k22 [x18, x19] c23) H17 fun x20 H21 =>
 Do (aun .not x20) fun x24 =>
 Gd x24 true (
 Q (.bool false) H21) (
 Do (abin .add (sl s5.1 0) (.int .i64 1)) fun x25 =>
 L6 ([x25], H21))) (
 Q (.bool true) s5.2)
def slices_EqualFunc___api_Var___api_Var_api_Var_api_Var_ (Φ : Calls') (a0 : AV) (a1 : AV) (a2 : AV) (H : AH) (Q : Post) : Prop :=
 Do (alen false a0) fun x1 =>
 Do (alen false a1) fun x2 =>
 Do (abin .neq x1 x2) fun x3 =>
 Gd x3 true (
 Q (.bool false) H) (
 Do (alen false a0) fun x4 =>
 LoopP (slices_EqualFunc___api_Var___api_Var_api_Var_api_Var__l1 Φ a0 a1 a2 x4 Q) ([(.int .i64 0)], H))
noncomputable def ir_slices_EqualFunc___api_Var___api_Var_api_Var_api_Var_ : AFunc := decF Go.Proofs.YtbkkoplgicffgaaGreatDoor.rb.C ⟨31,[8,9],[[17]],none,[],[]⟩
theorem eq_slices_EqualFunc___api_Var___api_Var_api_Var_api_Var_ (Φ : Calls') (a0 a1 a2 : AV) (H : AH) (Q : Post) : fnE1 Φ ir_slices_EqualFunc___api_Var___api_Var_api_Var_api_Var_ [a0, a1, a2] H Q = slices_EqualFunc___api_Var___api_Var_api_Var_api_Var_ Φ a0 a1 a2 H Q := by kernel_rfl
def print_Same_c1 (Φ : Calls') (a0 : AV) (a1 : AV) (H : AH) (Q : Post) : Prop :=
 DoH (aboxv H false 7 a0) fun x1 H2 =>
 DoH (aboxv H2 false 7 a1) fun x3 H4 =>
 Do (afaddr 0 x1) fun x5 =>
 Do (aload H4 1 false x5) fun x6 =>
 Do (afaddr 0 x3) fun x7 =>
 Do (aload H4 1 false x7) fun x8 =>
 Do (abin .eql x6 x8) fun x9 =>
 Gd3 x9 true (
 Do (afaddr 1 x1) fun x10 =>
 Do (aload H4 6 true x10) fun x11 =>
 Do (afaddr 1 x3) fun x12 =>
 Do (aload H4 6 true x12) fun x13 =>
Φ K.print_sameType [x11, x13] H4 fun x14 H15 =>
 Q x14 H15) (
 Q (.bool false) H4) (
 False)
noncomputable def ir_print_Same_c1 : AFunc := decF Go.Proofs.YtbkkoplgicffgaaGreatDoor.rb.C ⟨32,[],[],none,[],[]⟩
theorem eq_print_Same_c1 (Φ : Calls') (a0 a1 : AV) (H : AH) (Q : Post) : fnE1 Φ ir_print_Same_c1 [a0, a1] H Q = print_Same_c1 Φ a0 a1 H Q := by kernel_rfl
def print_sameType_k1 (Φ : Calls') (x1 : AV) (x3 : AV) (Q : Post) : List AV → AH → Prop := fun j31 H32 =>
 Gd3 (sl j31 0) true (
 Do (afaddr 3 x1) fun x39 =>
 Do (aload H32 1 false x39) fun x40 =>
 Do (afaddr 3 x3) fun x41 =>
 Do (aload H32 1 false x41) fun x42 =>
Φ K.slices_EqualFunc___api_Field___api_Field_api_Field_api_Field_ [x40, x42, (.fn K.print_sameType_c1 [])] H32 fun x43 H44 =>
 Q x43 H44) (
 Q (.bool false) H32) (
 False)
def print_sameType_k2 (Φ : Calls') (x1 : AV) (x3 : AV) (Q : Post) : List AV → AH → Prop := fun j24 H25 =>
 Gd3 (sl j24 0) true (
 Do (afaddr 5 x1) fun x33 =>
 Do (aload H25 1 false x33) fun x34 =>
 Do (afaddr 5 x3) fun x35 =>
 Do (aload H25 1 false x35) fun x36 =>
Φ K.slices_EqualFunc___api_Type___api_Type_api_Type_api_Type_ [x34, x36, (.fn K.print_sameType [])] H25 fun x37 H38 =>
 JoinP (print_sameType_k1 Φ x1 x3 Q) [x37] H38) (
 JoinP (print_sameType_k1 Φ x1 x3 Q) [(.bool false)] H25) (
 False)
def print_sameType_k3 (Φ : Calls') (x1 : AV) (x3 : AV) (Q : Post) : List AV → AH → Prop := fun j17 H18 =>
 Gd3 (sl j17 0) true (
 Do (afaddr 4 x1) fun x26 =>
 Do (aload H18 1 false x26) fun x27 =>
 Do (afaddr 4 x3) fun x28 =>
 Do (aload H18 1 false x28) fun x29 =>
 Do (abin .eql x27 x29) fun x30 =>
 JoinP (print_sameType_k2 Φ x1 x3 Q) [x30] H18) (
 JoinP (print_sameType_k2 Φ x1 x3 Q) [(.bool false)] H18) (
 False)
def print_sameType_k4 (Φ : Calls') (x1 : AV) (x3 : AV) (Q : Post) : List AV → AH → Prop := fun j5 H6 =>
 Gd3 (sl j5 0) true (
 Do (afaddr 2 x1) fun x19 =>
 Do (aload H6 1 false x19) fun x20 =>
 Do (afaddr 2 x3) fun x21 =>
 Do (aload H6 1 false x21) fun x22 =>
 Do (abeq false x20 x22) fun x23 =>
 JoinP (print_sameType_k3 Φ x1 x3 Q) [x23] H6) (
 JoinP (print_sameType_k3 Φ x1 x3 Q) [(.bool false)] H6) (
 False)
def print_sameType (Φ : Calls') (a0 : AV) (a1 : AV) (H : AH) (Q : Post) : Prop :=
 DoH (aboxv H false 6 a0) fun x1 H2 =>
 DoH (aboxv H2 false 6 a1) fun x3 H4 =>
 Do (afaddr 0 x1) fun x7 =>
 Do (aload H4 1 false x7) fun x8 =>
 Do (afaddr 0 x3) fun x9 =>
 Do (aload H4 1 false x9) fun x10 =>
 Do (abin .eql x8 x10) fun x11 =>
 Gd3 x11 true (
 Do (afaddr 1 x1) fun x12 =>
 Do (aload H4 1 false x12) fun x13 =>
 Do (afaddr 1 x3) fun x14 =>
 Do (aload H4 1 false x14) fun x15 =>
 Do (abin .eql x13 x15) fun x16 =>
 JoinP (print_sameType_k4 Φ x1 x3 Q) [x16] H4) (
 JoinP (print_sameType_k4 Φ x1 x3 Q) [(.bool false)] H4) (
 False)
noncomputable def ir_print_sameType : AFunc := decF Go.Proofs.YtbkkoplgicffgaaGreatDoor.rb.C ⟨33,[],[],none,[],[]⟩
theorem eq_print_sameType (Φ : Calls') (a0 a1 : AV) (H : AH) (Q : Post) : fnE1 Φ ir_print_sameType [a0, a1] H Q = print_sameType Φ a0 a1 H Q := by kernel_rfl
def slices_EqualFunc_____api_Stmt_____api_Stmt___api_Stmt___api_Stmt__l1 (Φ : Calls') (a0 : AV) (a1 : AV) (a2 : AV) (x4 : AV) (Q : Post) : (List AV × AH) → ((List AV × AH) → Prop) → Prop := fun s5 L6 =>
 Do (abin .lss (sl s5.1 0) x4) fun x7 =>
 Gd x7 true (
 Do (aiaddr none 1 a0 (sl s5.1 0)) fun x8 =>
 Do (aload s5.2 1 false x8) fun x9 =>
 Do (aiaddr none 1 a1 (sl s5.1 0)) fun x10 =>
 Do (aload s5.2 1 false x10) fun x11 =>
∃ k14 c15, a2 = .fn k14 c15 ∧ Φ (fkey k14) (fargs k14 [x9, x11] c15) s5.2 fun x12 H13 =>
 Do (aun .not x12) fun x16 =>
 Gd x16 true (
 Q (.bool false) H13) (
 Do (abin .add (sl s5.1 0) (.int .i64 1)) fun x17 =>
 L6 ([x17], H13))) (
 Q (.bool true) s5.2)
def slices_EqualFunc_____api_Stmt_____api_Stmt___api_Stmt___api_Stmt_ (Φ : Calls') (a0 : AV) (a1 : AV) (a2 : AV) (H : AH) (Q : Post) : Prop :=
 Do (alen false a0) fun x1 =>
 Do (alen false a1) fun x2 =>
 Do (abin .neq x1 x2) fun x3 =>
 Gd x3 true (
 Q (.bool false) H) (
 Do (alen false a0) fun x4 =>
 LoopP (slices_EqualFunc_____api_Stmt_____api_Stmt___api_Stmt___api_Stmt__l1 Φ a0 a1 a2 x4 Q) ([(.int .i64 0)], H))
noncomputable def ir_slices_EqualFunc_____api_Stmt_____api_Stmt___api_Stmt___api_Stmt_ : AFunc := decF Go.Proofs.YtbkkoplgicffgaaGreatDoor.rb.C ⟨34,[],[[17]],none,[],[]⟩
theorem eq_slices_EqualFunc_____api_Stmt_____api_Stmt___api_Stmt___api_Stmt_ (Φ : Calls') (a0 a1 a2 : AV) (H : AH) (Q : Post) : fnE1 Φ ir_slices_EqualFunc_____api_Stmt_____api_Stmt___api_Stmt___api_Stmt_ [a0, a1, a2] H Q = slices_EqualFunc_____api_Stmt_____api_Stmt___api_Stmt___api_Stmt_ Φ a0 a1 a2 H Q := by kernel_rfl
def print_Same_c2 (Φ : Calls') (a0 : AV) (a1 : AV) (H : AH) (Q : Post) : Prop :=
Φ K.slices_EqualFunc___api_Stmt___api_Stmt_api_Stmt_api_Stmt_ [a0, a1, (.fn K.print_sameStmt [])] H fun x1 H2 =>
 Q x1 H2
noncomputable def ir_print_Same_c2 : AFunc := decF Go.Proofs.YtbkkoplgicffgaaGreatDoor.rb.C ⟨35,[],[],none,[],[]⟩
theorem eq_print_Same_c2 (Φ : Calls') (a0 a1 : AV) (H : AH) (Q : Post) : fnE1 Φ ir_print_Same_c2 [a0, a1] H Q = print_Same_c2 Φ a0 a1 H Q := by kernel_rfl
def slices_EqualFunc___api_Stmt___api_Stmt_api_Stmt_api_Stmt__l1 (Φ : Calls') (a0 : AV) (a1 : AV) (a2 : AV) (x4 : AV) (Q : Post) : (List AV × AH) → ((List AV × AH) → Prop) → Prop := fun s5 L6 =>
 Do (abin .lss (sl s5.1 0) x4) fun x7 =>
 Gd x7 true (
 Do (aiaddr none 10 a0 (sl s5.1 0)) fun x8 =>
 Do (aload s5.2 10 true x8) fun x9 =>
 DoH (some (abox s5.2 true [.int .i64 0, .int .i64 0, .str [], .str [], .int .i64 0, .str [], .lst .nil 0 [], .lst .nil 0 [], .lst .nil 0 [], .lst .nil 0 []])) fun x10 H11 =>
 Do (astore H11 10 x10 x9) fun H12 =>
 Do (aiaddr none 10 a1 (sl s5.1 0)) fun x13 =>
 Do (aload H12 10 true x13) fun x14 =>
 DoH (some (abox H12 true [.int .i64 0, .int .i64 0, .str [], .str [], .int .i64 0, .str [], .lst .nil 0 [], .lst .nil 0 [], .lst .nil 0 [], .lst .nil 0 []])) fun x15 H16 =>
 Do (astore H16 10 x15 x14) fun H17 =>
 Do (aload H17 10 true x10) fun x18 =>
 Do (aload H17 10 true x15) fun x19 =>
∃ k22 c23, a2 = .fn k22 c23 ∧ Φ (fkey k22) (fargs k22 [x18, x19] c23) H17 fun x20 H21 =>
 Do (aun .not x20) fun x24 =>
 Gd x24 true (
 Q (.bool false) H21) (
 Do (abin .add (sl s5.1 0) (.int .i64 1)) fun x25 =>
 L6 ([x25], H21))) (
 Q (.bool true) s5.2)
def slices_EqualFunc___api_Stmt___api_Stmt_api_Stmt_api_Stmt_ (Φ : Calls') (a0 : AV) (a1 : AV) (a2 : AV) (H : AH) (Q : Post) : Prop :=
 Do (alen false a0) fun x1 =>
 Do (alen false a1) fun x2 =>
 Do (abin .neq x1 x2) fun x3 =>
 Gd x3 true (
 Q (.bool false) H) (
 Do (alen false a0) fun x4 =>
 LoopP (slices_EqualFunc___api_Stmt___api_Stmt_api_Stmt_api_Stmt__l1 Φ a0 a1 a2 x4 Q) ([(.int .i64 0)], H))
noncomputable def ir_slices_EqualFunc___api_Stmt___api_Stmt_api_Stmt_api_Stmt_ : AFunc := decF Go.Proofs.YtbkkoplgicffgaaGreatDoor.rb.C ⟨36,[8,9],[[17]],none,[],[]⟩
theorem eq_slices_EqualFunc___api_Stmt___api_Stmt_api_Stmt_api_Stmt_ (Φ : Calls') (a0 a1 a2 : AV) (H : AH) (Q : Post) : fnE1 Φ ir_slices_EqualFunc___api_Stmt___api_Stmt_api_Stmt_api_Stmt_ [a0, a1, a2] H Q = slices_EqualFunc___api_Stmt___api_Stmt_api_Stmt_api_Stmt_ Φ a0 a1 a2 H Q := by kernel_rfl
def print_sameStmt_k1 (Φ : Calls') (x1 : AV) (x3 : AV) (Q : Post) : List AV → AH → Prop := fun j47 H48 =>
 Gd3 (sl j47 0) true (
 Do (afaddr 9 x1) fun x55 =>
 Do (aload H48 1 false x55) fun x56 =>
 Do (afaddr 9 x3) fun x57 =>
 Do (aload H48 1 false x57) fun x58 =>
Φ K.slices_EqualFunc___api_Stmt___api_Stmt_api_Stmt_api_Stmt_ [x56, x58, (.fn K.print_sameStmt [])] H48 fun x59 H60 =>
 Q x59 H60) (
 Q (.bool false) H48) (
 False)
def print_sameStmt_k2 (Φ : Calls') (x1 : AV) (x3 : AV) (Q : Post) : List AV → AH → Prop := fun j39 H40 =>
 Gd3 (sl j39 0) true (
 Do (afaddr 8 x1) fun x49 =>
 Do (aload H40 1 false x49) fun x50 =>
 Do (afaddr 8 x3) fun x51 =>
 Do (aload H40 1 false x51) fun x52 =>
Φ K.slices_EqualFunc___api_Stmt___api_Stmt_api_Stmt_api_Stmt_ [x50, x52, (.fn K.print_sameStmt [])] H40 fun x53 H54 =>
 JoinP (print_sameStmt_k1 Φ x1 x3 Q) [x53] H54) (
 JoinP (print_sameStmt_k1 Φ x1 x3 Q) [(.bool false)] H40) (
 False)
def print_sameStmt_k3 (Φ : Calls') (x1 : AV) (x3 : AV) (Q : Post) : List AV → AH → Prop := fun j31 H32 =>
 Gd3 (sl j31 0) true (
 Do (afaddr 7 x1) fun x41 =>
 Do (aload H32 1 false x41) fun x42 =>
 Do (afaddr 7 x3) fun x43 =>
 Do (aload H32 1 false x43) fun x44 =>
Φ K.slices_EqualFunc___api_Expr___api_Expr_api_Expr_api_Expr_ [x42, x44, (.fn K.print_sameExpr [])] H32 fun x45 H46 =>
 JoinP (print_sameStmt_k2 Φ x1 x3 Q) [x45] H46) (
 JoinP (print_sameStmt_k2 Φ x1 x3 Q) [(.bool false)] H32) (
 False)
def print_sameStmt_k4 (Φ : Calls') (x1 : AV) (x3 : AV) (Q : Post) : List AV → AH → Prop := fun j24 H25 =>
 Gd3 (sl j24 0) true (
 Do (afaddr 5 x1) fun x33 =>
 Do (aload H25 2 true x33) fun x34 =>
 Do (afaddr 5 x3) fun x35 =>
 Do (aload H25 2 true x35) fun x36 =>
Φ K.print_samePlace [x34, x36] H25 fun x37 H38 =>
 JoinP (print_sameStmt_k3 Φ x1 x3 Q) [x37] H38) (
 JoinP (print_sameStmt_k3 Φ x1 x3 Q) [(.bool false)] H25) (
 False)
def print_sameStmt_k5 (Φ : Calls') (x1 : AV) (x3 : AV) (Q : Post) : List AV → AH → Prop := fun j17 H18 =>
 Gd3 (sl j17 0) true (
 Do (afaddr 4 x1) fun x26 =>
 Do (aload H18 1 false x26) fun x27 =>
 Do (afaddr 4 x3) fun x28 =>
 Do (aload H18 1 false x28) fun x29 =>
 Do (abin .eql x27 x29) fun x30 =>
 JoinP (print_sameStmt_k4 Φ x1 x3 Q) [x30] H18) (
 JoinP (print_sameStmt_k4 Φ x1 x3 Q) [(.bool false)] H18) (
 False)
def print_sameStmt_k6 (Φ : Calls') (x1 : AV) (x3 : AV) (Q : Post) : List AV → AH → Prop := fun j5 H6 =>
 Gd3 (sl j5 0) true (
 Do (afaddr 3 x1) fun x19 =>
 Do (aload H6 1 false x19) fun x20 =>
 Do (afaddr 3 x3) fun x21 =>
 Do (aload H6 1 false x21) fun x22 =>
 Do (abin .eql x20 x22) fun x23 =>
 JoinP (print_sameStmt_k5 Φ x1 x3 Q) [x23] H6) (
 JoinP (print_sameStmt_k5 Φ x1 x3 Q) [(.bool false)] H6) (
 False)
def print_sameStmt (Φ : Calls') (a0 : AV) (a1 : AV) (H : AH) (Q : Post) : Prop :=
 DoH (aboxv H false 10 a0) fun x1 H2 =>
 DoH (aboxv H2 false 10 a1) fun x3 H4 =>
 Do (afaddr 0 x1) fun x7 =>
 Do (aload H4 1 false x7) fun x8 =>
 Do (afaddr 0 x3) fun x9 =>
 Do (aload H4 1 false x9) fun x10 =>
 Do (abin .eql x8 x10) fun x11 =>
 Gd3 x11 true (
 Do (afaddr 2 x1) fun x12 =>
 Do (aload H4 1 false x12) fun x13 =>
 Do (afaddr 2 x3) fun x14 =>
 Do (aload H4 1 false x14) fun x15 =>
 Do (abin .eql x13 x15) fun x16 =>
 JoinP (print_sameStmt_k6 Φ x1 x3 Q) [x16] H4) (
 JoinP (print_sameStmt_k6 Φ x1 x3 Q) [(.bool false)] H4) (
 False)
noncomputable def ir_print_sameStmt : AFunc := decF Go.Proofs.YtbkkoplgicffgaaGreatDoor.rb.C ⟨37,[],[],none,[],[]⟩
theorem eq_print_sameStmt (Φ : Calls') (a0 a1 : AV) (H : AH) (Q : Post) : fnE1 Φ ir_print_sameStmt [a0, a1] H Q = print_sameStmt Φ a0 a1 H Q := by kernel_rfl
def lex_Tokens_k1 (Φ : Calls') (x1 : AV) (x9 : AV) (Q : Post) : List AV → AH → Prop := fun j11 H12 =>
 Do (anilck x9) fun x29 =>
 Do (afaddr 3 x29) fun x30 =>
 Do (aload H12 1 false x30) fun x31 =>
 Do (abuild [.int .i64 0, .int .i64 0] []) fun x32 =>
 Do (astore H12 2 x1 x32) fun H33 =>
 Do (aload H33 2 true x1) fun x34 =>
 Q (.tup [x31, x34]) H33
def lex_Tokens_l2 (Φ : Calls') (a0 : AV) (x1 : AV) (x9 : AV) (Q : Post) : (List AV × AH) → ((List AV × AH) → Prop) → Prop := fun s13 L14 =>
 Do (anilck x9) fun x15 =>
 Do (afaddr 1 x15) fun x16 =>
 Do (aload s13.2 1 false x16) fun x17 =>
 Do (alen true a0) fun x18 =>
 Do (abin .lss x17 x18) fun x19 =>
 Gd x19 true (
Φ K.lex_scanner_next [x9] s13.2 fun x20 H21 =>
 Do (aun .not x20) fun x22 =>
 Gd x22 true (
 Do (anilck x9) fun x23 =>
 Do (afaddr 2 x23) fun x24 =>
 Do (aload H21 1 false x24) fun x25 =>
 Do (abuild [.int .i64 0, .int .i64 0] [(0, 1, x25), (1, 1, (.int .i64 3))]) fun x26 =>
 Do (astore H21 2 x1 x26) fun H27 =>
 Do (aload H27 2 true x1) fun x28 =>
 Q (.tup [(.lst .nil 0 []), x28]) H27) (
 L14 ([], H21))) (
 JoinP (lex_Tokens_k1 Φ x1 x9 Q) [] s13.2)
def lex_Tokens (Φ : Calls') (a0 : AV) (H : AH) (Q : Post) : Prop :=
 DoH (some (abox H true [.int .i64 0, .int .i64 0])) fun x1 H2 =>
 Do (alen true a0) fun x3 =>
 Do (abin .gtr x3 (.int .i64 1048576)) fun x4 =>
 Gd x4 true (
 Do (abuild [.int .i64 0, .int .i64 0] [(1, 1, (.int .i64 12))]) fun x5 =>
 Do (astore H2 2 x1 x5) fun H6 =>
 Do (aload H6 2 true x1) fun x7 =>
 Q (.tup [(.lst .nil 0 []), x7]) H6) (
 Do (abuild [.str [], .int .i64 0, .int .i64 0, .lst .nil 0 []] [(0, 1, a0), (2, 1, (.int .i64 1))]) fun x8 =>
 DoH (aboxv H2 true 4 x8) fun x9 H10 =>
 LoopP (lex_Tokens_l2 Φ a0 x1 x9 Q) ([], H10))
noncomputable def ir_lex_Tokens : AFunc := decF Go.Proofs.YtbkkoplgicffgaaGreatDoor.rb.C ⟨42,[3,11],[[]],none,[],[]⟩
theorem eq_lex_Tokens (Φ : Calls') (a0 : AV) (H : AH) (Q : Post) : fnE1 Φ ir_lex_Tokens [a0] H Q = lex_Tokens Φ a0 H Q := by kernel_rfl
def parse_parser_bad (Φ : Calls') (a0 : AV) (H : AH) (Q : Post) : Prop :=
 Do (anilck a0) fun x1 =>
 Do (afaddr 1 x1) fun x2 =>
 Do (afaddr 1 x2) fun x3 =>
 Do (aload H 1 false x3) fun x4 =>
 Do (abin .neq x4 (.int .i64 0)) fun x5 =>
 Q x5 H
noncomputable def ir_parse_parser_bad : AFunc := decF Go.Proofs.YtbkkoplgicffgaaGreatDoor.rb.C ⟨43,[],[],none,[],[]⟩
theorem eq_parse_parser_bad (Φ : Calls') (a0 : AV) (H : AH) (Q : Post) : fnE1 Φ ir_parse_parser_bad [a0] H Q = parse_parser_bad Φ a0 H Q := by kernel_rfl
def parse_parser_peek (Φ : Calls') (a0 : AV) (H : AH) (Q : Post) : Prop :=
 Do (anilck a0) fun x1 =>
 Do (afaddr 0 x1) fun x2 =>
 Do (aload H 1 false x2) fun x3 =>
 Do (aiaddr none 2 x3 (.int .i64 0)) fun x4 =>
 Do (afaddr 0 x4) fun x5 =>
 Do (aload H 1 false x5) fun x6 =>
 Q x6 H
noncomputable def ir_parse_parser_peek : AFunc := decF Go.Proofs.YtbkkoplgicffgaaGreatDoor.rb.C ⟨44,[],[],none,[],[]⟩
theorem eq_parse_parser_peek (Φ : Calls') (a0 : AV) (H : AH) (Q : Post) : fnE1 Φ ir_parse_parser_peek [a0] H Q = parse_parser_peek Φ a0 H Q := by kernel_rfl
def parse_parser_next (Φ : Calls') (a0 : AV) (H : AH) (Q : Post) : Prop :=
Φ K.parse_parser_peek [a0] H fun x1 H2 =>
 Do (anilck a0) fun x3 =>
 Do (afaddr 0 x3) fun x4 =>
 Do (aload H2 1 false x4) fun x5 =>
 Do (alen false x5) fun x6 =>
 Do (abin .gtr x6 (.int .i64 1)) fun x7 =>
 Gd x7 true (
 Do (anilck a0) fun x8 =>
 Do (afaddr 0 x8) fun x9 =>
 Do (aload H2 1 false x9) fun x10 =>
 Do (aslice 2 x10 (some (.int .i64 1)) none none) fun x11 =>
 Do (anilck a0) fun x12 =>
 Do (afaddr 0 x12) fun x13 =>
 Do (astore H2 1 x13 x11) fun H14 =>
 Q x1 H14) (
 Q x1 H2)
noncomputable def ir_parse_parser_next : AFunc := decF Go.Proofs.YtbkkoplgicffgaaGreatDoor.rb.C ⟨45,[],[],none,[],[]⟩
theorem eq_parse_parser_next (Φ : Calls') (a0 : AV) (H : AH) (Q : Post) : fnE1 Φ ir_parse_parser_next [a0] H Q = parse_parser_next Φ a0 H Q := by kernel_rfl
def parse_letters_k1 (Φ : Calls') (a0 : AV) (Q : Post) : List AV → AH → Prop := fun j1 H2 =>
 Gd3 (sl j1 0) true (
 Do (aidxs a0 (.int .i64 0)) fun x6 =>
 Do (abin .leq x6 (.int .u8 122)) fun x7 =>
 Q x7 H2) (
 Q (.bool false) H2) (
 False)
def parse_letters (Φ : Calls') (a0 : AV) (H : AH) (Q : Post) : Prop :=
 Do (abin .neq a0 (.str [])) fun x3 =>
 Gd3 x3 true (
 Do (aidxs a0 (.int .i64 0)) fun x4 =>
 Do (abin .geq x4 (.int .u8 97)) fun x5 =>
 JoinP (parse_letters_k1 Φ a0 Q) [x5] H) (
 JoinP (parse_letters_k1 Φ a0 Q) [(.bool false)] H) (
 False)
noncomputable def ir_parse_letters : AFunc := decF Go.Proofs.YtbkkoplgicffgaaGreatDoor.rb.C ⟨46,[],[],none,[],[]⟩
theorem eq_parse_letters (Φ : Calls') (a0 : AV) (H : AH) (Q : Post) : fnE1 Φ ir_parse_letters [a0] H Q = parse_letters Φ a0 H Q := by kernel_rfl
def lex_Keyword (Φ : Calls') (a0 : AV) (H : AH) (Q : Post) : Prop :=
Φ K.strings_Fields [(.str [118, 97, 114, 32, 116, 104, 114, 101, 97, 100, 32, 115, 116, 114, 117, 99, 116, 32, 117, 110, 105, 111, 110, 32, 112, 97, 99, 107, 101, 100, 32, 117, 56, 32, 117, 49, 54, 32, 117, 51, 50, 32, 117, 54, 52, 32, 97, 56, 32, 97, 49, 54, 32, 97, 51, 50, 32, 97, 54, 52, 32, 97, 49, 50, 56, 32, 108, 101, 116, 32, 115, 101, 116, 32, 119, 114, 105, 116, 101, 32, 115, 116, 111, 114, 101, 32, 108, 111, 97, 100, 50, 32, 115, 116, 111, 114, 101, 50, 32, 102, 101, 110, 99, 101, 32, 105, 102, 32, 101, 108, 115, 101, 32, 119, 104, 105, 108, 101, 32, 112, 114, 105, 110, 116, 32, 114, 101, 97, 100, 32, 108, 111, 97, 100, 32, 97, 100, 100, 32, 115, 119, 97, 112, 32, 99, 97, 115, 32, 114, 108, 120, 32, 97, 99, 113, 32, 114, 101, 108, 32, 115, 99])] H fun x1 H2 =>
Φ K.slices_Contains___string_string_ [x1, a0] H2 fun x3 H4 =>
 Q x3 H4
noncomputable def ir_lex_Keyword : AFunc := decF Go.Proofs.YtbkkoplgicffgaaGreatDoor.rb.C ⟨47,[],[],none,[],[]⟩
theorem eq_lex_Keyword (Φ : Calls') (a0 : AV) (H : AH) (Q : Post) : fnE1 Φ ir_lex_Keyword [a0] H Q = lex_Keyword Φ a0 H Q := by kernel_rfl
def parse_parser_fail (Φ : Calls') (a0 : AV) (a1 : AV) (H : AH) (Q : Post) : Prop :=
Φ K.parse_parser_bad [a0] H fun x1 H2 =>
 Do (aun .not x1) fun x3 =>
 Gd x3 true (
 Do (anilck a0) fun x4 =>
 Do (afaddr 0 x4) fun x5 =>
 Do (aload H2 1 false x5) fun x6 =>
 Do (aiaddr none 2 x6 (.int .i64 0)) fun x7 =>
 Do (afaddr 1 x7) fun x8 =>
 Do (aload H2 1 false x8) fun x9 =>
 Do (abuild [.int .i64 0, .int .i64 0] [(0, 1, x9), (1, 1, a1)]) fun x10 =>
 Do (anilck a0) fun x11 =>
 Do (afaddr 1 x11) fun x12 =>
 Do (astore H2 2 x12 x10) fun H13 =>
 Q (.tup []) H13) (
 Q (.tup []) H2)
noncomputable def ir_parse_parser_fail : AFunc := decF Go.Proofs.YtbkkoplgicffgaaGreatDoor.rb.C ⟨48,[],[],none,[],[]⟩
theorem eq_parse_parser_fail (Φ : Calls') (a0 a1 : AV) (H : AH) (Q : Post) : fnE1 Φ ir_parse_parser_fail [a0, a1] H Q = parse_parser_fail Φ a0 a1 H Q := by kernel_rfl
def parse_parser_deep_k1 (Φ : Calls') (a0 : AV) (Q : Post) : List AV → AH → Prop := fun j1 H2 =>
Φ K.parse_parser_bad [a0] H2 fun x6 H7 =>
 Do (aun .not x6) fun x8 =>
 Q x8 H7
def parse_parser_deep (Φ : Calls') (a0 : AV) (a1 : AV) (H : AH) (Q : Post) : Prop :=
 Do (abin .gtr a1 (.int .i64 64)) fun x3 =>
 Gd x3 true (
Φ K.parse_parser_fail [a0, (.int .i64 5)] H fun x4 H5 =>
 JoinP (parse_parser_deep_k1 Φ a0 Q) [] H5) (
 JoinP (parse_parser_deep_k1 Φ a0 Q) [] H)
noncomputable def ir_parse_parser_deep : AFunc := decF Go.Proofs.YtbkkoplgicffgaaGreatDoor.rb.C ⟨49,[],[],none,[],[]⟩
theorem eq_parse_parser_deep (Φ : Calls') (a0 a1 : AV) (H : AH) (Q : Post) : fnE1 Φ ir_parse_parser_deep [a0, a1] H Q = parse_parser_deep Φ a0 a1 H Q := by kernel_rfl
def parse_scalar_k1 (Φ : Calls') (s10 : List AV × AH) (L11 : (List AV × AH) → Prop) (Q : Post) : List AV → AH → Prop := fun j13 H14 =>
 Do (abin .add (sl s10.1 0) (.int .i64 1)) fun x29 =>
 L11 ([x29], H14)
def parse_scalar_l2 (Φ : Calls') (a0 : AV) (x1 : AV) (x15 : AV) (x16 : AV) (s10 : List AV × AH) (L11 : (List AV × AH) → Prop) (Q : Post) : (List AV × AH) → ((List AV × AH) → Prop) → Prop := fun s17 L18 =>
 Do (abin .lss (sl s17.1 0) x16) fun x19 =>
 Gd x19 true (
 Do (aiaddr none 1 x15 (sl s17.1 0)) fun x20 =>
 Do (aload s17.2 1 false x20) fun x21 =>
 Do (abin .eql x21 a0) fun x22 =>
 Gd x22 true (
 Do (abin .add (sl s10.1 0) (.int .i64 1)) fun x23 =>
 Do (abin .shl (.int .i64 1) (sl s17.1 0)) fun x24 =>
 Do (abuild [.int .i64 0, .int .i64 0, .bool false, .lst .nil 0 [], .int .i64 0, .lst .nil 0 []] [(0, 1, x23), (1, 1, x24)]) fun x25 =>
 Do (astore s17.2 6 x1 x25) fun H26 =>
 Do (aload H26 6 true x1) fun x27 =>
 Q (.tup [x27, (.bool true)]) H26) (
 Do (abin .add (sl s17.1 0) (.int .i64 1)) fun x28 =>
 L18 ([x28], s17.2))) (
 JoinP (parse_scalar_k1 Φ s10 L11 Q) [] s17.2)
def parse_scalar_k3 (Φ : Calls') (x1 : AV) (Q : Post) : List AV → AH → Prop := fun j3 H4 =>
 Do (abuild [.int .i64 0, .int .i64 0, .bool false, .lst .nil 0 [], .int .i64 0, .lst .nil 0 []] []) fun x30 =>
 Do (astore H4 6 x1 x30) fun H31 =>
 Do (aload H31 6 true x1) fun x32 =>
 Q (.tup [x32, (.bool false)]) H31
def parse_scalar_l4 (Φ : Calls') (a0 : AV) (x1 : AV) (x9 : AV) (Q : Post) : (List AV × AH) → ((List AV × AH) → Prop) → Prop := fun s10 L11 =>
 Do (abin .lss (sl s10.1 0) (.int .i64 2)) fun x12 =>
 Gd x12 true (
 Do (aidx 2 1 false x9 (sl s10.1 0)) fun x15 =>
 Do (alen false x15) fun x16 =>
 LoopP (parse_scalar_l2 Φ a0 x1 x15 x16 s10 L11 Q) ([(.int .i64 0)], s10.2)) (
 JoinP (parse_scalar_k3 Φ x1 Q) [] s10.2)
def parse_scalar (Φ : Calls') (a0 : AV) (H : AH) (Q : Post) : Prop :=
 DoH (some (abox H true [.int .i64 0, .int .i64 0, .bool false, .lst .nil 0 [], .int .i64 0, .lst .nil 0 []])) fun x1 H2 =>
 DoH (abslice H2 false 1 4 [.str []] [(0, 1, (.str [117, 56])), (1, 1, (.str [117, 49, 54])), (2, 1, (.str [117, 51, 50])), (3, 1, (.str [117, 54, 52]))]) fun x5 H6 =>
 DoH (abslice H6 false 1 5 [.str []] [(0, 1, (.str [97, 56])), (1, 1, (.str [97, 49, 54])), (2, 1, (.str [97, 51, 50])), (3, 1, (.str [97, 54, 52])), (4, 1, (.str [97, 49, 50, 56]))]) fun x7 H8 =>
 Do (abuild [.lst .nil 0 [], .lst .nil 0 []] [(0, 1, x5), (1, 1, x7)]) fun x9 =>
 LoopP (parse_scalar_l4 Φ a0 x1 x9 Q) ([(.int .i64 0)], H8)
noncomputable def ir_parse_scalar : AFunc := decF Go.Proofs.YtbkkoplgicffgaaGreatDoor.rb.C ⟨50,[2],[[11],[17]],none,[],[]⟩
theorem eq_parse_scalar (Φ : Calls') (a0 : AV) (H : AH) (Q : Post) : fnE1 Φ ir_parse_scalar [a0] H Q = parse_scalar Φ a0 H Q := by kernel_rfl
def parse_kind (Φ : Calls') (a0 : AV) (H : AH) (Q : Post) : Prop :=
 Do (abin .eql a0 (.str [115, 116, 114, 117, 99, 116])) fun x1 =>
 Gd x1 true (
 Q (.int .i64 3) H) (
 Do (abin .eql a0 (.str [117, 110, 105, 111, 110])) fun x2 =>
 Gd x2 true (
 Q (.int .i64 4) H) (
 Do (abin .eql a0 (.str [91])) fun x3 =>
 Gd x3 true (
 Q (.int .i64 5) H) (
 Q (.int .i64 0) H)))
noncomputable def ir_parse_kind : AFunc := decF Go.Proofs.YtbkkoplgicffgaaGreatDoor.rb.C ⟨51,[],[],none,[],[]⟩
theorem eq_parse_kind (Φ : Calls') (a0 : AV) (H : AH) (Q : Post) : fnE1 Φ ir_parse_kind [a0] H Q = parse_kind Φ a0 H Q := by kernel_rfl
def parse_parser_number_k1 (Φ : Calls') (a0 : AV) (a1 : AV) (Q : Post) : List AV → AH → Prop := fun j1 H2 =>
Φ K.parse_parser_peek [a0] H2 fun x14 H15 =>
Φ K.strconv_ParseUint [x14, (.int .i64 10), (.int .i64 64)] H15 fun x16 H17 =>
 Do (aextract 0 x16) fun x18 =>
 Do (aextract 1 x16) fun x19 =>
 Do (abin .gtr x18 a1) fun x20 =>
 Gd x20 true (
Φ K.parse_parser_fail [a0, (.int .i64 9)] H17 fun x21 H22 =>
 Q (.int .u64 0) H22) (
Φ K.parse_parser_next [a0] H17 fun x23 H24 =>
 Q x18 H24)
def parse_parser_number_k2 (Φ : Calls') (a0 : AV) (a1 : AV) (Q : Post) : List AV → AH → Prop := fun j3 H4 =>
 Gd (sl j3 0) true (
Φ K.parse_parser_fail [a0, (.int .i64 4)] H4 fun x12 H13 =>
 Q (.int .u64 0) H13) (
 JoinP (parse_parser_number_k1 Φ a0 a1 Q) [] H4)
def parse_parser_number (Φ : Calls') (a0 : AV) (a1 : AV) (H : AH) (Q : Post) : Prop :=
Φ K.parse_parser_bad [a0] H fun x5 H6 =>
 Gd3 x5 false (
Φ K.parse_parser_peek [a0] H6 fun x7 H8 =>
Φ K.parse_digits [x7] H8 fun x9 H10 =>
 Do (aun .not x9) fun x11 =>
 JoinP (parse_parser_number_k2 Φ a0 a1 Q) [x11] H10) (
 JoinP (parse_parser_number_k2 Φ a0 a1 Q) [(.bool true)] H6) (
 False)
noncomputable def ir_parse_parser_number : AFunc := decF Go.Proofs.YtbkkoplgicffgaaGreatDoor.rb.C ⟨52,[],[],none,[],[]⟩
theorem eq_parse_parser_number (Φ : Calls') (a0 a1 : AV) (H : AH) (Q : Post) : fnE1 Φ ir_parse_parser_number [a0, a1] H Q = parse_parser_number Φ a0 a1 H Q := by kernel_rfl
def parse_parser_field_k1 (Φ : Calls') (a0 : AV) (x1 : AV) (x3 : AV) (Q : Post) : List AV → AH → Prop := fun j19 H20 =>
Φ K.parse_parser_want [a0, (.str [59])] H20 fun x35 H36 =>
 Do (aload H36 9 true x3) fun x37 =>
 Do (astore H36 9 x1 x37) fun H38 =>
 Do (aload H38 9 true x1) fun x39 =>
 Q x39 H38
def parse_parser_field_k2 (Φ : Calls') (a0 : AV) (x1 : AV) (x3 : AV) (Q : Post) : List AV → AH → Prop := fun j21 H22 =>
 Gd (sl j21 0) true (
Φ K.parse_parser_want [a0, (.str [58])] H22 fun x26 H27 =>
 Do (afaddr 7 x3) fun x28 =>
 Do (astore H27 1 x28 (.bool true)) fun H29 =>
Φ K.parse_parser_number [a0, (.int .u64 1073741824)] H29 fun x30 H31 =>
 Do (aconv .i64 x30) fun x32 =>
 Do (afaddr 8 x3) fun x33 =>
 Do (astore H31 1 x33 x32) fun H34 =>
 JoinP (parse_parser_field_k1 Φ a0 x1 x3 Q) [] H34) (
 JoinP (parse_parser_field_k1 Φ a0 x1 x3 Q) [] H22)
def parse_parser_field_k3 (Φ : Calls') (a0 : AV) (a1 : AV) (x1 : AV) (x3 : AV) (x5 : AV) (Q : Post) : List AV → AH → Prop := fun j7 H8 =>
 Do (abin .add a1 (.int .i64 1)) fun x14 =>
Φ K.parse_parser_typ [a0, x14] H8 fun x15 H16 =>
 Do (afaddr 1 x3) fun x17 =>
 Do (astore H16 6 x17 x15) fun H18 =>
 Gd3 x5 false (
Φ K.parse_parser_peek [a0] H18 fun x23 H24 =>
 Do (abin .eql x23 (.str [58])) fun x25 =>
 JoinP (parse_parser_field_k2 Φ a0 x1 x3 Q) [x25] H24) (
 JoinP (parse_parser_field_k2 Φ a0 x1 x3 Q) [(.bool true)] H18) (
 False)
def parse_parser_field (Φ : Calls') (a0 : AV) (a1 : AV) (H : AH) (Q : Post) : Prop :=
 DoH (some (abox H true [.str [], .int .i64 0, .int .i64 0, .bool false, .lst .nil 0 [], .int .i64 0, .lst .nil 0 [], .bool false, .int .i64 0])) fun x1 H2 =>
 DoH (some (abox H2 true [.str [], .int .i64 0, .int .i64 0, .bool false, .lst .nil 0 [], .int .i64 0, .lst .nil 0 [], .bool false, .int .i64 0])) fun x3 H4 =>
Φ K.parse_parser_is [a0, (.str [95])] H4 fun x5 H6 =>
 Do (aun .not x5) fun x9 =>
 Gd x9 true (
Φ K.parse_parser_name [a0] H6 fun x10 H11 =>
 Do (afaddr 0 x3) fun x12 =>
 Do (astore H11 1 x12 x10) fun H13 =>
 JoinP (parse_parser_field_k3 Φ a0 a1 x1 x3 x5 Q) [] H13) (
 JoinP (parse_parser_field_k3 Φ a0 a1 x1 x3 x5 Q) [] H6)
noncomputable def ir_parse_parser_field : AFunc := decF Go.Proofs.YtbkkoplgicffgaaGreatDoor.rb.C ⟨53,[4,5],[],none,[],[]⟩
theorem eq_parse_parser_field (Φ : Calls') (a0 a1 : AV) (H : AH) (Q : Post) : fnE1 Φ ir_parse_parser_field [a0, a1] H Q = parse_parser_field Φ a0 a1 H Q := by kernel_rfl
def parse_parser_stmt_k1 (Φ : Calls') (a0 : AV) (x1 : AV) (x10 : AV) (Q : Post) : List AV → AH → Prop := fun j13 H14 =>
Φ K.parse_parser_want [a0, (.str [59])] H14 fun x27 H28 =>
 Do (aload H28 10 true x10) fun x29 =>
 Do (astore H28 10 x1 x29) fun H30 =>
 Do (aload H30 10 true x1) fun x31 =>
 Q x31 H30
def parse_parser_stmt (Φ : Calls') (a0 : AV) (a1 : AV) (H : AH) (Q : Post) : Prop :=
 DoH (some (abox H true [.int .i64 0, .int .i64 0, .str [], .str [], .int .i64 0, .str [], .lst .nil 0 [], .lst .nil 0 [], .lst .nil 0 [], .lst .nil 0 []])) fun x1 H2 =>
 Do (anilck a0) fun x3 =>
 Do (afaddr 0 x3) fun x4 =>
 Do (aload H2 1 false x4) fun x5 =>
 Do (aiaddr none 2 x5 (.int .i64 0)) fun x6 =>
 Do (afaddr 1 x6) fun x7 =>
 Do (aload H2 1 false x7) fun x8 =>
 Do (abuild [.int .i64 0, .int .i64 0, .str [], .str [], .int .i64 0, .str [], .lst .nil 0 [], .lst .nil 0 [], .lst .nil 0 [], .lst .nil 0 []] [(1, 1, x8)]) fun x9 =>
 DoH (some (abox H2 true [.int .i64 0, .int .i64 0, .str [], .str [], .int .i64 0, .str [], .lst .nil 0 [], .lst .nil 0 [], .lst .nil 0 [], .lst .nil 0 []])) fun x10 H11 =>
 Do (astore H11 10 x10 x9) fun H12 =>
Φ K.parse_parser_is [a0, (.str [108, 101, 116])] H12 fun x15 H16 =>
 Gd x15 true (
Φ K.parse_parser_name [a0] H16 fun x17 H18 =>
Φ K.parse_parser_value [a0, a1] H18 fun x19 H20 =>
 Do (afaddr 0 x10) fun x21 =>
 Do (astore H20 1 x21 (.int .i64 1)) fun H22 =>
 Do (afaddr 2 x10) fun x23 =>
 Do (astore H22 1 x23 x17) fun H24 =>
 Do (afaddr 7 x10) fun x25 =>
 Do (astore H24 1 x25 x19) fun H26 =>
 JoinP (parse_parser_stmt_k1 Φ a0 x1 x10 Q) [] H26) (
Φ K.parse_parser_is [a0, (.str [115, 101, 116])] H16 fun x32 H33 =>
 Gd x32 true (
Φ K.parse_parser_name [a0] H33 fun x34 H35 =>
Φ K.parse_parser_value [a0, a1] H35 fun x36 H37 =>
 Do (afaddr 0 x10) fun x38 =>
 Do (astore H37 1 x38 (.int .i64 2)) fun H39 =>
 Do (afaddr 2 x10) fun x40 =>
 Do (astore H39 1 x40 x34) fun H41 =>
 Do (afaddr 7 x10) fun x42 =>
 Do (astore H41 1 x42 x36) fun H43 =>
 JoinP (parse_parser_stmt_k1 Φ a0 x1 x10 Q) [] H43) (
Φ K.parse_parser_is [a0, (.str [119, 114, 105, 116, 101])] H33 fun x44 H45 =>
 Gd x44 true (
Φ K.parse_parser_place [a0, a1] H45 fun x46 H47 =>
Φ K.parse_parser_value [a0, a1] H47 fun x48 H49 =>
 Do (afaddr 0 x10) fun x50 =>
 Do (astore H49 1 x50 (.int .i64 3)) fun H51 =>
 Do (afaddr 5 x10) fun x52 =>
 Do (astore H51 2 x52 x46) fun H53 =>
 Do (afaddr 7 x10) fun x54 =>
 Do (astore H53 1 x54 x48) fun H55 =>
 JoinP (parse_parser_stmt_k1 Φ a0 x1 x10 Q) [] H55) (
Φ K.parse_parser_is [a0, (.str [115, 116, 111, 114, 101])] H45 fun x56 H57 =>
 Gd x56 true (
Φ K.parse_parser_order [a0] H57 fun x58 H59 =>
Φ K.parse_parser_place [a0, a1] H59 fun x60 H61 =>
Φ K.parse_parser_value [a0, a1] H61 fun x62 H63 =>
 Do (afaddr 0 x10) fun x64 =>
 Do (astore H63 1 x64 (.int .i64 4)) fun H65 =>
 Do (afaddr 4 x10) fun x66 =>
 Do (astore H65 1 x66 x58) fun H67 =>
 Do (afaddr 5 x10) fun x68 =>
 Do (astore H67 2 x68 x60) fun H69 =>
 Do (afaddr 7 x10) fun x70 =>
 Do (astore H69 1 x70 x62) fun H71 =>
 JoinP (parse_parser_stmt_k1 Φ a0 x1 x10 Q) [] H71) (
Φ K.parse_parser_is [a0, (.str [108, 111, 97, 100, 50])] H57 fun x72 H73 =>
 Gd x72 true (
Φ K.parse_parser_order [a0] H73 fun x74 H75 =>
Φ K.parse_parser_place [a0, a1] H75 fun x76 H77 =>
Φ K.parse_parser_name [a0] H77 fun x78 H79 =>
Φ K.parse_parser_name [a0] H79 fun x80 H81 =>
 Do (afaddr 0 x10) fun x82 =>
 Do (astore H81 1 x82 (.int .i64 5)) fun H83 =>
 Do (afaddr 4 x10) fun x84 =>
 Do (astore H83 1 x84 x74) fun H85 =>
 Do (afaddr 5 x10) fun x86 =>
 Do (astore H85 2 x86 x76) fun H87 =>
 Do (afaddr 2 x10) fun x88 =>
 Do (astore H87 1 x88 x78) fun H89 =>
 Do (afaddr 3 x10) fun x90 =>
 Do (astore H89 1 x90 x80) fun H91 =>
 JoinP (parse_parser_stmt_k1 Φ a0 x1 x10 Q) [] H91) (
Φ K.parse_parser_is [a0, (.str [115, 116, 111, 114, 101, 50])] H73 fun x92 H93 =>
 Gd x92 true (
Φ K.parse_parser_order [a0] H93 fun x94 H95 =>
Φ K.parse_parser_place [a0, a1] H95 fun x96 H97 =>
Φ K.parse_parser_value [a0, a1] H97 fun x98 H99 =>
 Do (afaddr 0 x10) fun x100 =>
 Do (astore H99 1 x100 (.int .i64 6)) fun H101 =>
 Do (afaddr 4 x10) fun x102 =>
 Do (astore H101 1 x102 x94) fun H103 =>
 Do (afaddr 5 x10) fun x104 =>
 Do (astore H103 2 x104 x96) fun H105 =>
 Do (afaddr 7 x10) fun x106 =>
 Do (astore H105 1 x106 x98) fun H107 =>
Φ K.parse_parser_want [a0, (.str [44])] H107 fun x108 H109 =>
 Do (afaddr 7 x10) fun x110 =>
 Do (aload H109 1 false x110) fun x111 =>
 Do (abin .add a1 (.int .i64 1)) fun x112 =>
Φ K.parse_parser_expr [a0, x112] H109 fun x113 H114 =>
(aload H114 1 false x110 = some x111) ∧
(DoH (abslice H114 false 8 1 [.int .i64 0, .int .u64 0, .str [], .int .i64 0, .int .i64 0, .str [], .lst .nil 0 [], .lst .nil 0 []] [(0, 8, x113)]) fun x115 H116 =>
 DoH (aappend H116 false 8 112 x111 x115) fun x117 H118 =>
 Do (afaddr 7 x10) fun x119 =>
 Do (astore H118 1 x119 x117) fun H120 =>
 JoinP (parse_parser_stmt_k1 Φ a0 x1 x10 Q) [] H120)) (
Φ K.parse_parser_is [a0, (.str [102, 101, 110, 99, 101])] H93 fun x121 H122 =>
 Gd x121 true (
Φ K.parse_parser_order [a0] H122 fun x123 H124 =>
 Do (afaddr 0 x10) fun x125 =>
 Do (astore H124 1 x125 (.int .i64 7)) fun H126 =>
 Do (afaddr 4 x10) fun x127 =>
 Do (astore H126 1 x127 x123) fun H128 =>
 JoinP (parse_parser_stmt_k1 Φ a0 x1 x10 Q) [] H128) (
Φ K.parse_parser_is [a0, (.str [112, 114, 105, 110, 116])] H122 fun x129 H130 =>
 Gd x129 true (
 Do (abin .add a1 (.int .i64 1)) fun x131 =>
Φ K.parse_parser_expr [a0, x131] H130 fun x132 H133 =>
 DoH (abslice H133 false 8 1 [.int .i64 0, .int .u64 0, .str [], .int .i64 0, .int .i64 0, .str [], .lst .nil 0 [], .lst .nil 0 []] [(0, 8, x132)]) fun x134 H135 =>
 Do (afaddr 0 x10) fun x136 =>
 Do (astore H135 1 x136 (.int .i64 10)) fun H137 =>
 Do (afaddr 7 x10) fun x138 =>
 Do (astore H137 1 x138 x134) fun H139 =>
 JoinP (parse_parser_stmt_k1 Φ a0 x1 x10 Q) [] H139) (
 Do (aload H130 10 true x10) fun x140 =>
Φ K.parse_parser_control [a0, x140, a1] H130 fun x141 H142 =>
 Do (astore H142 10 x1 x141) fun H143 =>
 Do (aload H143 10 true x1) fun x144 =>
 Q x144 H143))))))))
noncomputable def ir_parse_parser_stmt : AFunc := decF Go.Proofs.YtbkkoplgicffgaaGreatDoor.rb.C ⟨54,[4,5],[],none,[],[]⟩
theorem eq_parse_parser_stmt (Φ : Calls') (a0 a1 : AV) (H : AH) (Q : Post) : fnE1 Φ ir_parse_parser_stmt [a0, a1] H Q = parse_parser_stmt Φ a0 a1 H Q := by kernel_rfl
def print_writer_expr_k1 (Φ : Calls') (s33 : List AV × AH) (L34 : (List AV × AH) → Prop) (Q : Post) : List AV → AH → Prop := fun j36 H37 =>
 Do (abin .add (sl s33.1 0) (.int .i64 1)) fun x60 =>
 L34 ([x60], H37)
def print_writer_expr_k2 (Φ : Calls') (a0 : AV) (x40 : AV) (s33 : List AV × AH) (L34 : (List AV × AH) → Prop) (Q : Post) : List AV → AH → Prop := fun j43 H44 =>
 Do (aload H44 8 true x40) fun x57 =>
Φ K.print_writer_expr [a0, x57] H44 fun x58 H59 =>
 JoinP (print_writer_expr_k1 Φ s33 L34 Q) [] H59
def print_writer_expr_k3 (Φ : Calls') (a0 : AV) (Q : Post) : List AV → AH → Prop := fun j28 H29 =>
 DoH (abslice H29 false 1 1 [.str []] [(0, 1, (.str [41]))]) fun x61 H62 =>
Φ K.print_writer_words [a0, x61] H62 fun x63 H64 =>
 Q (.tup []) H64
def print_writer_expr_l4 (Φ : Calls') (a0 : AV) (x1 : AV) (x31 : AV) (x32 : AV) (Q : Post) : (List AV × AH) → ((List AV × AH) → Prop) → Prop := fun s33 L34 =>
 Do (abin .lss (sl s33.1 0) x32) fun x35 =>
 Gd x35 true (
 Do (aiaddr none 8 x31 (sl s33.1 0)) fun x38 =>
 Do (aload s33.2 8 true x38) fun x39 =>
 DoH (some (abox s33.2 true [.int .i64 0, .int .u64 0, .str [], .int .i64 0, .int .i64 0, .str [], .lst .nil 0 [], .lst .nil 0 []])) fun x40 H41 =>
 Do (astore H41 8 x40 x39) fun H42 =>
 Do (abin .eql (sl s33.1 0) (.int .i64 1)) fun x45 =>
 Gd x45 true (
 Do (afaddr 3 x1) fun x46 =>
 Do (aload H42 1 false x46) fun x47 =>
 Do (abin .sub x47 (.int .i64 1)) fun x48 =>
 DoH (abslice H42 false 1 11 [.str []] [(0, 1, (.str [43])), (1, 1, (.str [45])), (2, 1, (.str [42])), (3, 1, (.str [38])), (4, 1, (.str [124])), (5, 1, (.str [94])), (6, 1, (.str [60, 60])), (7, 1, (.str [62, 62])), (8, 1, (.str [61, 61])), (9, 1, (.str [33, 61])), (10, 1, (.str [60]))]) fun x49 H50 =>
Φ K.print_of [x48, x49] H50 fun x51 H52 =>
 DoH (abslice H52 false 1 1 [.str []] [(0, 1, x51)]) fun x53 H54 =>
Φ K.print_writer_words [a0, x53] H54 fun x55 H56 =>
 JoinP (print_writer_expr_k2 Φ a0 x40 s33 L34 Q) [] H56) (
 JoinP (print_writer_expr_k2 Φ a0 x40 s33 L34 Q) [] H42)) (
 JoinP (print_writer_expr_k3 Φ a0 Q) [] s33.2)
def print_writer_expr (Φ : Calls') (a0 : AV) (a1 : AV) (H : AH) (Q : Post) : Prop :=
 DoH (aboxv H false 8 a1) fun x1 H2 =>
Φ K.print_writer_full [a0] H2 fun x3 H4 =>
 Gd x3 true (
 Q (.tup []) H4) (
 Do (afaddr 0 x1) fun x5 =>
 Do (aload H4 1 false x5) fun x6 =>
 Do (abin .eql x6 (.int .i64 1)) fun x7 =>
 Gd x7 true (
 Do (afaddr 1 x1) fun x8 =>
 Do (aload H4 1 false x8) fun x9 =>
Φ K.strconv_FormatUint [x9, (.int .i64 10)] H4 fun x10 H11 =>
 DoH (abslice H11 false 1 1 [.str []] [(0, 1, x10)]) fun x12 H13 =>
Φ K.print_writer_words [a0, x12] H13 fun x14 H15 =>
 Q (.tup []) H15) (
 Do (abin .eql x6 (.int .i64 2)) fun x16 =>
 Gd x16 true (
 Do (afaddr 2 x1) fun x17 =>
 Do (aload H4 1 false x17) fun x18 =>
 DoH (abslice H4 false 1 1 [.str []] [(0, 1, x18)]) fun x19 H20 =>
Φ K.print_writer_words [a0, x19] H20 fun x21 H22 =>
 Q (.tup []) H22) (
 Do (abin .eql x6 (.int .i64 3)) fun x23 =>
 Gd x23 true (
 DoH (abslice H4 false 1 1 [.str []] [(0, 1, (.str [40]))]) fun x24 H25 =>
Φ K.print_writer_words [a0, x24] H25 fun x26 H27 =>
 Do (afaddr 7 x1) fun x30 =>
 Do (aload H27 1 false x30) fun x31 =>
 Do (alen false x31) fun x32 =>
 LoopP (print_writer_expr_l4 Φ a0 x1 x31 x32 Q) ([(.int .i64 0)], H27)) (
 Do (abin .eql x6 (.int .i64 4)) fun x65 =>
 Gd x65 true (
 DoH (abslice H4 false 1 1 [.str []] [(0, 1, (.str [114, 101, 97, 100]))]) fun x66 H67 =>
Φ K.print_writer_words [a0, x66] H67 fun x68 H69 =>
 Do (afaddr 5 x1) fun x70 =>
 Do (aload H69 2 true x70) fun x71 =>
Φ K.print_writer_place [a0, x71] H69 fun x72 H73 =>
 Q (.tup []) H73) (
 Do (afaddr 0 x1) fun x74 =>
 Do (aload H4 1 false x74) fun x75 =>
 Do (abin .sub x75 (.int .i64 5)) fun x76 =>
 DoH (abslice H4 false 1 4 [.str []] [(0, 1, (.str [108, 111, 97, 100])), (1, 1, (.str [97, 100, 100])), (2, 1, (.str [115, 119, 97, 112])), (3, 1, (.str [99, 97, 115]))]) fun x77 H78 =>
Φ K.print_of [x76, x77] H78 fun x79 H80 =>
 DoH (abslice H80 false 1 1 [.str []] [(0, 1, x79)]) fun x81 H82 =>
Φ K.print_writer_words [a0, x81] H82 fun x83 H84 =>
 Do (afaddr 4 x1) fun x85 =>
 Do (aload H84 1 false x85) fun x86 =>
Φ K.print_writer_order [a0, x86] H84 fun x87 H88 =>
 Do (afaddr 5 x1) fun x89 =>
 Do (aload H88 2 true x89) fun x90 =>
Φ K.print_writer_place [a0, x90] H88 fun x91 H92 =>
 Do (afaddr 7 x1) fun x93 =>
 Do (aload H92 1 false x93) fun x94 =>
Φ K.print_each_api_Expr_ [x94, (.fn (K.print_writer_expr + 1048576) [a0])] H92 fun x95 H96 =>
 Q (.tup []) H96)))))
noncomputable def ir_print_writer_expr : AFunc := decF Go.Proofs.YtbkkoplgicffgaaGreatDoor.rb.C ⟨55,[5],[[54]],none,[],[]⟩
theorem eq_print_writer_expr (Φ : Calls') (a0 a1 : AV) (H : AH) (Q : Post) : fnE1 Φ ir_print_writer_expr [a0, a1] H Q = print_writer_expr Φ a0 a1 H Q := by kernel_rfl
def print_sameExpr_k1 (Φ : Calls') (x1 : AV) (x3 : AV) (Q : Post) : List AV → AH → Prop := fun j38 H39 =>
 Gd3 (sl j38 0) true (
 Do (afaddr 7 x1) fun x46 =>
 Do (aload H39 1 false x46) fun x47 =>
 Do (afaddr 7 x3) fun x48 =>
 Do (aload H39 1 false x48) fun x49 =>
Φ K.slices_EqualFunc___api_Expr___api_Expr_api_Expr_api_Expr_ [x47, x49, (.fn K.print_sameExpr [])] H39 fun x50 H51 =>
 Q x50 H51) (
 Q (.bool false) H39) (
 False)
def print_sameExpr_k2 (Φ : Calls') (x1 : AV) (x3 : AV) (Q : Post) : List AV → AH → Prop := fun j31 H32 =>
 Gd3 (sl j31 0) true (
 Do (afaddr 5 x1) fun x40 =>
 Do (aload H32 2 true x40) fun x41 =>
 Do (afaddr 5 x3) fun x42 =>
 Do (aload H32 2 true x42) fun x43 =>
Φ K.print_samePlace [x41, x43] H32 fun x44 H45 =>
 JoinP (print_sameExpr_k1 Φ x1 x3 Q) [x44] H45) (
 JoinP (print_sameExpr_k1 Φ x1 x3 Q) [(.bool false)] H32) (
 False)
def print_sameExpr_k3 (Φ : Calls') (x1 : AV) (x3 : AV) (Q : Post) : List AV → AH → Prop := fun j24 H25 =>
 Gd3 (sl j24 0) true (
 Do (afaddr 4 x1) fun x33 =>
 Do (aload H25 1 false x33) fun x34 =>
 Do (afaddr 4 x3) fun x35 =>
 Do (aload H25 1 false x35) fun x36 =>
 Do (abin .eql x34 x36) fun x37 =>
 JoinP (print_sameExpr_k2 Φ x1 x3 Q) [x37] H25) (
 JoinP (print_sameExpr_k2 Φ x1 x3 Q) [(.bool false)] H25) (
 False)
def print_sameExpr_k4 (Φ : Calls') (x1 : AV) (x3 : AV) (Q : Post) : List AV → AH → Prop := fun j17 H18 =>
 Gd3 (sl j17 0) true (
 Do (afaddr 3 x1) fun x26 =>
 Do (aload H18 1 false x26) fun x27 =>
 Do (afaddr 3 x3) fun x28 =>
 Do (aload H18 1 false x28) fun x29 =>
 Do (abin .eql x27 x29) fun x30 =>
 JoinP (print_sameExpr_k3 Φ x1 x3 Q) [x30] H18) (
 JoinP (print_sameExpr_k3 Φ x1 x3 Q) [(.bool false)] H18) (
 False)
def print_sameExpr_k5 (Φ : Calls') (x1 : AV) (x3 : AV) (Q : Post) : List AV → AH → Prop := fun j5 H6 =>
 Gd3 (sl j5 0) true (
 Do (afaddr 2 x1) fun x19 =>
 Do (aload H6 1 false x19) fun x20 =>
 Do (afaddr 2 x3) fun x21 =>
 Do (aload H6 1 false x21) fun x22 =>
 Do (abin .eql x20 x22) fun x23 =>
 JoinP (print_sameExpr_k4 Φ x1 x3 Q) [x23] H6) (
 JoinP (print_sameExpr_k4 Φ x1 x3 Q) [(.bool false)] H6) (
 False)
def print_sameExpr (Φ : Calls') (a0 : AV) (a1 : AV) (H : AH) (Q : Post) : Prop :=
 DoH (aboxv H false 8 a0) fun x1 H2 =>
 DoH (aboxv H2 false 8 a1) fun x3 H4 =>
 Do (afaddr 0 x1) fun x7 =>
 Do (aload H4 1 false x7) fun x8 =>
 Do (afaddr 0 x3) fun x9 =>
 Do (aload H4 1 false x9) fun x10 =>
 Do (abin .eql x8 x10) fun x11 =>
 Gd3 x11 true (
 Do (afaddr 1 x1) fun x12 =>
 Do (aload H4 1 false x12) fun x13 =>
 Do (afaddr 1 x3) fun x14 =>
 Do (aload H4 1 false x14) fun x15 =>
 Do (abin .eql x13 x15) fun x16 =>
 JoinP (print_sameExpr_k5 Φ x1 x3 Q) [x16] H4) (
 JoinP (print_sameExpr_k5 Φ x1 x3 Q) [(.bool false)] H4) (
 False)
noncomputable def ir_print_sameExpr : AFunc := decF Go.Proofs.YtbkkoplgicffgaaGreatDoor.rb.C ⟨56,[],[],none,[],[]⟩
theorem eq_print_sameExpr (Φ : Calls') (a0 a1 : AV) (H : AH) (Q : Post) : fnE1 Φ ir_print_sameExpr [a0, a1] H Q = print_sameExpr Φ a0 a1 H Q := by kernel_rfl
def print_writer_full (Φ : Calls') (a0 : AV) (H : AH) (Q : Post) : Prop :=
 Do (anilck a0) fun x1 =>
 Do (afaddr 0 x1) fun x2 =>
Φ K.strings_Builder_Len [x2] H fun x3 H4 =>
 Do (abin .gtr x3 (.int .i64 4194304)) fun x5 =>
 Q x5 H4
noncomputable def ir_print_writer_full : AFunc := decF Go.Proofs.YtbkkoplgicffgaaGreatDoor.rb.C ⟨59,[],[],none,[],[]⟩
theorem eq_print_writer_full (Φ : Calls') (a0 : AV) (H : AH) (Q : Post) : fnE1 Φ ir_print_writer_full [a0] H Q = print_writer_full Φ a0 H Q := by kernel_rfl
def print_number (Φ : Calls') (a0 : AV) (H : AH) (Q : Post) : Prop :=
Φ K.strconv_Itoa [a0] H fun x1 H2 =>
 Q x1 H2
noncomputable def ir_print_number : AFunc := decF Go.Proofs.YtbkkoplgicffgaaGreatDoor.rb.C ⟨60,[],[],none,[],[]⟩
theorem eq_print_number (Φ : Calls') (a0 : AV) (H : AH) (Q : Post) : fnE1 Φ ir_print_number [a0] H Q = print_number Φ a0 H Q := by kernel_rfl
def print_of_k1 (Φ : Calls') (a0 : AV) (a1 : AV) (Q : Post) : List AV → AH → Prop := fun j1 H2 =>
 Do (aiaddr none 1 a1 a0) fun x8 =>
 Do (aload H2 1 false x8) fun x9 =>
 Q x9 H2
def print_of_k2 (Φ : Calls') (a0 : AV) (a1 : AV) (Q : Post) : List AV → AH → Prop := fun j3 H4 =>
 Gd (sl j3 0) true (
 Q (.str []) H4) (
 JoinP (print_of_k1 Φ a0 a1 Q) [] H4)
def print_of (Φ : Calls') (a0 : AV) (a1 : AV) (H : AH) (Q : Post) : Prop :=
 Do (abin .lss a0 (.int .i64 0)) fun x5 =>
 Gd3 x5 false (
 Do (alen false a1) fun x6 =>
 Do (abin .geq a0 x6) fun x7 =>
 JoinP (print_of_k2 Φ a0 a1 Q) [x7] H) (
 JoinP (print_of_k2 Φ a0 a1 Q) [(.bool true)] H) (
 False)
noncomputable def ir_print_of : AFunc := decF Go.Proofs.YtbkkoplgicffgaaGreatDoor.rb.C ⟨61,[],[],none,[],[]⟩
theorem eq_print_of (Φ : Calls') (a0 a1 : AV) (H : AH) (Q : Post) : fnE1 Φ ir_print_of [a0, a1] H Q = print_of Φ a0 a1 H Q := by kernel_rfl
def print_each_api_Field__l1 (Φ : Calls') (a0 : AV) (a1 : AV) (x1 : AV) (Q : Post) : (List AV × AH) → ((List AV × AH) → Prop) → Prop := fun s2 L3 =>
 Do (abin .lss (sl s2.1 0) x1) fun x4 =>
 Gd x4 true (
 Do (aiaddr none 9 a0 (sl s2.1 0)) fun x5 =>
 Do (aload s2.2 9 true x5) fun x6 =>
 DoH (some (abox s2.2 true [.str [], .int .i64 0, .int .i64 0, .bool false, .lst .nil 0 [], .int .i64 0, .lst .nil 0 [], .bool false, .int .i64 0])) fun x7 H8 =>
 Do (astore H8 9 x7 x6) fun H9 =>
 Do (aload H9 9 true x7) fun x10 =>
∃ k13 c14, a1 = .fn k13 c14 ∧ Φ (fkey k13) (fargs k13 [x10] c14) H9 fun x11 H12 =>
 Do (abin .add (sl s2.1 0) (.int .i64 1)) fun x15 =>
 L3 ([x15], H12)) (
 Q (.tup []) s2.2)
def print_each_api_Field_ (Φ : Calls') (a0 : AV) (a1 : AV) (H : AH) (Q : Post) : Prop :=
 Do (alen false a0) fun x1 =>
 LoopP (print_each_api_Field__l1 Φ a0 a1 x1 Q) ([(.int .i64 0)], H)
noncomputable def ir_print_each_api_Field_ : AFunc := decF Go.Proofs.YtbkkoplgicffgaaGreatDoor.rb.C ⟨62,[5],[[8]],none,[],[]⟩
theorem eq_print_each_api_Field_ (Φ : Calls') (a0 a1 : AV) (H : AH) (Q : Post) : fnE1 Φ ir_print_each_api_Field_ [a0, a1] H Q = print_each_api_Field_ Φ a0 a1 H Q := by kernel_rfl
def print_writer_field_k1 (Φ : Calls') (a0 : AV) (Q : Post) : List AV → AH → Prop := fun j16 H17 =>
 DoH (abslice H17 false 1 1 [.str []] [(0, 1, (.str [59]))]) fun x28 H29 =>
Φ K.print_writer_words [a0, x28] H29 fun x30 H31 =>
 Q (.tup []) H31
def print_writer_field_k2 (Φ : Calls') (a0 : AV) (x1 : AV) (Q : Post) : List AV → AH → Prop := fun j3 H4 =>
 Do (afaddr 1 x1) fun x12 =>
 Do (aload H4 6 true x12) fun x13 =>
Φ K.print_writer_typ [a0, x13] H4 fun x14 H15 =>
 Do (afaddr 7 x1) fun x18 =>
 Do (aload H15 1 false x18) fun x19 =>
 Gd x19 true (
 Do (afaddr 8 x1) fun x20 =>
 Do (aload H15 1 false x20) fun x21 =>
Φ K.print_number [x21] H15 fun x22 H23 =>
 DoH (abslice H23 false 1 2 [.str []] [(0, 1, (.str [58])), (1, 1, x22)]) fun x24 H25 =>
Φ K.print_writer_words [a0, x24] H25 fun x26 H27 =>
 JoinP (print_writer_field_k1 Φ a0 Q) [] H27) (
 JoinP (print_writer_field_k1 Φ a0 Q) [] H15)
def print_writer_field (Φ : Calls') (a0 : AV) (a1 : AV) (H : AH) (Q : Post) : Prop :=
 DoH (aboxv H false 9 a1) fun x1 H2 =>
 Do (afaddr 0 x1) fun x5 =>
 Do (aload H2 1 false x5) fun x6 =>
 Do (abin .eql x6 (.str [])) fun x7 =>
 Gd x7 true (
 DoH (abslice H2 false 1 1 [.str []] [(0, 1, (.str [95]))]) fun x8 H9 =>
Φ K.print_writer_words [a0, x8] H9 fun x10 H11 =>
 JoinP (print_writer_field_k2 Φ a0 x1 Q) [] H11) (
 Do (afaddr 0 x1) fun x32 =>
 Do (aload H2 1 false x32) fun x33 =>
 DoH (abslice H2 false 1 1 [.str []] [(0, 1, x33)]) fun x34 H35 =>
Φ K.print_writer_words [a0, x34] H35 fun x36 H37 =>
 JoinP (print_writer_field_k2 Φ a0 x1 Q) [] H37)
noncomputable def ir_print_writer_field : AFunc := decF Go.Proofs.YtbkkoplgicffgaaGreatDoor.rb.C ⟨63,[],[],none,[],[]⟩
theorem eq_print_writer_field (Φ : Calls') (a0 a1 : AV) (H : AH) (Q : Post) : fnE1 Φ ir_print_writer_field [a0, a1] H Q = print_writer_field Φ a0 a1 H Q := by kernel_rfl
def print_each_api_Stmt__l1 (Φ : Calls') (a0 : AV) (a1 : AV) (x1 : AV) (Q : Post) : (List AV × AH) → ((List AV × AH) → Prop) → Prop := fun s2 L3 =>
 Do (abin .lss (sl s2.1 0) x1) fun x4 =>
 Gd x4 true (
 Do (aiaddr none 10 a0 (sl s2.1 0)) fun x5 =>
 Do (aload s2.2 10 true x5) fun x6 =>
 DoH (some (abox s2.2 true [.int .i64 0, .int .i64 0, .str [], .str [], .int .i64 0, .str [], .lst .nil 0 [], .lst .nil 0 [], .lst .nil 0 [], .lst .nil 0 []])) fun x7 H8 =>
 Do (astore H8 10 x7 x6) fun H9 =>
 Do (aload H9 10 true x7) fun x10 =>
∃ k13 c14, a1 = .fn k13 c14 ∧ Φ (fkey k13) (fargs k13 [x10] c14) H9 fun x11 H12 =>
 Do (abin .add (sl s2.1 0) (.int .i64 1)) fun x15 =>
 L3 ([x15], H12)) (
 Q (.tup []) s2.2)
def print_each_api_Stmt_ (Φ : Calls') (a0 : AV) (a1 : AV) (H : AH) (Q : Post) : Prop :=
 Do (alen false a0) fun x1 =>
 LoopP (print_each_api_Stmt__l1 Φ a0 a1 x1 Q) ([(.int .i64 0)], H)
noncomputable def ir_print_each_api_Stmt_ : AFunc := decF Go.Proofs.YtbkkoplgicffgaaGreatDoor.rb.C ⟨64,[5],[[8]],none,[],[]⟩
theorem eq_print_each_api_Stmt_ (Φ : Calls') (a0 a1 : AV) (H : AH) (Q : Post) : fnE1 Φ ir_print_each_api_Stmt_ [a0, a1] H Q = print_each_api_Stmt_ Φ a0 a1 H Q := by kernel_rfl
def print_writer_stmt_k1 (Φ : Calls') (a0 : AV) (x1 : AV) (Q : Post) : List AV → AH → Prop := fun j33 H34 =>
 Do (afaddr 8 x1) fun x47 =>
 Do (aload H34 1 false x47) fun x48 =>
Φ K.print_writer_block [a0, x48] H34 fun x49 H50 =>
 Do (afaddr 9 x1) fun x51 =>
 Do (aload H50 1 false x51) fun x52 =>
 Do (alen false x52) fun x53 =>
 Do (abin .gtr x53 (.int .i64 0)) fun x54 =>
 Gd x54 true (
 DoH (abslice H50 false 1 1 [.str []] [(0, 1, (.str [101, 108, 115, 101]))]) fun x55 H56 =>
Φ K.print_writer_words [a0, x55] H56 fun x57 H58 =>
 Do (afaddr 9 x1) fun x59 =>
 Do (aload H58 1 false x59) fun x60 =>
Φ K.print_writer_block [a0, x60] H58 fun x61 H62 =>
 Q (.tup []) H62) (
 Q (.tup []) H50)
def print_writer_stmt_k2 (Φ : Calls') (a0 : AV) (x1 : AV) (Q : Post) : List AV → AH → Prop := fun j35 H36 =>
 Gd (sl j35 0) true (
 DoH (abslice H36 false 1 1 [.str []] [(0, 1, (.str [59]))]) fun x43 H44 =>
Φ K.print_writer_words [a0, x43] H44 fun x45 H46 =>
 Q (.tup []) H46) (
 JoinP (print_writer_stmt_k1 Φ a0 x1 Q) [] H36)
def print_writer_stmt_k3 (Φ : Calls') (a0 : AV) (x1 : AV) (Q : Post) : List AV → AH → Prop := fun j16 H17 =>
 Do (afaddr 7 x1) fun x29 =>
 Do (aload H17 1 false x29) fun x30 =>
Φ K.print_writer_exprs [a0, x30] H17 fun x31 H32 =>
 Do (afaddr 0 x1) fun x37 =>
 Do (aload H32 1 false x37) fun x38 =>
 Do (abin .neq x38 (.int .i64 8)) fun x39 =>
 Gd3 x39 true (
 Do (afaddr 0 x1) fun x40 =>
 Do (aload H32 1 false x40) fun x41 =>
 Do (abin .neq x41 (.int .i64 9)) fun x42 =>
 JoinP (print_writer_stmt_k2 Φ a0 x1 Q) [x42] H32) (
 JoinP (print_writer_stmt_k2 Φ a0 x1 Q) [(.bool false)] H32) (
 False)
def print_writer_stmt_k4 (Φ : Calls') (a0 : AV) (x1 : AV) (x19 : AV) (Q : Post) : List AV → AH → Prop := fun j72 H73 =>
 Gd (sl j72 0) true (
 Do (afaddr 4 x1) fun x75 =>
 Do (aload H73 1 false x75) fun x76 =>
Φ K.print_writer_order [a0, x76] H73 fun x77 H78 =>
 Do (afaddr 5 x1) fun x79 =>
 Do (aload H78 2 true x79) fun x80 =>
Φ K.print_writer_place [a0, x80] H78 fun x81 H82 =>
 DoH (abslice H82 false 1 1 [.str []] [(0, 1, (.str [61]))]) fun x83 H84 =>
Φ K.print_writer_words [a0, x83] H84 fun x85 H86 =>
 JoinP (print_writer_stmt_k3 Φ a0 x1 Q) [] H86) (
 Do (abin .eql x19 (.int .i64 5)) fun x87 =>
 Gd x87 true (
 Do (afaddr 4 x1) fun x88 =>
 Do (aload H73 1 false x88) fun x89 =>
Φ K.print_writer_order [a0, x89] H73 fun x90 H91 =>
 Do (afaddr 5 x1) fun x92 =>
 Do (aload H91 2 true x92) fun x93 =>
Φ K.print_writer_place [a0, x93] H91 fun x94 H95 =>
 Do (afaddr 2 x1) fun x96 =>
 Do (aload H95 1 false x96) fun x97 =>
 Do (afaddr 3 x1) fun x98 =>
 Do (aload H95 1 false x98) fun x99 =>
 DoH (abslice H95 false 1 2 [.str []] [(0, 1, x97), (1, 1, x99)]) fun x100 H101 =>
Φ K.print_writer_words [a0, x100] H101 fun x102 H103 =>
 JoinP (print_writer_stmt_k3 Φ a0 x1 Q) [] H103) (
 Do (abin .eql x19 (.int .i64 7)) fun x104 =>
 Gd x104 true (
 Do (afaddr 4 x1) fun x105 =>
 Do (aload H73 1 false x105) fun x106 =>
Φ K.print_writer_order [a0, x106] H73 fun x107 H108 =>
 JoinP (print_writer_stmt_k3 Φ a0 x1 Q) [] H108) (
 JoinP (print_writer_stmt_k3 Φ a0 x1 Q) [] H73)))
def print_writer_stmt_k5 (Φ : Calls') (a0 : AV) (x1 : AV) (x19 : AV) (Q : Post) : List AV → AH → Prop := fun j20 H21 =>
 Gd (sl j20 0) true (
 Do (afaddr 2 x1) fun x23 =>
 Do (aload H21 1 false x23) fun x24 =>
 DoH (abslice H21 false 1 2 [.str []] [(0, 1, x24), (1, 1, (.str [61]))]) fun x25 H26 =>
Φ K.print_writer_words [a0, x25] H26 fun x27 H28 =>
 JoinP (print_writer_stmt_k3 Φ a0 x1 Q) [] H28) (
 Do (abin .eql x19 (.int .i64 3)) fun x63 =>
 Gd x63 true (
 Do (afaddr 5 x1) fun x64 =>
 Do (aload H21 2 true x64) fun x65 =>
Φ K.print_writer_place [a0, x65] H21 fun x66 H67 =>
 DoH (abslice H67 false 1 1 [.str []] [(0, 1, (.str [61]))]) fun x68 H69 =>
Φ K.print_writer_words [a0, x68] H69 fun x70 H71 =>
 JoinP (print_writer_stmt_k3 Φ a0 x1 Q) [] H71) (
 Do (abin .eql x19 (.int .i64 4)) fun x74 =>
 Gd x74 true (
 JoinP (print_writer_stmt_k4 Φ a0 x1 x19 Q) [x74] H21) (
 Do (abin .eql x19 (.int .i64 6)) fun x109 =>
 JoinP (print_writer_stmt_k4 Φ a0 x1 x19 Q) [x109] H21)))
def print_writer_stmt (Φ : Calls') (a0 : AV) (a1 : AV) (H : AH) (Q : Post) : Prop :=
 DoH (aboxv H false 10 a1) fun x1 H2 =>
Φ K.print_writer_full [a0] H2 fun x3 H4 =>
 Gd x3 true (
 Q (.tup []) H4) (
 Do (afaddr 0 x1) fun x5 =>
 Do (aload H4 1 false x5) fun x6 =>
 Do (abin .sub x6 (.int .i64 1)) fun x7 =>
 DoH (abslice H4 false 1 10 [.str []] [(0, 1, (.str [108, 101, 116])), (1, 1, (.str [115, 101, 116])), (2, 1, (.str [119, 114, 105, 116, 101])), (3, 1, (.str [115, 116, 111, 114, 101])), (4, 1, (.str [108, 111, 97, 100, 50])), (5, 1, (.str [115, 116, 111, 114, 101, 50])), (6, 1, (.str [102, 101, 110, 99, 101])), (7, 1, (.str [105, 102])), (8, 1, (.str [119, 104, 105, 108, 101])), (9, 1, (.str [112, 114, 105, 110, 116]))]) fun x8 H9 =>
Φ K.print_of [x7, x8] H9 fun x10 H11 =>
 DoH (abslice H11 false 1 1 [.str []] [(0, 1, x10)]) fun x12 H13 =>
Φ K.print_writer_words [a0, x12] H13 fun x14 H15 =>
 Do (afaddr 0 x1) fun x18 =>
 Do (aload H15 1 false x18) fun x19 =>
 Do (abin .eql x19 (.int .i64 1)) fun x22 =>
 Gd x22 true (
 JoinP (print_writer_stmt_k5 Φ a0 x1 x19 Q) [x22] H15) (
 Do (abin .eql x19 (.int .i64 2)) fun x110 =>
 JoinP (print_writer_stmt_k5 Φ a0 x1 x19 Q) [x110] H15))
noncomputable def ir_print_writer_stmt : AFunc := decF Go.Proofs.YtbkkoplgicffgaaGreatDoor.rb.C ⟨65,[],[],none,[],[]⟩
theorem eq_print_writer_stmt (Φ : Calls') (a0 a1 : AV) (H : AH) (Q : Post) : fnE1 Φ ir_print_writer_stmt [a0, a1] H Q = print_writer_stmt Φ a0 a1 H Q := by kernel_rfl
def slices_EqualFunc___api_Type___api_Type_api_Type_api_Type__l1 (Φ : Calls') (a0 : AV) (a1 : AV) (a2 : AV) (x4 : AV) (Q : Post) : (List AV × AH) → ((List AV × AH) → Prop) → Prop := fun s5 L6 =>
 Do (abin .lss (sl s5.1 0) x4) fun x7 =>
 Gd x7 true (
 Do (aiaddr none 6 a0 (sl s5.1 0)) fun x8 =>
 Do (aload s5.2 6 true x8) fun x9 =>
 DoH (some (abox s5.2 true [.int .i64 0, .int .i64 0, .bool false, .lst .nil 0 [], .int .i64 0, .lst .nil 0 []])) fun x10 H11 =>
 Do (astore H11 6 x10 x9) fun H12 =>
 Do (aiaddr none 6 a1 (sl s5.1 0)) fun x13 =>
 Do (aload H12 6 true x13) fun x14 =>
 DoH (some (abox H12 true [.int .i64 0, .int .i64 0, .bool false, .lst .nil 0 [], .int .i64 0, .lst .nil 0 []])) fun x15 H16 =>
 Do (astore H16 6 x15 x14) fun H17 =>
 Do (aload H17 6 true x10) fun x18 =>
 Do (aload H17 6 true x15) fun x19 =>
∃ k22 c23, a2 = .fn k22 c23 ∧ Φ (fkey k22) (fargs k22 [x18, x19] c23) H17 fun x20 H21 =>
 Do (aun .not x20) fun x24 =>
 Gd x24 true (
 Q (.bool false) H21) (
 Do (abin .add (sl s5.1 0) (.int .i64 1)) fun x25 =>
 L6 ([x25], H21))) (
 Q (.bool true) s5.2)
def slices_EqualFunc___api_Type___api_Type_api_Type_api_Type_ (Φ : Calls') (a0 : AV) (a1 : AV) (a2 : AV) (H : AH) (Q : Post) : Prop :=
 Do (alen false a0) fun x1 =>
 Do (alen false a1) fun x2 =>
 Do (abin .neq x1 x2) fun x3 =>
 Gd x3 true (
 Q (.bool false) H) (
 Do (alen false a0) fun x4 =>
 LoopP (slices_EqualFunc___api_Type___api_Type_api_Type_api_Type__l1 Φ a0 a1 a2 x4 Q) ([(.int .i64 0)], H))
noncomputable def ir_slices_EqualFunc___api_Type___api_Type_api_Type_api_Type_ : AFunc := decF Go.Proofs.YtbkkoplgicffgaaGreatDoor.rb.C ⟨68,[8,9],[[17]],none,[],[]⟩
theorem eq_slices_EqualFunc___api_Type___api_Type_api_Type_api_Type_ (Φ : Calls') (a0 a1 a2 : AV) (H : AH) (Q : Post) : fnE1 Φ ir_slices_EqualFunc___api_Type___api_Type_api_Type_api_Type_ [a0, a1, a2] H Q = slices_EqualFunc___api_Type___api_Type_api_Type_api_Type_ Φ a0 a1 a2 H Q := by kernel_rfl
def slices_EqualFunc___api_Field___api_Field_api_Field_api_Field__l1 (Φ : Calls') (a0 : AV) (a1 : AV) (a2 : AV) (x4 : AV) (Q : Post) : (List AV × AH) → ((List AV × AH) → Prop) → Prop := fun s5 L6 =>
 Do (abin .lss (sl s5.1 0) x4) fun x7 =>
 Gd x7 true (
 Do (aiaddr none 9 a0 (sl s5.1 0)) fun x8 =>
 Do (aload s5.2 9 true x8) fun x9 =>
 DoH (some (abox s5.2 true [.str [], .int .i64 0, .int .i64 0, .bool false, .lst .nil 0 [], .int .i64 0, .lst .nil 0 [], .bool false, .int .i64 0])) fun x10 H11 =>
 Do (astore H11 9 x10 x9) fun H12 =>
 Do (aiaddr none 9 a1 (sl s5.1 0)) fun x13 =>
 Do (aload H12 9 true x13) fun x14 =>
 DoH (some (abox H12 true [.str [], .int .i64 0, .int .i64 0, .bool false, .lst .nil 0 [], .int .i64 0, .lst .nil 0 [], .bool false, .int .i64 0])) fun x15 H16 =>
 Do (astore H16 9 x15 x14) fun H17 =>
 Do (aload H17 9 true x10) fun x18 =>
 Do (aload H17 9 true x15) fun x19 =>
∃ k22 c23, a2 = .fn k22 c23 ∧ Φ (fkey k22) (fargs k22 [x18, x19] c23) H17 fun x20 H21 =>
 Do (aun .not x20) fun x24 =>
 Gd x24 true (
 Q (.bool false) H21) (
 Do (abin .add (sl s5.1 0) (.int .i64 1)) fun x25 =>
 L6 ([x25], H21))) (
 Q (.bool true) s5.2)
def slices_EqualFunc___api_Field___api_Field_api_Field_api_Field_ (Φ : Calls') (a0 : AV) (a1 : AV) (a2 : AV) (H : AH) (Q : Post) : Prop :=
 Do (alen false a0) fun x1 =>
 Do (alen false a1) fun x2 =>
 Do (abin .neq x1 x2) fun x3 =>
 Gd x3 true (
 Q (.bool false) H) (
 Do (alen false a0) fun x4 =>
 LoopP (slices_EqualFunc___api_Field___api_Field_api_Field_api_Field__l1 Φ a0 a1 a2 x4 Q) ([(.int .i64 0)], H))
noncomputable def ir_slices_EqualFunc___api_Field___api_Field_api_Field_api_Field_ : AFunc := decF Go.Proofs.YtbkkoplgicffgaaGreatDoor.rb.C ⟨69,[8,9],[[17]],none,[],[]⟩
theorem eq_slices_EqualFunc___api_Field___api_Field_api_Field_api_Field_ (Φ : Calls') (a0 a1 a2 : AV) (H : AH) (Q : Post) : fnE1 Φ ir_slices_EqualFunc___api_Field___api_Field_api_Field_api_Field_ [a0, a1, a2] H Q = slices_EqualFunc___api_Field___api_Field_api_Field_api_Field_ Φ a0 a1 a2 H Q := by kernel_rfl
def print_sameType_c1_k1 (Φ : Calls') (x1 : AV) (x3 : AV) (Q : Post) : List AV → AH → Prop := fun j17 H18 =>
 Gd3 (sl j17 0) true (
 Do (afaddr 1 x1) fun x24 =>
 Do (aload H18 6 true x24) fun x25 =>
 Do (afaddr 1 x3) fun x26 =>
 Do (aload H18 6 true x26) fun x27 =>
Φ K.print_sameType [x25, x27] H18 fun x28 H29 =>
 Q x28 H29) (
 Q (.bool false) H18) (
 False)
def print_sameType_c1_k2 (Φ : Calls') (x1 : AV) (x3 : AV) (Q : Post) : List AV → AH → Prop := fun j5 H6 =>
 Gd3 (sl j5 0) true (
 Do (afaddr 8 x1) fun x19 =>
 Do (aload H6 1 false x19) fun x20 =>
 Do (afaddr 8 x3) fun x21 =>
 Do (aload H6 1 false x21) fun x22 =>
 Do (abin .eql x20 x22) fun x23 =>
 JoinP (print_sameType_c1_k1 Φ x1 x3 Q) [x23] H6) (
 JoinP (print_sameType_c1_k1 Φ x1 x3 Q) [(.bool false)] H6) (
 False)
def print_sameType_c1 (Φ : Calls') (a0 : AV) (a1 : AV) (H : AH) (Q : Post) : Prop :=
 DoH (aboxv H false 9 a0) fun x1 H2 =>
 DoH (aboxv H2 false 9 a1) fun x3 H4 =>
 Do (afaddr 0 x1) fun x7 =>
 Do (aload H4 1 false x7) fun x8 =>
 Do (afaddr 0 x3) fun x9 =>
 Do (aload H4 1 false x9) fun x10 =>
 Do (abin .eql x8 x10) fun x11 =>
 Gd3 x11 true (
 Do (afaddr 7 x1) fun x12 =>
 Do (aload H4 1 false x12) fun x13 =>
 Do (afaddr 7 x3) fun x14 =>
 Do (aload H4 1 false x14) fun x15 =>
 Do (abeq false x13 x15) fun x16 =>
 JoinP (print_sameType_c1_k2 Φ x1 x3 Q) [x16] H4) (
 JoinP (print_sameType_c1_k2 Φ x1 x3 Q) [(.bool false)] H4) (
 False)
noncomputable def ir_print_sameType_c1 : AFunc := decF Go.Proofs.YtbkkoplgicffgaaGreatDoor.rb.C ⟨70,[],[],none,[],[]⟩
theorem eq_print_sameType_c1 (Φ : Calls') (a0 a1 : AV) (H : AH) (Q : Post) : fnE1 Φ ir_print_sameType_c1 [a0, a1] H Q = print_sameType_c1 Φ a0 a1 H Q := by kernel_rfl
def print_samePlace (Φ : Calls') (a0 : AV) (a1 : AV) (H : AH) (Q : Post) : Prop :=
 DoH (aboxv H false 2 a0) fun x1 H2 =>
 DoH (aboxv H2 false 2 a1) fun x3 H4 =>
 Do (afaddr 0 x1) fun x5 =>
 Do (aload H4 1 false x5) fun x6 =>
 Do (afaddr 0 x3) fun x7 =>
 Do (aload H4 1 false x7) fun x8 =>
 Do (abin .eql x6 x8) fun x9 =>
 Gd3 x9 true (
 Do (afaddr 1 x1) fun x10 =>
 Do (aload H4 1 false x10) fun x11 =>
 Do (afaddr 1 x3) fun x12 =>
 Do (aload H4 1 false x12) fun x13 =>
Φ K.slices_EqualFunc___api_Part___api_Part_api_Part_api_Part_ [x11, x13, (.fn K.print_samePlace_c1 [])] H4 fun x14 H15 =>
 Q x14 H15) (
 Q (.bool false) H4) (
 False)
noncomputable def ir_print_samePlace : AFunc := decF Go.Proofs.YtbkkoplgicffgaaGreatDoor.rb.C ⟨71,[],[],none,[],[]⟩
theorem eq_print_samePlace (Φ : Calls') (a0 a1 : AV) (H : AH) (Q : Post) : fnE1 Φ ir_print_samePlace [a0, a1] H Q = print_samePlace Φ a0 a1 H Q := by kernel_rfl
def slices_EqualFunc___api_Expr___api_Expr_api_Expr_api_Expr__l1 (Φ : Calls') (a0 : AV) (a1 : AV) (a2 : AV) (x4 : AV) (Q : Post) : (List AV × AH) → ((List AV × AH) → Prop) → Prop := fun s5 L6 =>
 Do (abin .lss (sl s5.1 0) x4) fun x7 =>
 Gd x7 true (
 Do (aiaddr none 8 a0 (sl s5.1 0)) fun x8 =>
 Do (aload s5.2 8 true x8) fun x9 =>
 DoH (some (abox s5.2 true [.int .i64 0, .int .u64 0, .str [], .int .i64 0, .int .i64 0, .str [], .lst .nil 0 [], .lst .nil 0 []])) fun x10 H11 =>
 Do (astore H11 8 x10 x9) fun H12 =>
 Do (aiaddr none 8 a1 (sl s5.1 0)) fun x13 =>
 Do (aload H12 8 true x13) fun x14 =>
 DoH (some (abox H12 true [.int .i64 0, .int .u64 0, .str [], .int .i64 0, .int .i64 0, .str [], .lst .nil 0 [], .lst .nil 0 []])) fun x15 H16 =>
 Do (astore H16 8 x15 x14) fun H17 =>
 Do (aload H17 8 true x10) fun x18 =>
 Do (aload H17 8 true x15) fun x19 =>
∃ k22 c23, a2 = .fn k22 c23 ∧ Φ (fkey k22) (fargs k22 [x18, x19] c23) H17 fun x20 H21 =>
 Do (aun .not x20) fun x24 =>
 Gd x24 true (
 Q (.bool false) H21) (
 Do (abin .add (sl s5.1 0) (.int .i64 1)) fun x25 =>
 L6 ([x25], H21))) (
 Q (.bool true) s5.2)
def slices_EqualFunc___api_Expr___api_Expr_api_Expr_api_Expr_ (Φ : Calls') (a0 : AV) (a1 : AV) (a2 : AV) (H : AH) (Q : Post) : Prop :=
 Do (alen false a0) fun x1 =>
 Do (alen false a1) fun x2 =>
 Do (abin .neq x1 x2) fun x3 =>
 Gd x3 true (
 Q (.bool false) H) (
 Do (alen false a0) fun x4 =>
 LoopP (slices_EqualFunc___api_Expr___api_Expr_api_Expr_api_Expr__l1 Φ a0 a1 a2 x4 Q) ([(.int .i64 0)], H))
noncomputable def ir_slices_EqualFunc___api_Expr___api_Expr_api_Expr_api_Expr_ : AFunc := decF Go.Proofs.YtbkkoplgicffgaaGreatDoor.rb.C ⟨72,[8,9],[[17]],none,[],[]⟩
theorem eq_slices_EqualFunc___api_Expr___api_Expr_api_Expr_api_Expr_ (Φ : Calls') (a0 a1 a2 : AV) (H : AH) (Q : Post) : fnE1 Φ ir_slices_EqualFunc___api_Expr___api_Expr_api_Expr_api_Expr_ [a0, a1, a2] H Q = slices_EqualFunc___api_Expr___api_Expr_api_Expr_api_Expr_ Φ a0 a1 a2 H Q := by kernel_rfl
def lex_scanner_next (Φ : Calls') (a0 : AV) (H : AH) (Q : Post) : Prop :=
 Do (anilck a0) fun x1 =>
 Do (afaddr 0 x1) fun x2 =>
 Do (aload H 1 false x2) fun x3 =>
 Do (anilck a0) fun x4 =>
 Do (afaddr 1 x4) fun x5 =>
 Do (aload H 1 false x5) fun x6 =>
 Do (aidxs x3 x6) fun x7 =>
 Do (abin .eql x7 (.int .u8 10)) fun x8 =>
 Gd x8 true (
 Do (anilck a0) fun x9 =>
 Do (afaddr 2 x9) fun x10 =>
 Do (aload H 1 false x10) fun x11 =>
 Do (abin .add x11 (.int .i64 1)) fun x12 =>
 Do (anilck a0) fun x13 =>
 Do (afaddr 2 x13) fun x14 =>
 Do (astore H 1 x14 x12) fun H15 =>
 Do (anilck a0) fun x16 =>
 Do (afaddr 1 x16) fun x17 =>
 Do (aload H15 1 false x17) fun x18 =>
 Do (abin .add x18 (.int .i64 1)) fun x19 =>
 Do (anilck a0) fun x20 =>
 Do (afaddr 1 x20) fun x21 =>
 Do (astore H15 1 x21 x19) fun H22 =>
 Q (.bool true) H22) (
 Do (abin .eql x7 (.int .u8 32)) fun x23 =>
 Gd x23 true (
 Do (anilck a0) fun x24 =>
 Do (afaddr 1 x24) fun x25 =>
 Do (aload H 1 false x25) fun x26 =>
 Do (abin .add x26 (.int .i64 1)) fun x27 =>
 Do (anilck a0) fun x28 =>
 Do (afaddr 1 x28) fun x29 =>
 Do (astore H 1 x29 x27) fun H30 =>
 Q (.bool true) H30) (
Φ K.lex_letter [x7] H fun x31 H32 =>
 Gd x31 true (
Φ K.lex_scanner_word [a0] H32 fun x33 H34 =>
 Q x33 H34) (
Φ K.lex_digit [x7] H32 fun x35 H36 =>
 Gd x35 true (
Φ K.lex_scanner_number [a0] H36 fun x37 H38 =>
 Q x37 H38) (
Φ K.lex_scanner_sign [a0] H36 fun x39 H40 =>
 Q x39 H40))))
noncomputable def ir_lex_scanner_next : AFunc := decF Go.Proofs.YtbkkoplgicffgaaGreatDoor.rb.C ⟨80,[],[],none,[],[]⟩
theorem eq_lex_scanner_next (Φ : Calls') (a0 : AV) (H : AH) (Q : Post) : fnE1 Φ ir_lex_scanner_next [a0] H Q = lex_scanner_next Φ a0 H Q := by kernel_rfl
def slices_Contains___string_string_ (Φ : Calls') (a0 : AV) (a1 : AV) (H : AH) (Q : Post) : Prop :=
Φ K.slices_Index___string_string_ [a0, a1] H fun x1 H2 =>
 Do (abin .geq x1 (.int .i64 0)) fun x3 =>
 Q x3 H2
noncomputable def ir_slices_Contains___string_string_ : AFunc := decF Go.Proofs.YtbkkoplgicffgaaGreatDoor.rb.C ⟨81,[],[],none,[],[]⟩
theorem eq_slices_Contains___string_string_ (Φ : Calls') (a0 a1 : AV) (H : AH) (Q : Post) : fnE1 Φ ir_slices_Contains___string_string_ [a0, a1] H Q = slices_Contains___string_string_ Φ a0 a1 H Q := by kernel_rfl
def parse_digits_k1 (Φ : Calls') (a0 : AV) (Q : Post) : List AV → AH → Prop := fun j1 H2 =>
 Gd3 (sl j1 0) true (
 Do (aidxs a0 (.int .i64 0)) fun x6 =>
 Do (abin .leq x6 (.int .u8 57)) fun x7 =>
 Q x7 H2) (
 Q (.bool false) H2) (
 False)
def parse_digits (Φ : Calls') (a0 : AV) (H : AH) (Q : Post) : Prop :=
 Do (abin .neq a0 (.str [])) fun x3 =>
 Gd3 x3 true (
 Do (aidxs a0 (.int .i64 0)) fun x4 =>
 Do (abin .geq x4 (.int .u8 48)) fun x5 =>
 JoinP (parse_digits_k1 Φ a0 Q) [x5] H) (
 JoinP (parse_digits_k1 Φ a0 Q) [(.bool false)] H) (
 False)
noncomputable def ir_parse_digits : AFunc := decF Go.Proofs.YtbkkoplgicffgaaGreatDoor.rb.C ⟨83,[],[],none,[],[]⟩
theorem eq_parse_digits (Φ : Calls') (a0 : AV) (H : AH) (Q : Post) : fnE1 Φ ir_parse_digits [a0] H Q = parse_digits Φ a0 H Q := by kernel_rfl
def parse_parser_value (Φ : Calls') (a0 : AV) (a1 : AV) (H : AH) (Q : Post) : Prop :=
Φ K.parse_parser_want [a0, (.str [61])] H fun x1 H2 =>
 Do (abin .add a1 (.int .i64 1)) fun x3 =>
Φ K.parse_parser_expr [a0, x3] H2 fun x4 H5 =>
 DoH (abslice H5 false 8 1 [.int .i64 0, .int .u64 0, .str [], .int .i64 0, .int .i64 0, .str [], .lst .nil 0 [], .lst .nil 0 []] [(0, 8, x4)]) fun x6 H7 =>
 Q x6 H7
noncomputable def ir_parse_parser_value : AFunc := decF Go.Proofs.YtbkkoplgicffgaaGreatDoor.rb.C ⟨85,[],[],none,[],[]⟩
theorem eq_parse_parser_value (Φ : Calls') (a0 a1 : AV) (H : AH) (Q : Post) : fnE1 Φ ir_parse_parser_value [a0, a1] H Q = parse_parser_value Φ a0 a1 H Q := by kernel_rfl
def parse_parser_place_k1 (Φ : Calls') (x1 : AV) (x6 : AV) (Q : Post) : List AV → AH → Prop := fun j9 H10 =>
 Do (aload H10 2 true x6) fun x50 =>
 Do (astore H10 2 x1 x50) fun H51 =>
 Do (aload H51 2 true x1) fun x52 =>
 Q x52 H51
def parse_parser_place_l2 (Φ : Calls') (a0 : AV) (a1 : AV) (x1 : AV) (x6 : AV) (Q : Post) : (List AV × AH) → ((List AV × AH) → Prop) → Prop := fun s11 L12 =>
Φ K.parse_parser_bad [a0] s11.2 fun x13 H14 =>
 Do (aun .not x13) fun x15 =>
 Gd x15 true (
Φ K.parse_parser_is [a0, (.str [46])] H14 fun x16 H17 =>
 Gd x16 true (
 Do (afaddr 1 x6) fun x18 =>
 Do (aload H17 1 false x18) fun x19 =>
Φ K.parse_parser_name [a0] H17 fun x20 H21 =>
(aload H21 1 false x18 = some x19) ∧
(Do (abuild [.str [], .lst .nil 0 []] [(0, 1, x20)]) fun x22 =>
 DoH (abslice H21 false 2 1 [.str [], .lst .nil 0 []] [(0, 2, x22)]) fun x23 H24 =>
 DoH (aappend H24 false 2 40 x19 x23) fun x25 H26 =>
 Do (afaddr 1 x6) fun x27 =>
 Do (astore H26 1 x27 x25) fun H28 =>
 L12 ([], H28))) (
Φ K.parse_parser_is [a0, (.str [91])] H17 fun x29 H30 =>
 Gd x29 true (
 Do (afaddr 1 x6) fun x31 =>
 Do (aload H30 1 false x31) fun x32 =>
 Do (abin .add a1 (.int .i64 1)) fun x33 =>
Φ K.parse_parser_expr [a0, x33] H30 fun x34 H35 =>
(aload H35 1 false x31 = some x32) ∧
(DoH (abslice H35 false 8 1 [.int .i64 0, .int .u64 0, .str [], .int .i64 0, .int .i64 0, .str [], .lst .nil 0 [], .lst .nil 0 []] [(0, 8, x34)]) fun x36 H37 =>
 Do (abuild [.str [], .lst .nil 0 []] [(1, 1, x36)]) fun x38 =>
 DoH (abslice H37 false 2 1 [.str [], .lst .nil 0 []] [(0, 2, x38)]) fun x39 H40 =>
 DoH (aappend H40 false 2 40 x32 x39) fun x41 H42 =>
 Do (afaddr 1 x6) fun x43 =>
 Do (astore H42 1 x43 x41) fun H44 =>
Φ K.parse_parser_want [a0, (.str [93])] H44 fun x45 H46 =>
 L12 ([], H46))) (
 Do (aload H30 2 true x6) fun x47 =>
 Do (astore H30 2 x1 x47) fun H48 =>
 Do (aload H48 2 true x1) fun x49 =>
 Q x49 H48))) (
 JoinP (parse_parser_place_k1 Φ x1 x6 Q) [] H14)
def parse_parser_place (Φ : Calls') (a0 : AV) (a1 : AV) (H : AH) (Q : Post) : Prop :=
 DoH (some (abox H true [.str [], .lst .nil 0 []])) fun x1 H2 =>
Φ K.parse_parser_name [a0] H2 fun x3 H4 =>
 Do (abuild [.str [], .lst .nil 0 []] [(0, 1, x3)]) fun x5 =>
 DoH (some (abox H4 true [.str [], .lst .nil 0 []])) fun x6 H7 =>
 Do (astore H7 2 x6 x5) fun H8 =>
 LoopP (parse_parser_place_l2 Φ a0 a1 x1 x6 Q) ([], H8)
noncomputable def ir_parse_parser_place : AFunc := decF Go.Proofs.YtbkkoplgicffgaaGreatDoor.rb.C ⟨86,[4,5],[[]],none,[],[]⟩
theorem eq_parse_parser_place (Φ : Calls') (a0 a1 : AV) (H : AH) (Q : Post) : fnE1 Φ ir_parse_parser_place [a0, a1] H Q = parse_parser_place Φ a0 a1 H Q := by kernel_rfl
def parse_parser_order_k1 (Φ : Calls') (a0 : AV) (Q : Post) : List AV → AH → Prop := fun j1 H2 =>
Φ K.parse_parser_fail [a0, (.int .i64 4)] H2 fun x12 H13 =>
 Q (.int .i64 0) H13
def parse_parser_order_l2 (Φ : Calls') (a0 : AV) (x3 : AV) (Q : Post) : (List AV × AH) → ((List AV × AH) → Prop) → Prop := fun s4 L5 =>
 Do (abin .lss (sl s4.1 0) (.int .i64 4)) fun x6 =>
 Gd x6 true (
 Do (aidx 4 1 false x3 (sl s4.1 0)) fun x7 =>
Φ K.parse_parser_is [a0, x7] s4.2 fun x8 H9 =>
 Gd x8 true (
 Do (abin .add (sl s4.1 0) (.int .i64 1)) fun x10 =>
 Q x10 H9) (
 Do (abin .add (sl s4.1 0) (.int .i64 1)) fun x11 =>
 L5 ([x11], H9))) (
 JoinP (parse_parser_order_k1 Φ a0 Q) [] s4.2)
def parse_parser_order (Φ : Calls') (a0 : AV) (H : AH) (Q : Post) : Prop :=
 Do (abuild [.str [], .str [], .str [], .str []] [(0, 1, (.str [114, 108, 120])), (1, 1, (.str [97, 99, 113])), (2, 1, (.str [114, 101, 108])), (3, 1, (.str [115, 99]))]) fun x3 =>
 LoopP (parse_parser_order_l2 Φ a0 x3 Q) ([(.int .i64 0)], H)
noncomputable def ir_parse_parser_order : AFunc := decF Go.Proofs.YtbkkoplgicffgaaGreatDoor.rb.C ⟨87,[],[[6]],none,[],[]⟩
theorem eq_parse_parser_order (Φ : Calls') (a0 : AV) (H : AH) (Q : Post) : fnE1 Φ ir_parse_parser_order [a0] H Q = parse_parser_order Φ a0 H Q := by kernel_rfl
def parse_parser_expr_k1 (Φ : Calls') (a0 : AV) (x1 : AV) (Q : Post) : List AV → AH → Prop := fun j9 H10 =>
Φ K.parse_parser_fail [a0, (.int .i64 4)] H10 fun x68 H69 =>
 Do (abuild [.int .i64 0, .int .u64 0, .str [], .int .i64 0, .int .i64 0, .str [], .lst .nil 0 [], .lst .nil 0 []] []) fun x70 =>
 Do (astore H69 8 x1 x70) fun H71 =>
 Do (aload H71 8 true x1) fun x72 =>
 Q x72 H71
def parse_parser_expr_k2 (Φ : Calls') (a0 : AV) (a1 : AV) (x1 : AV) (Q : Post) : List AV → AH → Prop := fun j20 H21 =>
 Gd (sl j20 0) true (
Φ K.parse_parser_next [a0] H21 fun x27 H28 =>
 Do (abuild [.int .i64 0, .int .u64 0, .str [], .int .i64 0, .int .i64 0, .str [], .lst .nil 0 [], .lst .nil 0 []] [(0, 1, (.int .i64 2)), (2, 1, x27)]) fun x29 =>
 Do (astore H28 8 x1 x29) fun H30 =>
 Do (aload H30 8 true x1) fun x31 =>
 Q x31 H30) (
Φ K.parse_parser_is [a0, (.str [40])] H21 fun x32 H33 =>
 Gd x32 true (
Φ K.parse_parser_binary [a0, a1] H33 fun x34 H35 =>
 Do (astore H35 8 x1 x34) fun H36 =>
 Do (aload H36 8 true x1) fun x37 =>
 Q x37 H36) (
Φ K.parse_parser_is [a0, (.str [114, 101, 97, 100])] H33 fun x38 H39 =>
 Gd x38 true (
Φ K.parse_parser_access [a0, (.int .i64 4), (.int .i64 0), a1] H39 fun x40 H41 =>
 Do (astore H41 8 x1 x40) fun H42 =>
 Do (aload H42 8 true x1) fun x43 =>
 Q x43 H42) (
Φ K.parse_parser_is [a0, (.str [108, 111, 97, 100])] H39 fun x44 H45 =>
 Gd x44 true (
Φ K.parse_parser_access [a0, (.int .i64 5), (.int .i64 0), a1] H45 fun x46 H47 =>
 Do (astore H47 8 x1 x46) fun H48 =>
 Do (aload H48 8 true x1) fun x49 =>
 Q x49 H48) (
Φ K.parse_parser_is [a0, (.str [97, 100, 100])] H45 fun x50 H51 =>
 Gd x50 true (
Φ K.parse_parser_access [a0, (.int .i64 6), (.int .i64 1), a1] H51 fun x52 H53 =>
 Do (astore H53 8 x1 x52) fun H54 =>
 Do (aload H54 8 true x1) fun x55 =>
 Q x55 H54) (
Φ K.parse_parser_is [a0, (.str [115, 119, 97, 112])] H51 fun x56 H57 =>
 Gd x56 true (
Φ K.parse_parser_access [a0, (.int .i64 7), (.int .i64 1), a1] H57 fun x58 H59 =>
 Do (astore H59 8 x1 x58) fun H60 =>
 Do (aload H60 8 true x1) fun x61 =>
 Q x61 H60) (
Φ K.parse_parser_is [a0, (.str [99, 97, 115])] H57 fun x62 H63 =>
 Gd x62 true (
Φ K.parse_parser_access [a0, (.int .i64 8), (.int .i64 2), a1] H63 fun x64 H65 =>
 Do (astore H65 8 x1 x64) fun H66 =>
 Do (aload H66 8 true x1) fun x67 =>
 Q x67 H66) (
 JoinP (parse_parser_expr_k1 Φ a0 x1 Q) [] H63)))))))
def parse_parser_expr (Φ : Calls') (a0 : AV) (a1 : AV) (H : AH) (Q : Post) : Prop :=
 DoH (some (abox H true [.int .i64 0, .int .u64 0, .str [], .int .i64 0, .int .i64 0, .str [], .lst .nil 0 [], .lst .nil 0 []])) fun x1 H2 =>
Φ K.parse_parser_deep [a0, a1] H2 fun x3 H4 =>
 Do (aun .not x3) fun x5 =>
 Gd x5 true (
 Do (abuild [.int .i64 0, .int .u64 0, .str [], .int .i64 0, .int .i64 0, .str [], .lst .nil 0 [], .lst .nil 0 []] []) fun x6 =>
 Do (astore H4 8 x1 x6) fun H7 =>
 Do (aload H7 8 true x1) fun x8 =>
 Q x8 H7) (
Φ K.parse_parser_peek [a0] H4 fun x11 H12 =>
Φ K.parse_digits [x11] H12 fun x13 H14 =>
 Gd x13 true (
Φ K.parse_parser_number [a0, (.int .u64 18446744073709551615)] H14 fun x15 H16 =>
 Do (abuild [.int .i64 0, .int .u64 0, .str [], .int .i64 0, .int .i64 0, .str [], .lst .nil 0 [], .lst .nil 0 []] [(0, 1, (.int .i64 1)), (1, 1, x15)]) fun x17 =>
 Do (astore H16 8 x1 x17) fun H18 =>
 Do (aload H18 8 true x1) fun x19 =>
 Q x19 H18) (
Φ K.parse_letters [x11] H14 fun x22 H23 =>
 Gd3 x22 true (
Φ K.lex_Keyword [x11] H23 fun x24 H25 =>
 Do (aun .not x24) fun x26 =>
 JoinP (parse_parser_expr_k2 Φ a0 a1 x1 Q) [x26] H25) (
 JoinP (parse_parser_expr_k2 Φ a0 a1 x1 Q) [(.bool false)] H23) (
 False)))
noncomputable def ir_parse_parser_expr : AFunc := decF Go.Proofs.YtbkkoplgicffgaaGreatDoor.rb.C ⟨88,[4],[],none,[],[]⟩
theorem eq_parse_parser_expr (Φ : Calls') (a0 a1 : AV) (H : AH) (Q : Post) : fnE1 Φ ir_parse_parser_expr [a0, a1] H Q = parse_parser_expr Φ a0 a1 H Q := by kernel_rfl
def parse_parser_control_k1 (Φ : Calls') (x1 : AV) (x3 : AV) (Q : Post) : List AV → AH → Prop := fun j23 H24 =>
 Do (aload H24 10 true x1) fun x37 =>
 Do (astore H24 10 x3 x37) fun H38 =>
 Do (aload H38 10 true x3) fun x39 =>
 Q x39 H38
def parse_parser_control_k2 (Φ : Calls') (a0 : AV) (a2 : AV) (x1 : AV) (x3 : AV) (Q : Post) : List AV → AH → Prop := fun j25 H26 =>
 Gd (sl j25 0) true (
 Do (abin .add a2 (.int .i64 1)) fun x32 =>
Φ K.parse_parser_block [a0, x32] H26 fun x33 H34 =>
 Do (afaddr 9 x1) fun x35 =>
 Do (astore H34 1 x35 x33) fun H36 =>
 JoinP (parse_parser_control_k1 Φ x1 x3 Q) [] H36) (
 JoinP (parse_parser_control_k1 Φ x1 x3 Q) [] H26)
def parse_parser_control_k3 (Φ : Calls') (a0 : AV) (a2 : AV) (x1 : AV) (x3 : AV) (Q : Post) : List AV → AH → Prop := fun j5 H6 =>
 Do (abin .add a2 (.int .i64 1)) fun x11 =>
Φ K.parse_parser_expr [a0, x11] H6 fun x12 H13 =>
 DoH (abslice H13 false 8 1 [.int .i64 0, .int .u64 0, .str [], .int .i64 0, .int .i64 0, .str [], .lst .nil 0 [], .lst .nil 0 []] [(0, 8, x12)]) fun x14 H15 =>
 Do (afaddr 7 x1) fun x16 =>
 Do (astore H15 1 x16 x14) fun H17 =>
 Do (abin .add a2 (.int .i64 1)) fun x18 =>
Φ K.parse_parser_block [a0, x18] H17 fun x19 H20 =>
 Do (afaddr 8 x1) fun x21 =>
 Do (astore H20 1 x21 x19) fun H22 =>
 Do (afaddr 0 x1) fun x27 =>
 Do (aload H22 1 false x27) fun x28 =>
 Do (abin .eql x28 (.int .i64 8)) fun x29 =>
 Gd3 x29 true (
Φ K.parse_parser_is [a0, (.str [101, 108, 115, 101])] H22 fun x30 H31 =>
 JoinP (parse_parser_control_k2 Φ a0 a2 x1 x3 Q) [x30] H31) (
 JoinP (parse_parser_control_k2 Φ a0 a2 x1 x3 Q) [(.bool false)] H22) (
 False)
def parse_parser_control (Φ : Calls') (a0 : AV) (a1 : AV) (a2 : AV) (H : AH) (Q : Post) : Prop :=
 DoH (aboxv H true 10 a1) fun x1 H2 =>
 DoH (some (abox H2 true [.int .i64 0, .int .i64 0, .str [], .str [], .int .i64 0, .str [], .lst .nil 0 [], .lst .nil 0 [], .lst .nil 0 [], .lst .nil 0 []])) fun x3 H4 =>
Φ K.parse_parser_is [a0, (.str [105, 102])] H4 fun x7 H8 =>
 Gd x7 true (
 Do (afaddr 0 x1) fun x9 =>
 Do (astore H8 1 x9 (.int .i64 8)) fun H10 =>
 JoinP (parse_parser_control_k3 Φ a0 a2 x1 x3 Q) [] H10) (
Φ K.parse_parser_is [a0, (.str [119, 104, 105, 108, 101])] H8 fun x40 H41 =>
 Gd x40 true (
 Do (afaddr 0 x1) fun x42 =>
 Do (astore H41 1 x42 (.int .i64 9)) fun H43 =>
 JoinP (parse_parser_control_k3 Φ a0 a2 x1 x3 Q) [] H43) (
Φ K.parse_parser_fail [a0, (.int .i64 4)] H41 fun x44 H45 =>
 Do (aload H45 10 true x1) fun x46 =>
 Do (astore H45 10 x3 x46) fun H47 =>
 Do (aload H47 10 true x3) fun x48 =>
 Q x48 H47))
noncomputable def ir_parse_parser_control : AFunc := decF Go.Proofs.YtbkkoplgicffgaaGreatDoor.rb.C ⟨89,[4,6],[],none,[],[]⟩
theorem eq_parse_parser_control (Φ : Calls') (a0 a1 a2 : AV) (H : AH) (Q : Post) : fnE1 Φ ir_parse_parser_control [a0, a1, a2] H Q = parse_parser_control Φ a0 a1 a2 H Q := by kernel_rfl
def strconv_FormatUint (Φ : Calls') (a0 : AV) (a1 : AV) (H : AH) (Q : Post) : Prop :=
Φ K.internal_strconv_FormatUint [a0, a1] H fun x1 H2 =>
 Q x1 H2
noncomputable def ir_strconv_FormatUint : AFunc := decF Go.Proofs.YtbkkoplgicffgaaGreatDoor.rb.C ⟨90,[],[],none,[],[]⟩
theorem eq_strconv_FormatUint (Φ : Calls') (a0 a1 : AV) (H : AH) (Q : Post) : fnE1 Φ ir_strconv_FormatUint [a0, a1] H Q = strconv_FormatUint Φ a0 a1 H Q := by kernel_rfl
def print_writer_place_k1 (Φ : Calls') (s12 : List AV × AH) (L13 : (List AV × AH) → Prop) (Q : Post) : List AV → AH → Prop := fun j15 H16 =>
 Do (abin .add (sl s12.1 0) (.int .i64 1)) fun x40 =>
 L13 ([x40], H16)
def print_writer_place_l2 (Φ : Calls') (a0 : AV) (x10 : AV) (x11 : AV) (Q : Post) : (List AV × AH) → ((List AV × AH) → Prop) → Prop := fun s12 L13 =>
 Do (abin .lss (sl s12.1 0) x11) fun x14 =>
 Gd x14 true (
 Do (aiaddr none 2 x10 (sl s12.1 0)) fun x17 =>
 Do (aload s12.2 2 true x17) fun x18 =>
 DoH (some (abox s12.2 true [.str [], .lst .nil 0 []])) fun x19 H20 =>
 Do (astore H20 2 x19 x18) fun H21 =>
 Do (afaddr 1 x19) fun x22 =>
 Do (aload H21 1 false x22) fun x23 =>
 Do (alen false x23) fun x24 =>
 Do (abin .eql x24 (.int .i64 1)) fun x25 =>
 Gd x25 true (
 DoH (abslice H21 false 1 1 [.str []] [(0, 1, (.str [91]))]) fun x26 H27 =>
Φ K.print_writer_words [a0, x26] H27 fun x28 H29 =>
 Do (afaddr 1 x19) fun x30 =>
 Do (aload H29 1 false x30) fun x31 =>
 Do (aiaddr none 8 x31 (.int .i64 0)) fun x32 =>
 Do (aload H29 8 true x32) fun x33 =>
Φ K.print_writer_expr [a0, x33] H29 fun x34 H35 =>
 DoH (abslice H35 false 1 1 [.str []] [(0, 1, (.str [93]))]) fun x36 H37 =>
Φ K.print_writer_words [a0, x36] H37 fun x38 H39 =>
 JoinP (print_writer_place_k1 Φ s12 L13 Q) [] H39) (
 Do (afaddr 0 x19) fun x41 =>
 Do (aload H21 1 false x41) fun x42 =>
 DoH (abslice H21 false 1 2 [.str []] [(0, 1, (.str [46])), (1, 1, x42)]) fun x43 H44 =>
Φ K.print_writer_words [a0, x43] H44 fun x45 H46 =>
 JoinP (print_writer_place_k1 Φ s12 L13 Q) [] H46)) (
 Q (.tup []) s12.2)
def print_writer_place (Φ : Calls') (a0 : AV) (a1 : AV) (H : AH) (Q : Post) : Prop :=
 DoH (aboxv H false 2 a1) fun x1 H2 =>
 Do (afaddr 0 x1) fun x3 =>
 Do (aload H2 1 false x3) fun x4 =>
 DoH (abslice H2 false 1 1 [.str []] [(0, 1, x4)]) fun x5 H6 =>
Φ K.print_writer_words [a0, x5] H6 fun x7 H8 =>
 Do (afaddr 1 x1) fun x9 =>
 Do (aload H8 1 false x9) fun x10 =>
 Do (alen false x10) fun x11 =>
 LoopP (print_writer_place_l2 Φ a0 x10 x11 Q) ([(.int .i64 0)], H8)
noncomputable def ir_print_writer_place : AFunc := decF Go.Proofs.YtbkkoplgicffgaaGreatDoor.rb.C ⟨91,[5],[[14]],none,[],[]⟩
theorem eq_print_writer_place (Φ : Calls') (a0 a1 : AV) (H : AH) (Q : Post) : fnE1 Φ ir_print_writer_place [a0, a1] H Q = print_writer_place Φ a0 a1 H Q := by kernel_rfl
def print_writer_order (Φ : Calls') (a0 : AV) (a1 : AV) (H : AH) (Q : Post) : Prop :=
 Do (abin .sub a1 (.int .i64 1)) fun x1 =>
 DoH (abslice H false 1 4 [.str []] [(0, 1, (.str [114, 108, 120])), (1, 1, (.str [97, 99, 113])), (2, 1, (.str [114, 101, 108])), (3, 1, (.str [115, 99]))]) fun x2 H3 =>
Φ K.print_of [x1, x2] H3 fun x4 H5 =>
 DoH (abslice H5 false 1 1 [.str []] [(0, 1, x4)]) fun x6 H7 =>
Φ K.print_writer_words [a0, x6] H7 fun x8 H9 =>
 Q (.tup []) H9
noncomputable def ir_print_writer_order : AFunc := decF Go.Proofs.YtbkkoplgicffgaaGreatDoor.rb.C ⟨92,[],[],none,[],[]⟩
theorem eq_print_writer_order (Φ : Calls') (a0 a1 : AV) (H : AH) (Q : Post) : fnE1 Φ ir_print_writer_order [a0, a1] H Q = print_writer_order Φ a0 a1 H Q := by kernel_rfl
def print_each_api_Expr__l1 (Φ : Calls') (a0 : AV) (a1 : AV) (x1 : AV) (Q : Post) : (List AV × AH) → ((List AV × AH) → Prop) → Prop := fun s2 L3 =>
 Do (abin .lss (sl s2.1 0) x1) fun x4 =>
 Gd x4 true (
 Do (aiaddr none 8 a0 (sl s2.1 0)) fun x5 =>
 Do (aload s2.2 8 true x5) fun x6 =>
 DoH (some (abox s2.2 true [.int .i64 0, .int .u64 0, .str [], .int .i64 0, .int .i64 0, .str [], .lst .nil 0 [], .lst .nil 0 []])) fun x7 H8 =>
 Do (astore H8 8 x7 x6) fun H9 =>
 Do (aload H9 8 true x7) fun x10 =>
∃ k13 c14, a1 = .fn k13 c14 ∧ Φ (fkey k13) (fargs k13 [x10] c14) H9 fun x11 H12 =>
 Do (abin .add (sl s2.1 0) (.int .i64 1)) fun x15 =>
 L3 ([x15], H12)) (
 Q (.tup []) s2.2)
def print_each_api_Expr_ (Φ : Calls') (a0 : AV) (a1 : AV) (H : AH) (Q : Post) : Prop :=
 Do (alen false a0) fun x1 =>
 LoopP (print_each_api_Expr__l1 Φ a0 a1 x1 Q) ([(.int .i64 0)], H)
noncomputable def ir_print_each_api_Expr_ : AFunc := decF Go.Proofs.YtbkkoplgicffgaaGreatDoor.rb.C ⟨93,[5],[[8]],none,[],[]⟩
theorem eq_print_each_api_Expr_ (Φ : Calls') (a0 a1 : AV) (H : AH) (Q : Post) : fnE1 Φ ir_print_each_api_Expr_ [a0, a1] H Q = print_each_api_Expr_ Φ a0 a1 H Q := by kernel_rfl
def strconv_Itoa (Φ : Calls') (a0 : AV) (H : AH) (Q : Post) : Prop :=
Φ K.internal_strconv_Itoa [a0] H fun x1 H2 =>
 Q x1 H2
noncomputable def ir_strconv_Itoa : AFunc := decF Go.Proofs.YtbkkoplgicffgaaGreatDoor.rb.C ⟨95,[],[],none,[],[]⟩
theorem eq_strconv_Itoa (Φ : Calls') (a0 : AV) (H : AH) (Q : Post) : fnE1 Φ ir_strconv_Itoa [a0] H Q = strconv_Itoa Φ a0 H Q := by kernel_rfl
def print_writer_exprs_k1 (Φ : Calls') (s2 : List AV × AH) (L3 : (List AV × AH) → Prop) (Q : Post) : List AV → AH → Prop := fun j5 H6 =>
 Do (abin .add (sl s2.1 0) (.int .i64 1)) fun x22 =>
 L3 ([x22], H6)
def print_writer_exprs_k2 (Φ : Calls') (a0 : AV) (x9 : AV) (s2 : List AV × AH) (L3 : (List AV × AH) → Prop) (Q : Post) : List AV → AH → Prop := fun j12 H13 =>
 Do (aload H13 8 true x9) fun x19 =>
Φ K.print_writer_expr [a0, x19] H13 fun x20 H21 =>
 JoinP (print_writer_exprs_k1 Φ s2 L3 Q) [] H21
def print_writer_exprs_l3 (Φ : Calls') (a0 : AV) (a1 : AV) (x1 : AV) (Q : Post) : (List AV × AH) → ((List AV × AH) → Prop) → Prop := fun s2 L3 =>
 Do (abin .lss (sl s2.1 0) x1) fun x4 =>
 Gd x4 true (
 Do (aiaddr none 8 a1 (sl s2.1 0)) fun x7 =>
 Do (aload s2.2 8 true x7) fun x8 =>
 DoH (some (abox s2.2 true [.int .i64 0, .int .u64 0, .str [], .int .i64 0, .int .i64 0, .str [], .lst .nil 0 [], .lst .nil 0 []])) fun x9 H10 =>
 Do (astore H10 8 x9 x8) fun H11 =>
 Do (abin .gtr (sl s2.1 0) (.int .i64 0)) fun x14 =>
 Gd x14 true (
 DoH (abslice H11 false 1 1 [.str []] [(0, 1, (.str [44]))]) fun x15 H16 =>
Φ K.print_writer_words [a0, x15] H16 fun x17 H18 =>
 JoinP (print_writer_exprs_k2 Φ a0 x9 s2 L3 Q) [] H18) (
 JoinP (print_writer_exprs_k2 Φ a0 x9 s2 L3 Q) [] H11)) (
 Q (.tup []) s2.2)
def print_writer_exprs (Φ : Calls') (a0 : AV) (a1 : AV) (H : AH) (Q : Post) : Prop :=
 Do (alen false a1) fun x1 =>
 LoopP (print_writer_exprs_l3 Φ a0 a1 x1 Q) ([(.int .i64 0)], H)
noncomputable def ir_print_writer_exprs : AFunc := decF Go.Proofs.YtbkkoplgicffgaaGreatDoor.rb.C ⟨96,[5],[[8]],none,[],[]⟩
theorem eq_print_writer_exprs (Φ : Calls') (a0 a1 : AV) (H : AH) (Q : Post) : fnE1 Φ ir_print_writer_exprs [a0, a1] H Q = print_writer_exprs Φ a0 a1 H Q := by kernel_rfl
def slices_EqualFunc___api_Part___api_Part_api_Part_api_Part__l1 (Φ : Calls') (a0 : AV) (a1 : AV) (a2 : AV) (x4 : AV) (Q : Post) : (List AV × AH) → ((List AV × AH) → Prop) → Prop := fun s5 L6 =>
 Do (abin .lss (sl s5.1 0) x4) fun x7 =>
 Gd x7 true (
 Do (aiaddr none 2 a0 (sl s5.1 0)) fun x8 =>
 Do (aload s5.2 2 true x8) fun x9 =>
 DoH (some (abox s5.2 true [.str [], .lst .nil 0 []])) fun x10 H11 =>
 Do (astore H11 2 x10 x9) fun H12 =>
 Do (aiaddr none 2 a1 (sl s5.1 0)) fun x13 =>
 Do (aload H12 2 true x13) fun x14 =>
 DoH (some (abox H12 true [.str [], .lst .nil 0 []])) fun x15 H16 =>
 Do (astore H16 2 x15 x14) fun H17 =>
 Do (aload H17 2 true x10) fun x18 =>
 Do (aload H17 2 true x15) fun x19 =>
∃ k22 c23, a2 = .fn k22 c23 ∧ Φ (fkey k22) (fargs k22 [x18, x19] c23) H17 fun x20 H21 =>
 Do (aun .not x20) fun x24 =>
 Gd x24 true (
 Q (.bool false) H21) (
 Do (abin .add (sl s5.1 0) (.int .i64 1)) fun x25 =>
 L6 ([x25], H21))) (
 Q (.bool true) s5.2)
def slices_EqualFunc___api_Part___api_Part_api_Part_api_Part_ (Φ : Calls') (a0 : AV) (a1 : AV) (a2 : AV) (H : AH) (Q : Post) : Prop :=
 Do (alen false a0) fun x1 =>
 Do (alen false a1) fun x2 =>
 Do (abin .neq x1 x2) fun x3 =>
 Gd x3 true (
 Q (.bool false) H) (
 Do (alen false a0) fun x4 =>
 LoopP (slices_EqualFunc___api_Part___api_Part_api_Part_api_Part__l1 Φ a0 a1 a2 x4 Q) ([(.int .i64 0)], H))
noncomputable def ir_slices_EqualFunc___api_Part___api_Part_api_Part_api_Part_ : AFunc := decF Go.Proofs.YtbkkoplgicffgaaGreatDoor.rb.C ⟨97,[8,9],[[17]],none,[],[]⟩
theorem eq_slices_EqualFunc___api_Part___api_Part_api_Part_api_Part_ (Φ : Calls') (a0 a1 a2 : AV) (H : AH) (Q : Post) : fnE1 Φ ir_slices_EqualFunc___api_Part___api_Part_api_Part_api_Part_ [a0, a1, a2] H Q = slices_EqualFunc___api_Part___api_Part_api_Part_api_Part_ Φ a0 a1 a2 H Q := by kernel_rfl
def print_samePlace_c1 (Φ : Calls') (a0 : AV) (a1 : AV) (H : AH) (Q : Post) : Prop :=
 DoH (aboxv H false 2 a0) fun x1 H2 =>
 DoH (aboxv H2 false 2 a1) fun x3 H4 =>
 Do (afaddr 0 x1) fun x5 =>
 Do (aload H4 1 false x5) fun x6 =>
 Do (afaddr 0 x3) fun x7 =>
 Do (aload H4 1 false x7) fun x8 =>
 Do (abin .eql x6 x8) fun x9 =>
 Gd3 x9 true (
 Do (afaddr 1 x1) fun x10 =>
 Do (aload H4 1 false x10) fun x11 =>
 Do (afaddr 1 x3) fun x12 =>
 Do (aload H4 1 false x12) fun x13 =>
Φ K.slices_EqualFunc___api_Expr___api_Expr_api_Expr_api_Expr_ [x11, x13, (.fn K.print_sameExpr [])] H4 fun x14 H15 =>
 Q x14 H15) (
 Q (.bool false) H4) (
 False)
noncomputable def ir_print_samePlace_c1 : AFunc := decF Go.Proofs.YtbkkoplgicffgaaGreatDoor.rb.C ⟨98,[],[],none,[],[]⟩
theorem eq_print_samePlace_c1 (Φ : Calls') (a0 a1 : AV) (H : AH) (Q : Post) : fnE1 Φ ir_print_samePlace_c1 [a0, a1] H Q = print_samePlace_c1 Φ a0 a1 H Q := by kernel_rfl
def lex_letter (Φ : Calls') (a0 : AV) (H : AH) (Q : Post) : Prop :=
 Do (abin .geq a0 (.int .u8 97)) fun x1 =>
 Gd3 x1 true (
 Do (abin .leq a0 (.int .u8 122)) fun x2 =>
 Q x2 H) (
 Q (.bool false) H) (
 False)
noncomputable def ir_lex_letter : AFunc := decF Go.Proofs.YtbkkoplgicffgaaGreatDoor.rb.C ⟨102,[],[],none,[],[]⟩
theorem eq_lex_letter (Φ : Calls') (a0 : AV) (H : AH) (Q : Post) : fnE1 Φ ir_lex_letter [a0] H Q = lex_letter Φ a0 H Q := by kernel_rfl
def lex_scanner_word (Φ : Calls') (a0 : AV) (H : AH) (Q : Post) : Prop :=
Φ K.lex_scanner_run [a0, (.fn K.lex_part [])] H fun x1 H2 =>
 Do (abin .gtr x1 (.int .i64 16)) fun x3 =>
 Gd x3 true (
 Q (.bool false) H2) (
Φ K.lex_scanner_take [a0, x1] H2 fun x4 H5 =>
 Q (.bool true) H5)
noncomputable def ir_lex_scanner_word : AFunc := decF Go.Proofs.YtbkkoplgicffgaaGreatDoor.rb.C ⟨103,[],[],none,[],[]⟩
theorem eq_lex_scanner_word (Φ : Calls') (a0 : AV) (H : AH) (Q : Post) : fnE1 Φ ir_lex_scanner_word [a0] H Q = lex_scanner_word Φ a0 H Q := by kernel_rfl
def lex_digit (Φ : Calls') (a0 : AV) (H : AH) (Q : Post) : Prop :=
 Do (abin .geq a0 (.int .u8 48)) fun x1 =>
 Gd3 x1 true (
 Do (abin .leq a0 (.int .u8 57)) fun x2 =>
 Q x2 H) (
 Q (.bool false) H) (
 False)
noncomputable def ir_lex_digit : AFunc := decF Go.Proofs.YtbkkoplgicffgaaGreatDoor.rb.C ⟨104,[],[],none,[],[]⟩
theorem eq_lex_digit (Φ : Calls') (a0 : AV) (H : AH) (Q : Post) : fnE1 Φ ir_lex_digit [a0] H Q = lex_digit Φ a0 H Q := by kernel_rfl
def lex_scanner_number_k1 (Φ : Calls') (a0 : AV) (x1 : AV) (Q : Post) : List AV → AH → Prop := fun j26 H27 =>
Φ K.lex_scanner_take [a0, x1] H27 fun x42 H43 =>
 Q (.bool true) H43
def lex_scanner_number_k2 (Φ : Calls') (a0 : AV) (x1 : AV) (Q : Post) : List AV → AH → Prop := fun j36 H37 =>
 Gd (sl j36 0) true (
 Q (.bool false) H37) (
 JoinP (lex_scanner_number_k1 Φ a0 x1 Q) [] H37)
def lex_scanner_number_k3 (Φ : Calls') (a0 : AV) (x1 : AV) (Q : Post) : List AV → AH → Prop := fun j18 H19 =>
 Do (anilck a0) fun x28 =>
 Do (afaddr 0 x28) fun x29 =>
 Do (aload H19 1 false x29) fun x30 =>
 Do (anilck a0) fun x31 =>
 Do (afaddr 1 x31) fun x32 =>
 Do (aload H19 1 false x32) fun x33 =>
 Do (abin .add x33 x1) fun x34 =>
 Do (asslice x30 (some x34) none) fun x35 =>
 Do (abin .neq x35 (.str [])) fun x38 =>
 Gd3 x38 true (
 Do (aidxs x35 (.int .i64 0)) fun x39 =>
Φ K.lex_part [x39] H19 fun x40 H41 =>
 JoinP (lex_scanner_number_k2 Φ a0 x1 Q) [x40] H41) (
 JoinP (lex_scanner_number_k2 Φ a0 x1 Q) [(.bool false)] H19) (
 False)
def lex_scanner_number_k4 (Φ : Calls') (a0 : AV) (x1 : AV) (Q : Post) : List AV → AH → Prop := fun j20 H21 =>
 Gd (sl j20 0) true (
 Q (.bool false) H21) (
 JoinP (lex_scanner_number_k3 Φ a0 x1 Q) [] H21)
def lex_scanner_number (Φ : Calls') (a0 : AV) (H : AH) (Q : Post) : Prop :=
Φ K.lex_scanner_run [a0, (.fn K.lex_digit [])] H fun x1 H2 =>
 Do (anilck a0) fun x3 =>
 Do (afaddr 0 x3) fun x4 =>
 Do (aload H2 1 false x4) fun x5 =>
 Do (anilck a0) fun x6 =>
 Do (afaddr 1 x6) fun x7 =>
 Do (aload H2 1 false x7) fun x8 =>
 Do (anilck a0) fun x9 =>
 Do (afaddr 1 x9) fun x10 =>
 Do (aload H2 1 false x10) fun x11 =>
 Do (abin .add x11 x1) fun x12 =>
 Do (asslice x5 (some x8) (some x12)) fun x13 =>
Φ K.strconv_ParseUint [x13, (.int .i64 10), (.int .i64 64)] H2 fun x14 H15 =>
 Do (aextract 0 x14) fun x16 =>
 Do (aextract 1 x14) fun x17 =>
 Do (anil .i true x17) fun x22 =>
 Gd3 x22 false (
 Do (abin .gtr x1 (.int .i64 1)) fun x23 =>
 Gd3 x23 true (
 Do (aidxs x13 (.int .i64 0)) fun x24 =>
 Do (abin .eql x24 (.int .u8 48)) fun x25 =>
 JoinP (lex_scanner_number_k4 Φ a0 x1 Q) [x25] H15) (
 JoinP (lex_scanner_number_k4 Φ a0 x1 Q) [(.bool false)] H15) (
 False)) (
 JoinP (lex_scanner_number_k4 Φ a0 x1 Q) [(.bool true)] H15) (
 False)
noncomputable def ir_lex_scanner_number : AFunc := decF Go.Proofs.YtbkkoplgicffgaaGreatDoor.rb.C ⟨105,[],[],none,[],[]⟩
theorem eq_lex_scanner_number (Φ : Calls') (a0 : AV) (H : AH) (Q : Post) : fnE1 Φ ir_lex_scanner_number [a0] H Q = lex_scanner_number Φ a0 H Q := by kernel_rfl
def lex_scanner_sign_k1 (Φ : Calls') (a0 : AV) (Q : Post) : List AV → AH → Prop := fun j1 H2 =>
 Do (anilck a0) fun x21 =>
 Do (afaddr 0 x21) fun x22 =>
 Do (aload H2 1 false x22) fun x23 =>
 Do (anilck a0) fun x24 =>
 Do (afaddr 1 x24) fun x25 =>
 Do (aload H2 1 false x25) fun x26 =>
 Do (aidxs x23 x26) fun x27 =>
Φ K.strings_IndexByte [(.str [123, 125, 91, 93, 40, 41, 59, 58, 44, 46, 95, 61, 43, 45, 42, 38, 124, 94, 60]), x27] H2 fun x28 H29 =>
 Do (abin .lss x28 (.int .i64 0)) fun x30 =>
 Gd x30 true (
 Q (.bool false) H29) (
Φ K.lex_scanner_take [a0, (.int .i64 1)] H29 fun x31 H32 =>
 Q (.bool true) H32)
def lex_scanner_sign_l2 (Φ : Calls') (a0 : AV) (x3 : AV) (Q : Post) : (List AV × AH) → ((List AV × AH) → Prop) → Prop := fun s4 L5 =>
 Do (abin .lss (sl s4.1 0) (.int .i64 4)) fun x6 =>
 Gd x6 true (
 Do (aidx 4 1 false x3 (sl s4.1 0)) fun x7 =>
 Do (anilck a0) fun x8 =>
 Do (afaddr 0 x8) fun x9 =>
 Do (aload s4.2 1 false x9) fun x10 =>
 Do (anilck a0) fun x11 =>
 Do (afaddr 1 x11) fun x12 =>
 Do (aload s4.2 1 false x12) fun x13 =>
 Do (asslice x10 (some x13) none) fun x14 =>
Φ K.strings_HasPrefix [x14, x7] s4.2 fun x15 H16 =>
 Gd x15 true (
 Do (alen true x7) fun x17 =>
Φ K.lex_scanner_take [a0, x17] H16 fun x18 H19 =>
 Q (.bool true) H19) (
 Do (abin .add (sl s4.1 0) (.int .i64 1)) fun x20 =>
 L5 ([x20], H16))) (
 JoinP (lex_scanner_sign_k1 Φ a0 Q) [] s4.2)
def lex_scanner_sign (Φ : Calls') (a0 : AV) (H : AH) (Q : Post) : Prop :=
 Do (abuild [.str [], .str [], .str [], .str []] [(0, 1, (.str [60, 60])), (1, 1, (.str [62, 62])), (2, 1, (.str [61, 61])), (3, 1, (.str [33, 61]))]) fun x3 =>
 LoopP (lex_scanner_sign_l2 Φ a0 x3 Q) ([(.int .i64 0)], H)
noncomputable def ir_lex_scanner_sign : AFunc := decF Go.Proofs.YtbkkoplgicffgaaGreatDoor.rb.C ⟨106,[],[[6]],none,[],[]⟩
theorem eq_lex_scanner_sign (Φ : Calls') (a0 : AV) (H : AH) (Q : Post) : fnE1 Φ ir_lex_scanner_sign [a0] H Q = lex_scanner_sign Φ a0 H Q := by kernel_rfl
def slices_Index___string_string__l1 (Φ : Calls') (a0 : AV) (a1 : AV) (x1 : AV) (Q : Post) : (List AV × AH) → ((List AV × AH) → Prop) → Prop := fun s2 L3 =>
 Do (abin .lss (sl s2.1 0) x1) fun x4 =>
 Gd x4 true (
 Do (aiaddr none 1 a0 (sl s2.1 0)) fun x5 =>
 Do (aload s2.2 1 false x5) fun x6 =>
 Do (abin .eql a1 x6) fun x7 =>
 Gd x7 true (
 Q (sl s2.1 0) s2.2) (
 Do (abin .add (sl s2.1 0) (.int .i64 1)) fun x8 =>
 L3 ([x8], s2.2))) (
 Q (.int .i64 (-1)) s2.2)
def slices_Index___string_string_ (Φ : Calls') (a0 : AV) (a1 : AV) (H : AH) (Q : Post) : Prop :=
 Do (alen false a0) fun x1 =>
 LoopP (slices_Index___string_string__l1 Φ a0 a1 x1 Q) ([(.int .i64 0)], H)
noncomputable def ir_slices_Index___string_string_ : AFunc := decF Go.Proofs.YtbkkoplgicffgaaGreatDoor.rb.C ⟨107,[],[[8]],none,[],[]⟩
theorem eq_slices_Index___string_string_ (Φ : Calls') (a0 a1 : AV) (H : AH) (Q : Post) : fnE1 Φ ir_slices_Index___string_string_ [a0, a1] H Q = slices_Index___string_string_ Φ a0 a1 H Q := by kernel_rfl
def parse_parser_binary_k1 (Φ : Calls') (a0 : AV) (a1 : AV) (x1 : AV) (x6 : AV) (x11 : AV) (Q : Post) : List AV → AH → Prop := fun j23 H24 =>
 Do (abin .add a1 (.int .i64 1)) fun x30 =>
Φ K.parse_parser_expr [a0, x30] H24 fun x31 H32 =>
 DoH (some (abox H32 true [.int .i64 0, .int .u64 0, .str [], .int .i64 0, .int .i64 0, .str [], .lst .nil 0 [], .lst .nil 0 []])) fun x33 H34 =>
 Do (astore H34 8 x33 x31) fun H35 =>
Φ K.parse_parser_want [a0, (.str [41])] H35 fun x36 H37 =>
 Do (aload H37 8 true x6) fun x38 =>
 Do (aload H37 8 true x33) fun x39 =>
 DoH (abslice H37 false 8 2 [.int .i64 0, .int .u64 0, .str [], .int .i64 0, .int .i64 0, .str [], .lst .nil 0 [], .lst .nil 0 []] [(0, 8, x38), (8, 8, x39)]) fun x40 H41 =>
 Do (abuild [.int .i64 0, .int .u64 0, .str [], .int .i64 0, .int .i64 0, .str [], .lst .nil 0 [], .lst .nil 0 []] [(0, 1, (.int .i64 3)), (3, 1, x11), (7, 1, x40)]) fun x42 =>
 Do (astore H41 8 x1 x42) fun H43 =>
 Do (aload H43 8 true x1) fun x44 =>
 Q x44 H43
def parse_parser_binary_k2 (Φ : Calls') (a0 : AV) (a1 : AV) (x1 : AV) (x6 : AV) (x11 : AV) (Q : Post) : List AV → AH → Prop := fun j13 H14 =>
Φ K.parse_parser_bad [a0] H14 fun x25 H26 =>
 Do (aun .not x25) fun x27 =>
 Gd x27 true (
Φ K.parse_parser_next [a0] H26 fun x28 H29 =>
 JoinP (parse_parser_binary_k1 Φ a0 a1 x1 x6 x11 Q) [] H29) (
 JoinP (parse_parser_binary_k1 Φ a0 a1 x1 x6 x11 Q) [] H26)
def parse_parser_binary_k3 (Φ : Calls') (a0 : AV) (a1 : AV) (x1 : AV) (x6 : AV) (x11 : AV) (Q : Post) : List AV → AH → Prop := fun j15 H16 =>
 Gd (sl j15 0) true (
Φ K.parse_parser_fail [a0, (.int .i64 4)] H16 fun x21 H22 =>
 JoinP (parse_parser_binary_k2 Φ a0 a1 x1 x6 x11 Q) [] H22) (
 JoinP (parse_parser_binary_k2 Φ a0 a1 x1 x6 x11 Q) [] H16)
def parse_parser_binary (Φ : Calls') (a0 : AV) (a1 : AV) (H : AH) (Q : Post) : Prop :=
 DoH (some (abox H true [.int .i64 0, .int .u64 0, .str [], .int .i64 0, .int .i64 0, .str [], .lst .nil 0 [], .lst .nil 0 []])) fun x1 H2 =>
 Do (abin .add a1 (.int .i64 1)) fun x3 =>
Φ K.parse_parser_expr [a0, x3] H2 fun x4 H5 =>
 DoH (some (abox H5 true [.int .i64 0, .int .u64 0, .str [], .int .i64 0, .int .i64 0, .str [], .lst .nil 0 [], .lst .nil 0 []])) fun x6 H7 =>
 Do (astore H7 8 x6 x4) fun H8 =>
Φ K.parse_parser_peek [a0] H8 fun x9 H10 =>
Φ K.parse_operator [x9] H10 fun x11 H12 =>
Φ K.parse_parser_bad [a0] H12 fun x17 H18 =>
 Do (aun .not x17) fun x19 =>
 Gd3 x19 true (
 Do (abin .eql x11 (.int .i64 0)) fun x20 =>
 JoinP (parse_parser_binary_k3 Φ a0 a1 x1 x6 x11 Q) [x20] H18) (
 JoinP (parse_parser_binary_k3 Φ a0 a1 x1 x6 x11 Q) [(.bool false)] H18) (
 False)
noncomputable def ir_parse_parser_binary : AFunc := decF Go.Proofs.YtbkkoplgicffgaaGreatDoor.rb.C ⟨112,[4,5,7],[],none,[],[]⟩
theorem eq_parse_parser_binary (Φ : Calls') (a0 a1 : AV) (H : AH) (Q : Post) : fnE1 Φ ir_parse_parser_binary [a0, a1] H Q = parse_parser_binary Φ a0 a1 H Q := by kernel_rfl
def parse_parser_access_k1 (Φ : Calls') (x1 : AV) (x4 : AV) (Q : Post) : List AV → AH → Prop := fun j18 H19 =>
 Do (aload H19 8 true x4) fun x35 =>
 Do (astore H19 8 x1 x35) fun H36 =>
 Do (aload H36 8 true x1) fun x37 =>
 Q x37 H36
def parse_parser_access_l2 (Φ : Calls') (a0 : AV) (a2 : AV) (a3 : AV) (x1 : AV) (x4 : AV) (Q : Post) : (List AV × AH) → ((List AV × AH) → Prop) → Prop := fun s20 L21 =>
 Do (abin .lss (sl s20.1 0) a2) fun x22 =>
 Gd x22 true (
 Do (afaddr 7 x4) fun x23 =>
 Do (aload s20.2 1 false x23) fun x24 =>
 Do (abin .add a3 (.int .i64 1)) fun x25 =>
Φ K.parse_parser_expr [a0, x25] s20.2 fun x26 H27 =>
(aload H27 1 false x23 = some x24) ∧
(DoH (abslice H27 false 8 1 [.int .i64 0, .int .u64 0, .str [], .int .i64 0, .int .i64 0, .str [], .lst .nil 0 [], .lst .nil 0 []] [(0, 8, x26)]) fun x28 H29 =>
 DoH (aappend H29 false 8 112 x24 x28) fun x30 H31 =>
 Do (afaddr 7 x4) fun x32 =>
 Do (astore H31 1 x32 x30) fun H33 =>
 Do (abin .add (sl s20.1 0) (.int .i64 1)) fun x34 =>
 L21 ([x34], H33))) (
 JoinP (parse_parser_access_k1 Φ x1 x4 Q) [] s20.2)
def parse_parser_access_k3 (Φ : Calls') (a0 : AV) (a2 : AV) (a3 : AV) (x1 : AV) (x4 : AV) (Q : Post) : List AV → AH → Prop := fun j7 H8 =>
Φ K.parse_parser_place [a0, a3] H8 fun x14 H15 =>
 Do (afaddr 5 x4) fun x16 =>
 Do (astore H15 2 x16 x14) fun H17 =>
 LoopP (parse_parser_access_l2 Φ a0 a2 a3 x1 x4 Q) ([(.int .i64 0)], H17)
def parse_parser_access (Φ : Calls') (a0 : AV) (a1 : AV) (a2 : AV) (a3 : AV) (H : AH) (Q : Post) : Prop :=
 DoH (some (abox H true [.int .i64 0, .int .u64 0, .str [], .int .i64 0, .int .i64 0, .str [], .lst .nil 0 [], .lst .nil 0 []])) fun x1 H2 =>
 Do (abuild [.int .i64 0, .int .u64 0, .str [], .int .i64 0, .int .i64 0, .str [], .lst .nil 0 [], .lst .nil 0 []] [(0, 1, a1)]) fun x3 =>
 DoH (some (abox H2 true [.int .i64 0, .int .u64 0, .str [], .int .i64 0, .int .i64 0, .str [], .lst .nil 0 [], .lst .nil 0 []])) fun x4 H5 =>
 Do (astore H5 8 x4 x3) fun H6 =>
 Do (abin .neq a1 (.int .i64 4)) fun x9 =>
 Gd x9 true (
Φ K.parse_parser_order [a0] H6 fun x10 H11 =>
 Do (afaddr 4 x4) fun x12 =>
 Do (astore H11 1 x12 x10) fun H13 =>
 JoinP (parse_parser_access_k3 Φ a0 a2 a3 x1 x4 Q) [] H13) (
 JoinP (parse_parser_access_k3 Φ a0 a2 a3 x1 x4 Q) [] H6)
noncomputable def ir_parse_parser_access : AFunc := decF Go.Proofs.YtbkkoplgicffgaaGreatDoor.rb.C ⟨113,[8,9],[[22]],none,[],[]⟩
theorem eq_parse_parser_access (Φ : Calls') (a0 a1 a2 a3 : AV) (H : AH) (Q : Post) : fnE1 Φ ir_parse_parser_access [a0, a1, a2, a3] H Q = parse_parser_access Φ a0 a1 a2 a3 H Q := by kernel_rfl
def lex_scanner_run_k1 (Φ : Calls') (s6 : List AV × AH) (L7 : (List AV × AH) → Prop) (Q : Post) : List AV → AH → Prop := fun j8 H9 =>
 Do (abin .add (sl s6.1 0) (.int .i64 1)) fun x25 =>
 L7 ([x25], H9)
def lex_scanner_run_k2 (Φ : Calls') (a0 : AV) (Q : Post) : List AV → AH → Prop := fun j4 H5 =>
 Do (anilck a0) fun x26 =>
 Do (afaddr 1 x26) fun x27 =>
 Do (aload H5 1 false x27) fun x28 =>
 Do (abin .sub (sl j4 0) x28) fun x29 =>
 Q x29 H5
def lex_scanner_run_k3 (Φ : Calls') (a0 : AV) (s6 : List AV × AH) (L7 : (List AV × AH) → Prop) (Q : Post) : List AV → AH → Prop := fun j10 H11 =>
 Gd (sl j10 0) true (
 JoinP (lex_scanner_run_k1 Φ s6 L7 Q) [] H11) (
 JoinP (lex_scanner_run_k2 Φ a0 Q) [(sl s6.1 0)] H11)
def lex_scanner_run_l4 (Φ : Calls') (a0 : AV) (a1 : AV) (Q : Post) : (List AV × AH) → ((List AV × AH) → Prop) → Prop := fun s6 L7 =>
 Do (anilck a0) fun x12 =>
 Do (afaddr 0 x12) fun x13 =>
 Do (aload s6.2 1 false x13) fun x14 =>
 Do (alen true x14) fun x15 =>
 Do (abin .lss (sl s6.1 0) x15) fun x16 =>
 Gd3 x16 true (
 Do (anilck a0) fun x17 =>
 Do (afaddr 0 x17) fun x18 =>
 Do (aload s6.2 1 false x18) fun x19 =>
 Do (aidxs x19 (sl s6.1 0)) fun x20 =>
∃ k23 c24, a1 = .fn k23 c24 ∧ Φ (fkey k23) (fargs k23 [x20] c24) s6.2 fun x21 H22 =>
 JoinP (lex_scanner_run_k3 Φ a0 s6 L7 Q) [x21] H22) (
 JoinP (lex_scanner_run_k3 Φ a0 s6 L7 Q) [(.bool false)] s6.2) (
 False)
def lex_scanner_run (Φ : Calls') (a0 : AV) (a1 : AV) (H : AH) (Q : Post) : Prop :=
 Do (anilck a0) fun x1 =>
 Do (afaddr 1 x1) fun x2 =>
 Do (aload H 1 false x2) fun x3 =>
 LoopP (lex_scanner_run_l4 Φ a0 a1 Q) ([x3], H)
noncomputable def ir_lex_scanner_run : AFunc := decF Go.Proofs.YtbkkoplgicffgaaGreatDoor.rb.C ⟨120,[],[[5]],none,[],[]⟩
theorem eq_lex_scanner_run (Φ : Calls') (a0 a1 : AV) (H : AH) (Q : Post) : fnE1 Φ ir_lex_scanner_run [a0, a1] H Q = lex_scanner_run Φ a0 a1 H Q := by kernel_rfl
def lex_part_k1 (Φ : Calls') (a0 : AV) (Q : Post) : List AV → AH → Prop := fun j1 H2 =>
 Gd3 (sl j1 0) false (
 Do (abin .eql a0 (.int .u8 95)) fun x7 =>
 Q x7 H2) (
 Q (.bool true) H2) (
 False)
def lex_part (Φ : Calls') (a0 : AV) (H : AH) (Q : Post) : Prop :=
Φ K.lex_letter [a0] H fun x3 H4 =>
 Gd3 x3 false (
Φ K.lex_digit [a0] H4 fun x5 H6 =>
 JoinP (lex_part_k1 Φ a0 Q) [x5] H6) (
 JoinP (lex_part_k1 Φ a0 Q) [(.bool true)] H4) (
 False)
noncomputable def ir_lex_part : AFunc := decF Go.Proofs.YtbkkoplgicffgaaGreatDoor.rb.C ⟨121,[],[],none,[],[]⟩
theorem eq_lex_part (Φ : Calls') (a0 : AV) (H : AH) (Q : Post) : fnE1 Φ ir_lex_part [a0] H Q = lex_part Φ a0 H Q := by kernel_rfl
def lex_scanner_take (Φ : Calls') (a0 : AV) (a1 : AV) (H : AH) (Q : Post) : Prop :=
 Do (anilck a0) fun x1 =>
 Do (afaddr 3 x1) fun x2 =>
 Do (aload H 1 false x2) fun x3 =>
 Do (anilck a0) fun x4 =>
 Do (afaddr 0 x4) fun x5 =>
 Do (aload H 1 false x5) fun x6 =>
 Do (anilck a0) fun x7 =>
 Do (afaddr 1 x7) fun x8 =>
 Do (aload H 1 false x8) fun x9 =>
 Do (anilck a0) fun x10 =>
 Do (afaddr 1 x10) fun x11 =>
 Do (aload H 1 false x11) fun x12 =>
 Do (abin .add x12 a1) fun x13 =>
 Do (asslice x6 (some x9) (some x13)) fun x14 =>
 Do (anilck a0) fun x15 =>
 Do (afaddr 2 x15) fun x16 =>
 Do (aload H 1 false x16) fun x17 =>
 Do (abuild [.str [], .int .i64 0] [(0, 1, x14), (1, 1, x17)]) fun x18 =>
 DoH (abslice H false 2 1 [.str [], .int .i64 0] [(0, 2, x18)]) fun x19 H20 =>
 DoH (aappend H20 false 2 24 x3 x19) fun x21 H22 =>
 Do (anilck a0) fun x23 =>
 Do (afaddr 3 x23) fun x24 =>
 Do (astore H22 1 x24 x21) fun H25 =>
 Do (anilck a0) fun x26 =>
 Do (afaddr 1 x26) fun x27 =>
 Do (aload H25 1 false x27) fun x28 =>
 Do (abin .add x28 a1) fun x29 =>
 Do (anilck a0) fun x30 =>
 Do (afaddr 1 x30) fun x31 =>
 Do (astore H25 1 x31 x29) fun H32 =>
 Q (.tup []) H32
noncomputable def ir_lex_scanner_take : AFunc := decF Go.Proofs.YtbkkoplgicffgaaGreatDoor.rb.C ⟨122,[],[],none,[],[]⟩
theorem eq_lex_scanner_take (Φ : Calls') (a0 a1 : AV) (H : AH) (Q : Post) : fnE1 Φ ir_lex_scanner_take [a0, a1] H Q = lex_scanner_take Φ a0 a1 H Q := by kernel_rfl
def strings_HasPrefix (Φ : Calls') (a0 : AV) (a1 : AV) (H : AH) (Q : Post) : Prop :=
Φ K.internal_stringslite_HasPrefix [a0, a1] H fun x1 H2 =>
 Q x1 H2
noncomputable def ir_strings_HasPrefix : AFunc := decF Go.Proofs.YtbkkoplgicffgaaGreatDoor.rb.C ⟨123,[],[],none,[],[]⟩
theorem eq_strings_HasPrefix (Φ : Calls') (a0 a1 : AV) (H : AH) (Q : Post) : fnE1 Φ ir_strings_HasPrefix [a0, a1] H Q = strings_HasPrefix Φ a0 a1 H Q := by kernel_rfl
def strings_IndexByte (Φ : Calls') (a0 : AV) (a1 : AV) (H : AH) (Q : Post) : Prop :=
Φ K.internal_stringslite_IndexByte [a0, a1] H fun x1 H2 =>
 Q x1 H2
noncomputable def ir_strings_IndexByte : AFunc := decF Go.Proofs.YtbkkoplgicffgaaGreatDoor.rb.C ⟨124,[],[],none,[],[]⟩
theorem eq_strings_IndexByte (Φ : Calls') (a0 a1 : AV) (H : AH) (Q : Post) : fnE1 Φ ir_strings_IndexByte [a0, a1] H Q = strings_IndexByte Φ a0 a1 H Q := by kernel_rfl
def parse_operator_l1 (Φ : Calls') (a0 : AV) (x1 : AV) (Q : Post) : (List AV × AH) → ((List AV × AH) → Prop) → Prop := fun s2 L3 =>
 Do (abin .lss (sl s2.1 0) (.int .i64 11)) fun x4 =>
 Gd x4 true (
 Do (aidx 11 1 false x1 (sl s2.1 0)) fun x5 =>
 Do (abin .eql x5 a0) fun x6 =>
 Gd x6 true (
 Do (abin .add (sl s2.1 0) (.int .i64 1)) fun x7 =>
 Q x7 s2.2) (
 Do (abin .add (sl s2.1 0) (.int .i64 1)) fun x8 =>
 L3 ([x8], s2.2))) (
 Q (.int .i64 0) s2.2)
def parse_operator (Φ : Calls') (a0 : AV) (H : AH) (Q : Post) : Prop :=
 Do (abuild [.str [], .str [], .str [], .str [], .str [], .str [], .str [], .str [], .str [], .str [], .str []] [(0, 1, (.str [43])), (1, 1, (.str [45])), (2, 1, (.str [42])), (3, 1, (.str [38])), (4, 1, (.str [124])), (5, 1, (.str [94])), (6, 1, (.str [60, 60])), (7, 1, (.str [62, 62])), (8, 1, (.str [61, 61])), (9, 1, (.str [33, 61])), (10, 1, (.str [60]))]) fun x1 =>
 LoopP (parse_operator_l1 Φ a0 x1 Q) ([(.int .i64 0)], H)
noncomputable def ir_parse_operator : AFunc := decF Go.Proofs.YtbkkoplgicffgaaGreatDoor.rb.C ⟨132,[],[[6]],none,[],[]⟩
theorem eq_parse_operator (Φ : Calls') (a0 : AV) (H : AH) (Q : Post) : fnE1 Φ ir_parse_operator [a0] H Q = parse_operator Φ a0 H Q := by kernel_rfl
def internal_stringslite_HasPrefix (Φ : Calls') (a0 : AV) (a1 : AV) (H : AH) (Q : Post) : Prop :=
 Do (alen true a0) fun x1 =>
 Do (alen true a1) fun x2 =>
 Do (abin .geq x1 x2) fun x3 =>
 Gd3 x3 true (
 Do (alen true a1) fun x4 =>
 Do (asslice a0 none (some x4)) fun x5 =>
 Do (abin .eql x5 a1) fun x6 =>
 Q x6 H) (
 Q (.bool false) H) (
 False)
noncomputable def ir_internal_stringslite_HasPrefix : AFunc := decF Go.Proofs.YtbkkoplgicffgaaGreatDoor.rb.C ⟨142,[],[],none,[],[]⟩
theorem eq_internal_stringslite_HasPrefix (Φ : Calls') (a0 a1 : AV) (H : AH) (Q : Post) : fnE1 Φ ir_internal_stringslite_HasPrefix [a0, a1] H Q = internal_stringslite_HasPrefix Φ a0 a1 H Q := by kernel_rfl
noncomputable def tab_Lex : Tab := [
  (K.rabbetlaw10_PrintLines, ir_rabbetlaw10_PrintLines),
  (K.parse_Prog, ir_parse_Prog),
  (K.print_Prog, ir_print_Prog),
  (K.print_Same, ir_print_Same),
  (K.rabbetlaw10_small, ir_rabbetlaw10_small),
  (K.parse_begin, ir_parse_begin),
  (K.parse_parser_is, ir_parse_parser_is),
  (K.parse_parser_name, ir_parse_parser_name),
  (K.parse_parser_typ, ir_parse_parser_typ),
  (K.parse_parser_want, ir_parse_parser_want),
  (K.parse_parser_block, ir_parse_parser_block),
  (K.parse_parser_end, ir_parse_parser_end),
  (K.print_writer_words, ir_print_writer_words),
  (K.print_writer_typ, ir_print_writer_typ),
  (K.print_writer_block, ir_print_writer_block),
  (K.slices_EqualFunc___api_Var___api_Var_api_Var_api_Var_, ir_slices_EqualFunc___api_Var___api_Var_api_Var_api_Var_),
  (K.print_Same_c1, ir_print_Same_c1),
  (K.print_sameType, ir_print_sameType),
  (K.slices_EqualFunc_____api_Stmt_____api_Stmt___api_Stmt___api_Stmt_, ir_slices_EqualFunc_____api_Stmt_____api_Stmt___api_Stmt___api_Stmt_),
  (K.print_Same_c2, ir_print_Same_c2),
  (K.slices_EqualFunc___api_Stmt___api_Stmt_api_Stmt_api_Stmt_, ir_slices_EqualFunc___api_Stmt___api_Stmt_api_Stmt_api_Stmt_),
  (K.print_sameStmt, ir_print_sameStmt),
  (K.lex_Tokens, ir_lex_Tokens),
  (K.parse_parser_bad, ir_parse_parser_bad),
  (K.parse_parser_peek, ir_parse_parser_peek),
  (K.parse_parser_next, ir_parse_parser_next),
  (K.parse_letters, ir_parse_letters),
  (K.lex_Keyword, ir_lex_Keyword),
  (K.parse_parser_fail, ir_parse_parser_fail),
  (K.parse_parser_deep, ir_parse_parser_deep),
  (K.parse_scalar, ir_parse_scalar),
  (K.parse_kind, ir_parse_kind),
  (K.parse_parser_number, ir_parse_parser_number),
  (K.parse_parser_field, ir_parse_parser_field),
  (K.parse_parser_stmt, ir_parse_parser_stmt),
  (K.print_writer_expr, ir_print_writer_expr),
  (K.print_sameExpr, ir_print_sameExpr),
  (K.print_writer_full, ir_print_writer_full),
  (K.print_number, ir_print_number),
  (K.print_of, ir_print_of),
  (K.print_each_api_Field_, ir_print_each_api_Field_),
  (K.print_writer_field, ir_print_writer_field),
  (K.print_each_api_Stmt_, ir_print_each_api_Stmt_),
  (K.print_writer_stmt, ir_print_writer_stmt),
  (K.slices_EqualFunc___api_Type___api_Type_api_Type_api_Type_, ir_slices_EqualFunc___api_Type___api_Type_api_Type_api_Type_),
  (K.slices_EqualFunc___api_Field___api_Field_api_Field_api_Field_, ir_slices_EqualFunc___api_Field___api_Field_api_Field_api_Field_),
  (K.print_sameType_c1, ir_print_sameType_c1),
  (K.print_samePlace, ir_print_samePlace),
  (K.slices_EqualFunc___api_Expr___api_Expr_api_Expr_api_Expr_, ir_slices_EqualFunc___api_Expr___api_Expr_api_Expr_api_Expr_),
  (K.lex_scanner_next, ir_lex_scanner_next),
  (K.slices_Contains___string_string_, ir_slices_Contains___string_string_),
  (K.parse_digits, ir_parse_digits),
  (K.parse_parser_value, ir_parse_parser_value),
  (K.parse_parser_place, ir_parse_parser_place),
  (K.parse_parser_order, ir_parse_parser_order),
  (K.parse_parser_expr, ir_parse_parser_expr),
  (K.parse_parser_control, ir_parse_parser_control),
  (K.strconv_FormatUint, ir_strconv_FormatUint),
  (K.print_writer_place, ir_print_writer_place),
  (K.print_writer_order, ir_print_writer_order),
  (K.print_each_api_Expr_, ir_print_each_api_Expr_),
  (K.strconv_Itoa, ir_strconv_Itoa),
  (K.print_writer_exprs, ir_print_writer_exprs),
  (K.slices_EqualFunc___api_Part___api_Part_api_Part_api_Part_, ir_slices_EqualFunc___api_Part___api_Part_api_Part_api_Part_),
  (K.print_samePlace_c1, ir_print_samePlace_c1),
  (K.lex_letter, ir_lex_letter),
  (K.lex_scanner_word, ir_lex_scanner_word),
  (K.lex_digit, ir_lex_digit),
  (K.lex_scanner_number, ir_lex_scanner_number),
  (K.lex_scanner_sign, ir_lex_scanner_sign),
  (K.slices_Index___string_string_, ir_slices_Index___string_string_),
  (K.parse_parser_binary, ir_parse_parser_binary),
  (K.parse_parser_access, ir_parse_parser_access),
  (K.lex_scanner_run, ir_lex_scanner_run),
  (K.lex_part, ir_lex_part),
  (K.lex_scanner_take, ir_lex_scanner_take),
  (K.strings_HasPrefix, ir_strings_HasPrefix),
  (K.strings_IndexByte, ir_strings_IndexByte),
  (K.parse_operator, ir_parse_operator),
  (K.internal_stringslite_HasPrefix, ir_internal_stringslite_HasPrefix)]
theorem cl_rabbetlaw10_PrintLines {Φ : Calls'} (hT : Cl Φ tab_Lex) {a0 a1 a2 : AV} {H : AH} {Q : Post} (h : rabbetlaw10_PrintLines Φ a0 a1 a2 H Q) : Φ K.rabbetlaw10_PrintLines [a0, a1, a2] H Q := hT.call (by kernel_rfl) (by kernel_rfl) (by rw [eq_rabbetlaw10_PrintLines]; exact h)
theorem cl_parse_Prog {Φ : Calls'} (hT : Cl Φ tab_Lex) {a0 : AV} {H : AH} {Q : Post} (h : parse_Prog Φ a0 H Q) : Φ K.parse_Prog [a0] H Q := hT.call (by kernel_rfl) (by kernel_rfl) (by rw [eq_parse_Prog]; exact h)
theorem cl_print_Prog {Φ : Calls'} (hT : Cl Φ tab_Lex) {a0 : AV} {H : AH} {Q : Post} (h : print_Prog Φ a0 H Q) : Φ K.print_Prog [a0] H Q := hT.call (by kernel_rfl) (by kernel_rfl) (by rw [eq_print_Prog]; exact h)
theorem cl_print_Same {Φ : Calls'} (hT : Cl Φ tab_Lex) {a0 a1 : AV} {H : AH} {Q : Post} (h : print_Same Φ a0 a1 H Q) : Φ K.print_Same [a0, a1] H Q := hT.call (by kernel_rfl) (by kernel_rfl) (by rw [eq_print_Same]; exact h)
theorem cl_rabbetlaw10_small {Φ : Calls'} (hT : Cl Φ tab_Lex) {a0 : AV} {H : AH} {Q : Post} (h : rabbetlaw10_small Φ a0 H Q) : Φ K.rabbetlaw10_small [a0] H Q := hT.call (by kernel_rfl) (by kernel_rfl) (by rw [eq_rabbetlaw10_small]; exact h)
theorem cl_parse_begin {Φ : Calls'} (hT : Cl Φ tab_Lex) {a0 : AV} {H : AH} {Q : Post} (h : parse_begin Φ a0 H Q) : Φ K.parse_begin [a0] H Q := hT.call (by kernel_rfl) (by kernel_rfl) (by rw [eq_parse_begin]; exact h)
theorem cl_parse_parser_is {Φ : Calls'} (hT : Cl Φ tab_Lex) {a0 a1 : AV} {H : AH} {Q : Post} (h : parse_parser_is Φ a0 a1 H Q) : Φ K.parse_parser_is [a0, a1] H Q := hT.call (by kernel_rfl) (by kernel_rfl) (by rw [eq_parse_parser_is]; exact h)
theorem cl_parse_parser_name {Φ : Calls'} (hT : Cl Φ tab_Lex) {a0 : AV} {H : AH} {Q : Post} (h : parse_parser_name Φ a0 H Q) : Φ K.parse_parser_name [a0] H Q := hT.call (by kernel_rfl) (by kernel_rfl) (by rw [eq_parse_parser_name]; exact h)
theorem cl_parse_parser_typ {Φ : Calls'} (hT : Cl Φ tab_Lex) {a0 a1 : AV} {H : AH} {Q : Post} (h : parse_parser_typ Φ a0 a1 H Q) : Φ K.parse_parser_typ [a0, a1] H Q := hT.call (by kernel_rfl) (by kernel_rfl) (by rw [eq_parse_parser_typ]; exact h)
theorem cl_parse_parser_want {Φ : Calls'} (hT : Cl Φ tab_Lex) {a0 a1 : AV} {H : AH} {Q : Post} (h : parse_parser_want Φ a0 a1 H Q) : Φ K.parse_parser_want [a0, a1] H Q := hT.call (by kernel_rfl) (by kernel_rfl) (by rw [eq_parse_parser_want]; exact h)
theorem cl_parse_parser_block {Φ : Calls'} (hT : Cl Φ tab_Lex) {a0 a1 : AV} {H : AH} {Q : Post} (h : parse_parser_block Φ a0 a1 H Q) : Φ K.parse_parser_block [a0, a1] H Q := hT.call (by kernel_rfl) (by kernel_rfl) (by rw [eq_parse_parser_block]; exact h)
theorem cl_parse_parser_end {Φ : Calls'} (hT : Cl Φ tab_Lex) {a0 : AV} {H : AH} {Q : Post} (h : parse_parser_end Φ a0 H Q) : Φ K.parse_parser_end [a0] H Q := hT.call (by kernel_rfl) (by kernel_rfl) (by rw [eq_parse_parser_end]; exact h)
theorem cl_print_writer_words {Φ : Calls'} (hT : Cl Φ tab_Lex) {a0 a1 : AV} {H : AH} {Q : Post} (h : print_writer_words Φ a0 a1 H Q) : Φ K.print_writer_words [a0, a1] H Q := hT.call (by kernel_rfl) (by kernel_rfl) (by rw [eq_print_writer_words]; exact h)
theorem cl_print_writer_typ {Φ : Calls'} (hT : Cl Φ tab_Lex) {a0 a1 : AV} {H : AH} {Q : Post} (h : print_writer_typ Φ a0 a1 H Q) : Φ K.print_writer_typ [a0, a1] H Q := hT.call (by kernel_rfl) (by kernel_rfl) (by rw [eq_print_writer_typ]; exact h)
theorem cl_print_writer_block {Φ : Calls'} (hT : Cl Φ tab_Lex) {a0 a1 : AV} {H : AH} {Q : Post} (h : print_writer_block Φ a0 a1 H Q) : Φ K.print_writer_block [a0, a1] H Q := hT.call (by kernel_rfl) (by kernel_rfl) (by rw [eq_print_writer_block]; exact h)
theorem cl_slices_EqualFunc___api_Var___api_Var_api_Var_api_Var_ {Φ : Calls'} (hT : Cl Φ tab_Lex) {a0 a1 a2 : AV} {H : AH} {Q : Post} (h : slices_EqualFunc___api_Var___api_Var_api_Var_api_Var_ Φ a0 a1 a2 H Q) : Φ K.slices_EqualFunc___api_Var___api_Var_api_Var_api_Var_ [a0, a1, a2] H Q := hT.call (by kernel_rfl) (by kernel_rfl) (by rw [eq_slices_EqualFunc___api_Var___api_Var_api_Var_api_Var_]; exact h)
theorem cl_print_Same_c1 {Φ : Calls'} (hT : Cl Φ tab_Lex) {a0 a1 : AV} {H : AH} {Q : Post} (h : print_Same_c1 Φ a0 a1 H Q) : Φ K.print_Same_c1 [a0, a1] H Q := hT.call (by kernel_rfl) (by kernel_rfl) (by rw [eq_print_Same_c1]; exact h)
theorem cl_print_sameType {Φ : Calls'} (hT : Cl Φ tab_Lex) {a0 a1 : AV} {H : AH} {Q : Post} (h : print_sameType Φ a0 a1 H Q) : Φ K.print_sameType [a0, a1] H Q := hT.call (by kernel_rfl) (by kernel_rfl) (by rw [eq_print_sameType]; exact h)
theorem cl_slices_EqualFunc_____api_Stmt_____api_Stmt___api_Stmt___api_Stmt_ {Φ : Calls'} (hT : Cl Φ tab_Lex) {a0 a1 a2 : AV} {H : AH} {Q : Post} (h : slices_EqualFunc_____api_Stmt_____api_Stmt___api_Stmt___api_Stmt_ Φ a0 a1 a2 H Q) : Φ K.slices_EqualFunc_____api_Stmt_____api_Stmt___api_Stmt___api_Stmt_ [a0, a1, a2] H Q := hT.call (by kernel_rfl) (by kernel_rfl) (by rw [eq_slices_EqualFunc_____api_Stmt_____api_Stmt___api_Stmt___api_Stmt_]; exact h)
theorem cl_print_Same_c2 {Φ : Calls'} (hT : Cl Φ tab_Lex) {a0 a1 : AV} {H : AH} {Q : Post} (h : print_Same_c2 Φ a0 a1 H Q) : Φ K.print_Same_c2 [a0, a1] H Q := hT.call (by kernel_rfl) (by kernel_rfl) (by rw [eq_print_Same_c2]; exact h)
theorem cl_slices_EqualFunc___api_Stmt___api_Stmt_api_Stmt_api_Stmt_ {Φ : Calls'} (hT : Cl Φ tab_Lex) {a0 a1 a2 : AV} {H : AH} {Q : Post} (h : slices_EqualFunc___api_Stmt___api_Stmt_api_Stmt_api_Stmt_ Φ a0 a1 a2 H Q) : Φ K.slices_EqualFunc___api_Stmt___api_Stmt_api_Stmt_api_Stmt_ [a0, a1, a2] H Q := hT.call (by kernel_rfl) (by kernel_rfl) (by rw [eq_slices_EqualFunc___api_Stmt___api_Stmt_api_Stmt_api_Stmt_]; exact h)
theorem cl_print_sameStmt {Φ : Calls'} (hT : Cl Φ tab_Lex) {a0 a1 : AV} {H : AH} {Q : Post} (h : print_sameStmt Φ a0 a1 H Q) : Φ K.print_sameStmt [a0, a1] H Q := hT.call (by kernel_rfl) (by kernel_rfl) (by rw [eq_print_sameStmt]; exact h)
theorem cl_lex_Tokens {Φ : Calls'} (hT : Cl Φ tab_Lex) {a0 : AV} {H : AH} {Q : Post} (h : lex_Tokens Φ a0 H Q) : Φ K.lex_Tokens [a0] H Q := hT.call (by kernel_rfl) (by kernel_rfl) (by rw [eq_lex_Tokens]; exact h)
theorem cl_parse_parser_bad {Φ : Calls'} (hT : Cl Φ tab_Lex) {a0 : AV} {H : AH} {Q : Post} (h : parse_parser_bad Φ a0 H Q) : Φ K.parse_parser_bad [a0] H Q := hT.call (by kernel_rfl) (by kernel_rfl) (by rw [eq_parse_parser_bad]; exact h)
theorem cl_parse_parser_peek {Φ : Calls'} (hT : Cl Φ tab_Lex) {a0 : AV} {H : AH} {Q : Post} (h : parse_parser_peek Φ a0 H Q) : Φ K.parse_parser_peek [a0] H Q := hT.call (by kernel_rfl) (by kernel_rfl) (by rw [eq_parse_parser_peek]; exact h)
theorem cl_parse_parser_next {Φ : Calls'} (hT : Cl Φ tab_Lex) {a0 : AV} {H : AH} {Q : Post} (h : parse_parser_next Φ a0 H Q) : Φ K.parse_parser_next [a0] H Q := hT.call (by kernel_rfl) (by kernel_rfl) (by rw [eq_parse_parser_next]; exact h)
theorem cl_parse_letters {Φ : Calls'} (hT : Cl Φ tab_Lex) {a0 : AV} {H : AH} {Q : Post} (h : parse_letters Φ a0 H Q) : Φ K.parse_letters [a0] H Q := hT.call (by kernel_rfl) (by kernel_rfl) (by rw [eq_parse_letters]; exact h)
theorem cl_lex_Keyword {Φ : Calls'} (hT : Cl Φ tab_Lex) {a0 : AV} {H : AH} {Q : Post} (h : lex_Keyword Φ a0 H Q) : Φ K.lex_Keyword [a0] H Q := hT.call (by kernel_rfl) (by kernel_rfl) (by rw [eq_lex_Keyword]; exact h)
theorem cl_parse_parser_fail {Φ : Calls'} (hT : Cl Φ tab_Lex) {a0 a1 : AV} {H : AH} {Q : Post} (h : parse_parser_fail Φ a0 a1 H Q) : Φ K.parse_parser_fail [a0, a1] H Q := hT.call (by kernel_rfl) (by kernel_rfl) (by rw [eq_parse_parser_fail]; exact h)
theorem cl_parse_parser_deep {Φ : Calls'} (hT : Cl Φ tab_Lex) {a0 a1 : AV} {H : AH} {Q : Post} (h : parse_parser_deep Φ a0 a1 H Q) : Φ K.parse_parser_deep [a0, a1] H Q := hT.call (by kernel_rfl) (by kernel_rfl) (by rw [eq_parse_parser_deep]; exact h)
theorem cl_parse_scalar {Φ : Calls'} (hT : Cl Φ tab_Lex) {a0 : AV} {H : AH} {Q : Post} (h : parse_scalar Φ a0 H Q) : Φ K.parse_scalar [a0] H Q := hT.call (by kernel_rfl) (by kernel_rfl) (by rw [eq_parse_scalar]; exact h)
theorem cl_parse_kind {Φ : Calls'} (hT : Cl Φ tab_Lex) {a0 : AV} {H : AH} {Q : Post} (h : parse_kind Φ a0 H Q) : Φ K.parse_kind [a0] H Q := hT.call (by kernel_rfl) (by kernel_rfl) (by rw [eq_parse_kind]; exact h)
theorem cl_parse_parser_number {Φ : Calls'} (hT : Cl Φ tab_Lex) {a0 a1 : AV} {H : AH} {Q : Post} (h : parse_parser_number Φ a0 a1 H Q) : Φ K.parse_parser_number [a0, a1] H Q := hT.call (by kernel_rfl) (by kernel_rfl) (by rw [eq_parse_parser_number]; exact h)
theorem cl_parse_parser_field {Φ : Calls'} (hT : Cl Φ tab_Lex) {a0 a1 : AV} {H : AH} {Q : Post} (h : parse_parser_field Φ a0 a1 H Q) : Φ K.parse_parser_field [a0, a1] H Q := hT.call (by kernel_rfl) (by kernel_rfl) (by rw [eq_parse_parser_field]; exact h)
theorem cl_parse_parser_stmt {Φ : Calls'} (hT : Cl Φ tab_Lex) {a0 a1 : AV} {H : AH} {Q : Post} (h : parse_parser_stmt Φ a0 a1 H Q) : Φ K.parse_parser_stmt [a0, a1] H Q := hT.call (by kernel_rfl) (by kernel_rfl) (by rw [eq_parse_parser_stmt]; exact h)
theorem cl_print_writer_expr {Φ : Calls'} (hT : Cl Φ tab_Lex) {a0 a1 : AV} {H : AH} {Q : Post} (h : print_writer_expr Φ a0 a1 H Q) : Φ K.print_writer_expr [a0, a1] H Q := hT.call (by kernel_rfl) (by kernel_rfl) (by rw [eq_print_writer_expr]; exact h)
theorem cl_print_sameExpr {Φ : Calls'} (hT : Cl Φ tab_Lex) {a0 a1 : AV} {H : AH} {Q : Post} (h : print_sameExpr Φ a0 a1 H Q) : Φ K.print_sameExpr [a0, a1] H Q := hT.call (by kernel_rfl) (by kernel_rfl) (by rw [eq_print_sameExpr]; exact h)
theorem cl_print_writer_full {Φ : Calls'} (hT : Cl Φ tab_Lex) {a0 : AV} {H : AH} {Q : Post} (h : print_writer_full Φ a0 H Q) : Φ K.print_writer_full [a0] H Q := hT.call (by kernel_rfl) (by kernel_rfl) (by rw [eq_print_writer_full]; exact h)
theorem cl_print_number {Φ : Calls'} (hT : Cl Φ tab_Lex) {a0 : AV} {H : AH} {Q : Post} (h : print_number Φ a0 H Q) : Φ K.print_number [a0] H Q := hT.call (by kernel_rfl) (by kernel_rfl) (by rw [eq_print_number]; exact h)
theorem cl_print_of {Φ : Calls'} (hT : Cl Φ tab_Lex) {a0 a1 : AV} {H : AH} {Q : Post} (h : print_of Φ a0 a1 H Q) : Φ K.print_of [a0, a1] H Q := hT.call (by kernel_rfl) (by kernel_rfl) (by rw [eq_print_of]; exact h)
theorem cl_print_each_api_Field_ {Φ : Calls'} (hT : Cl Φ tab_Lex) {a0 a1 : AV} {H : AH} {Q : Post} (h : print_each_api_Field_ Φ a0 a1 H Q) : Φ K.print_each_api_Field_ [a0, a1] H Q := hT.call (by kernel_rfl) (by kernel_rfl) (by rw [eq_print_each_api_Field_]; exact h)
theorem cl_print_writer_field {Φ : Calls'} (hT : Cl Φ tab_Lex) {a0 a1 : AV} {H : AH} {Q : Post} (h : print_writer_field Φ a0 a1 H Q) : Φ K.print_writer_field [a0, a1] H Q := hT.call (by kernel_rfl) (by kernel_rfl) (by rw [eq_print_writer_field]; exact h)
theorem cl_print_each_api_Stmt_ {Φ : Calls'} (hT : Cl Φ tab_Lex) {a0 a1 : AV} {H : AH} {Q : Post} (h : print_each_api_Stmt_ Φ a0 a1 H Q) : Φ K.print_each_api_Stmt_ [a0, a1] H Q := hT.call (by kernel_rfl) (by kernel_rfl) (by rw [eq_print_each_api_Stmt_]; exact h)
theorem cl_print_writer_stmt {Φ : Calls'} (hT : Cl Φ tab_Lex) {a0 a1 : AV} {H : AH} {Q : Post} (h : print_writer_stmt Φ a0 a1 H Q) : Φ K.print_writer_stmt [a0, a1] H Q := hT.call (by kernel_rfl) (by kernel_rfl) (by rw [eq_print_writer_stmt]; exact h)
theorem cl_slices_EqualFunc___api_Type___api_Type_api_Type_api_Type_ {Φ : Calls'} (hT : Cl Φ tab_Lex) {a0 a1 a2 : AV} {H : AH} {Q : Post} (h : slices_EqualFunc___api_Type___api_Type_api_Type_api_Type_ Φ a0 a1 a2 H Q) : Φ K.slices_EqualFunc___api_Type___api_Type_api_Type_api_Type_ [a0, a1, a2] H Q := hT.call (by kernel_rfl) (by kernel_rfl) (by rw [eq_slices_EqualFunc___api_Type___api_Type_api_Type_api_Type_]; exact h)
theorem cl_slices_EqualFunc___api_Field___api_Field_api_Field_api_Field_ {Φ : Calls'} (hT : Cl Φ tab_Lex) {a0 a1 a2 : AV} {H : AH} {Q : Post} (h : slices_EqualFunc___api_Field___api_Field_api_Field_api_Field_ Φ a0 a1 a2 H Q) : Φ K.slices_EqualFunc___api_Field___api_Field_api_Field_api_Field_ [a0, a1, a2] H Q := hT.call (by kernel_rfl) (by kernel_rfl) (by rw [eq_slices_EqualFunc___api_Field___api_Field_api_Field_api_Field_]; exact h)
theorem cl_print_sameType_c1 {Φ : Calls'} (hT : Cl Φ tab_Lex) {a0 a1 : AV} {H : AH} {Q : Post} (h : print_sameType_c1 Φ a0 a1 H Q) : Φ K.print_sameType_c1 [a0, a1] H Q := hT.call (by kernel_rfl) (by kernel_rfl) (by rw [eq_print_sameType_c1]; exact h)
theorem cl_print_samePlace {Φ : Calls'} (hT : Cl Φ tab_Lex) {a0 a1 : AV} {H : AH} {Q : Post} (h : print_samePlace Φ a0 a1 H Q) : Φ K.print_samePlace [a0, a1] H Q := hT.call (by kernel_rfl) (by kernel_rfl) (by rw [eq_print_samePlace]; exact h)
theorem cl_slices_EqualFunc___api_Expr___api_Expr_api_Expr_api_Expr_ {Φ : Calls'} (hT : Cl Φ tab_Lex) {a0 a1 a2 : AV} {H : AH} {Q : Post} (h : slices_EqualFunc___api_Expr___api_Expr_api_Expr_api_Expr_ Φ a0 a1 a2 H Q) : Φ K.slices_EqualFunc___api_Expr___api_Expr_api_Expr_api_Expr_ [a0, a1, a2] H Q := hT.call (by kernel_rfl) (by kernel_rfl) (by rw [eq_slices_EqualFunc___api_Expr___api_Expr_api_Expr_api_Expr_]; exact h)
theorem cl_lex_scanner_next {Φ : Calls'} (hT : Cl Φ tab_Lex) {a0 : AV} {H : AH} {Q : Post} (h : lex_scanner_next Φ a0 H Q) : Φ K.lex_scanner_next [a0] H Q := hT.call (by kernel_rfl) (by kernel_rfl) (by rw [eq_lex_scanner_next]; exact h)
theorem cl_slices_Contains___string_string_ {Φ : Calls'} (hT : Cl Φ tab_Lex) {a0 a1 : AV} {H : AH} {Q : Post} (h : slices_Contains___string_string_ Φ a0 a1 H Q) : Φ K.slices_Contains___string_string_ [a0, a1] H Q := hT.call (by kernel_rfl) (by kernel_rfl) (by rw [eq_slices_Contains___string_string_]; exact h)
theorem cl_parse_digits {Φ : Calls'} (hT : Cl Φ tab_Lex) {a0 : AV} {H : AH} {Q : Post} (h : parse_digits Φ a0 H Q) : Φ K.parse_digits [a0] H Q := hT.call (by kernel_rfl) (by kernel_rfl) (by rw [eq_parse_digits]; exact h)
theorem cl_parse_parser_value {Φ : Calls'} (hT : Cl Φ tab_Lex) {a0 a1 : AV} {H : AH} {Q : Post} (h : parse_parser_value Φ a0 a1 H Q) : Φ K.parse_parser_value [a0, a1] H Q := hT.call (by kernel_rfl) (by kernel_rfl) (by rw [eq_parse_parser_value]; exact h)
theorem cl_parse_parser_place {Φ : Calls'} (hT : Cl Φ tab_Lex) {a0 a1 : AV} {H : AH} {Q : Post} (h : parse_parser_place Φ a0 a1 H Q) : Φ K.parse_parser_place [a0, a1] H Q := hT.call (by kernel_rfl) (by kernel_rfl) (by rw [eq_parse_parser_place]; exact h)
theorem cl_parse_parser_order {Φ : Calls'} (hT : Cl Φ tab_Lex) {a0 : AV} {H : AH} {Q : Post} (h : parse_parser_order Φ a0 H Q) : Φ K.parse_parser_order [a0] H Q := hT.call (by kernel_rfl) (by kernel_rfl) (by rw [eq_parse_parser_order]; exact h)
theorem cl_parse_parser_expr {Φ : Calls'} (hT : Cl Φ tab_Lex) {a0 a1 : AV} {H : AH} {Q : Post} (h : parse_parser_expr Φ a0 a1 H Q) : Φ K.parse_parser_expr [a0, a1] H Q := hT.call (by kernel_rfl) (by kernel_rfl) (by rw [eq_parse_parser_expr]; exact h)
theorem cl_parse_parser_control {Φ : Calls'} (hT : Cl Φ tab_Lex) {a0 a1 a2 : AV} {H : AH} {Q : Post} (h : parse_parser_control Φ a0 a1 a2 H Q) : Φ K.parse_parser_control [a0, a1, a2] H Q := hT.call (by kernel_rfl) (by kernel_rfl) (by rw [eq_parse_parser_control]; exact h)
theorem cl_strconv_FormatUint {Φ : Calls'} (hT : Cl Φ tab_Lex) {a0 a1 : AV} {H : AH} {Q : Post} (h : strconv_FormatUint Φ a0 a1 H Q) : Φ K.strconv_FormatUint [a0, a1] H Q := hT.call (by kernel_rfl) (by kernel_rfl) (by rw [eq_strconv_FormatUint]; exact h)
theorem cl_print_writer_place {Φ : Calls'} (hT : Cl Φ tab_Lex) {a0 a1 : AV} {H : AH} {Q : Post} (h : print_writer_place Φ a0 a1 H Q) : Φ K.print_writer_place [a0, a1] H Q := hT.call (by kernel_rfl) (by kernel_rfl) (by rw [eq_print_writer_place]; exact h)
theorem cl_print_writer_order {Φ : Calls'} (hT : Cl Φ tab_Lex) {a0 a1 : AV} {H : AH} {Q : Post} (h : print_writer_order Φ a0 a1 H Q) : Φ K.print_writer_order [a0, a1] H Q := hT.call (by kernel_rfl) (by kernel_rfl) (by rw [eq_print_writer_order]; exact h)
theorem cl_print_each_api_Expr_ {Φ : Calls'} (hT : Cl Φ tab_Lex) {a0 a1 : AV} {H : AH} {Q : Post} (h : print_each_api_Expr_ Φ a0 a1 H Q) : Φ K.print_each_api_Expr_ [a0, a1] H Q := hT.call (by kernel_rfl) (by kernel_rfl) (by rw [eq_print_each_api_Expr_]; exact h)
theorem cl_strconv_Itoa {Φ : Calls'} (hT : Cl Φ tab_Lex) {a0 : AV} {H : AH} {Q : Post} (h : strconv_Itoa Φ a0 H Q) : Φ K.strconv_Itoa [a0] H Q := hT.call (by kernel_rfl) (by kernel_rfl) (by rw [eq_strconv_Itoa]; exact h)
theorem cl_print_writer_exprs {Φ : Calls'} (hT : Cl Φ tab_Lex) {a0 a1 : AV} {H : AH} {Q : Post} (h : print_writer_exprs Φ a0 a1 H Q) : Φ K.print_writer_exprs [a0, a1] H Q := hT.call (by kernel_rfl) (by kernel_rfl) (by rw [eq_print_writer_exprs]; exact h)
theorem cl_slices_EqualFunc___api_Part___api_Part_api_Part_api_Part_ {Φ : Calls'} (hT : Cl Φ tab_Lex) {a0 a1 a2 : AV} {H : AH} {Q : Post} (h : slices_EqualFunc___api_Part___api_Part_api_Part_api_Part_ Φ a0 a1 a2 H Q) : Φ K.slices_EqualFunc___api_Part___api_Part_api_Part_api_Part_ [a0, a1, a2] H Q := hT.call (by kernel_rfl) (by kernel_rfl) (by rw [eq_slices_EqualFunc___api_Part___api_Part_api_Part_api_Part_]; exact h)
theorem cl_print_samePlace_c1 {Φ : Calls'} (hT : Cl Φ tab_Lex) {a0 a1 : AV} {H : AH} {Q : Post} (h : print_samePlace_c1 Φ a0 a1 H Q) : Φ K.print_samePlace_c1 [a0, a1] H Q := hT.call (by kernel_rfl) (by kernel_rfl) (by rw [eq_print_samePlace_c1]; exact h)
theorem cl_lex_letter {Φ : Calls'} (hT : Cl Φ tab_Lex) {a0 : AV} {H : AH} {Q : Post} (h : lex_letter Φ a0 H Q) : Φ K.lex_letter [a0] H Q := hT.call (by kernel_rfl) (by kernel_rfl) (by rw [eq_lex_letter]; exact h)
theorem cl_lex_scanner_word {Φ : Calls'} (hT : Cl Φ tab_Lex) {a0 : AV} {H : AH} {Q : Post} (h : lex_scanner_word Φ a0 H Q) : Φ K.lex_scanner_word [a0] H Q := hT.call (by kernel_rfl) (by kernel_rfl) (by rw [eq_lex_scanner_word]; exact h)
theorem cl_lex_digit {Φ : Calls'} (hT : Cl Φ tab_Lex) {a0 : AV} {H : AH} {Q : Post} (h : lex_digit Φ a0 H Q) : Φ K.lex_digit [a0] H Q := hT.call (by kernel_rfl) (by kernel_rfl) (by rw [eq_lex_digit]; exact h)
theorem cl_lex_scanner_number {Φ : Calls'} (hT : Cl Φ tab_Lex) {a0 : AV} {H : AH} {Q : Post} (h : lex_scanner_number Φ a0 H Q) : Φ K.lex_scanner_number [a0] H Q := hT.call (by kernel_rfl) (by kernel_rfl) (by rw [eq_lex_scanner_number]; exact h)
theorem cl_lex_scanner_sign {Φ : Calls'} (hT : Cl Φ tab_Lex) {a0 : AV} {H : AH} {Q : Post} (h : lex_scanner_sign Φ a0 H Q) : Φ K.lex_scanner_sign [a0] H Q := hT.call (by kernel_rfl) (by kernel_rfl) (by rw [eq_lex_scanner_sign]; exact h)
theorem cl_slices_Index___string_string_ {Φ : Calls'} (hT : Cl Φ tab_Lex) {a0 a1 : AV} {H : AH} {Q : Post} (h : slices_Index___string_string_ Φ a0 a1 H Q) : Φ K.slices_Index___string_string_ [a0, a1] H Q := hT.call (by kernel_rfl) (by kernel_rfl) (by rw [eq_slices_Index___string_string_]; exact h)
theorem cl_parse_parser_binary {Φ : Calls'} (hT : Cl Φ tab_Lex) {a0 a1 : AV} {H : AH} {Q : Post} (h : parse_parser_binary Φ a0 a1 H Q) : Φ K.parse_parser_binary [a0, a1] H Q := hT.call (by kernel_rfl) (by kernel_rfl) (by rw [eq_parse_parser_binary]; exact h)
theorem cl_parse_parser_access {Φ : Calls'} (hT : Cl Φ tab_Lex) {a0 a1 a2 a3 : AV} {H : AH} {Q : Post} (h : parse_parser_access Φ a0 a1 a2 a3 H Q) : Φ K.parse_parser_access [a0, a1, a2, a3] H Q := hT.call (by kernel_rfl) (by kernel_rfl) (by rw [eq_parse_parser_access]; exact h)
theorem cl_lex_scanner_run {Φ : Calls'} (hT : Cl Φ tab_Lex) {a0 a1 : AV} {H : AH} {Q : Post} (h : lex_scanner_run Φ a0 a1 H Q) : Φ K.lex_scanner_run [a0, a1] H Q := hT.call (by kernel_rfl) (by kernel_rfl) (by rw [eq_lex_scanner_run]; exact h)
theorem cl_lex_part {Φ : Calls'} (hT : Cl Φ tab_Lex) {a0 : AV} {H : AH} {Q : Post} (h : lex_part Φ a0 H Q) : Φ K.lex_part [a0] H Q := hT.call (by kernel_rfl) (by kernel_rfl) (by rw [eq_lex_part]; exact h)
theorem cl_lex_scanner_take {Φ : Calls'} (hT : Cl Φ tab_Lex) {a0 a1 : AV} {H : AH} {Q : Post} (h : lex_scanner_take Φ a0 a1 H Q) : Φ K.lex_scanner_take [a0, a1] H Q := hT.call (by kernel_rfl) (by kernel_rfl) (by rw [eq_lex_scanner_take]; exact h)
theorem cl_strings_HasPrefix {Φ : Calls'} (hT : Cl Φ tab_Lex) {a0 a1 : AV} {H : AH} {Q : Post} (h : strings_HasPrefix Φ a0 a1 H Q) : Φ K.strings_HasPrefix [a0, a1] H Q := hT.call (by kernel_rfl) (by kernel_rfl) (by rw [eq_strings_HasPrefix]; exact h)
theorem cl_strings_IndexByte {Φ : Calls'} (hT : Cl Φ tab_Lex) {a0 a1 : AV} {H : AH} {Q : Post} (h : strings_IndexByte Φ a0 a1 H Q) : Φ K.strings_IndexByte [a0, a1] H Q := hT.call (by kernel_rfl) (by kernel_rfl) (by rw [eq_strings_IndexByte]; exact h)
theorem cl_parse_operator {Φ : Calls'} (hT : Cl Φ tab_Lex) {a0 : AV} {H : AH} {Q : Post} (h : parse_operator Φ a0 H Q) : Φ K.parse_operator [a0] H Q := hT.call (by kernel_rfl) (by kernel_rfl) (by rw [eq_parse_operator]; exact h)
theorem cl_internal_stringslite_HasPrefix {Φ : Calls'} (hT : Cl Φ tab_Lex) {a0 a1 : AV} {H : AH} {Q : Post} (h : internal_stringslite_HasPrefix Φ a0 a1 H Q) : Φ K.internal_stringslite_HasPrefix [a0, a1] H Q := hT.call (by kernel_rfl) (by kernel_rfl) (by rw [eq_internal_stringslite_HasPrefix]; exact h)
end Rb.S

set_option linter.unusedVariables false
namespace Go.Proofs.YtbkkoplgicffgaaGreatDoor.rb
open Rb
theorem cl_Lex : Cl (ACall C) S.tab_Lex := Cl.of (ACall_mono C) (closed_of (idC_fok _ _) (by kernel_rfl))
end Go.Proofs.YtbkkoplgicffgaaGreatDoor.rb

set_option linter.unusedVariables false
set_option linter.unusedSimpArgs false
namespace Rb
open Go
def Val (Φ : Calls') (k : Nat) (args : List AV) (v : AV) : Prop := ∀ (H : AH) (Q : Post), Q v H → Φ k args H Q
theorem Val.of {C : Ctx} (hGT : GTok C) {k : Nat} {args : List AV} {v : AV} (ha : AV.frozs args = true) (hv : v.froz = true) (h : ∀ Q : Post, (∀ H', Q v H') → ACall C k args AH.mt Q) : Val (ACall C) k args v :=
 fun H Q hQ => ACall.frame2 (Q := fun u _ => u = v) hGT (h _ fun _ => rfl) ha H Q fun u _ hu => by subst hu; exact ⟨hv, hQ⟩
def isLet (c : UInt8) : Bool := decide (97 ≤ c.toNat) && decide (c.toNat ≤ 122)
def isDig (c : UInt8) : Bool := decide (48 ≤ c.toNat) && decide (c.toNat ≤ 57)
def isPart (c : UInt8) : Bool := isLet c || isDig c || decide (c.toNat = 95)
def nameOk : List UInt8 → Bool
 | [] => false
 | c :: r => decide (r.length < 16) && isLet c && r.all isPart
theorem decodeN_lo {n b0 b1 b2 b3 : Nat} (h : b0 < 128) : Go.Lib.decodeN n b0 b1 b2 b3 = (b0, 1) := by unfold Go.Lib.decodeN; rw [if_pos h]
theorem decodeN_hi {n b0 b1 b2 b3 : Nat} (h : ¬ b0 < 128) : 128 ≤ (Go.Lib.decodeN n b0 b1 b2 b3).1 := by
 unfold Go.Lib.decodeN
 rw [if_neg h]
 repeat' split
 all_goals (dsimp only; omega)
theorem decode_lo {s : List UInt8} {i : Nat} {c : UInt8} (hc : s[i]? = some c) (h : c.toNat < 128) : Utf8.decode ⟨s.toArray⟩ i = (c.toNat, 1) := by
 have e : (ByteArray.mk s.toArray).get! i = c := by
  show s.toArray[i]! = c
  have hi := (List.getElem?_eq_some_iff.1 hc).1
  rw [getElem!_pos s.toArray i (by simpa using hi)]
  simp [List.getElem?_eq_getElem hi] at hc
  simpa using hc
 rw [Go.Lib.decode_at, e, decodeN_lo h]
theorem decode_hi {s : List UInt8} {i : Nat} {c : UInt8} (hc : s[i]? = some c) (h : ¬ c.toNat < 128) : 128 ≤ (Utf8.decode ⟨s.toArray⟩ i).1 := by
 have e : (ByteArray.mk s.toArray).get! i = c := by
  show s.toArray[i]! = c
  have hi := (List.getElem?_eq_some_iff.1 hc).1
  rw [getElem!_pos s.toArray i (by simpa using hi)]
  simp [List.getElem?_eq_getElem hi] at hc
  simpa using hc
 rw [Go.Lib.decode_at, e]
 exact decodeN_hi h
def pow2 (n most : Int) : Bool := (n == 1 || n == 2 || n == 4 || n == 8 || n == 16) && decide (n ≤ most)
def onlyM (kind size : Int) (packed : Bool) (nf : Nat) (count : Int) (ne : Nat) : Bool :=
 if kind = 1 ∨ kind = 2 then !packed && nf == 0 && count == 0 && ne == 0
 else if kind = 3 ∨ kind = 4 then size == 0 && count == 0 && ne == 0
 else if kind = 5 then size == 0 && !packed && nf == 0 && ne == 1
 else false
mutual
def sndT : GType → Int
 | .mk kind size packed fields count elem =>
  if onlyM kind size packed fields.length count elem.length = false then 8
  else if kind = 1 then (if pow2 size 8 then 0 else 9)
  else if kind = 2 then (if pow2 size 16 then 0 else 9)
  else if kind = 5 then (if count < 1 ∨ 65536 < count then 9 else sndE elem)
  else if fields.length < 1 ∨ 32 < fields.length then 12
  else sndFs packed [] fields
def sndE : List GType → Int
 | [] => 0
 | t :: _ => sndT t
def sndF (packed : Bool) (seen : List (List UInt8)) : GField → Int
 | .mk name type bits width =>
  if nameOk name = false ∧ (name ≠ [] ∨ bits = false) then 6
  else if name ≠ [] ∧ seen.contains name = true then 7
  else if sndT type ≠ 0 then sndT type
  else if (bits = false ∧ width ≠ 0) ∨ (bits = true ∧ (type.kind ≠ 1 ∨ packed = true)) then 8
  else if bits = true ∧ (width < 0 ∨ 8 * type.size < width ∨ (width = 0 ∧ name ≠ [])) then 9
  else 0
def sndFs (packed : Bool) (seen : List (List UInt8)) : List GField → Int
 | [] => 0
 | f :: r => if sndF packed seen f ≠ 0 then sndF packed seen f else sndFs packed (seen ++ [f.name]) r
end
mutual
def depT (most : Nat) : GType → Int
 | .mk kind size packed fields count elem => if 1 < most then max (depFs (most - 1) fields) (depEs (most - 1) elem) + 1 else 1
def depF (most : Nat) : GField → Int
 | .mk name type bits width => depT most type
def depFs (most : Nat) : List GField → Int
 | [] => 0
 | f :: r => max (depF most f) (depFs most r)
def depEs (most : Nat) : List GType → Int
 | [] => 0
 | t :: r => max (depT most t) (depEs most r)
end
def soundM (t : GType) : Int := if 64 < depT 65 t then 5 else sndT t
theorem GType.ind {P : GType → Prop} (h : ∀ t : GType, (∀ f ∈ t.fields, P f.type) → (∀ e ∈ t.elem, P e) → P t) : ∀ t, P t := by
 have main : ∀ (n : Nat) (t : GType), sizeOf t < n → P t := by
  intro n
  induction n with
  | zero => intro t ht; omega
  | succ n ih =>
   intro t ht
   refine h t (fun f hf => ih _ ?_) fun e he => ih _ ?_
   · cases t with
     | mk kind size packed fields count elem =>
      have := List.sizeOf_lt_of_mem hf
      cases f with
      | mk name type bits width => simp at this ht ⊢; omega
   · cases t with
     | mk kind size packed fields count elem =>
      have := List.sizeOf_lt_of_mem he
      simp at this ht ⊢; omega
 exact fun t => main _ t (Nat.lt_succ_self _)
end Rb

set_option linter.unusedVariables false
set_option linter.unusedSimpArgs false
namespace Rb
open Go
def sgn1 : List UInt8 := [123, 125, 91, 93, 40, 41, 59, 58, 44, 46, 95, 61, 43, 45, 42, 38, 124, 94, 60]
def two (x : UInt8) : Option UInt8 := if x = 60 then some 60 else if x = 62 then some 62 else if x = 61 then some 61 else if x = 33 then some 61 else none
def restOk : List UInt8 → Bool
 | [] => true
 | c :: _ => !isPart c
def wordM (num : List UInt8 → Bool) : List UInt8 → Option Nat
 | [] => none
 | x :: r =>
  if isLet x = true then (if 16 < ((x :: r).takeWhile isPart).length then none else some ((x :: r).takeWhile isPart).length)
  else if isDig x = true then (if (num ((x :: r).takeWhile isDig) = true ∧ ¬ (1 < ((x :: r).takeWhile isDig).length ∧ x = 48)) ∧ restOk ((x :: r).dropWhile isDig) = true then some ((x :: r).takeWhile isDig).length else none)
  else if two x ≠ none ∧ r.head? = two x then some 2
  else if sgn1.contains x = true then some 1 else none
theorem wordM_cons (num : List UInt8 → Bool) (x : UInt8) (r : List UInt8) : wordM num (x :: r) = if isLet x = true then (if 16 < ((x :: r).takeWhile isPart).length then none else some ((x :: r).takeWhile isPart).length)
  else if isDig x = true then (if (num ((x :: r).takeWhile isDig) = true ∧ ¬ (1 < ((x :: r).takeWhile isDig).length ∧ x = 48)) ∧ restOk ((x :: r).dropWhile isDig) = true then some ((x :: r).takeWhile isDig).length else none)
  else if two x ≠ none ∧ r.head? = two x then some 2
  else if sgn1.contains x = true then some 1 else none := rfl
def toks (num : List UInt8 → Bool) : Nat → List UInt8 → Int → Except Int (List (List UInt8 × Int))
 | 0, _, _ => .ok []
 | _ + 1, [], _ => .ok []
 | n + 1, x :: r, line =>
  if x = 10 then toks num n r (line + 1) else if x = 32 then toks num n r line
  else match wordM num (x :: r) with
   | none => .error line
   | some k => match toks num n ((x :: r).drop k) line with
    | .error l => .error l
    | .ok ws => .ok (((x :: r).take k, line) :: ws)
section
variable {num : List UInt8 → Bool}
theorem wordM_pos {s : List UInt8} {k : Nat} (h : wordM num s = some k) : 1 ≤ k ∧ k ≤ s.length := by
 cases s with
 | nil => cases h
 | cons x r =>
  rw [wordM_cons] at h
  have hl : ∀ p : UInt8 → Bool, ((x :: r).takeWhile p).length ≤ (x :: r).length := fun p => (List.takeWhile_prefix p).length_le
  split at h
  · rename_i hx
    have hp : isPart x = true := by simp [isPart, hx]
    have := hl isPart
    split at h
    · cases h
    · simp only [Option.some.injEq] at h
      subst h
      refine ⟨?_, this⟩
      rw [List.takeWhile_cons, if_pos hp]; simp
  · split at h
    · rename_i hx
      have := hl isDig
      split at h
      · simp only [Option.some.injEq] at h
        subst h
        refine ⟨?_, this⟩
        rw [List.takeWhile_cons, if_pos hx]; simp
      · cases h
    · split at h
      · rename_i ht
        simp only [Option.some.injEq] at h
        subst h
        cases r with
        | nil => exact absurd ht.2.symm ht.1
        | cons y r => simp
      · split at h
        · simp only [Option.some.injEq] at h
          subst h
          simp
        · cases h
theorem toks_nil (n : Nat) (line : Int) : toks num n [] line = .ok [] := by cases n <;> rfl
theorem toks_fuel : ∀ (n m : Nat) (s : List UInt8) (line : Int), s.length ≤ n → s.length ≤ m → toks num n s line = toks num m s line := by
 intro n
 induction n with
 | zero =>
  intro m s line h1 h2
  have : s = [] := List.length_eq_zero_iff.1 (by omega)
  subst this
  rw [toks_nil, toks_nil]
 | succ n ih =>
  intro m s line h1 h2
  cases s with
  | nil => rw [toks_nil, toks_nil]
  | cons x r =>
   simp only [List.length_cons] at h1 h2
   cases m with
   | zero => omega
   | succ m =>
    rw [toks, toks]
    rw [ih m r (line + 1) (by omega) (by omega), ih m r line (by omega) (by omega)]
    cases hw : wordM num (x :: r) with
    | none => rfl
    | some k =>
     have := wordM_pos hw
     simp only
     rw [ih m ((x :: r).drop k) line (by rw [List.length_drop, List.length_cons]; omega) (by rw [List.length_drop, List.length_cons]; omega)]
def shift (k : Int) : Except Int (List (List UInt8 × Int)) → Except Int (List (List UInt8 × Int))
 | .error l => .error (l + k)
 | .ok ws => .ok (ws.map fun w => (w.1, w.2 + k))
theorem toks_shift (k : Int) : ∀ (n : Nat) (s : List UInt8) (line : Int), toks num n s (line + k) = shift k (toks num n s line) := by
 intro n
 induction n with
 | zero => intro s line; rfl
 | succ n ih =>
  intro s line
  cases s with
  | nil => rfl
  | cons x r =>
   rw [toks, toks]
   split
   · rw [show line + k + 1 = line + 1 + k by omega, ih]
   · split
     · rw [ih]
     · cases hw : wordM num (x :: r) with
       | none => rfl
       | some j =>
        simp only
        rw [ih]
        cases toks num n ((x :: r).drop j) line with
        | error l => rfl
        | ok ws => rfl
def nls (s : List UInt8) : Int := (s.countP (· == 10) : Nat)
theorem takeWhile_stop {p : UInt8 → Bool} {c : UInt8} (hc : p c = false) (t : List UInt8) : ∀ s : List UInt8, (s ++ c :: t).takeWhile p = s.takeWhile p
 | [] => by rw [List.nil_append, List.takeWhile_cons, hc]; rfl
 | x :: r => by
  rw [List.cons_append, List.takeWhile_cons, List.takeWhile_cons, takeWhile_stop hc t r]
theorem dropWhile_stop {p : UInt8 → Bool} {c : UInt8} (hc : p c = false) (t : List UInt8) : ∀ s : List UInt8, (s ++ c :: t).dropWhile p = s.dropWhile p ++ c :: t
 | [] => by rw [List.nil_append, List.dropWhile_cons, hc]; rfl
 | x :: r => by
  rw [List.cons_append, List.dropWhile_cons, List.dropWhile_cons]
  split
  · exact dropWhile_stop hc t r
  · rfl
def stops (c : UInt8) : Prop := c = 10 ∨ c = 32
theorem stops_part {c : UInt8} (h : stops c) : isPart c = false := by rcases h with rfl | rfl <;> rfl
theorem stops_dig {c : UInt8} (h : stops c) : isDig c = false := by rcases h with rfl | rfl <;> rfl
theorem wordM_stop {c : UInt8} (hc : stops c) (x : UInt8) (r t : List UInt8) : wordM num (x :: (r ++ c :: t)) = wordM num (x :: r) := by
 have e1 : (x :: (r ++ c :: t)).takeWhile isPart = (x :: r).takeWhile isPart := takeWhile_stop (stops_part hc) t (x :: r)
 have e2 : (x :: (r ++ c :: t)).takeWhile isDig = (x :: r).takeWhile isDig := takeWhile_stop (stops_dig hc) t (x :: r)
 have e3 : (x :: (r ++ c :: t)).dropWhile isDig = (x :: r).dropWhile isDig ++ c :: t := dropWhile_stop (stops_dig hc) t (x :: r)
 have e4 : restOk ((x :: r).dropWhile isDig ++ c :: t) = restOk ((x :: r).dropWhile isDig) := by
  cases (x :: r).dropWhile isDig with
  | nil => show (!isPart c) = true; rw [stops_part hc]; rfl
  | cons y l => rfl
 have e5 : (two x ≠ none ∧ (r ++ c :: t).head? = two x) ↔ (two x ≠ none ∧ r.head? = two x) := by
  cases r with
  | nil =>
   simp only [List.nil_append, List.head?_cons, List.head?_nil]
   constructor
   · rintro ⟨h1, h2⟩
     exfalso
     have : ∀ y, two x = some y → ¬ stops y := by
      intro y hy
      unfold two at hy
      intro hs
      repeat' (split at hy)
      all_goals first | (simp only [Option.some.injEq] at hy; subst hy; rcases hs with h | h <;> exact absurd h (by decide)) | cases hy
     exact this c h2.symm hc
   · rintro ⟨h1, h2⟩; exact absurd h2.symm h1
  | cons y r => rfl
 rw [wordM_cons, wordM_cons, e1, e2, e3, e4]
 simp only [e5]
theorem mem_tw {p : UInt8 → Bool} {y : UInt8} : ∀ {s : List UInt8}, y ∈ s.takeWhile p → p y = true
 | [], h => by cases h
 | x :: r, h => by
  rw [List.takeWhile_cons] at h
  split at h
  · rename_i hx
    rcases List.mem_cons.1 h with rfl | h
    · exact hx
    · exact mem_tw h
  · cases h
theorem toks_app (t : List UInt8) : ∀ (n : Nat) (s : List UInt8) (line : Int), s.length + 1 + t.length ≤ n →
  toks num n (s ++ 10 :: t) line = match toks num n s line with
   | .error l => .error l
   | .ok a => match toks num n t (line + nls s + 1) with
    | .error l => .error l
    | .ok b => .ok (a ++ b) := by
 intro n
 induction n with
 | zero => intro s line h; omega
 | succ n ih =>
  intro s line h
  cases s with
  | nil =>
   simp only [List.length_nil] at h
   rw [List.nil_append, toks_nil]
   rw [show toks num (n + 1) (10 :: t) line = toks num n t (line + 1) by rw [toks, if_pos rfl]]
   simp only
   rw [show line + nls [] + 1 = line + 1 by simp [nls], toks_fuel n (n + 1) t (line + 1) (by omega) (by omega)]
   cases toks num (n + 1) t (line + 1) <;> rfl
  | cons x r =>
   simp only [List.length_cons] at h
   rw [List.cons_append, toks, toks]
   by_cases h1 : x = 10
   · subst h1
     rw [if_pos rfl, if_pos rfl, ih r (line + 1) (by omega)]
     have : line + 1 + nls r + 1 = line + nls (10 :: r) + 1 := by simp [nls]; omega
     rw [this, toks_fuel n (n + 1) t _ (by omega) (by omega)]
   · rw [if_neg h1, if_neg h1]
     have hn : nls (x :: r) = nls r := by simp [nls, h1]
     by_cases h2 : x = 32
     · rw [if_pos h2, if_pos h2, ih r line (by omega), hn, toks_fuel n (n + 1) t _ (by omega) (by omega)]
     · rw [if_neg h2, if_neg h2, wordM_stop (.inl rfl)]
       cases hw : wordM num (x :: r) with
       | none => rfl
       | some k =>
        obtain ⟨k1, k2⟩ := wordM_pos hw
        simp only
        have d1 : (x :: (r ++ 10 :: t)).drop k = (x :: r).drop k ++ 10 :: t := by
         rw [← List.cons_append, List.drop_append_of_le_length k2]
        have d2 : (x :: (r ++ 10 :: t)).take k = (x :: r).take k := by
         rw [← List.cons_append, List.take_append_of_le_length k2]
        rw [d1, d2, ih ((x :: r).drop k) line (by rw [List.length_drop, List.length_cons]; omega)]
        have hk : ∀ y ∈ (x :: r).take k, y ≠ 10 := by
         intro y hy e
         subst e
         rw [wordM_cons] at hw
         have tk : ∀ p : UInt8 → Bool, p 10 = false → 10 ∈ (x :: r).take ((x :: r).takeWhile p).length → False := by
          intro p hp hm
          rw [List.prefix_iff_eq_take.1 (List.takeWhile_prefix p) |>.symm] at hm
          have := mem_tw hm
          rw [hp] at this; cases this
         split at hw
         · split at hw
           · cases hw
           · simp only [Option.some.injEq] at hw; subst hw; exact tk isPart rfl hy
         · split at hw
           · split at hw
             · simp only [Option.some.injEq] at hw; subst hw; exact tk isDig rfl hy
             · cases hw
           · split at hw
             · rename_i ht
               simp only [Option.some.injEq] at hw; subst hw
               cases r with
               | nil => simp at hy; exact h1 hy.symm
               | cons z r =>
                simp only [List.head?_cons] at ht
                simp only [List.take_succ_cons, List.take_zero, List.mem_cons, List.not_mem_nil, or_false] at hy
                rcases hy with hy | hy
                · exact h1 hy.symm
                · subst hy
                  have := ht.2
                  unfold two at this
                  repeat' (split at this)
                  all_goals cases this
             · split at hw
               · simp only [Option.some.injEq] at hw; subst hw
                 simp at hy
                 exact h1 hy.symm
               · cases hw
        have hnl : nls ((x :: r).drop k) = nls (x :: r) := by
         unfold nls
         have e : (x :: r).countP (· == 10) = ((x :: r).take k ++ (x :: r).drop k).countP (· == 10) := by rw [List.take_append_drop]
         rw [e, List.countP_append]
         have : ((x :: r).take k).countP (· == 10) = 0 := by
          rw [List.countP_eq_zero]
          intro y hy
          simpa using hk y hy
         omega
        rw [hnl, toks_fuel n (n + 1) t _ (by omega) (by omega)]
        cases toks num n ((x :: r).drop k) line with
        | error l => rfl
        | ok a =>
         simp only
         cases toks num (n + 1) t (line + nls (x :: r) + 1) with
         | error l => rfl
         | ok b => rfl
def WOK (num : List UInt8 → Bool) (w : List UInt8) : Prop := 1 ≤ w.length ∧ w.length ≤ 20 ∧ ∃ x l, w = x :: l ∧ x ≠ 10 ∧ x ≠ 32 ∧ wordM num (x :: l) = some (x :: l).length
theorem takeWhile_self (p : UInt8 → Bool) : ∀ s : List UInt8, (s.takeWhile p).takeWhile p = s.takeWhile p
 | [] => rfl
 | x :: r => by
  rw [List.takeWhile_cons]
  split
  · rename_i h; rw [List.takeWhile_cons, if_pos h, takeWhile_self p r]
  · rfl
theorem dropWhile_self (p : UInt8 → Bool) : ∀ s : List UInt8, (s.takeWhile p).dropWhile p = []
 | [] => rfl
 | x :: r => by
  rw [List.takeWhile_cons]
  split
  · rename_i h; rw [List.dropWhile_cons, if_pos h, dropWhile_self p r]
  · rfl
theorem wordM_self (hnum : ∀ w, num w = true → ¬ (1 < w.length ∧ w.head? = some 48) → w.length ≤ 20) {x : UInt8} {r : List UInt8} {k : Nat} (h : wordM num (x :: r) = some k) (h1 : x ≠ 10) (h2 : x ≠ 32) : WOK num ((x :: r).take k) := by
 obtain ⟨k1, k2⟩ := wordM_pos h
 have tk : ∀ p : UInt8 → Bool, (x :: r).take ((x :: r).takeWhile p).length = (x :: r).takeWhile p := fun p => (List.prefix_iff_eq_take.1 (List.takeWhile_prefix p)).symm
 rw [wordM_cons] at h
 split at h
 · rename_i hx
   have hp : isPart x = true := by simp [isPart, hx]
   split at h
   · cases h
   · rename_i hle
     simp only [Option.some.injEq] at h; subst h
     rw [tk]
     have e : (x :: r).takeWhile isPart = x :: r.takeWhile isPart := by rw [List.takeWhile_cons, if_pos hp]
     refine ⟨k1, by omega, x, _, e, h1, h2, ?_⟩
     rw [wordM_cons, if_pos hx, ← e, takeWhile_self, if_neg hle]
 · rename_i hx
   split at h
   · rename_i hd
     split at h
     · rename_i hc
       simp only [Option.some.injEq] at h; subst h
       rw [tk]
       have e : (x :: r).takeWhile isDig = x :: r.takeWhile isDig := by rw [List.takeWhile_cons, if_pos hd]
       refine ⟨k1, hnum _ hc.1.1 ?_, x, _, e, h1, h2, ?_⟩
       · have := hc.1.2
         rw [e] at this ⊢
         simpa using this
       · rw [wordM_cons, if_neg hx, if_pos hd, ← e, takeWhile_self, dropWhile_self, if_pos ⟨hc.1, rfl⟩]
     · cases h
   · rename_i hd
     split at h
     · rename_i ht
       simp only [Option.some.injEq] at h; subst h
       cases r with
       | nil => simp at k2
       | cons y r =>
        refine ⟨by simp, by simp, x, [y], by simp, h1, h2, ?_⟩
        rw [wordM_cons, if_neg hx, if_neg hd, if_pos ⟨ht.1, by simpa using ht.2⟩]; rfl
     · split at h
       · rename_i ht hs
         simp only [Option.some.injEq] at h; subst h
         refine ⟨by simp, by simp, x, [], by simp, h1, h2, ?_⟩
         rw [wordM_cons, if_neg hx, if_neg hd, if_neg (fun y => y.1 (by simpa using y.2.symm)), if_pos hs]; rfl
       · cases h
theorem toks_wok (hnum : ∀ w, num w = true → ¬ (1 < w.length ∧ w.head? = some 48) → w.length ≤ 20) : ∀ (n : Nat) (s : List UInt8) (line : Int) (ws : List (List UInt8 × Int)), toks num n s line = .ok ws → ∀ w ∈ ws, WOK num w.1 := by
 intro n
 induction n with
 | zero => intro s line ws h w hw; rw [toks] at h; cases h; cases hw
 | succ n ih =>
  intro s line ws h w hw
  cases s with
  | nil => rw [toks] at h; cases h; cases hw
  | cons x r =>
   rw [toks] at h
   split at h
   · exact ih _ _ _ h w hw
   · split at h
     · exact ih _ _ _ h w hw
     · rename_i h1 h2
       cases hk : wordM num (x :: r) with
       | none => rw [hk] at h; cases h
       | some k =>
        rw [hk] at h
        simp only at h
        cases ht : toks num n ((x :: r).drop k) line with
        | error l => rw [ht] at h; cases h
        | ok a =>
         rw [ht] at h
         cases h
         rcases List.mem_cons.1 hw with rfl | hw
         · exact wordM_self hnum hk h1 h2
         · exact ih _ _ _ ht w hw
def blanks (ws : List (List UInt8)) : List UInt8 := ws.flatMap fun w => w ++ [32]
theorem toks_back : ∀ (ws : List (List UInt8)) (n : Nat) (line : Int), (∀ w ∈ ws, WOK num w) → (blanks ws).length ≤ n → toks num n (blanks ws) line = .ok (ws.map fun w => (w, line))
 | [], n, line, _, _ => toks_nil n line
 | w :: r, n, line, h, hn => by
  obtain ⟨g1, g2, x, l, rfl, h1, h2, hw⟩ := h w (by simp)
  have e : blanks ((x :: l) :: r) = x :: (l ++ 32 :: blanks r) := by simp [blanks]
  rw [e] at hn ⊢
  simp only [List.length_cons, List.length_append] at hn
  cases n with
  | zero => omega
  | succ n =>
   rw [toks, if_neg h1, if_neg h2, wordM_stop (.inr rfl), hw]
   simp only
   have d1 : (x :: (l ++ 32 :: blanks r)).drop (x :: l).length = 32 :: blanks r := by
    rw [← List.cons_append, List.drop_left]
   have d2 : (x :: (l ++ 32 :: blanks r)).take (x :: l).length = x :: l := by
    rw [← List.cons_append, List.take_left]
   rw [d1, d2]
   cases n with
   | zero => omega
   | succ n =>
    rw [toks, if_neg (by decide), if_pos rfl, toks_back r n line (fun w hw => h w (by simp [hw])) (by omega)]
    rfl
theorem blanks_len : ∀ (ws : List (List UInt8)), (∀ w ∈ ws, WOK num w) → (blanks ws).length ≤ ws.length * 21
 | [], _ => by simp [blanks]
 | w :: r, h => by
  have := blanks_len r fun w hw => h w (by simp [hw])
  have h1 := (h w (by simp)).2.1
  have e : (blanks (w :: r)).length = w.length + 1 + (blanks r).length := by
   show ((w ++ [32]) ++ blanks r).length = _
   rw [List.length_append, List.length_append]; rfl
  rw [e, List.length_cons]
  omega
end
end Rb

set_option linter.unusedVariables false
set_option linter.unusedSimpArgs false
namespace Rb
open Go
theorem str_eql (s t : List UInt8) : abin .eql (.str s) (.str t) = some (.bool (s == t)) := rfl
theorem str_neq (s t : List UInt8) : abin .neq (.str s) (.str t) = some (.bool (!(s == t))) := rfl
theorem Lst.app2 {H0 H : AH} {sz bytes len m : Nat} {x y : AV} {cells news : List AV} {K : Post} (h : Lst H0 H sz x len cells) (hy : acells H sz y = some (m, news)) (hn : news.length = m * sz) (hs : news.all AV.scalar = true) (hm : m ≠ 0)
  (hb : (len + m) * bytes ≤ 140737488355328) (hl : len + m ≤ 9223372036854775807) (hK : ∀ x' H', Lst H0 H' sz x' (len + m) (cells ++ news) → (∀ i o, At H i o → (∀ a b, o ≠ .tok a b) → At H' i o) → K x' H') : DoH (aappend H false sz bytes x y) K := by
 obtain ⟨hx, tk, rfl, hc, htk⟩ := h
 have hlen : (cells ++ news).length = (len + m) * sz := by simp [hc, hn, Nat.add_mul]
 rcases htk with ⟨rfl, rfl⟩ | ⟨t, rfl, h1, h2, h3⟩
 · refine ⟨.lst (.own H.n) (0 + m) (cells ++ news), H.push (.tok ((0 + m) * sz) sz), ?_, hK _ _ ⟨hx.trans (AH.Ext.push _ _), _, rfl, hlen, .inr ⟨H.n, rfl, hx.1, Nat.lt_succ_self _, AH.push_self _ _⟩⟩ fun i o ho _ => ho.push _⟩
   simp only [aappend, hy, hs, not_true_eq_false, if_false, if_neg hm]
   rw [if_neg (by simp only [Decidable.not_not]; exact ⟨hc, hb, hl⟩)]
 · refine ⟨.lst (.own H.n) (len + m) (cells ++ news), (H.set t .gone).push (.tok ((len + m) * sz) sz), ?_, hK _ _ ⟨(hx.set h1 _).trans (AH.Ext.push _ _), _, rfl, hlen, .inr ⟨H.n, rfl, hx.1, Nat.lt_succ_self _, AH.push_self _ _⟩⟩ fun i o ho hno => ?_⟩
   · simp only [aappend, hy, hs, not_true_eq_false, if_false, if_neg hm]
     rw [if_neg (by simp only [Decidable.not_not]; exact ⟨hc, hb, hl⟩)]
     simp [h3]
   · exact (ho.set_ne (fun e => by subst e; rw [ho.2] at h3; exact hno _ _ h3) _).push _
theorem Lst.oth {H0 H : AH} {sz len : Nat} {x : AV} {cells : List AV} (h : Lst H0 H sz x len cells) {id : Nat} {cs : List AV} (ha : At H id (.row cs)) (hid : H0.n ≤ id) (y : AObj) : Lst H0 (H.set id y) sz x len cells := by
 obtain ⟨hx, tk, rfl, hc, htk⟩ := h
 refine ⟨hx.set hid y, tk, rfl, hc, ?_⟩
 rcases htk with h | ⟨t, rfl, h1, h2, h3⟩
 · exact .inl h
 · exact .inr ⟨t, rfl, h1, h2, by rw [AH.set_ne _ _ (fun e => by subst e; rw [ha.2] at h3; cases h3)]; exact h3⟩
theorem Lst.psh {H0 H : AH} {sz len : Nat} {x : AV} {cells : List AV} (h : Lst H0 H sz x len cells) (y : AObj) : Lst H0 (H.push y) sz x len cells := by
 obtain ⟨hx, tk, rfl, hc, htk⟩ := h
 refine ⟨hx.trans (AH.Ext.push _ _), tk, rfl, hc, ?_⟩
 rcases htk with h | ⟨t, rfl, h1, h2, h3⟩
 · exact .inl h
 · exact .inr ⟨t, rfl, h1, Nat.lt_succ_of_lt h2, by rw [AH.push_ne _ _ (by omega)]; exact h3⟩
end Rb

set_option linter.unusedVariables false
set_option linter.unusedSimpArgs false
set_option linter.unusedSectionVars false
namespace Rb
open Go
def tokC (w : List UInt8 × Int) : List AV := [.str w.1, .int .i64 w.2]
theorem tokC_len (w : List UInt8 × Int) : (tokC w).length = 2 := rfl
def SCN (H0 H : AH) (id : Nat) (s : List UInt8) (a : Nat) (line : Int) (ws : List (List UInt8 × Int)) : Prop :=
 H0.n ≤ id ∧ ∃ x, At H id (.row [.str s, .int .i64 a, .int .i64 line, x]) ∧ Lst H0 H 2 x ws.length (ws.flatMap tokC) ∧ (ws = [] → x = .lst .nil 0 [])
def NumS (Φ : Calls') (num : List UInt8 → Bool) : Prop :=
 ∀ (w : List UInt8) (H : AH) (Q : Post), w.length ≤ 1048576 → (num w = true → ∀ u, Q (.tup [.int .u64 u, .nilif]) H) → (num w = false → ∀ u T, Q (.tup [.int .u64 u, .iface T .bot]) H) → Φ K.strconv_ParseUint [.str w, .int .i64 10, .int .i64 64] H Q
def IdxS (Φ : Calls') : Prop := ∀ (c : UInt8) (H : AH) (Q : Post), (∀ z : Int, (z < 0 ↔ sgn1.contains c = false) → Q (.int .i64 z) H) → Φ K.internal_stringslite_IndexByte [.str sgn1, .int .u8 c.toNat] H Q
section
variable {Φ : Calls'} {H H0 : AH} {Q : Post} {id : Nat} {s : List UInt8} {a : Nat} {line : Int} {ws : List (List UInt8 × Int)}
theorem lex_letter_spec {c : UInt8} (hQ : Q (.bool (isLet c)) H) : S.lex_letter Φ (.int .u8 c.toNat) H Q := by
 have fin : ∀ b : Bool, b = isLet c → Q (.bool b) H := fun b h => by rw [h]; exact hQ
 simp only [S.lex_letter, abin_geq, abin_leq, Do_of, Gd3_true]
 refine ite_both (fun h => fin _ ?_) (fun h => fin _ ?_)
 · have h' : 97 ≤ c.toNat := by simp only [ge_iff_le, decide_eq_true_eq] at h; omega
   rw [Bool.eq_iff_iff]; simp [isLet, h']; omega
 · have h' : ¬ 97 ≤ c.toNat := by simp only [ge_iff_le, decide_eq_true_eq] at h; omega
   simp [isLet, h']
theorem lex_digit_spec {c : UInt8} (hQ : Q (.bool (isDig c)) H) : S.lex_digit Φ (.int .u8 c.toNat) H Q := by
 have fin : ∀ b : Bool, b = isDig c → Q (.bool b) H := fun b h => by rw [h]; exact hQ
 simp only [S.lex_digit, abin_geq, abin_leq, Do_of, Gd3_true]
 refine ite_both (fun h => fin _ ?_) (fun h => fin _ ?_)
 · have h' : 48 ≤ c.toNat := by simp only [ge_iff_le, decide_eq_true_eq] at h; omega
   rw [Bool.eq_iff_iff]; simp [isDig, h']; omega
 · have h' : ¬ 48 ≤ c.toNat := by simp only [ge_iff_le, decide_eq_true_eq] at h; omega
   simp [isDig, h']
theorem lex_part_spec (hT : Cl Φ S.tab_Lex) {c : UInt8} (hQ : Q (.bool (isPart c)) H) : S.lex_part Φ (.int .u8 c.toNat) H Q := by
 have fin : ∀ b : Bool, b = isPart c → Q (.bool b) H := fun b h => by rw [h]; exact hQ
 unfold S.lex_part
 refine S.cl_lex_letter hT (lex_letter_spec ?_)
 have k1 : ∀ b : Bool, (b || decide (c.toNat = 95)) = isPart c → JoinP (S.lex_part_k1 Φ (.int .u8 c.toNat) Q) [.bool b] H := by
  intro b hb
  simp only [JoinP_def, S.lex_part_k1, sl_zero, Gd3_false, abin_eql, Do_of]
  cases b
  · refine fin _ ?_
    rw [← hb, Bool.false_or, Bool.eq_iff_iff]; simp; omega
  · exact fin _ (by rw [← hb]; rfl)
 simp only [Gd3_false]
 refine ite_both (fun h => ?_) (fun h => ?_)
 · refine S.cl_lex_digit hT (lex_digit_spec ?_)
   exact k1 _ (by simp [isPart, h])
 · exact k1 _ (by simp [isPart] at h ⊢; simp [h])
theorem SCN.l0 (h : SCN H0 H id s a line ws) : aload H 1 false (.ptr id 0) = some (.str s) := by obtain ⟨_, x, h, _⟩ := h; rw [h.load]; rfl
theorem SCN.l1 (h : SCN H0 H id s a line ws) : aload H 1 false (.ptr id 1) = some (.int .i64 a) := by obtain ⟨_, x, h, _⟩ := h; rw [h.load]; rfl
theorem SCN.l2 (h : SCN H0 H id s a line ws) : aload H 1 false (.ptr id 2) = some (.int .i64 line) := by obtain ⟨_, x, h, _⟩ := h; rw [h.load]; rfl
theorem lex_run_spec (hT : Cl Φ S.tab_Lex) {p : UInt8 → Bool} {key : Nat} (hkey : bkey key = none) (hp : ∀ (c : UInt8) (R : Post), R (.bool (p c)) H → Φ key [.int .u8 c.toNat] H R) (h : SCN H0 H id s a line ws) (ha : a ≤ s.length) (hl : s.length ≤ 1048576)
  (hQ : Q (.int .i64 (((s.drop a).takeWhile p).length : Nat)) H) : Φ K.lex_scanner_run [.ptr id 0, .fn key []] H Q := by
 refine S.cl_lex_scanner_run hT ?_
 unfold S.lex_scanner_run
 simp only [anilck, afaddr, Do_of, Nat.zero_add, h.l1]
 have main : ∀ (ys : List UInt8) (n : Nat), s.drop n = ys → a ≤ n → n ≤ s.length → n - a + (ys.takeWhile p).length = ((s.drop a).takeWhile p).length → LoopP (S.lex_scanner_run_l4 Φ (.ptr id 0) (.fn key []) Q) ([.int .i64 n], H) := by
  intro ys
  induction ys with
  | nil =>
   intro n hd hn hn2 he
   have hle := drop_nil_le hd
   refine LoopP.step ?_
   simp only [S.lex_scanner_run_l4, sl_zero, anilck, afaddr, Do_of, Nat.zero_add, Nat.add_zero, h.l0, alen_str, abin_lss, Gd3_true]
   rw [if_neg (by simp only [decide_eq_true_eq]; omega)]
   simp only [JoinP_def, S.lex_scanner_run_k3, sl_zero, Gd_true, Bool.false_eq_true, if_false, S.lex_scanner_run_k2, anilck, afaddr, Do_of, Nat.zero_add, h.l1, abin_sub]
   have e : IntKind.wrap .i64 ((n : Int) - a) = (((s.drop a).takeWhile p).length : Nat) := by
    simp at he
    rw [wrap_i64 (by omega) (by omega)]; omega
   rw [e]; exact hQ
  | cons y ys ih =>
   intro n hd hn hn2 he
   obtain ⟨hlt, hy, hd'⟩ := drop_cons_lt hd
   refine LoopP.step ?_
   simp only [S.lex_scanner_run_l4, sl_zero, anilck, afaddr, Do_of, Nat.zero_add, Nat.add_zero, h.l0, alen_str, abin_lss, Gd3_true]
   rw [if_pos (by simp only [decide_eq_true_eq]; omega)]
   have hx : aidxs (.str s) (.int .i64 n) = some (.int .u8 y.toNat) := by
    simp only [aidxs]; rw [if_pos (by omega)]; simp [hy]
   rw [hx]
   simp only [Do_of]
   refine ⟨key, [], rfl, ?_⟩
   rw [fkey_none hkey, fargs_none hkey, List.append_nil]
   refine hp y _ ?_
   simp only [JoinP_def, S.lex_scanner_run_k3, sl_zero, Gd_true]
   rw [List.takeWhile_cons] at he
   refine ite_both (fun hpy => ?_) (fun hpy => ?_)
   · rw [if_pos hpy] at he
     simp only [S.lex_scanner_run_k1, sl_zero, abin_add, Do_of]
     rw [wrap_i64 (by omega) (by omega), show ((n : Int) + 1) = ((n + 1 : Nat) : Int) by simp]
     refine ih (n + 1) hd' (by omega) (by omega) ?_
     simp only [List.length_cons] at he
     omega
   · rw [if_neg hpy] at he
     simp only [S.lex_scanner_run_k2, anilck, afaddr, Do_of, Nat.zero_add, sl_zero, h.l1, abin_sub]
     have e : IntKind.wrap .i64 ((n : Int) - a) = (((s.drop a).takeWhile p).length : Nat) := by
      simp at he
      rw [wrap_i64 (by omega) (by omega)]; omega
     rw [e]; exact hQ
 exact main (s.drop a) a rfl (Nat.le_refl _) ha (by omega)
theorem sslice_str {lo hi : Nat} (h1 : lo ≤ hi) (h2 : hi ≤ s.length) : asslice (.str s) (some (.int .i64 lo)) (some (.int .i64 hi)) = some (.str ((s.take hi).drop lo)) := by
 simp only [asslice, abound]
 rw [if_pos (by omega), if_pos (by omega)]
 simp only
 rw [if_pos ⟨by omega, by omega⟩]
 simp
theorem sslice_end {lo : Nat} (h1 : lo ≤ s.length) : asslice (.str s) (some (.int .i64 lo)) none = some (.str (s.drop lo)) := by
 simp only [asslice, abound]
 rw [if_pos (by omega)]
 simp only
 rw [if_pos ⟨by omega, by omega⟩]
 simp
theorem lex_take_spec (hT : Cl Φ S.tab_Lex) {n : Nat} (h : SCN H0 H id s a line ws) (hn : a + n ≤ s.length) (hl : s.length ≤ 1048576) (hws : ws.length ≤ 1048576)
  (hQ : ∀ H', SCN H0 H' id s (a + n) line (ws ++ [((s.drop a).take n, line)]) → Q (.tup []) H') : Φ K.lex_scanner_take [.ptr id 0, .int .i64 n] H Q := by
 refine S.cl_lex_scanner_take hT ?_
 unfold S.lex_scanner_take
 obtain ⟨hid, x, hat, hlst, hz⟩ := h
 have h' : SCN H0 H id s a line ws := ⟨hid, x, hat, hlst, hz⟩
 have l3 : aload H 1 false (.ptr id 3) = some x := by rw [hat.load]; rfl
 simp only [anilck, afaddr, Do_of, Nat.zero_add, Nat.add_zero, l3, h'.l0, h'.l1, h'.l2, abin_add]
 have e1 : IntKind.wrap .i64 ((a : Int) + n) = ((a + n : Nat) : Int) := by rw [wrap_i64 (by omega) (by omega)]; simp
 rw [e1, sslice_str (by omega) hn]
 have e2 : (s.take (a + n)).drop a = (s.drop a).take n := by rw [List.drop_take]; congr 1; omega
 rw [e2]
 simp only [Do_of]
 rw [show abuild [.str [], .int .i64 0] [(0, 1, .str ((s.drop a).take n)), (1, 1, .int .i64 line)] = some (.agg [.str ((s.drop a).take n), .int .i64 line]) from rfl]
 simp only [Do_of]
 rw [show abslice H false 2 1 [.str [], .int .i64 0] [(0, 2, .agg [.str ((s.drop a).take n), .int .i64 line])] = some (.lst .full 1 [.str ((s.drop a).take n), .int .i64 line], H) from rfl]
 simp only [DoH_some]
 refine hlst.app2 (m := 1) (news := [.str ((s.drop a).take n), .int .i64 line]) rfl rfl rfl (by decide) (by omega) (by omega) fun x' H' hl' hkeep => ?_
 have hat' : At H' id (.row [.str s, .int .i64 a, .int .i64 line, x]) := hkeep id _ hat (fun _ _ => by intro e; cases e)
 have kn : x'.known = true ∧ x'.cells = [x'] ∧ x'.scalar = true := by
  obtain ⟨_, tk, rfl, _⟩ := hl'
  exact ⟨rfl, rfl, rfl⟩
 rw [hat'.store, if_pos ⟨kn.1, by rw [kn.2.1]; rfl, by rw [kn.2.1]; simp [kn.2.2], by simp⟩, kn.2.1]
 simp only [Do_of]
 have e3 : setCells [AV.str s, .int .i64 a, .int .i64 line, x] 3 [x'] = [.str s, .int .i64 a, .int .i64 line, x'] := rfl
 rw [e3]
 have hat2 : At (H'.set id (.row [.str s, .int .i64 a, .int .i64 line, x'])) id (.row [.str s, .int .i64 a, .int .i64 line, x']) := hat'.set _
 have hl2 := hl'.oth hat' hid (.row [.str s, .int .i64 a, .int .i64 line, x'])
 generalize H'.set id (.row [.str s, .int .i64 a, .int .i64 line, x']) = H2 at *
 have l1 : aload H2 1 false (.ptr id 1) = some (.int .i64 a) := by rw [hat2.load]; rfl
 simp only [l1, Do_of, abin_add]
 rw [e1, hat2.store, if_pos ⟨rfl, rfl, rfl, by simp⟩]
 simp only [Do_of]
 refine hQ _ ⟨hid, x', hat2.set _, ?_, fun e => by simp at e⟩
 have hl3 := hl2.oth hat2 hid (.row (setCells [AV.str s, .int .i64 a, .int .i64 line, x'] 1 (AV.int .i64 ((a + n : Nat) : Int)).cells))
 rw [List.length_append, List.length_singleton, List.flatMap_append, List.flatMap_cons, List.flatMap_nil, List.append_nil]
 exact hl3
theorem drop_tw (p : UInt8 → Bool) : ∀ l : List UInt8, l.drop (l.takeWhile p).length = l.dropWhile p
 | [] => rfl
 | x :: r => by
  rw [List.takeWhile_cons, List.dropWhile_cons]
  split
  · rw [List.length_cons, List.drop_succ_cons, drop_tw p r]
  · rfl
theorem lex_word_spec (hT : Cl Φ S.tab_Lex) {num : List UInt8 → Bool} {y : UInt8} {r : List UInt8} (h : SCN H0 H id s a line ws) (hd : s.drop a = y :: r) (hy : isLet y = true) (hl : s.length ≤ 1048576) (hws : ws.length ≤ 1048576)
  (hQ : ∀ H', (match wordM num (y :: r) with | none => SCN H0 H' id s a line ws → Q (.bool false) H' | some k => SCN H0 H' id s (a + k) line (ws ++ [((s.drop a).take k, line)]) → Q (.bool true) H')) : Φ K.lex_scanner_word [.ptr id 0] H Q := by
 refine S.cl_lex_scanner_word hT ?_
 unfold S.lex_scanner_word
 have hlt := (drop_cons_lt hd).1
 refine lex_run_spec hT (by rfl) (p := isPart) (fun c R hR => S.cl_lex_part hT (lex_part_spec hT hR)) h (by omega) hl ?_
 simp only [abin_gtr, Do_of, Gd_true]
 rw [wordM_cons, if_pos hy] at hQ
 rw [hd]
 have hk : ((y :: r).takeWhile isPart).length ≤ (y :: r).length := (List.takeWhile_prefix isPart).length_le
 have hlen : (y :: r).length = s.length - a := by rw [← hd, List.length_drop]
 refine ite_both (fun hg => ?_) (fun hg => ?_)
 · have hg' : 16 < ((y :: r).takeWhile isPart).length := by simp only [decide_eq_true_eq] at hg; omega
   rw [if_pos hg'] at hQ
   exact hQ H h
 · have hg' : ¬ 16 < ((y :: r).takeWhile isPart).length := by simp only [decide_eq_true_eq] at hg; omega
   rw [if_neg hg'] at hQ
   exact lex_take_spec hT h (by omega) hl hws fun H' h' => hQ H' h'
theorem lex_number_spec (hT : Cl Φ S.tab_Lex) {num : List UInt8 → Bool} (hnum : NumS Φ num) {y : UInt8} {r : List UInt8} (h : SCN H0 H id s a line ws) (hd : s.drop a = y :: r) (hy1 : isLet y = false) (hy : isDig y = true) (hl : s.length ≤ 1048576) (hws : ws.length ≤ 1048576)
  (hQ : ∀ H', (match wordM num (y :: r) with | none => SCN H0 H' id s a line ws → Q (.bool false) H' | some k => SCN H0 H' id s (a + k) line (ws ++ [((s.drop a).take k, line)]) → Q (.bool true) H')) : Φ K.lex_scanner_number [.ptr id 0] H Q := by
 refine S.cl_lex_scanner_number hT ?_
 unfold S.lex_scanner_number
 have hlt := (drop_cons_lt hd).1
 refine lex_run_spec hT (by rfl) (p := isDig) (fun c R hR => S.cl_lex_digit hT (lex_digit_spec hR)) h (by omega) hl ?_
 rw [wordM_cons, if_neg (by rw [hy1]; decide), if_pos hy] at hQ
 rw [hd]
 have hk : ((y :: r).takeWhile isDig).length ≤ (y :: r).length := (List.takeWhile_prefix isDig).length_le
 have hk1 : 1 ≤ ((y :: r).takeWhile isDig).length := by rw [List.takeWhile_cons, if_pos hy]; simp
 have hlen : (y :: r).length = s.length - a := by rw [← hd, List.length_drop]
 have hw : (s.take (a + ((y :: r).takeWhile isDig).length)).drop a = (y :: r).takeWhile isDig := by
  rw [List.drop_take, hd, show a + ((y :: r).takeWhile isDig).length - a = ((y :: r).takeWhile isDig).length by omega]
  exact (List.prefix_iff_eq_take.1 (List.takeWhile_prefix isDig)).symm
 have hrest : s.drop (a + ((y :: r).takeWhile isDig).length) = (y :: r).dropWhile isDig := by
  rw [← List.drop_drop, hd]
  exact drop_tw isDig _
 have hfirst : ∃ l, (y :: r).takeWhile isDig = y :: l := ⟨_, by rw [List.takeWhile_cons, if_pos hy]⟩
 generalize hW : (y :: r).takeWhile isDig = W at *
 simp only [anilck, afaddr, Do_of, Nat.zero_add, Nat.add_zero, h.l0, h.l1, abin_add]
 have e1 : IntKind.wrap .i64 ((a : Int) + W.length) = ((a + W.length : Nat) : Int) := by rw [wrap_i64 (by omega) (by omega)]; simp
 rw [e1, sslice_str (by omega) (by omega), hw]
 simp only [Do_of]
 have k3 : num W = true → ¬ (1 < W.length ∧ y = 48) → JoinP (S.lex_scanner_number_k3 Φ (.ptr id 0) (.int .i64 W.length) Q) [] H := by
  intro n1 n2
  simp only [JoinP_def, S.lex_scanner_number_k3, anilck, afaddr, Do_of, Nat.zero_add, Nat.add_zero, h.l0, h.l1, abin_add]
  rw [e1, sslice_end (by omega), hrest]
  simp only [Do_of, str_neq, Gd3_true]
  have k2 : ∀ b : Bool, b = !restOk ((y :: r).dropWhile isDig) → JoinP (S.lex_scanner_number_k2 Φ (.ptr id 0) (.int .i64 W.length) Q) [.bool b] H := by
   intro b hb
   simp only [JoinP_def, S.lex_scanner_number_k2, sl_zero, Gd_true]
   refine ite_both (fun hx => ?_) (fun hx => ?_)
   · have hr : restOk ((y :: r).dropWhile isDig) = false := by rw [hx] at hb; simpa using hb.symm
     rw [if_neg (by rw [hr]; simp)] at hQ
     exact hQ H h
   · have hr : restOk ((y :: r).dropWhile isDig) = true := by simp only [Bool.not_eq_true] at hx; rw [hx] at hb; simpa using hb.symm
     rw [if_pos ⟨⟨n1, n2⟩, hr⟩] at hQ
     simp only [S.lex_scanner_number_k1]
     exact lex_take_spec hT h (by omega) hl hws fun H' h' => hQ H' h'
  cases hdw : (y :: r).dropWhile isDig with
  | nil =>
   rw [hdw] at k2
   rw [if_neg (by decide)]
   exact k2 _ rfl
  | cons z l =>
   rw [hdw] at k2
   rw [if_pos (by simp)]
   have hx : aidxs (.str (z :: l)) (.int .i64 0) = some (.int .u8 z.toNat) := by simp [aidxs]
   rw [hx]
   simp only [Do_of]
   refine S.cl_lex_part hT (lex_part_spec hT ?_)
   exact k2 _ (by simp [restOk])
 have k4 : ∀ b : Bool, (b = true ↔ (num W = false ∨ (1 < W.length ∧ y = 48))) → JoinP (S.lex_scanner_number_k4 Φ (.ptr id 0) (.int .i64 W.length) Q) [.bool b] H := by
  intro b hb
  simp only [JoinP_def, S.lex_scanner_number_k4, sl_zero, Gd_true]
  refine ite_both (fun hx => ?_) (fun hx => ?_)
  · have := hb.1 hx
    rw [if_neg (by rintro ⟨⟨h1, h2⟩, _⟩; rcases this with h | h; rw [h1] at h; cases h; exact h2 h)] at hQ
    exact hQ H h
  · have hn : ¬ (num W = false ∨ (1 < W.length ∧ y = 48)) := fun q => hx (hb.2 q)
    exact k3 (by simpa using fun q => hn (.inl q)) fun q => hn (.inr q)
 refine hnum W H _ (by omega) (fun hn u => ?_) (fun hn u T => ?_)
 · simp only [aextract, List.getElem?_cons_zero, List.getElem?_cons_succ, Do_of]
   rw [show anil .i true .nilif = some (.bool false) from rfl]
   simp only [Do_of, Gd3_false, if_true, abin_gtr, Gd3_true]
   refine ite_both (fun hx => ?_) (fun hx => ?_)
   · obtain ⟨l, hWl⟩ := hfirst
     have hx0 : aidxs (.str W) (.int .i64 0) = some (.int .u8 y.toNat) := by rw [hWl]; simp [aidxs]
     rw [hx0]
     simp only [Do_of, abin_eql]
     refine k4 _ ?_
     have h1 : 1 < W.length := by simp only [decide_eq_true_eq] at hx; omega
     have hy48 : ((y.toNat : Int) == 48) = true ↔ y = 48 := by
      simp only [beq_iff_eq]
      constructor
      · intro e
        apply UInt8.toNat_inj.1
        show y.toNat = 48
        omega
      · rintro rfl; rfl
     rw [hy48]
     simp [hn, h1]
   · refine k4 _ ?_
     have h1 : ¬ 1 < W.length := by simp only [decide_eq_true_eq] at hx; omega
     simp [hn, h1]
 · simp only [aextract, List.getElem?_cons_zero, List.getElem?_cons_succ, Do_of]
   rw [show anil .i true (.iface T .bot) = some (.bool true) from rfl]
   simp only [Do_of, Gd3_false]
   rw [if_neg (by decide)]
   exact k4 _ (by simp [hn])
theorem HasPrefix_spec (hT : Cl Φ S.tab_Lex) {t p : List UInt8} (hQ : Q (.bool (decide (t.take p.length = p ∧ p.length ≤ t.length))) H) : Φ K.strings_HasPrefix [.str t, .str p] H Q := by
 have fin : ∀ b : Bool, b = decide (t.take p.length = p ∧ p.length ≤ t.length) → Q (.bool b) H := fun b h => by rw [h]; exact hQ
 refine S.cl_strings_HasPrefix hT ?_
 unfold S.strings_HasPrefix
 refine S.cl_internal_stringslite_HasPrefix hT ?_
 unfold S.internal_stringslite_HasPrefix
 simp only [alen_str, Do_of, abin_geq, Gd3_true]
 refine ite_both (fun h => ?_) (fun h => ?_)
 · have h' : p.length ≤ t.length := by simp only [ge_iff_le, decide_eq_true_eq] at h; omega
   have hs : asslice (.str t) none (some (.int .i64 p.length)) = some (.str (t.take p.length)) := by
    simp only [asslice, abound]
    rw [if_pos (by omega)]
    simp only
    rw [if_pos ⟨by omega, by omega⟩]
    simp
   rw [hs]
   simp only [Do_of, str_eql]
   refine fin _ ?_
   rw [Bool.eq_iff_iff]; simp [h']
 · refine fin _ ?_
   have h' : ¬ p.length ≤ t.length := by simp only [ge_iff_le, decide_eq_true_eq] at h; omega
   simp [h']
theorem lex_sign_spec (hT : Cl Φ S.tab_Lex) (hidx : IdxS Φ) {num : List UInt8 → Bool} {y : UInt8} {r : List UInt8} (h : SCN H0 H id s a line ws) (hd : s.drop a = y :: r) (hy1 : isLet y = false) (hy : isDig y = false) (hl : s.length ≤ 1048576) (hws : ws.length ≤ 1048576)
  (hQ : ∀ H', (match wordM num (y :: r) with | none => SCN H0 H' id s a line ws → Q (.bool false) H' | some k => SCN H0 H' id s (a + k) line (ws ++ [((s.drop a).take k, line)]) → Q (.bool true) H')) : Φ K.lex_scanner_sign [.ptr id 0] H Q := by
 refine S.cl_lex_scanner_sign hT ?_
 have hlt := (drop_cons_lt hd).1
 have hlen : (y :: r).length = s.length - a := by rw [← hd, List.length_drop]
 have hget := (drop_cons_lt hd).2.1
 rw [wordM_cons, if_neg (by rw [hy1]; decide), if_neg (by rw [hy]; decide)] at hQ
 unfold S.lex_scanner_sign
 rw [show abuild [.str [], .str [], .str [], .str []] [(0, 1, .str [60, 60]), (1, 1, .str [62, 62]), (2, 1, .str [61, 61]), (3, 1, .str [33, 61])] = some (.agg [.str [60, 60], .str [62, 62], .str [61, 61], .str [33, 61]]) from rfl]
 simp only [Do_of]
 have k1 : ¬ (two y ≠ none ∧ r.head? = two y) → JoinP (S.lex_scanner_sign_k1 Φ (.ptr id 0) Q) [] H := by
  intro hn
  rw [if_neg hn] at hQ
  simp only [JoinP_def, S.lex_scanner_sign_k1, anilck, afaddr, Do_of, Nat.zero_add, Nat.add_zero, h.l0, h.l1]
  have hx : aidxs (.str s) (.int .i64 a) = some (.int .u8 y.toNat) := by
   simp only [aidxs]; rw [if_pos (by omega)]; simp [hget]
  rw [hx]
  simp only [Do_of]
  refine S.cl_strings_IndexByte hT ?_
  unfold S.strings_IndexByte
  refine hidx y H _ fun z hz => ?_
  simp only [abin_lss, Do_of, Gd_true]
  refine ite_both (fun hx => ?_) (fun hx => ?_)
  · have hc : sgn1.contains y = false := hz.1 (by simpa using hx)
    rw [if_neg (by rw [hc]; decide)] at hQ
    exact hQ H h
  · have hc : sgn1.contains y = true := by
      cases hcc : sgn1.contains y with
      | true => rfl
      | false => exact absurd (hz.2 hcc) (by simpa using hx)
    rw [if_pos hc] at hQ
    refine lex_take_spec hT (n := 1) h (by simp at hlen; omega) hl hws fun H' h' => hQ H' h'
 have two_pre : ∀ (p q : UInt8) (b : Bool), b = decide ((y :: r).take 2 = [p, q] ∧ 2 ≤ (y :: r).length) → (b = true ↔ (y = p ∧ r.head? = some q)) := by
  intro p q b hb
  rw [hb]
  cases r with
  | nil => simp
  | cons z l => simp
 have step : ∀ (i : Nat) (p q : UInt8) (tl : Prop), i < 4 → aidx 4 1 false (.agg [.str [60, 60], .str [62, 62], .str [61, 61], .str [33, 61]]) (.int .i64 i) = some (.str [p, q]) → two p = some q →
   ((¬ (y = p ∧ r.head? = some q)) → LoopP (S.lex_scanner_sign_l2 Φ (.ptr id 0) (.agg [.str [60, 60], .str [62, 62], .str [61, 61], .str [33, 61]]) Q) ([.int .i64 ((i + 1 : Nat) : Int)], H)) →
   LoopP (S.lex_scanner_sign_l2 Φ (.ptr id 0) (.agg [.str [60, 60], .str [62, 62], .str [61, 61], .str [33, 61]]) Q) ([.int .i64 i], H) := by
  intro i p q _ hi hget2 htwo hnext
  refine LoopP.step ?_
  simp only [S.lex_scanner_sign_l2, sl_zero, abin_lss, Do_of, Gd_true]
  rw [if_pos (by simp only [decide_eq_true_eq]; omega), hget2]
  simp only [anilck, afaddr, Do_of, Nat.zero_add, Nat.add_zero, h.l0, h.l1]
  rw [sslice_end (by omega), hd]
  simp only [Do_of]
  refine HasPrefix_spec hT ?_
  have hb := two_pre p q _ rfl
  simp only [List.length_cons, List.length_nil, Nat.zero_add, Nat.reduceAdd, Gd_true]
  refine ite_both (fun hx => ?_) (fun hx => ?_)
  · obtain ⟨rfl, hr⟩ := hb.1 hx
    rw [if_pos ⟨by rw [htwo]; simp, by rw [htwo]; exact hr⟩] at hQ
    simp only [alen_str, Do_of, List.length_cons, List.length_nil, Nat.zero_add, Nat.reduceAdd]
    have h2 : 2 ≤ (y :: r).length := by
     cases r with
     | nil => cases hr
     | cons z l => simp
    exact lex_take_spec hT (n := 2) h (by omega) hl hws fun H' h' => hQ H' h'
  · simp only [abin_add, Do_of]
    rw [wrap_i64 (by omega) (by omega), show ((i : Int) + 1) = ((i + 1 : Nat) : Int) by simp]
    exact hnext fun q => hx (hb.2 q)
 refine step 0 60 60 True (by omega) rfl rfl fun n0 => ?_
 refine step 1 62 62 True (by omega) rfl rfl fun n1 => ?_
 refine step 2 61 61 True (by omega) rfl rfl fun n2 => ?_
 refine step 3 33 61 True (by omega) rfl rfl fun n3 => ?_
 refine LoopP.step ?_
 simp only [S.lex_scanner_sign_l2, sl_zero, abin_lss, Do_of, Gd_true]
 rw [if_neg (by decide)]
 refine k1 fun ⟨q1, q2⟩ => ?_
 unfold two at q1 q2
 split at q2
 · rename_i e; exact n0 ⟨e, q2⟩
 · split at q2
   · rename_i e; exact n1 ⟨e, q2⟩
   · split at q2
     · rename_i e; exact n2 ⟨e, q2⟩
     · split at q2
       · rename_i e; exact n3 ⟨e, q2⟩
       · rename_i e0 e1 e2 e3
         rw [if_neg e0, if_neg e1, if_neg e2, if_neg e3] at q1
         exact q1 rfl
end
end Rb

set_option linter.unusedVariables false
set_option linter.unusedSimpArgs false
set_option linter.unusedSectionVars false
namespace Rb
open Go
section
variable {Φ : Calls'} {H H0 : AH} {Q : Post} {id : Nat} {s : List UInt8} {a : Nat} {line : Int} {ws : List (List UInt8 × Int)}
theorem SCN.move (h : SCN H0 H id s a line ws) (a' : Nat) : ∃ H', astore H 1 (.ptr id 1) (.int .i64 (a' : Int)) = some H' ∧ SCN H0 H' id s a' line ws := by
 obtain ⟨hid, x, hat, hl, hz⟩ := h
 refine ⟨_, by rw [hat.store, if_pos ⟨rfl, rfl, rfl, by simp⟩]; rfl, hid, x, hat.set _, hl.oth hat hid _, hz⟩
theorem SCN.newline (h : SCN H0 H id s a line ws) (l' : Int) : ∃ H', astore H 1 (.ptr id 2) (.int .i64 l') = some H' ∧ SCN H0 H' id s a l' ws := by
 obtain ⟨hid, x, hat, hl, hz⟩ := h
 refine ⟨_, by rw [hat.store, if_pos ⟨rfl, rfl, rfl, by simp⟩]; rfl, hid, x, hat.set _, hl.oth hat hid _, hz⟩
theorem lex_next_spec (hT : Cl Φ S.tab_Lex) {num : List UInt8 → Bool} (hnum : NumS Φ num) (hidx : IdxS Φ) {y : UInt8} {r : List UInt8} (h : SCN H0 H id s a line ws) (hd : s.drop a = y :: r) (hl : s.length ≤ 1048576) (hws : ws.length ≤ 1048576) (hl0 : 0 ≤ line) (hl1 : line ≤ 2000000)
  (hQ : ∀ H', if y = 10 then (SCN H0 H' id s (a + 1) (line + 1) ws → Q (.bool true) H') else if y = 32 then (SCN H0 H' id s (a + 1) line ws → Q (.bool true) H')
    else (match wordM num (y :: r) with | none => SCN H0 H' id s a line ws → Q (.bool false) H' | some k => SCN H0 H' id s (a + k) line (ws ++ [((s.drop a).take k, line)]) → Q (.bool true) H')) : Φ K.lex_scanner_next [.ptr id 0] H Q := by
 refine S.cl_lex_scanner_next hT ?_
 have hlt := (drop_cons_lt hd).1
 have hget := (drop_cons_lt hd).2.1
 unfold S.lex_scanner_next
 simp only [anilck, afaddr, Do_of, Nat.zero_add, Nat.add_zero, h.l0, h.l1, h.l2, abin_add]
 have hx : aidxs (.str s) (.int .i64 a) = some (.int .u8 y.toNat) := by
  simp only [aidxs]; rw [if_pos (by omega)]; simp [hget]
 have e1 : IntKind.wrap .i64 ((a : Int) + 1) = ((a + 1 : Nat) : Int) := by rw [wrap_i64 (by omega) (by omega)]; simp
 have e2 : IntKind.wrap .i64 (line + 1) = line + 1 := wrap_i64 (by omega) (by omega)
 have hyn : ∀ n : Nat, n < 256 → (((y.toNat : Int) == (n : Int)) = true ↔ y = UInt8.ofNat n) := by
  intro n hn
  simp only [beq_iff_eq]
  constructor
  · intro e
    apply UInt8.toNat_inj.1
    rw [UInt8.toNat_ofNat']
    omega
  · rintro rfl
    rw [UInt8.toNat_ofNat']
    omega
 rw [hx]
 simp only [Do_of, abin_eql, Gd_true]
 refine ite_both (fun h10 => ?_) (fun h10 => ?_)
 · have hy : y = 10 := (hyn 10 (by omega)).1 h10
   rw [e2]
   obtain ⟨H1, q1, s1⟩ := h.newline (line + 1)
   rw [q1]
   simp only [Do_of, s1.l1, abin_add, e1]
   obtain ⟨H2, q2, s2⟩ := s1.move (a + 1)
   rw [q2]
   simp only [Do_of]
   have := hQ H2
   rw [if_pos hy] at this
   exact this s2
 · have hy10 : y ≠ 10 := fun e => h10 ((hyn 10 (by omega)).2 e)
   refine ite_both (fun h32 => ?_) (fun h32 => ?_)
   · have hy : y = 32 := (hyn 32 (by omega)).1 h32
     rw [e1]
     obtain ⟨H2, q2, s2⟩ := h.move (a + 1)
     rw [q2]
     simp only [Do_of]
     have := hQ H2
     rw [if_neg hy10, if_pos hy] at this
     exact this s2
   · have hy32 : y ≠ 32 := fun e => h32 ((hyn 32 (by omega)).2 e)
     have hQ' : ∀ H', (match wordM num (y :: r) with | none => SCN H0 H' id s a line ws → Q (.bool false) H' | some k => SCN H0 H' id s (a + k) line (ws ++ [((s.drop a).take k, line)]) → Q (.bool true) H') := fun H' => by
      have := hQ H'
      rw [if_neg hy10, if_neg hy32] at this
      exact this
     refine S.cl_lex_letter hT (lex_letter_spec ?_)
     simp only [Gd_true]
     refine ite_both (fun hlet => ?_) (fun hlet => ?_)
     · exact lex_word_spec hT h hd hlet hl hws hQ'
     · refine S.cl_lex_digit hT (lex_digit_spec ?_)
       simp only [Gd_true]
       refine ite_both (fun hdig => ?_) (fun hdig => ?_)
       · exact lex_number_spec hT hnum h hd (by simpa using hlet) hdig hl hws hQ'
       · exact lex_sign_spec hT hidx h hd (by simpa using hlet) (by simpa using hdig) hl hws hQ'
def lexM (num : List UInt8 → Bool) (s : List UInt8) : Except (Int × Int) (List (List UInt8 × Int)) :=
 if 1048576 < s.length then .error (0, 12) else match toks num s.length s 1 with
  | .ok ws => .ok ws
  | .error l => .error (l, 3)
def lexV : Except (Int × Int) (List (List UInt8 × Int)) → AV
 | .ok ws => .tup [lstA tokC ws, .agg [.int .i64 0, .int .i64 0]]
 | .error e => .tup [.lst .dead 0 [], .agg [.int .i64 e.1, .int .i64 e.2]]
def lexV2 : Except (Int × Int) (List (List UInt8 × Int)) → AV
 | .ok [] => .tup [.lst .nil 0 [], .agg [.int .i64 0, .int .i64 0]]
 | r => lexV r
theorem tokC_weak (ws : List (List UInt8 × Int)) : AV.weaks (ws.flatMap tokC) = ws.flatMap tokC := by
 rw [weaks_map]
 induction ws with
 | nil => rfl
 | cons w r ih => rw [List.flatMap_cons, List.map_append, ih]; rfl
theorem tokC_froz (w : List UInt8 × Int) : AV.frozs (tokC w) = true := rfl
theorem lexV_froz (r : Except (Int × Int) (List (List UInt8 × Int))) : (lexV r).froz = true := by
 cases r with
 | ok ws => simp only [lexV, AV.froz, AV.frozs, lstA_froz tokC_froz, Bool.and_self]
 | error e => rfl
theorem lex_Tokens_spec (hT : Cl Φ S.tab_Lex) {num : List UInt8 → Bool} (hnum : NumS Φ num) (hidx : IdxS Φ) (hQ : ∀ (v : AV) H', v.weak = lexV (lexM num s) → (lexM num s = .ok [] → v = .tup [.lst .nil 0 [], .agg [.int .i64 0, .int .i64 0]]) → Q v H') : S.lex_Tokens Φ (.str s) H Q := by
 unfold S.lex_Tokens
 simp only [abox, if_true, DoH_some, alen_str, Do_of, abin_gtr, Gd_true]
 have at1 := At.new H (.row [.int .i64 0, .int .i64 0])
 generalize H.push (.row [.int .i64 0, .int .i64 0]) = H2 at *
 generalize H.n = id1 at *
 have out : ∀ (x : AV) (p q : Int) (H1 : AH), At H1 id1 (.row [.int .i64 0, .int .i64 0]) → (AV.tup [x, .agg [.int .i64 p, .int .i64 q]]).weak = lexV (lexM num s) → (lexM num s = .ok [] → AV.tup [x, .agg [.int .i64 p, .int .i64 q]] = .tup [.lst .nil 0 [], .agg [.int .i64 0, .int .i64 0]]) → Do (astore H1 2 (.ptr id1 0) (.agg [.int .i64 p, .int .i64 q])) fun H33 => Do (aload H33 2 true (.ptr id1 0)) fun x34 => Q (.tup [x, x34]) H33 := by
  intro x p q H1 ha he hz
  rw [ha.store, if_pos ⟨rfl, rfl, rfl, by simp [AV.cells]⟩]
  simp only [Do_of]
  rw [(ha.set _).load]
  rw [show takeCells (setCells [AV.int .i64 0, .int .i64 0] 0 (AV.agg [.int .i64 p, .int .i64 q]).cells) 0 2 true = some (.agg [.int .i64 p, .int .i64 q]) from rfl]
  simp only [Do_of]
  exact hQ _ _ he hz
 refine ite_both (fun hg => ?_) (fun hg => ?_)
 · have hg' : 1048576 < s.length := by simp only [decide_eq_true_eq] at hg; omega
   rw [show abuild [.int .i64 0, .int .i64 0] [(1, 1, .int .i64 12)] = some (.agg [.int .i64 0, .int .i64 12]) from rfl]
   simp only [Do_of]
   refine out _ 0 12 H2 at1 ?_ ?_
   · unfold lexM
     rw [if_pos hg']; rfl
   · unfold lexM
     rw [if_pos hg']; intro e; cases e
 · have hl : s.length ≤ 1048576 := by simp only [decide_eq_true_eq] at hg; omega
   have hM : lexM num s = match toks num s.length s 1 with | .ok ws => .ok ws | .error l => .error (l, 3) := by unfold lexM; rw [if_neg (by omega)]
   rw [show abuild [.str [], .int .i64 0, .int .i64 0, .lst .nil 0 []] [(0, 1, .str s), (2, 1, .int .i64 1)] = some (.agg [.str s, .int .i64 0, .int .i64 1, .lst .nil 0 []]) from rfl]
   simp only [Do_of]
   have hb : aboxv H2 true 4 (.agg [.str s, .int .i64 0, .int .i64 1, .lst .nil 0 []]) = some (.ptr H2.n 0, H2.push (.row [.str s, .int .i64 0, .int .i64 1, .lst .nil 0 []])) := by unfold aboxv; rw [if_pos ⟨rfl, rfl⟩]; rfl
   rw [hb]
   simp only [DoH_some]
   have sc0 : SCN H2 (H2.push (.row [.str s, .int .i64 0, .int .i64 1, .lst .nil 0 []])) H2.n s 0 1 [] := ⟨Nat.le_refl _, .lst .nil 0 [], At.new H2 _, (Lst.nil H2 2).psh _, fun _ => rfl⟩
   generalize H2.push (.row [.str s, .int .i64 0, .int .i64 1, .lst .nil 0 []]) = H10 at *
   generalize hid : H2.n = id at *
   have keep1 : ∀ {H1 : AH} {a : Nat} {line : Int} {ws}, SCN H2 H1 id s a line ws → At H1 id1 (.row [.int .i64 0, .int .i64 0]) := fun h => by
    obtain ⟨_, x, _, hl, _⟩ := h
    exact at1.ext hl.1
   have main : ∀ (n a : Nat) (line : Int) (ws : List (List UInt8 × Int)) (H1 : AH), s.length - a ≤ n → a ≤ s.length → ws.length ≤ a → 1 ≤ line → line ≤ a + 1 → SCN H2 H1 id s a line ws →
     (match toks num n (s.drop a) line with | .error l => toks num s.length s 1 = .error l | .ok r => toks num s.length s 1 = .ok (ws ++ r)) →
     LoopP (S.lex_Tokens_l2 Φ (.str s) (.ptr id1 0) (.ptr id 0) Q) ([], H1) := by
    intro n
    induction n with
    | zero =>
     intro a line ws H1 hn ha hw hl1 hl2 hsc hfin
     have hd : s.drop a = [] := List.drop_eq_nil_of_le (by omega)
     rw [hd, toks_nil] at hfin
     simp only [List.append_nil] at hfin
     refine LoopP.step ?_
     simp only [S.lex_Tokens_l2, anilck, afaddr, Do_of, Nat.zero_add, hsc.l1, alen_str, abin_lss, Gd_true]
     rw [if_neg (by simp only [decide_eq_true_eq]; omega)]
     simp only [JoinP_def, S.lex_Tokens_k1, anilck, afaddr, Do_of, Nat.zero_add]
     obtain ⟨hid', x, hat, hlst, hz⟩ := hsc
     have l3 : aload H1 1 false (.ptr id 3) = some x := by rw [hat.load]; rfl
     rw [l3]
     simp only [Do_of]
     rw [show abuild [.int .i64 0, .int .i64 0] [] = some (.agg [.int .i64 0, .int .i64 0]) from rfl]
     simp only [Do_of]
     refine out x 0 0 H1 (at1.ext hlst.1) ?_ ?_
     · rw [hM, hfin]
       obtain ⟨_, tk, rfl, _⟩ := hlst
       simp only [AV.weak, AV.weaks, tokC_weak, lexV, lstA]
     · rw [hM, hfin]
       intro e
       rw [hz (by injection e)]
    | succ n ih =>
     intro a line ws H1 hn ha hw hl1 hl2 hsc hfin
     by_cases hend : a = s.length
     · have hd : s.drop a = [] := List.drop_eq_nil_of_le (by omega)
       rw [hd, toks_nil] at hfin
       refine ih a line ws H1 (by omega) ha hw hl1 hl2 hsc ?_
       rw [hd, toks_nil]; exact hfin
     · have hlt : a < s.length := by omega
       obtain ⟨y, r, hd⟩ : ∃ y r, s.drop a = y :: r := by
        cases hc : s.drop a with
        | nil => rw [List.drop_eq_nil_iff] at hc; omega
        | cons y r => exact ⟨y, r, rfl⟩
       have hd' := (drop_cons_lt hd).2.2
       have hrl : r.length = s.length - (a + 1) := by rw [← hd', List.length_drop]
       rw [hd, toks] at hfin
       refine LoopP.step ?_
       simp only [S.lex_Tokens_l2, anilck, afaddr, Do_of, Nat.zero_add, hsc.l1, alen_str, abin_lss, Gd_true]
       rw [if_pos (by simp only [decide_eq_true_eq]; omega)]
       refine lex_next_spec hT hnum hidx hsc hd hl (by omega) (by omega) (by omega) fun H3 => ?_
       by_cases h10 : y = 10
       · rw [if_pos h10]
         rw [if_pos h10] at hfin
         intro s3
         simp only [aun_not, Do_of, Bool.not_true, Gd_true, Bool.false_eq_true, if_false]
         refine ih (a + 1) (line + 1) ws H3 (by omega) (by omega) (by omega) (by omega) (by omega) s3 ?_
         rw [hd']; exact hfin
       · rw [if_neg h10]
         rw [if_neg h10] at hfin
         by_cases h32 : y = 32
         · rw [if_pos h32]
           rw [if_pos h32] at hfin
           intro s3
           simp only [aun_not, Do_of, Bool.not_true, Gd_true, Bool.false_eq_true, if_false]
           refine ih (a + 1) line ws H3 (by omega) (by omega) (by omega) (by omega) (by omega) s3 ?_
           rw [hd']; exact hfin
         · rw [if_neg h32]
           rw [if_neg h32] at hfin
           cases hw2 : wordM num (y :: r) with
           | none =>
            rw [hw2] at hfin
            simp only at hfin
            intro s3
            simp only [aun_not, Do_of, Bool.not_false, Gd_true, if_true, anilck, afaddr, Nat.zero_add, s3.l2]
            rw [show abuild [.int .i64 0, .int .i64 0] [(0, 1, .int .i64 line), (1, 1, .int .i64 3)] = some (.agg [.int .i64 line, .int .i64 3]) from rfl]
            simp only [Do_of]
            refine out _ line 3 H3 (keep1 s3) ?_ ?_
            · rw [hM, hfin]; rfl
            · rw [hM, hfin]; intro e; cases e
           | some k =>
            rw [hw2] at hfin
            obtain ⟨k1, k2⟩ := wordM_pos hw2
            simp only [List.length_cons] at k2
            intro s3
            simp only [aun_not, Do_of, Bool.not_true, Gd_true, Bool.false_eq_true, if_false]
            refine ih (a + k) line _ H3 (by omega) (by omega) (by rw [List.length_append, List.length_singleton]; omega) hl1 (by omega) s3 ?_
            have hdk : s.drop (a + k) = (y :: r).drop k := by rw [← hd, List.drop_drop]
            rw [hdk, hd]
            simp only at hfin
            cases ht : toks num n ((y :: r).drop k) line with
            | error l => rw [ht] at hfin; exact hfin
            | ok r2 => rw [ht] at hfin; simp only at hfin ⊢; rw [hfin]; simp
   refine main s.length 0 1 [] H10 (by omega) (by omega) (by simp) (by omega) (by omega) sc0 ?_
   rw [List.drop_zero]
   cases toks num s.length s 1 with
   | error l => rfl
   | ok r => rfl
end
section
variable {C : Ctx} (hGT : GTok C) (hT : Cl (ACall C) S.tab_Lex) {num : List UInt8 → Bool} (hnum : NumS (ACall C) num) (hidx : IdxS (ACall C))
include hGT hT hnum hidx
theorem Tokens_val (s : List UInt8) : Val (ACall C) K.lex_Tokens [.str s] (lexV (lexM num s)) :=
 Val.of hGT rfl (lexV_froz _) fun Q hQ => ACall.weak (S.cl_lex_Tokens hT (lex_Tokens_spec hT hnum hidx fun v H' hv _ => by rw [hv]; exact hQ H'))
theorem Tokens_val2 (s : List UInt8) : Val (ACall C) K.lex_Tokens [.str s] (lexV2 (lexM num s)) := by
 cases h : lexM num s with
 | error e =>
  have := Tokens_val hGT hT hnum hidx s
  rw [h] at this; exact this
 | ok ws =>
  cases ws with
  | nil => exact Val.of hGT rfl rfl fun Q hQ => S.cl_lex_Tokens hT (lex_Tokens_spec hT hnum hidx fun v H' hv hz => by rw [hz h]; exact hQ H')
  | cons w r =>
   have := Tokens_val hGT hT hnum hidx s
   rw [h] at this; exact this
end
end Rb

set_option linter.unusedVariables false
set_option linter.unusedSimpArgs false
set_option linter.unusedSectionVars false
namespace Rb
open Go
section
variable {num : List UInt8 → Bool}
theorem lexM_err {s : List UInt8} {e : Int × Int} (h : lexM num s = .error e) : e.2 ≠ 0 := by
 unfold lexM at h
 split at h
 · cases h; decide
 · split at h
   · cases h
   · cases h; exact (by decide : (3 : Int) ≠ 0)
theorem lexM_small {s : List UInt8} (h : s.length ≤ 1048576) : lexM num s = match toks num s.length s 1 with | .ok ws => .ok ws | .error l => .error (l, 3) := by
 unfold lexM; rw [if_neg (by omega)]; all_goals (cases toks num s.length s 1 <;> rfl)
theorem lexM_ok {s : List UInt8} {ws : List (List UInt8 × Int)} (h : lexM num s = .ok ws) : toks num s.length s 1 = .ok ws := by
 unfold lexM at h
 split at h
 · cases h
 · split at h
   · rename_i h2; cases h; exact h2
   · cases h
theorem toks_lines : ∀ (n : Nat) (s : List UInt8) (line : Int) (ws : List (List UInt8 × Int)), toks num n s line = .ok ws → ∀ w ∈ ws, line ≤ w.2 ∧ w.2 ≤ line + s.length := by
 intro n
 induction n with
 | zero => intro s line ws h w hw; rw [toks] at h; cases h; cases hw
 | succ n ih =>
  intro s line ws h w hw
  cases s with
  | nil => rw [toks] at h; cases h; cases hw
  | cons x r =>
   rw [toks] at h
   split at h
   · have := ih _ _ _ h w hw
     simp only [List.length_cons]; omega
   · split at h
     · have := ih _ _ _ h w hw
       simp only [List.length_cons]; omega
     · cases hk : wordM num (x :: r) with
       | none => rw [hk] at h; cases h
       | some k =>
        rw [hk] at h
        simp only at h
        cases ht : toks num n ((x :: r).drop k) line with
        | error l => rw [ht] at h; cases h
        | ok a =>
         rw [ht] at h
         cases h
         rcases List.mem_cons.1 hw with rfl | hw
         · exact ⟨Int.le_refl _, by simp only [List.length_cons]; omega⟩
         · have h1 := ih _ _ _ ht w hw
           have h2 : ((x :: r).drop k).length ≤ (x :: r).length := by rw [List.length_drop]; omega
           omega
theorem toks_count : ∀ {n : Nat} {s : List UInt8} {line : Int} {ws : List (List UInt8 × Int)}, toks num n s line = .ok ws → ws.length ≤ s.length := by
 intro n
 induction n with
 | zero => intro s line ws h; rw [toks] at h; cases h; simp
 | succ n ih =>
  intro s line ws h
  cases s with
  | nil => rw [toks] at h; cases h; simp
  | cons x r =>
   rw [toks] at h
   split at h
   · have := ih h
     simp only [List.length_cons]; omega
   · split at h
     · have := ih h
       simp only [List.length_cons]; omega
     · cases hk : wordM num (x :: r) with
       | none => rw [hk] at h; cases h
       | some k =>
        obtain ⟨k1, k2⟩ := wordM_pos hk
        rw [hk] at h
        simp only at h
        cases ht : toks num n ((x :: r).drop k) line with
        | error l => rw [ht] at h; cases h
        | ok a =>
         rw [ht] at h
         cases h
         have h1 := ih ht
         rw [List.length_drop] at h1
         simp only [List.length_cons] at h1 ⊢
         omega
theorem joins_law {s t : List UInt8} (h : s.length + t.length ≤ 100000) :
  (match lexM num s, lexM num t with
    | .ok a, .ok b => lexM num (s ++ 10 :: t) = .ok (a ++ b.map fun w => (w.1, w.2 + (1 + nls s)))
    | _, _ => ∃ e, lexM num (s ++ 10 :: t) = .error e) := by
 have hl : (s ++ 10 :: t).length = s.length + 1 + t.length := by rw [List.length_append, List.length_cons]; omega
 rw [lexM_small (s := s) (by omega), lexM_small (s := t) (by omega), lexM_small (s := s ++ 10 :: t) (by omega), hl]
 rw [toks_app t (s.length + 1 + t.length) s 1 (Nat.le_refl _)]
 rw [toks_fuel (s.length + 1 + t.length) s.length s 1 (by omega) (Nat.le_refl _), toks_fuel (s.length + 1 + t.length) t.length t (1 + nls s + 1) (by omega) (Nat.le_refl _)]
 have hs : (1 : Int) + nls s + 1 = 1 + (1 + nls s) := by omega
 rw [hs, toks_shift]
 cases toks num s.length s 1 with
 | error l => exact ⟨_, rfl⟩
 | ok a =>
  cases toks num t.length t 1 with
  | error l => exact ⟨_, rfl⟩
  | ok b => rfl
end
theorem tok_text (H : AH) {ws : List (List UInt8 × Int)} {i : Nat} {w : List UInt8 × Int} (hi : ws[i]? = some w) : aload H 1 false (.fptr (((ws.flatMap tokC).drop (i * 2)).drop 0)) = some (.str w.1) := by
 have hlt := (List.getElem?_eq_some_iff.1 hi).1
 show takeCells _ 0 1 false = _
 rw [List.drop_zero, flatMap_drop tokC_len]
 have hd : ws.drop i = w :: ws.drop (i + 1) := by
  rw [List.drop_eq_getElem_cons hlt]
  rw [List.getElem?_eq_getElem hlt] at hi
  simp at hi
  rw [hi]
 rw [hd, List.flatMap_cons]
 rfl
theorem tok_line (H : AH) {ws : List (List UInt8 × Int)} {i : Nat} {w : List UInt8 × Int} (hi : ws[i]? = some w) : aload H 1 false (.fptr (((ws.flatMap tokC).drop (i * 2)).drop 1)) = some (.int .i64 w.2) := by
 have hlt := (List.getElem?_eq_some_iff.1 hi).1
 show takeCells _ 0 1 false = _
 rw [flatMap_drop tokC_len]
 have hd : ws.drop i = w :: ws.drop (i + 1) := by
  rw [List.drop_eq_getElem_cons hlt]
  rw [List.getElem?_eq_getElem hlt] at hi
  simp at hi
  rw [hi]
 rw [hd, List.flatMap_cons]
 rfl
theorem str_add {s t : List UInt8} (h : s.length + t.length ≤ 9223372036854775807) : abin .add (.str s) (.str t) = some (.str (s ++ t)) := by
 show abinStr .add s t = _
 unfold abinStr
 rw [if_pos h]
end Rb

set_option linter.unusedVariables false
set_option linter.unusedSimpArgs false
namespace Rb
open Go
def numX (w : List UInt8) : Bool := match Go.Lib.parseUintB 64 w with
 | .ok _ => true
 | _ => false
theorem parseM_len : ∀ (l : List UInt8) (acc k v : Nat), 10 ^ k ≤ acc → acc ≤ 18446744073709551615 → Go.Lib.parseUintM 18446744073709551615 acc l = .ok v → l.length + k ≤ 19
 | [], acc, k, v, h1, h2, _ => by
  simp only [List.length_nil, Nat.zero_add]
  by_cases hk : k ≤ 19
  · exact hk
  · have : 10 ^ 20 ≤ 10 ^ k := Nat.pow_le_pow_right (by omega) (by omega)
    omega
 | c :: r, acc, k, v, h1, h2, h => by
  unfold Go.Lib.parseUintM at h
  split at h
  · split at h
    · cases h
    · rename_i hc hacc
      split at h
      · cases h
      · rename_i hm
        have h3 : 10 ^ (k + 1) ≤ acc * 10 + (c.toNat - 48) := by rw [Nat.pow_succ]; omega
        have := parseM_len r _ (k + 1) v h3 (by omega) h
        simp only [List.length_cons]
        omega
  · cases h
theorem numX_len (w : List UInt8) (h : numX w = true) (h0 : ¬ (1 < w.length ∧ w.head? = some 48)) : w.length ≤ 20 := by
 unfold numX Go.Lib.parseUintB at h
 split at h
 · rename_i v hv
   split at hv
   · cases hv
   · cases w with
     | nil => simp
     | cons c r =>
      by_cases hr : r = []
      · subst hr; simp
      · have hc : c ≠ 48 := by
          intro e
          subst e
          refine h0 ⟨?_, rfl⟩
          cases r with
          | nil => exact absurd rfl hr
          | cons _ _ => simp
        unfold Go.Lib.parseUintM at hv
        split at hv
        · rename_i hd
          split at hv
          · cases hv
          · split at hv
            · cases hv
            · have hcn : c.toNat ≠ 48 := fun e => hc (UInt8.toNat_inj.1 e)
              have := parseM_len r _ 0 v (by simp; omega) (by omega) hv
              simp only [List.length_cons]
              omega
        · cases hv
 · cases h
theorem indexByte_neg : ∀ (l : List UInt8) (c : UInt8), -1 ≤ Go.Lib.indexByte l c ∧ (Go.Lib.indexByte l c < 0 ↔ l.contains c = false)
 | [], c => by simp [Go.Lib.indexByte]
 | b :: l, c => by
  obtain ⟨h1, h2⟩ := indexByte_neg l c
  unfold Go.Lib.indexByte
  rw [List.contains_cons]
  by_cases hb : (b == c) = true
  · rw [if_pos hb]
    have : (c == b) = true := by rw [beq_iff_eq] at hb ⊢; exact hb.symm
    rw [this]; simp
  · rw [if_neg hb]
    have hcb : (c == b) = false := by
     simp only [Bool.not_eq_true, beq_eq_false_iff_ne, ne_eq] at hb ⊢
     exact fun e => hb e.symm
    rw [hcb, Bool.false_or, ← h2]
    split
    · rename_i he
      have : Go.Lib.indexByte l c = -1 := by simpa using he
      rw [this]; decide
    · rename_i he
      have : Go.Lib.indexByte l c ≠ -1 := by simpa using he
      omega
end Rb

set_option linter.unusedVariables false
set_option linter.unusedSimpArgs false
set_option linter.unusedSectionVars false
namespace Rb
open Go
structure PSt where
 toks : List (List UInt8 × Int)
 fl : Int
 fk : Int
abbrev x64 (n : Int) : Int := IntKind.wrap .i64 n
def PSt.hd (s : PSt) : List UInt8 × Int := s.toks.headD ([], 0)
def PSt.fail (s : PSt) (e : Int) : PSt := if s.fk = 0 then { s with fl := s.hd.2, fk := e } else s
def PSt.adv (s : PSt) : PSt := if 1 < s.toks.length then { s with toks := s.toks.drop 1 } else s
def PSt.isW (s : PSt) (w : List UInt8) : Bool := s.fk == 0 && s.hd.1 == w
def PSt.isA (s : PSt) (w : List UInt8) : PSt := if s.isW w = true then s.adv else s
def PSt.want (s : PSt) (w : List UInt8) : PSt := if s.fk ≠ 0 then s else if s.hd.1 = w then s.adv else s.fail 4
def lettersM : List UInt8 → Bool
 | [] => false
 | c :: _ => isLet c
def digitsM : List UInt8 → Bool
 | [] => false
 | c :: _ => isDig c
section
variable (kw : List UInt8 → Bool) (val : List UInt8 → Int)
def PSt.nameW (s : PSt) : Bool := s.fk == 0 && lettersM s.hd.1 && !kw s.hd.1
def PSt.nameT (s : PSt) : List UInt8 := if s.nameW kw = true then s.hd.1 else []
def PSt.nameS (s : PSt) : PSt := if s.nameW kw = true then s.adv else s.fail 4
def PSt.num (s : PSt) (most : Int) : Int × PSt :=
 if s.fk ≠ 0 ∨ digitsM s.hd.1 = false then (0, s.fail 4) else if val s.hd.1 > most then (0, s.fail 9) else (val s.hd.1, s.adv)
end
def PSt.deep (s : PSt) (d : Int) : PSt := if d > 64 then s.fail 5 else s
def tokV (tk : Tok) (ws : List (List UInt8 × Int)) : AV := .lst tk ws.length (ws.flatMap tokC)
theorem tokV_addr {tk : Tok} {ws : List (List UInt8 × Int)} {i : Nat} (hi : i < ws.length) : aiaddr none 2 (tokV tk ws) (.int .i64 i) = some (elA tokC 2 ws i) := by
 simp only [tokV, aiaddr]
 rw [if_pos ⟨by omega, by omega⟩]; rfl
theorem tokV_len {tk : Tok} {ws : List (List UInt8 × Int)} : alen false (tokV tk ws) = some (.int .i64 ws.length) := rfl
def PS (H : AH) (id : Nat) (s : PSt) : Prop := s.toks ≠ [] ∧ s.toks.length ≤ 2000000 ∧ ∃ tk, At H id (.row [tokV tk s.toks, .int .i64 s.fl, .int .i64 s.fk])
def KeepP (id : Nat) (H H' : AH) : Prop := H.n ≤ H'.n ∧ ∀ i o, i ≠ id → At H i o → At H' i o
theorem KeepP.refl (id : Nat) (H : AH) : KeepP id H H := ⟨Nat.le_refl _, fun _ _ _ h => h⟩
theorem KeepP.trans {id : Nat} {a b c : AH} (h : KeepP id a b) (k : KeepP id b c) : KeepP id a c := ⟨Nat.le_trans h.1 k.1, fun i o hi ho => k.2 i o hi (h.2 i o hi ho)⟩
theorem KeepP.push (id : Nat) (H : AH) (x : AObj) : KeepP id H (H.push x) := ⟨Nat.le_succ _, fun i o _ h => h.push x⟩
theorem KeepP.set (id : Nat) (H : AH) (x : AObj) : KeepP id H (H.set id x) := ⟨Nat.le_refl _, fun i o hi h => h.set_ne hi x⟩
theorem PSt.adv_ne {s : PSt} (h : s.toks ≠ []) : s.adv.toks ≠ [] := by
 unfold PSt.adv
 split
 · show s.toks.drop 1 ≠ []
   intro e
   rw [List.drop_eq_nil_iff] at e
   omega
 · exact h
theorem PSt.adv_len (s : PSt) : s.adv.toks.length ≤ s.toks.length := by
 unfold PSt.adv
 split
 · show (s.toks.drop 1).length ≤ _
   rw [List.length_drop]; omega
 · exact Nat.le_refl _
theorem PSt.fail_toks (s : PSt) (e : Int) : (s.fail e).toks = s.toks := by unfold PSt.fail; split <;> rfl
theorem PSt.adv_fk (s : PSt) : s.adv.fk = s.fk := by unfold PSt.adv; split <;> rfl
theorem PSt.adv_fl (s : PSt) : s.adv.fl = s.fl := by unfold PSt.adv; split <;> rfl
section
variable {Φ : Calls'} {H : AH} {Q : Post} {id : Nat} {s : PSt}
theorem PS.l0 (h : PS H id s) : ∃ tk, At H id (.row [tokV tk s.toks, .int .i64 s.fl, .int .i64 s.fk]) ∧ aload H 1 false (.ptr id 0) = some (tokV tk s.toks) := by obtain ⟨_, _, tk, h⟩ := h; exact ⟨tk, h, by rw [h.load]; rfl⟩
theorem PS.l2 (h : PS H id s) : aload H 1 false (.ptr id 2) = some (.int .i64 s.fk) := by obtain ⟨_, _, tk, h⟩ := h; rw [h.load]; rfl
theorem PS.hdc (h : PS H id s) : ∃ w, s.toks[0]? = some w ∧ s.hd = w ∧ 0 < s.toks.length := by
 obtain ⟨h1, _, _⟩ := h
 unfold PSt.hd
 cases hc : s.toks with
 | nil => exact absurd hc h1
 | cons w r => exact ⟨w, rfl, rfl, by simp⟩
theorem pz_text (H : AH) {ws : List (List UInt8 × Int)} {w : List UInt8 × Int} (hi : ws[0]? = some w) : aload H 1 false (.fptr (((ws.flatMap tokC).drop (0 * 2)).drop 0)) = some (.str w.1) := by
 cases ws with
 | nil => cases hi
 | cons x r => simp at hi; subst hi; rfl
theorem pz_line (H : AH) {ws : List (List UInt8 × Int)} {w : List UInt8 × Int} (hi : ws[0]? = some w) : aload H 1 false (.fptr (((ws.flatMap tokC).drop (0 * 2)).drop 1)) = some (.int .i64 w.2) := by
 cases ws with
 | nil => cases hi
 | cons x r => simp at hi; subst hi; rfl
theorem p_bad (hT : Cl Φ S.tab_Lex) (h : PS H id s) (hQ : Q (.bool (s.fk != 0)) H) : Φ K.parse_parser_bad [.ptr id 0] H Q := by
 refine S.cl_parse_parser_bad hT ?_
 unfold S.parse_parser_bad
 simp only [anilck, afaddr, Do_of, Nat.zero_add, Nat.add_zero, Nat.reduceAdd, h.l2, abin_neq]
 exact hQ
theorem p_fail (hT : Cl Φ S.tab_Lex) {e : Int} (h : PS H id s) (hQ : ∀ H', KeepP id H H' → PS H' id (s.fail e) → Q (.tup []) H') : Φ K.parse_parser_fail [.ptr id 0, .int .i64 e] H Q := by
 refine S.cl_parse_parser_fail hT ?_
 unfold S.parse_parser_fail
 refine p_bad hT h ?_
 simp only [aun_not, Do_of, Gd_true]
 obtain ⟨w, hw, hwd, hlt⟩ := h.hdc
 refine ite_both (fun hb => ?_) (fun hb => ?_)
 · have h0 : s.fk = 0 := by simpa using hb
   obtain ⟨tk, hat, hl0⟩ := h.l0
   simp only [anilck, afaddr, Do_of, Nat.zero_add, Nat.add_zero, hl0]
   have ha : aiaddr none 2 (tokV tk s.toks) (.int .i64 0) = some (elA tokC 2 s.toks 0) := tokV_addr hlt
   rw [ha]
   simp only [Do_of, elA, afaddr, pz_line H hw]
   rw [show abuild [.int .i64 0, .int .i64 0] [(0, 1, .int .i64 w.2), (1, 1, .int .i64 e)] = some (.agg [.int .i64 w.2, .int .i64 e]) from rfl]
   simp only [Do_of]
   rw [hat.store, if_pos ⟨rfl, rfl, rfl, by simp⟩]
   simp only [Do_of]
   refine hQ _ (KeepP.set id H _) ?_
   have es : s.fail e = { s with fl := w.2, fk := e } := by unfold PSt.fail; rw [if_pos h0, hwd]
   rw [es]
   exact ⟨h.1, h.2.1, tk, hat.set _⟩
 · have h0 : s.fk ≠ 0 := by simpa using hb
   refine hQ H (KeepP.refl _ _) ?_
   have es : s.fail e = s := by unfold PSt.fail; rw [if_neg h0]
   rw [es]; exact h
theorem p_peek (hT : Cl Φ S.tab_Lex) (h : PS H id s) (hQ : Q (.str s.hd.1) H) : Φ K.parse_parser_peek [.ptr id 0] H Q := by
 refine S.cl_parse_parser_peek hT ?_
 unfold S.parse_parser_peek
 obtain ⟨w, hw, hwd, hlt⟩ := h.hdc
 obtain ⟨tk, hat, hl0⟩ := h.l0
 simp only [anilck, afaddr, Do_of, Nat.zero_add, Nat.add_zero, hl0]
 have ha : aiaddr none 2 (tokV tk s.toks) (.int .i64 0) = some (elA tokC 2 s.toks 0) := tokV_addr hlt
 rw [ha]
 simp only [Do_of, elA, afaddr, pz_text H hw]
 rw [← hwd]; exact hQ
theorem slice_tail {tk : Tok} {ws : List (List UInt8 × Int)} (h : 1 < ws.length) : aslice 2 (tokV tk ws) (some (.int .i64 1)) none none = some (lstA tokC (ws.drop 1)) := by
 simp only [lstA, tokV, aslice, abound]
 rw [if_pos (by omega)]
 simp only [Option.map_none]
 rw [if_pos ⟨by omega, Nat.le_refl _, flatMap_len tokC_len ws⟩, if_neg (by omega)]
 have e1 : ((1 : Int)).toNat = 1 := rfl
 rw [e1, if_neg (by omega)]
 have hf : (ws.flatMap tokC).take (ws.length * 2) = ws.flatMap tokC := List.take_of_length_le (by rw [flatMap_len tokC_len]; omega)
 rw [hf, flatMap_drop tokC_len, List.length_drop]
theorem p_next (hT : Cl Φ S.tab_Lex) (h : PS H id s) (hQ : ∀ H', KeepP id H H' → PS H' id s.adv → Q (.str s.hd.1) H') : Φ K.parse_parser_next [.ptr id 0] H Q := by
 refine S.cl_parse_parser_next hT ?_
 unfold S.parse_parser_next
 refine p_peek hT h ?_
 obtain ⟨tk, hat, hl0⟩ := h.l0
 simp only [anilck, afaddr, Do_of, Nat.zero_add, Nat.add_zero, hl0, tokV_len, abin_gtr, Gd_true]
 refine ite_both (fun hb => ?_) (fun hb => ?_)
 · have h1 : 1 < s.toks.length := by simp only [decide_eq_true_eq, gt_iff_lt] at hb; omega
   rw [slice_tail h1]
   simp only [Do_of]
   rw [hat.store, if_pos ⟨rfl, rfl, rfl, by simp⟩]
   simp only [Do_of]
   refine hQ _ (KeepP.set id H _) ⟨PSt.adv_ne h.1, Nat.le_trans (PSt.adv_len s) h.2.1, ?_⟩
   have es : s.adv = { s with toks := s.toks.drop 1 } := by unfold PSt.adv; rw [if_pos h1]
   rw [es]
   exact ⟨.dead, hat.set _⟩
 · have h1 : ¬ 1 < s.toks.length := by simp only [decide_eq_true_eq, gt_iff_lt] at hb; omega
   refine hQ H (KeepP.refl _ _) ?_
   have es : s.adv = s := by unfold PSt.adv; rw [if_neg h1]
   rw [es]; exact h
theorem p_is (hT : Cl Φ S.tab_Lex) {w : List UInt8} (h : PS H id s) (hQ : ∀ H', KeepP id H H' → PS H' id (s.isA w) → Q (.bool (s.isW w)) H') : Φ K.parse_parser_is [.ptr id 0, .str w] H Q := by
 refine S.cl_parse_parser_is hT ?_
 unfold S.parse_parser_is
 refine p_bad hT h ?_
 have k2 : ∀ b : Bool, b = !s.isW w → JoinP (S.parse_parser_is_k2 Φ (.ptr id 0) Q) [.bool b] H := by
  intro b hb
  simp only [JoinP_def, S.parse_parser_is_k2, sl_zero, Gd_true]
  refine ite_both (fun hx => ?_) (fun hx => ?_)
  · have hf : s.isW w = false := by rw [hx] at hb; simpa using hb.symm
    have := hQ H (KeepP.refl _ _) (by unfold PSt.isA; rw [hf, if_neg (by decide)]; exact h)
    rw [hf] at this; exact this
  · have hf : s.isW w = true := by simp only [Bool.not_eq_true] at hx; rw [hx] at hb; simpa using hb.symm
    simp only [S.parse_parser_is_k1]
    refine p_next hT h fun H' k' p' => ?_
    have := hQ H' k' (by unfold PSt.isA; rw [if_pos hf]; exact p')
    rw [hf] at this; exact this
 simp only [Gd3_false]
 refine ite_both (fun hx => ?_) (fun hx => ?_)
 · have h0 : s.fk = 0 := by simpa using hx
   refine p_peek hT h ?_
   simp only [str_neq, Do_of]
   exact k2 _ (by simp [PSt.isW, h0])
 · have h0 : s.fk ≠ 0 := by simpa using hx
   exact k2 _ (by simp [PSt.isW, h0])
theorem p_want (hT : Cl Φ S.tab_Lex) {w : List UInt8} (h : PS H id s) (hQ : ∀ H', KeepP id H H' → PS H' id (s.want w) → Q (.tup []) H') : Φ K.parse_parser_want [.ptr id 0, .str w] H Q := by
 refine S.cl_parse_parser_want hT ?_
 unfold S.parse_parser_want
 refine p_bad hT h ?_
 simp only [aun_not, Do_of, Gd3_true]
 refine ite_both (fun hx => ?_) (fun hx => ?_)
 · have h0 : s.fk = 0 := by simpa using hx
   refine p_is hT h fun H1 k1 p1 => ?_
   simp only [aun_not, Do_of, JoinP_def, S.parse_parser_want_k1, sl_zero, Gd_true]
   refine ite_both (fun hy => ?_) (fun hy => ?_)
   · have hf : s.isW w = false := by simpa using hy
     have hne : s.hd.1 ≠ w := by unfold PSt.isW at hf; rw [h0] at hf; simpa using hf
     have e1 : s.isA w = s := by unfold PSt.isA; rw [hf, if_neg (by decide)]
     rw [e1] at p1
     refine p_fail hT p1 fun H2 k2 p2 => ?_
     refine hQ H2 (k1.trans k2) ?_
     have e2 : s.want w = s.fail 4 := by unfold PSt.want; rw [if_neg (by simpa using h0), if_neg hne]
     rw [e2]; exact p2
   · have hf : s.isW w = true := by simpa using hy
     have heq : s.hd.1 = w := by unfold PSt.isW at hf; rw [h0] at hf; simpa using hf
     have e1 : s.isA w = s.adv := by unfold PSt.isA; rw [if_pos hf]
     rw [e1] at p1
     refine hQ H1 k1 ?_
     have e2 : s.want w = s.adv := by unfold PSt.want; rw [if_neg (by simpa using h0), if_pos heq]
     rw [e2]; exact p1
 · have h0 : s.fk ≠ 0 := by simpa using hx
   simp only [JoinP_def, S.parse_parser_want_k1, sl_zero, Gd_true, Bool.false_eq_true, if_false]
   refine hQ H (KeepP.refl _ _) ?_
   have e2 : s.want w = s := by unfold PSt.want; rw [if_pos h0]
   rw [e2]; exact h
theorem p_letters (hT : Cl Φ S.tab_Lex) {w : List UInt8} (hQ : Q (.bool (lettersM w)) H) : Φ K.parse_letters [.str w] H Q := by
 have fin : ∀ b : Bool, b = lettersM w → Q (.bool b) H := fun b h => by rw [h]; exact hQ
 refine S.cl_parse_letters hT ?_
 unfold S.parse_letters
 simp only [str_neq, Do_of, Gd3_true, JoinP_def, S.parse_letters_k1, sl_zero]
 cases w with
 | nil =>
  rw [if_neg (by decide), if_neg (by decide)]
  exact fin _ rfl
 | cons c r =>
  rw [if_pos (by simp)]
  have hx : aidxs (.str (c :: r)) (.int .i64 0) = some (.int .u8 c.toNat) := by simp [aidxs]
  rw [hx]
  simp only [Do_of, abin_geq, abin_leq]
  refine ite_both (fun h => fin _ ?_) (fun h => fin _ ?_)
  · have h' : 97 ≤ c.toNat := by simp only [ge_iff_le, decide_eq_true_eq] at h; omega
    rw [Bool.eq_iff_iff]; simp [lettersM, isLet, h']; omega
  · have h' : ¬ 97 ≤ c.toNat := by simp only [ge_iff_le, decide_eq_true_eq] at h; omega
    simp [lettersM, isLet, h']
theorem p_digits (hT : Cl Φ S.tab_Lex) {w : List UInt8} (hQ : Q (.bool (digitsM w)) H) : Φ K.parse_digits [.str w] H Q := by
 have fin : ∀ b : Bool, b = digitsM w → Q (.bool b) H := fun b h => by rw [h]; exact hQ
 refine S.cl_parse_digits hT ?_
 unfold S.parse_digits
 simp only [str_neq, Do_of, Gd3_true, JoinP_def, S.parse_digits_k1, sl_zero]
 cases w with
 | nil =>
  rw [if_neg (by decide), if_neg (by decide)]
  exact fin _ rfl
 | cons c r =>
  rw [if_pos (by simp)]
  have hx : aidxs (.str (c :: r)) (.int .i64 0) = some (.int .u8 c.toNat) := by simp [aidxs]
  rw [hx]
  simp only [Do_of, abin_geq, abin_leq]
  refine ite_both (fun h => fin _ ?_) (fun h => fin _ ?_)
  · have h' : 48 ≤ c.toNat := by simp only [ge_iff_le, decide_eq_true_eq] at h; omega
    rw [Bool.eq_iff_iff]; simp [digitsM, isDig, h']; omega
  · have h' : ¬ 48 ≤ c.toNat := by simp only [ge_iff_le, decide_eq_true_eq] at h; omega
    simp [digitsM, isDig, h']
theorem p_name (hT : Cl Φ S.tab_Lex) {kw : List UInt8 → Bool} (hkw : ∀ x, Val Φ K.lex_Keyword [.str x] (.bool (kw x))) (h : PS H id s) (hQ : ∀ H', KeepP id H H' → PS H' id (s.nameS kw) → Q (.str (s.nameT kw)) H') : Φ K.parse_parser_name [.ptr id 0] H Q := by
 refine S.cl_parse_parser_name hT ?_
 unfold S.parse_parser_name
 refine p_bad hT h ?_
 have k2 : ∀ b : Bool, b = !s.nameW kw → JoinP (S.parse_parser_name_k2 Φ (.ptr id 0) Q) [.bool b] H := by
  intro b hb
  simp only [JoinP_def, S.parse_parser_name_k2, sl_zero, Gd_true]
  refine ite_both (fun hx => ?_) (fun hx => ?_)
  · have hf : s.nameW kw = false := by rw [hx] at hb; simpa using hb.symm
    refine p_fail hT h fun H1 k1 p1 => ?_
    have := hQ H1 k1 (by unfold PSt.nameS; rw [hf, if_neg (by decide)]; exact p1)
    unfold PSt.nameT at this
    rw [hf, if_neg (by decide)] at this; exact this
  · have hf : s.nameW kw = true := by simp only [Bool.not_eq_true] at hx; rw [hx] at hb; simpa using hb.symm
    simp only [S.parse_parser_name_k1]
    refine p_next hT h fun H' k' p' => ?_
    have := hQ H' k' (by unfold PSt.nameS; rw [if_pos hf]; exact p')
    unfold PSt.nameT at this
    rw [if_pos hf] at this; exact this
 have k3 : ∀ b : Bool, b = !(s.fk == 0 && lettersM s.hd.1) → JoinP (S.parse_parser_name_k3 Φ (.ptr id 0) Q) [.bool b] H := by
  intro b hb
  simp only [JoinP_def, S.parse_parser_name_k3, sl_zero, Gd3_false]
  refine ite_both (fun hx => ?_) (fun hx => ?_)
  · have hf : (s.fk == 0 && lettersM s.hd.1) = true := by rw [hx] at hb; simpa using hb.symm
    refine p_peek hT h ?_
    refine hkw _ _ _ ?_
    exact k2 _ (by unfold PSt.nameW; rw [hf]; simp)
  · have hf : (s.fk == 0 && lettersM s.hd.1) = false := by cases hy : (s.fk == 0 && lettersM s.hd.1) with
      | false => rfl
      | true => exact absurd (by rw [hb, hy]; rfl) hx
    exact k2 _ (by unfold PSt.nameW; rw [hf]; rfl)
 simp only [Gd3_false]
 refine ite_both (fun hx => ?_) (fun hx => ?_)
 · have h0 : s.fk = 0 := by simpa using hx
   refine p_peek hT h ?_
   refine p_letters hT ?_
   simp only [aun_not, Do_of]
   exact k3 _ (by simp [h0])
 · have h0 : s.fk ≠ 0 := by simpa using hx
   exact k3 _ (by simp [h0])
theorem p_deep (hT : Cl Φ S.tab_Lex) {d : Int} (h : PS H id s) (hQ : ∀ H', KeepP id H H' → PS H' id (s.deep d) → Q (.bool ((s.deep d).fk == 0)) H') : Φ K.parse_parser_deep [.ptr id 0, .int .i64 d] H Q := by
 refine S.cl_parse_parser_deep hT ?_
 unfold S.parse_parser_deep
 have k1 : ∀ (s' : PSt) (H1 : AH), s' = s.deep d → KeepP id H H1 → PS H1 id s' → JoinP (S.parse_parser_deep_k1 Φ (.ptr id 0) Q) [] H1 := by
  intro s' H1 e k p
  subst e
  simp only [JoinP_def, S.parse_parser_deep_k1]
  refine p_bad hT p ?_
  simp only [aun_not, Do_of]
  have := hQ H1 k p
  have e2 : (!((s.deep d).fk != 0)) = ((s.deep d).fk == 0) := by simp [bne]
  rw [e2]; exact this
 simp only [abin_gtr, Do_of, Gd_true]
 refine ite_both (fun hx => ?_) (fun hx => ?_)
 · refine p_fail hT h fun H1 kk p1 => ?_
   exact k1 _ H1 (by unfold PSt.deep; rw [if_pos (by simpa using hx)]) kk p1
 · exact k1 s H (by unfold PSt.deep; rw [if_neg (by simpa using hx)]) (KeepP.refl _ _) h
end
end Rb

set_option linter.unusedVariables false
set_option linter.unusedSimpArgs false
set_option linter.unusedSectionVars false
namespace Rb
open Go
def tyZ : GType := ⟨0, 0, false, [], 0, []⟩
def plZ : GPlace := ⟨[], []⟩
def exZ : GExpr := ⟨0, 0, [], 0, 0, plZ, []⟩
def scL0 : List (List UInt8) := [[117, 56], [117, 49, 54], [117, 51, 50], [117, 54, 52]]
def scL1 : List (List UInt8) := [[97, 56], [97, 49, 54], [97, 51, 50], [97, 54, 52], [97, 49, 50, 56]]
def scalarM (w : List UInt8) : Option (Int × Int) := match scL0.findIdx? (· == w) with
 | some m => some (1, 2 ^ m)
 | none => (match scL1.findIdx? (· == w) with
   | some m => some (2, 2 ^ m)
   | none => none)
def kindM (w : List UInt8) : Int := if w = [115, 116, 114, 117, 99, 116] then 3 else if w = [117, 110, 105, 111, 110] then 4 else if w = [91] then 5 else 0
def operL : List (List UInt8) := [[43], [45], [42], [38], [124], [94], [60, 60], [62, 62], [61, 61], [33, 61], [60]]
def operM (w : List UInt8) : Int := match operL.findIdx? (· == w) with
 | some i => (i : Int) + 1
 | none => 0
def orderM (s : PSt) : Int × PSt :=
 if s.isW [114, 108, 120] = true then (1, s.adv) else if s.isW [97, 99, 113] = true then (2, s.adv) else if s.isW [114, 101, 108] = true then (3, s.adv) else if s.isW [115, 99] = true then (4, s.adv) else (0, s.fail 4)
section
variable (kw : List UInt8 → Bool) (val : List UInt8 → Int)
def fieldM (ty : Int → PSt → GType × PSt) (d : Int) (s : PSt) : GField × PSt :=
 let o := s.isW [95]
 let nm : List UInt8 := if o = true then [] else (s.isA [95]).nameT kw
 let s1 : PSt := if o = true then s.isA [95] else (s.isA [95]).nameS kw
 let t := ty (x64 (d + 1)) s1
 if o = true ∨ t.2.hd.1 = [58] then
  let q := (t.2.want [58]).num val 1073741824
  (⟨nm, t.1, true, x64 q.1⟩, q.2.want [59])
 else (⟨nm, t.1, false, 0⟩, t.2.want [59])
mutual
def typM : Nat → Int → PSt → GType × PSt
 | 0, d, s => (tyZ, s)
 | n + 1, d, s =>
  let s1 := s.deep d
  if s1.fk ≠ 0 then (tyZ, s1) else
  match scalarM s1.hd.1 with
  | some p => (⟨p.1, p.2, false, [], 0, []⟩, s1.adv)
  | none =>
   if kindM s1.hd.1 = 0 then (tyZ, s1.fail 4)
   else if kindM s1.hd.1 = 5 then
    let q := s1.adv.num val 1073741824
    let t := typM n (x64 (d + 1)) (q.2.want [93])
    (⟨5, 0, false, [], x64 q.1, [t.1]⟩, t.2)
   else
    let l := fldsM n d ((s1.adv.isA [112, 97, 99, 107, 101, 100]).want [123])
    (⟨kindM s1.hd.1, 0, s1.adv.isW [112, 97, 99, 107, 101, 100], l.1, 0, []⟩, l.2)
def fldsM : Nat → Int → PSt → List GField × PSt
 | 0, d, s => ([], s)
 | n + 1, d, s =>
  if s.fk ≠ 0 then ([], s) else if s.isW [125] = true then ([], s.adv) else
  let f := fieldM kw val (fun d s => typM n d s) d s
  let r := fldsM n d f.2
  (f.1 :: r.1, r.2)
end
def binM (ex : Int → PSt → GExpr × PSt) (d : Int) (s : PSt) : GExpr × PSt :=
 let a := ex (x64 (d + 1)) s
 let op := operM a.2.hd.1
 let s3 := if a.2.fk = 0 ∧ op = 0 then a.2.fail 4 else a.2
 let s4 := if s3.fk = 0 then s3.adv else s3
 let b := ex (x64 (d + 1)) s4
 (⟨3, 0, [], op, 0, plZ, [a.1, b.1]⟩, b.2.want [41])
def kidsM (ex : Int → PSt → GExpr × PSt) (d : Int) : Nat → PSt → List GExpr × PSt
 | 0, s => ([], s)
 | k + 1, s => let e := ex (x64 (d + 1)) s; let r := kidsM ex d k e.2; (e.1 :: r.1, r.2)
def placeM' (pa : Int → PSt → List GPart × PSt) (d : Int) (s : PSt) : GPlace × PSt :=
 let r := pa d (s.nameS kw)
 (⟨s.nameT kw, r.1⟩, r.2)
def accM (ex : Int → PSt → GExpr × PSt) (pa : Int → PSt → List GPart × PSt) (kind : Int) (k : Nat) (d : Int) (s : PSt) : GExpr × PSt :=
 let o := if kind = 4 then (0, s) else orderM s
 let p := placeM' kw pa d o.2
 let r := kidsM ex d k p.2
 (⟨kind, 0, [], 0, o.1, p.1, r.1⟩, r.2)
mutual
def exprM : Nat → Int → PSt → GExpr × PSt
 | 0, d, s => (exZ, s)
 | n + 1, d, s =>
  let s1 := s.deep d
  if s1.fk ≠ 0 then (exZ, s1)
  else if digitsM s1.hd.1 = true then
   let q := s1.num val 18446744073709551615
   (⟨1, q.1, [], 0, 0, plZ, []⟩, q.2)
  else if lettersM s1.hd.1 = true ∧ kw s1.hd.1 = false then (⟨2, 0, s1.hd.1, 0, 0, plZ, []⟩, s1.adv)
  else if s1.isW [40] = true then binM (fun d s => exprM n d s) d s1.adv
  else if s1.isW [114, 101, 97, 100] = true then accM kw (fun d s => exprM n d s) (fun d s => partsM n d s) 4 0 d s1.adv
  else if s1.isW [108, 111, 97, 100] = true then accM kw (fun d s => exprM n d s) (fun d s => partsM n d s) 5 0 d s1.adv
  else if s1.isW [97, 100, 100] = true then accM kw (fun d s => exprM n d s) (fun d s => partsM n d s) 6 1 d s1.adv
  else if s1.isW [115, 119, 97, 112] = true then accM kw (fun d s => exprM n d s) (fun d s => partsM n d s) 7 1 d s1.adv
  else if s1.isW [99, 97, 115] = true then accM kw (fun d s => exprM n d s) (fun d s => partsM n d s) 8 2 d s1.adv
  else (exZ, s1.fail 4)
def partsM : Nat → Int → PSt → List GPart × PSt
 | 0, d, s => ([], s)
 | n + 1, d, s =>
  if s.fk ≠ 0 then ([], s)
  else if s.isW [46] = true then
   let r := partsM n d (s.adv.nameS kw)
   (⟨s.adv.nameT kw, []⟩ :: r.1, r.2)
  else if s.isW [91] = true then
   let e := exprM n (x64 (d + 1)) s.adv
   let r := partsM n d (e.2.want [93])
   (⟨[], [e.1]⟩ :: r.1, r.2)
  else ([], s)
end
end
end Rb

set_option linter.unusedVariables false
set_option linter.unusedSimpArgs false
set_option linter.unusedSectionVars false
namespace Rb
open Go
def stZ (line : Int) : GStmt := ⟨0, line, [], [], 0, plZ, [], [], []⟩
section
variable (kw : List UInt8 → Bool) (val : List UInt8 → Int)
def blockF (ss : Int → PSt → List GStmt × PSt) (d : Int) (s : PSt) : List GStmt × PSt :=
 let s1 := s.deep d
 if s1.fk ≠ 0 then ([], s1) else ss d (s1.want [123])
def valueF (ex : Int → PSt → GExpr × PSt) (d : Int) (s : PSt) : GExpr × PSt := ex (x64 (d + 1)) (s.want [61])
def controlF (ex : Int → PSt → GExpr × PSt) (ss : Int → PSt → List GStmt × PSt) (x : GStmt) (d : Int) (s : PSt) : GStmt × PSt :=
 if s.isW [105, 102] = true then
  let e := ex (x64 (d + 1)) s.adv
  let a := blockF ss (x64 (d + 1)) e.2
  if a.2.isW [101, 108, 115, 101] = true then
   let b := blockF ss (x64 (d + 1)) a.2.adv
   ({ x with kind := 8, exprs := [e.1], thn := a.1, els := b.1 }, b.2)
  else ({ x with kind := 8, exprs := [e.1], thn := a.1 }, a.2)
 else if s.isW [119, 104, 105, 108, 101] = true then
  let e := ex (x64 (d + 1)) s.adv
  let a := blockF ss (x64 (d + 1)) e.2
  ({ x with kind := 9, exprs := [e.1], thn := a.1 }, a.2)
 else (x, s.fail 4)
def stmtF (ex : Int → PSt → GExpr × PSt) (pa : Int → PSt → List GPart × PSt) (ss : Int → PSt → List GStmt × PSt) (d : Int) (s : PSt) : GStmt × PSt :=
 let x := stZ s.hd.2
 if s.isW [108, 101, 116] = true then
  let v := valueF ex d (s.adv.nameS kw)
  ({ x with kind := 1, name := s.adv.nameT kw, exprs := [v.1] }, v.2.want [59])
 else if s.isW [115, 101, 116] = true then
  let v := valueF ex d (s.adv.nameS kw)
  ({ x with kind := 2, name := s.adv.nameT kw, exprs := [v.1] }, v.2.want [59])
 else if s.isW [119, 114, 105, 116, 101] = true then
  let p := placeM' kw pa d s.adv
  let v := valueF ex d p.2
  ({ x with kind := 3, place := p.1, exprs := [v.1] }, v.2.want [59])
 else if s.isW [115, 116, 111, 114, 101] = true then
  let o := orderM s.adv
  let p := placeM' kw pa d o.2
  let v := valueF ex d p.2
  ({ x with kind := 4, order := o.1, place := p.1, exprs := [v.1] }, v.2.want [59])
 else if s.isW [108, 111, 97, 100, 50] = true then
  let o := orderM s.adv
  let p := placeM' kw pa d o.2
  let s2 := p.2.nameS kw
  ({ x with kind := 5, order := o.1, place := p.1, name := p.2.nameT kw, name2 := s2.nameT kw }, (s2.nameS kw).want [59])
 else if s.isW [115, 116, 111, 114, 101, 50] = true then
  let o := orderM s.adv
  let p := placeM' kw pa d o.2
  let v := valueF ex d p.2
  let u := ex (x64 (d + 1)) (v.2.want [44])
  ({ x with kind := 6, order := o.1, place := p.1, exprs := [v.1, u.1] }, u.2.want [59])
 else if s.isW [102, 101, 110, 99, 101] = true then
  let o := orderM s.adv
  ({ x with kind := 7, order := o.1 }, o.2.want [59])
 else if s.isW [112, 114, 105, 110, 116] = true then
  let e := ex (x64 (d + 1)) s.adv
  ({ x with kind := 10, exprs := [e.1] }, e.2.want [59])
 else controlF ex ss x d s
def stmtsM : Nat → Int → PSt → List GStmt × PSt
 | 0, d, s => ([], s)
 | n + 1, d, s =>
  if s.fk ≠ 0 then ([], s) else if s.isW [125] = true then ([], s.adv) else
  let x := stmtF kw (exprM kw val n) (partsM kw val n) (fun d s => stmtsM n d s) d s
  let r := stmtsM n d x.2
  (x.1 :: r.1, r.2)
def varsM : Nat → PSt → List GVar × PSt
 | 0, s => ([], s)
 | n + 1, s => if s.isW [118, 97, 114] = true then
   let t := typM kw val n 1 (s.adv.nameS kw)
   let r := varsM n (t.2.want [59])
   (⟨s.adv.nameT kw, t.1⟩ :: r.1, r.2)
  else ([], s)
def thrsM : Nat → PSt → List (List GStmt) × PSt
 | 0, s => ([], s)
 | n + 1, s => if s.isW [116, 104, 114, 101, 97, 100] = true then
   let b := blockF (stmtsM kw val n) 1 s.adv
   let r := thrsM n b.2
   (b.1 :: r.1, r.2)
  else ([], s)
def PSt.endM (s : PSt) : PSt := if s.fk = 0 ∧ 1 < s.toks.length then s.fail 4 else s
def parseM (s : PSt) : GProg × Int × Int :=
 let v := varsM kw val s.toks.length s
 let t := thrsM kw val s.toks.length v.2
 let e := t.2.endM
 if e.fk ≠ 0 then (⟨[], []⟩, e.fl, e.fk) else (⟨v.1, t.1⟩, 0, 0)
end
def Wf (s : PSt) : Prop := ∃ l : List (List UInt8 × Int), ∃ n : Int, s.toks = l ++ [([], n)] ∧ ∀ w ∈ l, w.1.length ≤ 1048576
theorem Wf.ne {s : PSt} (h : Wf s) : s.toks ≠ [] := by
 obtain ⟨l, n, e, _⟩ := h; rw [e]; simp
theorem Wf.fail {s : PSt} (h : Wf s) (e : Int) : Wf (s.fail e) := by
 obtain ⟨l, n, h, k⟩ := h; exact ⟨l, n, by rw [PSt.fail_toks]; exact h, k⟩
theorem Wf.adv {s : PSt} (h : Wf s) : Wf s.adv := by
 obtain ⟨l, n, h, k⟩ := h
 unfold PSt.adv
 split
 · rename_i hlt
   cases l with
   | nil => rw [h] at hlt; simp at hlt
   | cons a r => exact ⟨r, n, by show s.toks.drop 1 = _; rw [h]; rfl, fun w hw => k w (List.mem_cons_of_mem _ hw)⟩
 · exact ⟨l, n, h, k⟩
theorem Wf.short {s : PSt} (h : Wf s) (hd : s.hd.1 ≠ []) : s.adv.toks.length + 1 = s.toks.length := by
 obtain ⟨l, n, h, _⟩ := h
 cases l with
 | nil => exact absurd (by unfold PSt.hd; rw [h]; rfl) hd
 | cons a r =>
  unfold PSt.adv
  rw [if_pos (by rw [h]; simp)]
  show (s.toks.drop 1).length + 1 = _
  rw [h]; simp
def Few (n : Nat) (s : PSt) : Prop := s.fk ≠ 0 ∨ s.toks.length ≤ n
theorem PSt.fail_fk (s : PSt) {e : Int} (he : e ≠ 0) : (s.fail e).fk ≠ 0 := by
 unfold PSt.fail; split
 · exact he
 · assumption
theorem Few.zero {s : PSt} (h : Few 0 s) (w : Wf s) : s.fk ≠ 0 := by
 rcases h with h | h
 · exact h
 · exact absurd (List.length_eq_zero_iff.1 (by omega)) w.ne
theorem Few.mono {n m : Nat} {s : PSt} (h : Few n s) (k : n ≤ m) : Few m s := h.imp id fun h => Nat.le_trans h k
theorem Few.fail {n : Nat} {s : PSt} (h : Few n s) (e : Int) : Few n (s.fail e) := by
 rcases h with h | h
 · exact .inl (by unfold PSt.fail; rw [if_neg h]; exact h)
 · exact .inr (by rw [PSt.fail_toks]; exact h)
theorem Few.adv {n : Nat} {s : PSt} (h : Few n s) : Few n s.adv := by
 rcases h with h | h
 · exact .inl (by rw [PSt.adv_fk]; exact h)
 · exact .inr (Nat.le_trans (PSt.adv_len s) h)
theorem Few.read {n : Nat} {s : PSt} (h : Few (n + 1) s) (w : Wf s) (hd : s.hd.1 ≠ []) : Few n s.adv := by
 rcases h with h | h
 · exact .inl (by rw [PSt.adv_fk]; exact h)
 · exact .inr (by have := w.short hd; omega)
theorem isW_hd {s : PSt} {w : List UInt8} (h : s.isW w = true) : s.fk = 0 ∧ s.hd.1 = w := by
 unfold PSt.isW at h; simpa using h
theorem Few.isW {n : Nat} {s : PSt} {w : List UInt8} (h : Few (n + 1) s) (f : Wf s) (k : s.isW w = true) (hw : w ≠ []) : Few n s.adv := h.read f (by rw [(isW_hd k).2]; exact hw)
theorem Wf.hd {s : PSt} (h : Wf s) : s.hd.1.length ≤ 1048576 := by
 obtain ⟨l, n, h, k⟩ := h
 unfold PSt.hd
 rw [h]
 cases l with
 | nil => simp
 | cons a r => exact k a List.mem_cons_self
end Rb

set_option linter.unusedVariables false
set_option linter.unusedSimpArgs false
set_option linter.unusedSectionVars false
namespace Rb
open Go
def Wk (Φ : Calls') : Prop := ∀ k args H (Q : Post), Φ k args H (fun v H' => Q v.weak H') → Φ k args H Q
theorem ACall.wk (C : Ctx) : Wk (ACall C) := fun _ _ _ _ h => ACall.weak h
theorem weaks_app (a b : List AV) : AV.weaks (a ++ b) = AV.weaks a ++ AV.weaks b := by rw [weaks_map, weaks_map, weaks_map, List.map_append]
mutual
theorem GType.weaks : ∀ x : GType, AV.weaks x.cells = x.cells
 | .mk kind size packed fields count elem => by simp only [GType.cells, AV.weaks, AV.weak, GField.weaksA fields, GType.weaksA elem]
theorem GType.weaksA : ∀ xs : List GType, AV.weaks (GType.all xs) = GType.all xs
 | [] => rfl
 | x :: r => by rw [GType.all, weaks_app, GType.weaks x, GType.weaksA r]
theorem GField.weaks : ∀ x : GField, AV.weaks x.cells = x.cells
 | .mk name type bits width => by simp only [GField.cells, AV.weaks, AV.weak, weaks_app, GType.weaks type]
theorem GField.weaksA : ∀ xs : List GField, AV.weaks (GField.all xs) = GField.all xs
 | [] => rfl
 | x :: r => by rw [GField.all, weaks_app, GField.weaks x, GField.weaksA r]
end
mutual
theorem GExpr.weaks : ∀ x : GExpr, AV.weaks x.cells = x.cells
 | .mk kind n name op order place kids => by simp only [GExpr.cells, AV.weaks, AV.weak, weaks_app, GPlace.weaks place, GExpr.weaksA kids]
theorem GExpr.weaksA : ∀ xs : List GExpr, AV.weaks (GExpr.all xs) = GExpr.all xs
 | [] => rfl
 | x :: r => by rw [GExpr.all, weaks_app, GExpr.weaks x, GExpr.weaksA r]
theorem GPlace.weaks : ∀ x : GPlace, AV.weaks x.cells = x.cells
 | .mk var parts => by simp only [GPlace.cells, AV.weaks, AV.weak, GPart.weaksA parts]
theorem GPart.weaks : ∀ x : GPart, AV.weaks x.cells = x.cells
 | .mk field index => by simp only [GPart.cells, AV.weaks, AV.weak, GExpr.weaksA index]
theorem GPart.weaksA : ∀ xs : List GPart, AV.weaks (GPart.all xs) = GPart.all xs
 | [] => rfl
 | x :: r => by rw [GPart.all, weaks_app, GPart.weaks x, GPart.weaksA r]
end
theorem lstA_weak {α : Type} {cells : α → List AV} (h : ∀ x, AV.weaks (cells x) = cells x) (xs : List α) : (lstA cells xs).weak = lstA cells xs := by
 have : AV.weaks (xs.flatMap cells) = xs.flatMap cells := by
  induction xs with
  | nil => rfl
  | cons x r ih => rw [List.flatMap_cons, weaks_app, h, ih]
 simp only [lstA, AV.weak, this]
mutual
theorem GStmt.weaks : ∀ x : GStmt, AV.weaks x.cells = x.cells
 | .mk kind line name name2 order place exprs thn els => by
  simp only [GStmt.cells, AV.weaks, AV.weak, weaks_app, GPlace.weaks place, GStmt.weaksA thn, GStmt.weaksA els, lstA_weak GExpr.weaks exprs]
theorem GStmt.weaksA : ∀ xs : List GStmt, AV.weaks (GStmt.all xs) = GStmt.all xs
 | [] => rfl
 | x :: r => by rw [GStmt.all, weaks_app, GStmt.weaks x, GStmt.weaksA r]
end
theorem GVar.weaks (x : GVar) : AV.weaks x.cells = x.cells := by simp only [GVar.cells, AV.weaks, AV.weak, GType.weaks]
def OwnT (n0 : Nat) (H : AH) (sz : Nat) (x : AV) (len : Nat) (cells : List AV) : Prop :=
 ∃ tk, x = .lst tk len cells ∧ cells.length = len * sz ∧ ((tk = .nil ∧ len = 0) ∨ tk = .full ∨ ∃ t, tk = .own t ∧ n0 ≤ t ∧ At H t (.tok (len * sz) sz))
theorem OwnT.nil (n0 : Nat) (H : AH) (sz : Nat) : OwnT n0 H sz (.lst .nil 0 []) 0 [] := ⟨.nil, rfl, by simp, .inl ⟨rfl, rfl⟩⟩
theorem OwnT.weak {n0 : Nat} {H : AH} {sz len : Nat} {x : AV} {cells : List AV} (h : OwnT n0 H sz x len cells) (hw : AV.weaks cells = cells) : x.weak = .lst .dead len cells := by
 obtain ⟨tk, rfl, _, _⟩ := h
 simp only [AV.weak, hw]
theorem OwnT.keep {n0 : Nat} {H H' : AH} {sz len id : Nat} {x : AV} {cells : List AV} (h : OwnT n0 H sz x len cells) (hi : id < n0) (k : KeepP id H H') : OwnT n0 H' sz x len cells := by
 obtain ⟨tk, hx, hc, ht⟩ := h
 refine ⟨tk, hx, hc, ?_⟩
 rcases ht with ht | ht | ⟨t, h1, h2, h3⟩
 · exact .inl ht
 · exact .inr (.inl ht)
 · exact .inr (.inr ⟨t, h1, h2, k.2 t _ (by omega) h3⟩)
theorem OwnT.frame {n0 : Nat} {H H' : AH} {sz len : Nat} {x : AV} {cells : List AV} (h : OwnT n0 H sz x len cells) (k : ∀ t a b, At H t (.tok a b) → At H' t (.tok a b)) : OwnT n0 H' sz x len cells := by
 obtain ⟨tk, hx, hc, ht⟩ := h
 refine ⟨tk, hx, hc, ?_⟩
 rcases ht with ht | ht | ⟨t, h1, h2, h3⟩
 · exact .inl ht
 · exact .inr (.inl ht)
 · exact .inr (.inr ⟨t, h1, h2, k t _ _ h3⟩)
def Left (n0 : Nat) (H H' : AH) : Prop := H.n ≤ H'.n ∧ ∀ i o, At H i o → (i < n0 ∨ ∀ a b, o ≠ .tok a b) → At H' i o
theorem OwnT.app {n0 sz bytes len m : Nat} {H : AH} {x y : AV} {cells news : List AV} {K : Post} (h : OwnT n0 H sz x len cells) (hn0 : n0 ≤ H.n) (hy : acells H sz y = some (m, news)) (hn : news.length = m * sz) (hs : news.all AV.scalar = true) (hm : m ≠ 0)
  (hb : (len + m) * bytes ≤ 140737488355328) (hl : len + m ≤ 9223372036854775807) (hK : ∀ x' H', OwnT n0 H' sz x' (len + m) (cells ++ news) → Left n0 H H' → K x' H') : DoH (aappend H false sz bytes x y) K := by
 obtain ⟨tk, rfl, hc, htk⟩ := h
 have hlen : (cells ++ news).length = (len + m) * sz := by simp [hc, hn, Nat.add_mul]
 have grow : ∀ tk : Tok, tk = .full ∨ (tk = .nil ∧ len = 0) → aappend H false sz bytes (.lst tk len cells) y = some (.lst (.own H.n) (len + m) (cells ++ news), H.push (.tok ((len + m) * sz) sz)) := by
  intro tk ht
  simp only [aappend, hy, hs, not_true_eq_false, if_false, if_neg hm]
  rw [if_neg (by simp only [Decidable.not_not]; exact ⟨hc, hb, hl⟩)]
  rcases ht with rfl | ⟨rfl, _⟩ <;> rfl
 have fresh : K (.lst (.own H.n) (len + m) (cells ++ news)) (H.push (.tok ((len + m) * sz) sz)) :=
  hK _ _ ⟨_, rfl, hlen, .inr (.inr ⟨H.n, rfl, hn0, At.new H _⟩)⟩ ⟨Nat.le_succ _, fun i o h _ => h.push _⟩
 rcases htk with ht | ht | ⟨t, rfl, h1, h2⟩
 · exact ⟨_, _, grow tk (.inr ht), fresh⟩
 · exact ⟨_, _, grow tk (.inl ht), fresh⟩
 · refine ⟨.lst (.own H.n) (len + m) (cells ++ news), (H.set t .gone).push (.tok ((len + m) * sz) sz), ?_, hK _ _ ⟨_, rfl, hlen, .inr (.inr ⟨H.n, rfl, hn0, At.new (H.set t .gone) _⟩)⟩ ⟨Nat.le_succ _, fun i o hi ho => (hi.set_ne (fun e => ?_) _).push _⟩⟩
   · simp only [aappend, hy, hs, not_true_eq_false, if_false, if_neg hm]
     rw [if_neg (by simp only [Decidable.not_not]; exact ⟨hc, hb, hl⟩)]
     simp [h2.2]
   · subst e
     rcases ho with ho | ho
     · omega
     · exact ho _ _ (hi.2.symm.trans h2.2)
theorem KeepP.pushL {id : Nat} {H0 H : AH} (h : KeepP id H0 H) (x : AObj) : KeepP id H0 (H.push x) := h.trans (KeepP.push id H x)
theorem KeepP.setL {id i : Nat} {H0 H : AH} (h : KeepP id H0 H) (hi : H0.n ≤ i) (x : AObj) : KeepP id H0 (H.set i x) := ⟨h.1, fun j o hj ho => (h.2 j o hj ho).set_ne (by have := ho.1; omega) x⟩
theorem KeepP.left {id : Nat} {H0 H H' : AH} (h : KeepP id H0 H) (k : Left H0.n H H') : KeepP id H0 H' := ⟨Nat.le_trans h.1 k.1, fun j o hj ho => k.2 j o (h.2 j o hj ho) (.inl ho.1)⟩
theorem PS.pushL {H : AH} {id : Nat} {s : PSt} (h : PS H id s) (x : AObj) : PS (H.push x) id s := ⟨h.1, h.2.1, h.2.2.imp fun _ h => h.push x⟩
theorem PS.setL {H : AH} {id i : Nat} {s : PSt} (h : PS H id s) (hi : id ≠ i) (x : AObj) : PS (H.set i x) id s := ⟨h.1, h.2.1, h.2.2.imp fun _ h => h.set_ne hi x⟩
theorem PS.left {n0 : Nat} {H H' : AH} {id : Nat} {s : PSt} (h : PS H id s) (k : Left n0 H H') : PS H' id s := ⟨h.1, h.2.1, h.2.2.imp fun _ h => k.2 _ _ h (.inr fun _ _ e => by cases e)⟩
theorem Left.row {n0 : Nat} {H H' : AH} {i : Nat} {cs : List AV} (k : Left n0 H H') (h : At H i (.row cs)) : At H' i (.row cs) := k.2 _ _ h (.inr fun _ _ e => by cases e)
end Rb

set_option linter.unusedVariables false
set_option linter.unusedSimpArgs false
set_option linter.unusedSectionVars false
namespace Rb
open Go
def NumV (Φ : Calls') (val : List UInt8 → Int) : Prop :=
 ∀ (w : List UInt8) (H : AH) (Q : Post), w.length ≤ 1048576 → digitsM w = true → (∀ v, Q (.tup [.int .u64 (val w), v]) H) → Φ K.strconv_ParseUint [.str w, .int .i64 10, .int .i64 64] H Q
section
variable {Φ : Calls'} {H : AH} {Q : Post} {id : Nat} {s : PSt}
theorem p_num (hT : Cl Φ S.tab_Lex) {val : List UInt8 → Int} (hv : NumV Φ val) {most : Int} (h : PS H id s) (hw : Wf s) (hQ : ∀ H', KeepP id H H' → PS H' id (s.num val most).2 → Q (.int .u64 (s.num val most).1) H') : Φ K.parse_parser_number [.ptr id 0, .int .u64 most] H Q := by
 refine S.cl_parse_parser_number hT ?_
 unfold S.parse_parser_number
 refine p_bad hT h ?_
 have k2 : ∀ b : Bool, b = (s.fk != 0 || !digitsM s.hd.1) → JoinP (S.parse_parser_number_k2 Φ (.ptr id 0) (.int .u64 most) Q) [.bool b] H := by
  intro b hb
  simp only [JoinP_def, S.parse_parser_number_k2, sl_zero, Gd_true]
  refine ite_both (fun hx => ?_) (fun hx => ?_)
  · have hc : s.fk ≠ 0 ∨ digitsM s.hd.1 = false := by
      rw [hx] at hb
      have := hb.symm
      simpa [bne_iff_ne] using this
    have e : s.num val most = (0, s.fail 4) := by unfold PSt.num; rw [if_pos hc]
    refine p_fail hT h fun H' k p => ?_
    have := hQ H' k (by rw [e]; exact p)
    rw [e] at this; exact this
  · have hc : ¬ (s.fk ≠ 0 ∨ digitsM s.hd.1 = false) := by
      intro hc
      refine hx ?_
      rw [hb]
      rcases hc with hc | hc
      · simp [hc]
      · simp [hc]
    have hd : digitsM s.hd.1 = true := by
     cases hy : digitsM s.hd.1 with
     | true => rfl
     | false => exact absurd (.inr hy) hc
    simp only [S.parse_parser_number_k1]
    refine p_peek hT h ?_
    refine hv _ _ _ hw.hd hd fun v => ?_
    simp only [aextract, List.getElem?_cons_zero, List.getElem?_cons_succ, Do_of, abin_gtr]
    refine ite_both (fun hg => ?_) (fun hg => ?_)
    · have hg' : val s.hd.1 > most := by simpa using hg
      have e : s.num val most = (0, s.fail 9) := by unfold PSt.num; rw [if_neg hc, if_pos hg']
      refine p_fail hT h fun H' k p => ?_
      have := hQ H' k (by rw [e]; exact p)
      rw [e] at this; exact this
    · have hg' : ¬ val s.hd.1 > most := by simpa using hg
      have e : s.num val most = (val s.hd.1, s.adv) := by unfold PSt.num; rw [if_neg hc, if_neg hg']
      refine p_next hT h fun H' k p => ?_
      have := hQ H' k (by rw [e]; exact p)
      rw [e] at this; exact this
 simp only [Gd3_false]
 refine ite_both (fun hx => ?_) (fun hx => ?_)
 · have h0 : s.fk = 0 := by simpa using hx
   refine p_peek hT h ?_
   refine p_digits hT ?_
   simp only [aun_not, Do_of]
   exact k2 _ (by simp [h0])
 · have h0 : s.fk ≠ 0 := by simpa using hx
   exact k2 _ (by simp [h0])
theorem p_kind (hT : Cl Φ S.tab_Lex) {w : List UInt8} (hQ : Q (.int .i64 (kindM w)) H) : Φ K.parse_kind [.str w] H Q := by
 refine S.cl_parse_kind hT ?_
 unfold S.parse_kind
 unfold kindM at hQ
 simp only [str_eql, Do_of, Gd_true, beq_iff_eq]
 refine ite_both (fun h1 => ?_) (fun h1 => ?_)
 · rw [if_pos h1] at hQ; exact hQ
 · rw [if_neg h1] at hQ
   refine ite_both (fun h2 => ?_) (fun h2 => ?_)
   · rw [if_pos h2] at hQ; exact hQ
   · rw [if_neg h2] at hQ
     refine ite_both (fun h3 => ?_) (fun h3 => ?_)
     · rw [if_pos h3] at hQ; exact hQ
     · rw [if_neg h3] at hQ; exact hQ
end
end Rb
