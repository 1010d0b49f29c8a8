/- A part of the proof (part 4): see the last text. -/
import Derived.Test.YtbkkoplgicffgaaGreatDoorRb2
import Derived.Test.YtbkkoplgicffgaaGreatDoorRb3
import Derived.KernelRfl
import Derived.Lib.DecodeN
import Derived.Lib.ParseIntB
import Derived.Lib.Bytealg
import Derived.Shelf.Pu.ParseUintPublic10
import Derived.Lib.AtoiErrMem
import Derived.Lib.ItoaNum
set_option linter.unusedVariables false
set_option linter.unusedSimpArgs false
set_option linter.unusedSectionVars false
namespace Rb.S
open Go
def f72_l1 (Φ : Calls') (a0 a1 a2 x4 : AV) (Q : Post) : (List AV × AH) → ((List AV × AH) → Prop) → Prop := fun s5 L6 =>
 Do (abin .lss (sl s5.1 0) x4) fun x7 =>
 Gd x7 true (
 Do (aiaddr none 8 a0 (sl s5.1 0)) fun x8 =>
 Do (aload s5.2 8 true x8) fun x9 =>
 DoH (some (abox s5.2 true [.int .i64 0, .int .u64 0, .str [], .int .i64 0, .int .i64 0, .str [], .lst .nil 0 [], .lst .nil 0 []])) fun x10 H11 =>
 Do (astore H11 8 x10 x9) fun H12 =>
 Do (aiaddr none 8 a1 (sl s5.1 0)) fun x13 =>
 Do (aload H12 8 true x13) fun x14 =>
 DoH (some (abox H12 true [.int .i64 0, .int .u64 0, .str [], .int .i64 0, .int .i64 0, .str [], .lst .nil 0 [], .lst .nil 0 []])) fun x15 H16 =>
 Do (astore H16 8 x15 x14) fun H17 =>
 Do (aload H17 8 true x10) fun x18 =>
 Do (aload H17 8 true x15) fun x19 =>
∃ k22 c23, a2 = .fn k22 c23 ∧ Φ (fkey k22) (fargs k22 [x18, x19] c23) H17 fun x20 H21 =>
 Do (aun .not x20) fun x24 =>
 Gd x24 true (
 Q (.bool false) H21) (
 Do (abin .add (sl s5.1 0) (.int .i64 1)) fun x25 =>
 L6 ([x25], H21))) (
 Q (.bool true) s5.2)
def f72 (Φ : Calls') (a0 a1 a2 : AV) (H : AH) (Q : Post) : Prop :=
 Do (alen false a0) fun x1 =>
 Do (alen false a1) fun x2 =>
 Do (abin .neq x1 x2) fun x3 =>
 Gd x3 true (
 Q (.bool false) H) (
 Do (alen false a0) fun x4 =>
 LoopP (f72_l1 Φ a0 a1 a2 x4 Q) ([(.int .i64 0)], H))
noncomputable def ir_f72 : AFunc := decF Go.Proofs.YtbkkoplgicffgaaGreatDoor.rb.C ⟨72,[8,9],[[17]],none,[],[]⟩
def f73_k1 (Φ : Calls') (s1 : List AV × AH) (L2 : (List AV × AH) → Prop) (Q : Post) : List AV → AH → Prop := fun j3 H4 =>
 Do (alen true (sl s1.1 0)) fun x13 =>
 Do (abin .sub x13 (.int .i64 1)) fun x14 =>
 Do (asslice (sl s1.1 0) none (some x14)) fun x15 =>
 L2 ([x15], H4)
def f73_k2 (Φ : Calls') (s1 : List AV × AH) (L2 : (List AV × AH) → Prop) (Q : Post) : List AV → AH → Prop := fun j5 H6 =>
 Gd (sl j5 0) true (
 JoinP (f73_k1 Φ s1 L2 Q) [] H6) (
 Q (sl s1.1 0) H6)
def f73_l3 (Φ : Calls') (a1 : AV) (Q : Post) : (List AV × AH) → ((List AV × AH) → Prop) → Prop := fun s1 L2 =>
 Do (alen true (sl s1.1 0)) fun x7 =>
 Do (abin .gtr x7 (.int .i64 0)) fun x8 =>
 Gd3 x8 true (
 Do (alen true (sl s1.1 0)) fun x9 =>
 Do (abin .sub x9 (.int .i64 1)) fun x10 =>
 Do (aidxs (sl s1.1 0) x10) fun x11 =>
 Do (abin .eql x11 a1) fun x12 =>
 JoinP (f73_k2 Φ s1 L2 Q) [x12] s1.2) (
 JoinP (f73_k2 Φ s1 L2 Q) [(.bool false)] s1.2) (
 False)
def f73 (Φ : Calls') (a0 a1 : AV) (H : AH) (Q : Post) : Prop :=
 LoopP (f73_l3 Φ a1 Q) ([a0], H)
noncomputable def ir_f73 : AFunc := decF Go.Proofs.YtbkkoplgicffgaaGreatDoor.rb.C ⟨73,[],[[0]],none,[],[]⟩
def f74_k1 (Φ : Calls') (x1 : AV) (Q : Post) : List AV → AH → Prop := fun j3 H4 =>
 Do (aload H4 256 true x1) fun x17 =>
 Do (astore H4 256 x1 x17) fun H18 =>
 Do (aload H18 256 true x1) fun x19 =>
 Q (.tup [x19, (.bool true)]) H18
def f74_l2 (Φ : Calls') (a0 x1 : AV) (Q : Post) : (List AV × AH) → ((List AV × AH) → Prop) → Prop := fun s5 L6 =>
 Do (alen true a0) fun x7 =>
 Do (abin .lss (sl s5.1 0) x7) fun x8 =>
 Gd x8 true (
 Do (aidxs a0 (sl s5.1 0)) fun x9 =>
 Do (abin .geq x9 (.int .u8 128)) fun x10 =>
 Gd x10 true (
 Do (aload s5.2 256 true x1) fun x11 =>
 Do (astore s5.2 256 x1 x11) fun H12 =>
 Do (aload H12 256 true x1) fun x13 =>
 Q (.tup [x13, (.bool false)]) H12) (
 Do (aiaddr (some 256) 1 x1 x9) fun x14 =>
 Do (astore s5.2 1 x14 (.bool true)) fun H15 =>
 Do (abin .add (sl s5.1 0) (.int .i64 1)) fun x16 =>
 L6 ([x16], H15))) (
 JoinP (f74_k1 Φ x1 Q) [] s5.2)
def f74 (Φ : Calls') (a0 : AV) (H : AH) (Q : Post) : Prop :=
 DoH (some (abox H true [.bool false, .bool false, .bool false, .bool false, .bool false, .bool false, .bool false, .bool false, .bool false, .bool false, .bool false, .bool false, .bool false, .bool false, .bool false, .bool false, .bool false, .bool false, .bool false, .bool false, .bool false, .bool false, .bool false, .bool false, .bool false, .bool false, .bool false, .bool false, .bool false, .bool false, .bool false, .bool false, .bool false, .bool false, .bool false, .bool false, .bool false, .bool false, .bool false, .bool false, .bool false, .bool false, .bool false, .bool false, .bool false, .bool false, .bool false, .bool false, .bool false, .bool false, .bool false, .bool false, .bool false, .bool false, .bool false, .bool false, .bool false, .bool false, .bool false, .bool false, .bool false, .bool false, .bool false, .bool false, .bool false, .bool false, .bool false, .bool false, .bool false, .bool false, .bool false, .bool false, .bool false, .bool false, .bool false, .bool false, .bool false, .bool false, .bool false, .bool false, .bool false, .bool false, .bool false, .bool false, .bool false, .bool false, .bool false, .bool false, .bool false, .bool false, .bool false, .bool false, .bool false, .bool false, .bool false, .bool false, .bool false, .bool false, .bool false, .bool false, .bool false, .bool false, .bool false, .bool false, .bool false, .bool false, .bool false, .bool false, .bool false, .bool false, .bool false, .bool false, .bool false, .bool false, .bool false, .bool false, .bool false, .bool false, .bool false, .bool false, .bool false, .bool false, .bool false, .bool false, .bool false, .bool false, .bool false, .bool false, .bool false, .bool false, .bool false, .bool false, .bool false, .bool false, .bool false, .bool false, .bool false, .bool false, .bool false, .bool false, .bool false, .bool false, .bool false, .bool false, .bool false, .bool false, .bool false, .bool false, .bool false, .bool false, .bool false, .bool false, .bool false, .bool false, .bool false, .bool false, .bool false, .bool false, .bool false, .bool false, .bool false, .bool false, .bool false, .bool false, .bool false, .bool false, .bool false, .bool false, .bool false, .bool false, .bool false, .bool false, .bool false, .bool false, .bool false, .bool false, .bool false, .bool false, .bool false, .bool false, .bool false, .bool false, .bool false, .bool false, .bool false, .bool false, .bool false, .bool false, .bool false, .bool false, .bool false, .bool false, .bool false, .bool false, .bool false, .bool false, .bool false, .bool false, .bool false, .bool false, .bool false, .bool false, .bool false, .bool false, .bool false, .bool false, .bool false, .bool false, .bool false, .bool false, .bool false, .bool false, .bool false, .bool false, .bool false, .bool false, .bool false, .bool false, .bool false, .bool false, .bool false, .bool false, .bool false, .bool false, .bool false, .bool false, .bool false, .bool false, .bool false, .bool false, .bool false, .bool false, .bool false, .bool false, .bool false, .bool false, .bool false, .bool false, .bool false, .bool false, .bool false, .bool false, .bool false, .bool false, .bool false, .bool false, .bool false, .bool false, .bool false, .bool false, .bool false, .bool false, .bool false, .bool false, .bool false, .bool false])) fun x1 H2 =>
 LoopP (f74_l2 Φ a0 x1 Q) ([(.int .i64 0)], H2)
noncomputable def ir_f74 : AFunc := decF Go.Proofs.YtbkkoplgicffgaaGreatDoor.rb.C ⟨74,[2],[[4]],none,[],[]⟩
theorem eq_f74 (Φ : Calls') (a0 : AV) (H : AH) (Q : Post) : fnE1 Φ ir_f74 [a0] H Q = f74 Φ a0 H Q := by kernel_rfl
def f75_l1 (Φ : Calls') (a1 : AV) (Q : Post) : (List AV × AH) → ((List AV × AH) → Prop) → Prop := fun s1 L2 =>
 Do (alen true (sl s1.1 0)) fun x3 =>
 Do (abin .gtr x3 (.int .i64 0)) fun x4 =>
 Gd x4 true (
 Do (alen true (sl s1.1 0)) fun x5 =>
 Do (abin .sub x5 (.int .i64 1)) fun x6 =>
 Do (aidxs (sl s1.1 0) x6) fun x7 =>
Φ K.f99 [a1, x7] s1.2 fun x8 H9 =>
 Do (aun .not x8) fun x10 =>
 Gd x10 true (
 Q (sl s1.1 0) H9) (
 Do (alen true (sl s1.1 0)) fun x11 =>
 Do (abin .sub x11 (.int .i64 1)) fun x12 =>
 Do (asslice (sl s1.1 0) none (some x12)) fun x13 =>
 L2 ([x13], H9))) (
 Q (sl s1.1 0) s1.2)
def f75 (Φ : Calls') (a0 a1 : AV) (H : AH) (Q : Post) : Prop :=
 LoopP (f75_l1 Φ a1 Q) ([a0], H)
noncomputable def ir_f75 : AFunc := decF Go.Proofs.YtbkkoplgicffgaaGreatDoor.rb.C ⟨75,[],[[0]],none,[],[]⟩
theorem eq_f75 (Φ : Calls') (a0 a1 : AV) (H : AH) (Q : Post) : fnE1 Φ ir_f75 [a0, a1] H Q = f75 Φ a0 a1 H Q := by kernel_rfl
def f77_l1 (Φ : Calls') (a0 a1 : AV) (Q : Post) : (List AV × AH) → ((List AV × AH) → Prop) → Prop := fun s1 L2 =>
 Do (abin .leq (sl s1.1 0) a1) fun x3 =>
 Gd x3 true (
 Do (abin .eql a0 (sl s1.1 0)) fun x4 =>
 Gd x4 true (
 Q (.bool true) s1.2) (
 Do (abin .mul (.int .i64 2) (sl s1.1 0)) fun x5 =>
 L2 ([x5], s1.2))) (
 Q (.bool false) s1.2)
def f77 (Φ : Calls') (a0 a1 : AV) (H : AH) (Q : Post) : Prop :=
 LoopP (f77_l1 Φ a0 a1 Q) ([(.int .i64 1)], H)
noncomputable def ir_f77 : AFunc := decF Go.Proofs.YtbkkoplgicffgaaGreatDoor.rb.C ⟨77,[],[[5]],none,[],[]⟩
theorem eq_f77 (Φ : Calls') (a0 a1 : AV) (H : AH) (Q : Post) : fnE1 Φ ir_f77 [a0, a1] H Q = f77 Φ a0 a1 H Q := by kernel_rfl
def f78_k1 (Φ : Calls') (s9 : List AV × AH) (L10 : (List AV × AH) → Prop) (Q : Post) : List AV → AH → Prop := fun j13 H14 =>
 Do (abin .add (sl s9.1 0) (.int .i64 1)) fun x27 =>
 L10 ([x27], H14)
def f78_k2 (Φ : Calls') (s9 : List AV × AH) (L10 : (List AV × AH) → Prop) (Q : Post) : List AV → AH → Prop := fun j20 H21 =>
 Gd (sl j20 0) true (
 Q (.bool false) H21) (
 JoinP (f78_k1 Φ s9 L10 Q) [] H21)
def f78_k3 (Φ : Calls') (x15 : AV) (s9 : List AV × AH) (L10 : (List AV × AH) → Prop) (Q : Post) : List AV → AH → Prop := fun j16 H17 =>
 Do (aun .not (sl j16 0)) fun x22 =>
 Gd3 x22 true (
 Do (abin .eql (sl s9.1 0) (.int .i64 0)) fun x23 =>
 Gd3 x23 false (
 Do (abin .neq x15 (.int .u8 95)) fun x24 =>
 Gd3 x24 true (
 Do (abin .lss x15 (.int .u8 48)) fun x25 =>
 Gd3 x25 false (
 Do (abin .gtr x15 (.int .u8 57)) fun x26 =>
 JoinP (f78_k2 Φ s9 L10 Q) [x26] H17) (
 JoinP (f78_k2 Φ s9 L10 Q) [(.bool true)] H17) (
 False)) (
 JoinP (f78_k2 Φ s9 L10 Q) [(.bool false)] H17) (
 False)) (
 JoinP (f78_k2 Φ s9 L10 Q) [(.bool true)] H17) (
 False)) (
 JoinP (f78_k2 Φ s9 L10 Q) [(.bool false)] H17) (
 False)
def f78_l4 (Φ : Calls') (a0 : AV) (Q : Post) : (List AV × AH) → ((List AV × AH) → Prop) → Prop := fun s9 L10 =>
 Do (alen true a0) fun x11 =>
 Do (abin .lss (sl s9.1 0) x11) fun x12 =>
 Gd x12 true (
 Do (aidxs a0 (sl s9.1 0)) fun x15 =>
 Do (abin .geq x15 (.int .u8 97)) fun x18 =>
 Gd3 x18 true (
 Do (abin .leq x15 (.int .u8 122)) fun x19 =>
 JoinP (f78_k3 Φ x15 s9 L10 Q) [x19] s9.2) (
 JoinP (f78_k3 Φ x15 s9 L10 Q) [(.bool false)] s9.2) (
 False)) (
 Q (.bool true) s9.2)
def f78_k5 (Φ : Calls') (a0 : AV) (Q : Post) : List AV → AH → Prop := fun j1 H2 =>
 LoopP (f78_l4 Φ a0 Q) ([(.int .i64 0)], H2)
def f78_k6 (Φ : Calls') (a0 : AV) (Q : Post) : List AV → AH → Prop := fun j3 H4 =>
 Gd (sl j3 0) true (
 Q (.bool false) H4) (
 JoinP (f78_k5 Φ a0 Q) [] H4)
def f78 (Φ : Calls') (a0 : AV) (H : AH) (Q : Post) : Prop :=
 Do (alen true a0) fun x5 =>
 Do (abin .eql x5 (.int .i64 0)) fun x6 =>
 Gd3 x6 false (
 Do (alen true a0) fun x7 =>
 Do (abin .gtr x7 (.int .i64 16)) fun x8 =>
 JoinP (f78_k6 Φ a0 Q) [x8] H) (
 JoinP (f78_k6 Φ a0 Q) [(.bool true)] H) (
 False)
noncomputable def ir_f78 : AFunc := decF Go.Proofs.YtbkkoplgicffgaaGreatDoor.rb.C ⟨78,[],[[3]],none,[],[]⟩
theorem eq_f78 (Φ : Calls') (a0 : AV) (H : AH) (Q : Post) : fnE1 Φ ir_f78 [a0] H Q = f78 Φ a0 H Q := by kernel_rfl
def f79 (Φ : Calls') (H : AH) (Q : Post) : Prop :=
 DoH (abslice H false 1 34 [.str []] [(0, 1, (.str [118, 97, 114])), (1, 1, (.str [116, 104, 114, 101, 97, 100])), (2, 1, (.str [115, 116, 114, 117, 99, 116])), (3, 1, (.str [117, 110, 105, 111, 110])), (4, 1, (.str [112, 97, 99, 107, 101, 100])), (5, 1, (.str [117, 56])), (6, 1, (.str [117, 49, 54])), (7, 1, (.str [117, 51, 50])), (8, 1, (.str [117, 54, 52])), (9, 1, (.str [97, 56])), (10, 1, (.str [97, 49, 54])), (11, 1, (.str [97, 51, 50])), (12, 1, (.str [97, 54, 52])), (13, 1, (.str [97, 49, 50, 56])), (14, 1, (.str [108, 101, 116])), (15, 1, (.str [115, 101, 116])), (16, 1, (.str [119, 114, 105, 116, 101])), (17, 1, (.str [115, 116, 111, 114, 101])), (18, 1, (.str [108, 111, 97, 100, 50])), (19, 1, (.str [115, 116, 111, 114, 101, 50])), (20, 1, (.str [102, 101, 110, 99, 101])), (21, 1, (.str [105, 102])), (22, 1, (.str [101, 108, 115, 101])), (23, 1, (.str [119, 104, 105, 108, 101])), (24, 1, (.str [112, 114, 105, 110, 116])), (25, 1, (.str [114, 101, 97, 100])), (26, 1, (.str [108, 111, 97, 100])), (27, 1, (.str [97, 100, 100])), (28, 1, (.str [115, 119, 97, 112])), (29, 1, (.str [99, 97, 115])), (30, 1, (.str [114, 108, 120])), (31, 1, (.str [97, 99, 113])), (32, 1, (.str [114, 101, 108])), (33, 1, (.str [115, 99]))]) fun x1 H2 =>
 Q x1 H2
noncomputable def ir_f79 : AFunc := decF Go.Proofs.YtbkkoplgicffgaaGreatDoor.rb.C ⟨79,[],[],none,[],[]⟩
theorem eq_f79 (Φ : Calls') (H : AH) (Q : Post) : fnE1 Φ ir_f79 [] H Q = f79 Φ H Q := by kernel_rfl
def f80 (Φ : Calls') (a0 : AV) (H : AH) (Q : Post) : Prop :=
 Do (anilck a0) fun x1 =>
 Do (afaddr 0 x1) fun x2 =>
 Do (aload H 1 false x2) fun x3 =>
 Do (anilck a0) fun x4 =>
 Do (afaddr 1 x4) fun x5 =>
 Do (aload H 1 false x5) fun x6 =>
 Do (aidxs x3 x6) fun x7 =>
 Do (abin .eql x7 (.int .u8 10)) fun x8 =>
 Gd x8 true (
 Do (anilck a0) fun x9 =>
 Do (afaddr 2 x9) fun x10 =>
 Do (aload H 1 false x10) fun x11 =>
 Do (abin .add x11 (.int .i64 1)) fun x12 =>
 Do (anilck a0) fun x13 =>
 Do (afaddr 2 x13) fun x14 =>
 Do (astore H 1 x14 x12) fun H15 =>
 Do (anilck a0) fun x16 =>
 Do (afaddr 1 x16) fun x17 =>
 Do (aload H15 1 false x17) fun x18 =>
 Do (abin .add x18 (.int .i64 1)) fun x19 =>
 Do (anilck a0) fun x20 =>
 Do (afaddr 1 x20) fun x21 =>
 Do (astore H15 1 x21 x19) fun H22 =>
 Q (.bool true) H22) (
 Do (abin .eql x7 (.int .u8 32)) fun x23 =>
 Gd x23 true (
 Do (anilck a0) fun x24 =>
 Do (afaddr 1 x24) fun x25 =>
 Do (aload H 1 false x25) fun x26 =>
 Do (abin .add x26 (.int .i64 1)) fun x27 =>
 Do (anilck a0) fun x28 =>
 Do (afaddr 1 x28) fun x29 =>
 Do (astore H 1 x29 x27) fun H30 =>
 Q (.bool true) H30) (
Φ K.f102 [x7] H fun x31 H32 =>
 Gd x31 true (
Φ K.f103 [a0] H32 fun x33 H34 =>
 Q x33 H34) (
Φ K.f104 [x7] H32 fun x35 H36 =>
 Gd x35 true (
Φ K.f105 [a0] H36 fun x37 H38 =>
 Q x37 H38) (
Φ K.f106 [a0] H36 fun x39 H40 =>
 Q x39 H40))))
noncomputable def ir_f80 : AFunc := decF Go.Proofs.YtbkkoplgicffgaaGreatDoor.rb.C ⟨80,[],[],none,[],[]⟩
theorem eq_f80 (Φ : Calls') (a0 : AV) (H : AH) (Q : Post) : fnE1 Φ ir_f80 [a0] H Q = f80 Φ a0 H Q := by kernel_rfl
def f81 (Φ : Calls') (a0 a1 : AV) (H : AH) (Q : Post) : Prop :=
Φ K.f107 [a0, a1] H fun x1 H2 =>
 Do (abin .geq x1 (.int .i64 0)) fun x3 =>
 Q x3 H2
noncomputable def ir_f81 : AFunc := decF Go.Proofs.YtbkkoplgicffgaaGreatDoor.rb.C ⟨81,[],[],none,[],[]⟩
theorem eq_f81 (Φ : Calls') (a0 a1 : AV) (H : AH) (Q : Post) : fnE1 Φ ir_f81 [a0, a1] H Q = f81 Φ a0 a1 H Q := by kernel_rfl
def f83_k1 (Φ : Calls') (a0 : AV) (Q : Post) : List AV → AH → Prop := fun j1 H2 =>
 Gd3 (sl j1 0) true (
 Do (aidxs a0 (.int .i64 0)) fun x6 =>
 Do (abin .leq x6 (.int .u8 57)) fun x7 =>
 Q x7 H2) (
 Q (.bool false) H2) (
 False)
def f83 (Φ : Calls') (a0 : AV) (H : AH) (Q : Post) : Prop :=
 Do (abin .neq a0 (.str [])) fun x3 =>
 Gd3 x3 true (
 Do (aidxs a0 (.int .i64 0)) fun x4 =>
 Do (abin .geq x4 (.int .u8 48)) fun x5 =>
 JoinP (f83_k1 Φ a0 Q) [x5] H) (
 JoinP (f83_k1 Φ a0 Q) [(.bool false)] H) (
 False)
noncomputable def ir_f83 : AFunc := decF Go.Proofs.YtbkkoplgicffgaaGreatDoor.rb.C ⟨83,[],[],none,[],[]⟩
theorem eq_f83 (Φ : Calls') (a0 : AV) (H : AH) (Q : Post) : fnE1 Φ ir_f83 [a0] H Q = f83 Φ a0 H Q := by kernel_rfl
def f85 (Φ : Calls') (a0 a1 : AV) (H : AH) (Q : Post) : Prop :=
Φ K.f22 [a0, (.str [61])] H fun x1 H2 =>
 Do (abin .add a1 (.int .i64 1)) fun x3 =>
Φ K.f88 [a0, x3] H2 fun x4 H5 =>
 DoH (abslice H5 false 8 1 [.int .i64 0, .int .u64 0, .str [], .int .i64 0, .int .i64 0, .str [], .lst .nil 0 [], .lst .nil 0 []] [(0, 8, x4)]) fun x6 H7 =>
 Q x6 H7
noncomputable def ir_f85 : AFunc := decF Go.Proofs.YtbkkoplgicffgaaGreatDoor.rb.C ⟨85,[],[],none,[],[]⟩
def f86_k1 (Φ : Calls') (x1 x6 : AV) (Q : Post) : List AV → AH → Prop := fun j9 H10 =>
 Do (aload H10 2 true x6) fun x50 =>
 Do (astore H10 2 x1 x50) fun H51 =>
 Do (aload H51 2 true x1) fun x52 =>
 Q x52 H51
def f86_l2 (Φ : Calls') (a0 a1 x1 x6 : AV) (Q : Post) : (List AV × AH) → ((List AV × AH) → Prop) → Prop := fun s11 L12 =>
Φ K.f43 [a0] s11.2 fun x13 H14 =>
 Do (aun .not x13) fun x15 =>
 Gd x15 true (
Φ K.f19 [a0, (.str [46])] H14 fun x16 H17 =>
 Gd x16 true (
 Do (afaddr 1 x6) fun x18 =>
 Do (aload H17 1 false x18) fun x19 =>
Φ K.f20 [a0] H17 fun x20 H21 =>
(aload H21 1 false x18 = some x19) ∧
(Do (abuild [.str [], .lst .nil 0 []] [(0, 1, x20)]) fun x22 =>
 DoH (abslice H21 false 2 1 [.str [], .lst .nil 0 []] [(0, 2, x22)]) fun x23 H24 =>
 DoH (aappend H24 false 2 40 x19 x23) fun x25 H26 =>
 Do (afaddr 1 x6) fun x27 =>
 Do (astore H26 1 x27 x25) fun H28 =>
 L12 ([], H28))) (
Φ K.f19 [a0, (.str [91])] H17 fun x29 H30 =>
 Gd x29 true (
 Do (afaddr 1 x6) fun x31 =>
 Do (aload H30 1 false x31) fun x32 =>
 Do (abin .add a1 (.int .i64 1)) fun x33 =>
Φ K.f88 [a0, x33] H30 fun x34 H35 =>
(aload H35 1 false x31 = some x32) ∧
(DoH (abslice H35 false 8 1 [.int .i64 0, .int .u64 0, .str [], .int .i64 0, .int .i64 0, .str [], .lst .nil 0 [], .lst .nil 0 []] [(0, 8, x34)]) fun x36 H37 =>
 Do (abuild [.str [], .lst .nil 0 []] [(1, 1, x36)]) fun x38 =>
 DoH (abslice H37 false 2 1 [.str [], .lst .nil 0 []] [(0, 2, x38)]) fun x39 H40 =>
 DoH (aappend H40 false 2 40 x32 x39) fun x41 H42 =>
 Do (afaddr 1 x6) fun x43 =>
 Do (astore H42 1 x43 x41) fun H44 =>
Φ K.f22 [a0, (.str [93])] H44 fun x45 H46 =>
 L12 ([], H46))) (
 Do (aload H30 2 true x6) fun x47 =>
 Do (astore H30 2 x1 x47) fun H48 =>
 Do (aload H48 2 true x1) fun x49 =>
 Q x49 H48))) (
 JoinP (f86_k1 Φ x1 x6 Q) [] H14)
def f86 (Φ : Calls') (a0 a1 : AV) (H : AH) (Q : Post) : Prop :=
 DoH (some (abox H true [.str [], .lst .nil 0 []])) fun x1 H2 =>
Φ K.f20 [a0] H2 fun x3 H4 =>
 Do (abuild [.str [], .lst .nil 0 []] [(0, 1, x3)]) fun x5 =>
 DoH (some (abox H4 true [.str [], .lst .nil 0 []])) fun x6 H7 =>
 Do (astore H7 2 x6 x5) fun H8 =>
 LoopP (f86_l2 Φ a0 a1 x1 x6 Q) ([], H8)
noncomputable def ir_f86 : AFunc := decF Go.Proofs.YtbkkoplgicffgaaGreatDoor.rb.C ⟨86,[4,5],[[]],none,[],[]⟩
def f87_k1 (Φ : Calls') (a0 : AV) (Q : Post) : List AV → AH → Prop := fun j1 H2 =>
Φ K.f48 [a0, (.int .i64 4)] H2 fun x12 H13 =>
 Q (.int .i64 0) H13
def f87_l2 (Φ : Calls') (a0 x3 : AV) (Q : Post) : (List AV × AH) → ((List AV × AH) → Prop) → Prop := fun s4 L5 =>
 Do (abin .lss (sl s4.1 0) (.int .i64 4)) fun x6 =>
 Gd x6 true (
 Do (aidx 4 1 false x3 (sl s4.1 0)) fun x7 =>
Φ K.f19 [a0, x7] s4.2 fun x8 H9 =>
 Gd x8 true (
 Do (abin .add (sl s4.1 0) (.int .i64 1)) fun x10 =>
 Q x10 H9) (
 Do (abin .add (sl s4.1 0) (.int .i64 1)) fun x11 =>
 L5 ([x11], H9))) (
 JoinP (f87_k1 Φ a0 Q) [] s4.2)
def f87 (Φ : Calls') (a0 : AV) (H : AH) (Q : Post) : Prop :=
 Do (abuild [.str [], .str [], .str [], .str []] [(0, 1, (.str [114, 108, 120])), (1, 1, (.str [97, 99, 113])), (2, 1, (.str [114, 101, 108])), (3, 1, (.str [115, 99]))]) fun x3 =>
 LoopP (f87_l2 Φ a0 x3 Q) ([(.int .i64 0)], H)
noncomputable def ir_f87 : AFunc := decF Go.Proofs.YtbkkoplgicffgaaGreatDoor.rb.C ⟨87,[],[[6]],none,[],[]⟩
def f88_k1 (Φ : Calls') (a0 x1 : AV) (Q : Post) : List AV → AH → Prop := fun j9 H10 =>
Φ K.f48 [a0, (.int .i64 4)] H10 fun x68 H69 =>
 Do (abuild [.int .i64 0, .int .u64 0, .str [], .int .i64 0, .int .i64 0, .str [], .lst .nil 0 [], .lst .nil 0 []] []) fun x70 =>
 Do (astore H69 8 x1 x70) fun H71 =>
 Do (aload H71 8 true x1) fun x72 =>
 Q x72 H71
def f88_k2 (Φ : Calls') (a0 a1 x1 : AV) (Q : Post) : List AV → AH → Prop := fun j20 H21 =>
 Gd (sl j20 0) true (
Φ K.f45 [a0] H21 fun x27 H28 =>
 Do (abuild [.int .i64 0, .int .u64 0, .str [], .int .i64 0, .int .i64 0, .str [], .lst .nil 0 [], .lst .nil 0 []] [(0, 1, (.int .i64 2)), (2, 1, x27)]) fun x29 =>
 Do (astore H28 8 x1 x29) fun H30 =>
 Do (aload H30 8 true x1) fun x31 =>
 Q x31 H30) (
Φ K.f19 [a0, (.str [40])] H21 fun x32 H33 =>
 Gd x32 true (
Φ K.f112 [a0, a1] H33 fun x34 H35 =>
 Do (astore H35 8 x1 x34) fun H36 =>
 Do (aload H36 8 true x1) fun x37 =>
 Q x37 H36) (
Φ K.f19 [a0, (.str [114, 101, 97, 100])] H33 fun x38 H39 =>
 Gd x38 true (
Φ K.f113 [a0, (.int .i64 4), (.int .i64 0), a1] H39 fun x40 H41 =>
 Do (astore H41 8 x1 x40) fun H42 =>
 Do (aload H42 8 true x1) fun x43 =>
 Q x43 H42) (
Φ K.f19 [a0, (.str [108, 111, 97, 100])] H39 fun x44 H45 =>
 Gd x44 true (
Φ K.f113 [a0, (.int .i64 5), (.int .i64 0), a1] H45 fun x46 H47 =>
 Do (astore H47 8 x1 x46) fun H48 =>
 Do (aload H48 8 true x1) fun x49 =>
 Q x49 H48) (
Φ K.f19 [a0, (.str [97, 100, 100])] H45 fun x50 H51 =>
 Gd x50 true (
Φ K.f113 [a0, (.int .i64 6), (.int .i64 1), a1] H51 fun x52 H53 =>
 Do (astore H53 8 x1 x52) fun H54 =>
 Do (aload H54 8 true x1) fun x55 =>
 Q x55 H54) (
Φ K.f19 [a0, (.str [115, 119, 97, 112])] H51 fun x56 H57 =>
 Gd x56 true (
Φ K.f113 [a0, (.int .i64 7), (.int .i64 1), a1] H57 fun x58 H59 =>
 Do (astore H59 8 x1 x58) fun H60 =>
 Do (aload H60 8 true x1) fun x61 =>
 Q x61 H60) (
Φ K.f19 [a0, (.str [99, 97, 115])] H57 fun x62 H63 =>
 Gd x62 true (
Φ K.f113 [a0, (.int .i64 8), (.int .i64 2), a1] H63 fun x64 H65 =>
 Do (astore H65 8 x1 x64) fun H66 =>
 Do (aload H66 8 true x1) fun x67 =>
 Q x67 H66) (
 JoinP (f88_k1 Φ a0 x1 Q) [] H63)))))))
def f88 (Φ : Calls') (a0 a1 : AV) (H : AH) (Q : Post) : Prop :=
 DoH (some (abox H true [.int .i64 0, .int .u64 0, .str [], .int .i64 0, .int .i64 0, .str [], .lst .nil 0 [], .lst .nil 0 []])) fun x1 H2 =>
Φ K.f49 [a0, a1] H2 fun x3 H4 =>
 Do (aun .not x3) fun x5 =>
 Gd x5 true (
 Do (abuild [.int .i64 0, .int .u64 0, .str [], .int .i64 0, .int .i64 0, .str [], .lst .nil 0 [], .lst .nil 0 []] []) fun x6 =>
 Do (astore H4 8 x1 x6) fun H7 =>
 Do (aload H7 8 true x1) fun x8 =>
 Q x8 H7) (
Φ K.f44 [a0] H4 fun x11 H12 =>
Φ K.f83 [x11] H12 fun x13 H14 =>
 Gd x13 true (
Φ K.f52 [a0, (.int .u64 18446744073709551615)] H14 fun x15 H16 =>
 Do (abuild [.int .i64 0, .int .u64 0, .str [], .int .i64 0, .int .i64 0, .str [], .lst .nil 0 [], .lst .nil 0 []] [(0, 1, (.int .i64 1)), (1, 1, x15)]) fun x17 =>
 Do (astore H16 8 x1 x17) fun H18 =>
 Do (aload H18 8 true x1) fun x19 =>
 Q x19 H18) (
Φ K.f46 [x11] H14 fun x22 H23 =>
 Gd3 x22 true (
Φ K.f47 [x11] H23 fun x24 H25 =>
 Do (aun .not x24) fun x26 =>
 JoinP (f88_k2 Φ a0 a1 x1 Q) [x26] H25) (
 JoinP (f88_k2 Φ a0 a1 x1 Q) [(.bool false)] H23) (
 False)))
noncomputable def ir_f88 : AFunc := decF Go.Proofs.YtbkkoplgicffgaaGreatDoor.rb.C ⟨88,[4],[],none,[],[]⟩
def f89_k1 (Φ : Calls') (x1 x3 : AV) (Q : Post) : List AV → AH → Prop := fun j23 H24 =>
 Do (aload H24 10 true x1) fun x37 =>
 Do (astore H24 10 x3 x37) fun H38 =>
 Do (aload H38 10 true x3) fun x39 =>
 Q x39 H38
def f89_k2 (Φ : Calls') (a0 a2 x1 x3 : AV) (Q : Post) : List AV → AH → Prop := fun j25 H26 =>
 Gd (sl j25 0) true (
 Do (abin .add a2 (.int .i64 1)) fun x32 =>
Φ K.f23 [a0, x32] H26 fun x33 H34 =>
 Do (afaddr 9 x1) fun x35 =>
 Do (astore H34 1 x35 x33) fun H36 =>
 JoinP (f89_k1 Φ x1 x3 Q) [] H36) (
 JoinP (f89_k1 Φ x1 x3 Q) [] H26)
def f89_k3 (Φ : Calls') (a0 a2 x1 x3 : AV) (Q : Post) : List AV → AH → Prop := fun j5 H6 =>
 Do (abin .add a2 (.int .i64 1)) fun x11 =>
Φ K.f88 [a0, x11] H6 fun x12 H13 =>
 DoH (abslice H13 false 8 1 [.int .i64 0, .int .u64 0, .str [], .int .i64 0, .int .i64 0, .str [], .lst .nil 0 [], .lst .nil 0 []] [(0, 8, x12)]) fun x14 H15 =>
 Do (afaddr 7 x1) fun x16 =>
 Do (astore H15 1 x16 x14) fun H17 =>
 Do (abin .add a2 (.int .i64 1)) fun x18 =>
Φ K.f23 [a0, x18] H17 fun x19 H20 =>
 Do (afaddr 8 x1) fun x21 =>
 Do (astore H20 1 x21 x19) fun H22 =>
 Do (afaddr 0 x1) fun x27 =>
 Do (aload H22 1 false x27) fun x28 =>
 Do (abin .eql x28 (.int .i64 8)) fun x29 =>
 Gd3 x29 true (
Φ K.f19 [a0, (.str [101, 108, 115, 101])] H22 fun x30 H31 =>
 JoinP (f89_k2 Φ a0 a2 x1 x3 Q) [x30] H31) (
 JoinP (f89_k2 Φ a0 a2 x1 x3 Q) [(.bool false)] H22) (
 False)
def f89 (Φ : Calls') (a0 a1 a2 : AV) (H : AH) (Q : Post) : Prop :=
 DoH (aboxv H true 10 a1) fun x1 H2 =>
 DoH (some (abox H2 true [.int .i64 0, .int .i64 0, .str [], .str [], .int .i64 0, .str [], .lst .nil 0 [], .lst .nil 0 [], .lst .nil 0 [], .lst .nil 0 []])) fun x3 H4 =>
Φ K.f19 [a0, (.str [105, 102])] H4 fun x7 H8 =>
 Gd x7 true (
 Do (afaddr 0 x1) fun x9 =>
 Do (astore H8 1 x9 (.int .i64 8)) fun H10 =>
 JoinP (f89_k3 Φ a0 a2 x1 x3 Q) [] H10) (
Φ K.f19 [a0, (.str [119, 104, 105, 108, 101])] H8 fun x40 H41 =>
 Gd x40 true (
 Do (afaddr 0 x1) fun x42 =>
 Do (astore H41 1 x42 (.int .i64 9)) fun H43 =>
 JoinP (f89_k3 Φ a0 a2 x1 x3 Q) [] H43) (
Φ K.f48 [a0, (.int .i64 4)] H41 fun x44 H45 =>
 Do (aload H45 10 true x1) fun x46 =>
 Do (astore H45 10 x3 x46) fun H47 =>
 Do (aload H47 10 true x3) fun x48 =>
 Q x48 H47))
noncomputable def ir_f89 : AFunc := decF Go.Proofs.YtbkkoplgicffgaaGreatDoor.rb.C ⟨89,[4,6],[],none,[],[]⟩
def f90 (Φ : Calls') (a0 a1 : AV) (H : AH) (Q : Post) : Prop :=
Φ K.f114 [a0, a1] H fun x1 H2 =>
 Q x1 H2
noncomputable def ir_f90 : AFunc := decF Go.Proofs.YtbkkoplgicffgaaGreatDoor.rb.C ⟨90,[],[],none,[],[]⟩
def f91_k1 (Φ : Calls') (s12 : List AV × AH) (L13 : (List AV × AH) → Prop) (Q : Post) : List AV → AH → Prop := fun j15 H16 =>
 Do (abin .add (sl s12.1 0) (.int .i64 1)) fun x40 =>
 L13 ([x40], H16)
def f91_l2 (Φ : Calls') (a0 x10 x11 : AV) (Q : Post) : (List AV × AH) → ((List AV × AH) → Prop) → Prop := fun s12 L13 =>
 Do (abin .lss (sl s12.1 0) x11) fun x14 =>
 Gd x14 true (
 Do (aiaddr none 2 x10 (sl s12.1 0)) fun x17 =>
 Do (aload s12.2 2 true x17) fun x18 =>
 DoH (some (abox s12.2 true [.str [], .lst .nil 0 []])) fun x19 H20 =>
 Do (astore H20 2 x19 x18) fun H21 =>
 Do (afaddr 1 x19) fun x22 =>
 Do (aload H21 1 false x22) fun x23 =>
 Do (alen false x23) fun x24 =>
 Do (abin .eql x24 (.int .i64 1)) fun x25 =>
 Gd x25 true (
 DoH (abslice H21 false 1 1 [.str []] [(0, 1, (.str [91]))]) fun x26 H27 =>
Φ K.f26 [a0, x26] H27 fun x28 H29 =>
 Do (afaddr 1 x19) fun x30 =>
 Do (aload H29 1 false x30) fun x31 =>
 Do (aiaddr none 8 x31 (.int .i64 0)) fun x32 =>
 Do (aload H29 8 true x32) fun x33 =>
Φ K.f55 [a0, x33] H29 fun x34 H35 =>
 DoH (abslice H35 false 1 1 [.str []] [(0, 1, (.str [93]))]) fun x36 H37 =>
Φ K.f26 [a0, x36] H37 fun x38 H39 =>
 JoinP (f91_k1 Φ s12 L13 Q) [] H39) (
 Do (afaddr 0 x19) fun x41 =>
 Do (aload H21 1 false x41) fun x42 =>
 DoH (abslice H21 false 1 2 [.str []] [(0, 1, (.str [46])), (1, 1, x42)]) fun x43 H44 =>
Φ K.f26 [a0, x43] H44 fun x45 H46 =>
 JoinP (f91_k1 Φ s12 L13 Q) [] H46)) (
 Q (.tup []) s12.2)
def f91 (Φ : Calls') (a0 a1 : AV) (H : AH) (Q : Post) : Prop :=
 DoH (aboxv H false 2 a1) fun x1 H2 =>
 Do (afaddr 0 x1) fun x3 =>
 Do (aload H2 1 false x3) fun x4 =>
 DoH (abslice H2 false 1 1 [.str []] [(0, 1, x4)]) fun x5 H6 =>
Φ K.f26 [a0, x5] H6 fun x7 H8 =>
 Do (afaddr 1 x1) fun x9 =>
 Do (aload H8 1 false x9) fun x10 =>
 Do (alen false x10) fun x11 =>
 LoopP (f91_l2 Φ a0 x10 x11 Q) ([(.int .i64 0)], H8)
noncomputable def ir_f91 : AFunc := decF Go.Proofs.YtbkkoplgicffgaaGreatDoor.rb.C ⟨91,[5],[[14]],none,[],[]⟩
def f92 (Φ : Calls') (a0 a1 : AV) (H : AH) (Q : Post) : Prop :=
 Do (abin .sub a1 (.int .i64 1)) fun x1 =>
 DoH (abslice H false 1 4 [.str []] [(0, 1, (.str [114, 108, 120])), (1, 1, (.str [97, 99, 113])), (2, 1, (.str [114, 101, 108])), (3, 1, (.str [115, 99]))]) fun x2 H3 =>
Φ K.f61 [x1, x2] H3 fun x4 H5 =>
 DoH (abslice H5 false 1 1 [.str []] [(0, 1, x4)]) fun x6 H7 =>
Φ K.f26 [a0, x6] H7 fun x8 H9 =>
 Q (.tup []) H9
noncomputable def ir_f92 : AFunc := decF Go.Proofs.YtbkkoplgicffgaaGreatDoor.rb.C ⟨92,[],[],none,[],[]⟩
def f93_l1 (Φ : Calls') (a0 a1 x1 : AV) (Q : Post) : (List AV × AH) → ((List AV × AH) → Prop) → Prop := fun s2 L3 =>
 Do (abin .lss (sl s2.1 0) x1) fun x4 =>
 Gd x4 true (
 Do (aiaddr none 8 a0 (sl s2.1 0)) fun x5 =>
 Do (aload s2.2 8 true x5) fun x6 =>
 DoH (some (abox s2.2 true [.int .i64 0, .int .u64 0, .str [], .int .i64 0, .int .i64 0, .str [], .lst .nil 0 [], .lst .nil 0 []])) fun x7 H8 =>
 Do (astore H8 8 x7 x6) fun H9 =>
 Do (aload H9 8 true x7) fun x10 =>
∃ k13 c14, a1 = .fn k13 c14 ∧ Φ (fkey k13) (fargs k13 [x10] c14) H9 fun x11 H12 =>
 Do (abin .add (sl s2.1 0) (.int .i64 1)) fun x15 =>
 L3 ([x15], H12)) (
 Q (.tup []) s2.2)
def f93 (Φ : Calls') (a0 a1 : AV) (H : AH) (Q : Post) : Prop :=
 Do (alen false a0) fun x1 =>
 LoopP (f93_l1 Φ a0 a1 x1 Q) ([(.int .i64 0)], H)
noncomputable def ir_f93 : AFunc := decF Go.Proofs.YtbkkoplgicffgaaGreatDoor.rb.C ⟨93,[5],[[8]],none,[],[]⟩
def f95 (Φ : Calls') (a0 : AV) (H : AH) (Q : Post) : Prop :=
Φ K.f116 [a0] H fun x1 H2 =>
 Q x1 H2
noncomputable def ir_f95 : AFunc := decF Go.Proofs.YtbkkoplgicffgaaGreatDoor.rb.C ⟨95,[],[],none,[],[]⟩
def f96_k1 (Φ : Calls') (s2 : List AV × AH) (L3 : (List AV × AH) → Prop) (Q : Post) : List AV → AH → Prop := fun j5 H6 =>
 Do (abin .add (sl s2.1 0) (.int .i64 1)) fun x22 =>
 L3 ([x22], H6)
def f96_k2 (Φ : Calls') (a0 x9 : AV) (s2 : List AV × AH) (L3 : (List AV × AH) → Prop) (Q : Post) : List AV → AH → Prop := fun j12 H13 =>
 Do (aload H13 8 true x9) fun x19 =>
Φ K.f55 [a0, x19] H13 fun x20 H21 =>
 JoinP (f96_k1 Φ s2 L3 Q) [] H21
def f96_l3 (Φ : Calls') (a0 a1 x1 : AV) (Q : Post) : (List AV × AH) → ((List AV × AH) → Prop) → Prop := fun s2 L3 =>
 Do (abin .lss (sl s2.1 0) x1) fun x4 =>
 Gd x4 true (
 Do (aiaddr none 8 a1 (sl s2.1 0)) fun x7 =>
 Do (aload s2.2 8 true x7) fun x8 =>
 DoH (some (abox s2.2 true [.int .i64 0, .int .u64 0, .str [], .int .i64 0, .int .i64 0, .str [], .lst .nil 0 [], .lst .nil 0 []])) fun x9 H10 =>
 Do (astore H10 8 x9 x8) fun H11 =>
 Do (abin .gtr (sl s2.1 0) (.int .i64 0)) fun x14 =>
 Gd x14 true (
 DoH (abslice H11 false 1 1 [.str []] [(0, 1, (.str [44]))]) fun x15 H16 =>
Φ K.f26 [a0, x15] H16 fun x17 H18 =>
 JoinP (f96_k2 Φ a0 x9 s2 L3 Q) [] H18) (
 JoinP (f96_k2 Φ a0 x9 s2 L3 Q) [] H11)) (
 Q (.tup []) s2.2)
def f96 (Φ : Calls') (a0 a1 : AV) (H : AH) (Q : Post) : Prop :=
 Do (alen false a1) fun x1 =>
 LoopP (f96_l3 Φ a0 a1 x1 Q) ([(.int .i64 0)], H)
noncomputable def ir_f96 : AFunc := decF Go.Proofs.YtbkkoplgicffgaaGreatDoor.rb.C ⟨96,[5],[[8]],none,[],[]⟩
def f97_l1 (Φ : Calls') (a0 a1 a2 x4 : AV) (Q : Post) : (List AV × AH) → ((List AV × AH) → Prop) → Prop := fun s5 L6 =>
 Do (abin .lss (sl s5.1 0) x4) fun x7 =>
 Gd x7 true (
 Do (aiaddr none 2 a0 (sl s5.1 0)) fun x8 =>
 Do (aload s5.2 2 true x8) fun x9 =>
 DoH (some (abox s5.2 true [.str [], .lst .nil 0 []])) fun x10 H11 =>
 Do (astore H11 2 x10 x9) fun H12 =>
 Do (aiaddr none 2 a1 (sl s5.1 0)) fun x13 =>
 Do (aload H12 2 true x13) fun x14 =>
 DoH (some (abox H12 true [.str [], .lst .nil 0 []])) fun x15 H16 =>
 Do (astore H16 2 x15 x14) fun H17 =>
 Do (aload H17 2 true x10) fun x18 =>
 Do (aload H17 2 true x15) fun x19 =>
∃ k22 c23, a2 = .fn k22 c23 ∧ Φ (fkey k22) (fargs k22 [x18, x19] c23) H17 fun x20 H21 =>
 Do (aun .not x20) fun x24 =>
 Gd x24 true (
 Q (.bool false) H21) (
 Do (abin .add (sl s5.1 0) (.int .i64 1)) fun x25 =>
 L6 ([x25], H21))) (
 Q (.bool true) s5.2)
def f97 (Φ : Calls') (a0 a1 a2 : AV) (H : AH) (Q : Post) : Prop :=
 Do (alen false a0) fun x1 =>
 Do (alen false a1) fun x2 =>
 Do (abin .neq x1 x2) fun x3 =>
 Gd x3 true (
 Q (.bool false) H) (
 Do (alen false a0) fun x4 =>
 LoopP (f97_l1 Φ a0 a1 a2 x4 Q) ([(.int .i64 0)], H))
noncomputable def ir_f97 : AFunc := decF Go.Proofs.YtbkkoplgicffgaaGreatDoor.rb.C ⟨97,[8,9],[[17]],none,[],[]⟩
def f98 (Φ : Calls') (a0 a1 : AV) (H : AH) (Q : Post) : Prop :=
 DoH (aboxv H false 2 a0) fun x1 H2 =>
 DoH (aboxv H2 false 2 a1) fun x3 H4 =>
 Do (afaddr 0 x1) fun x5 =>
 Do (aload H4 1 false x5) fun x6 =>
 Do (afaddr 0 x3) fun x7 =>
 Do (aload H4 1 false x7) fun x8 =>
 Do (abin .eql x6 x8) fun x9 =>
 Gd3 x9 true (
 Do (afaddr 1 x1) fun x10 =>
 Do (aload H4 1 false x10) fun x11 =>
 Do (afaddr 1 x3) fun x12 =>
 Do (aload H4 1 false x12) fun x13 =>
Φ K.f72 [x11, x13, (.fn K.f56 [])] H4 fun x14 H15 =>
 Q x14 H15) (
 Q (.bool false) H4) (
 False)
noncomputable def ir_f98 : AFunc := decF Go.Proofs.YtbkkoplgicffgaaGreatDoor.rb.C ⟨98,[],[],none,[],[]⟩
def f99 (Φ : Calls') (a0 a1 : AV) (H : AH) (Q : Post) : Prop :=
 Do (anilck a0) fun x1 =>
 Do (aiaddr (some 256) 1 x1 a1) fun x2 =>
 Do (aload H 1 false x2) fun x3 =>
 Q x3 H
noncomputable def ir_f99 : AFunc := decF Go.Proofs.YtbkkoplgicffgaaGreatDoor.rb.C ⟨99,[],[],none,[],[]⟩
theorem eq_f99 (Φ : Calls') (a0 a1 : AV) (H : AH) (Q : Post) : fnE1 Φ ir_f99 [a0, a1] H Q = f99 Φ a0 a1 H Q := by kernel_rfl
def f102 (Φ : Calls') (a0 : AV) (H : AH) (Q : Post) : Prop :=
 Do (abin .geq a0 (.int .u8 97)) fun x1 =>
 Gd3 x1 true (
 Do (abin .leq a0 (.int .u8 122)) fun x2 =>
 Q x2 H) (
 Q (.bool false) H) (
 False)
noncomputable def ir_f102 : AFunc := decF Go.Proofs.YtbkkoplgicffgaaGreatDoor.rb.C ⟨102,[],[],none,[],[]⟩
theorem eq_f102 (Φ : Calls') (a0 : AV) (H : AH) (Q : Post) : fnE1 Φ ir_f102 [a0] H Q = f102 Φ a0 H Q := by kernel_rfl
def f103 (Φ : Calls') (a0 : AV) (H : AH) (Q : Post) : Prop :=
Φ K.f120 [a0, (.fn K.f121 [])] H fun x1 H2 =>
 Do (abin .gtr x1 (.int .i64 16)) fun x3 =>
 Gd x3 true (
 Q (.bool false) H2) (
Φ K.f122 [a0, x1] H2 fun x4 H5 =>
 Q (.bool true) H5)
noncomputable def ir_f103 : AFunc := decF Go.Proofs.YtbkkoplgicffgaaGreatDoor.rb.C ⟨103,[],[],none,[],[]⟩
theorem eq_f103 (Φ : Calls') (a0 : AV) (H : AH) (Q : Post) : fnE1 Φ ir_f103 [a0] H Q = f103 Φ a0 H Q := by kernel_rfl
def f104 (Φ : Calls') (a0 : AV) (H : AH) (Q : Post) : Prop :=
 Do (abin .geq a0 (.int .u8 48)) fun x1 =>
 Gd3 x1 true (
 Do (abin .leq a0 (.int .u8 57)) fun x2 =>
 Q x2 H) (
 Q (.bool false) H) (
 False)
noncomputable def ir_f104 : AFunc := decF Go.Proofs.YtbkkoplgicffgaaGreatDoor.rb.C ⟨104,[],[],none,[],[]⟩
theorem eq_f104 (Φ : Calls') (a0 : AV) (H : AH) (Q : Post) : fnE1 Φ ir_f104 [a0] H Q = f104 Φ a0 H Q := by kernel_rfl
def f105_k1 (Φ : Calls') (a0 x1 : AV) (Q : Post) : List AV → AH → Prop := fun j26 H27 =>
Φ K.f122 [a0, x1] H27 fun x42 H43 =>
 Q (.bool true) H43
def f105_k2 (Φ : Calls') (a0 x1 : AV) (Q : Post) : List AV → AH → Prop := fun j36 H37 =>
 Gd (sl j36 0) true (
 Q (.bool false) H37) (
 JoinP (f105_k1 Φ a0 x1 Q) [] H37)
def f105_k3 (Φ : Calls') (a0 x1 : AV) (Q : Post) : List AV → AH → Prop := fun j18 H19 =>
 Do (anilck a0) fun x28 =>
 Do (afaddr 0 x28) fun x29 =>
 Do (aload H19 1 false x29) fun x30 =>
 Do (anilck a0) fun x31 =>
 Do (afaddr 1 x31) fun x32 =>
 Do (aload H19 1 false x32) fun x33 =>
 Do (abin .add x33 x1) fun x34 =>
 Do (asslice x30 (some x34) none) fun x35 =>
 Do (abin .neq x35 (.str [])) fun x38 =>
 Gd3 x38 true (
 Do (aidxs x35 (.int .i64 0)) fun x39 =>
Φ K.f121 [x39] H19 fun x40 H41 =>
 JoinP (f105_k2 Φ a0 x1 Q) [x40] H41) (
 JoinP (f105_k2 Φ a0 x1 Q) [(.bool false)] H19) (
 False)
def f105_k4 (Φ : Calls') (a0 x1 : AV) (Q : Post) : List AV → AH → Prop := fun j20 H21 =>
 Gd (sl j20 0) true (
 Q (.bool false) H21) (
 JoinP (f105_k3 Φ a0 x1 Q) [] H21)
def f105 (Φ : Calls') (a0 : AV) (H : AH) (Q : Post) : Prop :=
Φ K.f120 [a0, (.fn K.f104 [])] H fun x1 H2 =>
 Do (anilck a0) fun x3 =>
 Do (afaddr 0 x3) fun x4 =>
 Do (aload H2 1 false x4) fun x5 =>
 Do (anilck a0) fun x6 =>
 Do (afaddr 1 x6) fun x7 =>
 Do (aload H2 1 false x7) fun x8 =>
 Do (anilck a0) fun x9 =>
 Do (afaddr 1 x9) fun x10 =>
 Do (aload H2 1 false x10) fun x11 =>
 Do (abin .add x11 x1) fun x12 =>
 Do (asslice x5 (some x8) (some x12)) fun x13 =>
Φ K.f84 [x13, (.int .i64 10), (.int .i64 64)] H2 fun x14 H15 =>
 Do (aextract 0 x14) fun x16 =>
 Do (aextract 1 x14) fun x17 =>
 Do (anil .i true x17) fun x22 =>
 Gd3 x22 false (
 Do (abin .gtr x1 (.int .i64 1)) fun x23 =>
 Gd3 x23 true (
 Do (aidxs x13 (.int .i64 0)) fun x24 =>
 Do (abin .eql x24 (.int .u8 48)) fun x25 =>
 JoinP (f105_k4 Φ a0 x1 Q) [x25] H15) (
 JoinP (f105_k4 Φ a0 x1 Q) [(.bool false)] H15) (
 False)) (
 JoinP (f105_k4 Φ a0 x1 Q) [(.bool true)] H15) (
 False)
noncomputable def ir_f105 : AFunc := decF Go.Proofs.YtbkkoplgicffgaaGreatDoor.rb.C ⟨105,[],[],none,[],[]⟩
theorem eq_f105 (Φ : Calls') (a0 : AV) (H : AH) (Q : Post) : fnE1 Φ ir_f105 [a0] H Q = f105 Φ a0 H Q := by kernel_rfl
def f106_k1 (Φ : Calls') (a0 : AV) (Q : Post) : List AV → AH → Prop := fun j1 H2 =>
 Do (anilck a0) fun x21 =>
 Do (afaddr 0 x21) fun x22 =>
 Do (aload H2 1 false x22) fun x23 =>
 Do (anilck a0) fun x24 =>
 Do (afaddr 1 x24) fun x25 =>
 Do (aload H2 1 false x25) fun x26 =>
 Do (aidxs x23 x26) fun x27 =>
Φ K.f124 [(.str [123, 125, 91, 93, 40, 41, 59, 58, 44, 46, 95, 61, 43, 45, 42, 38, 124, 94, 60]), x27] H2 fun x28 H29 =>
 Do (abin .lss x28 (.int .i64 0)) fun x30 =>
 Gd x30 true (
 Q (.bool false) H29) (
Φ K.f122 [a0, (.int .i64 1)] H29 fun x31 H32 =>
 Q (.bool true) H32)
def f106_l2 (Φ : Calls') (a0 x3 : AV) (Q : Post) : (List AV × AH) → ((List AV × AH) → Prop) → Prop := fun s4 L5 =>
 Do (abin .lss (sl s4.1 0) (.int .i64 4)) fun x6 =>
 Gd x6 true (
 Do (aidx 4 1 false x3 (sl s4.1 0)) fun x7 =>
 Do (anilck a0) fun x8 =>
 Do (afaddr 0 x8) fun x9 =>
 Do (aload s4.2 1 false x9) fun x10 =>
 Do (anilck a0) fun x11 =>
 Do (afaddr 1 x11) fun x12 =>
 Do (aload s4.2 1 false x12) fun x13 =>
 Do (asslice x10 (some x13) none) fun x14 =>
Φ K.f123 [x14, x7] s4.2 fun x15 H16 =>
 Gd x15 true (
 Do (alen true x7) fun x17 =>
Φ K.f122 [a0, x17] H16 fun x18 H19 =>
 Q (.bool true) H19) (
 Do (abin .add (sl s4.1 0) (.int .i64 1)) fun x20 =>
 L5 ([x20], H16))) (
 JoinP (f106_k1 Φ a0 Q) [] s4.2)
def f106 (Φ : Calls') (a0 : AV) (H : AH) (Q : Post) : Prop :=
 Do (abuild [.str [], .str [], .str [], .str []] [(0, 1, (.str [60, 60])), (1, 1, (.str [62, 62])), (2, 1, (.str [61, 61])), (3, 1, (.str [33, 61]))]) fun x3 =>
 LoopP (f106_l2 Φ a0 x3 Q) ([(.int .i64 0)], H)
noncomputable def ir_f106 : AFunc := decF Go.Proofs.YtbkkoplgicffgaaGreatDoor.rb.C ⟨106,[],[[6]],none,[],[]⟩
theorem eq_f106 (Φ : Calls') (a0 : AV) (H : AH) (Q : Post) : fnE1 Φ ir_f106 [a0] H Q = f106 Φ a0 H Q := by kernel_rfl
def f107_l1 (Φ : Calls') (a0 a1 x1 : AV) (Q : Post) : (List AV × AH) → ((List AV × AH) → Prop) → Prop := fun s2 L3 =>
 Do (abin .lss (sl s2.1 0) x1) fun x4 =>
 Gd x4 true (
 Do (aiaddr none 1 a0 (sl s2.1 0)) fun x5 =>
 Do (aload s2.2 1 false x5) fun x6 =>
 Do (abin .eql a1 x6) fun x7 =>
 Gd x7 true (
 Q (sl s2.1 0) s2.2) (
 Do (abin .add (sl s2.1 0) (.int .i64 1)) fun x8 =>
 L3 ([x8], s2.2))) (
 Q (.int .i64 (-1)) s2.2)
def f107 (Φ : Calls') (a0 a1 : AV) (H : AH) (Q : Post) : Prop :=
 Do (alen false a0) fun x1 =>
 LoopP (f107_l1 Φ a0 a1 x1 Q) ([(.int .i64 0)], H)
noncomputable def ir_f107 : AFunc := decF Go.Proofs.YtbkkoplgicffgaaGreatDoor.rb.C ⟨107,[],[[8]],none,[],[]⟩
theorem eq_f107 (Φ : Calls') (a0 a1 : AV) (H : AH) (Q : Post) : fnE1 Φ ir_f107 [a0, a1] H Q = f107 Φ a0 a1 H Q := by kernel_rfl
def f112_k1 (Φ : Calls') (a0 a1 x1 x6 x11 : AV) (Q : Post) : List AV → AH → Prop := fun j23 H24 =>
 Do (abin .add a1 (.int .i64 1)) fun x30 =>
Φ K.f88 [a0, x30] H24 fun x31 H32 =>
 DoH (some (abox H32 true [.int .i64 0, .int .u64 0, .str [], .int .i64 0, .int .i64 0, .str [], .lst .nil 0 [], .lst .nil 0 []])) fun x33 H34 =>
 Do (astore H34 8 x33 x31) fun H35 =>
Φ K.f22 [a0, (.str [41])] H35 fun x36 H37 =>
 Do (aload H37 8 true x6) fun x38 =>
 Do (aload H37 8 true x33) fun x39 =>
 DoH (abslice H37 false 8 2 [.int .i64 0, .int .u64 0, .str [], .int .i64 0, .int .i64 0, .str [], .lst .nil 0 [], .lst .nil 0 []] [(0, 8, x38), (8, 8, x39)]) fun x40 H41 =>
 Do (abuild [.int .i64 0, .int .u64 0, .str [], .int .i64 0, .int .i64 0, .str [], .lst .nil 0 [], .lst .nil 0 []] [(0, 1, (.int .i64 3)), (3, 1, x11), (7, 1, x40)]) fun x42 =>
 Do (astore H41 8 x1 x42) fun H43 =>
 Do (aload H43 8 true x1) fun x44 =>
 Q x44 H43
def f112_k2 (Φ : Calls') (a0 a1 x1 x6 x11 : AV) (Q : Post) : List AV → AH → Prop := fun j13 H14 =>
Φ K.f43 [a0] H14 fun x25 H26 =>
 Do (aun .not x25) fun x27 =>
 Gd x27 true (
Φ K.f45 [a0] H26 fun x28 H29 =>
 JoinP (f112_k1 Φ a0 a1 x1 x6 x11 Q) [] H29) (
 JoinP (f112_k1 Φ a0 a1 x1 x6 x11 Q) [] H26)
def f112_k3 (Φ : Calls') (a0 a1 x1 x6 x11 : AV) (Q : Post) : List AV → AH → Prop := fun j15 H16 =>
 Gd (sl j15 0) true (
Φ K.f48 [a0, (.int .i64 4)] H16 fun x21 H22 =>
 JoinP (f112_k2 Φ a0 a1 x1 x6 x11 Q) [] H22) (
 JoinP (f112_k2 Φ a0 a1 x1 x6 x11 Q) [] H16)
def f112 (Φ : Calls') (a0 a1 : AV) (H : AH) (Q : Post) : Prop :=
 DoH (some (abox H true [.int .i64 0, .int .u64 0, .str [], .int .i64 0, .int .i64 0, .str [], .lst .nil 0 [], .lst .nil 0 []])) fun x1 H2 =>
 Do (abin .add a1 (.int .i64 1)) fun x3 =>
Φ K.f88 [a0, x3] H2 fun x4 H5 =>
 DoH (some (abox H5 true [.int .i64 0, .int .u64 0, .str [], .int .i64 0, .int .i64 0, .str [], .lst .nil 0 [], .lst .nil 0 []])) fun x6 H7 =>
 Do (astore H7 8 x6 x4) fun H8 =>
Φ K.f44 [a0] H8 fun x9 H10 =>
Φ K.f132 [x9] H10 fun x11 H12 =>
Φ K.f43 [a0] H12 fun x17 H18 =>
 Do (aun .not x17) fun x19 =>
 Gd3 x19 true (
 Do (abin .eql x11 (.int .i64 0)) fun x20 =>
 JoinP (f112_k3 Φ a0 a1 x1 x6 x11 Q) [x20] H18) (
 JoinP (f112_k3 Φ a0 a1 x1 x6 x11 Q) [(.bool false)] H18) (
 False)
noncomputable def ir_f112 : AFunc := decF Go.Proofs.YtbkkoplgicffgaaGreatDoor.rb.C ⟨112,[4,5,7],[],none,[],[]⟩
def f113_k1 (Φ : Calls') (x1 x4 : AV) (Q : Post) : List AV → AH → Prop := fun j18 H19 =>
 Do (aload H19 8 true x4) fun x35 =>
 Do (astore H19 8 x1 x35) fun H36 =>
 Do (aload H36 8 true x1) fun x37 =>
 Q x37 H36
def f113_l2 (Φ : Calls') (a0 a2 a3 x1 x4 : AV) (Q : Post) : (List AV × AH) → ((List AV × AH) → Prop) → Prop := fun s20 L21 =>
 Do (abin .lss (sl s20.1 0) a2) fun x22 =>
 Gd x22 true (
 Do (afaddr 7 x4) fun x23 =>
 Do (aload s20.2 1 false x23) fun x24 =>
 Do (abin .add a3 (.int .i64 1)) fun x25 =>
Φ K.f88 [a0, x25] s20.2 fun x26 H27 =>
(aload H27 1 false x23 = some x24) ∧
(DoH (abslice H27 false 8 1 [.int .i64 0, .int .u64 0, .str [], .int .i64 0, .int .i64 0, .str [], .lst .nil 0 [], .lst .nil 0 []] [(0, 8, x26)]) fun x28 H29 =>
 DoH (aappend H29 false 8 112 x24 x28) fun x30 H31 =>
 Do (afaddr 7 x4) fun x32 =>
 Do (astore H31 1 x32 x30) fun H33 =>
 Do (abin .add (sl s20.1 0) (.int .i64 1)) fun x34 =>
 L21 ([x34], H33))) (
 JoinP (f113_k1 Φ x1 x4 Q) [] s20.2)
def f113_k3 (Φ : Calls') (a0 a2 a3 x1 x4 : AV) (Q : Post) : List AV → AH → Prop := fun j7 H8 =>
Φ K.f86 [a0, a3] H8 fun x14 H15 =>
 Do (afaddr 5 x4) fun x16 =>
 Do (astore H15 2 x16 x14) fun H17 =>
 LoopP (f113_l2 Φ a0 a2 a3 x1 x4 Q) ([(.int .i64 0)], H17)
def f113 (Φ : Calls') (a0 a1 a2 a3 : AV) (H : AH) (Q : Post) : Prop :=
 DoH (some (abox H true [.int .i64 0, .int .u64 0, .str [], .int .i64 0, .int .i64 0, .str [], .lst .nil 0 [], .lst .nil 0 []])) fun x1 H2 =>
 Do (abuild [.int .i64 0, .int .u64 0, .str [], .int .i64 0, .int .i64 0, .str [], .lst .nil 0 [], .lst .nil 0 []] [(0, 1, a1)]) fun x3 =>
 DoH (some (abox H2 true [.int .i64 0, .int .u64 0, .str [], .int .i64 0, .int .i64 0, .str [], .lst .nil 0 [], .lst .nil 0 []])) fun x4 H5 =>
 Do (astore H5 8 x4 x3) fun H6 =>
 Do (abin .neq a1 (.int .i64 4)) fun x9 =>
 Gd x9 true (
Φ K.f87 [a0] H6 fun x10 H11 =>
 Do (afaddr 4 x4) fun x12 =>
 Do (astore H11 1 x12 x10) fun H13 =>
 JoinP (f113_k3 Φ a0 a2 a3 x1 x4 Q) [] H13) (
 JoinP (f113_k3 Φ a0 a2 a3 x1 x4 Q) [] H6)
noncomputable def ir_f113 : AFunc := decF Go.Proofs.YtbkkoplgicffgaaGreatDoor.rb.C ⟨113,[8,9],[[22]],none,[],[]⟩
def f120_k1 (Φ : Calls') (s6 : List AV × AH) (L7 : (List AV × AH) → Prop) (Q : Post) : List AV → AH → Prop := fun j8 H9 =>
 Do (abin .add (sl s6.1 0) (.int .i64 1)) fun x25 =>
 L7 ([x25], H9)
def f120_k2 (Φ : Calls') (a0 : AV) (Q : Post) : List AV → AH → Prop := fun j4 H5 =>
 Do (anilck a0) fun x26 =>
 Do (afaddr 1 x26) fun x27 =>
 Do (aload H5 1 false x27) fun x28 =>
 Do (abin .sub (sl j4 0) x28) fun x29 =>
 Q x29 H5
def f120_k3 (Φ : Calls') (a0 : AV) (s6 : List AV × AH) (L7 : (List AV × AH) → Prop) (Q : Post) : List AV → AH → Prop := fun j10 H11 =>
 Gd (sl j10 0) true (
 JoinP (f120_k1 Φ s6 L7 Q) [] H11) (
 JoinP (f120_k2 Φ a0 Q) [(sl s6.1 0)] H11)
def f120_l4 (Φ : Calls') (a0 a1 : AV) (Q : Post) : (List AV × AH) → ((List AV × AH) → Prop) → Prop := fun s6 L7 =>
 Do (anilck a0) fun x12 =>
 Do (afaddr 0 x12) fun x13 =>
 Do (aload s6.2 1 false x13) fun x14 =>
 Do (alen true x14) fun x15 =>
 Do (abin .lss (sl s6.1 0) x15) fun x16 =>
 Gd3 x16 true (
 Do (anilck a0) fun x17 =>
 Do (afaddr 0 x17) fun x18 =>
 Do (aload s6.2 1 false x18) fun x19 =>
 Do (aidxs x19 (sl s6.1 0)) fun x20 =>
∃ k23 c24, a1 = .fn k23 c24 ∧ Φ (fkey k23) (fargs k23 [x20] c24) s6.2 fun x21 H22 =>
 JoinP (f120_k3 Φ a0 s6 L7 Q) [x21] H22) (
 JoinP (f120_k3 Φ a0 s6 L7 Q) [(.bool false)] s6.2) (
 False)
def f120 (Φ : Calls') (a0 a1 : AV) (H : AH) (Q : Post) : Prop :=
 Do (anilck a0) fun x1 =>
 Do (afaddr 1 x1) fun x2 =>
 Do (aload H 1 false x2) fun x3 =>
 LoopP (f120_l4 Φ a0 a1 Q) ([x3], H)
noncomputable def ir_f120 : AFunc := decF Go.Proofs.YtbkkoplgicffgaaGreatDoor.rb.C ⟨120,[],[[5]],none,[],[]⟩
theorem eq_f120 (Φ : Calls') (a0 a1 : AV) (H : AH) (Q : Post) : fnE1 Φ ir_f120 [a0, a1] H Q = f120 Φ a0 a1 H Q := by kernel_rfl
def f121_k1 (Φ : Calls') (a0 : AV) (Q : Post) : List AV → AH → Prop := fun j1 H2 =>
 Gd3 (sl j1 0) false (
 Do (abin .eql a0 (.int .u8 95)) fun x7 =>
 Q x7 H2) (
 Q (.bool true) H2) (
 False)
def f121 (Φ : Calls') (a0 : AV) (H : AH) (Q : Post) : Prop :=
Φ K.f102 [a0] H fun x3 H4 =>
 Gd3 x3 false (
Φ K.f104 [a0] H4 fun x5 H6 =>
 JoinP (f121_k1 Φ a0 Q) [x5] H6) (
 JoinP (f121_k1 Φ a0 Q) [(.bool true)] H4) (
 False)
noncomputable def ir_f121 : AFunc := decF Go.Proofs.YtbkkoplgicffgaaGreatDoor.rb.C ⟨121,[],[],none,[],[]⟩
theorem eq_f121 (Φ : Calls') (a0 : AV) (H : AH) (Q : Post) : fnE1 Φ ir_f121 [a0] H Q = f121 Φ a0 H Q := by kernel_rfl
def f122 (Φ : Calls') (a0 a1 : AV) (H : AH) (Q : Post) : Prop :=
 Do (anilck a0) fun x1 =>
 Do (afaddr 3 x1) fun x2 =>
 Do (aload H 1 false x2) fun x3 =>
 Do (anilck a0) fun x4 =>
 Do (afaddr 0 x4) fun x5 =>
 Do (aload H 1 false x5) fun x6 =>
 Do (anilck a0) fun x7 =>
 Do (afaddr 1 x7) fun x8 =>
 Do (aload H 1 false x8) fun x9 =>
 Do (anilck a0) fun x10 =>
 Do (afaddr 1 x10) fun x11 =>
 Do (aload H 1 false x11) fun x12 =>
 Do (abin .add x12 a1) fun x13 =>
 Do (asslice x6 (some x9) (some x13)) fun x14 =>
 Do (anilck a0) fun x15 =>
 Do (afaddr 2 x15) fun x16 =>
 Do (aload H 1 false x16) fun x17 =>
 Do (abuild [.str [], .int .i64 0] [(0, 1, x14), (1, 1, x17)]) fun x18 =>
 DoH (abslice H false 2 1 [.str [], .int .i64 0] [(0, 2, x18)]) fun x19 H20 =>
 DoH (aappend H20 false 2 24 x3 x19) fun x21 H22 =>
 Do (anilck a0) fun x23 =>
 Do (afaddr 3 x23) fun x24 =>
 Do (astore H22 1 x24 x21) fun H25 =>
 Do (anilck a0) fun x26 =>
 Do (afaddr 1 x26) fun x27 =>
 Do (aload H25 1 false x27) fun x28 =>
 Do (abin .add x28 a1) fun x29 =>
 Do (anilck a0) fun x30 =>
 Do (afaddr 1 x30) fun x31 =>
 Do (astore H25 1 x31 x29) fun H32 =>
 Q (.tup []) H32
noncomputable def ir_f122 : AFunc := decF Go.Proofs.YtbkkoplgicffgaaGreatDoor.rb.C ⟨122,[],[],none,[],[]⟩
theorem eq_f122 (Φ : Calls') (a0 a1 : AV) (H : AH) (Q : Post) : fnE1 Φ ir_f122 [a0, a1] H Q = f122 Φ a0 a1 H Q := by kernel_rfl
def f123 (Φ : Calls') (a0 a1 : AV) (H : AH) (Q : Post) : Prop :=
Φ K.f142 [a0, a1] H fun x1 H2 =>
 Q x1 H2
noncomputable def ir_f123 : AFunc := decF Go.Proofs.YtbkkoplgicffgaaGreatDoor.rb.C ⟨123,[],[],none,[],[]⟩
theorem eq_f123 (Φ : Calls') (a0 a1 : AV) (H : AH) (Q : Post) : fnE1 Φ ir_f123 [a0, a1] H Q = f123 Φ a0 a1 H Q := by kernel_rfl
def f124 (Φ : Calls') (a0 a1 : AV) (H : AH) (Q : Post) : Prop :=
Φ K.f143 [a0, a1] H fun x1 H2 =>
 Q x1 H2
noncomputable def ir_f124 : AFunc := decF Go.Proofs.YtbkkoplgicffgaaGreatDoor.rb.C ⟨124,[],[],none,[],[]⟩
theorem eq_f124 (Φ : Calls') (a0 a1 : AV) (H : AH) (Q : Post) : fnE1 Φ ir_f124 [a0, a1] H Q = f124 Φ a0 a1 H Q := by kernel_rfl
def f132_l1 (Φ : Calls') (a0 x1 : AV) (Q : Post) : (List AV × AH) → ((List AV × AH) → Prop) → Prop := fun s2 L3 =>
 Do (abin .lss (sl s2.1 0) (.int .i64 11)) fun x4 =>
 Gd x4 true (
 Do (aidx 11 1 false x1 (sl s2.1 0)) fun x5 =>
 Do (abin .eql x5 a0) fun x6 =>
 Gd x6 true (
 Do (abin .add (sl s2.1 0) (.int .i64 1)) fun x7 =>
 Q x7 s2.2) (
 Do (abin .add (sl s2.1 0) (.int .i64 1)) fun x8 =>
 L3 ([x8], s2.2))) (
 Q (.int .i64 0) s2.2)
def f132 (Φ : Calls') (a0 : AV) (H : AH) (Q : Post) : Prop :=
 Do (abuild [.str [], .str [], .str [], .str [], .str [], .str [], .str [], .str [], .str [], .str [], .str []] [(0, 1, (.str [43])), (1, 1, (.str [45])), (2, 1, (.str [42])), (3, 1, (.str [38])), (4, 1, (.str [124])), (5, 1, (.str [94])), (6, 1, (.str [60, 60])), (7, 1, (.str [62, 62])), (8, 1, (.str [61, 61])), (9, 1, (.str [33, 61])), (10, 1, (.str [60]))]) fun x1 =>
 LoopP (f132_l1 Φ a0 x1 Q) ([(.int .i64 0)], H)
noncomputable def ir_f132 : AFunc := decF Go.Proofs.YtbkkoplgicffgaaGreatDoor.rb.C ⟨132,[],[[6]],none,[],[]⟩
def f142 (Φ : Calls') (a0 a1 : AV) (H : AH) (Q : Post) : Prop :=
 Do (alen true a0) fun x1 =>
 Do (alen true a1) fun x2 =>
 Do (abin .geq x1 x2) fun x3 =>
 Gd3 x3 true (
 Do (alen true a1) fun x4 =>
 Do (asslice a0 none (some x4)) fun x5 =>
 Do (abin .eql x5 a1) fun x6 =>
 Q x6 H) (
 Q (.bool false) H) (
 False)
noncomputable def ir_f142 : AFunc := decF Go.Proofs.YtbkkoplgicffgaaGreatDoor.rb.C ⟨142,[],[],none,[],[]⟩
theorem eq_f142 (Φ : Calls') (a0 a1 : AV) (H : AH) (Q : Post) : fnE1 Φ ir_f142 [a0, a1] H Q = f142 Φ a0 a1 H Q := by kernel_rfl
noncomputable def tab_Lex : Tab := [
  (K.f4, ir_f4),
  (K.f6, ir_f6),
  (K.f8, ir_f8),
  (K.f9, ir_f9),
  (K.f10, ir_f10),
  (K.f11, ir_f11),
  (K.f12, ir_f12),
  (K.f13, ir_f13),
  (K.f14, ir_f14),
  (K.f15, ir_f15),
  (K.f16, ir_f16),
  (K.f18, ir_f18),
  (K.f19, ir_f19),
  (K.f20, ir_f20),
  (K.f21, ir_f21),
  (K.f22, ir_f22),
  (K.f23, ir_f23),
  (K.f24, ir_f24),
  (K.f26, ir_f26),
  (K.f27, ir_f27),
  (K.f28, ir_f28),
  (K.f30, ir_f30),
  (K.f31, ir_f31),
  (K.f32, ir_f32),
  (K.f33, ir_f33),
  (K.f34, ir_f34),
  (K.f35, ir_f35),
  (K.f36, ir_f36),
  (K.f37, ir_f37),
  (K.f38, ir_f38),
  (K.f39, ir_f39),
  (K.f40, ir_f40),
  (K.f41, ir_f41),
  (K.f42, ir_f42),
  (K.f43, ir_f43),
  (K.f44, ir_f44),
  (K.f45, ir_f45),
  (K.f46, ir_f46),
  (K.f47, ir_f47),
  (K.f48, ir_f48),
  (K.f49, ir_f49),
  (K.f50, ir_f50),
  (K.f51, ir_f51),
  (K.f52, ir_f52),
  (K.f53, ir_f53),
  (K.f54, ir_f54),
  (K.f55, ir_f55),
  (K.f56, ir_f56),
  (K.f59, ir_f59),
  (K.f60, ir_f60),
  (K.f61, ir_f61),
  (K.f62, ir_f62),
  (K.f63, ir_f63),
  (K.f64, ir_f64),
  (K.f65, ir_f65),
  (K.f66, ir_f66),
  (K.f67, ir_f67),
  (K.f68, ir_f68),
  (K.f69, ir_f69),
  (K.f70, ir_f70),
  (K.f71, ir_f71),
  (K.f72, ir_f72),
  (K.f73, ir_f73),
  (K.f74, ir_f74),
  (K.f75, ir_f75),
  (K.f77, ir_f77),
  (K.f78, ir_f78),
  (K.f79, ir_f79),
  (K.f80, ir_f80),
  (K.f81, ir_f81),
  (K.f83, ir_f83),
  (K.f85, ir_f85),
  (K.f86, ir_f86),
  (K.f87, ir_f87),
  (K.f88, ir_f88),
  (K.f89, ir_f89),
  (K.f90, ir_f90),
  (K.f91, ir_f91),
  (K.f92, ir_f92),
  (K.f93, ir_f93),
  (K.f95, ir_f95),
  (K.f96, ir_f96),
  (K.f97, ir_f97),
  (K.f98, ir_f98),
  (K.f99, ir_f99),
  (K.f102, ir_f102),
  (K.f103, ir_f103),
  (K.f104, ir_f104),
  (K.f105, ir_f105),
  (K.f106, ir_f106),
  (K.f107, ir_f107),
  (K.f112, ir_f112),
  (K.f113, ir_f113),
  (K.f120, ir_f120),
  (K.f121, ir_f121),
  (K.f122, ir_f122),
  (K.f123, ir_f123),
  (K.f124, ir_f124),
  (K.f132, ir_f132),
  (K.f142, ir_f142)]
section
variable {Φ : Calls'} (hT : Cl Φ tab_Lex) {a0 a1 a2 a3 a4 a5 a6 a7 a8 a9 a10 a11 : AV} {H : AH} {Q : Post}
include hT
theorem cl_f4 (h : f4 Φ a0 H Q) : Φ K.f4 [a0] H Q := hT.call (by kernel_rfl) (by kernel_rfl) (by rw [eq_f4]; exact h)
theorem cl_f11 (h : f11 Φ a0 a1 H Q) : Φ K.f11 [a0, a1] H Q := hT.call (by kernel_rfl) (by kernel_rfl) (by rw [eq_f11]; exact h)
theorem cl_f12 (h : f12 Φ a0 H Q) : Φ K.f12 [a0] H Q := hT.call (by kernel_rfl) (by kernel_rfl) (by rw [eq_f12]; exact h)
theorem cl_f13 (h : f13 Φ a0 H Q) : Φ K.f13 [a0] H Q := hT.call (by kernel_rfl) (by kernel_rfl) (by rw [eq_f13]; exact h)
theorem cl_f14 (h : f14 Φ a0 H Q) : Φ K.f14 [a0] H Q := hT.call (by kernel_rfl) (by kernel_rfl) (by rw [eq_f14]; exact h)
theorem cl_f15 (h : f15 Φ a0 H Q) : Φ K.f15 [a0] H Q := hT.call (by kernel_rfl) (by kernel_rfl) (by rw [eq_f15]; exact h)
theorem cl_f16 (h : f16 Φ a0 a1 H Q) : Φ K.f16 [a0, a1] H Q := hT.call (by kernel_rfl) (by kernel_rfl) (by rw [eq_f16]; exact h)
theorem cl_f18 (h : f18 Φ a0 H Q) : Φ K.f18 [a0] H Q := hT.call (by kernel_rfl) (by kernel_rfl) (by rw [eq_f18]; exact h)
theorem cl_f19 (h : f19 Φ a0 a1 H Q) : Φ K.f19 [a0, a1] H Q := hT.call (by kernel_rfl) (by kernel_rfl) (by rw [eq_f19]; exact h)
theorem cl_f20 (h : f20 Φ a0 H Q) : Φ K.f20 [a0] H Q := hT.call (by kernel_rfl) (by kernel_rfl) (by rw [eq_f20]; exact h)
theorem cl_f21 (h : f21 Φ a0 a1 H Q) : Φ K.f21 [a0, a1] H Q := hT.call (by kernel_rfl) (by kernel_rfl) (by rw [eq_f21]; exact h)
theorem cl_f22 (h : f22 Φ a0 a1 H Q) : Φ K.f22 [a0, a1] H Q := hT.call (by kernel_rfl) (by kernel_rfl) (by rw [eq_f22]; exact h)
theorem cl_f24 (h : f24 Φ a0 H Q) : Φ K.f24 [a0] H Q := hT.call (by kernel_rfl) (by kernel_rfl) (by rw [eq_f24]; exact h)
theorem cl_f26 (h : f26 Φ a0 a1 H Q) : Φ K.f26 [a0, a1] H Q := hT.call (by kernel_rfl) (by kernel_rfl) (by rw [eq_f26]; exact h)
theorem cl_f27 (h : f27 Φ a0 a1 H Q) : Φ K.f27 [a0, a1] H Q := hT.call (by kernel_rfl) (by kernel_rfl) (by rw [eq_f27]; exact h)
theorem cl_f33 (h : f33 Φ a0 a1 H Q) : Φ K.f33 [a0, a1] H Q := hT.call (by kernel_rfl) (by kernel_rfl) (by rw [eq_f33]; exact h)
theorem cl_f38 (h : f38 Φ a0 a1 H Q) : Φ K.f38 [a0, a1] H Q := hT.call (by kernel_rfl) (by kernel_rfl) (by rw [eq_f38]; exact h)
theorem cl_f39 (h : f39 Φ a0 a1 H Q) : Φ K.f39 [a0, a1] H Q := hT.call (by kernel_rfl) (by kernel_rfl) (by rw [eq_f39]; exact h)
theorem cl_f40 (h : f40 Φ a0 H Q) : Φ K.f40 [a0] H Q := hT.call (by kernel_rfl) (by kernel_rfl) (by rw [eq_f40]; exact h)
theorem cl_f41 (h : f41 Φ a0 H Q) : Φ K.f41 [a0] H Q := hT.call (by kernel_rfl) (by kernel_rfl) (by rw [eq_f41]; exact h)
theorem cl_f42 (h : f42 Φ a0 H Q) : Φ K.f42 [a0] H Q := hT.call (by kernel_rfl) (by kernel_rfl) (by rw [eq_f42]; exact h)
theorem cl_f43 (h : f43 Φ a0 H Q) : Φ K.f43 [a0] H Q := hT.call (by kernel_rfl) (by kernel_rfl) (by rw [eq_f43]; exact h)
theorem cl_f44 (h : f44 Φ a0 H Q) : Φ K.f44 [a0] H Q := hT.call (by kernel_rfl) (by kernel_rfl) (by rw [eq_f44]; exact h)
theorem cl_f45 (h : f45 Φ a0 H Q) : Φ K.f45 [a0] H Q := hT.call (by kernel_rfl) (by kernel_rfl) (by rw [eq_f45]; exact h)
theorem cl_f46 (h : f46 Φ a0 H Q) : Φ K.f46 [a0] H Q := hT.call (by kernel_rfl) (by kernel_rfl) (by rw [eq_f46]; exact h)
theorem cl_f47 (h : f47 Φ a0 H Q) : Φ K.f47 [a0] H Q := hT.call (by kernel_rfl) (by kernel_rfl) (by rw [eq_f47]; exact h)
theorem cl_f48 (h : f48 Φ a0 a1 H Q) : Φ K.f48 [a0, a1] H Q := hT.call (by kernel_rfl) (by kernel_rfl) (by rw [eq_f48]; exact h)
theorem cl_f49 (h : f49 Φ a0 a1 H Q) : Φ K.f49 [a0, a1] H Q := hT.call (by kernel_rfl) (by kernel_rfl) (by rw [eq_f49]; exact h)
theorem cl_f50 (h : f50 Φ a0 H Q) : Φ K.f50 [a0] H Q := hT.call (by kernel_rfl) (by kernel_rfl) (by rw [eq_f50]; exact h)
theorem cl_f51 (h : f51 Φ a0 H Q) : Φ K.f51 [a0] H Q := hT.call (by kernel_rfl) (by kernel_rfl) (by rw [eq_f51]; exact h)
theorem cl_f52 (h : f52 Φ a0 a1 H Q) : Φ K.f52 [a0, a1] H Q := hT.call (by kernel_rfl) (by kernel_rfl) (by rw [eq_f52]; exact h)
theorem cl_f53 (h : f53 Φ a0 a1 H Q) : Φ K.f53 [a0, a1] H Q := hT.call (by kernel_rfl) (by kernel_rfl) (by rw [eq_f53]; exact h)
theorem cl_f59 (h : f59 Φ a0 H Q) : Φ K.f59 [a0] H Q := hT.call (by kernel_rfl) (by kernel_rfl) (by rw [eq_f59]; exact h)
theorem cl_f60 (h : f60 Φ a0 H Q) : Φ K.f60 [a0] H Q := hT.call (by kernel_rfl) (by kernel_rfl) (by rw [eq_f60]; exact h)
theorem cl_f61 (h : f61 Φ a0 a1 H Q) : Φ K.f61 [a0, a1] H Q := hT.call (by kernel_rfl) (by kernel_rfl) (by rw [eq_f61]; exact h)
theorem cl_f62 (h : f62 Φ a0 a1 H Q) : Φ K.f62 [a0, a1] H Q := hT.call (by kernel_rfl) (by kernel_rfl) (by rw [eq_f62]; exact h)
theorem cl_f63 (h : f63 Φ a0 a1 H Q) : Φ K.f63 [a0, a1] H Q := hT.call (by kernel_rfl) (by kernel_rfl) (by rw [eq_f63]; exact h)
theorem cl_f68 (h : f68 Φ a0 a1 a2 H Q) : Φ K.f68 [a0, a1, a2] H Q := hT.call (by kernel_rfl) (by kernel_rfl) (by rw [eq_f68]; exact h)
theorem cl_f69 (h : f69 Φ a0 a1 a2 H Q) : Φ K.f69 [a0, a1, a2] H Q := hT.call (by kernel_rfl) (by kernel_rfl) (by rw [eq_f69]; exact h)
theorem cl_f70 (h : f70 Φ a0 a1 H Q) : Φ K.f70 [a0, a1] H Q := hT.call (by kernel_rfl) (by kernel_rfl) (by rw [eq_f70]; exact h)
theorem cl_f74 (h : f74 Φ a0 H Q) : Φ K.f74 [a0] H Q := hT.call (by kernel_rfl) (by kernel_rfl) (by rw [eq_f74]; exact h)
theorem cl_f75 (h : f75 Φ a0 a1 H Q) : Φ K.f75 [a0, a1] H Q := hT.call (by kernel_rfl) (by kernel_rfl) (by rw [eq_f75]; exact h)
theorem cl_f77 (h : f77 Φ a0 a1 H Q) : Φ K.f77 [a0, a1] H Q := hT.call (by kernel_rfl) (by kernel_rfl) (by rw [eq_f77]; exact h)
theorem cl_f78 (h : f78 Φ a0 H Q) : Φ K.f78 [a0] H Q := hT.call (by kernel_rfl) (by kernel_rfl) (by rw [eq_f78]; exact h)
theorem cl_f79 (h : f79 Φ H Q) : Φ K.f79 [] H Q := hT.call (by kernel_rfl) (by kernel_rfl) (by rw [eq_f79]; exact h)
theorem cl_f80 (h : f80 Φ a0 H Q) : Φ K.f80 [a0] H Q := hT.call (by kernel_rfl) (by kernel_rfl) (by rw [eq_f80]; exact h)
theorem cl_f81 (h : f81 Φ a0 a1 H Q) : Φ K.f81 [a0, a1] H Q := hT.call (by kernel_rfl) (by kernel_rfl) (by rw [eq_f81]; exact h)
theorem cl_f83 (h : f83 Φ a0 H Q) : Φ K.f83 [a0] H Q := hT.call (by kernel_rfl) (by kernel_rfl) (by rw [eq_f83]; exact h)
theorem cl_f99 (h : f99 Φ a0 a1 H Q) : Φ K.f99 [a0, a1] H Q := hT.call (by kernel_rfl) (by kernel_rfl) (by rw [eq_f99]; exact h)
theorem cl_f102 (h : f102 Φ a0 H Q) : Φ K.f102 [a0] H Q := hT.call (by kernel_rfl) (by kernel_rfl) (by rw [eq_f102]; exact h)
theorem cl_f103 (h : f103 Φ a0 H Q) : Φ K.f103 [a0] H Q := hT.call (by kernel_rfl) (by kernel_rfl) (by rw [eq_f103]; exact h)
theorem cl_f104 (h : f104 Φ a0 H Q) : Φ K.f104 [a0] H Q := hT.call (by kernel_rfl) (by kernel_rfl) (by rw [eq_f104]; exact h)
theorem cl_f105 (h : f105 Φ a0 H Q) : Φ K.f105 [a0] H Q := hT.call (by kernel_rfl) (by kernel_rfl) (by rw [eq_f105]; exact h)
theorem cl_f106 (h : f106 Φ a0 H Q) : Φ K.f106 [a0] H Q := hT.call (by kernel_rfl) (by kernel_rfl) (by rw [eq_f106]; exact h)
theorem cl_f107 (h : f107 Φ a0 a1 H Q) : Φ K.f107 [a0, a1] H Q := hT.call (by kernel_rfl) (by kernel_rfl) (by rw [eq_f107]; exact h)
theorem cl_f120 (h : f120 Φ a0 a1 H Q) : Φ K.f120 [a0, a1] H Q := hT.call (by kernel_rfl) (by kernel_rfl) (by rw [eq_f120]; exact h)
theorem cl_f121 (h : f121 Φ a0 H Q) : Φ K.f121 [a0] H Q := hT.call (by kernel_rfl) (by kernel_rfl) (by rw [eq_f121]; exact h)
theorem cl_f122 (h : f122 Φ a0 a1 H Q) : Φ K.f122 [a0, a1] H Q := hT.call (by kernel_rfl) (by kernel_rfl) (by rw [eq_f122]; exact h)
theorem cl_f123 (h : f123 Φ a0 a1 H Q) : Φ K.f123 [a0, a1] H Q := hT.call (by kernel_rfl) (by kernel_rfl) (by rw [eq_f123]; exact h)
theorem cl_f124 (h : f124 Φ a0 a1 H Q) : Φ K.f124 [a0, a1] H Q := hT.call (by kernel_rfl) (by kernel_rfl) (by rw [eq_f124]; exact h)
theorem cl_f142 (h : f142 Φ a0 a1 H Q) : Φ K.f142 [a0, a1] H Q := hT.call (by kernel_rfl) (by kernel_rfl) (by rw [eq_f142]; exact h)
end
end Rb.S

namespace Go.Proofs.YtbkkoplgicffgaaGreatDoor.rb
open Rb
theorem cl_Lex : Cl (ACall C) S.tab_Lex := Cl.of (ACall_mono C) (closed_of (idC_fok _ _) (by kernel_rfl))
end Go.Proofs.YtbkkoplgicffgaaGreatDoor.rb

namespace Rb
open Go
def Val (Φ : Calls') (k : Nat) (args : List AV) (v : AV) : Prop := ∀ (H : AH) (Q : Post), Q v H → Φ k args H Q
theorem Val.of {C : Ctx} (hGT : GTok C) {k : Nat} {args : List AV} {v : AV} (ha : AV.frozs args = true) (hv : v.froz = true) (h : ∀ Q : Post, (∀ H', Q v H') → ACall C k args AH.mt Q) : Val (ACall C) k args v :=
 fun H Q hQ => ACall.frame2 (Q := fun u _ => u = v) hGT (h _ fun _ => rfl) ha H Q fun u _ hu => by subst hu; exact ⟨hv, hQ⟩
def isLet (c : UInt8) : Bool := decide (97 ≤ c.toNat) && decide (c.toNat ≤ 122)
def isDig (c : UInt8) : Bool := decide (48 ≤ c.toNat) && decide (c.toNat ≤ 57)
def isPart (c : UInt8) : Bool := isLet c || isDig c || decide (c.toNat = 95)
def nameOk : List UInt8 → Bool
 | [] => false
 | c :: r => decide (r.length < 16) && isLet c && r.all isPart
def pow2 (n most : Int) : Bool := (n == 1 || n == 2 || n == 4 || n == 8 || n == 16) && decide (n ≤ most)
def onlyM (kind size : Int) (packed : Bool) (nf : Nat) (count : Int) (ne : Nat) : Bool :=
 if kind = 1 ∨ kind = 2 then !packed && nf == 0 && count == 0 && ne == 0
 else if kind = 3 ∨ kind = 4 then size == 0 && count == 0 && ne == 0
 else if kind = 5 then size == 0 && !packed && nf == 0 && ne == 1
 else false
mutual
def sndT : GType → Int
 | .mk kind size packed fields count elem =>
  if onlyM kind size packed fields.length count elem.length = false then 8
  else if kind = 1 then (if pow2 size 8 then 0 else 9)
  else if kind = 2 then (if pow2 size 16 then 0 else 9)
  else if kind = 5 then (if count < 1 ∨ 65536 < count then 9 else sndE elem)
  else if fields.length < 1 ∨ 32 < fields.length then 12
  else sndFs packed [] fields
def sndE : List GType → Int
 | [] => 0
 | t :: _ => sndT t
def sndF (packed : Bool) (seen : List (List UInt8)) : GField → Int
 | .mk name type bits width =>
  if nameOk name = false ∧ (name ≠ [] ∨ bits = false) then 6
  else if name ≠ [] ∧ seen.contains name = true then 7
  else if sndT type ≠ 0 then sndT type
  else if (bits = false ∧ width ≠ 0) ∨ (bits = true ∧ (type.kind ≠ 1 ∨ packed = true)) then 8
  else if bits = true ∧ (width < 0 ∨ 8 * type.size < width ∨ (width = 0 ∧ name ≠ [])) then 9
  else 0
def sndFs (packed : Bool) (seen : List (List UInt8)) : List GField → Int
 | [] => 0
 | f :: r => if sndF packed seen f ≠ 0 then sndF packed seen f else sndFs packed (seen ++ [f.name]) r
end
mutual
def depT (most : Nat) : GType → Int
 | .mk kind size packed fields count elem => if 1 < most then max (depFs (most - 1) fields) (depEs (most - 1) elem) + 1 else 1
def depF (most : Nat) : GField → Int
 | .mk name type bits width => depT most type
def depFs (most : Nat) : List GField → Int
 | [] => 0
 | f :: r => max (depF most f) (depFs most r)
def depEs (most : Nat) : List GType → Int
 | [] => 0
 | t :: r => max (depT most t) (depEs most r)
end
def soundM (t : GType) : Int := if 64 < depT 65 t then 5 else sndT t
theorem GType.ind {P : GType → Prop} (h : ∀ t : GType, (∀ f ∈ t.fields, P f.type) → (∀ e ∈ t.elem, P e) → P t) : ∀ t, P t := by
 have main : ∀ (n : Nat) (t : GType), sizeOf t < n → P t := by
  intro n
  induction n with
  | zero => intro t ht; omega
  | succ n ih =>
   intro t ht
   refine h t (fun f hf => ih _ ?_) fun e he => ih _ ?_
   · cases t with
     | mk kind size packed fields count elem =>
      have := List.sizeOf_lt_of_mem hf
      cases f with
      | mk name type bits width => simp at this ht ⊢; omega
   · cases t with
     | mk kind size packed fields count elem =>
      have := List.sizeOf_lt_of_mem he
      simp at this ht ⊢; omega
 exact fun t => main _ t (Nat.lt_succ_self _)
end Rb

namespace Rb
open Go
def sgn1 : List UInt8 := [123, 125, 91, 93, 40, 41, 59, 58, 44, 46, 95, 61, 43, 45, 42, 38, 124, 94, 60]
def two (x : UInt8) : Option UInt8 := if x = 60 then some 60 else if x = 62 then some 62 else if x = 61 then some 61 else if x = 33 then some 61 else none
def restOk : List UInt8 → Bool
 | [] => true
 | c :: _ => !isPart c
def wordM (num : List UInt8 → Bool) : List UInt8 → Option Nat
 | [] => none
 | x :: r =>
  if isLet x = true then (if 16 < ((x :: r).takeWhile isPart).length then none else some ((x :: r).takeWhile isPart).length)
  else if isDig x = true then (if (num ((x :: r).takeWhile isDig) = true ∧ ¬ (1 < ((x :: r).takeWhile isDig).length ∧ x = 48)) ∧ restOk ((x :: r).dropWhile isDig) = true then some ((x :: r).takeWhile isDig).length else none)
  else if two x ≠ none ∧ r.head? = two x then some 2
  else if sgn1.contains x = true then some 1 else none
theorem wordM_cons (num : List UInt8 → Bool) (x : UInt8) (r : List UInt8) : wordM num (x :: r) = if isLet x = true then (if 16 < ((x :: r).takeWhile isPart).length then none else some ((x :: r).takeWhile isPart).length)
  else if isDig x = true then (if (num ((x :: r).takeWhile isDig) = true ∧ ¬ (1 < ((x :: r).takeWhile isDig).length ∧ x = 48)) ∧ restOk ((x :: r).dropWhile isDig) = true then some ((x :: r).takeWhile isDig).length else none)
  else if two x ≠ none ∧ r.head? = two x then some 2
  else if sgn1.contains x = true then some 1 else none := rfl
def toks (num : List UInt8 → Bool) : Nat → List UInt8 → Int → Except Int (List (List UInt8 × Int))
 | 0, _, _ => .ok []
 | _ + 1, [], _ => .ok []
 | n + 1, x :: r, line =>
  if x = 10 then toks num n r (line + 1) else if x = 32 then toks num n r line
  else match wordM num (x :: r) with
   | none => .error line
   | some k => match toks num n ((x :: r).drop k) line with
    | .error l => .error l
    | .ok ws => .ok (((x :: r).take k, line) :: ws)
section
variable {num : List UInt8 → Bool}
theorem wordM_pos {s : List UInt8} {k : Nat} (h : wordM num s = some k) : 1 ≤ k ∧ k ≤ s.length := by
 cases s with
 | nil => cases h
 | cons x r =>
  rw [wordM_cons] at h
  have hl : ∀ p : UInt8 → Bool, ((x :: r).takeWhile p).length ≤ (x :: r).length := fun p => (List.takeWhile_prefix p).length_le
  split at h
  · rename_i hx
    have hp : isPart x = true := by simp [isPart, hx]
    have := hl isPart
    split at h
    · cases h
    · simp only [Option.some.injEq] at h
      subst h
      refine ⟨?_, this⟩
      rw [List.takeWhile_cons, if_pos hp]; simp
  · split at h
    · rename_i hx
      have := hl isDig
      split at h
      · simp only [Option.some.injEq] at h
        subst h
        refine ⟨?_, this⟩
        rw [List.takeWhile_cons, if_pos hx]; simp
      · cases h
    · split at h
      · rename_i ht
        simp only [Option.some.injEq] at h
        subst h
        cases r with
        | nil => exact absurd ht.2.symm ht.1
        | cons y r => simp
      · split at h
        · simp only [Option.some.injEq] at h
          subst h
          simp
        · cases h
theorem toks_nil (n : Nat) (line : Int) : toks num n [] line = .ok [] := by cases n <;> rfl
def shift (k : Int) : Except Int (List (List UInt8 × Int)) → Except Int (List (List UInt8 × Int))
 | .error l => .error (l + k)
 | .ok ws => .ok (ws.map fun w => (w.1, w.2 + k))
theorem takeWhile_stop {p : UInt8 → Bool} {c : UInt8} (hc : p c = false) (t : List UInt8) : ∀ s : List UInt8, (s ++ c :: t).takeWhile p = s.takeWhile p
 | [] => by rw [List.nil_append, List.takeWhile_cons, hc]; rfl
 | x :: r => by
  rw [List.cons_append, List.takeWhile_cons, List.takeWhile_cons, takeWhile_stop hc t r]
theorem dropWhile_stop {p : UInt8 → Bool} {c : UInt8} (hc : p c = false) (t : List UInt8) : ∀ s : List UInt8, (s ++ c :: t).dropWhile p = s.dropWhile p ++ c :: t
 | [] => by rw [List.nil_append, List.dropWhile_cons, hc]; rfl
 | x :: r => by
  rw [List.cons_append, List.dropWhile_cons, List.dropWhile_cons]
  split
  · exact dropWhile_stop hc t r
  · rfl
def stops (c : UInt8) : Prop := c = 10 ∨ c = 32
theorem stops_part {c : UInt8} (h : stops c) : isPart c = false := by rcases h with rfl | rfl <;> rfl
theorem stops_dig {c : UInt8} (h : stops c) : isDig c = false := by rcases h with rfl | rfl <;> rfl
theorem wordM_stop {c : UInt8} (hc : stops c) (x : UInt8) (r t : List UInt8) : wordM num (x :: (r ++ c :: t)) = wordM num (x :: r) := by
 have e1 : (x :: (r ++ c :: t)).takeWhile isPart = (x :: r).takeWhile isPart := takeWhile_stop (stops_part hc) t (x :: r)
 have e2 : (x :: (r ++ c :: t)).takeWhile isDig = (x :: r).takeWhile isDig := takeWhile_stop (stops_dig hc) t (x :: r)
 have e3 : (x :: (r ++ c :: t)).dropWhile isDig = (x :: r).dropWhile isDig ++ c :: t := dropWhile_stop (stops_dig hc) t (x :: r)
 have e4 : restOk ((x :: r).dropWhile isDig ++ c :: t) = restOk ((x :: r).dropWhile isDig) := by
  cases (x :: r).dropWhile isDig with
  | nil => show (!isPart c) = true; rw [stops_part hc]; rfl
  | cons y l => rfl
 have e5 : (two x ≠ none ∧ (r ++ c :: t).head? = two x) ↔ (two x ≠ none ∧ r.head? = two x) := by
  cases r with
  | nil =>
   simp only [List.nil_append, List.head?_cons, List.head?_nil]
   constructor
   · rintro ⟨h1, h2⟩
     exfalso
     have : ∀ y, two x = some y → ¬ stops y := by
      intro y hy
      unfold two at hy
      intro hs
      repeat' (split at hy)
      all_goals first | (simp only [Option.some.injEq] at hy; subst hy; rcases hs with h | h <;> exact absurd h (by decide)) | cases hy
     exact this c h2.symm hc
   · rintro ⟨h1, h2⟩; exact absurd h2.symm h1
  | cons y r => rfl
 rw [wordM_cons, wordM_cons, e1, e2, e3, e4]
 simp only [e5]
def WOK (num : List UInt8 → Bool) (w : List UInt8) : Prop := 1 ≤ w.length ∧ w.length ≤ 20 ∧ ∃ x l, w = x :: l ∧ x ≠ 10 ∧ x ≠ 32 ∧ wordM num (x :: l) = some (x :: l).length
end
end Rb

namespace Rb
open Go
theorem str_eql (s t : List UInt8) : abin .eql (.str s) (.str t) = some (.bool (s == t)) := rfl
theorem str_neq (s t : List UInt8) : abin .neq (.str s) (.str t) = some (.bool (!(s == t))) := rfl
theorem Lst.app2 {H0 H : AH} {sz bytes len m : Nat} {x y : AV} {cells news : List AV} {K : Post} (h : Lst H0 H sz x len cells) (hy : acells H sz y = some (m, news)) (hn : news.length = m * sz) (hs : news.all AV.scalar = true) (hm : m ≠ 0)
  (hb : (len + m) * bytes ≤ 140737488355328) (hl : len + m ≤ 9223372036854775807) (hK : ∀ x' H', Lst H0 H' sz x' (len + m) (cells ++ news) → (∀ i o, At H i o → (∀ a b, o ≠ .tok a b) → At H' i o) → K x' H') : DoH (aappend H false sz bytes x y) K := by
 obtain ⟨hx, tk, rfl, hc, htk⟩ := h
 have hlen : (cells ++ news).length = (len + m) * sz := by simp [hc, hn, Nat.add_mul]
 rcases htk with ⟨rfl, rfl⟩ | ⟨t, rfl, h1, h2, h3⟩
 · refine ⟨.lst (.own H.n) (0 + m) (cells ++ news), H.push (.tok ((0 + m) * sz) sz), ?_, hK _ _ ⟨hx.trans (AH.Ext.push _ _), _, rfl, hlen, .inr ⟨H.n, rfl, hx.1, Nat.lt_succ_self _, AH.push_self _ _⟩⟩ fun i o ho _ => ho.push _⟩
   simp only [aappend, hy, hs, not_true_eq_false, if_false, if_neg hm]
   rw [if_neg (by simp only [Decidable.not_not]; exact ⟨hc, hb, hl⟩)]
 · refine ⟨.lst (.own H.n) (len + m) (cells ++ news), (H.set t .gone).push (.tok ((len + m) * sz) sz), ?_, hK _ _ ⟨(hx.set h1 _).trans (AH.Ext.push _ _), _, rfl, hlen, .inr ⟨H.n, rfl, hx.1, Nat.lt_succ_self _, AH.push_self _ _⟩⟩ fun i o ho hno => ?_⟩
   · simp only [aappend, hy, hs, not_true_eq_false, if_false, if_neg hm]
     rw [if_neg (by simp only [Decidable.not_not]; exact ⟨hc, hb, hl⟩)]
     simp [h3]
   · exact (ho.set_ne (fun e => by subst e; rw [ho.2] at h3; exact hno _ _ h3) _).push _
theorem Lst.oth {H0 H : AH} {sz len : Nat} {x : AV} {cells : List AV} (h : Lst H0 H sz x len cells) {id : Nat} {cs : List AV} (ha : At H id (.row cs)) (hid : H0.n ≤ id) (y : AObj) : Lst H0 (H.set id y) sz x len cells := by
 obtain ⟨hx, tk, rfl, hc, htk⟩ := h
 refine ⟨hx.set hid y, tk, rfl, hc, ?_⟩
 rcases htk with h | ⟨t, rfl, h1, h2, h3⟩
 · exact .inl h
 · exact .inr ⟨t, rfl, h1, h2, by rw [AH.set_ne _ _ (fun e => by subst e; rw [ha.2] at h3; cases h3)]; exact h3⟩
theorem Lst.psh {H0 H : AH} {sz len : Nat} {x : AV} {cells : List AV} (h : Lst H0 H sz x len cells) (y : AObj) : Lst H0 (H.push y) sz x len cells := by
 obtain ⟨hx, tk, rfl, hc, htk⟩ := h
 refine ⟨hx.trans (AH.Ext.push _ _), tk, rfl, hc, ?_⟩
 rcases htk with h | ⟨t, rfl, h1, h2, h3⟩
 · exact .inl h
 · exact .inr ⟨t, rfl, h1, Nat.lt_succ_of_lt h2, by rw [AH.push_ne _ _ (by omega)]; exact h3⟩
end Rb

namespace Rb
open Go
def tokC (w : List UInt8 × Int) : List AV := [.str w.1, .int .i64 w.2]
theorem tokC_len (w : List UInt8 × Int) : (tokC w).length = 2 := rfl
def SCN (H0 H : AH) (id : Nat) (s : List UInt8) (a : Nat) (line : Int) (ws : List (List UInt8 × Int)) : Prop :=
 H0.n ≤ id ∧ ∃ x, At H id (.row [.str s, .int .i64 a, .int .i64 line, x]) ∧ Lst H0 H 2 x ws.length (ws.flatMap tokC) ∧ (ws = [] → x = .lst .nil 0 [])
def NumS (Φ : Calls') (num : List UInt8 → Bool) : Prop :=
 ∀ (w : List UInt8) (H : AH) (Q : Post), w.length ≤ 1048576 → (num w = true → ∀ u, Q (.tup [.int .u64 u, .nilif]) H) → (num w = false → ∀ u T, Q (.tup [.int .u64 u, .iface T .bot]) H) → Φ K.f84 [.str w, .int .i64 10, .int .i64 64] H Q
def IdxS (Φ : Calls') : Prop := ∀ (c : UInt8) (H : AH) (Q : Post), (∀ z : Int, (z < 0 ↔ sgn1.contains c = false) → Q (.int .i64 z) H) → Φ K.f143 [.str sgn1, .int .u8 c.toNat] H Q
section
variable {Φ : Calls'} {H H0 : AH} {Q : Post} {id : Nat} {s : List UInt8} {a : Nat} {line : Int} {ws : List (List UInt8 × Int)}
theorem lex_letter_spec {c : UInt8} (hQ : Q (.bool (isLet c)) H) : S.f102 Φ (.int .u8 c.toNat) H Q := by
 have fin : ∀ b : Bool, b = isLet c → Q (.bool b) H := fun b h => by rw [h]; exact hQ
 simp only [S.f102, abin_geq, abin_leq, Do_of, Gd3_true]
 refine ite_both (fun h => fin _ ?_) (fun h => fin _ ?_)
 · have h' : 97 ≤ c.toNat := by simp only [ge_iff_le, decide_eq_true_eq] at h; omega
   rw [Bool.eq_iff_iff]; simp [isLet, h']; omega
 · have h' : ¬ 97 ≤ c.toNat := by simp only [ge_iff_le, decide_eq_true_eq] at h; omega
   simp [isLet, h']
theorem lex_digit_spec {c : UInt8} (hQ : Q (.bool (isDig c)) H) : S.f104 Φ (.int .u8 c.toNat) H Q := by
 have fin : ∀ b : Bool, b = isDig c → Q (.bool b) H := fun b h => by rw [h]; exact hQ
 simp only [S.f104, abin_geq, abin_leq, Do_of, Gd3_true]
 refine ite_both (fun h => fin _ ?_) (fun h => fin _ ?_)
 · have h' : 48 ≤ c.toNat := by simp only [ge_iff_le, decide_eq_true_eq] at h; omega
   rw [Bool.eq_iff_iff]; simp [isDig, h']; omega
 · have h' : ¬ 48 ≤ c.toNat := by simp only [ge_iff_le, decide_eq_true_eq] at h; omega
   simp [isDig, h']
theorem lex_part_spec (hT : Cl Φ S.tab_Lex) {c : UInt8} (hQ : Q (.bool (isPart c)) H) : S.f121 Φ (.int .u8 c.toNat) H Q := by
 have fin : ∀ b : Bool, b = isPart c → Q (.bool b) H := fun b h => by rw [h]; exact hQ
 unfold S.f121
 refine S.cl_f102 hT (lex_letter_spec ?_)
 have k1 : ∀ b : Bool, (b || decide (c.toNat = 95)) = isPart c → JoinP (S.f121_k1 Φ (.int .u8 c.toNat) Q) [.bool b] H := by
  intro b hb
  simp only [JoinP_def, S.f121_k1, sl_zero, Gd3_false, abin_eql, Do_of]
  cases b
  · refine fin _ ?_
    rw [← hb, Bool.false_or, Bool.eq_iff_iff]; simp; omega
  · exact fin _ (by rw [← hb]; rfl)
 simp only [Gd3_false]
 refine ite_both (fun h => ?_) (fun h => ?_)
 · refine S.cl_f104 hT (lex_digit_spec ?_)
   exact k1 _ (by simp [isPart, h])
 · exact k1 _ (by simp [isPart] at h ⊢; simp [h])
theorem SCN.l0 (h : SCN H0 H id s a line ws) : aload H 1 false (.ptr id 0) = some (.str s) := by obtain ⟨_, x, h, _⟩ := h; rw [h.load]; rfl
theorem SCN.l1 (h : SCN H0 H id s a line ws) : aload H 1 false (.ptr id 1) = some (.int .i64 a) := by obtain ⟨_, x, h, _⟩ := h; rw [h.load]; rfl
theorem SCN.l2 (h : SCN H0 H id s a line ws) : aload H 1 false (.ptr id 2) = some (.int .i64 line) := by obtain ⟨_, x, h, _⟩ := h; rw [h.load]; rfl
theorem lex_run_spec (hT : Cl Φ S.tab_Lex) {p : UInt8 → Bool} {key : Nat} (hkey : bkey key = none) (hp : ∀ (c : UInt8) (R : Post), R (.bool (p c)) H → Φ key [.int .u8 c.toNat] H R) (h : SCN H0 H id s a line ws) (ha : a ≤ s.length) (hl : s.length ≤ 1048576)
  (hQ : Q (.int .i64 (((s.drop a).takeWhile p).length : Nat)) H) : Φ K.f120 [.ptr id 0, .fn key []] H Q := by
 refine S.cl_f120 hT ?_
 unfold S.f120
 simp only [anilck, afaddr, Do_of, Nat.zero_add, h.l1]
 have main : ∀ (ys : List UInt8) (n : Nat), s.drop n = ys → a ≤ n → n ≤ s.length → n - a + (ys.takeWhile p).length = ((s.drop a).takeWhile p).length → LoopP (S.f120_l4 Φ (.ptr id 0) (.fn key []) Q) ([.int .i64 n], H) := by
  intro ys
  induction ys with
  | nil =>
   intro n hd hn hn2 he
   have hle := drop_nil_le hd
   refine LoopP.step ?_
   simp only [S.f120_l4, sl_zero, anilck, afaddr, Do_of, Nat.zero_add, Nat.add_zero, h.l0, alen_str, abin_lss, Gd3_true]
   rw [if_neg (by simp only [decide_eq_true_eq]; omega)]
   simp only [JoinP_def, S.f120_k3, sl_zero, Gd_true, Bool.false_eq_true, if_false, S.f120_k2, anilck, afaddr, Do_of, Nat.zero_add, h.l1, abin_sub]
   have e : IntKind.wrap .i64 ((n : Int) - a) = (((s.drop a).takeWhile p).length : Nat) := by
    simp at he
    rw [wrap_i64 (by omega) (by omega)]; omega
   rw [e]; exact hQ
  | cons y ys ih =>
   intro n hd hn hn2 he
   obtain ⟨hlt, hy, hd'⟩ := drop_cons_lt hd
   refine LoopP.step ?_
   simp only [S.f120_l4, sl_zero, anilck, afaddr, Do_of, Nat.zero_add, Nat.add_zero, h.l0, alen_str, abin_lss, Gd3_true]
   rw [if_pos (by simp only [decide_eq_true_eq]; omega)]
   have hx : aidxs (.str s) (.int .i64 n) = some (.int .u8 y.toNat) := by
    simp only [aidxs]; rw [if_pos (by omega)]; simp [hy]
   rw [hx]
   simp only [Do_of]
   refine ⟨key, [], rfl, ?_⟩
   rw [fkey_none hkey, fargs_none hkey, List.append_nil]
   refine hp y _ ?_
   simp only [JoinP_def, S.f120_k3, sl_zero, Gd_true]
   rw [List.takeWhile_cons] at he
   refine ite_both (fun hpy => ?_) (fun hpy => ?_)
   · rw [if_pos hpy] at he
     simp only [S.f120_k1, sl_zero, abin_add, Do_of]
     rw [wrap_i64 (by omega) (by omega), show ((n : Int) + 1) = ((n + 1 : Nat) : Int) by simp]
     refine ih (n + 1) hd' (by omega) (by omega) ?_
     simp only [List.length_cons] at he
     omega
   · rw [if_neg hpy] at he
     simp only [S.f120_k2, anilck, afaddr, Do_of, Nat.zero_add, sl_zero, h.l1, abin_sub]
     have e : IntKind.wrap .i64 ((n : Int) - a) = (((s.drop a).takeWhile p).length : Nat) := by
      simp at he
      rw [wrap_i64 (by omega) (by omega)]; omega
     rw [e]; exact hQ
 exact main (s.drop a) a rfl (Nat.le_refl _) ha (by omega)
theorem sslice_str {lo hi : Nat} (h1 : lo ≤ hi) (h2 : hi ≤ s.length) : asslice (.str s) (some (.int .i64 lo)) (some (.int .i64 hi)) = some (.str ((s.take hi).drop lo)) := by
 simp only [asslice, abound]
 rw [if_pos (by omega), if_pos (by omega)]
 simp only
 rw [if_pos ⟨by omega, by omega⟩]
 simp
theorem sslice_end {lo : Nat} (h1 : lo ≤ s.length) : asslice (.str s) (some (.int .i64 lo)) none = some (.str (s.drop lo)) := by
 simp only [asslice, abound]
 rw [if_pos (by omega)]
 simp only
 rw [if_pos ⟨by omega, by omega⟩]
 simp
theorem lex_take_spec (hT : Cl Φ S.tab_Lex) {n : Nat} (h : SCN H0 H id s a line ws) (hn : a + n ≤ s.length) (hl : s.length ≤ 1048576) (hws : ws.length ≤ 1048576)
  (hQ : ∀ H', SCN H0 H' id s (a + n) line (ws ++ [((s.drop a).take n, line)]) → Q (.tup []) H') : Φ K.f122 [.ptr id 0, .int .i64 n] H Q := by
 refine S.cl_f122 hT ?_
 unfold S.f122
 obtain ⟨hid, x, hat, hlst, hz⟩ := h
 have h' : SCN H0 H id s a line ws := ⟨hid, x, hat, hlst, hz⟩
 have l3 : aload H 1 false (.ptr id 3) = some x := by rw [hat.load]; rfl
 simp only [anilck, afaddr, Do_of, Nat.zero_add, Nat.add_zero, l3, h'.l0, h'.l1, h'.l2, abin_add]
 have e1 : IntKind.wrap .i64 ((a : Int) + n) = ((a + n : Nat) : Int) := by rw [wrap_i64 (by omega) (by omega)]; simp
 rw [e1, sslice_str (by omega) hn]
 have e2 : (s.take (a + n)).drop a = (s.drop a).take n := by rw [List.drop_take]; congr 1; omega
 rw [e2]
 simp only [Do_of]
 rw [show abuild [.str [], .int .i64 0] [(0, 1, .str ((s.drop a).take n)), (1, 1, .int .i64 line)] = some (.agg [.str ((s.drop a).take n), .int .i64 line]) from rfl]
 simp only [Do_of]
 rw [show abslice H false 2 1 [.str [], .int .i64 0] [(0, 2, .agg [.str ((s.drop a).take n), .int .i64 line])] = some (.lst .full 1 [.str ((s.drop a).take n), .int .i64 line], H) from rfl]
 simp only [DoH_some]
 refine hlst.app2 (m := 1) (news := [.str ((s.drop a).take n), .int .i64 line]) rfl rfl rfl (by decide) (by omega) (by omega) fun x' H' hl' hkeep => ?_
 have hat' : At H' id (.row [.str s, .int .i64 a, .int .i64 line, x]) := hkeep id _ hat (fun _ _ => by intro e; cases e)
 have kn : x'.known = true ∧ x'.cells = [x'] ∧ x'.scalar = true := by
  obtain ⟨_, tk, rfl, _⟩ := hl'
  exact ⟨rfl, rfl, rfl⟩
 rw [hat'.store, if_pos ⟨kn.1, by rw [kn.2.1]; rfl, by rw [kn.2.1]; simp [kn.2.2], by simp⟩, kn.2.1]
 simp only [Do_of]
 have e3 : setCells [AV.str s, .int .i64 a, .int .i64 line, x] 3 [x'] = [.str s, .int .i64 a, .int .i64 line, x'] := rfl
 rw [e3]
 have hat2 : At (H'.set id (.row [.str s, .int .i64 a, .int .i64 line, x'])) id (.row [.str s, .int .i64 a, .int .i64 line, x']) := hat'.set _
 have hl2 := hl'.oth hat' hid (.row [.str s, .int .i64 a, .int .i64 line, x'])
 generalize H'.set id (.row [.str s, .int .i64 a, .int .i64 line, x']) = H2 at *
 have l1 : aload H2 1 false (.ptr id 1) = some (.int .i64 a) := by rw [hat2.load]; rfl
 simp only [l1, Do_of, abin_add]
 rw [e1, hat2.store, if_pos ⟨rfl, rfl, rfl, by simp⟩]
 simp only [Do_of]
 refine hQ _ ⟨hid, x', hat2.set _, ?_, fun e => by simp at e⟩
 have hl3 := hl2.oth hat2 hid (.row (setCells [AV.str s, .int .i64 a, .int .i64 line, x'] 1 (AV.int .i64 ((a + n : Nat) : Int)).cells))
 rw [List.length_append, List.length_singleton, List.flatMap_append, List.flatMap_cons, List.flatMap_nil, List.append_nil]
 exact hl3
theorem drop_tw (p : UInt8 → Bool) : ∀ l : List UInt8, l.drop (l.takeWhile p).length = l.dropWhile p
 | [] => rfl
 | x :: r => by
  rw [List.takeWhile_cons, List.dropWhile_cons]
  split
  · rw [List.length_cons, List.drop_succ_cons, drop_tw p r]
  · rfl
theorem lex_word_spec (hT : Cl Φ S.tab_Lex) {num : List UInt8 → Bool} {y : UInt8} {r : List UInt8} (h : SCN H0 H id s a line ws) (hd : s.drop a = y :: r) (hy : isLet y = true) (hl : s.length ≤ 1048576) (hws : ws.length ≤ 1048576)
  (hQ : ∀ H', (match wordM num (y :: r) with | none => SCN H0 H' id s a line ws → Q (.bool false) H' | some k => SCN H0 H' id s (a + k) line (ws ++ [((s.drop a).take k, line)]) → Q (.bool true) H')) : Φ K.f103 [.ptr id 0] H Q := by
 refine S.cl_f103 hT ?_
 unfold S.f103
 have hlt := (drop_cons_lt hd).1
 refine lex_run_spec hT (by rfl) (p := isPart) (fun c R hR => S.cl_f121 hT (lex_part_spec hT hR)) h (by omega) hl ?_
 simp only [abin_gtr, Do_of, Gd_true]
 rw [wordM_cons, if_pos hy] at hQ
 rw [hd]
 have hk : ((y :: r).takeWhile isPart).length ≤ (y :: r).length := (List.takeWhile_prefix isPart).length_le
 have hlen : (y :: r).length = s.length - a := by rw [← hd, List.length_drop]
 refine ite_both (fun hg => ?_) (fun hg => ?_)
 · have hg' : 16 < ((y :: r).takeWhile isPart).length := by simp only [decide_eq_true_eq] at hg; omega
   rw [if_pos hg'] at hQ
   exact hQ H h
 · have hg' : ¬ 16 < ((y :: r).takeWhile isPart).length := by simp only [decide_eq_true_eq] at hg; omega
   rw [if_neg hg'] at hQ
   exact lex_take_spec hT h (by omega) hl hws fun H' h' => hQ H' h'
theorem lex_number_spec (hT : Cl Φ S.tab_Lex) {num : List UInt8 → Bool} (hnum : NumS Φ num) {y : UInt8} {r : List UInt8} (h : SCN H0 H id s a line ws) (hd : s.drop a = y :: r) (hy1 : isLet y = false) (hy : isDig y = true) (hl : s.length ≤ 1048576) (hws : ws.length ≤ 1048576)
  (hQ : ∀ H', (match wordM num (y :: r) with | none => SCN H0 H' id s a line ws → Q (.bool false) H' | some k => SCN H0 H' id s (a + k) line (ws ++ [((s.drop a).take k, line)]) → Q (.bool true) H')) : Φ K.f105 [.ptr id 0] H Q := by
 refine S.cl_f105 hT ?_
 unfold S.f105
 have hlt := (drop_cons_lt hd).1
 refine lex_run_spec hT (by rfl) (p := isDig) (fun c R hR => S.cl_f104 hT (lex_digit_spec hR)) h (by omega) hl ?_
 rw [wordM_cons, if_neg (by rw [hy1]; decide), if_pos hy] at hQ
 rw [hd]
 have hk : ((y :: r).takeWhile isDig).length ≤ (y :: r).length := (List.takeWhile_prefix isDig).length_le
 have hk1 : 1 ≤ ((y :: r).takeWhile isDig).length := by rw [List.takeWhile_cons, if_pos hy]; simp
 have hlen : (y :: r).length = s.length - a := by rw [← hd, List.length_drop]
 have hw : (s.take (a + ((y :: r).takeWhile isDig).length)).drop a = (y :: r).takeWhile isDig := by
  rw [List.drop_take, hd, show a + ((y :: r).takeWhile isDig).length - a = ((y :: r).takeWhile isDig).length by omega]
  exact (List.prefix_iff_eq_take.1 (List.takeWhile_prefix isDig)).symm
 have hrest : s.drop (a + ((y :: r).takeWhile isDig).length) = (y :: r).dropWhile isDig := by
  rw [← List.drop_drop, hd]
  exact drop_tw isDig _
 have hfirst : ∃ l, (y :: r).takeWhile isDig = y :: l := ⟨_, by rw [List.takeWhile_cons, if_pos hy]⟩
 generalize hW : (y :: r).takeWhile isDig = W at *
 simp only [anilck, afaddr, Do_of, Nat.zero_add, Nat.add_zero, h.l0, h.l1, abin_add]
 have e1 : IntKind.wrap .i64 ((a : Int) + W.length) = ((a + W.length : Nat) : Int) := by rw [wrap_i64 (by omega) (by omega)]; simp
 rw [e1, sslice_str (by omega) (by omega), hw]
 simp only [Do_of]
 have k3 : num W = true → ¬ (1 < W.length ∧ y = 48) → JoinP (S.f105_k3 Φ (.ptr id 0) (.int .i64 W.length) Q) [] H := by
  intro n1 n2
  simp only [JoinP_def, S.f105_k3, anilck, afaddr, Do_of, Nat.zero_add, Nat.add_zero, h.l0, h.l1, abin_add]
  rw [e1, sslice_end (by omega), hrest]
  simp only [Do_of, str_neq, Gd3_true]
  have k2 : ∀ b : Bool, b = !restOk ((y :: r).dropWhile isDig) → JoinP (S.f105_k2 Φ (.ptr id 0) (.int .i64 W.length) Q) [.bool b] H := by
   intro b hb
   simp only [JoinP_def, S.f105_k2, sl_zero, Gd_true]
   refine ite_both (fun hx => ?_) (fun hx => ?_)
   · have hr : restOk ((y :: r).dropWhile isDig) = false := by rw [hx] at hb; simpa using hb.symm
     rw [if_neg (by rw [hr]; simp)] at hQ
     exact hQ H h
   · have hr : restOk ((y :: r).dropWhile isDig) = true := by simp only [Bool.not_eq_true] at hx; rw [hx] at hb; simpa using hb.symm
     rw [if_pos ⟨⟨n1, n2⟩, hr⟩] at hQ
     simp only [S.f105_k1]
     exact lex_take_spec hT h (by omega) hl hws fun H' h' => hQ H' h'
  cases hdw : (y :: r).dropWhile isDig with
  | nil =>
   rw [hdw] at k2
   rw [if_neg (by decide)]
   exact k2 _ rfl
  | cons z l =>
   rw [hdw] at k2
   rw [if_pos (by simp)]
   have hx : aidxs (.str (z :: l)) (.int .i64 0) = some (.int .u8 z.toNat) := by simp [aidxs]
   rw [hx]
   simp only [Do_of]
   refine S.cl_f121 hT (lex_part_spec hT ?_)
   exact k2 _ (by simp [restOk])
 have k4 : ∀ b : Bool, (b = true ↔ (num W = false ∨ (1 < W.length ∧ y = 48))) → JoinP (S.f105_k4 Φ (.ptr id 0) (.int .i64 W.length) Q) [.bool b] H := by
  intro b hb
  simp only [JoinP_def, S.f105_k4, sl_zero, Gd_true]
  refine ite_both (fun hx => ?_) (fun hx => ?_)
  · have := hb.1 hx
    rw [if_neg (by rintro ⟨⟨h1, h2⟩, _⟩; rcases this with h | h; rw [h1] at h; cases h; exact h2 h)] at hQ
    exact hQ H h
  · have hn : ¬ (num W = false ∨ (1 < W.length ∧ y = 48)) := fun q => hx (hb.2 q)
    exact k3 (by simpa using fun q => hn (.inl q)) fun q => hn (.inr q)
 refine hnum W H _ (by omega) (fun hn u => ?_) (fun hn u T => ?_)
 · simp only [aextract, List.getElem?_cons_zero, List.getElem?_cons_succ, Do_of]
   rw [show anil .i true .nilif = some (.bool false) from rfl]
   simp only [Do_of, Gd3_false, if_true, abin_gtr, Gd3_true]
   refine ite_both (fun hx => ?_) (fun hx => ?_)
   · obtain ⟨l, hWl⟩ := hfirst
     have hx0 : aidxs (.str W) (.int .i64 0) = some (.int .u8 y.toNat) := by rw [hWl]; simp [aidxs]
     rw [hx0]
     simp only [Do_of, abin_eql]
     refine k4 _ ?_
     have h1 : 1 < W.length := by simp only [decide_eq_true_eq] at hx; omega
     have hy48 : ((y.toNat : Int) == 48) = true ↔ y = 48 := by
      simp only [beq_iff_eq]
      constructor
      · intro e
        apply UInt8.toNat_inj.1
        show y.toNat = 48
        omega
      · rintro rfl; rfl
     rw [hy48]
     simp [hn, h1]
   · refine k4 _ ?_
     have h1 : ¬ 1 < W.length := by simp only [decide_eq_true_eq] at hx; omega
     simp [hn, h1]
 · simp only [aextract, List.getElem?_cons_zero, List.getElem?_cons_succ, Do_of]
   rw [show anil .i true (.iface T .bot) = some (.bool true) from rfl]
   simp only [Do_of, Gd3_false]
   rw [if_neg (by decide)]
   exact k4 _ (by simp [hn])
theorem HasPrefix_spec (hT : Cl Φ S.tab_Lex) {t p : List UInt8} (hQ : Q (.bool (decide (t.take p.length = p ∧ p.length ≤ t.length))) H) : Φ K.f123 [.str t, .str p] H Q := by
 have fin : ∀ b : Bool, b = decide (t.take p.length = p ∧ p.length ≤ t.length) → Q (.bool b) H := fun b h => by rw [h]; exact hQ
 refine S.cl_f123 hT ?_
 unfold S.f123
 refine S.cl_f142 hT ?_
 unfold S.f142
 simp only [alen_str, Do_of, abin_geq, Gd3_true]
 refine ite_both (fun h => ?_) (fun h => ?_)
 · have h' : p.length ≤ t.length := by simp only [ge_iff_le, decide_eq_true_eq] at h; omega
   have hs : asslice (.str t) none (some (.int .i64 p.length)) = some (.str (t.take p.length)) := by
    simp only [asslice, abound]
    rw [if_pos (by omega)]
    simp only
    rw [if_pos ⟨by omega, by omega⟩]
    simp
   rw [hs]
   simp only [Do_of, str_eql]
   refine fin _ ?_
   rw [Bool.eq_iff_iff]; simp [h']
 · refine fin _ ?_
   have h' : ¬ p.length ≤ t.length := by simp only [ge_iff_le, decide_eq_true_eq] at h; omega
   simp [h']
theorem lex_sign_spec (hT : Cl Φ S.tab_Lex) (hidx : IdxS Φ) {num : List UInt8 → Bool} {y : UInt8} {r : List UInt8} (h : SCN H0 H id s a line ws) (hd : s.drop a = y :: r) (hy1 : isLet y = false) (hy : isDig y = false) (hl : s.length ≤ 1048576) (hws : ws.length ≤ 1048576)
  (hQ : ∀ H', (match wordM num (y :: r) with | none => SCN H0 H' id s a line ws → Q (.bool false) H' | some k => SCN H0 H' id s (a + k) line (ws ++ [((s.drop a).take k, line)]) → Q (.bool true) H')) : Φ K.f106 [.ptr id 0] H Q := by
 refine S.cl_f106 hT ?_
 have hlt := (drop_cons_lt hd).1
 have hlen : (y :: r).length = s.length - a := by rw [← hd, List.length_drop]
 have hget := (drop_cons_lt hd).2.1
 rw [wordM_cons, if_neg (by rw [hy1]; decide), if_neg (by rw [hy]; decide)] at hQ
 unfold S.f106
 rw [show abuild [.str [], .str [], .str [], .str []] [(0, 1, .str [60, 60]), (1, 1, .str [62, 62]), (2, 1, .str [61, 61]), (3, 1, .str [33, 61])] = some (.agg [.str [60, 60], .str [62, 62], .str [61, 61], .str [33, 61]]) from rfl]
 simp only [Do_of]
 have k1 : ¬ (two y ≠ none ∧ r.head? = two y) → JoinP (S.f106_k1 Φ (.ptr id 0) Q) [] H := by
  intro hn
  rw [if_neg hn] at hQ
  simp only [JoinP_def, S.f106_k1, anilck, afaddr, Do_of, Nat.zero_add, Nat.add_zero, h.l0, h.l1]
  have hx : aidxs (.str s) (.int .i64 a) = some (.int .u8 y.toNat) := by
   simp only [aidxs]; rw [if_pos (by omega)]; simp [hget]
  rw [hx]
  simp only [Do_of]
  refine S.cl_f124 hT ?_
  unfold S.f124
  refine hidx y H _ fun z hz => ?_
  simp only [abin_lss, Do_of, Gd_true]
  refine ite_both (fun hx => ?_) (fun hx => ?_)
  · have hc : sgn1.contains y = false := hz.1 (by simpa using hx)
    rw [if_neg (by rw [hc]; decide)] at hQ
    exact hQ H h
  · have hc : sgn1.contains y = true := by
      cases hcc : sgn1.contains y with
      | true => rfl
      | false => exact absurd (hz.2 hcc) (by simpa using hx)
    rw [if_pos hc] at hQ
    refine lex_take_spec hT (n := 1) h (by simp at hlen; omega) hl hws fun H' h' => hQ H' h'
 have two_pre : ∀ (p q : UInt8) (b : Bool), b = decide ((y :: r).take 2 = [p, q] ∧ 2 ≤ (y :: r).length) → (b = true ↔ (y = p ∧ r.head? = some q)) := by
  intro p q b hb
  rw [hb]
  cases r with
  | nil => simp
  | cons z l => simp
 have step : ∀ (i : Nat) (p q : UInt8) (tl : Prop), i < 4 → aidx 4 1 false (.agg [.str [60, 60], .str [62, 62], .str [61, 61], .str [33, 61]]) (.int .i64 i) = some (.str [p, q]) → two p = some q →
   ((¬ (y = p ∧ r.head? = some q)) → LoopP (S.f106_l2 Φ (.ptr id 0) (.agg [.str [60, 60], .str [62, 62], .str [61, 61], .str [33, 61]]) Q) ([.int .i64 ((i + 1 : Nat) : Int)], H)) →
   LoopP (S.f106_l2 Φ (.ptr id 0) (.agg [.str [60, 60], .str [62, 62], .str [61, 61], .str [33, 61]]) Q) ([.int .i64 i], H) := by
  intro i p q _ hi hget2 htwo hnext
  refine LoopP.step ?_
  simp only [S.f106_l2, sl_zero, abin_lss, Do_of, Gd_true]
  rw [if_pos (by simp only [decide_eq_true_eq]; omega), hget2]
  simp only [anilck, afaddr, Do_of, Nat.zero_add, Nat.add_zero, h.l0, h.l1]
  rw [sslice_end (by omega), hd]
  simp only [Do_of]
  refine HasPrefix_spec hT ?_
  have hb := two_pre p q _ rfl
  simp only [List.length_cons, List.length_nil, Nat.zero_add, Nat.reduceAdd, Gd_true]
  refine ite_both (fun hx => ?_) (fun hx => ?_)
  · obtain ⟨rfl, hr⟩ := hb.1 hx
    rw [if_pos ⟨by rw [htwo]; simp, by rw [htwo]; exact hr⟩] at hQ
    simp only [alen_str, Do_of, List.length_cons, List.length_nil, Nat.zero_add, Nat.reduceAdd]
    have h2 : 2 ≤ (y :: r).length := by
     cases r with
     | nil => cases hr
     | cons z l => simp
    exact lex_take_spec hT (n := 2) h (by omega) hl hws fun H' h' => hQ H' h'
  · simp only [abin_add, Do_of]
    rw [wrap_i64 (by omega) (by omega), show ((i : Int) + 1) = ((i + 1 : Nat) : Int) by simp]
    exact hnext fun q => hx (hb.2 q)
 refine step 0 60 60 True (by omega) rfl rfl fun n0 => ?_
 refine step 1 62 62 True (by omega) rfl rfl fun n1 => ?_
 refine step 2 61 61 True (by omega) rfl rfl fun n2 => ?_
 refine step 3 33 61 True (by omega) rfl rfl fun n3 => ?_
 refine LoopP.step ?_
 simp only [S.f106_l2, sl_zero, abin_lss, Do_of, Gd_true]
 rw [if_neg (by decide)]
 refine k1 fun ⟨q1, q2⟩ => ?_
 unfold two at q1 q2
 split at q2
 · rename_i e; exact n0 ⟨e, q2⟩
 · split at q2
   · rename_i e; exact n1 ⟨e, q2⟩
   · split at q2
     · rename_i e; exact n2 ⟨e, q2⟩
     · split at q2
       · rename_i e; exact n3 ⟨e, q2⟩
       · rename_i e0 e1 e2 e3
         rw [if_neg e0, if_neg e1, if_neg e2, if_neg e3] at q1
         exact q1 rfl
end
end Rb

namespace Rb
open Go
section
variable {Φ : Calls'} {H H0 : AH} {Q : Post} {id : Nat} {s : List UInt8} {a : Nat} {line : Int} {ws : List (List UInt8 × Int)}
theorem SCN.move (h : SCN H0 H id s a line ws) (a' : Nat) : ∃ H', astore H 1 (.ptr id 1) (.int .i64 (a' : Int)) = some H' ∧ SCN H0 H' id s a' line ws := by
 obtain ⟨hid, x, hat, hl, hz⟩ := h
 refine ⟨_, by rw [hat.store, if_pos ⟨rfl, rfl, rfl, by simp⟩]; rfl, hid, x, hat.set _, hl.oth hat hid _, hz⟩
theorem SCN.newline (h : SCN H0 H id s a line ws) (l' : Int) : ∃ H', astore H 1 (.ptr id 2) (.int .i64 l') = some H' ∧ SCN H0 H' id s a l' ws := by
 obtain ⟨hid, x, hat, hl, hz⟩ := h
 refine ⟨_, by rw [hat.store, if_pos ⟨rfl, rfl, rfl, by simp⟩]; rfl, hid, x, hat.set _, hl.oth hat hid _, hz⟩
theorem lex_next_spec (hT : Cl Φ S.tab_Lex) {num : List UInt8 → Bool} (hnum : NumS Φ num) (hidx : IdxS Φ) {y : UInt8} {r : List UInt8} (h : SCN H0 H id s a line ws) (hd : s.drop a = y :: r) (hl : s.length ≤ 1048576) (hws : ws.length ≤ 1048576) (hl0 : 0 ≤ line) (hl1 : line ≤ 2000000)
  (hQ : ∀ H', if y = 10 then (SCN H0 H' id s (a + 1) (line + 1) ws → Q (.bool true) H') else if y = 32 then (SCN H0 H' id s (a + 1) line ws → Q (.bool true) H')
    else (match wordM num (y :: r) with | none => SCN H0 H' id s a line ws → Q (.bool false) H' | some k => SCN H0 H' id s (a + k) line (ws ++ [((s.drop a).take k, line)]) → Q (.bool true) H')) : Φ K.f80 [.ptr id 0] H Q := by
 refine S.cl_f80 hT ?_
 have hlt := (drop_cons_lt hd).1
 have hget := (drop_cons_lt hd).2.1
 unfold S.f80
 simp only [anilck, afaddr, Do_of, Nat.zero_add, Nat.add_zero, h.l0, h.l1, h.l2, abin_add]
 have hx : aidxs (.str s) (.int .i64 a) = some (.int .u8 y.toNat) := by
  simp only [aidxs]; rw [if_pos (by omega)]; simp [hget]
 have e1 : IntKind.wrap .i64 ((a : Int) + 1) = ((a + 1 : Nat) : Int) := by rw [wrap_i64 (by omega) (by omega)]; simp
 have e2 : IntKind.wrap .i64 (line + 1) = line + 1 := wrap_i64 (by omega) (by omega)
 have hyn : ∀ n : Nat, n < 256 → (((y.toNat : Int) == (n : Int)) = true ↔ y = UInt8.ofNat n) := by
  intro n hn
  simp only [beq_iff_eq]
  constructor
  · intro e
    apply UInt8.toNat_inj.1
    rw [UInt8.toNat_ofNat']
    omega
  · rintro rfl
    rw [UInt8.toNat_ofNat']
    omega
 rw [hx]
 simp only [Do_of, abin_eql, Gd_true]
 refine ite_both (fun h10 => ?_) (fun h10 => ?_)
 · have hy : y = 10 := (hyn 10 (by omega)).1 h10
   rw [e2]
   obtain ⟨H1, q1, s1⟩ := h.newline (line + 1)
   rw [q1]
   simp only [Do_of, s1.l1, abin_add, e1]
   obtain ⟨H2, q2, s2⟩ := s1.move (a + 1)
   rw [q2]
   simp only [Do_of]
   have := hQ H2
   rw [if_pos hy] at this
   exact this s2
 · have hy10 : y ≠ 10 := fun e => h10 ((hyn 10 (by omega)).2 e)
   refine ite_both (fun h32 => ?_) (fun h32 => ?_)
   · have hy : y = 32 := (hyn 32 (by omega)).1 h32
     rw [e1]
     obtain ⟨H2, q2, s2⟩ := h.move (a + 1)
     rw [q2]
     simp only [Do_of]
     have := hQ H2
     rw [if_neg hy10, if_pos hy] at this
     exact this s2
   · have hy32 : y ≠ 32 := fun e => h32 ((hyn 32 (by omega)).2 e)
     have hQ' : ∀ H', (match wordM num (y :: r) with | none => SCN H0 H' id s a line ws → Q (.bool false) H' | some k => SCN H0 H' id s (a + k) line (ws ++ [((s.drop a).take k, line)]) → Q (.bool true) H') := fun H' => by
      have := hQ H'
      rw [if_neg hy10, if_neg hy32] at this
      exact this
     refine S.cl_f102 hT (lex_letter_spec ?_)
     simp only [Gd_true]
     refine ite_both (fun hlet => ?_) (fun hlet => ?_)
     · exact lex_word_spec hT h hd hlet hl hws hQ'
     · refine S.cl_f104 hT (lex_digit_spec ?_)
       simp only [Gd_true]
       refine ite_both (fun hdig => ?_) (fun hdig => ?_)
       · exact lex_number_spec hT hnum h hd (by simpa using hlet) hdig hl hws hQ'
       · exact lex_sign_spec hT hidx h hd (by simpa using hlet) (by simpa using hdig) hl hws hQ'
def lexM (num : List UInt8 → Bool) (s : List UInt8) : Except (Int × Int) (List (List UInt8 × Int)) :=
 if 1048576 < s.length then .error (0, 12) else match toks num s.length s 1 with
  | .ok ws => .ok ws
  | .error l => .error (l, 3)
def lexV : Except (Int × Int) (List (List UInt8 × Int)) → AV
 | .ok ws => .tup [lstA tokC ws, .agg [.int .i64 0, .int .i64 0]]
 | .error e => .tup [.lst .dead 0 [], .agg [.int .i64 e.1, .int .i64 e.2]]
def lexV2 : Except (Int × Int) (List (List UInt8 × Int)) → AV
 | .ok [] => .tup [.lst .nil 0 [], .agg [.int .i64 0, .int .i64 0]]
 | r => lexV r
theorem tokC_weak (ws : List (List UInt8 × Int)) : AV.weaks (ws.flatMap tokC) = ws.flatMap tokC := by
 rw [weaks_map]
 induction ws with
 | nil => rfl
 | cons w r ih => rw [List.flatMap_cons, List.map_append, ih]; rfl
theorem tokC_froz (w : List UInt8 × Int) : AV.frozs (tokC w) = true := rfl
theorem lexV_froz (r : Except (Int × Int) (List (List UInt8 × Int))) : (lexV r).froz = true := by
 cases r with
 | ok ws => simp only [lexV, AV.froz, AV.frozs, lstA_froz tokC_froz, Bool.and_self]
 | error e => rfl
theorem lex_Tokens_spec (hT : Cl Φ S.tab_Lex) {num : List UInt8 → Bool} (hnum : NumS Φ num) (hidx : IdxS Φ) (hQ : ∀ (v : AV) H', v.weak = lexV (lexM num s) → (lexM num s = .ok [] → v = .tup [.lst .nil 0 [], .agg [.int .i64 0, .int .i64 0]]) → Q v H') : S.f42 Φ (.str s) H Q := by
 unfold S.f42
 simp only [abox, if_true, DoH_some, alen_str, Do_of, abin_gtr, Gd_true]
 have at1 := At.new H (.row [.int .i64 0, .int .i64 0])
 generalize H.push (.row [.int .i64 0, .int .i64 0]) = H2 at *
 generalize H.n = id1 at *
 have out : ∀ (x : AV) (p q : Int) (H1 : AH), At H1 id1 (.row [.int .i64 0, .int .i64 0]) → (AV.tup [x, .agg [.int .i64 p, .int .i64 q]]).weak = lexV (lexM num s) → (lexM num s = .ok [] → AV.tup [x, .agg [.int .i64 p, .int .i64 q]] = .tup [.lst .nil 0 [], .agg [.int .i64 0, .int .i64 0]]) → Do (astore H1 2 (.ptr id1 0) (.agg [.int .i64 p, .int .i64 q])) fun H33 => Do (aload H33 2 true (.ptr id1 0)) fun x34 => Q (.tup [x, x34]) H33 := by
  intro x p q H1 ha he hz
  rw [ha.store, if_pos ⟨rfl, rfl, rfl, by simp [AV.cells]⟩]
  simp only [Do_of]
  rw [(ha.set _).load]
  rw [show takeCells (setCells [AV.int .i64 0, .int .i64 0] 0 (AV.agg [.int .i64 p, .int .i64 q]).cells) 0 2 true = some (.agg [.int .i64 p, .int .i64 q]) from rfl]
  simp only [Do_of]
  exact hQ _ _ he hz
 refine ite_both (fun hg => ?_) (fun hg => ?_)
 · have hg' : 1048576 < s.length := by simp only [decide_eq_true_eq] at hg; omega
   rw [show abuild [.int .i64 0, .int .i64 0] [(1, 1, .int .i64 12)] = some (.agg [.int .i64 0, .int .i64 12]) from rfl]
   simp only [Do_of]
   refine out _ 0 12 H2 at1 ?_ ?_
   · unfold lexM
     rw [if_pos hg']; rfl
   · unfold lexM
     rw [if_pos hg']; intro e; cases e
 · have hl : s.length ≤ 1048576 := by simp only [decide_eq_true_eq] at hg; omega
   have hM : lexM num s = match toks num s.length s 1 with | .ok ws => .ok ws | .error l => .error (l, 3) := by unfold lexM; rw [if_neg (by omega)]
   rw [show abuild [.str [], .int .i64 0, .int .i64 0, .lst .nil 0 []] [(0, 1, .str s), (2, 1, .int .i64 1)] = some (.agg [.str s, .int .i64 0, .int .i64 1, .lst .nil 0 []]) from rfl]
   simp only [Do_of]
   have hb : aboxv H2 true 4 (.agg [.str s, .int .i64 0, .int .i64 1, .lst .nil 0 []]) = some (.ptr H2.n 0, H2.push (.row [.str s, .int .i64 0, .int .i64 1, .lst .nil 0 []])) := by unfold aboxv; rw [if_pos ⟨rfl, rfl⟩]; rfl
   rw [hb]
   simp only [DoH_some]
   have sc0 : SCN H2 (H2.push (.row [.str s, .int .i64 0, .int .i64 1, .lst .nil 0 []])) H2.n s 0 1 [] := ⟨Nat.le_refl _, .lst .nil 0 [], At.new H2 _, (Lst.nil H2 2).psh _, fun _ => rfl⟩
   generalize H2.push (.row [.str s, .int .i64 0, .int .i64 1, .lst .nil 0 []]) = H10 at *
   generalize hid : H2.n = id at *
   have keep1 : ∀ {H1 : AH} {a : Nat} {line : Int} {ws}, SCN H2 H1 id s a line ws → At H1 id1 (.row [.int .i64 0, .int .i64 0]) := fun h => by
    obtain ⟨_, x, _, hl, _⟩ := h
    exact at1.ext hl.1
   have main : ∀ (n a : Nat) (line : Int) (ws : List (List UInt8 × Int)) (H1 : AH), s.length - a ≤ n → a ≤ s.length → ws.length ≤ a → 1 ≤ line → line ≤ a + 1 → SCN H2 H1 id s a line ws →
     (match toks num n (s.drop a) line with | .error l => toks num s.length s 1 = .error l | .ok r => toks num s.length s 1 = .ok (ws ++ r)) →
     LoopP (S.f42_l2 Φ (.str s) (.ptr id1 0) (.ptr id 0) Q) ([], H1) := by
    intro n
    induction n with
    | zero =>
     intro a line ws H1 hn ha hw hl1 hl2 hsc hfin
     have hd : s.drop a = [] := List.drop_eq_nil_of_le (by omega)
     rw [hd, toks_nil] at hfin
     simp only [List.append_nil] at hfin
     refine LoopP.step ?_
     simp only [S.f42_l2, anilck, afaddr, Do_of, Nat.zero_add, hsc.l1, alen_str, abin_lss, Gd_true]
     rw [if_neg (by simp only [decide_eq_true_eq]; omega)]
     simp only [JoinP_def, S.f42_k1, anilck, afaddr, Do_of, Nat.zero_add]
     obtain ⟨hid', x, hat, hlst, hz⟩ := hsc
     have l3 : aload H1 1 false (.ptr id 3) = some x := by rw [hat.load]; rfl
     rw [l3]
     simp only [Do_of]
     rw [show abuild [.int .i64 0, .int .i64 0] [] = some (.agg [.int .i64 0, .int .i64 0]) from rfl]
     simp only [Do_of]
     refine out x 0 0 H1 (at1.ext hlst.1) ?_ ?_
     · rw [hM, hfin]
       obtain ⟨_, tk, rfl, _⟩ := hlst
       simp only [AV.weak, AV.weaks, tokC_weak, lexV, lstA]
     · rw [hM, hfin]
       intro e
       rw [hz (by injection e)]
    | succ n ih =>
     intro a line ws H1 hn ha hw hl1 hl2 hsc hfin
     by_cases hend : a = s.length
     · have hd : s.drop a = [] := List.drop_eq_nil_of_le (by omega)
       rw [hd, toks_nil] at hfin
       refine ih a line ws H1 (by omega) ha hw hl1 hl2 hsc ?_
       rw [hd, toks_nil]; exact hfin
     · have hlt : a < s.length := by omega
       obtain ⟨y, r, hd⟩ : ∃ y r, s.drop a = y :: r := by
        cases hc : s.drop a with
        | nil => rw [List.drop_eq_nil_iff] at hc; omega
        | cons y r => exact ⟨y, r, rfl⟩
       have hd' := (drop_cons_lt hd).2.2
       have hrl : r.length = s.length - (a + 1) := by rw [← hd', List.length_drop]
       rw [hd, toks] at hfin
       refine LoopP.step ?_
       simp only [S.f42_l2, anilck, afaddr, Do_of, Nat.zero_add, hsc.l1, alen_str, abin_lss, Gd_true]
       rw [if_pos (by simp only [decide_eq_true_eq]; omega)]
       refine lex_next_spec hT hnum hidx hsc hd hl (by omega) (by omega) (by omega) fun H3 => ?_
       by_cases h10 : y = 10
       · rw [if_pos h10]
         rw [if_pos h10] at hfin
         intro s3
         simp only [aun_not, Do_of, Bool.not_true, Gd_true, Bool.false_eq_true, if_false]
         refine ih (a + 1) (line + 1) ws H3 (by omega) (by omega) (by omega) (by omega) (by omega) s3 ?_
         rw [hd']; exact hfin
       · rw [if_neg h10]
         rw [if_neg h10] at hfin
         by_cases h32 : y = 32
         · rw [if_pos h32]
           rw [if_pos h32] at hfin
           intro s3
           simp only [aun_not, Do_of, Bool.not_true, Gd_true, Bool.false_eq_true, if_false]
           refine ih (a + 1) line ws H3 (by omega) (by omega) (by omega) (by omega) (by omega) s3 ?_
           rw [hd']; exact hfin
         · rw [if_neg h32]
           rw [if_neg h32] at hfin
           cases hw2 : wordM num (y :: r) with
           | none =>
            rw [hw2] at hfin
            simp only at hfin
            intro s3
            simp only [aun_not, Do_of, Bool.not_false, Gd_true, if_true, anilck, afaddr, Nat.zero_add, s3.l2]
            rw [show abuild [.int .i64 0, .int .i64 0] [(0, 1, .int .i64 line), (1, 1, .int .i64 3)] = some (.agg [.int .i64 line, .int .i64 3]) from rfl]
            simp only [Do_of]
            refine out _ line 3 H3 (keep1 s3) ?_ ?_
            · rw [hM, hfin]; rfl
            · rw [hM, hfin]; intro e; cases e
           | some k =>
            rw [hw2] at hfin
            obtain ⟨k1, k2⟩ := wordM_pos hw2
            simp only [List.length_cons] at k2
            intro s3
            simp only [aun_not, Do_of, Bool.not_true, Gd_true, Bool.false_eq_true, if_false]
            refine ih (a + k) line _ H3 (by omega) (by omega) (by rw [List.length_append, List.length_singleton]; omega) hl1 (by omega) s3 ?_
            have hdk : s.drop (a + k) = (y :: r).drop k := by rw [← hd, List.drop_drop]
            rw [hdk, hd]
            simp only at hfin
            cases ht : toks num n ((y :: r).drop k) line with
            | error l => rw [ht] at hfin; exact hfin
            | ok r2 => rw [ht] at hfin; simp only at hfin ⊢; rw [hfin]; simp
   refine main s.length 0 1 [] H10 (by omega) (by omega) (by simp) (by omega) (by omega) sc0 ?_
   rw [List.drop_zero]
   cases toks num s.length s 1 with
   | error l => rfl
   | ok r => rfl
end
section
variable {C : Ctx} (hGT : GTok C) (hT : Cl (ACall C) S.tab_Lex) {num : List UInt8 → Bool} (hnum : NumS (ACall C) num) (hidx : IdxS (ACall C))
include hGT hT hnum hidx
theorem Tokens_val (s : List UInt8) : Val (ACall C) K.f42 [.str s] (lexV (lexM num s)) :=
 Val.of hGT rfl (lexV_froz _) fun Q hQ => ACall.weak (S.cl_f42 hT (lex_Tokens_spec hT hnum hidx fun v H' hv _ => by rw [hv]; exact hQ H'))
theorem Tokens_val2 (s : List UInt8) : Val (ACall C) K.f42 [.str s] (lexV2 (lexM num s)) := by
 cases h : lexM num s with
 | error e =>
  have := Tokens_val hGT hT hnum hidx s
  rw [h] at this; exact this
 | ok ws =>
  cases ws with
  | nil => exact Val.of hGT rfl rfl fun Q hQ => S.cl_f42 hT (lex_Tokens_spec hT hnum hidx fun v H' hv hz => by rw [hz h]; exact hQ H')
  | cons w r =>
   have := Tokens_val hGT hT hnum hidx s
   rw [h] at this; exact this
end
end Rb

namespace Rb
open Go
section
variable {num : List UInt8 → Bool}
theorem lexM_err {s : List UInt8} {e : Int × Int} (h : lexM num s = .error e) : e.2 ≠ 0 := by
 unfold lexM at h
 split at h
 · cases h; decide
 · split at h
   · cases h
   · cases h; exact (by decide : (3 : Int) ≠ 0)
theorem lexM_small {s : List UInt8} (h : s.length ≤ 1048576) : lexM num s = match toks num s.length s 1 with | .ok ws => .ok ws | .error l => .error (l, 3) := by
 unfold lexM; rw [if_neg (by omega)]; all_goals (cases toks num s.length s 1 <;> rfl)
theorem lexM_ok {s : List UInt8} {ws : List (List UInt8 × Int)} (h : lexM num s = .ok ws) : toks num s.length s 1 = .ok ws := by
 unfold lexM at h
 split at h
 · cases h
 · split at h
   · rename_i h2; cases h; exact h2
   · cases h
theorem toks_count : ∀ {n : Nat} {s : List UInt8} {line : Int} {ws : List (List UInt8 × Int)}, toks num n s line = .ok ws → ws.length ≤ s.length := by
 intro n
 induction n with
 | zero => intro s line ws h; rw [toks] at h; cases h; simp
 | succ n ih =>
  intro s line ws h
  cases s with
  | nil => rw [toks] at h; cases h; simp
  | cons x r =>
   rw [toks] at h
   split at h
   · have := ih h
     simp only [List.length_cons]; omega
   · split at h
     · have := ih h
       simp only [List.length_cons]; omega
     · cases hk : wordM num (x :: r) with
       | none => rw [hk] at h; cases h
       | some k =>
        obtain ⟨k1, k2⟩ := wordM_pos hk
        rw [hk] at h
        simp only at h
        cases ht : toks num n ((x :: r).drop k) line with
        | error l => rw [ht] at h; cases h
        | ok a =>
         rw [ht] at h
         cases h
         have h1 := ih ht
         rw [List.length_drop] at h1
         simp only [List.length_cons] at h1 ⊢
         omega
end
theorem tok_line (H : AH) {ws : List (List UInt8 × Int)} {i : Nat} {w : List UInt8 × Int} (hi : ws[i]? = some w) : aload H 1 false (.fptr (((ws.flatMap tokC).drop (i * 2)).drop 1)) = some (.int .i64 w.2) := by
 have hlt := (List.getElem?_eq_some_iff.1 hi).1
 show takeCells _ 0 1 false = _
 rw [flatMap_drop tokC_len]
 have hd : ws.drop i = w :: ws.drop (i + 1) := by
  rw [List.drop_eq_getElem_cons hlt]
  rw [List.getElem?_eq_getElem hlt] at hi
  simp at hi
  rw [hi]
 rw [hd, List.flatMap_cons]
 rfl
end Rb

namespace Rb
open Go
def numX (w : List UInt8) : Bool := match Go.Lib.parseUintB 64 w with
 | .ok _ => true
 | _ => false
theorem indexByte_neg : ∀ (l : List UInt8) (c : UInt8), -1 ≤ Go.Lib.indexByte l c ∧ (Go.Lib.indexByte l c < 0 ↔ l.contains c = false)
 | [], c => by simp [Go.Lib.indexByte]
 | b :: l, c => by
  obtain ⟨h1, h2⟩ := indexByte_neg l c
  unfold Go.Lib.indexByte
  rw [List.contains_cons]
  by_cases hb : (b == c) = true
  · rw [if_pos hb]
    have : (c == b) = true := by rw [beq_iff_eq] at hb ⊢; exact hb.symm
    rw [this]; simp
  · rw [if_neg hb]
    have hcb : (c == b) = false := by
     simp only [Bool.not_eq_true, beq_eq_false_iff_ne, ne_eq] at hb ⊢
     exact fun e => hb e.symm
    rw [hcb, Bool.false_or, ← h2]
    split
    · rename_i he
      have : Go.Lib.indexByte l c = -1 := by simpa using he
      rw [this]; decide
    · rename_i he
      have : Go.Lib.indexByte l c ≠ -1 := by simpa using he
      omega
end Rb

namespace Rb
open Go
structure PSt where
 toks : List (List UInt8 × Int)
 fl : Int
 fk : Int
abbrev x64 (n : Int) : Int := IntKind.wrap .i64 n
def PSt.hd (s : PSt) : List UInt8 × Int := s.toks.headD ([], 0)
def PSt.fail (s : PSt) (e : Int) : PSt := if s.fk = 0 then { s with fl := s.hd.2, fk := e } else s
def PSt.adv (s : PSt) : PSt := if 1 < s.toks.length then { s with toks := s.toks.drop 1 } else s
def PSt.isW (s : PSt) (w : List UInt8) : Bool := s.fk == 0 && s.hd.1 == w
def PSt.isA (s : PSt) (w : List UInt8) : PSt := if s.isW w = true then s.adv else s
def PSt.want (s : PSt) (w : List UInt8) : PSt := if s.fk ≠ 0 then s else if s.hd.1 = w then s.adv else s.fail 4
def lettersM : List UInt8 → Bool
 | [] => false
 | c :: _ => isLet c
def digitsM : List UInt8 → Bool
 | [] => false
 | c :: _ => isDig c
section
variable (kw : List UInt8 → Bool) (val : List UInt8 → Int)
def PSt.nameW (s : PSt) : Bool := s.fk == 0 && lettersM s.hd.1 && !kw s.hd.1
def PSt.nameT (s : PSt) : List UInt8 := if s.nameW kw = true then s.hd.1 else []
def PSt.nameS (s : PSt) : PSt := if s.nameW kw = true then s.adv else s.fail 4
def PSt.num (s : PSt) (most : Int) : Int × PSt :=
 if s.fk ≠ 0 ∨ digitsM s.hd.1 = false then (0, s.fail 4) else if val s.hd.1 > most then (0, s.fail 9) else (val s.hd.1, s.adv)
end
def PSt.deep (s : PSt) (d : Int) : PSt := if d > 64 then s.fail 5 else s
def tokV (tk : Tok) (ws : List (List UInt8 × Int)) : AV := .lst tk ws.length (ws.flatMap tokC)
theorem tokV_addr {tk : Tok} {ws : List (List UInt8 × Int)} {i : Nat} (hi : i < ws.length) : aiaddr none 2 (tokV tk ws) (.int .i64 i) = some (elA tokC 2 ws i) := by
 simp only [tokV, aiaddr]
 rw [if_pos ⟨by omega, by omega⟩]; rfl
theorem tokV_len {tk : Tok} {ws : List (List UInt8 × Int)} : alen false (tokV tk ws) = some (.int .i64 ws.length) := rfl
def PS (H : AH) (id : Nat) (s : PSt) : Prop := s.toks ≠ [] ∧ s.toks.length ≤ 2000000 ∧ ∃ tk, At H id (.row [tokV tk s.toks, .int .i64 s.fl, .int .i64 s.fk])
def KeepP (id : Nat) (H H' : AH) : Prop := H.n ≤ H'.n ∧ ∀ i o, i ≠ id → At H i o → At H' i o
theorem KeepP.refl (id : Nat) (H : AH) : KeepP id H H := ⟨Nat.le_refl _, fun _ _ _ h => h⟩
theorem KeepP.trans {id : Nat} {a b c : AH} (h : KeepP id a b) (k : KeepP id b c) : KeepP id a c := ⟨Nat.le_trans h.1 k.1, fun i o hi ho => k.2 i o hi (h.2 i o hi ho)⟩
theorem KeepP.push (id : Nat) (H : AH) (x : AObj) : KeepP id H (H.push x) := ⟨Nat.le_succ _, fun i o _ h => h.push x⟩
theorem KeepP.set (id : Nat) (H : AH) (x : AObj) : KeepP id H (H.set id x) := ⟨Nat.le_refl _, fun i o hi h => h.set_ne hi x⟩
theorem PSt.adv_ne {s : PSt} (h : s.toks ≠ []) : s.adv.toks ≠ [] := by
 unfold PSt.adv
 split
 · show s.toks.drop 1 ≠ []
   intro e
   rw [List.drop_eq_nil_iff] at e
   omega
 · exact h
theorem PSt.adv_len (s : PSt) : s.adv.toks.length ≤ s.toks.length := by
 unfold PSt.adv
 split
 · show (s.toks.drop 1).length ≤ _
   rw [List.length_drop]; omega
 · exact Nat.le_refl _
theorem PSt.fail_toks (s : PSt) (e : Int) : (s.fail e).toks = s.toks := by unfold PSt.fail; split <;> rfl
theorem PSt.adv_fk (s : PSt) : s.adv.fk = s.fk := by unfold PSt.adv; split <;> rfl
section
variable {Φ : Calls'} {H : AH} {Q : Post} {id : Nat} {s : PSt}
theorem PS.l0 (h : PS H id s) : ∃ tk, At H id (.row [tokV tk s.toks, .int .i64 s.fl, .int .i64 s.fk]) ∧ aload H 1 false (.ptr id 0) = some (tokV tk s.toks) := by obtain ⟨_, _, tk, h⟩ := h; exact ⟨tk, h, by rw [h.load]; rfl⟩
theorem PS.l2 (h : PS H id s) : aload H 1 false (.ptr id 2) = some (.int .i64 s.fk) := by obtain ⟨_, _, tk, h⟩ := h; rw [h.load]; rfl
theorem PS.hdc (h : PS H id s) : ∃ w, s.toks[0]? = some w ∧ s.hd = w ∧ 0 < s.toks.length := by
 obtain ⟨h1, _, _⟩ := h
 unfold PSt.hd
 cases hc : s.toks with
 | nil => exact absurd hc h1
 | cons w r => exact ⟨w, rfl, rfl, by simp⟩
theorem pz_text (H : AH) {ws : List (List UInt8 × Int)} {w : List UInt8 × Int} (hi : ws[0]? = some w) : aload H 1 false (.fptr (((ws.flatMap tokC).drop (0 * 2)).drop 0)) = some (.str w.1) := by
 cases ws with
 | nil => cases hi
 | cons x r => simp at hi; subst hi; rfl
theorem pz_line (H : AH) {ws : List (List UInt8 × Int)} {w : List UInt8 × Int} (hi : ws[0]? = some w) : aload H 1 false (.fptr (((ws.flatMap tokC).drop (0 * 2)).drop 1)) = some (.int .i64 w.2) := by
 cases ws with
 | nil => cases hi
 | cons x r => simp at hi; subst hi; rfl
theorem p_bad (hT : Cl Φ S.tab_Lex) (h : PS H id s) (hQ : Q (.bool (s.fk != 0)) H) : Φ K.f43 [.ptr id 0] H Q := by
 refine S.cl_f43 hT ?_
 unfold S.f43
 simp only [anilck, afaddr, Do_of, Nat.zero_add, Nat.add_zero, Nat.reduceAdd, h.l2, abin_neq]
 exact hQ
theorem p_fail (hT : Cl Φ S.tab_Lex) {e : Int} (h : PS H id s) (hQ : ∀ H', KeepP id H H' → PS H' id (s.fail e) → Q (.tup []) H') : Φ K.f48 [.ptr id 0, .int .i64 e] H Q := by
 refine S.cl_f48 hT ?_
 unfold S.f48
 refine p_bad hT h ?_
 simp only [aun_not, Do_of, Gd_true]
 obtain ⟨w, hw, hwd, hlt⟩ := h.hdc
 refine ite_both (fun hb => ?_) (fun hb => ?_)
 · have h0 : s.fk = 0 := by simpa using hb
   obtain ⟨tk, hat, hl0⟩ := h.l0
   simp only [anilck, afaddr, Do_of, Nat.zero_add, Nat.add_zero, hl0]
   have ha : aiaddr none 2 (tokV tk s.toks) (.int .i64 0) = some (elA tokC 2 s.toks 0) := tokV_addr hlt
   rw [ha]
   simp only [Do_of, elA, afaddr, pz_line H hw]
   rw [show abuild [.int .i64 0, .int .i64 0] [(0, 1, .int .i64 w.2), (1, 1, .int .i64 e)] = some (.agg [.int .i64 w.2, .int .i64 e]) from rfl]
   simp only [Do_of]
   rw [hat.store, if_pos ⟨rfl, rfl, rfl, by simp⟩]
   simp only [Do_of]
   refine hQ _ (KeepP.set id H _) ?_
   have es : s.fail e = { s with fl := w.2, fk := e } := by unfold PSt.fail; rw [if_pos h0, hwd]
   rw [es]
   exact ⟨h.1, h.2.1, tk, hat.set _⟩
 · have h0 : s.fk ≠ 0 := by simpa using hb
   refine hQ H (KeepP.refl _ _) ?_
   have es : s.fail e = s := by unfold PSt.fail; rw [if_neg h0]
   rw [es]; exact h
theorem p_peek (hT : Cl Φ S.tab_Lex) (h : PS H id s) (hQ : Q (.str s.hd.1) H) : Φ K.f44 [.ptr id 0] H Q := by
 refine S.cl_f44 hT ?_
 unfold S.f44
 obtain ⟨w, hw, hwd, hlt⟩ := h.hdc
 obtain ⟨tk, hat, hl0⟩ := h.l0
 simp only [anilck, afaddr, Do_of, Nat.zero_add, Nat.add_zero, hl0]
 have ha : aiaddr none 2 (tokV tk s.toks) (.int .i64 0) = some (elA tokC 2 s.toks 0) := tokV_addr hlt
 rw [ha]
 simp only [Do_of, elA, afaddr, pz_text H hw]
 rw [← hwd]; exact hQ
theorem slice_tail {tk : Tok} {ws : List (List UInt8 × Int)} (h : 1 < ws.length) : aslice 2 (tokV tk ws) (some (.int .i64 1)) none none = some (lstA tokC (ws.drop 1)) := by
 simp only [lstA, tokV, aslice, abound]
 rw [if_pos (by omega)]
 simp only [Option.map_none]
 rw [if_pos ⟨by omega, Nat.le_refl _, flatMap_len tokC_len ws⟩, if_neg (by omega)]
 have e1 : ((1 : Int)).toNat = 1 := rfl
 rw [e1, if_neg (by omega)]
 have hf : (ws.flatMap tokC).take (ws.length * 2) = ws.flatMap tokC := List.take_of_length_le (by rw [flatMap_len tokC_len]; omega)
 rw [hf, flatMap_drop tokC_len, List.length_drop]
theorem p_next (hT : Cl Φ S.tab_Lex) (h : PS H id s) (hQ : ∀ H', KeepP id H H' → PS H' id s.adv → Q (.str s.hd.1) H') : Φ K.f45 [.ptr id 0] H Q := by
 refine S.cl_f45 hT ?_
 unfold S.f45
 refine p_peek hT h ?_
 obtain ⟨tk, hat, hl0⟩ := h.l0
 simp only [anilck, afaddr, Do_of, Nat.zero_add, Nat.add_zero, hl0, tokV_len, abin_gtr, Gd_true]
 refine ite_both (fun hb => ?_) (fun hb => ?_)
 · have h1 : 1 < s.toks.length := by simp only [decide_eq_true_eq, gt_iff_lt] at hb; omega
   rw [slice_tail h1]
   simp only [Do_of]
   rw [hat.store, if_pos ⟨rfl, rfl, rfl, by simp⟩]
   simp only [Do_of]
   refine hQ _ (KeepP.set id H _) ⟨PSt.adv_ne h.1, Nat.le_trans (PSt.adv_len s) h.2.1, ?_⟩
   have es : s.adv = { s with toks := s.toks.drop 1 } := by unfold PSt.adv; rw [if_pos h1]
   rw [es]
   exact ⟨.dead, hat.set _⟩
 · have h1 : ¬ 1 < s.toks.length := by simp only [decide_eq_true_eq, gt_iff_lt] at hb; omega
   refine hQ H (KeepP.refl _ _) ?_
   have es : s.adv = s := by unfold PSt.adv; rw [if_neg h1]
   rw [es]; exact h
theorem p_is (hT : Cl Φ S.tab_Lex) {w : List UInt8} (h : PS H id s) (hQ : ∀ H', KeepP id H H' → PS H' id (s.isA w) → Q (.bool (s.isW w)) H') : Φ K.f19 [.ptr id 0, .str w] H Q := by
 refine S.cl_f19 hT ?_
 unfold S.f19
 refine p_bad hT h ?_
 have k2 : ∀ b : Bool, b = !s.isW w → JoinP (S.f19_k2 Φ (.ptr id 0) Q) [.bool b] H := by
  intro b hb
  simp only [JoinP_def, S.f19_k2, sl_zero, Gd_true]
  refine ite_both (fun hx => ?_) (fun hx => ?_)
  · have hf : s.isW w = false := by rw [hx] at hb; simpa using hb.symm
    have := hQ H (KeepP.refl _ _) (by unfold PSt.isA; rw [hf, if_neg (by decide)]; exact h)
    rw [hf] at this; exact this
  · have hf : s.isW w = true := by simp only [Bool.not_eq_true] at hx; rw [hx] at hb; simpa using hb.symm
    simp only [S.f19_k1]
    refine p_next hT h fun H' k' p' => ?_
    have := hQ H' k' (by unfold PSt.isA; rw [if_pos hf]; exact p')
    rw [hf] at this; exact this
 simp only [Gd3_false]
 refine ite_both (fun hx => ?_) (fun hx => ?_)
 · have h0 : s.fk = 0 := by simpa using hx
   refine p_peek hT h ?_
   simp only [str_neq, Do_of]
   exact k2 _ (by simp [PSt.isW, h0])
 · have h0 : s.fk ≠ 0 := by simpa using hx
   exact k2 _ (by simp [PSt.isW, h0])
theorem p_want (hT : Cl Φ S.tab_Lex) {w : List UInt8} (h : PS H id s) (hQ : ∀ H', KeepP id H H' → PS H' id (s.want w) → Q (.tup []) H') : Φ K.f22 [.ptr id 0, .str w] H Q := by
 refine S.cl_f22 hT ?_
 unfold S.f22
 refine p_bad hT h ?_
 simp only [aun_not, Do_of, Gd3_true]
 refine ite_both (fun hx => ?_) (fun hx => ?_)
 · have h0 : s.fk = 0 := by simpa using hx
   refine p_is hT h fun H1 k1 p1 => ?_
   simp only [aun_not, Do_of, JoinP_def, S.f22_k1, sl_zero, Gd_true]
   refine ite_both (fun hy => ?_) (fun hy => ?_)
   · have hf : s.isW w = false := by simpa using hy
     have hne : s.hd.1 ≠ w := by unfold PSt.isW at hf; rw [h0] at hf; simpa using hf
     have e1 : s.isA w = s := by unfold PSt.isA; rw [hf, if_neg (by decide)]
     rw [e1] at p1
     refine p_fail hT p1 fun H2 k2 p2 => ?_
     refine hQ H2 (k1.trans k2) ?_
     have e2 : s.want w = s.fail 4 := by unfold PSt.want; rw [if_neg (by simpa using h0), if_neg hne]
     rw [e2]; exact p2
   · have hf : s.isW w = true := by simpa using hy
     have heq : s.hd.1 = w := by unfold PSt.isW at hf; rw [h0] at hf; simpa using hf
     have e1 : s.isA w = s.adv := by unfold PSt.isA; rw [if_pos hf]
     rw [e1] at p1
     refine hQ H1 k1 ?_
     have e2 : s.want w = s.adv := by unfold PSt.want; rw [if_neg (by simpa using h0), if_pos heq]
     rw [e2]; exact p1
 · have h0 : s.fk ≠ 0 := by simpa using hx
   simp only [JoinP_def, S.f22_k1, sl_zero, Gd_true, Bool.false_eq_true, if_false]
   refine hQ H (KeepP.refl _ _) ?_
   have e2 : s.want w = s := by unfold PSt.want; rw [if_pos h0]
   rw [e2]; exact h
theorem p_letters (hT : Cl Φ S.tab_Lex) {w : List UInt8} (hQ : Q (.bool (lettersM w)) H) : Φ K.f46 [.str w] H Q := by
 have fin : ∀ b : Bool, b = lettersM w → Q (.bool b) H := fun b h => by rw [h]; exact hQ
 refine S.cl_f46 hT ?_
 unfold S.f46
 simp only [str_neq, Do_of, Gd3_true, JoinP_def, S.f46_k1, sl_zero]
 cases w with
 | nil =>
  rw [if_neg (by decide), if_neg (by decide)]
  exact fin _ rfl
 | cons c r =>
  rw [if_pos (by simp)]
  have hx : aidxs (.str (c :: r)) (.int .i64 0) = some (.int .u8 c.toNat) := by simp [aidxs]
  rw [hx]
  simp only [Do_of, abin_geq, abin_leq]
  refine ite_both (fun h => fin _ ?_) (fun h => fin _ ?_)
  · have h' : 97 ≤ c.toNat := by simp only [ge_iff_le, decide_eq_true_eq] at h; omega
    rw [Bool.eq_iff_iff]; simp [lettersM, isLet, h']; omega
  · have h' : ¬ 97 ≤ c.toNat := by simp only [ge_iff_le, decide_eq_true_eq] at h; omega
    simp [lettersM, isLet, h']
theorem p_digits (hT : Cl Φ S.tab_Lex) {w : List UInt8} (hQ : Q (.bool (digitsM w)) H) : Φ K.f83 [.str w] H Q := by
 have fin : ∀ b : Bool, b = digitsM w → Q (.bool b) H := fun b h => by rw [h]; exact hQ
 refine S.cl_f83 hT ?_
 unfold S.f83
 simp only [str_neq, Do_of, Gd3_true, JoinP_def, S.f83_k1, sl_zero]
 cases w with
 | nil =>
  rw [if_neg (by decide), if_neg (by decide)]
  exact fin _ rfl
 | cons c r =>
  rw [if_pos (by simp)]
  have hx : aidxs (.str (c :: r)) (.int .i64 0) = some (.int .u8 c.toNat) := by simp [aidxs]
  rw [hx]
  simp only [Do_of, abin_geq, abin_leq]
  refine ite_both (fun h => fin _ ?_) (fun h => fin _ ?_)
  · have h' : 48 ≤ c.toNat := by simp only [ge_iff_le, decide_eq_true_eq] at h; omega
    rw [Bool.eq_iff_iff]; simp [digitsM, isDig, h']; omega
  · have h' : ¬ 48 ≤ c.toNat := by simp only [ge_iff_le, decide_eq_true_eq] at h; omega
    simp [digitsM, isDig, h']
theorem p_name (hT : Cl Φ S.tab_Lex) {kw : List UInt8 → Bool} (hkw : ∀ x, Val Φ K.f47 [.str x] (.bool (kw x))) (h : PS H id s) (hQ : ∀ H', KeepP id H H' → PS H' id (s.nameS kw) → Q (.str (s.nameT kw)) H') : Φ K.f20 [.ptr id 0] H Q := by
 refine S.cl_f20 hT ?_
 unfold S.f20
 refine p_bad hT h ?_
 have k2 : ∀ b : Bool, b = !s.nameW kw → JoinP (S.f20_k2 Φ (.ptr id 0) Q) [.bool b] H := by
  intro b hb
  simp only [JoinP_def, S.f20_k2, sl_zero, Gd_true]
  refine ite_both (fun hx => ?_) (fun hx => ?_)
  · have hf : s.nameW kw = false := by rw [hx] at hb; simpa using hb.symm
    refine p_fail hT h fun H1 k1 p1 => ?_
    have := hQ H1 k1 (by unfold PSt.nameS; rw [hf, if_neg (by decide)]; exact p1)
    unfold PSt.nameT at this
    rw [hf, if_neg (by decide)] at this; exact this
  · have hf : s.nameW kw = true := by simp only [Bool.not_eq_true] at hx; rw [hx] at hb; simpa using hb.symm
    simp only [S.f20_k1]
    refine p_next hT h fun H' k' p' => ?_
    have := hQ H' k' (by unfold PSt.nameS; rw [if_pos hf]; exact p')
    unfold PSt.nameT at this
    rw [if_pos hf] at this; exact this
 have k3 : ∀ b : Bool, b = !(s.fk == 0 && lettersM s.hd.1) → JoinP (S.f20_k3 Φ (.ptr id 0) Q) [.bool b] H := by
  intro b hb
  simp only [JoinP_def, S.f20_k3, sl_zero, Gd3_false]
  refine ite_both (fun hx => ?_) (fun hx => ?_)
  · have hf : (s.fk == 0 && lettersM s.hd.1) = true := by rw [hx] at hb; simpa using hb.symm
    refine p_peek hT h ?_
    refine hkw _ _ _ ?_
    exact k2 _ (by unfold PSt.nameW; rw [hf]; simp)
  · have hf : (s.fk == 0 && lettersM s.hd.1) = false := by cases hy : (s.fk == 0 && lettersM s.hd.1) with
      | false => rfl
      | true => exact absurd (by rw [hb, hy]; rfl) hx
    exact k2 _ (by unfold PSt.nameW; rw [hf]; rfl)
 simp only [Gd3_false]
 refine ite_both (fun hx => ?_) (fun hx => ?_)
 · have h0 : s.fk = 0 := by simpa using hx
   refine p_peek hT h ?_
   refine p_letters hT ?_
   simp only [aun_not, Do_of]
   exact k3 _ (by simp [h0])
 · have h0 : s.fk ≠ 0 := by simpa using hx
   exact k3 _ (by simp [h0])
theorem p_deep (hT : Cl Φ S.tab_Lex) {d : Int} (h : PS H id s) (hQ : ∀ H', KeepP id H H' → PS H' id (s.deep d) → Q (.bool ((s.deep d).fk == 0)) H') : Φ K.f49 [.ptr id 0, .int .i64 d] H Q := by
 refine S.cl_f49 hT ?_
 unfold S.f49
 have k1 : ∀ (s' : PSt) (H1 : AH), s' = s.deep d → KeepP id H H1 → PS H1 id s' → JoinP (S.f49_k1 Φ (.ptr id 0) Q) [] H1 := by
  intro s' H1 e k p
  subst e
  simp only [JoinP_def, S.f49_k1]
  refine p_bad hT p ?_
  simp only [aun_not, Do_of]
  have := hQ H1 k p
  have e2 : (!((s.deep d).fk != 0)) = ((s.deep d).fk == 0) := by simp [bne]
  rw [e2]; exact this
 simp only [abin_gtr, Do_of, Gd_true]
 refine ite_both (fun hx => ?_) (fun hx => ?_)
 · refine p_fail hT h fun H1 kk p1 => ?_
   exact k1 _ H1 (by unfold PSt.deep; rw [if_pos (by simpa using hx)]) kk p1
 · exact k1 s H (by unfold PSt.deep; rw [if_neg (by simpa using hx)]) (KeepP.refl _ _) h
end
end Rb

namespace Rb
open Go
def tyZ : GType := ⟨0, 0, false, [], 0, []⟩
def plZ : GPlace := ⟨[], []⟩
def exZ : GExpr := ⟨0, 0, [], 0, 0, plZ, []⟩
def scL0 : List (List UInt8) := [[117, 56], [117, 49, 54], [117, 51, 50], [117, 54, 52]]
def scL1 : List (List UInt8) := [[97, 56], [97, 49, 54], [97, 51, 50], [97, 54, 52], [97, 49, 50, 56]]
def scalarM (w : List UInt8) : Option (Int × Int) := match scL0.findIdx? (· == w) with
 | some m => some (1, 2 ^ m)
 | none => (match scL1.findIdx? (· == w) with
   | some m => some (2, 2 ^ m)
   | none => none)
def kindM (w : List UInt8) : Int := if w = [115, 116, 114, 117, 99, 116] then 3 else if w = [117, 110, 105, 111, 110] then 4 else if w = [91] then 5 else 0
def operL : List (List UInt8) := [[43], [45], [42], [38], [124], [94], [60, 60], [62, 62], [61, 61], [33, 61], [60]]
def operM (w : List UInt8) : Int := match operL.findIdx? (· == w) with
 | some i => (i : Int) + 1
 | none => 0
def orderM (s : PSt) : Int × PSt :=
 if s.isW [114, 108, 120] = true then (1, s.adv) else if s.isW [97, 99, 113] = true then (2, s.adv) else if s.isW [114, 101, 108] = true then (3, s.adv) else if s.isW [115, 99] = true then (4, s.adv) else (0, s.fail 4)
section
variable (kw : List UInt8 → Bool) (val : List UInt8 → Int)
def fieldM (ty : Int → PSt → GType × PSt) (d : Int) (s : PSt) : GField × PSt :=
 let o := s.isW [95]
 let nm : List UInt8 := if o = true then [] else (s.isA [95]).nameT kw
 let s1 : PSt := if o = true then s.isA [95] else (s.isA [95]).nameS kw
 let t := ty (x64 (d + 1)) s1
 if o = true ∨ t.2.hd.1 = [58] then
  let q := (t.2.want [58]).num val 1073741824
  (⟨nm, t.1, true, x64 q.1⟩, q.2.want [59])
 else (⟨nm, t.1, false, 0⟩, t.2.want [59])
mutual
def typM : Nat → Int → PSt → GType × PSt
 | 0, d, s => (tyZ, s)
 | n + 1, d, s =>
  let s1 := s.deep d
  if s1.fk ≠ 0 then (tyZ, s1) else
  match scalarM s1.hd.1 with
  | some p => (⟨p.1, p.2, false, [], 0, []⟩, s1.adv)
  | none =>
   if kindM s1.hd.1 = 0 then (tyZ, s1.fail 4)
   else if kindM s1.hd.1 = 5 then
    let q := s1.adv.num val 1073741824
    let t := typM n (x64 (d + 1)) (q.2.want [93])
    (⟨5, 0, false, [], x64 q.1, [t.1]⟩, t.2)
   else
    let l := fldsM n d ((s1.adv.isA [112, 97, 99, 107, 101, 100]).want [123])
    (⟨kindM s1.hd.1, 0, s1.adv.isW [112, 97, 99, 107, 101, 100], l.1, 0, []⟩, l.2)
def fldsM : Nat → Int → PSt → List GField × PSt
 | 0, d, s => ([], s)
 | n + 1, d, s =>
  if s.fk ≠ 0 then ([], s) else if s.isW [125] = true then ([], s.adv) else
  let f := fieldM kw val (fun d s => typM n d s) d s
  let r := fldsM n d f.2
  (f.1 :: r.1, r.2)
end
def binM (ex : Int → PSt → GExpr × PSt) (d : Int) (s : PSt) : GExpr × PSt :=
 let a := ex (x64 (d + 1)) s
 let op := operM a.2.hd.1
 let s3 := if a.2.fk = 0 ∧ op = 0 then a.2.fail 4 else a.2
 let s4 := if s3.fk = 0 then s3.adv else s3
 let b := ex (x64 (d + 1)) s4
 (⟨3, 0, [], op, 0, plZ, [a.1, b.1]⟩, b.2.want [41])
def kidsM (ex : Int → PSt → GExpr × PSt) (d : Int) : Nat → PSt → List GExpr × PSt
 | 0, s => ([], s)
 | k + 1, s => let e := ex (x64 (d + 1)) s; let r := kidsM ex d k e.2; (e.1 :: r.1, r.2)
def placeM' (pa : Int → PSt → List GPart × PSt) (d : Int) (s : PSt) : GPlace × PSt :=
 let r := pa d (s.nameS kw)
 (⟨s.nameT kw, r.1⟩, r.2)
def accM (ex : Int → PSt → GExpr × PSt) (pa : Int → PSt → List GPart × PSt) (kind : Int) (k : Nat) (d : Int) (s : PSt) : GExpr × PSt :=
 let o := if kind = 4 then (0, s) else orderM s
 let p := placeM' kw pa d o.2
 let r := kidsM ex d k p.2
 (⟨kind, 0, [], 0, o.1, p.1, r.1⟩, r.2)
mutual
def exprM : Nat → Int → PSt → GExpr × PSt
 | 0, d, s => (exZ, s)
 | n + 1, d, s =>
  let s1 := s.deep d
  if s1.fk ≠ 0 then (exZ, s1)
  else if digitsM s1.hd.1 = true then
   let q := s1.num val 18446744073709551615
   (⟨1, q.1, [], 0, 0, plZ, []⟩, q.2)
  else if lettersM s1.hd.1 = true ∧ kw s1.hd.1 = false then (⟨2, 0, s1.hd.1, 0, 0, plZ, []⟩, s1.adv)
  else if s1.isW [40] = true then binM (fun d s => exprM n d s) d s1.adv
  else if s1.isW [114, 101, 97, 100] = true then accM kw (fun d s => exprM n d s) (fun d s => partsM n d s) 4 0 d s1.adv
  else if s1.isW [108, 111, 97, 100] = true then accM kw (fun d s => exprM n d s) (fun d s => partsM n d s) 5 0 d s1.adv
  else if s1.isW [97, 100, 100] = true then accM kw (fun d s => exprM n d s) (fun d s => partsM n d s) 6 1 d s1.adv
  else if s1.isW [115, 119, 97, 112] = true then accM kw (fun d s => exprM n d s) (fun d s => partsM n d s) 7 1 d s1.adv
  else if s1.isW [99, 97, 115] = true then accM kw (fun d s => exprM n d s) (fun d s => partsM n d s) 8 2 d s1.adv
  else (exZ, s1.fail 4)
def partsM : Nat → Int → PSt → List GPart × PSt
 | 0, d, s => ([], s)
 | n + 1, d, s =>
  if s.fk ≠ 0 then ([], s)
  else if s.isW [46] = true then
   let r := partsM n d (s.adv.nameS kw)
   (⟨s.adv.nameT kw, []⟩ :: r.1, r.2)
  else if s.isW [91] = true then
   let e := exprM n (x64 (d + 1)) s.adv
   let r := partsM n d (e.2.want [93])
   (⟨[], [e.1]⟩ :: r.1, r.2)
  else ([], s)
end
end
end Rb

namespace Rb
open Go
def stZ (line : Int) : GStmt := ⟨0, line, [], [], 0, plZ, [], [], []⟩
section
variable (kw : List UInt8 → Bool) (val : List UInt8 → Int)
def blockF (ss : Int → PSt → List GStmt × PSt) (d : Int) (s : PSt) : List GStmt × PSt :=
 let s1 := s.deep d
 if s1.fk ≠ 0 then ([], s1) else ss d (s1.want [123])
def valueF (ex : Int → PSt → GExpr × PSt) (d : Int) (s : PSt) : GExpr × PSt := ex (x64 (d + 1)) (s.want [61])
def controlF (ex : Int → PSt → GExpr × PSt) (ss : Int → PSt → List GStmt × PSt) (x : GStmt) (d : Int) (s : PSt) : GStmt × PSt :=
 if s.isW [105, 102] = true then
  let e := ex (x64 (d + 1)) s.adv
  let a := blockF ss (x64 (d + 1)) e.2
  if a.2.isW [101, 108, 115, 101] = true then
   let b := blockF ss (x64 (d + 1)) a.2.adv
   ({ x with kind := 8, exprs := [e.1], thn := a.1, els := b.1 }, b.2)
  else ({ x with kind := 8, exprs := [e.1], thn := a.1 }, a.2)
 else if s.isW [119, 104, 105, 108, 101] = true then
  let e := ex (x64 (d + 1)) s.adv
  let a := blockF ss (x64 (d + 1)) e.2
  ({ x with kind := 9, exprs := [e.1], thn := a.1 }, a.2)
 else (x, s.fail 4)
def stmtF (ex : Int → PSt → GExpr × PSt) (pa : Int → PSt → List GPart × PSt) (ss : Int → PSt → List GStmt × PSt) (d : Int) (s : PSt) : GStmt × PSt :=
 let x := stZ s.hd.2
 if s.isW [108, 101, 116] = true then
  let v := valueF ex d (s.adv.nameS kw)
  ({ x with kind := 1, name := s.adv.nameT kw, exprs := [v.1] }, v.2.want [59])
 else if s.isW [115, 101, 116] = true then
  let v := valueF ex d (s.adv.nameS kw)
  ({ x with kind := 2, name := s.adv.nameT kw, exprs := [v.1] }, v.2.want [59])
 else if s.isW [119, 114, 105, 116, 101] = true then
  let p := placeM' kw pa d s.adv
  let v := valueF ex d p.2
  ({ x with kind := 3, place := p.1, exprs := [v.1] }, v.2.want [59])
 else if s.isW [115, 116, 111, 114, 101] = true then
  let o := orderM s.adv
  let p := placeM' kw pa d o.2
  let v := valueF ex d p.2
  ({ x with kind := 4, order := o.1, place := p.1, exprs := [v.1] }, v.2.want [59])
 else if s.isW [108, 111, 97, 100, 50] = true then
  let o := orderM s.adv
  let p := placeM' kw pa d o.2
  let s2 := p.2.nameS kw
  ({ x with kind := 5, order := o.1, place := p.1, name := p.2.nameT kw, name2 := s2.nameT kw }, (s2.nameS kw).want [59])
 else if s.isW [115, 116, 111, 114, 101, 50] = true then
  let o := orderM s.adv
  let p := placeM' kw pa d o.2
  let v := valueF ex d p.2
  let u := ex (x64 (d + 1)) (v.2.want [44])
  ({ x with kind := 6, order := o.1, place := p.1, exprs := [v.1, u.1] }, u.2.want [59])
 else if s.isW [102, 101, 110, 99, 101] = true then
  let o := orderM s.adv
  ({ x with kind := 7, order := o.1 }, o.2.want [59])
 else if s.isW [112, 114, 105, 110, 116] = true then
  let e := ex (x64 (d + 1)) s.adv
  ({ x with kind := 10, exprs := [e.1] }, e.2.want [59])
 else controlF ex ss x d s
def stmtsM : Nat → Int → PSt → List GStmt × PSt
 | 0, d, s => ([], s)
 | n + 1, d, s =>
  if s.fk ≠ 0 then ([], s) else if s.isW [125] = true then ([], s.adv) else
  let x := stmtF kw (exprM kw val n) (partsM kw val n) (fun d s => stmtsM n d s) d s
  let r := stmtsM n d x.2
  (x.1 :: r.1, r.2)
def varsM : Nat → PSt → List GVar × PSt
 | 0, s => ([], s)
 | n + 1, s => if s.isW [118, 97, 114] = true then
   let t := typM kw val n 1 (s.adv.nameS kw)
   let r := varsM n (t.2.want [59])
   (⟨s.adv.nameT kw, t.1⟩ :: r.1, r.2)
  else ([], s)
def PSt.endM (s : PSt) : PSt := if s.fk = 0 ∧ 1 < s.toks.length then s.fail 4 else s
end
def Wf (s : PSt) : Prop := ∃ l : List (List UInt8 × Int), ∃ n : Int, s.toks = l ++ [([], n)] ∧ ∀ w ∈ l, w.1.length ≤ 1048576
theorem Wf.ne {s : PSt} (h : Wf s) : s.toks ≠ [] := by
 obtain ⟨l, n, e, _⟩ := h; rw [e]; simp
theorem Wf.fail {s : PSt} (h : Wf s) (e : Int) : Wf (s.fail e) := by
 obtain ⟨l, n, h, k⟩ := h; exact ⟨l, n, by rw [PSt.fail_toks]; exact h, k⟩
theorem Wf.adv {s : PSt} (h : Wf s) : Wf s.adv := by
 obtain ⟨l, n, h, k⟩ := h
 unfold PSt.adv
 split
 · rename_i hlt
   cases l with
   | nil => rw [h] at hlt; simp at hlt
   | cons a r => exact ⟨r, n, by show s.toks.drop 1 = _; rw [h]; rfl, fun w hw => k w (List.mem_cons_of_mem _ hw)⟩
 · exact ⟨l, n, h, k⟩
theorem Wf.short {s : PSt} (h : Wf s) (hd : s.hd.1 ≠ []) : s.adv.toks.length + 1 = s.toks.length := by
 obtain ⟨l, n, h, _⟩ := h
 cases l with
 | nil => exact absurd (by unfold PSt.hd; rw [h]; rfl) hd
 | cons a r =>
  unfold PSt.adv
  rw [if_pos (by rw [h]; simp)]
  show (s.toks.drop 1).length + 1 = _
  rw [h]; simp
def Few (n : Nat) (s : PSt) : Prop := s.fk ≠ 0 ∨ s.toks.length ≤ n
theorem PSt.fail_fk (s : PSt) {e : Int} (he : e ≠ 0) : (s.fail e).fk ≠ 0 := by
 unfold PSt.fail; split
 · exact he
 · assumption
theorem Few.zero {s : PSt} (h : Few 0 s) (w : Wf s) : s.fk ≠ 0 := by
 rcases h with h | h
 · exact h
 · exact absurd (List.length_eq_zero_iff.1 (by omega)) w.ne
theorem Few.mono {n m : Nat} {s : PSt} (h : Few n s) (k : n ≤ m) : Few m s := h.imp id fun h => Nat.le_trans h k
theorem Few.fail {n : Nat} {s : PSt} (h : Few n s) (e : Int) : Few n (s.fail e) := by
 rcases h with h | h
 · exact .inl (by unfold PSt.fail; rw [if_neg h]; exact h)
 · exact .inr (by rw [PSt.fail_toks]; exact h)
theorem Few.adv {n : Nat} {s : PSt} (h : Few n s) : Few n s.adv := by
 rcases h with h | h
 · exact .inl (by rw [PSt.adv_fk]; exact h)
 · exact .inr (Nat.le_trans (PSt.adv_len s) h)
theorem Few.read {n : Nat} {s : PSt} (h : Few (n + 1) s) (w : Wf s) (hd : s.hd.1 ≠ []) : Few n s.adv := by
 rcases h with h | h
 · exact .inl (by rw [PSt.adv_fk]; exact h)
 · exact .inr (by have := w.short hd; omega)
theorem isW_hd {s : PSt} {w : List UInt8} (h : s.isW w = true) : s.fk = 0 ∧ s.hd.1 = w := by
 unfold PSt.isW at h; simpa using h
theorem Few.isW {n : Nat} {s : PSt} {w : List UInt8} (h : Few (n + 1) s) (f : Wf s) (k : s.isW w = true) (hw : w ≠ []) : Few n s.adv := h.read f (by rw [(isW_hd k).2]; exact hw)
theorem Wf.hd {s : PSt} (h : Wf s) : s.hd.1.length ≤ 1048576 := by
 obtain ⟨l, n, h, k⟩ := h
 unfold PSt.hd
 rw [h]
 cases l with
 | nil => simp
 | cons a r => exact k a List.mem_cons_self
end Rb

namespace Rb
open Go
def Wk (Φ : Calls') : Prop := ∀ k args H (Q : Post), Φ k args H (fun v H' => Q v.weak H') → Φ k args H Q
theorem ACall.wk (C : Ctx) : Wk (ACall C) := fun _ _ _ _ h => ACall.weak h
theorem weaks_app (a b : List AV) : AV.weaks (a ++ b) = AV.weaks a ++ AV.weaks b := by rw [weaks_map, weaks_map, weaks_map, List.map_append]
mutual
theorem GType.weaks : ∀ x : GType, AV.weaks x.cells = x.cells
 | .mk kind size packed fields count elem => by simp only [GType.cells, AV.weaks, AV.weak, GField.weaksA fields, GType.weaksA elem]
theorem GType.weaksA : ∀ xs : List GType, AV.weaks (GType.all xs) = GType.all xs
 | [] => rfl
 | x :: r => by rw [GType.all, weaks_app, GType.weaks x, GType.weaksA r]
theorem GField.weaks : ∀ x : GField, AV.weaks x.cells = x.cells
 | .mk name type bits width => by simp only [GField.cells, AV.weaks, AV.weak, weaks_app, GType.weaks type]
theorem GField.weaksA : ∀ xs : List GField, AV.weaks (GField.all xs) = GField.all xs
 | [] => rfl
 | x :: r => by rw [GField.all, weaks_app, GField.weaks x, GField.weaksA r]
end
mutual
theorem GExpr.weaks : ∀ x : GExpr, AV.weaks x.cells = x.cells
 | .mk kind n name op order place kids => by simp only [GExpr.cells, AV.weaks, AV.weak, weaks_app, GPlace.weaks place, GExpr.weaksA kids]
theorem GExpr.weaksA : ∀ xs : List GExpr, AV.weaks (GExpr.all xs) = GExpr.all xs
 | [] => rfl
 | x :: r => by rw [GExpr.all, weaks_app, GExpr.weaks x, GExpr.weaksA r]
theorem GPlace.weaks : ∀ x : GPlace, AV.weaks x.cells = x.cells
 | .mk var parts => by simp only [GPlace.cells, AV.weaks, AV.weak, GPart.weaksA parts]
theorem GPart.weaks : ∀ x : GPart, AV.weaks x.cells = x.cells
 | .mk field index => by simp only [GPart.cells, AV.weaks, AV.weak, GExpr.weaksA index]
theorem GPart.weaksA : ∀ xs : List GPart, AV.weaks (GPart.all xs) = GPart.all xs
 | [] => rfl
 | x :: r => by rw [GPart.all, weaks_app, GPart.weaks x, GPart.weaksA r]
end
theorem lstA_weak {α : Type} {cells : α → List AV} (h : ∀ x, AV.weaks (cells x) = cells x) (xs : List α) : (lstA cells xs).weak = lstA cells xs := by
 have : AV.weaks (xs.flatMap cells) = xs.flatMap cells := by
  induction xs with
  | nil => rfl
  | cons x r ih => rw [List.flatMap_cons, weaks_app, h, ih]
 simp only [lstA, AV.weak, this]
mutual
theorem GStmt.weaks : ∀ x : GStmt, AV.weaks x.cells = x.cells
 | .mk kind line name name2 order place exprs thn els => by
  simp only [GStmt.cells, AV.weaks, AV.weak, weaks_app, GPlace.weaks place, GStmt.weaksA thn, GStmt.weaksA els, lstA_weak GExpr.weaks exprs]
theorem GStmt.weaksA : ∀ xs : List GStmt, AV.weaks (GStmt.all xs) = GStmt.all xs
 | [] => rfl
 | x :: r => by rw [GStmt.all, weaks_app, GStmt.weaks x, GStmt.weaksA r]
end
theorem GVar.weaks (x : GVar) : AV.weaks x.cells = x.cells := by simp only [GVar.cells, AV.weaks, AV.weak, GType.weaks]
def OwnT (n0 : Nat) (H : AH) (sz : Nat) (x : AV) (len : Nat) (cells : List AV) : Prop :=
 ∃ tk, x = .lst tk len cells ∧ cells.length = len * sz ∧ ((tk = .nil ∧ len = 0) ∨ tk = .full ∨ ∃ t, tk = .own t ∧ n0 ≤ t ∧ At H t (.tok (len * sz) sz))
theorem OwnT.nil (n0 : Nat) (H : AH) (sz : Nat) : OwnT n0 H sz (.lst .nil 0 []) 0 [] := ⟨.nil, rfl, by simp, .inl ⟨rfl, rfl⟩⟩
theorem OwnT.weak {n0 : Nat} {H : AH} {sz len : Nat} {x : AV} {cells : List AV} (h : OwnT n0 H sz x len cells) (hw : AV.weaks cells = cells) : x.weak = .lst .dead len cells := by
 obtain ⟨tk, rfl, _, _⟩ := h
 simp only [AV.weak, hw]
theorem OwnT.keep {n0 : Nat} {H H' : AH} {sz len id : Nat} {x : AV} {cells : List AV} (h : OwnT n0 H sz x len cells) (hi : id < n0) (k : KeepP id H H') : OwnT n0 H' sz x len cells := by
 obtain ⟨tk, hx, hc, ht⟩ := h
 refine ⟨tk, hx, hc, ?_⟩
 rcases ht with ht | ht | ⟨t, h1, h2, h3⟩
 · exact .inl ht
 · exact .inr (.inl ht)
 · exact .inr (.inr ⟨t, h1, h2, k.2 t _ (by omega) h3⟩)
theorem OwnT.frame {n0 : Nat} {H H' : AH} {sz len : Nat} {x : AV} {cells : List AV} (h : OwnT n0 H sz x len cells) (k : ∀ t a b, At H t (.tok a b) → At H' t (.tok a b)) : OwnT n0 H' sz x len cells := by
 obtain ⟨tk, hx, hc, ht⟩ := h
 refine ⟨tk, hx, hc, ?_⟩
 rcases ht with ht | ht | ⟨t, h1, h2, h3⟩
 · exact .inl ht
 · exact .inr (.inl ht)
 · exact .inr (.inr ⟨t, h1, h2, k t _ _ h3⟩)
def Left (n0 : Nat) (H H' : AH) : Prop := H.n ≤ H'.n ∧ ∀ i o, At H i o → (i < n0 ∨ ∀ a b, o ≠ .tok a b) → At H' i o
theorem OwnT.app {n0 sz bytes len m : Nat} {H : AH} {x y : AV} {cells news : List AV} {K : Post} (h : OwnT n0 H sz x len cells) (hn0 : n0 ≤ H.n) (hy : acells H sz y = some (m, news)) (hn : news.length = m * sz) (hs : news.all AV.scalar = true) (hm : m ≠ 0)
  (hb : (len + m) * bytes ≤ 140737488355328) (hl : len + m ≤ 9223372036854775807) (hK : ∀ x' H', OwnT n0 H' sz x' (len + m) (cells ++ news) → Left n0 H H' → K x' H') : DoH (aappend H false sz bytes x y) K := by
 obtain ⟨tk, rfl, hc, htk⟩ := h
 have hlen : (cells ++ news).length = (len + m) * sz := by simp [hc, hn, Nat.add_mul]
 have grow : ∀ tk : Tok, tk = .full ∨ (tk = .nil ∧ len = 0) → aappend H false sz bytes (.lst tk len cells) y = some (.lst (.own H.n) (len + m) (cells ++ news), H.push (.tok ((len + m) * sz) sz)) := by
  intro tk ht
  simp only [aappend, hy, hs, not_true_eq_false, if_false, if_neg hm]
  rw [if_neg (by simp only [Decidable.not_not]; exact ⟨hc, hb, hl⟩)]
  rcases ht with rfl | ⟨rfl, _⟩ <;> rfl
 have fresh : K (.lst (.own H.n) (len + m) (cells ++ news)) (H.push (.tok ((len + m) * sz) sz)) :=
  hK _ _ ⟨_, rfl, hlen, .inr (.inr ⟨H.n, rfl, hn0, At.new H _⟩)⟩ ⟨Nat.le_succ _, fun i o h _ => h.push _⟩
 rcases htk with ht | ht | ⟨t, rfl, h1, h2⟩
 · exact ⟨_, _, grow tk (.inr ht), fresh⟩
 · exact ⟨_, _, grow tk (.inl ht), fresh⟩
 · refine ⟨.lst (.own H.n) (len + m) (cells ++ news), (H.set t .gone).push (.tok ((len + m) * sz) sz), ?_, hK _ _ ⟨_, rfl, hlen, .inr (.inr ⟨H.n, rfl, hn0, At.new (H.set t .gone) _⟩)⟩ ⟨Nat.le_succ _, fun i o hi ho => (hi.set_ne (fun e => ?_) _).push _⟩⟩
   · simp only [aappend, hy, hs, not_true_eq_false, if_false, if_neg hm]
     rw [if_neg (by simp only [Decidable.not_not]; exact ⟨hc, hb, hl⟩)]
     simp [h2.2]
   · subst e
     rcases ho with ho | ho
     · omega
     · exact ho _ _ (hi.2.symm.trans h2.2)
theorem KeepP.pushL {id : Nat} {H0 H : AH} (h : KeepP id H0 H) (x : AObj) : KeepP id H0 (H.push x) := h.trans (KeepP.push id H x)
theorem KeepP.setL {id i : Nat} {H0 H : AH} (h : KeepP id H0 H) (hi : H0.n ≤ i) (x : AObj) : KeepP id H0 (H.set i x) := ⟨h.1, fun j o hj ho => (h.2 j o hj ho).set_ne (by have := ho.1; omega) x⟩
theorem KeepP.left {id : Nat} {H0 H H' : AH} (h : KeepP id H0 H) (k : Left H0.n H H') : KeepP id H0 H' := ⟨Nat.le_trans h.1 k.1, fun j o hj ho => k.2 j o (h.2 j o hj ho) (.inl ho.1)⟩
theorem PS.pushL {H : AH} {id : Nat} {s : PSt} (h : PS H id s) (x : AObj) : PS (H.push x) id s := ⟨h.1, h.2.1, h.2.2.imp fun _ h => h.push x⟩
theorem PS.setL {H : AH} {id i : Nat} {s : PSt} (h : PS H id s) (hi : id ≠ i) (x : AObj) : PS (H.set i x) id s := ⟨h.1, h.2.1, h.2.2.imp fun _ h => h.set_ne hi x⟩
theorem PS.left {n0 : Nat} {H H' : AH} {id : Nat} {s : PSt} (h : PS H id s) (k : Left n0 H H') : PS H' id s := ⟨h.1, h.2.1, h.2.2.imp fun _ h => k.2 _ _ h (.inr fun _ _ e => by cases e)⟩
theorem Left.row {n0 : Nat} {H H' : AH} {i : Nat} {cs : List AV} (k : Left n0 H H') (h : At H i (.row cs)) : At H' i (.row cs) := k.2 _ _ h (.inr fun _ _ e => by cases e)
end Rb

namespace Rb
open Go
def NumV (Φ : Calls') (val : List UInt8 → Int) : Prop :=
 ∀ (w : List UInt8) (H : AH) (Q : Post), w.length ≤ 1048576 → digitsM w = true → (∀ v, Q (.tup [.int .u64 (val w), v]) H) → Φ K.f84 [.str w, .int .i64 10, .int .i64 64] H Q
section
variable {Φ : Calls'} {H : AH} {Q : Post} {id : Nat} {s : PSt}
theorem p_num (hT : Cl Φ S.tab_Lex) {val : List UInt8 → Int} (hv : NumV Φ val) {most : Int} (h : PS H id s) (hw : Wf s) (hQ : ∀ H', KeepP id H H' → PS H' id (s.num val most).2 → Q (.int .u64 (s.num val most).1) H') : Φ K.f52 [.ptr id 0, .int .u64 most] H Q := by
 refine S.cl_f52 hT ?_
 unfold S.f52
 refine p_bad hT h ?_
 have k2 : ∀ b : Bool, b = (s.fk != 0 || !digitsM s.hd.1) → JoinP (S.f52_k2 Φ (.ptr id 0) (.int .u64 most) Q) [.bool b] H := by
  intro b hb
  simp only [JoinP_def, S.f52_k2, sl_zero, Gd_true]
  refine ite_both (fun hx => ?_) (fun hx => ?_)
  · have hc : s.fk ≠ 0 ∨ digitsM s.hd.1 = false := by
      rw [hx] at hb
      have := hb.symm
      simpa [bne_iff_ne] using this
    have e : s.num val most = (0, s.fail 4) := by unfold PSt.num; rw [if_pos hc]
    refine p_fail hT h fun H' k p => ?_
    have := hQ H' k (by rw [e]; exact p)
    rw [e] at this; exact this
  · have hc : ¬ (s.fk ≠ 0 ∨ digitsM s.hd.1 = false) := by
      intro hc
      refine hx ?_
      rw [hb]
      rcases hc with hc | hc
      · simp [hc]
      · simp [hc]
    have hd : digitsM s.hd.1 = true := by
     cases hy : digitsM s.hd.1 with
     | true => rfl
     | false => exact absurd (.inr hy) hc
    simp only [S.f52_k1]
    refine p_peek hT h ?_
    refine hv _ _ _ hw.hd hd fun v => ?_
    simp only [aextract, List.getElem?_cons_zero, List.getElem?_cons_succ, Do_of, abin_gtr]
    refine ite_both (fun hg => ?_) (fun hg => ?_)
    · have hg' : val s.hd.1 > most := by simpa using hg
      have e : s.num val most = (0, s.fail 9) := by unfold PSt.num; rw [if_neg hc, if_pos hg']
      refine p_fail hT h fun H' k p => ?_
      have := hQ H' k (by rw [e]; exact p)
      rw [e] at this; exact this
    · have hg' : ¬ val s.hd.1 > most := by simpa using hg
      have e : s.num val most = (val s.hd.1, s.adv) := by unfold PSt.num; rw [if_neg hc, if_neg hg']
      refine p_next hT h fun H' k p => ?_
      have := hQ H' k (by rw [e]; exact p)
      rw [e] at this; exact this
 simp only [Gd3_false]
 refine ite_both (fun hx => ?_) (fun hx => ?_)
 · have h0 : s.fk = 0 := by simpa using hx
   refine p_peek hT h ?_
   refine p_digits hT ?_
   simp only [aun_not, Do_of]
   exact k2 _ (by simp [h0])
 · have h0 : s.fk ≠ 0 := by simpa using hx
   exact k2 _ (by simp [h0])
theorem p_kind (hT : Cl Φ S.tab_Lex) {w : List UInt8} (hQ : Q (.int .i64 (kindM w)) H) : Φ K.f51 [.str w] H Q := by
 refine S.cl_f51 hT ?_
 unfold S.f51
 unfold kindM at hQ
 simp only [str_eql, Do_of, Gd_true, beq_iff_eq]
 refine ite_both (fun h1 => ?_) (fun h1 => ?_)
 · rw [if_pos h1] at hQ; exact hQ
 · rw [if_neg h1] at hQ
   refine ite_both (fun h2 => ?_) (fun h2 => ?_)
   · rw [if_pos h2] at hQ; exact hQ
   · rw [if_neg h2] at hQ
     refine ite_both (fun h3 => ?_) (fun h3 => ?_)
     · rw [if_pos h3] at hQ; exact hQ
     · rw [if_neg h3] at hQ; exact hQ
end
end Rb

namespace Go.Proofs.YtbkkoplgicffgaaGreatDoor.rb
open Rb Go.Shelf Go.RowKit
def laysPu14_ren : Go.Shelf.Ren := ⟨fun | 14 => 84 | 16 => 110 | 17 => 111 | 19 => 126 | 20 => 127 | 21 => 128 | 22 => 129 | 23 => 130 | 24 => 131 | 25 => 146 | 27 => 95 | 26 => 147 | 28 => 116 | 29 => 137 | 30 => 133 | 31 => 134 | 32 => 135 | 33 => 136 | 35 => 149 | 34 => 148 | 36 => 150 | 37 => 151 | 38 => 152 | 39 => 154 | 40 => 155 | n => n, fun | 9 => 9 | 3 => 3 | 22 => 70 | 24 => 114 | 25 => 145 | 4 => 4 | 34 => 183 | 5 => 5 | 36 => 185 | 37 => 75 | 0 => 0 | 39 => 186 | 21 => 21 | 44 => 210 | 47 => 123 | 50 => 224 | 48 => 222 | 2 => 2 | 52 => 189 | 55 => 192 | 59 => 214 | 60 => 180 | 20 => 20 | 61 => 215 | 65 => 226 | 66 => 227 | 67 => 62 | n => n, fun | 0 => 2 | 1 => 3 | 2 => 4 | 3 => 8 | 4 => 9 | n => n⟩
theorem laysPu14 : Go.Proofs.LaysPu.n14 Tryz.prog laysPu14_ren := {
  mixed := by kernel_rfl
  f14 := Tryz.func84.trans (congrArg some (by kernel_rfl))
  f16 := Tryz.func110.trans (congrArg some (by kernel_rfl))
  f17 := Tryz.func111.trans (congrArg some (by kernel_rfl))
  f19 := Tryz.func126.trans (congrArg some (by kernel_rfl))
  f20 := Tryz.func127.trans (congrArg some (by kernel_rfl))
  f21 := Tryz.func128.trans (congrArg some (by kernel_rfl))
  f22 := Tryz.func129.trans (congrArg some (by kernel_rfl))
  f23 := Tryz.func130.trans (congrArg some (by kernel_rfl))
  f24 := Tryz.func131.trans (congrArg some (by kernel_rfl))
  f25 := Tryz.func146.trans (congrArg some (by kernel_rfl))
  f26 := Tryz.func147.trans (congrArg some (by kernel_rfl))
  f27 := Tryz.func95.trans (congrArg some (by kernel_rfl))
  f28 := Tryz.func116.trans (congrArg some (by kernel_rfl))
  f29 := Tryz.func137.trans (congrArg some (by kernel_rfl))
  f30 := Tryz.func133.trans (congrArg some (by kernel_rfl))
  f31 := Tryz.func134.trans (congrArg some (by kernel_rfl))
  f32 := Tryz.func135.trans (congrArg some (by kernel_rfl))
  f33 := Tryz.func136.trans (congrArg some (by kernel_rfl))
  f34 := Tryz.func148.trans (congrArg some (by kernel_rfl))
  f35 := Tryz.func149.trans (congrArg some (by kernel_rfl))
  f36 := Tryz.func150.trans (congrArg some (by kernel_rfl))
  f37 := Tryz.func151.trans (congrArg some (by kernel_rfl))
  f38 := Tryz.func152.trans (congrArg some (by kernel_rfl))
  f39 := Tryz.func154.trans (congrArg some (by kernel_rfl))
  f40 := Tryz.func155.trans (congrArg some (by kernel_rfl))
  t0 := Tryz.underlying0
  a0 := Tryz.isAgg0
  z0 := Tryz.sizeOf0
  v0 := Tryz.zeroValue0
  i0 := by kernel_rfl
  t2 := Tryz.underlying2
  a2 := Tryz.isAgg2
  z2 := Tryz.sizeOf2
  v2 := Tryz.zeroValue2
  i2 := by kernel_rfl
  t3 := Tryz.underlying3
  a3 := Tryz.isAgg3
  z3 := Tryz.sizeOf3
  v3 := Tryz.zeroValue3
  i3 := by kernel_rfl
  t4 := Tryz.underlying4
  a4 := Tryz.isAgg4
  z4 := Tryz.sizeOf4
  v4 := Tryz.zeroValue4
  i4 := by kernel_rfl
  t5 := Tryz.underlying5
  a5 := Tryz.isAgg5
  z5 := Tryz.sizeOf5
  v5 := Tryz.zeroValue5
  i5 := by kernel_rfl
  t9 := Tryz.underlying9
  a9 := Tryz.isAgg9
  z9 := Tryz.sizeOf9
  v9 := Tryz.zeroValue9
  i9 := by kernel_rfl
  t20 := Tryz.underlying20
  a20 := Tryz.isAgg20
  z20 := Tryz.sizeOf20
  v20 := Tryz.zeroValue20
  i20 := by kernel_rfl
  t21 := Tryz.underlying21
  a21 := Tryz.isAgg21
  z21 := Tryz.sizeOf21
  v21 := Tryz.zeroValue21
  i21 := by kernel_rfl
  t22 := Tryz.underlying70
  a22 := Tryz.isAgg70
  z22 := Tryz.sizeOf70
  v22 := Tryz.zeroValue70
  i22 := by kernel_rfl
  t24 := Tryz.underlying114
  a24 := Tryz.isAgg114
  z24 := Tryz.sizeOf114
  v24 := Tryz.zeroValue114
  i24 := by kernel_rfl
  t25 := Tryz.underlying145
  a25 := Tryz.isAgg145
  z25 := Tryz.sizeOf145
  v25 := Tryz.zeroValue145
  i25 := by kernel_rfl
  t34 := Tryz.underlying183
  a34 := Tryz.isAgg183
  z34 := Tryz.sizeOf183
  v34 := Tryz.zeroValue183
  i34 := by kernel_rfl
  c34 := by kernel_rfl
  t36 := Tryz.underlying185
  a36 := Tryz.isAgg185
  z36 := Tryz.sizeOf185
  v36 := Tryz.zeroValue185
  i36 := by kernel_rfl
  t37 := Tryz.underlying75
  a37 := Tryz.isAgg75
  z37 := Tryz.sizeOf75
  v37 := Tryz.zeroValue75
  i37 := by kernel_rfl
  t39 := Tryz.underlying186
  a39 := Tryz.isAgg186
  z39 := Tryz.sizeOf186
  v39 := Tryz.zeroValue186
  i39 := by kernel_rfl
  t44 := Tryz.underlying210
  a44 := Tryz.isAgg210
  z44 := Tryz.sizeOf210
  v44 := Tryz.zeroValue210
  i44 := by kernel_rfl
  t47 := Tryz.underlying123
  a47 := Tryz.isAgg123
  z47 := Tryz.sizeOf123
  v47 := Tryz.zeroValue123
  i47 := by kernel_rfl
  t48 := Tryz.underlying222
  a48 := Tryz.isAgg222
  z48 := Tryz.sizeOf222
  v48 := Tryz.zeroValue222
  i48 := by kernel_rfl
  t50 := Tryz.underlying224
  a50 := Tryz.isAgg224
  z50 := Tryz.sizeOf224
  v50 := Tryz.zeroValue224
  i50 := by kernel_rfl
  t52 := Tryz.underlying189
  a52 := Tryz.isAgg189
  z52 := Tryz.sizeOf189
  v52 := Tryz.zeroValue189
  i52 := by kernel_rfl
  t55 := Tryz.underlying192
  a55 := Tryz.isAgg192
  z55 := Tryz.sizeOf192
  v55 := Tryz.zeroValue192
  i55 := by kernel_rfl
  t59 := Tryz.underlying214
  a59 := Tryz.isAgg214
  z59 := Tryz.sizeOf214
  v59 := Tryz.zeroValue214
  i59 := by kernel_rfl
  t60 := Tryz.underlying180
  a60 := Tryz.isAgg180
  z60 := Tryz.sizeOf180
  v60 := Tryz.zeroValue180
  i60 := by kernel_rfl
  t61 := Tryz.underlying215
  a61 := Tryz.isAgg215
  z61 := Tryz.sizeOf215
  t65 := Tryz.underlying226
  a65 := Tryz.isAgg226
  z65 := Tryz.sizeOf226
  v65 := Tryz.zeroValue226
  i65 := by kernel_rfl
  t66 := Tryz.underlying227
  a66 := Tryz.isAgg227
  z66 := Tryz.sizeOf227
  v66 := Tryz.zeroValue227
  i66 := by kernel_rfl
  t67 := Tryz.underlying62
  a67 := Tryz.isAgg62
  z67 := Tryz.sizeOf62
  v67 := Tryz.zeroValue62
  i67 := by kernel_rfl
  g0 := by kernel_rfl
  m0 := by kernel_rfl
  g1 := by kernel_rfl
  m1 := by kernel_rfl
  g2 := by kernel_rfl
  m2 := by kernel_rfl
  g3 := by kernel_rfl
  m3 := by kernel_rfl
  g4 := by kernel_rfl
  m4 := by kernel_rfl }
theorem errCell {W : World} {G : Ghost} (hG : GOK C W G) {g : Nat} (hg : gt g = some [.iface 222 (.fptr [])]) : ∃ V, W.cell? ⟨g, 0, none⟩ = some (.iface 222 V) := by
 have h := hG g _ hg
 cases h with
 | fptr cells b o Vs h hv =>
  have h1 := (h 0 _ rfl).2
  have h2 := hv 0 _ rfl
  rw [Nat.add_zero] at h1
  generalize Vs 0 = V at *
  cases h2
  exact ⟨_, h1⟩
theorem tup2 {F : FTab} {w : World} {G : Ghost} {a b : AV} {A B : Value} (h1 : VR F w G a A) (h2 : VR F w G b B) : VR F w G (.tup [a, b]) (.tuple #[A, B]) := by
 refine .tup _ _ rfl fun j c V hc hV => ?_
 rcases j with _ | _ | j
 · simp at hc hV; subst hc hV; exact h1
 · simp at hc hV; subst hc hV; exact h2
 · simp at hc
def valX (w : List UInt8) : Int := match Go.Lib.parseUintB 64 w with
 | .ok u => u
 | .range => 18446744073709551615
 | _ => 0
theorem num2OK (w : List UInt8) (H : AH) (Q : Post) (hw : w.length ≤ 1048576) (h1 : numX w = true → Q (.tup [.int .u64 (valX w), .nilif]) H) (h2 : numX w = false → ∀ T, Q (.tup [.int .u64 (valX w), .iface T .bot]) H) : ACall C K.f84 [.str w, .int .i64 10, .int .i64 64] H Q := by
 refine ⟨by
   cases hn : numX w with
   | false => exact ⟨_, _, h2 hn 0⟩
   | true => exact ⟨_, _, h1 hn⟩, fun f hf G W Vs hG hrel hargs => ?_⟩
 obtain rfl : f = 84 := by
  have : C.F K.f84 = some 84 := by kernel_rfl
  rw [this] at hf; exact (Option.some.inj hf).symm
 obtain ⟨hl, hv⟩ := hargs
 obtain ⟨Vl⟩ := Vs
 match Vl, hl with
 | [V0, V1, V2], _ =>
  have e0 := (hv 0 _ V0 rfl rfl).str_inv
  have e1 := (hv 1 _ V1 rfl rfl).int_inv
  have e2 := (hv 2 _ V2 rfl rfl).int_inv
  subst e0 e1 e2
  have hs : (⟨w.toArray⟩ : ByteArray).size ≤ 1048576 := by show w.toArray.size ≤ _; simpa using hw
  have hd : (⟨w.toArray⟩ : ByteArray).data.toList = w := by simp
  obtain ⟨VS, hS⟩ := errCell hG.1 (g := 2) rfl
  obtain ⟨VT, hR⟩ := errCell hG.1 (g := 3) rfl
  unfold valX numX at h1 h2
  cases hp : Go.Lib.parseUintB 64 w
  · rename_i u
    rw [hp] at h1
    refine (Any.strconv_ParseUint_10_at64_ok laysPu14 ⟨w.toArray⟩ (by omega) u (by rw [hd]; exact hp) W).mono fun e w' ⟨he, hw'⟩ => ?_
    have hbel : Below W.heap.size W w' := by
     rcases hw' with rfl | rfl
     · exact Below.refl _ _
     · exact Lib.bytesWorld_below _ _ _
    exact ⟨_, _, H, G, he, h1 rfl, tup2 (.int _ _) .nilif, rel_below hbel hrel, step_below hbel hrel⟩
  · rw [hp] at h2
    refine (Any.strconv_ParseUint_10_at64_syntax laysPu14 ⟨w.toArray⟩ (by omega) (by rw [hd]; exact hp) _ W hS (.inr ⟨_, _, rfl⟩)).mono fun e w' ⟨N, he, _, _, hbel⟩ => ?_
    exact ⟨_, _, H, G, he, h2 rfl _, tup2 (.int _ _) (.iface _ _ _ (.bot _)), rel_below hbel hrel, step_below hbel hrel⟩
  · rw [hp] at h2
    refine (Any.strconv_ParseUint_10_at64_range laysPu14 ⟨w.toArray⟩ (by omega) (by rw [hd]; exact hp) _ W hR (.inr ⟨_, _, rfl⟩)).mono fun e w' ⟨N, he, _, _, hbel⟩ => ?_
    exact ⟨_, _, H, G, he, h2 rfl _, tup2 (.int _ _) (.iface _ _ _ (.bot _)), rel_below hbel hrel, step_below hbel hrel⟩
theorem numOK : NumS (ACall C) numX := fun w H Q hw h1 h2 => num2OK w H Q hw (fun h => h1 h _) (fun h T => h2 h _ T)
theorem valOK : NumV (ACall C) valX := fun w H Q hw _ h => num2OK w H Q hw (fun _ => h _) (fun _ T => h _)
theorem idxOK : IdxS (ACall C) := by
 intro c H Q hQ
 refine indexByte sgn1 c.toNat H Q ?_
 have : ((c.toNat : Int)).toNat.toUInt8 = c := by
  rw [Int.toNat_natCast]
  apply UInt8.toNat_inj.1
  simp
 rw [this]
 exact hQ _ (indexByte_neg sgn1 c).2
end Go.Proofs.YtbkkoplgicffgaaGreatDoor.rb

namespace Rb
open Go
abbrev Wd := List UInt8
def w1 (st s : List UInt8) : List UInt8 := if 4194304 < st.length then st else (st ++ s) ++ (if s = [59] ∨ s = [123] ∨ s = [125] then [10] else [32])
def runW (ws : List (List UInt8)) (st : List UInt8) : List UInt8 := ws.foldl w1 st
theorem runW_nil (st : List UInt8) : runW [] st = st := rfl
theorem runW_cons (x : List UInt8) (r : List (List UInt8)) (st : List UInt8) : runW (x :: r) st = runW r (w1 st x) := rfl
theorem runW_app (a b : List (List UInt8)) (st : List UInt8) : runW (a ++ b) st = runW b (runW a st) := List.foldl_append ..
theorem runW_full {st : List UInt8} (h : 4194304 < st.length) : ∀ ws, runW ws st = st
 | [] => rfl
 | x :: r => by rw [runW_cons, show w1 st x = st from if_pos h, runW_full h r]
def ofW (n : Int) (l : List (List UInt8)) : List UInt8 := if n < 0 ∨ (l.length : Int) ≤ n then [] else l[n.toNat]?.getD []
def ordWL : List (List UInt8) := [[114, 108, 120], [97, 99, 113], [114, 101, 108], [115, 99]]
def opWL : List (List UInt8) := [[43], [45], [42], [38], [124], [94], [60, 60], [62, 62], [61, 61], [33, 61], [60]]
def accWL : List (List UInt8) := [[108, 111, 97, 100], [97, 100, 100], [115, 119, 97, 112], [99, 97, 115]]
def stmWL : List (List UInt8) := [[108, 101, 116], [115, 101, 116], [119, 114, 105, 116, 101], [115, 116, 111, 114, 101], [108, 111, 97, 100, 50], [115, 116, 111, 114, 101, 50], [102, 101, 110, 99, 101], [105, 102], [119, 104, 105, 108, 101], [112, 114, 105, 110, 116]]
def i64w (n : Int) : Int := IntKind.wrap .i64 n
mutual
def GType.W : GType → List (List UInt8)
 | .mk kind size packed fields count elem =>
  if kind = 1 then [117 :: Go.Lib.itoa (i64w (8 * size))]
  else if kind = 2 then [97 :: Go.Lib.itoa (i64w (8 * size))]
  else if kind = 5 ∧ elem.length = 1 then [91] :: Go.Lib.itoa count :: [93] :: GType.Ws elem
  else if kind = 3 ∨ kind = 4 then ofW (i64w (kind - 3)) [[115, 116, 114, 117, 99, 116], [117, 110, 105, 111, 110]] :: ((if packed = true then [[112, 97, 99, 107, 101, 100]] else []) ++ [123] :: (GField.Ws fields ++ [[125]]))
  else []
def GType.Ws : List GType → List (List UInt8)
 | [] => []
 | x :: r => GType.W x ++ GType.Ws r
def GField.W : GField → List (List UInt8)
 | .mk name type bits width => (if name = [] then [95] else name) :: (GType.W type ++ ((if bits = true then [[58], Go.Lib.itoa width] else []) ++ [[59]]))
def GField.Ws : List GField → List (List UInt8)
 | [] => []
 | x :: r => GField.W x ++ GField.Ws r
end
def orderW (n : Int) : List UInt8 := ofW (i64w (n - 1)) ordWL
def numW (n : Int) : List UInt8 := Go.Lib.decDigits n.toNat
mutual
def GExpr.W : GExpr → List (List UInt8)
 | .mk kind n name op order place kids =>
  if kind = 1 then [numW n]
  else if kind = 2 then [name]
  else if kind = 3 then [40] :: (GExpr.Wk (ofW (i64w (op - 1)) opWL) 0 kids ++ [[41]])
  else if kind = 4 then [114, 101, 97, 100] :: GPlace.W place
  else ofW (i64w (kind - 5)) accWL :: orderW order :: (GPlace.W place ++ GExpr.Ws kids)
def GExpr.Ws : List GExpr → List (List UInt8)
 | [] => []
 | x :: r => GExpr.W x ++ GExpr.Ws r
def GExpr.Wk (o : List UInt8) : Nat → List GExpr → List (List UInt8)
 | _, [] => []
 | i, x :: r => (if i = 1 then [o] else []) ++ (GExpr.W x ++ GExpr.Wk o (i + 1) r)
def GPlace.W : GPlace → List (List UInt8)
 | .mk var parts => var :: GPart.Ws parts
def GPart.W : GPart → List (List UInt8)
 | .mk field index => if index.length = 1 then [91] :: (GExpr.Ws index ++ [[93]]) else [[46], field]
def GPart.Ws : List GPart → List (List UInt8)
 | [] => []
 | x :: r => GPart.W x ++ GPart.Ws r
end
def exprsW : Nat → List GExpr → List (List UInt8)
 | _, [] => []
 | i, x :: r => (if 0 < i then [[44]] else []) ++ (GExpr.W x ++ exprsW (i + 1) r)
def headW (kind order : Int) (name name2 : List UInt8) (place : GPlace) : List (List UInt8) :=
 if kind = 1 ∨ kind = 2 then [name, [61]]
 else if kind = 3 then GPlace.W place ++ [[61]]
 else if kind = 4 ∨ kind = 6 then orderW order :: (GPlace.W place ++ [[61]])
 else if kind = 5 then orderW order :: (GPlace.W place ++ [name, name2])
 else if kind = 7 then [orderW order]
 else []
mutual
def GStmt.W : GStmt → List (List UInt8)
 | .mk kind line name name2 order place exprs thn els =>
  ofW (i64w (kind - 1)) stmWL :: (headW kind order name name2 place ++ (exprsW 0 exprs ++
    (if kind = 8 ∨ kind = 9 then [123] :: (GStmt.Ws thn ++ [125] :: (if els.length = 0 then [] else [101, 108, 115, 101] :: [123] :: (GStmt.Ws els ++ [[125]]))) else [[59]])))
def GStmt.Ws : List GStmt → List (List UInt8)
 | [] => []
 | x :: r => GStmt.W x ++ GStmt.Ws r
end
def GVar.W (v : GVar) : List (List UInt8) := [118, 97, 114] :: v.name :: (v.type.W ++ [[59]])
def blockW (l : List GStmt) : List (List UInt8) := [123] :: (GStmt.Ws l ++ [[125]])
def thrW (l : List GStmt) : List (List UInt8) := [116, 104, 114, 101, 97, 100] :: blockW l
def GProg.W (p : GProg) : List (List UInt8) := p.vars.flatMap GVar.W ++ p.threads.flatMap thrW
def GProg.text (p : GProg) : List UInt8 := runW p.W []
mutual
def GStmt.er : GStmt → GStmt
 | .mk kind line name name2 order place exprs thn els => .mk kind 0 name name2 order place exprs (GStmt.ers thn) (GStmt.ers els)
def GStmt.ers : List GStmt → List GStmt
 | [] => []
 | x :: r => GStmt.er x :: GStmt.ers r
end
def GProg.er (p : GProg) : GProg := ⟨p.vars, p.threads.map GStmt.ers⟩
section
variable (pa : List UInt8 → GProg × Int × Int)
end
end Rb

namespace Rb
open Go
namespace Ac
theorem box {cs : List AV} {n : Nat} (h : cs.length = n) (H : AH) : aboxv H false n (.agg cs) = some (.fptr cs, H) := by unfold aboxv; rw [if_pos ⟨rfl, h⟩]; rfl
theorem addr (cs : List AV) (i : Nat) : afaddr i (.fptr cs) = some (.fptr (cs.drop i)) := rfl
theorem nilck (cs : List AV) : anilck (.fptr cs) = some (.fptr cs) := rfl
theorem nilckp (i o : Nat) : anilck (.ptr i o) = some (.ptr i o) := rfl
theorem addrp (i o k : Nat) : afaddr k (.ptr i o) = some (.ptr i (o + k)) := rfl
section
variable (t : GType) (H : AH)
theorem tbox : aboxv H false 6 (.agg t.cells) = some (.fptr t.cells, H) := box t.len H
theorem t0 : aload H 1 false (.fptr (t.cells.drop 0)) = some (.int .i64 t.kind) := by rw [GType.cells_eq]; rfl
theorem t1 : aload H 1 false (.fptr (t.cells.drop 1)) = some (.int .i64 t.size) := by rw [GType.cells_eq]; rfl
theorem t2 : aload H 1 false (.fptr (t.cells.drop 2)) = some (.bool t.packed) := by rw [GType.cells_eq]; rfl
theorem t3 : aload H 1 false (.fptr (t.cells.drop 3)) = some (lstA GField.cells t.fields) := by rw [GType.cells_eq]; rfl
theorem t4 : aload H 1 false (.fptr (t.cells.drop 4)) = some (.int .i64 t.count) := by rw [GType.cells_eq]; rfl
theorem t5 : aload H 1 false (.fptr (t.cells.drop 5)) = some (lstA GType.cells t.elem) := by rw [GType.cells_eq]; rfl
theorem tall : aload H 6 true (.fptr t.cells) = some (.agg t.cells) := takeCells_whole t.len
end
section
variable (f : GField) (H : AH)
theorem fbox : aboxv H false 9 (.agg f.cells) = some (.fptr f.cells, H) := box f.len H
theorem f0 : aload H 1 false (.fptr (f.cells.drop 0)) = some (.str f.name) := by rw [GField.cells_eq]; rfl
theorem f1 : aload H 6 true (.fptr (f.cells.drop 1)) = some (.agg f.type.cells) := by rw [GField.cells_eq]; exact takeCells_app f.type.len
theorem f7 : aload H 1 false (.fptr (f.cells.drop 7)) = some (.bool f.bits) := by rw [GField.cells_eq, GType.cells_eq]; rfl
theorem f8 : aload H 1 false (.fptr (f.cells.drop 8)) = some (.int .i64 f.width) := by rw [GField.cells_eq, GType.cells_eq]; rfl
end
section
variable (e : GExpr) (H : AH)
theorem e0 : aload H 1 false (.fptr (e.cells.drop 0)) = some (.int .i64 e.kind) := by rw [GExpr.cells_eq, GPlace.cells_eq]; rfl
theorem e1 : aload H 1 false (.fptr (e.cells.drop 1)) = some (.int .u64 e.n) := by rw [GExpr.cells_eq, GPlace.cells_eq]; rfl
theorem e2 : aload H 1 false (.fptr (e.cells.drop 2)) = some (.str e.name) := by rw [GExpr.cells_eq, GPlace.cells_eq]; rfl
theorem e3 : aload H 1 false (.fptr (e.cells.drop 3)) = some (.int .i64 e.op) := by rw [GExpr.cells_eq, GPlace.cells_eq]; rfl
theorem e4 : aload H 1 false (.fptr (e.cells.drop 4)) = some (.int .i64 e.order) := by rw [GExpr.cells_eq, GPlace.cells_eq]; rfl
theorem e5 : aload H 2 true (.fptr (e.cells.drop 5)) = some (.agg e.place.cells) := by rw [GExpr.cells_eq, GPlace.cells_eq]; rfl
end
section
variable (x : GPlace) (H : AH)
theorem l0 : aload H 1 false (.fptr (x.cells.drop 0)) = some (.str x.var) := by rw [GPlace.cells_eq]; rfl
theorem l1 : aload H 1 false (.fptr (x.cells.drop 1)) = some (lstA GPart.cells x.parts) := by rw [GPlace.cells_eq]; rfl
end
section
variable (x : GPart) (H : AH)
theorem p0 : aload H 1 false (.fptr (x.cells.drop 0)) = some (.str x.field) := by rw [GPart.cells_eq]; rfl
theorem p1 : aload H 1 false (.fptr (x.cells.drop 1)) = some (lstA GExpr.cells x.index) := by rw [GPart.cells_eq]; rfl
end
section
variable (e : GStmt) (H : AH)
theorem s1 : aload H 1 false (.fptr (e.cells.drop 1)) = some (.int .i64 e.line) := by rw [GStmt.cells_eq, GPlace.cells_eq]; rfl
theorem s2 : aload H 1 false (.fptr (e.cells.drop 2)) = some (.str e.name) := by rw [GStmt.cells_eq, GPlace.cells_eq]; rfl
theorem s3 : aload H 1 false (.fptr (e.cells.drop 3)) = some (.str e.name2) := by rw [GStmt.cells_eq, GPlace.cells_eq]; rfl
theorem s4 : aload H 1 false (.fptr (e.cells.drop 4)) = some (.int .i64 e.order) := by rw [GStmt.cells_eq, GPlace.cells_eq]; rfl
theorem s5 : aload H 2 true (.fptr (e.cells.drop 5)) = some (.agg e.place.cells) := by rw [GStmt.cells_eq, GPlace.cells_eq]; rfl
theorem s7 : aload H 1 false (.fptr (e.cells.drop 7)) = some (lstA GExpr.cells e.exprs) := by rw [GStmt.cells_eq, GPlace.cells_eq]; rfl
theorem s9 : aload H 1 false (.fptr (e.cells.drop 9)) = some (lstA GStmt.cells e.els) := by rw [GStmt.cells_eq, GPlace.cells_eq]; rfl
end
section
variable (v : GVar) (H : AH)
theorem v0 : aload H 1 false (.fptr (v.cells.drop 0)) = some (.str v.name) := rfl
end
section
variable (p : GProg) (H : AH)
theorem g0 : aload H 1 false (.fptr (p.cells.drop 0)) = some (lstA GVar.cells p.vars) := rfl
theorem g1 : aload H 1 false (.fptr (p.cells.drop 1)) = some (lstA thrCells p.threads) := rfl
end
theorem rowl {H : AH} {id : Nat} {cs : List AV} (h : H.o id = .row cs) (n o : Nat) (agg : Bool) : aload H n agg (.ptr id o) = takeCells cs o n agg := by simp only [aload, h]
end Ac
end Rb

namespace Rb
open Go
structure BKit (Φ : Calls') (T U : TypeId) : Prop where
 write : ∀ {H : AH} {id : Nat} {bs : List UInt8} {Q : Post}, BldAt T U H id bs → ∀ s : List UInt8, s.length ≤ 140737488351232 → (bs.length ≤ 8796093022208 ∨ s.length ≤ 8796093022208 ∧ bs.length ≤ 149533581377536) →
  (∀ H', BldAt T U H' id (bs ++ s) → KeepB H id H' → Q (.tup [.int .i64 s.length, .nilif]) H') → Φ K.f58 [.ptr id 0, .str s] H Q
 len : ∀ {H : AH} {id : Nat} {bs : List UInt8} {Q : Post}, BldAt T U H id bs → Q (.int .i64 bs.length) H → Φ K.f57 [.ptr id 0] H Q
 text : ∀ {H : AH} {id : Nat} {bs : List UInt8} {Q : Post}, BldAt T U H id bs → (∀ H', BldAt T U H' id bs → KeepB H id H' → Q (.str bs) H') → Φ K.f29 [.ptr id 0] H Q
 itoa : ∀ (n : Int) (H : AH) (Q : Post), -9223372036854775808 ≤ n → n ≤ 9223372036854775807 → Q (.str (Go.Lib.itoa n)) H → Φ K.f95 [.int .i64 n] H Q
 fmt : ∀ (n : Nat) (H : AH) (Q : Post), n ≤ 18446744073709551615 → Q (.str (Go.Lib.decDigits n)) H → Φ K.f114 [.int .u64 n, .int .i64 10] H Q
theorem BldAt.push {T U : TypeId} {H : AH} {id : Nat} {bs : List UInt8} (h : BldAt T U H id bs) (x : AObj) : BldAt T U (H.push x) id bs := by
 obtain ⟨h1, h2⟩ := h
 have e : ∀ i, i < H.n → (H.push x).o i = H.o i := fun i hi => by show (if i = H.n then x else H.o i) = _; rw [if_neg (by omega)]
 refine ⟨Nat.lt_succ_of_lt h1, ?_⟩
 rcases h2 with ⟨u, h3, h4⟩ | ⟨j, h3, h4, h5, h6⟩
 · exact .inl ⟨u, by rw [e _ h1]; exact h3, h4⟩
 · exact .inr ⟨j, by rw [e _ h1]; exact h3, by rw [e _ h5]; exact h4, Nat.lt_succ_of_lt h5, h6⟩
theorem KeepB.push (H : AH) (id : Nat) (x : AObj) : KeepB H id (H.push x) :=
 ⟨Nat.le_succ _, fun i hi _ _ => by show (if i = H.n then x else H.o i) = _; rw [if_neg (by omega)]⟩
theorem KeepB.row {H H' : AH} {id i : Nat} {cs : List AV} (k : KeepB H id H') (hi : i < H.n) (hne : i ≠ id) (h : H.o i = .row cs) : H'.o i = .row cs := by
 rw [k.2 i hi hne (by rw [h]; intro U bs e; cases e)]; exact h
def Puts (Φ : Calls') (T U : TypeId) (id : Nat) (key : Nat) (args : List AV) (ws : List Wd) : Prop :=
 ∀ {H : AH} {st : List UInt8} {Q : Post}, BldAt T U H id st → (∀ H', BldAt T U H' id (runW ws st) → KeepB H id H' → Q (.tup []) H') → Φ key args H Q
theorem bool_ite8 {b : Bool} {A B : Prop} (h1 : b = true → A) (h2 : b = false → B) : if b = true then A else B := ite_both h1 fun h => h2 (by simpa using h)
theorem bool_itef8 {b : Bool} {A B : Prop} (h1 : b = false → A) (h2 : b = true → B) : if b = false then A else B := ite_both h1 fun h => h2 (by simpa using h)
def w47 : Nat := 140737488351232
def Wds (ws : List Wd) : Prop := ∀ w ∈ ws, w.length ≤ w47
theorem strs_at (H : AH) {tk : Tok} {xs : List Wd} {i : Nat} {y : Wd} (h : xs[i]? = some y) : ∃ a, aiaddr none 1 (.lst tk xs.length (xs.map .str)) (.int .i64 i) = some a ∧ aload H 1 false a = some (.str y) := by
 have hlt := (List.getElem?_eq_some_iff.1 h).1
 refine ⟨.fptr ((xs.map .str).drop (i * 1)), ?_, ?_⟩
 · simp only [aiaddr]
   rw [if_pos ⟨by omega, by omega⟩]; rfl
 · show takeCells _ 0 1 false = _
   unfold takeCells
   rw [if_pos (by simp; omega)]
   simp [h]
section
variable {Φ : Calls'} {T U : TypeId} {H : AH} {id : Nat} {st : List UInt8} {Q : Post}
theorem words_puts (hT : Cl Φ S.tab_Lex) (hB : BKit Φ T U) {tk : Tok} {ws : List Wd} (hw : Wds ws) (hn : ws.length ≤ 1000000) : Puts Φ T U id K.f26 [.ptr id 0, .lst tk ws.length (ws.map .str)] ws := by
 intro H st Q hb hQ
 refine S.cl_f26 hT ?_
 unfold S.f26
 rw [show alen false (.lst tk ws.length (ws.map .str)) = some (.int .i64 ws.length) from rfl]
 simp only [Do_of]
 have main : ∀ (ys : List Wd) (i : Nat) (H1 : AH) (s1 : List UInt8), ws.drop i = ys → BldAt T U H1 id s1 → KeepB H id H1 → runW ys s1 = runW ws st →
   LoopP (S.f26_l4 Φ (.ptr id 0) (.lst tk ws.length (ws.map .str)) (.int .i64 ws.length) Q) ([.int .i64 i], H1) := by
  intro ys
  induction ys with
  | nil =>
   intro i H1 s1 hi hb1 hk hr
   have hle := drop_nil_le hi
   refine LoopP.step ?_
   simp only [S.f26_l4, sl_zero, abin_lss, Do_of, Gd_true]
   rw [if_neg (by simp only [decide_eq_true_eq]; omega)]
   rw [runW_nil] at hr
   exact hQ H1 (hr ▸ hb1) hk
  | cons y ys ih =>
   intro i H1 s1 hi hb1 hk hr
   obtain ⟨hlt, hy, hd⟩ := drop_cons_lt hi
   obtain ⟨a, ha1, ha2⟩ := strs_at (tk := tk) H1 hy
   refine LoopP.step ?_
   simp only [S.f26_l4, sl_zero, abin_lss, Do_of, Gd_true]
   rw [if_pos (by simp only [decide_eq_true_eq]; omega), ha1]
   simp only [Do_of]
   rw [ha2]
   simp only [Do_of, Ac.nilckp, Ac.addrp]
   refine hB.len hb1 ?_
   simp only [abin_gtr, Do_of, Gd_true]
   refine bool_ite8 (fun hf => ?_) (fun hf => ?_)
   · refine hQ H1 ?_ hk
     rw [← hr, runW_full (by simp only [decide_eq_true_eq] at hf; omega)]
     exact hb1
   · have hle : s1.length ≤ 4194304 := by simp only [decide_eq_false_iff_not] at hf; omega
     have hyl : y.length ≤ 140737488351232 := hw y (List.mem_of_getElem? hy)
     refine hB.write hb1 y hyl (.inl (by omega)) fun H2 hb2 hk2 => ?_
     have hl2 : (s1 ++ y).length ≤ 149533581377536 := by rw [List.length_append]; omega
     have next : ∀ (H3 : AH), BldAt T U H3 id (w1 s1 y) → KeepB H id H3 → JoinP (S.f26_k1 Φ ([.int .i64 i], H1) (LoopP (S.f26_l4 Φ (.ptr id 0) (.lst tk ws.length (ws.map .str)) (.int .i64 ws.length) Q)) Q) [] H3 := by
      intro H3 hb3 hk3
      simp only [JoinP_def, S.f26_k1, sl_zero, abin_add, Do_of]
      rw [wrap_i64 (by omega) (by omega), show ((i : Int) + 1) = ((i + 1 : Nat) : Int) by simp]
      exact ih (i + 1) H3 (w1 s1 y) hd hb3 hk3 (by rw [← hr, runW_cons])
     have fin : ∀ b : Bool, b = (y == [59] || y == [123] || y == [125]) → JoinP (S.f26_k2 Φ (.ptr id 0) ([.int .i64 i], H1) (LoopP (S.f26_l4 Φ (.ptr id 0) (.lst tk ws.length (ws.map .str)) (.int .i64 ws.length) Q)) Q) [.bool b] H2 := by
      intro b he
      have hw1 : w1 s1 y = (s1 ++ y) ++ (if b = true then [10] else [32]) := by
       unfold w1
       rw [if_neg (by omega), he]
       congr 1
       by_cases h : y = [59] ∨ y = [123] ∨ y = [125]
       · rw [if_pos h, if_pos (by rcases h with rfl | rfl | rfl <;> decide)]
       · rw [if_neg h, if_neg (by simp only [Bool.or_eq_true, beq_iff_eq]; intro e; exact h (by rcases e with (e | e) | e; exact .inl e; exact .inr (.inl e); exact .inr (.inr e)))]
      simp only [JoinP_def, S.f26_k2, sl_zero, Gd_true, Ac.nilckp, Ac.addrp, Do_of]
      refine bool_ite8 (fun hb' => ?_) (fun hb' => ?_)
      · refine hB.write hb2 [10] (by decide) (.inr ⟨by decide, hl2⟩) fun H3 hb3 hk3 => ?_
        refine next H3 ?_ (hk.trans (hk2.trans hk3))
        rw [hw1, if_pos hb']; exact hb3
      · refine hB.write hb2 [32] (by decide) (.inr ⟨by decide, hl2⟩) fun H3 hb3 hk3 => ?_
        refine next H3 ?_ (hk.trans (hk2.trans hk3))
        rw [hw1, if_neg (by rw [hb']; decide)]; exact hb3
     have k3 : ∀ b : Bool, b = (y == [59] || y == [123]) → JoinP (S.f26_k3 Φ (.ptr id 0) (.str y) ([.int .i64 i], H1) (LoopP (S.f26_l4 Φ (.ptr id 0) (.lst tk ws.length (ws.map .str)) (.int .i64 ws.length) Q)) Q) [.bool b] H2 := by
      intro b he
      simp only [JoinP_def, S.f26_k3, sl_zero, Gd3_false]
      refine bool_itef8 (fun hb' => ?_) (fun hb' => ?_)
      · rw [show abin .eql (.str y) (.str [125]) = some (.bool (y == [125])) from rfl]
        simp only [Do_of]
        exact fin _ (by rw [← he, hb']; simp)
      · exact fin _ (by rw [← he, hb']; simp)
     rw [show abin .eql (.str y) (.str [59]) = some (.bool (y == [59])) from rfl]
     simp only [Do_of, Gd3_false]
     refine bool_itef8 (fun hb' => ?_) (fun hb' => ?_)
     · rw [show abin .eql (.str y) (.str [123]) = some (.bool (y == [123])) from rfl]
       simp only [Do_of]
       exact k3 _ (by rw [hb']; simp)
     · exact k3 _ (by rw [hb']; simp)
 exact main ws 0 H st rfl hb (KeepB.refl _ _) rfl
theorem full_ok (hT : Cl Φ S.tab_Lex) (hB : BKit Φ T U) (hb : BldAt T U H id st) (hQ : Q (.bool (decide (4194304 < st.length))) H) : Φ K.f59 [.ptr id 0] H Q := by
 refine S.cl_f59 hT ?_
 unfold S.f59
 simp only [Do_of, Ac.nilckp, Ac.addrp]
 refine hB.len hb ?_
 simp only [abin_gtr, Do_of]
 have : decide ((st.length : Int) > 4194304) = decide (4194304 < st.length) := by rw [Bool.eq_iff_iff]; simp only [decide_eq_true_eq]; omega
 rw [this]; exact hQ
theorem of_ok (hT : Cl Φ S.tab_Lex) {tk : Tok} {ws : List Wd} {n : Int} (hQ : Q (.str (ofW n ws)) H) : Φ K.f61 [.int .i64 n, .lst tk ws.length (ws.map .str)] H Q := by
 refine S.cl_f61 hT ?_
 unfold S.f61
 unfold ofW at hQ
 rw [show alen false (.lst tk ws.length (ws.map .str)) = some (.int .i64 ws.length) from rfl]
 simp only [abin_lss, abin_geq, Do_of, Gd3_false]
 have fin : ∀ b : Bool, (b = true ↔ n < 0 ∨ (ws.length : Int) ≤ n) → JoinP (S.f61_k2 Φ (.int .i64 n) (.lst tk ws.length (ws.map .str)) Q) [.bool b] H := by
  intro b hb
  simp only [JoinP_def, S.f61_k2, S.f61_k1, sl_zero, Gd_true]
  refine bool_ite8 (fun h => ?_) (fun h => ?_)
  · rw [if_pos (hb.1 h)] at hQ; exact hQ
  · have hn : ¬ (n < 0 ∨ (ws.length : Int) ≤ n) := fun e => by rw [hb.2 e] at h; cases h
    rw [if_neg hn] at hQ
    simp only [not_or, Int.not_lt, Int.not_le] at hn
    obtain ⟨k, rfl⟩ := Int.eq_ofNat_of_zero_le hn.1
    have hk : k < ws.length := by omega
    obtain ⟨a, ha1, ha2⟩ := strs_at (tk := tk) H (List.getElem?_eq_getElem hk)
    rw [ha1]
    simp only [Do_of]
    rw [ha2]
    simp only [Do_of]
    simpa [List.getElem?_eq_getElem hk] using hQ
 refine bool_itef8 (fun h => ?_) (fun h => ?_)
 · simp only [decide_eq_false_iff_not] at h
   exact fin _ (by simp only [decide_eq_true_eq]; omega)
 · simp only [decide_eq_true_eq] at h
   exact fin _ (by simp [h])
theorem number_ok (hT : Cl Φ S.tab_Lex) (hB : BKit Φ T U) {n : Int} (h : i64ok n) (hQ : Q (.str (Go.Lib.itoa n)) H) : Φ K.f60 [.int .i64 n] H Q := by
 refine S.cl_f60 hT ?_
 unfold S.f60
 exact hB.itoa n H Q h.1 h.2 hQ
theorem lit1 (H : AH) (a : List UInt8) : abslice H false 1 1 [.str []] [(0, 1, .str a)] = some (.lst .full [a].length ([a].map .str), H) := rfl
theorem lit2 (H : AH) (a b : List UInt8) : abslice H false 1 2 [.str []] [(0, 1, .str a), (1, 1, .str b)] = some (.lst .full [a, b].length ([a, b].map .str), H) := rfl
theorem lit3 (H : AH) (a b c : List UInt8) : abslice H false 1 3 [.str []] [(0, 1, .str a), (1, 1, .str b), (2, 1, .str c)] = some (.lst .full [a, b, c].length ([a, b, c].map .str), H) := rfl
def EachL (sz : Nat) (zs : List AV) (Φ : Calls') (a0 : AV) (a1 : AV) (x1 : AV) (Q : Post) : (List AV × AH) → ((List AV × AH) → Prop) → Prop := fun s2 L3 =>
 Do (abin .lss (sl s2.1 0) x1) fun x4 =>
 Gd x4 true (
 Do (aiaddr none sz a0 (sl s2.1 0)) fun x5 =>
 Do (aload s2.2 sz true x5) fun x6 =>
 DoH (some (abox s2.2 true zs)) fun x7 H8 =>
 Do (astore H8 sz x7 x6) fun H9 =>
 Do (aload H9 sz true x7) fun x10 =>
 ∃ k13 c14, a1 = .fn k13 c14 ∧ Φ (fkey k13) (fargs k13 [x10] c14) H9 fun x11 H12 =>
 Do (abin .add (sl s2.1 0) (.int .i64 1)) fun x15 =>
 L3 ([x15], H12)) (
 Q (.tup []) s2.2)
def Each (sz : Nat) (zs : List AV) (Φ : Calls') (a0 : AV) (a1 : AV) (H : AH) (Q : Post) : Prop :=
 Do (alen false a0) fun x1 =>
 LoopP (EachL sz zs Φ a0 a1 x1 Q) ([(.int .i64 0)], H)
theorem Each_ok {α : Type} {cells : α → List AV} {sz : Nat} {zs : List AV} (hc : ∀ x, (cells x).length = sz) (hs : ∀ x, (cells x).all AV.scalar = true) (hz : 0 < sz) (hzl : zs.length = sz) {W : α → List Wd} {key : Nat} {caps : List AV} {xs : List α}
  (hf : ∀ x ∈ xs, Puts Φ T U id (fkey key) (fargs key [.agg (cells x)] caps) (W x)) (hl : xs.length ≤ 9223372036854775807) (hb : BldAt T U H id st) (hQ : ∀ H', BldAt T U H' id (runW (xs.flatMap W) st) → KeepB H id H' → Q (.tup []) H') :
  Each sz zs Φ (lstA cells xs) (.fn key caps) H Q := by
 unfold Each
 rw [lstA_len']
 simp only [Do_of]
 have main : ∀ (ys : List α) (i : Nat) (H1 : AH) (s1 : List UInt8), xs.drop i = ys → BldAt T U H1 id s1 → KeepB H id H1 → runW (ys.flatMap W) s1 = runW (xs.flatMap W) st →
   LoopP (EachL sz zs Φ (lstA cells xs) (.fn key caps) (.int .i64 xs.length) Q) ([.int .i64 i], H1) := by
  intro ys
  induction ys with
  | nil =>
   intro i H1 s1 hi hb1 hk hr
   have hle := drop_nil_le hi
   refine LoopP.step ?_
   simp only [EachL, sl_zero, abin_lss, Do_of, Gd_true]
   rw [if_neg (by simp only [decide_eq_true_eq]; omega)]
   refine hQ H1 ?_ hk
   rw [← hr]; exact hb1
  | cons y ys ih =>
   intro i H1 s1 hi hb1 hk hr
   obtain ⟨hlt, hy, hd⟩ := drop_cons_lt hi
   refine LoopP.step ?_
   simp only [EachL, sl_zero, abin_lss, Do_of, Gd_true]
   rw [if_pos (by simp only [decide_eq_true_eq]; omega), lstA_addr hlt]
   simp only [Do_of]
   rw [elA_load hc hz H1 hy]
   simp only [Do_of, DoH_some, abox, if_true]
   rw [store_new H1 zs (cells y) sz (hc y) (hs y) hzl]
   simp only [Do_of, load_push]
   rw [takeCells_whole (hc y)]
   simp only [Do_of]
   refine ⟨key, caps, rfl, hf y (List.mem_of_getElem? hy) (hb1.push _) fun H2 hb2 hk2 => ?_⟩
   simp only [abin_add, Do_of]
   rw [wrap_i64 (by omega) (by omega), show ((i : Int) + 1) = ((i + 1 : Nat) : Int) by simp]
   refine ih (i + 1) H2 _ hd hb2 (hk.trans ((KeepB.push _ _ _).trans hk2)) ?_
   rw [← hr, List.flatMap_cons, runW_app]
 exact main xs 0 H st rfl hb (KeepB.refl _ _) rfl
end
end Rb

namespace Rb
open Go
mutual
def GType.pok : GType → Prop
 | .mk _ _ _ fields count elem => i64ok count ∧ fields.length ≤ maxLen ∧ GField.poks fields ∧ GType.poks elem
def GType.poks : List GType → Prop
 | [] => True
 | x :: r => GType.pok x ∧ GType.poks r
def GField.pok : GField → Prop
 | .mk name type _ width => name.length ≤ 140737488351232 ∧ GType.pok type ∧ i64ok width
def GField.poks : List GField → Prop
 | [] => True
 | x :: r => GField.pok x ∧ GField.poks r
end
mutual
theorem GType.ok_pok : ∀ x : GType, x.ok → x.pok
 | .mk kind size packed fields count elem, h => by
  rw [GType.ok] at h
  rw [GType.pok]
  exact ⟨h.2.2.2.2.1, h.2.2.1, GField.oks_poks _ h.2.2.2.1, GType.oks_poks _ h.2.2.2.2.2.2⟩
theorem GType.oks_poks : ∀ xs : List GType, GType.oks xs → GType.poks xs
 | [], _ => trivial
 | x :: r, h => ⟨GType.ok_pok x h.1, GType.oks_poks r h.2⟩
theorem GField.ok_pok : ∀ x : GField, x.ok → x.pok
 | .mk name type bits width, h => by
  rw [GField.ok] at h
  rw [GField.pok]
  exact ⟨h.1, GType.ok_pok _ h.2.1, h.2.2⟩
theorem GField.oks_poks : ∀ xs : List GField, GField.oks xs → GField.poks xs
 | [], _ => trivial
 | x :: r, h => ⟨GField.ok_pok x h.1, GField.oks_poks r h.2⟩
end
theorem GType.Ws_map : ∀ xs : List GType, GType.Ws xs = xs.flatMap GType.W
 | [] => rfl
 | x :: r => by rw [GType.Ws, GType.Ws_map r]; rfl
theorem GField.Ws_map : ∀ xs : List GField, GField.Ws xs = xs.flatMap GField.W
 | [] => rfl
 | x :: r => by rw [GField.Ws, GField.Ws_map r]; rfl
theorem GType.W_def (t : GType) : t.W = if t.kind = 1 then [117 :: Go.Lib.itoa (i64w (8 * t.size))]
  else if t.kind = 2 then [97 :: Go.Lib.itoa (i64w (8 * t.size))]
  else if t.kind = 5 ∧ t.elem.length = 1 then [91] :: Go.Lib.itoa t.count :: [93] :: t.elem.flatMap GType.W
  else if t.kind = 3 ∨ t.kind = 4 then ofW (i64w (t.kind - 3)) [[115, 116, 114, 117, 99, 116], [117, 110, 105, 111, 110]] :: ((if t.packed = true then [[112, 97, 99, 107, 101, 100]] else []) ++ [123] :: (t.fields.flatMap GField.W ++ [[125]]))
  else [] := by
 cases t
 rw [GType.W, GType.Ws_map, GField.Ws_map]
theorem GField.W_def (f : GField) : f.W = (if f.name = [] then [95] else f.name) :: (f.type.W ++ ((if f.bits = true then [[58], Go.Lib.itoa f.width] else []) ++ [[59]])) := by
 cases f
 rw [GField.W]
theorem i64w_ok (n : Int) : i64ok (i64w n) := by
 unfold i64w i64ok
 constructor <;> (simp [IntKind.wrap, IntKind.signed, IntKind.bits]; omega)
theorem decD_len : ∀ (n u : Nat), u < 10 ^ n → 1 ≤ n → (Go.Lib.decDigits u).length ≤ n
 | 0, u, _, h => absurd h (by omega)
 | n + 1, u, hu, _ => by
  rw [Go.Lib.decDigits]
  by_cases h : u < 10
  · rw [dif_pos h]; simp
  · rw [dif_neg h]
    have hn : 1 ≤ n := by
     rcases n with _ | n
     · simp at hu; omega
     · omega
    have := decD_len n (u / 10) (by rw [Nat.pow_succ] at hu; omega) hn
    simp; omega
theorem itoa_len {n : Int} (h : i64ok n) : (Go.Lib.itoa n).length ≤ 21 := by
 unfold Go.Lib.itoa
 unfold i64ok at h
 split
 · have := decD_len 20 n.natAbs (by omega) (by decide)
   simp only [List.length_cons]
   omega
 · have := decD_len 20 n.toNat (by omega) (by decide)
   omega
theorem ofW_wd {n : Int} {l : List Wd} (h : ∀ w ∈ l, w.length ≤ 100) : (ofW n l).length ≤ w47 := by
 unfold ofW w47
 split
 · simp
 · cases hx : l[n.toNat]? with
   | none => simp
   | some w => have := h w (List.mem_of_getElem? hx); simp; omega
theorem wds1 {a : Wd} (ha : a.length ≤ w47) : Wds [a] := by intro w h; simp at h; subst h; exact ha
theorem wds2 {a b : Wd} (ha : a.length ≤ w47) (hb : b.length ≤ w47) : Wds [a, b] := by intro w h; simp at h; rcases h with rfl | rfl; exact ha; exact hb
theorem wds3 {a b c : Wd} (ha : a.length ≤ w47) (hb : b.length ≤ w47) (hc : c.length ≤ w47) : Wds [a, b, c] := by intro w h; simp at h; rcases h with rfl | rfl | rfl; exact ha; exact hb; exact hc
section
variable {Φ : Calls'} {T U : TypeId} {id : Nat}
theorem put1 (hT : Cl Φ S.tab_Lex) (hB : BKit Φ T U) {H : AH} {st : List UInt8} {Q : Post} {a : Wd} (hb : BldAt T U H id st) (ha : a.length ≤ w47) (hQ : ∀ H', BldAt T U H' id (runW [a] st) → KeepB H id H' → Q (.tup []) H') :
  DoH (abslice H false 1 1 [.str []] [(0, 1, .str a)]) fun x H' => Φ K.f26 [.ptr id 0, x] H' Q := by
 rw [lit1]
 simp only [DoH_some]
 exact words_puts hT hB (wds1 ha) (by simp) hb hQ
theorem put2 (hT : Cl Φ S.tab_Lex) (hB : BKit Φ T U) {H : AH} {st : List UInt8} {Q : Post} {a b : Wd} (hb : BldAt T U H id st) (ha : a.length ≤ w47) (hb' : b.length ≤ w47) (hQ : ∀ H', BldAt T U H' id (runW [a, b] st) → KeepB H id H' → Q (.tup []) H') :
  DoH (abslice H false 1 2 [.str []] [(0, 1, .str a), (1, 1, .str b)]) fun x H' => Φ K.f26 [.ptr id 0, x] H' Q := by
 rw [lit2]
 simp only [DoH_some]
 exact words_puts hT hB (wds2 ha hb') (by simp) hb hQ
theorem put3 (hT : Cl Φ S.tab_Lex) (hB : BKit Φ T U) {H : AH} {st : List UInt8} {Q : Post} {a b c : Wd} (hb : BldAt T U H id st) (ha : a.length ≤ w47) (hb' : b.length ≤ w47) (hc : c.length ≤ w47) (hQ : ∀ H', BldAt T U H' id (runW [a, b, c] st) → KeepB H id H' → Q (.tup []) H') :
  DoH (abslice H false 1 3 [.str []] [(0, 1, .str a), (1, 1, .str b), (2, 1, .str c)]) fun x H' => Φ K.f26 [.ptr id 0, x] H' Q := by
 rw [lit3]
 simp only [DoH_some]
 exact words_puts hT hB (wds3 ha hb' hc) (by simp) hb hQ
theorem lstA_addr0 {α : Type} {cells : α → List AV} {sz : Nat} {xs : List α} (h : 0 < xs.length) : aiaddr none sz (lstA cells xs) (.int .i64 0) = some (elA cells sz xs 0) := lstA_addr h
theorem each_field (Φ : Calls') (a0 a1 : AV) (H : AH) (Q : Post) : S.f62 Φ a0 a1 H Q = Each 9 [.str [], .int .i64 0, .int .i64 0, .bool false, .lst .nil 0 [], .int .i64 0, .lst .nil 0 [], .bool false, .int .i64 0] Φ a0 a1 H Q := rfl
theorem addc (c : UInt8) {l : Wd} (h : l.length ≤ 100) : abin .add (.str [c]) (.str l) = some (.str (c :: l)) := by
 show (if [c].length + l.length ≤ 9223372036854775807 then some (AV.str ([c] ++ l)) else none) = _
 rw [if_pos (by simp; omega)]; rfl
theorem typ_puts (hT : Cl Φ S.tab_Lex) (hB : BKit Φ T U) {t : GType} (hp : t.pok) (hf : ∀ f ∈ t.fields, Puts Φ T U id K.f63 [.ptr id 0, .agg f.cells] f.W)
  (he : ∀ e ∈ t.elem, Puts Φ T U id K.f27 [.ptr id 0, .agg e.cells] e.W) : Puts Φ T U id K.f27 [.ptr id 0, .agg t.cells] t.W := by
 intro H st Q hb hQ
 have hcount : i64ok t.count := by cases t; rw [GType.pok] at hp; exact hp.1
 have hfl : t.fields.length ≤ maxLen := by cases t; rw [GType.pok] at hp; exact hp.2.1
 have hx8 : ∀ c : UInt8, (c :: Go.Lib.itoa (i64w (8 * t.size))).length ≤ w47 := fun c => by
  have := itoa_len (i64w_ok (8 * t.size))
  unfold w47
  simp only [List.length_cons]
  omega
 have hcl : (Go.Lib.itoa t.count).length ≤ w47 := by have := itoa_len hcount; unfold w47; omega
 refine S.cl_f27 hT ?_
 unfold S.f27
 simp only [Ac.tbox, DoH_some]
 refine full_ok hT hB hb ?_
 simp only [Gd_true]
 refine bool_ite8 (fun h => ?_) (fun h => ?_)
 · have : runW t.W st = st := runW_full (by simpa using h) _
   exact hQ H (by rw [this]; exact hb) (KeepB.refl _ _)
 rw [GType.W_def] at hQ
 simp only [Ac.addr, Ac.t0, Ac.t1, Ac.t4, Ac.t5, Do_of, abin_eql, abin_mul, Gd_true, Gd3_true]
 refine bool_ite8 (fun h1 => ?_) (fun h1 => ?_)
 · have hk : t.kind = 1 := by simpa using h1
   rw [if_pos hk] at hQ
   refine number_ok hT hB (i64w_ok _) ?_
   rw [addc 117 (by have := itoa_len (i64w_ok (8 * t.size)); unfold i64w at this; omega)]
   simp only [Do_of]
   exact put1 hT hB hb (hx8 _) hQ
 have hk1 : t.kind ≠ 1 := by simpa using h1
 rw [if_neg hk1] at hQ
 refine bool_ite8 (fun h2 => ?_) (fun h2 => ?_)
 · have hk : t.kind = 2 := by simpa using h2
   rw [if_pos hk] at hQ
   refine number_ok hT hB (i64w_ok _) ?_
   rw [addc 97 (by have := itoa_len (i64w_ok (8 * t.size)); unfold i64w at this; omega)]
   simp only [Do_of]
   exact put1 hT hB hb (hx8 _) hQ
 have hk2 : t.kind ≠ 2 := by simpa using h2
 rw [if_neg hk2] at hQ
 have k3 : ∀ b : Bool, (b = true ↔ t.kind = 5 ∧ t.elem.length = 1) → JoinP (S.f27_k3 Φ (.ptr id 0) (.fptr t.cells) Q) [.bool b] H := by
  intro b hbb
  simp only [JoinP_def, S.f27_k3, sl_zero, Gd_true, Ac.addr, Ac.t4, Ac.t5, Ac.t0, Do_of]
  refine bool_ite8 (fun h3 => ?_) (fun h3 => ?_)
  · have hk := hbb.1 h3
    rw [if_pos hk] at hQ
    obtain ⟨e, hel⟩ := List.length_eq_one_iff.1 hk.2
    refine number_ok hT hB hcount ?_
    refine put3 hT hB hb (by decide) hcl (by decide) fun H1 hb1 hk1 => ?_
    rw [lstA_addr0 (by omega : 0 < t.elem.length)]
    simp only [Do_of]
    rw [elA_load GType.len (by decide) H1 (x := e) (by rw [hel]; rfl)]
    simp only [Do_of]
    refine he e (by rw [hel]; simp) hb1 fun H2 hb2 hk2 => ?_
    refine hQ H2 ?_ (hk1.trans hk2)
    rw [hel]
    simpa only [List.flatMap_cons, List.flatMap_nil, List.append_nil, runW_cons, runW_app, runW_nil] using hb2
  · have hk : ¬ (t.kind = 5 ∧ t.elem.length = 1) := fun e => by rw [hbb.2 e] at h3; cases h3
    rw [if_neg hk] at hQ
    have k2 : ∀ b : Bool, (b = true ↔ t.kind = 3 ∨ t.kind = 4) → JoinP (S.f27_k2 Φ (.ptr id 0) (.fptr t.cells) Q) [.bool b] H := by
     intro b hbb
     simp only [JoinP_def, S.f27_k2, sl_zero, Gd_true, Ac.addr, Ac.t0, Ac.t2, Do_of, abin_sub]
     refine bool_ite8 (fun h4 => ?_) (fun h4 => ?_)
     · rw [if_pos (hbb.1 h4)] at hQ
       rw [lit2]
       simp only [DoH_some]
       refine of_ok hT ?_
       refine put1 hT hB hb (ofW_wd (by decide)) fun H1 hb1 hk1 => ?_
       have k1 : ∀ (H2 : AH), BldAt T U H2 id (runW (if t.packed = true then [[112, 97, 99, 107, 101, 100]] else []) (w1 st (ofW (i64w (t.kind - 3)) [[115, 116, 114, 117, 99, 116], [117, 110, 105, 111, 110]]))) → KeepB H id H2 → JoinP (S.f27_k1 Φ (.ptr id 0) (.fptr t.cells) Q) [] H2 := by
        intro H2 hb2 hk2
        simp only [JoinP_def, S.f27_k1]
        refine put1 hT hB hb2 (by decide) fun H3 hb3 hk3 => ?_
        simp only [Ac.addr, Ac.t3, Do_of]
        refine S.cl_f62 hT ?_
        rw [each_field]
        refine Each_ok (key := K.f63 + 1048576) (caps := [.ptr id 0]) (W := GField.W) GField.len GField.scalar (by decide) rfl (fun f hff => hf f hff) (by unfold maxLen at hfl; omega) hb3 fun H4 hb4 hk4 => ?_
        refine put1 hT hB hb4 (by decide) fun H5 hb5 hk5 => ?_
        refine hQ H5 ?_ (hk2.trans (hk3.trans (hk4.trans hk5)))
        simpa only [runW_cons, runW_app, runW_nil] using hb5
       refine bool_ite8 (fun h5 => ?_) (fun h5 => ?_)
       · refine put1 hT hB hb1 (by decide) fun H2 hb2 hk2 => ?_
         refine k1 H2 ?_ (hk1.trans hk2)
         rw [if_pos h5]
         exact hb2
       · refine k1 H1 ?_ hk1
         rw [if_neg (by rw [h5]; decide)]
         exact hb1
     · have hk : ¬ (t.kind = 3 ∨ t.kind = 4) := fun e => by rw [hbb.2 e] at h4; cases h4
       rw [if_neg hk] at hQ
       exact hQ H hb (KeepB.refl _ _)
    simp only [abin_eql, Do_of, Gd3_false]
    refine bool_itef8 (fun h4 => ?_) (fun h4 => ?_)
    · refine k2 _ ?_
      have : t.kind ≠ 3 := by simpa using h4
      simp [this]
    · refine k2 _ ?_
      have : t.kind = 3 := by simpa using h4
      simp [this]
 refine bool_ite8 (fun h5 => ?_) (fun h5 => ?_)
 · rw [lstA_len']
   simp only [Do_of, abin_eql]
   refine k3 _ ?_
   have : t.kind = 5 := by simpa using h5
   simp [this]; omega
 · refine k3 _ ?_
   have : t.kind ≠ 5 := by simpa using h5
   simp [this]
end
end Rb

namespace Rb
open Go
mutual
def GExpr.pok : GExpr → Prop
 | .mk _ n name _ _ place kids => u64ok n ∧ name.length ≤ 140737488351232 ∧ GPlace.pok place ∧ kids.length ≤ maxLen ∧ GExpr.poks kids
def GExpr.poks : List GExpr → Prop
 | [] => True
 | x :: r => GExpr.pok x ∧ GExpr.poks r
def GPlace.pok : GPlace → Prop
 | .mk var parts => var.length ≤ 140737488351232 ∧ parts.length ≤ maxLen ∧ GPart.poks parts
def GPart.pok : GPart → Prop
 | .mk field index => field.length ≤ 140737488351232 ∧ GExpr.poks index
def GPart.poks : List GPart → Prop
 | [] => True
 | x :: r => GPart.pok x ∧ GPart.poks r
end
mutual
theorem GExpr.ok_pok : ∀ x : GExpr, x.ok → x.pok
 | .mk kind n name op order place kids, h => by
  rw [GExpr.ok] at h
  rw [GExpr.pok]
  exact ⟨h.2.1, h.2.2.1, GPlace.ok_pok place h.2.2.2.2.2.1, h.2.2.2.2.2.2.1, GExpr.oks_poks kids h.2.2.2.2.2.2.2⟩
theorem GExpr.oks_poks : ∀ xs : List GExpr, GExpr.oks xs → GExpr.poks xs
 | [], _ => trivial
 | x :: r, h => ⟨GExpr.ok_pok x h.1, GExpr.oks_poks r h.2⟩
theorem GPlace.ok_pok : ∀ x : GPlace, x.ok → x.pok
 | .mk var parts, h => by
  rw [GPlace.ok] at h
  rw [GPlace.pok]
  exact ⟨h.1, h.2.1, GPart.oks_poks parts h.2.2⟩
theorem GPart.ok_pok : ∀ x : GPart, x.ok → x.pok
 | .mk field index, h => by
  rw [GPart.ok] at h
  rw [GPart.pok]
  exact ⟨h.1, GExpr.oks_poks index h.2.2⟩
theorem GPart.oks_poks : ∀ xs : List GPart, GPart.oks xs → GPart.poks xs
 | [], _ => trivial
 | x :: r, h => ⟨GPart.ok_pok x h.1, GPart.oks_poks r h.2⟩
end
theorem GExpr.Ws_map : ∀ xs : List GExpr, GExpr.Ws xs = xs.flatMap GExpr.W
 | [] => rfl
 | x :: r => by rw [GExpr.Ws, GExpr.Ws_map r]; rfl
theorem GPart.Ws_map : ∀ xs : List GPart, GPart.Ws xs = xs.flatMap GPart.W
 | [] => rfl
 | x :: r => by rw [GPart.Ws, GPart.Ws_map r]; rfl
theorem GExpr.W_def (e : GExpr) : e.W = if e.kind = 1 then [numW e.n]
  else if e.kind = 2 then [e.name]
  else if e.kind = 3 then [40] :: (GExpr.Wk (ofW (i64w (e.op - 1)) opWL) 0 e.kids ++ [[41]])
  else if e.kind = 4 then [114, 101, 97, 100] :: GPlace.W e.place
  else ofW (i64w (e.kind - 5)) accWL :: orderW e.order :: (GPlace.W e.place ++ e.kids.flatMap GExpr.W) := by
 cases e
 rw [GExpr.W, GExpr.Ws_map]
theorem GPlace.W_def (x : GPlace) : x.W = x.var :: x.parts.flatMap GPart.W := by
 cases x
 rw [GPlace.W, GPart.Ws_map]
theorem GPart.W_def (x : GPart) : x.W = if x.index.length = 1 then [91] :: (x.index.flatMap GExpr.W ++ [[93]]) else [[46], x.field] := by
 cases x
 rw [GPart.W, GExpr.Ws_map]
section
variable {Φ : Calls'} {T U : TypeId} {id : Nat}
theorem field_puts (hT : Cl Φ S.tab_Lex) (hB : BKit Φ T U) {f : GField} (hp : f.pok) (ht : Puts Φ T U id K.f27 [.ptr id 0, .agg f.type.cells] f.type.W) : Puts Φ T U id K.f63 [.ptr id 0, .agg f.cells] f.W := by
 intro H st Q hb hQ
 have hname : f.name.length ≤ w47 := by cases f; rw [GField.pok] at hp; exact hp.1
 have hwid : i64ok f.width := by cases f; rw [GField.pok] at hp; exact hp.2.2
 have hwl : (Go.Lib.itoa f.width).length ≤ w47 := by have := itoa_len hwid; unfold w47; omega
 refine S.cl_f63 hT ?_
 unfold S.f63
 rw [GField.W_def] at hQ
 simp only [Ac.fbox, DoH_some, Ac.addr, Ac.f0, Do_of]
 rw [show abin .eql (.str f.name) (.str []) = some (.bool (f.name == [])) from rfl]
 simp only [Do_of, Gd_true]
 have k2 : ∀ H1, BldAt T U H1 id (w1 st (if f.name = [] then [95] else f.name)) → KeepB H id H1 → JoinP (S.f63_k2 Φ (.ptr id 0) (.fptr f.cells) Q) [] H1 := by
  intro H1 hb1 hk1
  simp only [JoinP_def, S.f63_k2, Ac.addr, Ac.f1, Ac.f7, Ac.f8, Do_of, Gd_true]
  refine ht hb1 fun H2 hb2 hk2 => ?_
  have k1 : ∀ H3, BldAt T U H3 id (runW (if f.bits = true then [[58], Go.Lib.itoa f.width] else []) (runW f.type.W (w1 st (if f.name = [] then [95] else f.name)))) → KeepB H id H3 → JoinP (S.f63_k1 Φ (.ptr id 0) Q) [] H3 := by
   intro H3 hb3 hk3
   simp only [JoinP_def, S.f63_k1]
   refine put1 hT hB hb3 (by decide) fun H4 hb4 hk4 => ?_
   refine hQ H4 ?_ (hk3.trans hk4)
   simpa only [runW_cons, runW_app, runW_nil] using hb4
  refine bool_ite8 (fun h5 => ?_) (fun h5 => ?_)
  · refine number_ok hT hB hwid ?_
    refine put2 hT hB hb2 (by decide) hwl fun H3 hb3 hk3 => ?_
    refine k1 H3 ?_ (hk1.trans (hk2.trans hk3))
    rw [if_pos h5]
    exact hb3
  · refine k1 H2 ?_ (hk1.trans hk2)
    rw [if_neg (by rw [h5]; decide)]
    exact hb2
 refine bool_ite8 (fun h5 => ?_) (fun h5 => ?_)
 · have : f.name = [] := by simpa using h5
   refine put1 hT hB hb (by decide) fun H1 hb1 hk1 => k2 H1 ?_ hk1
   rw [if_pos this]; exact hb1
 · have : f.name ≠ [] := by simpa using h5
   refine put1 hT hB hb hname fun H1 hb1 hk1 => k2 H1 ?_ hk1
   rw [if_neg this]; exact hb1
mutual
theorem typ_all (hT : Cl Φ S.tab_Lex) (hB : BKit Φ T U) : ∀ t : GType, t.pok → Puts Φ T U id K.f27 [.ptr id 0, .agg t.cells] t.W
 | .mk kind size packed fields count elem, h => by
  have h' := h
  rw [GType.pok] at h'
  exact typ_puts hT hB h (flds_all hT hB fields h'.2.2.1) (typs_all hT hB elem h'.2.2.2)
theorem typs_all (hT : Cl Φ S.tab_Lex) (hB : BKit Φ T U) : ∀ ts : List GType, GType.poks ts → ∀ t ∈ ts, Puts Φ T U id K.f27 [.ptr id 0, .agg t.cells] t.W
 | [], _ => fun t ht => by cases ht
 | x :: r, h => fun t ht => by
  rcases List.mem_cons.1 ht with e | e
  · rw [e]; exact typ_all hT hB x h.1
  · exact typs_all hT hB r h.2 t e
theorem fld_all (hT : Cl Φ S.tab_Lex) (hB : BKit Φ T U) : ∀ f : GField, f.pok → Puts Φ T U id K.f63 [.ptr id 0, .agg f.cells] f.W
 | .mk name type bits width, h => by
  have h' := h
  rw [GField.pok] at h'
  exact field_puts hT hB h (typ_all hT hB type h'.2.1)
theorem flds_all (hT : Cl Φ S.tab_Lex) (hB : BKit Φ T U) : ∀ fs : List GField, GField.poks fs → ∀ f ∈ fs, Puts Φ T U id K.f63 [.ptr id 0, .agg f.cells] f.W
 | [], _ => fun t ht => by cases ht
 | x :: r, h => fun t ht => by
  rcases List.mem_cons.1 ht with e | e
  · rw [e]; exact fld_all hT hB x h.1
  · exact flds_all hT hB r h.2 t e
end
end
end Rb

namespace Rb
open Go
section
variable {Φ : Calls'} {T U : TypeId} {id : Nat}
end
end Rb

namespace Rb
open Go
mutual
def GStmt.pok : GStmt → Prop
 | .mk _ _ name name2 _ place exprs thn els => name.length ≤ 140737488351232 ∧ name2.length ≤ 140737488351232 ∧ place.pok ∧ exprs.length ≤ maxLen ∧ GExpr.poks exprs ∧ thn.length ≤ maxLen ∧ GStmt.poks thn ∧ els.length ≤ maxLen ∧ GStmt.poks els
def GStmt.poks : List GStmt → Prop
 | [] => True
 | x :: r => GStmt.pok x ∧ GStmt.poks r
end
mutual
theorem GStmt.ok_pok : ∀ x : GStmt, x.ok → x.pok
 | .mk kind line name name2 order place exprs thn els, h => by
  rw [GStmt.ok] at h
  rw [GStmt.pok]
  obtain ⟨_, _, h1, h2, _, h3, h4, h5, h6, h7, h8, h9⟩ := h
  exact ⟨h1, h2, GPlace.ok_pok _ h3, h4, GExpr.oks_poks _ h5, h6, GStmt.oks_poks thn h7, h8, GStmt.oks_poks els h9⟩
theorem GStmt.oks_poks : ∀ xs : List GStmt, GStmt.oks xs → GStmt.poks xs
 | [], _ => trivial
 | x :: r, h => ⟨GStmt.ok_pok x h.1, GStmt.oks_poks r h.2⟩
end
theorem GStmt.Ws_map : ∀ xs : List GStmt, GStmt.Ws xs = xs.flatMap GStmt.W
 | [] => rfl
 | x :: r => by rw [GStmt.Ws, GStmt.Ws_map r]; rfl
theorem GStmt.W_def (x : GStmt) : x.W = ofW (i64w (x.kind - 1)) stmWL :: (headW x.kind x.order x.name x.name2 x.place ++ (exprsW 0 x.exprs ++
      (if x.kind = 8 ∨ x.kind = 9 then blockW x.thn ++ (if x.els.length = 0 then [] else [101, 108, 115, 101] :: blockW x.els) else [[59]]))) := by
  cases x
  rw [GStmt.W]
  simp only [blockW, List.cons_append, List.append_assoc, List.nil_append]
def GVar.pok (v : GVar) : Prop := v.name.length ≤ 140737488351232 ∧ v.type.pok
def GProg.pok (p : GProg) : Prop := (p.vars.length ≤ maxLen ∧ ∀ v ∈ p.vars, v.pok) ∧ p.threads.length ≤ maxLen ∧ ∀ t ∈ p.threads, t.length ≤ maxLen ∧ ∀ s ∈ t, s.pok
theorem GProg.ok_pok {p : GProg} (h : p.ok) : p.pok :=
 ⟨⟨h.1.1, fun v hv => ⟨(h.1.2 v hv).1, GType.ok_pok _ (h.1.2 v hv).2⟩⟩, h.2.1, fun t ht => ⟨(h.2.2 t ht).1, fun s hs => GStmt.ok_pok _ ((h.2.2 t ht).2 s hs)⟩⟩
section
variable {Φ : Calls'} {T U : TypeId} {id : Nat}
end
end Rb

namespace Rb
open Go
def Says (Φ : Calls') (key : Nat) (args : List AV) (P : Prop) : Prop := ∀ (H : AH) (Q : Post), (∀ b H', (b = true ↔ P) → Q (.bool b) H') → Φ key args H Q
theorem and_yes {b b2 : Bool} {P R : Prop} (hb : b = true ↔ P) (ht : b = true) (h2 : b2 = true ↔ R) : b2 = true ↔ P ∧ R := by rw [h2]; exact ⟨fun h => ⟨hb.1 ht, h⟩, fun h => h.2⟩
theorem and_no {b : Bool} {P R : Prop} (hb : b = true ↔ P) (hf : b = false) : false = true ↔ P ∧ R := ⟨fun h => (by cases h), fun h => by rw [hb.2 h.1] at hf; cases hf⟩
def EqFL (sz : Nat) (zs : List AV) (Φ : Calls') (a0 : AV) (a1 : AV) (a2 : AV) (x4 : AV) (Q : Post) : (List AV × AH) → ((List AV × AH) → Prop) → Prop := fun s5 L6 =>
 Do (abin .lss (sl s5.1 0) x4) fun x7 =>
 Gd x7 true (
 Do (aiaddr none sz a0 (sl s5.1 0)) fun x8 =>
 Do (aload s5.2 sz true x8) fun x9 =>
 DoH (some (abox s5.2 true zs)) fun x10 H11 =>
 Do (astore H11 sz x10 x9) fun H12 =>
 Do (aiaddr none sz a1 (sl s5.1 0)) fun x13 =>
 Do (aload H12 sz true x13) fun x14 =>
 DoH (some (abox H12 true zs)) fun x15 H16 =>
 Do (astore H16 sz x15 x14) fun H17 =>
 Do (aload H17 sz true x10) fun x18 =>
 Do (aload H17 sz true x15) fun x19 =>
 ∃ k22 c23, a2 = .fn k22 c23 ∧ Φ (fkey k22) (fargs k22 [x18, x19] c23) H17 fun x20 H21 =>
 Do (aun .not x20) fun x24 =>
 Gd x24 true (
 Q (.bool false) H21) (
 Do (abin .add (sl s5.1 0) (.int .i64 1)) fun x25 =>
 L6 ([x25], H21))) (
 Q (.bool true) s5.2)
def EqF (sz : Nat) (zs : List AV) (Φ : Calls') (a0 : AV) (a1 : AV) (a2 : AV) (H : AH) (Q : Post) : Prop :=
 Do (alen false a0) fun x1 =>
 Do (alen false a1) fun x2 =>
 Do (abin .neq x1 x2) fun x3 =>
 Gd x3 true (
 Q (.bool false) H) (
 Do (alen false a0) fun x4 =>
 LoopP (EqFL sz zs Φ a0 a1 a2 x4 Q) ([(.int .i64 0)], H))
section
variable {Φ : Calls'} {H : AH} {Q : Post}
theorem EqF_ok {α β : Type} {cells : α → List AV} {sz : Nat} {zs : List AV} (hc : ∀ x, (cells x).length = sz) (hs : ∀ x, (cells x).all AV.scalar = true) (hz : 0 < sz) (hzl : zs.length = sz) {g : α → β} {key : Nat} (hkey : bkey key = none) {xs ys : List α}
  (hf : ∀ x ∈ xs, ∀ y ∈ ys, Says Φ key [.agg (cells x), .agg (cells y)] (g x = g y)) (hl : xs.length ≤ 9223372036854775807) (hQ : ∀ b H', (b = true ↔ xs.map g = ys.map g) → Q (.bool b) H') :
  EqF sz zs Φ (lstA cells xs) (lstA cells ys) (.fn key []) H Q := by
 unfold EqF
 simp only [lstA_len', Do_of, abin_neq, Gd_true]
 refine bool_ite8 (fun h => ?_) (fun h => ?_)
 · have : xs.length ≠ ys.length := by intro e; rw [e] at h; simp at h
   exact hQ _ _ ⟨fun h => (by cases h), fun e => absurd (by have := congrArg List.length e; simpa using this) this⟩
 have hlen : xs.length = ys.length := by have : ((xs.length : Int) = ys.length) := by simpa using h
                                         omega
 have main : ∀ (us vs : List α) (i : Nat) (H1 : AH), xs.drop i = us → ys.drop i = vs → (us.map g = vs.map g ↔ xs.map g = ys.map g) →
   LoopP (EqFL sz zs Φ (lstA cells xs) (lstA cells ys) (.fn key []) (.int .i64 xs.length) Q) ([.int .i64 i], H1) := by
  intro us
  induction us with
  | nil =>
   intro vs i H1 hi hj hr
   have hle := drop_nil_le hi
   have hvs : vs = [] := by rw [← hj]; exact List.drop_eq_nil_of_le (by omega)
   refine LoopP.step ?_
   simp only [EqFL, sl_zero, abin_lss, Do_of, Gd_true]
   rw [if_neg (by simp only [decide_eq_true_eq]; omega)]
   exact hQ _ _ ⟨fun _ => hr.1 (by rw [hvs]), fun _ => rfl⟩
  | cons u us ih =>
   intro vs i H1 hi hj hr
   obtain ⟨hlt, hy, hd⟩ := drop_cons_lt hi
   cases vs with
   | nil => have := drop_nil_le hj; omega
   | cons v vs =>
    obtain ⟨hlt2, hy2, hd2⟩ := drop_cons_lt hj
    refine LoopP.step ?_
    simp only [EqFL, sl_zero, abin_lss, Do_of, Gd_true]
    rw [if_pos (by simp only [decide_eq_true_eq]; omega), lstA_addr hlt]
    simp only [Do_of]
    rw [elA_load hc hz H1 hy]
    simp only [Do_of, DoH_some, abox, if_true]
    rw [store_new H1 zs (cells u) sz (hc u) (hs u) hzl]
    simp only [Do_of]
    rw [lstA_addr hlt2]
    simp only [Do_of]
    rw [elA_load hc hz _ hy2]
    simp only [Do_of]
    rw [store_new _ zs (cells v) sz (hc v) (hs v) hzl]
    simp only [Do_of]
    have r1 : ((H1.push (.row (cells u))).push (.row (cells v))).o H1.n = .row (cells u) := by rw [AH.push_ne _ _ (by show H1.n ≠ H1.n + 1; omega)]; exact AH.push_self _ _
    rw [Ac.rowl r1, takeCells_whole (hc u)]
    simp only [Do_of, load_push]
    rw [takeCells_whole (hc v)]
    simp only [Do_of]
    refine ⟨key, [], rfl, ?_⟩
    rw [fkey_none hkey, fargs_none hkey, List.append_nil]
    refine hf u (List.mem_of_getElem? hy) v (List.mem_of_getElem? hy2) _ _ fun b H2 hb => ?_
    simp only [aun_not, Do_of, Gd_true, abin_add]
    refine bool_ite8 (fun h => ?_) (fun h => ?_)
    · have hbf : b = false := by simpa using h
      refine hQ _ _ ⟨fun h => (by cases h), fun e => ?_⟩
      have := hr.2 e
      rw [List.map_cons, List.map_cons] at this
      rw [hb.2 (List.cons.inj this).1] at hbf
      cases hbf
    · have hbt : b = true := by simpa using h
      rw [wrap_i64 (by omega) (by omega), show ((i : Int) + 1) = ((i + 1 : Nat) : Int) by simp]
      refine ih vs (i + 1) H2 hd hd2 ?_
      rw [← hr, List.map_cons, List.map_cons, hb.1 hbt]
      simp
 exact main xs ys 0 H rfl rfl Iff.rfl
theorem eqf_type (Φ : Calls') (a0 a1 a2 : AV) (H : AH) (Q : Post) : S.f68 Φ a0 a1 a2 H Q = EqF 6 [.int .i64 0, .int .i64 0, .bool false, .lst .nil 0 [], .int .i64 0, .lst .nil 0 []] Φ a0 a1 a2 H Q := rfl
theorem eqf_field (Φ : Calls') (a0 a1 a2 : AV) (H : AH) (Q : Post) : S.f69 Φ a0 a1 a2 H Q = EqF 9 [.str [], .int .i64 0, .int .i64 0, .bool false, .lst .nil 0 [], .int .i64 0, .lst .nil 0 [], .bool false, .int .i64 0] Φ a0 a1 a2 H Q := rfl
theorem eqI (a b : Int) : (a == b) = true ↔ a = b := beq_iff_eq
theorem eqS (a b : List UInt8) : (a == b) = true ↔ a = b := beq_iff_eq
theorem eqB2 (a b : Bool) : (a == b) = true ↔ a = b := beq_iff_eq
theorem seql (a b : List UInt8) : abin .eql (.str a) (.str b) = some (.bool (a == b)) := rfl
theorem beqF (x y : Bool) : abeq false (.bool x) (.bool y) = some (.bool (x == y)) := rfl
theorem sameType_says (hT : Cl Φ S.tab_Lex) {a b : GType} (hal : a.elem.length ≤ maxLen) (hfl : a.fields.length ≤ maxLen)
  (he : ∀ x ∈ a.elem, ∀ y ∈ b.elem, Says Φ K.f33 [.agg x.cells, .agg y.cells] (x = y)) (hf : ∀ x ∈ a.fields, ∀ y ∈ b.fields, Says Φ K.f70 [.agg x.cells, .agg y.cells] (x = y)) :
  Says Φ K.f33 [.agg a.cells, .agg b.cells] (a = b) := by
 intro H Q hQ
 refine S.cl_f33 hT ?_
 have hall : ∀ c H', (c = true ↔ (((((a.kind = b.kind ∧ a.size = b.size) ∧ a.packed = b.packed) ∧ a.count = b.count) ∧ a.elem = b.elem) ∧ a.fields = b.fields)) → Q (.bool c) H' := fun c H' h => hQ c H' (h.trans (by
   cases a; cases b
   simp only [GType.mk.injEq]
   constructor
   · rintro ⟨⟨⟨⟨⟨h1, h2⟩, h3⟩, h4⟩, h5⟩, h6⟩; exact ⟨h1, h2, h3, h6, h4, h5⟩
   · rintro ⟨h1, h2, h3, h6, h4, h5⟩; exact ⟨⟨⟨⟨⟨h1, h2⟩, h3⟩, h4⟩, h5⟩, h6⟩))
 unfold maxLen at hal hfl
 unfold S.f33
 simp only [Ac.tbox, DoH_some, Ac.addr, Ac.t0, Ac.t1, Do_of, abin_eql, Gd3_true]
 have k1 : ∀ (c : Bool) (H : AH), (c = true ↔ ((((a.kind = b.kind ∧ a.size = b.size) ∧ a.packed = b.packed) ∧ a.count = b.count) ∧ a.elem = b.elem)) → JoinP (S.f33_k1 Φ (.fptr a.cells) (.fptr b.cells) Q) [.bool c] H := by
  intro c H hc
  simp only [JoinP_def, S.f33_k1, sl_zero, Gd3_true, Ac.addr, Ac.t3, Do_of]
  refine bool_ite8 (fun h => ?_) (fun h => ?_)
  · refine S.cl_f69 hT ?_
    rw [eqf_field]
    refine EqF_ok (g := id) GField.len GField.scalar (by decide) rfl rfl hf (by omega) fun c2 H2 h2 => ?_
    exact hall _ _ (and_yes hc h (by simpa using h2))
  · exact hall _ _ (and_no hc h)
 have k2 : ∀ (c : Bool) (H : AH), (c = true ↔ (((a.kind = b.kind ∧ a.size = b.size) ∧ a.packed = b.packed) ∧ a.count = b.count)) → JoinP (S.f33_k2 Φ (.fptr a.cells) (.fptr b.cells) Q) [.bool c] H := by
  intro c H hc
  simp only [JoinP_def, S.f33_k2, sl_zero, Gd3_true, Ac.addr, Ac.t5, Do_of]
  refine bool_ite8 (fun h => ?_) (fun h => ?_)
  · refine S.cl_f68 hT ?_
    rw [eqf_type]
    refine EqF_ok (g := id) GType.len GType.scalar (by decide) rfl rfl he (by omega) fun c2 H2 h2 => ?_
    exact k1 _ _ (and_yes hc h (by simpa using h2))
  · exact k1 _ _ (and_no hc h)
 have k3 : ∀ (c : Bool) (H : AH), (c = true ↔ ((a.kind = b.kind ∧ a.size = b.size) ∧ a.packed = b.packed)) → JoinP (S.f33_k3 Φ (.fptr a.cells) (.fptr b.cells) Q) [.bool c] H := by
  intro c H hc
  simp only [JoinP_def, S.f33_k3, sl_zero, Gd3_true, Ac.addr, Ac.t4, Do_of, abin_eql]
  refine bool_ite8 (fun h => ?_) (fun h => ?_)
  · exact k2 _ _ (and_yes hc h (eqI _ _))
  · exact k2 _ _ (and_no hc h)
 have k4 : ∀ (c : Bool) (H : AH), (c = true ↔ (a.kind = b.kind ∧ a.size = b.size)) → JoinP (S.f33_k4 Φ (.fptr a.cells) (.fptr b.cells) Q) [.bool c] H := by
  intro c H hc
  simp only [JoinP_def, S.f33_k4, sl_zero, Gd3_true, Ac.addr, Ac.t2, Do_of, beqF]
  refine bool_ite8 (fun h => ?_) (fun h => ?_)
  · exact k3 _ _ (and_yes hc h (eqB2 _ _))
  · exact k3 _ _ (and_no hc h)
 refine bool_ite8 (fun h => ?_) (fun h => ?_)
 · exact k4 _ _ (and_yes (eqI _ _) h (eqI _ _))
 · exact k4 _ _ (and_no (eqI _ _) h)
theorem sameField_says (hT : Cl Φ S.tab_Lex) {a b : GField} (he : Says Φ K.f33 [.agg a.type.cells, .agg b.type.cells] (a.type = b.type)) :
  Says Φ K.f70 [.agg a.cells, .agg b.cells] (a = b) := by
 intro H Q hQ
 refine S.cl_f70 hT ?_
 have hall : ∀ c H', (c = true ↔ (((a.name = b.name ∧ a.bits = b.bits) ∧ a.width = b.width) ∧ a.type = b.type)) → Q (.bool c) H' := fun c H' h => hQ c H' (h.trans (by
   cases a; cases b
   simp only [GField.mk.injEq]
   constructor
   · rintro ⟨⟨⟨h1, h2⟩, h3⟩, h4⟩; exact ⟨h1, h4, h2, h3⟩
   · rintro ⟨h1, h4, h2, h3⟩; exact ⟨⟨⟨h1, h2⟩, h3⟩, h4⟩))
 unfold S.f70
 simp only [Ac.fbox, DoH_some, Ac.addr, Ac.f0, Ac.f7, Do_of, seql, Gd3_true, beqF]
 have k1 : ∀ (c : Bool) (H : AH), (c = true ↔ ((a.name = b.name ∧ a.bits = b.bits) ∧ a.width = b.width)) → JoinP (S.f70_k1 Φ (.fptr a.cells) (.fptr b.cells) Q) [.bool c] H := by
  intro c H hc
  simp only [JoinP_def, S.f70_k1, sl_zero, Gd3_true, Ac.addr, Ac.f1, Do_of]
  refine bool_ite8 (fun h => ?_) (fun h => ?_)
  · exact he _ _ fun c2 H2 h2 => hall _ _ (and_yes hc h h2)
  · exact hall _ _ (and_no hc h)
 have k2 : ∀ (c : Bool) (H : AH), (c = true ↔ (a.name = b.name ∧ a.bits = b.bits)) → JoinP (S.f70_k2 Φ (.fptr a.cells) (.fptr b.cells) Q) [.bool c] H := by
  intro c H hc
  simp only [JoinP_def, S.f70_k2, sl_zero, Gd3_true, Ac.addr, Ac.f8, Do_of, abin_eql]
  refine bool_ite8 (fun h => ?_) (fun h => ?_)
  · exact k1 _ _ (and_yes hc h (eqI _ _))
  · exact k1 _ _ (and_no hc h)
 refine bool_ite8 (fun h => ?_) (fun h => ?_)
 · exact k2 _ _ (and_yes (eqS _ _) h (eqB2 _ _))
 · exact k2 _ _ (and_no (eqS _ _) h)
mutual
def GType.fin : GType → Prop
 | .mk _ _ _ fields _ elem => (elem.length ≤ maxLen ∧ fields.length ≤ maxLen) ∧ GField.fins fields ∧ GType.fins elem
def GType.fins : List GType → Prop
 | [] => True
 | x :: r => GType.fin x ∧ GType.fins r
def GField.fin : GField → Prop
 | .mk _ type _ _ => type.fin
def GField.fins : List GField → Prop
 | [] => True
 | x :: r => GField.fin x ∧ GField.fins r
end
mutual
theorem GType.ok_fin : ∀ x : GType, x.ok → x.fin
 | .mk kind size packed fields count elem, h => by
  rw [GType.ok] at h
  rw [GType.fin]
  exact ⟨⟨h.2.2.2.2.2.1, h.2.2.1⟩, GField.oks_fins _ h.2.2.2.1, GType.oks_fins _ h.2.2.2.2.2.2⟩
theorem GType.oks_fins : ∀ xs : List GType, GType.oks xs → GType.fins xs
 | [], _ => trivial
 | x :: r, h => ⟨GType.ok_fin x h.1, GType.oks_fins r h.2⟩
theorem GField.ok_fin : ∀ x : GField, x.ok → x.fin
 | .mk name type bits width, h => by
  rw [GField.ok] at h
  rw [GField.fin]
  exact GType.ok_fin _ h.2.1
theorem GField.oks_fins : ∀ xs : List GField, GField.oks xs → GField.fins xs
 | [], _ => trivial
 | x :: r, h => ⟨GField.ok_fin x h.1, GField.oks_fins r h.2⟩
end
mutual
theorem sameType_all (hT : Cl Φ S.tab_Lex) : ∀ a : GType, a.fin → ∀ b : GType, Says Φ K.f33 [.agg a.cells, .agg b.cells] (a = b)
 | .mk kind size packed fields count elem, h, b => by
  rw [GType.fin] at h
  exact sameType_says hT h.1.1 h.1.2 (fun x hx y _ => sameTypes_all hT elem h.2.2 x hx y) (fun x hx y _ => sameFields_all hT fields h.2.1 x hx y)
theorem sameTypes_all (hT : Cl Φ S.tab_Lex) : ∀ ls : List GType, GType.fins ls → ∀ a ∈ ls, ∀ b : GType, Says Φ K.f33 [.agg a.cells, .agg b.cells] (a = b)
 | [], _ => fun a ha => by cases ha
 | x :: r, h => fun a ha => by
  rcases List.mem_cons.1 ha with e | e
  · rw [e]; exact sameType_all hT x h.1
  · exact sameTypes_all hT r h.2 a e
theorem sameField_all (hT : Cl Φ S.tab_Lex) : ∀ a : GField, a.fin → ∀ b : GField, Says Φ K.f70 [.agg a.cells, .agg b.cells] (a = b)
 | .mk name type bits width, h, b => by
  rw [GField.fin] at h
  exact sameField_says hT (sameType_all hT type h b.type)
theorem sameFields_all (hT : Cl Φ S.tab_Lex) : ∀ ls : List GField, GField.fins ls → ∀ a ∈ ls, ∀ b : GField, Says Φ K.f70 [.agg a.cells, .agg b.cells] (a = b)
 | [], _ => fun a ha => by cases ha
 | x :: r, h => fun a ha => by
  rcases List.mem_cons.1 ha with e | e
  · rw [e]; exact sameField_all hT x h.1
  · exact sameFields_all hT r h.2 a e
end
end
end Rb

namespace Rb
open Go
mutual
def GExpr.fin : GExpr → Prop
 | .mk _ _ _ _ _ place kids => kids.length ≤ maxLen ∧ GPlace.fin place ∧ GExpr.fins kids
def GExpr.fins : List GExpr → Prop
 | [] => True
 | x :: r => GExpr.fin x ∧ GExpr.fins r
def GPlace.fin : GPlace → Prop
 | .mk _ parts => parts.length ≤ maxLen ∧ GPart.fins parts
def GPart.fin : GPart → Prop
 | .mk _ index => index.length ≤ maxLen ∧ GExpr.fins index
def GPart.fins : List GPart → Prop
 | [] => True
 | x :: r => GPart.fin x ∧ GPart.fins r
end
mutual
theorem GExpr.ok_fin : ∀ x : GExpr, x.ok → x.fin
 | .mk kind n name op order place kids, h => by
  rw [GExpr.ok] at h
  rw [GExpr.fin]
  exact ⟨h.2.2.2.2.2.2.1, GPlace.ok_fin place h.2.2.2.2.2.1, GExpr.oks_fins kids h.2.2.2.2.2.2.2⟩
theorem GExpr.oks_fins : ∀ xs : List GExpr, GExpr.oks xs → GExpr.fins xs
 | [], _ => trivial
 | x :: r, h => ⟨GExpr.ok_fin x h.1, GExpr.oks_fins r h.2⟩
theorem GPlace.ok_fin : ∀ x : GPlace, x.ok → x.fin
 | .mk var parts, h => by
  rw [GPlace.ok] at h
  rw [GPlace.fin]
  exact ⟨h.2.1, GPart.oks_fins parts h.2.2⟩
theorem GPart.ok_fin : ∀ x : GPart, x.ok → x.fin
 | .mk field index, h => by
  rw [GPart.ok] at h
  rw [GPart.fin]
  exact ⟨h.2.1, GExpr.oks_fins index h.2.2⟩
theorem GPart.oks_fins : ∀ xs : List GPart, GPart.oks xs → GPart.fins xs
 | [], _ => trivial
 | x :: r, h => ⟨GPart.ok_fin x h.1, GPart.oks_fins r h.2⟩
end
mutual
def GStmt.fin : GStmt → Prop
 | .mk _ _ _ _ _ place exprs thn els => place.fin ∧ (exprs.length ≤ maxLen ∧ GExpr.fins exprs) ∧ (thn.length ≤ maxLen ∧ GStmt.fins thn) ∧ (els.length ≤ maxLen ∧ GStmt.fins els)
def GStmt.fins : List GStmt → Prop
 | [] => True
 | x :: r => GStmt.fin x ∧ GStmt.fins r
end
mutual
theorem GStmt.ok_fin : ∀ x : GStmt, x.ok → x.fin
 | .mk kind line name name2 order place exprs thn els, h => by
  rw [GStmt.ok] at h
  rw [GStmt.fin]
  obtain ⟨_, _, h1, h2, _, h3, h4, h5, h6, h7, h8, h9⟩ := h
  exact ⟨GPlace.ok_fin _ h3, ⟨h4, GExpr.oks_fins _ h5⟩, ⟨h6, GStmt.oks_fins thn h7⟩, ⟨h8, GStmt.oks_fins els h9⟩⟩
theorem GStmt.oks_fins : ∀ xs : List GStmt, GStmt.oks xs → GStmt.fins xs
 | [], _ => trivial
 | x :: r, h => ⟨GStmt.ok_fin x h.1, GStmt.oks_fins r h.2⟩
end
def GProg.fin (p : GProg) : Prop := (p.vars.length ≤ maxLen ∧ ∀ v ∈ p.vars, v.type.fin) ∧ p.threads.length ≤ maxLen ∧ ∀ t ∈ p.threads, t.length ≤ maxLen ∧ ∀ s ∈ t, s.fin
theorem GProg.ok_fin {p : GProg} (h : p.ok) : p.fin :=
 ⟨⟨h.1.1, fun v hv => GType.ok_fin _ (h.1.2 v hv).2⟩, h.2.1, fun t ht => ⟨(h.2.2 t ht).1, fun s hs => GStmt.ok_fin _ ((h.2.2 t ht).2 s hs)⟩⟩
section
variable {Φ : Calls'} {H : AH} {Q : Post}
end
end Rb

namespace Rb
open Go
section
variable {Φ : Calls'} {H : AH} {Q : Post} {id : Nat} {s : PSt}
end
end Rb

namespace Rb
open Go
def Grow (H H' : AH) : Prop := H.n ≤ H'.n ∧ ∀ i o, At H i o → At H' i o
theorem Grow.push (H : AH) (x : AObj) : Grow H (H.push x) := ⟨Nat.le_succ _, fun i o h => h.push x⟩
theorem Grow.keep {H H' : AH} (h : Grow H H') (id : Nat) : KeepP id H H' := ⟨h.1, fun i o _ ho => h.2 i o ho⟩
theorem Grow.ps {H H' : AH} (h : Grow H H') {id : Nat} {s : PSt} (p : PS H id s) : PS H' id s := ⟨p.1, p.2.1, p.2.2.imp fun _ a => h.2 _ _ a⟩
def scalarT (w : List UInt8) : GType := match scalarM w with
 | some p => ⟨p.1, p.2, false, [], 0, []⟩
 | none => tyZ
section
variable {Φ : Calls'} {H : AH} {Q : Post} {id : Nat} {s : PSt}
theorem strs_addr {l : List (List UInt8)} {tk : Tok} {i : Nat} (hi : i < l.length) : aiaddr none 1 (.lst tk l.length (l.map .str)) (.int .i64 i) = some (.fptr ((l.map AV.str).drop i)) := by
 simp only [aiaddr]
 rw [if_pos ⟨by omega, by omega⟩]
 simp
theorem strs_load {l : List (List UInt8)} {i : Nat} {w : List UInt8} (h : l[i]? = some w) (H : AH) : aload H 1 false (.fptr ((l.map AV.str).drop i)) = some (.str w) := by
 have hlt := (List.getElem?_eq_some_iff.1 h).1
 show takeCells ((l.map AV.str).drop i) 0 1 false = _
 unfold takeCells
 rw [if_pos (by rw [List.length_drop, List.length_map]; omega)]
 simp [List.getElem?_drop, List.getElem?_map, h]
theorem p_scalar (hT : Cl Φ S.tab_Lex) (hW : Wk Φ) {w : List UInt8} (hQ : ∀ H', Grow H H' → Q (.tup [.agg (scalarT w).cells, .bool (scalarM w).isSome]) H') : Φ K.f50 [.str w] H Q := by
 refine hW _ _ _ _ (S.cl_f50 hT ?_)
 unfold S.f50
 simp only [abox, if_true, DoH_some]
 rw [show abslice (H.push (.row [.int .i64 0, .int .i64 0, .bool false, .lst .nil 0 [], .int .i64 0, .lst .nil 0 []])) false 1 4 [.str []] _ = some (.lst .full scL0.length (scL0.map .str), _) from rfl]
 simp only [DoH_some]
 rw [show abslice (H.push (.row [.int .i64 0, .int .i64 0, .bool false, .lst .nil 0 [], .int .i64 0, .lst .nil 0 []])) false 1 5 [.str []] _ = some (.lst .full scL1.length (scL1.map .str), _) from rfl]
 simp only [DoH_some]
 rw [show abuild [.lst .nil 0 [], .lst .nil 0 []] _ = some (.agg [.lst .full scL0.length (scL0.map .str), .lst .full scL1.length (scL1.map .str)]) from rfl]
 simp only [Do_of]
 have yes : ∀ (k m : Nat), m < 5 → k < 2 → scalarM w = some ((k : Int) + 1, 2 ^ m) → Q (.tup [.agg (AV.weaks [.int .i64 ((k : Int) + 1), .int .i64 (2 ^ m), .bool false, .lst .nil 0 [], .int .i64 0, .lst .nil 0 []]), .bool true]) (H.push (.row [.int .i64 ((k : Int) + 1), .int .i64 (2 ^ m), .bool false, .lst .nil 0 [], .int .i64 0, .lst .nil 0 []])) := by
  intro k m hm hk he
  have := hQ _ (Grow.push H (.row [.int .i64 ((k : Int) + 1), .int .i64 (2 ^ m), .bool false, .lst .nil 0 [], .int .i64 0, .lst .nil 0 []]))
  unfold scalarT at this
  rw [he] at this
  exact this
 have no : scalarM w = none → JoinP (S.f50_k3 Φ (.ptr H.n 0) fun v H' => Q v.weak H') [] (H.push (.row [.int .i64 0, .int .i64 0, .bool false, .lst .nil 0 [], .int .i64 0, .lst .nil 0 []])) := by
  intro he
  simp only [JoinP_def, S.f50_k3]
  rw [show abuild _ [] = some (.agg [.int .i64 0, .int .i64 0, .bool false, .lst .nil 0 [], .int .i64 0, .lst .nil 0 []]) from rfl]
  simp only [Do_of]
  rw [store_new H _ _ 6 rfl rfl rfl]
  simp only [Do_of, load_push]
  rw [takeCells_whole (n := 6) rfl]
  simp only [Do_of]
  have := hQ _ (Grow.push H (.row [.int .i64 0, .int .i64 0, .bool false, .lst .nil 0 [], .int .i64 0, .lst .nil 0 []]))
  unfold scalarT at this
  rw [he] at this
  exact this
 have inner : ∀ (L : List (List UInt8)) (k : Nat) (s10 : List AV × AH) (L11 : List AV × AH → Prop), L.length ≤ 5 → k < 2 → sl s10.1 0 = .int .i64 k →
   (∀ m, m < 5 → L.findIdx? (· == w) = some m → scalarM w = some ((k : Int) + 1, 2 ^ m)) →
   (L.findIdx? (· == w) = none → L11 ([.int .i64 ((k + 1 : Nat) : Int)], H.push (.row [.int .i64 0, .int .i64 0, .bool false, .lst .nil 0 [], .int .i64 0, .lst .nil 0 []]))) →
   LoopP (S.f50_l2 Φ (.str w) (.ptr H.n 0) (.lst .full L.length (L.map .str)) (.int .i64 L.length) s10 L11 fun v H' => Q v.weak H') ([.int .i64 0], H.push (.row [.int .i64 0, .int .i64 0, .bool false, .lst .nil 0 [], .int .i64 0, .lst .nil 0 []])) := by
  intro L k s10 L11 hL hk hs hyes hno
  have main : ∀ (ys : List (List UInt8)) (j : Nat), L.drop j = ys → (∀ m, ys.findIdx? (· == w) = some m → L.findIdx? (· == w) = some (m + j)) → (ys.findIdx? (· == w) = none → L.findIdx? (· == w) = none) →
    LoopP (S.f50_l2 Φ (.str w) (.ptr H.n 0) (.lst .full L.length (L.map .str)) (.int .i64 L.length) s10 L11 fun v H' => Q v.weak H') ([.int .i64 j], H.push (.row [.int .i64 0, .int .i64 0, .bool false, .lst .nil 0 [], .int .i64 0, .lst .nil 0 []])) := by
   intro ys
   induction ys with
   | nil =>
    intro j hj h1 h2
    have hle := drop_nil_le hj
    refine LoopP.step ?_
    simp only [S.f50_l2, sl_zero, abin_lss, Do_of, Gd_true]
    rw [if_neg (by simp only [decide_eq_true_eq]; omega)]
    simp only [JoinP_def, S.f50_k1, hs, abin_add, Do_of]
    rw [wrap_i64 (by omega) (by omega), show ((k : Int) + 1) = ((k + 1 : Nat) : Int) by simp]
    exact hno (h2 rfl)
   | cons y ys ih =>
    intro j hj h1 h2
    obtain ⟨hlt, hy, hd⟩ := drop_cons_lt hj
    refine LoopP.step ?_
    simp only [S.f50_l2, sl_zero, abin_lss, Do_of, Gd_true]
    rw [if_pos (by simp only [decide_eq_true_eq]; omega), strs_addr hlt]
    simp only [Do_of]
    rw [strs_load hy]
    simp only [Do_of, str_eql, hs, abin_add]
    rw [wrap_i64 (by omega) (by omega), wrap_i64 (by omega) (by omega)]
    rw [List.findIdx?_cons] at h1 h2
    refine ite_both (fun h => ?_) (fun h => ?_)
    · have hm := h1 0 (by rw [if_pos h])
      rw [Nat.zero_add] at hm
      rw [abin_shl _ _ _ _ (by omega)]
      have e2 : IntKind.wrap .i64 (1 * 2 ^ min ((j : Int)).toNat (IntKind.bits .i64)) = 2 ^ j := by
       have h5 : j = 0 ∨ j = 1 ∨ j = 2 ∨ j = 3 ∨ j = 4 := by omega
       rcases h5 with rfl | rfl | rfl | rfl | rfl <;> rfl
      rw [e2]
      simp only [Do_of]
      rw [show abuild _ _ = some (.agg [.int .i64 ((k : Int) + 1), .int .i64 (2 ^ j), .bool false, .lst .nil 0 [], .int .i64 0, .lst .nil 0 []]) from rfl]
      simp only [Do_of]
      rw [store_new H _ _ 6 rfl rfl rfl]
      simp only [Do_of, load_push]
      rw [takeCells_whole (n := 6) rfl]
      simp only [Do_of]
      exact yes k j (by omega) hk (hyes j (by omega) hm)
    · rw [if_neg h] at h1 h2
      rw [show ((j : Int) + 1) = ((j + 1 : Nat) : Int) by simp]
      refine ih (j + 1) hd (fun m hm => ?_) fun hn => h2 (by rw [hn]; rfl)
      have := h1 (m + 1) (by rw [hm]; rfl)
      rw [this]; congr 1; omega
  exact main L 0 rfl (fun m h => h) fun h => h
 refine LoopP.step ?_
 simp only [S.f50_l4, sl_zero, abin_lss, Do_of, Gd_true]
 rw [if_pos (by decide)]
 rw [show aidx 2 1 false (.agg [.lst .full scL0.length (scL0.map .str), .lst .full scL1.length (scL1.map .str)]) (.int .i64 0) = some (.lst .full scL0.length (scL0.map .str)) from rfl]
 simp only [Do_of, alen_lst]
 refine inner scL0 0 _ _ (by decide) (by decide) rfl (fun m hm h => ?_) fun h0 => ?_
 · unfold scalarM; rw [h]; rfl
 refine LoopP.step ?_
 simp only [S.f50_l4, sl_zero, abin_lss, Do_of, Gd_true]
 rw [if_pos (by decide)]
 rw [show aidx 2 1 false (.agg [.lst .full scL0.length (scL0.map .str), .lst .full scL1.length (scL1.map .str)]) (.int .i64 ((0 + 1 : Nat) : Int)) = some (.lst .full scL1.length (scL1.map .str)) from rfl]
 simp only [Do_of, alen_lst]
 refine inner scL1 1 _ _ (by decide) (by decide) rfl (fun m hm h => ?_) fun h1 => ?_
 · unfold scalarM; rw [h0, h]; rfl
 refine LoopP.step ?_
 simp only [S.f50_l4, sl_zero, abin_lss, Do_of, Gd_true]
 rw [if_neg (by decide)]
 exact no (by unfold scalarM; rw [h0, h1])
end
end Rb

namespace Rb
open Go
def Sub (s s' : PSt) : Prop := (Wf s → Wf s') ∧ s'.toks.length ≤ s.toks.length ∧ (s.fk ≠ 0 → s'.fk ≠ 0)
theorem Sub.rfl (s : PSt) : Sub s s := ⟨id, Nat.le_refl _, id⟩
theorem Sub.trans {a b c : PSt} (h : Sub a b) (k : Sub b c) : Sub a c := ⟨fun w => k.1 (h.1 w), Nat.le_trans k.2.1 h.2.1, fun x => k.2.2 (h.2.2 x)⟩
theorem Sub.few {a b : PSt} (h : Sub a b) {n : Nat} (f : Few n a) : Few n b := f.imp h.2.2 fun l => Nat.le_trans h.2.1 l
theorem Sub.adv (s : PSt) : Sub s s.adv := ⟨Wf.adv, PSt.adv_len s, fun h => by rw [PSt.adv_fk]; exact h⟩
theorem Sub.fail (s : PSt) (e : Int) : Sub s (s.fail e) := ⟨fun h => h.fail e, by rw [PSt.fail_toks]; exact Nat.le_refl _, fun h => by unfold PSt.fail; rw [if_neg h]; exact h⟩
theorem Sub.isA (s : PSt) (w : List UInt8) : Sub s (s.isA w) := by
 unfold PSt.isA; split
 · exact Sub.adv s
 · exact Sub.rfl s
theorem Sub.want (s : PSt) (w : List UInt8) : Sub s (s.want w) := by
 unfold PSt.want; split
 · exact Sub.rfl s
 · split
   · exact Sub.adv s
   · exact Sub.fail s 4
theorem Sub.deep (s : PSt) (d : Int) : Sub s (s.deep d) := by
 unfold PSt.deep; split
 · exact Sub.fail s 5
 · exact Sub.rfl s
theorem Sub.order (s : PSt) : Sub s (orderM s).2 := by
 unfold orderM
 repeat' split
 all_goals first | exact Sub.adv s | exact Sub.fail s 4
section
variable (kw : List UInt8 → Bool) (val : List UInt8 → Int)
theorem Sub.nameS (s : PSt) : Sub s (s.nameS kw) := by
 unfold PSt.nameS; split
 · exact Sub.adv s
 · exact Sub.fail s 4
theorem Sub.num (s : PSt) (most : Int) : Sub s (s.num val most).2 := by
 unfold PSt.num; split
 · exact Sub.fail s 4
 · split
   · exact Sub.fail s 9
   · exact Sub.adv s
theorem Sub.field {ty : Int → PSt → GType × PSt} (h : ∀ d s, Sub s (ty d s).2) (d : Int) (s : PSt) : Sub s (fieldM kw val ty d s).2 := by
 have h1 : Sub s (if s.isW [95] = true then s.isA [95] else (s.isA [95]).nameS kw) := by
  split
  · exact Sub.isA _ _
  · exact (Sub.isA _ _).trans (Sub.nameS kw _)
 unfold fieldM
 dsimp only
 revert h1
 generalize (if s.isW [95] = true then s.isA [95] else (s.isA [95]).nameS kw) = s1
 generalize (if s.isW [95] = true then ([] : List UInt8) else (s.isA [95]).nameT kw) = nm
 intro h1
 split
 · exact (((h1.trans (h _ _)).trans (Sub.want _ _)).trans (Sub.num val _ _)).trans (Sub.want _ _)
 · exact (h1.trans (h _ _)).trans (Sub.want _ _)
theorem Sub.typs : ∀ n : Nat, (∀ d s, Sub s (typM kw val n d s).2) ∧ ∀ d s, Sub s (fldsM kw val n d s).2 := by
 intro n
 induction n with
 | zero => exact ⟨fun d s => by unfold typM; exact Sub.rfl s, fun d s => by unfold fldsM; exact Sub.rfl s⟩
 | succ n ih =>
  refine ⟨fun d s => ?_, fun d s => ?_⟩
  · unfold typM
    dsimp only
    split
    · exact Sub.deep _ _
    · split
      · exact (Sub.deep _ _).trans (Sub.adv _)
      · split
        · exact (Sub.deep _ _).trans (Sub.fail _ _)
        · split
          · exact ((((Sub.deep _ _).trans (Sub.adv _)).trans (Sub.num val _ _)).trans (Sub.want _ _)).trans (ih.1 _ _)
          · exact ((((Sub.deep _ _).trans (Sub.adv _)).trans (Sub.isA _ _)).trans (Sub.want _ _)).trans (ih.2 _ _)
  · unfold fldsM
    split
    · exact Sub.rfl s
    · split
      · exact Sub.adv s
      · exact (Sub.field kw val ih.1 d s).trans (ih.2 _ _)
theorem Sub.typ (n : Nat) (d : Int) (s : PSt) : Sub s (typM kw val n d s).2 := (Sub.typs kw val n).1 d s
theorem Sub.bin {ex : Int → PSt → GExpr × PSt} (h : ∀ d s, Sub s (ex d s).2) (d : Int) (s : PSt) : Sub s (binM ex d s).2 := by
 unfold binM
 dsimp only
 have h3 : Sub s (if (ex (x64 (d + 1)) s).2.fk = 0 ∧ operM (ex (x64 (d + 1)) s).2.hd.1 = 0 then (ex (x64 (d + 1)) s).2.fail 4 else (ex (x64 (d + 1)) s).2) := by
  split
  · exact (h _ _).trans (Sub.fail _ _)
  · exact h _ _
 refine (Sub.trans ?_ (h _ _)).trans (Sub.want _ _)
 revert h3
 generalize (if (ex (x64 (d + 1)) s).2.fk = 0 ∧ operM (ex (x64 (d + 1)) s).2.hd.1 = 0 then (ex (x64 (d + 1)) s).2.fail 4 else (ex (x64 (d + 1)) s).2) = s3
 intro h3
 split
 · exact h3.trans (Sub.adv _)
 · exact h3
theorem Sub.kids {ex : Int → PSt → GExpr × PSt} (h : ∀ d s, Sub s (ex d s).2) (d : Int) : ∀ (k : Nat) (s : PSt), Sub s (kidsM ex d k s).2
 | 0, s => Sub.rfl s
 | k + 1, s => (h _ _).trans (Sub.kids h d k _)
theorem Sub.place {pa : Int → PSt → List GPart × PSt} (h : ∀ d s, Sub s (pa d s).2) (d : Int) (s : PSt) : Sub s (placeM' kw pa d s).2 := (Sub.nameS kw s).trans (h _ _)
theorem Sub.acc {ex : Int → PSt → GExpr × PSt} {pa : Int → PSt → List GPart × PSt} (h : ∀ d s, Sub s (ex d s).2) (k : ∀ d s, Sub s (pa d s).2) (kind : Int) (m : Nat) (d : Int) (s : PSt) : Sub s (accM kw ex pa kind m d s).2 := by
 unfold accM
 dsimp only
 refine (Sub.trans ?_ (Sub.place kw k _ _)).trans (Sub.kids h _ _ _)
 split
 · exact Sub.rfl s
 · exact Sub.order s
theorem Sub.exprs : ∀ n : Nat, (∀ d s, Sub s (exprM kw val n d s).2) ∧ ∀ d s, Sub s (partsM kw val n d s).2 := by
 intro n
 induction n with
 | zero => exact ⟨fun d s => by unfold exprM; exact Sub.rfl s, fun d s => by unfold partsM; exact Sub.rfl s⟩
 | succ n ih =>
  refine ⟨fun d s => ?_, fun d s => ?_⟩
  · unfold exprM
    dsimp only
    refine (Sub.deep s d).trans ?_
    repeat' split
    all_goals first | exact Sub.rfl _ | exact Sub.num val _ _ | exact Sub.adv _ | exact Sub.fail _ _ | exact (Sub.adv _).trans (Sub.bin ih.1 _ _) | exact (Sub.adv _).trans (Sub.acc kw ih.1 ih.2 _ _ _ _)
  · unfold partsM
    dsimp only
    repeat' split
    all_goals first | exact Sub.rfl _ | exact ((Sub.adv _).trans (Sub.nameS kw _)).trans (ih.2 _ _) | exact (((Sub.adv _).trans (ih.1 _ _)).trans (Sub.want _ _)).trans (ih.2 _ _)
theorem Sub.parts (n : Nat) (d : Int) (s : PSt) : Sub s (partsM kw val n d s).2 := (Sub.exprs kw val n).2 d s
end
end Rb

namespace Rb
open Go
theorem At.st {H : AH} {i : Nat} {cs : List AV} (h : At H i (.row cs)) {n o : Nat} {v : AV} (hk : v.known = true) (hl : v.cells.length = n) (hs : v.cells.all AV.scalar = true) (ho : o + n ≤ cs.length) : astore H n (.ptr i o) v = some (H.set i (.row (setCells cs o v.cells))) := by
 rw [h.store, if_pos ⟨hk, hl, hs, ho⟩]
def TypOK (Φ : Calls') (kw : List UInt8 → Bool) (val : List UInt8 → Int) (n : Nat) : Prop :=
 ∀ (H : AH) (Q : Post) (id : Nat) (s : PSt) (d : Int), PS H id s → Wf s → Few n s → (∀ H', KeepP id H H' → PS H' id (typM kw val n d s).2 → Q (.agg (typM kw val n d s).1.cells) H') → Φ K.f21 [.ptr id 0, .int .i64 d] H Q
section
variable {Φ : Calls'} {H : AH} {Q : Post} {id : Nat} {s : PSt} {kw : List UInt8 → Bool} {val : List UInt8 → Int}
theorem lt_of_ps (h : PS H id s) : id < H.n := by obtain ⟨_, _, _, h⟩ := h; exact h.1
theorem p_field (hT : Cl Φ S.tab_Lex) (hW : Wk Φ) (hkw : ∀ x, Val Φ K.f47 [.str x] (.bool (kw x))) (hv : NumV Φ val) {n : Nat} (hty : TypOK Φ kw val n) {d : Int} (h : PS H id s) (hw : Wf s) (hf : Few (n + 1) s)
  (hQ : ∀ H', KeepP id H H' → PS H' id (fieldM kw val (fun d s => typM kw val n d s) d s).2 → Q (.agg (fieldM kw val (fun d s => typM kw val n d s) d s).1.cells) H') : Φ K.f53 [.ptr id 0, .int .i64 d] H Q := by
 refine hW _ _ _ _ (S.cl_f53 hT ?_)
 unfold S.f53
 have hid := lt_of_ps h
 simp only [abox, if_true, DoH_some, AH.push_n]
 have zs : ∃ z : List AV, z = [.str [], .int .i64 0, .int .i64 0, .bool false, .lst .nil 0 [], .int .i64 0, .lst .nil 0 [], .bool false, .int .i64 0] := ⟨_, rfl⟩
 obtain ⟨z, hz⟩ := zs
 rw [← hz]
 have p2 : PS ((H.push (.row z)).push (.row z)) id s := (h.pushL _).pushL _
 have kk : KeepP id H ((H.push (.row z)).push (.row z)) := (KeepP.push id H _).pushL _
 have a3 : At ((H.push (.row z)).push (.row z)) (H.n + 1) (.row z) := At.new (H.push (.row z)) _
 have a1 : At ((H.push (.row z)).push (.row z)) H.n (.row z) := (At.new H _).push _
 refine p_is hT p2 fun H6 k6 p6 => ?_
 simp only [aun_not, Do_of, Gd_true]
 have k3 : ∀ (nm : List UInt8) (s1 : PSt) (H8 : AH), nm = (if s.isW [95] = true then [] else (s.isA [95]).nameT kw) → s1 = (if s.isW [95] = true then s.isA [95] else (s.isA [95]).nameS kw) → KeepP id H H8 → PS H8 id s1 →
   At H8 H.n (.row z) → At H8 (H.n + 1) (.row (.str nm :: [.int .i64 0, .int .i64 0, .bool false, .lst .nil 0 [], .int .i64 0, .lst .nil 0 [], .bool false, .int .i64 0])) → Wf s1 → Few n s1 →
   JoinP (S.f53_k3 Φ (.ptr id 0) (.int .i64 d) (.ptr H.n 0) (.ptr (H.n + 1) 0) (.bool (s.isW [95])) fun v H' => Q v.weak H') [] H8 := by
  intro nm s1 H8 en es k8 p8 b1 b3 w1 f1
  simp only [JoinP_def, S.f53_k3, abin_add, Do_of]
  refine hty _ _ _ _ _ p8 w1 f1 fun H16 k16 p16 => ?_
  have c1 := k16.2 _ _ (by omega) b1
  have c3 := k16.2 _ _ (by omega) b3
  have w2 := (Sub.typ kw val n (x64 (d + 1)) s1).1 w1
  generalize et : typM kw val n (x64 (d + 1)) s1 = t at p16 w2
  have ef : fieldM kw val (fun d s => typM kw val n d s) d s = (if s.isW [95] = true ∨ t.2.hd.1 = [58] then (⟨nm, t.1, true, x64 ((t.2.want [58]).num val 1073741824).1⟩, ((t.2.want [58]).num val 1073741824).2.want [59]) else (⟨nm, t.1, false, 0⟩, t.2.want [59])) := by
   unfold fieldM
   dsimp only
   rw [← es, ← en, et]
  rw [ef] at hQ
  have k0 := k8.trans k16
  simp only [afaddr, Do_of, Nat.zero_add]
  rw [c3.store, if_pos ⟨rfl, GType.len _, GType.scalar _, (by simp)⟩]
  simp only [Do_of, AV.cells]
  have er : setCells (.str nm :: [.int .i64 0, .int .i64 0, .bool false, .lst .nil 0 [], .int .i64 0, .lst .nil 0 [], .bool false, .int .i64 0]) 1 t.1.cells = .str nm :: (t.1.cells ++ [.bool false, .int .i64 0]) := by
   rw [GType.cells_eq]; rfl
  rw [er]
  have p18 := p16.setL (by omega) (i := H.n + 1) (.row (.str nm :: (t.1.cells ++ [.bool false, .int .i64 0])))
  have d3 := c3.set (.row (.str nm :: (t.1.cells ++ [.bool false, .int .i64 0])))
  have d1 := c1.set_ne (i := H.n + 1) (by omega) (.row (.str nm :: (t.1.cells ++ [.bool false, .int .i64 0])))
  have k18 := k0.setL (i := H.n + 1) (by omega) (.row (.str nm :: (t.1.cells ++ [.bool false, .int .i64 0])))
  generalize H16.set (H.n + 1) (.row (.str nm :: (t.1.cells ++ [.bool false, .int .i64 0]))) = H18 at p18 d3 d1 k18
  have k1 : ∀ (f : GField) (s3 : PSt) (H20 : AH), KeepP id H H20 → PS H20 id s3 → At H20 H.n (.row z) → At H20 (H.n + 1) (.row f.cells) → (∀ H', KeepP id H H' → PS H' id (s3.want [59]) → Q (.agg f.cells) H') →
    JoinP (S.f53_k1 Φ (.ptr id 0) (.ptr H.n 0) (.ptr (H.n + 1) 0) fun v H' => Q v.weak H') [] H20 := by
   intro f s3 H20 k20 p20 e1 e3 hq
   simp only [JoinP_def, S.f53_k1]
   refine p_want hT p20 fun H36 k36 p36 => ?_
   have g1 := k36.2 _ _ (by omega) e1
   have g3 := k36.2 _ _ (by omega) e3
   rw [g3.load, takeCells_whole (GField.len f)]
   simp only [Do_of]
   rw [g1.store, if_pos ⟨rfl, GField.len f, GField.scalar f, (by rw [hz]; simp)⟩]
   simp only [Do_of, AV.cells]
   rw [setCells_all (by rw [GField.len, hz]; rfl)]
   rw [(g1.set _).load]
   simp only [List.take_zero, List.nil_append]
   rw [takeCells_whole (GField.len f)]
   simp only [Do_of, AV.weak]
   rw [GField.weaks]
   exact hq _ ((k20.trans k36).setL (Nat.le_refl _) _) (p36.setL (by omega) _)
  have k2 : ∀ b : Bool, (b = true ↔ (s.isW [95] = true ∨ t.2.hd.1 = [58])) → JoinP (S.f53_k2 Φ (.ptr id 0) (.ptr H.n 0) (.ptr (H.n + 1) 0) fun v H' => Q v.weak H') [.bool b] H18 := by
   intro b hb
   simp only [JoinP_def, S.f53_k2, sl_zero, Gd_true]
   refine ite_both (fun hx => ?_) (fun hx => ?_)
   · rw [if_pos (hb.1 hx)] at hQ
     refine p_want hT p18 fun H27 k27 p27 => ?_
     have g1 := k27.2 _ _ (by omega) d1
     have g3 := k27.2 _ _ (by omega) d3
     simp only [afaddr, Do_of, Nat.zero_add]
     rw [g3.store, if_pos ⟨rfl, rfl, rfl, (by simp [GType.len])⟩]
     simp only [Do_of, AV.cells]
     have er2 : setCells (.str nm :: (t.1.cells ++ [.bool false, .int .i64 0])) 7 [.bool true] = .str nm :: (t.1.cells ++ [.bool true, .int .i64 0]) := by
      rw [GType.cells_eq]; rfl
     rw [er2]
     refine p_num hT hv (p27.setL (by omega) _) ((Sub.want _ _).1 w2) fun H31 k31 p31 => ?_
     have g3' := k31.2 _ _ (by omega) (g3.set (.row (.str nm :: (t.1.cells ++ [.bool true, .int .i64 0]))))
     have g1' := k31.2 _ _ (by omega) (g1.set_ne (i := H.n + 1) (by omega) (.row (.str nm :: (t.1.cells ++ [.bool true, .int .i64 0]))))
     simp only [aconv_int, Do_of]
     rw [g3'.store, if_pos ⟨rfl, rfl, rfl, (by simp [GType.len])⟩]
     simp only [Do_of, AV.cells]
     have er3 : setCells (.str nm :: (t.1.cells ++ [.bool true, .int .i64 0])) 8 [.int .i64 (x64 ((t.2.want [58]).num val 1073741824).1)] = (GField.cells ⟨nm, t.1, true, x64 ((t.2.want [58]).num val 1073741824).1⟩) := by
      rw [GField.cells_eq, GType.cells_eq]; rfl
     rw [er3]
     refine k1 _ _ _ ((((k18.trans k27).setL (by omega) _).trans k31).setL (by omega) _) (p31.setL (by omega) _) (g1'.set_ne (by omega) _) (g3'.set _) hQ
   · rw [if_neg (fun hc => hx (hb.2 hc))] at hQ
     refine k1 ⟨nm, t.1, false, 0⟩ _ _ k18 p18 d1 d3 hQ
  simp only [Gd3_false]
  refine ite_both (fun hx => ?_) (fun hx => ?_)
  · refine p_peek hT p18 ?_
    simp only [str_eql, Do_of]
    exact k2 _ (by rw [hx]; simp)
  · exact k2 _ (by simp only [Bool.not_eq_false] at hx; rw [hx]; simp)
 refine ite_both (fun hx => ?_) (fun hx => ?_)
 · have hn : s.isW [95] = false := by simpa using hx
   refine p_name hT hkw p6 fun H11 k11 p11 => ?_
   have g1 := k11.2 _ _ (by omega) (k6.2 _ _ (by omega) a1)
   have g3 := k11.2 _ _ (by omega) (k6.2 _ _ (by omega) a3)
   simp only [afaddr, Do_of, Nat.zero_add]
   rw [g3.store, if_pos ⟨rfl, rfl, rfl, (by rw [hz]; simp)⟩]
   simp only [Do_of, AV.cells]
   have e1 : s.isA [95] = s := by unfold PSt.isA; rw [hn, if_neg (by decide)]
   have hfew : Few n ((s.isA [95]).nameS kw) := by
    rw [e1]
    unfold PSt.nameS
    split
    · rename_i hy
      refine hf.read hw fun e => ?_
      unfold PSt.nameW at hy
      rw [e] at hy
      simp [lettersM] at hy
    · exact .inl (PSt.fail_fk s (by decide))
   refine k3 ((s.isA [95]).nameT kw) _ _ (by rw [hn, if_neg (by decide)]) (by rw [hn, if_neg (by decide)]) ((((kk.trans k6).trans k11).setL (by omega) _)) (p11.setL (by omega) _) (g1.set_ne (by omega) _) ?_ (((Sub.isA s _).trans (Sub.nameS kw _)).1 hw) hfew
   have := g3.set (.row (setCells z 0 [.str ((s.isA [95]).nameT kw)]))
   rw [hz] at this ⊢
   exact this
 · have hn : s.isW [95] = true := by simpa using hx
   have g1 := k6.2 _ _ (by omega) a1
   have g3 := k6.2 _ _ (by omega) a3
   refine k3 [] _ _ (by rw [hn, if_pos rfl]) (by rw [hn, if_pos rfl]) (kk.trans k6) p6 g1 (by rw [hz] at g3; exact g3) ((Sub.isA s _).1 hw) ?_
   have e1 : s.isA [95] = s.adv := by unfold PSt.isA; rw [hn, if_pos rfl]
   rw [e1]
   exact hf.isW hw hn (by decide)
end
end Rb

namespace Rb
open Go
theorem Few.field {kw : List UInt8 → Bool} {val : List UInt8 → Int} {ty : Int → PSt → GType × PSt} (h : ∀ d s, Sub s (ty d s).2) {n : Nat} {d : Int} {s : PSt} (hf : Few (n + 1) s) (hw : Wf s) : Few n (fieldM kw val ty d s).2 := by
 have h1 : Few n (if s.isW [95] = true then s.isA [95] else (s.isA [95]).nameS kw) := by
  cases ho : s.isW [95] with
  | true =>
   rw [if_pos rfl]
   have e1 : s.isA [95] = s.adv := by unfold PSt.isA; rw [ho, if_pos rfl]
   rw [e1]; exact hf.isW hw ho (by decide)
  | false =>
   rw [if_neg (by decide)]
   have e1 : s.isA [95] = s := by unfold PSt.isA; rw [ho, if_neg (by decide)]
   rw [e1]
   unfold PSt.nameS
   split
   · rename_i hy
     refine hf.read hw fun e => ?_
     unfold PSt.nameW at hy
     rw [e] at hy
     simp [lettersM] at hy
   · exact .inl (PSt.fail_fk s (by decide))
 unfold fieldM
 dsimp only
 revert h1
 generalize (if s.isW [95] = true then s.isA [95] else (s.isA [95]).nameS kw) = s1
 generalize (if s.isW [95] = true then ([] : List UInt8) else (s.isA [95]).nameT kw) = nm
 intro h1
 split
 · exact (((h _ _).trans (Sub.want _ _)).trans ((Sub.num val _ _).trans (Sub.want _ _))).few h1
 · exact ((h _ _).trans (Sub.want _ _)).few h1
def z6 : List AV := [.int .i64 0, .int .i64 0, .bool false, .lst .nil 0 [], .int .i64 0, .lst .nil 0 []]
section
variable {Φ : Calls'} {kw : List UInt8 → Bool} {val : List UInt8 → Int}
theorem flds_loop (hT : Cl Φ S.tab_Lex) (hW : Wk Φ) (hkw : ∀ x, Val Φ K.f47 [.str x] (.bool (kw x))) (hv : NumV Φ val) {H0 : AH} {Q : Post} {id i1 i28 : Nat} {d k : Int} {pk : Bool} (hid : id < H0.n) (h1 : H0.n ≤ i1) (h28 : H0.n ≤ i28) (hne : i1 ≠ i28) :
  ∀ (n : Nat), (∀ m, m < n → TypOK Φ kw val m) → ∀ (H : AH) (s : PSt) (L : AV) (done : List GField), KeepP id H0 H → PS H id s → Wf s → Few n s → (s.fk ≠ 0 ∨ done.length + s.toks.length ≤ 2000001) →
  At H i1 (.row z6) → At H i28 (.row [.int .i64 k, .int .i64 0, .bool pk, L, .int .i64 0, .lst .nil 0 []]) → OwnT H0.n H 9 L done.length (done.flatMap GField.cells) →
  (∀ H', KeepP id H0 H' → PS H' id (fldsM kw val n d s).2 → Q (.agg (GType.cells ⟨k, 0, pk, done ++ (fldsM kw val n d s).1, 0, []⟩)) H') →
  LoopP (S.f21_l4 Φ (.ptr id 0) (.int .i64 d) (.ptr i1 0) (.ptr i28 0) fun v H' => Q v.weak H') ([], H) := by
 have fin : ∀ (H : AH) (s : PSt) (L : AV) (done : List GField), KeepP id H0 H → PS H id s → At H i1 (.row z6) → At H i28 (.row [.int .i64 k, .int .i64 0, .bool pk, L, .int .i64 0, .lst .nil 0 []]) → OwnT H0.n H 9 L done.length (done.flatMap GField.cells) →
   (∀ H', KeepP id H0 H' → PS H' id s → Q (.agg (GType.cells ⟨k, 0, pk, done, 0, []⟩)) H') → JoinP (S.f21_k2 Φ (.ptr i1 0) (.ptr i28 0) fun v H' => Q v.weak H') [] H := by
  intro H s L done kk p a1 a28 ow hq
  simp only [JoinP_def, S.f21_k2]
  rw [a28.load, takeCells_whole (n := 6) rfl]
  simp only [Do_of]
  have hsc : L.scalar = true := by obtain ⟨tk, rfl, _, _⟩ := ow; rfl
  rw [a1.store, if_pos ⟨rfl, rfl, by simp only [AV.cells, List.all_cons, hsc]; rfl, by decide⟩]
  simp only [Do_of, AV.cells]
  rw [setCells_all rfl, (a1.set _).load]
  simp only [List.take_zero, List.nil_append]
  rw [takeCells_whole (n := 6) rfl]
  simp only [Do_of]
  have hwk : L.weak = lstA GField.cells done := by
   have hs : AV.weaks (done.flatMap GField.cells) = done.flatMap GField.cells := by rw [← GField.all_eq]; exact GField.weaksA done
   rw [ow.weak hs]; rfl
  have := hq (H.set i1 (.row [.int .i64 k, .int .i64 0, .bool pk, L, .int .i64 0, .lst .nil 0 []])) (kk.setL h1 _) (p.setL (by omega) _)
  rw [GType.cells_eq] at this
  simp only [AV.weak, AV.weaks, hwk]
  exact this
 intro n
 induction n with
 | zero =>
  intro _ H s L done kk p w f _ a1 a28 ow hQ
  have hb := f.zero w
  refine LoopP.step ?_
  simp only [S.f21_l4]
  refine p_bad hT p ?_
  simp only [aun_not, Do_of, Gd3_true]
  rw [if_neg (by simpa using hb)]
  simp only [JoinP_def, S.f21_k3, sl_zero, Gd_true]
  rw [if_neg (by decide)]
  refine fin H s L done kk p a1 a28 ow fun H' k' p' => ?_
  have := hQ H' k' (by unfold fldsM; exact p')
  unfold fldsM at this
  rwa [List.append_nil] at this
 | succ n ih =>
  intro hty H s L done kk p w f hl a1 a28 ow hQ
  refine LoopP.step ?_
  simp only [S.f21_l4]
  refine p_bad hT p ?_
  simp only [aun_not, Do_of, Gd3_true]
  refine ite_both (fun hx => ?_) (fun hx => ?_)
  · have h0 : s.fk = 0 := by simpa using hx
    refine p_is hT p fun H1 k1 p1 => ?_
    have b1 := k1.2 _ _ (by omega) a1
    have b28 := k1.2 _ _ (by omega) a28
    have ow1 := ow.keep hid k1
    simp only [aun_not, Do_of, JoinP_def, S.f21_k3, sl_zero, Gd_true]
    refine ite_both (fun hy => ?_) (fun hy => ?_)
    · have hf : s.isW [125] = false := by simpa using hy
      have e1 : s.isA [125] = s := by unfold PSt.isA; rw [hf, if_neg (by decide)]
      rw [e1] at p1
      have em : fldsM kw val (n + 1) d s = ((fieldM kw val (fun d s => typM kw val n d s) d s).1 :: (fldsM kw val n d (fieldM kw val (fun d s => typM kw val n d s) d s).2).1, (fldsM kw val n d (fieldM kw val (fun d s => typM kw val n d s) d s).2).2) := by
       conv => lhs; unfold fldsM
       rw [if_neg (by simpa using h0), hf, if_neg (by decide)]
      rw [em] at hQ
      simp only [S.f21_k1, afaddr, Do_of, Nat.zero_add]
      have hld : ∀ {H : AH} {L : AV}, At H i28 (.row [.int .i64 k, .int .i64 0, .bool pk, L, .int .i64 0, .lst .nil 0 []]) → aload H 1 false (.ptr i28 3) = some L := fun h => by rw [h.load]; rfl
      rw [hld b28]
      simp only [Do_of]
      refine p_field hT hW hkw hv (hty n (Nat.lt_succ_self n)) p1 w f fun H2 k2 p2 => ?_
      have c1 := k2.2 _ _ (by omega) b1
      have c28 := k2.2 _ _ (by omega) b28
      have ow2 := ow1.keep hid k2
      have hsub := Sub.field kw val (Sub.typ kw val n) d s
      have hfew : ∀ m, Few (m + 1) s → Few m (fieldM kw val (fun d s => typM kw val n d s) d s).2 := fun m hm => Few.field (Sub.typ kw val n) hm w
      generalize fieldM kw val (fun d s => typM kw val n d s) d s = fd at hQ p2 hsub hfew
      refine ⟨hld c28, ?_⟩
      have hlen : done.length + s.toks.length ≤ 2000001 := by
       rcases hl with hl | hl
       · exact absurd h0 hl
       · exact hl
      have epos : 0 < s.toks.length := List.length_pos_iff.2 w.ne
      have hbs : abslice H2 false 9 1 [.str [], .int .i64 0, .int .i64 0, .bool false, .lst .nil 0 [], .int .i64 0, .lst .nil 0 [], .bool false, .int .i64 0] [(0, 9, .agg fd.1.cells)] = some (.lst .full 1 fd.1.cells, H2) := by
       have hfl := GField.len fd.1
       simp only [abslice, fillA, AV.known, AV.cells, hfl]
       rw [if_pos (by simp)]
       rw [setCells_all (by rw [hfl]; rfl)]
       rfl
      rw [hbs]
      simp only [DoH_some]
      refine ow2.app (Nat.le_trans kk.1 (Nat.le_trans k1.1 k2.1)) (m := 1) (news := fd.1.cells) (by simp [acells, GField.len]) (by rw [GField.len]) (GField.scalar _) (by decide) (by omega) (by omega) fun x' H3 ow3 l3 => ?_
      have d1 := l3.row c1
      have d28 := l3.row c28
      have hsx : x'.scalar = true := by obtain ⟨tk, rfl, _, _⟩ := ow3; rfl
      have hcx : x'.cells = [x'] := by obtain ⟨tk, rfl, _, _⟩ := ow3; rfl
      have hkx : x'.known = true := by obtain ⟨tk, rfl, _, _⟩ := ow3; rfl
      rw [d28.store, if_pos ⟨hkx, by rw [hcx]; rfl, by rw [hcx]; simp [hsx], by simp⟩, hcx]
      simp only [Do_of]
      have er : setCells [.int .i64 k, .int .i64 0, .bool pk, L, .int .i64 0, .lst .nil 0 []] 3 [x'] = [.int .i64 k, .int .i64 0, .bool pk, x', .int .i64 0, .lst .nil 0 []] := rfl
      rw [er]
      refine ih (fun m hm => hty m (Nat.lt_succ_of_lt hm)) _ fd.2 x' (done ++ [fd.1]) ((((kk.trans k1).trans k2).left l3).setL h28 _) ((p2.left l3).setL (by omega) _) (hsub.1 w) (hfew n f) ?_ (d1.set_ne hne _) (d28.set _) ?_ fun H' k' p' => ?_
      · have := hfew (s.toks.length - 1) (.inr (by omega))
        rcases this with h | h
        · exact .inl h
        · exact .inr (by rw [List.length_append, List.length_singleton]; omega)
      · have : OwnT H0.n H3 9 x' (done ++ [fd.1]).length ((done ++ [fd.1]).flatMap GField.cells) := by
          rw [List.length_append, List.length_singleton, List.flatMap_append]
          simpa using ow3
        exact this.frame fun t a b ht => ht.set_ne (fun e => by subst e; have := ht.2.symm.trans d28.2; cases this) _
      · have := hQ H' k' p'
        rw [List.append_assoc]
        exact this
    · have hf : s.isW [125] = true := by simpa using hy
      have e1 : s.isA [125] = s.adv := by unfold PSt.isA; rw [hf, if_pos rfl]
      rw [e1] at p1
      have em : fldsM kw val (n + 1) d s = ([], s.adv) := by
       unfold fldsM
       rw [if_neg (by simpa using h0), hf, if_pos rfl]
      rw [em] at hQ
      refine fin H1 s.adv L done (kk.trans k1) p1 b1 b28 ow1 fun H' k' p' => ?_
      have := hQ H' k' p'
      rwa [List.append_nil] at this
  · have h0 : s.fk ≠ 0 := by simpa using hx
    have em : fldsM kw val (n + 1) d s = ([], s) := by
     unfold fldsM
     rw [if_pos h0]
    rw [em] at hQ
    simp only [JoinP_def, S.f21_k3, sl_zero, Gd_true]
    rw [if_neg (by decide)]
    refine fin H s L done kk p a1 a28 ow fun H' k' p' => ?_
    have := hQ H' k' p'
    rwa [List.append_nil] at this
end
end Rb

namespace Rb
open Go
theorem kind_hd {w : List UInt8} (h : kindM w ≠ 0) : w ≠ [] := fun e => h (by rw [e]; decide)
section
variable {Φ : Calls'} {kw : List UInt8 → Bool} {val : List UInt8 → Int}
theorem p_typ (hT : Cl Φ S.tab_Lex) (hW : Wk Φ) (hkw : ∀ x, Val Φ K.f47 [.str x] (.bool (kw x))) (hv : NumV Φ val) : ∀ n, TypOK Φ kw val n := by
 intro n
 induction n using Nat.strongRecOn with
 | ind n ih =>
 intro H Q id s d p w f hQ
 refine hW _ _ _ _ (S.cl_f21 hT ?_)
 unfold S.f21
 have hid := lt_of_ps p
 have ez : ([.int .i64 0, .int .i64 0, .bool false, .lst .nil 0 [], .int .i64 0, .lst .nil 0 []] : List AV) = z6 := rfl
 rw [ez]
 simp only [abox, if_true, DoH_some]
 have p2 : PS (H.push (.row z6)) id s := p.pushL _
 have a1 : At (H.push (.row z6)) H.n (.row z6) := At.new H _
 have kk : KeepP id H (H.push (.row z6)) := KeepP.push id H _
 have ret : ∀ (ds : List AV) (t : GType) (s' : PSt) (H' : AH), KeepP id H H' → PS H' id s' → At H' H.n (.row z6) → AV.weaks ds = t.cells → ds.all AV.scalar = true → (∀ H', KeepP id H H' → PS H' id s' → Q (.agg t.cells) H') →
   Do (astore H' 6 (.ptr H.n 0) (.agg ds)) fun H'' => Do (aload H'' 6 true (.ptr H.n 0)) fun v => Q v.weak H'' := by
  intro ds t s' H' k' p' a' hds hsc hq
  have hl : ds.length = 6 := by rw [← weaks_len, hds, GType.len]
  rw [a'.store, if_pos ⟨rfl, hl, hsc, by decide⟩]
  simp only [Do_of, AV.cells]
  rw [setCells_all (by rw [hl]; rfl), (a'.set _).load]
  simp only [List.take_zero, List.nil_append]
  rw [takeCells_whole hl]
  simp only [Do_of, AV.weak, hds]
  exact hq _ (k'.setL (Nat.le_refl _) _) (p'.setL (by omega) _)
 have bz : abuild z6 [] = some (.agg z6) := rfl
 refine p_deep hT p2 fun H4 k4 p4 => ?_
 have b1 := k4.2 _ _ (by omega) a1
 have kb := kk.trans k4
 have sd := Sub.deep s d
 simp only [aun_not, Do_of, Gd_true, bz]
 have bad : ∀ s' : PSt, (typM kw val n d s) = (tyZ, s') → PS H4 id s' → Do (astore H4 6 (.ptr H.n 0) (.agg z6)) fun H7 => Do (aload H7 6 true (.ptr H.n 0)) fun x8 => Q x8.weak H7 := by
  intro s' e ps
  rw [e] at hQ
  exact ret z6 tyZ s' H4 kb ps b1 rfl rfl hQ
 cases n with
 | zero =>
  have hb := f.zero w
  have e : s.deep d = s := by
   unfold PSt.deep
   split
   · unfold PSt.fail; rw [if_neg hb]
   · rfl
  rw [e] at p4 ⊢
  rw [if_pos (by simpa using hb)]
  exact bad s (by unfold typM; rfl) p4
 | succ n =>
 have f1 := sd.few f
 have w1 := sd.1 w
 generalize es : s.deep d = s1 at p4 sd f1 w1
 refine ite_both (fun hx => ?_) (fun hx => ?_)
 · have hb : s1.fk ≠ 0 := by simpa using hx
   refine bad s1 ?_ p4
   unfold typM
   simp only [es]
   rw [if_pos hb]
 · have h0 : s1.fk = 0 := by simpa using hx
   refine p_peek hT p4 ?_
   refine p_scalar hT hW fun H12 g12 => ?_
   have k12 := g12.keep id
   have p12 := g12.ps p4
   have c1 := g12.2 _ _ b1
   have kc := kb.trans k12
   have hn12 : H.n < H12.n := Nat.lt_of_lt_of_le b1.1 g12.1
   simp only [aextract, List.getElem?_cons_zero, List.getElem?_cons_succ, Do_of, DoH_some]
   rw [store_new H12 z6 _ 6 (GType.len _) (GType.scalar _) rfl]
   simp only [Do_of]
   have p17 := p12.pushL (.row (scalarT s1.hd.1).cells)
   have d15 : At (H12.push (.row (scalarT s1.hd.1).cells)) H12.n (.row (scalarT s1.hd.1).cells) := At.new _ _
   have d1 := c1.push (.row (scalarT s1.hd.1).cells)
   have kd := kc.pushL (.row (scalarT s1.hd.1).cells)
   refine ite_both (fun hs => ?_) (fun hs => ?_)
   · obtain ⟨pr, hpr⟩ := Option.isSome_iff_exists.1 hs
     refine p_next hT p17 fun H19 k19 p19 => ?_
     have e15 := k19.2 _ _ (by omega) d15
     have e1 := k19.2 _ _ (by omega) d1
     rw [e15.load, takeCells_whole (GType.len _)]
     simp only [Do_of]
     have em : typM kw val (n + 1) d s = (scalarT s1.hd.1, s1.adv) := by
      unfold typM scalarT
      simp only [es, hpr]
      rw [if_neg (by simpa using h0)]
     rw [em] at hQ
     exact ret _ (scalarT s1.hd.1) s1.adv H19 (kd.trans k19) p19 e1 (GType.weaks _) (GType.scalar _) hQ
   · have hnone : scalarM s1.hd.1 = none := by simpa using hs
     refine p_peek hT p17 ?_
     refine p_kind hT ?_
     rw [show abuild z6 [(0, 1, .int .i64 (kindM s1.hd.1))] = some (.agg [.int .i64 (kindM s1.hd.1), .int .i64 0, .bool false, .lst .nil 0 [], .int .i64 0, .lst .nil 0 []]) from rfl]
     simp only [Do_of]
     have hn17 : (H12.push (.row (scalarT s1.hd.1).cells)).n = H12.n + 1 := rfl
     generalize H12.push (.row (scalarT s1.hd.1).cells) = H17 at p17 d15 d1 kd hn17
     rw [store_new H17 z6 _ 6 rfl rfl rfl]
     simp only [Do_of]
     have kz : ∀ k : Int, ∃ r : List AV, r = [.int .i64 k, .int .i64 0, .bool false, .lst .nil 0 [], .int .i64 0, .lst .nil 0 []] := fun k => ⟨_, rfl⟩
     obtain ⟨r, hr⟩ := kz (kindM s1.hd.1)
     rw [← hr]
     have p30 := p17.pushL (.row r)
     have g28 : At (H17.push (.row r)) H17.n (.row r) := At.new _ _
     have g1 := d1.push (.row r)
     have ke := kd.pushL (.row r)
     simp only [afaddr, Do_of, Nat.zero_add]
     have hld0 : aload (H17.push (.row r)) 1 false (.ptr H17.n 0) = some (.int .i64 (kindM s1.hd.1)) := by rw [g28.load, hr]; rfl
     rw [hld0]
     simp only [Do_of, abin_eql]
     generalize H17.push (.row r) = H30 at p30 g28 g1 ke
     refine ite_both (fun hk0 => ?_) (fun hk0 => ?_)
     · have hk : kindM s1.hd.1 = 0 := by simpa using hk0
       refine p_fail hT p30 fun H35 k35 p35 => ?_
       have em : typM kw val (n + 1) d s = (tyZ, s1.fail 4) := by
        unfold typM
        simp only [es, hnone]
        rw [if_neg (by simpa using h0), if_pos hk]
       rw [em] at hQ
       exact ret z6 tyZ (s1.fail 4) H35 (ke.trans k35) p35 (k35.2 _ _ (by omega) g1) rfl rfl hQ
     · have hk : kindM s1.hd.1 ≠ 0 := by simpa using hk0
       have f2 : Few n s1.adv := f1.read w1 (kind_hd hk)
       have w2 := w1.adv
       refine ite_both (fun hk5 => ?_) (fun hk5 => ?_)
       · have hk5' : kindM s1.hd.1 = 5 := by simpa using hk5
         refine p_next hT p30 fun H41 k41 p41 => ?_
         refine p_num hT hv p41 w2 fun H43 k43 p43 => ?_
         have i28 := k43.2 _ _ (by omega) (k41.2 _ _ (by omega) g28)
         have i1 := k43.2 _ _ (by omega) (k41.2 _ _ (by omega) g1)
         have kf := (ke.trans k41).trans k43
         have sn := Sub.num val s1.adv 1073741824
         have em : typM kw val (n + 1) d s = (⟨5, 0, false, [], x64 (s1.adv.num val 1073741824).1, [(typM kw val n (x64 (d + 1)) ((s1.adv.num val 1073741824).2.want [93])).1]⟩, (typM kw val n (x64 (d + 1)) ((s1.adv.num val 1073741824).2.want [93])).2) := by
          conv => lhs; unfold typM
          simp only [es, hnone]
          rw [if_neg (by simpa using h0), if_neg hk, if_pos hk5']
         rw [em] at hQ
         generalize s1.adv.num val 1073741824 = q at p43 hQ sn
         simp only [aconv_int, Do_of]
         rw [i28.store, if_pos ⟨rfl, rfl, rfl, by rw [hr]; simp⟩]
         simp only [Do_of, AV.cells]
         have er : setCells r 4 [.int .i64 (x64 q.1)] = [.int .i64 5, .int .i64 0, .bool false, .lst .nil 0 [], .int .i64 (x64 q.1), .lst .nil 0 []] := by rw [hr, hk5']; rfl
         rw [er]
         refine p_want hT (p43.setL (by omega) _) fun H48 k48 p48 => ?_
         have j28 := k48.2 _ _ (by omega) (i28.set (.row [.int .i64 5, .int .i64 0, .bool false, .lst .nil 0 [], .int .i64 (x64 q.1), .lst .nil 0 []]))
         have j1 := k48.2 _ _ (by omega) (i1.set_ne (i := H17.n) (by omega) (.row [.int .i64 5, .int .i64 0, .bool false, .lst .nil 0 [], .int .i64 (x64 q.1), .lst .nil 0 []]))
         have kg := (kf.setL (i := H17.n) (by omega) (.row [.int .i64 5, .int .i64 0, .bool false, .lst .nil 0 [], .int .i64 (x64 q.1), .lst .nil 0 []])).trans k48
         simp only [abin_add, Do_of]
         have sw := Sub.want q.2 [93]
         refine ih n (Nat.lt_succ_self n) _ _ _ _ _ p48 (sw.1 (sn.1 w2)) (sw.few (sn.few f2)) fun H51 k51 p51 => ?_
         generalize typM kw val n (x64 (d + 1)) (q.2.want [93]) = t at hQ p51
         have l28 := k51.2 _ _ (by omega) j28
         have l1 := k51.2 _ _ (by omega) j1
         have hbs : abslice H51 false 6 1 z6 [(0, 6, .agg t.1.cells)] = some (.lst .full 1 t.1.cells, H51) := by
          have hfl := GType.len t.1
          simp only [abslice, fillA, AV.known, AV.cells, hfl]
          rw [if_pos (by simp [z6])]
          rw [setCells_all (by rw [hfl]; rfl)]
          rfl
         rw [hbs]
         simp only [DoH_some]
         rw [l28.store, if_pos ⟨rfl, rfl, rfl, by simp⟩]
         simp only [Do_of, AV.cells]
         have er2 : setCells [.int .i64 5, .int .i64 0, .bool false, .lst .nil 0 [], .int .i64 (x64 q.1), .lst .nil 0 []] 5 [.lst .full 1 t.1.cells] = [.int .i64 5, .int .i64 0, .bool false, .lst .nil 0 [], .int .i64 (x64 q.1), .lst .full 1 t.1.cells] := rfl
         rw [er2, (l28.set _).load, takeCells_whole (n := 6) rfl]
         simp only [Do_of]
         refine ret _ ⟨5, 0, false, [], x64 q.1, [t.1]⟩ t.2 _ ((kg.trans k51).setL (by omega) _) (p51.setL (by omega) _) (l1.set_ne (by omega) _) ?_ rfl hQ
         rw [GType.cells_eq ⟨5, 0, false, [], x64 q.1, [t.1]⟩]
         simp only [AV.weaks, AV.weak, GType.weaks, lstA, List.flatMap_cons, List.flatMap_nil, List.append_nil, List.length_cons, List.length_nil]
       · have hk5' : kindM s1.hd.1 ≠ 5 := by simpa using hk5
         refine p_next hT p30 fun H60 k60 p60 => ?_
         refine p_is hT p60 fun H62 k62 p62 => ?_
         have i28 := k62.2 _ _ (by omega) (k60.2 _ _ (by omega) g28)
         have i1 := k62.2 _ _ (by omega) (k60.2 _ _ (by omega) g1)
         have kf := (ke.trans k60).trans k62
         have em : typM kw val (n + 1) d s = (⟨kindM s1.hd.1, 0, s1.adv.isW [112, 97, 99, 107, 101, 100], (fldsM kw val n d ((s1.adv.isA [112, 97, 99, 107, 101, 100]).want [123])).1, 0, []⟩, (fldsM kw val n d ((s1.adv.isA [112, 97, 99, 107, 101, 100]).want [123])).2) := by
          conv => lhs; unfold typM
          simp only [es, hnone]
          rw [if_neg (by simpa using h0), if_neg hk, if_neg hk5']
         rw [em] at hQ
         have sa := Sub.isA s1.adv [112, 97, 99, 107, 101, 100]
         rw [i28.store, if_pos ⟨rfl, rfl, rfl, by rw [hr]; simp⟩]
         simp only [Do_of, AV.cells]
         generalize s1.adv.isW [112, 97, 99, 107, 101, 100] = pk at hQ ⊢
         have er : setCells r 2 [.bool pk] = [.int .i64 (kindM s1.hd.1), .int .i64 0, .bool pk, .lst .nil 0 [], .int .i64 0, .lst .nil 0 []] := by rw [hr]; rfl
         rw [er]
         refine p_want hT (p62.setL (by omega) _) fun H68 k68 p68 => ?_
         have j28 := k68.2 _ _ (by omega) (i28.set (.row [.int .i64 (kindM s1.hd.1), .int .i64 0, .bool pk, .lst .nil 0 [], .int .i64 0, .lst .nil 0 []]))
         have j1 := k68.2 _ _ (by omega) (i1.set_ne (i := H17.n) (by omega) (.row [.int .i64 (kindM s1.hd.1), .int .i64 0, .bool pk, .lst .nil 0 [], .int .i64 0, .lst .nil 0 []]))
         have kg := (kf.setL (i := H17.n) (by omega) (.row [.int .i64 (kindM s1.hd.1), .int .i64 0, .bool pk, .lst .nil 0 [], .int .i64 0, .lst .nil 0 []])).trans k68
         have sw := Sub.want (s1.adv.isA [112, 97, 99, 107, 101, 100]) [123]
         exact flds_loop hT hW hkw hv hid (Nat.le_refl _) (by omega) (by omega) n (fun m hm => ih m (by omega)) H68 _ _ [] kg p68 (sw.1 (sa.1 w2)) (sw.few (sa.few f2)) (.inr (by have := p68.2.1; simp only [List.length_nil]; omega)) j1 j28 (OwnT.nil _ _ _) hQ
end
end Rb

namespace Rb
open Go
section
variable {Φ : Calls'} {kw : List UInt8 → Bool} {val : List UInt8 → Int}
end
end Rb

namespace Rb
open Go
section
variable {Φ : Calls'} {kw : List UInt8 → Bool} {val : List UInt8 → Int}
end
end Rb

namespace Rb
open Go
section
variable {Φ : Calls'} {kw : List UInt8 → Bool} {val : List UInt8 → Int}
end
end Rb

namespace Rb
open Go
section
variable {Φ : Calls'} {kw : List UInt8 → Bool} {val : List UInt8 → Int}
end
end Rb

namespace Rb
open Go
section
variable (kw : List UInt8 → Bool) (val : List UInt8 → Int)
theorem Sub.block {ss : Int → PSt → List GStmt × PSt} (h : ∀ d s, Sub s (ss d s).2) (d : Int) (s : PSt) : Sub s (blockF ss d s).2 := by
 unfold blockF
 dsimp only
 split
 · exact Sub.deep _ _
 · exact ((Sub.deep _ _).trans (Sub.want _ _)).trans (h _ _)
theorem Sub.value {ex : Int → PSt → GExpr × PSt} (h : ∀ d s, Sub s (ex d s).2) (d : Int) (s : PSt) : Sub s (valueF ex d s).2 := (Sub.want _ _).trans (h _ _)
theorem Sub.vars : ∀ (n : Nat) (s : PSt), Sub s (varsM kw val n s).2
 | 0, s => by unfold varsM; exact Sub.rfl s
 | n + 1, s => by
  unfold varsM
  split
  · exact ((((Sub.adv _).trans (Sub.nameS kw _)).trans (Sub.typ kw val n _ _)).trans (Sub.want _ _)).trans (Sub.vars n _)
  · exact Sub.rfl s
end
end Rb

namespace Rb
open Go
section
variable {Φ : Calls'} {kw : List UInt8 → Bool} {val : List UInt8 → Int}
end
end Rb

namespace Rb
open Go
def z10 (l : Int) : List AV := [.int .i64 0, .int .i64 l, .str [], .str [], .int .i64 0, .str [], .lst .nil 0 [], .lst .nil 0 [], .lst .nil 0 [], .lst .nil 0 []]
structure SF (H0 : AH) (id i1 i10 : Nat) (H : AH) (s : PSt) (r : List AV) : Prop where
 hid : id < H0.n
 h1 : H0.n ≤ i1
 h10 : H0.n ≤ i10
 ne : i1 ≠ i10
 len : r.length = 10
 kk : KeepP id H0 H
 ps : PS H id s
 a1 : At H i1 (.row (z10 0))
 a10 : At H i10 (.row r)
section
variable {H0 H : AH} {id i1 i10 : Nat} {s : PSt} {r : List AV}
theorem SF.call (h : SF H0 id i1 i10 H s r) {H' : AH} {s' : PSt} (k : KeepP id H H') (p : PS H' id s') : SF H0 id i1 i10 H' s' r :=
 ⟨h.hid, h.h1, h.h10, h.ne, h.len, h.kk.trans k, p, k.2 _ _ (by have := h.hid; have := h.h1; omega) h.a1, k.2 _ _ (by have := h.hid; have := h.h10; omega) h.a10⟩
theorem setCells_len : ∀ (ys xs : List AV) (o : Nat), (setCells xs o ys).length = xs.length
 | [], xs, o => rfl
 | y :: ys, xs, o => by rw [setCells, setCells_len ys, List.length_set]
theorem SF.put (h : SF H0 id i1 i10 H s r) {r' : List AV} (hl : r'.length = 10) : SF H0 id i1 i10 (H.set i10 (.row r')) s r' :=
 ⟨h.hid, h.h1, h.h10, h.ne, hl, h.kk.setL h.h10 _, h.ps.setL (by have := h.hid; have := h.h10; omega) _, h.a1.set_ne h.ne _, h.a10.set _⟩
theorem SF.store (h : SF H0 id i1 i10 H s r) {n o : Nat} {v : AV} (hk : v.known = true) (hl : v.cells.length = n) (hs : v.cells.all AV.scalar = true) (ho : o + n ≤ 10) {K : AH → Prop} (hK : ∀ H', SF H0 id i1 i10 H' s (setCells r o v.cells) → K H') : Do (astore H n (.ptr i10 o) v) K := by
 rw [h.a10.st hk hl hs (by rw [h.len]; exact ho)]
 exact ⟨_, rfl, hK _ (h.put (by rw [setCells_len, h.len]))⟩
theorem SF.ret1 (h : SF H0 id i1 i10 H s r) {x : GStmt} {ds : List AV} {Q : Post} (hr : AV.weaks ds = x.cells) (hs : ds.all AV.scalar = true) (hq : ∀ H', KeepP id H0 H' → PS H' id s → Q (.agg x.cells) H') :
  Do (astore H 10 (.ptr i1 0) (.agg ds)) fun H30 => Do (aload H30 10 true (.ptr i1 0)) fun x31 => Q x31.weak H30 := by
 have hl : ds.length = 10 := by rw [← weaks_len, hr, GStmt.len]
 rw [h.a1.st (n := 10) (o := 0) (v := .agg ds) rfl hl hs (by decide)]
 simp only [Do_of, AV.cells]
 rw [setCells_all (by rw [hl]; rfl), (h.a1.set _).load]
 simp only [List.take_zero, List.nil_append]
 rw [takeCells_whole hl]
 simp only [Do_of, AV.weak, hr]
 exact hq _ (h.kk.setL h.h1 _) (h.ps.setL (by have := h.hid; have := h.h1; omega) _)
theorem SF.ret (h : SF H0 id i1 i10 H s r) {x : GStmt} {Q : Post} (hr : AV.weaks r = x.cells) (hs : r.all AV.scalar = true) (hq : ∀ H', KeepP id H0 H' → PS H' id s → Q (.agg x.cells) H') :
  Do (aload H 10 true (.ptr i10 0)) fun x29 => Do (astore H 10 (.ptr i1 0) x29) fun H30 => Do (aload H30 10 true (.ptr i1 0)) fun x31 => Q x31.weak H30 := by
 rw [h.a10.load, takeCells_whole h.len]
 simp only [Do_of]
 exact h.ret1 hr hs hq
end
section
variable {Φ : Calls'} {kw : List UInt8 → Bool} {val : List UInt8 → Int}
end
end Rb

namespace Rb
open Go
section
variable {Φ : Calls'} {kw : List UInt8 → Bool} {val : List UInt8 → Int}
end
end Rb

namespace Rb
open Go
section
variable {Φ : Calls'} {kw : List UInt8 → Bool} {val : List UInt8 → Int}
end
end Rb

namespace Rb
open Go
theorem toks_word {num : List UInt8 → Bool} : ∀ (n : Nat) (s : List UInt8) (line : Int) (ws : List (List UInt8 × Int)), toks num n s line = .ok ws → ∀ w ∈ ws, w.1.length ≤ s.length := by
 intro n
 induction n with
 | zero => intro s line ws h w hw; rw [toks] at h; cases h; cases hw
 | succ n ih =>
  intro s line ws h w hw
  cases s with
  | nil => rw [toks] at h; cases h; cases hw
  | cons x r =>
   rw [toks] at h
   split at h
   · have := ih _ _ _ h w hw
     simp only [List.length_cons]; omega
   · split at h
     · have := ih _ _ _ h w hw
       simp only [List.length_cons]; omega
     · cases hk : wordM num (x :: r) with
       | none => rw [hk] at h; cases h
       | some k =>
        rw [hk] at h
        simp only at h
        cases ht : toks num n ((x :: r).drop k) line with
        | error l => rw [ht] at h; cases h
        | ok a =>
         rw [ht] at h
         cases h
         rcases List.mem_cons.1 hw with rfl | hw
         · show ((x :: r).take k).length ≤ _
           rw [List.length_take]; omega
         · have h1 := ih _ _ _ ht w hw
           have h2 : ((x :: r).drop k).length ≤ (x :: r).length := by rw [List.length_drop]; omega
           omega
def lastL (ws : List (List UInt8 × Int)) : Int := match ws.getLast? with
 | none => 0
 | some w => w.2
def beginM (ws : List (List UInt8 × Int)) : PSt := ⟨ws ++ [([], lastL ws)], 0, 0⟩
theorem begin_wf {num : List UInt8 → Bool} {s : List UInt8} {ws : List (List UInt8 × Int)} (h : lexM num s = .ok ws) : Wf (beginM ws) ∧ ws.length ≤ 1048576 := by
 have ht := lexM_ok h
 have hs : s.length ≤ 1048576 := by
  unfold lexM at h
  split at h
  · cases h
  · omega
 exact ⟨⟨ws, lastL ws, rfl, fun w hw => Nat.le_trans (toks_word _ _ _ _ ht w hw) hs⟩, Nat.le_trans (toks_count ht) hs⟩
section
variable {Φ : Calls'} {num : List UInt8 → Bool}
theorem p_begin (hT : Cl Φ S.tab_Lex) (htok : ∀ s, Val Φ K.f42 [.str s] (lexV2 (lexM num s))) {H : AH} {Q : Post} (s : List UInt8)
  (hQ : ∀ H', AH.Ext H H' → (match lexM num s with | .error e => Q (.tup [.nilp, .agg [.int .i64 e.1, .int .i64 e.2]]) H' | .ok ws => ∀ id, H.n ≤ id → PS H' id (beginM ws) → Q (.tup [.ptr id 0, .agg [.int .i64 0, .int .i64 0]]) H')) : Φ K.f18 [.str s] H Q := by
 refine S.cl_f18 hT ?_
 unfold S.f18
 simp only [abox, if_true, DoH_some]
 refine htok s _ _ ?_
 have hw : ∀ ws, lexM num s = .ok ws → lexV2 (lexM num s) = .tup [tokV (if ws = [] then .nil else .dead) ws, .agg [.int .i64 0, .int .i64 0]] := by
  intro ws h
  rw [h]
  cases ws with
  | nil => rfl
  | cons w r => rw [if_neg (by simp)]; rfl
 have a1 : At (H.push (.row [.int .i64 0, .int .i64 0])) H.n (.row [.int .i64 0, .int .i64 0]) := At.new H _
 have x1 : AH.Ext H (H.push (.row [.int .i64 0, .int .i64 0])) := AH.Ext.push H _
 have hn1 : (H.push (.row [.int .i64 0, .int .i64 0])).n = H.n + 1 := rfl
 generalize H.push (.row [.int .i64 0, .int .i64 0]) = H2 at a1 x1 hn1
 cases hM : lexM num s with
 | error e =>
  rw [hM] at hQ
  have hne : e.2 ≠ 0 := lexM_err hM
  simp only [lexV2, lexV, aextract, List.getElem?_cons_zero, List.getElem?_cons_succ, Do_of]
  rw [store_new H2 _ _ 2 rfl rfl rfl]
  have l1 : aload (H2.push (.row [.int .i64 e.1, .int .i64 e.2])) 1 false (.ptr H2.n 1) = some (.int .i64 e.2) := by rw [load_push]; rfl
  have l2 : aload (H2.push (.row [.int .i64 e.1, .int .i64 e.2])) 2 true (.ptr H2.n 0) = some (.agg [.int .i64 e.1, .int .i64 e.2]) := by rw [load_push]; rfl
  simp only [Do_of, afaddr, Nat.zero_add, l1, l2, abin_neq, Gd_true]
  rw [if_pos (by simpa using hne)]
  have b1 := a1.push (.row [.int .i64 e.1, .int .i64 e.2])
  rw [b1.store, if_pos ⟨rfl, rfl, rfl, by simp⟩]
  simp only [Do_of]
  rw [(b1.set _).load]
  refine (Do_of _ _).2 ?_
  exact hQ _ ((x1.trans (AH.Ext.push _ _)).set (Nat.le_refl _) _)
 | ok ws =>
  rw [hM] at hQ
  rw [← hM, hw ws hM]
  obtain ⟨hwf, hlen⟩ := begin_wf hM
  generalize htk : (if ws = [] then Tok.nil else Tok.dead) = tk
  simp only [aextract, List.getElem?_cons_zero, List.getElem?_cons_succ, Do_of]
  rw [store_new H2 _ _ 2 rfl rfl rfl]
  have l1 : aload (H2.push (.row [.int .i64 0, .int .i64 0])) 1 false (.ptr H2.n 1) = some (.int .i64 0) := by rw [load_push]; rfl
  simp only [Do_of, afaddr, Nat.zero_add, l1, abin_neq, Gd_true]
  rw [if_neg (by decide)]
  have b1 := a1.push (.row [.int .i64 0, .int .i64 0])
  have x2 := x1.trans (AH.Ext.push H2 (.row [.int .i64 0, .int .i64 0]))
  generalize H2.push (.row [.int .i64 0, .int .i64 0]) = H9 at b1 x2
  have k1 : JoinP (S.f18_k1 Φ (.ptr H.n 0) (tokV tk ws) Q) [.int .i64 (lastL ws)] H9 := by
   simp only [JoinP_def, S.f18_k1, tokV_len, Do_of, sl_zero]
   have hsl : ∃ x, aslice 2 (tokV tk ws) none (some (.int .i64 ws.length)) (some (.int .i64 ws.length)) = some x ∧ OwnT H9.n H9 2 x ws.length (ws.flatMap tokC) := by
    cases ws with
    | nil =>
     rw [if_pos rfl] at htk
     subst htk
     exact ⟨.lst .nil 0 [], rfl, OwnT.nil _ _ _⟩
    | cons w r =>
     rw [if_neg (by simp)] at htk
     subst htk
     refine ⟨.lst .full (w :: r).length ((w :: r).flatMap tokC), ?_, .full, rfl, flatMap_len tokC_len _, .inr (.inl rfl)⟩
     have hb : ∀ z, abound (some (.int .i64 ((w :: r).length : Nat))) z = some (w :: r).length := by
      intro z
      simp only [abound]
      rw [if_pos (by omega)]
      simp
     have hb0 : abound none 0 = some 0 := rfl
     unfold tokV aslice
     simp only [hb, hb0, Option.map_some]
     rw [if_neg (by rintro ⟨h, _⟩; simp at h), if_pos ⟨Nat.zero_le _, Nat.le_refl _, Nat.le_refl _, flatMap_len tokC_len _, by decide, by simp⟩]
     rw [if_pos (by simp), Nat.sub_zero, Nat.zero_mul, List.drop_zero, List.take_of_length_le (by rw [flatMap_len tokC_len]; exact Nat.le_refl _)]
   obtain ⟨x, hx, own⟩ := hsl
   rw [hx]
   simp only [Do_of]
   rw [show abuild [.str [], .int .i64 0] [(1, 1, .int .i64 (lastL ws))] = some (.agg (tokC ([], lastL ws))) from rfl]
   simp only [Do_of]
   rw [show abslice H9 false 2 1 [.str [], .int .i64 0] [(0, 2, .agg (tokC ([], lastL ws)))] = some (.lst .full 1 (tokC ([], lastL ws)), H9) from rfl]
   simp only [DoH_some]
   refine own.app (Nat.le_refl _) (m := 1) (news := tokC ([], lastL ws)) rfl rfl rfl (by decide) (by omega) (by omega) fun x' H3 ow3 l3 => ?_
   have c1 := l3.row b1
   obtain ⟨tk', rfl, hcl, _⟩ := ow3
   rw [show abuild [.lst .nil 0 [], .int .i64 0, .int .i64 0] [(0, 1, .lst tk' (ws.length + 1) (ws.flatMap tokC ++ tokC ([], lastL ws)))] = some (.agg [.lst tk' (ws.length + 1) (ws.flatMap tokC ++ tokC ([], lastL ws)), .int .i64 0, .int .i64 0]) from rfl]
   simp only [Do_of]
   rw [show aboxv H3 true 3 (.agg [.lst tk' (ws.length + 1) (ws.flatMap tokC ++ tokC ([], lastL ws)), .int .i64 0, .int .i64 0]) = some (.ptr H3.n 0, H3.push (.row [.lst tk' (ws.length + 1) (ws.flatMap tokC ++ tokC ([], lastL ws)), .int .i64 0, .int .i64 0])) from rfl]
   simp only [DoH_some]
   rw [show abuild [.int .i64 0, .int .i64 0] [] = some (.agg [.int .i64 0, .int .i64 0]) from rfl]
   have c2 := c1.push (.row [.lst tk' (ws.length + 1) (ws.flatMap tokC ++ tokC ([], lastL ws)), .int .i64 0, .int .i64 0])
   have c3 := At.new H3 (.row [.lst tk' (ws.length + 1) (ws.flatMap tokC ++ tokC ([], lastL ws)), .int .i64 0, .int .i64 0])
   simp only [Do_of]
   rw [c2.store, if_pos ⟨rfl, rfl, rfl, by simp⟩]
   simp only [Do_of]
   rw [(c2.set _).load]
   refine (Do_of _ _).2 ?_
   have hlt : H.n < H3.n := Nat.lt_of_lt_of_le b1.1 l3.1
   refine hQ _ ?_ H3.n (by omega) ⟨hwf.ne, by show (ws ++ _).length ≤ _; rw [List.length_append, List.length_singleton]; omega, tk', ?_⟩
   · have e3 : AH.Ext H H3 := ⟨Nat.le_trans x2.1 l3.1, fun i hi => ((l3.2 i _ ⟨Nat.lt_of_lt_of_le hi x2.1, x2.2 i hi⟩ (.inl (Nat.lt_of_lt_of_le hi x2.1))).2)⟩
     exact (e3.trans (AH.Ext.push _ _)).set (Nat.le_refl _) _
   · have := c3.set_ne (i := H.n) (by omega) (.row (setCells [AV.int .i64 0, .int .i64 0] 0 (AV.agg [.int .i64 0, .int .i64 0]).cells))
     have e : tokV tk' (beginM ws).toks = .lst tk' (ws.length + 1) (ws.flatMap tokC ++ tokC ([], lastL ws)) := by
      unfold tokV beginM
      simp only [List.length_append, List.length_singleton, List.flatMap_append, List.flatMap_cons, List.flatMap_nil, List.append_nil]
     rw [e]; exact this
  simp only [tokV_len, Do_of, abin_gtr, Gd_true]
  refine ite_both (fun hx => ?_) (fun hx => ?_)
  · have hp : 0 < ws.length := by simp only [decide_eq_true_eq] at hx; omega
    have e0 : IntKind.wrap .i64 ((ws.length : Int) - 1) = ((ws.length - 1 : Nat) : Int) := by rw [wrap_i64 (by omega) (by omega)]; omega
    simp only [abin_sub, Do_of, e0]
    rw [tokV_addr (by omega)]
    have hg : ws[ws.length - 1]? = some (ws[ws.length - 1]'(by omega)) := List.getElem?_eq_getElem _
    have hl : lastL ws = (ws[ws.length - 1]'(by omega)).2 := by
     unfold lastL
     rw [List.getLast?_eq_getElem?, hg]
    simp only [Do_of, elA, afaddr, tok_line _ hg]
    rw [← hl]; exact k1
  · have hz : ws = [] := List.length_eq_zero_iff.1 (by simp only [decide_eq_true_eq] at hx; omega)
    subst hz
    exact k1
end
end Rb
