/- A part of the proof (part 4): see the last text. -/
import Derived.Test.YtbdhmikigkgoiaaDoorRb2
import Derived.Test.YtbdhmikigkgoiaaDoorRb3
import Derived.KernelRfl
import Derived.LaidLaws
import Derived.LaidHandle
import Derived.Lib.LaidU8
import Derived.Deep.DeepLaidRun
import Derived.Handed
import Derived.JoinedOf
import Derived.SevenTiedAt
import Derived.ProofKit
import Derived.Lib.Space
import Derived.ChangeArms
/- Functions in the small language, and what they mean. By spec.py. -/
set_option linter.unusedVariables false
namespace Rb.S
open Go

/-! rabbet/rabbetref06.inner -/
def rabbetref06_inner_k1 (Φ : Calls') (Q : Post) : List AV → AH → Prop := fun j29 H30 =>
 Gd (sl j29 0) true (
 Q (.int .i64 9) H30) (
 Q (.int .i64 0) H30)
def rabbetref06_inner_k2 (Φ : Calls') (x1 : AV) (Q : Post) : List AV → AH → Prop := fun j31 H32 =>
 Gd3 (sl j31 0) false (
 Do (afaddr 0 x1) fun x41 =>
 Do (aload H32 1 false x41) fun x42 =>
 Do (abin .eql x42 (.int .i64 2)) fun x43 =>
 Gd3 x43 true (
 Do (afaddr 1 x1) fun x44 =>
 Do (aload H32 1 false x44) fun x45 =>
Φ K.rabbetref06_size [x45, (.int .i64 16)] H32 fun x46 H47 =>
 Do (aun .not x46) fun x48 =>
 JoinP (rabbetref06_inner_k1 Φ Q) [x48] H47) (
 JoinP (rabbetref06_inner_k1 Φ Q) [(.bool false)] H32) (
 False)) (
 JoinP (rabbetref06_inner_k1 Φ Q) [(.bool true)] H32) (
 False)
def rabbetref06_inner_k3 (Φ : Calls') (x1 : AV) (Q : Post) : List AV → AH → Prop := fun j8 H9 =>
 Do (afaddr 0 x1) fun x33 =>
 Do (aload H9 1 false x33) fun x34 =>
 Do (abin .eql x34 (.int .i64 1)) fun x35 =>
 Gd3 x35 true (
 Do (afaddr 1 x1) fun x36 =>
 Do (aload H9 1 false x36) fun x37 =>
Φ K.rabbetref06_size [x37, (.int .i64 8)] H9 fun x38 H39 =>
 Do (aun .not x38) fun x40 =>
 JoinP (rabbetref06_inner_k2 Φ x1 Q) [x40] H39) (
 JoinP (rabbetref06_inner_k2 Φ x1 Q) [(.bool false)] H9) (
 False)
def rabbetref06_inner_k4 (Φ : Calls') (x1 : AV) (Q : Post) : List AV → AH → Prop := fun j10 H11 =>
 Gd (sl j10 0) true (
 Q (.int .i64 8) H11) (
 JoinP (rabbetref06_inner_k3 Φ x1 Q) [] H11)
def rabbetref06_inner_k5 (Φ : Calls') (x1 : AV) (Q : Post) : List AV → AH → Prop := fun j20 H21 =>
 Gd3 (sl j20 0) false (
 Do (afaddr 5 x1) fun x25 =>
 Do (aload H21 1 false x25) fun x26 =>
 Do (alen false x26) fun x27 =>
 Do (abin .gtr x27 (.int .i64 0)) fun x28 =>
 JoinP (rabbetref06_inner_k4 Φ x1 Q) [x28] H21) (
 JoinP (rabbetref06_inner_k4 Φ x1 Q) [(.bool true)] H21) (
 False)
def rabbetref06_inner_k6 (Φ : Calls') (x1 : AV) (Q : Post) : List AV → AH → Prop := fun j12 H13 =>
 Gd3 (sl j12 0) false (
 Do (afaddr 4 x1) fun x22 =>
 Do (aload H13 1 false x22) fun x23 =>
 Do (abin .neq x23 (.int .i64 0)) fun x24 =>
 JoinP (rabbetref06_inner_k5 Φ x1 Q) [x24] H13) (
 JoinP (rabbetref06_inner_k5 Φ x1 Q) [(.bool true)] H13) (
 False)
def rabbetref06_inner_k7 (Φ : Calls') (x1 : AV) (Q : Post) : List AV → AH → Prop := fun j71 H72 =>
 Do (afaddr 5 x1) fun x81 =>
 Do (aload H72 1 false x81) fun x82 =>
 Do (aiaddr none 6 x82 (.int .i64 0)) fun x83 =>
 Do (aload H72 6 true x83) fun x84 =>
Φ K.rabbetref06_inner [x84] H72 fun x85 H86 =>
 Q x85 H86
def rabbetref06_inner_k8 (Φ : Calls') (x1 : AV) (Q : Post) : List AV → AH → Prop := fun j73 H74 =>
 Gd (sl j73 0) true (
 Q (.int .i64 9) H74) (
 JoinP (rabbetref06_inner_k7 Φ x1 Q) [] H74)
def rabbetref06_inner_k9 (Φ : Calls') (x1 : AV) (Q : Post) : List AV → AH → Prop := fun j50 H51 =>
 Do (afaddr 4 x1) fun x75 =>
 Do (aload H51 1 false x75) fun x76 =>
 Do (abin .lss x76 (.int .i64 1)) fun x77 =>
 Gd3 x77 false (
 Do (afaddr 4 x1) fun x78 =>
 Do (aload H51 1 false x78) fun x79 =>
 Do (abin .gtr x79 (.int .i64 65536)) fun x80 =>
 JoinP (rabbetref06_inner_k8 Φ x1 Q) [x80] H51) (
 JoinP (rabbetref06_inner_k8 Φ x1 Q) [(.bool true)] H51) (
 False)
def rabbetref06_inner_k10 (Φ : Calls') (x1 : AV) (Q : Post) : List AV → AH → Prop := fun j52 H53 =>
 Gd (sl j52 0) true (
 Q (.int .i64 8) H53) (
 JoinP (rabbetref06_inner_k9 Φ x1 Q) [] H53)
def rabbetref06_inner_k11 (Φ : Calls') (x1 : AV) (Q : Post) : List AV → AH → Prop := fun j62 H63 =>
 Gd3 (sl j62 0) false (
 Do (afaddr 5 x1) fun x67 =>
 Do (aload H63 1 false x67) fun x68 =>
 Do (alen false x68) fun x69 =>
 Do (abin .neq x69 (.int .i64 1)) fun x70 =>
 JoinP (rabbetref06_inner_k10 Φ x1 Q) [x70] H63) (
 JoinP (rabbetref06_inner_k10 Φ x1 Q) [(.bool true)] H63) (
 False)
def rabbetref06_inner_k12 (Φ : Calls') (x1 : AV) (Q : Post) : List AV → AH → Prop := fun j54 H55 =>
 Gd3 (sl j54 0) false (
 Do (afaddr 1 x1) fun x64 =>
 Do (aload H55 1 false x64) fun x65 =>
 Do (abin .neq x65 (.int .i64 0)) fun x66 =>
 JoinP (rabbetref06_inner_k11 Φ x1 Q) [x66] H55) (
 JoinP (rabbetref06_inner_k11 Φ x1 Q) [(.bool true)] H55) (
 False)
def rabbetref06_inner_k13 (Φ : Calls') (s150 : List AV × AH) (L151 : (List AV × AH) → Prop) (Q : Post) : List AV → AH → Prop := fun j153 H154 =>
 Do (abin .add (sl s150.1 0) (.int .i64 1)) fun x168 =>
 L151 ([x168], H154)
def rabbetref06_inner_k14 (Φ : Calls') (s150 : List AV × AH) (L151 : (List AV × AH) → Prop) (Q : Post) : List AV → AH → Prop := fun j155 H156 =>
 Gd (sl j155 0) true (
 Q (.int .i64 7) H156) (
 JoinP (rabbetref06_inner_k13 Φ s150 L151 Q) [] H156)
def rabbetref06_inner_k15 (Φ : Calls') (s118 : List AV × AH) (L119 : (List AV × AH) → Prop) (Q : Post) : List AV → AH → Prop := fun j124 H125 =>
 Do (abin .add (sl s118.1 0) (.int .i64 1)) fun x214 =>
 L119 ([x214], H125)
def rabbetref06_inner_k16 (Φ : Calls') (s118 : List AV × AH) (L119 : (List AV × AH) → Prop) (Q : Post) : List AV → AH → Prop := fun j194 H195 =>
 Gd (sl j194 0) true (
 Q (.int .i64 9) H195) (
 JoinP (rabbetref06_inner_k15 Φ s118 L119 Q) [] H195)
def rabbetref06_inner_k17 (Φ : Calls') (x130 : AV) (s118 : List AV × AH) (L119 : (List AV × AH) → Prop) (Q : Post) : List AV → AH → Prop := fun j174 H175 =>
 Do (afaddr 7 x130) fun x196 =>
 Do (aload H175 1 false x196) fun x197 =>
 Gd3 x197 true (
 Do (afaddr 8 x130) fun x198 =>
 Do (aload H175 1 false x198) fun x199 =>
 Do (abin .lss x199 (.int .i64 0)) fun x200 =>
 Gd3 x200 false (
 Do (afaddr 8 x130) fun x201 =>
 Do (aload H175 1 false x201) fun x202 =>
 Do (afaddr 1 x130) fun x203 =>
 Do (afaddr 1 x203) fun x204 =>
 Do (aload H175 1 false x204) fun x205 =>
 Do (abin .mul (.int .i64 8) x205) fun x206 =>
 Do (abin .gtr x202 x206) fun x207 =>
 Gd3 x207 false (
 Do (afaddr 8 x130) fun x208 =>
 Do (aload H175 1 false x208) fun x209 =>
 Do (abin .eql x209 (.int .i64 0)) fun x210 =>
 Gd3 x210 true (
 Do (afaddr 0 x130) fun x211 =>
 Do (aload H175 1 false x211) fun x212 =>
 Do (abin .neq x212 (.str [])) fun x213 =>
 JoinP (rabbetref06_inner_k16 Φ s118 L119 Q) [x213] H175) (
 JoinP (rabbetref06_inner_k16 Φ s118 L119 Q) [(.bool false)] H175) (
 False)) (
 JoinP (rabbetref06_inner_k16 Φ s118 L119 Q) [(.bool true)] H175) (
 False)) (
 JoinP (rabbetref06_inner_k16 Φ s118 L119 Q) [(.bool true)] H175) (
 False)) (
 JoinP (rabbetref06_inner_k16 Φ s118 L119 Q) [(.bool false)] H175) (
 False)
def rabbetref06_inner_k18 (Φ : Calls') (x130 : AV) (s118 : List AV × AH) (L119 : (List AV × AH) → Prop) (Q : Post) : List AV → AH → Prop := fun j176 H177 =>
 Gd (sl j176 0) true (
 Q (.int .i64 8) H177) (
 JoinP (rabbetref06_inner_k17 Φ x130 s118 L119 Q) [] H177)
def rabbetref06_inner_k19 (Φ : Calls') (x1 : AV) (x130 : AV) (s118 : List AV × AH) (L119 : (List AV × AH) → Prop) (Q : Post) : List AV → AH → Prop := fun j178 H179 =>
 Gd3 (sl j178 0) false (
 Do (afaddr 7 x130) fun x186 =>
 Do (aload H179 1 false x186) fun x187 =>
 Gd3 x187 true (
 Do (afaddr 2 x1) fun x188 =>
 Do (aload H179 1 false x188) fun x189 =>
 Gd3 x189 false (
 Do (afaddr 1 x130) fun x190 =>
 Do (afaddr 0 x190) fun x191 =>
 Do (aload H179 1 false x191) fun x192 =>
 Do (abin .neq x192 (.int .i64 1)) fun x193 =>
 JoinP (rabbetref06_inner_k18 Φ x130 s118 L119 Q) [x193] H179) (
 JoinP (rabbetref06_inner_k18 Φ x130 s118 L119 Q) [(.bool true)] H179) (
 False)) (
 JoinP (rabbetref06_inner_k18 Φ x130 s118 L119 Q) [(.bool false)] H179) (
 False)) (
 JoinP (rabbetref06_inner_k18 Φ x130 s118 L119 Q) [(.bool true)] H179) (
 False)
def rabbetref06_inner_k20 (Φ : Calls') (x1 : AV) (x130 : AV) (s118 : List AV × AH) (L119 : (List AV × AH) → Prop) (Q : Post) : List AV → AH → Prop := fun j148 H149 =>
 Do (afaddr 1 x130) fun x169 =>
 Do (aload H149 6 true x169) fun x170 =>
Φ K.rabbetref06_inner [x170] H149 fun x171 H172 =>
 Do (abin .neq x171 (.int .i64 0)) fun x173 =>
 Gd x173 true (
 Q x171 H172) (
 Do (afaddr 7 x130) fun x180 =>
 Do (aload H172 1 false x180) fun x181 =>
 Do (aun .not x181) fun x182 =>
 Gd3 x182 true (
 Do (afaddr 8 x130) fun x183 =>
 Do (aload H172 1 false x183) fun x184 =>
 Do (abin .neq x184 (.int .i64 0)) fun x185 =>
 JoinP (rabbetref06_inner_k19 Φ x1 x130 s118 L119 Q) [x185] H172) (
 JoinP (rabbetref06_inner_k19 Φ x1 x130 s118 L119 Q) [(.bool false)] H172) (
 False))
def rabbetref06_inner_l21 (Φ : Calls') (x1 : AV) (x130 : AV) (s118 : List AV × AH) (L119 : (List AV × AH) → Prop) (Q : Post) : (List AV × AH) → ((List AV × AH) → Prop) → Prop := fun s150 L151 =>
 Do (abin .lss (sl s150.1 0) (sl s118.1 0)) fun x152 =>
 Gd x152 true (
 Do (afaddr 0 x130) fun x157 =>
 Do (aload s150.2 1 false x157) fun x158 =>
 Do (abin .neq x158 (.str [])) fun x159 =>
 Gd3 x159 true (
 Do (afaddr 3 x1) fun x160 =>
 Do (aload s150.2 1 false x160) fun x161 =>
 Do (aiaddr none 9 x161 (sl s150.1 0)) fun x162 =>
 Do (afaddr 0 x162) fun x163 =>
 Do (aload s150.2 1 false x163) fun x164 =>
 Do (afaddr 0 x130) fun x165 =>
 Do (aload s150.2 1 false x165) fun x166 =>
 Do (abin .eql x164 x166) fun x167 =>
 JoinP (rabbetref06_inner_k14 Φ s150 L151 Q) [x167] s150.2) (
 JoinP (rabbetref06_inner_k14 Φ s150 L151 Q) [(.bool false)] s150.2) (
 False)) (
 JoinP (rabbetref06_inner_k20 Φ x1 x130 s118 L119 Q) [] s150.2)
def rabbetref06_inner_k22 (Φ : Calls') (x1 : AV) (x130 : AV) (s118 : List AV × AH) (L119 : (List AV × AH) → Prop) (Q : Post) : List AV → AH → Prop := fun j133 H134 =>
 LoopP (rabbetref06_inner_l21 Φ x1 x130 s118 L119 Q) ([(.int .i64 0)], H134)
def rabbetref06_inner_k23 (Φ : Calls') (x1 : AV) (x130 : AV) (s118 : List AV × AH) (L119 : (List AV × AH) → Prop) (Q : Post) : List AV → AH → Prop := fun j135 H136 =>
 Gd (sl j135 0) true (
 Q (.int .i64 6) H136) (
 JoinP (rabbetref06_inner_k22 Φ x1 x130 s118 L119 Q) [] H136)
def rabbetref06_inner_l24 (Φ : Calls') (x1 : AV) (Q : Post) : (List AV × AH) → ((List AV × AH) → Prop) → Prop := fun s118 L119 =>
 Do (afaddr 3 x1) fun x120 =>
 Do (aload s118.2 1 false x120) fun x121 =>
 Do (alen false x121) fun x122 =>
 Do (abin .lss (sl s118.1 0) x122) fun x123 =>
 Gd x123 true (
 Do (afaddr 3 x1) fun x126 =>
 Do (aload s118.2 1 false x126) fun x127 =>
 Do (aiaddr none 9 x127 (sl s118.1 0)) fun x128 =>
 Do (aload s118.2 9 true x128) fun x129 =>
 DoH (some (abox s118.2 true [.str [], .int .i64 0, .int .i64 0, .bool false, .lst .nil 0 [], .int .i64 0, .lst .nil 0 [], .bool false, .int .i64 0])) fun x130 H131 =>
 Do (astore H131 9 x130 x129) fun H132 =>
 Do (afaddr 0 x130) fun x137 =>
 Do (aload H132 1 false x137) fun x138 =>
Φ K.rabbetref06_Name [x138] H132 fun x139 H140 =>
 Do (aun .not x139) fun x141 =>
 Gd3 x141 true (
 Do (afaddr 0 x130) fun x142 =>
 Do (aload H140 1 false x142) fun x143 =>
 Do (abin .eql x143 (.str [])) fun x144 =>
 Gd3 x144 true (
 Do (afaddr 7 x130) fun x145 =>
 Do (aload H140 1 false x145) fun x146 =>
 Do (aun .not x146) fun x147 =>
 JoinP (rabbetref06_inner_k23 Φ x1 x130 s118 L119 Q) [x147] H140) (
 Do (aun .not (.bool false)) fun x215 =>
 JoinP (rabbetref06_inner_k23 Φ x1 x130 s118 L119 Q) [x215] H140) (
 False)) (
 JoinP (rabbetref06_inner_k23 Φ x1 x130 s118 L119 Q) [(.bool false)] H140) (
 False)) (
 Q (.int .i64 0) s118.2)
def rabbetref06_inner_k25 (Φ : Calls') (x1 : AV) (Q : Post) : List AV → AH → Prop := fun j106 H107 =>
 LoopP (rabbetref06_inner_l24 Φ x1 Q) ([(.int .i64 0)], H107)
def rabbetref06_inner_k26 (Φ : Calls') (x1 : AV) (Q : Post) : List AV → AH → Prop := fun j108 H109 =>
 Gd (sl j108 0) true (
 Q (.int .i64 12) H109) (
 JoinP (rabbetref06_inner_k25 Φ x1 Q) [] H109)
def rabbetref06_inner_k27 (Φ : Calls') (x1 : AV) (Q : Post) : List AV → AH → Prop := fun j90 H91 =>
 Do (afaddr 3 x1) fun x110 =>
 Do (aload H91 1 false x110) fun x111 =>
 Do (alen false x111) fun x112 =>
 Do (abin .eql x112 (.int .i64 0)) fun x113 =>
 Gd3 x113 false (
 Do (afaddr 3 x1) fun x114 =>
 Do (aload H91 1 false x114) fun x115 =>
 Do (alen false x115) fun x116 =>
 Do (abin .gtr x116 (.int .i64 32)) fun x117 =>
 JoinP (rabbetref06_inner_k26 Φ x1 Q) [x117] H91) (
 JoinP (rabbetref06_inner_k26 Φ x1 Q) [(.bool true)] H91) (
 False)
def rabbetref06_inner_k28 (Φ : Calls') (x1 : AV) (Q : Post) : List AV → AH → Prop := fun j92 H93 =>
 Gd (sl j92 0) true (
 Q (.int .i64 8) H93) (
 JoinP (rabbetref06_inner_k27 Φ x1 Q) [] H93)
def rabbetref06_inner_k29 (Φ : Calls') (x1 : AV) (Q : Post) : List AV → AH → Prop := fun j94 H95 =>
 Gd3 (sl j94 0) false (
 Do (afaddr 5 x1) fun x102 =>
 Do (aload H95 1 false x102) fun x103 =>
 Do (alen false x103) fun x104 =>
 Do (abin .gtr x104 (.int .i64 0)) fun x105 =>
 JoinP (rabbetref06_inner_k28 Φ x1 Q) [x105] H95) (
 JoinP (rabbetref06_inner_k28 Φ x1 Q) [(.bool true)] H95) (
 False)
def rabbetref06_inner_k30 (Φ : Calls') (x1 : AV) (Q : Post) : List AV → AH → Prop := fun j87 H88 =>
 Gd (sl j87 0) true (
 Do (afaddr 1 x1) fun x96 =>
 Do (aload H88 1 false x96) fun x97 =>
 Do (abin .neq x97 (.int .i64 0)) fun x98 =>
 Gd3 x98 false (
 Do (afaddr 4 x1) fun x99 =>
 Do (aload H88 1 false x99) fun x100 =>
 Do (abin .neq x100 (.int .i64 0)) fun x101 =>
 JoinP (rabbetref06_inner_k29 Φ x1 Q) [x101] H88) (
 JoinP (rabbetref06_inner_k29 Φ x1 Q) [(.bool true)] H88) (
 False)) (
 Q (.int .i64 8) H88)
def rabbetref06_inner_k31 (Φ : Calls') (x1 : AV) (x4 : AV) (Q : Post) : List AV → AH → Prop := fun j5 H6 =>
 Gd (sl j5 0) true (
 Do (afaddr 2 x1) fun x14 =>
 Do (aload H6 1 false x14) fun x15 =>
 Gd3 x15 false (
 Do (afaddr 3 x1) fun x16 =>
 Do (aload H6 1 false x16) fun x17 =>
 Do (alen false x17) fun x18 =>
 Do (abin .gtr x18 (.int .i64 0)) fun x19 =>
 JoinP (rabbetref06_inner_k6 Φ x1 Q) [x19] H6) (
 JoinP (rabbetref06_inner_k6 Φ x1 Q) [(.bool true)] H6) (
 False)) (
 Do (abin .eql x4 (.int .i64 5)) fun x49 =>
 Gd x49 true (
 Do (afaddr 2 x1) fun x56 =>
 Do (aload H6 1 false x56) fun x57 =>
 Gd3 x57 false (
 Do (afaddr 3 x1) fun x58 =>
 Do (aload H6 1 false x58) fun x59 =>
 Do (alen false x59) fun x60 =>
 Do (abin .gtr x60 (.int .i64 0)) fun x61 =>
 JoinP (rabbetref06_inner_k12 Φ x1 Q) [x61] H6) (
 JoinP (rabbetref06_inner_k12 Φ x1 Q) [(.bool true)] H6) (
 False)) (
 Do (abin .eql x4 (.int .i64 3)) fun x89 =>
 Gd x89 true (
 JoinP (rabbetref06_inner_k30 Φ x1 Q) [x89] H6) (
 Do (abin .eql x4 (.int .i64 4)) fun x216 =>
 JoinP (rabbetref06_inner_k30 Φ x1 Q) [x216] H6)))
def rabbetref06_inner (Φ : Calls') (a0 : AV) (H : AH) (Q : Post) : Prop :=
 DoH (aboxv H false 6 a0) fun x1 H2 =>
 Do (afaddr 0 x1) fun x3 =>
 Do (aload H2 1 false x3) fun x4 =>
 Do (abin .eql x4 (.int .i64 1)) fun x7 =>
 Gd x7 true (
 JoinP (rabbetref06_inner_k31 Φ x1 x4 Q) [x7] H2) (
 Do (abin .eql x4 (.int .i64 2)) fun x217 =>
 JoinP (rabbetref06_inner_k31 Φ x1 x4 Q) [x217] H2)
def ir_rabbetref06_inner : AFunc := ⟨211, [.tmp 2],
 .seq (.region [
   ⟨some 1, .box false 6 (.t 0), none⟩,
   ⟨some 2, .mv (.k (.int .i64 0)), none⟩])
 (.seq (.seq (.region [
   ⟨some 7, .faddr 0 (.t 1), none⟩,
   ⟨some 8, .load 1 false (.t 7), none⟩])
 (.block 0 (.join [9] [10, 11] (.seq (.region [
   ⟨some 10, .bin .eql (.t 8) (.k (.int .i64 1)), none⟩,
   ⟨some 9, .mv (.t 10), none⟩])
 (.cond (.t 9) (.skip)
   (.region [
     ⟨some 11, .bin .eql (.t 8) (.k (.int .i64 2)), none⟩,
     ⟨some 9, .mv (.t 11), none⟩])))
 (.cond (.t 9) (.join [] [2, 12, 13, 14, 15, 16, 17, 18, 19, 20, 21, 22, 23, 24, 25, 26, 27, 28, 29, 30] (.join [30] [12, 13, 14, 15, 16, 17, 18, 19, 20, 21, 22, 23, 24, 25, 26, 27, 28, 29] (.rjoin [19] [12, 13, 14, 15, 16, 17, 18] [
     ⟨some 12, .faddr 2 (.t 1), none⟩,
     ⟨some 13, .load 1 false (.t 12), none⟩,
     ⟨some 14, .mv (.t 13), none⟩,
     ⟨some 15, .faddr 3 (.t 1), some (14, false)⟩,
     ⟨some 16, .load 1 false (.t 15), some (14, false)⟩,
     ⟨some 17, .len false (.t 16), some (14, false)⟩,
     ⟨some 18, .bin .gtr (.t 17) (.k (.int .i64 0)), some (14, false)⟩,
     ⟨some 19, .pick (.t 14) (.k (.bool true)) (.t 18), none⟩]
   (.rjoin [24] [20, 21, 22, 23] [
     ⟨some 20, .mv (.t 19), none⟩,
     ⟨some 21, .faddr 4 (.t 1), some (20, false)⟩,
     ⟨some 22, .load 1 false (.t 21), some (20, false)⟩,
     ⟨some 23, .bin .neq (.t 22) (.k (.int .i64 0)), some (20, false)⟩,
     ⟨some 24, .pick (.t 20) (.k (.bool true)) (.t 23), none⟩]
   (.region [
     ⟨some 25, .mv (.t 24), none⟩,
     ⟨some 26, .faddr 5 (.t 1), some (25, false)⟩,
     ⟨some 27, .load 1 false (.t 26), some (25, false)⟩,
     ⟨some 28, .len false (.t 27), some (25, false)⟩,
     ⟨some 29, .bin .gtr (.t 28) (.k (.int .i64 0)), some (25, false)⟩,
     ⟨some 30, .pick (.t 25) (.k (.bool true)) (.t 29), none⟩])))
   (.cond (.t 30) (.seq (.region [
       ⟨some 2, .mv (.k (.int .i64 8)), none⟩])
     (.ret))
     (.skip)))
   (.seq (.join [50] [31, 32, 33, 34, 35, 36, 37, 38, 39, 40, 41, 42, 43, 44, 45, 46, 47, 48, 49] (.rjoin [39] [31, 32, 33, 34, 35, 36, 37, 38] [
     ⟨some 31, .faddr 0 (.t 1), none⟩,
     ⟨some 32, .load 1 false (.t 31), none⟩,
     ⟨some 33, .bin .eql (.t 32) (.k (.int .i64 1)), none⟩,
     ⟨some 34, .mv (.t 33), none⟩,
     ⟨some 35, .faddr 1 (.t 1), some (34, true)⟩,
     ⟨some 36, .load 1 false (.t 35), some (34, true)⟩,
     ⟨some 37, .call K.rabbetref06_size [(.t 36), (.k (.int .i64 8))], some (34, true)⟩,
     ⟨some 38, .un .not (.t 37), some (34, true)⟩,
     ⟨some 39, .pick (.t 34) (.t 38) (.k (.bool false)), none⟩]
   (.region [
     ⟨some 40, .mv (.t 39), none⟩,
     ⟨some 41, .faddr 0 (.t 1), some (40, false)⟩,
     ⟨some 42, .load 1 false (.t 41), some (40, false)⟩,
     ⟨some 43, .bin .eql (.t 42) (.k (.int .i64 2)), some (40, false)⟩,
     ⟨some 44, .mv (.t 43), some (40, false)⟩,
     ⟨some 45, .faddr 1 (.t 1), some (44, true)⟩,
     ⟨some 46, .load 1 false (.t 45), some (44, true)⟩,
     ⟨some 47, .call K.rabbetref06_size [(.t 46), (.k (.int .i64 16))], some (44, true)⟩,
     ⟨some 48, .un .not (.t 47), some (44, true)⟩,
     ⟨some 49, .pick (.t 44) (.t 48) (.k (.bool false)), some (40, false)⟩,
     ⟨some 50, .pick (.t 40) (.k (.bool true)) (.t 49), none⟩]))
   (.cond (.t 50) (.seq (.region [
       ⟨some 2, .mv (.k (.int .i64 9)), none⟩])
     (.ret))
     (.skip)))
   (.seq (.region [
     ⟨some 2, .mv (.k (.int .i64 0)), none⟩])
   (.ret))))
   (.seq (.region [
     ⟨some 52, .bin .eql (.t 8) (.k (.int .i64 5)), none⟩,
     ⟨some 51, .mv (.t 52), none⟩])
   (.cond (.t 51) (.join [] [2, 53, 54, 55, 56, 57, 58, 59, 60, 61, 62, 63, 64, 65, 66, 67, 68, 69, 70, 71] (.join [71] [53, 54, 55, 56, 57, 58, 59, 60, 61, 62, 63, 64, 65, 66, 67, 68, 69, 70] (.rjoin [60] [53, 54, 55, 56, 57, 58, 59] [
       ⟨some 53, .faddr 2 (.t 1), none⟩,
       ⟨some 54, .load 1 false (.t 53), none⟩,
       ⟨some 55, .mv (.t 54), none⟩,
       ⟨some 56, .faddr 3 (.t 1), some (55, false)⟩,
       ⟨some 57, .load 1 false (.t 56), some (55, false)⟩,
       ⟨some 58, .len false (.t 57), some (55, false)⟩,
       ⟨some 59, .bin .gtr (.t 58) (.k (.int .i64 0)), some (55, false)⟩,
       ⟨some 60, .pick (.t 55) (.k (.bool true)) (.t 59), none⟩]
     (.rjoin [65] [61, 62, 63, 64] [
       ⟨some 61, .mv (.t 60), none⟩,
       ⟨some 62, .faddr 1 (.t 1), some (61, false)⟩,
       ⟨some 63, .load 1 false (.t 62), some (61, false)⟩,
       ⟨some 64, .bin .neq (.t 63) (.k (.int .i64 0)), some (61, false)⟩,
       ⟨some 65, .pick (.t 61) (.k (.bool true)) (.t 64), none⟩]
     (.region [
       ⟨some 66, .mv (.t 65), none⟩,
       ⟨some 67, .faddr 5 (.t 1), some (66, false)⟩,
       ⟨some 68, .load 1 false (.t 67), some (66, false)⟩,
       ⟨some 69, .len false (.t 68), some (66, false)⟩,
       ⟨some 70, .bin .neq (.t 69) (.k (.int .i64 1)), some (66, false)⟩,
       ⟨some 71, .pick (.t 66) (.k (.bool true)) (.t 70), none⟩])))
     (.cond (.t 71) (.seq (.region [
         ⟨some 2, .mv (.k (.int .i64 8)), none⟩])
       (.ret))
       (.skip)))
     (.join [] [2, 72, 73, 74, 75, 76, 77, 78, 79] (.join [79] [72, 73, 74, 75, 76, 77, 78] (.region [
       ⟨some 72, .faddr 4 (.t 1), none⟩,
       ⟨some 73, .load 1 false (.t 72), none⟩,
       ⟨some 74, .bin .lss (.t 73) (.k (.int .i64 1)), none⟩,
       ⟨some 75, .mv (.t 74), none⟩,
       ⟨some 76, .faddr 4 (.t 1), some (75, false)⟩,
       ⟨some 77, .load 1 false (.t 76), some (75, false)⟩,
       ⟨some 78, .bin .gtr (.t 77) (.k (.int .i64 65536)), some (75, false)⟩,
       ⟨some 79, .pick (.t 75) (.k (.bool true)) (.t 78), none⟩])
     (.cond (.t 79) (.seq (.region [
         ⟨some 2, .mv (.k (.int .i64 9)), none⟩])
       (.ret))
       (.skip)))
     (.seq (.region [
       ⟨some 80, .faddr 5 (.t 1), none⟩,
       ⟨some 81, .load 1 false (.t 80), none⟩,
       ⟨some 82, .iaddr none 6 (.t 81) (.k (.int .i64 0)), none⟩,
       ⟨some 83, .load 6 true (.t 82), none⟩,
       ⟨some 84, .call K.rabbetref06_inner [(.t 83)], none⟩,
       ⟨some 2, .mv (.t 84), none⟩])
     (.ret))))
     (.join [85] [86, 87] (.seq (.region [
       ⟨some 86, .bin .eql (.t 8) (.k (.int .i64 3)), none⟩,
       ⟨some 85, .mv (.t 86), none⟩])
     (.cond (.t 85) (.skip)
       (.region [
         ⟨some 87, .bin .eql (.t 8) (.k (.int .i64 4)), none⟩,
         ⟨some 85, .mv (.t 87), none⟩])))
     (.cond (.t 85) (.join [] [2, 88, 89, 90, 91, 92, 93, 94, 95, 96, 97, 98, 99, 100, 101] (.join [101] [88, 89, 90, 91, 92, 93, 94, 95, 96, 97, 98, 99, 100] (.rjoin [95] [88, 89, 90, 91, 92, 93, 94] [
         ⟨some 88, .faddr 1 (.t 1), none⟩,
         ⟨some 89, .load 1 false (.t 88), none⟩,
         ⟨some 90, .bin .neq (.t 89) (.k (.int .i64 0)), none⟩,
         ⟨some 91, .mv (.t 90), none⟩,
         ⟨some 92, .faddr 4 (.t 1), some (91, false)⟩,
         ⟨some 93, .load 1 false (.t 92), some (91, false)⟩,
         ⟨some 94, .bin .neq (.t 93) (.k (.int .i64 0)), some (91, false)⟩,
         ⟨some 95, .pick (.t 91) (.k (.bool true)) (.t 94), none⟩]
       (.region [
         ⟨some 96, .mv (.t 95), none⟩,
         ⟨some 97, .faddr 5 (.t 1), some (96, false)⟩,
         ⟨some 98, .load 1 false (.t 97), some (96, false)⟩,
         ⟨some 99, .len false (.t 98), some (96, false)⟩,
         ⟨some 100, .bin .gtr (.t 99) (.k (.int .i64 0)), some (96, false)⟩,
         ⟨some 101, .pick (.t 96) (.k (.bool true)) (.t 100), none⟩]))
       (.cond (.t 101) (.seq (.region [
           ⟨some 2, .mv (.k (.int .i64 8)), none⟩])
         (.ret))
         (.skip)))
       (.join [] [2, 102, 103, 104, 105, 106, 107, 108, 109, 110, 111] (.join [111] [102, 103, 104, 105, 106, 107, 108, 109, 110] (.region [
         ⟨some 102, .faddr 3 (.t 1), none⟩,
         ⟨some 103, .load 1 false (.t 102), none⟩,
         ⟨some 104, .len false (.t 103), none⟩,
         ⟨some 105, .bin .eql (.t 104) (.k (.int .i64 0)), none⟩,
         ⟨some 106, .mv (.t 105), none⟩,
         ⟨some 107, .faddr 3 (.t 1), some (106, false)⟩,
         ⟨some 108, .load 1 false (.t 107), some (106, false)⟩,
         ⟨some 109, .len false (.t 108), some (106, false)⟩,
         ⟨some 110, .bin .gtr (.t 109) (.k (.int .i64 32)), some (106, false)⟩,
         ⟨some 111, .pick (.t 106) (.k (.bool true)) (.t 110), none⟩])
       (.cond (.t 111) (.seq (.region [
           ⟨some 2, .mv (.k (.int .i64 12)), none⟩])
         (.ret))
         (.skip)))
       (.seq (.seq (.region [
         ⟨some 3, .mv (.k (.int .i64 0)), none⟩])
       (.block 1 (.loop [3] [2, 4, 5, 6, 112, 113, 114, 115, 116, 117, 118, 119, 120, 121, 122, 123, 124, 125, 126, 127, 128, 129, 130, 131, 132, 133, 134, 135, 136, 137, 138, 139, 140, 141, 142, 143, 144, 145, 146, 147, 148, 149, 150, 151, 152, 153, 154, 155, 156, 157, 158, 159, 160, 161, 162, 163, 164, 165, 166, 167, 168, 169, 170, 171, 172, 173, 174, 175, 176, 177, 178, 179, 180, 181, 182, 183, 184, 185, 186, 187, 188, 189, 190, 191, 192, 193, 194, 195, 196, 197, 198, 199, 200, 201, 202, 203, 204, 205, 206, 207, 208, 209, 210] (.seq (.seq (.region [
         ⟨some 112, .mv (.t 3), none⟩,
         ⟨some 113, .faddr 3 (.t 1), none⟩,
         ⟨some 114, .load 1 false (.t 113), none⟩,
         ⟨some 115, .len false (.t 114), none⟩,
         ⟨some 116, .bin .lss (.t 112) (.t 115), none⟩])
       (.cond (.t 116) (.skip)
         (.exit 1)))
       (.join [] [2, 4, 5, 6, 119, 120, 121, 122, 123, 124, 125, 126, 127, 128, 129, 130, 131, 132, 133, 134, 135, 136, 137, 138, 139, 140, 141, 142, 143, 144, 145, 146, 147, 148, 149, 150, 151, 152, 153, 154, 155, 156, 157, 158, 159, 160, 161, 162, 163, 164, 165, 166, 167, 168, 169, 170, 171, 172, 173, 174, 175, 176, 177, 178, 179, 180, 181, 182, 183, 184, 185, 186, 187, 188, 189, 190, 191, 192, 193, 194, 195, 196, 197, 198, 199, 200, 201, 202, 203, 204, 205, 206, 207, 208, 209, 210] (.block 2 (.seq (.region [
         ⟨some 119, .faddr 3 (.t 1), none⟩,
         ⟨some 120, .load 1 false (.t 119), none⟩,
         ⟨some 121, .mv (.t 3), none⟩,
         ⟨some 122, .iaddr none 9 (.t 120) (.t 121), none⟩,
         ⟨some 123, .load 9 true (.t 122), none⟩,
         ⟨some 4, .alloc true [.str [], .int .i64 0, .int .i64 0, .bool false, .lst .nil 0 [], .int .i64 0, .lst .nil 0 [], .bool false, .int .i64 0], none⟩,
         ⟨none, .store 9 (.t 4) (.t 123), none⟩])
       (.join [] [2, 124, 125, 126, 127, 128, 129, 130, 131, 132, 133, 134, 135, 136, 137] (.join [137] [124, 125, 126, 127, 128, 129, 130, 131, 132, 133, 134, 135, 136] (.region [
         ⟨some 124, .faddr 0 (.t 4), none⟩,
         ⟨some 125, .load 1 false (.t 124), none⟩,
         ⟨some 126, .call K.rabbetref06_Name [(.t 125)], none⟩,
         ⟨some 127, .un .not (.t 126), none⟩,
         ⟨some 128, .mv (.t 127), none⟩,
         ⟨some 129, .faddr 0 (.t 4), some (128, true)⟩,
         ⟨some 130, .load 1 false (.t 129), some (128, true)⟩,
         ⟨some 131, .bin .eql (.t 130) (.k (.str [])), some (128, true)⟩,
         ⟨some 132, .mv (.t 131), some (128, true)⟩,
         ⟨some 133, .faddr 7 (.t 4), some (132, true)⟩,
         ⟨some 134, .load 1 false (.t 133), some (132, true)⟩,
         ⟨some 135, .pick (.t 132) (.t 134) (.k (.bool false)), some (128, true)⟩,
         ⟨some 136, .un .not (.t 135), some (128, true)⟩,
         ⟨some 137, .pick (.t 128) (.t 136) (.k (.bool false)), none⟩])
       (.cond (.t 137) (.seq (.region [
           ⟨some 2, .mv (.k (.int .i64 6)), none⟩])
         (.ret))
         (.skip)))
       (.join [] [2, 5, 138, 139, 140, 141, 142, 143, 144, 145, 146, 147, 148, 149, 150, 151, 152, 153, 154, 155, 156] (.seq (.region [
         ⟨some 5, .mv (.k (.int .i64 0)), none⟩])
       (.block 3 (.loop [5] [2, 138, 139, 140, 141, 142, 143, 144, 145, 146, 147, 148, 149, 150, 151, 152, 153, 154, 155, 156] (.seq (.seq (.region [
         ⟨some 138, .mv (.t 5), none⟩,
         ⟨some 139, .mv (.t 3), none⟩,
         ⟨some 140, .bin .lss (.t 138) (.t 139), none⟩])
       (.cond (.t 140) (.skip)
         (.exit 3)))
       (.join [] [2, 143, 144, 145, 146, 147, 148, 149, 150, 151, 152, 153, 154, 155, 156] (.block 4 (.join [156] [143, 144, 145, 146, 147, 148, 149, 150, 151, 152, 153, 154, 155] (.draw [
         ⟨some 143, .faddr 0 (.t 4), none⟩,
         ⟨some 144, .load 1 false (.t 143), none⟩,
         ⟨some 145, .bin .neq (.t 144) (.k (.str [])), none⟩,
         ⟨some 146, .mv (.t 145), none⟩,
         ⟨some 147, .faddr 3 (.t 1), some (146, true)⟩,
         ⟨some 148, .load 1 false (.t 147), some (146, true)⟩,
         ⟨some 149, .mv (.t 5), some (146, true)⟩,
         ⟨some 150, .iaddr none 9 (.t 148) (.t 149), some (146, true)⟩,
         ⟨some 151, .faddr 0 (.t 150), some (146, true)⟩,
         ⟨some 152, .load 1 false (.t 151), some (146, true)⟩,
         ⟨some 153, .faddr 0 (.t 4), some (146, true)⟩,
         ⟨some 154, .load 1 false (.t 153), some (146, true)⟩,
         ⟨some 155, .bin .eql (.t 152) (.t 154), some (146, true)⟩,
         ⟨some 156, .pick (.t 146) (.t 155) (.k (.bool false)), none⟩]
       [[], [0], [0, 1], [0, 1, 2], [0, 1, 2, 3], [0, 1, 2, 3, 4], [0, 1, 2, 3], [0, 1, 2, 3, 4, 5, 6], [0, 1, 2, 3, 4, 5, 6, 7], [0, 1, 2, 3, 4, 5, 6, 7, 8], [0, 1, 2, 3], [0, 1, 2, 3, 10], [0, 1, 2, 3, 4, 5, 6, 7, 8, 9, 10, 11], [0, 1, 2, 3, 4, 5, 6, 7, 8, 9, 10, 11, 12]] [] [0, 1, 2, 3, 4, 5, 6, 7, 8, 9, 10, 11, 12, 13])
       (.cond (.t 156) (.seq (.region [
           ⟨some 2, .mv (.k (.int .i64 7)), none⟩])
         (.ret))
         (.skip))))
       (.region [
         ⟨some 141, .mv (.t 5), none⟩,
         ⟨some 142, .bin .add (.t 141) (.k (.int .i64 1)), none⟩,
         ⟨some 5, .mv (.t 142), none⟩]))))))
       (.seq (.region [
         ⟨some 157, .faddr 1 (.t 4), none⟩,
         ⟨some 158, .load 6 true (.t 157), none⟩,
         ⟨some 159, .call K.rabbetref06_inner [(.t 158)], none⟩,
         ⟨some 6, .mv (.t 159), none⟩])
       (.seq (.seq (.region [
         ⟨some 160, .mv (.t 6), none⟩,
         ⟨some 161, .bin .neq (.t 160) (.k (.int .i64 0)), none⟩])
       (.cond (.t 161) (.seq (.region [
           ⟨some 162, .mv (.t 6), none⟩,
           ⟨some 2, .mv (.t 162), none⟩])
         (.ret))
         (.skip)))
       (.join [] [2, 163, 164, 165, 166, 167, 168, 169, 170, 171, 172, 173, 174, 175, 176, 177, 178, 179, 180, 181, 182, 183, 184] (.join [184] [163, 164, 165, 166, 167, 168, 169, 170, 171, 172, 173, 174, 175, 176, 177, 178, 179, 180, 181, 182, 183] (.rjoin [170] [163, 164, 165, 166, 167, 168, 169] [
         ⟨some 163, .faddr 7 (.t 4), none⟩,
         ⟨some 164, .load 1 false (.t 163), none⟩,
         ⟨some 165, .un .not (.t 164), none⟩,
         ⟨some 166, .mv (.t 165), none⟩,
         ⟨some 167, .faddr 8 (.t 4), some (166, true)⟩,
         ⟨some 168, .load 1 false (.t 167), some (166, true)⟩,
         ⟨some 169, .bin .neq (.t 168) (.k (.int .i64 0)), some (166, true)⟩,
         ⟨some 170, .pick (.t 166) (.t 169) (.k (.bool false)), none⟩]
       (.region [
         ⟨some 171, .mv (.t 170), none⟩,
         ⟨some 172, .faddr 7 (.t 4), some (171, false)⟩,
         ⟨some 173, .load 1 false (.t 172), some (171, false)⟩,
         ⟨some 174, .mv (.t 173), some (171, false)⟩,
         ⟨some 175, .faddr 2 (.t 1), some (174, true)⟩,
         ⟨some 176, .load 1 false (.t 175), some (174, true)⟩,
         ⟨some 177, .mv (.t 176), some (174, true)⟩,
         ⟨some 178, .faddr 1 (.t 4), some (177, false)⟩,
         ⟨some 179, .faddr 0 (.t 178), some (177, false)⟩,
         ⟨some 180, .load 1 false (.t 179), some (177, false)⟩,
         ⟨some 181, .bin .neq (.t 180) (.k (.int .i64 1)), some (177, false)⟩,
         ⟨some 182, .pick (.t 177) (.k (.bool true)) (.t 181), some (174, true)⟩,
         ⟨some 183, .pick (.t 174) (.t 182) (.k (.bool false)), some (171, false)⟩,
         ⟨some 184, .pick (.t 171) (.k (.bool true)) (.t 183), none⟩]))
       (.cond (.t 184) (.seq (.region [
           ⟨some 2, .mv (.k (.int .i64 8)), none⟩])
         (.ret))
         (.skip)))
       (.join [210] [185, 186, 187, 188, 189, 190, 191, 192, 193, 194, 195, 196, 197, 198, 199, 200, 201, 202, 203, 204, 205, 206, 207, 208, 209] (.region [
         ⟨some 185, .faddr 7 (.t 4), none⟩,
         ⟨some 186, .load 1 false (.t 185), none⟩,
         ⟨some 187, .mv (.t 186), none⟩,
         ⟨some 188, .faddr 8 (.t 4), some (187, true)⟩,
         ⟨some 189, .load 1 false (.t 188), some (187, true)⟩,
         ⟨some 190, .bin .lss (.t 189) (.k (.int .i64 0)), some (187, true)⟩,
         ⟨some 191, .mv (.t 190), some (187, true)⟩,
         ⟨some 192, .faddr 8 (.t 4), some (191, false)⟩,
         ⟨some 193, .load 1 false (.t 192), some (191, false)⟩,
         ⟨some 194, .faddr 1 (.t 4), some (191, false)⟩,
         ⟨some 195, .faddr 1 (.t 194), some (191, false)⟩,
         ⟨some 196, .load 1 false (.t 195), some (191, false)⟩,
         ⟨some 197, .bin .mul (.k (.int .i64 8)) (.t 196), some (191, false)⟩,
         ⟨some 198, .bin .gtr (.t 193) (.t 197), some (191, false)⟩,
         ⟨some 199, .pick (.t 191) (.k (.bool true)) (.t 198), some (187, true)⟩,
         ⟨some 200, .mv (.t 199), some (187, true)⟩,
         ⟨some 201, .faddr 8 (.t 4), some (200, false)⟩,
         ⟨some 202, .load 1 false (.t 201), some (200, false)⟩,
         ⟨some 203, .bin .eql (.t 202) (.k (.int .i64 0)), some (200, false)⟩,
         ⟨some 204, .mv (.t 203), some (200, false)⟩,
         ⟨some 205, .faddr 0 (.t 4), some (204, true)⟩,
         ⟨some 206, .load 1 false (.t 205), some (204, true)⟩,
         ⟨some 207, .bin .neq (.t 206) (.k (.str [])), some (204, true)⟩,
         ⟨some 208, .pick (.t 204) (.t 207) (.k (.bool false)), some (200, false)⟩,
         ⟨some 209, .pick (.t 200) (.k (.bool true)) (.t 208), some (187, true)⟩,
         ⟨some 210, .pick (.t 187) (.t 209) (.k (.bool false)), none⟩])
       (.cond (.t 210) (.seq (.region [
           ⟨some 2, .mv (.k (.int .i64 9)), none⟩])
         (.ret))
         (.skip))))))))))
       (.region [
         ⟨some 117, .mv (.t 3), none⟩,
         ⟨some 118, .bin .add (.t 117) (.k (.int .i64 1)), none⟩,
         ⟨some 3, .mv (.t 118), none⟩]))))))
       (.seq (.region [
         ⟨some 2, .mv (.k (.int .i64 0)), none⟩])
       (.ret)))))
       (.skip)))))))))
 (.seq (.region [
   ⟨some 2, .mv (.k (.int .i64 8)), none⟩])
 (.ret)))⟩
theorem eq_rabbetref06_inner (Φ : Calls') (a0 : AV) (H : AH) (Q : Post) : fnE1 Φ ir_rabbetref06_inner [a0] H Q = rabbetref06_inner Φ a0 H Q := by kernel_rfl

/-! rabbet/kind.Name -/
def kind_Name_k1 (Φ : Calls') (L19 : (List AV × AH) → Prop) (Q : Post) : List AV → AH → Prop := fun j24 H25 =>
 Gd (sl j24 0) true (
 Q (.bool false) H25) (
 L19 ([], H25))
def kind_Name_k2 (Φ : Calls') (x23 : AV) (L19 : (List AV × AH) → Prop) (Q : Post) : List AV → AH → Prop := fun j26 H27 =>
 Gd3 (sl j26 0) true (
 Do (abin .lss x23 (.int .i32 48)) fun x32 =>
 Gd3 x32 false (
 Do (abin .gtr x23 (.int .i32 57)) fun x33 =>
 JoinP (kind_Name_k1 Φ L19 Q) [x33] H27) (
 JoinP (kind_Name_k1 Φ L19 Q) [(.bool true)] H27) (
 False)) (
 JoinP (kind_Name_k1 Φ L19 Q) [(.bool false)] H27) (
 False)
def kind_Name_l3 (Φ : Calls') (x16 : AV) (Q : Post) : (List AV × AH) → ((List AV × AH) → Prop) → Prop := fun s18 L19 =>
 DoH (asnext s18.2 x16) fun x20 H21 =>
 Do (aextract 0 x20) fun x22 =>
 Gd x22 true (
 Do (aextract 2 x20) fun x23 =>
Φ K.kind_letter [x23] H21 fun x28 H29 =>
 Do (aun .not x28) fun x30 =>
 Gd3 x30 true (
 Do (abin .neq x23 (.int .i32 95)) fun x31 =>
 JoinP (kind_Name_k2 Φ x23 L19 Q) [x31] H29) (
 JoinP (kind_Name_k2 Φ x23 L19 Q) [(.bool false)] H29) (
 False)) (
 Q (.bool true) H21)
def kind_Name_k4 (Φ : Calls') (a0 : AV) (Q : Post) : List AV → AH → Prop := fun j1 H2 =>
 DoH (asrange H2 a0) fun x16 H17 =>
 LoopP (kind_Name_l3 Φ x16 Q) ([], H17)
def kind_Name_k5 (Φ : Calls') (a0 : AV) (Q : Post) : List AV → AH → Prop := fun j3 H4 =>
 Gd (sl j3 0) true (
 Q (.bool false) H4) (
 JoinP (kind_Name_k4 Φ a0 Q) [] H4)
def kind_Name_k6 (Φ : Calls') (a0 : AV) (Q : Post) : List AV → AH → Prop := fun j5 H6 =>
 Gd3 (sl j5 0) false (
 Do (aidxs a0 (.int .i64 0)) fun x11 =>
 Do (aconv .i32 x11) fun x12 =>
Φ K.kind_letter [x12] H6 fun x13 H14 =>
 Do (aun .not x13) fun x15 =>
 JoinP (kind_Name_k5 Φ a0 Q) [x15] H14) (
 JoinP (kind_Name_k5 Φ a0 Q) [(.bool true)] H6) (
 False)
def kind_Name (Φ : Calls') (a0 : AV) (H : AH) (Q : Post) : Prop :=
 Do (alen true a0) fun x7 =>
 Do (abin .lss x7 (.int .i64 1)) fun x8 =>
 Gd3 x8 false (
 Do (alen true a0) fun x9 =>
 Do (abin .gtr x9 (.int .i64 16)) fun x10 =>
 JoinP (kind_Name_k6 Φ a0 Q) [x10] H) (
 JoinP (kind_Name_k6 Φ a0 Q) [(.bool true)] H) (
 False)
def ir_kind_Name : AFunc := ⟨40, [.tmp 2],
 .seq (.region [
   ⟨some 2, .mv (.k (.bool false)), none⟩])
 (.join [] [2, 5, 6, 7, 8, 9, 10, 11, 12, 13, 14, 15, 16, 17, 18, 19] (.join [19] [5, 6, 7, 8, 9, 10, 11, 12, 13, 14, 15, 16, 17, 18] (.rjoin [12] [5, 6, 7, 8, 9, 10, 11] [
   ⟨some 5, .mv (.t 0), none⟩,
   ⟨some 6, .len true (.t 5), none⟩,
   ⟨some 7, .bin .lss (.t 6) (.k (.int .i64 1)), none⟩,
   ⟨some 8, .mv (.t 7), none⟩,
   ⟨some 9, .mv (.t 0), some (8, false)⟩,
   ⟨some 10, .len true (.t 9), some (8, false)⟩,
   ⟨some 11, .bin .gtr (.t 10) (.k (.int .i64 16)), some (8, false)⟩,
   ⟨some 12, .pick (.t 8) (.k (.bool true)) (.t 11), none⟩]
 (.region [
   ⟨some 13, .mv (.t 12), none⟩,
   ⟨some 14, .mv (.t 0), some (13, false)⟩,
   ⟨some 15, .idxs (.t 14) (.k (.int .i64 0)), some (13, false)⟩,
   ⟨some 16, .conv .i32 (.t 15), some (13, false)⟩,
   ⟨some 17, .call K.kind_letter [(.t 16)], some (13, false)⟩,
   ⟨some 18, .un .not (.t 17), some (13, false)⟩,
   ⟨some 19, .pick (.t 13) (.k (.bool true)) (.t 18), none⟩]))
 (.cond (.t 19) (.seq (.region [
     ⟨some 2, .mv (.k (.bool false)), none⟩])
   (.ret))
   (.skip)))
 (.seq (.seq (.region [
   ⟨some 20, .mv (.t 0), none⟩,
   ⟨some 21, .srange (.t 20), none⟩])
 (.block 0 (.loop [] [2, 4, 22, 23, 24, 25, 26, 27, 28, 29, 30, 31, 32, 33, 34, 35, 36, 37, 38, 39] (.seq (.region [
   ⟨some 22, .snext (.t 21), none⟩,
   ⟨some 23, .extract 0 (.t 22), none⟩])
 (.seq (.cond (.t 23) (.skip)
   (.exit 0))
 (.block 1 (.seq (.region [
   ⟨some 24, .extract 2 (.t 22), none⟩,
   ⟨some 4, .mv (.t 24), none⟩])
 (.join [39] [25, 26, 27, 28, 29, 30, 31, 32, 33, 34, 35, 36, 37, 38] (.rjoin [31] [25, 26, 27, 28, 29, 30] [
   ⟨some 25, .mv (.t 4), none⟩,
   ⟨some 26, .call K.kind_letter [(.t 25)], none⟩,
   ⟨some 27, .un .not (.t 26), none⟩,
   ⟨some 28, .mv (.t 27), none⟩,
   ⟨some 29, .mv (.t 4), some (28, true)⟩,
   ⟨some 30, .bin .neq (.t 29) (.k (.int .i32 95)), some (28, true)⟩,
   ⟨some 31, .pick (.t 28) (.t 30) (.k (.bool false)), none⟩]
 (.region [
   ⟨some 32, .mv (.t 31), none⟩,
   ⟨some 33, .mv (.t 4), some (32, true)⟩,
   ⟨some 34, .bin .lss (.t 33) (.k (.int .i32 48)), some (32, true)⟩,
   ⟨some 35, .mv (.t 34), some (32, true)⟩,
   ⟨some 36, .mv (.t 4), some (35, false)⟩,
   ⟨some 37, .bin .gtr (.t 36) (.k (.int .i32 57)), some (35, false)⟩,
   ⟨some 38, .pick (.t 35) (.k (.bool true)) (.t 37), some (32, true)⟩,
   ⟨some 39, .pick (.t 32) (.t 38) (.k (.bool false)), none⟩]))
 (.cond (.t 39) (.seq (.region [
     ⟨some 2, .mv (.k (.bool false)), none⟩])
   (.ret))
   (.skip))))))))))
 (.seq (.region [
   ⟨some 2, .mv (.k (.bool true)), none⟩])
 (.ret))))⟩
theorem eq_kind_Name (Φ : Calls') (a0 : AV) (H : AH) (Q : Post) : fnE1 Φ ir_kind_Name [a0] H Q = kind_Name Φ a0 H Q := by kernel_rfl

/-! rabbet/lex.Keyword -/
def lex_Keyword (Φ : Calls') (a0 : AV) (H : AH) (Q : Post) : Prop :=
Φ K.strings_Fields [(.str [118, 97, 114, 32, 116, 104, 114, 101, 97, 100, 32, 115, 116, 114, 117, 99, 116, 32, 117, 110, 105, 111, 110, 32, 112, 97, 99, 107, 101, 100, 32, 117, 56, 32, 117, 49, 54, 32, 117, 51, 50, 32, 117, 54, 52, 32, 97, 56, 32, 97, 49, 54, 32, 97, 51, 50, 32, 97, 54, 52, 32, 97, 49, 50, 56, 32, 108, 101, 116, 32, 115, 101, 116, 32, 119, 114, 105, 116, 101, 32, 115, 116, 111, 114, 101, 32, 108, 111, 97, 100, 50, 32, 115, 116, 111, 114, 101, 50, 32, 102, 101, 110, 99, 101, 32, 105, 102, 32, 101, 108, 115, 101, 32, 119, 104, 105, 108, 101, 32, 112, 114, 105, 110, 116, 32, 114, 101, 97, 100, 32, 108, 111, 97, 100, 32, 97, 100, 100, 32, 115, 119, 97, 112, 32, 99, 97, 115, 32, 114, 108, 120, 32, 97, 99, 113, 32, 114, 101, 108, 32, 115, 99])] H fun x1 H2 =>
Φ K.slices_Contains___string_string_ [x1, a0] H2 fun x3 H4 =>
 Q x3 H4
def ir_lex_Keyword : AFunc := ⟨6, [.tmp 2],
 .seq (.region [
   ⟨some 2, .mv (.k (.bool false)), none⟩])
 (.seq (.region [
   ⟨some 3, .call K.strings_Fields [(.k (.str [118, 97, 114, 32, 116, 104, 114, 101, 97, 100, 32, 115, 116, 114, 117, 99, 116, 32, 117, 110, 105, 111, 110, 32, 112, 97, 99, 107, 101, 100, 32, 117, 56, 32, 117, 49, 54, 32, 117, 51, 50, 32, 117, 54, 52, 32, 97, 56, 32, 97, 49, 54, 32, 97, 51, 50, 32, 97, 54, 52, 32, 97, 49, 50, 56, 32, 108, 101, 116, 32, 115, 101, 116, 32, 119, 114, 105, 116, 101, 32, 115, 116, 111, 114, 101, 32, 108, 111, 97, 100, 50, 32, 115, 116, 111, 114, 101, 50, 32, 102, 101, 110, 99, 101, 32, 105, 102, 32, 101, 108, 115, 101, 32, 119, 104, 105, 108, 101, 32, 112, 114, 105, 110, 116, 32, 114, 101, 97, 100, 32, 108, 111, 97, 100, 32, 97, 100, 100, 32, 115, 119, 97, 112, 32, 99, 97, 115, 32, 114, 108, 120, 32, 97, 99, 113, 32, 114, 101, 108, 32, 115, 99]))], none⟩,
   ⟨some 4, .mv (.t 0), none⟩,
   ⟨some 5, .call K.slices_Contains___string_string_ [(.t 3), (.t 4)], none⟩,
   ⟨some 2, .mv (.t 5), none⟩])
 (.ret))⟩
theorem eq_lex_Keyword (Φ : Calls') (a0 : AV) (H : AH) (Q : Post) : fnE1 Φ ir_lex_Keyword [a0] H Q = lex_Keyword Φ a0 H Q := by kernel_rfl

/-! slices.ContainsFunc[[]rabbet/api.Var,rabbet/api.Var] -/
def slices_ContainsFunc___api_Var_api_Var_ (Φ : Calls') (a0 : AV) (a1 : AV) (H : AH) (Q : Post) : Prop :=
Φ K.slices_IndexFunc___api_Var_api_Var_ [a0, a1] H fun x1 H2 =>
 Do (abin .geq x1 (.int .i64 0)) fun x3 =>
 Q x3 H2
def ir_slices_ContainsFunc___api_Var_api_Var_ : AFunc := ⟨9, [.tmp 4],
 .seq (.region [
   ⟨some 4, .mv (.k (.bool false)), none⟩])
 (.seq (.region [
   ⟨some 5, .mv (.t 0), none⟩,
   ⟨some 6, .mv (.t 1), none⟩,
   ⟨some 7, .call K.slices_IndexFunc___api_Var_api_Var_ [(.t 5), (.t 6)], none⟩,
   ⟨some 8, .bin .geq (.t 7) (.k (.int .i64 0)), none⟩,
   ⟨some 4, .mv (.t 8), none⟩])
 (.ret))⟩
theorem eq_slices_ContainsFunc___api_Var_api_Var_ (Φ : Calls') (a0 a1 : AV) (H : AH) (Q : Post) : fnE1 Φ ir_slices_ContainsFunc___api_Var_api_Var_ [a0, a1] H Q = slices_ContainsFunc___api_Var_api_Var_ Φ a0 a1 H Q := by kernel_rfl

/-! rabbet/check.vars$1 -/
def check_vars_c1 (Φ : Calls') (a0 : AV) (a1 : AV) (H : AH) (Q : Post) : Prop :=
 DoH (aboxv H false 7 a0) fun x1 H2 =>
 Do (afaddr 0 x1) fun x3 =>
 Do (aload H2 1 false x3) fun x4 =>
 Do (afaddr 0 a1) fun x5 =>
 Do (aload H2 1 false x5) fun x6 =>
 Do (abin .eql x4 x6) fun x7 =>
 Q x7 H2
def ir_check_vars_c1 : AFunc := ⟨9, [.tmp 3],
 .seq (.region [
   ⟨some 2, .box false 7 (.t 0), none⟩,
   ⟨some 3, .mv (.k (.bool false)), none⟩])
 (.seq (.region [
   ⟨some 4, .faddr 0 (.t 2), none⟩,
   ⟨some 5, .load 1 false (.t 4), none⟩,
   ⟨some 6, .faddr 0 (.t 1), none⟩,
   ⟨some 7, .load 1 false (.t 6), none⟩,
   ⟨some 8, .bin .eql (.t 5) (.t 7), none⟩,
   ⟨some 3, .mv (.t 8), none⟩])
 (.ret))⟩
theorem eq_check_vars_c1 (Φ : Calls') (a0 a1 : AV) (H : AH) (Q : Post) : fnE1 Φ ir_check_vars_c1 [a0, a1] H Q = check_vars_c1 Φ a0 a1 H Q := by kernel_rfl

/-! rabbet/layout.Of -/
def layout_Of (Φ : Calls') (a0 : AV) (H : AH) (Q : Post) : Prop :=
 DoH (aboxv H false 6 a0) fun x1 H2 =>
 Do (aload H2 6 true x1) fun x3 =>
Φ K.layout_check [x3] H2 fun x4 H5 =>
 Do (aextract 0 x4) fun x6 =>
 Do (aextract 1 x4) fun x7 =>
 DoH (some (abox H5 true [.int .i64 0, .int .i64 0])) fun x8 H9 =>
 Do (astore H9 2 x8 x6) fun H10 =>
 Do (afaddr 0 x8) fun x11 =>
 Do (aload H10 1 false x11) fun x12 =>
 Do (afaddr 1 x8) fun x13 =>
 Do (aload H10 1 false x13) fun x14 =>
 Q (.tup [x12, x14, x7]) H10
def ir_layout_Of : AFunc := ⟨16, [.tmp 2, .tmp 3, .tmp 4],
 .seq (.region [
   ⟨some 1, .box false 6 (.t 0), none⟩,
   ⟨some 2, .mv (.k (.int .i64 0)), none⟩,
   ⟨some 3, .mv (.k (.int .i64 0)), none⟩,
   ⟨some 4, .mv (.k (.int .i64 0)), none⟩])
 (.seq (.region [
   ⟨some 7, .load 6 true (.t 1), none⟩,
   ⟨some 8, .call K.layout_check [(.t 7)], none⟩,
   ⟨some 6, .mv (.t 8), none⟩,
   ⟨some 9, .extract 0 (.t 6), none⟩,
   ⟨some 10, .extract 1 (.t 6), none⟩,
   ⟨some 5, .alloc true [.int .i64 0, .int .i64 0], none⟩,
   ⟨none, .store 2 (.t 5) (.t 9), none⟩,
   ⟨some 4, .mv (.t 10), none⟩])
 (.seq (.draw [
   ⟨some 11, .faddr 0 (.t 5), none⟩,
   ⟨some 12, .load 1 false (.t 11), none⟩,
   ⟨some 13, .faddr 1 (.t 5), none⟩,
   ⟨some 14, .load 1 false (.t 13), none⟩,
   ⟨some 15, .mv (.t 4), none⟩,
   ⟨some 2, .mv (.t 12), none⟩,
   ⟨some 3, .mv (.t 14), none⟩,
   ⟨some 4, .mv (.t 15), none⟩]
 [[], [0], [], [2], [], [0, 1], [0, 1, 2, 3, 5], [0, 1, 2, 3, 4, 5, 6]] [] [0, 1, 2, 3, 4, 5, 6, 7])
 (.ret)))⟩
theorem eq_layout_Of (Φ : Calls') (a0 : AV) (H : AH) (Q : Post) : fnE1 Φ ir_layout_Of [a0] H Q = layout_Of Φ a0 H Q := by kernel_rfl

/-! (rabbet/check.checker).stmt -/
def check_checker_stmt_k1 (Φ : Calls') (a0 : AV) (a2 : AV) (x1 : AV) (Q : Post) : List AV → AH → Prop := fun j54 H55 =>
 Do (afaddr 8 x1) fun x78 =>
 Do (aload H55 1 false x78) fun x79 =>
 Do (abin .add a2 (.int .i64 1)) fun x80 =>
Φ K.check_checker_block [a0, x79, x80] H55 fun x81 H82 =>
 Do (afaddr 1 x1) fun x83 =>
 Do (aload H82 1 false x83) fun x84 =>
 Do (anilck a0) fun x85 =>
 Do (afaddr 3 x85) fun x86 =>
 Do (astore H82 1 x86 x84) fun H87 =>
 Do (afaddr 9 x1) fun x88 =>
 Do (aload H87 1 false x88) fun x89 =>
 Do (abin .add a2 (.int .i64 1)) fun x90 =>
Φ K.check_checker_block [a0, x89, x90] H87 fun x91 H92 =>
 Q (.tup []) H92
def check_checker_stmt_k2 (Φ : Calls') (a0 : AV) (a2 : AV) (x1 : AV) (Q : Post) : List AV → AH → Prop := fun j19 H20 =>
 Do (afaddr 7 x1) fun x50 =>
 Do (aload H20 1 false x50) fun x51 =>
Φ K.check_checker_exprs [a0, x51, a2] H20 fun x52 H53 =>
 Do (afaddr 0 x1) fun x56 =>
 Do (aload H53 1 false x56) fun x57 =>
 Do (abin .eql x57 (.int .i64 1)) fun x58 =>
 Gd x58 true (
 Do (anilck a0) fun x59 =>
 Do (afaddr 1 x59) fun x60 =>
 Do (aload H53 1 false x60) fun x61 =>
 Do (afaddr 2 x1) fun x62 =>
 Do (aload H53 1 false x62) fun x63 =>
 DoH (abslice H53 false 1 1 [.str []] [(0, 1, x63)]) fun x64 H65 =>
 DoH (aappend H65 true 1 16 x61 x64) fun x66 H67 =>
 Do (anilck a0) fun x68 =>
 Do (afaddr 1 x68) fun x69 =>
 Do (astore H67 1 x69 x66) fun H70 =>
 Do (anilck a0) fun x71 =>
 Do (afaddr 2 x71) fun x72 =>
 Do (aload H70 1 false x72) fun x73 =>
 Do (abin .add x73 (.int .i64 1)) fun x74 =>
 Do (anilck a0) fun x75 =>
 Do (afaddr 2 x75) fun x76 =>
 Do (astore H70 1 x76 x74) fun H77 =>
 JoinP (check_checker_stmt_k1 Φ a0 a2 x1 Q) [] H77) (
 Do (abin .eql x57 (.int .i64 5)) fun x93 =>
 Gd x93 true (
 Do (afaddr 2 x1) fun x94 =>
 Do (aload H53 1 false x94) fun x95 =>
Φ K.check_checker_there [a0, x95] H53 fun x96 H97 =>
Φ K.check_checker_need [a0, x96, (.int .i64 6)] H97 fun x98 H99 =>
 Do (afaddr 3 x1) fun x100 =>
 Do (aload H99 1 false x100) fun x101 =>
Φ K.check_checker_there [a0, x101] H99 fun x102 H103 =>
Φ K.check_checker_need [a0, x102, (.int .i64 6)] H103 fun x104 H105 =>
 Do (afaddr 2 x1) fun x106 =>
 Do (aload H105 1 false x106) fun x107 =>
 Do (afaddr 3 x1) fun x108 =>
 Do (aload H105 1 false x108) fun x109 =>
 Do (abin .neq x107 x109) fun x110 =>
Φ K.check_checker_need [a0, x110, (.int .i64 7)] H105 fun x111 H112 =>
 JoinP (check_checker_stmt_k1 Φ a0 a2 x1 Q) [] H112) (
 JoinP (check_checker_stmt_k1 Φ a0 a2 x1 Q) [] H53))
def check_checker_stmt_k3 (Φ : Calls') (a0 : AV) (a2 : AV) (x1 : AV) (Q : Post) : List AV → AH → Prop := fun j24 H25 =>
 Do (afaddr 2 x1) fun x37 =>
 Do (aload H25 1 false x37) fun x38 =>
Φ K.check_checker_there [a0, x38] H25 fun x39 H40 =>
 Do (aun .not x39) fun x41 =>
Φ K.check_checker_need [a0, x41, (.int .i64 7)] H40 fun x42 H43 =>
 Do (anilck a0) fun x44 =>
 Do (afaddr 2 x44) fun x45 =>
 Do (aload H43 1 false x45) fun x46 =>
 Do (abin .lss x46 (.int .i64 40)) fun x47 =>
Φ K.check_checker_need [a0, x47, (.int .i64 12)] H43 fun x48 H49 =>
 JoinP (check_checker_stmt_k2 Φ a0 a2 x1 Q) [] H49
def check_checker_stmt_k4 (Φ : Calls') (a0 : AV) (a2 : AV) (x1 : AV) (Q : Post) : List AV → AH → Prop := fun j122 H123 =>
 Gd (sl j122 0) true (
 Do (afaddr 0 x1) fun x125 =>
 Do (aload H123 1 false x125) fun x126 =>
 Do (afaddr 5 x1) fun x127 =>
 Do (aload H123 2 true x127) fun x128 =>
Φ K.check_checker_place [a0, x126, x128, a2] H123 fun x129 H130 =>
 JoinP (check_checker_stmt_k2 Φ a0 a2 x1 Q) [] H130) (
 JoinP (check_checker_stmt_k2 Φ a0 a2 x1 Q) [] H123)
def check_checker_stmt (Φ : Calls') (a0 : AV) (a1 : AV) (a2 : AV) (H : AH) (Q : Post) : Prop :=
 DoH (aboxv H false 10 a1) fun x1 H2 =>
 Do (abin .leq a2 (.int .i64 64)) fun x3 =>
Φ K.check_checker_need [a0, x3, (.int .i64 5)] H2 fun x4 H5 =>
 Do (aload H5 10 true x1) fun x6 =>
Φ K.check_form [x6] H5 fun x7 H8 =>
Φ K.check_checker_need [a0, x7, (.int .i64 4)] H8 fun x9 H10 =>
 Do (afaddr 0 x1) fun x11 =>
 Do (aload H10 1 false x11) fun x12 =>
 Do (afaddr 4 x1) fun x13 =>
 Do (aload H10 1 false x13) fun x14 =>
Φ K.check_Order [x12, x14] H10 fun x15 H16 =>
Φ K.check_checker_need [a0, x15, (.int .i64 11)] H16 fun x17 H18 =>
 Do (afaddr 0 x1) fun x21 =>
 Do (aload H18 1 false x21) fun x22 =>
 Do (abin .eql x22 (.int .i64 1)) fun x23 =>
 Gd x23 true (
 Do (afaddr 2 x1) fun x26 =>
 Do (aload H18 1 false x26) fun x27 =>
Φ K.kind_Name [x27] H18 fun x28 H29 =>
 Gd3 x28 true (
 Do (afaddr 2 x1) fun x30 =>
 Do (aload H29 1 false x30) fun x31 =>
Φ K.lex_Keyword [x31] H29 fun x32 H33 =>
 Do (aun .not x32) fun x34 =>
Φ K.check_checker_need [a0, x34, (.int .i64 6)] H33 fun x35 H36 =>
 JoinP (check_checker_stmt_k3 Φ a0 a2 x1 Q) [] H36) (
Φ K.check_checker_need [a0, (.bool false), (.int .i64 6)] H29 fun x113 H114 =>
 JoinP (check_checker_stmt_k3 Φ a0 a2 x1 Q) [] H114) (
 False)) (
 Do (abin .eql x22 (.int .i64 2)) fun x115 =>
 Gd x115 true (
 Do (afaddr 2 x1) fun x116 =>
 Do (aload H18 1 false x116) fun x117 =>
Φ K.check_checker_there [a0, x117] H18 fun x118 H119 =>
Φ K.check_checker_need [a0, x118, (.int .i64 6)] H119 fun x120 H121 =>
 JoinP (check_checker_stmt_k2 Φ a0 a2 x1 Q) [] H121) (
 Do (abin .eql x22 (.int .i64 3)) fun x124 =>
 Gd x124 true (
 JoinP (check_checker_stmt_k4 Φ a0 a2 x1 Q) [x124] H18) (
 Do (abin .eql x22 (.int .i64 4)) fun x131 =>
 Gd x131 true (
 JoinP (check_checker_stmt_k4 Φ a0 a2 x1 Q) [x131] H18) (
 Do (abin .eql x22 (.int .i64 5)) fun x132 =>
 Gd x132 true (
 JoinP (check_checker_stmt_k4 Φ a0 a2 x1 Q) [x132] H18) (
 Do (abin .eql x22 (.int .i64 6)) fun x133 =>
 JoinP (check_checker_stmt_k4 Φ a0 a2 x1 Q) [x133] H18)))))
def ir_check_checker_stmt : AFunc := ⟨135, [],
 .seq (.region [
   ⟨some 4, .box false 10 (.t 1), none⟩])
 (.seq (.region [
   ⟨some 6, .mv (.t 0), none⟩,
   ⟨some 7, .mv (.t 2), none⟩,
   ⟨some 8, .bin .leq (.t 7) (.k (.int .i64 64)), none⟩,
   ⟨some 9, .call K.check_checker_need [(.t 6), (.t 8), (.k (.int .i64 5))], none⟩])
 (.seq (.region [
   ⟨some 10, .mv (.t 0), none⟩,
   ⟨some 11, .load 10 true (.t 4), none⟩,
   ⟨some 12, .call K.check_form [(.t 11)], none⟩,
   ⟨some 13, .call K.check_checker_need [(.t 10), (.t 12), (.k (.int .i64 4))], none⟩])
 (.seq (.region [
   ⟨some 14, .mv (.t 0), none⟩,
   ⟨some 15, .faddr 0 (.t 4), none⟩,
   ⟨some 16, .load 1 false (.t 15), none⟩,
   ⟨some 17, .faddr 4 (.t 4), none⟩,
   ⟨some 18, .load 1 false (.t 17), none⟩,
   ⟨some 19, .call K.check_Order [(.t 16), (.t 18)], none⟩,
   ⟨some 20, .call K.check_checker_need [(.t 14), (.t 19), (.k (.int .i64 11))], none⟩])
 (.join [] [21, 22, 23, 24, 25, 26, 27, 28, 29, 30, 31, 32, 33, 34, 35, 36, 37, 38, 39, 40, 41, 42, 43, 44, 45, 46, 47, 48, 49, 50, 51, 52, 53, 54, 55, 56, 57, 58, 59, 60, 61, 62, 63, 64, 65, 66, 67, 68, 69] (.seq (.region [
   ⟨some 21, .faddr 0 (.t 4), none⟩,
   ⟨some 22, .load 1 false (.t 21), none⟩])
 (.block 0 (.seq (.region [
   ⟨some 24, .bin .eql (.t 22) (.k (.int .i64 1)), none⟩,
   ⟨some 23, .mv (.t 24), none⟩])
 (.cond (.t 23) (.join [] [25, 26, 27, 28, 29, 30, 31, 32, 33, 34, 35] (.region [
     ⟨some 25, .mv (.t 0), none⟩,
     ⟨some 26, .faddr 2 (.t 4), none⟩,
     ⟨some 27, .load 1 false (.t 26), none⟩,
     ⟨some 28, .call K.kind_Name [(.t 27)], none⟩,
     ⟨some 29, .mv (.t 28), none⟩,
     ⟨some 30, .faddr 2 (.t 4), some (29, true)⟩,
     ⟨some 31, .load 1 false (.t 30), some (29, true)⟩,
     ⟨some 32, .call K.lex_Keyword [(.t 31)], some (29, true)⟩,
     ⟨some 33, .un .not (.t 32), some (29, true)⟩,
     ⟨some 34, .pick (.t 29) (.t 33) (.k (.bool false)), none⟩,
     ⟨some 35, .call K.check_checker_need [(.t 25), (.t 34), (.k (.int .i64 6))], none⟩])
   (.seq (.region [
     ⟨some 36, .mv (.t 0), none⟩,
     ⟨some 37, .mv (.t 0), none⟩,
     ⟨some 38, .faddr 2 (.t 4), none⟩,
     ⟨some 39, .load 1 false (.t 38), none⟩,
     ⟨some 40, .call K.check_checker_there [(.t 37), (.t 39)], none⟩,
     ⟨some 41, .un .not (.t 40), none⟩,
     ⟨some 42, .call K.check_checker_need [(.t 36), (.t 41), (.k (.int .i64 7))], none⟩])
   (.region [
     ⟨some 43, .mv (.t 0), none⟩,
     ⟨some 44, .mv (.t 0), none⟩,
     ⟨some 45, .nilck (.t 44), none⟩,
     ⟨some 46, .faddr 2 (.t 45), none⟩,
     ⟨some 47, .load 1 false (.t 46), none⟩,
     ⟨some 48, .bin .lss (.t 47) (.k (.int .i64 40)), none⟩,
     ⟨some 49, .call K.check_checker_need [(.t 43), (.t 48), (.k (.int .i64 12))], none⟩])))
   (.seq (.region [
     ⟨some 51, .bin .eql (.t 22) (.k (.int .i64 2)), none⟩,
     ⟨some 50, .mv (.t 51), none⟩])
   (.cond (.t 50) (.region [
       ⟨some 52, .mv (.t 0), none⟩,
       ⟨some 53, .mv (.t 0), none⟩,
       ⟨some 54, .faddr 2 (.t 4), none⟩,
       ⟨some 55, .load 1 false (.t 54), none⟩,
       ⟨some 56, .call K.check_checker_there [(.t 53), (.t 55)], none⟩,
       ⟨some 57, .call K.check_checker_need [(.t 52), (.t 56), (.k (.int .i64 6))], none⟩])
     (.join [58] [59, 60, 61, 62] (.seq (.region [
       ⟨some 59, .bin .eql (.t 22) (.k (.int .i64 3)), none⟩,
       ⟨some 58, .mv (.t 59), none⟩])
     (.cond (.t 58) (.skip)
       (.seq (.region [
         ⟨some 60, .bin .eql (.t 22) (.k (.int .i64 4)), none⟩,
         ⟨some 58, .mv (.t 60), none⟩])
       (.cond (.t 58) (.skip)
         (.seq (.region [
           ⟨some 61, .bin .eql (.t 22) (.k (.int .i64 5)), none⟩,
           ⟨some 58, .mv (.t 61), none⟩])
         (.cond (.t 58) (.skip)
           (.region [
             ⟨some 62, .bin .eql (.t 22) (.k (.int .i64 6)), none⟩,
             ⟨some 58, .mv (.t 62), none⟩])))))))
     (.cond (.t 58) (.region [
         ⟨some 63, .mv (.t 0), none⟩,
         ⟨some 64, .faddr 0 (.t 4), none⟩,
         ⟨some 65, .load 1 false (.t 64), none⟩,
         ⟨some 66, .faddr 5 (.t 4), none⟩,
         ⟨some 67, .load 2 true (.t 66), none⟩,
         ⟨some 68, .mv (.t 2), none⟩,
         ⟨some 69, .call K.check_checker_place [(.t 63), (.t 65), (.t 67), (.t 68)], none⟩])
       (.skip)))))))))
 (.seq (.region [
   ⟨some 70, .mv (.t 0), none⟩,
   ⟨some 71, .faddr 7 (.t 4), none⟩,
   ⟨some 72, .load 1 false (.t 71), none⟩,
   ⟨some 73, .mv (.t 2), none⟩,
   ⟨some 74, .call K.check_checker_exprs [(.t 70), (.t 72), (.t 73)], none⟩])
 (.join [] [75, 76, 77, 78, 79, 80, 81, 82, 83, 84, 85, 86, 87, 88, 89, 90, 91, 92, 93, 94, 95, 96, 97, 98, 99, 100, 101, 102, 103, 104, 105, 106, 107, 108, 109, 110, 111, 112, 113, 114, 115, 116, 117] (.seq (.region [
   ⟨some 75, .faddr 0 (.t 4), none⟩,
   ⟨some 76, .load 1 false (.t 75), none⟩])
 (.block 1 (.seq (.region [
   ⟨some 78, .bin .eql (.t 76) (.k (.int .i64 1)), none⟩,
   ⟨some 77, .mv (.t 78), none⟩])
 (.cond (.t 77) (.seq (.draw [
     ⟨some 79, .mv (.t 0), none⟩,
     ⟨some 80, .mv (.t 0), none⟩,
     ⟨some 81, .nilck (.t 80), none⟩,
     ⟨some 82, .faddr 1 (.t 81), none⟩,
     ⟨some 83, .load 1 false (.t 82), none⟩,
     ⟨some 84, .faddr 2 (.t 4), none⟩,
     ⟨some 85, .load 1 false (.t 84), none⟩,
     ⟨some 86, .bslice false 1 1 [.str []] [(0, 1, (.t 85))], none⟩,
     ⟨some 87, .append true 1 16 (.t 83) (.t 86), none⟩,
     ⟨some 88, .nilck (.t 79), none⟩,
     ⟨some 89, .faddr 1 (.t 88), none⟩,
     ⟨none, .store 1 (.t 89) (.t 87), none⟩]
   [[], [], [1], [1, 2], [1, 2, 3], [], [5], [5, 6], [1, 2, 3, 4, 5, 6, 7], [0, 1, 2, 3, 4, 5, 6, 7, 8], [0, 1, 2, 3, 4, 5, 6, 7, 8, 9], [0, 1, 2, 3, 4, 5, 6, 7, 8, 9, 10]] [([0, 1, 2, 3, 4, 5, 6, 7], 8, []), ([9, 10], 11, [])] [])
   (.region [
     ⟨some 90, .mv (.t 0), none⟩,
     ⟨some 91, .nilck (.t 90), none⟩,
     ⟨some 92, .faddr 2 (.t 91), none⟩,
     ⟨some 93, .load 1 false (.t 92), none⟩,
     ⟨some 94, .bin .add (.t 93) (.k (.int .i64 1)), none⟩,
     ⟨some 95, .nilck (.t 90), none⟩,
     ⟨some 96, .faddr 2 (.t 95), none⟩,
     ⟨none, .store 1 (.t 96) (.t 94), none⟩]))
   (.seq (.region [
     ⟨some 98, .bin .eql (.t 76) (.k (.int .i64 5)), none⟩,
     ⟨some 97, .mv (.t 98), none⟩])
   (.cond (.t 97) (.seq (.region [
       ⟨some 99, .mv (.t 0), none⟩,
       ⟨some 100, .mv (.t 0), none⟩,
       ⟨some 101, .faddr 2 (.t 4), none⟩,
       ⟨some 102, .load 1 false (.t 101), none⟩,
       ⟨some 103, .call K.check_checker_there [(.t 100), (.t 102)], none⟩,
       ⟨some 104, .call K.check_checker_need [(.t 99), (.t 103), (.k (.int .i64 6))], none⟩])
     (.seq (.region [
       ⟨some 105, .mv (.t 0), none⟩,
       ⟨some 106, .mv (.t 0), none⟩,
       ⟨some 107, .faddr 3 (.t 4), none⟩,
       ⟨some 108, .load 1 false (.t 107), none⟩,
       ⟨some 109, .call K.check_checker_there [(.t 106), (.t 108)], none⟩,
       ⟨some 110, .call K.check_checker_need [(.t 105), (.t 109), (.k (.int .i64 6))], none⟩])
     (.region [
       ⟨some 111, .mv (.t 0), none⟩,
       ⟨some 112, .faddr 2 (.t 4), none⟩,
       ⟨some 113, .load 1 false (.t 112), none⟩,
       ⟨some 114, .faddr 3 (.t 4), none⟩,
       ⟨some 115, .load 1 false (.t 114), none⟩,
       ⟨some 116, .bin .neq (.t 113) (.t 115), none⟩,
       ⟨some 117, .call K.check_checker_need [(.t 111), (.t 116), (.k (.int .i64 7))], none⟩])))
     (.skip)))))))
 (.seq (.region [
   ⟨some 118, .mv (.t 0), none⟩,
   ⟨some 119, .faddr 8 (.t 4), none⟩,
   ⟨some 120, .load 1 false (.t 119), none⟩,
   ⟨some 121, .mv (.t 2), none⟩,
   ⟨some 122, .bin .add (.t 121) (.k (.int .i64 1)), none⟩,
   ⟨some 123, .call K.check_checker_block [(.t 118), (.t 120), (.t 122)], none⟩])
 (.seq (.region [
   ⟨some 124, .mv (.t 0), none⟩,
   ⟨some 125, .faddr 1 (.t 4), none⟩,
   ⟨some 126, .load 1 false (.t 125), none⟩,
   ⟨some 127, .nilck (.t 124), none⟩,
   ⟨some 128, .faddr 3 (.t 127), none⟩,
   ⟨none, .store 1 (.t 128) (.t 126), none⟩])
 (.region [
   ⟨some 129, .mv (.t 0), none⟩,
   ⟨some 130, .faddr 9 (.t 4), none⟩,
   ⟨some 131, .load 1 false (.t 130), none⟩,
   ⟨some 132, .mv (.t 2), none⟩,
   ⟨some 133, .bin .add (.t 132) (.k (.int .i64 1)), none⟩,
   ⟨some 134, .call K.check_checker_block [(.t 129), (.t 131), (.t 133)], none⟩])))))))))⟩
theorem eq_check_checker_stmt (Φ : Calls') (a0 a1 a2 : AV) (H : AH) (Q : Post) : fnE1 Φ ir_check_checker_stmt [a0, a1, a2] H Q = check_checker_stmt Φ a0 a1 a2 H Q := by kernel_rfl

/-! rabbet/kind.depth -/
def kind_depth_k1 (Φ : Calls') (Q : Post) : List AV → AH → Prop := fun j3 H4 =>
 Do (abin .add (sl j3 0) (.int .i64 1)) fun x43 =>
 Q x43 H4
def kind_depth_l2 (Φ : Calls') (a1 : AV) (x27 : AV) (x28 : AV) (Q : Post) : (List AV × AH) → ((List AV × AH) → Prop) → Prop := fun s29 L30 =>
 Do (abin .lss (sl s29.1 1) x28) fun x31 =>
 Gd x31 true (
 Do (aiaddr none 6 x27 (sl s29.1 1)) fun x32 =>
 Do (aload s29.2 6 true x32) fun x33 =>
 DoH (some (abox s29.2 true [.int .i64 0, .int .i64 0, .bool false, .lst .nil 0 [], .int .i64 0, .lst .nil 0 []])) fun x34 H35 =>
 Do (astore H35 6 x34 x33) fun H36 =>
 Do (aload H36 6 true x34) fun x37 =>
 Do (abin .sub a1 (.int .i64 1)) fun x38 =>
Φ K.kind_depth [x37, x38] H36 fun x39 H40 =>
 Do (aminmax true [(sl s29.1 0), x39]) fun x41 =>
 Do (abin .add (sl s29.1 1) (.int .i64 1)) fun x42 =>
 L30 ([x41, x42], H40)) (
 JoinP (kind_depth_k1 Φ Q) [(sl s29.1 0)] s29.2)
def kind_depth_k3 (Φ : Calls') (a1 : AV) (x1 : AV) (Q : Post) : List AV → AH → Prop := fun j6 H7 =>
 Do (afaddr 5 x1) fun x26 =>
 Do (aload H7 1 false x26) fun x27 =>
 Do (alen false x27) fun x28 =>
 LoopP (kind_depth_l2 Φ a1 x27 x28 Q) ([(sl j6 0), (.int .i64 0)], H7)
def kind_depth_l4 (Φ : Calls') (a1 : AV) (x1 : AV) (x9 : AV) (x10 : AV) (Q : Post) : (List AV × AH) → ((List AV × AH) → Prop) → Prop := fun s11 L12 =>
 Do (abin .lss (sl s11.1 1) x10) fun x13 =>
 Gd x13 true (
 Do (aiaddr none 9 x9 (sl s11.1 1)) fun x14 =>
 Do (aload s11.2 9 true x14) fun x15 =>
 DoH (some (abox s11.2 true [.str [], .int .i64 0, .int .i64 0, .bool false, .lst .nil 0 [], .int .i64 0, .lst .nil 0 [], .bool false, .int .i64 0])) fun x16 H17 =>
 Do (astore H17 9 x16 x15) fun H18 =>
 Do (afaddr 1 x16) fun x19 =>
 Do (aload H18 6 true x19) fun x20 =>
 Do (abin .sub a1 (.int .i64 1)) fun x21 =>
Φ K.kind_depth [x20, x21] H18 fun x22 H23 =>
 Do (aminmax true [(sl s11.1 0), x22]) fun x24 =>
 Do (abin .add (sl s11.1 1) (.int .i64 1)) fun x25 =>
 L12 ([x24, x25], H23)) (
 JoinP (kind_depth_k3 Φ a1 x1 Q) [(sl s11.1 0)] s11.2)
def kind_depth (Φ : Calls') (a0 : AV) (a1 : AV) (H : AH) (Q : Post) : Prop :=
 DoH (aboxv H false 6 a0) fun x1 H2 =>
 Do (abin .gtr a1 (.int .i64 1)) fun x5 =>
 Gd x5 true (
 Do (afaddr 3 x1) fun x8 =>
 Do (aload H2 1 false x8) fun x9 =>
 Do (alen false x9) fun x10 =>
 LoopP (kind_depth_l4 Φ a1 x1 x9 x10 Q) ([(.int .i64 0), (.int .i64 0)], H2)) (
 JoinP (kind_depth_k1 Φ Q) [(.int .i64 0)] H2)
def ir_kind_depth : AFunc := ⟨43, [.tmp 4],
 .seq (.region [
   ⟨some 2, .box false 6 (.t 0), none⟩,
   ⟨some 4, .mv (.k (.int .i64 0)), none⟩])
 (.seq (.region [
   ⟨some 5, .mv (.k (.int .i64 0)), none⟩])
 (.join [5] [7, 9, 10, 11, 12, 13, 14, 15, 16, 17, 18, 19, 20, 21, 22, 23, 24, 25, 26, 27, 28, 29, 30, 31, 32, 33, 34, 35, 36, 37, 38, 39, 40] (.seq (.region [
   ⟨some 10, .mv (.t 1), none⟩,
   ⟨some 11, .bin .gtr (.t 10) (.k (.int .i64 1)), none⟩])
 (.cond (.t 11) (.join [5] [7, 12, 13, 14, 15, 16, 17, 18, 19, 20, 21, 22, 23, 24, 25, 26] (.seq (.region [
     ⟨some 12, .faddr 3 (.t 2), none⟩,
     ⟨some 13, .load 1 false (.t 12), none⟩,
     ⟨some 14, .len false (.t 13), none⟩,
     ⟨some 15, .mv (.k (.int .i64 0)), none⟩])
   (.block 0 (.loop [5, 15] [7, 16, 17, 18, 19, 20, 21, 22, 23, 24, 25, 26] (.seq (.region [
     ⟨some 16, .bin .lss (.t 15) (.t 14), none⟩])
   (.seq (.cond (.t 16) (.skip)
     (.exit 0))
   (.seq (.block 1 (.seq (.region [
     ⟨some 17, .iaddr none 9 (.t 13) (.t 15), none⟩,
     ⟨some 18, .load 9 true (.t 17), none⟩,
     ⟨some 7, .alloc true [.str [], .int .i64 0, .int .i64 0, .bool false, .lst .nil 0 [], .int .i64 0, .lst .nil 0 [], .bool false, .int .i64 0], none⟩,
     ⟨none, .store 9 (.t 7) (.t 18), none⟩])
   (.region [
     ⟨some 19, .mv (.t 5), none⟩,
     ⟨some 20, .faddr 1 (.t 7), none⟩,
     ⟨some 21, .load 6 true (.t 20), none⟩,
     ⟨some 22, .mv (.t 1), none⟩,
     ⟨some 23, .bin .sub (.t 22) (.k (.int .i64 1)), none⟩,
     ⟨some 24, .call K.kind_depth [(.t 21), (.t 23)], none⟩,
     ⟨some 25, .minmax true [(.t 19), (.t 24)], none⟩,
     ⟨some 5, .mv (.t 25), none⟩])))
   (.region [
     ⟨some 26, .bin .add (.t 15) (.k (.int .i64 1)), none⟩,
     ⟨some 15, .mv (.t 26), none⟩])))))))
   (.seq (.region [
     ⟨some 27, .faddr 5 (.t 2), none⟩,
     ⟨some 28, .load 1 false (.t 27), none⟩,
     ⟨some 29, .len false (.t 28), none⟩,
     ⟨some 30, .mv (.k (.int .i64 0)), none⟩])
   (.block 2 (.loop [5, 30] [9, 31, 32, 33, 34, 35, 36, 37, 38, 39, 40] (.seq (.region [
     ⟨some 31, .bin .lss (.t 30) (.t 29), none⟩])
   (.seq (.cond (.t 31) (.skip)
     (.exit 2))
   (.seq (.block 3 (.seq (.region [
     ⟨some 32, .iaddr none 6 (.t 28) (.t 30), none⟩,
     ⟨some 33, .load 6 true (.t 32), none⟩,
     ⟨some 9, .alloc true [.int .i64 0, .int .i64 0, .bool false, .lst .nil 0 [], .int .i64 0, .lst .nil 0 []], none⟩,
     ⟨none, .store 6 (.t 9) (.t 33), none⟩])
   (.region [
     ⟨some 34, .mv (.t 5), none⟩,
     ⟨some 35, .load 6 true (.t 9), none⟩,
     ⟨some 36, .mv (.t 1), none⟩,
     ⟨some 37, .bin .sub (.t 36) (.k (.int .i64 1)), none⟩,
     ⟨some 38, .call K.kind_depth [(.t 35), (.t 37)], none⟩,
     ⟨some 39, .minmax true [(.t 34), (.t 38)], none⟩,
     ⟨some 5, .mv (.t 39), none⟩])))
   (.region [
     ⟨some 40, .bin .add (.t 30) (.k (.int .i64 1)), none⟩,
     ⟨some 30, .mv (.t 40), none⟩]))))))))
   (.skip)))
 (.seq (.region [
   ⟨some 41, .mv (.t 5), none⟩,
   ⟨some 42, .bin .add (.t 41) (.k (.int .i64 1)), none⟩,
   ⟨some 4, .mv (.t 42), none⟩])
 (.ret))))⟩
theorem eq_kind_depth (Φ : Calls') (a0 a1 : AV) (H : AH) (Q : Post) : fnE1 Φ ir_kind_depth [a0, a1] H Q = kind_depth Φ a0 a1 H Q := by kernel_rfl

/-! rabbet/kind.only -/
def kind_only_k1 (Φ : Calls') (x1 : AV) (x21 : AV) (Q : Post) : List AV → AH → Prop := fun j40 H41 =>
 Gd3 (sl j40 0) true (
 Do (aun .not x21) fun x49 =>
 Gd3 x49 false (
 Do (afaddr 5 x1) fun x50 =>
 Do (aload H41 1 false x50) fun x51 =>
 Do (alen false x51) fun x52 =>
 Do (abin .eql x52 (.int .i64 1)) fun x53 =>
 Q x53 H41) (
 Q (.bool true) H41) (
 False)) (
 Q (.bool false) H41) (
 False)
def kind_only_k2 (Φ : Calls') (x1 : AV) (x21 : AV) (Q : Post) : List AV → AH → Prop := fun j31 H32 =>
 Gd3 (sl j31 0) true (
 Gd3 x21 false (
 Do (afaddr 4 x1) fun x42 =>
 Do (aload H32 1 false x42) fun x43 =>
 Do (abin .eql x43 (.int .i64 0)) fun x44 =>
 Gd3 x44 true (
 Do (afaddr 5 x1) fun x45 =>
 Do (aload H32 1 false x45) fun x46 =>
 Do (alen false x46) fun x47 =>
 Do (abin .eql x47 (.int .i64 0)) fun x48 =>
 JoinP (kind_only_k1 Φ x1 x21 Q) [x48] H32) (
 JoinP (kind_only_k1 Φ x1 x21 Q) [(.bool false)] H32) (
 False)) (
 JoinP (kind_only_k1 Φ x1 x21 Q) [(.bool true)] H32) (
 False)) (
 JoinP (kind_only_k1 Φ x1 x21 Q) [(.bool false)] H32) (
 False)
def kind_only_k3 (Φ : Calls') (x1 : AV) (x21 : AV) (j11 : List AV) (Q : Post) : List AV → AH → Prop := fun j26 H27 =>
 Gd3 (sl j26 0) true (
 Gd3 (sl j11 0) false (
 Do (afaddr 2 x1) fun x33 =>
 Do (aload H27 1 false x33) fun x34 =>
 Do (aun .not x34) fun x35 =>
 Gd3 x35 true (
 Do (afaddr 3 x1) fun x36 =>
 Do (aload H27 1 false x36) fun x37 =>
 Do (alen false x37) fun x38 =>
 Do (abin .eql x38 (.int .i64 0)) fun x39 =>
 JoinP (kind_only_k2 Φ x1 x21 Q) [x39] H27) (
 JoinP (kind_only_k2 Φ x1 x21 Q) [(.bool false)] H27) (
 False)) (
 JoinP (kind_only_k2 Φ x1 x21 Q) [(.bool true)] H27) (
 False)) (
 JoinP (kind_only_k2 Φ x1 x21 Q) [(.bool false)] H27) (
 False)
def kind_only_k4 (Φ : Calls') (x1 : AV) (x21 : AV) (j3 : List AV) (j11 : List AV) (Q : Post) : List AV → AH → Prop := fun j24 H25 =>
 Gd3 (sl j24 0) true (
 Gd3 (sl j3 0) false (
 Do (afaddr 1 x1) fun x28 =>
 Do (aload H25 1 false x28) fun x29 =>
 Do (abin .eql x29 (.int .i64 0)) fun x30 =>
 JoinP (kind_only_k3 Φ x1 x21 j11 Q) [x30] H25) (
 JoinP (kind_only_k3 Φ x1 x21 j11 Q) [(.bool true)] H25) (
 False)) (
 JoinP (kind_only_k3 Φ x1 x21 j11 Q) [(.bool false)] H25) (
 False)
def kind_only_k5 (Φ : Calls') (x1 : AV) (x21 : AV) (j3 : List AV) (j11 : List AV) (Q : Post) : List AV → AH → Prop := fun j22 H23 =>
 Gd3 (sl j22 0) false (
 JoinP (kind_only_k4 Φ x1 x21 j3 j11 Q) [x21] H23) (
 JoinP (kind_only_k4 Φ x1 x21 j3 j11 Q) [(.bool true)] H23) (
 False)
def kind_only_k6 (Φ : Calls') (x1 : AV) (j3 : List AV) (Q : Post) : List AV → AH → Prop := fun j11 H12 =>
 Do (afaddr 0 x1) fun x19 =>
 Do (aload H12 1 false x19) fun x20 =>
 Do (abin .eql x20 (.int .i64 5)) fun x21 =>
 Gd3 (sl j3 0) false (
 JoinP (kind_only_k5 Φ x1 x21 j3 j11 Q) [(sl j11 0)] H12) (
 JoinP (kind_only_k5 Φ x1 x21 j3 j11 Q) [(.bool true)] H12) (
 False)
def kind_only_k7 (Φ : Calls') (x1 : AV) (Q : Post) : List AV → AH → Prop := fun j3 H4 =>
 Do (afaddr 0 x1) fun x13 =>
 Do (aload H4 1 false x13) fun x14 =>
 Do (abin .eql x14 (.int .i64 3)) fun x15 =>
 Gd3 x15 false (
 Do (afaddr 0 x1) fun x16 =>
 Do (aload H4 1 false x16) fun x17 =>
 Do (abin .eql x17 (.int .i64 4)) fun x18 =>
 JoinP (kind_only_k6 Φ x1 j3 Q) [x18] H4) (
 JoinP (kind_only_k6 Φ x1 j3 Q) [(.bool true)] H4) (
 False)
def kind_only (Φ : Calls') (a0 : AV) (H : AH) (Q : Post) : Prop :=
 DoH (aboxv H false 6 a0) fun x1 H2 =>
 Do (afaddr 0 x1) fun x5 =>
 Do (aload H2 1 false x5) fun x6 =>
 Do (abin .eql x6 (.int .i64 1)) fun x7 =>
 Gd3 x7 false (
 Do (afaddr 0 x1) fun x8 =>
 Do (aload H2 1 false x8) fun x9 =>
 Do (abin .eql x9 (.int .i64 2)) fun x10 =>
 JoinP (kind_only_k7 Φ x1 Q) [x10] H2) (
 JoinP (kind_only_k7 Φ x1 Q) [(.bool true)] H2) (
 False)
def ir_kind_only : AFunc := ⟨78, [.tmp 2],
 .seq (.region [
   ⟨some 1, .box false 6 (.t 0), none⟩,
   ⟨some 2, .mv (.k (.bool false)), none⟩])
 (.join [3] [6, 7, 8, 9, 10, 11, 12, 13] (.region [
   ⟨some 6, .faddr 0 (.t 1), none⟩,
   ⟨some 7, .load 1 false (.t 6), none⟩,
   ⟨some 8, .bin .eql (.t 7) (.k (.int .i64 1)), none⟩,
   ⟨some 9, .mv (.t 8), none⟩,
   ⟨some 10, .faddr 0 (.t 1), some (9, false)⟩,
   ⟨some 11, .load 1 false (.t 10), some (9, false)⟩,
   ⟨some 12, .bin .eql (.t 11) (.k (.int .i64 2)), some (9, false)⟩,
   ⟨some 13, .pick (.t 9) (.k (.bool true)) (.t 12), none⟩,
   ⟨some 3, .mv (.t 13), none⟩])
 (.join [4] [14, 15, 16, 17, 18, 19, 20, 21] (.region [
   ⟨some 14, .faddr 0 (.t 1), none⟩,
   ⟨some 15, .load 1 false (.t 14), none⟩,
   ⟨some 16, .bin .eql (.t 15) (.k (.int .i64 3)), none⟩,
   ⟨some 17, .mv (.t 16), none⟩,
   ⟨some 18, .faddr 0 (.t 1), some (17, false)⟩,
   ⟨some 19, .load 1 false (.t 18), some (17, false)⟩,
   ⟨some 20, .bin .eql (.t 19) (.k (.int .i64 4)), some (17, false)⟩,
   ⟨some 21, .pick (.t 17) (.k (.bool true)) (.t 20), none⟩,
   ⟨some 4, .mv (.t 21), none⟩])
 (.seq (.region [
   ⟨some 22, .faddr 0 (.t 1), none⟩,
   ⟨some 23, .load 1 false (.t 22), none⟩,
   ⟨some 24, .bin .eql (.t 23) (.k (.int .i64 5)), none⟩,
   ⟨some 5, .mv (.t 24), none⟩])
 (.seq (.rjoin [28] [25, 26, 27] [
   ⟨some 25, .mv (.t 3), none⟩,
   ⟨some 26, .mv (.t 25), none⟩,
   ⟨some 27, .mv (.t 4), some (26, false)⟩,
   ⟨some 28, .pick (.t 26) (.k (.bool true)) (.t 27), none⟩]
 (.rjoin [31] [29, 30] [
   ⟨some 29, .mv (.t 28), none⟩,
   ⟨some 30, .mv (.t 5), some (29, false)⟩,
   ⟨some 31, .pick (.t 29) (.k (.bool true)) (.t 30), none⟩]
 (.rjoin [39] [32, 33, 34, 35, 36, 37, 38] [
   ⟨some 32, .mv (.t 31), none⟩,
   ⟨some 33, .mv (.t 3), some (32, true)⟩,
   ⟨some 34, .mv (.t 33), some (32, true)⟩,
   ⟨some 35, .faddr 1 (.t 1), some (34, false)⟩,
   ⟨some 36, .load 1 false (.t 35), some (34, false)⟩,
   ⟨some 37, .bin .eql (.t 36) (.k (.int .i64 0)), some (34, false)⟩,
   ⟨some 38, .pick (.t 34) (.k (.bool true)) (.t 37), some (32, true)⟩,
   ⟨some 39, .pick (.t 32) (.t 38) (.k (.bool false)), none⟩]
 (.rjoin [53] [40, 41, 42, 43, 44, 45, 46, 47, 48, 49, 50, 51, 52] [
   ⟨some 40, .mv (.t 39), none⟩,
   ⟨some 41, .mv (.t 4), some (40, true)⟩,
   ⟨some 42, .mv (.t 41), some (40, true)⟩,
   ⟨some 43, .faddr 2 (.t 1), some (42, false)⟩,
   ⟨some 44, .load 1 false (.t 43), some (42, false)⟩,
   ⟨some 45, .un .not (.t 44), some (42, false)⟩,
   ⟨some 46, .mv (.t 45), some (42, false)⟩,
   ⟨some 47, .faddr 3 (.t 1), some (46, true)⟩,
   ⟨some 48, .load 1 false (.t 47), some (46, true)⟩,
   ⟨some 49, .len false (.t 48), some (46, true)⟩,
   ⟨some 50, .bin .eql (.t 49) (.k (.int .i64 0)), some (46, true)⟩,
   ⟨some 51, .pick (.t 46) (.t 50) (.k (.bool false)), some (42, false)⟩,
   ⟨some 52, .pick (.t 42) (.k (.bool true)) (.t 51), some (40, true)⟩,
   ⟨some 53, .pick (.t 40) (.t 52) (.k (.bool false)), none⟩]
 (.rjoin [67] [54, 55, 56, 57, 58, 59, 60, 61, 62, 63, 64, 65, 66] [
   ⟨some 54, .mv (.t 53), none⟩,
   ⟨some 55, .mv (.t 5), some (54, true)⟩,
   ⟨some 56, .mv (.t 55), some (54, true)⟩,
   ⟨some 57, .faddr 4 (.t 1), some (56, false)⟩,
   ⟨some 58, .load 1 false (.t 57), some (56, false)⟩,
   ⟨some 59, .bin .eql (.t 58) (.k (.int .i64 0)), some (56, false)⟩,
   ⟨some 60, .mv (.t 59), some (56, false)⟩,
   ⟨some 61, .faddr 5 (.t 1), some (60, true)⟩,
   ⟨some 62, .load 1 false (.t 61), some (60, true)⟩,
   ⟨some 63, .len false (.t 62), some (60, true)⟩,
   ⟨some 64, .bin .eql (.t 63) (.k (.int .i64 0)), some (60, true)⟩,
   ⟨some 65, .pick (.t 60) (.t 64) (.k (.bool false)), some (56, false)⟩,
   ⟨some 66, .pick (.t 56) (.k (.bool true)) (.t 65), some (54, true)⟩,
   ⟨some 67, .pick (.t 54) (.t 66) (.k (.bool false)), none⟩]
 (.region [
   ⟨some 68, .mv (.t 67), none⟩,
   ⟨some 69, .mv (.t 5), some (68, true)⟩,
   ⟨some 70, .un .not (.t 69), some (68, true)⟩,
   ⟨some 71, .mv (.t 70), some (68, true)⟩,
   ⟨some 72, .faddr 5 (.t 1), some (71, false)⟩,
   ⟨some 73, .load 1 false (.t 72), some (71, false)⟩,
   ⟨some 74, .len false (.t 73), some (71, false)⟩,
   ⟨some 75, .bin .eql (.t 74) (.k (.int .i64 1)), some (71, false)⟩,
   ⟨some 76, .pick (.t 71) (.k (.bool true)) (.t 75), some (68, true)⟩,
   ⟨some 77, .pick (.t 68) (.t 76) (.k (.bool false)), none⟩,
   ⟨some 2, .mv (.t 77), none⟩]))))))
 (.ret)))))⟩
theorem eq_kind_only (Φ : Calls') (a0 : AV) (H : AH) (Q : Post) : fnE1 Φ ir_kind_only [a0] H Q = kind_only Φ a0 H Q := by kernel_rfl

/-! rabbet/kind.power -/
def kind_power_k1 (Φ : Calls') (a0 : AV) (Q : Post) : List AV → AH → Prop := fun j1 H2 =>
 Gd3 (sl j1 0) true (
 Do (abin .sub a0 (.int .i64 1)) fun x5 =>
 Do (abin .and a0 x5) fun x6 =>
 Do (abin .eql x6 (.int .i64 0)) fun x7 =>
 Q x7 H2) (
 Q (.bool false) H2) (
 False)
def kind_power (Φ : Calls') (a0 : AV) (a1 : AV) (H : AH) (Q : Post) : Prop :=
 Do (abin .geq a0 (.int .i64 1)) fun x3 =>
 Gd3 x3 true (
 Do (abin .leq a0 a1) fun x4 =>
 JoinP (kind_power_k1 Φ a0 Q) [x4] H) (
 JoinP (kind_power_k1 Φ a0 Q) [(.bool false)] H) (
 False)
def ir_kind_power : AFunc := ⟨19, [.tmp 4],
 .seq (.region [
   ⟨some 4, .mv (.k (.bool false)), none⟩])
 (.seq (.rjoin [11] [5, 6, 7, 8, 9, 10] [
   ⟨some 5, .mv (.t 0), none⟩,
   ⟨some 6, .bin .geq (.t 5) (.k (.int .i64 1)), none⟩,
   ⟨some 7, .mv (.t 6), none⟩,
   ⟨some 8, .mv (.t 0), some (7, true)⟩,
   ⟨some 9, .mv (.t 1), some (7, true)⟩,
   ⟨some 10, .bin .leq (.t 8) (.t 9), some (7, true)⟩,
   ⟨some 11, .pick (.t 7) (.t 10) (.k (.bool false)), none⟩]
 (.region [
   ⟨some 12, .mv (.t 11), none⟩,
   ⟨some 13, .mv (.t 0), some (12, true)⟩,
   ⟨some 14, .mv (.t 0), some (12, true)⟩,
   ⟨some 15, .bin .sub (.t 14) (.k (.int .i64 1)), some (12, true)⟩,
   ⟨some 16, .bin .and (.t 13) (.t 15), some (12, true)⟩,
   ⟨some 17, .bin .eql (.t 16) (.k (.int .i64 0)), some (12, true)⟩,
   ⟨some 18, .pick (.t 12) (.t 17) (.k (.bool false)), none⟩,
   ⟨some 4, .mv (.t 18), none⟩]))
 (.ret))⟩
theorem eq_kind_power (Φ : Calls') (a0 a1 : AV) (H : AH) (Q : Post) : fnE1 Φ ir_kind_power [a0, a1] H Q = kind_power Φ a0 a1 H Q := by kernel_rfl

/-! rabbet/kind.group -/
def kind_group_l1 (Φ : Calls') (x1 : AV) (x17 : AV) (Q : Post) : (List AV × AH) → ((List AV × AH) → Prop) → Prop := fun s18 L19 =>
 Do (abin .lss (sl s18.1 0) x17) fun x20 =>
 Gd x20 true (
 Do (aload s18.2 6 true x1) fun x21 =>
Φ K.kind_field [x21, (sl s18.1 0)] s18.2 fun x22 H23 =>
 Do (abin .neq x22 (.int .i64 0)) fun x24 =>
 Gd x24 true (
 Q x22 H23) (
 Do (abin .add (sl s18.1 0) (.int .i64 1)) fun x25 =>
 L19 ([x25], H23))) (
 Q (.int .i64 0) s18.2)
def kind_group_k2 (Φ : Calls') (x1 : AV) (Q : Post) : List AV → AH → Prop := fun j3 H4 =>
 Do (afaddr 3 x1) fun x15 =>
 Do (aload H4 1 false x15) fun x16 =>
 Do (alen false x16) fun x17 =>
 LoopP (kind_group_l1 Φ x1 x17 Q) ([(.int .i64 0)], H4)
def kind_group_k3 (Φ : Calls') (x1 : AV) (Q : Post) : List AV → AH → Prop := fun j5 H6 =>
 Gd (sl j5 0) true (
 Q (.int .i64 12) H6) (
 JoinP (kind_group_k2 Φ x1 Q) [] H6)
def kind_group (Φ : Calls') (a0 : AV) (H : AH) (Q : Post) : Prop :=
 DoH (aboxv H false 6 a0) fun x1 H2 =>
 Do (afaddr 3 x1) fun x7 =>
 Do (aload H2 1 false x7) fun x8 =>
 Do (alen false x8) fun x9 =>
 Do (abin .lss x9 (.int .i64 1)) fun x10 =>
 Gd3 x10 false (
 Do (afaddr 3 x1) fun x11 =>
 Do (aload H2 1 false x11) fun x12 =>
 Do (alen false x12) fun x13 =>
 Do (abin .gtr x13 (.int .i64 32)) fun x14 =>
 JoinP (kind_group_k3 Φ x1 Q) [x14] H2) (
 JoinP (kind_group_k3 Φ x1 Q) [(.bool true)] H2) (
 False)
def ir_kind_group : AFunc := ⟨28, [.tmp 2],
 .seq (.region [
   ⟨some 1, .box false 6 (.t 0), none⟩,
   ⟨some 2, .mv (.k (.int .i64 0)), none⟩])
 (.join [] [2, 5, 6, 7, 8, 9, 10, 11, 12, 13, 14] (.join [14] [5, 6, 7, 8, 9, 10, 11, 12, 13] (.region [
   ⟨some 5, .faddr 3 (.t 1), none⟩,
   ⟨some 6, .load 1 false (.t 5), none⟩,
   ⟨some 7, .len false (.t 6), none⟩,
   ⟨some 8, .bin .lss (.t 7) (.k (.int .i64 1)), none⟩,
   ⟨some 9, .mv (.t 8), none⟩,
   ⟨some 10, .faddr 3 (.t 1), some (9, false)⟩,
   ⟨some 11, .load 1 false (.t 10), some (9, false)⟩,
   ⟨some 12, .len false (.t 11), some (9, false)⟩,
   ⟨some 13, .bin .gtr (.t 12) (.k (.int .i64 32)), some (9, false)⟩,
   ⟨some 14, .pick (.t 9) (.k (.bool true)) (.t 13), none⟩])
 (.cond (.t 14) (.seq (.region [
     ⟨some 2, .mv (.k (.int .i64 12)), none⟩])
   (.ret))
   (.skip)))
 (.seq (.seq (.region [
   ⟨some 15, .faddr 3 (.t 1), none⟩,
   ⟨some 16, .load 1 false (.t 15), none⟩,
   ⟨some 17, .len false (.t 16), none⟩,
   ⟨some 18, .mv (.k (.int .i64 0)), none⟩])
 (.block 0 (.loop [18] [2, 3, 4, 19, 20, 21, 22, 23, 24, 25, 26, 27] (.seq (.region [
   ⟨some 19, .bin .lss (.t 18) (.t 17), none⟩])
 (.seq (.cond (.t 19) (.skip)
   (.exit 0))
 (.seq (.block 1 (.seq (.region [
   ⟨some 20, .mv (.t 18), none⟩,
   ⟨some 3, .mv (.t 20), none⟩])
 (.seq (.region [
   ⟨some 21, .load 6 true (.t 1), none⟩,
   ⟨some 22, .mv (.t 3), none⟩,
   ⟨some 23, .call K.kind_field [(.t 21), (.t 22)], none⟩,
   ⟨some 4, .mv (.t 23), none⟩])
 (.seq (.region [
   ⟨some 24, .mv (.t 4), none⟩,
   ⟨some 25, .bin .neq (.t 24) (.k (.int .i64 0)), none⟩])
 (.cond (.t 25) (.seq (.region [
     ⟨some 26, .mv (.t 4), none⟩,
     ⟨some 2, .mv (.t 26), none⟩])
   (.ret))
   (.skip))))))
 (.region [
   ⟨some 27, .bin .add (.t 18) (.k (.int .i64 1)), none⟩,
   ⟨some 18, .mv (.t 27), none⟩])))))))
 (.seq (.region [
   ⟨some 2, .mv (.k (.int .i64 0)), none⟩])
 (.ret))))⟩
theorem eq_kind_group (Φ : Calls') (a0 : AV) (H : AH) (Q : Post) : fnE1 Φ ir_kind_group [a0] H Q = kind_group Φ a0 H Q := by kernel_rfl

/-! rabbet/rabbetref06.size -/
def rabbetref06_size_l1 (Φ : Calls') (a0 : AV) (a1 : AV) (Q : Post) : (List AV × AH) → ((List AV × AH) → Prop) → Prop := fun s1 L2 =>
 Do (abin .leq (sl s1.1 0) a1) fun x3 =>
 Gd x3 true (
 Do (abin .eql a0 (sl s1.1 0)) fun x4 =>
 Gd x4 true (
 Q (.bool true) s1.2) (
 Do (abin .mul (.int .i64 2) (sl s1.1 0)) fun x5 =>
 L2 ([x5], s1.2))) (
 Q (.bool false) s1.2)
def rabbetref06_size (Φ : Calls') (a0 : AV) (a1 : AV) (H : AH) (Q : Post) : Prop :=
 LoopP (rabbetref06_size_l1 Φ a0 a1 Q) ([(.int .i64 1)], H)
def ir_rabbetref06_size : AFunc := ⟨14, [.tmp 4],
 .seq (.region [
   ⟨some 4, .mv (.k (.bool false)), none⟩])
 (.seq (.seq (.region [
   ⟨some 5, .mv (.k (.int .i64 1)), none⟩])
 (.block 0 (.loop [5] [4, 6, 7, 8, 9, 10, 11, 12, 13] (.seq (.seq (.region [
   ⟨some 6, .mv (.t 5), none⟩,
   ⟨some 7, .mv (.t 1), none⟩,
   ⟨some 8, .bin .leq (.t 6) (.t 7), none⟩])
 (.cond (.t 8) (.skip)
   (.exit 0)))
 (.seq (.block 1 (.seq (.region [
   ⟨some 11, .mv (.t 0), none⟩,
   ⟨some 12, .mv (.t 5), none⟩,
   ⟨some 13, .bin .eql (.t 11) (.t 12), none⟩])
 (.cond (.t 13) (.seq (.region [
     ⟨some 4, .mv (.k (.bool true)), none⟩])
   (.ret))
   (.skip))))
 (.region [
   ⟨some 9, .mv (.t 5), none⟩,
   ⟨some 10, .bin .mul (.k (.int .i64 2)) (.t 9), none⟩,
   ⟨some 5, .mv (.t 10), none⟩]))))))
 (.seq (.region [
   ⟨some 4, .mv (.k (.bool false)), none⟩])
 (.ret)))⟩
theorem eq_rabbetref06_size (Φ : Calls') (a0 a1 : AV) (H : AH) (Q : Post) : fnE1 Φ ir_rabbetref06_size [a0, a1] H Q = rabbetref06_size Φ a0 a1 H Q := by kernel_rfl

/-! rabbet/rabbetref06.Name -/
def rabbetref06_Name_k1 (Φ : Calls') (s9 : List AV × AH) (L10 : (List AV × AH) → Prop) (Q : Post) : List AV → AH → Prop := fun j13 H14 =>
 Do (abin .add (sl s9.1 0) (.int .i64 1)) fun x27 =>
 L10 ([x27], H14)
def rabbetref06_Name_k2 (Φ : Calls') (s9 : List AV × AH) (L10 : (List AV × AH) → Prop) (Q : Post) : List AV → AH → Prop := fun j20 H21 =>
 Gd (sl j20 0) true (
 Q (.bool false) H21) (
 JoinP (rabbetref06_Name_k1 Φ s9 L10 Q) [] H21)
def rabbetref06_Name_k3 (Φ : Calls') (x15 : AV) (s9 : List AV × AH) (L10 : (List AV × AH) → Prop) (Q : Post) : List AV → AH → Prop := fun j16 H17 =>
 Do (aun .not (sl j16 0)) fun x22 =>
 Gd3 x22 true (
 Do (abin .eql (sl s9.1 0) (.int .i64 0)) fun x23 =>
 Gd3 x23 false (
 Do (abin .neq x15 (.int .u8 95)) fun x24 =>
 Gd3 x24 true (
 Do (abin .lss x15 (.int .u8 48)) fun x25 =>
 Gd3 x25 false (
 Do (abin .gtr x15 (.int .u8 57)) fun x26 =>
 JoinP (rabbetref06_Name_k2 Φ s9 L10 Q) [x26] H17) (
 JoinP (rabbetref06_Name_k2 Φ s9 L10 Q) [(.bool true)] H17) (
 False)) (
 JoinP (rabbetref06_Name_k2 Φ s9 L10 Q) [(.bool false)] H17) (
 False)) (
 JoinP (rabbetref06_Name_k2 Φ s9 L10 Q) [(.bool true)] H17) (
 False)) (
 JoinP (rabbetref06_Name_k2 Φ s9 L10 Q) [(.bool false)] H17) (
 False)
def rabbetref06_Name_l4 (Φ : Calls') (a0 : AV) (Q : Post) : (List AV × AH) → ((List AV × AH) → Prop) → Prop := fun s9 L10 =>
 Do (alen true a0) fun x11 =>
 Do (abin .lss (sl s9.1 0) x11) fun x12 =>
 Gd x12 true (
 Do (aidxs a0 (sl s9.1 0)) fun x15 =>
 Do (abin .geq x15 (.int .u8 97)) fun x18 =>
 Gd3 x18 true (
 Do (abin .leq x15 (.int .u8 122)) fun x19 =>
 JoinP (rabbetref06_Name_k3 Φ x15 s9 L10 Q) [x19] s9.2) (
 JoinP (rabbetref06_Name_k3 Φ x15 s9 L10 Q) [(.bool false)] s9.2) (
 False)) (
 Q (.bool true) s9.2)
def rabbetref06_Name_k5 (Φ : Calls') (a0 : AV) (Q : Post) : List AV → AH → Prop := fun j1 H2 =>
 LoopP (rabbetref06_Name_l4 Φ a0 Q) ([(.int .i64 0)], H2)
def rabbetref06_Name_k6 (Φ : Calls') (a0 : AV) (Q : Post) : List AV → AH → Prop := fun j3 H4 =>
 Gd (sl j3 0) true (
 Q (.bool false) H4) (
 JoinP (rabbetref06_Name_k5 Φ a0 Q) [] H4)
def rabbetref06_Name (Φ : Calls') (a0 : AV) (H : AH) (Q : Post) : Prop :=
 Do (alen true a0) fun x5 =>
 Do (abin .eql x5 (.int .i64 0)) fun x6 =>
 Gd3 x6 false (
 Do (alen true a0) fun x7 =>
 Do (abin .gtr x7 (.int .i64 16)) fun x8 =>
 JoinP (rabbetref06_Name_k6 Φ a0 Q) [x8] H) (
 JoinP (rabbetref06_Name_k6 Φ a0 Q) [(.bool true)] H) (
 False)
def ir_rabbetref06_Name : AFunc := ⟨47, [.tmp 2],
 .seq (.region [
   ⟨some 2, .mv (.k (.bool false)), none⟩])
 (.join [] [2, 6, 7, 8, 9, 10, 11, 12, 13] (.join [13] [6, 7, 8, 9, 10, 11, 12] (.region [
   ⟨some 6, .mv (.t 0), none⟩,
   ⟨some 7, .len true (.t 6), none⟩,
   ⟨some 8, .bin .eql (.t 7) (.k (.int .i64 0)), none⟩,
   ⟨some 9, .mv (.t 8), none⟩,
   ⟨some 10, .mv (.t 0), some (9, false)⟩,
   ⟨some 11, .len true (.t 10), some (9, false)⟩,
   ⟨some 12, .bin .gtr (.t 11) (.k (.int .i64 16)), some (9, false)⟩,
   ⟨some 13, .pick (.t 9) (.k (.bool true)) (.t 12), none⟩])
 (.cond (.t 13) (.seq (.region [
     ⟨some 2, .mv (.k (.bool false)), none⟩])
   (.ret))
   (.skip)))
 (.seq (.seq (.region [
   ⟨some 3, .mv (.k (.int .i64 0)), none⟩])
 (.block 0 (.loop [3] [2, 4, 5, 14, 15, 16, 17, 18, 19, 20, 21, 22, 23, 24, 25, 26, 27, 28, 29, 30, 31, 32, 33, 34, 35, 36, 37, 38, 39, 40, 41, 42, 43, 44, 45, 46] (.seq (.seq (.region [
   ⟨some 14, .mv (.t 3), none⟩,
   ⟨some 15, .mv (.t 0), none⟩,
   ⟨some 16, .len true (.t 15), none⟩,
   ⟨some 17, .bin .lss (.t 14) (.t 16), none⟩])
 (.cond (.t 17) (.skip)
   (.exit 0)))
 (.join [] [2, 4, 5, 20, 21, 22, 23, 24, 25, 26, 27, 28, 29, 30, 31, 32, 33, 34, 35, 36, 37, 38, 39, 40, 41, 42, 43, 44, 45, 46] (.block 1 (.seq (.region [
   ⟨some 20, .mv (.t 0), none⟩,
   ⟨some 21, .mv (.t 3), none⟩,
   ⟨some 22, .idxs (.t 20) (.t 21), none⟩,
   ⟨some 4, .mv (.t 22), none⟩])
 (.join [5] [23, 24, 25, 26, 27, 28] (.region [
   ⟨some 23, .mv (.t 4), none⟩,
   ⟨some 24, .bin .geq (.t 23) (.k (.int .u8 97)), none⟩,
   ⟨some 25, .mv (.t 24), none⟩,
   ⟨some 26, .mv (.t 4), some (25, true)⟩,
   ⟨some 27, .bin .leq (.t 26) (.k (.int .u8 122)), some (25, true)⟩,
   ⟨some 28, .pick (.t 25) (.t 27) (.k (.bool false)), none⟩,
   ⟨some 5, .mv (.t 28), none⟩])
 (.join [46] [29, 30, 31, 32, 33, 34, 35, 36, 37, 38, 39, 40, 41, 42, 43, 44, 45] (.region [
   ⟨some 29, .mv (.t 5), none⟩,
   ⟨some 30, .un .not (.t 29), none⟩,
   ⟨some 31, .mv (.t 30), none⟩,
   ⟨some 32, .mv (.t 3), some (31, true)⟩,
   ⟨some 33, .bin .eql (.t 32) (.k (.int .i64 0)), some (31, true)⟩,
   ⟨some 34, .mv (.t 33), some (31, true)⟩,
   ⟨some 35, .mv (.t 4), some (34, false)⟩,
   ⟨some 36, .bin .neq (.t 35) (.k (.int .u8 95)), some (34, false)⟩,
   ⟨some 37, .mv (.t 36), some (34, false)⟩,
   ⟨some 38, .mv (.t 4), some (37, true)⟩,
   ⟨some 39, .bin .lss (.t 38) (.k (.int .u8 48)), some (37, true)⟩,
   ⟨some 40, .mv (.t 39), some (37, true)⟩,
   ⟨some 41, .mv (.t 4), some (40, false)⟩,
   ⟨some 42, .bin .gtr (.t 41) (.k (.int .u8 57)), some (40, false)⟩,
   ⟨some 43, .pick (.t 40) (.k (.bool true)) (.t 42), some (37, true)⟩,
   ⟨some 44, .pick (.t 37) (.t 43) (.k (.bool false)), some (34, false)⟩,
   ⟨some 45, .pick (.t 34) (.k (.bool true)) (.t 44), some (31, true)⟩,
   ⟨some 46, .pick (.t 31) (.t 45) (.k (.bool false)), none⟩])
 (.cond (.t 46) (.seq (.region [
     ⟨some 2, .mv (.k (.bool false)), none⟩])
   (.ret))
   (.skip))))))
 (.region [
   ⟨some 18, .mv (.t 3), none⟩,
   ⟨some 19, .bin .add (.t 18) (.k (.int .i64 1)), none⟩,
   ⟨some 3, .mv (.t 19), none⟩]))))))
 (.seq (.region [
   ⟨some 2, .mv (.k (.bool true)), none⟩])
 (.ret))))⟩
theorem eq_rabbetref06_Name (Φ : Calls') (a0 : AV) (H : AH) (Q : Post) : fnE1 Φ ir_rabbetref06_Name [a0] H Q = rabbetref06_Name Φ a0 H Q := by kernel_rfl

/-! rabbet/kind.letter -/
def kind_letter (Φ : Calls') (a0 : AV) (H : AH) (Q : Post) : Prop :=
 Do (abin .geq a0 (.int .i32 97)) fun x1 =>
 Gd3 x1 true (
 Do (abin .leq a0 (.int .i32 122)) fun x2 =>
 Q x2 H) (
 Q (.bool false) H) (
 False)
def ir_kind_letter : AFunc := ⟨9, [.tmp 2],
 .seq (.region [
   ⟨some 2, .mv (.k (.bool false)), none⟩])
 (.seq (.region [
   ⟨some 3, .mv (.t 0), none⟩,
   ⟨some 4, .bin .geq (.t 3) (.k (.int .i32 97)), none⟩,
   ⟨some 5, .mv (.t 4), none⟩,
   ⟨some 6, .mv (.t 0), some (5, true)⟩,
   ⟨some 7, .bin .leq (.t 6) (.k (.int .i32 122)), some (5, true)⟩,
   ⟨some 8, .pick (.t 5) (.t 7) (.k (.bool false)), none⟩,
   ⟨some 2, .mv (.t 8), none⟩])
 (.ret))⟩
theorem eq_kind_letter (Φ : Calls') (a0 : AV) (H : AH) (Q : Post) : fnE1 Φ ir_kind_letter [a0] H Q = kind_letter Φ a0 H Q := by kernel_rfl

/-! slices.Contains[[]string,string] -/
def slices_Contains___string_string_ (Φ : Calls') (a0 : AV) (a1 : AV) (H : AH) (Q : Post) : Prop :=
Φ K.slices_Index___string_string_ [a0, a1] H fun x1 H2 =>
 Do (abin .geq x1 (.int .i64 0)) fun x3 =>
 Q x3 H2
def ir_slices_Contains___string_string_ : AFunc := ⟨9, [.tmp 4],
 .seq (.region [
   ⟨some 4, .mv (.k (.bool false)), none⟩])
 (.seq (.region [
   ⟨some 5, .mv (.t 0), none⟩,
   ⟨some 6, .mv (.t 1), none⟩,
   ⟨some 7, .call K.slices_Index___string_string_ [(.t 5), (.t 6)], none⟩,
   ⟨some 8, .bin .geq (.t 7) (.k (.int .i64 0)), none⟩,
   ⟨some 4, .mv (.t 8), none⟩])
 (.ret))⟩
theorem eq_slices_Contains___string_string_ (Φ : Calls') (a0 a1 : AV) (H : AH) (Q : Post) : fnE1 Φ ir_slices_Contains___string_string_ [a0, a1] H Q = slices_Contains___string_string_ Φ a0 a1 H Q := by kernel_rfl

/-! rabbet/layout.check -/
def layout_check (Φ : Calls') (a0 : AV) (H : AH) (Q : Post) : Prop :=
 DoH (aboxv H false 6 a0) fun x1 H2 =>
 DoH (some (abox H2 true [.int .i64 0, .int .i64 0])) fun x3 H4 =>
 Do (aload H4 6 true x1) fun x5 =>
Φ K.kind_Sound [x5] H4 fun x6 H7 =>
 Do (abin .neq x6 (.int .i64 0)) fun x8 =>
 Gd x8 true (
 Do (abuild [.int .i64 0, .int .i64 0] []) fun x9 =>
 Do (astore H7 2 x3 x9) fun H10 =>
 Do (aload H10 2 true x3) fun x11 =>
 Q (.tup [x11, x6]) H10) (
 Do (aload H7 6 true x1) fun x12 =>
Φ K.layout_torn [x12] H7 fun x13 H14 =>
 Gd x13 true (
 Do (abuild [.int .i64 0, .int .i64 0] []) fun x15 =>
 Do (astore H14 2 x3 x15) fun H16 =>
 Do (aload H16 2 true x3) fun x17 =>
 Q (.tup [x17, (.int .i64 10)]) H16) (
 Do (aload H14 6 true x1) fun x18 =>
Φ K.layout_of [x18] H14 fun x19 H20 =>
 Do (aextract 0 x19) fun x21 =>
 Do (aextract 1 x19) fun x22 =>
 DoH (some (abox H20 true [.int .i64 0, .int .i64 0])) fun x23 H24 =>
 Do (astore H24 2 x23 x21) fun H25 =>
 Do (aun .not x22) fun x26 =>
 Gd x26 true (
 Do (abuild [.int .i64 0, .int .i64 0] []) fun x27 =>
 Do (astore H25 2 x3 x27) fun H28 =>
 Do (aload H28 2 true x3) fun x29 =>
 Q (.tup [x29, (.int .i64 9)]) H28) (
 Do (aload H25 2 true x23) fun x30 =>
 Do (astore H25 2 x3 x30) fun H31 =>
 Do (aload H31 2 true x3) fun x32 =>
 Q (.tup [x32, (.int .i64 0)]) H31)))
def ir_layout_check : AFunc := ⟨25, [.cell 2 2 true, .tmp 3],
 .seq (.region [
   ⟨some 1, .box false 6 (.t 0), none⟩,
   ⟨some 2, .alloc true [.int .i64 0, .int .i64 0], none⟩,
   ⟨some 3, .mv (.k (.int .i64 0)), none⟩])
 (.seq (.seq (.region [
   ⟨some 7, .load 6 true (.t 1), none⟩,
   ⟨some 8, .call K.kind_Sound [(.t 7)], none⟩,
   ⟨some 4, .mv (.t 8), none⟩])
 (.seq (.region [
   ⟨some 9, .mv (.t 4), none⟩,
   ⟨some 10, .bin .neq (.t 9) (.k (.int .i64 0)), none⟩])
 (.cond (.t 10) (.seq (.region [
     ⟨some 11, .build [.int .i64 0, .int .i64 0] [], none⟩,
     ⟨some 12, .mv (.t 4), none⟩,
     ⟨none, .store 2 (.t 2) (.t 11), none⟩,
     ⟨some 3, .mv (.t 12), none⟩])
   (.ret))
   (.skip))))
 (.seq (.seq (.region [
   ⟨some 13, .load 6 true (.t 1), none⟩,
   ⟨some 14, .call K.layout_torn [(.t 13)], none⟩])
 (.cond (.t 14) (.seq (.region [
     ⟨some 15, .build [.int .i64 0, .int .i64 0] [], none⟩,
     ⟨none, .store 2 (.t 2) (.t 15), none⟩,
     ⟨some 3, .mv (.k (.int .i64 10)), none⟩])
   (.ret))
   (.skip)))
 (.seq (.region [
   ⟨some 17, .load 6 true (.t 1), none⟩,
   ⟨some 18, .call K.layout_of [(.t 17)], none⟩,
   ⟨some 16, .mv (.t 18), none⟩,
   ⟨some 19, .extract 0 (.t 16), none⟩,
   ⟨some 20, .extract 1 (.t 16), none⟩,
   ⟨some 5, .alloc true [.int .i64 0, .int .i64 0], none⟩,
   ⟨none, .store 2 (.t 5) (.t 19), none⟩,
   ⟨some 6, .mv (.t 20), none⟩])
 (.seq (.seq (.region [
   ⟨some 21, .mv (.t 6), none⟩,
   ⟨some 22, .un .not (.t 21), none⟩])
 (.cond (.t 22) (.seq (.region [
     ⟨some 23, .build [.int .i64 0, .int .i64 0] [], none⟩,
     ⟨none, .store 2 (.t 2) (.t 23), none⟩,
     ⟨some 3, .mv (.k (.int .i64 9)), none⟩])
   (.ret))
   (.skip)))
 (.seq (.region [
   ⟨some 24, .load 2 true (.t 5), none⟩,
   ⟨none, .store 2 (.t 2) (.t 24), none⟩,
   ⟨some 3, .mv (.k (.int .i64 0)), none⟩])
 (.ret))))))⟩
theorem eq_layout_check (Φ : Calls') (a0 : AV) (H : AH) (Q : Post) : fnE1 Φ ir_layout_check [a0] H Q = layout_check Φ a0 H Q := by kernel_rfl

/-! (rabbet/check.checker).need -/
def check_checker_need_k1 (Φ : Calls') (a0 : AV) (a2 : AV) (Q : Post) : List AV → AH → Prop := fun j1 H2 =>
 Gd (sl j1 0) true (
 Do (anilck a0) fun x7 =>
 Do (afaddr 3 x7) fun x8 =>
 Do (aload H2 1 false x8) fun x9 =>
 Do (abuild [.int .i64 0, .int .i64 0] [(0, 1, x9), (1, 1, a2)]) fun x10 =>
 Do (anilck a0) fun x11 =>
 Do (afaddr 4 x11) fun x12 =>
 Do (astore H2 2 x12 x10) fun H13 =>
 Q (.tup []) H13) (
 Q (.tup []) H2)
def check_checker_need (Φ : Calls') (a0 : AV) (a1 : AV) (a2 : AV) (H : AH) (Q : Post) : Prop :=
 Do (aun .not a1) fun x3 =>
 Gd3 x3 true (
Φ K.check_checker_bad [a0] H fun x4 H5 =>
 Do (aun .not x4) fun x6 =>
 JoinP (check_checker_need_k1 Φ a0 a2 Q) [x6] H5) (
 JoinP (check_checker_need_k1 Φ a0 a2 Q) [(.bool false)] H) (
 False)
def ir_check_checker_need : AFunc := ⟨22, [],
 .join [12] [6, 7, 8, 9, 10, 11] (.region [
   ⟨some 6, .mv (.t 1), none⟩,
   ⟨some 7, .un .not (.t 6), none⟩,
   ⟨some 8, .mv (.t 7), none⟩,
   ⟨some 9, .mv (.t 0), some (8, true)⟩,
   ⟨some 10, .call K.check_checker_bad [(.t 9)], some (8, true)⟩,
   ⟨some 11, .un .not (.t 10), some (8, true)⟩,
   ⟨some 12, .pick (.t 8) (.t 11) (.k (.bool false)), none⟩])
 (.cond (.t 12) (.region [
     ⟨some 13, .mv (.t 0), none⟩,
     ⟨some 14, .mv (.t 0), none⟩,
     ⟨some 15, .nilck (.t 14), none⟩,
     ⟨some 16, .faddr 3 (.t 15), none⟩,
     ⟨some 17, .load 1 false (.t 16), none⟩,
     ⟨some 18, .mv (.t 2), none⟩,
     ⟨some 19, .build [.int .i64 0, .int .i64 0] [(0, 1, (.t 17)), (1, 1, (.t 18))], none⟩,
     ⟨some 20, .nilck (.t 13), none⟩,
     ⟨some 21, .faddr 4 (.t 20), none⟩,
     ⟨none, .store 2 (.t 21) (.t 19), none⟩])
   (.skip))⟩
theorem eq_check_checker_need (Φ : Calls') (a0 a1 a2 : AV) (H : AH) (Q : Post) : fnE1 Φ ir_check_checker_need [a0, a1, a2] H Q = check_checker_need Φ a0 a1 a2 H Q := by kernel_rfl

/-! rabbet/check.form -/
def check_form_k1 (Φ : Calls') (x1 : AV) (x9 : AV) (Q : Post) : List AV → AH → Prop := fun j42 H43 =>
 Gd3 (sl j42 0) true (
 Do (afaddr 5 x9) fun x50 =>
 Do (aload H43 1 false x50) fun x51 =>
 Gd3 x51 false (
 Do (afaddr 9 x1) fun x52 =>
 Do (aload H43 1 false x52) fun x53 =>
 Do (alen false x53) fun x54 =>
 Do (abin .eql x54 (.int .i64 0)) fun x55 =>
 Q x55 H43) (
 Q (.bool true) H43) (
 False)) (
 Q (.bool false) H43) (
 False)
def check_form_k2 (Φ : Calls') (x1 : AV) (x9 : AV) (Q : Post) : List AV → AH → Prop := fun j34 H35 =>
 Gd3 (sl j34 0) true (
 Do (afaddr 4 x9) fun x44 =>
 Do (aload H35 1 false x44) fun x45 =>
 Gd3 x45 false (
 Do (afaddr 8 x1) fun x46 =>
 Do (aload H35 1 false x46) fun x47 =>
 Do (alen false x47) fun x48 =>
 Do (abin .eql x48 (.int .i64 0)) fun x49 =>
 JoinP (check_form_k1 Φ x1 x9 Q) [x49] H35) (
 JoinP (check_form_k1 Φ x1 x9 Q) [(.bool true)] H35) (
 False)) (
 JoinP (check_form_k1 Φ x1 x9 Q) [(.bool false)] H35) (
 False)
def check_form_k3 (Φ : Calls') (x1 : AV) (x9 : AV) (Q : Post) : List AV → AH → Prop := fun j26 H27 =>
 Gd3 (sl j26 0) true (
 Do (afaddr 7 x1) fun x36 =>
 Do (aload H27 1 false x36) fun x37 =>
 Do (alen false x37) fun x38 =>
 Do (afaddr 3 x9) fun x39 =>
 Do (aload H27 1 false x39) fun x40 =>
 Do (abin .eql x38 x40) fun x41 =>
 JoinP (check_form_k2 Φ x1 x9 Q) [x41] H27) (
 JoinP (check_form_k2 Φ x1 x9 Q) [(.bool false)] H27) (
 False)
def check_form_k4 (Φ : Calls') (x1 : AV) (x9 : AV) (Q : Post) : List AV → AH → Prop := fun j19 H20 =>
 Gd3 (sl j19 0) true (
 Do (afaddr 2 x9) fun x28 =>
 Do (aload H20 1 false x28) fun x29 =>
 Gd3 x29 false (
 Do (afaddr 5 x1) fun x30 =>
 Do (aload H20 2 true x30) fun x31 =>
Φ K.check_empty [x31] H20 fun x32 H33 =>
 JoinP (check_form_k3 Φ x1 x9 Q) [x32] H33) (
 JoinP (check_form_k3 Φ x1 x9 Q) [(.bool true)] H20) (
 False)) (
 JoinP (check_form_k3 Φ x1 x9 Q) [(.bool false)] H20) (
 False)
def check_form_k5 (Φ : Calls') (x1 : AV) (x9 : AV) (Q : Post) : List AV → AH → Prop := fun j12 H13 =>
 Gd3 (sl j12 0) true (
 Do (afaddr 1 x9) fun x21 =>
 Do (aload H13 1 false x21) fun x22 =>
 Gd3 x22 false (
 Do (afaddr 3 x1) fun x23 =>
 Do (aload H13 1 false x23) fun x24 =>
 Do (abin .eql x24 (.str [])) fun x25 =>
 JoinP (check_form_k4 Φ x1 x9 Q) [x25] H13) (
 JoinP (check_form_k4 Φ x1 x9 Q) [(.bool true)] H13) (
 False)) (
 JoinP (check_form_k4 Φ x1 x9 Q) [(.bool false)] H13) (
 False)
def check_form (Φ : Calls') (a0 : AV) (H : AH) (Q : Post) : Prop :=
 DoH (aboxv H false 10 a0) fun x1 H2 =>
 Do (afaddr 0 x1) fun x3 =>
 Do (aload H2 1 false x3) fun x4 =>
Φ K.check_of [x4] H2 fun x5 H6 =>
 Do (aextract 0 x5) fun x7 =>
 Do (aextract 1 x5) fun x8 =>
 DoH (some (abox H6 true [.bool false, .bool false, .bool false, .int .i64 0, .bool false, .bool false])) fun x9 H10 =>
 Do (astore H10 6 x9 x7) fun H11 =>
 Gd3 x8 true (
 Do (afaddr 0 x9) fun x14 =>
 Do (aload H11 1 false x14) fun x15 =>
 Gd3 x15 false (
 Do (afaddr 2 x1) fun x16 =>
 Do (aload H11 1 false x16) fun x17 =>
 Do (abin .eql x17 (.str [])) fun x18 =>
 JoinP (check_form_k5 Φ x1 x9 Q) [x18] H11) (
 JoinP (check_form_k5 Φ x1 x9 Q) [(.bool true)] H11) (
 False)) (
 JoinP (check_form_k5 Φ x1 x9 Q) [(.bool false)] H11) (
 False)
def ir_check_form : AFunc := ⟨67, [.tmp 2],
 .seq (.region [
   ⟨some 1, .box false 10 (.t 0), none⟩,
   ⟨some 2, .mv (.k (.bool false)), none⟩])
 (.seq (.region [
   ⟨some 6, .faddr 0 (.t 1), none⟩,
   ⟨some 7, .load 1 false (.t 6), none⟩,
   ⟨some 8, .call K.check_of [(.t 7)], none⟩,
   ⟨some 5, .mv (.t 8), none⟩,
   ⟨some 9, .extract 0 (.t 5), none⟩,
   ⟨some 10, .extract 1 (.t 5), none⟩,
   ⟨some 3, .alloc true [.bool false, .bool false, .bool false, .int .i64 0, .bool false, .bool false], none⟩,
   ⟨none, .store 6 (.t 3) (.t 9), none⟩,
   ⟨some 4, .mv (.t 10), none⟩])
 (.seq (.rjoin [20] [11, 12, 13, 14, 15, 16, 17, 18, 19] [
   ⟨some 11, .mv (.t 4), none⟩,
   ⟨some 12, .mv (.t 11), none⟩,
   ⟨some 13, .faddr 0 (.t 3), some (12, true)⟩,
   ⟨some 14, .load 1 false (.t 13), some (12, true)⟩,
   ⟨some 15, .mv (.t 14), some (12, true)⟩,
   ⟨some 16, .faddr 2 (.t 1), some (15, false)⟩,
   ⟨some 17, .load 1 false (.t 16), some (15, false)⟩,
   ⟨some 18, .bin .eql (.t 17) (.k (.str [])), some (15, false)⟩,
   ⟨some 19, .pick (.t 15) (.k (.bool true)) (.t 18), some (12, true)⟩,
   ⟨some 20, .pick (.t 12) (.t 19) (.k (.bool false)), none⟩]
 (.rjoin [29] [21, 22, 23, 24, 25, 26, 27, 28] [
   ⟨some 21, .mv (.t 20), none⟩,
   ⟨some 22, .faddr 1 (.t 3), some (21, true)⟩,
   ⟨some 23, .load 1 false (.t 22), some (21, true)⟩,
   ⟨some 24, .mv (.t 23), some (21, true)⟩,
   ⟨some 25, .faddr 3 (.t 1), some (24, false)⟩,
   ⟨some 26, .load 1 false (.t 25), some (24, false)⟩,
   ⟨some 27, .bin .eql (.t 26) (.k (.str [])), some (24, false)⟩,
   ⟨some 28, .pick (.t 24) (.k (.bool true)) (.t 27), some (21, true)⟩,
   ⟨some 29, .pick (.t 21) (.t 28) (.k (.bool false)), none⟩]
 (.rjoin [38] [30, 31, 32, 33, 34, 35, 36, 37] [
   ⟨some 30, .mv (.t 29), none⟩,
   ⟨some 31, .faddr 2 (.t 3), some (30, true)⟩,
   ⟨some 32, .load 1 false (.t 31), some (30, true)⟩,
   ⟨some 33, .mv (.t 32), some (30, true)⟩,
   ⟨some 34, .faddr 5 (.t 1), some (33, false)⟩,
   ⟨some 35, .load 2 true (.t 34), some (33, false)⟩,
   ⟨some 36, .call K.check_empty [(.t 35)], some (33, false)⟩,
   ⟨some 37, .pick (.t 33) (.k (.bool true)) (.t 36), some (30, true)⟩,
   ⟨some 38, .pick (.t 30) (.t 37) (.k (.bool false)), none⟩]
 (.rjoin [46] [39, 40, 41, 42, 43, 44, 45] [
   ⟨some 39, .mv (.t 38), none⟩,
   ⟨some 40, .faddr 7 (.t 1), some (39, true)⟩,
   ⟨some 41, .load 1 false (.t 40), some (39, true)⟩,
   ⟨some 42, .len false (.t 41), some (39, true)⟩,
   ⟨some 43, .faddr 3 (.t 3), some (39, true)⟩,
   ⟨some 44, .load 1 false (.t 43), some (39, true)⟩,
   ⟨some 45, .bin .eql (.t 42) (.t 44), some (39, true)⟩,
   ⟨some 46, .pick (.t 39) (.t 45) (.k (.bool false)), none⟩]
 (.rjoin [56] [47, 48, 49, 50, 51, 52, 53, 54, 55] [
   ⟨some 47, .mv (.t 46), none⟩,
   ⟨some 48, .faddr 4 (.t 3), some (47, true)⟩,
   ⟨some 49, .load 1 false (.t 48), some (47, true)⟩,
   ⟨some 50, .mv (.t 49), some (47, true)⟩,
   ⟨some 51, .faddr 8 (.t 1), some (50, false)⟩,
   ⟨some 52, .load 1 false (.t 51), some (50, false)⟩,
   ⟨some 53, .len false (.t 52), some (50, false)⟩,
   ⟨some 54, .bin .eql (.t 53) (.k (.int .i64 0)), some (50, false)⟩,
   ⟨some 55, .pick (.t 50) (.k (.bool true)) (.t 54), some (47, true)⟩,
   ⟨some 56, .pick (.t 47) (.t 55) (.k (.bool false)), none⟩]
 (.region [
   ⟨some 57, .mv (.t 56), none⟩,
   ⟨some 58, .faddr 5 (.t 3), some (57, true)⟩,
   ⟨some 59, .load 1 false (.t 58), some (57, true)⟩,
   ⟨some 60, .mv (.t 59), some (57, true)⟩,
   ⟨some 61, .faddr 9 (.t 1), some (60, false)⟩,
   ⟨some 62, .load 1 false (.t 61), some (60, false)⟩,
   ⟨some 63, .len false (.t 62), some (60, false)⟩,
   ⟨some 64, .bin .eql (.t 63) (.k (.int .i64 0)), some (60, false)⟩,
   ⟨some 65, .pick (.t 60) (.k (.bool true)) (.t 64), some (57, true)⟩,
   ⟨some 66, .pick (.t 57) (.t 65) (.k (.bool false)), none⟩,
   ⟨some 2, .mv (.t 66), none⟩]))))))
 (.ret)))⟩
theorem eq_check_form (Φ : Calls') (a0 : AV) (H : AH) (Q : Post) : fnE1 Φ ir_check_form [a0] H Q = check_form Φ a0 H Q := by kernel_rfl

/-! (rabbet/check.checker).there -/
def check_checker_there (Φ : Calls') (a0 : AV) (a1 : AV) (H : AH) (Q : Post) : Prop :=
 Do (anilck a0) fun x1 =>
 Do (afaddr 1 x1) fun x2 =>
 Do (aload H 1 false x2) fun x3 =>
Φ K.slices_Contains___string_string_ [x3, a1] H fun x4 H5 =>
 Q x4 H5
def ir_check_checker_there : AFunc := ⟨11, [.tmp 4],
 .seq (.region [
   ⟨some 4, .mv (.k (.bool false)), none⟩])
 (.seq (.region [
   ⟨some 5, .mv (.t 0), none⟩,
   ⟨some 6, .nilck (.t 5), none⟩,
   ⟨some 7, .faddr 1 (.t 6), none⟩,
   ⟨some 8, .load 1 false (.t 7), none⟩,
   ⟨some 9, .mv (.t 1), none⟩,
   ⟨some 10, .call K.slices_Contains___string_string_ [(.t 8), (.t 9)], none⟩,
   ⟨some 4, .mv (.t 10), none⟩])
 (.ret))⟩
theorem eq_check_checker_there (Φ : Calls') (a0 a1 : AV) (H : AH) (Q : Post) : fnE1 Φ ir_check_checker_there [a0, a1] H Q = check_checker_there Φ a0 a1 H Q := by kernel_rfl

/-! (rabbet/check.checker).place -/
def check_checker_place_k1 (Φ : Calls') (s31 : List AV × AH) (L32 : (List AV × AH) → Prop) (Q : Post) : List AV → AH → Prop := fun j34 H35 =>
 Do (abin .add (sl s31.1 0) (.int .i64 1)) fun x57 =>
 L32 ([x57], H35)
def check_checker_place_l2 (Φ : Calls') (a0 : AV) (a3 : AV) (x42 : AV) (x43 : AV) (s31 : List AV × AH) (L32 : (List AV × AH) → Prop) (Q : Post) : (List AV × AH) → ((List AV × AH) → Prop) → Prop := fun s44 L45 =>
 Do (abin .lss (sl s44.1 0) x43) fun x46 =>
 Gd x46 true (
 Do (aiaddr none 8 x42 (sl s44.1 0)) fun x47 =>
 Do (aload s44.2 8 true x47) fun x48 =>
 DoH (some (abox s44.2 true [.int .i64 0, .int .u64 0, .str [], .int .i64 0, .int .i64 0, .str [], .lst .nil 0 [], .lst .nil 0 []])) fun x49 H50 =>
 Do (astore H50 8 x49 x48) fun H51 =>
 Do (aload H51 8 true x49) fun x52 =>
 Do (abin .add a3 (.int .i64 1)) fun x53 =>
Φ K.check_checker_expr [a0, x52, x53] H51 fun x54 H55 =>
 Do (abin .add (sl s44.1 0) (.int .i64 1)) fun x56 =>
 L45 ([x56], H55)) (
 JoinP (check_checker_place_k1 Φ s31 L32 Q) [] s44.2)
def check_checker_place_l3 (Φ : Calls') (a0 : AV) (a3 : AV) (x29 : AV) (x30 : AV) (Q : Post) : (List AV × AH) → ((List AV × AH) → Prop) → Prop := fun s31 L32 =>
 Do (abin .lss (sl s31.1 0) x30) fun x33 =>
 Gd x33 true (
 Do (aiaddr none 2 x29 (sl s31.1 0)) fun x36 =>
 Do (aload s31.2 2 true x36) fun x37 =>
 DoH (some (abox s31.2 true [.str [], .lst .nil 0 []])) fun x38 H39 =>
 Do (astore H39 2 x38 x37) fun H40 =>
 Do (afaddr 1 x38) fun x41 =>
 Do (aload H40 1 false x41) fun x42 =>
 Do (alen false x42) fun x43 =>
 LoopP (check_checker_place_l2 Φ a0 a3 x42 x43 s31 L32 Q) ([(.int .i64 0)], H40)) (
 Q (.tup []) s31.2)
def check_checker_place_k4 (Φ : Calls') (a0 : AV) (a3 : AV) (x1 : AV) (Q : Post) : List AV → AH → Prop := fun j19 H20 =>
 Do (afaddr 1 x1) fun x28 =>
 Do (aload H20 1 false x28) fun x29 =>
 Do (alen false x29) fun x30 =>
 LoopP (check_checker_place_l3 Φ a0 a3 x29 x30 Q) ([(.int .i64 0)], H20)
def check_checker_place (Φ : Calls') (a0 : AV) (a1 : AV) (a2 : AV) (a3 : AV) (H : AH) (Q : Post) : Prop :=
 DoH (aboxv H false 2 a2) fun x1 H2 =>
Φ K.check_checker_bad [a0] H2 fun x3 H4 =>
 Gd x3 true (
 Q (.tup []) H4) (
 Do (anilck a0) fun x5 =>
 Do (afaddr 0 x5) fun x6 =>
 Do (aload H4 1 false x6) fun x7 =>
 Do (aload H4 2 true x1) fun x8 =>
Φ K.check_Place [x7, x8] H4 fun x9 H10 =>
 Do (aextract 0 x9) fun x11 =>
 Do (aextract 1 x9) fun x12 =>
 DoH (some (abox H10 true [.int .i64 0, .int .i64 0, .bool false, .lst .nil 0 [], .int .i64 0, .lst .nil 0 []])) fun x13 H14 =>
(aload H14 1 false x6 = some x7) ∧
(aload H14 2 true x1 = some x8) ∧
(Do (astore H14 6 x13 x11) fun H15 =>
 Do (abin .eql x12 (.int .i64 0)) fun x16 =>
Φ K.check_checker_need [a0, x16, x12] H15 fun x17 H18 =>
Φ K.check_checker_bad [a0] H18 fun x21 H22 =>
 Gd3 x21 false (
 Do (aload H22 6 true x13) fun x23 =>
Φ K.check_fits [a1, x23] H22 fun x24 H25 =>
Φ K.check_checker_need [a0, x24, (.int .i64 8)] H25 fun x26 H27 =>
 JoinP (check_checker_place_k4 Φ a0 a3 x1 Q) [] H27) (
Φ K.check_checker_need [a0, (.bool true), (.int .i64 8)] H22 fun x58 H59 =>
 JoinP (check_checker_place_k4 Φ a0 a3 x1 Q) [] H59) (
 False)))
def ir_check_checker_place : AFunc := ⟨60, [],
 .seq (.region [
   ⟨some 6, .box false 2 (.t 2), none⟩])
 (.seq (.seq (.region [
   ⟨some 14, .mv (.t 0), none⟩,
   ⟨some 15, .call K.check_checker_bad [(.t 14)], none⟩])
 (.cond (.t 15) (.ret)
   (.skip)))
 (.seq (.draw [
   ⟨some 17, .mv (.t 0), none⟩,
   ⟨some 18, .nilck (.t 17), none⟩,
   ⟨some 19, .faddr 0 (.t 18), none⟩,
   ⟨some 20, .load 1 false (.t 19), none⟩,
   ⟨some 21, .load 2 true (.t 6), none⟩,
   ⟨some 22, .call K.check_Place [(.t 20), (.t 21)], none⟩,
   ⟨some 16, .mv (.t 22), none⟩,
   ⟨some 23, .extract 0 (.t 16), none⟩,
   ⟨some 24, .extract 1 (.t 16), none⟩,
   ⟨some 8, .alloc true [.int .i64 0, .int .i64 0, .bool false, .lst .nil 0 [], .int .i64 0, .lst .nil 0 []], none⟩,
   ⟨none, .store 6 (.t 8) (.t 23), none⟩,
   ⟨some 9, .mv (.t 24), none⟩]
 [[], [0], [0, 1], [0, 1, 2], [], [0, 1, 2, 3, 4], [0, 1, 2, 3, 4, 5], [0, 1, 2, 3, 4, 5, 6], [0, 1, 2, 3, 4, 5, 6], [], [0, 1, 2, 3, 4, 5, 6, 7, 9], [0, 1, 2, 3, 4, 5, 6, 7, 8, 9, 10]] [([0, 1, 2, 3, 4], 5, []), ([6, 7, 8], 9, [3, 4]), ([], 10, [])] [11])
 (.seq (.region [
   ⟨some 25, .mv (.t 0), none⟩,
   ⟨some 26, .mv (.t 9), none⟩,
   ⟨some 27, .bin .eql (.t 26) (.k (.int .i64 0)), none⟩,
   ⟨some 28, .mv (.t 9), none⟩,
   ⟨some 29, .call K.check_checker_need [(.t 25), (.t 27), (.t 28)], none⟩])
 (.join [] [30, 31, 32, 33, 34, 35, 36, 37, 38] (.region [
   ⟨some 30, .mv (.t 0), none⟩,
   ⟨some 31, .mv (.t 0), none⟩,
   ⟨some 32, .call K.check_checker_bad [(.t 31)], none⟩,
   ⟨some 33, .mv (.t 32), none⟩,
   ⟨some 34, .mv (.t 1), some (33, false)⟩,
   ⟨some 35, .load 6 true (.t 8), some (33, false)⟩,
   ⟨some 36, .call K.check_fits [(.t 34), (.t 35)], some (33, false)⟩,
   ⟨some 37, .pick (.t 33) (.k (.bool true)) (.t 36), none⟩,
   ⟨some 38, .call K.check_checker_need [(.t 30), (.t 37), (.k (.int .i64 8))], none⟩])
 (.seq (.region [
   ⟨some 39, .faddr 1 (.t 6), none⟩,
   ⟨some 40, .load 1 false (.t 39), none⟩,
   ⟨some 41, .len false (.t 40), none⟩,
   ⟨some 42, .mv (.k (.int .i64 0)), none⟩])
 (.block 0 (.loop [42] [11, 13, 43, 44, 45, 46, 47, 48, 49, 50, 51, 52, 53, 54, 55, 56, 57, 58, 59] (.seq (.region [
   ⟨some 43, .bin .lss (.t 42) (.t 41), none⟩])
 (.seq (.cond (.t 43) (.skip)
   (.exit 0))
 (.join [] [11, 13, 44, 45, 46, 47, 48, 49, 50, 51, 52, 53, 54, 55, 56, 57, 58] (.block 1 (.seq (.region [
   ⟨some 44, .iaddr none 2 (.t 40) (.t 42), none⟩,
   ⟨some 45, .load 2 true (.t 44), none⟩,
   ⟨some 11, .alloc true [.str [], .lst .nil 0 []], none⟩,
   ⟨none, .store 2 (.t 11) (.t 45), none⟩])
 (.seq (.region [
   ⟨some 46, .faddr 1 (.t 11), none⟩,
   ⟨some 47, .load 1 false (.t 46), none⟩,
   ⟨some 48, .len false (.t 47), none⟩,
   ⟨some 49, .mv (.k (.int .i64 0)), none⟩])
 (.block 2 (.loop [49] [13, 50, 51, 52, 53, 54, 55, 56, 57, 58] (.seq (.region [
   ⟨some 50, .bin .lss (.t 49) (.t 48), none⟩])
 (.seq (.cond (.t 50) (.skip)
   (.exit 2))
 (.seq (.block 3 (.seq (.region [
   ⟨some 51, .iaddr none 8 (.t 47) (.t 49), none⟩,
   ⟨some 52, .load 8 true (.t 51), none⟩,
   ⟨some 13, .alloc true [.int .i64 0, .int .u64 0, .str [], .int .i64 0, .int .i64 0, .str [], .lst .nil 0 [], .lst .nil 0 []], none⟩,
   ⟨none, .store 8 (.t 13) (.t 52), none⟩])
 (.region [
   ⟨some 53, .mv (.t 0), none⟩,
   ⟨some 54, .load 8 true (.t 13), none⟩,
   ⟨some 55, .mv (.t 3), none⟩,
   ⟨some 56, .bin .add (.t 55) (.k (.int .i64 1)), none⟩,
   ⟨some 57, .call K.check_checker_expr [(.t 53), (.t 54), (.t 56)], none⟩])))
 (.region [
   ⟨some 58, .bin .add (.t 49) (.k (.int .i64 1)), none⟩,
   ⟨some 49, .mv (.t 58), none⟩])))))))))
 (.region [
   ⟨some 59, .bin .add (.t 42) (.k (.int .i64 1)), none⟩,
   ⟨some 42, .mv (.t 59), none⟩])))))))))))⟩
theorem eq_check_checker_place (Φ : Calls') (a0 a1 a2 a3 : AV) (H : AH) (Q : Post) : fnE1 Φ ir_check_checker_place [a0, a1, a2, a3] H Q = check_checker_place Φ a0 a1 a2 a3 H Q := by kernel_rfl

/-! (rabbet/check.checker).exprs -/
def check_checker_exprs_k1 (Φ : Calls') (s2 : List AV × AH) (L3 : (List AV × AH) → Prop) (Q : Post) : List AV → AH → Prop := fun j5 H6 =>
 Do (abin .add (sl s2.1 0) (.int .i64 1)) fun x19 =>
 L3 ([x19], H6)
def check_checker_exprs_l2 (Φ : Calls') (a0 : AV) (a1 : AV) (a2 : AV) (x1 : AV) (Q : Post) : (List AV × AH) → ((List AV × AH) → Prop) → Prop := fun s2 L3 =>
 Do (abin .lss (sl s2.1 0) x1) fun x4 =>
 Gd x4 true (
 Do (aiaddr none 8 a1 (sl s2.1 0)) fun x7 =>
 Do (aload s2.2 8 true x7) fun x8 =>
 DoH (some (abox s2.2 true [.int .i64 0, .int .u64 0, .str [], .int .i64 0, .int .i64 0, .str [], .lst .nil 0 [], .lst .nil 0 []])) fun x9 H10 =>
 Do (astore H10 8 x9 x8) fun H11 =>
Φ K.check_checker_bad [a0] H11 fun x12 H13 =>
 Do (aun .not x12) fun x14 =>
 Gd x14 true (
 Do (aload H13 8 true x9) fun x15 =>
 Do (abin .add a2 (.int .i64 1)) fun x16 =>
Φ K.check_checker_expr [a0, x15, x16] H13 fun x17 H18 =>
 JoinP (check_checker_exprs_k1 Φ s2 L3 Q) [] H18) (
 JoinP (check_checker_exprs_k1 Φ s2 L3 Q) [] H13)) (
 Q (.tup []) s2.2)
def check_checker_exprs (Φ : Calls') (a0 : AV) (a1 : AV) (a2 : AV) (H : AH) (Q : Post) : Prop :=
 Do (alen false a1) fun x1 =>
 LoopP (check_checker_exprs_l2 Φ a0 a1 a2 x1 Q) ([(.int .i64 0)], H)
def ir_check_checker_exprs : AFunc := ⟨23, [],
 .seq (.region [
   ⟨some 8, .mv (.t 1), none⟩,
   ⟨some 9, .len false (.t 8), none⟩,
   ⟨some 10, .mv (.k (.int .i64 0)), none⟩])
 (.block 0 (.loop [10] [7, 11, 12, 13, 14, 15, 16, 17, 18, 19, 20, 21, 22] (.seq (.region [
   ⟨some 11, .bin .lss (.t 10) (.t 9), none⟩])
 (.seq (.cond (.t 11) (.skip)
   (.exit 0))
 (.join [] [7, 12, 13, 14, 15, 16, 17, 18, 19, 20, 21] (.block 1 (.seq (.region [
   ⟨some 12, .iaddr none 8 (.t 8) (.t 10), none⟩,
   ⟨some 13, .load 8 true (.t 12), none⟩,
   ⟨some 7, .alloc true [.int .i64 0, .int .u64 0, .str [], .int .i64 0, .int .i64 0, .str [], .lst .nil 0 [], .lst .nil 0 []], none⟩,
   ⟨none, .store 8 (.t 7) (.t 13), none⟩])
 (.seq (.region [
   ⟨some 14, .mv (.t 0), none⟩,
   ⟨some 15, .call K.check_checker_bad [(.t 14)], none⟩,
   ⟨some 16, .un .not (.t 15), none⟩])
 (.cond (.t 16) (.region [
     ⟨some 17, .mv (.t 0), none⟩,
     ⟨some 18, .load 8 true (.t 7), none⟩,
     ⟨some 19, .mv (.t 2), none⟩,
     ⟨some 20, .bin .add (.t 19) (.k (.int .i64 1)), none⟩,
     ⟨some 21, .call K.check_checker_expr [(.t 17), (.t 18), (.t 20)], none⟩])
   (.skip)))))
 (.region [
   ⟨some 22, .bin .add (.t 10) (.k (.int .i64 1)), none⟩,
   ⟨some 10, .mv (.t 22), none⟩]))))))⟩
theorem eq_check_checker_exprs (Φ : Calls') (a0 a1 a2 : AV) (H : AH) (Q : Post) : fnE1 Φ ir_check_checker_exprs [a0, a1, a2] H Q = check_checker_exprs Φ a0 a1 a2 H Q := by kernel_rfl

/-! rabbet/kind.field -/
def kind_field_k1 (Φ : Calls') (Q : Post) : List AV → AH → Prop := fun j58 H59 =>
 Gd (sl j58 0) true (
 Q (.int .i64 9) H59) (
 Q (.int .i64 0) H59)
def kind_field_k2 (Φ : Calls') (x7 : AV) (Q : Post) : List AV → AH → Prop := fun j40 H41 =>
 Gd (sl j40 0) true (
 Q (.int .i64 8) H41) (
 Do (afaddr 7 x7) fun x60 =>
 Do (aload H41 1 false x60) fun x61 =>
 Gd3 x61 true (
 Do (afaddr 8 x7) fun x62 =>
 Do (aload H41 1 false x62) fun x63 =>
 Do (abin .lss x63 (.int .i64 0)) fun x64 =>
 Gd3 x64 false (
 Do (afaddr 8 x7) fun x65 =>
 Do (aload H41 1 false x65) fun x66 =>
 Do (afaddr 1 x7) fun x67 =>
 Do (afaddr 1 x67) fun x68 =>
 Do (aload H41 1 false x68) fun x69 =>
 Do (abin .mul (.int .i64 8) x69) fun x70 =>
 Do (abin .gtr x66 x70) fun x71 =>
 Gd3 x71 false (
 Do (afaddr 8 x7) fun x72 =>
 Do (aload H41 1 false x72) fun x73 =>
 Do (abin .eql x73 (.int .i64 0)) fun x74 =>
 Gd3 x74 true (
 Do (afaddr 0 x7) fun x75 =>
 Do (aload H41 1 false x75) fun x76 =>
 Do (abin .neq x76 (.str [])) fun x77 =>
 JoinP (kind_field_k1 Φ Q) [x77] H41) (
 JoinP (kind_field_k1 Φ Q) [(.bool false)] H41) (
 False)) (
 JoinP (kind_field_k1 Φ Q) [(.bool true)] H41) (
 False)) (
 JoinP (kind_field_k1 Φ Q) [(.bool true)] H41) (
 False)) (
 JoinP (kind_field_k1 Φ Q) [(.bool false)] H41) (
 False))
def kind_field_k3 (Φ : Calls') (x1 : AV) (x7 : AV) (Q : Post) : List AV → AH → Prop := fun j42 H43 =>
 Gd3 (sl j42 0) false (
 Do (afaddr 7 x7) fun x50 =>
 Do (aload H43 1 false x50) fun x51 =>
 Gd3 x51 true (
 Do (afaddr 1 x7) fun x52 =>
 Do (afaddr 0 x52) fun x53 =>
 Do (aload H43 1 false x53) fun x54 =>
 Do (abin .neq x54 (.int .i64 1)) fun x55 =>
 Gd3 x55 false (
 Do (afaddr 2 x1) fun x56 =>
 Do (aload H43 1 false x56) fun x57 =>
 JoinP (kind_field_k2 Φ x7 Q) [x57] H43) (
 JoinP (kind_field_k2 Φ x7 Q) [(.bool true)] H43) (
 False)) (
 JoinP (kind_field_k2 Φ x7 Q) [(.bool false)] H43) (
 False)) (
 JoinP (kind_field_k2 Φ x7 Q) [(.bool true)] H43) (
 False)
def kind_field_k4 (Φ : Calls') (x1 : AV) (x7 : AV) (Q : Post) : List AV → AH → Prop := fun j10 H11 =>
 Do (afaddr 1 x7) fun x35 =>
 Do (aload H11 6 true x35) fun x36 =>
Φ K.kind_sound [x36] H11 fun x37 H38 =>
 Do (abin .neq x37 (.int .i64 0)) fun x39 =>
 Gd x39 true (
 Q x37 H38) (
 Do (afaddr 7 x7) fun x44 =>
 Do (aload H38 1 false x44) fun x45 =>
 Do (aun .not x45) fun x46 =>
 Gd3 x46 true (
 Do (afaddr 8 x7) fun x47 =>
 Do (aload H38 1 false x47) fun x48 =>
 Do (abin .neq x48 (.int .i64 0)) fun x49 =>
 JoinP (kind_field_k3 Φ x1 x7 Q) [x49] H38) (
 JoinP (kind_field_k3 Φ x1 x7 Q) [(.bool false)] H38) (
 False))
def kind_field_k5 (Φ : Calls') (x1 : AV) (x7 : AV) (Q : Post) : List AV → AH → Prop := fun j25 H26 =>
 Gd (sl j25 0) true (
 Q (.int .i64 7) H26) (
 JoinP (kind_field_k4 Φ x1 x7 Q) [] H26)
def kind_field_k6 (Φ : Calls') (a1 : AV) (x1 : AV) (x7 : AV) (Q : Post) : List AV → AH → Prop := fun j12 H13 =>
 Gd (sl j12 0) true (
 Q (.int .i64 6) H13) (
 Do (afaddr 0 x7) fun x27 =>
 Do (aload H13 1 false x27) fun x28 =>
 Do (abin .neq x28 (.str [])) fun x29 =>
 Gd3 x29 true (
 Do (afaddr 3 x1) fun x30 =>
 Do (aload H13 1 false x30) fun x31 =>
 Do (aslice 9 x31 none (some a1) none) fun x32 =>
Φ K.slices_ContainsFunc___api_Field_api_Field_ [x32, (.fn K.kind_field_c1 [x7])] H13 fun x33 H34 =>
 JoinP (kind_field_k5 Φ x1 x7 Q) [x33] H34) (
 JoinP (kind_field_k5 Φ x1 x7 Q) [(.bool false)] H13) (
 False))
def kind_field (Φ : Calls') (a0 : AV) (a1 : AV) (H : AH) (Q : Post) : Prop :=
 DoH (aboxv H false 6 a0) fun x1 H2 =>
 Do (afaddr 3 x1) fun x3 =>
 Do (aload H2 1 false x3) fun x4 =>
 Do (aiaddr none 9 x4 a1) fun x5 =>
 Do (aload H2 9 true x5) fun x6 =>
 DoH (some (abox H2 true [.str [], .int .i64 0, .int .i64 0, .bool false, .lst .nil 0 [], .int .i64 0, .lst .nil 0 [], .bool false, .int .i64 0])) fun x7 H8 =>
 Do (astore H8 9 x7 x6) fun H9 =>
 Do (afaddr 0 x7) fun x14 =>
 Do (aload H9 1 false x14) fun x15 =>
Φ K.kind_Name [x15] H9 fun x16 H17 =>
 Do (aun .not x16) fun x18 =>
 Gd3 x18 true (
 Do (afaddr 0 x7) fun x19 =>
 Do (aload H17 1 false x19) fun x20 =>
 Do (abin .neq x20 (.str [])) fun x21 =>
 Gd3 x21 false (
 Do (afaddr 7 x7) fun x22 =>
 Do (aload H17 1 false x22) fun x23 =>
 Do (aun .not x23) fun x24 =>
 JoinP (kind_field_k6 Φ a1 x1 x7 Q) [x24] H17) (
 JoinP (kind_field_k6 Φ a1 x1 x7 Q) [(.bool true)] H17) (
 False)) (
 JoinP (kind_field_k6 Φ a1 x1 x7 Q) [(.bool false)] H17) (
 False)
def ir_kind_field : AFunc := ⟨95, [.tmp 4],
 .seq (.region [
   ⟨some 2, .box false 6 (.t 0), none⟩,
   ⟨some 4, .mv (.k (.int .i64 0)), none⟩])
 (.seq (.region [
   ⟨some 7, .faddr 3 (.t 2), none⟩,
   ⟨some 8, .load 1 false (.t 7), none⟩,
   ⟨some 9, .mv (.t 1), none⟩,
   ⟨some 10, .iaddr none 9 (.t 8) (.t 9), none⟩,
   ⟨some 11, .load 9 true (.t 10), none⟩,
   ⟨some 5, .alloc true [.str [], .int .i64 0, .int .i64 0, .bool false, .lst .nil 0 [], .int .i64 0, .lst .nil 0 [], .bool false, .int .i64 0], none⟩,
   ⟨none, .store 9 (.t 5) (.t 11), none⟩])
 (.join [] [4, 12, 13, 14, 15, 16, 17, 18, 19, 20, 21, 22, 23, 24, 25, 26, 27, 28, 29, 30, 31, 32, 33, 34, 35, 36, 37, 38] (.block 0 (.join [12] [13, 14, 15, 16, 17, 18, 19, 20, 21, 22, 23, 24, 25, 26] (.region [
   ⟨some 13, .faddr 0 (.t 5), none⟩,
   ⟨some 14, .load 1 false (.t 13), none⟩,
   ⟨some 15, .call K.kind_Name [(.t 14)], none⟩,
   ⟨some 16, .un .not (.t 15), none⟩,
   ⟨some 17, .mv (.t 16), none⟩,
   ⟨some 18, .faddr 0 (.t 5), some (17, true)⟩,
   ⟨some 19, .load 1 false (.t 18), some (17, true)⟩,
   ⟨some 20, .bin .neq (.t 19) (.k (.str [])), some (17, true)⟩,
   ⟨some 21, .mv (.t 20), some (17, true)⟩,
   ⟨some 22, .faddr 7 (.t 5), some (21, false)⟩,
   ⟨some 23, .load 1 false (.t 22), some (21, false)⟩,
   ⟨some 24, .un .not (.t 23), some (21, false)⟩,
   ⟨some 25, .pick (.t 21) (.k (.bool true)) (.t 24), some (17, true)⟩,
   ⟨some 26, .pick (.t 17) (.t 25) (.k (.bool false)), none⟩,
   ⟨some 12, .mv (.t 26), none⟩])
 (.cond (.t 12) (.seq (.region [
     ⟨some 4, .mv (.k (.int .i64 6)), none⟩])
   (.ret))
   (.join [27] [28, 29, 30, 31, 32, 33, 34, 35, 36, 37, 38] (.region [
     ⟨some 28, .faddr 0 (.t 5), none⟩,
     ⟨some 29, .load 1 false (.t 28), none⟩,
     ⟨some 30, .bin .neq (.t 29) (.k (.str [])), none⟩,
     ⟨some 31, .mv (.t 30), none⟩,
     ⟨some 32, .faddr 3 (.t 2), some (31, true)⟩,
     ⟨some 33, .load 1 false (.t 32), some (31, true)⟩,
     ⟨some 34, .mv (.t 1), some (31, true)⟩,
     ⟨some 35, .slice 9 (.t 33) none (some (.t 34)) none, some (31, true)⟩,
     ⟨some 36, .mkfn K.kind_field_c1 [(.t 5)], some (31, true)⟩,
     ⟨some 37, .call K.slices_ContainsFunc___api_Field_api_Field_ [(.t 35), (.t 36)], some (31, true)⟩,
     ⟨some 38, .pick (.t 31) (.t 37) (.k (.bool false)), none⟩,
     ⟨some 27, .mv (.t 38), none⟩])
   (.cond (.t 27) (.seq (.region [
       ⟨some 4, .mv (.k (.int .i64 7)), none⟩])
     (.ret))
     (.skip))))))
 (.seq (.seq (.region [
   ⟨some 39, .faddr 1 (.t 5), none⟩,
   ⟨some 40, .load 6 true (.t 39), none⟩,
   ⟨some 41, .call K.kind_sound [(.t 40)], none⟩,
   ⟨some 6, .mv (.t 41), none⟩])
 (.seq (.region [
   ⟨some 42, .mv (.t 6), none⟩,
   ⟨some 43, .bin .neq (.t 42) (.k (.int .i64 0)), none⟩])
 (.cond (.t 43) (.seq (.region [
     ⟨some 44, .mv (.t 6), none⟩,
     ⟨some 4, .mv (.t 44), none⟩])
   (.ret))
   (.skip))))
 (.seq (.block 1 (.join [45] [46, 47, 48, 49, 50, 51, 52, 53, 54, 55, 56, 57, 58, 59, 60, 61, 62, 63, 64, 65, 66, 67] (.rjoin [53] [46, 47, 48, 49, 50, 51, 52] [
   ⟨some 46, .faddr 7 (.t 5), none⟩,
   ⟨some 47, .load 1 false (.t 46), none⟩,
   ⟨some 48, .un .not (.t 47), none⟩,
   ⟨some 49, .mv (.t 48), none⟩,
   ⟨some 50, .faddr 8 (.t 5), some (49, true)⟩,
   ⟨some 51, .load 1 false (.t 50), some (49, true)⟩,
   ⟨some 52, .bin .neq (.t 51) (.k (.int .i64 0)), some (49, true)⟩,
   ⟨some 53, .pick (.t 49) (.t 52) (.k (.bool false)), none⟩]
 (.region [
   ⟨some 54, .mv (.t 53), none⟩,
   ⟨some 55, .faddr 7 (.t 5), some (54, false)⟩,
   ⟨some 56, .load 1 false (.t 55), some (54, false)⟩,
   ⟨some 57, .mv (.t 56), some (54, false)⟩,
   ⟨some 58, .faddr 1 (.t 5), some (57, true)⟩,
   ⟨some 59, .faddr 0 (.t 58), some (57, true)⟩,
   ⟨some 60, .load 1 false (.t 59), some (57, true)⟩,
   ⟨some 61, .bin .neq (.t 60) (.k (.int .i64 1)), some (57, true)⟩,
   ⟨some 62, .mv (.t 61), some (57, true)⟩,
   ⟨some 63, .faddr 2 (.t 2), some (62, false)⟩,
   ⟨some 64, .load 1 false (.t 63), some (62, false)⟩,
   ⟨some 65, .pick (.t 62) (.k (.bool true)) (.t 64), some (57, true)⟩,
   ⟨some 66, .pick (.t 57) (.t 65) (.k (.bool false)), some (54, false)⟩,
   ⟨some 67, .pick (.t 54) (.k (.bool true)) (.t 66), none⟩,
   ⟨some 45, .mv (.t 67), none⟩]))
 (.cond (.t 45) (.seq (.region [
     ⟨some 4, .mv (.k (.int .i64 8)), none⟩])
   (.ret))
   (.join [68] [69, 70, 71, 72, 73, 74, 75, 76, 77, 78, 79, 80, 81, 82, 83, 84, 85, 86, 87, 88, 89, 90, 91, 92, 93, 94] (.region [
     ⟨some 69, .faddr 7 (.t 5), none⟩,
     ⟨some 70, .load 1 false (.t 69), none⟩,
     ⟨some 71, .mv (.t 70), none⟩,
     ⟨some 72, .faddr 8 (.t 5), some (71, true)⟩,
     ⟨some 73, .load 1 false (.t 72), some (71, true)⟩,
     ⟨some 74, .bin .lss (.t 73) (.k (.int .i64 0)), some (71, true)⟩,
     ⟨some 75, .mv (.t 74), some (71, true)⟩,
     ⟨some 76, .faddr 8 (.t 5), some (75, false)⟩,
     ⟨some 77, .load 1 false (.t 76), some (75, false)⟩,
     ⟨some 78, .faddr 1 (.t 5), some (75, false)⟩,
     ⟨some 79, .faddr 1 (.t 78), some (75, false)⟩,
     ⟨some 80, .load 1 false (.t 79), some (75, false)⟩,
     ⟨some 81, .bin .mul (.k (.int .i64 8)) (.t 80), some (75, false)⟩,
     ⟨some 82, .bin .gtr (.t 77) (.t 81), some (75, false)⟩,
     ⟨some 83, .pick (.t 75) (.k (.bool true)) (.t 82), some (71, true)⟩,
     ⟨some 84, .mv (.t 83), some (71, true)⟩,
     ⟨some 85, .faddr 8 (.t 5), some (84, false)⟩,
     ⟨some 86, .load 1 false (.t 85), some (84, false)⟩,
     ⟨some 87, .bin .eql (.t 86) (.k (.int .i64 0)), some (84, false)⟩,
     ⟨some 88, .mv (.t 87), some (84, false)⟩,
     ⟨some 89, .faddr 0 (.t 5), some (88, true)⟩,
     ⟨some 90, .load 1 false (.t 89), some (88, true)⟩,
     ⟨some 91, .bin .neq (.t 90) (.k (.str [])), some (88, true)⟩,
     ⟨some 92, .pick (.t 88) (.t 91) (.k (.bool false)), some (84, false)⟩,
     ⟨some 93, .pick (.t 84) (.k (.bool true)) (.t 92), some (71, true)⟩,
     ⟨some 94, .pick (.t 71) (.t 93) (.k (.bool false)), none⟩,
     ⟨some 68, .mv (.t 94), none⟩])
   (.cond (.t 68) (.seq (.region [
       ⟨some 4, .mv (.k (.int .i64 9)), none⟩])
     (.ret))
     (.skip))))))
 (.seq (.region [
   ⟨some 4, .mv (.k (.int .i64 0)), none⟩])
 (.ret))))))⟩
theorem eq_kind_field (Φ : Calls') (a0 a1 : AV) (H : AH) (Q : Post) : fnE1 Φ ir_kind_field [a0, a1] H Q = kind_field Φ a0 a1 H Q := by kernel_rfl

/-! slices.Index[[]string,string] -/
def slices_Index___string_string__l1 (Φ : Calls') (a0 : AV) (a1 : AV) (x1 : AV) (Q : Post) : (List AV × AH) → ((List AV × AH) → Prop) → Prop := fun s2 L3 =>
 Do (abin .lss (sl s2.1 0) x1) fun x4 =>
 Gd x4 true (
 Do (aiaddr none 1 a0 (sl s2.1 0)) fun x5 =>
 Do (aload s2.2 1 false x5) fun x6 =>
 Do (abin .eql a1 x6) fun x7 =>
 Gd x7 true (
 Q (sl s2.1 0) s2.2) (
 Do (abin .add (sl s2.1 0) (.int .i64 1)) fun x8 =>
 L3 ([x8], s2.2))) (
 Q (.int .i64 (-1)) s2.2)
def slices_Index___string_string_ (Φ : Calls') (a0 : AV) (a1 : AV) (H : AH) (Q : Post) : Prop :=
 Do (alen false a0) fun x1 =>
 LoopP (slices_Index___string_string__l1 Φ a0 a1 x1 Q) ([(.int .i64 0)], H)
def ir_slices_Index___string_string_ : AFunc := ⟨19, [.tmp 4],
 .seq (.region [
   ⟨some 4, .mv (.k (.int .i64 0)), none⟩])
 (.seq (.seq (.region [
   ⟨some 6, .mv (.t 0), none⟩,
   ⟨some 7, .len false (.t 6), none⟩,
   ⟨some 8, .mv (.k (.int .i64 0)), none⟩])
 (.block 0 (.loop [8] [4, 5, 9, 10, 11, 12, 13, 14, 15, 16, 17, 18] (.seq (.region [
   ⟨some 9, .bin .lss (.t 8) (.t 7), none⟩])
 (.seq (.cond (.t 9) (.skip)
   (.exit 0))
 (.seq (.block 1 (.seq (.region [
   ⟨some 10, .mv (.t 8), none⟩,
   ⟨some 5, .mv (.t 10), none⟩])
 (.seq (.region [
   ⟨some 11, .mv (.t 1), none⟩,
   ⟨some 12, .mv (.t 0), none⟩,
   ⟨some 13, .mv (.t 5), none⟩,
   ⟨some 14, .iaddr none 1 (.t 12) (.t 13), none⟩,
   ⟨some 15, .load 1 false (.t 14), none⟩,
   ⟨some 16, .bin .eql (.t 11) (.t 15), none⟩])
 (.cond (.t 16) (.seq (.region [
     ⟨some 17, .mv (.t 5), none⟩,
     ⟨some 4, .mv (.t 17), none⟩])
   (.ret))
   (.skip)))))
 (.region [
   ⟨some 18, .bin .add (.t 8) (.k (.int .i64 1)), none⟩,
   ⟨some 8, .mv (.t 18), none⟩])))))))
 (.seq (.region [
   ⟨some 4, .mv (.k (.int .i64 (-1))), none⟩])
 (.ret)))⟩
theorem eq_slices_Index___string_string_ (Φ : Calls') (a0 a1 : AV) (H : AH) (Q : Post) : fnE1 Φ ir_slices_Index___string_string_ [a0, a1] H Q = slices_Index___string_string_ Φ a0 a1 H Q := by kernel_rfl

/-! rabbet/layout.torn -/
def layout_torn_k1 (Φ : Calls') (x1 : AV) (Q : Post) : List AV → AH → Prop := fun j10 H11 =>
 Gd3 (sl j10 0) false (
 Do (afaddr 3 x1) fun x16 =>
 Do (aload H11 1 false x16) fun x17 =>
Φ K.slices_ContainsFunc___api_Field_api_Field_ [x17, (.fn K.layout_torn_c1 [])] H11 fun x18 H19 =>
 Q x18 H19) (
 Q (.bool true) H11) (
 False)
def layout_torn_k2 (Φ : Calls') (x1 : AV) (Q : Post) : List AV → AH → Prop := fun j3 H4 =>
 Gd3 (sl j3 0) false (
 Do (afaddr 5 x1) fun x12 =>
 Do (aload H4 1 false x12) fun x13 =>
Φ K.slices_ContainsFunc___api_Type_api_Type_ [x13, (.fn K.layout_torn [])] H4 fun x14 H15 =>
 JoinP (layout_torn_k1 Φ x1 Q) [x14] H15) (
 JoinP (layout_torn_k1 Φ x1 Q) [(.bool true)] H4) (
 False)
def layout_torn (Φ : Calls') (a0 : AV) (H : AH) (Q : Post) : Prop :=
 DoH (aboxv H false 6 a0) fun x1 H2 =>
 Do (afaddr 2 x1) fun x5 =>
 Do (aload H2 1 false x5) fun x6 =>
 Gd3 x6 true (
 Do (aload H2 6 true x1) fun x7 =>
Φ K.layout_loose [x7] H2 fun x8 H9 =>
 JoinP (layout_torn_k2 Φ x1 Q) [x8] H9) (
 JoinP (layout_torn_k2 Φ x1 Q) [(.bool false)] H2) (
 False)
def ir_layout_torn : AFunc := ⟨19, [.tmp 2],
 .seq (.region [
   ⟨some 1, .box false 6 (.t 0), none⟩,
   ⟨some 2, .mv (.k (.bool false)), none⟩])
 (.seq (.rjoin [8] [3, 4, 5, 6, 7] [
   ⟨some 3, .faddr 2 (.t 1), none⟩,
   ⟨some 4, .load 1 false (.t 3), none⟩,
   ⟨some 5, .mv (.t 4), none⟩,
   ⟨some 6, .load 6 true (.t 1), some (5, true)⟩,
   ⟨some 7, .call K.layout_loose [(.t 6)], some (5, true)⟩,
   ⟨some 8, .pick (.t 5) (.t 7) (.k (.bool false)), none⟩]
 (.rjoin [13] [9, 10, 11, 12] [
   ⟨some 9, .mv (.t 8), none⟩,
   ⟨some 10, .faddr 5 (.t 1), some (9, false)⟩,
   ⟨some 11, .load 1 false (.t 10), some (9, false)⟩,
   ⟨some 12, .call K.slices_ContainsFunc___api_Type_api_Type_ [(.t 11), (.k (.fn K.layout_torn []))], some (9, false)⟩,
   ⟨some 13, .pick (.t 9) (.k (.bool true)) (.t 12), none⟩]
 (.region [
   ⟨some 14, .mv (.t 13), none⟩,
   ⟨some 15, .faddr 3 (.t 1), some (14, false)⟩,
   ⟨some 16, .load 1 false (.t 15), some (14, false)⟩,
   ⟨some 17, .call K.slices_ContainsFunc___api_Field_api_Field_ [(.t 16), (.k (.fn K.layout_torn_c1 []))], some (14, false)⟩,
   ⟨some 18, .pick (.t 14) (.k (.bool true)) (.t 17), none⟩,
   ⟨some 2, .mv (.t 18), none⟩])))
 (.ret))⟩
theorem eq_layout_torn (Φ : Calls') (a0 : AV) (H : AH) (Q : Post) : fnE1 Φ ir_layout_torn [a0] H Q = layout_torn Φ a0 H Q := by kernel_rfl

/-! rabbet/layout.of -/
def layout_of_k1 (Φ : Calls') (x1 : AV) (x3 : AV) (Q : Post) : List AV → AH → Prop := fun j5 H6 =>
 Do (aload H6 6 true x1) fun x46 =>
Φ K.layout_place [x46] H6 fun x47 H48 =>
 Do (aextract 0 x47) fun x49 =>
 Do (aextract 1 x47) fun x50 =>
 DoH (some (abox H48 true [.int .i64 0, .int .i64 0, .lst .nil 0 [], .int .i64 0])) fun x51 H52 =>
 Do (astore H52 4 x51 x49) fun H53 =>
 Do (afaddr 0 x51) fun x54 =>
 Do (aload H53 2 true x54) fun x55 =>
 Do (astore H53 2 x3 x55) fun H56 =>
 Do (aload H56 2 true x3) fun x57 =>
 Q (.tup [x57, x50]) H56
def layout_of_k2 (Φ : Calls') (x1 : AV) (x3 : AV) (x8 : AV) (Q : Post) : List AV → AH → Prop := fun j9 H10 =>
 Gd (sl j9 0) true (
 Do (afaddr 1 x1) fun x12 =>
 Do (aload H10 1 false x12) fun x13 =>
 Do (afaddr 1 x1) fun x14 =>
 Do (aload H10 1 false x14) fun x15 =>
 Do (abuild [.int .i64 0, .int .i64 0] [(0, 1, x13), (1, 1, x15)]) fun x16 =>
 Do (astore H10 2 x3 x16) fun H17 =>
 Do (aload H17 2 true x3) fun x18 =>
 Q (.tup [x18, (.bool true)]) H17) (
 Do (abin .eql x8 (.int .i64 5)) fun x19 =>
 Gd x19 true (
 Do (afaddr 5 x1) fun x20 =>
 Do (aload H10 1 false x20) fun x21 =>
 Do (aiaddr none 6 x21 (.int .i64 0)) fun x22 =>
 Do (aload H10 6 true x22) fun x23 =>
Φ K.layout_of [x23] H10 fun x24 H25 =>
 Do (aextract 0 x24) fun x26 =>
 Do (aextract 1 x24) fun x27 =>
 DoH (some (abox H25 true [.int .i64 0, .int .i64 0])) fun x28 H29 =>
 Do (astore H29 2 x28 x26) fun H30 =>
 Do (afaddr 0 x28) fun x31 =>
 Do (aload H30 1 false x31) fun x32 =>
 Do (afaddr 4 x1) fun x33 =>
 Do (aload H30 1 false x33) fun x34 =>
 Do (abin .mul x32 x34) fun x35 =>
 Do (afaddr 0 x28) fun x36 =>
 Do (astore H30 1 x36 x35) fun H37 =>
 Do (aload H37 2 true x28) fun x38 =>
 Gd3 x27 true (
 Do (afaddr 0 x28) fun x39 =>
 Do (aload H37 1 false x39) fun x40 =>
 Do (abin .leq x40 (.int .i64 65536)) fun x41 =>
 Do (astore H37 2 x3 x38) fun H42 =>
(((.bool true) : AV) = .bool true → aload H42 1 false x39 = some x40) ∧
(Do (aload H42 2 true x3) fun x43 =>
 Q (.tup [x43, x41]) H42)) (
 Do (astore H37 2 x3 x38) fun H44 =>
(((.bool false) : AV) = .bool true → aload H44 1 false (.tup []) = some (.tup [])) ∧
(Do (aload H44 2 true x3) fun x45 =>
 Q (.tup [x45, (.bool false)]) H44)) (
 False)) (
 JoinP (layout_of_k1 Φ x1 x3 Q) [] H10))
def layout_of (Φ : Calls') (a0 : AV) (H : AH) (Q : Post) : Prop :=
 DoH (aboxv H false 6 a0) fun x1 H2 =>
 DoH (some (abox H2 true [.int .i64 0, .int .i64 0])) fun x3 H4 =>
 Do (afaddr 0 x1) fun x7 =>
 Do (aload H4 1 false x7) fun x8 =>
 Do (abin .eql x8 (.int .i64 1)) fun x11 =>
 Gd x11 true (
 JoinP (layout_of_k2 Φ x1 x3 x8 Q) [x11] H4) (
 Do (abin .eql x8 (.int .i64 2)) fun x58 =>
 JoinP (layout_of_k2 Φ x1 x3 x8 Q) [x58] H4)
def ir_layout_of : AFunc := ⟨49, [.cell 2 2 true, .tmp 3],
 .seq (.region [
   ⟨some 1, .box false 6 (.t 0), none⟩,
   ⟨some 2, .alloc true [.int .i64 0, .int .i64 0], none⟩,
   ⟨some 3, .mv (.k (.bool false)), none⟩])
 (.join [] [3, 4, 5, 8, 9, 10, 11, 12, 13, 14, 15, 16, 17, 18, 19, 20, 21, 22, 23, 24, 25, 26, 27, 28, 29, 30, 31, 32, 33, 34, 35, 36, 37, 38, 39, 40] (.seq (.region [
   ⟨some 8, .faddr 0 (.t 1), none⟩,
   ⟨some 9, .load 1 false (.t 8), none⟩])
 (.block 0 (.join [10] [11, 12] (.seq (.region [
   ⟨some 11, .bin .eql (.t 9) (.k (.int .i64 1)), none⟩,
   ⟨some 10, .mv (.t 11), none⟩])
 (.cond (.t 10) (.skip)
   (.region [
     ⟨some 12, .bin .eql (.t 9) (.k (.int .i64 2)), none⟩,
     ⟨some 10, .mv (.t 12), none⟩])))
 (.cond (.t 10) (.seq (.region [
     ⟨some 13, .faddr 1 (.t 1), none⟩,
     ⟨some 14, .load 1 false (.t 13), none⟩,
     ⟨some 15, .faddr 1 (.t 1), none⟩,
     ⟨some 16, .load 1 false (.t 15), none⟩,
     ⟨some 17, .build [.int .i64 0, .int .i64 0] [(0, 1, (.t 14)), (1, 1, (.t 16))], none⟩,
     ⟨none, .store 2 (.t 2) (.t 17), none⟩,
     ⟨some 3, .mv (.k (.bool true)), none⟩])
   (.ret))
   (.seq (.region [
     ⟨some 19, .bin .eql (.t 9) (.k (.int .i64 5)), none⟩,
     ⟨some 18, .mv (.t 19), none⟩])
   (.cond (.t 18) (.seq (.region [
       ⟨some 21, .faddr 5 (.t 1), none⟩,
       ⟨some 22, .load 1 false (.t 21), none⟩,
       ⟨some 23, .iaddr none 6 (.t 22) (.k (.int .i64 0)), none⟩,
       ⟨some 24, .load 6 true (.t 23), none⟩,
       ⟨some 25, .call K.layout_of [(.t 24)], none⟩,
       ⟨some 20, .mv (.t 25), none⟩,
       ⟨some 26, .extract 0 (.t 20), none⟩,
       ⟨some 27, .extract 1 (.t 20), none⟩,
       ⟨some 4, .alloc true [.int .i64 0, .int .i64 0], none⟩,
       ⟨none, .store 2 (.t 4) (.t 26), none⟩,
       ⟨some 5, .mv (.t 27), none⟩])
     (.seq (.region [
       ⟨some 28, .faddr 0 (.t 4), none⟩,
       ⟨some 29, .load 1 false (.t 28), none⟩,
       ⟨some 30, .faddr 4 (.t 1), none⟩,
       ⟨some 31, .load 1 false (.t 30), none⟩,
       ⟨some 32, .bin .mul (.t 29) (.t 31), none⟩,
       ⟨some 33, .faddr 0 (.t 4), none⟩,
       ⟨none, .store 1 (.t 33) (.t 32), none⟩])
     (.seq (.draw [
       ⟨some 34, .load 2 true (.t 4), none⟩,
       ⟨some 35, .mv (.t 5), none⟩,
       ⟨some 36, .mv (.t 35), none⟩,
       ⟨some 37, .faddr 0 (.t 4), some (36, true)⟩,
       ⟨some 38, .load 1 false (.t 37), some (36, true)⟩,
       ⟨some 39, .bin .leq (.t 38) (.k (.int .i64 65536)), some (36, true)⟩,
       ⟨some 40, .pick (.t 36) (.t 39) (.k (.bool false)), none⟩,
       ⟨none, .store 2 (.t 2) (.t 34), none⟩,
       ⟨some 3, .mv (.t 40), none⟩]
     [[], [], [1], [1, 2], [1, 2, 3], [1, 2, 3, 4], [1, 2, 3, 4, 5], [0, 1, 2], [0, 1, 2, 3, 4, 5, 6, 7]] [([0, 1, 2, 3, 4, 5, 6], 7, [4])] [8])
     (.ret))))
     (.skip)))))))
 (.seq (.region [
   ⟨some 42, .load 6 true (.t 1), none⟩,
   ⟨some 43, .call K.layout_place [(.t 42)], none⟩,
   ⟨some 41, .mv (.t 43), none⟩,
   ⟨some 44, .extract 0 (.t 41), none⟩,
   ⟨some 45, .extract 1 (.t 41), none⟩,
   ⟨some 6, .alloc true [.int .i64 0, .int .i64 0, .lst .nil 0 [], .int .i64 0], none⟩,
   ⟨none, .store 4 (.t 6) (.t 44), none⟩,
   ⟨some 7, .mv (.t 45), none⟩])
 (.seq (.region [
   ⟨some 46, .faddr 0 (.t 6), none⟩,
   ⟨some 47, .load 2 true (.t 46), none⟩,
   ⟨some 48, .mv (.t 7), none⟩,
   ⟨none, .store 2 (.t 2) (.t 47), none⟩,
   ⟨some 3, .mv (.t 48), none⟩])
 (.ret))))⟩
theorem eq_layout_of (Φ : Calls') (a0 : AV) (H : AH) (Q : Post) : fnE1 Φ ir_layout_of [a0] H Q = layout_of Φ a0 H Q := by kernel_rfl

/-! rabbet/check.of -/
def check_of_k1 (Φ : Calls') (x1 : AV) (Q : Post) : List AV → AH → Prop := fun j3 H4 =>
 Do (abuild [.bool false, .bool false, .bool false, .int .i64 0, .bool false, .bool false] []) fun x41 =>
 Do (astore H4 6 x1 x41) fun H42 =>
 Do (aload H42 6 true x1) fun x43 =>
 Q (.tup [x43, (.bool false)]) H42
def check_of_k2 (Φ : Calls') (a0 : AV) (x1 : AV) (Q : Post) : List AV → AH → Prop := fun j11 H12 =>
 Gd (sl j11 0) true (
 Do (abuild [.bool false, .bool false, .bool false, .int .i64 0, .bool false, .bool false] [(2, 1, (.bool true)), (3, 1, (.int .i64 1))]) fun x14 =>
 Do (astore H12 6 x1 x14) fun H15 =>
 Do (aload H15 6 true x1) fun x16 =>
 Q (.tup [x16, (.bool true)]) H15) (
 Do (abin .eql a0 (.int .i64 5)) fun x17 =>
 Gd x17 true (
 Do (abuild [.bool false, .bool false, .bool false, .int .i64 0, .bool false, .bool false] [(0, 1, (.bool true)), (1, 1, (.bool true)), (2, 1, (.bool true))]) fun x18 =>
 Do (astore H12 6 x1 x18) fun H19 =>
 Do (aload H19 6 true x1) fun x20 =>
 Q (.tup [x20, (.bool true)]) H19) (
 Do (abin .eql a0 (.int .i64 6)) fun x21 =>
 Gd x21 true (
 Do (abuild [.bool false, .bool false, .bool false, .int .i64 0, .bool false, .bool false] [(2, 1, (.bool true)), (3, 1, (.int .i64 2))]) fun x22 =>
 Do (astore H12 6 x1 x22) fun H23 =>
 Do (aload H23 6 true x1) fun x24 =>
 Q (.tup [x24, (.bool true)]) H23) (
 Do (abin .eql a0 (.int .i64 7)) fun x25 =>
 Gd x25 true (
 Do (abuild [.bool false, .bool false, .bool false, .int .i64 0, .bool false, .bool false] []) fun x26 =>
 Do (astore H12 6 x1 x26) fun H27 =>
 Do (aload H27 6 true x1) fun x28 =>
 Q (.tup [x28, (.bool true)]) H27) (
 Do (abin .eql a0 (.int .i64 8)) fun x29 =>
 Gd x29 true (
 Do (abuild [.bool false, .bool false, .bool false, .int .i64 0, .bool false, .bool false] [(3, 1, (.int .i64 1)), (4, 1, (.bool true)), (5, 1, (.bool true))]) fun x30 =>
 Do (astore H12 6 x1 x30) fun H31 =>
 Do (aload H31 6 true x1) fun x32 =>
 Q (.tup [x32, (.bool true)]) H31) (
 Do (abin .eql a0 (.int .i64 9)) fun x33 =>
 Gd x33 true (
 Do (abuild [.bool false, .bool false, .bool false, .int .i64 0, .bool false, .bool false] [(3, 1, (.int .i64 1)), (4, 1, (.bool true))]) fun x34 =>
 Do (astore H12 6 x1 x34) fun H35 =>
 Do (aload H35 6 true x1) fun x36 =>
 Q (.tup [x36, (.bool true)]) H35) (
 Do (abin .eql a0 (.int .i64 10)) fun x37 =>
 Gd x37 true (
 Do (abuild [.bool false, .bool false, .bool false, .int .i64 0, .bool false, .bool false] [(3, 1, (.int .i64 1))]) fun x38 =>
 Do (astore H12 6 x1 x38) fun H39 =>
 Do (aload H39 6 true x1) fun x40 =>
 Q (.tup [x40, (.bool true)]) H39) (
 JoinP (check_of_k1 Φ x1 Q) [] H12)))))))
def check_of_k3 (Φ : Calls') (a0 : AV) (x1 : AV) (Q : Post) : List AV → AH → Prop := fun j5 H6 =>
 Gd (sl j5 0) true (
 Do (abuild [.bool false, .bool false, .bool false, .int .i64 0, .bool false, .bool false] [(0, 1, (.bool true)), (3, 1, (.int .i64 1))]) fun x8 =>
 Do (astore H6 6 x1 x8) fun H9 =>
 Do (aload H9 6 true x1) fun x10 =>
 Q (.tup [x10, (.bool true)]) H9) (
 Do (abin .eql a0 (.int .i64 3)) fun x13 =>
 Gd x13 true (
 JoinP (check_of_k2 Φ a0 x1 Q) [x13] H6) (
 Do (abin .eql a0 (.int .i64 4)) fun x44 =>
 JoinP (check_of_k2 Φ a0 x1 Q) [x44] H6))
def check_of (Φ : Calls') (a0 : AV) (H : AH) (Q : Post) : Prop :=
 DoH (some (abox H true [.bool false, .bool false, .bool false, .int .i64 0, .bool false, .bool false])) fun x1 H2 =>
 Do (abin .eql a0 (.int .i64 1)) fun x7 =>
 Gd x7 true (
 JoinP (check_of_k3 Φ a0 x1 Q) [x7] H2) (
 Do (abin .eql a0 (.int .i64 2)) fun x45 =>
 JoinP (check_of_k3 Φ a0 x1 Q) [x45] H2)
def ir_check_of : AFunc := ⟨32, [.cell 2 6 true, .tmp 3],
 .seq (.region [
   ⟨some 2, .alloc true [.bool false, .bool false, .bool false, .int .i64 0, .bool false, .bool false], none⟩,
   ⟨some 3, .mv (.k (.bool false)), none⟩])
 (.join [] [3, 4, 5, 6, 7, 8, 9, 10, 11, 12, 13, 14, 15, 16, 17, 18, 19, 20, 21, 22, 23, 24, 25, 26, 27, 28, 29, 30] (.seq (.region [
   ⟨some 4, .mv (.t 0), none⟩])
 (.block 0 (.join [5] [6, 7] (.seq (.region [
   ⟨some 6, .bin .eql (.t 4) (.k (.int .i64 1)), none⟩,
   ⟨some 5, .mv (.t 6), none⟩])
 (.cond (.t 5) (.skip)
   (.region [
     ⟨some 7, .bin .eql (.t 4) (.k (.int .i64 2)), none⟩,
     ⟨some 5, .mv (.t 7), none⟩])))
 (.cond (.t 5) (.seq (.region [
     ⟨some 8, .build [.bool false, .bool false, .bool false, .int .i64 0, .bool false, .bool false] [(0, 1, (.k (.bool true))), (3, 1, (.k (.int .i64 1)))], none⟩,
     ⟨none, .store 6 (.t 2) (.t 8), none⟩,
     ⟨some 3, .mv (.k (.bool true)), none⟩])
   (.ret))
   (.join [9] [10, 11] (.seq (.region [
     ⟨some 10, .bin .eql (.t 4) (.k (.int .i64 3)), none⟩,
     ⟨some 9, .mv (.t 10), none⟩])
   (.cond (.t 9) (.skip)
     (.region [
       ⟨some 11, .bin .eql (.t 4) (.k (.int .i64 4)), none⟩,
       ⟨some 9, .mv (.t 11), none⟩])))
   (.cond (.t 9) (.seq (.region [
       ⟨some 12, .build [.bool false, .bool false, .bool false, .int .i64 0, .bool false, .bool false] [(2, 1, (.k (.bool true))), (3, 1, (.k (.int .i64 1)))], none⟩,
       ⟨none, .store 6 (.t 2) (.t 12), none⟩,
       ⟨some 3, .mv (.k (.bool true)), none⟩])
     (.ret))
     (.seq (.region [
       ⟨some 14, .bin .eql (.t 4) (.k (.int .i64 5)), none⟩,
       ⟨some 13, .mv (.t 14), none⟩])
     (.cond (.t 13) (.seq (.region [
         ⟨some 15, .build [.bool false, .bool false, .bool false, .int .i64 0, .bool false, .bool false] [(0, 1, (.k (.bool true))), (1, 1, (.k (.bool true))), (2, 1, (.k (.bool true)))], none⟩,
         ⟨none, .store 6 (.t 2) (.t 15), none⟩,
         ⟨some 3, .mv (.k (.bool true)), none⟩])
       (.ret))
       (.seq (.region [
         ⟨some 17, .bin .eql (.t 4) (.k (.int .i64 6)), none⟩,
         ⟨some 16, .mv (.t 17), none⟩])
       (.cond (.t 16) (.seq (.region [
           ⟨some 18, .build [.bool false, .bool false, .bool false, .int .i64 0, .bool false, .bool false] [(2, 1, (.k (.bool true))), (3, 1, (.k (.int .i64 2)))], none⟩,
           ⟨none, .store 6 (.t 2) (.t 18), none⟩,
           ⟨some 3, .mv (.k (.bool true)), none⟩])
         (.ret))
         (.seq (.region [
           ⟨some 20, .bin .eql (.t 4) (.k (.int .i64 7)), none⟩,
           ⟨some 19, .mv (.t 20), none⟩])
         (.cond (.t 19) (.seq (.region [
             ⟨some 21, .build [.bool false, .bool false, .bool false, .int .i64 0, .bool false, .bool false] [], none⟩,
             ⟨none, .store 6 (.t 2) (.t 21), none⟩,
             ⟨some 3, .mv (.k (.bool true)), none⟩])
           (.ret))
           (.seq (.region [
             ⟨some 23, .bin .eql (.t 4) (.k (.int .i64 8)), none⟩,
             ⟨some 22, .mv (.t 23), none⟩])
           (.cond (.t 22) (.seq (.region [
               ⟨some 24, .build [.bool false, .bool false, .bool false, .int .i64 0, .bool false, .bool false] [(3, 1, (.k (.int .i64 1))), (4, 1, (.k (.bool true))), (5, 1, (.k (.bool true)))], none⟩,
               ⟨none, .store 6 (.t 2) (.t 24), none⟩,
               ⟨some 3, .mv (.k (.bool true)), none⟩])
             (.ret))
             (.seq (.region [
               ⟨some 26, .bin .eql (.t 4) (.k (.int .i64 9)), none⟩,
               ⟨some 25, .mv (.t 26), none⟩])
             (.cond (.t 25) (.seq (.region [
                 ⟨some 27, .build [.bool false, .bool false, .bool false, .int .i64 0, .bool false, .bool false] [(3, 1, (.k (.int .i64 1))), (4, 1, (.k (.bool true)))], none⟩,
                 ⟨none, .store 6 (.t 2) (.t 27), none⟩,
                 ⟨some 3, .mv (.k (.bool true)), none⟩])
               (.ret))
               (.seq (.region [
                 ⟨some 29, .bin .eql (.t 4) (.k (.int .i64 10)), none⟩,
                 ⟨some 28, .mv (.t 29), none⟩])
               (.cond (.t 28) (.seq (.region [
                   ⟨some 30, .build [.bool false, .bool false, .bool false, .int .i64 0, .bool false, .bool false] [(3, 1, (.k (.int .i64 1)))], none⟩,
                   ⟨none, .store 6 (.t 2) (.t 30), none⟩,
                   ⟨some 3, .mv (.k (.bool true)), none⟩])
                 (.ret))
                 (.skip)))))))))))))))))))
 (.seq (.region [
   ⟨some 31, .build [.bool false, .bool false, .bool false, .int .i64 0, .bool false, .bool false] [], none⟩,
   ⟨none, .store 6 (.t 2) (.t 31), none⟩,
   ⟨some 3, .mv (.k (.bool false)), none⟩])
 (.ret)))⟩
theorem eq_check_of (Φ : Calls') (a0 : AV) (H : AH) (Q : Post) : fnE1 Φ ir_check_of [a0] H Q = check_of Φ a0 H Q := by kernel_rfl

/-! rabbet/check.empty -/
def check_empty (Φ : Calls') (a0 : AV) (H : AH) (Q : Post) : Prop :=
 DoH (aboxv H false 2 a0) fun x1 H2 =>
 Do (afaddr 0 x1) fun x3 =>
 Do (aload H2 1 false x3) fun x4 =>
 Do (abin .eql x4 (.str [])) fun x5 =>
 Gd3 x5 true (
 Do (afaddr 1 x1) fun x6 =>
 Do (aload H2 1 false x6) fun x7 =>
 Do (alen false x7) fun x8 =>
 Do (abin .eql x8 (.int .i64 0)) fun x9 =>
 Q x9 H2) (
 Q (.bool false) H2) (
 False)
def ir_check_empty : AFunc := ⟨12, [.tmp 2],
 .seq (.region [
   ⟨some 1, .box false 2 (.t 0), none⟩,
   ⟨some 2, .mv (.k (.bool false)), none⟩])
 (.seq (.region [
   ⟨some 3, .faddr 0 (.t 1), none⟩,
   ⟨some 4, .load 1 false (.t 3), none⟩,
   ⟨some 5, .bin .eql (.t 4) (.k (.str [])), none⟩,
   ⟨some 6, .mv (.t 5), none⟩,
   ⟨some 7, .faddr 1 (.t 1), some (6, true)⟩,
   ⟨some 8, .load 1 false (.t 7), some (6, true)⟩,
   ⟨some 9, .len false (.t 8), some (6, true)⟩,
   ⟨some 10, .bin .eql (.t 9) (.k (.int .i64 0)), some (6, true)⟩,
   ⟨some 11, .pick (.t 6) (.t 10) (.k (.bool false)), none⟩,
   ⟨some 2, .mv (.t 11), none⟩])
 (.ret))⟩
theorem eq_check_empty (Φ : Calls') (a0 : AV) (H : AH) (Q : Post) : fnE1 Φ ir_check_empty [a0] H Q = check_empty Φ a0 H Q := by kernel_rfl

/-! rabbet/check.fits -/
def check_fits_k1 (Φ : Calls') (x1 : AV) (Q : Post) : List AV → AH → Prop := fun j3 H4 =>
 Do (afaddr 0 x1) fun x20 =>
 Do (aload H4 1 false x20) fun x21 =>
 Do (abin .eql x21 (.int .i64 2)) fun x22 =>
 Gd3 x22 true (
 Do (afaddr 1 x1) fun x23 =>
 Do (aload H4 1 false x23) fun x24 =>
 Do (abin .leq x24 (.int .i64 8)) fun x25 =>
 Q x25 H4) (
 Q (.bool false) H4) (
 False)
def check_fits_k2 (Φ : Calls') (x1 : AV) (Q : Post) : List AV → AH → Prop := fun j11 H12 =>
 Gd (sl j11 0) true (
 Do (afaddr 0 x1) fun x14 =>
 Do (aload H12 1 false x14) fun x15 =>
 Do (abin .eql x15 (.int .i64 2)) fun x16 =>
 Gd3 x16 true (
 Do (afaddr 1 x1) fun x17 =>
 Do (aload H12 1 false x17) fun x18 =>
 Do (abin .eql x18 (.int .i64 16)) fun x19 =>
 Q x19 H12) (
 Q (.bool false) H12) (
 False)) (
 JoinP (check_fits_k1 Φ x1 Q) [] H12)
def check_fits_k3 (Φ : Calls') (a0 : AV) (x1 : AV) (Q : Post) : List AV → AH → Prop := fun j5 H6 =>
 Gd (sl j5 0) true (
 Do (afaddr 0 x1) fun x8 =>
 Do (aload H6 1 false x8) fun x9 =>
 Do (abin .eql x9 (.int .i64 1)) fun x10 =>
 Q x10 H6) (
 Do (abin .eql a0 (.int .i64 5)) fun x13 =>
 Gd x13 true (
 JoinP (check_fits_k2 Φ x1 Q) [x13] H6) (
 Do (abin .eql a0 (.int .i64 6)) fun x26 =>
 JoinP (check_fits_k2 Φ x1 Q) [x26] H6))
def check_fits (Φ : Calls') (a0 : AV) (a1 : AV) (H : AH) (Q : Post) : Prop :=
 DoH (aboxv H false 6 a1) fun x1 H2 =>
 Do (abin .eql a0 (.int .i64 3)) fun x7 =>
 Gd x7 true (
 JoinP (check_fits_k3 Φ a0 x1 Q) [x7] H2) (
 Do (abin .eql a0 (.int .i64 14)) fun x27 =>
 JoinP (check_fits_k3 Φ a0 x1 Q) [x27] H2)
def ir_check_fits : AFunc := ⟨31, [.tmp 4],
 .seq (.region [
   ⟨some 3, .box false 6 (.t 1), none⟩,
   ⟨some 4, .mv (.k (.bool false)), none⟩])
 (.join [] [4, 5, 6, 7, 8, 9, 10, 11, 12, 13, 14, 15, 16, 17, 18, 19, 20, 21, 22] (.seq (.region [
   ⟨some 5, .mv (.t 0), none⟩])
 (.block 0 (.join [6] [7, 8] (.seq (.region [
   ⟨some 7, .bin .eql (.t 5) (.k (.int .i64 3)), none⟩,
   ⟨some 6, .mv (.t 7), none⟩])
 (.cond (.t 6) (.skip)
   (.region [
     ⟨some 8, .bin .eql (.t 5) (.k (.int .i64 14)), none⟩,
     ⟨some 6, .mv (.t 8), none⟩])))
 (.cond (.t 6) (.seq (.region [
     ⟨some 9, .faddr 0 (.t 3), none⟩,
     ⟨some 10, .load 1 false (.t 9), none⟩,
     ⟨some 11, .bin .eql (.t 10) (.k (.int .i64 1)), none⟩,
     ⟨some 4, .mv (.t 11), none⟩])
   (.ret))
   (.join [12] [13, 14] (.seq (.region [
     ⟨some 13, .bin .eql (.t 5) (.k (.int .i64 5)), none⟩,
     ⟨some 12, .mv (.t 13), none⟩])
   (.cond (.t 12) (.skip)
     (.region [
       ⟨some 14, .bin .eql (.t 5) (.k (.int .i64 6)), none⟩,
       ⟨some 12, .mv (.t 14), none⟩])))
   (.cond (.t 12) (.seq (.region [
       ⟨some 15, .faddr 0 (.t 3), none⟩,
       ⟨some 16, .load 1 false (.t 15), none⟩,
       ⟨some 17, .bin .eql (.t 16) (.k (.int .i64 2)), none⟩,
       ⟨some 18, .mv (.t 17), none⟩,
       ⟨some 19, .faddr 1 (.t 3), some (18, true)⟩,
       ⟨some 20, .load 1 false (.t 19), some (18, true)⟩,
       ⟨some 21, .bin .eql (.t 20) (.k (.int .i64 16)), some (18, true)⟩,
       ⟨some 22, .pick (.t 18) (.t 21) (.k (.bool false)), none⟩,
       ⟨some 4, .mv (.t 22), none⟩])
     (.ret))
     (.skip)))))))
 (.seq (.region [
   ⟨some 23, .faddr 0 (.t 3), none⟩,
   ⟨some 24, .load 1 false (.t 23), none⟩,
   ⟨some 25, .bin .eql (.t 24) (.k (.int .i64 2)), none⟩,
   ⟨some 26, .mv (.t 25), none⟩,
   ⟨some 27, .faddr 1 (.t 3), some (26, true)⟩,
   ⟨some 28, .load 1 false (.t 27), some (26, true)⟩,
   ⟨some 29, .bin .leq (.t 28) (.k (.int .i64 8)), some (26, true)⟩,
   ⟨some 30, .pick (.t 26) (.t 29) (.k (.bool false)), none⟩,
   ⟨some 4, .mv (.t 30), none⟩])
 (.ret)))⟩
theorem eq_check_fits (Φ : Calls') (a0 a1 : AV) (H : AH) (Q : Post) : fnE1 Φ ir_check_fits [a0, a1] H Q = check_fits Φ a0 a1 H Q := by kernel_rfl

/-! (rabbet/check.checker).expr -/
def check_checker_expr_k1 (Φ : Calls') (a0 : AV) (a2 : AV) (x1 : AV) (Q : Post) : List AV → AH → Prop := fun j33 H34 =>
 Do (afaddr 7 x1) fun x45 =>
 Do (aload H34 1 false x45) fun x46 =>
Φ K.check_checker_exprs [a0, x46, a2] H34 fun x47 H48 =>
 Q (.tup []) H48
def check_checker_expr_k2 (Φ : Calls') (a0 : AV) (a2 : AV) (x1 : AV) (Q : Post) : List AV → AH → Prop := fun j22 H23 =>
 Do (afaddr 0 x1) fun x35 =>
 Do (aload H23 1 false x35) fun x36 =>
 Do (abin .geq x36 (.int .i64 4)) fun x37 =>
 Gd x37 true (
 Do (afaddr 0 x1) fun x38 =>
 Do (aload H23 1 false x38) fun x39 =>
 Do (abin .add (.int .i64 10) x39) fun x40 =>
 Do (afaddr 5 x1) fun x41 =>
 Do (aload H23 2 true x41) fun x42 =>
Φ K.check_checker_place [a0, x40, x42, a2] H23 fun x43 H44 =>
 JoinP (check_checker_expr_k1 Φ a0 a2 x1 Q) [] H44) (
 JoinP (check_checker_expr_k1 Φ a0 a2 x1 Q) [] H23)
def check_checker_expr (Φ : Calls') (a0 : AV) (a1 : AV) (a2 : AV) (H : AH) (Q : Post) : Prop :=
 DoH (aboxv H false 8 a1) fun x1 H2 =>
 Do (abin .leq a2 (.int .i64 64)) fun x3 =>
Φ K.check_checker_need [a0, x3, (.int .i64 5)] H2 fun x4 H5 =>
 Do (aload H5 8 true x1) fun x6 =>
Φ K.check_formed [x6] H5 fun x7 H8 =>
Φ K.check_checker_need [a0, x7, (.int .i64 4)] H8 fun x9 H10 =>
 Do (afaddr 0 x1) fun x11 =>
 Do (aload H10 1 false x11) fun x12 =>
 Do (abin .add (.int .i64 10) x12) fun x13 =>
 Do (afaddr 4 x1) fun x14 =>
 Do (aload H10 1 false x14) fun x15 =>
Φ K.check_Order [x13, x15] H10 fun x16 H17 =>
Φ K.check_checker_need [a0, x16, (.int .i64 11)] H17 fun x18 H19 =>
Φ K.check_checker_bad [a0] H19 fun x20 H21 =>
 Gd x20 true (
 Q (.tup []) H21) (
 Do (afaddr 0 x1) fun x24 =>
 Do (aload H21 1 false x24) fun x25 =>
 Do (abin .eql x25 (.int .i64 2)) fun x26 =>
 Gd x26 true (
 Do (afaddr 2 x1) fun x27 =>
 Do (aload H21 1 false x27) fun x28 =>
Φ K.check_checker_there [a0, x28] H21 fun x29 H30 =>
Φ K.check_checker_need [a0, x29, (.int .i64 6)] H30 fun x31 H32 =>
 JoinP (check_checker_expr_k2 Φ a0 a2 x1 Q) [] H32) (
 JoinP (check_checker_expr_k2 Φ a0 a2 x1 Q) [] H21))
def ir_check_checker_expr : AFunc := ⟨49, [],
 .seq (.region [
   ⟨some 4, .box false 8 (.t 1), none⟩])
 (.seq (.region [
   ⟨some 6, .mv (.t 0), none⟩,
   ⟨some 7, .mv (.t 2), none⟩,
   ⟨some 8, .bin .leq (.t 7) (.k (.int .i64 64)), none⟩,
   ⟨some 9, .call K.check_checker_need [(.t 6), (.t 8), (.k (.int .i64 5))], none⟩])
 (.seq (.region [
   ⟨some 10, .mv (.t 0), none⟩,
   ⟨some 11, .load 8 true (.t 4), none⟩,
   ⟨some 12, .call K.check_formed [(.t 11)], none⟩,
   ⟨some 13, .call K.check_checker_need [(.t 10), (.t 12), (.k (.int .i64 4))], none⟩])
 (.seq (.region [
   ⟨some 14, .mv (.t 0), none⟩,
   ⟨some 15, .faddr 0 (.t 4), none⟩,
   ⟨some 16, .load 1 false (.t 15), none⟩,
   ⟨some 17, .bin .add (.k (.int .i64 10)) (.t 16), none⟩,
   ⟨some 18, .faddr 4 (.t 4), none⟩,
   ⟨some 19, .load 1 false (.t 18), none⟩,
   ⟨some 20, .call K.check_Order [(.t 17), (.t 19)], none⟩,
   ⟨some 21, .call K.check_checker_need [(.t 14), (.t 20), (.k (.int .i64 11))], none⟩])
 (.seq (.seq (.region [
   ⟨some 22, .mv (.t 0), none⟩,
   ⟨some 23, .call K.check_checker_bad [(.t 22)], none⟩])
 (.cond (.t 23) (.ret)
   (.skip)))
 (.join [] [24, 25, 26, 27, 28, 29, 30, 31, 32] (.seq (.region [
   ⟨some 24, .faddr 0 (.t 4), none⟩,
   ⟨some 25, .load 1 false (.t 24), none⟩,
   ⟨some 26, .bin .eql (.t 25) (.k (.int .i64 2)), none⟩])
 (.cond (.t 26) (.region [
     ⟨some 27, .mv (.t 0), none⟩,
     ⟨some 28, .mv (.t 0), none⟩,
     ⟨some 29, .faddr 2 (.t 4), none⟩,
     ⟨some 30, .load 1 false (.t 29), none⟩,
     ⟨some 31, .call K.check_checker_there [(.t 28), (.t 30)], none⟩,
     ⟨some 32, .call K.check_checker_need [(.t 27), (.t 31), (.k (.int .i64 6))], none⟩])
   (.skip)))
 (.join [] [33, 34, 35, 36, 37, 38, 39, 40, 41, 42, 43] (.seq (.region [
   ⟨some 33, .faddr 0 (.t 4), none⟩,
   ⟨some 34, .load 1 false (.t 33), none⟩,
   ⟨some 35, .bin .geq (.t 34) (.k (.int .i64 4)), none⟩])
 (.cond (.t 35) (.region [
     ⟨some 36, .mv (.t 0), none⟩,
     ⟨some 37, .faddr 0 (.t 4), none⟩,
     ⟨some 38, .load 1 false (.t 37), none⟩,
     ⟨some 39, .bin .add (.k (.int .i64 10)) (.t 38), none⟩,
     ⟨some 40, .faddr 5 (.t 4), none⟩,
     ⟨some 41, .load 2 true (.t 40), none⟩,
     ⟨some 42, .mv (.t 2), none⟩,
     ⟨some 43, .call K.check_checker_place [(.t 36), (.t 39), (.t 41), (.t 42)], none⟩])
   (.skip)))
 (.region [
   ⟨some 44, .mv (.t 0), none⟩,
   ⟨some 45, .faddr 7 (.t 4), none⟩,
   ⟨some 46, .load 1 false (.t 45), none⟩,
   ⟨some 47, .mv (.t 2), none⟩,
   ⟨some 48, .call K.check_checker_exprs [(.t 44), (.t 46), (.t 47)], none⟩])))))))⟩
theorem eq_check_checker_expr (Φ : Calls') (a0 a1 a2 : AV) (H : AH) (Q : Post) : fnE1 Φ ir_check_checker_expr [a0, a1, a2] H Q = check_checker_expr Φ a0 a1 a2 H Q := by kernel_rfl

/-! slices.ContainsFunc[[]rabbet/api.Field,rabbet/api.Field] -/
def slices_ContainsFunc___api_Field_api_Field_ (Φ : Calls') (a0 : AV) (a1 : AV) (H : AH) (Q : Post) : Prop :=
Φ K.slices_IndexFunc___api_Field_api_Field_ [a0, a1] H fun x1 H2 =>
 Do (abin .geq x1 (.int .i64 0)) fun x3 =>
 Q x3 H2
def ir_slices_ContainsFunc___api_Field_api_Field_ : AFunc := ⟨9, [.tmp 4],
 .seq (.region [
   ⟨some 4, .mv (.k (.bool false)), none⟩])
 (.seq (.region [
   ⟨some 5, .mv (.t 0), none⟩,
   ⟨some 6, .mv (.t 1), none⟩,
   ⟨some 7, .call K.slices_IndexFunc___api_Field_api_Field_ [(.t 5), (.t 6)], none⟩,
   ⟨some 8, .bin .geq (.t 7) (.k (.int .i64 0)), none⟩,
   ⟨some 4, .mv (.t 8), none⟩])
 (.ret))⟩
theorem eq_slices_ContainsFunc___api_Field_api_Field_ (Φ : Calls') (a0 a1 : AV) (H : AH) (Q : Post) : fnE1 Φ ir_slices_ContainsFunc___api_Field_api_Field_ [a0, a1] H Q = slices_ContainsFunc___api_Field_api_Field_ Φ a0 a1 H Q := by kernel_rfl

/-! rabbet/kind.field$1 -/
def kind_field_c1 (Φ : Calls') (a0 : AV) (a1 : AV) (H : AH) (Q : Post) : Prop :=
 DoH (aboxv H false 9 a0) fun x1 H2 =>
 Do (afaddr 0 x1) fun x3 =>
 Do (aload H2 1 false x3) fun x4 =>
 Do (afaddr 0 a1) fun x5 =>
 Do (aload H2 1 false x5) fun x6 =>
 Do (abin .eql x4 x6) fun x7 =>
 Q x7 H2
def ir_kind_field_c1 : AFunc := ⟨9, [.tmp 3],
 .seq (.region [
   ⟨some 2, .box false 9 (.t 0), none⟩,
   ⟨some 3, .mv (.k (.bool false)), none⟩])
 (.seq (.region [
   ⟨some 4, .faddr 0 (.t 2), none⟩,
   ⟨some 5, .load 1 false (.t 4), none⟩,
   ⟨some 6, .faddr 0 (.t 1), none⟩,
   ⟨some 7, .load 1 false (.t 6), none⟩,
   ⟨some 8, .bin .eql (.t 5) (.t 7), none⟩,
   ⟨some 3, .mv (.t 8), none⟩])
 (.ret))⟩
theorem eq_kind_field_c1 (Φ : Calls') (a0 a1 : AV) (H : AH) (Q : Post) : fnE1 Φ ir_kind_field_c1 [a0, a1] H Q = kind_field_c1 Φ a0 a1 H Q := by kernel_rfl

end Rb.S

/- Functions in the small language, and what they mean. By spec.py. -/
set_option linter.unusedVariables false
namespace Rb.S
open Go

/-! rabbet/layout.loose -/
def layout_loose_k1 (Φ : Calls') (x1 : AV) (Q : Post) : List AV → AH → Prop := fun j11 H12 =>
 Gd3 (sl j11 0) false (
 Do (afaddr 3 x1) fun x17 =>
 Do (aload H12 1 false x17) fun x18 =>
Φ K.slices_ContainsFunc___api_Field_api_Field_ [x18, (.fn K.layout_loose_c1 [])] H12 fun x19 H20 =>
 Q x19 H20) (
 Q (.bool true) H12) (
 False)
def layout_loose_k2 (Φ : Calls') (x1 : AV) (Q : Post) : List AV → AH → Prop := fun j3 H4 =>
 Gd3 (sl j3 0) false (
 Do (afaddr 5 x1) fun x13 =>
 Do (aload H4 1 false x13) fun x14 =>
Φ K.slices_ContainsFunc___api_Type_api_Type_ [x14, (.fn K.layout_loose [])] H4 fun x15 H16 =>
 JoinP (layout_loose_k1 Φ x1 Q) [x15] H16) (
 JoinP (layout_loose_k1 Φ x1 Q) [(.bool true)] H4) (
 False)
def layout_loose (Φ : Calls') (a0 : AV) (H : AH) (Q : Post) : Prop :=
 DoH (aboxv H false 6 a0) fun x1 H2 =>
 Do (afaddr 0 x1) fun x5 =>
 Do (aload H2 1 false x5) fun x6 =>
 Do (abin .eql x6 (.int .i64 2)) fun x7 =>
 Gd3 x7 true (
 Do (afaddr 1 x1) fun x8 =>
 Do (aload H2 1 false x8) fun x9 =>
 Do (abin .gtr x9 (.int .i64 1)) fun x10 =>
 JoinP (layout_loose_k2 Φ x1 Q) [x10] H2) (
 JoinP (layout_loose_k2 Φ x1 Q) [(.bool false)] H2) (
 False)
def ir_layout_loose : AFunc := ⟨21, [.tmp 2],
 .seq (.region [
   ⟨some 1, .box false 6 (.t 0), none⟩,
   ⟨some 2, .mv (.k (.bool false)), none⟩])
 (.seq (.rjoin [10] [3, 4, 5, 6, 7, 8, 9] [
   ⟨some 3, .faddr 0 (.t 1), none⟩,
   ⟨some 4, .load 1 false (.t 3), none⟩,
   ⟨some 5, .bin .eql (.t 4) (.k (.int .i64 2)), none⟩,
   ⟨some 6, .mv (.t 5), none⟩,
   ⟨some 7, .faddr 1 (.t 1), some (6, true)⟩,
   ⟨some 8, .load 1 false (.t 7), some (6, true)⟩,
   ⟨some 9, .bin .gtr (.t 8) (.k (.int .i64 1)), some (6, true)⟩,
   ⟨some 10, .pick (.t 6) (.t 9) (.k (.bool false)), none⟩]
 (.rjoin [15] [11, 12, 13, 14] [
   ⟨some 11, .mv (.t 10), none⟩,
   ⟨some 12, .faddr 5 (.t 1), some (11, false)⟩,
   ⟨some 13, .load 1 false (.t 12), some (11, false)⟩,
   ⟨some 14, .call K.slices_ContainsFunc___api_Type_api_Type_ [(.t 13), (.k (.fn K.layout_loose []))], some (11, false)⟩,
   ⟨some 15, .pick (.t 11) (.k (.bool true)) (.t 14), none⟩]
 (.region [
   ⟨some 16, .mv (.t 15), none⟩,
   ⟨some 17, .faddr 3 (.t 1), some (16, false)⟩,
   ⟨some 18, .load 1 false (.t 17), some (16, false)⟩,
   ⟨some 19, .call K.slices_ContainsFunc___api_Field_api_Field_ [(.t 18), (.k (.fn K.layout_loose_c1 []))], some (16, false)⟩,
   ⟨some 20, .pick (.t 16) (.k (.bool true)) (.t 19), none⟩,
   ⟨some 2, .mv (.t 20), none⟩])))
 (.ret))⟩
theorem eq_layout_loose (Φ : Calls') (a0 : AV) (H : AH) (Q : Post) : fnE1 Φ ir_layout_loose [a0] H Q = layout_loose Φ a0 H Q := by kernel_rfl

/-! slices.ContainsFunc[[]rabbet/api.Type,rabbet/api.Type] -/
def slices_ContainsFunc___api_Type_api_Type_ (Φ : Calls') (a0 : AV) (a1 : AV) (H : AH) (Q : Post) : Prop :=
Φ K.slices_IndexFunc___api_Type_api_Type_ [a0, a1] H fun x1 H2 =>
 Do (abin .geq x1 (.int .i64 0)) fun x3 =>
 Q x3 H2
def ir_slices_ContainsFunc___api_Type_api_Type_ : AFunc := ⟨9, [.tmp 4],
 .seq (.region [
   ⟨some 4, .mv (.k (.bool false)), none⟩])
 (.seq (.region [
   ⟨some 5, .mv (.t 0), none⟩,
   ⟨some 6, .mv (.t 1), none⟩,
   ⟨some 7, .call K.slices_IndexFunc___api_Type_api_Type_ [(.t 5), (.t 6)], none⟩,
   ⟨some 8, .bin .geq (.t 7) (.k (.int .i64 0)), none⟩,
   ⟨some 4, .mv (.t 8), none⟩])
 (.ret))⟩
theorem eq_slices_ContainsFunc___api_Type_api_Type_ (Φ : Calls') (a0 a1 : AV) (H : AH) (Q : Post) : fnE1 Φ ir_slices_ContainsFunc___api_Type_api_Type_ [a0, a1] H Q = slices_ContainsFunc___api_Type_api_Type_ Φ a0 a1 H Q := by kernel_rfl

/-! rabbet/layout.torn$1 -/
def layout_torn_c1 (Φ : Calls') (a0 : AV) (H : AH) (Q : Post) : Prop :=
 DoH (aboxv H false 9 a0) fun x1 H2 =>
 Do (afaddr 1 x1) fun x3 =>
 Do (aload H2 6 true x3) fun x4 =>
Φ K.layout_torn [x4] H2 fun x5 H6 =>
 Q x5 H6
def ir_layout_torn_c1 : AFunc := ⟨6, [.tmp 2],
 .seq (.region [
   ⟨some 1, .box false 9 (.t 0), none⟩,
   ⟨some 2, .mv (.k (.bool false)), none⟩])
 (.seq (.region [
   ⟨some 3, .faddr 1 (.t 1), none⟩,
   ⟨some 4, .load 6 true (.t 3), none⟩,
   ⟨some 5, .call K.layout_torn [(.t 4)], none⟩,
   ⟨some 2, .mv (.t 5), none⟩])
 (.ret))⟩
theorem eq_layout_torn_c1 (Φ : Calls') (a0 : AV) (H : AH) (Q : Post) : fnE1 Φ ir_layout_torn_c1 [a0] H Q = layout_torn_c1 Φ a0 H Q := by kernel_rfl

/-! rabbet/layout.place -/
def layout_place_k1 (Φ : Calls') (s15 : List AV × AH) (L16 : (List AV × AH) → Prop) (Q : Post) : List AV → AH → Prop := fun j18 H19 =>
 Do (abin .add (sl s15.1 0) (.int .i64 1)) fun x77 =>
 L16 ([x77], H19)
def layout_place_k2 (Φ : Calls') (x7 : AV) (s15 : List AV × AH) (L16 : (List AV × AH) → Prop) (Q : Post) : List AV → AH → Prop := fun j58 H59 =>
 Do (afaddr 0 x7) fun x65 =>
 Do (afaddr 0 x65) fun x66 =>
 Do (aload H59 1 false x66) fun x67 =>
 Do (afaddr 3 x7) fun x68 =>
 Do (aload H59 1 false x68) fun x69 =>
Φ K.layout_up [x69, (.int .i64 8)] H59 fun x70 H71 =>
(aload H71 1 false x66 = some x67) ∧
(Do (abin .quo x70 (.int .i64 8)) fun x72 =>
 Do (aminmax true [x67, x72]) fun x73 =>
 Do (afaddr 0 x7) fun x74 =>
 Do (afaddr 0 x74) fun x75 =>
 Do (astore H71 1 x75 x73) fun H76 =>
 JoinP (layout_place_k1 Φ s15 L16 Q) [] H76)
def layout_place_k3 (Φ : Calls') (x7 : AV) (x22 : AV) (x31 : AV) (x42 : AV) (s15 : List AV × AH) (L16 : (List AV × AH) → Prop) (Q : Post) : List AV → AH → Prop := fun j51 H52 =>
 Do (afaddr 7 x22) fun x60 =>
 Do (aload H52 1 false x60) fun x61 =>
 Gd x61 true (
 Do (aload H52 9 true x22) fun x62 =>
Φ K.layout_placed_bits [x7, x62] H52 fun x63 H64 =>
 JoinP (layout_place_k2 Φ x7 s15 L16 Q) [] H64) (
 Do (afaddr 3 x7) fun x78 =>
 Do (aload H52 1 false x78) fun x79 =>
Φ K.layout_up [x79, (.int .i64 8)] H52 fun x80 H81 =>
 Do (abin .quo x80 (.int .i64 8)) fun x82 =>
Φ K.layout_up [x82, x42] H81 fun x83 H84 =>
 Do (afaddr 2 x7) fun x85 =>
 Do (aload H84 1 false x85) fun x86 =>
 Do (afaddr 0 x31) fun x87 =>
 Do (aload H84 1 false x87) fun x88 =>
 Do (abuild [.int .i64 0, .int .i64 0] [(0, 1, x83), (1, 1, x88)]) fun x89 =>
 Do (afaddr 1 x22) fun x90 =>
 Do (afaddr 0 x90) fun x91 =>
 Do (aload H84 1 false x91) fun x92 =>
 Do (abuild [.int .i64 0, .int .i64 0, .int .i64 0, .bool false, .int .i64 0, .int .i64 0] [(0, 2, x89), (2, 1, x92)]) fun x93 =>
 DoH (abslice H84 false 6 1 [.int .i64 0, .int .i64 0, .int .i64 0, .bool false, .int .i64 0, .int .i64 0] [(0, 6, x93)]) fun x94 H95 =>
 DoH (aappend H95 false 6 48 x86 x94) fun x96 H97 =>
 Do (afaddr 2 x7) fun x98 =>
 Do (astore H97 1 x98 x96) fun H99 =>
 Do (afaddr 0 x31) fun x100 =>
 Do (aload H99 1 false x100) fun x101 =>
 Do (abin .add x83 x101) fun x102 =>
 Do (abin .mul (.int .i64 8) x102) fun x103 =>
 Do (afaddr 3 x7) fun x104 =>
 Do (astore H99 1 x104 x103) fun H105 =>
 JoinP (layout_place_k2 Φ x7 s15 L16 Q) [] H105)
def layout_place_k4 (Φ : Calls') (x3 : AV) (x7 : AV) (Q : Post) : List AV → AH → Prop := fun j10 H11 =>
 Do (afaddr 0 x7) fun x106 =>
 Do (afaddr 0 x106) fun x107 =>
 Do (aload H11 1 false x107) fun x108 =>
 Do (afaddr 0 x7) fun x109 =>
 Do (afaddr 1 x109) fun x110 =>
 Do (aload H11 1 false x110) fun x111 =>
Φ K.layout_up [x108, x111] H11 fun x112 H113 =>
 Do (afaddr 0 x7) fun x114 =>
 Do (afaddr 0 x114) fun x115 =>
 Do (astore H113 1 x115 x112) fun H116 =>
 Do (aload H116 4 true x7) fun x117 =>
 Do (afaddr 0 x7) fun x118 =>
 Do (afaddr 0 x118) fun x119 =>
 Do (aload H116 1 false x119) fun x120 =>
 Do (abin .leq x120 (.int .i64 65536)) fun x121 =>
 Do (astore H116 4 x3 x117) fun H122 =>
(aload H122 1 false x119 = some x120) ∧
(Do (aload H122 4 true x3) fun x123 =>
 Q (.tup [x123, x121]) H122)
def layout_place_l5 (Φ : Calls') (x1 : AV) (x3 : AV) (x7 : AV) (x13 : AV) (x14 : AV) (Q : Post) : (List AV × AH) → ((List AV × AH) → Prop) → Prop := fun s15 L16 =>
 Do (abin .lss (sl s15.1 0) x14) fun x17 =>
 Gd x17 true (
 Do (aiaddr none 9 x13 (sl s15.1 0)) fun x20 =>
 Do (aload s15.2 9 true x20) fun x21 =>
 DoH (some (abox s15.2 true [.str [], .int .i64 0, .int .i64 0, .bool false, .lst .nil 0 [], .int .i64 0, .lst .nil 0 [], .bool false, .int .i64 0])) fun x22 H23 =>
 Do (astore H23 9 x22 x21) fun H24 =>
 Do (afaddr 1 x22) fun x25 =>
 Do (aload H24 6 true x25) fun x26 =>
Φ K.layout_of [x26] H24 fun x27 H28 =>
 Do (aextract 0 x27) fun x29 =>
 Do (aextract 1 x27) fun x30 =>
 DoH (some (abox H28 true [.int .i64 0, .int .i64 0])) fun x31 H32 =>
 Do (astore H32 2 x31 x29) fun H33 =>
 Do (aun .not x30) fun x34 =>
 Gd x34 true (
 Do (abuild [.int .i64 0, .int .i64 0, .lst .nil 0 [], .int .i64 0] []) fun x35 =>
 Do (astore H33 4 x3 x35) fun H36 =>
 Do (aload H36 4 true x3) fun x37 =>
 Q (.tup [x37, (.bool false)]) H36) (
 Do (aload H33 6 true x1) fun x38 =>
 Do (aload H33 9 true x22) fun x39 =>
 Do (afaddr 1 x31) fun x40 =>
 Do (aload H33 1 false x40) fun x41 =>
Φ K.layout_wide [x38, x39, x41] H33 fun x42 H43 =>
 Do (afaddr 0 x7) fun x44 =>
 Do (afaddr 1 x44) fun x45 =>
 Do (aload H43 1 false x45) fun x46 =>
 Do (aminmax true [x46, x42]) fun x47 =>
 Do (afaddr 0 x7) fun x48 =>
 Do (afaddr 1 x48) fun x49 =>
 Do (astore H43 1 x49 x47) fun H50 =>
 Do (afaddr 0 x1) fun x53 =>
 Do (aload H50 1 false x53) fun x54 =>
 Do (abin .eql x54 (.int .i64 4)) fun x55 =>
 Gd x55 true (
 Do (afaddr 3 x7) fun x56 =>
 Do (astore H50 1 x56 (.int .i64 0)) fun H57 =>
 JoinP (layout_place_k3 Φ x7 x22 x31 x42 s15 L16 Q) [] H57) (
 JoinP (layout_place_k3 Φ x7 x22 x31 x42 s15 L16 Q) [] H50))) (
 JoinP (layout_place_k4 Φ x3 x7 Q) [] s15.2)
def layout_place (Φ : Calls') (a0 : AV) (H : AH) (Q : Post) : Prop :=
 DoH (aboxv H false 6 a0) fun x1 H2 =>
 DoH (some (abox H2 true [.int .i64 0, .int .i64 0, .lst .nil 0 [], .int .i64 0])) fun x3 H4 =>
 Do (abuild [.int .i64 0, .int .i64 0] [(0, 1, (.int .i64 0)), (1, 1, (.int .i64 1))]) fun x5 =>
 Do (abuild [.int .i64 0, .int .i64 0, .lst .nil 0 [], .int .i64 0] [(0, 2, x5)]) fun x6 =>
 DoH (some (abox H4 true [.int .i64 0, .int .i64 0, .lst .nil 0 [], .int .i64 0])) fun x7 H8 =>
 Do (astore H8 4 x7 x6) fun H9 =>
 Do (afaddr 3 x1) fun x12 =>
 Do (aload H9 1 false x12) fun x13 =>
 Do (alen false x13) fun x14 =>
 LoopP (layout_place_l5 Φ x1 x3 x7 x13 x14 Q) ([(.int .i64 0)], H9)
def ir_layout_place : AFunc := ⟨99, [.cell 2 4 true, .tmp 3],
 .seq (.region [
   ⟨some 1, .box false 6 (.t 0), none⟩,
   ⟨some 2, .alloc true [.int .i64 0, .int .i64 0, .lst .nil 0 [], .int .i64 0], none⟩,
   ⟨some 3, .mv (.k (.bool false)), none⟩])
 (.seq (.region [
   ⟨some 11, .build [.int .i64 0, .int .i64 0] [(0, 1, (.k (.int .i64 0))), (1, 1, (.k (.int .i64 1)))], none⟩,
   ⟨some 12, .build [.int .i64 0, .int .i64 0, .lst .nil 0 [], .int .i64 0] [(0, 2, (.t 11))], none⟩,
   ⟨some 4, .alloc true [.int .i64 0, .int .i64 0, .lst .nil 0 [], .int .i64 0], none⟩,
   ⟨none, .store 4 (.t 4) (.t 12), none⟩])
 (.join [] [3, 6, 7, 8, 9, 10, 13, 14, 15, 16, 17, 18, 19, 20, 21, 22, 23, 24, 25, 26, 27, 28, 29, 30, 31, 32, 33, 34, 35, 36, 37, 38, 39, 40, 41, 42, 43, 44, 45, 46, 47, 48, 49, 50, 51, 52, 53, 54, 55, 56, 57, 58, 59, 60, 61, 62, 63, 64, 65, 66, 67, 68, 69, 70, 71, 72, 73, 74, 75, 76, 77, 78, 79, 80, 81, 82, 83, 84] (.seq (.region [
   ⟨some 13, .faddr 3 (.t 1), none⟩,
   ⟨some 14, .load 1 false (.t 13), none⟩,
   ⟨some 15, .len false (.t 14), none⟩,
   ⟨some 16, .mv (.k (.int .i64 0)), none⟩])
 (.block 0 (.loop [16] [3, 6, 7, 8, 9, 10, 17, 18, 19, 20, 21, 22, 23, 24, 25, 26, 27, 28, 29, 30, 31, 32, 33, 34, 35, 36, 37, 38, 39, 40, 41, 42, 43, 44, 45, 46, 47, 48, 49, 50, 51, 52, 53, 54, 55, 56, 57, 58, 59, 60, 61, 62, 63, 64, 65, 66, 67, 68, 69, 70, 71, 72, 73, 74, 75, 76, 77, 78, 79, 80, 81, 82, 83, 84] (.seq (.region [
   ⟨some 17, .bin .lss (.t 16) (.t 15), none⟩])
 (.seq (.cond (.t 17) (.skip)
   (.exit 0))
 (.join [] [3, 6, 7, 8, 9, 10, 18, 19, 20, 21, 22, 23, 24, 25, 26, 27, 28, 29, 30, 31, 32, 33, 34, 35, 36, 37, 38, 39, 40, 41, 42, 43, 44, 45, 46, 47, 48, 49, 50, 51, 52, 53, 54, 55, 56, 57, 58, 59, 60, 61, 62, 63, 64, 65, 66, 67, 68, 69, 70, 71, 72, 73, 74, 75, 76, 77, 78, 79, 80, 81, 82, 83] (.block 1 (.seq (.region [
   ⟨some 18, .iaddr none 9 (.t 14) (.t 16), none⟩,
   ⟨some 19, .load 9 true (.t 18), none⟩,
   ⟨some 6, .alloc true [.str [], .int .i64 0, .int .i64 0, .bool false, .lst .nil 0 [], .int .i64 0, .lst .nil 0 [], .bool false, .int .i64 0], none⟩,
   ⟨none, .store 9 (.t 6) (.t 19), none⟩])
 (.seq (.region [
   ⟨some 21, .faddr 1 (.t 6), none⟩,
   ⟨some 22, .load 6 true (.t 21), none⟩,
   ⟨some 23, .call K.layout_of [(.t 22)], none⟩,
   ⟨some 20, .mv (.t 23), none⟩,
   ⟨some 24, .extract 0 (.t 20), none⟩,
   ⟨some 25, .extract 1 (.t 20), none⟩,
   ⟨some 7, .alloc true [.int .i64 0, .int .i64 0], none⟩,
   ⟨none, .store 2 (.t 7) (.t 24), none⟩,
   ⟨some 8, .mv (.t 25), none⟩])
 (.seq (.seq (.region [
   ⟨some 26, .mv (.t 8), none⟩,
   ⟨some 27, .un .not (.t 26), none⟩])
 (.cond (.t 27) (.seq (.region [
     ⟨some 28, .build [.int .i64 0, .int .i64 0, .lst .nil 0 [], .int .i64 0] [], none⟩,
     ⟨none, .store 4 (.t 2) (.t 28), none⟩,
     ⟨some 3, .mv (.k (.bool false)), none⟩])
   (.ret))
   (.skip)))
 (.seq (.region [
   ⟨some 29, .load 6 true (.t 1), none⟩,
   ⟨some 30, .load 9 true (.t 6), none⟩,
   ⟨some 31, .faddr 1 (.t 7), none⟩,
   ⟨some 32, .load 1 false (.t 31), none⟩,
   ⟨some 33, .call K.layout_wide [(.t 29), (.t 30), (.t 32)], none⟩,
   ⟨some 9, .mv (.t 33), none⟩])
 (.seq (.region [
   ⟨some 34, .faddr 0 (.t 4), none⟩,
   ⟨some 35, .faddr 1 (.t 34), none⟩,
   ⟨some 36, .load 1 false (.t 35), none⟩,
   ⟨some 37, .mv (.t 9), none⟩,
   ⟨some 38, .minmax true [(.t 36), (.t 37)], none⟩,
   ⟨some 39, .faddr 0 (.t 4), none⟩,
   ⟨some 40, .faddr 1 (.t 39), none⟩,
   ⟨none, .store 1 (.t 40) (.t 38), none⟩])
 (.join [] [41, 42, 43, 44] (.seq (.region [
   ⟨some 41, .faddr 0 (.t 1), none⟩,
   ⟨some 42, .load 1 false (.t 41), none⟩,
   ⟨some 43, .bin .eql (.t 42) (.k (.int .i64 4)), none⟩])
 (.cond (.t 43) (.region [
     ⟨some 44, .faddr 3 (.t 4), none⟩,
     ⟨none, .store 1 (.t 44) (.k (.int .i64 0)), none⟩])
   (.skip)))
 (.join [] [10, 45, 46, 47, 48, 49, 50, 51, 52, 53, 54, 55, 56, 57, 58, 59, 60, 61, 62, 63, 64, 65, 66, 67, 68, 69, 70, 71, 72, 73] (.seq (.region [
   ⟨some 45, .faddr 7 (.t 6), none⟩,
   ⟨some 46, .load 1 false (.t 45), none⟩])
 (.cond (.t 46) (.region [
     ⟨some 47, .load 9 true (.t 6), none⟩,
     ⟨some 48, .call K.layout_placed_bits [(.t 4), (.t 47)], none⟩])
   (.seq (.region [
     ⟨some 49, .faddr 3 (.t 4), none⟩,
     ⟨some 50, .load 1 false (.t 49), none⟩,
     ⟨some 51, .call K.layout_up [(.t 50), (.k (.int .i64 8))], none⟩,
     ⟨some 52, .bin .quo (.t 51) (.k (.int .i64 8)), none⟩,
     ⟨some 53, .mv (.t 9), none⟩,
     ⟨some 54, .call K.layout_up [(.t 52), (.t 53)], none⟩,
     ⟨some 10, .mv (.t 54), none⟩])
   (.seq (.region [
     ⟨some 55, .faddr 2 (.t 4), none⟩,
     ⟨some 56, .load 1 false (.t 55), none⟩,
     ⟨some 57, .mv (.t 10), none⟩,
     ⟨some 58, .faddr 0 (.t 7), none⟩,
     ⟨some 59, .load 1 false (.t 58), none⟩,
     ⟨some 60, .build [.int .i64 0, .int .i64 0] [(0, 1, (.t 57)), (1, 1, (.t 59))], none⟩,
     ⟨some 61, .faddr 1 (.t 6), none⟩,
     ⟨some 62, .faddr 0 (.t 61), none⟩,
     ⟨some 63, .load 1 false (.t 62), none⟩,
     ⟨some 64, .build [.int .i64 0, .int .i64 0, .int .i64 0, .bool false, .int .i64 0, .int .i64 0] [(0, 2, (.t 60)), (2, 1, (.t 63))], none⟩,
     ⟨some 65, .bslice false 6 1 [.int .i64 0, .int .i64 0, .int .i64 0, .bool false, .int .i64 0, .int .i64 0] [(0, 6, (.t 64))], none⟩,
     ⟨some 66, .append false 6 48 (.t 56) (.t 65), none⟩,
     ⟨some 67, .faddr 2 (.t 4), none⟩,
     ⟨none, .store 1 (.t 67) (.t 66), none⟩])
   (.region [
     ⟨some 68, .mv (.t 10), none⟩,
     ⟨some 69, .faddr 0 (.t 7), none⟩,
     ⟨some 70, .load 1 false (.t 69), none⟩,
     ⟨some 71, .bin .add (.t 68) (.t 70), none⟩,
     ⟨some 72, .bin .mul (.k (.int .i64 8)) (.t 71), none⟩,
     ⟨some 73, .faddr 3 (.t 4), none⟩,
     ⟨none, .store 1 (.t 73) (.t 72), none⟩])))))
 (.draw [
   ⟨some 74, .faddr 0 (.t 4), none⟩,
   ⟨some 75, .faddr 0 (.t 74), none⟩,
   ⟨some 76, .load 1 false (.t 75), none⟩,
   ⟨some 77, .faddr 3 (.t 4), none⟩,
   ⟨some 78, .load 1 false (.t 77), none⟩,
   ⟨some 79, .call K.layout_up [(.t 78), (.k (.int .i64 8))], none⟩,
   ⟨some 80, .bin .quo (.t 79) (.k (.int .i64 8)), none⟩,
   ⟨some 81, .minmax true [(.t 76), (.t 80)], none⟩,
   ⟨some 82, .faddr 0 (.t 4), none⟩,
   ⟨some 83, .faddr 0 (.t 82), none⟩,
   ⟨none, .store 1 (.t 83) (.t 81), none⟩]
 [[], [0], [0, 1], [], [3], [3, 4], [3, 4, 5], [0, 1, 2, 3, 4, 5, 6], [0, 1, 2, 3, 4, 5, 6, 7], [0, 1, 2, 3, 4, 5, 6, 7, 8], [0, 1, 2, 3, 4, 5, 6, 7, 8, 9]] [([0, 1, 2, 3, 4], 5, [2]), ([6, 7, 8, 9], 10, [])] [])))))))))
 (.region [
   ⟨some 84, .bin .add (.t 16) (.k (.int .i64 1)), none⟩,
   ⟨some 16, .mv (.t 84), none⟩])))))))
 (.seq (.region [
   ⟨some 85, .faddr 0 (.t 4), none⟩,
   ⟨some 86, .faddr 0 (.t 85), none⟩,
   ⟨some 87, .load 1 false (.t 86), none⟩,
   ⟨some 88, .faddr 0 (.t 4), none⟩,
   ⟨some 89, .faddr 1 (.t 88), none⟩,
   ⟨some 90, .load 1 false (.t 89), none⟩,
   ⟨some 91, .call K.layout_up [(.t 87), (.t 90)], none⟩,
   ⟨some 92, .faddr 0 (.t 4), none⟩,
   ⟨some 93, .faddr 0 (.t 92), none⟩,
   ⟨none, .store 1 (.t 93) (.t 91), none⟩])
 (.seq (.draw [
   ⟨some 94, .load 4 true (.t 4), none⟩,
   ⟨some 95, .faddr 0 (.t 4), none⟩,
   ⟨some 96, .faddr 0 (.t 95), none⟩,
   ⟨some 97, .load 1 false (.t 96), none⟩,
   ⟨some 98, .bin .leq (.t 97) (.k (.int .i64 65536)), none⟩,
   ⟨none, .store 4 (.t 2) (.t 94), none⟩,
   ⟨some 3, .mv (.t 98), none⟩]
 [[], [], [1], [1, 2], [1, 2, 3], [0], [0, 1, 2, 3, 4, 5]] [([0, 1, 2, 3, 4], 5, [3])] [6])
 (.ret)))))⟩
theorem eq_layout_place (Φ : Calls') (a0 : AV) (H : AH) (Q : Post) : fnE1 Φ ir_layout_place [a0] H Q = layout_place Φ a0 H Q := by kernel_rfl

/-! rabbet/check.formed -/
def check_formed_k1 (Φ : Calls') (x1 : AV) (j3 : List AV) (Q : Post) : List AV → AH → Prop := fun j41 H42 =>
 Gd3 (sl j41 0) true (
 Do (afaddr 7 x1) fun x47 =>
 Do (aload H42 1 false x47) fun x48 =>
 Do (alen false x48) fun x49 =>
 Do (abin .eql x49 (sl j3 0)) fun x50 =>
 Q x50 H42) (
 Q (.bool false) H42) (
 False)
def check_formed_k2 (Φ : Calls') (x1 : AV) (j3 : List AV) (Q : Post) : List AV → AH → Prop := fun j29 H30 =>
 Gd3 (sl j29 0) true (
 Gd3 (sl j3 1) false (
 Do (afaddr 5 x1) fun x43 =>
 Do (aload H30 2 true x43) fun x44 =>
Φ K.check_empty [x44] H30 fun x45 H46 =>
 JoinP (check_formed_k1 Φ x1 j3 Q) [x45] H46) (
 JoinP (check_formed_k1 Φ x1 j3 Q) [(.bool true)] H30) (
 False)) (
 JoinP (check_formed_k1 Φ x1 j3 Q) [(.bool false)] H30) (
 False)
def check_formed_k3 (Φ : Calls') (x1 : AV) (x12 : AV) (j3 : List AV) (Q : Post) : List AV → AH → Prop := fun j21 H22 =>
 Gd3 (sl j21 0) true (
 Gd3 x12 true (
 Do (afaddr 3 x1) fun x31 =>
 Do (aload H22 1 false x31) fun x32 =>
 Do (abin .geq x32 (.int .i64 1)) fun x33 =>
 Gd3 x33 true (
 Do (afaddr 3 x1) fun x34 =>
 Do (aload H22 1 false x34) fun x35 =>
 Do (abin .leq x35 (.int .i64 11)) fun x36 =>
 Gd3 x36 false (
 Do (aun .not x12) fun x37 =>
 Gd3 x37 true (
 Do (afaddr 3 x1) fun x38 =>
 Do (aload H22 1 false x38) fun x39 =>
 Do (abin .eql x39 (.int .i64 0)) fun x40 =>
 JoinP (check_formed_k2 Φ x1 j3 Q) [x40] H22) (
 JoinP (check_formed_k2 Φ x1 j3 Q) [(.bool false)] H22) (
 False)) (
 JoinP (check_formed_k2 Φ x1 j3 Q) [(.bool true)] H22) (
 False)) (
 Do (aun .not x12) fun x51 =>
 Gd3 x51 true (
 Do (afaddr 3 x1) fun x52 =>
 Do (aload H22 1 false x52) fun x53 =>
 Do (abin .eql x53 (.int .i64 0)) fun x54 =>
 JoinP (check_formed_k2 Φ x1 j3 Q) [x54] H22) (
 JoinP (check_formed_k2 Φ x1 j3 Q) [(.bool false)] H22) (
 False)) (
 False)) (
 Do (aun .not x12) fun x55 =>
 Gd3 x55 true (
 Do (afaddr 3 x1) fun x56 =>
 Do (aload H22 1 false x56) fun x57 =>
 Do (abin .eql x57 (.int .i64 0)) fun x58 =>
 JoinP (check_formed_k2 Φ x1 j3 Q) [x58] H22) (
 JoinP (check_formed_k2 Φ x1 j3 Q) [(.bool false)] H22) (
 False)) (
 False)) (
 JoinP (check_formed_k2 Φ x1 j3 Q) [(.bool false)] H22) (
 False)
def check_formed_k4 (Φ : Calls') (x1 : AV) (x12 : AV) (j3 : List AV) (Q : Post) : List AV → AH → Prop := fun j13 H14 =>
 Gd3 (sl j13 0) true (
 Do (afaddr 0 x1) fun x23 =>
 Do (aload H14 1 false x23) fun x24 =>
 Do (abin .eql x24 (.int .i64 2)) fun x25 =>
 Gd3 x25 false (
 Do (afaddr 2 x1) fun x26 =>
 Do (aload H14 1 false x26) fun x27 =>
 Do (abin .eql x27 (.str [])) fun x28 =>
 JoinP (check_formed_k3 Φ x1 x12 j3 Q) [x28] H14) (
 JoinP (check_formed_k3 Φ x1 x12 j3 Q) [(.bool true)] H14) (
 False)) (
 JoinP (check_formed_k3 Φ x1 x12 j3 Q) [(.bool false)] H14) (
 False)
def check_formed_k5 (Φ : Calls') (x1 : AV) (Q : Post) : List AV → AH → Prop := fun j3 H4 =>
 Do (afaddr 0 x1) fun x10 =>
 Do (aload H4 1 false x10) fun x11 =>
 Do (abin .eql x11 (.int .i64 3)) fun x12 =>
 Do (afaddr 0 x1) fun x15 =>
 Do (aload H4 1 false x15) fun x16 =>
 Do (abin .eql x16 (.int .i64 1)) fun x17 =>
 Gd3 x17 false (
 Do (afaddr 1 x1) fun x18 =>
 Do (aload H4 1 false x18) fun x19 =>
 Do (abin .eql x19 (.int .u64 0)) fun x20 =>
 JoinP (check_formed_k4 Φ x1 x12 j3 Q) [x20] H4) (
 JoinP (check_formed_k4 Φ x1 x12 j3 Q) [(.bool true)] H4) (
 False)
def check_formed_k6 (Φ : Calls') (x1 : AV) (x6 : AV) (Q : Post) : List AV → AH → Prop := fun j63 H64 =>
 Gd (sl j63 0) true (
 JoinP (check_formed_k5 Φ x1 Q) [(.int .i64 1), (.bool true)] H64) (
 Do (abin .eql x6 (.int .i64 8)) fun x66 =>
 Gd x66 true (
 JoinP (check_formed_k5 Φ x1 Q) [(.int .i64 2), (.bool true)] H64) (
 Q (.bool false) H64))
def check_formed_k7 (Φ : Calls') (x1 : AV) (x6 : AV) (Q : Post) : List AV → AH → Prop := fun j60 H61 =>
 Gd (sl j60 0) true (
 JoinP (check_formed_k5 Φ x1 Q) [(.int .i64 0), (.bool true)] H61) (
 Do (abin .eql x6 (.int .i64 6)) fun x65 =>
 Gd x65 true (
 JoinP (check_formed_k6 Φ x1 x6 Q) [x65] H61) (
 Do (abin .eql x6 (.int .i64 7)) fun x67 =>
 JoinP (check_formed_k6 Φ x1 x6 Q) [x67] H61))
def check_formed_k8 (Φ : Calls') (x1 : AV) (x6 : AV) (Q : Post) : List AV → AH → Prop := fun j7 H8 =>
 Gd (sl j7 0) true (
 JoinP (check_formed_k5 Φ x1 Q) [(.int .i64 0), (.bool false)] H8) (
 Do (abin .eql x6 (.int .i64 3)) fun x59 =>
 Gd x59 true (
 JoinP (check_formed_k5 Φ x1 Q) [(.int .i64 2), (.bool false)] H8) (
 Do (abin .eql x6 (.int .i64 4)) fun x62 =>
 Gd x62 true (
 JoinP (check_formed_k7 Φ x1 x6 Q) [x62] H8) (
 Do (abin .eql x6 (.int .i64 5)) fun x68 =>
 JoinP (check_formed_k7 Φ x1 x6 Q) [x68] H8)))
def check_formed (Φ : Calls') (a0 : AV) (H : AH) (Q : Post) : Prop :=
 DoH (aboxv H false 8 a0) fun x1 H2 =>
 Do (afaddr 0 x1) fun x5 =>
 Do (aload H2 1 false x5) fun x6 =>
 Do (abin .eql x6 (.int .i64 1)) fun x9 =>
 Gd x9 true (
 JoinP (check_formed_k8 Φ x1 x6 Q) [x9] H2) (
 Do (abin .eql x6 (.int .i64 2)) fun x69 =>
 JoinP (check_formed_k8 Φ x1 x6 Q) [x69] H2)
def ir_check_formed : AFunc := ⟨79, [.tmp 2],
 .seq (.region [
   ⟨some 1, .box false 8 (.t 0), none⟩,
   ⟨some 2, .mv (.k (.bool false)), none⟩])
 (.seq (.region [
   ⟨some 3, .mv (.k (.int .i64 0)), none⟩,
   ⟨some 4, .mv (.k (.bool false)), none⟩])
 (.join [3, 4] [2, 6, 7, 8, 9, 10, 11, 12, 13, 14, 15, 16, 17, 18, 19, 20] (.seq (.region [
   ⟨some 6, .faddr 0 (.t 1), none⟩,
   ⟨some 7, .load 1 false (.t 6), none⟩])
 (.block 0 (.join [8] [9, 10] (.seq (.region [
   ⟨some 9, .bin .eql (.t 7) (.k (.int .i64 1)), none⟩,
   ⟨some 8, .mv (.t 9), none⟩])
 (.cond (.t 8) (.skip)
   (.region [
     ⟨some 10, .bin .eql (.t 7) (.k (.int .i64 2)), none⟩,
     ⟨some 8, .mv (.t 10), none⟩])))
 (.cond (.t 8) (.skip)
   (.seq (.region [
     ⟨some 12, .bin .eql (.t 7) (.k (.int .i64 3)), none⟩,
     ⟨some 11, .mv (.t 12), none⟩])
   (.cond (.t 11) (.region [
       ⟨some 3, .mv (.k (.int .i64 2)), none⟩])
     (.join [13] [14, 15] (.seq (.region [
       ⟨some 14, .bin .eql (.t 7) (.k (.int .i64 4)), none⟩,
       ⟨some 13, .mv (.t 14), none⟩])
     (.cond (.t 13) (.skip)
       (.region [
         ⟨some 15, .bin .eql (.t 7) (.k (.int .i64 5)), none⟩,
         ⟨some 13, .mv (.t 15), none⟩])))
     (.cond (.t 13) (.region [
         ⟨some 4, .mv (.k (.bool true)), none⟩])
       (.join [16] [17, 18] (.seq (.region [
         ⟨some 17, .bin .eql (.t 7) (.k (.int .i64 6)), none⟩,
         ⟨some 16, .mv (.t 17), none⟩])
       (.cond (.t 16) (.skip)
         (.region [
           ⟨some 18, .bin .eql (.t 7) (.k (.int .i64 7)), none⟩,
           ⟨some 16, .mv (.t 18), none⟩])))
       (.cond (.t 16) (.region [
           ⟨some 3, .mv (.k (.int .i64 1)), none⟩,
           ⟨some 4, .mv (.k (.bool true)), none⟩])
         (.seq (.region [
           ⟨some 20, .bin .eql (.t 7) (.k (.int .i64 8)), none⟩,
           ⟨some 19, .mv (.t 20), none⟩])
         (.cond (.t 19) (.region [
             ⟨some 3, .mv (.k (.int .i64 2)), none⟩,
             ⟨some 4, .mv (.k (.bool true)), none⟩])
           (.seq (.region [
             ⟨some 2, .mv (.k (.bool false)), none⟩])
           (.ret))))))))))))))
 (.seq (.region [
   ⟨some 21, .faddr 0 (.t 1), none⟩,
   ⟨some 22, .load 1 false (.t 21), none⟩,
   ⟨some 23, .bin .eql (.t 22) (.k (.int .i64 3)), none⟩,
   ⟨some 5, .mv (.t 23), none⟩])
 (.seq (.rjoin [31] [24, 25, 26, 27, 28, 29, 30] [
   ⟨some 24, .faddr 0 (.t 1), none⟩,
   ⟨some 25, .load 1 false (.t 24), none⟩,
   ⟨some 26, .bin .eql (.t 25) (.k (.int .i64 1)), none⟩,
   ⟨some 27, .mv (.t 26), none⟩,
   ⟨some 28, .faddr 1 (.t 1), some (27, false)⟩,
   ⟨some 29, .load 1 false (.t 28), some (27, false)⟩,
   ⟨some 30, .bin .eql (.t 29) (.k (.int .u64 0)), some (27, false)⟩,
   ⟨some 31, .pick (.t 27) (.k (.bool true)) (.t 30), none⟩]
 (.rjoin [41] [32, 33, 34, 35, 36, 37, 38, 39, 40] [
   ⟨some 32, .mv (.t 31), none⟩,
   ⟨some 33, .faddr 0 (.t 1), some (32, true)⟩,
   ⟨some 34, .load 1 false (.t 33), some (32, true)⟩,
   ⟨some 35, .bin .eql (.t 34) (.k (.int .i64 2)), some (32, true)⟩,
   ⟨some 36, .mv (.t 35), some (32, true)⟩,
   ⟨some 37, .faddr 2 (.t 1), some (36, false)⟩,
   ⟨some 38, .load 1 false (.t 37), some (36, false)⟩,
   ⟨some 39, .bin .eql (.t 38) (.k (.str [])), some (36, false)⟩,
   ⟨some 40, .pick (.t 36) (.k (.bool true)) (.t 39), some (32, true)⟩,
   ⟨some 41, .pick (.t 32) (.t 40) (.k (.bool false)), none⟩]
 (.rjoin [63] [42, 43, 44, 45, 46, 47, 48, 49, 50, 51, 52, 53, 54, 55, 56, 57, 58, 59, 60, 61, 62] [
   ⟨some 42, .mv (.t 41), none⟩,
   ⟨some 43, .mv (.t 5), some (42, true)⟩,
   ⟨some 44, .mv (.t 43), some (42, true)⟩,
   ⟨some 45, .faddr 3 (.t 1), some (44, true)⟩,
   ⟨some 46, .load 1 false (.t 45), some (44, true)⟩,
   ⟨some 47, .bin .geq (.t 46) (.k (.int .i64 1)), some (44, true)⟩,
   ⟨some 48, .pick (.t 44) (.t 47) (.k (.bool false)), some (42, true)⟩,
   ⟨some 49, .mv (.t 48), some (42, true)⟩,
   ⟨some 50, .faddr 3 (.t 1), some (49, true)⟩,
   ⟨some 51, .load 1 false (.t 50), some (49, true)⟩,
   ⟨some 52, .bin .leq (.t 51) (.k (.int .i64 11)), some (49, true)⟩,
   ⟨some 53, .pick (.t 49) (.t 52) (.k (.bool false)), some (42, true)⟩,
   ⟨some 54, .mv (.t 53), some (42, true)⟩,
   ⟨some 55, .mv (.t 5), some (54, false)⟩,
   ⟨some 56, .un .not (.t 55), some (54, false)⟩,
   ⟨some 57, .mv (.t 56), some (54, false)⟩,
   ⟨some 58, .faddr 3 (.t 1), some (57, true)⟩,
   ⟨some 59, .load 1 false (.t 58), some (57, true)⟩,
   ⟨some 60, .bin .eql (.t 59) (.k (.int .i64 0)), some (57, true)⟩,
   ⟨some 61, .pick (.t 57) (.t 60) (.k (.bool false)), some (54, false)⟩,
   ⟨some 62, .pick (.t 54) (.k (.bool true)) (.t 61), some (42, true)⟩,
   ⟨some 63, .pick (.t 42) (.t 62) (.k (.bool false)), none⟩]
 (.rjoin [71] [64, 65, 66, 67, 68, 69, 70] [
   ⟨some 64, .mv (.t 63), none⟩,
   ⟨some 65, .mv (.t 4), some (64, true)⟩,
   ⟨some 66, .mv (.t 65), some (64, true)⟩,
   ⟨some 67, .faddr 5 (.t 1), some (66, false)⟩,
   ⟨some 68, .load 2 true (.t 67), some (66, false)⟩,
   ⟨some 69, .call K.check_empty [(.t 68)], some (66, false)⟩,
   ⟨some 70, .pick (.t 66) (.k (.bool true)) (.t 69), some (64, true)⟩,
   ⟨some 71, .pick (.t 64) (.t 70) (.k (.bool false)), none⟩]
 (.region [
   ⟨some 72, .mv (.t 71), none⟩,
   ⟨some 73, .faddr 7 (.t 1), some (72, true)⟩,
   ⟨some 74, .load 1 false (.t 73), some (72, true)⟩,
   ⟨some 75, .len false (.t 74), some (72, true)⟩,
   ⟨some 76, .mv (.t 3), some (72, true)⟩,
   ⟨some 77, .bin .eql (.t 75) (.t 76), some (72, true)⟩,
   ⟨some 78, .pick (.t 72) (.t 77) (.k (.bool false)), none⟩,
   ⟨some 2, .mv (.t 78), none⟩])))))
 (.ret)))))⟩
theorem eq_check_formed (Φ : Calls') (a0 : AV) (H : AH) (Q : Post) : fnE1 Φ ir_check_formed [a0] H Q = check_formed Φ a0 H Q := by kernel_rfl

/-! rabbet/layout.loose$1 -/
def layout_loose_c1 (Φ : Calls') (a0 : AV) (H : AH) (Q : Post) : Prop :=
 DoH (aboxv H false 9 a0) fun x1 H2 =>
 Do (afaddr 1 x1) fun x3 =>
 Do (aload H2 6 true x3) fun x4 =>
Φ K.layout_loose [x4] H2 fun x5 H6 =>
 Q x5 H6
def ir_layout_loose_c1 : AFunc := ⟨6, [.tmp 2],
 .seq (.region [
   ⟨some 1, .box false 9 (.t 0), none⟩,
   ⟨some 2, .mv (.k (.bool false)), none⟩])
 (.seq (.region [
   ⟨some 3, .faddr 1 (.t 1), none⟩,
   ⟨some 4, .load 6 true (.t 3), none⟩,
   ⟨some 5, .call K.layout_loose [(.t 4)], none⟩,
   ⟨some 2, .mv (.t 5), none⟩])
 (.ret))⟩
theorem eq_layout_loose_c1 (Φ : Calls') (a0 : AV) (H : AH) (Q : Post) : fnE1 Φ ir_layout_loose_c1 [a0] H Q = layout_loose_c1 Φ a0 H Q := by kernel_rfl

/-! slices.IndexFunc[[]rabbet/api.Type,rabbet/api.Type] -/
def slices_IndexFunc___api_Type_api_Type__l1 (Φ : Calls') (a0 : AV) (a1 : AV) (x1 : AV) (Q : Post) : (List AV × AH) → ((List AV × AH) → Prop) → Prop := fun s2 L3 =>
 Do (abin .lss (sl s2.1 0) x1) fun x4 =>
 Gd x4 true (
 Do (aiaddr none 6 a0 (sl s2.1 0)) fun x5 =>
 Do (aload s2.2 6 true x5) fun x6 =>
∃ k9 c10, a1 = .fn k9 c10 ∧ Φ k9 ([x6] ++ c10) s2.2 fun x7 H8 =>
 Gd x7 true (
 Q (sl s2.1 0) H8) (
 Do (abin .add (sl s2.1 0) (.int .i64 1)) fun x11 =>
 L3 ([x11], H8))) (
 Q (.int .i64 (-1)) s2.2)
def slices_IndexFunc___api_Type_api_Type_ (Φ : Calls') (a0 : AV) (a1 : AV) (H : AH) (Q : Post) : Prop :=
 Do (alen false a0) fun x1 =>
 LoopP (slices_IndexFunc___api_Type_api_Type__l1 Φ a0 a1 x1 Q) ([(.int .i64 0)], H)
def ir_slices_IndexFunc___api_Type_api_Type_ : AFunc := ⟨19, [.tmp 4],
 .seq (.region [
   ⟨some 4, .mv (.k (.int .i64 0)), none⟩])
 (.seq (.seq (.region [
   ⟨some 6, .mv (.t 0), none⟩,
   ⟨some 7, .len false (.t 6), none⟩,
   ⟨some 8, .mv (.k (.int .i64 0)), none⟩])
 (.block 0 (.loop [8] [4, 5, 9, 10, 11, 12, 13, 14, 15, 16, 17, 18] (.seq (.region [
   ⟨some 9, .bin .lss (.t 8) (.t 7), none⟩])
 (.seq (.cond (.t 9) (.skip)
   (.exit 0))
 (.seq (.block 1 (.seq (.region [
   ⟨some 10, .mv (.t 8), none⟩,
   ⟨some 5, .mv (.t 10), none⟩])
 (.seq (.region [
   ⟨some 11, .mv (.t 1), none⟩,
   ⟨some 12, .mv (.t 0), none⟩,
   ⟨some 13, .mv (.t 5), none⟩,
   ⟨some 14, .iaddr none 6 (.t 12) (.t 13), none⟩,
   ⟨some 15, .load 6 true (.t 14), none⟩,
   ⟨some 16, .callv (.t 11) [(.t 15)], none⟩])
 (.cond (.t 16) (.seq (.region [
     ⟨some 17, .mv (.t 5), none⟩,
     ⟨some 4, .mv (.t 17), none⟩])
   (.ret))
   (.skip)))))
 (.region [
   ⟨some 18, .bin .add (.t 8) (.k (.int .i64 1)), none⟩,
   ⟨some 8, .mv (.t 18), none⟩])))))))
 (.seq (.region [
   ⟨some 4, .mv (.k (.int .i64 (-1))), none⟩])
 (.ret)))⟩
theorem eq_slices_IndexFunc___api_Type_api_Type_ (Φ : Calls') (a0 a1 : AV) (H : AH) (Q : Post) : fnE1 Φ ir_slices_IndexFunc___api_Type_api_Type_ [a0, a1] H Q = slices_IndexFunc___api_Type_api_Type_ Φ a0 a1 H Q := by kernel_rfl

/-! rabbet/layout.wide -/
def layout_wide_k1 (Φ : Calls') (a2 : AV) (x3 : AV) (Q : Post) : List AV → AH → Prop := fun j5 H6 =>
 Gd (sl j5 0) true (
 Q (.int .i64 1) H6) (
 Do (afaddr 7 x3) fun x14 =>
 Do (aload H6 1 false x14) fun x15 =>
 Gd x15 true (
 Do (afaddr 1 x3) fun x16 =>
 Do (afaddr 1 x16) fun x17 =>
 Do (aload H6 1 false x17) fun x18 =>
 Q x18 H6) (
 Q a2 H6))
def layout_wide (Φ : Calls') (a0 : AV) (a1 : AV) (a2 : AV) (H : AH) (Q : Post) : Prop :=
 DoH (aboxv H false 6 a0) fun x1 H2 =>
 DoH (aboxv H2 false 9 a1) fun x3 H4 =>
 Do (afaddr 2 x1) fun x7 =>
 Do (aload H4 1 false x7) fun x8 =>
 Gd3 x8 false (
 Do (afaddr 7 x3) fun x9 =>
 Do (aload H4 1 false x9) fun x10 =>
 Gd3 x10 true (
 Do (afaddr 8 x3) fun x11 =>
 Do (aload H4 1 false x11) fun x12 =>
 Do (abin .eql x12 (.int .i64 0)) fun x13 =>
 JoinP (layout_wide_k1 Φ a2 x3 Q) [x13] H4) (
 JoinP (layout_wide_k1 Φ a2 x3 Q) [(.bool false)] H4) (
 False)) (
 JoinP (layout_wide_k1 Φ a2 x3 Q) [(.bool true)] H4) (
 False)
def ir_layout_wide : AFunc := ⟨26, [.tmp 6],
 .seq (.region [
   ⟨some 3, .box false 6 (.t 0), none⟩,
   ⟨some 4, .box false 9 (.t 1), none⟩,
   ⟨some 6, .mv (.k (.int .i64 0)), none⟩])
 (.seq (.block 0 (.join [7] [8, 9, 10, 11, 12, 13, 14, 15, 16, 17, 18] (.region [
   ⟨some 8, .faddr 2 (.t 3), none⟩,
   ⟨some 9, .load 1 false (.t 8), none⟩,
   ⟨some 10, .mv (.t 9), none⟩,
   ⟨some 11, .faddr 7 (.t 4), some (10, false)⟩,
   ⟨some 12, .load 1 false (.t 11), some (10, false)⟩,
   ⟨some 13, .mv (.t 12), some (10, false)⟩,
   ⟨some 14, .faddr 8 (.t 4), some (13, true)⟩,
   ⟨some 15, .load 1 false (.t 14), some (13, true)⟩,
   ⟨some 16, .bin .eql (.t 15) (.k (.int .i64 0)), some (13, true)⟩,
   ⟨some 17, .pick (.t 13) (.t 16) (.k (.bool false)), some (10, false)⟩,
   ⟨some 18, .pick (.t 10) (.k (.bool true)) (.t 17), none⟩,
   ⟨some 7, .mv (.t 18), none⟩])
 (.cond (.t 7) (.seq (.region [
     ⟨some 6, .mv (.k (.int .i64 1)), none⟩])
   (.ret))
   (.seq (.region [
     ⟨some 20, .faddr 7 (.t 4), none⟩,
     ⟨some 21, .load 1 false (.t 20), none⟩,
     ⟨some 19, .mv (.t 21), none⟩])
   (.cond (.t 19) (.seq (.region [
       ⟨some 22, .faddr 1 (.t 4), none⟩,
       ⟨some 23, .faddr 1 (.t 22), none⟩,
       ⟨some 24, .load 1 false (.t 23), none⟩,
       ⟨some 6, .mv (.t 24), none⟩])
     (.ret))
     (.skip))))))
 (.seq (.region [
   ⟨some 25, .mv (.t 2), none⟩,
   ⟨some 6, .mv (.t 25), none⟩])
 (.ret)))⟩
theorem eq_layout_wide (Φ : Calls') (a0 a1 a2 : AV) (H : AH) (Q : Post) : fnE1 Φ ir_layout_wide [a0, a1, a2] H Q = layout_wide Φ a0 a1 a2 H Q := by kernel_rfl

/-! (rabbet/layout.placed).bits -/
def layout_placed_bits_k1 (Φ : Calls') (a0 : AV) (x1 : AV) (Q : Post) : List AV → AH → Prop := fun j38 H39 =>
 Do (anilck a0) fun x61 =>
 Do (afaddr 3 x61) fun x62 =>
 Do (aload H39 1 false x62) fun x63 =>
 Do (abin .quo x63 (.int .i64 8)) fun x64 =>
 Do (anilck a0) fun x65 =>
 Do (afaddr 3 x65) fun x66 =>
 Do (aload H39 1 false x66) fun x67 =>
 Do (afaddr 8 x1) fun x68 =>
 Do (aload H39 1 false x68) fun x69 =>
 Do (abin .add x67 x69) fun x70 =>
 Do (abin .sub x70 (.int .i64 1)) fun x71 =>
 Do (abin .quo x71 (.int .i64 8)) fun x72 =>
 Do (anilck a0) fun x73 =>
 Do (afaddr 2 x73) fun x74 =>
 Do (aload H39 1 false x74) fun x75 =>
 Do (abin .sub x72 x64) fun x76 =>
 Do (abin .add x76 (.int .i64 1)) fun x77 =>
 Do (abuild [.int .i64 0, .int .i64 0] [(0, 1, x64), (1, 1, x77)]) fun x78 =>
 Do (anilck a0) fun x79 =>
 Do (afaddr 3 x79) fun x80 =>
 Do (aload H39 1 false x80) fun x81 =>
 Do (abin .rem x81 (.int .i64 8)) fun x82 =>
 Do (afaddr 8 x1) fun x83 =>
 Do (aload H39 1 false x83) fun x84 =>
 Do (abuild [.int .i64 0, .int .i64 0, .int .i64 0, .bool false, .int .i64 0, .int .i64 0] [(0, 2, x78), (2, 1, (.int .i64 1)), (3, 1, (.bool true)), (4, 1, x82), (5, 1, x84)]) fun x85 =>
 DoH (abslice H39 false 6 1 [.int .i64 0, .int .i64 0, .int .i64 0, .bool false, .int .i64 0, .int .i64 0] [(0, 6, x85)]) fun x86 H87 =>
 DoH (aappend H87 false 6 48 x75 x86) fun x88 H89 =>
 Do (anilck a0) fun x90 =>
 Do (afaddr 2 x90) fun x91 =>
 Do (astore H89 1 x91 x88) fun H92 =>
 Do (anilck a0) fun x93 =>
 Do (afaddr 3 x93) fun x94 =>
 Do (aload H92 1 false x94) fun x95 =>
 Do (afaddr 8 x1) fun x96 =>
 Do (aload H92 1 false x96) fun x97 =>
 Do (abin .add x95 x97) fun x98 =>
 Do (anilck a0) fun x99 =>
 Do (afaddr 3 x99) fun x100 =>
 Do (astore H92 1 x100 x98) fun H101 =>
 Q (.tup []) H101
def layout_placed_bits (Φ : Calls') (a0 : AV) (a1 : AV) (H : AH) (Q : Post) : Prop :=
 DoH (aboxv H false 9 a1) fun x1 H2 =>
 Do (afaddr 1 x1) fun x3 =>
 Do (afaddr 1 x3) fun x4 =>
 Do (aload H2 1 false x4) fun x5 =>
 Do (abin .mul (.int .i64 8) x5) fun x6 =>
 Do (afaddr 8 x1) fun x7 =>
 Do (aload H2 1 false x7) fun x8 =>
 Do (abin .eql x8 (.int .i64 0)) fun x9 =>
 Gd x9 true (
 Do (anilck a0) fun x10 =>
 Do (afaddr 3 x10) fun x11 =>
 Do (aload H2 1 false x11) fun x12 =>
Φ K.layout_up [x12, x6] H2 fun x13 H14 =>
 Do (anilck a0) fun x15 =>
 Do (afaddr 3 x15) fun x16 =>
 Do (astore H14 1 x16 x13) fun H17 =>
 Do (anilck a0) fun x18 =>
 Do (afaddr 2 x18) fun x19 =>
 Do (aload H17 1 false x19) fun x20 =>
 Do (anilck a0) fun x21 =>
 Do (afaddr 3 x21) fun x22 =>
 Do (aload H17 1 false x22) fun x23 =>
 Do (abin .quo x23 (.int .i64 8)) fun x24 =>
 Do (abuild [.int .i64 0, .int .i64 0] [(0, 1, x24)]) fun x25 =>
 Do (anilck a0) fun x26 =>
 Do (afaddr 3 x26) fun x27 =>
 Do (aload H17 1 false x27) fun x28 =>
 Do (abin .rem x28 (.int .i64 8)) fun x29 =>
 Do (abuild [.int .i64 0, .int .i64 0, .int .i64 0, .bool false, .int .i64 0, .int .i64 0] [(0, 2, x25), (2, 1, (.int .i64 1)), (3, 1, (.bool true)), (4, 1, x29)]) fun x30 =>
 DoH (abslice H17 false 6 1 [.int .i64 0, .int .i64 0, .int .i64 0, .bool false, .int .i64 0, .int .i64 0] [(0, 6, x30)]) fun x31 H32 =>
 DoH (aappend H32 false 6 48 x20 x31) fun x33 H34 =>
 Do (anilck a0) fun x35 =>
 Do (afaddr 2 x35) fun x36 =>
 Do (astore H34 1 x36 x33) fun H37 =>
 Q (.tup []) H37) (
 Do (anilck a0) fun x40 =>
 Do (afaddr 3 x40) fun x41 =>
 Do (aload H2 1 false x41) fun x42 =>
 Do (abin .quo x42 x6) fun x43 =>
 Do (anilck a0) fun x44 =>
 Do (afaddr 3 x44) fun x45 =>
 Do (aload H2 1 false x45) fun x46 =>
 Do (afaddr 8 x1) fun x47 =>
 Do (aload H2 1 false x47) fun x48 =>
 Do (abin .add x46 x48) fun x49 =>
 Do (abin .sub x49 (.int .i64 1)) fun x50 =>
 Do (abin .quo x50 x6) fun x51 =>
 Do (abin .neq x43 x51) fun x52 =>
 Gd x52 true (
 Do (anilck a0) fun x53 =>
 Do (afaddr 3 x53) fun x54 =>
 Do (aload H2 1 false x54) fun x55 =>
Φ K.layout_up [x55, x6] H2 fun x56 H57 =>
 Do (anilck a0) fun x58 =>
 Do (afaddr 3 x58) fun x59 =>
 Do (astore H57 1 x59 x56) fun H60 =>
 JoinP (layout_placed_bits_k1 Φ a0 x1 Q) [] H60) (
 JoinP (layout_placed_bits_k1 Φ a0 x1 Q) [] H2))
def ir_layout_placed_bits : AFunc := ⟨116, [],
 .seq (.region [
   ⟨some 3, .box false 9 (.t 1), none⟩])
 (.seq (.region [
   ⟨some 7, .faddr 1 (.t 3), none⟩,
   ⟨some 8, .faddr 1 (.t 7), none⟩,
   ⟨some 9, .load 1 false (.t 8), none⟩,
   ⟨some 10, .bin .mul (.k (.int .i64 8)) (.t 9), none⟩,
   ⟨some 4, .mv (.t 10), none⟩])
 (.seq (.seq (.region [
   ⟨some 11, .faddr 8 (.t 3), none⟩,
   ⟨some 12, .load 1 false (.t 11), none⟩,
   ⟨some 13, .bin .eql (.t 12) (.k (.int .i64 0)), none⟩])
 (.cond (.t 13) (.seq (.region [
     ⟨some 14, .mv (.t 0), none⟩,
     ⟨some 15, .mv (.t 0), none⟩,
     ⟨some 16, .nilck (.t 15), none⟩,
     ⟨some 17, .faddr 3 (.t 16), none⟩,
     ⟨some 18, .load 1 false (.t 17), none⟩,
     ⟨some 19, .mv (.t 4), none⟩,
     ⟨some 20, .call K.layout_up [(.t 18), (.t 19)], none⟩,
     ⟨some 21, .nilck (.t 14), none⟩,
     ⟨some 22, .faddr 3 (.t 21), none⟩,
     ⟨none, .store 1 (.t 22) (.t 20), none⟩])
   (.seq (.draw [
     ⟨some 23, .mv (.t 0), none⟩,
     ⟨some 24, .mv (.t 0), none⟩,
     ⟨some 25, .nilck (.t 24), none⟩,
     ⟨some 26, .faddr 2 (.t 25), none⟩,
     ⟨some 27, .load 1 false (.t 26), none⟩,
     ⟨some 28, .mv (.t 0), none⟩,
     ⟨some 29, .nilck (.t 28), none⟩,
     ⟨some 30, .faddr 3 (.t 29), none⟩,
     ⟨some 31, .load 1 false (.t 30), none⟩,
     ⟨some 32, .bin .quo (.t 31) (.k (.int .i64 8)), none⟩,
     ⟨some 33, .build [.int .i64 0, .int .i64 0] [(0, 1, (.t 32))], none⟩,
     ⟨some 34, .mv (.t 0), none⟩,
     ⟨some 35, .nilck (.t 34), none⟩,
     ⟨some 36, .faddr 3 (.t 35), none⟩,
     ⟨some 37, .load 1 false (.t 36), none⟩,
     ⟨some 38, .bin .rem (.t 37) (.k (.int .i64 8)), none⟩,
     ⟨some 39, .build [.int .i64 0, .int .i64 0, .int .i64 0, .bool false, .int .i64 0, .int .i64 0] [(0, 2, (.t 33)), (2, 1, (.k (.int .i64 1))), (3, 1, (.k (.bool true))), (4, 1, (.t 38))], none⟩,
     ⟨some 40, .bslice false 6 1 [.int .i64 0, .int .i64 0, .int .i64 0, .bool false, .int .i64 0, .int .i64 0] [(0, 6, (.t 39))], none⟩,
     ⟨some 41, .append false 6 48 (.t 27) (.t 40), none⟩,
     ⟨some 42, .nilck (.t 23), none⟩,
     ⟨some 43, .faddr 2 (.t 42), none⟩,
     ⟨none, .store 1 (.t 43) (.t 41), none⟩]
   [[], [], [1], [1, 2], [1, 2, 3], [], [5], [5, 6], [5, 6, 7], [5, 6, 7, 8], [5, 6, 7, 8, 9], [], [11], [11, 12], [11, 12, 13], [11, 12, 13, 14], [5, 6, 7, 8, 9, 10, 11, 12, 13, 14, 15], [5, 6, 7, 8, 9, 10, 11, 12, 13, 14, 15, 16], [1, 2, 3, 4, 5, 6, 7, 8, 9, 10, 11, 12, 13, 14, 15, 16, 17], [0, 1, 2, 3, 4, 5, 6, 7, 8, 9, 10, 11, 12, 13, 14, 15, 16, 17, 18], [0, 1, 2, 3, 4, 5, 6, 7, 8, 9, 10, 11, 12, 13, 14, 15, 16, 17, 18, 19], [0, 1, 2, 3, 4, 5, 6, 7, 8, 9, 10, 11, 12, 13, 14, 15, 16, 17, 18, 19, 20]] [([0, 1, 2, 3, 4, 5, 6, 7, 8, 9, 10, 11, 12, 13, 14, 15, 16, 17], 18, []), ([19, 20], 21, [])] [])
   (.ret)))
   (.skip)))
 (.join [] [44, 45, 46, 47, 48, 49, 50, 51, 52, 53, 54, 55, 56, 57, 58, 59, 60, 61, 62, 63, 64, 65, 66, 67, 68, 69] (.seq (.draw [
   ⟨some 44, .mv (.t 0), none⟩,
   ⟨some 45, .nilck (.t 44), none⟩,
   ⟨some 46, .faddr 3 (.t 45), none⟩,
   ⟨some 47, .load 1 false (.t 46), none⟩,
   ⟨some 48, .mv (.t 4), none⟩,
   ⟨some 49, .bin .quo (.t 47) (.t 48), none⟩,
   ⟨some 50, .mv (.t 0), none⟩,
   ⟨some 51, .nilck (.t 50), none⟩,
   ⟨some 52, .faddr 3 (.t 51), none⟩,
   ⟨some 53, .load 1 false (.t 52), none⟩,
   ⟨some 54, .faddr 8 (.t 3), none⟩,
   ⟨some 55, .load 1 false (.t 54), none⟩,
   ⟨some 56, .bin .add (.t 53) (.t 55), none⟩,
   ⟨some 57, .bin .sub (.t 56) (.k (.int .i64 1)), none⟩,
   ⟨some 58, .mv (.t 4), none⟩,
   ⟨some 59, .bin .quo (.t 57) (.t 58), none⟩,
   ⟨some 60, .bin .neq (.t 49) (.t 59), none⟩]
 [[], [0], [0, 1], [0, 1, 2], [], [0, 1, 2, 3, 4], [], [6], [6, 7], [6, 7, 8], [], [10], [6, 7, 8, 9, 10, 11], [6, 7, 8, 9, 10, 11, 12], [], [6, 7, 8, 9, 10, 11, 12, 13, 14], [0, 1, 2, 3, 4, 5, 6, 7, 8, 9, 10, 11, 12, 13, 14, 15]] [] [0, 1, 2, 3, 4, 5, 6, 7, 8, 9, 10, 11, 12, 13, 14, 15, 16])
 (.cond (.t 60) (.region [
     ⟨some 61, .mv (.t 0), none⟩,
     ⟨some 62, .mv (.t 0), none⟩,
     ⟨some 63, .nilck (.t 62), none⟩,
     ⟨some 64, .faddr 3 (.t 63), none⟩,
     ⟨some 65, .load 1 false (.t 64), none⟩,
     ⟨some 66, .mv (.t 4), none⟩,
     ⟨some 67, .call K.layout_up [(.t 65), (.t 66)], none⟩,
     ⟨some 68, .nilck (.t 61), none⟩,
     ⟨some 69, .faddr 3 (.t 68), none⟩,
     ⟨none, .store 1 (.t 69) (.t 67), none⟩])
   (.skip)))
 (.seq (.draw [
   ⟨some 70, .mv (.t 0), none⟩,
   ⟨some 71, .nilck (.t 70), none⟩,
   ⟨some 72, .faddr 3 (.t 71), none⟩,
   ⟨some 73, .load 1 false (.t 72), none⟩,
   ⟨some 74, .bin .quo (.t 73) (.k (.int .i64 8)), none⟩,
   ⟨some 75, .mv (.t 0), none⟩,
   ⟨some 76, .nilck (.t 75), none⟩,
   ⟨some 77, .faddr 3 (.t 76), none⟩,
   ⟨some 78, .load 1 false (.t 77), none⟩,
   ⟨some 79, .faddr 8 (.t 3), none⟩,
   ⟨some 80, .load 1 false (.t 79), none⟩,
   ⟨some 81, .bin .add (.t 78) (.t 80), none⟩,
   ⟨some 82, .bin .sub (.t 81) (.k (.int .i64 1)), none⟩,
   ⟨some 83, .bin .quo (.t 82) (.k (.int .i64 8)), none⟩,
   ⟨some 5, .mv (.t 74), none⟩,
   ⟨some 6, .mv (.t 83), none⟩]
 [[], [0], [0, 1], [0, 1, 2], [0, 1, 2, 3], [], [5], [5, 6], [5, 6, 7], [], [9], [5, 6, 7, 8, 9, 10], [5, 6, 7, 8, 9, 10, 11], [5, 6, 7, 8, 9, 10, 11, 12], [0, 1, 2, 3, 4], [0, 1, 2, 3, 4, 5, 6, 7, 8, 9, 10, 11, 12, 13, 14]] [] [0, 1, 2, 3, 4, 5, 6, 7, 8, 9, 10, 11, 12, 13, 14, 15])
 (.seq (.draw [
   ⟨some 84, .mv (.t 0), none⟩,
   ⟨some 85, .mv (.t 0), none⟩,
   ⟨some 86, .nilck (.t 85), none⟩,
   ⟨some 87, .faddr 2 (.t 86), none⟩,
   ⟨some 88, .load 1 false (.t 87), none⟩,
   ⟨some 89, .mv (.t 5), none⟩,
   ⟨some 90, .mv (.t 6), none⟩,
   ⟨some 91, .mv (.t 5), none⟩,
   ⟨some 92, .bin .sub (.t 90) (.t 91), none⟩,
   ⟨some 93, .bin .add (.t 92) (.k (.int .i64 1)), none⟩,
   ⟨some 94, .build [.int .i64 0, .int .i64 0] [(0, 1, (.t 89)), (1, 1, (.t 93))], none⟩,
   ⟨some 95, .mv (.t 0), none⟩,
   ⟨some 96, .nilck (.t 95), none⟩,
   ⟨some 97, .faddr 3 (.t 96), none⟩,
   ⟨some 98, .load 1 false (.t 97), none⟩,
   ⟨some 99, .bin .rem (.t 98) (.k (.int .i64 8)), none⟩,
   ⟨some 100, .faddr 8 (.t 3), none⟩,
   ⟨some 101, .load 1 false (.t 100), none⟩,
   ⟨some 102, .build [.int .i64 0, .int .i64 0, .int .i64 0, .bool false, .int .i64 0, .int .i64 0] [(0, 2, (.t 94)), (2, 1, (.k (.int .i64 1))), (3, 1, (.k (.bool true))), (4, 1, (.t 99)), (5, 1, (.t 101))], none⟩,
   ⟨some 103, .bslice false 6 1 [.int .i64 0, .int .i64 0, .int .i64 0, .bool false, .int .i64 0, .int .i64 0] [(0, 6, (.t 102))], none⟩,
   ⟨some 104, .append false 6 48 (.t 88) (.t 103), none⟩,
   ⟨some 105, .nilck (.t 84), none⟩,
   ⟨some 106, .faddr 2 (.t 105), none⟩,
   ⟨none, .store 1 (.t 106) (.t 104), none⟩]
 [[], [], [1], [1, 2], [1, 2, 3], [], [], [], [6, 7], [6, 7, 8], [5, 6, 7, 8, 9], [], [11], [11, 12], [11, 12, 13], [11, 12, 13, 14], [], [16], [5, 6, 7, 8, 9, 10, 11, 12, 13, 14, 15, 16, 17], [5, 6, 7, 8, 9, 10, 11, 12, 13, 14, 15, 16, 17, 18], [1, 2, 3, 4, 5, 6, 7, 8, 9, 10, 11, 12, 13, 14, 15, 16, 17, 18, 19], [0, 1, 2, 3, 4, 5, 6, 7, 8, 9, 10, 11, 12, 13, 14, 15, 16, 17, 18, 19, 20], [0, 1, 2, 3, 4, 5, 6, 7, 8, 9, 10, 11, 12, 13, 14, 15, 16, 17, 18, 19, 20, 21], [0, 1, 2, 3, 4, 5, 6, 7, 8, 9, 10, 11, 12, 13, 14, 15, 16, 17, 18, 19, 20, 21, 22]] [([0, 1, 2, 3, 4, 5, 6, 7, 8, 9, 10, 11, 12, 13, 14, 15, 16, 17, 18, 19], 20, []), ([21, 22], 23, [])] [])
 (.draw [
   ⟨some 107, .mv (.t 0), none⟩,
   ⟨some 108, .nilck (.t 107), none⟩,
   ⟨some 109, .faddr 3 (.t 108), none⟩,
   ⟨some 110, .load 1 false (.t 109), none⟩,
   ⟨some 111, .faddr 8 (.t 3), none⟩,
   ⟨some 112, .load 1 false (.t 111), none⟩,
   ⟨some 113, .bin .add (.t 110) (.t 112), none⟩,
   ⟨some 114, .nilck (.t 107), none⟩,
   ⟨some 115, .faddr 3 (.t 114), none⟩,
   ⟨none, .store 1 (.t 115) (.t 113), none⟩]
 [[], [0], [0, 1], [0, 1, 2], [], [4], [0, 1, 2, 3, 4, 5], [0, 1, 2, 3, 4, 5, 6], [0, 1, 2, 3, 4, 5, 6, 7], [0, 1, 2, 3, 4, 5, 6, 7, 8]] [([0, 1, 2, 3, 4, 5, 6, 7, 8], 9, [])] []))))))⟩
theorem eq_layout_placed_bits (Φ : Calls') (a0 a1 : AV) (H : AH) (Q : Post) : fnE1 Φ ir_layout_placed_bits [a0, a1] H Q = layout_placed_bits Φ a0 a1 H Q := by kernel_rfl

/-! rabbet/layout.up -/
def layout_up (Φ : Calls') (a0 : AV) (a1 : AV) (H : AH) (Q : Post) : Prop :=
 Do (abin .add a0 a1) fun x1 =>
 Do (abin .sub x1 (.int .i64 1)) fun x2 =>
 Do (abin .quo x2 a1) fun x3 =>
 Do (abin .mul x3 a1) fun x4 =>
 Q x4 H
def ir_layout_up : AFunc := ⟨13, [.tmp 4],
 .seq (.region [
   ⟨some 4, .mv (.k (.int .i64 0)), none⟩])
 (.seq (.region [
   ⟨some 5, .mv (.t 0), none⟩,
   ⟨some 6, .mv (.t 1), none⟩,
   ⟨some 7, .bin .add (.t 5) (.t 6), none⟩,
   ⟨some 8, .bin .sub (.t 7) (.k (.int .i64 1)), none⟩,
   ⟨some 9, .mv (.t 1), none⟩,
   ⟨some 10, .bin .quo (.t 8) (.t 9), none⟩,
   ⟨some 11, .mv (.t 1), none⟩,
   ⟨some 12, .bin .mul (.t 10) (.t 11), none⟩,
   ⟨some 4, .mv (.t 12), none⟩])
 (.ret))⟩
theorem eq_layout_up (Φ : Calls') (a0 a1 : AV) (H : AH) (Q : Post) : fnE1 Φ ir_layout_up [a0, a1] H Q = layout_up Φ a0 a1 H Q := by kernel_rfl

def tab_Chk : Tab := [
  (K.rabbetlaw11_CheckPlaces, ir_rabbetlaw11_CheckPlaces),
  (K.rabbetlaw11_CheckOrders, ir_rabbetlaw11_CheckOrders),
  (K.rabbetlaw11_CheckParts, ir_rabbetlaw11_CheckParts),
  (K.rabbetlaw11_CheckNames, ir_rabbetlaw11_CheckNames),
  (K.check_Place, ir_check_Place),
  (K.rabbetref11_Place, ir_rabbetref11_Place),
  (K.rabbetlaw11_awake, ir_rabbetlaw11_awake),
  (K.rabbetref06_Same, ir_rabbetref06_Same),
  (K.check_Order, ir_check_Order),
  (K.check_Prog, ir_check_Prog),
  (K.rabbetlaw11_places, ir_rabbetlaw11_places),
  (K.slices_IndexFunc___api_Var_api_Var_, ir_slices_IndexFunc___api_Var_api_Var_),
  (K.check_Place_c1, ir_check_Place_c1),
  (K.kind_Sound, ir_kind_Sound),
  (K.check_part, ir_check_part),
  (K.rabbetref06_Sound, ir_rabbetref06_Sound),
  (K.check_vars, ir_check_vars),
  (K.check_checker_block, ir_check_checker_block),
  (K.check_checker_bad, ir_check_checker_bad),
  (K.kind_Depth, ir_kind_Depth),
  (K.kind_sound, ir_kind_sound),
  (K.slices_IndexFunc___api_Field_api_Field_, ir_slices_IndexFunc___api_Field_api_Field_),
  (K.check_part_c1, ir_check_part_c1),
  (K.rabbetref06_Depth, ir_rabbetref06_Depth),
  (K.rabbetref06_inner, ir_rabbetref06_inner),
  (K.kind_Name, ir_kind_Name),
  (K.lex_Keyword, ir_lex_Keyword),
  (K.slices_ContainsFunc___api_Var_api_Var_, ir_slices_ContainsFunc___api_Var_api_Var_),
  (K.check_vars_c1, ir_check_vars_c1),
  (K.layout_Of, ir_layout_Of),
  (K.check_checker_stmt, ir_check_checker_stmt),
  (K.kind_depth, ir_kind_depth),
  (K.kind_only, ir_kind_only),
  (K.kind_power, ir_kind_power),
  (K.kind_group, ir_kind_group),
  (K.rabbetref06_size, ir_rabbetref06_size),
  (K.rabbetref06_Name, ir_rabbetref06_Name),
  (K.kind_letter, ir_kind_letter),
  (K.slices_Contains___string_string_, ir_slices_Contains___string_string_),
  (K.layout_check, ir_layout_check),
  (K.check_checker_need, ir_check_checker_need),
  (K.check_form, ir_check_form),
  (K.check_checker_there, ir_check_checker_there),
  (K.check_checker_place, ir_check_checker_place),
  (K.check_checker_exprs, ir_check_checker_exprs),
  (K.kind_field, ir_kind_field),
  (K.slices_Index___string_string_, ir_slices_Index___string_string_),
  (K.layout_torn, ir_layout_torn),
  (K.layout_of, ir_layout_of),
  (K.check_of, ir_check_of),
  (K.check_empty, ir_check_empty),
  (K.check_fits, ir_check_fits),
  (K.check_checker_expr, ir_check_checker_expr),
  (K.slices_ContainsFunc___api_Field_api_Field_, ir_slices_ContainsFunc___api_Field_api_Field_),
  (K.kind_field_c1, ir_kind_field_c1),
  (K.layout_loose, ir_layout_loose),
  (K.slices_ContainsFunc___api_Type_api_Type_, ir_slices_ContainsFunc___api_Type_api_Type_),
  (K.layout_torn_c1, ir_layout_torn_c1),
  (K.layout_place, ir_layout_place),
  (K.check_formed, ir_check_formed),
  (K.layout_loose_c1, ir_layout_loose_c1),
  (K.slices_IndexFunc___api_Type_api_Type_, ir_slices_IndexFunc___api_Type_api_Type_),
  (K.layout_wide, ir_layout_wide),
  (K.layout_placed_bits, ir_layout_placed_bits),
  (K.layout_up, ir_layout_up)]

theorem cl_rabbetlaw11_CheckPlaces {Φ : Calls'} (hT : Cl Φ tab_Chk) {a0 a1 : AV} {H : AH} {Q : Post} (h : rabbetlaw11_CheckPlaces Φ a0 a1 H Q) : Φ K.rabbetlaw11_CheckPlaces [a0, a1] H Q := hT.call (by kernel_rfl) (by kernel_rfl) (by rw [eq_rabbetlaw11_CheckPlaces]; exact h)
theorem cl_rabbetlaw11_CheckOrders {Φ : Calls'} (hT : Cl Φ tab_Chk) {a0 a1 : AV} {H : AH} {Q : Post} (h : rabbetlaw11_CheckOrders Φ a0 a1 H Q) : Φ K.rabbetlaw11_CheckOrders [a0, a1] H Q := hT.call (by kernel_rfl) (by kernel_rfl) (by rw [eq_rabbetlaw11_CheckOrders]; exact h)
theorem cl_rabbetlaw11_CheckParts {Φ : Calls'} (hT : Cl Φ tab_Chk) {a0 a1 : AV} {H : AH} {Q : Post} (h : rabbetlaw11_CheckParts Φ a0 a1 H Q) : Φ K.rabbetlaw11_CheckParts [a0, a1] H Q := hT.call (by kernel_rfl) (by kernel_rfl) (by rw [eq_rabbetlaw11_CheckParts]; exact h)
theorem cl_rabbetlaw11_CheckNames {Φ : Calls'} (hT : Cl Φ tab_Chk) {a0 : AV} {H : AH} {Q : Post} (h : rabbetlaw11_CheckNames Φ a0 H Q) : Φ K.rabbetlaw11_CheckNames [a0] H Q := hT.call (by kernel_rfl) (by kernel_rfl) (by rw [eq_rabbetlaw11_CheckNames]; exact h)
theorem cl_check_Place {Φ : Calls'} (hT : Cl Φ tab_Chk) {a0 a1 : AV} {H : AH} {Q : Post} (h : check_Place Φ a0 a1 H Q) : Φ K.check_Place [a0, a1] H Q := hT.call (by kernel_rfl) (by kernel_rfl) (by rw [eq_check_Place]; exact h)
theorem cl_rabbetref11_Place {Φ : Calls'} (hT : Cl Φ tab_Chk) {a0 a1 : AV} {H : AH} {Q : Post} (h : rabbetref11_Place Φ a0 a1 H Q) : Φ K.rabbetref11_Place [a0, a1] H Q := hT.call (by kernel_rfl) (by kernel_rfl) (by rw [eq_rabbetref11_Place]; exact h)
theorem cl_rabbetlaw11_awake {Φ : Calls'} (hT : Cl Φ tab_Chk) {H : AH} {Q : Post} (h : rabbetlaw11_awake Φ H Q) : Φ K.rabbetlaw11_awake [] H Q := hT.call (by kernel_rfl) (by kernel_rfl) (by rw [eq_rabbetlaw11_awake]; exact h)
theorem cl_rabbetref06_Same {Φ : Calls'} (hT : Cl Φ tab_Chk) {a0 a1 : AV} {H : AH} {Q : Post} (h : rabbetref06_Same Φ a0 a1 H Q) : Φ K.rabbetref06_Same [a0, a1] H Q := hT.call (by kernel_rfl) (by kernel_rfl) (by rw [eq_rabbetref06_Same]; exact h)
theorem cl_check_Order {Φ : Calls'} (hT : Cl Φ tab_Chk) {a0 a1 : AV} {H : AH} {Q : Post} (h : check_Order Φ a0 a1 H Q) : Φ K.check_Order [a0, a1] H Q := hT.call (by kernel_rfl) (by kernel_rfl) (by rw [eq_check_Order]; exact h)
theorem cl_check_Prog {Φ : Calls'} (hT : Cl Φ tab_Chk) {a0 : AV} {H : AH} {Q : Post} (h : check_Prog Φ a0 H Q) : Φ K.check_Prog [a0] H Q := hT.call (by kernel_rfl) (by kernel_rfl) (by rw [eq_check_Prog]; exact h)
theorem cl_rabbetlaw11_places {Φ : Calls'} (hT : Cl Φ tab_Chk) {a0 a1 : AV} {H : AH} {Q : Post} (h : rabbetlaw11_places Φ a0 a1 H Q) : Φ K.rabbetlaw11_places [a0, a1] H Q := hT.call (by kernel_rfl) (by kernel_rfl) (by rw [eq_rabbetlaw11_places]; exact h)
theorem cl_slices_IndexFunc___api_Var_api_Var_ {Φ : Calls'} (hT : Cl Φ tab_Chk) {a0 a1 : AV} {H : AH} {Q : Post} (h : slices_IndexFunc___api_Var_api_Var_ Φ a0 a1 H Q) : Φ K.slices_IndexFunc___api_Var_api_Var_ [a0, a1] H Q := hT.call (by kernel_rfl) (by kernel_rfl) (by rw [eq_slices_IndexFunc___api_Var_api_Var_]; exact h)
theorem cl_check_Place_c1 {Φ : Calls'} (hT : Cl Φ tab_Chk) {a0 a1 : AV} {H : AH} {Q : Post} (h : check_Place_c1 Φ a0 a1 H Q) : Φ K.check_Place_c1 [a0, a1] H Q := hT.call (by kernel_rfl) (by kernel_rfl) (by rw [eq_check_Place_c1]; exact h)
theorem cl_kind_Sound {Φ : Calls'} (hT : Cl Φ tab_Chk) {a0 : AV} {H : AH} {Q : Post} (h : kind_Sound Φ a0 H Q) : Φ K.kind_Sound [a0] H Q := hT.call (by kernel_rfl) (by kernel_rfl) (by rw [eq_kind_Sound]; exact h)
theorem cl_check_part {Φ : Calls'} (hT : Cl Φ tab_Chk) {a0 a1 : AV} {H : AH} {Q : Post} (h : check_part Φ a0 a1 H Q) : Φ K.check_part [a0, a1] H Q := hT.call (by kernel_rfl) (by kernel_rfl) (by rw [eq_check_part]; exact h)
theorem cl_rabbetref06_Sound {Φ : Calls'} (hT : Cl Φ tab_Chk) {a0 : AV} {H : AH} {Q : Post} (h : rabbetref06_Sound Φ a0 H Q) : Φ K.rabbetref06_Sound [a0] H Q := hT.call (by kernel_rfl) (by kernel_rfl) (by rw [eq_rabbetref06_Sound]; exact h)
theorem cl_check_vars {Φ : Calls'} (hT : Cl Φ tab_Chk) {a0 : AV} {H : AH} {Q : Post} (h : check_vars Φ a0 H Q) : Φ K.check_vars [a0] H Q := hT.call (by kernel_rfl) (by kernel_rfl) (by rw [eq_check_vars]; exact h)
theorem cl_check_checker_block {Φ : Calls'} (hT : Cl Φ tab_Chk) {a0 a1 a2 : AV} {H : AH} {Q : Post} (h : check_checker_block Φ a0 a1 a2 H Q) : Φ K.check_checker_block [a0, a1, a2] H Q := hT.call (by kernel_rfl) (by kernel_rfl) (by rw [eq_check_checker_block]; exact h)
theorem cl_check_checker_bad {Φ : Calls'} (hT : Cl Φ tab_Chk) {a0 : AV} {H : AH} {Q : Post} (h : check_checker_bad Φ a0 H Q) : Φ K.check_checker_bad [a0] H Q := hT.call (by kernel_rfl) (by kernel_rfl) (by rw [eq_check_checker_bad]; exact h)
theorem cl_kind_Depth {Φ : Calls'} (hT : Cl Φ tab_Chk) {a0 : AV} {H : AH} {Q : Post} (h : kind_Depth Φ a0 H Q) : Φ K.kind_Depth [a0] H Q := hT.call (by kernel_rfl) (by kernel_rfl) (by rw [eq_kind_Depth]; exact h)
theorem cl_kind_sound {Φ : Calls'} (hT : Cl Φ tab_Chk) {a0 : AV} {H : AH} {Q : Post} (h : kind_sound Φ a0 H Q) : Φ K.kind_sound [a0] H Q := hT.call (by kernel_rfl) (by kernel_rfl) (by rw [eq_kind_sound]; exact h)
theorem cl_slices_IndexFunc___api_Field_api_Field_ {Φ : Calls'} (hT : Cl Φ tab_Chk) {a0 a1 : AV} {H : AH} {Q : Post} (h : slices_IndexFunc___api_Field_api_Field_ Φ a0 a1 H Q) : Φ K.slices_IndexFunc___api_Field_api_Field_ [a0, a1] H Q := hT.call (by kernel_rfl) (by kernel_rfl) (by rw [eq_slices_IndexFunc___api_Field_api_Field_]; exact h)
theorem cl_check_part_c1 {Φ : Calls'} (hT : Cl Φ tab_Chk) {a0 a1 : AV} {H : AH} {Q : Post} (h : check_part_c1 Φ a0 a1 H Q) : Φ K.check_part_c1 [a0, a1] H Q := hT.call (by kernel_rfl) (by kernel_rfl) (by rw [eq_check_part_c1]; exact h)
theorem cl_rabbetref06_Depth {Φ : Calls'} (hT : Cl Φ tab_Chk) {a0 a1 : AV} {H : AH} {Q : Post} (h : rabbetref06_Depth Φ a0 a1 H Q) : Φ K.rabbetref06_Depth [a0, a1] H Q := hT.call (by kernel_rfl) (by kernel_rfl) (by rw [eq_rabbetref06_Depth]; exact h)
theorem cl_rabbetref06_inner {Φ : Calls'} (hT : Cl Φ tab_Chk) {a0 : AV} {H : AH} {Q : Post} (h : rabbetref06_inner Φ a0 H Q) : Φ K.rabbetref06_inner [a0] H Q := hT.call (by kernel_rfl) (by kernel_rfl) (by rw [eq_rabbetref06_inner]; exact h)
theorem cl_kind_Name {Φ : Calls'} (hT : Cl Φ tab_Chk) {a0 : AV} {H : AH} {Q : Post} (h : kind_Name Φ a0 H Q) : Φ K.kind_Name [a0] H Q := hT.call (by kernel_rfl) (by kernel_rfl) (by rw [eq_kind_Name]; exact h)
theorem cl_lex_Keyword {Φ : Calls'} (hT : Cl Φ tab_Chk) {a0 : AV} {H : AH} {Q : Post} (h : lex_Keyword Φ a0 H Q) : Φ K.lex_Keyword [a0] H Q := hT.call (by kernel_rfl) (by kernel_rfl) (by rw [eq_lex_Keyword]; exact h)
theorem cl_slices_ContainsFunc___api_Var_api_Var_ {Φ : Calls'} (hT : Cl Φ tab_Chk) {a0 a1 : AV} {H : AH} {Q : Post} (h : slices_ContainsFunc___api_Var_api_Var_ Φ a0 a1 H Q) : Φ K.slices_ContainsFunc___api_Var_api_Var_ [a0, a1] H Q := hT.call (by kernel_rfl) (by kernel_rfl) (by rw [eq_slices_ContainsFunc___api_Var_api_Var_]; exact h)
theorem cl_check_vars_c1 {Φ : Calls'} (hT : Cl Φ tab_Chk) {a0 a1 : AV} {H : AH} {Q : Post} (h : check_vars_c1 Φ a0 a1 H Q) : Φ K.check_vars_c1 [a0, a1] H Q := hT.call (by kernel_rfl) (by kernel_rfl) (by rw [eq_check_vars_c1]; exact h)
theorem cl_layout_Of {Φ : Calls'} (hT : Cl Φ tab_Chk) {a0 : AV} {H : AH} {Q : Post} (h : layout_Of Φ a0 H Q) : Φ K.layout_Of [a0] H Q := hT.call (by kernel_rfl) (by kernel_rfl) (by rw [eq_layout_Of]; exact h)
theorem cl_check_checker_stmt {Φ : Calls'} (hT : Cl Φ tab_Chk) {a0 a1 a2 : AV} {H : AH} {Q : Post} (h : check_checker_stmt Φ a0 a1 a2 H Q) : Φ K.check_checker_stmt [a0, a1, a2] H Q := hT.call (by kernel_rfl) (by kernel_rfl) (by rw [eq_check_checker_stmt]; exact h)
theorem cl_kind_depth {Φ : Calls'} (hT : Cl Φ tab_Chk) {a0 a1 : AV} {H : AH} {Q : Post} (h : kind_depth Φ a0 a1 H Q) : Φ K.kind_depth [a0, a1] H Q := hT.call (by kernel_rfl) (by kernel_rfl) (by rw [eq_kind_depth]; exact h)
theorem cl_kind_only {Φ : Calls'} (hT : Cl Φ tab_Chk) {a0 : AV} {H : AH} {Q : Post} (h : kind_only Φ a0 H Q) : Φ K.kind_only [a0] H Q := hT.call (by kernel_rfl) (by kernel_rfl) (by rw [eq_kind_only]; exact h)
theorem cl_kind_power {Φ : Calls'} (hT : Cl Φ tab_Chk) {a0 a1 : AV} {H : AH} {Q : Post} (h : kind_power Φ a0 a1 H Q) : Φ K.kind_power [a0, a1] H Q := hT.call (by kernel_rfl) (by kernel_rfl) (by rw [eq_kind_power]; exact h)
theorem cl_kind_group {Φ : Calls'} (hT : Cl Φ tab_Chk) {a0 : AV} {H : AH} {Q : Post} (h : kind_group Φ a0 H Q) : Φ K.kind_group [a0] H Q := hT.call (by kernel_rfl) (by kernel_rfl) (by rw [eq_kind_group]; exact h)
theorem cl_rabbetref06_size {Φ : Calls'} (hT : Cl Φ tab_Chk) {a0 a1 : AV} {H : AH} {Q : Post} (h : rabbetref06_size Φ a0 a1 H Q) : Φ K.rabbetref06_size [a0, a1] H Q := hT.call (by kernel_rfl) (by kernel_rfl) (by rw [eq_rabbetref06_size]; exact h)
theorem cl_rabbetref06_Name {Φ : Calls'} (hT : Cl Φ tab_Chk) {a0 : AV} {H : AH} {Q : Post} (h : rabbetref06_Name Φ a0 H Q) : Φ K.rabbetref06_Name [a0] H Q := hT.call (by kernel_rfl) (by kernel_rfl) (by rw [eq_rabbetref06_Name]; exact h)
theorem cl_kind_letter {Φ : Calls'} (hT : Cl Φ tab_Chk) {a0 : AV} {H : AH} {Q : Post} (h : kind_letter Φ a0 H Q) : Φ K.kind_letter [a0] H Q := hT.call (by kernel_rfl) (by kernel_rfl) (by rw [eq_kind_letter]; exact h)
theorem cl_slices_Contains___string_string_ {Φ : Calls'} (hT : Cl Φ tab_Chk) {a0 a1 : AV} {H : AH} {Q : Post} (h : slices_Contains___string_string_ Φ a0 a1 H Q) : Φ K.slices_Contains___string_string_ [a0, a1] H Q := hT.call (by kernel_rfl) (by kernel_rfl) (by rw [eq_slices_Contains___string_string_]; exact h)
theorem cl_layout_check {Φ : Calls'} (hT : Cl Φ tab_Chk) {a0 : AV} {H : AH} {Q : Post} (h : layout_check Φ a0 H Q) : Φ K.layout_check [a0] H Q := hT.call (by kernel_rfl) (by kernel_rfl) (by rw [eq_layout_check]; exact h)
theorem cl_check_checker_need {Φ : Calls'} (hT : Cl Φ tab_Chk) {a0 a1 a2 : AV} {H : AH} {Q : Post} (h : check_checker_need Φ a0 a1 a2 H Q) : Φ K.check_checker_need [a0, a1, a2] H Q := hT.call (by kernel_rfl) (by kernel_rfl) (by rw [eq_check_checker_need]; exact h)
theorem cl_check_form {Φ : Calls'} (hT : Cl Φ tab_Chk) {a0 : AV} {H : AH} {Q : Post} (h : check_form Φ a0 H Q) : Φ K.check_form [a0] H Q := hT.call (by kernel_rfl) (by kernel_rfl) (by rw [eq_check_form]; exact h)
theorem cl_check_checker_there {Φ : Calls'} (hT : Cl Φ tab_Chk) {a0 a1 : AV} {H : AH} {Q : Post} (h : check_checker_there Φ a0 a1 H Q) : Φ K.check_checker_there [a0, a1] H Q := hT.call (by kernel_rfl) (by kernel_rfl) (by rw [eq_check_checker_there]; exact h)
theorem cl_check_checker_place {Φ : Calls'} (hT : Cl Φ tab_Chk) {a0 a1 a2 a3 : AV} {H : AH} {Q : Post} (h : check_checker_place Φ a0 a1 a2 a3 H Q) : Φ K.check_checker_place [a0, a1, a2, a3] H Q := hT.call (by kernel_rfl) (by kernel_rfl) (by rw [eq_check_checker_place]; exact h)
theorem cl_check_checker_exprs {Φ : Calls'} (hT : Cl Φ tab_Chk) {a0 a1 a2 : AV} {H : AH} {Q : Post} (h : check_checker_exprs Φ a0 a1 a2 H Q) : Φ K.check_checker_exprs [a0, a1, a2] H Q := hT.call (by kernel_rfl) (by kernel_rfl) (by rw [eq_check_checker_exprs]; exact h)
theorem cl_kind_field {Φ : Calls'} (hT : Cl Φ tab_Chk) {a0 a1 : AV} {H : AH} {Q : Post} (h : kind_field Φ a0 a1 H Q) : Φ K.kind_field [a0, a1] H Q := hT.call (by kernel_rfl) (by kernel_rfl) (by rw [eq_kind_field]; exact h)
theorem cl_slices_Index___string_string_ {Φ : Calls'} (hT : Cl Φ tab_Chk) {a0 a1 : AV} {H : AH} {Q : Post} (h : slices_Index___string_string_ Φ a0 a1 H Q) : Φ K.slices_Index___string_string_ [a0, a1] H Q := hT.call (by kernel_rfl) (by kernel_rfl) (by rw [eq_slices_Index___string_string_]; exact h)
theorem cl_layout_torn {Φ : Calls'} (hT : Cl Φ tab_Chk) {a0 : AV} {H : AH} {Q : Post} (h : layout_torn Φ a0 H Q) : Φ K.layout_torn [a0] H Q := hT.call (by kernel_rfl) (by kernel_rfl) (by rw [eq_layout_torn]; exact h)
theorem cl_layout_of {Φ : Calls'} (hT : Cl Φ tab_Chk) {a0 : AV} {H : AH} {Q : Post} (h : layout_of Φ a0 H Q) : Φ K.layout_of [a0] H Q := hT.call (by kernel_rfl) (by kernel_rfl) (by rw [eq_layout_of]; exact h)
theorem cl_check_of {Φ : Calls'} (hT : Cl Φ tab_Chk) {a0 : AV} {H : AH} {Q : Post} (h : check_of Φ a0 H Q) : Φ K.check_of [a0] H Q := hT.call (by kernel_rfl) (by kernel_rfl) (by rw [eq_check_of]; exact h)
theorem cl_check_empty {Φ : Calls'} (hT : Cl Φ tab_Chk) {a0 : AV} {H : AH} {Q : Post} (h : check_empty Φ a0 H Q) : Φ K.check_empty [a0] H Q := hT.call (by kernel_rfl) (by kernel_rfl) (by rw [eq_check_empty]; exact h)
theorem cl_check_fits {Φ : Calls'} (hT : Cl Φ tab_Chk) {a0 a1 : AV} {H : AH} {Q : Post} (h : check_fits Φ a0 a1 H Q) : Φ K.check_fits [a0, a1] H Q := hT.call (by kernel_rfl) (by kernel_rfl) (by rw [eq_check_fits]; exact h)
theorem cl_check_checker_expr {Φ : Calls'} (hT : Cl Φ tab_Chk) {a0 a1 a2 : AV} {H : AH} {Q : Post} (h : check_checker_expr Φ a0 a1 a2 H Q) : Φ K.check_checker_expr [a0, a1, a2] H Q := hT.call (by kernel_rfl) (by kernel_rfl) (by rw [eq_check_checker_expr]; exact h)
theorem cl_slices_ContainsFunc___api_Field_api_Field_ {Φ : Calls'} (hT : Cl Φ tab_Chk) {a0 a1 : AV} {H : AH} {Q : Post} (h : slices_ContainsFunc___api_Field_api_Field_ Φ a0 a1 H Q) : Φ K.slices_ContainsFunc___api_Field_api_Field_ [a0, a1] H Q := hT.call (by kernel_rfl) (by kernel_rfl) (by rw [eq_slices_ContainsFunc___api_Field_api_Field_]; exact h)
theorem cl_kind_field_c1 {Φ : Calls'} (hT : Cl Φ tab_Chk) {a0 a1 : AV} {H : AH} {Q : Post} (h : kind_field_c1 Φ a0 a1 H Q) : Φ K.kind_field_c1 [a0, a1] H Q := hT.call (by kernel_rfl) (by kernel_rfl) (by rw [eq_kind_field_c1]; exact h)
theorem cl_layout_loose {Φ : Calls'} (hT : Cl Φ tab_Chk) {a0 : AV} {H : AH} {Q : Post} (h : layout_loose Φ a0 H Q) : Φ K.layout_loose [a0] H Q := hT.call (by kernel_rfl) (by kernel_rfl) (by rw [eq_layout_loose]; exact h)
theorem cl_slices_ContainsFunc___api_Type_api_Type_ {Φ : Calls'} (hT : Cl Φ tab_Chk) {a0 a1 : AV} {H : AH} {Q : Post} (h : slices_ContainsFunc___api_Type_api_Type_ Φ a0 a1 H Q) : Φ K.slices_ContainsFunc___api_Type_api_Type_ [a0, a1] H Q := hT.call (by kernel_rfl) (by kernel_rfl) (by rw [eq_slices_ContainsFunc___api_Type_api_Type_]; exact h)
theorem cl_layout_torn_c1 {Φ : Calls'} (hT : Cl Φ tab_Chk) {a0 : AV} {H : AH} {Q : Post} (h : layout_torn_c1 Φ a0 H Q) : Φ K.layout_torn_c1 [a0] H Q := hT.call (by kernel_rfl) (by kernel_rfl) (by rw [eq_layout_torn_c1]; exact h)
theorem cl_layout_place {Φ : Calls'} (hT : Cl Φ tab_Chk) {a0 : AV} {H : AH} {Q : Post} (h : layout_place Φ a0 H Q) : Φ K.layout_place [a0] H Q := hT.call (by kernel_rfl) (by kernel_rfl) (by rw [eq_layout_place]; exact h)
theorem cl_check_formed {Φ : Calls'} (hT : Cl Φ tab_Chk) {a0 : AV} {H : AH} {Q : Post} (h : check_formed Φ a0 H Q) : Φ K.check_formed [a0] H Q := hT.call (by kernel_rfl) (by kernel_rfl) (by rw [eq_check_formed]; exact h)
theorem cl_layout_loose_c1 {Φ : Calls'} (hT : Cl Φ tab_Chk) {a0 : AV} {H : AH} {Q : Post} (h : layout_loose_c1 Φ a0 H Q) : Φ K.layout_loose_c1 [a0] H Q := hT.call (by kernel_rfl) (by kernel_rfl) (by rw [eq_layout_loose_c1]; exact h)
theorem cl_slices_IndexFunc___api_Type_api_Type_ {Φ : Calls'} (hT : Cl Φ tab_Chk) {a0 a1 : AV} {H : AH} {Q : Post} (h : slices_IndexFunc___api_Type_api_Type_ Φ a0 a1 H Q) : Φ K.slices_IndexFunc___api_Type_api_Type_ [a0, a1] H Q := hT.call (by kernel_rfl) (by kernel_rfl) (by rw [eq_slices_IndexFunc___api_Type_api_Type_]; exact h)
theorem cl_layout_wide {Φ : Calls'} (hT : Cl Φ tab_Chk) {a0 a1 a2 : AV} {H : AH} {Q : Post} (h : layout_wide Φ a0 a1 a2 H Q) : Φ K.layout_wide [a0, a1, a2] H Q := hT.call (by kernel_rfl) (by kernel_rfl) (by rw [eq_layout_wide]; exact h)
theorem cl_layout_placed_bits {Φ : Calls'} (hT : Cl Φ tab_Chk) {a0 a1 : AV} {H : AH} {Q : Post} (h : layout_placed_bits Φ a0 a1 H Q) : Φ K.layout_placed_bits [a0, a1] H Q := hT.call (by kernel_rfl) (by kernel_rfl) (by rw [eq_layout_placed_bits]; exact h)
theorem cl_layout_up {Φ : Calls'} (hT : Cl Φ tab_Chk) {a0 a1 : AV} {H : AH} {Q : Post} (h : layout_up Φ a0 a1 H Q) : Φ K.layout_up [a0, a1] H Q := hT.call (by kernel_rfl) (by kernel_rfl) (by rw [eq_layout_up]; exact h)
end Rb.S

/- The texts are the program's. By spec.py. -/
set_option linter.unusedVariables false
namespace Go.Proofs.YtbdhmikigkgoiaaDoor.rb
open Rb
theorem cl_Chk : Cl (ACall C) S.tab_Chk := Cl.of (ACall_mono C) (closed_of (idC_fok _ _) (by kernel_rfl))
end Go.Proofs.YtbdhmikigkgoiaaDoor.rb

/- From what a law's function does to the statement. -/
set_option linter.unusedVariables false
namespace Rb
open Go Go.RowKit

/-- All that is there may be read, and nothing is written: frozen. -/
def allFz (W : World) : Nat → Nat → Prop := fun b o => ∃ V, W.cell? ⟨b, o, none⟩ = some V

theorem law_calls {C : Ctx} {key : Nat} {f : FuncId} {args : List AV} {Vs : Array Value} {W : World} (hf : C.F key = some f) (h : ACall C key args AH.mt (fun v _ => v = .bool true)) (hG : GOK C W (Ghost.mt (allFz W)))
    (hargs : VRs C.F W (Ghost.mt (allFz W)) args Vs) : Calls C.P f Vs W fun e W' => e = .returned (.bool true) ∧ Below W.heap.size W W' := by
  refine Calls.mono (h f hf _ W Vs hG (Rel.mt fun _ _ h => h) hargs) fun e w' he => ?_
  obtain ⟨V, v, H', G', rfl, rfl, hv, _, hst⟩ := he
  obtain rfl := hv.bool_inv
  exact ⟨rfl, hst.below⟩

/-- A variable that holds small numbers. -/
theorem fptr_of_tab {F : FTab} {W : World} {g : Nat} {k : IntKind} {zs : List Int} (h : ∀ i, i < zs.length → W.cell? ⟨g, i, none⟩ = some (.int k (zs.getD i 0))) : VR F W (Ghost.mt (allFz W)) (.fptr (zs.map (.int k))) (.pointer (some ⟨g, 0, none⟩)) := by
  refine .fptr _ g 0 (fun j => .int k (zs.getD j 0)) (fun j c hj => ?_) fun j c hj => ?_
  · have hl : j < zs.length := by simpa using (List.getElem?_eq_some_iff.1 hj).1
    rw [Nat.zero_add]
    exact ⟨⟨_, h j hl⟩, h j hl⟩
  · have hl : j < zs.length := by simpa using (List.getElem?_eq_some_iff.1 hj).1
    have : c = .int k (zs.getD j 0) := by
      rw [List.getElem?_map, List.getElem?_eq_getElem hl] at hj
      simp only [Option.map_some, Option.some.injEq] at hj
      rw [← hj, List.getD_eq_getElem?_getD, List.getElem?_eq_getElem hl]; rfl
    rw [this]
    exact .int _ _

theorem VRs.two {F : FTab} {w : World} {G : Ghost} {c d : AV} {V U : Value} (h : VR F w G c V) (h' : VR F w G d U) : VRs F w G [c, d] #[V, U] := ⟨rfl, fun j c' V' hc hV => by
  rcases j with _ | _ | j
  · simp at hc hV; subst hc; subst hV; exact h
  · simp at hc hV; subst hc; subst hV; exact h'
  · simp at hc⟩
theorem VRs.three {F : FTab} {w : World} {G : Ghost} {c d e : AV} {V U X : Value} (h : VR F w G c V) (h' : VR F w G d U) (h'' : VR F w G e X) : VRs F w G [c, d, e] #[V, U, X] := ⟨rfl, fun j c' V' hc hV => by
  rcases j with _ | _ | _ | j
  · simp at hc hV; subst hc; subst hV; exact h
  · simp at hc hV; subst hc; subst hV; exact h'
  · simp at hc hV; subst hc; subst hV; exact h''
  · simp at hc⟩

theorem VR_string {F : FTab} {w : World} {G : Ghost} (b : ByteArray) : VR F w G (.str b.data.toList) (.string b) := by
  have h : (⟨b.data.toList.toArray⟩ : ByteArray) = b := by cases b; simp
  have := VR.str (F := F) (w := w) (G := G) b.data.toList
  rwa [h] at this

theorem asciiSpace_eq : asciiSpace = (Go.Lib.asciiSpaceTab.map (AV.int .u8)) := by kernel_rfl
end Rb

/- What comes in as data, as abstract values: typed readings. -/
set_option linter.unusedVariables false
set_option linter.unusedSimpArgs false
namespace Rb
open Go Go.RowKit

section
variable {H : Type} {enc : TypeId × Value → H} {P : Program} {w : World} {sp : Nat → Bool} {held : Bool} {F : FTab}

/-- A type's cells, read as data with so much fuel, are those of a typed value. -/
def Dec (F : FTab) (enc : TypeId × Value → H) (P : Program) (w : World) (sp : Nat → Bool) (held : Bool) (n : Nat) (t : TypeId) {α : Type} (cells : α → List AV) (ok : α → Prop) : Prop :=
  ∀ fuel, fuel ≤ n → ∀ cs d ps, DataW.trod enc P w 0 sp held fuel t cs = some (d, ps) → ∃ x, ok x ∧ VRs F w (Ghost.mt (allFz w)) (cells x) cs.toArray

theorem Dec.mono {n m : Nat} {t : TypeId} {α : Type} {cells : α → List AV} {ok : α → Prop} (h : Dec F enc P w sp held n t cells ok) (hm : m ≤ n) : Dec F enc P w sp held m t cells ok :=
  fun fuel hf cs d ps ht => h fuel (Nat.le_trans hf hm) cs d ps ht

theorem Dec.zero {t : TypeId} {α : Type} {cells : α → List AV} {ok : α → Prop} : Dec F enc P w sp held 0 t cells ok := by
  intro fuel hf cs d ps h
  obtain rfl : fuel = 0 := by omega
  simp [DataW.trod] at h

theorem Dec.int {n : Nat} {t : TypeId} {k : IntKind} (ht : P.underlying t = some (.int k)) : Dec F enc P w sp held n t (fun z : Int => [.int k z]) (fun z => k.min ≤ z ∧ z ≤ k.max) := by
  intro fuel _ cs d ps h
  obtain ⟨z, rfl, _, hw⟩ := DataW.trod_int ht h
  exact ⟨z, by simpa [Lit.wf] using hw, VRs.one (.int _ _)⟩

theorem Dec.bool {n : Nat} {t : TypeId} (ht : P.underlying t = some .bool) : Dec F enc P w sp held n t (fun z : Bool => [.bool z]) (fun _ => True) := by
  intro fuel _ cs d ps h
  obtain ⟨z, rfl, _⟩ := DataW.trod_bool ht h
  exact ⟨z, trivial, VRs.one (.bool _)⟩

theorem Dec.string {n : Nat} {t : TypeId} (ht : P.underlying t = some .string) : Dec F enc P w sp held n t (fun z : List UInt8 => [.str z]) (fun z => z.length ≤ maxLen) := by
  intro fuel _ cs d ps h
  obtain ⟨s, rfl, _, hl⟩ := DataW.trod_string ht h
  exact ⟨s.data.toList, by simpa using hl, VRs.one (VR_string s)⟩

/-- A slice of such. -/
def lstA {α : Type} (cells : α → List AV) (xs : List α) : AV := .lst .dead xs.length (xs.flatMap cells)

theorem exists_list {α : Type} {p : Nat → α → Prop} : ∀ (n : Nat), (∀ i, i < n → ∃ x, p i x) → ∃ xs : List α, xs.length = n ∧ ∀ i x, xs[i]? = some x → p i x := by
  intro n
  induction n with
  | zero => intro _; exact ⟨[], rfl, fun i x h => by simp at h⟩
  | succ n ih =>
    intro h
    obtain ⟨xs, hl, hx⟩ := ih fun i hi => h i (by omega)
    obtain ⟨y, hy⟩ := h n (by omega)
    refine ⟨xs ++ [y], by simp [hl], fun i x hi => ?_⟩
    by_cases hlt : i < n
    · rw [List.getElem?_append_left (by omega)] at hi
      exact hx i x hi
    · rw [List.getElem?_append_right (by omega)] at hi
      have : i - xs.length = 0 := by
        rcases Nat.eq_zero_or_pos (i - xs.length) with h | h
        · exact h
        · rw [List.getElem?_eq_none (by simp; omega)] at hi; cases hi
      rw [this] at hi
      simp at hi
      subst hi
      have : i = n := by omega
      rw [this]; exact hy

theorem flat_get {α : Type} {cells : α → List AV} {sz : Nat} (hc : ∀ x, (cells x).length = sz) : ∀ (xs : List α) (j : Nat) (c : AV), (xs.flatMap cells)[j]? = some c → ∃ i k x, j = i * sz + k ∧ k < sz ∧ xs[i]? = some x ∧ (cells x)[k]? = some c := by
  intro xs
  induction xs with
  | nil => intro j c h; simp at h
  | cons y ys ih =>
    intro j c h
    rw [List.flatMap_cons] at h
    by_cases hj : j < sz
    · rw [List.getElem?_append_left (by rw [hc]; exact hj)] at h
      exact ⟨0, j, y, by omega, hj, rfl, h⟩
    · rw [List.getElem?_append_right (by rw [hc]; omega), hc] at h
      obtain ⟨i, k, x, h1, h2, h3, h4⟩ := ih _ _ h
      refine ⟨i + 1, k, x, ?_, h2, by simpa using h3, h4⟩
      rw [Nat.add_mul]; omega

theorem add_at {b o m : Nat} : (Addr.mk b o none).add m = ⟨b, o + m, none⟩ := by
  unfold Addr.add
  split
  · rename_i h; subst h; rfl
  · rfl

theorem Dec.slice {n : Nat} {t e : TypeId} {α : Type} {cells : α → List AV} {ok : α → Prop} (ht : P.underlying t = some (.slice e)) {sz : Nat} (hs : P.cellsOf e = sz) (hz : 0 < sz) (hc : ∀ x, (cells x).length = sz) (h : Dec F enc P w sp held n e cells ok) :
    Dec F enc P w sp held (n + 1) t (fun xs : List α => [lstA cells xs]) (fun xs => xs.length ≤ maxLen ∧ ∀ x ∈ xs, ok x) := by
  intro fuel hf cs d ps hd
  rcases DataW.trod_slice ht hd with ⟨rfl, _⟩ | ⟨a, len, cap, elems, rest, m, rfl, rfl, _, _, hle, hcap, hel, helems, _⟩
  · exact ⟨[], ⟨Nat.zero_le _, by simp⟩, VRs.one (.lst0 _ _)⟩
  · have each : ∀ i, i < len → ∃ x, ok x ∧ ∃ ci, w.cells? 0 (a.add (i * sz)) sz = some ci ∧ VRs F w (Ghost.mt (allFz w)) (cells x) ci.toArray := by
      intro i hi
      have h1 := helems i hi
      rw [List.getElem?_eq_getElem (by omega), hs] at h1
      obtain ⟨ci, h2, h3⟩ := Option.bind_eq_some_iff.1 h1
      obtain ⟨x, hx, hv⟩ := h m (by omega) ci _ _ h3
      exact ⟨x, hx, ci, h2, hv⟩
    obtain ⟨xs, hl, hx⟩ := exists_list len each
    refine ⟨xs, ⟨by omega, fun x hxm => ?_⟩, VRs.one ?_⟩
    · obtain ⟨i, hi, e⟩ := List.mem_iff_getElem.1 hxm
      exact (hx i x (by rw [List.getElem?_eq_getElem hi, e])).1
    · rcases Nat.eq_zero_or_pos len with h0 | h0
      · subst h0
        obtain rfl := List.length_eq_zero_iff.1 hl
        exact .lst0 _ _
      · -- the address is plain
        have hsp : a.spot = none := by
          obtain ⟨x, _, ci, h2, _⟩ := each 0 h0
          obtain ⟨_, h3, h4⟩ := World.cells?_some h2
          have h5 := h4 0 hz
          rw [List.getElem?_eq_getElem (by omega)] at h5
          rw [Nat.zero_mul] at h5
          have e0 : (a.add 0).add 0 = a := by simp [Addr.add]
          rw [e0] at h5
          unfold World.cell? at h5
          split at h5
          · split at h5
            · cases h5
            · rename_i hn; cases ha : a.spot with
              | none => rfl
              | some _ => rw [ha] at hn; simp at hn
          · cases h5
        obtain ⟨b, o, spt⟩ := a
        simp only at hsp
        subst hsp
        have key : ∀ (j : Nat) (c : AV), (xs.flatMap cells)[j]? = some c → ∃ V, w.cell? ⟨b, o + j, none⟩ = some V ∧ VR F w (Ghost.mt (allFz w)) c V := by
          intro j c hj
          obtain ⟨i, k, x, rfl, hk, hxi, hck⟩ := flat_get hc xs j c hj
          obtain ⟨_, ci, h2, hv⟩ := hx i x hxi
          obtain ⟨_, h3, h4⟩ := World.cells?_some h2
          have h5 := h4 k hk
          rw [add_at, add_at, List.getElem?_eq_getElem (by omega)] at h5
          refine ⟨ci[k], by rw [← Nat.add_assoc]; exact h5, hv.2 k c _ hck (by simp [List.getElem?_eq_getElem (show k < ci.length by omega)])⟩
        unfold lstA
        rw [hl]
        refine .lst .dead len _ b o cap (fun j => (w.cell? ⟨b, o + j, none⟩).getD undef) trivial hle (fun j c hj => ?_) fun j c hj => ?_
        · obtain ⟨V, h1, _⟩ := key j c hj
          exact ⟨⟨V, h1⟩, by rw [h1]; rfl⟩
        · obtain ⟨V, h1, h2⟩ := key j c hj
          rw [h1]; exact h2

/-! Structs: their fields, one behind the other -/
def chainB (P : Program) : Nat → List (TypeId × Nat) → Bool
  | _, [] => true
  | off, (t, o) :: r => o == off && chainB P (off + P.cellsOf t) r
def totC (P : Program) : List (TypeId × Nat) → Nat
  | [] => 0
  | (t, _) :: r => P.cellsOf t + totC P r

def DecL (F : FTab) (enc : TypeId × Value → H) (P : Program) (w : World) (sp : Nat → Bool) (held : Bool) (n : Nat) (L : List (TypeId × Nat)) {α : Type} (cells : α → List AV) (ok : α → Prop) : Prop :=
  ∀ m, m ≤ n → ∀ (off : Nat) (cs : List Value), chainB P off L = true → (∀ f ∈ L, ∃ y, DataW.trod enc P w 0 sp held m f.1 ((cs.drop f.2).take (P.cellsOf f.1)) = some y) →
    ∃ x, ok x ∧ VRs F w (Ghost.mt (allFz w)) (cells x) ((cs.drop off).take (totC P L)).toArray

theorem DecL.nil {n : Nat} : DecL F enc P w sp held n [] (fun _ : Unit => []) (fun _ => True) := by
  intro m _ off cs _ _
  exact ⟨(), trivial, by simp only [totC, List.take_zero]; exact VRs.nil⟩

theorem DecL.cons {n : Nat} {t : TypeId} {o : Nat} {L : List (TypeId × Nat)} {α β : Type} {c1 : α → List AV} {c2 : β → List AV} {o1 : α → Prop} {o2 : β → Prop} (h1 : Dec F enc P w sp held n t c1 o1) (h2 : DecL F enc P w sp held n L c2 o2) :
    DecL F enc P w sp held n ((t, o) :: L) (fun x : α × β => c1 x.1 ++ c2 x.2) (fun x => o1 x.1 ∧ o2 x.2) := by
  intro m hm off cs hch hf
  simp only [chainB, Bool.and_eq_true, beq_iff_eq] at hch
  obtain ⟨rfl, hch⟩ := hch
  obtain ⟨⟨d, ps⟩, hy⟩ := hf (t, o) (by simp)
  obtain ⟨x, hx, hv⟩ := h1 m hm _ _ _ hy
  obtain ⟨y, hy2, hv2⟩ := h2 m hm _ cs hch fun f hfm => hf f (by simp [hfm])
  refine ⟨(x, y), ⟨hx, hy2⟩, ?_⟩
  have e : ((cs.drop o).take (totC P ((t, o) :: L))) = (cs.drop o).take (P.cellsOf t) ++ (cs.drop (o + P.cellsOf t)).take (totC P L) := by
    simp only [totC]
    rw [List.take_add, List.drop_drop]
  rw [e]
  have := hv.app hv2
  simpa using this

theorem Dec.struct {n : Nat} {t : TypeId} {fs : Array Field} (ht : P.underlying t = some (.struct fs)) {L : List (TypeId × Nat)} (hL : fs.toList.map (fun f => (f.type, f.offset)) = L) (hch : chainB P 0 L = true) (htot : P.cellsOf t = totC P L)
    {α : Type} {cells : α → List AV} {ok : α → Prop} (h : DecL F enc P w sp held n L cells ok) : Dec F enc P w sp held (n + 1) t cells ok := by
  intro fuel hf cs d ps hd
  obtain ⟨xs, m, rfl, _, hlen, hxl, hfs⟩ := DataW.trod_struct ht hd
  obtain ⟨x, hx, hv⟩ := h m (by omega) 0 cs hch fun f hfm => by
    rw [← hL] at hfm
    obtain ⟨g, hg, rfl⟩ := List.mem_map.1 hfm
    obtain ⟨i, hi, e⟩ := List.mem_iff_getElem.1 hg
    have hi' : i < fs.size := by simpa using hi
    have h1 := hfs i g (by rw [Array.getElem?_eq_getElem hi']; congr 1)
    rw [List.getElem?_eq_getElem (by omega)] at h1
    exact ⟨_, h1⟩
  refine ⟨x, hx, ?_⟩
  rw [List.drop_zero, ← htot, ← hlen, List.take_length] at hv
  exact hv

/-- The same values, told otherwise. -/
theorem Dec.map {n : Nat} {t : TypeId} {α β : Type} {c1 : α → List AV} {c2 : β → List AV} {o1 : α → Prop} {o2 : β → Prop} (g : α → β) (hc : ∀ x, c2 (g x) = c1 x) (ho : ∀ x, o1 x → o2 (g x)) (h : Dec F enc P w sp held n t c1 o1) : Dec F enc P w sp held n t c2 o2 := by
  intro fuel hf cs d ps hd
  obtain ⟨x, hx, hv⟩ := h fuel hf cs d ps hd
  exact ⟨g x, ho x hx, by rw [hc]; exact hv⟩

/-- An argument of a law. -/
theorem Dec.arg {t : TypeId} {α : Type} {cells : α → List AV} {ok : α → Prop} (h : ∀ n, Dec F enc P w sp held n t cells ok) {v : Value} {d : DataW H} {ps : List MemPlace} (hd : DataW.Trod enc P w 0 sp held t v d ps) : ∃ x, ok x ∧ VRs F w (Ghost.mt (allFz w)) (cells x) v.cells := by
  obtain ⟨fuel, hf⟩ := hd
  obtain ⟨x, hx, hv⟩ := h fuel fuel (Nat.le_refl _) _ _ _ hf
  exact ⟨x, hx, by simpa using hv⟩
end
end Rb

/- The types of the api, as Lean's: types and their fields. -/
set_option linter.unusedVariables false
set_option linter.unusedSimpArgs false
namespace Rb
open Go
mutual
structure GType where
  kind : Int
  size : Int
  packed : Bool
  fields : List GField
  count : Int
  elem : List GType
structure GField where
  name : List UInt8
  type : GType
  bits : Bool
  width : Int
end
mutual
def GType.cells : GType → List AV
  | .mk kind size packed fields count elem => [.int .i64 kind, .int .i64 size, .bool packed, .lst .dead fields.length (GField.all fields), .int .i64 count, .lst .dead elem.length (GType.all elem)]
def GType.all : List GType → List AV
  | [] => []
  | x :: r => GType.cells x ++ GType.all r
def GField.cells : GField → List AV
  | .mk name type bits width => .str name :: (GType.cells type ++ [.bool bits, .int .i64 width])
def GField.all : List GField → List AV
  | [] => []
  | x :: r => GField.cells x ++ GField.all r
end
theorem GType.all_eq : ∀ xs : List GType, GType.all xs = xs.flatMap GType.cells
  | [] => rfl
  | x :: r => by rw [GType.all, GType.all_eq r, List.flatMap_cons]
theorem GField.all_eq : ∀ xs : List GField, GField.all xs = xs.flatMap GField.cells
  | [] => rfl
  | x :: r => by rw [GField.all, GField.all_eq r, List.flatMap_cons]
theorem GType.cells_eq (x : GType) : x.cells = [.int .i64 x.kind, .int .i64 x.size, .bool x.packed, lstA GField.cells x.fields, .int .i64 x.count, lstA GType.cells x.elem] := by
  cases x; simp only [GType.cells, GType.all_eq, GField.all_eq, lstA]
theorem GField.cells_eq (x : GField) : x.cells = .str x.name :: (x.type.cells ++ [.bool x.bits, .int .i64 x.width]) := by
  cases x; rfl
theorem GType.len (x : GType) : x.cells.length = 6 := by rw [GType.cells_eq]; rfl
theorem GField.len (x : GField) : x.cells.length = 9 := by rw [GField.cells_eq]; simp [GType.len]

def i64ok (z : Int) : Prop := -9223372036854775808 ≤ z ∧ z ≤ 9223372036854775807
mutual
/-- Numbers are such as the machine holds, lists not too long. -/
def GType.ok : GType → Prop
  | .mk kind size packed fields count elem => i64ok kind ∧ i64ok size ∧ fields.length ≤ maxLen ∧ GField.oks fields ∧ i64ok count ∧ elem.length ≤ maxLen ∧ GType.oks elem
def GType.oks : List GType → Prop
  | [] => True
  | x :: r => GType.ok x ∧ GType.oks r
def GField.ok : GField → Prop
  | .mk name type bits width => name.length ≤ maxLen ∧ GType.ok type ∧ i64ok width
def GField.oks : List GField → Prop
  | [] => True
  | x :: r => GField.ok x ∧ GField.oks r
end
theorem GType.oks_iff : ∀ {xs : List GType}, GType.oks xs ↔ ∀ x ∈ xs, x.ok
  | [] => by simp [GType.oks]
  | x :: r => by simp [GType.oks, GType.oks_iff (xs := r)]
theorem GField.oks_iff : ∀ {xs : List GField}, GField.oks xs ↔ ∀ x ∈ xs, x.ok
  | [] => by simp [GField.oks]
  | x :: r => by simp [GField.oks, GField.oks_iff (xs := r)]

section
variable {H : Type} {enc : TypeId × Value → H} {P : Program} {w : World} {sp : Nat → Bool} {held : Bool} {F : FTab}

/-- What a program must say of its types. -/
structure TyOK (P : Program) (ti tb ts tT tF sT sF : TypeId) (fT fF : Array Field) : Prop where
  int : P.underlying ti = some (.int .i64)
  bool : P.underlying tb = some .bool
  str : P.underlying ts = some .string
  typ : P.underlying tT = some (.struct fT)
  fld : P.underlying tF = some (.struct fF)
  slT : P.underlying sT = some (.slice tT)
  slF : P.underlying sF = some (.slice tF)
  lT : fT.toList.map (fun f => (f.type, f.offset)) = [(ti, 0), (ti, 1), (tb, 2), (sF, 3), (ti, 4), (sT, 5)]
  lF : fF.toList.map (fun f => (f.type, f.offset)) = [(ts, 0), (tT, 1), (tb, 7), (ti, 8)]
  cT : P.cellsOf tT = 6
  cF : P.cellsOf tF = 9
  c1 : ∀ t ∈ [ti, tb, ts, sT, sF], P.cellsOf t = 1

theorem Dec_type {ti tb ts tT tF sT sF : TypeId} {fT fF : Array Field} (h : TyOK P ti tb ts tT tF sT sF fT fF) : ∀ n, Dec F enc P w sp held n tT GType.cells GType.ok := by
  have c1 : P.cellsOf ti = 1 := h.c1 _ (by simp)
  have c2 : P.cellsOf tb = 1 := h.c1 _ (by simp)
  have c3 : P.cellsOf ts = 1 := h.c1 _ (by simp)
  have c4 : P.cellsOf sT = 1 := h.c1 _ (by simp)
  have c5 : P.cellsOf sF = 1 := h.c1 _ (by simp)
  have int : ∀ n, Dec F enc P w sp held n ti (fun z : Int => [.int .i64 z]) i64ok := fun n => Dec.map id (fun _ => rfl) (fun x hx => by
    simp only [IntKind.min, IntKind.max, IntKind.signed, IntKind.bits, if_true] at hx
    show -9223372036854775808 ≤ x ∧ x ≤ 9223372036854775807
    omega) (Dec.int h.int)
  intro n
  induction n using Nat.strongRecOn with
  | _ n ih =>
    cases n with
    | zero => exact Dec.zero
    | succ n =>
      have ihT : Dec F enc P w sp held n tT GType.cells GType.ok := ih n (by omega)
      have ihF : Dec F enc P w sp held n tF GField.cells GField.ok := by
        cases n with
        | zero => exact Dec.zero
        | succ n =>
          refine Dec.map (fun (x : List UInt8 × GType × Bool × Int × Unit) => (⟨x.1, x.2.1, x.2.2.1, x.2.2.2.1⟩ : GField)) (fun x => ?_) (fun x hx => ?_)
            (Dec.struct h.fld h.lF (by simp [chainB, c1, c2, c3, h.cT]) (by simp [totC, c1, c2, c3, h.cT, h.cF])
              (DecL.cons (Dec.string h.str) (DecL.cons (ih n (by omega)) (DecL.cons (Dec.bool h.bool) (DecL.cons (int n) DecL.nil)))))
          · simp [GField.cells]
          · exact ⟨hx.1, hx.2.1, hx.2.2.2.1⟩
      refine Dec.map (fun (x : Int × Int × Bool × List GField × Int × List GType × Unit) => (⟨x.1, x.2.1, x.2.2.1, x.2.2.2.1, x.2.2.2.2.1, x.2.2.2.2.2.1⟩ : GType)) (fun x => ?_) (fun x hx => ?_)
        (Dec.struct h.typ h.lT (by simp [chainB, c1, c2, c4, c5]) (by simp [totC, c1, c2, c4, c5, h.cT])
          (DecL.cons (int n) (DecL.cons (int n) (DecL.cons (Dec.bool h.bool) (DecL.cons (Dec.mono (Dec.slice h.slF h.cF (by decide) GField.len ihF) (Nat.le_succ n)) (DecL.cons (int n) (DecL.cons (Dec.mono (Dec.slice h.slT h.cT (by decide) GType.len ihT) (Nat.le_succ n)) DecL.nil)))))))
      · rw [GType.cells_eq]; rfl
      · obtain ⟨h1, h2, _, ⟨h3, h4⟩, h5, ⟨h6, h7⟩, _⟩ := hx
        exact ⟨h1, h2, h3, GField.oks_iff.2 h4, h5, h6, GType.oks_iff.2 h7⟩
end
end Rb

/- The types of the api, as Lean's: expressions, places, variables. -/
set_option linter.unusedVariables false
set_option linter.unusedSimpArgs false
namespace Rb
open Go
mutual
structure GExpr where
  kind : Int
  n : Int
  name : List UInt8
  op : Int
  order : Int
  place : GPlace
  kids : List GExpr
structure GPlace where
  var : List UInt8
  parts : List GPart
structure GPart where
  field : List UInt8
  index : List GExpr
end
mutual
def GExpr.cells : GExpr → List AV
  | .mk kind n name op order place kids => .int .i64 kind :: .int .u64 n :: .str name :: .int .i64 op :: .int .i64 order :: (GPlace.cells place ++ [.lst .dead kids.length (GExpr.all kids)])
def GExpr.all : List GExpr → List AV
  | [] => []
  | x :: r => GExpr.cells x ++ GExpr.all r
def GPlace.cells : GPlace → List AV
  | .mk var parts => [.str var, .lst .dead parts.length (GPart.all parts)]
def GPart.cells : GPart → List AV
  | .mk field index => [.str field, .lst .dead index.length (GExpr.all index)]
def GPart.all : List GPart → List AV
  | [] => []
  | x :: r => GPart.cells x ++ GPart.all r
end
theorem GExpr.all_eq : ∀ xs : List GExpr, GExpr.all xs = xs.flatMap GExpr.cells
  | [] => rfl
  | x :: r => by rw [GExpr.all, GExpr.all_eq r, List.flatMap_cons]
theorem GPart.all_eq : ∀ xs : List GPart, GPart.all xs = xs.flatMap GPart.cells
  | [] => rfl
  | x :: r => by rw [GPart.all, GPart.all_eq r, List.flatMap_cons]
theorem GPlace.cells_eq (x : GPlace) : x.cells = [.str x.var, lstA GPart.cells x.parts] := by
  cases x; simp only [GPlace.cells, GPart.all_eq, lstA]
theorem GPart.cells_eq (x : GPart) : x.cells = [.str x.field, lstA GExpr.cells x.index] := by
  cases x; simp only [GPart.cells, GExpr.all_eq, lstA]
theorem GExpr.cells_eq (x : GExpr) : x.cells = .int .i64 x.kind :: .int .u64 x.n :: .str x.name :: .int .i64 x.op :: .int .i64 x.order :: (x.place.cells ++ [lstA GExpr.cells x.kids]) := by
  cases x; simp only [GExpr.cells, GExpr.all_eq, lstA]
theorem GPlace.len (x : GPlace) : x.cells.length = 2 := by rw [GPlace.cells_eq]; rfl
theorem GPart.len (x : GPart) : x.cells.length = 2 := by rw [GPart.cells_eq]; rfl
theorem GExpr.len (x : GExpr) : x.cells.length = 8 := by rw [GExpr.cells_eq]; simp [GPlace.len]

def u64ok (z : Int) : Prop := 0 ≤ z ∧ z ≤ 18446744073709551615
mutual
def GExpr.ok : GExpr → Prop
  | .mk kind n name op order place kids => i64ok kind ∧ u64ok n ∧ name.length ≤ maxLen ∧ i64ok op ∧ i64ok order ∧ GPlace.ok place ∧ kids.length ≤ maxLen ∧ GExpr.oks kids
def GExpr.oks : List GExpr → Prop
  | [] => True
  | x :: r => GExpr.ok x ∧ GExpr.oks r
def GPlace.ok : GPlace → Prop
  | .mk var parts => var.length ≤ maxLen ∧ parts.length ≤ maxLen ∧ GPart.oks parts
def GPart.ok : GPart → Prop
  | .mk field index => field.length ≤ maxLen ∧ index.length ≤ maxLen ∧ GExpr.oks index
def GPart.oks : List GPart → Prop
  | [] => True
  | x :: r => GPart.ok x ∧ GPart.oks r
end
theorem GExpr.oks_iff : ∀ {xs : List GExpr}, GExpr.oks xs ↔ ∀ x ∈ xs, x.ok
  | [] => by simp [GExpr.oks]
  | x :: r => by simp [GExpr.oks, GExpr.oks_iff (xs := r)]
theorem GPart.oks_iff : ∀ {xs : List GPart}, GPart.oks xs ↔ ∀ x ∈ xs, x.ok
  | [] => by simp [GPart.oks]
  | x :: r => by simp [GPart.oks, GPart.oks_iff (xs := r)]

structure GVar where
  name : List UInt8
  type : GType
def GVar.cells (x : GVar) : List AV := .str x.name :: x.type.cells
theorem GVar.len (x : GVar) : x.cells.length = 7 := by simp [GVar.cells, GType.len]
def GVar.ok (x : GVar) : Prop := x.name.length ≤ maxLen ∧ x.type.ok

section
variable {H : Type} {enc : TypeId × Value → H} {P : Program} {w : World} {sp : Nat → Bool} {held : Bool} {F : FTab}

theorem Dec.i64 {n : Nat} {ti : TypeId} (h : P.underlying ti = some (.int .i64)) : Dec F enc P w sp held n ti (fun z : Int => [.int .i64 z]) i64ok := Dec.map id (fun _ => rfl) (fun x hx => by
    simp only [IntKind.min, IntKind.max, IntKind.signed, IntKind.bits, if_true] at hx
    show -9223372036854775808 ≤ x ∧ x ≤ 9223372036854775807
    omega) (Dec.int h)
theorem Dec.u64 {n : Nat} {ti : TypeId} (h : P.underlying ti = some (.int .u64)) : Dec F enc P w sp held n ti (fun z : Int => [.int .u64 z]) u64ok := Dec.map id (fun _ => rfl) (fun x hx => by
    simp [IntKind.min, IntKind.max, IntKind.signed, IntKind.bits] at hx
    show 0 ≤ x ∧ x ≤ 18446744073709551615
    omega) (Dec.int h)

structure ExOK (P : Program) (ti tu ts tE tL tR sE sR : TypeId) (fE fL fR : Array Field) : Prop where
  int : P.underlying ti = some (.int .i64)
  u64 : P.underlying tu = some (.int .u64)
  str : P.underlying ts = some .string
  exp : P.underlying tE = some (.struct fE)
  pla : P.underlying tL = some (.struct fL)
  par : P.underlying tR = some (.struct fR)
  slE : P.underlying sE = some (.slice tE)
  slR : P.underlying sR = some (.slice tR)
  lE : fE.toList.map (fun f => (f.type, f.offset)) = [(ti, 0), (tu, 1), (ts, 2), (ti, 3), (ti, 4), (tL, 5), (sE, 7)]
  lL : fL.toList.map (fun f => (f.type, f.offset)) = [(ts, 0), (sR, 1)]
  lR : fR.toList.map (fun f => (f.type, f.offset)) = [(ts, 0), (sE, 1)]
  cE : P.cellsOf tE = 8
  cL : P.cellsOf tL = 2
  cR : P.cellsOf tR = 2
  c1 : ∀ t ∈ [ti, tu, ts, sE, sR], P.cellsOf t = 1

theorem Dec_exprs {ti tu ts tE tL tR sE sR : TypeId} {fE fL fR : Array Field} (h : ExOK P ti tu ts tE tL tR sE sR fE fL fR) :
    ∀ n, Dec F enc P w sp held n tE GExpr.cells GExpr.ok ∧ Dec F enc P w sp held n tL GPlace.cells GPlace.ok ∧ Dec F enc P w sp held n tR GPart.cells GPart.ok := by
  have c1 : P.cellsOf ti = 1 := h.c1 _ (by simp)
  have c2 : P.cellsOf tu = 1 := h.c1 _ (by simp)
  have c3 : P.cellsOf ts = 1 := h.c1 _ (by simp)
  have c4 : P.cellsOf sE = 1 := h.c1 _ (by simp)
  have c5 : P.cellsOf sR = 1 := h.c1 _ (by simp)
  intro n
  induction n with
  | zero => exact ⟨Dec.zero, Dec.zero, Dec.zero⟩
  | succ n ih =>
    obtain ⟨iE, iL, iR⟩ := ih
    have kE := Dec.mono (Dec.slice h.slE h.cE (by decide) GExpr.len iE) (Nat.le_succ n)
    have kR := Dec.mono (Dec.slice h.slR h.cR (by decide) GPart.len iR) (Nat.le_succ n)
    refine ⟨?_, ?_, ?_⟩
    · refine Dec.map (fun (x : Int × Int × List UInt8 × Int × Int × GPlace × List GExpr × Unit) => (⟨x.1, x.2.1, x.2.2.1, x.2.2.2.1, x.2.2.2.2.1, x.2.2.2.2.2.1, x.2.2.2.2.2.2.1⟩ : GExpr)) (fun x => ?_) (fun x hx => ?_)
        (Dec.struct h.exp h.lE (by simp [chainB, c1, c2, c3, c4, h.cL]) (by simp [totC, c1, c2, c3, c4, h.cL, h.cE])
          (DecL.cons (Dec.i64 h.int) (DecL.cons (Dec.u64 h.u64) (DecL.cons (Dec.string h.str) (DecL.cons (Dec.i64 h.int) (DecL.cons (Dec.i64 h.int) (DecL.cons iL (DecL.cons kE DecL.nil))))))))
      · rw [GExpr.cells_eq]; simp
      · obtain ⟨h1, h2, h3, h4, h5, h6, ⟨h7, h8⟩, _⟩ := hx
        exact ⟨h1, h2, h3, h4, h5, h6, h7, GExpr.oks_iff.2 h8⟩
    · refine Dec.map (fun (x : List UInt8 × List GPart × Unit) => (⟨x.1, x.2.1⟩ : GPlace)) (fun x => ?_) (fun x hx => ?_)
        (Dec.struct h.pla h.lL (by simp [chainB, c3, c5]) (by simp [totC, c3, c5, h.cL]) (DecL.cons (Dec.string h.str) (DecL.cons kR DecL.nil)))
      · rw [GPlace.cells_eq]; rfl
      · obtain ⟨h1, ⟨h2, h3⟩, _⟩ := hx
        exact ⟨h1, h2, GPart.oks_iff.2 h3⟩
    · refine Dec.map (fun (x : List UInt8 × List GExpr × Unit) => (⟨x.1, x.2.1⟩ : GPart)) (fun x => ?_) (fun x hx => ?_)
        (Dec.struct h.par h.lR (by simp [chainB, c3, c4]) (by simp [totC, c3, c4, h.cR]) (DecL.cons (Dec.string h.str) (DecL.cons kE DecL.nil)))
      · rw [GPart.cells_eq]; rfl
      · obtain ⟨h1, ⟨h2, h3⟩, _⟩ := hx
        exact ⟨h1, h2, GExpr.oks_iff.2 h3⟩
end
end Rb

/- The types of the api, as Lean's: statements, programs. -/
set_option linter.unusedVariables false
set_option linter.unusedSimpArgs false
namespace Rb
open Go
structure GStmt where
  kind : Int
  line : Int
  name : List UInt8
  name2 : List UInt8
  order : Int
  place : GPlace
  exprs : List GExpr
  thn : List GStmt
  els : List GStmt
mutual
def GStmt.cells : GStmt → List AV
  | .mk kind line name name2 order place exprs thn els => .int .i64 kind :: .int .i64 line :: .str name :: .str name2 :: .int .i64 order :: (GPlace.cells place ++ [lstA GExpr.cells exprs, .lst .dead thn.length (GStmt.all thn), .lst .dead els.length (GStmt.all els)])
def GStmt.all : List GStmt → List AV
  | [] => []
  | x :: r => GStmt.cells x ++ GStmt.all r
end
theorem GStmt.all_eq : ∀ xs : List GStmt, GStmt.all xs = xs.flatMap GStmt.cells
  | [] => rfl
  | x :: r => by rw [GStmt.all, GStmt.all_eq r, List.flatMap_cons]
theorem GStmt.cells_eq (x : GStmt) : x.cells = .int .i64 x.kind :: .int .i64 x.line :: .str x.name :: .str x.name2 :: .int .i64 x.order :: (x.place.cells ++ [lstA GExpr.cells x.exprs, lstA GStmt.cells x.thn, lstA GStmt.cells x.els]) := by
  cases x; simp only [GStmt.cells, GStmt.all_eq, lstA]
theorem GStmt.len (x : GStmt) : x.cells.length = 10 := by rw [GStmt.cells_eq]; simp [GPlace.len]
mutual
def GStmt.ok : GStmt → Prop
  | .mk kind line name name2 order place exprs thn els => i64ok kind ∧ i64ok line ∧ name.length ≤ maxLen ∧ name2.length ≤ maxLen ∧ i64ok order ∧ GPlace.ok place ∧ exprs.length ≤ maxLen ∧ GExpr.oks exprs ∧ thn.length ≤ maxLen ∧ GStmt.oks thn ∧ els.length ≤ maxLen ∧ GStmt.oks els
def GStmt.oks : List GStmt → Prop
  | [] => True
  | x :: r => GStmt.ok x ∧ GStmt.oks r
end
theorem GStmt.oks_iff : ∀ {xs : List GStmt}, GStmt.oks xs ↔ ∀ x ∈ xs, x.ok
  | [] => by simp [GStmt.oks]
  | x :: r => by simp [GStmt.oks, GStmt.oks_iff (xs := r)]

structure GProg where
  vars : List GVar
  threads : List (List GStmt)
def thrCells (l : List GStmt) : List AV := [lstA GStmt.cells l]
def GProg.cells (x : GProg) : List AV := [lstA GVar.cells x.vars, lstA thrCells x.threads]
def GProg.ok (x : GProg) : Prop := (x.vars.length ≤ maxLen ∧ ∀ v ∈ x.vars, v.ok) ∧ x.threads.length ≤ maxLen ∧ ∀ t ∈ x.threads, t.length ≤ maxLen ∧ ∀ s ∈ t, s.ok

section
variable {H : Type} {enc : TypeId × Value → H} {P : Program} {w : World} {sp : Nat → Bool} {held : Bool} {F : FTab}

theorem Dec_var {ts tT tV : TypeId} {fV : Array Field} (hs : P.underlying ts = some .string) (c3 : P.cellsOf ts = 1) (cT : P.cellsOf tT = 6) (hT : ∀ n, Dec F enc P w sp held n tT GType.cells GType.ok)
    (hV : P.underlying tV = some (.struct fV)) (lV : fV.toList.map (fun f => (f.type, f.offset)) = [(ts, 0), (tT, 1)]) (cV : P.cellsOf tV = 7) : ∀ n, Dec F enc P w sp held n tV GVar.cells GVar.ok := by
  intro n
  refine Dec.mono (n := n + 1) ?_ (Nat.le_succ n)
  refine Dec.map (fun (x : List UInt8 × GType × Unit) => (⟨x.1, x.2.1⟩ : GVar)) (fun x => ?_) (fun x hx => ?_)
    (Dec.struct hV lV (by simp [chainB, c3]) (by simp [totC, c3, cT, cV]) (DecL.cons (Dec.string hs) (DecL.cons (hT n) DecL.nil)))
  · simp [GVar.cells]
  · exact ⟨hx.1, hx.2.1⟩

theorem Dec_stmt {ti tu ts tE tL tR sE sR tS sS : TypeId} {fE fL fR fS : Array Field} (h : ExOK P ti tu ts tE tL tR sE sR fE fL fR) (hS : P.underlying tS = some (.struct fS)) (slS : P.underlying sS = some (.slice tS))
    (lS : fS.toList.map (fun f => (f.type, f.offset)) = [(ti, 0), (ti, 1), (ts, 2), (ts, 3), (ti, 4), (tL, 5), (sE, 7), (sS, 8), (sS, 9)]) (cS : P.cellsOf tS = 10) (csS : P.cellsOf sS = 1) :
    ∀ n, Dec F enc P w sp held n tS GStmt.cells GStmt.ok := by
  have c1 : P.cellsOf ti = 1 := h.c1 _ (by simp)
  have c3 : P.cellsOf ts = 1 := h.c1 _ (by simp)
  have c4 : P.cellsOf sE = 1 := h.c1 _ (by simp)
  intro n
  induction n with
  | zero => exact Dec.zero
  | succ n ih =>
    have kE := Dec.mono (Dec.slice h.slE h.cE (by decide) GExpr.len (Dec_exprs (F := F) (enc := enc) (w := w) (sp := sp) (held := held) h n).1) (Nat.le_succ n)
    have kS := Dec.mono (Dec.slice slS cS (by decide) GStmt.len ih) (Nat.le_succ n)
    refine Dec.map (fun (x : Int × Int × List UInt8 × List UInt8 × Int × GPlace × List GExpr × List GStmt × List GStmt × Unit) => (⟨x.1, x.2.1, x.2.2.1, x.2.2.2.1, x.2.2.2.2.1, x.2.2.2.2.2.1, x.2.2.2.2.2.2.1, x.2.2.2.2.2.2.2.1, x.2.2.2.2.2.2.2.2.1⟩ : GStmt)) (fun x => ?_) (fun x hx => ?_)
      (Dec.struct hS lS (by simp [chainB, c1, c3, c4, csS, h.cL]) (by simp [totC, c1, c3, c4, csS, h.cL, cS])
        (DecL.cons (Dec.i64 h.int) (DecL.cons (Dec.i64 h.int) (DecL.cons (Dec.string h.str) (DecL.cons (Dec.string h.str) (DecL.cons (Dec.i64 h.int) (DecL.cons (Dec_exprs h n).2.1 (DecL.cons kE (DecL.cons kS (DecL.cons kS DecL.nil))))))))))
    · rw [GStmt.cells_eq]; simp
    · obtain ⟨h1, h2, h3, h4, h5, h6, ⟨h7, h8⟩, ⟨h9, h10⟩, ⟨h11, h12⟩, _⟩ := hx
      exact ⟨h1, h2, h3, h4, h5, h6, h7, GExpr.oks_iff.2 h8, h9, GStmt.oks_iff.2 h10, h11, GStmt.oks_iff.2 h12⟩

theorem Dec_prog {tV sV tS sS ssS tP : TypeId} {fP : Array Field} (hV : ∀ n, Dec F enc P w sp held n tV GVar.cells GVar.ok) (hS : ∀ n, Dec F enc P w sp held n tS GStmt.cells GStmt.ok)
    (slV : P.underlying sV = some (.slice tV)) (slS : P.underlying sS = some (.slice tS)) (slSS : P.underlying ssS = some (.slice sS)) (cV : P.cellsOf tV = 7) (cS : P.cellsOf tS = 10) (csS : P.cellsOf sS = 1) (csV : P.cellsOf sV = 1) (cssS : P.cellsOf ssS = 1)
    (hP : P.underlying tP = some (.struct fP)) (lP : fP.toList.map (fun f => (f.type, f.offset)) = [(sV, 0), (ssS, 1)]) (cP : P.cellsOf tP = 2) : ∀ n, Dec F enc P w sp held n tP GProg.cells GProg.ok := by
  intro n
  refine Dec.mono (n := n + 2 + 1) ?_ (by omega)
  have k1 : Dec F enc P w sp held (n + 2) sV (fun xs : List GVar => [lstA GVar.cells xs]) (fun xs => xs.length ≤ maxLen ∧ ∀ x ∈ xs, x.ok) := Dec.slice slV cV (by decide) GVar.len (hV (n + 1))
  have k2 : Dec F enc P w sp held (n + 1) sS thrCells (fun xs => xs.length ≤ maxLen ∧ ∀ x ∈ xs, x.ok) := Dec.slice slS cS (by decide) GStmt.len (hS n)
  have k3 : Dec F enc P w sp held (n + 2) ssS (fun xs : List (List GStmt) => [lstA thrCells xs]) (fun xs => xs.length ≤ maxLen ∧ ∀ x ∈ xs, x.length ≤ maxLen ∧ ∀ y ∈ x, y.ok) := Dec.slice slSS csS (by decide) (fun _ => rfl) k2
  refine Dec.map (fun (x : List GVar × List (List GStmt) × Unit) => (⟨x.1, x.2.1⟩ : GProg)) (fun x => ?_) (fun x hx => ?_)
    (Dec.struct hP lP (by simp [chainB, csV]) (by simp [totC, csV, cssS, cP]) (DecL.cons k1 (DecL.cons k3 DecL.nil)))
  · simp [GProg.cells]
  · exact ⟨hx.1, hx.2.1⟩
end
end Rb

/- Laws for reading what a function means, by simp. -/
set_option linter.unusedVariables false
namespace Rb
open Go

@[simp] theorem Do_of {α : Type} (a : α) (K : α → Prop) : Do (some a) K ↔ K a := ⟨fun ⟨b, h, k⟩ => by cases h; exact k, fun h => ⟨a, rfl, h⟩⟩
@[simp] theorem DoH_some (v : AV) (H : AH) (K : Post) : DoH (some (v, H)) K ↔ K v H := ⟨fun ⟨a, b, h, k⟩ => by cases h; exact k, fun h => ⟨v, H, rfl, h⟩⟩
@[simp] theorem Gd_true (b : Bool) (A B : Prop) : Gd (.bool b) true A B ↔ if b = true then A else B := Iff.rfl
@[simp] theorem Gd_false (b : Bool) (A B : Prop) : Gd (.bool b) false A B ↔ if b = false then A else B := Iff.rfl
@[simp] theorem JoinP_def (K : List AV → AH → Prop) (st : List AV) (H : AH) : JoinP K st H ↔ K st H := Iff.rfl
@[simp] theorem sl_zero (a : AV) (l : List AV) : sl (a :: l) 0 = a := rfl
@[simp] theorem sl_succ (a : AV) (l : List AV) (i : Nat) : sl (a :: l) (i + 1) = sl l i := rfl

section
variable (k : IntKind) (a b : Int)
@[simp] theorem abin_add : abin .add (.int k a) (.int k b) = some (.int k (k.wrap (a + b))) := by simp [abin, abinInt]
@[simp] theorem abin_sub : abin .sub (.int k a) (.int k b) = some (.int k (k.wrap (a - b))) := by simp [abin, abinInt]
@[simp] theorem abin_mul : abin .mul (.int k a) (.int k b) = some (.int k (k.wrap (a * b))) := by simp [abin, abinInt]
@[simp] theorem abin_eql : abin .eql (.int k a) (.int k b) = some (.bool (a == b)) := by simp [abin, abinInt]
@[simp] theorem abin_neq : abin .neq (.int k a) (.int k b) = some (.bool (a != b)) := by simp [abin, abinInt]
@[simp] theorem abin_lss : abin .lss (.int k a) (.int k b) = some (.bool (decide (a < b))) := by simp [abin, abinInt]
@[simp] theorem abin_leq : abin .leq (.int k a) (.int k b) = some (.bool (decide (a ≤ b))) := by simp [abin, abinInt]
@[simp] theorem abin_gtr : abin .gtr (.int k a) (.int k b) = some (.bool (decide (a > b))) := by simp [abin, abinInt]
@[simp] theorem abin_geq : abin .geq (.int k a) (.int k b) = some (.bool (decide (a ≥ b))) := by simp [abin, abinInt]
theorem abin_rem (h : b ≠ 0) : abin .rem (.int k a) (.int k b) = some (.int k (a.tmod b)) := by simp [abin, abinInt, h]
theorem abin_quo (h : b ≠ 0) : abin .quo (.int k a) (.int k b) = some (.int k (k.wrap (a.tdiv b))) := by simp [abin, abinInt, h]
@[simp] theorem abin_and : abin .and (.int k a) (.int k b) = some (.int k (k.wrap (BitVec.ofInt k.bits a &&& BitVec.ofInt k.bits b).toNat)) := by simp [abin, abinInt, bitsOp]
@[simp] theorem abin_or : abin .or (.int k a) (.int k b) = some (.int k (k.wrap (BitVec.ofInt k.bits a ||| BitVec.ofInt k.bits b).toNat)) := by simp [abin, abinInt, bitsOp]
@[simp] theorem abin_xor : abin .xor (.int k a) (.int k b) = some (.int k (k.wrap (BitVec.ofInt k.bits a ^^^ BitVec.ofInt k.bits b).toNat)) := by simp [abin, abinInt, bitsOp]
theorem abin_shr (k' : IntKind) (h : 0 ≤ b) : abin .shr (.int k a) (.int k' b) = some (.int k (a.fdiv (2 ^ (min b.toNat k.bits)))) := by simp [abin, abinInt, Int.not_lt.2 h]
theorem abin_shl (k' : IntKind) (h : 0 ≤ b) : abin .shl (.int k a) (.int k' b) = some (.int k (k.wrap (a * 2 ^ (min b.toNat k.bits)))) := by simp [abin, abinInt, Int.not_lt.2 h]
@[simp] theorem aconv_int (k' : IntKind) : aconv k' (.int k a) = some (.int k' (k'.wrap a)) := rfl
@[simp] theorem abeq_def (neg : Bool) (x y : Bool) : abeq neg (.bool x) (.bool y) = some (.bool (if neg then !(x == y) else x == y)) := rfl
@[simp] theorem aun_not (x : Bool) : aun .not (.bool x) = some (.bool !x) := rfl
end
@[simp] theorem alen_lst (tk : Tok) (n : Nat) (cs : List AV) : alen false (.lst tk n cs) = some (.int .i64 n) := rfl
@[simp] theorem alen_row (id o n sz : Nat) : alen false (.row id o n sz) = some (.int .i64 n) := rfl
@[simp] theorem alen_str (s : List UInt8) : alen true (.str s) = some (.int .i64 s.length) := rfl

end Rb

/- Memory that only grew; numbers. -/
set_option linter.unusedVariables false
namespace Rb
open Go

/-- What was there is as it was. -/
def AH.Ext (H H' : AH) : Prop := H.n ≤ H'.n ∧ ∀ i, i < H.n → H'.o i = H.o i
theorem AH.Ext.refl (H : AH) : AH.Ext H H := ⟨Nat.le_refl _, fun _ _ => rfl⟩
theorem AH.Ext.trans {a b c : AH} (h : AH.Ext a b) (k : AH.Ext b c) : AH.Ext a c := ⟨Nat.le_trans h.1 k.1, fun i hi => (k.2 i (Nat.lt_of_lt_of_le hi h.1)).trans (h.2 i hi)⟩
theorem AH.Ext.push (H : AH) (x : AObj) : AH.Ext H (H.push x) := ⟨Nat.le_succ _, fun i hi => if_neg (Nat.ne_of_lt hi)⟩
theorem AH.Ext.set {H H' : AH} (h : AH.Ext H H') {i : Nat} (hi : H.n ≤ i) (x : AObj) : AH.Ext H (H'.set i x) := ⟨h.1, fun j hj => by
  simp only [AH.set]; rw [if_neg (by omega)]; exact h.2 j hj⟩
@[simp] theorem AH.push_n (H : AH) (x : AObj) : (H.push x).n = H.n + 1 := rfl
@[simp] theorem AH.set_n (H : AH) (i : Nat) (x : AObj) : (H.set i x).n = H.n := rfl
theorem AH.push_self (H : AH) (x : AObj) : (H.push x).o H.n = x := if_pos rfl
theorem AH.push_ne (H : AH) (x : AObj) {i : Nat} (h : i ≠ H.n) : (H.push x).o i = H.o i := if_neg h
theorem AH.set_self (H : AH) (i : Nat) (x : AObj) : (H.set i x).o i = x := if_pos rfl
theorem AH.set_ne (H : AH) {i j : Nat} (x : AObj) (h : j ≠ i) : (H.set i x).o j = H.o j := if_neg h

theorem wrap_i64 {n : Int} (h1 : -9223372036854775808 ≤ n) (h2 : n ≤ 9223372036854775807) : IntKind.wrap .i64 n = n := by
  simp [IntKind.wrap, IntKind.signed, IntKind.bits]; omega
theorem wrap_u64 {n : Int} (h1 : 0 ≤ n) (h2 : n < 18446744073709551616) : IntKind.wrap .u64 n = n := by
  simp [IntKind.wrap, IntKind.signed, IntKind.bits]; omega
theorem wrap_u8 {n : Int} (h1 : 0 ≤ n) (h2 : n < 256) : IntKind.wrap .u8 n = n := by
  simp [IntKind.wrap, IntKind.signed, IntKind.bits]; omega
theorem wrap_u32 {n : Int} (h1 : 0 ≤ n) (h2 : n < 4294967296) : IntKind.wrap .u32 n = n := by
  simp [IntKind.wrap, IntKind.signed, IntKind.bits]; omega

/-- A list that grows at its end, and that nobody else holds. -/
def Lst (H0 H : AH) (sz : Nat) (x : AV) (len : Nat) (cells : List AV) : Prop :=
  AH.Ext H0 H ∧ ∃ tk, x = .lst tk len cells ∧ cells.length = len * sz ∧ ((tk = .nil ∧ len = 0) ∨ ∃ t, tk = .own t ∧ H0.n ≤ t ∧ t < H.n ∧ H.o t = .tok (len * sz) sz)

theorem Lst.nil (H : AH) (sz : Nat) : Lst H H sz (.lst .nil 0 []) 0 [] := ⟨AH.Ext.refl H, .nil, rfl, by simp, .inl ⟨rfl, rfl⟩⟩

theorem Lst.append {H0 H : AH} {sz bytes len m : Nat} {x y : AV} {cells news : List AV} {K : Post} (h : Lst H0 H sz x len cells) (hy : acells H sz y = some (m, news)) (hn : news.length = m * sz) (hs : news.all AV.scalar = true) (hm : m ≠ 0)
    (hb : (len + m) * bytes ≤ 140737488355328) (hl : len + m ≤ 9223372036854775807) (hK : ∀ x' H', Lst H0 H' sz x' (len + m) (cells ++ news) → K x' H') : DoH (aappend H false sz bytes x y) K := by
  obtain ⟨hx, tk, rfl, hc, htk⟩ := h
  have hlen : (cells ++ news).length = (len + m) * sz := by simp [hc, hn, Nat.add_mul]
  rcases htk with ⟨rfl, rfl⟩ | ⟨t, rfl, h1, h2, h3⟩
  · refine ⟨.lst (.own H.n) (0 + m) (cells ++ news), H.push (.tok ((0 + m) * sz) sz), ?_, hK _ _ ⟨hx.trans (AH.Ext.push _ _), _, rfl, hlen, .inr ⟨H.n, rfl, hx.1, Nat.lt_succ_self _, AH.push_self _ _⟩⟩⟩
    simp only [aappend, hy, hs, not_true_eq_false, if_false, if_neg hm]
    rw [if_neg (by simp only [Decidable.not_not]; exact ⟨hc, hb, hl⟩)]
  · refine ⟨.lst (.own H.n) (len + m) (cells ++ news), (H.set t .gone).push (.tok ((len + m) * sz) sz), ?_, hK _ _ ⟨(hx.set h1 _).trans (AH.Ext.push _ _), _, rfl, hlen, .inr ⟨H.n, rfl, hx.1, Nat.lt_succ_self _, AH.push_self _ _⟩⟩⟩
    simp only [aappend, hy, hs, not_true_eq_false, if_false, if_neg hm]
    rw [if_neg (by simp only [Decidable.not_not]; exact ⟨hc, hb, hl⟩)]
    simp [h3]

/-- What stands at a place. -/
def At (H : AH) (id : Nat) (x : AObj) : Prop := id < H.n ∧ H.o id = x
theorem At.new (H : AH) (x : AObj) : At (H.push x) H.n x := ⟨Nat.lt_succ_self _, AH.push_self H x⟩
theorem At.ext {H H' : AH} {id : Nat} {x : AObj} (h : At H id x) (hE : AH.Ext H H') : At H' id x := ⟨Nat.lt_of_lt_of_le h.1 hE.1, (hE.2 id h.1).trans h.2⟩
theorem At.push {H : AH} {id : Nat} {x : AObj} (h : At H id x) (y : AObj) : At (H.push y) id x := h.ext (AH.Ext.push H y)
theorem At.set_ne {H : AH} {id i : Nat} {x : AObj} (h : At H id x) (hne : id ≠ i) (y : AObj) : At (H.set i y) id x := ⟨h.1, (AH.set_ne H y hne).trans h.2⟩
theorem At.set {H : AH} {id : Nat} {x : AObj} (h : At H id x) (y : AObj) : At (H.set id y) id y := ⟨h.1, AH.set_self H id y⟩
theorem At.ne {H : AH} {id i : Nat} {x y : AObj} (h : At H id x) (k : At H i y) (hxy : x ≠ y) : id ≠ i := fun e => hxy (by rw [← h.2, ← k.2, e])
theorem At.lt_new {H : AH} {id : Nat} {x : AObj} (h : At H id x) : id ≠ H.n := Nat.ne_of_lt h.1

theorem At.load {H : AH} {id : Nat} {cs : List AV} (h : At H id (.row cs)) (n o : Nat) (agg : Bool) : aload H n agg (.ptr id o) = takeCells cs o n agg := by simp [aload, h.2]
theorem At.store {H : AH} {id : Nat} {cs : List AV} (h : At H id (.row cs)) (n o : Nat) (v : AV) : astore H n (.ptr id o) v = if v.known ∧ v.cells.length = n ∧ v.cells.all AV.scalar ∧ o + n ≤ cs.length then some (H.set id (.row (setCells cs o v.cells))) else none := by simp [astore, h.2]

end Rb

/- More laws for reading. -/
set_option linter.unusedVariables false
namespace Rb
open Go
@[simp] theorem Gd3_true (b : Bool) (A B C : Prop) : Gd3 (.bool b) true A B C ↔ if b = true then A else B := Iff.rfl
@[simp] theorem Gd3_false (b : Bool) (A B C : Prop) : Gd3 (.bool b) false A B C ↔ if b = false then A else B := Iff.rfl
@[simp] theorem Gd3_tup (want : Bool) (A B C : Prop) : Gd3 (.tup []) want A B C ↔ C := Iff.rfl
theorem ite_both {c : Prop} [Decidable c] {A B : Prop} (h1 : c → A) (h2 : ¬ c → B) : if c then A else B := by
  split
  · exact h1 ‹_›
  · exact h2 ‹_›
theorem drop_nil_le {α : Type} {xs : List α} {i : Nat} (h : xs.drop i = []) : xs.length ≤ i := by simpa using h
theorem drop_cons_lt {α : Type} {xs ys : List α} {i : Nat} {y : α} (h : xs.drop i = y :: ys) : i < xs.length ∧ xs[i]? = some y ∧ xs.drop (i + 1) = ys := by
  have hlt : i < xs.length := by
    rcases Nat.lt_or_ge i xs.length with h' | h'
    · exact h'
    · rw [List.drop_eq_nil_of_le h'] at h; cases h
  refine ⟨hlt, ?_, ?_⟩
  · have := congrArg (fun l => l[0]?) h
    simpa using this
  · have := congrArg List.tail h
    simpa using this
end Rb

/- Slices of typed values: reading an element; slices.IndexFunc. -/
set_option linter.unusedVariables false
set_option linter.unusedSimpArgs false
namespace Rb
open Go

section
variable {α : Type} {cells : α → List AV} {sz : Nat}

theorem flatMap_drop (hc : ∀ x, (cells x).length = sz) : ∀ (xs : List α) (i : Nat), (xs.flatMap cells).drop (i * sz) = (xs.drop i).flatMap cells := by
  intro xs i
  induction i generalizing xs with
  | zero => simp
  | succ i ih =>
    cases xs with
    | nil => simp
    | cons x xs =>
      rw [List.flatMap_cons, List.drop_succ_cons, ← ih]
      rw [show (i + 1) * sz = (cells x).length + i * sz by rw [hc, Nat.add_mul, Nat.one_mul, Nat.add_comm], ← List.drop_drop, List.drop_left]

theorem flatMap_len (hc : ∀ x, (cells x).length = sz) (xs : List α) : (xs.flatMap cells).length = xs.length * sz := by
  induction xs with
  | nil => simp
  | cons x xs ih => rw [List.flatMap_cons, List.length_append, ih, hc, List.length_cons, Nat.add_mul]; omega

/-- The address of an element. -/
def elA (cells : α → List AV) (sz : Nat) (xs : List α) (i : Nat) : AV := .fptr ((xs.flatMap cells).drop (i * sz))

theorem lstA_addr {xs : List α} {i : Nat} (hi : i < xs.length) : aiaddr none sz (lstA cells xs) (.int .i64 i) = some (elA cells sz xs i) := by
  simp only [lstA, aiaddr]
  rw [if_pos ⟨by omega, by omega⟩]; rfl

theorem elA_load (hc : ∀ x, (cells x).length = sz) (hz : 0 < sz) (H : AH) {xs : List α} {i : Nat} {x : α} (hx : xs[i]? = some x) : aload H sz true (elA cells sz xs i) = some (.agg (cells x)) := by
  have hlt := (List.getElem?_eq_some_iff.1 hx).1
  have hd : xs.drop i = x :: xs.drop (i + 1) := by
    rw [List.drop_eq_getElem_cons hlt]
    rw [List.getElem?_eq_getElem hlt] at hx
    simp at hx
    rw [hx]
  show takeCells ((xs.flatMap cells).drop (i * sz)) 0 sz true = _
  rw [flatMap_drop hc, hd, List.flatMap_cons]
  unfold takeCells
  rw [if_pos (by rw [List.length_append, hc]; omega)]
  simp only [if_true, List.drop_zero]
  rw [List.take_append_of_le_length (by rw [hc]; omega), List.take_of_length_le (by rw [hc]; omega)]

def IndexFuncL (sz : Nat) (Φ : Calls') (a0 : AV) (a1 : AV) (x1 : AV) (Q : Post) : (List AV × AH) → ((List AV × AH) → Prop) → Prop := fun s2 L3 =>
  Do (abin .lss (sl s2.1 0) x1) fun x4 =>
  Gd x4 true (
  Do (aiaddr none sz a0 (sl s2.1 0)) fun x5 =>
  Do (aload s2.2 sz true x5) fun x6 =>
  ∃ k9 c10, a1 = .fn k9 c10 ∧ Φ k9 ([x6] ++ c10) s2.2 fun x7 H8 =>
  Gd x7 true (
  Q (sl s2.1 0) H8) (
  Do (abin .add (sl s2.1 0) (.int .i64 1)) fun x11 =>
  L3 ([x11], H8))) (
  Q (.int .i64 (-1)) s2.2)
def IndexFunc (sz : Nat) (Φ : Calls') (a0 : AV) (a1 : AV) (H : AH) (Q : Post) : Prop :=
  Do (alen false a0) fun x1 =>
  LoopP (IndexFuncL sz Φ a0 a1 x1 Q) ([(.int .i64 0)], H)

def idxI : Option Nat → Int
  | some i => i
  | none => -1

theorem IndexFunc_spec {Φ : Calls'} (hc : ∀ x, (cells x).length = sz) (hz : 0 < sz) {p : α → Bool} {key : Nat} {caps : List AV} {xs : List α} {H : AH} (hf : ∀ x ∈ xs, ∀ (R : Post), R (.bool (p x)) H → Φ key ([.agg (cells x)] ++ caps) H R) (hl : xs.length ≤ 9223372036854775807) {Q : Post}
    (hQ : Q (.int .i64 (idxI (xs.findIdx? p))) H) : IndexFunc sz Φ (lstA cells xs) (.fn key caps) H Q := by
  unfold IndexFunc
  have hlen : alen false (lstA cells xs) = some (.int .i64 xs.length) := rfl
  rw [hlen]
  simp only [Do_of]
  have main : ∀ (ys : List α) (i : Nat), xs.drop i = ys → Q (.int .i64 (idxI ((ys.findIdx? p).map (· + i)))) H → LoopP (IndexFuncL sz Φ (lstA cells xs) (.fn key caps) (.int .i64 xs.length) Q) ([.int .i64 i], H) := by
    intro ys
    induction ys with
    | nil =>
      intro i hi hq
      have hle := drop_nil_le hi
      refine LoopP.step ?_
      simp only [IndexFuncL, sl_zero, abin_lss, Do_of, Gd_true]
      rw [if_neg (by simp only [decide_eq_true_eq]; omega)]
      simpa [idxI] using hq
    | cons y ys ih =>
      intro i hi hq
      obtain ⟨hlt, hy, hd⟩ := drop_cons_lt hi
      refine LoopP.step ?_
      simp only [IndexFuncL, sl_zero, abin_lss, Do_of, Gd_true]
      rw [if_pos (by simp only [decide_eq_true_eq]; omega), lstA_addr hlt]
      simp only [Do_of]
      rw [elA_load hc hz H hy]
      simp only [Do_of]
      refine ⟨key, caps, rfl, hf y (List.mem_of_getElem? hy) _ ?_⟩
      simp only [Gd_true]
      rw [List.findIdx?_cons] at hq
      by_cases he : p y = true
      · rw [if_pos he]
        rw [if_pos he] at hq
        simpa [idxI] using hq
      · rw [if_neg he]
        rw [if_neg he] at hq
        simp only [abin_add, Do_of]
        rw [wrap_i64 (by omega) (by omega), show ((i : Int) + 1) = ((i + 1 : Nat) : Int) by simp]
        refine ih (i + 1) hd ?_
        have : (List.findIdx? p ys).map (· + (i + 1)) = ((List.findIdx? p ys).map (· + 1)).map (· + i) := by
          rw [Option.map_map]; congr 1; funext k; simp only [Function.comp]; omega
        rw [this]; exact hq
  refine main xs 0 rfl ?_
  simpa using hQ
end
end Rb

/- Typed values are frozen. -/
set_option linter.unusedVariables false
set_option linter.unusedSimpArgs false
namespace Rb
open Go

theorem frozs_app (a b : List AV) : AV.frozs (a ++ b) = (AV.frozs a && AV.frozs b) := by
  rw [frozs_all, frozs_all, frozs_all, List.all_append]

mutual
theorem GType.froz : ∀ x : GType, AV.frozs x.cells = true
  | .mk kind size packed fields count elem => by
    simp only [GType.cells, AV.frozs, AV.froz, Tok.free, GField.allFroz fields, GType.allFroz elem, Bool.and_self]
theorem GType.allFroz : ∀ xs : List GType, AV.frozs (GType.all xs) = true
  | [] => rfl
  | x :: r => by rw [GType.all, frozs_app, GType.froz x, GType.allFroz r]; rfl
theorem GField.froz : ∀ x : GField, AV.frozs x.cells = true
  | .mk name type bits width => by
    simp only [GField.cells, AV.frozs, AV.froz, frozs_app, GType.froz type, Bool.and_self]
theorem GField.allFroz : ∀ xs : List GField, AV.frozs (GField.all xs) = true
  | [] => rfl
  | x :: r => by rw [GField.all, frozs_app, GField.froz x, GField.allFroz r]; rfl
end
mutual
theorem GExpr.froz : ∀ x : GExpr, AV.frozs x.cells = true
  | .mk kind n name op order place kids => by
    simp only [GExpr.cells, AV.frozs, AV.froz, frozs_app, Tok.free, GPlace.froz place, GExpr.allFroz kids, Bool.and_self]
theorem GExpr.allFroz : ∀ xs : List GExpr, AV.frozs (GExpr.all xs) = true
  | [] => rfl
  | x :: r => by rw [GExpr.all, frozs_app, GExpr.froz x, GExpr.allFroz r]; rfl
theorem GPlace.froz : ∀ x : GPlace, AV.frozs x.cells = true
  | .mk var parts => by simp only [GPlace.cells, AV.frozs, AV.froz, Tok.free, GPart.allFroz parts, Bool.and_self]
theorem GPart.froz : ∀ x : GPart, AV.frozs x.cells = true
  | .mk field index => by simp only [GPart.cells, AV.frozs, AV.froz, Tok.free, GExpr.allFroz index, Bool.and_self]
theorem GPart.allFroz : ∀ xs : List GPart, AV.frozs (GPart.all xs) = true
  | [] => rfl
  | x :: r => by rw [GPart.all, frozs_app, GPart.froz x, GPart.allFroz r]; rfl
end
theorem lstA_froz {α : Type} {cells : α → List AV} (h : ∀ x, AV.frozs (cells x) = true) (xs : List α) : (lstA cells xs).froz = true := by
  have : AV.frozs (xs.flatMap cells) = true := by
    induction xs with
    | nil => rfl
    | cons x xs ih => rw [List.flatMap_cons, frozs_app, h, ih]; rfl
  simp only [lstA, AV.froz, Tok.free, this, Bool.and_self]
theorem GVar.froz (x : GVar) : AV.frozs x.cells = true := by simp only [GVar.cells, AV.frozs, AV.froz, GType.froz, Bool.and_self]
mutual
theorem GStmt.froz : ∀ x : GStmt, AV.frozs x.cells = true
  | .mk kind line name name2 order place exprs thn els => by
    simp only [GStmt.cells, AV.frozs, AV.froz, frozs_app, Tok.free, GPlace.froz place, lstA_froz GExpr.froz exprs, GStmt.allFroz thn, GStmt.allFroz els, Bool.and_self]
theorem GStmt.allFroz : ∀ xs : List GStmt, AV.frozs (GStmt.all xs) = true
  | [] => rfl
  | x :: r => by rw [GStmt.all, frozs_app, GStmt.froz x, GStmt.allFroz r]; rfl
end
theorem thr_froz (l : List GStmt) : AV.frozs (thrCells l) = true := by simp only [thrCells, AV.frozs, lstA_froz GStmt.froz, Bool.and_self]
theorem GProg.froz (x : GProg) : AV.frozs x.cells = true := by simp only [GProg.cells, AV.frozs, lstA_froz GVar.froz, lstA_froz thr_froz, Bool.and_self]
end Rb
