/- Proved: rabbetlaw11.CheckOrders returns true for every input, its arguments read afterwards as before. Conditions: those of the given card (the variables strings.asciiSpace and unicode.White_Space hold what the text of the program lays). -/
import Derived.Test.YtbdhmikigkgoiaaDoorRb4
import Derived.Test.YtbdhmikigkgoiaaDoorRb2
import Derived.KernelRfl
import Derived.Test.YtbdhmikigkgoiaaDoorRb3
import Derived.Test.YtbdhmikigkgoiaaDoorRows
import Derived.LaidLaws
import Derived.LaidHandle
import Derived.Lib.LaidU8
import Derived.Deep.DeepLaidRun
import Derived.Handed
import Derived.JoinedOf
import Derived.SevenTiedAt
import Derived.ProofKit
import Derived.Lib.Space
import Derived.Test.YtbdhmikigkgoiaaDoorTie
import Derived.Test.YtbdhmikigkgoiaaDoorCards
/- Package rabbetref06: its functions as runs. By gen.py. -/
set_option linter.unusedVariables false
namespace Rb.R
open Go

def rabbetref06_Same_k1 (Φ : CallsB) (n : Nat) (s88 : List AV × TH) (L89 : (List AV × TH) → Bool) (Q : PostB) : List AV → TH → Bool := fun j95 H96 =>
 DoB (abin .add (sl s88.1 0) (.int .i64 1)) fun x153 =>
 L89 ([x153], H96)
def rabbetref06_Same_k2 (Φ : CallsB) (n : Nat) (s88 : List AV × TH) (L89 : (List AV × TH) → Bool) (Q : PostB) : List AV → TH → Bool := fun j117 H118 =>
 GdB (sl j117 0) true (
 Q (.bool false) H118) (
 JoinB (rabbetref06_Same_k1 Φ n s88 L89 Q) [] H118)
def rabbetref06_Same_k3 (Φ : CallsB) (n : Nat) (x109 : AV) (x111 : AV) (s88 : List AV × TH) (L89 : (List AV × TH) → Bool) (Q : PostB) : List AV → TH → Bool := fun j135 H136 =>
 Gd3B (sl j135 0) false (
 DoB (afaddr 1 x109) fun x144 =>
 DoB (aload H136.ah 6 true x144) fun x145 =>
 DoB (afaddr 1 x111) fun x147 =>
 DoB (aload H136.ah 6 true x147) fun x148 =>
Φ K.rabbetref06_Same [x145, x148] H136 fun x150 H151 =>
 DoB (aun .not x150) fun x152 =>
 JoinB (rabbetref06_Same_k2 Φ n s88 L89 Q) [x152] H151) (
 JoinB (rabbetref06_Same_k2 Φ n s88 L89 Q) [(.bool true)] H136) (
 false)
def rabbetref06_Same_k4 (Φ : CallsB) (n : Nat) (x109 : AV) (x111 : AV) (s88 : List AV × TH) (L89 : (List AV × TH) → Bool) (Q : PostB) : List AV → TH → Bool := fun j119 H120 =>
 Gd3B (sl j119 0) false (
 DoB (afaddr 8 x109) fun x137 =>
 DoB (aload H120.ah 1 false x137) fun x138 =>
 DoB (afaddr 8 x111) fun x140 =>
 DoB (aload H120.ah 1 false x140) fun x141 =>
 DoB (abin .neq x138 x141) fun x143 =>
 JoinB (rabbetref06_Same_k3 Φ n x109 x111 s88 L89 Q) [x143] H120) (
 JoinB (rabbetref06_Same_k3 Φ n x109 x111 s88 L89 Q) [(.bool true)] H120) (
 false)
def rabbetref06_Same_l5 (Φ : CallsB) (n : Nat) (x1 : AV) (x3 : AV) (Q : PostB) : (List AV × TH) → ((List AV × TH) → Bool) → Bool := fun s88 L89 =>
 DoB (afaddr 3 x1) fun x90 =>
 DoB (aload s88.2.ah 1 false x90) fun x91 =>
 DoB (alen false x91) fun x93 =>
 DoB (abin .lss (sl s88.1 0) x93) fun x94 =>
 GdB x94 true (
 DoB (afaddr 3 x1) fun x97 =>
 DoB (aload s88.2.ah 1 false x97) fun x98 =>
 DoB (aiaddr none 9 x98 (sl s88.1 0)) fun x100 =>
 DoB (aload s88.2.ah 9 true x100) fun x101 =>
 DoB (afaddr 3 x3) fun x103 =>
 DoB (aload s88.2.ah 1 false x103) fun x104 =>
 DoB (aiaddr none 9 x104 (sl s88.1 0)) fun x106 =>
 DoB (aload s88.2.ah 9 true x106) fun x107 =>
 DoHB (some (tbox s88.2 true [.str [], .int .i64 0, .int .i64 0, .bool false, .lst .nil 0 [], .int .i64 0, .lst .nil 0 [], .bool false, .int .i64 0])) fun x109 H110 =>
 and (sameV (aload H110.ah 1 false x97) x98) (
 and (sameV (aload H110.ah 9 true x100) x101) (
 and (sameV (aload H110.ah 1 false x103) x104) (
 and (sameV (aload H110.ah 9 true x106) x107) (
 DoHB (some (tbox H110 true [.str [], .int .i64 0, .int .i64 0, .bool false, .lst .nil 0 [], .int .i64 0, .lst .nil 0 [], .bool false, .int .i64 0])) fun x111 H112 =>
 and (sameV (aload H112.ah 1 false x97) x98) (
 and (sameV (aload H112.ah 9 true x100) x101) (
 and (sameV (aload H112.ah 1 false x103) x104) (
 and (sameV (aload H112.ah 9 true x106) x107) (
 DoB (tstore H112 9 x109 x101) fun H114 =>
 and (sameV (aload H114.ah 1 false x103) x104) (
 and (sameV (aload H114.ah 9 true x106) x107) (
 DoB (tstore H114 9 x111 x107) fun H116 =>
 DoB (afaddr 0 x109) fun x121 =>
 DoB (aload H116.ah 1 false x121) fun x122 =>
 DoB (afaddr 0 x111) fun x124 =>
 DoB (aload H116.ah 1 false x124) fun x125 =>
 DoB (abin .neq x122 x125) fun x127 =>
 Gd3B x127 false (
 DoB (afaddr 7 x109) fun x128 =>
 DoB (aload H116.ah 1 false x128) fun x129 =>
 DoB (afaddr 7 x111) fun x131 =>
 DoB (aload H116.ah 1 false x131) fun x132 =>
 DoB (abeq true x129 x132) fun x134 =>
 JoinB (rabbetref06_Same_k4 Φ n x109 x111 s88 L89 Q) [x134] H116) (
 JoinB (rabbetref06_Same_k4 Φ n x109 x111 s88 L89 Q) [(.bool true)] H116) (
 false)))))))))))) (
 Q (.bool true) s88.2)
def rabbetref06_Same_k6 (Φ : CallsB) (n : Nat) (x1 : AV) (x3 : AV) (Q : PostB) : List AV → TH → Bool := fun j63 H64 =>
 LoopB (rabbetref06_Same_l5 Φ n x1 x3 Q) n ([(.int .i64 0)], H64)
def rabbetref06_Same_l7 (Φ : CallsB) (n : Nat) (x1 : AV) (x3 : AV) (Q : PostB) : (List AV × TH) → ((List AV × TH) → Bool) → Bool := fun s65 L66 =>
 DoB (afaddr 5 x1) fun x67 =>
 DoB (aload s65.2.ah 1 false x67) fun x68 =>
 DoB (alen false x68) fun x70 =>
 DoB (abin .lss (sl s65.1 0) x70) fun x71 =>
 GdB x71 true (
 DoB (afaddr 5 x1) fun x72 =>
 DoB (aload s65.2.ah 1 false x72) fun x73 =>
 DoB (aiaddr none 6 x73 (sl s65.1 0)) fun x75 =>
 DoB (aload s65.2.ah 6 true x75) fun x76 =>
 DoB (afaddr 5 x3) fun x78 =>
 DoB (aload s65.2.ah 1 false x78) fun x79 =>
 DoB (aiaddr none 6 x79 (sl s65.1 0)) fun x81 =>
 DoB (aload s65.2.ah 6 true x81) fun x82 =>
Φ K.rabbetref06_Same [x76, x82] s65.2 fun x84 H85 =>
 DoB (aun .not x84) fun x86 =>
 GdB x86 true (
 Q (.bool false) H85) (
 DoB (abin .add (sl s65.1 0) (.int .i64 1)) fun x87 =>
 L66 ([x87], H85))) (
 JoinB (rabbetref06_Same_k6 Φ n x1 x3 Q) [] s65.2)
def rabbetref06_Same_k8 (Φ : CallsB) (n : Nat) (x1 : AV) (x3 : AV) (Q : PostB) : List AV → TH → Bool := fun j5 H6 =>
 LoopB (rabbetref06_Same_l7 Φ n x1 x3 Q) n ([(.int .i64 0)], H6)
def rabbetref06_Same_k9 (Φ : CallsB) (n : Nat) (x1 : AV) (x3 : AV) (Q : PostB) : List AV → TH → Bool := fun j7 H8 =>
 GdB (sl j7 0) true (
 Q (.bool false) H8) (
 JoinB (rabbetref06_Same_k8 Φ n x1 x3 Q) [] H8)
def rabbetref06_Same_k10 (Φ : CallsB) (n : Nat) (x1 : AV) (x3 : AV) (Q : PostB) : List AV → TH → Bool := fun j43 H44 =>
 Gd3B (sl j43 0) false (
 DoB (afaddr 5 x1) fun x54 =>
 DoB (aload H44.ah 1 false x54) fun x55 =>
 DoB (alen false x55) fun x57 =>
 DoB (afaddr 5 x3) fun x58 =>
 DoB (aload H44.ah 1 false x58) fun x59 =>
 DoB (alen false x59) fun x61 =>
 DoB (abin .neq x57 x61) fun x62 =>
 JoinB (rabbetref06_Same_k9 Φ n x1 x3 Q) [x62] H44) (
 JoinB (rabbetref06_Same_k9 Φ n x1 x3 Q) [(.bool true)] H44) (
 false)
def rabbetref06_Same_k11 (Φ : CallsB) (n : Nat) (x1 : AV) (x3 : AV) (Q : PostB) : List AV → TH → Bool := fun j34 H35 =>
 Gd3B (sl j34 0) false (
 DoB (afaddr 3 x1) fun x45 =>
 DoB (aload H35.ah 1 false x45) fun x46 =>
 DoB (alen false x46) fun x48 =>
 DoB (afaddr 3 x3) fun x49 =>
 DoB (aload H35.ah 1 false x49) fun x50 =>
 DoB (alen false x50) fun x52 =>
 DoB (abin .neq x48 x52) fun x53 =>
 JoinB (rabbetref06_Same_k10 Φ n x1 x3 Q) [x53] H35) (
 JoinB (rabbetref06_Same_k10 Φ n x1 x3 Q) [(.bool true)] H35) (
 false)
def rabbetref06_Same_k12 (Φ : CallsB) (n : Nat) (x1 : AV) (x3 : AV) (Q : PostB) : List AV → TH → Bool := fun j25 H26 =>
 Gd3B (sl j25 0) false (
 DoB (afaddr 4 x1) fun x36 =>
 DoB (aload H26.ah 1 false x36) fun x37 =>
 DoB (afaddr 4 x3) fun x39 =>
 DoB (aload H26.ah 1 false x39) fun x40 =>
 DoB (abin .neq x37 x40) fun x42 =>
 JoinB (rabbetref06_Same_k11 Φ n x1 x3 Q) [x42] H26) (
 JoinB (rabbetref06_Same_k11 Φ n x1 x3 Q) [(.bool true)] H26) (
 false)
def rabbetref06_Same_k13 (Φ : CallsB) (n : Nat) (x1 : AV) (x3 : AV) (Q : PostB) : List AV → TH → Bool := fun j9 H10 =>
 Gd3B (sl j9 0) false (
 DoB (afaddr 2 x1) fun x27 =>
 DoB (aload H10.ah 1 false x27) fun x28 =>
 DoB (afaddr 2 x3) fun x30 =>
 DoB (aload H10.ah 1 false x30) fun x31 =>
 DoB (abeq true x28 x31) fun x33 =>
 JoinB (rabbetref06_Same_k12 Φ n x1 x3 Q) [x33] H10) (
 JoinB (rabbetref06_Same_k12 Φ n x1 x3 Q) [(.bool true)] H10) (
 false)
def rabbetref06_Same (Φ : CallsB) (n : Nat) (a0 : AV) (a1 : AV) (H : TH) (Q : PostB) : Bool :=
 DoHB (tboxv H false 6 a0) fun x1 H2 =>
 DoHB (tboxv H2 false 6 a1) fun x3 H4 =>
 DoB (afaddr 0 x1) fun x11 =>
 DoB (aload H4.ah 1 false x11) fun x12 =>
 DoB (afaddr 0 x3) fun x14 =>
 DoB (aload H4.ah 1 false x14) fun x15 =>
 DoB (abin .neq x12 x15) fun x17 =>
 Gd3B x17 false (
 DoB (afaddr 1 x1) fun x18 =>
 DoB (aload H4.ah 1 false x18) fun x19 =>
 DoB (afaddr 1 x3) fun x21 =>
 DoB (aload H4.ah 1 false x21) fun x22 =>
 DoB (abin .neq x19 x22) fun x24 =>
 JoinB (rabbetref06_Same_k13 Φ n x1 x3 Q) [x24] H4) (
 JoinB (rabbetref06_Same_k13 Φ n x1 x3 Q) [(.bool true)] H4) (
 false)
theorem eq_rabbetref06_Same (Φ : CallsB) (n : Nat) (a0 a1 : AV) (H : TH) (Q : PostB) : fnB1 Φ n S.ir_rabbetref06_Same [a0, a1] H Q = rabbetref06_Same Φ n a0 a1 H Q := by kernel_rfl

def rabbetref06_Sound (Φ : CallsB) (n : Nat) (a0 : AV) (H : TH) (Q : PostB) : Bool :=
 DoHB (tboxv H false 6 a0) fun x1 H2 =>
 DoB (aload H2.ah 6 true x1) fun x3 =>
Φ K.rabbetref06_Depth [x3, (.int .i64 65)] H2 fun x5 H6 =>
 DoB (abin .gtr x5 (.int .i64 64)) fun x7 =>
 GdB x7 true (
 Q (.int .i64 5) H6) (
 DoB (aload H6.ah 6 true x1) fun x8 =>
Φ K.rabbetref06_inner [x8] H6 fun x10 H11 =>
 Q x10 H11)
theorem eq_rabbetref06_Sound (Φ : CallsB) (n : Nat) (a0 : AV) (H : TH) (Q : PostB) : fnB1 Φ n S.ir_rabbetref06_Sound [a0] H Q = rabbetref06_Sound Φ n a0 H Q := by kernel_rfl

def rabbetref06_Depth_k1 (Φ : CallsB) (n : Nat) (s5 : List AV × TH) (L6 : (List AV × TH) → Bool) (Q : PostB) : List AV → TH → Bool := fun j17 H18 =>
 DoB (abin .add (sl s5.1 1) (.int .i64 1)) fun x30 =>
 L6 ([(sl j17 0), x30], H18)
def rabbetref06_Depth_k2 (Φ : CallsB) (n : Nat) (a1 : AV) (x1 : AV) (s5 : List AV × TH) (L6 : (List AV × TH) → Bool) (Q : PostB) : List AV → TH → Bool := fun j7 H8 =>
 DoB (afaddr 3 x1) fun x19 =>
 DoB (aload H8.ah 1 false x19) fun x20 =>
 DoB (aiaddr none 9 x20 (sl s5.1 1)) fun x22 =>
 DoB (afaddr 1 x22) fun x23 =>
 DoB (aload H8.ah 6 true x23) fun x24 =>
 DoB (abin .sub a1 (.int .i64 1)) fun x26 =>
Φ K.rabbetref06_Depth [x24, x26] H8 fun x27 H28 =>
 DoB (abin .gtr x27 (sl s5.1 0)) fun x29 =>
 GdB x29 true (
 JoinB (rabbetref06_Depth_k1 Φ n s5 L6 Q) [x27] H28) (
 JoinB (rabbetref06_Depth_k1 Φ n s5 L6 Q) [(sl s5.1 0)] H28)
def rabbetref06_Depth_k3 (Φ : CallsB) (n : Nat) (s33 : List AV × TH) (L34 : (List AV × TH) → Bool) (Q : PostB) : List AV → TH → Bool := fun j45 H46 =>
 DoB (abin .add (sl s33.1 1) (.int .i64 1)) fun x57 =>
 L34 ([(sl j45 0), x57], H46)
def rabbetref06_Depth_k4 (Φ : CallsB) (n : Nat) (a1 : AV) (x1 : AV) (s33 : List AV × TH) (L34 : (List AV × TH) → Bool) (Q : PostB) : List AV → TH → Bool := fun j35 H36 =>
 DoB (afaddr 5 x1) fun x47 =>
 DoB (aload H36.ah 1 false x47) fun x48 =>
 DoB (aiaddr none 6 x48 (sl s33.1 1)) fun x50 =>
 DoB (aload H36.ah 6 true x50) fun x51 =>
 DoB (abin .sub a1 (.int .i64 1)) fun x53 =>
Φ K.rabbetref06_Depth [x51, x53] H36 fun x54 H55 =>
 DoB (abin .gtr x54 (sl s33.1 0)) fun x56 =>
 GdB x56 true (
 JoinB (rabbetref06_Depth_k3 Φ n s33 L34 Q) [x54] H55) (
 JoinB (rabbetref06_Depth_k3 Φ n s33 L34 Q) [(sl s33.1 0)] H55)
def rabbetref06_Depth_k5 (Φ : CallsB) (n : Nat) (Q : PostB) : List AV → TH → Bool := fun j31 H32 =>
 DoB (abin .add (sl j31 0) (.int .i64 1)) fun x58 =>
 Q x58 H32
def rabbetref06_Depth_k6 (Φ : CallsB) (n : Nat) (a1 : AV) (x1 : AV) (s33 : List AV × TH) (L34 : (List AV × TH) → Bool) (Q : PostB) : List AV → TH → Bool := fun j37 H38 =>
 GdB (sl j37 0) true (
 JoinB (rabbetref06_Depth_k4 Φ n a1 x1 s33 L34 Q) [] H38) (
 JoinB (rabbetref06_Depth_k5 Φ n Q) [(sl s33.1 0)] H38)
def rabbetref06_Depth_l7 (Φ : CallsB) (n : Nat) (a1 : AV) (x1 : AV) (Q : PostB) : (List AV × TH) → ((List AV × TH) → Bool) → Bool := fun s33 L34 =>
 DoB (afaddr 5 x1) fun x39 =>
 DoB (aload s33.2.ah 1 false x39) fun x40 =>
 DoB (alen false x40) fun x42 =>
 DoB (abin .lss (sl s33.1 1) x42) fun x43 =>
 Gd3B x43 true (
 DoB (abin .gtr a1 (.int .i64 1)) fun x44 =>
 JoinB (rabbetref06_Depth_k6 Φ n a1 x1 s33 L34 Q) [x44] s33.2) (
 JoinB (rabbetref06_Depth_k6 Φ n a1 x1 s33 L34 Q) [(.bool false)] s33.2) (
 false)
def rabbetref06_Depth_k8 (Φ : CallsB) (n : Nat) (a1 : AV) (x1 : AV) (Q : PostB) : List AV → TH → Bool := fun j3 H4 =>
 LoopB (rabbetref06_Depth_l7 Φ n a1 x1 Q) n ([(sl j3 0), (.int .i64 0)], H4)
def rabbetref06_Depth_k9 (Φ : CallsB) (n : Nat) (a1 : AV) (x1 : AV) (s5 : List AV × TH) (L6 : (List AV × TH) → Bool) (Q : PostB) : List AV → TH → Bool := fun j9 H10 =>
 GdB (sl j9 0) true (
 JoinB (rabbetref06_Depth_k2 Φ n a1 x1 s5 L6 Q) [] H10) (
 JoinB (rabbetref06_Depth_k8 Φ n a1 x1 Q) [(sl s5.1 0)] H10)
def rabbetref06_Depth_l10 (Φ : CallsB) (n : Nat) (a1 : AV) (x1 : AV) (Q : PostB) : (List AV × TH) → ((List AV × TH) → Bool) → Bool := fun s5 L6 =>
 DoB (afaddr 3 x1) fun x11 =>
 DoB (aload s5.2.ah 1 false x11) fun x12 =>
 DoB (alen false x12) fun x14 =>
 DoB (abin .lss (sl s5.1 1) x14) fun x15 =>
 Gd3B x15 true (
 DoB (abin .gtr a1 (.int .i64 1)) fun x16 =>
 JoinB (rabbetref06_Depth_k9 Φ n a1 x1 s5 L6 Q) [x16] s5.2) (
 JoinB (rabbetref06_Depth_k9 Φ n a1 x1 s5 L6 Q) [(.bool false)] s5.2) (
 false)
def rabbetref06_Depth (Φ : CallsB) (n : Nat) (a0 : AV) (a1 : AV) (H : TH) (Q : PostB) : Bool :=
 DoHB (tboxv H false 6 a0) fun x1 H2 =>
 LoopB (rabbetref06_Depth_l10 Φ n a1 x1 Q) n ([(.int .i64 0), (.int .i64 0)], H2)
theorem eq_rabbetref06_Depth (Φ : CallsB) (n : Nat) (a0 a1 : AV) (H : TH) (Q : PostB) : fnB1 Φ n S.ir_rabbetref06_Depth [a0, a1] H Q = rabbetref06_Depth Φ n a0 a1 H Q := by kernel_rfl

def rabbetref06_inner_k1 (Φ : CallsB) (n : Nat) (Q : PostB) : List AV → TH → Bool := fun j34 H35 =>
 GdB (sl j34 0) true (
 Q (.int .i64 9) H35) (
 Q (.int .i64 0) H35)
def rabbetref06_inner_k2 (Φ : CallsB) (n : Nat) (x1 : AV) (Q : PostB) : List AV → TH → Bool := fun j36 H37 =>
 Gd3B (sl j36 0) false (
 DoB (afaddr 0 x1) fun x48 =>
 DoB (aload H37.ah 1 false x48) fun x49 =>
 DoB (abin .eql x49 (.int .i64 2)) fun x51 =>
 Gd3B x51 true (
 DoB (afaddr 1 x1) fun x52 =>
 DoB (aload H37.ah 1 false x52) fun x53 =>
Φ K.rabbetref06_size [x53, (.int .i64 16)] H37 fun x55 H56 =>
 DoB (aun .not x55) fun x57 =>
 JoinB (rabbetref06_inner_k1 Φ n Q) [x57] H56) (
 JoinB (rabbetref06_inner_k1 Φ n Q) [(.bool false)] H37) (
 false)) (
 JoinB (rabbetref06_inner_k1 Φ n Q) [(.bool true)] H37) (
 false)
def rabbetref06_inner_k3 (Φ : CallsB) (n : Nat) (x1 : AV) (Q : PostB) : List AV → TH → Bool := fun j9 H10 =>
 DoB (afaddr 0 x1) fun x38 =>
 DoB (aload H10.ah 1 false x38) fun x39 =>
 DoB (abin .eql x39 (.int .i64 1)) fun x41 =>
 Gd3B x41 true (
 DoB (afaddr 1 x1) fun x42 =>
 DoB (aload H10.ah 1 false x42) fun x43 =>
Φ K.rabbetref06_size [x43, (.int .i64 8)] H10 fun x45 H46 =>
 DoB (aun .not x45) fun x47 =>
 JoinB (rabbetref06_inner_k2 Φ n x1 Q) [x47] H46) (
 JoinB (rabbetref06_inner_k2 Φ n x1 Q) [(.bool false)] H10) (
 false)
def rabbetref06_inner_k4 (Φ : CallsB) (n : Nat) (x1 : AV) (Q : PostB) : List AV → TH → Bool := fun j11 H12 =>
 GdB (sl j11 0) true (
 Q (.int .i64 8) H12) (
 JoinB (rabbetref06_inner_k3 Φ n x1 Q) [] H12)
def rabbetref06_inner_k5 (Φ : CallsB) (n : Nat) (x1 : AV) (Q : PostB) : List AV → TH → Bool := fun j23 H24 =>
 Gd3B (sl j23 0) false (
 DoB (afaddr 5 x1) fun x29 =>
 DoB (aload H24.ah 1 false x29) fun x30 =>
 DoB (alen false x30) fun x32 =>
 DoB (abin .gtr x32 (.int .i64 0)) fun x33 =>
 JoinB (rabbetref06_inner_k4 Φ n x1 Q) [x33] H24) (
 JoinB (rabbetref06_inner_k4 Φ n x1 Q) [(.bool true)] H24) (
 false)
def rabbetref06_inner_k6 (Φ : CallsB) (n : Nat) (x1 : AV) (Q : PostB) : List AV → TH → Bool := fun j13 H14 =>
 Gd3B (sl j13 0) false (
 DoB (afaddr 4 x1) fun x25 =>
 DoB (aload H14.ah 1 false x25) fun x26 =>
 DoB (abin .neq x26 (.int .i64 0)) fun x28 =>
 JoinB (rabbetref06_inner_k5 Φ n x1 Q) [x28] H14) (
 JoinB (rabbetref06_inner_k5 Φ n x1 Q) [(.bool true)] H14) (
 false)
def rabbetref06_inner_k7 (Φ : CallsB) (n : Nat) (x1 : AV) (Q : PostB) : List AV → TH → Bool := fun j84 H85 =>
 DoB (afaddr 5 x1) fun x96 =>
 DoB (aload H85.ah 1 false x96) fun x97 =>
 DoB (aiaddr none 6 x97 (.int .i64 0)) fun x99 =>
 DoB (aload H85.ah 6 true x99) fun x100 =>
Φ K.rabbetref06_inner [x100] H85 fun x102 H103 =>
 Q x102 H103
def rabbetref06_inner_k8 (Φ : CallsB) (n : Nat) (x1 : AV) (Q : PostB) : List AV → TH → Bool := fun j86 H87 =>
 GdB (sl j86 0) true (
 Q (.int .i64 9) H87) (
 JoinB (rabbetref06_inner_k7 Φ n x1 Q) [] H87)
def rabbetref06_inner_k9 (Φ : CallsB) (n : Nat) (x1 : AV) (Q : PostB) : List AV → TH → Bool := fun j59 H60 =>
 DoB (afaddr 4 x1) fun x88 =>
 DoB (aload H60.ah 1 false x88) fun x89 =>
 DoB (abin .lss x89 (.int .i64 1)) fun x91 =>
 Gd3B x91 false (
 DoB (afaddr 4 x1) fun x92 =>
 DoB (aload H60.ah 1 false x92) fun x93 =>
 DoB (abin .gtr x93 (.int .i64 65536)) fun x95 =>
 JoinB (rabbetref06_inner_k8 Φ n x1 Q) [x95] H60) (
 JoinB (rabbetref06_inner_k8 Φ n x1 Q) [(.bool true)] H60) (
 false)
def rabbetref06_inner_k10 (Φ : CallsB) (n : Nat) (x1 : AV) (Q : PostB) : List AV → TH → Bool := fun j61 H62 =>
 GdB (sl j61 0) true (
 Q (.int .i64 8) H62) (
 JoinB (rabbetref06_inner_k9 Φ n x1 Q) [] H62)
def rabbetref06_inner_k11 (Φ : CallsB) (n : Nat) (x1 : AV) (Q : PostB) : List AV → TH → Bool := fun j73 H74 =>
 Gd3B (sl j73 0) false (
 DoB (afaddr 5 x1) fun x79 =>
 DoB (aload H74.ah 1 false x79) fun x80 =>
 DoB (alen false x80) fun x82 =>
 DoB (abin .neq x82 (.int .i64 1)) fun x83 =>
 JoinB (rabbetref06_inner_k10 Φ n x1 Q) [x83] H74) (
 JoinB (rabbetref06_inner_k10 Φ n x1 Q) [(.bool true)] H74) (
 false)
def rabbetref06_inner_k12 (Φ : CallsB) (n : Nat) (x1 : AV) (Q : PostB) : List AV → TH → Bool := fun j63 H64 =>
 Gd3B (sl j63 0) false (
 DoB (afaddr 1 x1) fun x75 =>
 DoB (aload H64.ah 1 false x75) fun x76 =>
 DoB (abin .neq x76 (.int .i64 0)) fun x78 =>
 JoinB (rabbetref06_inner_k11 Φ n x1 Q) [x78] H64) (
 JoinB (rabbetref06_inner_k11 Φ n x1 Q) [(.bool true)] H64) (
 false)
def rabbetref06_inner_k13 (Φ : CallsB) (n : Nat) (s179 : List AV × TH) (L180 : (List AV × TH) → Bool) (Q : PostB) : List AV → TH → Bool := fun j182 H183 =>
 DoB (abin .add (sl s179.1 0) (.int .i64 1)) fun x201 =>
 L180 ([x201], H183)
def rabbetref06_inner_k14 (Φ : CallsB) (n : Nat) (s179 : List AV × TH) (L180 : (List AV × TH) → Bool) (Q : PostB) : List AV → TH → Bool := fun j184 H185 =>
 GdB (sl j184 0) true (
 Q (.int .i64 7) H185) (
 JoinB (rabbetref06_inner_k13 Φ n s179 L180 Q) [] H185)
def rabbetref06_inner_k15 (Φ : CallsB) (n : Nat) (s140 : List AV × TH) (L141 : (List AV × TH) → Bool) (Q : PostB) : List AV → TH → Bool := fun j147 H148 =>
 DoB (abin .add (sl s140.1 0) (.int .i64 1)) fun x259 =>
 L141 ([x259], H148)
def rabbetref06_inner_k16 (Φ : CallsB) (n : Nat) (s140 : List AV × TH) (L141 : (List AV × TH) → Bool) (Q : PostB) : List AV → TH → Bool := fun j233 H234 =>
 GdB (sl j233 0) true (
 Q (.int .i64 9) H234) (
 JoinB (rabbetref06_inner_k15 Φ n s140 L141 Q) [] H234)
def rabbetref06_inner_k17 (Φ : CallsB) (n : Nat) (x155 : AV) (s140 : List AV × TH) (L141 : (List AV × TH) → Bool) (Q : PostB) : List AV → TH → Bool := fun j208 H209 =>
 DoB (afaddr 7 x155) fun x235 =>
 DoB (aload H209.ah 1 false x235) fun x236 =>
 Gd3B x236 true (
 DoB (afaddr 8 x155) fun x238 =>
 DoB (aload H209.ah 1 false x238) fun x239 =>
 DoB (abin .lss x239 (.int .i64 0)) fun x241 =>
 Gd3B x241 false (
 DoB (afaddr 8 x155) fun x242 =>
 DoB (aload H209.ah 1 false x242) fun x243 =>
 DoB (afaddr 1 x155) fun x245 =>
 DoB (afaddr 1 x245) fun x246 =>
 DoB (aload H209.ah 1 false x246) fun x247 =>
 DoB (abin .mul (.int .i64 8) x247) fun x249 =>
 DoB (abin .gtr x243 x249) fun x250 =>
 Gd3B x250 false (
 DoB (afaddr 8 x155) fun x251 =>
 DoB (aload H209.ah 1 false x251) fun x252 =>
 DoB (abin .eql x252 (.int .i64 0)) fun x254 =>
 Gd3B x254 true (
 DoB (afaddr 0 x155) fun x255 =>
 DoB (aload H209.ah 1 false x255) fun x256 =>
 DoB (abin .neq x256 (.str [])) fun x258 =>
 JoinB (rabbetref06_inner_k16 Φ n s140 L141 Q) [x258] H209) (
 JoinB (rabbetref06_inner_k16 Φ n s140 L141 Q) [(.bool false)] H209) (
 false)) (
 JoinB (rabbetref06_inner_k16 Φ n s140 L141 Q) [(.bool true)] H209) (
 false)) (
 JoinB (rabbetref06_inner_k16 Φ n s140 L141 Q) [(.bool true)] H209) (
 false)) (
 JoinB (rabbetref06_inner_k16 Φ n s140 L141 Q) [(.bool false)] H209) (
 false)
def rabbetref06_inner_k18 (Φ : CallsB) (n : Nat) (x155 : AV) (s140 : List AV × TH) (L141 : (List AV × TH) → Bool) (Q : PostB) : List AV → TH → Bool := fun j210 H211 =>
 GdB (sl j210 0) true (
 Q (.int .i64 8) H211) (
 JoinB (rabbetref06_inner_k17 Φ n x155 s140 L141 Q) [] H211)
def rabbetref06_inner_k19 (Φ : CallsB) (n : Nat) (x1 : AV) (x155 : AV) (s140 : List AV × TH) (L141 : (List AV × TH) → Bool) (Q : PostB) : List AV → TH → Bool := fun j212 H213 =>
 Gd3B (sl j212 0) false (
 DoB (afaddr 7 x155) fun x222 =>
 DoB (aload H213.ah 1 false x222) fun x223 =>
 Gd3B x223 true (
 DoB (afaddr 2 x1) fun x225 =>
 DoB (aload H213.ah 1 false x225) fun x226 =>
 Gd3B x226 false (
 DoB (afaddr 1 x155) fun x228 =>
 DoB (afaddr 0 x228) fun x229 =>
 DoB (aload H213.ah 1 false x229) fun x230 =>
 DoB (abin .neq x230 (.int .i64 1)) fun x232 =>
 JoinB (rabbetref06_inner_k18 Φ n x155 s140 L141 Q) [x232] H213) (
 JoinB (rabbetref06_inner_k18 Φ n x155 s140 L141 Q) [(.bool true)] H213) (
 false)) (
 JoinB (rabbetref06_inner_k18 Φ n x155 s140 L141 Q) [(.bool false)] H213) (
 false)) (
 JoinB (rabbetref06_inner_k18 Φ n x155 s140 L141 Q) [(.bool true)] H213) (
 false)
def rabbetref06_inner_k20 (Φ : CallsB) (n : Nat) (x1 : AV) (x155 : AV) (s140 : List AV × TH) (L141 : (List AV × TH) → Bool) (Q : PostB) : List AV → TH → Bool := fun j177 H178 =>
 DoB (afaddr 1 x155) fun x202 =>
 DoB (aload H178.ah 6 true x202) fun x203 =>
Φ K.rabbetref06_inner [x203] H178 fun x205 H206 =>
 DoB (abin .neq x205 (.int .i64 0)) fun x207 =>
 GdB x207 true (
 Q x205 H206) (
 DoB (afaddr 7 x155) fun x214 =>
 DoB (aload H206.ah 1 false x214) fun x215 =>
 DoB (aun .not x215) fun x217 =>
 Gd3B x217 true (
 DoB (afaddr 8 x155) fun x218 =>
 DoB (aload H206.ah 1 false x218) fun x219 =>
 DoB (abin .neq x219 (.int .i64 0)) fun x221 =>
 JoinB (rabbetref06_inner_k19 Φ n x1 x155 s140 L141 Q) [x221] H206) (
 JoinB (rabbetref06_inner_k19 Φ n x1 x155 s140 L141 Q) [(.bool false)] H206) (
 false))
def rabbetref06_inner_l21 (Φ : CallsB) (n : Nat) (x1 : AV) (x155 : AV) (s140 : List AV × TH) (L141 : (List AV × TH) → Bool) (Q : PostB) : (List AV × TH) → ((List AV × TH) → Bool) → Bool := fun s179 L180 =>
 DoB (abin .lss (sl s179.1 0) (sl s140.1 0)) fun x181 =>
 GdB x181 true (
 DoB (afaddr 0 x155) fun x186 =>
 DoB (aload s179.2.ah 1 false x186) fun x187 =>
 DoB (abin .neq x187 (.str [])) fun x189 =>
 Gd3B x189 true (
 DoB (afaddr 3 x1) fun x190 =>
 DoB (aload s179.2.ah 1 false x190) fun x191 =>
 DoB (aiaddr none 9 x191 (sl s179.1 0)) fun x193 =>
 DoB (afaddr 0 x193) fun x194 =>
 DoB (aload s179.2.ah 1 false x194) fun x195 =>
 DoB (afaddr 0 x155) fun x197 =>
 DoB (aload s179.2.ah 1 false x197) fun x198 =>
 DoB (abin .eql x195 x198) fun x200 =>
 JoinB (rabbetref06_inner_k14 Φ n s179 L180 Q) [x200] s179.2) (
 JoinB (rabbetref06_inner_k14 Φ n s179 L180 Q) [(.bool false)] s179.2) (
 false)) (
 JoinB (rabbetref06_inner_k20 Φ n x1 x155 s140 L141 Q) [] s179.2)
def rabbetref06_inner_k22 (Φ : CallsB) (n : Nat) (x1 : AV) (x155 : AV) (s140 : List AV × TH) (L141 : (List AV × TH) → Bool) (Q : PostB) : List AV → TH → Bool := fun j159 H160 =>
 LoopB (rabbetref06_inner_l21 Φ n x1 x155 s140 L141 Q) n ([(.int .i64 0)], H160)
def rabbetref06_inner_k23 (Φ : CallsB) (n : Nat) (x1 : AV) (x155 : AV) (s140 : List AV × TH) (L141 : (List AV × TH) → Bool) (Q : PostB) : List AV → TH → Bool := fun j161 H162 =>
 GdB (sl j161 0) true (
 Q (.int .i64 6) H162) (
 JoinB (rabbetref06_inner_k22 Φ n x1 x155 s140 L141 Q) [] H162)
def rabbetref06_inner_l24 (Φ : CallsB) (n : Nat) (x1 : AV) (Q : PostB) : (List AV × TH) → ((List AV × TH) → Bool) → Bool := fun s140 L141 =>
 DoB (afaddr 3 x1) fun x142 =>
 DoB (aload s140.2.ah 1 false x142) fun x143 =>
 DoB (alen false x143) fun x145 =>
 DoB (abin .lss (sl s140.1 0) x145) fun x146 =>
 GdB x146 true (
 DoB (afaddr 3 x1) fun x149 =>
 DoB (aload s140.2.ah 1 false x149) fun x150 =>
 DoB (aiaddr none 9 x150 (sl s140.1 0)) fun x152 =>
 DoB (aload s140.2.ah 9 true x152) fun x153 =>
 DoHB (some (tbox s140.2 true [.str [], .int .i64 0, .int .i64 0, .bool false, .lst .nil 0 [], .int .i64 0, .lst .nil 0 [], .bool false, .int .i64 0])) fun x155 H156 =>
 DoB (tstore H156 9 x155 x153) fun H158 =>
 DoB (afaddr 0 x155) fun x163 =>
 DoB (aload H158.ah 1 false x163) fun x164 =>
Φ K.rabbetref06_Name [x164] H158 fun x166 H167 =>
 DoB (aun .not x166) fun x168 =>
 Gd3B x168 true (
 DoB (afaddr 0 x155) fun x169 =>
 DoB (aload H167.ah 1 false x169) fun x170 =>
 DoB (abin .eql x170 (.str [])) fun x172 =>
 Gd3B x172 true (
 DoB (afaddr 7 x155) fun x173 =>
 DoB (aload H167.ah 1 false x173) fun x174 =>
 DoB (aun .not x174) fun x176 =>
 JoinB (rabbetref06_inner_k23 Φ n x1 x155 s140 L141 Q) [x176] H167) (
 DoB (aun .not (.bool false)) fun x260 =>
 JoinB (rabbetref06_inner_k23 Φ n x1 x155 s140 L141 Q) [x260] H167) (
 false)) (
 JoinB (rabbetref06_inner_k23 Φ n x1 x155 s140 L141 Q) [(.bool false)] H167) (
 false)) (
 Q (.int .i64 0) s140.2)
def rabbetref06_inner_k25 (Φ : CallsB) (n : Nat) (x1 : AV) (Q : PostB) : List AV → TH → Bool := fun j126 H127 =>
 LoopB (rabbetref06_inner_l24 Φ n x1 Q) n ([(.int .i64 0)], H127)
def rabbetref06_inner_k26 (Φ : CallsB) (n : Nat) (x1 : AV) (Q : PostB) : List AV → TH → Bool := fun j128 H129 =>
 GdB (sl j128 0) true (
 Q (.int .i64 12) H129) (
 JoinB (rabbetref06_inner_k25 Φ n x1 Q) [] H129)
def rabbetref06_inner_k27 (Φ : CallsB) (n : Nat) (x1 : AV) (Q : PostB) : List AV → TH → Bool := fun j107 H108 =>
 DoB (afaddr 3 x1) fun x130 =>
 DoB (aload H108.ah 1 false x130) fun x131 =>
 DoB (alen false x131) fun x133 =>
 DoB (abin .eql x133 (.int .i64 0)) fun x134 =>
 Gd3B x134 false (
 DoB (afaddr 3 x1) fun x135 =>
 DoB (aload H108.ah 1 false x135) fun x136 =>
 DoB (alen false x136) fun x138 =>
 DoB (abin .gtr x138 (.int .i64 32)) fun x139 =>
 JoinB (rabbetref06_inner_k26 Φ n x1 Q) [x139] H108) (
 JoinB (rabbetref06_inner_k26 Φ n x1 Q) [(.bool true)] H108) (
 false)
def rabbetref06_inner_k28 (Φ : CallsB) (n : Nat) (x1 : AV) (Q : PostB) : List AV → TH → Bool := fun j109 H110 =>
 GdB (sl j109 0) true (
 Q (.int .i64 8) H110) (
 JoinB (rabbetref06_inner_k27 Φ n x1 Q) [] H110)
def rabbetref06_inner_k29 (Φ : CallsB) (n : Nat) (x1 : AV) (Q : PostB) : List AV → TH → Bool := fun j111 H112 =>
 Gd3B (sl j111 0) false (
 DoB (afaddr 5 x1) fun x121 =>
 DoB (aload H112.ah 1 false x121) fun x122 =>
 DoB (alen false x122) fun x124 =>
 DoB (abin .gtr x124 (.int .i64 0)) fun x125 =>
 JoinB (rabbetref06_inner_k28 Φ n x1 Q) [x125] H112) (
 JoinB (rabbetref06_inner_k28 Φ n x1 Q) [(.bool true)] H112) (
 false)
def rabbetref06_inner_k30 (Φ : CallsB) (n : Nat) (x1 : AV) (Q : PostB) : List AV → TH → Bool := fun j104 H105 =>
 GdB (sl j104 0) true (
 DoB (afaddr 1 x1) fun x113 =>
 DoB (aload H105.ah 1 false x113) fun x114 =>
 DoB (abin .neq x114 (.int .i64 0)) fun x116 =>
 Gd3B x116 false (
 DoB (afaddr 4 x1) fun x117 =>
 DoB (aload H105.ah 1 false x117) fun x118 =>
 DoB (abin .neq x118 (.int .i64 0)) fun x120 =>
 JoinB (rabbetref06_inner_k29 Φ n x1 Q) [x120] H105) (
 JoinB (rabbetref06_inner_k29 Φ n x1 Q) [(.bool true)] H105) (
 false)) (
 Q (.int .i64 8) H105)
def rabbetref06_inner_k31 (Φ : CallsB) (n : Nat) (x1 : AV) (x4 : AV) (Q : PostB) : List AV → TH → Bool := fun j6 H7 =>
 GdB (sl j6 0) true (
 DoB (afaddr 2 x1) fun x15 =>
 DoB (aload H7.ah 1 false x15) fun x16 =>
 Gd3B x16 false (
 DoB (afaddr 3 x1) fun x18 =>
 DoB (aload H7.ah 1 false x18) fun x19 =>
 DoB (alen false x19) fun x21 =>
 DoB (abin .gtr x21 (.int .i64 0)) fun x22 =>
 JoinB (rabbetref06_inner_k6 Φ n x1 Q) [x22] H7) (
 JoinB (rabbetref06_inner_k6 Φ n x1 Q) [(.bool true)] H7) (
 false)) (
 DoB (abin .eql x4 (.int .i64 5)) fun x58 =>
 GdB x58 true (
 DoB (afaddr 2 x1) fun x65 =>
 DoB (aload H7.ah 1 false x65) fun x66 =>
 Gd3B x66 false (
 DoB (afaddr 3 x1) fun x68 =>
 DoB (aload H7.ah 1 false x68) fun x69 =>
 DoB (alen false x69) fun x71 =>
 DoB (abin .gtr x71 (.int .i64 0)) fun x72 =>
 JoinB (rabbetref06_inner_k12 Φ n x1 Q) [x72] H7) (
 JoinB (rabbetref06_inner_k12 Φ n x1 Q) [(.bool true)] H7) (
 false)) (
 DoB (abin .eql x4 (.int .i64 3)) fun x106 =>
 GdB x106 true (
 JoinB (rabbetref06_inner_k30 Φ n x1 Q) [x106] H7) (
 DoB (abin .eql x4 (.int .i64 4)) fun x261 =>
 JoinB (rabbetref06_inner_k30 Φ n x1 Q) [x261] H7)))
def rabbetref06_inner (Φ : CallsB) (n : Nat) (a0 : AV) (H : TH) (Q : PostB) : Bool :=
 DoHB (tboxv H false 6 a0) fun x1 H2 =>
 DoB (afaddr 0 x1) fun x3 =>
 DoB (aload H2.ah 1 false x3) fun x4 =>
 DoB (abin .eql x4 (.int .i64 1)) fun x8 =>
 GdB x8 true (
 JoinB (rabbetref06_inner_k31 Φ n x1 x4 Q) [x8] H2) (
 DoB (abin .eql x4 (.int .i64 2)) fun x262 =>
 JoinB (rabbetref06_inner_k31 Φ n x1 x4 Q) [x262] H2)
theorem eq_rabbetref06_inner (Φ : CallsB) (n : Nat) (a0 : AV) (H : TH) (Q : PostB) : fnB1 Φ n S.ir_rabbetref06_inner [a0] H Q = rabbetref06_inner Φ n a0 H Q := by kernel_rfl

def rabbetref06_size_l1 (Φ : CallsB) (n : Nat) (a0 : AV) (a1 : AV) (Q : PostB) : (List AV × TH) → ((List AV × TH) → Bool) → Bool := fun s1 L2 =>
 DoB (abin .leq (sl s1.1 0) a1) fun x3 =>
 GdB x3 true (
 DoB (abin .eql a0 (sl s1.1 0)) fun x4 =>
 GdB x4 true (
 Q (.bool true) s1.2) (
 DoB (abin .mul (.int .i64 2) (sl s1.1 0)) fun x5 =>
 L2 ([x5], s1.2))) (
 Q (.bool false) s1.2)
def rabbetref06_size (Φ : CallsB) (n : Nat) (a0 : AV) (a1 : AV) (H : TH) (Q : PostB) : Bool :=
 LoopB (rabbetref06_size_l1 Φ n a0 a1 Q) n ([(.int .i64 1)], H)
theorem eq_rabbetref06_size (Φ : CallsB) (n : Nat) (a0 a1 : AV) (H : TH) (Q : PostB) : fnB1 Φ n S.ir_rabbetref06_size [a0, a1] H Q = rabbetref06_size Φ n a0 a1 H Q := by kernel_rfl

def rabbetref06_Name_k1 (Φ : CallsB) (n : Nat) (s9 : List AV × TH) (L10 : (List AV × TH) → Bool) (Q : PostB) : List AV → TH → Bool := fun j13 H14 =>
 DoB (abin .add (sl s9.1 0) (.int .i64 1)) fun x27 =>
 L10 ([x27], H14)
def rabbetref06_Name_k2 (Φ : CallsB) (n : Nat) (s9 : List AV × TH) (L10 : (List AV × TH) → Bool) (Q : PostB) : List AV → TH → Bool := fun j20 H21 =>
 GdB (sl j20 0) true (
 Q (.bool false) H21) (
 JoinB (rabbetref06_Name_k1 Φ n s9 L10 Q) [] H21)
def rabbetref06_Name_k3 (Φ : CallsB) (n : Nat) (x15 : AV) (s9 : List AV × TH) (L10 : (List AV × TH) → Bool) (Q : PostB) : List AV → TH → Bool := fun j16 H17 =>
 DoB (aun .not (sl j16 0)) fun x22 =>
 Gd3B x22 true (
 DoB (abin .eql (sl s9.1 0) (.int .i64 0)) fun x23 =>
 Gd3B x23 false (
 DoB (abin .neq x15 (.int .u8 95)) fun x24 =>
 Gd3B x24 true (
 DoB (abin .lss x15 (.int .u8 48)) fun x25 =>
 Gd3B x25 false (
 DoB (abin .gtr x15 (.int .u8 57)) fun x26 =>
 JoinB (rabbetref06_Name_k2 Φ n s9 L10 Q) [x26] H17) (
 JoinB (rabbetref06_Name_k2 Φ n s9 L10 Q) [(.bool true)] H17) (
 false)) (
 JoinB (rabbetref06_Name_k2 Φ n s9 L10 Q) [(.bool false)] H17) (
 false)) (
 JoinB (rabbetref06_Name_k2 Φ n s9 L10 Q) [(.bool true)] H17) (
 false)) (
 JoinB (rabbetref06_Name_k2 Φ n s9 L10 Q) [(.bool false)] H17) (
 false)
def rabbetref06_Name_l4 (Φ : CallsB) (n : Nat) (a0 : AV) (Q : PostB) : (List AV × TH) → ((List AV × TH) → Bool) → Bool := fun s9 L10 =>
 DoB (alen true a0) fun x11 =>
 DoB (abin .lss (sl s9.1 0) x11) fun x12 =>
 GdB x12 true (
 DoB (aidxs a0 (sl s9.1 0)) fun x15 =>
 DoB (abin .geq x15 (.int .u8 97)) fun x18 =>
 Gd3B x18 true (
 DoB (abin .leq x15 (.int .u8 122)) fun x19 =>
 JoinB (rabbetref06_Name_k3 Φ n x15 s9 L10 Q) [x19] s9.2) (
 JoinB (rabbetref06_Name_k3 Φ n x15 s9 L10 Q) [(.bool false)] s9.2) (
 false)) (
 Q (.bool true) s9.2)
def rabbetref06_Name_k5 (Φ : CallsB) (n : Nat) (a0 : AV) (Q : PostB) : List AV → TH → Bool := fun j1 H2 =>
 LoopB (rabbetref06_Name_l4 Φ n a0 Q) n ([(.int .i64 0)], H2)
def rabbetref06_Name_k6 (Φ : CallsB) (n : Nat) (a0 : AV) (Q : PostB) : List AV → TH → Bool := fun j3 H4 =>
 GdB (sl j3 0) true (
 Q (.bool false) H4) (
 JoinB (rabbetref06_Name_k5 Φ n a0 Q) [] H4)
def rabbetref06_Name (Φ : CallsB) (n : Nat) (a0 : AV) (H : TH) (Q : PostB) : Bool :=
 DoB (alen true a0) fun x5 =>
 DoB (abin .eql x5 (.int .i64 0)) fun x6 =>
 Gd3B x6 false (
 DoB (alen true a0) fun x7 =>
 DoB (abin .gtr x7 (.int .i64 16)) fun x8 =>
 JoinB (rabbetref06_Name_k6 Φ n a0 Q) [x8] H) (
 JoinB (rabbetref06_Name_k6 Φ n a0 Q) [(.bool true)] H) (
 false)
theorem eq_rabbetref06_Name (Φ : CallsB) (n : Nat) (a0 : AV) (H : TH) (Q : PostB) : fnB1 Φ n S.ir_rabbetref06_Name [a0] H Q = rabbetref06_Name Φ n a0 H Q := by kernel_rfl

end Rb.R

/- Package rabbetref11: its functions in the small language, and what they mean. By gen.py. -/
set_option linter.unusedVariables false
namespace Rb.S
open Go

/-! rabbet/rabbetref11.Place -/
def rabbetref11_Place_k1 (Φ : Calls') (s9 : List AV × AH) (L10 : (List AV × AH) → Prop) (Q : Post) : List AV → AH → Prop := fun j12 H13 =>
 Do (abin .sub (sl s9.1 1) (.int .i64 1)) fun x20 =>
 L10 ([(sl j12 0), x20], H13)
def rabbetref11_Place_k2 (Φ : Calls') (s36 : List AV × AH) (L37 : (List AV × AH) → Prop) (Q : Post) : List AV → AH → Prop := fun j47 H48 =>
 Do (abin .add (sl s36.1 1) (.int .i64 1)) fun x75 =>
 L37 ([(sl j47 0), x75], H48)
def rabbetref11_Place_k3 (Φ : Calls') (s99 : List AV × AH) (L100 : (List AV × AH) → Prop) (Q : Post) : List AV → AH → Prop := fun j110 H111 =>
 Do (abin .add (sl s99.1 1) (.int .i64 1)) fun x126 =>
 L100 ([(sl j110 0), x126], H111)
def rabbetref11_Place_k4 (Φ : Calls') (x28 : AV) (x53 : AV) (x94 : AV) (s99 : List AV × AH) (L100 : (List AV × AH) → Prop) (Q : Post) : List AV → AH → Prop := fun j101 H102 =>
 Do (afaddr 3 x28) fun x112 =>
 Do (aload H102 1 false x112) fun x113 =>
 Do (aiaddr none 9 x113 (sl s99.1 1)) fun x114 =>
 Do (afaddr 0 x114) fun x115 =>
 Do (aload H102 1 false x115) fun x116 =>
 Do (afaddr 0 x53) fun x117 =>
 Do (aload H102 1 false x117) fun x118 =>
 Do (abin .eql x116 x118) fun x119 =>
 Gd x119 true (
 Do (afaddr 3 x28) fun x120 =>
 Do (aload H102 1 false x120) fun x121 =>
 Do (aiaddr none 9 x121 (sl s99.1 1)) fun x122 =>
 Do (afaddr 1 x122) fun x123 =>
 Do (aload H102 6 true x123) fun x124 =>
 Do (astore H102 6 x94 x124) fun H125 =>
 JoinP (rabbetref11_Place_k3 Φ s99 L100 Q) [(.int .i64 0)] H125) (
 JoinP (rabbetref11_Place_k3 Φ s99 L100 Q) [(sl s99.1 0)] H102)
def rabbetref11_Place_k5 (Φ : Calls') (x28 : AV) (x94 : AV) (s36 : List AV × AH) (L37 : (List AV × AH) → Prop) (Q : Post) : List AV → AH → Prop := fun j97 H98 =>
 Do (aload H98 6 true x94) fun x127 =>
 Do (astore H98 6 x28 x127) fun H128 =>
 JoinP (rabbetref11_Place_k2 Φ s36 L37 Q) [(sl j97 0)] H128
def rabbetref11_Place_k6 (Φ : Calls') (x28 : AV) (x53 : AV) (x94 : AV) (s36 : List AV × AH) (L37 : (List AV × AH) → Prop) (s99 : List AV × AH) (L100 : (List AV × AH) → Prop) (Q : Post) : List AV → AH → Prop := fun j103 H104 =>
 Gd (sl j103 0) true (
 JoinP (rabbetref11_Place_k4 Φ x28 x53 x94 s99 L100 Q) [] H104) (
 JoinP (rabbetref11_Place_k5 Φ x28 x94 s36 L37 Q) [(sl s99.1 0)] H104)
def rabbetref11_Place_l7 (Φ : Calls') (x28 : AV) (x53 : AV) (x94 : AV) (s36 : List AV × AH) (L37 : (List AV × AH) → Prop) (Q : Post) : (List AV × AH) → ((List AV × AH) → Prop) → Prop := fun s99 L100 =>
 Do (afaddr 3 x28) fun x105 =>
 Do (aload s99.2 1 false x105) fun x106 =>
 Do (alen false x106) fun x107 =>
 Do (abin .lss (sl s99.1 1) x107) fun x108 =>
 Gd3 x108 true (
 Do (abin .neq (sl s99.1 0) (.int .i64 0)) fun x109 =>
 JoinP (rabbetref11_Place_k6 Φ x28 x53 x94 s36 L37 s99 L100 Q) [x109] s99.2) (
 JoinP (rabbetref11_Place_k6 Φ x28 x53 x94 s36 L37 s99 L100 Q) [(.bool false)] s99.2) (
 False)
def rabbetref11_Place_k8 (Φ : Calls') (x28 : AV) (x53 : AV) (s36 : List AV × AH) (L37 : (List AV × AH) → Prop) (Q : Post) : List AV → AH → Prop := fun j76 H77 =>
 Gd (sl j76 0) true (
 Do (abuild [.int .i64 0, .int .i64 0, .bool false, .lst .nil 0 [], .int .i64 0, .lst .nil 0 []] []) fun x93 =>
 DoH (some (abox H77 true [.int .i64 0, .int .i64 0, .bool false, .lst .nil 0 [], .int .i64 0, .lst .nil 0 []])) fun x94 H95 =>
 Do (astore H95 6 x94 x93) fun H96 =>
 LoopP (rabbetref11_Place_l7 Φ x28 x53 x94 s36 L37 Q) ([(.int .i64 6), (.int .i64 0)], H96)) (
 JoinP (rabbetref11_Place_k2 Φ s36 L37 Q) [(.int .i64 8)] H77)
def rabbetref11_Place_k9 (Φ : Calls') (x28 : AV) (x53 : AV) (s36 : List AV × AH) (L37 : (List AV × AH) → Prop) (Q : Post) : List AV → AH → Prop := fun j78 H79 =>
 Gd3 (sl j78 0) true (
 Do (afaddr 0 x28) fun x87 =>
 Do (aload H79 1 false x87) fun x88 =>
 Do (abin .eql x88 (.int .i64 3)) fun x89 =>
 Gd3 x89 false (
 Do (afaddr 0 x28) fun x90 =>
 Do (aload H79 1 false x90) fun x91 =>
 Do (abin .eql x91 (.int .i64 4)) fun x92 =>
 JoinP (rabbetref11_Place_k8 Φ x28 x53 s36 L37 Q) [x92] H79) (
 JoinP (rabbetref11_Place_k8 Φ x28 x53 s36 L37 Q) [(.bool true)] H79) (
 False)) (
 JoinP (rabbetref11_Place_k8 Φ x28 x53 s36 L37 Q) [(.bool false)] H79) (
 False)
def rabbetref11_Place_k10 (Φ : Calls') (x28 : AV) (x53 : AV) (s36 : List AV × AH) (L37 : (List AV × AH) → Prop) (Q : Post) : List AV → AH → Prop := fun j56 H57 =>
 Gd (sl j56 0) true (
 Do (afaddr 5 x28) fun x70 =>
 Do (aload H57 1 false x70) fun x71 =>
 Do (aiaddr none 6 x71 (.int .i64 0)) fun x72 =>
 Do (aload H57 6 true x72) fun x73 =>
 Do (astore H57 6 x28 x73) fun H74 =>
 JoinP (rabbetref11_Place_k2 Φ s36 L37 Q) [(sl s36.1 0)] H74) (
 Do (afaddr 1 x53) fun x80 =>
 Do (aload H57 1 false x80) fun x81 =>
 Do (alen false x81) fun x82 =>
 Do (abin .eql x82 (.int .i64 0)) fun x83 =>
 Gd3 x83 true (
 Do (afaddr 0 x53) fun x84 =>
 Do (aload H57 1 false x84) fun x85 =>
 Do (abin .neq x85 (.str [])) fun x86 =>
 JoinP (rabbetref11_Place_k9 Φ x28 x53 s36 L37 Q) [x86] H57) (
 JoinP (rabbetref11_Place_k9 Φ x28 x53 s36 L37 Q) [(.bool false)] H57) (
 False))
def rabbetref11_Place_k11 (Φ : Calls') (x28 : AV) (x53 : AV) (s36 : List AV × AH) (L37 : (List AV × AH) → Prop) (Q : Post) : List AV → AH → Prop := fun j58 H59 =>
 Gd3 (sl j58 0) true (
 Do (afaddr 0 x28) fun x67 =>
 Do (aload H59 1 false x67) fun x68 =>
 Do (abin .eql x68 (.int .i64 5)) fun x69 =>
 JoinP (rabbetref11_Place_k10 Φ x28 x53 s36 L37 Q) [x69] H59) (
 JoinP (rabbetref11_Place_k10 Φ x28 x53 s36 L37 Q) [(.bool false)] H59) (
 False)
def rabbetref11_Place_k12 (Φ : Calls') (x1 : AV) (x28 : AV) (s36 : List AV × AH) (L37 : (List AV × AH) → Prop) (Q : Post) : List AV → AH → Prop := fun j38 H39 =>
 Do (afaddr 1 x1) fun x49 =>
 Do (aload H39 1 false x49) fun x50 =>
 Do (aiaddr none 2 x50 (sl s36.1 1)) fun x51 =>
 Do (aload H39 2 true x51) fun x52 =>
 DoH (some (abox H39 true [.str [], .lst .nil 0 []])) fun x53 H54 =>
 Do (astore H54 2 x53 x52) fun H55 =>
 Do (afaddr 1 x53) fun x60 =>
 Do (aload H55 1 false x60) fun x61 =>
 Do (alen false x61) fun x62 =>
 Do (abin .eql x62 (.int .i64 1)) fun x63 =>
 Gd3 x63 true (
 Do (afaddr 0 x53) fun x64 =>
 Do (aload H55 1 false x64) fun x65 =>
 Do (abin .eql x65 (.str [])) fun x66 =>
 JoinP (rabbetref11_Place_k11 Φ x28 x53 s36 L37 Q) [x66] H55) (
 JoinP (rabbetref11_Place_k11 Φ x28 x53 s36 L37 Q) [(.bool false)] H55) (
 False)
def rabbetref11_Place_k13 (Φ : Calls') (x3 : AV) (x28 : AV) (Q : Post) : List AV → AH → Prop := fun j34 H35 =>
 Do (abin .neq (sl j34 0) (.int .i64 0)) fun x129 =>
 Gd x129 true (
 Do (abuild [.int .i64 0, .int .i64 0, .bool false, .lst .nil 0 [], .int .i64 0, .lst .nil 0 []] []) fun x130 =>
 Do (astore H35 6 x3 x130) fun H131 =>
 Do (aload H131 6 true x3) fun x132 =>
 Q (.tup [x132, (sl j34 0)]) H131) (
 Do (aload H35 6 true x28) fun x133 =>
 Do (astore H35 6 x3 x133) fun H134 =>
 Do (aload H134 6 true x3) fun x135 =>
 Q (.tup [x135, (.int .i64 0)]) H134)
def rabbetref11_Place_k14 (Φ : Calls') (x1 : AV) (x3 : AV) (x28 : AV) (s36 : List AV × AH) (L37 : (List AV × AH) → Prop) (Q : Post) : List AV → AH → Prop := fun j40 H41 =>
 Gd (sl j40 0) true (
 JoinP (rabbetref11_Place_k12 Φ x1 x28 s36 L37 Q) [] H41) (
 JoinP (rabbetref11_Place_k13 Φ x3 x28 Q) [(sl s36.1 0)] H41)
def rabbetref11_Place_l15 (Φ : Calls') (x1 : AV) (x3 : AV) (x28 : AV) (Q : Post) : (List AV × AH) → ((List AV × AH) → Prop) → Prop := fun s36 L37 =>
 Do (afaddr 1 x1) fun x42 =>
 Do (aload s36.2 1 false x42) fun x43 =>
 Do (alen false x43) fun x44 =>
 Do (abin .lss (sl s36.1 1) x44) fun x45 =>
 Gd3 x45 true (
 Do (abin .eql (sl s36.1 0) (.int .i64 0)) fun x46 =>
 JoinP (rabbetref11_Place_k14 Φ x1 x3 x28 s36 L37 Q) [x46] s36.2) (
 JoinP (rabbetref11_Place_k14 Φ x1 x3 x28 s36 L37 Q) [(.bool false)] s36.2) (
 False)
def rabbetref11_Place_k16 (Φ : Calls') (a0 : AV) (x1 : AV) (x3 : AV) (Q : Post) : List AV → AH → Prop := fun j5 H6 =>
 Do (abin .lss (sl j5 0) (.int .i64 0)) fun x21 =>
 Gd x21 true (
 Do (abuild [.int .i64 0, .int .i64 0, .bool false, .lst .nil 0 [], .int .i64 0, .lst .nil 0 []] []) fun x22 =>
 Do (astore H6 6 x3 x22) fun H23 =>
 Do (aload H23 6 true x3) fun x24 =>
 Q (.tup [x24, (.int .i64 6)]) H23) (
 Do (aiaddr none 7 a0 (sl j5 0)) fun x25 =>
 Do (afaddr 1 x25) fun x26 =>
 Do (aload H6 6 true x26) fun x27 =>
 DoH (some (abox H6 true [.int .i64 0, .int .i64 0, .bool false, .lst .nil 0 [], .int .i64 0, .lst .nil 0 []])) fun x28 H29 =>
 Do (astore H29 6 x28 x27) fun H30 =>
 Do (aload H30 6 true x28) fun x31 =>
Φ K.rabbetref06_Sound [x31] H30 fun x32 H33 =>
 LoopP (rabbetref11_Place_l15 Φ x1 x3 x28 Q) ([x32, (.int .i64 0)], H33))
def rabbetref11_Place_l17 (Φ : Calls') (a0 : AV) (x1 : AV) (x3 : AV) (Q : Post) : (List AV × AH) → ((List AV × AH) → Prop) → Prop := fun s9 L10 =>
 Do (abin .geq (sl s9.1 1) (.int .i64 0)) fun x11 =>
 Gd x11 true (
 Do (aiaddr none 7 a0 (sl s9.1 1)) fun x14 =>
 Do (afaddr 0 x14) fun x15 =>
 Do (aload s9.2 1 false x15) fun x16 =>
 Do (afaddr 0 x1) fun x17 =>
 Do (aload s9.2 1 false x17) fun x18 =>
 Do (abin .eql x16 x18) fun x19 =>
 Gd x19 true (
 JoinP (rabbetref11_Place_k1 Φ s9 L10 Q) [(sl s9.1 1)] s9.2) (
 JoinP (rabbetref11_Place_k1 Φ s9 L10 Q) [(sl s9.1 0)] s9.2)) (
 JoinP (rabbetref11_Place_k16 Φ a0 x1 x3 Q) [(sl s9.1 0)] s9.2)
def rabbetref11_Place (Φ : Calls') (a0 : AV) (a1 : AV) (H : AH) (Q : Post) : Prop :=
 DoH (aboxv H false 2 a1) fun x1 H2 =>
 DoH (some (abox H2 true [.int .i64 0, .int .i64 0, .bool false, .lst .nil 0 [], .int .i64 0, .lst .nil 0 []])) fun x3 H4 =>
 Do (alen false a0) fun x7 =>
 Do (abin .sub x7 (.int .i64 1)) fun x8 =>
 LoopP (rabbetref11_Place_l17 Φ a0 x1 x3 Q) ([(.int .i64 (-1)), x8], H4)
def ir_rabbetref11_Place : AFunc := ⟨128, [.cell 4 6 true, .tmp 5],
 .seq (.region [
   ⟨some 3, .box false 2 (.t 1), none⟩,
   ⟨some 4, .alloc true [.int .i64 0, .int .i64 0, .bool false, .lst .nil 0 [], .int .i64 0, .lst .nil 0 []], none⟩,
   ⟨some 5, .mv (.k (.int .i64 0)), none⟩])
 (.seq (.region [
   ⟨some 6, .mv (.k (.int .i64 (-1))), none⟩])
 (.join [6] [7, 14, 15, 16, 17, 18, 19, 20, 21, 22, 23, 24, 25, 26, 27, 28, 29] (.seq (.region [
   ⟨some 14, .mv (.t 0), none⟩,
   ⟨some 15, .len false (.t 14), none⟩,
   ⟨some 16, .bin .sub (.t 15) (.k (.int .i64 1)), none⟩,
   ⟨some 7, .mv (.t 16), none⟩])
 (.block 0 (.loop [6, 7] [17, 18, 19, 20, 21, 22, 23, 24, 25, 26, 27, 28, 29] (.seq (.seq (.region [
   ⟨some 17, .mv (.t 7), none⟩,
   ⟨some 18, .bin .geq (.t 17) (.k (.int .i64 0)), none⟩])
 (.cond (.t 18) (.skip)
   (.exit 0)))
 (.join [6] [21, 22, 23, 24, 25, 26, 27, 28, 29] (.block 1 (.seq (.draw [
   ⟨some 21, .mv (.t 0), none⟩,
   ⟨some 22, .mv (.t 7), none⟩,
   ⟨some 23, .iaddr none 7 (.t 21) (.t 22), none⟩,
   ⟨some 24, .faddr 0 (.t 23), none⟩,
   ⟨some 25, .load 1 false (.t 24), none⟩,
   ⟨some 26, .faddr 0 (.t 3), none⟩,
   ⟨some 27, .load 1 false (.t 26), none⟩,
   ⟨some 28, .bin .eql (.t 25) (.t 27), none⟩]
 [[], [], [0, 1], [0, 1, 2], [0, 1, 2, 3], [], [5], [0, 1, 2, 3, 4, 5, 6]] [] [0, 1, 2, 3, 4, 5, 6, 7])
 (.cond (.t 28) (.region [
     ⟨some 29, .mv (.t 7), none⟩,
     ⟨some 6, .mv (.t 29), none⟩])
   (.skip))))
 (.region [
   ⟨some 19, .mv (.t 7), none⟩,
   ⟨some 20, .bin .sub (.t 19) (.k (.int .i64 1)), none⟩,
   ⟨some 7, .mv (.t 20), none⟩]))))))
 (.seq (.seq (.region [
   ⟨some 30, .mv (.t 6), none⟩,
   ⟨some 31, .bin .lss (.t 30) (.k (.int .i64 0)), none⟩])
 (.cond (.t 31) (.seq (.region [
     ⟨some 32, .build [.int .i64 0, .int .i64 0, .bool false, .lst .nil 0 [], .int .i64 0, .lst .nil 0 []] [], none⟩,
     ⟨none, .store 6 (.t 4) (.t 32), none⟩,
     ⟨some 5, .mv (.k (.int .i64 6)), none⟩])
   (.ret))
   (.skip)))
 (.seq (.region [
   ⟨some 33, .mv (.t 0), none⟩,
   ⟨some 34, .mv (.t 6), none⟩,
   ⟨some 35, .iaddr none 7 (.t 33) (.t 34), none⟩,
   ⟨some 36, .faddr 1 (.t 35), none⟩,
   ⟨some 37, .load 6 true (.t 36), none⟩,
   ⟨some 8, .alloc true [.int .i64 0, .int .i64 0, .bool false, .lst .nil 0 [], .int .i64 0, .lst .nil 0 []], none⟩,
   ⟨none, .store 6 (.t 8) (.t 37), none⟩])
 (.seq (.region [
   ⟨some 38, .load 6 true (.t 8), none⟩,
   ⟨some 39, .call K.rabbetref06_Sound [(.t 38)], none⟩,
   ⟨some 9, .mv (.t 39), none⟩])
 (.join [9] [10, 11, 12, 13, 40, 41, 42, 43, 44, 45, 46, 47, 48, 49, 50, 51, 52, 53, 54, 55, 56, 57, 58, 59, 60, 61, 62, 63, 64, 65, 66, 67, 68, 69, 70, 71, 72, 73, 74, 75, 76, 77, 78, 79, 80, 81, 82, 83, 84, 85, 86, 87, 88, 89, 90, 91, 92, 93, 94, 95, 96, 97, 98, 99, 100, 101, 102, 103, 104, 105, 106, 107, 108, 109, 110, 111, 112, 113, 114, 115, 116, 117, 118, 119, 120, 121, 122] (.seq (.region [
   ⟨some 10, .mv (.k (.int .i64 0)), none⟩])
 (.block 2 (.loop [9, 10] [11, 12, 13, 40, 41, 42, 43, 44, 45, 46, 47, 48, 49, 50, 51, 52, 53, 54, 55, 56, 57, 58, 59, 60, 61, 62, 63, 64, 65, 66, 67, 68, 69, 70, 71, 72, 73, 74, 75, 76, 77, 78, 79, 80, 81, 82, 83, 84, 85, 86, 87, 88, 89, 90, 91, 92, 93, 94, 95, 96, 97, 98, 99, 100, 101, 102, 103, 104, 105, 106, 107, 108, 109, 110, 111, 112, 113, 114, 115, 116, 117, 118, 119, 120, 121, 122] (.join [] [40, 41, 42, 43, 44, 45, 46, 47, 48] (.join [48] [40, 41, 42, 43, 44, 45, 46, 47] (.region [
   ⟨some 40, .mv (.t 10), none⟩,
   ⟨some 41, .faddr 1 (.t 3), none⟩,
   ⟨some 42, .load 1 false (.t 41), none⟩,
   ⟨some 43, .len false (.t 42), none⟩,
   ⟨some 44, .bin .lss (.t 40) (.t 43), none⟩,
   ⟨some 45, .mv (.t 44), none⟩,
   ⟨some 46, .mv (.t 9), some (45, true)⟩,
   ⟨some 47, .bin .eql (.t 46) (.k (.int .i64 0)), some (45, true)⟩,
   ⟨some 48, .pick (.t 45) (.t 47) (.k (.bool false)), none⟩])
 (.cond (.t 48) (.skip)
   (.exit 2)))
 (.join [9] [11, 12, 13, 51, 52, 53, 54, 55, 56, 57, 58, 59, 60, 61, 62, 63, 64, 65, 66, 67, 68, 69, 70, 71, 72, 73, 74, 75, 76, 77, 78, 79, 80, 81, 82, 83, 84, 85, 86, 87, 88, 89, 90, 91, 92, 93, 94, 95, 96, 97, 98, 99, 100, 101, 102, 103, 104, 105, 106, 107, 108, 109, 110, 111, 112, 113, 114, 115, 116, 117, 118, 119, 120, 121, 122] (.block 3 (.seq (.region [
   ⟨some 51, .faddr 1 (.t 3), none⟩,
   ⟨some 52, .load 1 false (.t 51), none⟩,
   ⟨some 53, .mv (.t 10), none⟩,
   ⟨some 54, .iaddr none 2 (.t 52) (.t 53), none⟩,
   ⟨some 55, .load 2 true (.t 54), none⟩,
   ⟨some 11, .alloc true [.str [], .lst .nil 0 []], none⟩,
   ⟨none, .store 2 (.t 11) (.t 55), none⟩])
 (.block 4 (.join [56] [57, 58, 59, 60, 61, 62, 63, 64, 65, 66, 67, 68, 69, 70] (.rjoin [65] [57, 58, 59, 60, 61, 62, 63, 64] [
   ⟨some 57, .faddr 1 (.t 11), none⟩,
   ⟨some 58, .load 1 false (.t 57), none⟩,
   ⟨some 59, .len false (.t 58), none⟩,
   ⟨some 60, .bin .eql (.t 59) (.k (.int .i64 1)), none⟩,
   ⟨some 61, .mv (.t 60), none⟩,
   ⟨some 62, .faddr 0 (.t 11), some (61, true)⟩,
   ⟨some 63, .load 1 false (.t 62), some (61, true)⟩,
   ⟨some 64, .bin .eql (.t 63) (.k (.str [])), some (61, true)⟩,
   ⟨some 65, .pick (.t 61) (.t 64) (.k (.bool false)), none⟩]
 (.region [
   ⟨some 66, .mv (.t 65), none⟩,
   ⟨some 67, .faddr 0 (.t 8), some (66, true)⟩,
   ⟨some 68, .load 1 false (.t 67), some (66, true)⟩,
   ⟨some 69, .bin .eql (.t 68) (.k (.int .i64 5)), some (66, true)⟩,
   ⟨some 70, .pick (.t 66) (.t 69) (.k (.bool false)), none⟩,
   ⟨some 56, .mv (.t 70), none⟩]))
 (.cond (.t 56) (.region [
     ⟨some 71, .faddr 5 (.t 8), none⟩,
     ⟨some 72, .load 1 false (.t 71), none⟩,
     ⟨some 73, .iaddr none 6 (.t 72) (.k (.int .i64 0)), none⟩,
     ⟨some 74, .load 6 true (.t 73), none⟩,
     ⟨none, .store 6 (.t 8) (.t 74), none⟩])
   (.join [75] [76, 77, 78, 79, 80, 81, 82, 83, 84, 85, 86, 87, 88, 89, 90, 91, 92, 93, 94] (.rjoin [84] [76, 77, 78, 79, 80, 81, 82, 83] [
     ⟨some 76, .faddr 1 (.t 11), none⟩,
     ⟨some 77, .load 1 false (.t 76), none⟩,
     ⟨some 78, .len false (.t 77), none⟩,
     ⟨some 79, .bin .eql (.t 78) (.k (.int .i64 0)), none⟩,
     ⟨some 80, .mv (.t 79), none⟩,
     ⟨some 81, .faddr 0 (.t 11), some (80, true)⟩,
     ⟨some 82, .load 1 false (.t 81), some (80, true)⟩,
     ⟨some 83, .bin .neq (.t 82) (.k (.str [])), some (80, true)⟩,
     ⟨some 84, .pick (.t 80) (.t 83) (.k (.bool false)), none⟩]
   (.region [
     ⟨some 85, .mv (.t 84), none⟩,
     ⟨some 86, .faddr 0 (.t 8), some (85, true)⟩,
     ⟨some 87, .load 1 false (.t 86), some (85, true)⟩,
     ⟨some 88, .bin .eql (.t 87) (.k (.int .i64 3)), some (85, true)⟩,
     ⟨some 89, .mv (.t 88), some (85, true)⟩,
     ⟨some 90, .faddr 0 (.t 8), some (89, false)⟩,
     ⟨some 91, .load 1 false (.t 90), some (89, false)⟩,
     ⟨some 92, .bin .eql (.t 91) (.k (.int .i64 4)), some (89, false)⟩,
     ⟨some 93, .pick (.t 89) (.k (.bool true)) (.t 92), some (85, true)⟩,
     ⟨some 94, .pick (.t 85) (.t 93) (.k (.bool false)), none⟩,
     ⟨some 75, .mv (.t 94), none⟩]))
   (.cond (.t 75) (.seq (.region [
       ⟨some 9, .mv (.k (.int .i64 6)), none⟩])
     (.seq (.region [
       ⟨some 95, .build [.int .i64 0, .int .i64 0, .bool false, .lst .nil 0 [], .int .i64 0, .lst .nil 0 []] [], none⟩,
       ⟨some 12, .alloc true [.int .i64 0, .int .i64 0, .bool false, .lst .nil 0 [], .int .i64 0, .lst .nil 0 []], none⟩,
       ⟨none, .store 6 (.t 12) (.t 95), none⟩])
     (.join [9] [13, 96, 97, 98, 99, 100, 101, 102, 103, 104, 105, 106, 107, 108, 109, 110, 111, 112, 113, 114, 115, 116, 117, 118, 119, 120, 121] (.seq (.region [
       ⟨some 13, .mv (.k (.int .i64 0)), none⟩])
     (.block 5 (.loop [9, 13] [96, 97, 98, 99, 100, 101, 102, 103, 104, 105, 106, 107, 108, 109, 110, 111, 112, 113, 114, 115, 116, 117, 118, 119, 120, 121] (.join [] [96, 97, 98, 99, 100, 101, 102, 103, 104] (.join [104] [96, 97, 98, 99, 100, 101, 102, 103] (.region [
       ⟨some 96, .mv (.t 13), none⟩,
       ⟨some 97, .faddr 3 (.t 8), none⟩,
       ⟨some 98, .load 1 false (.t 97), none⟩,
       ⟨some 99, .len false (.t 98), none⟩,
       ⟨some 100, .bin .lss (.t 96) (.t 99), none⟩,
       ⟨some 101, .mv (.t 100), none⟩,
       ⟨some 102, .mv (.t 9), some (101, true)⟩,
       ⟨some 103, .bin .neq (.t 102) (.k (.int .i64 0)), some (101, true)⟩,
       ⟨some 104, .pick (.t 101) (.t 103) (.k (.bool false)), none⟩])
     (.cond (.t 104) (.skip)
       (.exit 5)))
     (.join [9] [107, 108, 109, 110, 111, 112, 113, 114, 115, 116, 117, 118, 119, 120, 121] (.block 6 (.seq (.draw [
       ⟨some 107, .faddr 3 (.t 8), none⟩,
       ⟨some 108, .load 1 false (.t 107), none⟩,
       ⟨some 109, .mv (.t 13), none⟩,
       ⟨some 110, .iaddr none 9 (.t 108) (.t 109), none⟩,
       ⟨some 111, .faddr 0 (.t 110), none⟩,
       ⟨some 112, .load 1 false (.t 111), none⟩,
       ⟨some 113, .faddr 0 (.t 11), none⟩,
       ⟨some 114, .load 1 false (.t 113), none⟩,
       ⟨some 115, .bin .eql (.t 112) (.t 114), none⟩]
     [[], [0], [], [0, 1, 2], [0, 1, 2, 3], [0, 1, 2, 3, 4], [], [6], [0, 1, 2, 3, 4, 5, 6, 7]] [] [0, 1, 2, 3, 4, 5, 6, 7, 8])
     (.cond (.t 115) (.region [
         ⟨some 116, .faddr 3 (.t 8), none⟩,
         ⟨some 117, .load 1 false (.t 116), none⟩,
         ⟨some 118, .mv (.t 13), none⟩,
         ⟨some 119, .iaddr none 9 (.t 117) (.t 118), none⟩,
         ⟨some 120, .faddr 1 (.t 119), none⟩,
         ⟨some 121, .load 6 true (.t 120), none⟩,
         ⟨none, .store 6 (.t 12) (.t 121), none⟩,
         ⟨some 9, .mv (.k (.int .i64 0)), none⟩])
       (.skip))))
     (.region [
       ⟨some 105, .mv (.t 13), none⟩,
       ⟨some 106, .bin .add (.t 105) (.k (.int .i64 1)), none⟩,
       ⟨some 13, .mv (.t 106), none⟩]))))))
     (.region [
       ⟨some 122, .load 6 true (.t 12), none⟩,
       ⟨none, .store 6 (.t 8) (.t 122), none⟩]))))
     (.region [
       ⟨some 9, .mv (.k (.int .i64 8)), none⟩]))))))))
 (.region [
   ⟨some 49, .mv (.t 10), none⟩,
   ⟨some 50, .bin .add (.t 49) (.k (.int .i64 1)), none⟩,
   ⟨some 10, .mv (.t 50), none⟩]))))))
 (.seq (.seq (.region [
   ⟨some 123, .mv (.t 9), none⟩,
   ⟨some 124, .bin .neq (.t 123) (.k (.int .i64 0)), none⟩])
 (.cond (.t 124) (.seq (.region [
     ⟨some 125, .build [.int .i64 0, .int .i64 0, .bool false, .lst .nil 0 [], .int .i64 0, .lst .nil 0 []] [], none⟩,
     ⟨some 126, .mv (.t 9), none⟩,
     ⟨none, .store 6 (.t 4) (.t 125), none⟩,
     ⟨some 5, .mv (.t 126), none⟩])
   (.ret))
   (.skip)))
 (.seq (.region [
   ⟨some 127, .load 6 true (.t 8), none⟩,
   ⟨none, .store 6 (.t 4) (.t 127), none⟩,
   ⟨some 5, .mv (.k (.int .i64 0)), none⟩])
 (.ret)))))))))⟩
theorem eq_rabbetref11_Place (Φ : Calls') (a0 a1 : AV) (H : AH) (Q : Post) : fnE1 Φ ir_rabbetref11_Place [a0, a1] H Q = rabbetref11_Place Φ a0 a1 H Q := by kernel_rfl

/-! rabbet/rabbetref11.Order -/
def rabbetref11_Order_l1 (Φ : Calls') (a1 : AV) (j1 : List AV) (Q : Post) : (List AV × AH) → ((List AV × AH) → Prop) → Prop := fun s6 L7 =>
 Do (alen true (sl j1 0)) fun x8 =>
 Do (abin .lss (sl s6.1 0) x8) fun x9 =>
 Gd x9 true (
 Do (aidxs (sl j1 0) (sl s6.1 0)) fun x10 =>
 Do (abin .sub x10 (.int .u8 48)) fun x11 =>
 Do (aconv .i64 x11) fun x12 =>
 Do (abin .eql a1 x12) fun x13 =>
 Gd x13 true (
 Q (.bool true) s6.2) (
 Do (abin .add (sl s6.1 0) (.int .i64 1)) fun x14 =>
 L7 ([x14], s6.2))) (
 Q (.bool false) s6.2)
def rabbetref11_Order_k2 (Φ : Calls') (a1 : AV) (Q : Post) : List AV → AH → Prop := fun j1 H2 =>
 LoopP (rabbetref11_Order_l1 Φ a1 j1 Q) ([(.int .i64 0)], H2)
def rabbetref11_Order_k3 (Φ : Calls') (a0 : AV) (a1 : AV) (Q : Post) : List AV → AH → Prop := fun j18 H19 =>
 Gd (sl j18 0) true (
 JoinP (rabbetref11_Order_k2 Φ a1 Q) [(.str [49, 50, 51, 52])] H19) (
 Do (abin .eql a0 (.int .i64 7)) fun x21 =>
 Gd x21 true (
 JoinP (rabbetref11_Order_k2 Φ a1 Q) [(.str [50, 51, 52])] H19) (
 JoinP (rabbetref11_Order_k2 Φ a1 Q) [(.str [48])] H19))
def rabbetref11_Order_k4 (Φ : Calls') (a0 : AV) (a1 : AV) (Q : Post) : List AV → AH → Prop := fun j15 H16 =>
 Gd (sl j15 0) true (
 JoinP (rabbetref11_Order_k2 Φ a1 Q) [(.str [49, 50, 52])] H16) (
 Do (abin .eql a0 (.int .i64 16)) fun x20 =>
 Gd x20 true (
 JoinP (rabbetref11_Order_k3 Φ a0 a1 Q) [x20] H16) (
 Do (abin .eql a0 (.int .i64 17)) fun x22 =>
 Gd x22 true (
 JoinP (rabbetref11_Order_k3 Φ a0 a1 Q) [x22] H16) (
 Do (abin .eql a0 (.int .i64 18)) fun x23 =>
 JoinP (rabbetref11_Order_k3 Φ a0 a1 Q) [x23] H16)))
def rabbetref11_Order_k5 (Φ : Calls') (a0 : AV) (a1 : AV) (Q : Post) : List AV → AH → Prop := fun j3 H4 =>
 Gd (sl j3 0) true (
 JoinP (rabbetref11_Order_k2 Φ a1 Q) [(.str [49, 51, 52])] H4) (
 Do (abin .eql a0 (.int .i64 5)) fun x17 =>
 Gd x17 true (
 JoinP (rabbetref11_Order_k4 Φ a0 a1 Q) [x17] H4) (
 Do (abin .eql a0 (.int .i64 15)) fun x24 =>
 JoinP (rabbetref11_Order_k4 Φ a0 a1 Q) [x24] H4))
def rabbetref11_Order (Φ : Calls') (a0 : AV) (a1 : AV) (H : AH) (Q : Post) : Prop :=
 Do (abin .eql a0 (.int .i64 4)) fun x5 =>
 Gd x5 true (
 JoinP (rabbetref11_Order_k5 Φ a0 a1 Q) [x5] H) (
 Do (abin .eql a0 (.int .i64 6)) fun x25 =>
 JoinP (rabbetref11_Order_k5 Φ a0 a1 Q) [x25] H)
def ir_rabbetref11_Order : AFunc := ⟨33, [.tmp 4],
 .seq (.region [
   ⟨some 4, .mv (.k (.bool false)), none⟩])
 (.seq (.region [
   ⟨some 5, .mv (.k (.str [])), none⟩])
 (.join [5] [7, 8, 9, 10, 11, 12, 13, 14, 15, 16, 17, 18, 19] (.seq (.region [
   ⟨some 7, .mv (.t 0), none⟩])
 (.block 0 (.join [8] [9, 10] (.seq (.region [
   ⟨some 9, .bin .eql (.t 7) (.k (.int .i64 4)), none⟩,
   ⟨some 8, .mv (.t 9), none⟩])
 (.cond (.t 8) (.skip)
   (.region [
     ⟨some 10, .bin .eql (.t 7) (.k (.int .i64 6)), none⟩,
     ⟨some 8, .mv (.t 10), none⟩])))
 (.cond (.t 8) (.region [
     ⟨some 5, .mv (.k (.str [49, 51, 52])), none⟩])
   (.join [11] [12, 13] (.seq (.region [
     ⟨some 12, .bin .eql (.t 7) (.k (.int .i64 5)), none⟩,
     ⟨some 11, .mv (.t 12), none⟩])
   (.cond (.t 11) (.skip)
     (.region [
       ⟨some 13, .bin .eql (.t 7) (.k (.int .i64 15)), none⟩,
       ⟨some 11, .mv (.t 13), none⟩])))
   (.cond (.t 11) (.region [
       ⟨some 5, .mv (.k (.str [49, 50, 52])), none⟩])
     (.join [14] [15, 16, 17] (.seq (.region [
       ⟨some 15, .bin .eql (.t 7) (.k (.int .i64 16)), none⟩,
       ⟨some 14, .mv (.t 15), none⟩])
     (.cond (.t 14) (.skip)
       (.seq (.region [
         ⟨some 16, .bin .eql (.t 7) (.k (.int .i64 17)), none⟩,
         ⟨some 14, .mv (.t 16), none⟩])
       (.cond (.t 14) (.skip)
         (.region [
           ⟨some 17, .bin .eql (.t 7) (.k (.int .i64 18)), none⟩,
           ⟨some 14, .mv (.t 17), none⟩])))))
     (.cond (.t 14) (.region [
         ⟨some 5, .mv (.k (.str [49, 50, 51, 52])), none⟩])
       (.seq (.region [
         ⟨some 19, .bin .eql (.t 7) (.k (.int .i64 7)), none⟩,
         ⟨some 18, .mv (.t 19), none⟩])
       (.cond (.t 18) (.region [
           ⟨some 5, .mv (.k (.str [50, 51, 52])), none⟩])
         (.region [
           ⟨some 5, .mv (.k (.str [48])), none⟩])))))))))))
 (.seq (.seq (.region [
   ⟨some 6, .mv (.k (.int .i64 0)), none⟩])
 (.block 1 (.loop [6] [4, 20, 21, 22, 23, 24, 25, 26, 27, 28, 29, 30, 31, 32] (.seq (.seq (.region [
   ⟨some 20, .mv (.t 6), none⟩,
   ⟨some 21, .mv (.t 5), none⟩,
   ⟨some 22, .len true (.t 21), none⟩,
   ⟨some 23, .bin .lss (.t 20) (.t 22), none⟩])
 (.cond (.t 23) (.skip)
   (.exit 1)))
 (.seq (.block 2 (.seq (.region [
   ⟨some 26, .mv (.t 1), none⟩,
   ⟨some 27, .mv (.t 5), none⟩,
   ⟨some 28, .mv (.t 6), none⟩,
   ⟨some 29, .idxs (.t 27) (.t 28), none⟩,
   ⟨some 30, .bin .sub (.t 29) (.k (.int .u8 48)), none⟩,
   ⟨some 31, .conv .i64 (.t 30), none⟩,
   ⟨some 32, .bin .eql (.t 26) (.t 31), none⟩])
 (.cond (.t 32) (.seq (.region [
     ⟨some 4, .mv (.k (.bool true)), none⟩])
   (.ret))
   (.skip))))
 (.region [
   ⟨some 24, .mv (.t 6), none⟩,
   ⟨some 25, .bin .add (.t 24) (.k (.int .i64 1)), none⟩,
   ⟨some 6, .mv (.t 25), none⟩]))))))
 (.seq (.region [
   ⟨some 4, .mv (.k (.bool false)), none⟩])
 (.ret)))))⟩
theorem eq_rabbetref11_Order (Φ : Calls') (a0 a1 : AV) (H : AH) (Q : Post) : fnE1 Φ ir_rabbetref11_Order [a0, a1] H Q = rabbetref11_Order Φ a0 a1 H Q := by kernel_rfl

def tab_rabbetref11 : Tab := [
  (K.rabbetref11_Place, ir_rabbetref11_Place),
  (K.rabbetref11_Order, ir_rabbetref11_Order)]

theorem cl_rabbetref11_Place {Φ : Calls'} (hT : Cl Φ tab_rabbetref11) {a0 a1 : AV} {H : AH} {Q : Post} (h : rabbetref11_Place Φ a0 a1 H Q) : Φ K.rabbetref11_Place [a0, a1] H Q := hT.call (by kernel_rfl) (by kernel_rfl) (by rw [eq_rabbetref11_Place]; exact h)
theorem cl_rabbetref11_Order {Φ : Calls'} (hT : Cl Φ tab_rabbetref11) {a0 a1 : AV} {H : AH} {Q : Post} (h : rabbetref11_Order Φ a0 a1 H Q) : Φ K.rabbetref11_Order [a0, a1] H Q := hT.call (by kernel_rfl) (by kernel_rfl) (by rw [eq_rabbetref11_Order]; exact h)
end Rb.S

/- Package rabbetref11: its functions as runs. By gen.py. -/
set_option linter.unusedVariables false
namespace Rb.R
open Go

def rabbetref11_Place_k1 (Φ : CallsB) (n : Nat) (s9 : List AV × TH) (L10 : (List AV × TH) → Bool) (Q : PostB) : List AV → TH → Bool := fun j12 H13 =>
 DoB (abin .sub (sl s9.1 1) (.int .i64 1)) fun x22 =>
 L10 ([(sl j12 0), x22], H13)
def rabbetref11_Place_k2 (Φ : CallsB) (n : Nat) (s42 : List AV × TH) (L43 : (List AV × TH) → Bool) (Q : PostB) : List AV → TH → Bool := fun j54 H55 =>
 DoB (abin .add (sl s42.1 1) (.int .i64 1)) fun x91 =>
 L43 ([(sl j54 0), x91], H55)
def rabbetref11_Place_k3 (Φ : CallsB) (n : Nat) (s120 : List AV × TH) (L121 : (List AV × TH) → Bool) (Q : PostB) : List AV → TH → Bool := fun j132 H133 =>
 DoB (abin .add (sl s120.1 1) (.int .i64 1)) fun x154 =>
 L121 ([(sl j132 0), x154], H133)
def rabbetref11_Place_k4 (Φ : CallsB) (n : Nat) (x32 : AV) (x62 : AV) (x114 : AV) (s120 : List AV × TH) (L121 : (List AV × TH) → Bool) (Q : PostB) : List AV → TH → Bool := fun j122 H123 =>
 DoB (afaddr 3 x32) fun x134 =>
 DoB (aload H123.ah 1 false x134) fun x135 =>
 DoB (aiaddr none 9 x135 (sl s120.1 1)) fun x137 =>
 DoB (afaddr 0 x137) fun x138 =>
 DoB (aload H123.ah 1 false x138) fun x139 =>
 DoB (afaddr 0 x62) fun x141 =>
 DoB (aload H123.ah 1 false x141) fun x142 =>
 DoB (abin .eql x139 x142) fun x144 =>
 GdB x144 true (
 DoB (afaddr 3 x32) fun x145 =>
 DoB (aload H123.ah 1 false x145) fun x146 =>
 DoB (aiaddr none 9 x146 (sl s120.1 1)) fun x148 =>
 DoB (afaddr 1 x148) fun x149 =>
 DoB (aload H123.ah 6 true x149) fun x150 =>
 DoB (tstore H123 6 x114 x150) fun H153 =>
 JoinB (rabbetref11_Place_k3 Φ n s120 L121 Q) [(.int .i64 0)] H153) (
 JoinB (rabbetref11_Place_k3 Φ n s120 L121 Q) [(sl s120.1 0)] H123)
def rabbetref11_Place_k5 (Φ : CallsB) (n : Nat) (x32 : AV) (x114 : AV) (s42 : List AV × TH) (L43 : (List AV × TH) → Bool) (Q : PostB) : List AV → TH → Bool := fun j118 H119 =>
 DoB (aload H119.ah 6 true x114) fun x155 =>
 DoB (tstore H119 6 x32 x155) fun H158 =>
 JoinB (rabbetref11_Place_k2 Φ n s42 L43 Q) [(sl j118 0)] H158
def rabbetref11_Place_k6 (Φ : CallsB) (n : Nat) (x32 : AV) (x62 : AV) (x114 : AV) (s42 : List AV × TH) (L43 : (List AV × TH) → Bool) (s120 : List AV × TH) (L121 : (List AV × TH) → Bool) (Q : PostB) : List AV → TH → Bool := fun j124 H125 =>
 GdB (sl j124 0) true (
 JoinB (rabbetref11_Place_k4 Φ n x32 x62 x114 s120 L121 Q) [] H125) (
 JoinB (rabbetref11_Place_k5 Φ n x32 x114 s42 L43 Q) [(sl s120.1 0)] H125)
def rabbetref11_Place_l7 (Φ : CallsB) (n : Nat) (x32 : AV) (x62 : AV) (x114 : AV) (s42 : List AV × TH) (L43 : (List AV × TH) → Bool) (Q : PostB) : (List AV × TH) → ((List AV × TH) → Bool) → Bool := fun s120 L121 =>
 DoB (afaddr 3 x32) fun x126 =>
 DoB (aload s120.2.ah 1 false x126) fun x127 =>
 DoB (alen false x127) fun x129 =>
 DoB (abin .lss (sl s120.1 1) x129) fun x130 =>
 Gd3B x130 true (
 DoB (abin .neq (sl s120.1 0) (.int .i64 0)) fun x131 =>
 JoinB (rabbetref11_Place_k6 Φ n x32 x62 x114 s42 L43 s120 L121 Q) [x131] s120.2) (
 JoinB (rabbetref11_Place_k6 Φ n x32 x62 x114 s42 L43 s120 L121 Q) [(.bool false)] s120.2) (
 false)
def rabbetref11_Place_k8 (Φ : CallsB) (n : Nat) (x32 : AV) (x62 : AV) (s42 : List AV × TH) (L43 : (List AV × TH) → Bool) (Q : PostB) : List AV → TH → Bool := fun j92 H93 =>
 GdB (sl j92 0) true (
 DoB (abuild [.int .i64 0, .int .i64 0, .bool false, .lst .nil 0 [], .int .i64 0, .lst .nil 0 []] []) fun x113 =>
 DoHB (some (tbox H93 true [.int .i64 0, .int .i64 0, .bool false, .lst .nil 0 [], .int .i64 0, .lst .nil 0 []])) fun x114 H115 =>
 DoB (tstore H115 6 x114 x113) fun H117 =>
 LoopB (rabbetref11_Place_l7 Φ n x32 x62 x114 s42 L43 Q) n ([(.int .i64 6), (.int .i64 0)], H117)) (
 JoinB (rabbetref11_Place_k2 Φ n s42 L43 Q) [(.int .i64 8)] H93)
def rabbetref11_Place_k9 (Φ : CallsB) (n : Nat) (x32 : AV) (x62 : AV) (s42 : List AV × TH) (L43 : (List AV × TH) → Bool) (Q : PostB) : List AV → TH → Bool := fun j94 H95 =>
 Gd3B (sl j94 0) true (
 DoB (afaddr 0 x32) fun x105 =>
 DoB (aload H95.ah 1 false x105) fun x106 =>
 DoB (abin .eql x106 (.int .i64 3)) fun x108 =>
 Gd3B x108 false (
 DoB (afaddr 0 x32) fun x109 =>
 DoB (aload H95.ah 1 false x109) fun x110 =>
 DoB (abin .eql x110 (.int .i64 4)) fun x112 =>
 JoinB (rabbetref11_Place_k8 Φ n x32 x62 s42 L43 Q) [x112] H95) (
 JoinB (rabbetref11_Place_k8 Φ n x32 x62 s42 L43 Q) [(.bool true)] H95) (
 false)) (
 JoinB (rabbetref11_Place_k8 Φ n x32 x62 s42 L43 Q) [(.bool false)] H95) (
 false)
def rabbetref11_Place_k10 (Φ : CallsB) (n : Nat) (x32 : AV) (x62 : AV) (s42 : List AV × TH) (L43 : (List AV × TH) → Bool) (Q : PostB) : List AV → TH → Bool := fun j66 H67 =>
 GdB (sl j66 0) true (
 DoB (afaddr 5 x32) fun x83 =>
 DoB (aload H67.ah 1 false x83) fun x84 =>
 DoB (aiaddr none 6 x84 (.int .i64 0)) fun x86 =>
 DoB (aload H67.ah 6 true x86) fun x87 =>
 DoB (tstore H67 6 x32 x87) fun H90 =>
 JoinB (rabbetref11_Place_k2 Φ n s42 L43 Q) [(sl s42.1 0)] H90) (
 DoB (afaddr 1 x62) fun x96 =>
 DoB (aload H67.ah 1 false x96) fun x97 =>
 DoB (alen false x97) fun x99 =>
 DoB (abin .eql x99 (.int .i64 0)) fun x100 =>
 Gd3B x100 true (
 DoB (afaddr 0 x62) fun x101 =>
 DoB (aload H67.ah 1 false x101) fun x102 =>
 DoB (abin .neq x102 (.str [])) fun x104 =>
 JoinB (rabbetref11_Place_k9 Φ n x32 x62 s42 L43 Q) [x104] H67) (
 JoinB (rabbetref11_Place_k9 Φ n x32 x62 s42 L43 Q) [(.bool false)] H67) (
 false))
def rabbetref11_Place_k11 (Φ : CallsB) (n : Nat) (x32 : AV) (x62 : AV) (s42 : List AV × TH) (L43 : (List AV × TH) → Bool) (Q : PostB) : List AV → TH → Bool := fun j68 H69 =>
 Gd3B (sl j68 0) true (
 DoB (afaddr 0 x32) fun x79 =>
 DoB (aload H69.ah 1 false x79) fun x80 =>
 DoB (abin .eql x80 (.int .i64 5)) fun x82 =>
 JoinB (rabbetref11_Place_k10 Φ n x32 x62 s42 L43 Q) [x82] H69) (
 JoinB (rabbetref11_Place_k10 Φ n x32 x62 s42 L43 Q) [(.bool false)] H69) (
 false)
def rabbetref11_Place_k12 (Φ : CallsB) (n : Nat) (x1 : AV) (x32 : AV) (s42 : List AV × TH) (L43 : (List AV × TH) → Bool) (Q : PostB) : List AV → TH → Bool := fun j44 H45 =>
 DoB (afaddr 1 x1) fun x56 =>
 DoB (aload H45.ah 1 false x56) fun x57 =>
 DoB (aiaddr none 2 x57 (sl s42.1 1)) fun x59 =>
 DoB (aload H45.ah 2 true x59) fun x60 =>
 DoHB (some (tbox H45 true [.str [], .lst .nil 0 []])) fun x62 H63 =>
 DoB (tstore H63 2 x62 x60) fun H65 =>
 DoB (afaddr 1 x62) fun x70 =>
 DoB (aload H65.ah 1 false x70) fun x71 =>
 DoB (alen false x71) fun x73 =>
 DoB (abin .eql x73 (.int .i64 1)) fun x74 =>
 Gd3B x74 true (
 DoB (afaddr 0 x62) fun x75 =>
 DoB (aload H65.ah 1 false x75) fun x76 =>
 DoB (abin .eql x76 (.str [])) fun x78 =>
 JoinB (rabbetref11_Place_k11 Φ n x32 x62 s42 L43 Q) [x78] H65) (
 JoinB (rabbetref11_Place_k11 Φ n x32 x62 s42 L43 Q) [(.bool false)] H65) (
 false)
def rabbetref11_Place_k13 (Φ : CallsB) (n : Nat) (x3 : AV) (x32 : AV) (Q : PostB) : List AV → TH → Bool := fun j40 H41 =>
 DoB (abin .neq (sl j40 0) (.int .i64 0)) fun x159 =>
 GdB x159 true (
 DoB (abuild [.int .i64 0, .int .i64 0, .bool false, .lst .nil 0 [], .int .i64 0, .lst .nil 0 []] []) fun x160 =>
 DoB (tstore H41 6 x3 x160) fun H162 =>
 DoB (aload H162.ah 6 true x3) fun x163 =>
 Q (.tup [x163, (sl j40 0)]) H162) (
 DoB (aload H41.ah 6 true x32) fun x164 =>
 DoB (tstore H41 6 x3 x164) fun H167 =>
 DoB (aload H167.ah 6 true x3) fun x168 =>
 Q (.tup [x168, (.int .i64 0)]) H167)
def rabbetref11_Place_k14 (Φ : CallsB) (n : Nat) (x1 : AV) (x3 : AV) (x32 : AV) (s42 : List AV × TH) (L43 : (List AV × TH) → Bool) (Q : PostB) : List AV → TH → Bool := fun j46 H47 =>
 GdB (sl j46 0) true (
 JoinB (rabbetref11_Place_k12 Φ n x1 x32 s42 L43 Q) [] H47) (
 JoinB (rabbetref11_Place_k13 Φ n x3 x32 Q) [(sl s42.1 0)] H47)
def rabbetref11_Place_l15 (Φ : CallsB) (n : Nat) (x1 : AV) (x3 : AV) (x32 : AV) (Q : PostB) : (List AV × TH) → ((List AV × TH) → Bool) → Bool := fun s42 L43 =>
 DoB (afaddr 1 x1) fun x48 =>
 DoB (aload s42.2.ah 1 false x48) fun x49 =>
 DoB (alen false x49) fun x51 =>
 DoB (abin .lss (sl s42.1 1) x51) fun x52 =>
 Gd3B x52 true (
 DoB (abin .eql (sl s42.1 0) (.int .i64 0)) fun x53 =>
 JoinB (rabbetref11_Place_k14 Φ n x1 x3 x32 s42 L43 Q) [x53] s42.2) (
 JoinB (rabbetref11_Place_k14 Φ n x1 x3 x32 s42 L43 Q) [(.bool false)] s42.2) (
 false)
def rabbetref11_Place_k16 (Φ : CallsB) (n : Nat) (a0 : AV) (x1 : AV) (x3 : AV) (Q : PostB) : List AV → TH → Bool := fun j5 H6 =>
 DoB (abin .lss (sl j5 0) (.int .i64 0)) fun x23 =>
 GdB x23 true (
 DoB (abuild [.int .i64 0, .int .i64 0, .bool false, .lst .nil 0 [], .int .i64 0, .lst .nil 0 []] []) fun x24 =>
 DoB (tstore H6 6 x3 x24) fun H26 =>
 DoB (aload H26.ah 6 true x3) fun x27 =>
 Q (.tup [x27, (.int .i64 6)]) H26) (
 DoB (aiaddr none 7 a0 (sl j5 0)) fun x28 =>
 DoB (afaddr 1 x28) fun x29 =>
 DoB (aload H6.ah 6 true x29) fun x30 =>
 DoHB (some (tbox H6 true [.int .i64 0, .int .i64 0, .bool false, .lst .nil 0 [], .int .i64 0, .lst .nil 0 []])) fun x32 H33 =>
 DoB (tstore H33 6 x32 x30) fun H35 =>
 DoB (aload H35.ah 6 true x32) fun x36 =>
Φ K.rabbetref06_Sound [x36] H35 fun x38 H39 =>
 LoopB (rabbetref11_Place_l15 Φ n x1 x3 x32 Q) n ([x38, (.int .i64 0)], H39))
def rabbetref11_Place_l17 (Φ : CallsB) (n : Nat) (a0 : AV) (x1 : AV) (x3 : AV) (Q : PostB) : (List AV × TH) → ((List AV × TH) → Bool) → Bool := fun s9 L10 =>
 DoB (abin .geq (sl s9.1 1) (.int .i64 0)) fun x11 =>
 GdB x11 true (
 DoB (aiaddr none 7 a0 (sl s9.1 1)) fun x14 =>
 DoB (afaddr 0 x14) fun x15 =>
 DoB (aload s9.2.ah 1 false x15) fun x16 =>
 DoB (afaddr 0 x1) fun x18 =>
 DoB (aload s9.2.ah 1 false x18) fun x19 =>
 DoB (abin .eql x16 x19) fun x21 =>
 GdB x21 true (
 JoinB (rabbetref11_Place_k1 Φ n s9 L10 Q) [(sl s9.1 1)] s9.2) (
 JoinB (rabbetref11_Place_k1 Φ n s9 L10 Q) [(sl s9.1 0)] s9.2)) (
 JoinB (rabbetref11_Place_k16 Φ n a0 x1 x3 Q) [(sl s9.1 0)] s9.2)
def rabbetref11_Place (Φ : CallsB) (n : Nat) (a0 : AV) (a1 : AV) (H : TH) (Q : PostB) : Bool :=
 DoHB (tboxv H false 2 a1) fun x1 H2 =>
 DoHB (some (tbox H2 true [.int .i64 0, .int .i64 0, .bool false, .lst .nil 0 [], .int .i64 0, .lst .nil 0 []])) fun x3 H4 =>
 DoB (alen false a0) fun x7 =>
 DoB (abin .sub x7 (.int .i64 1)) fun x8 =>
 LoopB (rabbetref11_Place_l17 Φ n a0 x1 x3 Q) n ([(.int .i64 (-1)), x8], H4)
theorem eq_rabbetref11_Place (Φ : CallsB) (n : Nat) (a0 a1 : AV) (H : TH) (Q : PostB) : fnB1 Φ n S.ir_rabbetref11_Place [a0, a1] H Q = rabbetref11_Place Φ n a0 a1 H Q := by kernel_rfl

def rabbetref11_Order_l1 (Φ : CallsB) (n : Nat) (a1 : AV) (j1 : List AV) (Q : PostB) : (List AV × TH) → ((List AV × TH) → Bool) → Bool := fun s6 L7 =>
 DoB (alen true (sl j1 0)) fun x8 =>
 DoB (abin .lss (sl s6.1 0) x8) fun x9 =>
 GdB x9 true (
 DoB (aidxs (sl j1 0) (sl s6.1 0)) fun x10 =>
 DoB (abin .sub x10 (.int .u8 48)) fun x11 =>
 DoB (aconv .i64 x11) fun x12 =>
 DoB (abin .eql a1 x12) fun x13 =>
 GdB x13 true (
 Q (.bool true) s6.2) (
 DoB (abin .add (sl s6.1 0) (.int .i64 1)) fun x14 =>
 L7 ([x14], s6.2))) (
 Q (.bool false) s6.2)
def rabbetref11_Order_k2 (Φ : CallsB) (n : Nat) (a1 : AV) (Q : PostB) : List AV → TH → Bool := fun j1 H2 =>
 LoopB (rabbetref11_Order_l1 Φ n a1 j1 Q) n ([(.int .i64 0)], H2)
def rabbetref11_Order_k3 (Φ : CallsB) (n : Nat) (a0 : AV) (a1 : AV) (Q : PostB) : List AV → TH → Bool := fun j18 H19 =>
 GdB (sl j18 0) true (
 JoinB (rabbetref11_Order_k2 Φ n a1 Q) [(.str [49, 50, 51, 52])] H19) (
 DoB (abin .eql a0 (.int .i64 7)) fun x21 =>
 GdB x21 true (
 JoinB (rabbetref11_Order_k2 Φ n a1 Q) [(.str [50, 51, 52])] H19) (
 JoinB (rabbetref11_Order_k2 Φ n a1 Q) [(.str [48])] H19))
def rabbetref11_Order_k4 (Φ : CallsB) (n : Nat) (a0 : AV) (a1 : AV) (Q : PostB) : List AV → TH → Bool := fun j15 H16 =>
 GdB (sl j15 0) true (
 JoinB (rabbetref11_Order_k2 Φ n a1 Q) [(.str [49, 50, 52])] H16) (
 DoB (abin .eql a0 (.int .i64 16)) fun x20 =>
 GdB x20 true (
 JoinB (rabbetref11_Order_k3 Φ n a0 a1 Q) [x20] H16) (
 DoB (abin .eql a0 (.int .i64 17)) fun x22 =>
 GdB x22 true (
 JoinB (rabbetref11_Order_k3 Φ n a0 a1 Q) [x22] H16) (
 DoB (abin .eql a0 (.int .i64 18)) fun x23 =>
 JoinB (rabbetref11_Order_k3 Φ n a0 a1 Q) [x23] H16)))
def rabbetref11_Order_k5 (Φ : CallsB) (n : Nat) (a0 : AV) (a1 : AV) (Q : PostB) : List AV → TH → Bool := fun j3 H4 =>
 GdB (sl j3 0) true (
 JoinB (rabbetref11_Order_k2 Φ n a1 Q) [(.str [49, 51, 52])] H4) (
 DoB (abin .eql a0 (.int .i64 5)) fun x17 =>
 GdB x17 true (
 JoinB (rabbetref11_Order_k4 Φ n a0 a1 Q) [x17] H4) (
 DoB (abin .eql a0 (.int .i64 15)) fun x24 =>
 JoinB (rabbetref11_Order_k4 Φ n a0 a1 Q) [x24] H4))
def rabbetref11_Order (Φ : CallsB) (n : Nat) (a0 : AV) (a1 : AV) (H : TH) (Q : PostB) : Bool :=
 DoB (abin .eql a0 (.int .i64 4)) fun x5 =>
 GdB x5 true (
 JoinB (rabbetref11_Order_k5 Φ n a0 a1 Q) [x5] H) (
 DoB (abin .eql a0 (.int .i64 6)) fun x25 =>
 JoinB (rabbetref11_Order_k5 Φ n a0 a1 Q) [x25] H)
theorem eq_rabbetref11_Order (Φ : CallsB) (n : Nat) (a0 a1 : AV) (H : TH) (Q : PostB) : fnB1 Φ n S.ir_rabbetref11_Order [a0, a1] H Q = rabbetref11_Order Φ n a0 a1 H Q := by kernel_rfl

end Rb.R

/- The seat's functions: which they are; that each is as its text says; as runs. By seat.py. -/
set_option linter.unusedVariables false
namespace Go.Proofs.YtbdhmikigkgoiaaDoor.rb
open Rb
noncomputable def fids : List (Nat × FuncId) := [(76, 3), (77, 4), (78, 5), (79, 6), (80, 7), (81, 8), (82, 9), (83, 10), (84, 11), (85, 12), (86, 13), (87, 14), (88, 15), (89, 16), (90, 17), (91, 18), (92, 19), (93, 20), (94, 21), (95, 22), (96, 23), (97, 24), (98, 25), (99, 26), (100, 27), (101, 28), (102, 29), (103, 30), (104, 31), (105, 32), (106, 33), (107, 34), (108, 35), (109, 36), (110, 37), (111, 38), (112, 39), (113, 40), (114, 41), (115, 42), (116, 43), (117, 44), (118, 45), (119, 46), (120, 47), (121, 48), (122, 49), (123, 50), (124, 51), (125, 52), (126, 53), (127, 54), (128, 55), (129, 56), (130, 57), (131, 58), (132, 59), (133, 60), (134, 61), (136, 63), (137, 64), (138, 65), (139, 66), (140, 67), (143, 70), (144, 71), (145, 72), (146, 73), (147, 74)]
noncomputable def gt (g : Nat) : Option (List AV) := if g = 0 then some asciiSpace else none
theorem gtok : ∀ g l, gt g = some l → AV.frozs l = true := by
  intro g l h
  unfold gt at h
  split at h
  · cases h; kernel_rfl
  cases h
noncomputable def C : Ctx := mkC Tryd.prog fids gt
theorem fok : FOK C := fok_of (by kernel_rfl)
theorem gtC : GTok C := gtok
theorem cl_check : Cl (ACall C) S.tab_check := Cl.of (ACall_mono C) (closed_of fok (by kernel_rfl))
theorem cl_kind : Cl (ACall C) S.tab_kind := Cl.of (ACall_mono C) (closed_of fok (by kernel_rfl))
theorem cl_layout : Cl (ACall C) S.tab_layout := Cl.of (ACall_mono C) (closed_of fok (by kernel_rfl))
theorem cl_lex : Cl (ACall C) S.tab_lex := Cl.of (ACall_mono C) (closed_of fok (by kernel_rfl))
theorem cl_libslices : Cl (ACall C) S.tab_libslices := Cl.of (ACall_mono C) (closed_of fok (by kernel_rfl))
theorem cl_libstrings : Cl (ACall C) S.tab_libstrings := Cl.of (ACall_mono C) (closed_of fok (by kernel_rfl))
theorem cl_rabbetlaw11 : Cl (ACall C) S.tab_rabbetlaw11 := Cl.of (ACall_mono C) (closed_of fok (by kernel_rfl))
theorem cl_rabbetref06 : Cl (ACall C) S.tab_rabbetref06 := Cl.of (ACall_mono C) (closed_of fok (by kernel_rfl))
theorem cl_rabbetref11 : Cl (ACall C) S.tab_rabbetref11 := Cl.of (ACall_mono C) (closed_of fok (by kernel_rfl))
noncomputable def disp (n : Nat) (Φ : CallsB) : CallsB := fun k a T Q =>
  cond (Nat.blt k 110) (cond (Nat.blt k 93) (cond (Nat.blt k 84) (cond (Nat.blt k 80) (cond (Nat.blt k 78) (cond (Nat.blt k 77) (cond (Nat.beq k 76) (ap2 (R.rabbetlaw11_CheckPlaces Φ n) a T Q) false) (cond (Nat.beq k 77) (ap2 (R.rabbetlaw11_CheckOrders Φ n) a T Q) false)) (cond (Nat.blt k 79) (cond (Nat.beq k 78) (ap2 (R.rabbetlaw11_CheckParts Φ n) a T Q) false) (cond (Nat.beq k 79) (ap1 (R.rabbetlaw11_CheckNames Φ n) a T Q) false))) (cond (Nat.blt k 82) (cond (Nat.blt k 81) (cond (Nat.beq k 80) (ap2 (R.check_Place Φ n) a T Q) false) (cond (Nat.beq k 81) (ap2 (R.rabbetref11_Place Φ n) a T Q) false)) (cond (Nat.blt k 83) (cond (Nat.beq k 82) (ap0 (R.rabbetlaw11_awake Φ n) a T Q) false) (cond (Nat.beq k 83) (ap2 (R.rabbetref06_Same Φ n) a T Q) false)))) (cond (Nat.blt k 88) (cond (Nat.blt k 86) (cond (Nat.blt k 85) (cond (Nat.beq k 84) (ap2 (R.check_Order Φ n) a T Q) false) (cond (Nat.beq k 85) (ap2 (R.rabbetref11_Order Φ n) a T Q) false)) (cond (Nat.blt k 87) (cond (Nat.beq k 86) (ap1 (R.check_Prog Φ n) a T Q) false) (cond (Nat.beq k 87) (ap2 (R.rabbetlaw11_places Φ n) a T Q) false))) (cond (Nat.blt k 90) (cond (Nat.blt k 89) (cond (Nat.beq k 88) (ap2 (R.slices_IndexFunc___api_Var_api_Var_ Φ n) a T Q) false) (cond (Nat.beq k 89) (ap2 (R.check_Place_c1 Φ n) a T Q) false)) (cond (Nat.blt k 91) (cond (Nat.beq k 90) (ap1 (R.kind_Sound Φ n) a T Q) false) (cond (Nat.blt k 92) (cond (Nat.beq k 91) (ap2 (R.check_part Φ n) a T Q) false) (cond (Nat.beq k 92) (ap1 (R.rabbetref06_Sound Φ n) a T Q) false)))))) (cond (Nat.blt k 101) (cond (Nat.blt k 97) (cond (Nat.blt k 95) (cond (Nat.blt k 94) (cond (Nat.beq k 93) (ap1 (R.check_vars Φ n) a T Q) false) (cond (Nat.beq k 94) (ap3 (R.check_checker_block Φ n) a T Q) false)) (cond (Nat.blt k 96) (cond (Nat.beq k 95) (ap1 (R.check_checker_bad Φ n) a T Q) false) (cond (Nat.beq k 96) (ap1 (R.kind_Depth Φ n) a T Q) false))) (cond (Nat.blt k 99) (cond (Nat.blt k 98) (cond (Nat.beq k 97) (ap1 (R.kind_sound Φ n) a T Q) false) (cond (Nat.beq k 98) (ap2 (R.slices_IndexFunc___api_Field_api_Field_ Φ n) a T Q) false)) (cond (Nat.blt k 100) (cond (Nat.beq k 99) (ap2 (R.check_part_c1 Φ n) a T Q) false) (cond (Nat.beq k 100) (ap2 (R.rabbetref06_Depth Φ n) a T Q) false)))) (cond (Nat.blt k 105) (cond (Nat.blt k 103) (cond (Nat.blt k 102) (cond (Nat.beq k 101) (ap1 (R.rabbetref06_inner Φ n) a T Q) false) (cond (Nat.beq k 102) (ap1 (R.kind_Name Φ n) a T Q) false)) (cond (Nat.blt k 104) (cond (Nat.beq k 103) (ap1 (R.lex_Keyword Φ n) a T Q) false) (cond (Nat.beq k 104) (ap2 (R.slices_ContainsFunc___api_Var_api_Var_ Φ n) a T Q) false))) (cond (Nat.blt k 107) (cond (Nat.blt k 106) (cond (Nat.beq k 105) (ap2 (R.check_vars_c1 Φ n) a T Q) false) (cond (Nat.beq k 106) (ap1 (R.layout_Of Φ n) a T Q) false)) (cond (Nat.blt k 108) (cond (Nat.beq k 107) (ap3 (R.check_checker_stmt Φ n) a T Q) false) (cond (Nat.blt k 109) (cond (Nat.beq k 108) (ap2 (R.kind_depth Φ n) a T Q) false) (cond (Nat.beq k 109) (ap1 (R.kind_only Φ n) a T Q) false))))))) (cond (Nat.blt k 128) (cond (Nat.blt k 118) (cond (Nat.blt k 114) (cond (Nat.blt k 112) (cond (Nat.blt k 111) (cond (Nat.beq k 110) (ap2 (R.kind_power Φ n) a T Q) false) (cond (Nat.beq k 111) (ap1 (R.kind_group Φ n) a T Q) false)) (cond (Nat.blt k 113) (cond (Nat.beq k 112) (ap2 (R.rabbetref06_size Φ n) a T Q) false) (cond (Nat.beq k 113) (ap1 (R.rabbetref06_Name Φ n) a T Q) false))) (cond (Nat.blt k 116) (cond (Nat.blt k 115) (cond (Nat.beq k 114) (ap1 (R.kind_letter Φ n) a T Q) false) (cond (Nat.beq k 115) (ap2 (R.slices_Contains___string_string_ Φ n) a T Q) false)) (cond (Nat.blt k 117) (cond (Nat.beq k 116) (ap1 (R.strings_Fields Φ n) a T Q) false) (cond (Nat.beq k 117) (ap1 (R.layout_check Φ n) a T Q) false)))) (cond (Nat.blt k 122) (cond (Nat.blt k 120) (cond (Nat.blt k 119) (cond (Nat.beq k 118) (ap3 (R.check_checker_need Φ n) a T Q) false) (cond (Nat.beq k 119) (ap1 (R.check_form Φ n) a T Q) false)) (cond (Nat.blt k 121) (cond (Nat.beq k 120) (ap2 (R.check_checker_there Φ n) a T Q) false) (cond (Nat.beq k 121) (ap4 (R.check_checker_place Φ n) a T Q) false))) (cond (Nat.blt k 124) (cond (Nat.blt k 123) (cond (Nat.beq k 122) (ap3 (R.check_checker_exprs Φ n) a T Q) false) (cond (Nat.beq k 123) (ap2 (R.kind_field Φ n) a T Q) false)) (cond (Nat.blt k 125) (cond (Nat.beq k 124) (ap2 (R.slices_Index___string_string_ Φ n) a T Q) false) (cond (Nat.blt k 127) (cond (Nat.beq k 125) (ap2 (R.strings_FieldsFunc Φ n) a T Q) false) (cond (Nat.beq k 127) (ap1 (R.layout_torn Φ n) a T Q) false)))))) (cond (Nat.blt k 137) (cond (Nat.blt k 132) (cond (Nat.blt k 130) (cond (Nat.blt k 129) (cond (Nat.beq k 128) (ap1 (R.layout_of Φ n) a T Q) false) (cond (Nat.beq k 129) (ap1 (R.check_of Φ n) a T Q) false)) (cond (Nat.blt k 131) (cond (Nat.beq k 130) (ap1 (R.check_empty Φ n) a T Q) false) (cond (Nat.beq k 131) (ap2 (R.check_fits Φ n) a T Q) false))) (cond (Nat.blt k 134) (cond (Nat.blt k 133) (cond (Nat.beq k 132) (ap3 (R.check_checker_expr Φ n) a T Q) false) (cond (Nat.beq k 133) (ap2 (R.slices_ContainsFunc___api_Field_api_Field_ Φ n) a T Q) false)) (cond (Nat.blt k 136) (cond (Nat.beq k 134) (ap2 (R.kind_field_c1 Φ n) a T Q) false) (cond (Nat.beq k 136) (ap1 (R.layout_loose Φ n) a T Q) false)))) (cond (Nat.blt k 143) (cond (Nat.blt k 139) (cond (Nat.blt k 138) (cond (Nat.beq k 137) (ap2 (R.slices_ContainsFunc___api_Type_api_Type_ Φ n) a T Q) false) (cond (Nat.beq k 138) (ap1 (R.layout_torn_c1 Φ n) a T Q) false)) (cond (Nat.blt k 140) (cond (Nat.beq k 139) (ap1 (R.layout_place Φ n) a T Q) false) (cond (Nat.beq k 140) (ap1 (R.check_formed Φ n) a T Q) false))) (cond (Nat.blt k 145) (cond (Nat.blt k 144) (cond (Nat.beq k 143) (ap1 (R.layout_loose_c1 Φ n) a T Q) false) (cond (Nat.beq k 144) (ap2 (R.slices_IndexFunc___api_Type_api_Type_ Φ n) a T Q) false)) (cond (Nat.blt k 146) (cond (Nat.beq k 145) (ap3 (R.layout_wide Φ n) a T Q) false) (cond (Nat.blt k 147) (cond (Nat.beq k 146) (ap2 (R.layout_placed_bits Φ n) a T Q) false) (cond (Nat.beq k 147) (ap2 (R.layout_up Φ n) a T Q) false)))))))
theorem dispOK (n : Nat) : DispOK (ACall C) (disp n) := fun B hB =>
  (.node 110 (.node 93 (.node 84 (.node 80 (.node 78 (.node 77 (.leaf cl_rabbetlaw11 hB (n := n) (m := 2) (ir := S.ir_rabbetlaw11_CheckPlaces) (by kernel_rfl) (by kernel_rfl) (leaf2 fun a0 a1 T Q => R.eq_rabbetlaw11_CheckPlaces B n a0 a1 T Q)) (.leaf cl_rabbetlaw11 hB (n := n) (m := 2) (ir := S.ir_rabbetlaw11_CheckOrders) (by kernel_rfl) (by kernel_rfl) (leaf2 fun a0 a1 T Q => R.eq_rabbetlaw11_CheckOrders B n a0 a1 T Q))) (.node 79 (.leaf cl_rabbetlaw11 hB (n := n) (m := 2) (ir := S.ir_rabbetlaw11_CheckParts) (by kernel_rfl) (by kernel_rfl) (leaf2 fun a0 a1 T Q => R.eq_rabbetlaw11_CheckParts B n a0 a1 T Q)) (.leaf cl_rabbetlaw11 hB (n := n) (m := 1) (ir := S.ir_rabbetlaw11_CheckNames) (by kernel_rfl) (by kernel_rfl) (leaf1 fun a0 T Q => R.eq_rabbetlaw11_CheckNames B n a0 T Q)))) (.node 82 (.node 81 (.leaf cl_check hB (n := n) (m := 2) (ir := S.ir_check_Place) (by kernel_rfl) (by kernel_rfl) (leaf2 fun a0 a1 T Q => R.eq_check_Place B n a0 a1 T Q)) (.leaf cl_rabbetref11 hB (n := n) (m := 2) (ir := S.ir_rabbetref11_Place) (by kernel_rfl) (by kernel_rfl) (leaf2 fun a0 a1 T Q => R.eq_rabbetref11_Place B n a0 a1 T Q))) (.node 83 (.leaf cl_rabbetlaw11 hB (n := n) (m := 0) (ir := S.ir_rabbetlaw11_awake) (by kernel_rfl) (by kernel_rfl) (leaf0 fun T Q => R.eq_rabbetlaw11_awake B n T Q)) (.leaf cl_rabbetref06 hB (n := n) (m := 2) (ir := S.ir_rabbetref06_Same) (by kernel_rfl) (by kernel_rfl) (leaf2 fun a0 a1 T Q => R.eq_rabbetref06_Same B n a0 a1 T Q))))) (.node 88 (.node 86 (.node 85 (.leaf cl_check hB (n := n) (m := 2) (ir := S.ir_check_Order) (by kernel_rfl) (by kernel_rfl) (leaf2 fun a0 a1 T Q => R.eq_check_Order B n a0 a1 T Q)) (.leaf cl_rabbetref11 hB (n := n) (m := 2) (ir := S.ir_rabbetref11_Order) (by kernel_rfl) (by kernel_rfl) (leaf2 fun a0 a1 T Q => R.eq_rabbetref11_Order B n a0 a1 T Q))) (.node 87 (.leaf cl_check hB (n := n) (m := 1) (ir := S.ir_check_Prog) (by kernel_rfl) (by kernel_rfl) (leaf1 fun a0 T Q => R.eq_check_Prog B n a0 T Q)) (.leaf cl_rabbetlaw11 hB (n := n) (m := 2) (ir := S.ir_rabbetlaw11_places) (by kernel_rfl) (by kernel_rfl) (leaf2 fun a0 a1 T Q => R.eq_rabbetlaw11_places B n a0 a1 T Q)))) (.node 90 (.node 89 (.leaf cl_libslices hB (n := n) (m := 2) (ir := S.ir_slices_IndexFunc___api_Var_api_Var_) (by kernel_rfl) (by kernel_rfl) (leaf2 fun a0 a1 T Q => R.eq_slices_IndexFunc___api_Var_api_Var_ B n a0 a1 T Q)) (.leaf cl_check hB (n := n) (m := 2) (ir := S.ir_check_Place_c1) (by kernel_rfl) (by kernel_rfl) (leaf2 fun a0 a1 T Q => R.eq_check_Place_c1 B n a0 a1 T Q))) (.node 91 (.leaf cl_kind hB (n := n) (m := 1) (ir := S.ir_kind_Sound) (by kernel_rfl) (by kernel_rfl) (leaf1 fun a0 T Q => R.eq_kind_Sound B n a0 T Q)) (.node 92 (.leaf cl_check hB (n := n) (m := 2) (ir := S.ir_check_part) (by kernel_rfl) (by kernel_rfl) (leaf2 fun a0 a1 T Q => R.eq_check_part B n a0 a1 T Q)) (.leaf cl_rabbetref06 hB (n := n) (m := 1) (ir := S.ir_rabbetref06_Sound) (by kernel_rfl) (by kernel_rfl) (leaf1 fun a0 T Q => R.eq_rabbetref06_Sound B n a0 T Q))))))) (.node 101 (.node 97 (.node 95 (.node 94 (.leaf cl_check hB (n := n) (m := 1) (ir := S.ir_check_vars) (by kernel_rfl) (by kernel_rfl) (leaf1 fun a0 T Q => R.eq_check_vars B n a0 T Q)) (.leaf cl_check hB (n := n) (m := 3) (ir := S.ir_check_checker_block) (by kernel_rfl) (by kernel_rfl) (leaf3 fun a0 a1 a2 T Q => R.eq_check_checker_block B n a0 a1 a2 T Q))) (.node 96 (.leaf cl_check hB (n := n) (m := 1) (ir := S.ir_check_checker_bad) (by kernel_rfl) (by kernel_rfl) (leaf1 fun a0 T Q => R.eq_check_checker_bad B n a0 T Q)) (.leaf cl_kind hB (n := n) (m := 1) (ir := S.ir_kind_Depth) (by kernel_rfl) (by kernel_rfl) (leaf1 fun a0 T Q => R.eq_kind_Depth B n a0 T Q)))) (.node 99 (.node 98 (.leaf cl_kind hB (n := n) (m := 1) (ir := S.ir_kind_sound) (by kernel_rfl) (by kernel_rfl) (leaf1 fun a0 T Q => R.eq_kind_sound B n a0 T Q)) (.leaf cl_libslices hB (n := n) (m := 2) (ir := S.ir_slices_IndexFunc___api_Field_api_Field_) (by kernel_rfl) (by kernel_rfl) (leaf2 fun a0 a1 T Q => R.eq_slices_IndexFunc___api_Field_api_Field_ B n a0 a1 T Q))) (.node 100 (.leaf cl_check hB (n := n) (m := 2) (ir := S.ir_check_part_c1) (by kernel_rfl) (by kernel_rfl) (leaf2 fun a0 a1 T Q => R.eq_check_part_c1 B n a0 a1 T Q)) (.leaf cl_rabbetref06 hB (n := n) (m := 2) (ir := S.ir_rabbetref06_Depth) (by kernel_rfl) (by kernel_rfl) (leaf2 fun a0 a1 T Q => R.eq_rabbetref06_Depth B n a0 a1 T Q))))) (.node 105 (.node 103 (.node 102 (.leaf cl_rabbetref06 hB (n := n) (m := 1) (ir := S.ir_rabbetref06_inner) (by kernel_rfl) (by kernel_rfl) (leaf1 fun a0 T Q => R.eq_rabbetref06_inner B n a0 T Q)) (.leaf cl_kind hB (n := n) (m := 1) (ir := S.ir_kind_Name) (by kernel_rfl) (by kernel_rfl) (leaf1 fun a0 T Q => R.eq_kind_Name B n a0 T Q))) (.node 104 (.leaf cl_lex hB (n := n) (m := 1) (ir := S.ir_lex_Keyword) (by kernel_rfl) (by kernel_rfl) (leaf1 fun a0 T Q => R.eq_lex_Keyword B n a0 T Q)) (.leaf cl_libslices hB (n := n) (m := 2) (ir := S.ir_slices_ContainsFunc___api_Var_api_Var_) (by kernel_rfl) (by kernel_rfl) (leaf2 fun a0 a1 T Q => R.eq_slices_ContainsFunc___api_Var_api_Var_ B n a0 a1 T Q)))) (.node 107 (.node 106 (.leaf cl_check hB (n := n) (m := 2) (ir := S.ir_check_vars_c1) (by kernel_rfl) (by kernel_rfl) (leaf2 fun a0 a1 T Q => R.eq_check_vars_c1 B n a0 a1 T Q)) (.leaf cl_layout hB (n := n) (m := 1) (ir := S.ir_layout_Of) (by kernel_rfl) (by kernel_rfl) (leaf1 fun a0 T Q => R.eq_layout_Of B n a0 T Q))) (.node 108 (.leaf cl_check hB (n := n) (m := 3) (ir := S.ir_check_checker_stmt) (by kernel_rfl) (by kernel_rfl) (leaf3 fun a0 a1 a2 T Q => R.eq_check_checker_stmt B n a0 a1 a2 T Q)) (.node 109 (.leaf cl_kind hB (n := n) (m := 2) (ir := S.ir_kind_depth) (by kernel_rfl) (by kernel_rfl) (leaf2 fun a0 a1 T Q => R.eq_kind_depth B n a0 a1 T Q)) (.leaf cl_kind hB (n := n) (m := 1) (ir := S.ir_kind_only) (by kernel_rfl) (by kernel_rfl) (leaf1 fun a0 T Q => R.eq_kind_only B n a0 T Q)))))))) (.node 128 (.node 118 (.node 114 (.node 112 (.node 111 (.leaf cl_kind hB (n := n) (m := 2) (ir := S.ir_kind_power) (by kernel_rfl) (by kernel_rfl) (leaf2 fun a0 a1 T Q => R.eq_kind_power B n a0 a1 T Q)) (.leaf cl_kind hB (n := n) (m := 1) (ir := S.ir_kind_group) (by kernel_rfl) (by kernel_rfl) (leaf1 fun a0 T Q => R.eq_kind_group B n a0 T Q))) (.node 113 (.leaf cl_rabbetref06 hB (n := n) (m := 2) (ir := S.ir_rabbetref06_size) (by kernel_rfl) (by kernel_rfl) (leaf2 fun a0 a1 T Q => R.eq_rabbetref06_size B n a0 a1 T Q)) (.leaf cl_rabbetref06 hB (n := n) (m := 1) (ir := S.ir_rabbetref06_Name) (by kernel_rfl) (by kernel_rfl) (leaf1 fun a0 T Q => R.eq_rabbetref06_Name B n a0 T Q)))) (.node 116 (.node 115 (.leaf cl_kind hB (n := n) (m := 1) (ir := S.ir_kind_letter) (by kernel_rfl) (by kernel_rfl) (leaf1 fun a0 T Q => R.eq_kind_letter B n a0 T Q)) (.leaf cl_libslices hB (n := n) (m := 2) (ir := S.ir_slices_Contains___string_string_) (by kernel_rfl) (by kernel_rfl) (leaf2 fun a0 a1 T Q => R.eq_slices_Contains___string_string_ B n a0 a1 T Q))) (.node 117 (.leaf cl_libstrings hB (n := n) (m := 1) (ir := S.ir_strings_Fields) (by kernel_rfl) (by kernel_rfl) (leaf1 fun a0 T Q => R.eq_strings_Fields B n a0 T Q)) (.leaf cl_layout hB (n := n) (m := 1) (ir := S.ir_layout_check) (by kernel_rfl) (by kernel_rfl) (leaf1 fun a0 T Q => R.eq_layout_check B n a0 T Q))))) (.node 122 (.node 120 (.node 119 (.leaf cl_check hB (n := n) (m := 3) (ir := S.ir_check_checker_need) (by kernel_rfl) (by kernel_rfl) (leaf3 fun a0 a1 a2 T Q => R.eq_check_checker_need B n a0 a1 a2 T Q)) (.leaf cl_check hB (n := n) (m := 1) (ir := S.ir_check_form) (by kernel_rfl) (by kernel_rfl) (leaf1 fun a0 T Q => R.eq_check_form B n a0 T Q))) (.node 121 (.leaf cl_check hB (n := n) (m := 2) (ir := S.ir_check_checker_there) (by kernel_rfl) (by kernel_rfl) (leaf2 fun a0 a1 T Q => R.eq_check_checker_there B n a0 a1 T Q)) (.leaf cl_check hB (n := n) (m := 4) (ir := S.ir_check_checker_place) (by kernel_rfl) (by kernel_rfl) (leaf4 fun a0 a1 a2 a3 T Q => R.eq_check_checker_place B n a0 a1 a2 a3 T Q)))) (.node 124 (.node 123 (.leaf cl_check hB (n := n) (m := 3) (ir := S.ir_check_checker_exprs) (by kernel_rfl) (by kernel_rfl) (leaf3 fun a0 a1 a2 T Q => R.eq_check_checker_exprs B n a0 a1 a2 T Q)) (.leaf cl_kind hB (n := n) (m := 2) (ir := S.ir_kind_field) (by kernel_rfl) (by kernel_rfl) (leaf2 fun a0 a1 T Q => R.eq_kind_field B n a0 a1 T Q))) (.node 125 (.leaf cl_libslices hB (n := n) (m := 2) (ir := S.ir_slices_Index___string_string_) (by kernel_rfl) (by kernel_rfl) (leaf2 fun a0 a1 T Q => R.eq_slices_Index___string_string_ B n a0 a1 T Q)) (.node 127 (.leaf cl_libstrings hB (n := n) (m := 2) (ir := S.ir_strings_FieldsFunc) (by kernel_rfl) (by kernel_rfl) (leaf2 fun a0 a1 T Q => R.eq_strings_FieldsFunc B n a0 a1 T Q)) (.leaf cl_layout hB (n := n) (m := 1) (ir := S.ir_layout_torn) (by kernel_rfl) (by kernel_rfl) (leaf1 fun a0 T Q => R.eq_layout_torn B n a0 T Q))))))) (.node 137 (.node 132 (.node 130 (.node 129 (.leaf cl_layout hB (n := n) (m := 1) (ir := S.ir_layout_of) (by kernel_rfl) (by kernel_rfl) (leaf1 fun a0 T Q => R.eq_layout_of B n a0 T Q)) (.leaf cl_check hB (n := n) (m := 1) (ir := S.ir_check_of) (by kernel_rfl) (by kernel_rfl) (leaf1 fun a0 T Q => R.eq_check_of B n a0 T Q))) (.node 131 (.leaf cl_check hB (n := n) (m := 1) (ir := S.ir_check_empty) (by kernel_rfl) (by kernel_rfl) (leaf1 fun a0 T Q => R.eq_check_empty B n a0 T Q)) (.leaf cl_check hB (n := n) (m := 2) (ir := S.ir_check_fits) (by kernel_rfl) (by kernel_rfl) (leaf2 fun a0 a1 T Q => R.eq_check_fits B n a0 a1 T Q)))) (.node 134 (.node 133 (.leaf cl_check hB (n := n) (m := 3) (ir := S.ir_check_checker_expr) (by kernel_rfl) (by kernel_rfl) (leaf3 fun a0 a1 a2 T Q => R.eq_check_checker_expr B n a0 a1 a2 T Q)) (.leaf cl_libslices hB (n := n) (m := 2) (ir := S.ir_slices_ContainsFunc___api_Field_api_Field_) (by kernel_rfl) (by kernel_rfl) (leaf2 fun a0 a1 T Q => R.eq_slices_ContainsFunc___api_Field_api_Field_ B n a0 a1 T Q))) (.node 136 (.leaf cl_kind hB (n := n) (m := 2) (ir := S.ir_kind_field_c1) (by kernel_rfl) (by kernel_rfl) (leaf2 fun a0 a1 T Q => R.eq_kind_field_c1 B n a0 a1 T Q)) (.leaf cl_layout hB (n := n) (m := 1) (ir := S.ir_layout_loose) (by kernel_rfl) (by kernel_rfl) (leaf1 fun a0 T Q => R.eq_layout_loose B n a0 T Q))))) (.node 143 (.node 139 (.node 138 (.leaf cl_libslices hB (n := n) (m := 2) (ir := S.ir_slices_ContainsFunc___api_Type_api_Type_) (by kernel_rfl) (by kernel_rfl) (leaf2 fun a0 a1 T Q => R.eq_slices_ContainsFunc___api_Type_api_Type_ B n a0 a1 T Q)) (.leaf cl_layout hB (n := n) (m := 1) (ir := S.ir_layout_torn_c1) (by kernel_rfl) (by kernel_rfl) (leaf1 fun a0 T Q => R.eq_layout_torn_c1 B n a0 T Q))) (.node 140 (.leaf cl_layout hB (n := n) (m := 1) (ir := S.ir_layout_place) (by kernel_rfl) (by kernel_rfl) (leaf1 fun a0 T Q => R.eq_layout_place B n a0 T Q)) (.leaf cl_check hB (n := n) (m := 1) (ir := S.ir_check_formed) (by kernel_rfl) (by kernel_rfl) (leaf1 fun a0 T Q => R.eq_check_formed B n a0 T Q)))) (.node 145 (.node 144 (.leaf cl_layout hB (n := n) (m := 1) (ir := S.ir_layout_loose_c1) (by kernel_rfl) (by kernel_rfl) (leaf1 fun a0 T Q => R.eq_layout_loose_c1 B n a0 T Q)) (.leaf cl_libslices hB (n := n) (m := 2) (ir := S.ir_slices_IndexFunc___api_Type_api_Type_) (by kernel_rfl) (by kernel_rfl) (leaf2 fun a0 a1 T Q => R.eq_slices_IndexFunc___api_Type_api_Type_ B n a0 a1 T Q))) (.node 146 (.leaf cl_layout hB (n := n) (m := 3) (ir := S.ir_layout_wide) (by kernel_rfl) (by kernel_rfl) (leaf3 fun a0 a1 a2 T Q => R.eq_layout_wide B n a0 a1 a2 T Q)) (.node 147 (.leaf cl_layout hB (n := n) (m := 2) (ir := S.ir_layout_placed_bits) (by kernel_rfl) (by kernel_rfl) (leaf2 fun a0 a1 T Q => R.eq_layout_placed_bits B n a0 a1 T Q)) (.leaf cl_layout hB (n := n) (m := 2) (ir := S.ir_layout_up) (by kernel_rfl) (by kernel_rfl) (leaf2 fun a0 a1 T Q => R.eq_layout_up B n a0 a1 T Q)))))))))
end Go.Proofs.YtbdhmikigkgoiaaDoor.rb

/- From what a law's function does to the statement. -/
set_option linter.unusedVariables false
namespace Rb
open Go Go.RowKit

/-- All that is there may be read, and nothing is written: frozen. -/
def allFz (W : World) : Nat → Nat → Prop := fun b o => ∃ V, W.cell? ⟨b, o, none⟩ = some V

theorem law_calls {C : Ctx} {key : Nat} {f : FuncId} {args : List AV} {Vs : Array Value} {W : World} (hf : C.F key = some f) (h : ACall C key args AH.mt (fun v _ => v = .bool true)) (hG : GOK C W (Ghost.mt (allFz W)))
    (hargs : VRs C.F W (Ghost.mt (allFz W)) args Vs) : Calls C.P f Vs W fun e W' => e = .returned (.bool true) ∧ Below W.heap.size W W' := by
  refine Calls.mono (h f hf _ W Vs hG (Rel.mt fun _ _ h => h) hargs) fun e w' he => ?_
  obtain ⟨V, v, H', G', rfl, rfl, hv, _, hst⟩ := he
  obtain rfl := hv.bool_inv
  exact ⟨rfl, hst.below⟩

/-- A variable that holds small numbers. -/
theorem fptr_of_tab {F : FTab} {W : World} {g : Nat} {k : IntKind} {zs : List Int} (h : ∀ i, i < zs.length → W.cell? ⟨g, i, none⟩ = some (.int k (zs.getD i 0))) : VR F W (Ghost.mt (allFz W)) (.fptr (zs.map (.int k))) (.pointer (some ⟨g, 0, none⟩)) := by
  refine .fptr _ g 0 (fun j => .int k (zs.getD j 0)) (fun j c hj => ?_) fun j c hj => ?_
  · have hl : j < zs.length := by simpa using (List.getElem?_eq_some_iff.1 hj).1
    rw [Nat.zero_add]
    exact ⟨⟨_, h j hl⟩, h j hl⟩
  · have hl : j < zs.length := by simpa using (List.getElem?_eq_some_iff.1 hj).1
    have : c = .int k (zs.getD j 0) := by
      rw [List.getElem?_map, List.getElem?_eq_getElem hl] at hj
      simp only [Option.map_some, Option.some.injEq] at hj
      rw [← hj, List.getD_eq_getElem?_getD, List.getElem?_eq_getElem hl]; rfl
    rw [this]
    exact .int _ _

theorem VRs.two {F : FTab} {w : World} {G : Ghost} {c d : AV} {V U : Value} (h : VR F w G c V) (h' : VR F w G d U) : VRs F w G [c, d] #[V, U] := ⟨rfl, fun j c' V' hc hV => by
  rcases j with _ | _ | j
  · simp at hc hV; subst hc; subst hV; exact h
  · simp at hc hV; subst hc; subst hV; exact h'
  · simp at hc⟩
theorem VRs.three {F : FTab} {w : World} {G : Ghost} {c d e : AV} {V U X : Value} (h : VR F w G c V) (h' : VR F w G d U) (h'' : VR F w G e X) : VRs F w G [c, d, e] #[V, U, X] := ⟨rfl, fun j c' V' hc hV => by
  rcases j with _ | _ | _ | j
  · simp at hc hV; subst hc; subst hV; exact h
  · simp at hc hV; subst hc; subst hV; exact h'
  · simp at hc hV; subst hc; subst hV; exact h''
  · simp at hc⟩

theorem asciiSpace_eq : asciiSpace = (Go.Lib.asciiSpaceTab.map (AV.int .u8)) := by kernel_rfl
end Rb

/- What all laws of the seat share: the variables that the program's text lays. By wrap.py. -/
set_option linter.unusedVariables false
namespace Go.Proofs.YtbdhmikigkgoiaaDoor.rb
open Rb Go.ChangeShapes Go.WideShapes Go.ChangeAt Go.RowKit

theorem own : ownKnob Tryd.prog.godebug = none := by kernel_rfl
theorem laidOut : laidOutB Tryd.prog = true := by kernel_rfl
theorem gT : Tryd.prog.globalNamed "strings.asciiSpace" = some 0 := by kernel_rfl
theorem gTType : (Tryd.prog.globals[0]?).map (·.type) = some 92 := by kernel_rfl
theorem cellsU : Tryd.prog.cellsOf 5 = 1 := by kernel_rfl
theorem cellsT : Tryd.prog.cellsOf 92 = 256 := by kernel_rfl
def laidVars : List (String × DataW Unit) := Rows.checkPlacesRow.laid

theorem tab_eq : (Rows.laid_strings_asciiSpace : DataW Unit) = Go.Lib.tabData .u8 Go.Lib.asciiSpaceTab := by kernel_rfl
theorem tab_mem : (("strings.asciiSpace", Go.Lib.tabData .u8 Go.Lib.asciiSpaceTab) : String × DataW Unit) ∈ laidVars := by
  rw [← tab_eq]; exact .tail _ (.head _)
theorem tab_of {W : World} (h : laidMet Tryd.prog laidVars W) : Go.Lib.TabIs Tryd.prog W "strings.asciiSpace" .u8 Go.Lib.asciiSpaceTab := by
  obtain ⟨g', t', cs, fuel, p, hg', ht', hvar, hd⟩ := Go.Lib.laidMet.reads h tab_mem
  obtain rfl := Option.some.inj (gT.symm.trans hg')
  obtain rfl := Option.some.inj (gTType.symm.trans ht')
  unfold Go.Lib.TabIs
  rw [hvar, ← Go.Lib.cells_of_tab Tryd.underlying92 Tryd.underlying5 cellsU cellsT hd]

theorem gok {W : World} (h : laidMet Tryd.prog laidVars W) : GOK C W (Ghost.mt (allFz W)) := by
  intro g l hg
  have ht := tab_of h
  change gt g = some l at hg
  unfold gt at hg
  split at hg
  · rename_i e
    subst e
    cases hg
    rw [asciiSpace_eq]
    exact fptr_of_tab fun i hi => ht.cell gT i hi
  · cases hg

/-- A world in which the variables hold what their initialisers lay. -/
noncomputable def laidWorld (os : Os) : World :=
  let N := (World.settled Tryd.prog os).heap.size
  let w0 := World.holding Tryd.prog os ⟨#[.cells (Go.Lib.whiteT.map fun (z : Nat) => Value.int .u16 (z : Int)).toArray 123, .cells #[.slice (some ⟨N, 0, none⟩) 7 7, .slice none 0 0, .int .i64 2] 120], #[], []⟩
  let put (h : Array Obj) (g : Nat) (cs : Array Value) : Array Obj := h.modify g fun
    | .cells _ t frozen => .cells cs t frozen
    | o => o
  { w0 with heap := put (put w0.heap 0 (Go.Lib.asciiSpaceTab.map fun z => Value.int .u8 z).toArray) 1 #[.pointer (some ⟨N + 1, 0, none⟩)] }
theorem laid_met (os : Os) (args : Array Value) : laidMet Tryd.prog laidVars ((laidWorld os).forCall (fun _ _ => 0) ⟨#[], args, []⟩).memory :=
  laidMet_of_run3 10 (by kernel_rfl) (by kernel_rfl) (by kernel_rfl)
theorem laid_shaped (os : Os) (args : Array Value) : ((laidWorld os).forCall (fun _ _ => 0) ⟨#[], args, []⟩).Shaped Tryd.prog := World.shaped_of_RefB (by kernel_rfl) (by kernel_rfl)
end Go.Proofs.YtbdhmikigkgoiaaDoor.rb

/- Laws for reading what a function means, by simp. -/
set_option linter.unusedVariables false
namespace Rb
open Go

@[simp] theorem Do_of {α : Type} (a : α) (K : α → Prop) : Do (some a) K ↔ K a := ⟨fun ⟨b, h, k⟩ => by cases h; exact k, fun h => ⟨a, rfl, h⟩⟩
@[simp] theorem DoH_some (v : AV) (H : AH) (K : Post) : DoH (some (v, H)) K ↔ K v H := ⟨fun ⟨a, b, h, k⟩ => by cases h; exact k, fun h => ⟨v, H, rfl, h⟩⟩
@[simp] theorem Gd_true (b : Bool) (A B : Prop) : Gd (.bool b) true A B ↔ if b = true then A else B := Iff.rfl
@[simp] theorem Gd_false (b : Bool) (A B : Prop) : Gd (.bool b) false A B ↔ if b = false then A else B := Iff.rfl
@[simp] theorem JoinP_def (K : List AV → AH → Prop) (st : List AV) (H : AH) : JoinP K st H ↔ K st H := Iff.rfl
@[simp] theorem sl_zero (a : AV) (l : List AV) : sl (a :: l) 0 = a := rfl
@[simp] theorem sl_succ (a : AV) (l : List AV) (i : Nat) : sl (a :: l) (i + 1) = sl l i := rfl

section
variable (k : IntKind) (a b : Int)
@[simp] theorem abin_add : abin .add (.int k a) (.int k b) = some (.int k (k.wrap (a + b))) := by simp [abin, abinInt]
@[simp] theorem abin_sub : abin .sub (.int k a) (.int k b) = some (.int k (k.wrap (a - b))) := by simp [abin, abinInt]
@[simp] theorem abin_mul : abin .mul (.int k a) (.int k b) = some (.int k (k.wrap (a * b))) := by simp [abin, abinInt]
@[simp] theorem abin_eql : abin .eql (.int k a) (.int k b) = some (.bool (a == b)) := by simp [abin, abinInt]
@[simp] theorem abin_neq : abin .neq (.int k a) (.int k b) = some (.bool (a != b)) := by simp [abin, abinInt]
@[simp] theorem abin_lss : abin .lss (.int k a) (.int k b) = some (.bool (decide (a < b))) := by simp [abin, abinInt]
@[simp] theorem abin_leq : abin .leq (.int k a) (.int k b) = some (.bool (decide (a ≤ b))) := by simp [abin, abinInt]
@[simp] theorem abin_gtr : abin .gtr (.int k a) (.int k b) = some (.bool (decide (a > b))) := by simp [abin, abinInt]
@[simp] theorem abin_geq : abin .geq (.int k a) (.int k b) = some (.bool (decide (a ≥ b))) := by simp [abin, abinInt]
theorem abin_rem (h : b ≠ 0) : abin .rem (.int k a) (.int k b) = some (.int k (a.tmod b)) := by simp [abin, abinInt, h]
theorem abin_quo (h : b ≠ 0) : abin .quo (.int k a) (.int k b) = some (.int k (k.wrap (a.tdiv b))) := by simp [abin, abinInt, h]
@[simp] theorem abin_and : abin .and (.int k a) (.int k b) = some (.int k (k.wrap (BitVec.ofInt k.bits a &&& BitVec.ofInt k.bits b).toNat)) := by simp [abin, abinInt, bitsOp]
@[simp] theorem abin_or : abin .or (.int k a) (.int k b) = some (.int k (k.wrap (BitVec.ofInt k.bits a ||| BitVec.ofInt k.bits b).toNat)) := by simp [abin, abinInt, bitsOp]
@[simp] theorem abin_xor : abin .xor (.int k a) (.int k b) = some (.int k (k.wrap (BitVec.ofInt k.bits a ^^^ BitVec.ofInt k.bits b).toNat)) := by simp [abin, abinInt, bitsOp]
theorem abin_shr (k' : IntKind) (h : 0 ≤ b) : abin .shr (.int k a) (.int k' b) = some (.int k (a.fdiv (2 ^ (min b.toNat k.bits)))) := by simp [abin, abinInt, Int.not_lt.2 h]
theorem abin_shl (k' : IntKind) (h : 0 ≤ b) : abin .shl (.int k a) (.int k' b) = some (.int k (k.wrap (a * 2 ^ (min b.toNat k.bits)))) := by simp [abin, abinInt, Int.not_lt.2 h]
@[simp] theorem aconv_int (k' : IntKind) : aconv k' (.int k a) = some (.int k' (k'.wrap a)) := rfl
@[simp] theorem abeq_def (neg : Bool) (x y : Bool) : abeq neg (.bool x) (.bool y) = some (.bool (if neg then !(x == y) else x == y)) := rfl
@[simp] theorem aun_not (x : Bool) : aun .not (.bool x) = some (.bool !x) := rfl
end
@[simp] theorem alen_lst (tk : Tok) (n : Nat) (cs : List AV) : alen false (.lst tk n cs) = some (.int .i64 n) := rfl
@[simp] theorem alen_row (id o n sz : Nat) : alen false (.row id o n sz) = some (.int .i64 n) := rfl
@[simp] theorem alen_str (s : List UInt8) : alen true (.str s) = some (.int .i64 s.length) := rfl

end Rb

/- Memory that only grew; numbers. -/
set_option linter.unusedVariables false
namespace Rb
open Go

/-- What was there is as it was. -/
def AH.Ext (H H' : AH) : Prop := H.n ≤ H'.n ∧ ∀ i, i < H.n → H'.o i = H.o i
theorem AH.Ext.refl (H : AH) : AH.Ext H H := ⟨Nat.le_refl _, fun _ _ => rfl⟩
theorem AH.Ext.trans {a b c : AH} (h : AH.Ext a b) (k : AH.Ext b c) : AH.Ext a c := ⟨Nat.le_trans h.1 k.1, fun i hi => (k.2 i (Nat.lt_of_lt_of_le hi h.1)).trans (h.2 i hi)⟩
theorem AH.Ext.push (H : AH) (x : AObj) : AH.Ext H (H.push x) := ⟨Nat.le_succ _, fun i hi => if_neg (Nat.ne_of_lt hi)⟩
theorem AH.Ext.set {H H' : AH} (h : AH.Ext H H') {i : Nat} (hi : H.n ≤ i) (x : AObj) : AH.Ext H (H'.set i x) := ⟨h.1, fun j hj => by
  simp only [AH.set]; rw [if_neg (by omega)]; exact h.2 j hj⟩
@[simp] theorem AH.push_n (H : AH) (x : AObj) : (H.push x).n = H.n + 1 := rfl
@[simp] theorem AH.set_n (H : AH) (i : Nat) (x : AObj) : (H.set i x).n = H.n := rfl
theorem AH.push_self (H : AH) (x : AObj) : (H.push x).o H.n = x := if_pos rfl
theorem AH.push_ne (H : AH) (x : AObj) {i : Nat} (h : i ≠ H.n) : (H.push x).o i = H.o i := if_neg h
theorem AH.set_self (H : AH) (i : Nat) (x : AObj) : (H.set i x).o i = x := if_pos rfl
theorem AH.set_ne (H : AH) {i j : Nat} (x : AObj) (h : j ≠ i) : (H.set i x).o j = H.o j := if_neg h

theorem wrap_i64 {n : Int} (h1 : -9223372036854775808 ≤ n) (h2 : n ≤ 9223372036854775807) : IntKind.wrap .i64 n = n := by
  simp [IntKind.wrap, IntKind.signed, IntKind.bits]; omega
theorem wrap_u64 {n : Int} (h1 : 0 ≤ n) (h2 : n < 18446744073709551616) : IntKind.wrap .u64 n = n := by
  simp [IntKind.wrap, IntKind.signed, IntKind.bits]; omega
theorem wrap_u8 {n : Int} (h1 : 0 ≤ n) (h2 : n < 256) : IntKind.wrap .u8 n = n := by
  simp [IntKind.wrap, IntKind.signed, IntKind.bits]; omega
theorem wrap_u32 {n : Int} (h1 : 0 ≤ n) (h2 : n < 4294967296) : IntKind.wrap .u32 n = n := by
  simp [IntKind.wrap, IntKind.signed, IntKind.bits]; omega

/-- A list that grows at its end, and that nobody else holds. -/
def Lst (H0 H : AH) (sz : Nat) (x : AV) (len : Nat) (cells : List AV) : Prop :=
  AH.Ext H0 H ∧ ∃ tk, x = .lst tk len cells ∧ cells.length = len * sz ∧ ((tk = .nil ∧ len = 0) ∨ ∃ t, tk = .own t ∧ H0.n ≤ t ∧ t < H.n ∧ H.o t = .tok (len * sz) sz)

theorem Lst.nil (H : AH) (sz : Nat) : Lst H H sz (.lst .nil 0 []) 0 [] := ⟨AH.Ext.refl H, .nil, rfl, by simp, .inl ⟨rfl, rfl⟩⟩

theorem Lst.append {H0 H : AH} {sz bytes len m : Nat} {x y : AV} {cells news : List AV} {K : Post} (h : Lst H0 H sz x len cells) (hy : acells H sz y = some (m, news)) (hn : news.length = m * sz) (hs : news.all AV.scalar = true) (hm : m ≠ 0)
    (hb : (len + m) * bytes ≤ 140737488355328) (hl : len + m ≤ 9223372036854775807) (hK : ∀ x' H', Lst H0 H' sz x' (len + m) (cells ++ news) → K x' H') : DoH (aappend H false sz bytes x y) K := by
  obtain ⟨hx, tk, rfl, hc, htk⟩ := h
  have hlen : (cells ++ news).length = (len + m) * sz := by simp [hc, hn, Nat.add_mul]
  rcases htk with ⟨rfl, rfl⟩ | ⟨t, rfl, h1, h2, h3⟩
  · refine ⟨.lst (.own H.n) (0 + m) (cells ++ news), H.push (.tok ((0 + m) * sz) sz), ?_, hK _ _ ⟨hx.trans (AH.Ext.push _ _), _, rfl, hlen, .inr ⟨H.n, rfl, hx.1, Nat.lt_succ_self _, AH.push_self _ _⟩⟩⟩
    simp only [aappend, hy, hs, not_true_eq_false, if_false, if_neg hm]
    rw [if_neg (by simp only [Decidable.not_not]; exact ⟨hc, hb, hl⟩)]
  · refine ⟨.lst (.own H.n) (len + m) (cells ++ news), (H.set t .gone).push (.tok ((len + m) * sz) sz), ?_, hK _ _ ⟨(hx.set h1 _).trans (AH.Ext.push _ _), _, rfl, hlen, .inr ⟨H.n, rfl, hx.1, Nat.lt_succ_self _, AH.push_self _ _⟩⟩⟩
    simp only [aappend, hy, hs, not_true_eq_false, if_false, if_neg hm]
    rw [if_neg (by simp only [Decidable.not_not]; exact ⟨hc, hb, hl⟩)]
    simp [h3]

/-- What stands at a place. -/
def At (H : AH) (id : Nat) (x : AObj) : Prop := id < H.n ∧ H.o id = x
theorem At.new (H : AH) (x : AObj) : At (H.push x) H.n x := ⟨Nat.lt_succ_self _, AH.push_self H x⟩
theorem At.ext {H H' : AH} {id : Nat} {x : AObj} (h : At H id x) (hE : AH.Ext H H') : At H' id x := ⟨Nat.lt_of_lt_of_le h.1 hE.1, (hE.2 id h.1).trans h.2⟩
theorem At.push {H : AH} {id : Nat} {x : AObj} (h : At H id x) (y : AObj) : At (H.push y) id x := h.ext (AH.Ext.push H y)
theorem At.set_ne {H : AH} {id i : Nat} {x : AObj} (h : At H id x) (hne : id ≠ i) (y : AObj) : At (H.set i y) id x := ⟨h.1, (AH.set_ne H y hne).trans h.2⟩
theorem At.set {H : AH} {id : Nat} {x : AObj} (h : At H id x) (y : AObj) : At (H.set id y) id y := ⟨h.1, AH.set_self H id y⟩
theorem At.ne {H : AH} {id i : Nat} {x y : AObj} (h : At H id x) (k : At H i y) (hxy : x ≠ y) : id ≠ i := fun e => hxy (by rw [← h.2, ← k.2, e])
theorem At.lt_new {H : AH} {id : Nat} {x : AObj} (h : At H id x) : id ≠ H.n := Nat.ne_of_lt h.1

theorem At.load {H : AH} {id : Nat} {cs : List AV} (h : At H id (.row cs)) (n o : Nat) (agg : Bool) : aload H n agg (.ptr id o) = takeCells cs o n agg := by simp [aload, h.2]
theorem At.store {H : AH} {id : Nat} {cs : List AV} (h : At H id (.row cs)) (n o : Nat) (v : AV) : astore H n (.ptr id o) v = if v.known ∧ v.cells.length = n ∧ v.cells.all AV.scalar ∧ o + n ≤ cs.length then some (H.set id (.row (setCells cs o v.cells))) else none := by simp [astore, h.2]

end Rb

/- Library: what slices.Index of texts gives; whether a text is a keyword. -/
set_option linter.unusedVariables false
set_option linter.unusedSimpArgs false
namespace Rb
open Go

def strCells (xs : List (List UInt8)) : List AV := xs.map .str
/-- Texts as a slice. -/
def strL (tk : Tok) (xs : List (List UInt8)) : AV := .lst tk xs.length (strCells xs)

theorem strL_read (tk : Tok) (xs : List (List UInt8)) (i : Nat) (x : List UInt8) (h : xs[i]? = some x) : aiaddr none 1 (strL tk xs) (.int .i64 i) = some (.fptr ((strCells xs).drop i)) := by
  have hi := (List.getElem?_eq_some_iff.1 h).1
  simp only [strL, aiaddr]
  rw [if_pos ⟨by omega, by omega⟩]; simp
theorem strL_load (H : AH) (xs : List (List UInt8)) (i : Nat) (x : List UInt8) (h : xs[i]? = some x) : aload H 1 false (.fptr ((strCells xs).drop i)) = some (.str x) := by
  have hi := (List.getElem?_eq_some_iff.1 h).1
  have hl : 0 + 1 ≤ ((strCells xs).drop i).length := by simp [strCells]; omega
  show takeCells ((strCells xs).drop i) 0 1 false = _
  unfold takeCells
  rw [if_pos hl]
  simp [strCells, h]

theorem Index_str {Φ : Calls'} {tk : Tok} {xs : List (List UInt8)} {s : List UInt8} {H : AH} {Q : Post} (hb : xs.length < 9223372036854775807) (hQ : Q (.int .i64 (match xs.findIdx? (fun x => s == x) with | some i => (i : Int) | none => -1)) H) : S.slices_Index___string_string_ Φ (strL tk xs) (.str s) H Q := by
  unfold S.slices_Index___string_string_
  have hlen : alen false (strL tk xs) = some (.int .i64 xs.length) := rfl
  rw [hlen]
  simp only [Do_of]
  have main : ∀ (ys : List (List UInt8)) (i : Nat), xs.drop i = ys → (Q (.int .i64 (match ys.findIdx? (fun x => s == x) with | some k => ((k + i : Nat) : Int) | none => -1)) H) → LoopP (S.slices_Index___string_string__l1 Φ (strL tk xs) (.str s) (.int .i64 xs.length) Q) ([.int .i64 i], H) := by
    intro ys
    induction ys with
    | nil =>
      intro i hi hq
      refine LoopP.step ?_
      have : xs.length ≤ i := by simpa using hi
      simp only [S.slices_Index___string_string__l1, sl_zero, abin_lss, Do_of, Gd_true]
      rw [if_neg (by simp; omega)]
      simpa using hq
    | cons y ys ih =>
      intro i hi hq
      have hlt : i < xs.length := by
        rcases Nat.lt_or_ge i xs.length with h | h
        · exact h
        · rw [List.drop_eq_nil_of_le h] at hi; cases hi
      have hy : xs[i]? = some y := by
        have := congrArg (fun l => l[0]?) hi
        simpa using this
      have hd : xs.drop (i + 1) = ys := by
        have := congrArg List.tail hi
        simpa using this
      refine LoopP.step ?_
      simp only [S.slices_Index___string_string__l1, sl_zero, abin_lss, Do_of, Gd_true]
      rw [if_pos (by simp; omega), strL_read tk xs i y hy]
      simp only [Do_of]
      rw [strL_load H xs i y hy]
      simp only [Do_of, abin, abinStr, Gd_true]
      by_cases he : (s == y) = true
      · rw [if_pos he]
        rw [List.findIdx?_cons, he] at hq
        simpa using hq
      · rw [if_neg he]
        rw [List.findIdx?_cons, if_neg he] at hq
        simp only [abin_add, abinInt, if_true, Do_of]
        rw [wrap_i64 (by omega) (by omega), show ((i : Int) + 1) = ((i + 1 : Nat) : Int) by simp]
        refine ih (i + 1) hd ?_
        cases hf : List.findIdx? (fun x => s == x) ys with
        | none => rw [hf] at hq; simpa using hq
        | some k => rw [hf] at hq; simp only [Option.map_some] at hq ⊢; rw [show k + (i + 1) = k + 1 + i by omega]; exact hq
  refine main xs 0 rfl ?_
  simpa using hQ

theorem Contains_str {Φ : Calls'} (hT : Cl Φ S.tab_libslices) {tk : Tok} {xs : List (List UInt8)} {s : List UInt8} {H : AH} {Q : Post} (hb : xs.length < 9223372036854775807) (hQ : Q (.bool (xs.any fun x => s == x)) H) : S.slices_Contains___string_string_ Φ (strL tk xs) (.str s) H Q := by
  unfold S.slices_Contains___string_string_
  refine S.cl_slices_Index___string_string_ hT (Index_str hb ?_)
  simp only [abin_geq, Do_of]
  have : (decide ((match xs.findIdx? (fun x => s == x) with | some i => (i : Int) | none => -1) ≥ 0)) = xs.any fun x => s == x := by
    cases hf : xs.findIdx? (fun x => s == x) with
    | none =>
      rw [List.findIdx?_eq_none_iff] at hf
      have : (xs.any fun x => s == x) = false := by simpa using hf
      rw [this]; rfl
    | some i =>
      have h := List.findIdx?_eq_some_iff_getElem.1 hf
      obtain ⟨hi, h1, _⟩ := h
      have : (xs.any fun x => s == x) = true := by
        rw [List.any_eq_true]; exact ⟨xs[i], List.getElem_mem hi, h1⟩
      rw [this]; simp
  rw [this]; exact hQ

def kwText : List UInt8 := [118, 97, 114, 32, 116, 104, 114, 101, 97, 100, 32, 115, 116, 114, 117, 99, 116, 32, 117, 110, 105, 111, 110, 32, 112, 97, 99, 107, 101, 100, 32, 117, 56, 32, 117, 49, 54, 32, 117, 51, 50, 32, 117, 54, 52, 32, 97, 56, 32, 97, 49, 54, 32, 97, 51, 50, 32, 97, 54, 52, 32, 97, 49, 50, 56, 32, 108, 101, 116, 32, 115, 101, 116, 32, 119, 114, 105, 116, 101, 32, 115, 116, 111, 114, 101, 32, 108, 111, 97, 100, 50, 32, 115, 116, 111, 114, 101, 50, 32, 102, 101, 110, 99, 101, 32, 105, 102, 32, 101, 108, 115, 101, 32, 119, 104, 105, 108, 101, 32, 112, 114, 105, 110, 116, 32, 114, 101, 97, 100, 32, 108, 111, 97, 100, 32, 97, 100, 100, 32, 115, 119, 97, 112, 32, 99, 97, 115, 32, 114, 108, 120, 32, 97, 99, 113, 32, 114, 101, 108, 32, 115, 99]
/-- The words of a text, by its blanks. -/
def cutB : List UInt8 → List UInt8 → List (List UInt8)
  | [], acc => [acc.reverse]
  | c :: r, acc => if c = 32 then acc.reverse :: cutB r [] else cutB r (c :: acc)
def kws : List (List UInt8) := [[118, 97, 114], [116, 104, 114, 101, 97, 100], [115, 116, 114, 117, 99, 116], [117, 110, 105, 111, 110], [112, 97, 99, 107, 101, 100], [117, 56], [117, 49, 54], [117, 51, 50], [117, 54, 52], [97, 56], [97, 49, 54], [97, 51, 50], [97, 54, 52], [97, 49, 50, 56],
  [108, 101, 116], [115, 101, 116], [119, 114, 105, 116, 101], [115, 116, 111, 114, 101], [108, 111, 97, 100, 50], [115, 116, 111, 114, 101, 50], [102, 101, 110, 99, 101], [105, 102], [101, 108, 115, 101], [119, 104, 105, 108, 101], [112, 114, 105, 110, 116], [114, 101, 97, 100], [108, 111, 97, 100], [97, 100, 100],
  [115, 119, 97, 112], [99, 97, 115], [114, 108, 120], [97, 99, 113], [114, 101, 108], [115, 99]]
def isKw (s : List UInt8) : Bool := kws.any fun x => s == x

theorem Keyword_spec {Φ : Calls'} (hS : Cl Φ S.tab_libslices) (hF : ∀ (H : AH) (Q : Post), Q (strL .dead kws) H → Φ K.strings_Fields [.str kwText] H Q) {s : List UInt8} {H : AH} {Q : Post} (hQ : Q (.bool (isKw s)) H) : S.lex_Keyword Φ (.str s) H Q := by
  unfold S.lex_Keyword
  refine hF _ _ ?_
  refine S.cl_slices_Contains___string_string_ hS (Contains_str hS (by decide) ?_)
  exact hQ
end Rb

/- More laws for reading. -/
set_option linter.unusedVariables false
namespace Rb
open Go
@[simp] theorem Gd3_true (b : Bool) (A B C : Prop) : Gd3 (.bool b) true A B C ↔ if b = true then A else B := Iff.rfl
@[simp] theorem Gd3_false (b : Bool) (A B C : Prop) : Gd3 (.bool b) false A B C ↔ if b = false then A else B := Iff.rfl
@[simp] theorem Gd3_tup (want : Bool) (A B C : Prop) : Gd3 (.tup []) want A B C ↔ C := Iff.rfl
theorem ite_both {c : Prop} [Decidable c] {A B : Prop} (h1 : c → A) (h2 : ¬ c → B) : if c then A else B := by
  split
  · exact h1 ‹_›
  · exact h2 ‹_›
theorem drop_nil_le {α : Type} {xs : List α} {i : Nat} (h : xs.drop i = []) : xs.length ≤ i := by simpa using h
theorem drop_cons_lt {α : Type} {xs ys : List α} {i : Nat} {y : α} (h : xs.drop i = y :: ys) : i < xs.length ∧ xs[i]? = some y ∧ xs.drop (i + 1) = ys := by
  have hlt : i < xs.length := by
    rcases Nat.lt_or_ge i xs.length with h' | h'
    · exact h'
    · rw [List.drop_eq_nil_of_le h'] at h; cases h
  refine ⟨hlt, ?_, ?_⟩
  · have := congrArg (fun l => l[0]?) h
    simpa using this
  · have := congrArg List.tail h
    simpa using this
end Rb

/- Which order may be of which kind of access: the program's and the document's answer. -/
set_option linter.unusedVariables false
set_option linter.unusedSimpArgs false
namespace Rb
open Go

def ordOk (k o : Int) : Bool :=
  if k = 4 ∨ k = 6 then o == 1 || o == 3 || o == 4
  else if k = 5 ∨ k = 15 then o == 1 || o == 2 || o == 4
  else if k = 16 ∨ k = 17 ∨ k = 18 then decide (1 ≤ o) && decide (o ≤ 4)
  else if k = 7 then decide (2 ≤ o) && decide (o ≤ 4)
  else o == 0

section
variable {Φ : Calls'} {k o : Int} {H : AH} {Q : Post}

theorem check_Order_spec (hQ : Q (.bool (ordOk k o)) H) : S.check_Order Φ (.int .i64 k) (.int .i64 o) H Q := by
  have e : ∀ b : Bool, b = ordOk k o → Q (.bool b) H := fun b h => by rw [h]; exact hQ
  simp only [S.check_Order, S.check_Order_k1, S.check_Order_k2, S.check_Order_k3, S.check_Order_k4, S.check_Order_k5, S.check_Order_k6, JoinP_def, sl_zero, abin_eql, abin_geq, abin_leq, Do_of, Gd_true, Gd3_true, Gd3_false, Bool.false_eq_true, if_false, if_true]
  repeat' (refine ite_both (fun h => ?_) (fun h => ?_))
  all_goals (refine e _ ?_; simp only [beq_iff_eq, decide_eq_true_eq, ge_iff_le, beq_eq_false_iff_ne, ne_eq] at *; first | (subst_vars; simp [ordOk]; done) | (simp_all [ordOk]; done) | (simp_all [ordOk]; omega) | skip)

theorem ref_loop (s : List UInt8) (hs : s.length < 1000) (hd : ∀ c ∈ s, 48 ≤ c.toNat ∧ c.toNat ≤ 57) (hQ : Q (.bool (s.any fun c => o == ((c.toNat : Int) - 48))) H) : S.rabbetref11_Order_k2 Φ (.int .i64 o) Q [.str s] H := by
  unfold S.rabbetref11_Order_k2
  have main : ∀ (ys : List UInt8) (i : Nat), s.drop i = ys → Q (.bool (ys.any fun c => o == ((c.toNat : Int) - 48))) H → LoopP (S.rabbetref11_Order_l1 Φ (.int .i64 o) [.str s] Q) ([.int .i64 i], H) := by
    intro ys
    induction ys with
    | nil =>
      intro i hi hq
      have : s.length ≤ i := by simpa using hi
      refine LoopP.step ?_
      simp only [S.rabbetref11_Order_l1, sl_zero, alen_str, abin_lss, Do_of, Gd_true]
      rw [if_neg (by simp; omega)]
      simpa using hq
    | cons y ys ih =>
      intro i hi hq
      obtain ⟨hlt, hy, hd'⟩ := drop_cons_lt hi
      have hm := hd y (List.mem_of_getElem? hy)
      refine LoopP.step ?_
      simp only [S.rabbetref11_Order_l1, sl_zero, alen_str, abin_lss, Do_of, Gd_true]
      rw [if_pos (by simp; omega)]
      have hx : aidxs (.str s) (.int .i64 i) = some (.int .u8 y.toNat) := by
        simp only [aidxs]; rw [if_pos (by omega)]; simp [hy]
      rw [hx]
      simp only [Do_of, abin_sub, aconv_int]
      rw [wrap_u8 (by omega) (by omega), wrap_i64 (by omega) (by omega)]
      simp only [abin_eql, Do_of, Gd_true]
      by_cases he : (o == ((y.toNat : Int) - 48)) = true
      · rw [if_pos he]
        rw [List.any_cons, he] at hq
        simpa using hq
      · rw [if_neg he]
        simp only [Bool.not_eq_true] at he
        rw [List.any_cons, he] at hq
        simp only [abin_add, Do_of]
        rw [wrap_i64 (by omega) (by omega), show ((i : Int) + 1) = ((i + 1 : Nat) : Int) by simp]
        exact ih (i + 1) hd' (by simpa using hq)
  exact main s 0 rfl hQ

theorem ref_Order_spec (hQ : Q (.bool (ordOk k o)) H) : S.rabbetref11_Order Φ (.int .i64 k) (.int .i64 o) H Q := by
  have e : ∀ b : Bool, b = ordOk k o → Q (.bool b) H := fun b h => by rw [h]; exact hQ
  have l : ∀ s : List UInt8, s.length < 1000 → (∀ c ∈ s, 48 ≤ c.toNat ∧ c.toNat ≤ 57) → (s.any fun c => o == ((c.toNat : Int) - 48)) = ordOk k o → S.rabbetref11_Order_k2 Φ (.int .i64 o) Q [.str s] H := fun s h1 h2 h3 => ref_loop s h1 h2 (e _ h3)
  simp only [S.rabbetref11_Order, S.rabbetref11_Order_k3, S.rabbetref11_Order_k4, S.rabbetref11_Order_k5, JoinP_def, sl_zero, abin_eql, Do_of, Gd_true]
  repeat' (refine ite_both (fun h => ?_) (fun h => ?_))
  all_goals (refine l _ (by decide) (by decide) ?_; simp only [beq_iff_eq] at *; first | (subst_vars; simp [ordOk]; done) | (subst_vars; simp [ordOk]; rw [Bool.eq_iff_iff]; simp; omega) | (simp_all [ordOk]; done) | (simp_all [ordOk]; rw [Bool.eq_iff_iff]; simp; omega) | skip)
end
end Rb

/- Law 11, CheckOrders: the runs. -/
set_option linter.unusedVariables false
namespace Go.Proofs.YtbdhmikigkgoiaaDoor.rb
open Rb
noncomputable section

def M0 : Memo := fun _ _ => none
theorem M0_ok : MemoOK (ACall C) M0 := fun _ _ _ h => by cases h
def B0 : CallsB := runM M0 (disp 4096) 60
theorem B0_ok : SoundB (ACall C) B0 := runM_sound M0_ok (dispOK 4096) 60
theorem fields_run : B0 K.strings_Fields [.str kwText] TH.mt (fun u _ => u.same (strL .dead kws)) = true := by kernel_rfl
theorem fields (H : AH) (Q : Post) (hQ : Q (strL .dead kws) H) : ACall C K.strings_Fields [.str kwText] H Q := run_any gtC B0_ok (by kernel_rfl) (by kernel_rfl) fields_run H Q hQ
theorem keyword (s : List UInt8) (H : AH) (Q : Post) (hQ : Q (.bool (isKw s)) H) : ACall C K.lex_Keyword [.str s] H Q := S.cl_lex_Keyword cl_lex (Keyword_spec cl_libslices fields hQ)
def M1 : Memo := fun k a => cond (Nat.beq k K.lex_Keyword) (match a with | [.str s] => some (.bool (isKw s)) | _ => none) none
theorem M1_ok : MemoOK (ACall C) M1 := by
  intro k a v h H Q hQ
  unfold M1 at h
  cases hb : Nat.beq k K.lex_Keyword with
  | false => rw [hb] at h; cases h
  | true =>
    rw [hb] at h
    obtain rfl := Nat.eq_of_beq_eq_true hb
    simp only [cond_true] at h
    split at h
    · cases h; exact keyword _ H Q hQ
    · cases h
def B1 : CallsB := runM M1 (disp 4096) 60
theorem B1_ok : SoundB (ACall C) B1 := runM_sound M1_ok (dispOK 4096) 60
theorem awake_run : B1 K.rabbetlaw11_awake [] TH.mt (fun u _ => u.same (.bool true)) = true := by kernel_rfl
theorem awake (H : AH) (Q : Post) (hQ : Q (.bool true) H) : ACall C K.rabbetlaw11_awake [] H Q := run_any gtC B1_ok (by kernel_rfl) (by kernel_rfl) awake_run H Q hQ

theorem checkOrders.any (k : Int) (_ : -9223372036854775808 ≤ k) (_ : k ≤ 9223372036854775807) (o : Int) (_ : -9223372036854775808 ≤ o) (_ : o ≤ 9223372036854775807) :
    ACall C K.rabbetlaw11_CheckOrders [.int .i64 k, .int .i64 o] AH.mt (fun v _ => v = .bool true) := by
  refine S.cl_rabbetlaw11_CheckOrders cl_rabbetlaw11 ?_
  unfold S.rabbetlaw11_CheckOrders
  refine awake _ _ ?_
  simp only [Gd3_true, if_true]
  refine S.cl_check_Order cl_check (check_Order_spec ?_)
  refine S.cl_rabbetref11_Order cl_rabbetref11 (ref_Order_spec ?_)
  simp
end
end Go.Proofs.YtbdhmikigkgoiaaDoor.rb

set_option linter.unusedVariables false
set_option linter.unusedSimpArgs false
namespace Go.Proofs.YtbdhmikigkgoiaaDoor.rb.checkOrders
open Rb Go.ChangeShapes Go.WideShapes Go.ChangeAt Go.RowKit

set_option maxRecDepth 100000 in
theorem lifted (os : Os) (started : os.Started) (H : Type) (enc : TypeId × Value → H) :
    ReturnsInHanded {} Tryd.checked os 4 .any (fun w args => (Rows.checkOrdersSpec.pre enc Tryd.prog Tryd.f4 [] false w args ∧ laidMet Tryd.prog laidVars w) ∧ sizedMet enc Tryd.prog Tryd.f4 (OpenSpec.ofChange Rows.checkOrdersSpec) false w args)
      (Rows.checkOrdersSpec.post enc Tryd.prog Tryd.f4 false true false false) := by
  refine returnsInHanded_of_change_and (C := Tryd.checked) (X := fun w _ => laidMet Tryd.prog laidVars w) (fun _ _ _ hh h => h.of_heap hh) own started (by kernel_rfl) Tryd.func4
    (ChangeSpec.witness_shaped (enc := enc) (C := Tryd.checked) (os := os) (X := fun w _ => laidMet Tryd.prog laidVars w) false (laidWorld os) #[.int .i64 0, .int .i64 0] 8 rfl (laid_shaped os _) (by kernel_rfl) (by kernel_rfl) (by kernel_rfl) (laid_met os _)) ?_
  intro W base args ds gs before hval0 hW _ _ hL _
  have hval : ∀ (j : Nat) t v, Tryd.f4.params[j]? = some t → args[j]? = some v → Value.okWide Tryd.prog W .any base t v := hval0
  have hW' := hW
  obtain ⟨p, q, hA0, hV0, rfl, hfz, hnd⟩ := hW
  have hA : DataW.TrodAll enc Tryd.prog W 0 (fun _ => true) true Tryd.f4.params.toList args.toList ds p := hA0
  have hV : DataW.TrodVars enc Tryd.prog W (fun _ => true) [] gs q := hV0
  rw [Tryd.params4] at hA hval
  obtain ⟨v0, v1, d0, d1, p0, p1, rfl, rfl, rfl, h0, h1⟩ := trodAll_two hA
  obtain ⟨rfl, rfl⟩ : gs = [] ∧ q = [] := by
    cases gs with
    | nil => exact ⟨rfl, hV⟩
    | cons g r => exact absurd hV (by intro h; cases h)
  obtain ⟨a0, rfl, rfl, rfl, w0⟩ := open_int Tryd.underlying3 (hval 0 3 v0 rfl rfl) h0
  have b0 : IntKind.min .i64 ≤ a0 ∧ a0 ≤ IntKind.max .i64 := by simpa [Lit.wf] using w0
  simp only [IntKind.min, IntKind.max, IntKind.signed, IntKind.bits, if_true, if_false, Bool.false_eq_true] at b0
  obtain ⟨a1, rfl, rfl, rfl, w1⟩ := open_int Tryd.underlying3 (hval 1 3 v1 rfl rfl) h1
  have b1 : IntKind.min .i64 ≤ a1 ∧ a1 ≤ IntKind.max .i64 := by simpa [Lit.wf] using w1
  simp only [IntKind.min, IntKind.max, IntKind.signed, IntKind.bits, if_true, if_false, Bool.false_eq_true] at b1
  refine (law_calls (C := C) (f := 4) (by kernel_rfl) (any a0 (by omega) (by omega) a1 (by omega) (by omega)) (gok hL) (VRs.two (.int _ _) (.int _ _))).mono fun e W' ⟨he, hbel⟩ => ?_
  subst he
  exact ⟨_, rfl, post_true (bt := 4) hW' laidOut (by kernel_rfl) (by kernel_rfl) (by kernel_rfl) Tryd.underlying4 rfl hbel⟩

theorem row : Rows.CheckOrdersSaid :=
  OpenClaim.holds_of_wide 4 Tryd.f4 rfl rfl rfl rfl rfl rfl rfl ⟨rfl, rfl, rfl, rfl, rfl⟩ rfl rfl rfl rfl rfl (by kernel_rfl) Tryd.func4 (by kernel_rfl)
    (of_decide_eq_true (by kernel_rfl)) (by unfold Func.isWrapper; first | (rw [if_pos (by decide +kernel)]; kernel_rfl) | (rw [if_neg (by decide +kernel)]; exact ⟨rfl, rfl⟩))
    (fun os started H enc _ => lifted os started H enc)
end Go.Proofs.YtbdhmikigkgoiaaDoor.rb.checkOrders
namespace Go.Proofs.YtbdhmikigkgoiaaDoor
open Go

theorem checkOrders_holds : Rows.CheckOrdersCardSaid :=
  Claim7.holds_tied_plain_at .later [] [.listed, .data] true (true, "fe79205d27e6a4c4e75f659dc7eb807d007b4b6c6878879a89c0fe886c43f2cd") false
    rb.checkOrders.row (fun _ h => by cases h) (by kernel_rfl) (fun _ h => by cases h) checkOrders_row_tie rfl ⟨rfl, rfl⟩ (by kernel_rfl) rfl
    (fun f fn hf hfn => by
      obtain rfl : f = 4 := Option.some.inj ((show Tryd.prog.funcNamed Rows.checkOrdersRow.func = some 4 by kernel_rfl).symm.trans hf) |>.symm
      obtain rfl : fn = Tryd.f4 := (Option.some.inj (Tryd.func4.symm.trans hfn)).symm
      exact ⟨by kernel_rfl, fun j t ht => by
        rw [Tryd.params4] at ht
        rcases j with _ | _ | j
        · obtain rfl : t = 3 := by simpa using ht.symm
          exact (show Tryd.prog.wantsStandIn 3 = false by kernel_rfl)
        · obtain rfl : t = 3 := by simpa using ht.symm
          exact (show Tryd.prog.wantsStandIn 3 = false by kernel_rfl)
        · simp at ht⟩)
    (by kernel_rfl)
#print axioms checkOrders_holds
end Go.Proofs.YtbdhmikigkgoiaaDoor
