/- A part of the proof (part 3): see the last text. -/
import Derived.Test.YthmmfdmmhpbpnaaDoorRb2
import Derived.KernelRfl
/- Package lex: its functions as runs. By gen.py. -/
set_option linter.unusedVariables false
namespace Rb.R
open Go

def lex_Keyword (Φ : CallsB) (n : Nat) (a0 : AV) (H : TH) (Q : PostB) : Bool :=
Φ K.strings_Fields [(.str [118, 97, 114, 32, 116, 104, 114, 101, 97, 100, 32, 115, 116, 114, 117, 99, 116, 32, 117, 110, 105, 111, 110, 32, 112, 97, 99, 107, 101, 100, 32, 117, 56, 32, 117, 49, 54, 32, 117, 51, 50, 32, 117, 54, 52, 32, 97, 56, 32, 97, 49, 54, 32, 97, 51, 50, 32, 97, 54, 52, 32, 97, 49, 50, 56, 32, 108, 101, 116, 32, 115, 101, 116, 32, 119, 114, 105, 116, 101, 32, 115, 116, 111, 114, 101, 32, 108, 111, 97, 100, 50, 32, 115, 116, 111, 114, 101, 50, 32, 102, 101, 110, 99, 101, 32, 105, 102, 32, 101, 108, 115, 101, 32, 119, 104, 105, 108, 101, 32, 112, 114, 105, 110, 116, 32, 114, 101, 97, 100, 32, 108, 111, 97, 100, 32, 97, 100, 100, 32, 115, 119, 97, 112, 32, 99, 97, 115, 32, 114, 108, 120, 32, 97, 99, 113, 32, 114, 101, 108, 32, 115, 99])] H fun x1 H2 =>
Φ K.slices_Contains___string_string_ [x1, a0] H2 fun x3 H4 =>
 Q x3 H4
theorem eq_lex_Keyword (Φ : CallsB) (n : Nat) (a0 : AV) (H : TH) (Q : PostB) : fnB1 Φ n S.ir_lex_Keyword [a0] H Q = lex_Keyword Φ n a0 H Q := by kernel_rfl

def lex_Tokens_k1 (Φ : CallsB) (n : Nat) (x1 : AV) (x10 : AV) (Q : PostB) : List AV → TH → Bool := fun j12 H13 =>
 DoB (anilck x10) fun x33 =>
 DoB (afaddr 3 x33) fun x34 =>
 DoB (aload H13.ah 1 false x34) fun x35 =>
 DoB (abuild [.int .i64 0, .int .i64 0] []) fun x37 =>
 DoB (tstore H13 2 x1 x37) fun H39 =>
 DoB (aload H39.ah 2 true x1) fun x40 =>
 Q (.tup [x35, x40]) H39
def lex_Tokens_l2 (Φ : CallsB) (n : Nat) (a0 : AV) (x1 : AV) (x10 : AV) (Q : PostB) : (List AV × TH) → ((List AV × TH) → Bool) → Bool := fun s14 L15 =>
 DoB (anilck x10) fun x16 =>
 DoB (afaddr 1 x16) fun x17 =>
 DoB (aload s14.2.ah 1 false x17) fun x18 =>
 DoB (alen true a0) fun x20 =>
 DoB (abin .lss x18 x20) fun x21 =>
 GdB x21 true (
Φ K.lex_scanner_next [x10] s14.2 fun x22 H23 =>
 DoB (aun .not x22) fun x24 =>
 GdB x24 true (
 DoB (anilck x10) fun x25 =>
 DoB (afaddr 2 x25) fun x26 =>
 DoB (aload H23.ah 1 false x26) fun x27 =>
 DoB (abuild [.int .i64 0, .int .i64 0] [(0, 1, x27), (1, 1, (.int .i64 3))]) fun x29 =>
 DoB (tstore H23 2 x1 x29) fun H31 =>
 DoB (aload H31.ah 2 true x1) fun x32 =>
 Q (.tup [(.lst .nil 0 []), x32]) H31) (
 L15 ([], H23))) (
 JoinB (lex_Tokens_k1 Φ n x1 x10 Q) [] s14.2)
def lex_Tokens (Φ : CallsB) (n : Nat) (a0 : AV) (H : TH) (Q : PostB) : Bool :=
 DoHB (some (tbox H true [.int .i64 0, .int .i64 0])) fun x1 H2 =>
 DoB (alen true a0) fun x3 =>
 DoB (abin .gtr x3 (.int .i64 1048576)) fun x4 =>
 GdB x4 true (
 DoB (abuild [.int .i64 0, .int .i64 0] [(1, 1, (.int .i64 12))]) fun x5 =>
 DoB (tstore H2 2 x1 x5) fun H7 =>
 DoB (aload H7.ah 2 true x1) fun x8 =>
 Q (.tup [(.lst .nil 0 []), x8]) H7) (
 DoB (abuild [.str [], .int .i64 0, .int .i64 0, .lst .nil 0 []] [(0, 1, a0), (2, 1, (.int .i64 1))]) fun x9 =>
 DoHB (tboxv H2 true 4 x9) fun x10 H11 =>
 LoopB (lex_Tokens_l2 Φ n a0 x1 x10 Q) n ([], H11))
theorem eq_lex_Tokens (Φ : CallsB) (n : Nat) (a0 : AV) (H : TH) (Q : PostB) : fnB1 Φ n S.ir_lex_Tokens [a0] H Q = lex_Tokens Φ n a0 H Q := by kernel_rfl

def lex_scanner_next (Φ : CallsB) (n : Nat) (a0 : AV) (H : TH) (Q : PostB) : Bool :=
 DoB (anilck a0) fun x1 =>
 DoB (afaddr 0 x1) fun x2 =>
 DoB (aload H.ah 1 false x2) fun x3 =>
 DoB (anilck a0) fun x5 =>
 DoB (afaddr 1 x5) fun x6 =>
 DoB (aload H.ah 1 false x6) fun x7 =>
 DoB (aidxs x3 x7) fun x9 =>
 DoB (abin .eql x9 (.int .u8 10)) fun x10 =>
 GdB x10 true (
 DoB (anilck a0) fun x11 =>
 DoB (afaddr 2 x11) fun x12 =>
 DoB (aload H.ah 1 false x12) fun x13 =>
 DoB (abin .add x13 (.int .i64 1)) fun x15 =>
 DoB (anilck a0) fun x16 =>
 DoB (afaddr 2 x16) fun x17 =>
 DoB (tstore H 1 x17 x15) fun H19 =>
 DoB (anilck a0) fun x20 =>
 DoB (afaddr 1 x20) fun x21 =>
 DoB (aload H19.ah 1 false x21) fun x22 =>
 DoB (abin .add x22 (.int .i64 1)) fun x24 =>
 DoB (anilck a0) fun x25 =>
 DoB (afaddr 1 x25) fun x26 =>
 DoB (tstore H19 1 x26 x24) fun H28 =>
 Q (.bool true) H28) (
 DoB (abin .eql x9 (.int .u8 32)) fun x29 =>
 GdB x29 true (
 DoB (anilck a0) fun x30 =>
 DoB (afaddr 1 x30) fun x31 =>
 DoB (aload H.ah 1 false x31) fun x32 =>
 DoB (abin .add x32 (.int .i64 1)) fun x34 =>
 DoB (anilck a0) fun x35 =>
 DoB (afaddr 1 x35) fun x36 =>
 DoB (tstore H 1 x36 x34) fun H38 =>
 Q (.bool true) H38) (
Φ K.lex_letter [x9] H fun x39 H40 =>
 GdB x39 true (
Φ K.lex_scanner_word [a0] H40 fun x41 H42 =>
 Q x41 H42) (
Φ K.lex_digit [x9] H40 fun x43 H44 =>
 GdB x43 true (
Φ K.lex_scanner_number [a0] H44 fun x45 H46 =>
 Q x45 H46) (
Φ K.lex_scanner_sign [a0] H44 fun x47 H48 =>
 Q x47 H48))))
theorem eq_lex_scanner_next (Φ : CallsB) (n : Nat) (a0 : AV) (H : TH) (Q : PostB) : fnB1 Φ n S.ir_lex_scanner_next [a0] H Q = lex_scanner_next Φ n a0 H Q := by kernel_rfl

def lex_letter (Φ : CallsB) (n : Nat) (a0 : AV) (H : TH) (Q : PostB) : Bool :=
 DoB (abin .geq a0 (.int .u8 97)) fun x1 =>
 Gd3B x1 true (
 DoB (abin .leq a0 (.int .u8 122)) fun x2 =>
 Q x2 H) (
 Q (.bool false) H) (
 false)
theorem eq_lex_letter (Φ : CallsB) (n : Nat) (a0 : AV) (H : TH) (Q : PostB) : fnB1 Φ n S.ir_lex_letter [a0] H Q = lex_letter Φ n a0 H Q := by kernel_rfl

def lex_scanner_word (Φ : CallsB) (n : Nat) (a0 : AV) (H : TH) (Q : PostB) : Bool :=
Φ K.lex_scanner_run [a0, (.fn K.lex_part [])] H fun x1 H2 =>
 DoB (abin .gtr x1 (.int .i64 16)) fun x3 =>
 GdB x3 true (
 Q (.bool false) H2) (
Φ K.lex_scanner_take [a0, x1] H2 fun x4 H5 =>
 Q (.bool true) H5)
theorem eq_lex_scanner_word (Φ : CallsB) (n : Nat) (a0 : AV) (H : TH) (Q : PostB) : fnB1 Φ n S.ir_lex_scanner_word [a0] H Q = lex_scanner_word Φ n a0 H Q := by kernel_rfl

def lex_digit (Φ : CallsB) (n : Nat) (a0 : AV) (H : TH) (Q : PostB) : Bool :=
 DoB (abin .geq a0 (.int .u8 48)) fun x1 =>
 Gd3B x1 true (
 DoB (abin .leq a0 (.int .u8 57)) fun x2 =>
 Q x2 H) (
 Q (.bool false) H) (
 false)
theorem eq_lex_digit (Φ : CallsB) (n : Nat) (a0 : AV) (H : TH) (Q : PostB) : fnB1 Φ n S.ir_lex_digit [a0] H Q = lex_digit Φ n a0 H Q := by kernel_rfl

def lex_scanner_number_k1 (Φ : CallsB) (n : Nat) (a0 : AV) (x1 : AV) (Q : PostB) : List AV → TH → Bool := fun j29 H30 =>
Φ K.lex_scanner_take [a0, x1] H30 fun x47 H48 =>
 Q (.bool true) H48
def lex_scanner_number_k2 (Φ : CallsB) (n : Nat) (a0 : AV) (x1 : AV) (Q : PostB) : List AV → TH → Bool := fun j41 H42 =>
 GdB (sl j41 0) true (
 Q (.bool false) H42) (
 JoinB (lex_scanner_number_k1 Φ n a0 x1 Q) [] H42)
def lex_scanner_number_k3 (Φ : CallsB) (n : Nat) (a0 : AV) (x1 : AV) (Q : PostB) : List AV → TH → Bool := fun j21 H22 =>
 DoB (anilck a0) fun x31 =>
 DoB (afaddr 0 x31) fun x32 =>
 DoB (aload H22.ah 1 false x32) fun x33 =>
 DoB (anilck a0) fun x35 =>
 DoB (afaddr 1 x35) fun x36 =>
 DoB (aload H22.ah 1 false x36) fun x37 =>
 DoB (abin .add x37 x1) fun x39 =>
 DoB (asslice x33 (some x39) none) fun x40 =>
 DoB (abin .neq x40 (.str [])) fun x43 =>
 Gd3B x43 true (
 DoB (aidxs x40 (.int .i64 0)) fun x44 =>
Φ K.lex_part [x44] H22 fun x45 H46 =>
 JoinB (lex_scanner_number_k2 Φ n a0 x1 Q) [x45] H46) (
 JoinB (lex_scanner_number_k2 Φ n a0 x1 Q) [(.bool false)] H22) (
 false)
def lex_scanner_number_k4 (Φ : CallsB) (n : Nat) (a0 : AV) (x1 : AV) (Q : PostB) : List AV → TH → Bool := fun j23 H24 =>
 GdB (sl j23 0) true (
 Q (.bool false) H24) (
 JoinB (lex_scanner_number_k3 Φ n a0 x1 Q) [] H24)
def lex_scanner_number (Φ : CallsB) (n : Nat) (a0 : AV) (H : TH) (Q : PostB) : Bool :=
Φ K.lex_scanner_run [a0, (.fn K.lex_digit [])] H fun x1 H2 =>
 DoB (anilck a0) fun x3 =>
 DoB (afaddr 0 x3) fun x4 =>
 DoB (aload H2.ah 1 false x4) fun x5 =>
 DoB (anilck a0) fun x7 =>
 DoB (afaddr 1 x7) fun x8 =>
 DoB (aload H2.ah 1 false x8) fun x9 =>
 DoB (anilck a0) fun x11 =>
 DoB (afaddr 1 x11) fun x12 =>
 DoB (aload H2.ah 1 false x12) fun x13 =>
 DoB (abin .add x13 x1) fun x15 =>
 DoB (asslice x5 (some x9) (some x15)) fun x16 =>
Φ K.strconv_ParseUint [x16, (.int .i64 10), (.int .i64 64)] H2 fun x17 H18 =>
 DoB (aextract 0 x17) fun x19 =>
 DoB (aextract 1 x17) fun x20 =>
 DoB (anil .i true x20) fun x25 =>
 Gd3B x25 false (
 DoB (abin .gtr x1 (.int .i64 1)) fun x26 =>
 Gd3B x26 true (
 DoB (aidxs x16 (.int .i64 0)) fun x27 =>
 DoB (abin .eql x27 (.int .u8 48)) fun x28 =>
 JoinB (lex_scanner_number_k4 Φ n a0 x1 Q) [x28] H18) (
 JoinB (lex_scanner_number_k4 Φ n a0 x1 Q) [(.bool false)] H18) (
 false)) (
 JoinB (lex_scanner_number_k4 Φ n a0 x1 Q) [(.bool true)] H18) (
 false)
theorem eq_lex_scanner_number (Φ : CallsB) (n : Nat) (a0 : AV) (H : TH) (Q : PostB) : fnB1 Φ n S.ir_lex_scanner_number [a0] H Q = lex_scanner_number Φ n a0 H Q := by kernel_rfl

def lex_scanner_sign_k1 (Φ : CallsB) (n : Nat) (a0 : AV) (Q : PostB) : List AV → TH → Bool := fun j1 H2 =>
 DoB (anilck a0) fun x23 =>
 DoB (afaddr 0 x23) fun x24 =>
 DoB (aload H2.ah 1 false x24) fun x25 =>
 DoB (anilck a0) fun x27 =>
 DoB (afaddr 1 x27) fun x28 =>
 DoB (aload H2.ah 1 false x28) fun x29 =>
 DoB (aidxs x25 x29) fun x31 =>
Φ K.strings_IndexByte [(.str [123, 125, 91, 93, 40, 41, 59, 58, 44, 46, 95, 61, 43, 45, 42, 38, 124, 94, 60]), x31] H2 fun x32 H33 =>
 DoB (abin .lss x32 (.int .i64 0)) fun x34 =>
 GdB x34 true (
 Q (.bool false) H33) (
Φ K.lex_scanner_take [a0, (.int .i64 1)] H33 fun x35 H36 =>
 Q (.bool true) H36)
def lex_scanner_sign_l2 (Φ : CallsB) (n : Nat) (a0 : AV) (x3 : AV) (Q : PostB) : (List AV × TH) → ((List AV × TH) → Bool) → Bool := fun s4 L5 =>
 DoB (abin .lss (sl s4.1 0) (.int .i64 4)) fun x6 =>
 GdB x6 true (
 DoB (aidx 4 1 false x3 (sl s4.1 0)) fun x7 =>
 DoB (anilck a0) fun x8 =>
 DoB (afaddr 0 x8) fun x9 =>
 DoB (aload s4.2.ah 1 false x9) fun x10 =>
 DoB (anilck a0) fun x12 =>
 DoB (afaddr 1 x12) fun x13 =>
 DoB (aload s4.2.ah 1 false x13) fun x14 =>
 DoB (asslice x10 (some x14) none) fun x16 =>
Φ K.strings_HasPrefix [x16, x7] s4.2 fun x17 H18 =>
 GdB x17 true (
 DoB (alen true x7) fun x19 =>
Φ K.lex_scanner_take [a0, x19] H18 fun x20 H21 =>
 Q (.bool true) H21) (
 DoB (abin .add (sl s4.1 0) (.int .i64 1)) fun x22 =>
 L5 ([x22], H18))) (
 JoinB (lex_scanner_sign_k1 Φ n a0 Q) [] s4.2)
def lex_scanner_sign (Φ : CallsB) (n : Nat) (a0 : AV) (H : TH) (Q : PostB) : Bool :=
 DoB (abuild [.str [], .str [], .str [], .str []] [(0, 1, (.str [60, 60])), (1, 1, (.str [62, 62])), (2, 1, (.str [61, 61])), (3, 1, (.str [33, 61]))]) fun x3 =>
 LoopB (lex_scanner_sign_l2 Φ n a0 x3 Q) n ([(.int .i64 0)], H)
theorem eq_lex_scanner_sign (Φ : CallsB) (n : Nat) (a0 : AV) (H : TH) (Q : PostB) : fnB1 Φ n S.ir_lex_scanner_sign [a0] H Q = lex_scanner_sign Φ n a0 H Q := by kernel_rfl

def lex_scanner_run_k1 (Φ : CallsB) (n : Nat) (s7 : List AV × TH) (L8 : (List AV × TH) → Bool) (Q : PostB) : List AV → TH → Bool := fun j9 H10 =>
 DoB (abin .add (sl s7.1 0) (.int .i64 1)) fun x28 =>
 L8 ([x28], H10)
def lex_scanner_run_k2 (Φ : CallsB) (n : Nat) (a0 : AV) (Q : PostB) : List AV → TH → Bool := fun j5 H6 =>
 DoB (anilck a0) fun x29 =>
 DoB (afaddr 1 x29) fun x30 =>
 DoB (aload H6.ah 1 false x30) fun x31 =>
 DoB (abin .sub (sl j5 0) x31) fun x33 =>
 Q x33 H6
def lex_scanner_run_k3 (Φ : CallsB) (n : Nat) (a0 : AV) (s7 : List AV × TH) (L8 : (List AV × TH) → Bool) (Q : PostB) : List AV → TH → Bool := fun j11 H12 =>
 GdB (sl j11 0) true (
 JoinB (lex_scanner_run_k1 Φ n s7 L8 Q) [] H12) (
 JoinB (lex_scanner_run_k2 Φ n a0 Q) [(sl s7.1 0)] H12)
def lex_scanner_run_l4 (Φ : CallsB) (n : Nat) (a0 : AV) (a1 : AV) (Q : PostB) : (List AV × TH) → ((List AV × TH) → Bool) → Bool := fun s7 L8 =>
 DoB (anilck a0) fun x13 =>
 DoB (afaddr 0 x13) fun x14 =>
 DoB (aload s7.2.ah 1 false x14) fun x15 =>
 DoB (alen true x15) fun x17 =>
 DoB (abin .lss (sl s7.1 0) x17) fun x18 =>
 Gd3B x18 true (
 DoB (anilck a0) fun x19 =>
 DoB (afaddr 0 x19) fun x20 =>
 DoB (aload s7.2.ah 1 false x20) fun x21 =>
 DoB (aidxs x21 (sl s7.1 0)) fun x23 =>
 clB Φ a1 [x23] s7.2 fun x24 H25 =>
 JoinB (lex_scanner_run_k3 Φ n a0 s7 L8 Q) [x24] H25) (
 JoinB (lex_scanner_run_k3 Φ n a0 s7 L8 Q) [(.bool false)] s7.2) (
 false)
def lex_scanner_run (Φ : CallsB) (n : Nat) (a0 : AV) (a1 : AV) (H : TH) (Q : PostB) : Bool :=
 DoB (anilck a0) fun x1 =>
 DoB (afaddr 1 x1) fun x2 =>
 DoB (aload H.ah 1 false x2) fun x3 =>
 LoopB (lex_scanner_run_l4 Φ n a0 a1 Q) n ([x3], H)
theorem eq_lex_scanner_run (Φ : CallsB) (n : Nat) (a0 a1 : AV) (H : TH) (Q : PostB) : fnB1 Φ n S.ir_lex_scanner_run [a0, a1] H Q = lex_scanner_run Φ n a0 a1 H Q := by kernel_rfl

def lex_part_k1 (Φ : CallsB) (n : Nat) (a0 : AV) (Q : PostB) : List AV → TH → Bool := fun j1 H2 =>
 Gd3B (sl j1 0) false (
 DoB (abin .eql a0 (.int .u8 95)) fun x7 =>
 Q x7 H2) (
 Q (.bool true) H2) (
 false)
def lex_part (Φ : CallsB) (n : Nat) (a0 : AV) (H : TH) (Q : PostB) : Bool :=
Φ K.lex_letter [a0] H fun x3 H4 =>
 Gd3B x3 false (
Φ K.lex_digit [a0] H4 fun x5 H6 =>
 JoinB (lex_part_k1 Φ n a0 Q) [x5] H6) (
 JoinB (lex_part_k1 Φ n a0 Q) [(.bool true)] H4) (
 false)
theorem eq_lex_part (Φ : CallsB) (n : Nat) (a0 : AV) (H : TH) (Q : PostB) : fnB1 Φ n S.ir_lex_part [a0] H Q = lex_part Φ n a0 H Q := by kernel_rfl

def lex_scanner_take (Φ : CallsB) (n : Nat) (a0 : AV) (a1 : AV) (H : TH) (Q : PostB) : Bool :=
 DoB (anilck a0) fun x1 =>
 DoB (afaddr 3 x1) fun x2 =>
 DoB (aload H.ah 1 false x2) fun x3 =>
 DoB (anilck a0) fun x5 =>
 DoB (afaddr 0 x5) fun x6 =>
 DoB (aload H.ah 1 false x6) fun x7 =>
 DoB (anilck a0) fun x9 =>
 DoB (afaddr 1 x9) fun x10 =>
 DoB (aload H.ah 1 false x10) fun x11 =>
 DoB (anilck a0) fun x13 =>
 DoB (afaddr 1 x13) fun x14 =>
 DoB (aload H.ah 1 false x14) fun x15 =>
 DoB (abin .add x15 a1) fun x17 =>
 DoB (asslice x7 (some x11) (some x17)) fun x18 =>
 DoB (anilck a0) fun x19 =>
 DoB (afaddr 2 x19) fun x20 =>
 DoB (aload H.ah 1 false x20) fun x21 =>
 DoB (abuild [.str [], .int .i64 0] [(0, 1, x18), (1, 1, x21)]) fun x23 =>
 DoHB (tbslice H false 2 1 [.str [], .int .i64 0] [(0, 2, x23)]) fun x24 H25 =>
 DoHB (tappend H25 false 2 24 x3 x24) fun x26 H27 =>
 DoB (anilck a0) fun x28 =>
 DoB (afaddr 3 x28) fun x29 =>
 DoB (tstore H27 1 x29 x26) fun H31 =>
 DoB (anilck a0) fun x32 =>
 DoB (afaddr 1 x32) fun x33 =>
 DoB (aload H31.ah 1 false x33) fun x34 =>
 DoB (abin .add x34 a1) fun x36 =>
 DoB (anilck a0) fun x37 =>
 DoB (afaddr 1 x37) fun x38 =>
 DoB (tstore H31 1 x38 x36) fun H40 =>
 Q (.tup []) H40
theorem eq_lex_scanner_take (Φ : CallsB) (n : Nat) (a0 a1 : AV) (H : TH) (Q : PostB) : fnB1 Φ n S.ir_lex_scanner_take [a0, a1] H Q = lex_scanner_take Φ n a0 a1 H Q := by kernel_rfl

end Rb.R

/- Package libinternalstrconv: its functions in the small language, and what they mean. By gen.py. -/
set_option linter.unusedVariables false
namespace Rb.S
open Go

/-! internal/strconv.ParseUint -/
def internal_strconv_ParseUint_k1 (Φ : Calls') (s22 : List AV × AH) (L23 : (List AV × AH) → Prop) (Q : Post) : List AV → AH → Prop := fun j25 H26 =>
 Do (abin .add (sl s22.1 2) (.int .i64 1)) fun x34 =>
 L23 ([(sl j25 0), (sl j25 1), x34], H26)
def internal_strconv_ParseUint_k2 (Φ : Calls') (x17 : AV) (x46 : AV) (s22 : List AV × AH) (L23 : (List AV × AH) → Prop) (j29 : List AV) (Q : Post) : List AV → AH → Prop := fun j47 H48 =>
 Gd (sl j47 0) true (
 Q (.tup [x17, (.iface 76 (.int .i64 1))]) H48) (
 JoinP (internal_strconv_ParseUint_k1 Φ s22 L23 Q) [(sl j29 0), x46] H48)
def internal_strconv_ParseUint_k3 (Φ : Calls') (x17 : AV) (j3 : List AV) (j12 : List AV) (s22 : List AV × AH) (L23 : (List AV × AH) → Prop) (Q : Post) : List AV → AH → Prop := fun j29 H30 =>
 Do (aconv .u8 (sl j3 1)) fun x40 =>
 Do (abin .geq (sl j29 1) x40) fun x41 =>
 Gd x41 true (
 Q (.tup [(.int .u64 0), (.iface 76 (.int .i64 2))]) H30) (
 Do (abin .geq (sl s22.1 1) (sl j12 0)) fun x42 =>
 Gd x42 true (
 Q (.tup [x17, (.iface 76 (.int .i64 1))]) H30) (
 Do (aconv .u64 (sl j3 1)) fun x43 =>
 Do (abin .mul (sl s22.1 1) x43) fun x44 =>
 Do (aconv .u64 (sl j29 1)) fun x45 =>
 Do (abin .add x44 x45) fun x46 =>
 Do (abin .lss x46 x44) fun x49 =>
 Gd3 x49 false (
 Do (abin .gtr x46 x17) fun x50 =>
 JoinP (internal_strconv_ParseUint_k2 Φ x17 x46 s22 L23 j29 Q) [x50] H30) (
 JoinP (internal_strconv_ParseUint_k2 Φ x17 x46 s22 L23 j29 Q) [(.bool true)] H30) (
 False)))
def internal_strconv_ParseUint_k4 (Φ : Calls') (x17 : AV) (x28 : AV) (j3 : List AV) (j12 : List AV) (s22 : List AV × AH) (L23 : (List AV × AH) → Prop) (Q : Post) : List AV → AH → Prop := fun j51 H52 =>
 Gd (sl j51 0) true (
Φ K.internal_strconv_lower [x28] H52 fun x59 H60 =>
 Do (abin .sub x59 (.int .u8 97)) fun x61 =>
 Do (abin .add x61 (.int .u8 10)) fun x62 =>
 JoinP (internal_strconv_ParseUint_k3 Φ x17 j3 j12 s22 L23 Q) [(sl s22.1 0), x62] H60) (
 Q (.tup [(.int .u64 0), (.iface 76 (.int .i64 2))]) H52)
def internal_strconv_ParseUint_k5 (Φ : Calls') (x17 : AV) (x28 : AV) (j3 : List AV) (j12 : List AV) (s22 : List AV × AH) (L23 : (List AV × AH) → Prop) (Q : Post) : List AV → AH → Prop := fun j35 H36 =>
 Gd (sl j35 0) true (
 Do (abin .sub x28 (.int .u8 48)) fun x39 =>
 JoinP (internal_strconv_ParseUint_k3 Φ x17 j3 j12 s22 L23 Q) [(sl s22.1 0), x39] H36) (
Φ K.internal_strconv_lower [x28] H36 fun x53 H54 =>
 Do (abin .leq (.int .u8 97) x53) fun x55 =>
 Gd3 x55 true (
Φ K.internal_strconv_lower [x28] H54 fun x56 H57 =>
 Do (abin .leq x56 (.int .u8 122)) fun x58 =>
 JoinP (internal_strconv_ParseUint_k4 Φ x17 x28 j3 j12 s22 L23 Q) [x58] H57) (
 JoinP (internal_strconv_ParseUint_k4 Φ x17 x28 j3 j12 s22 L23 Q) [(.bool false)] H54) (
 False))
def internal_strconv_ParseUint_k6 (Φ : Calls') (x17 : AV) (x28 : AV) (j3 : List AV) (j12 : List AV) (s22 : List AV × AH) (L23 : (List AV × AH) → Prop) (Q : Post) : List AV → AH → Prop := fun j31 H32 =>
 Gd (sl j31 0) true (
 JoinP (internal_strconv_ParseUint_k1 Φ s22 L23 Q) [(.bool true), (sl s22.1 1)] H32) (
 Do (abin .leq (.int .u8 48) x28) fun x37 =>
 Gd3 x37 true (
 Do (abin .leq x28 (.int .u8 57)) fun x38 =>
 JoinP (internal_strconv_ParseUint_k5 Φ x17 x28 j3 j12 s22 L23 Q) [x38] H32) (
 JoinP (internal_strconv_ParseUint_k5 Φ x17 x28 j3 j12 s22 L23 Q) [(.bool false)] H32) (
 False))
def internal_strconv_ParseUint_k7 (Φ : Calls') (j18 : List AV) (Q : Post) : List AV → AH → Prop := fun j63 H64 =>
 Q (.tup [(sl j18 1), (.nilif)]) H64
def internal_strconv_ParseUint_k8 (Φ : Calls') (j18 : List AV) (Q : Post) : List AV → AH → Prop := fun j65 H66 =>
 Gd (sl j65 0) true (
 Q (.tup [(.int .u64 0), (.iface 76 (.int .i64 2))]) H66) (
 JoinP (internal_strconv_ParseUint_k7 Φ j18 Q) [] H66)
def internal_strconv_ParseUint_k9 (Φ : Calls') (a0 : AV) (Q : Post) : List AV → AH → Prop := fun j18 H19 =>
 Gd3 (sl j18 0) true (
Φ K.internal_strconv_underscoreOK [a0] H19 fun x67 H68 =>
 Do (aun .not x67) fun x69 =>
 JoinP (internal_strconv_ParseUint_k8 Φ j18 Q) [x69] H68) (
 JoinP (internal_strconv_ParseUint_k8 Φ j18 Q) [(.bool false)] H19) (
 False)
def internal_strconv_ParseUint_l10 (Φ : Calls') (a0 : AV) (x2 : AV) (x17 : AV) (x20 : AV) (x21 : AV) (j3 : List AV) (j12 : List AV) (Q : Post) : (List AV × AH) → ((List AV × AH) → Prop) → Prop := fun s22 L23 =>
 Do (abin .lss (sl s22.1 2) x21) fun x24 =>
 Gd x24 true (
 Do (aiaddr none 1 x20 (sl s22.1 2)) fun x27 =>
 Do (aload s22.2 1 false x27) fun x28 =>
 Do (abin .eql x28 (.int .u8 95)) fun x33 =>
 Gd3 x33 true (
 JoinP (internal_strconv_ParseUint_k6 Φ x17 x28 j3 j12 s22 L23 Q) [x2] s22.2) (
 JoinP (internal_strconv_ParseUint_k6 Φ x17 x28 j3 j12 s22 L23 Q) [(.bool false)] s22.2) (
 False)) (
 JoinP (internal_strconv_ParseUint_k9 Φ a0 Q) [(sl s22.1 0), (sl s22.1 1)] s22.2)
def internal_strconv_ParseUint_k11 (Φ : Calls') (a0 : AV) (x2 : AV) (j3 : List AV) (j9 : List AV) (Q : Post) : List AV → AH → Prop := fun j12 H13 =>
 Do (aconv .u64 (sl j9 0)) fun x15 =>
 Do (abin .shl (.int .u64 1) x15) fun x16 =>
 Do (abin .sub x16 (.int .u64 1)) fun x17 =>
 Do (asbytes (sl j3 0)) fun x20 =>
 Do (alen false x20) fun x21 =>
 LoopP (internal_strconv_ParseUint_l10 Φ a0 x2 x17 x20 x21 j3 j12 Q) ([(.bool false), (.int .u64 0), (.int .i64 0)], H13)
def internal_strconv_ParseUint_k12 (Φ : Calls') (a0 : AV) (x2 : AV) (j3 : List AV) (Q : Post) : List AV → AH → Prop := fun j9 H10 =>
 Do (abin .eql (sl j3 1) (.int .i64 10)) fun x14 =>
 Gd x14 true (
 JoinP (internal_strconv_ParseUint_k11 Φ a0 x2 j3 j9 Q) [(.int .u64 1844674407370955162)] H10) (
 Do (abin .eql (sl j3 1) (.int .i64 16)) fun x70 =>
 Gd x70 true (
 JoinP (internal_strconv_ParseUint_k11 Φ a0 x2 j3 j9 Q) [(.int .u64 1152921504606846976)] H10) (
 Do (aconv .u64 (sl j3 1)) fun x71 =>
 Do (abin .quo (.int .u64 18446744073709551615) x71) fun x72 =>
 Do (abin .add x72 (.int .u64 1)) fun x73 =>
 JoinP (internal_strconv_ParseUint_k11 Φ a0 x2 j3 j9 Q) [x73] H10))
def internal_strconv_ParseUint_k13 (Φ : Calls') (a0 : AV) (a2 : AV) (x2 : AV) (j3 : List AV) (Q : Post) : List AV → AH → Prop := fun j74 H75 =>
 Gd (sl j74 0) true (
 Q (.tup [(.int .u64 0), (.iface 76 (.int .i64 4))]) H75) (
 JoinP (internal_strconv_ParseUint_k12 Φ a0 x2 j3 Q) [a2] H75)
def internal_strconv_ParseUint_k14 (Φ : Calls') (a0 : AV) (a2 : AV) (x2 : AV) (Q : Post) : List AV → AH → Prop := fun j3 H4 =>
 Do (abin .eql a2 (.int .i64 0)) fun x11 =>
 Gd x11 true (
 JoinP (internal_strconv_ParseUint_k12 Φ a0 x2 j3 Q) [(.int .i64 64)] H4) (
 Do (abin .lss a2 (.int .i64 0)) fun x76 =>
 Gd3 x76 false (
 Do (abin .gtr a2 (.int .i64 64)) fun x77 =>
 JoinP (internal_strconv_ParseUint_k13 Φ a0 a2 x2 j3 Q) [x77] H4) (
 JoinP (internal_strconv_ParseUint_k13 Φ a0 a2 x2 j3 Q) [(.bool true)] H4) (
 False))
def internal_strconv_ParseUint_k15 (Φ : Calls') (a0 : AV) (a2 : AV) (x2 : AV) (Q : Post) : List AV → AH → Prop := fun j99 H100 =>
 Gd (sl j99 0) true (
 Do (asslice a0 (some (.int .i64 2)) none) fun x107 =>
 JoinP (internal_strconv_ParseUint_k14 Φ a0 a2 x2 Q) [x107, (.int .i64 16)] H100) (
 Do (asslice a0 (some (.int .i64 1)) none) fun x108 =>
 JoinP (internal_strconv_ParseUint_k14 Φ a0 a2 x2 Q) [x108, (.int .i64 8)] H100)
def internal_strconv_ParseUint_k16 (Φ : Calls') (a0 : AV) (a2 : AV) (x2 : AV) (Q : Post) : List AV → AH → Prop := fun j90 H91 =>
 Gd (sl j90 0) true (
 Do (asslice a0 (some (.int .i64 2)) none) fun x98 =>
 JoinP (internal_strconv_ParseUint_k14 Φ a0 a2 x2 Q) [x98, (.int .i64 8)] H91) (
 Do (alen true a0) fun x101 =>
 Do (abin .geq x101 (.int .i64 3)) fun x102 =>
 Gd3 x102 true (
 Do (aidxs a0 (.int .i64 1)) fun x103 =>
Φ K.internal_strconv_lower [x103] H91 fun x104 H105 =>
 Do (abin .eql x104 (.int .u8 120)) fun x106 =>
 JoinP (internal_strconv_ParseUint_k15 Φ a0 a2 x2 Q) [x106] H105) (
 JoinP (internal_strconv_ParseUint_k15 Φ a0 a2 x2 Q) [(.bool false)] H91) (
 False))
def internal_strconv_ParseUint_k17 (Φ : Calls') (a0 : AV) (a2 : AV) (x2 : AV) (Q : Post) : List AV → AH → Prop := fun j81 H82 =>
 Gd (sl j81 0) true (
 Do (asslice a0 (some (.int .i64 2)) none) fun x89 =>
 JoinP (internal_strconv_ParseUint_k14 Φ a0 a2 x2 Q) [x89, (.int .i64 2)] H82) (
 Do (alen true a0) fun x92 =>
 Do (abin .geq x92 (.int .i64 3)) fun x93 =>
 Gd3 x93 true (
 Do (aidxs a0 (.int .i64 1)) fun x94 =>
Φ K.internal_strconv_lower [x94] H82 fun x95 H96 =>
 Do (abin .eql x95 (.int .u8 111)) fun x97 =>
 JoinP (internal_strconv_ParseUint_k16 Φ a0 a2 x2 Q) [x97] H96) (
 JoinP (internal_strconv_ParseUint_k16 Φ a0 a2 x2 Q) [(.bool false)] H82) (
 False))
def internal_strconv_ParseUint_k18 (Φ : Calls') (a0 : AV) (a1 : AV) (a2 : AV) (x2 : AV) (Q : Post) : List AV → AH → Prop := fun j5 H6 =>
 Gd (sl j5 0) true (
 JoinP (internal_strconv_ParseUint_k14 Φ a0 a2 x2 Q) [a0, a1] H6) (
 Do (abin .eql a1 (.int .i64 0)) fun x78 =>
 Gd x78 true (
 Do (aidxs a0 (.int .i64 0)) fun x79 =>
 Do (abin .eql x79 (.int .u8 48)) fun x80 =>
 Gd x80 true (
 Do (alen true a0) fun x83 =>
 Do (abin .geq x83 (.int .i64 3)) fun x84 =>
 Gd3 x84 true (
 Do (aidxs a0 (.int .i64 1)) fun x85 =>
Φ K.internal_strconv_lower [x85] H6 fun x86 H87 =>
 Do (abin .eql x86 (.int .u8 98)) fun x88 =>
 JoinP (internal_strconv_ParseUint_k17 Φ a0 a2 x2 Q) [x88] H87) (
 JoinP (internal_strconv_ParseUint_k17 Φ a0 a2 x2 Q) [(.bool false)] H6) (
 False)) (
 JoinP (internal_strconv_ParseUint_k14 Φ a0 a2 x2 Q) [a0, (.int .i64 10)] H6)) (
 Q (.tup [(.int .u64 0), (.iface 76 (.int .i64 3))]) H6))
def internal_strconv_ParseUint (Φ : Calls') (a0 : AV) (a1 : AV) (a2 : AV) (H : AH) (Q : Post) : Prop :=
 Do (abin .eql a0 (.str [])) fun x1 =>
 Gd x1 true (
 Q (.tup [(.int .u64 0), (.iface 76 (.int .i64 2))]) H) (
 Do (abin .eql a1 (.int .i64 0)) fun x2 =>
 Do (abin .leq (.int .i64 2) a1) fun x7 =>
 Gd3 x7 true (
 Do (abin .leq a1 (.int .i64 36)) fun x8 =>
 JoinP (internal_strconv_ParseUint_k18 Φ a0 a1 a2 x2 Q) [x8] H) (
 JoinP (internal_strconv_ParseUint_k18 Φ a0 a1 a2 x2 Q) [(.bool false)] H) (
 False))
def ir_internal_strconv_ParseUint : AFunc := ⟨172, [.tmp 6, .tmp 7],
 .seq (.region [
   ⟨some 6, .mv (.k (.int .u64 0)), none⟩,
   ⟨some 7, .mv (.k (.nilif)), none⟩])
 (.seq (.seq (.region [
   ⟨some 18, .mv (.t 0), none⟩,
   ⟨some 19, .bin .eql (.t 18) (.k (.str [])), none⟩])
 (.cond (.t 19) (.seq (.region [
     ⟨some 20, .mkif 76 (.k (.int .i64 2)), none⟩,
     ⟨some 6, .mv (.k (.int .u64 0)), none⟩,
     ⟨some 7, .mv (.t 20), none⟩])
   (.ret))
   (.skip)))
 (.seq (.region [
   ⟨some 21, .mv (.t 1), none⟩,
   ⟨some 22, .bin .eql (.t 21) (.k (.int .i64 0)), none⟩,
   ⟨some 8, .mv (.t 22), none⟩])
 (.seq (.region [
   ⟨some 23, .mv (.t 0), none⟩,
   ⟨some 9, .mv (.t 23), none⟩])
 (.join [0, 1] [6, 7, 24, 25, 26, 27, 28, 29, 30, 31, 32, 33, 34, 35, 36, 37, 38, 39, 40, 41, 42, 43, 44, 45, 46, 47, 48, 49, 50, 51, 52, 53, 54, 55, 56, 57, 58, 59, 60, 61, 62, 63, 64, 65, 66, 67, 68, 69, 70, 71, 72, 73, 74, 75] (.block 0 (.join [25] [26, 27, 28, 29, 30, 31] (.region [
   ⟨some 26, .mv (.t 1), none⟩,
   ⟨some 27, .bin .leq (.k (.int .i64 2)) (.t 26), none⟩,
   ⟨some 28, .mv (.t 27), none⟩,
   ⟨some 29, .mv (.t 1), some (28, true)⟩,
   ⟨some 30, .bin .leq (.t 29) (.k (.int .i64 36)), some (28, true)⟩,
   ⟨some 31, .pick (.t 28) (.t 30) (.k (.bool false)), none⟩,
   ⟨some 25, .mv (.t 31), none⟩])
 (.cond (.t 25) (.skip)
   (.seq (.region [
     ⟨some 33, .mv (.t 1), none⟩,
     ⟨some 34, .bin .eql (.t 33) (.k (.int .i64 0)), none⟩,
     ⟨some 32, .mv (.t 34), none⟩])
   (.cond (.t 32) (.seq (.region [
       ⟨some 1, .mv (.k (.int .i64 10)), none⟩])
     (.seq (.region [
       ⟨some 35, .mv (.t 0), none⟩,
       ⟨some 36, .idxs (.t 35) (.k (.int .i64 0)), none⟩,
       ⟨some 37, .bin .eql (.t 36) (.k (.int .u8 48)), none⟩])
     (.cond (.t 37) (.block 1 (.join [40] [41, 42, 43, 44, 45, 46, 47, 48, 49] (.region [
         ⟨some 41, .mv (.t 0), none⟩,
         ⟨some 42, .len true (.t 41), none⟩,
         ⟨some 43, .bin .geq (.t 42) (.k (.int .i64 3)), none⟩,
         ⟨some 44, .mv (.t 43), none⟩,
         ⟨some 45, .mv (.t 0), some (44, true)⟩,
         ⟨some 46, .idxs (.t 45) (.k (.int .i64 1)), some (44, true)⟩,
         ⟨some 47, .call K.internal_strconv_lower [(.t 46)], some (44, true)⟩,
         ⟨some 48, .bin .eql (.t 47) (.k (.int .u8 98)), some (44, true)⟩,
         ⟨some 49, .pick (.t 44) (.t 48) (.k (.bool false)), none⟩,
         ⟨some 40, .mv (.t 49), none⟩])
       (.cond (.t 40) (.seq (.region [
           ⟨some 1, .mv (.k (.int .i64 2)), none⟩])
         (.region [
           ⟨some 50, .mv (.t 0), none⟩,
           ⟨some 51, .sslice (.t 50) (some (.k (.int .i64 2))) none, none⟩,
           ⟨some 0, .mv (.t 51), none⟩]))
         (.join [52] [53, 54, 55, 56, 57, 58, 59, 60, 61] (.region [
           ⟨some 53, .mv (.t 0), none⟩,
           ⟨some 54, .len true (.t 53), none⟩,
           ⟨some 55, .bin .geq (.t 54) (.k (.int .i64 3)), none⟩,
           ⟨some 56, .mv (.t 55), none⟩,
           ⟨some 57, .mv (.t 0), some (56, true)⟩,
           ⟨some 58, .idxs (.t 57) (.k (.int .i64 1)), some (56, true)⟩,
           ⟨some 59, .call K.internal_strconv_lower [(.t 58)], some (56, true)⟩,
           ⟨some 60, .bin .eql (.t 59) (.k (.int .u8 111)), some (56, true)⟩,
           ⟨some 61, .pick (.t 56) (.t 60) (.k (.bool false)), none⟩,
           ⟨some 52, .mv (.t 61), none⟩])
         (.cond (.t 52) (.seq (.region [
             ⟨some 1, .mv (.k (.int .i64 8)), none⟩])
           (.region [
             ⟨some 62, .mv (.t 0), none⟩,
             ⟨some 63, .sslice (.t 62) (some (.k (.int .i64 2))) none, none⟩,
             ⟨some 0, .mv (.t 63), none⟩]))
           (.join [64] [65, 66, 67, 68, 69, 70, 71, 72, 73] (.region [
             ⟨some 65, .mv (.t 0), none⟩,
             ⟨some 66, .len true (.t 65), none⟩,
             ⟨some 67, .bin .geq (.t 66) (.k (.int .i64 3)), none⟩,
             ⟨some 68, .mv (.t 67), none⟩,
             ⟨some 69, .mv (.t 0), some (68, true)⟩,
             ⟨some 70, .idxs (.t 69) (.k (.int .i64 1)), some (68, true)⟩,
             ⟨some 71, .call K.internal_strconv_lower [(.t 70)], some (68, true)⟩,
             ⟨some 72, .bin .eql (.t 71) (.k (.int .u8 120)), some (68, true)⟩,
             ⟨some 73, .pick (.t 68) (.t 72) (.k (.bool false)), none⟩,
             ⟨some 64, .mv (.t 73), none⟩])
           (.cond (.t 64) (.seq (.region [
               ⟨some 1, .mv (.k (.int .i64 16)), none⟩])
             (.region [
               ⟨some 74, .mv (.t 0), none⟩,
               ⟨some 75, .sslice (.t 74) (some (.k (.int .i64 2))) none, none⟩,
               ⟨some 0, .mv (.t 75), none⟩]))
             (.seq (.region [
               ⟨some 1, .mv (.k (.int .i64 8)), none⟩])
             (.region [
               ⟨some 38, .mv (.t 0), none⟩,
               ⟨some 39, .sslice (.t 38) (some (.k (.int .i64 1))) none, none⟩,
               ⟨some 0, .mv (.t 39), none⟩])))))))))
       (.skip))))
     (.seq (.region [
       ⟨some 24, .mkif 76 (.k (.int .i64 3)), none⟩,
       ⟨some 6, .mv (.k (.int .u64 0)), none⟩,
       ⟨some 7, .mv (.t 24), none⟩])
     (.ret)))))))
 (.join [2] [6, 7, 76, 77, 78, 79, 80, 81, 82, 83, 84] (.seq (.region [
   ⟨some 76, .mv (.t 2), none⟩,
   ⟨some 77, .bin .eql (.t 76) (.k (.int .i64 0)), none⟩])
 (.cond (.t 77) (.region [
     ⟨some 2, .mv (.k (.int .i64 64)), none⟩])
   (.join [83] [78, 79, 80, 81, 82] (.region [
     ⟨some 78, .mv (.t 2), none⟩,
     ⟨some 79, .bin .lss (.t 78) (.k (.int .i64 0)), none⟩,
     ⟨some 80, .mv (.t 79), none⟩,
     ⟨some 81, .mv (.t 2), some (80, false)⟩,
     ⟨some 82, .bin .gtr (.t 81) (.k (.int .i64 64)), some (80, false)⟩,
     ⟨some 83, .pick (.t 80) (.k (.bool true)) (.t 82), none⟩])
   (.cond (.t 83) (.seq (.region [
       ⟨some 84, .mkif 76 (.k (.int .i64 4)), none⟩,
       ⟨some 6, .mv (.k (.int .u64 0)), none⟩,
       ⟨some 7, .mv (.t 84), none⟩])
     (.ret))
     (.skip)))))
 (.seq (.region [
   ⟨some 10, .mv (.k (.int .u64 0)), none⟩])
 (.join [10] [85, 86, 87, 88, 89, 90, 91, 92, 93] (.seq (.region [
   ⟨some 85, .mv (.t 1), none⟩])
 (.block 2 (.seq (.region [
   ⟨some 91, .bin .eql (.t 85) (.k (.int .i64 10)), none⟩,
   ⟨some 90, .mv (.t 91), none⟩])
 (.cond (.t 90) (.region [
     ⟨some 10, .mv (.k (.int .u64 1844674407370955162)), none⟩])
   (.seq (.region [
     ⟨some 93, .bin .eql (.t 85) (.k (.int .i64 16)), none⟩,
     ⟨some 92, .mv (.t 93), none⟩])
   (.cond (.t 92) (.region [
       ⟨some 10, .mv (.k (.int .u64 1152921504606846976)), none⟩])
     (.region [
       ⟨some 86, .mv (.t 1), none⟩,
       ⟨some 87, .conv .u64 (.t 86), none⟩,
       ⟨some 88, .bin .quo (.k (.int .u64 18446744073709551615)) (.t 87), none⟩,
       ⟨some 89, .bin .add (.t 88) (.k (.int .u64 1)), none⟩,
       ⟨some 10, .mv (.t 89), none⟩])))))))
 (.seq (.region [
   ⟨some 94, .mv (.t 2), none⟩,
   ⟨some 95, .conv .u64 (.t 94), none⟩,
   ⟨some 96, .bin .shl (.k (.int .u64 1)) (.t 95), none⟩,
   ⟨some 97, .bin .sub (.t 96) (.k (.int .u64 1)), none⟩,
   ⟨some 11, .mv (.t 97), none⟩])
 (.seq (.region [
   ⟨some 12, .mv (.k (.bool false)), none⟩])
 (.seq (.region [
   ⟨some 13, .mv (.k (.int .u64 0)), none⟩])
 (.join [12, 13] [6, 7, 15, 16, 17, 98, 99, 100, 101, 102, 103, 104, 105, 106, 107, 108, 109, 110, 111, 112, 113, 114, 115, 116, 117, 118, 119, 120, 121, 122, 123, 124, 125, 126, 127, 128, 129, 130, 131, 132, 133, 134, 135, 136, 137, 138, 139, 140, 141, 142, 143, 144, 145, 146, 147, 148, 149, 150, 151, 152, 153, 154, 155, 156, 157, 158, 159, 160, 161, 162, 163] (.seq (.region [
   ⟨some 98, .mv (.t 0), none⟩,
   ⟨some 99, .sbytes (.t 98), none⟩,
   ⟨some 100, .len false (.t 99), none⟩,
   ⟨some 101, .mv (.k (.int .i64 0)), none⟩])
 (.block 3 (.loop [12, 13, 101] [6, 7, 15, 16, 17, 102, 103, 104, 105, 106, 107, 108, 109, 110, 111, 112, 113, 114, 115, 116, 117, 118, 119, 120, 121, 122, 123, 124, 125, 126, 127, 128, 129, 130, 131, 132, 133, 134, 135, 136, 137, 138, 139, 140, 141, 142, 143, 144, 145, 146, 147, 148, 149, 150, 151, 152, 153, 154, 155, 156, 157, 158, 159, 160, 161, 162, 163] (.seq (.region [
   ⟨some 102, .bin .lss (.t 101) (.t 100), none⟩])
 (.seq (.cond (.t 102) (.skip)
   (.exit 3))
 (.join [12, 13] [6, 7, 15, 16, 17, 103, 104, 105, 106, 107, 108, 109, 110, 111, 112, 113, 114, 115, 116, 117, 118, 119, 120, 121, 122, 123, 124, 125, 126, 127, 128, 129, 130, 131, 132, 133, 134, 135, 136, 137, 138, 139, 140, 141, 142, 143, 144, 145, 146, 147, 148, 149, 150, 151, 152, 153, 154, 155, 156, 157, 158, 159, 160, 161, 162] (.block 4 (.seq (.region [
   ⟨some 103, .iaddr none 1 (.t 99) (.t 101), none⟩,
   ⟨some 104, .load 1 false (.t 103), none⟩,
   ⟨some 15, .mv (.t 104), none⟩])
 (.seq (.region [
   ⟨some 16, .mv (.k (.int .u8 0)), none⟩])
 (.join [12, 16] [6, 7, 105, 106, 107, 108, 109, 110, 111, 112, 113, 114, 115, 116, 117, 118, 119, 120, 121, 122, 123, 124, 125, 126, 127, 128, 129, 130, 131, 132, 133] (.block 5 (.join [106] [107, 108, 109, 110, 111] (.region [
   ⟨some 107, .mv (.t 15), none⟩,
   ⟨some 108, .bin .eql (.t 107) (.k (.int .u8 95)), none⟩,
   ⟨some 109, .mv (.t 108), none⟩,
   ⟨some 110, .mv (.t 8), some (109, true)⟩,
   ⟨some 111, .pick (.t 109) (.t 110) (.k (.bool false)), none⟩,
   ⟨some 106, .mv (.t 111), none⟩])
 (.cond (.t 106) (.seq (.region [
     ⟨some 12, .mv (.k (.bool true)), none⟩])
   (.exit 4))
   (.join [112] [113, 114, 115, 116, 117, 118] (.region [
     ⟨some 113, .mv (.t 15), none⟩,
     ⟨some 114, .bin .leq (.k (.int .u8 48)) (.t 113), none⟩,
     ⟨some 115, .mv (.t 114), none⟩,
     ⟨some 116, .mv (.t 15), some (115, true)⟩,
     ⟨some 117, .bin .leq (.t 116) (.k (.int .u8 57)), some (115, true)⟩,
     ⟨some 118, .pick (.t 115) (.t 117) (.k (.bool false)), none⟩,
     ⟨some 112, .mv (.t 118), none⟩])
   (.cond (.t 112) (.region [
       ⟨some 119, .mv (.t 15), none⟩,
       ⟨some 120, .bin .sub (.t 119) (.k (.int .u8 48)), none⟩,
       ⟨some 16, .mv (.t 120), none⟩])
     (.join [121] [122, 123, 124, 125, 126, 127, 128, 129] (.region [
       ⟨some 122, .mv (.t 15), none⟩,
       ⟨some 123, .call K.internal_strconv_lower [(.t 122)], none⟩,
       ⟨some 124, .bin .leq (.k (.int .u8 97)) (.t 123), none⟩,
       ⟨some 125, .mv (.t 124), none⟩,
       ⟨some 126, .mv (.t 15), some (125, true)⟩,
       ⟨some 127, .call K.internal_strconv_lower [(.t 126)], some (125, true)⟩,
       ⟨some 128, .bin .leq (.t 127) (.k (.int .u8 122)), some (125, true)⟩,
       ⟨some 129, .pick (.t 125) (.t 128) (.k (.bool false)), none⟩,
       ⟨some 121, .mv (.t 129), none⟩])
     (.cond (.t 121) (.region [
         ⟨some 130, .mv (.t 15), none⟩,
         ⟨some 131, .call K.internal_strconv_lower [(.t 130)], none⟩,
         ⟨some 132, .bin .sub (.t 131) (.k (.int .u8 97)), none⟩,
         ⟨some 133, .bin .add (.t 132) (.k (.int .u8 10)), none⟩,
         ⟨some 16, .mv (.t 133), none⟩])
       (.seq (.region [
         ⟨some 105, .mkif 76 (.k (.int .i64 2)), none⟩,
         ⟨some 6, .mv (.k (.int .u64 0)), none⟩,
         ⟨some 7, .mv (.t 105), none⟩])
       (.ret)))))))))
 (.seq (.seq (.region [
   ⟨some 134, .mv (.t 16), none⟩,
   ⟨some 135, .mv (.t 1), none⟩,
   ⟨some 136, .conv .u8 (.t 135), none⟩,
   ⟨some 137, .bin .geq (.t 134) (.t 136), none⟩])
 (.cond (.t 137) (.seq (.region [
     ⟨some 138, .mkif 76 (.k (.int .i64 2)), none⟩,
     ⟨some 6, .mv (.k (.int .u64 0)), none⟩,
     ⟨some 7, .mv (.t 138), none⟩])
   (.ret))
   (.skip)))
 (.seq (.seq (.region [
   ⟨some 139, .mv (.t 13), none⟩,
   ⟨some 140, .mv (.t 10), none⟩,
   ⟨some 141, .bin .geq (.t 139) (.t 140), none⟩])
 (.cond (.t 141) (.seq (.region [
     ⟨some 142, .mv (.t 11), none⟩,
     ⟨some 143, .mkif 76 (.k (.int .i64 1)), none⟩,
     ⟨some 6, .mv (.t 142), none⟩,
     ⟨some 7, .mv (.t 143), none⟩])
   (.ret))
   (.skip)))
 (.seq (.region [
   ⟨some 144, .mv (.t 13), none⟩,
   ⟨some 145, .mv (.t 1), none⟩,
   ⟨some 146, .conv .u64 (.t 145), none⟩,
   ⟨some 147, .bin .mul (.t 144) (.t 146), none⟩,
   ⟨some 13, .mv (.t 147), none⟩])
 (.seq (.region [
   ⟨some 148, .mv (.t 13), none⟩,
   ⟨some 149, .mv (.t 16), none⟩,
   ⟨some 150, .conv .u64 (.t 149), none⟩,
   ⟨some 151, .bin .add (.t 148) (.t 150), none⟩,
   ⟨some 17, .mv (.t 151), none⟩])
 (.seq (.join [159] [152, 153, 154, 155, 156, 157, 158] (.region [
   ⟨some 152, .mv (.t 17), none⟩,
   ⟨some 153, .mv (.t 13), none⟩,
   ⟨some 154, .bin .lss (.t 152) (.t 153), none⟩,
   ⟨some 155, .mv (.t 154), none⟩,
   ⟨some 156, .mv (.t 17), some (155, false)⟩,
   ⟨some 157, .mv (.t 11), some (155, false)⟩,
   ⟨some 158, .bin .gtr (.t 156) (.t 157), some (155, false)⟩,
   ⟨some 159, .pick (.t 155) (.k (.bool true)) (.t 158), none⟩])
 (.cond (.t 159) (.seq (.region [
     ⟨some 160, .mv (.t 11), none⟩,
     ⟨some 161, .mkif 76 (.k (.int .i64 1)), none⟩,
     ⟨some 6, .mv (.t 160), none⟩,
     ⟨some 7, .mv (.t 161), none⟩])
   (.ret))
   (.skip)))
 (.region [
   ⟨some 162, .mv (.t 17), none⟩,
   ⟨some 13, .mv (.t 162), none⟩]))))))))))
 (.region [
   ⟨some 163, .bin .add (.t 101) (.k (.int .i64 1)), none⟩,
   ⟨some 101, .mv (.t 163), none⟩])))))))
 (.join [] [6, 7, 164, 165, 166, 167, 168, 169, 170] (.join [169] [164, 165, 166, 167, 168] (.region [
   ⟨some 164, .mv (.t 12), none⟩,
   ⟨some 165, .mv (.t 164), none⟩,
   ⟨some 166, .mv (.t 9), some (165, true)⟩,
   ⟨some 167, .call K.internal_strconv_underscoreOK [(.t 166)], some (165, true)⟩,
   ⟨some 168, .un .not (.t 167), some (165, true)⟩,
   ⟨some 169, .pick (.t 165) (.t 168) (.k (.bool false)), none⟩])
 (.cond (.t 169) (.seq (.region [
     ⟨some 170, .mkif 76 (.k (.int .i64 2)), none⟩,
     ⟨some 6, .mv (.k (.int .u64 0)), none⟩,
     ⟨some 7, .mv (.t 170), none⟩])
   (.ret))
   (.skip)))
 (.seq (.region [
   ⟨some 171, .mv (.t 13), none⟩,
   ⟨some 6, .mv (.t 171), none⟩,
   ⟨some 7, .mv (.k (.nilif)), none⟩])
 (.ret))))))))))))))⟩
theorem eq_internal_strconv_ParseUint (Φ : Calls') (a0 a1 a2 : AV) (H : AH) (Q : Post) : fnE1 Φ ir_internal_strconv_ParseUint [a0, a1, a2] H Q = internal_strconv_ParseUint Φ a0 a1 a2 H Q := by kernel_rfl

/-! internal/strconv.lower -/
def internal_strconv_lower (Φ : Calls') (a0 : AV) (H : AH) (Q : Post) : Prop :=
 Do (abin .or a0 (.int .u8 32)) fun x1 =>
 Q x1 H
def ir_internal_strconv_lower : AFunc := ⟨5, [.tmp 2],
 .seq (.region [
   ⟨some 2, .mv (.k (.int .u8 0)), none⟩])
 (.seq (.region [
   ⟨some 3, .mv (.t 0), none⟩,
   ⟨some 4, .bin .or (.t 3) (.k (.int .u8 32)), none⟩,
   ⟨some 2, .mv (.t 4), none⟩])
 (.ret))⟩
theorem eq_internal_strconv_lower (Φ : Calls') (a0 : AV) (H : AH) (Q : Post) : fnE1 Φ ir_internal_strconv_lower [a0] H Q = internal_strconv_lower Φ a0 H Q := by kernel_rfl

/-! internal/strconv.underscoreOK -/
def internal_strconv_underscoreOK_k1 (Φ : Calls') (s40 : List AV × AH) (L41 : (List AV × AH) → Prop) (Q : Post) : List AV → AH → Prop := fun j44 H45 =>
 Do (abin .add (sl s40.1 1) (.int .i64 1)) fun x64 =>
 L41 ([(sl j44 0), x64], H45)
def internal_strconv_underscoreOK_k2 (Φ : Calls') (j1 : List AV) (s40 : List AV × AH) (L41 : (List AV × AH) → Prop) (Q : Post) : List AV → AH → Prop := fun j46 H47 =>
 Do (aidxs (sl j1 0) (sl s40.1 1)) fun x65 =>
 Do (abin .eql x65 (.int .u8 95)) fun x66 =>
 Gd x66 true (
 Do (abin .neq (sl j46 0) (.int .i32 48)) fun x67 =>
 Gd x67 true (
 Q (.bool false) H47) (
 JoinP (internal_strconv_underscoreOK_k1 Φ s40 L41 Q) [(.int .i32 95)] H47)) (
 Do (abin .eql (sl j46 0) (.int .i32 95)) fun x68 =>
 Gd x68 true (
 Q (.bool false) H47) (
 JoinP (internal_strconv_underscoreOK_k1 Φ s40 L41 Q) [(.int .i32 33)] H47))
def internal_strconv_underscoreOK_k3 (Φ : Calls') (j1 : List AV) (s40 : List AV × AH) (L41 : (List AV × AH) → Prop) (Q : Post) : List AV → AH → Prop := fun j48 H49 =>
 Gd (sl j48 0) true (
 JoinP (internal_strconv_underscoreOK_k1 Φ s40 L41 Q) [(.int .i32 48)] H49) (
 JoinP (internal_strconv_underscoreOK_k2 Φ j1 s40 L41 Q) [(sl s40.1 0)] H49)
def internal_strconv_underscoreOK_k4 (Φ : Calls') (j1 : List AV) (j12 : List AV) (s40 : List AV × AH) (L41 : (List AV × AH) → Prop) (Q : Post) : List AV → AH → Prop := fun j50 H51 =>
 Gd3 (sl j50 0) false (
 Gd3 (sl j12 2) true (
 Do (aidxs (sl j1 0) (sl s40.1 1)) fun x56 =>
Φ K.internal_strconv_lower [x56] H51 fun x57 H58 =>
 Do (abin .leq (.int .u8 97) x57) fun x59 =>
 Gd3 x59 true (
 Do (aidxs (sl j1 0) (sl s40.1 1)) fun x60 =>
Φ K.internal_strconv_lower [x60] H58 fun x61 H62 =>
 Do (abin .leq x61 (.int .u8 102)) fun x63 =>
 JoinP (internal_strconv_underscoreOK_k3 Φ j1 s40 L41 Q) [x63] H62) (
 JoinP (internal_strconv_underscoreOK_k3 Φ j1 s40 L41 Q) [(.bool false)] H58) (
 False)) (
 JoinP (internal_strconv_underscoreOK_k3 Φ j1 s40 L41 Q) [(.bool false)] H51) (
 False)) (
 JoinP (internal_strconv_underscoreOK_k3 Φ j1 s40 L41 Q) [(.bool true)] H51) (
 False)
def internal_strconv_underscoreOK_k5 (Φ : Calls') (Q : Post) : List AV → AH → Prop := fun j38 H39 =>
 Do (abin .neq (sl j38 0) (.int .i32 95)) fun x69 =>
 Q x69 H39
def internal_strconv_underscoreOK_l6 (Φ : Calls') (j1 : List AV) (j12 : List AV) (Q : Post) : (List AV × AH) → ((List AV × AH) → Prop) → Prop := fun s40 L41 =>
 Do (alen true (sl j1 0)) fun x42 =>
 Do (abin .lss (sl s40.1 1) x42) fun x43 =>
 Gd x43 true (
 Do (aidxs (sl j1 0) (sl s40.1 1)) fun x52 =>
 Do (abin .leq (.int .u8 48) x52) fun x53 =>
 Gd3 x53 true (
 Do (aidxs (sl j1 0) (sl s40.1 1)) fun x54 =>
 Do (abin .leq x54 (.int .u8 57)) fun x55 =>
 JoinP (internal_strconv_underscoreOK_k4 Φ j1 j12 s40 L41 Q) [x55] s40.2) (
 JoinP (internal_strconv_underscoreOK_k4 Φ j1 j12 s40 L41 Q) [(.bool false)] s40.2) (
 False)) (
 JoinP (internal_strconv_underscoreOK_k5 Φ Q) [(sl s40.1 0)] s40.2)
def internal_strconv_underscoreOK_k7 (Φ : Calls') (j1 : List AV) (Q : Post) : List AV → AH → Prop := fun j12 H13 =>
 LoopP (internal_strconv_underscoreOK_l6 Φ j1 j12 Q) ([(sl j12 0), (sl j12 1)], H13)
def internal_strconv_underscoreOK_k8 (Φ : Calls') (j1 : List AV) (Q : Post) : List AV → AH → Prop := fun j14 H15 =>
 Gd (sl j14 0) true (
 Do (aidxs (sl j1 0) (.int .i64 1)) fun x34 =>
Φ K.internal_strconv_lower [x34] H15 fun x35 H36 =>
 Do (abin .eql x35 (.int .u8 120)) fun x37 =>
 JoinP (internal_strconv_underscoreOK_k7 Φ j1 Q) [(.int .i32 48), (.int .i64 2), x37] H36) (
 JoinP (internal_strconv_underscoreOK_k7 Φ j1 Q) [(.int .i32 94), (.int .i64 0), (.bool false)] H15)
def internal_strconv_underscoreOK_k9 (Φ : Calls') (j1 : List AV) (Q : Post) : List AV → AH → Prop := fun j16 H17 =>
 Gd3 (sl j16 0) true (
 Do (aidxs (sl j1 0) (.int .i64 1)) fun x22 =>
Φ K.internal_strconv_lower [x22] H17 fun x23 H24 =>
 Do (abin .eql x23 (.int .u8 98)) fun x25 =>
 Gd3 x25 false (
 Do (aidxs (sl j1 0) (.int .i64 1)) fun x26 =>
Φ K.internal_strconv_lower [x26] H24 fun x27 H28 =>
 Do (abin .eql x27 (.int .u8 111)) fun x29 =>
 Gd3 x29 false (
 Do (aidxs (sl j1 0) (.int .i64 1)) fun x30 =>
Φ K.internal_strconv_lower [x30] H28 fun x31 H32 =>
 Do (abin .eql x31 (.int .u8 120)) fun x33 =>
 JoinP (internal_strconv_underscoreOK_k8 Φ j1 Q) [x33] H32) (
 JoinP (internal_strconv_underscoreOK_k8 Φ j1 Q) [(.bool true)] H28) (
 False)) (
 JoinP (internal_strconv_underscoreOK_k8 Φ j1 Q) [(.bool true)] H24) (
 False)) (
 JoinP (internal_strconv_underscoreOK_k8 Φ j1 Q) [(.bool false)] H17) (
 False)
def internal_strconv_underscoreOK_k10 (Φ : Calls') (Q : Post) : List AV → AH → Prop := fun j1 H2 =>
 Do (alen true (sl j1 0)) fun x18 =>
 Do (abin .geq x18 (.int .i64 2)) fun x19 =>
 Gd3 x19 true (
 Do (aidxs (sl j1 0) (.int .i64 0)) fun x20 =>
 Do (abin .eql x20 (.int .u8 48)) fun x21 =>
 JoinP (internal_strconv_underscoreOK_k9 Φ j1 Q) [x21] H2) (
 JoinP (internal_strconv_underscoreOK_k9 Φ j1 Q) [(.bool false)] H2) (
 False)
def internal_strconv_underscoreOK_k11 (Φ : Calls') (a0 : AV) (Q : Post) : List AV → AH → Prop := fun j3 H4 =>
 Gd (sl j3 0) true (
 Do (asslice a0 (some (.int .i64 1)) none) fun x11 =>
 JoinP (internal_strconv_underscoreOK_k10 Φ Q) [x11] H4) (
 JoinP (internal_strconv_underscoreOK_k10 Φ Q) [a0] H4)
def internal_strconv_underscoreOK (Φ : Calls') (a0 : AV) (H : AH) (Q : Post) : Prop :=
 Do (alen true a0) fun x5 =>
 Do (abin .geq x5 (.int .i64 1)) fun x6 =>
 Gd3 x6 true (
 Do (aidxs a0 (.int .i64 0)) fun x7 =>
 Do (abin .eql x7 (.int .u8 45)) fun x8 =>
 Gd3 x8 false (
 Do (aidxs a0 (.int .i64 0)) fun x9 =>
 Do (abin .eql x9 (.int .u8 43)) fun x10 =>
 JoinP (internal_strconv_underscoreOK_k11 Φ a0 Q) [x10] H) (
 JoinP (internal_strconv_underscoreOK_k11 Φ a0 Q) [(.bool true)] H) (
 False)) (
 JoinP (internal_strconv_underscoreOK_k11 Φ a0 Q) [(.bool false)] H) (
 False)
def ir_internal_strconv_underscoreOK : AFunc := ⟨94, [.tmp 2],
 .seq (.region [
   ⟨some 2, .mv (.k (.bool false)), none⟩])
 (.seq (.region [
   ⟨some 3, .mv (.k (.int .i32 94)), none⟩])
 (.seq (.region [
   ⟨some 4, .mv (.k (.int .i64 0)), none⟩])
 (.join [0] [6, 7, 8, 9, 10, 11, 12, 13, 14, 15, 16, 17, 18, 19, 20] (.join [18] [6, 7, 8, 9, 10, 11, 12, 13, 14, 15, 16, 17] (.region [
   ⟨some 6, .mv (.t 0), none⟩,
   ⟨some 7, .len true (.t 6), none⟩,
   ⟨some 8, .bin .geq (.t 7) (.k (.int .i64 1)), none⟩,
   ⟨some 9, .mv (.t 8), none⟩,
   ⟨some 10, .mv (.t 0), some (9, true)⟩,
   ⟨some 11, .idxs (.t 10) (.k (.int .i64 0)), some (9, true)⟩,
   ⟨some 12, .bin .eql (.t 11) (.k (.int .u8 45)), some (9, true)⟩,
   ⟨some 13, .mv (.t 12), some (9, true)⟩,
   ⟨some 14, .mv (.t 0), some (13, false)⟩,
   ⟨some 15, .idxs (.t 14) (.k (.int .i64 0)), some (13, false)⟩,
   ⟨some 16, .bin .eql (.t 15) (.k (.int .u8 43)), some (13, false)⟩,
   ⟨some 17, .pick (.t 13) (.k (.bool true)) (.t 16), some (9, true)⟩,
   ⟨some 18, .pick (.t 9) (.t 17) (.k (.bool false)), none⟩])
 (.cond (.t 18) (.region [
     ⟨some 19, .mv (.t 0), none⟩,
     ⟨some 20, .sslice (.t 19) (some (.k (.int .i64 1))) none, none⟩,
     ⟨some 0, .mv (.t 20), none⟩])
   (.skip)))
 (.seq (.region [
   ⟨some 5, .mv (.k (.bool false)), none⟩])
 (.join [3, 4, 5] [21, 22, 23, 24, 25, 26, 27, 28, 29, 30, 31, 32, 33, 34, 35, 36, 37, 38, 39, 40, 41, 42, 43, 44, 45, 46, 47, 48, 49, 50] (.join [46] [21, 22, 23, 24, 25, 26, 27, 28, 29, 30, 31, 32, 33, 34, 35, 36, 37, 38, 39, 40, 41, 42, 43, 44, 45] (.rjoin [28] [21, 22, 23, 24, 25, 26, 27] [
   ⟨some 21, .mv (.t 0), none⟩,
   ⟨some 22, .len true (.t 21), none⟩,
   ⟨some 23, .bin .geq (.t 22) (.k (.int .i64 2)), none⟩,
   ⟨some 24, .mv (.t 23), none⟩,
   ⟨some 25, .mv (.t 0), some (24, true)⟩,
   ⟨some 26, .idxs (.t 25) (.k (.int .i64 0)), some (24, true)⟩,
   ⟨some 27, .bin .eql (.t 26) (.k (.int .u8 48)), some (24, true)⟩,
   ⟨some 28, .pick (.t 24) (.t 27) (.k (.bool false)), none⟩]
 (.region [
   ⟨some 29, .mv (.t 28), none⟩,
   ⟨some 30, .mv (.t 0), some (29, true)⟩,
   ⟨some 31, .idxs (.t 30) (.k (.int .i64 1)), some (29, true)⟩,
   ⟨some 32, .call K.internal_strconv_lower [(.t 31)], some (29, true)⟩,
   ⟨some 33, .bin .eql (.t 32) (.k (.int .u8 98)), some (29, true)⟩,
   ⟨some 34, .mv (.t 33), some (29, true)⟩,
   ⟨some 35, .mv (.t 0), some (34, false)⟩,
   ⟨some 36, .idxs (.t 35) (.k (.int .i64 1)), some (34, false)⟩,
   ⟨some 37, .call K.internal_strconv_lower [(.t 36)], some (34, false)⟩,
   ⟨some 38, .bin .eql (.t 37) (.k (.int .u8 111)), some (34, false)⟩,
   ⟨some 39, .pick (.t 34) (.k (.bool true)) (.t 38), some (29, true)⟩,
   ⟨some 40, .mv (.t 39), some (29, true)⟩,
   ⟨some 41, .mv (.t 0), some (40, false)⟩,
   ⟨some 42, .idxs (.t 41) (.k (.int .i64 1)), some (40, false)⟩,
   ⟨some 43, .call K.internal_strconv_lower [(.t 42)], some (40, false)⟩,
   ⟨some 44, .bin .eql (.t 43) (.k (.int .u8 120)), some (40, false)⟩,
   ⟨some 45, .pick (.t 40) (.k (.bool true)) (.t 44), some (29, true)⟩,
   ⟨some 46, .pick (.t 29) (.t 45) (.k (.bool false)), none⟩]))
 (.cond (.t 46) (.seq (.region [
     ⟨some 4, .mv (.k (.int .i64 2)), none⟩])
   (.seq (.region [
     ⟨some 3, .mv (.k (.int .i32 48)), none⟩])
   (.region [
     ⟨some 47, .mv (.t 0), none⟩,
     ⟨some 48, .idxs (.t 47) (.k (.int .i64 1)), none⟩,
     ⟨some 49, .call K.internal_strconv_lower [(.t 48)], none⟩,
     ⟨some 50, .bin .eql (.t 49) (.k (.int .u8 120)), none⟩,
     ⟨some 5, .mv (.t 50), none⟩])))
   (.skip)))
 (.join [3] [2, 4, 51, 52, 53, 54, 55, 56, 57, 58, 59, 60, 61, 62, 63, 64, 65, 66, 67, 68, 69, 70, 71, 72, 73, 74, 75, 76, 77, 78, 79, 80, 81, 82, 83, 84, 85, 86, 87, 88, 89, 90, 91] (.block 0 (.loop [3, 4] [2, 51, 52, 53, 54, 55, 56, 57, 58, 59, 60, 61, 62, 63, 64, 65, 66, 67, 68, 69, 70, 71, 72, 73, 74, 75, 76, 77, 78, 79, 80, 81, 82, 83, 84, 85, 86, 87, 88, 89, 90, 91] (.seq (.seq (.region [
   ⟨some 51, .mv (.t 4), none⟩,
   ⟨some 52, .mv (.t 0), none⟩,
   ⟨some 53, .len true (.t 52), none⟩,
   ⟨some 54, .bin .lss (.t 51) (.t 53), none⟩])
 (.cond (.t 54) (.skip)
   (.exit 0)))
 (.join [3] [2, 57, 58, 59, 60, 61, 62, 63, 64, 65, 66, 67, 68, 69, 70, 71, 72, 73, 74, 75, 76, 77, 78, 79, 80, 81, 82, 83, 84, 85, 86, 87, 88, 89, 90, 91] (.block 1 (.join [3] [57, 58, 59, 60, 61, 62, 63, 64, 65, 66, 67, 68, 69, 70, 71, 72, 73, 74, 75, 76, 77, 78, 79, 80, 81, 82, 83] (.join [83] [57, 58, 59, 60, 61, 62, 63, 64, 65, 66, 67, 68, 69, 70, 71, 72, 73, 74, 75, 76, 77, 78, 79, 80, 81, 82] (.rjoin [66] [57, 58, 59, 60, 61, 62, 63, 64, 65] [
   ⟨some 57, .mv (.t 0), none⟩,
   ⟨some 58, .mv (.t 4), none⟩,
   ⟨some 59, .idxs (.t 57) (.t 58), none⟩,
   ⟨some 60, .bin .leq (.k (.int .u8 48)) (.t 59), none⟩,
   ⟨some 61, .mv (.t 60), none⟩,
   ⟨some 62, .mv (.t 0), some (61, true)⟩,
   ⟨some 63, .mv (.t 4), some (61, true)⟩,
   ⟨some 64, .idxs (.t 62) (.t 63), some (61, true)⟩,
   ⟨some 65, .bin .leq (.t 64) (.k (.int .u8 57)), some (61, true)⟩,
   ⟨some 66, .pick (.t 61) (.t 65) (.k (.bool false)), none⟩]
 (.region [
   ⟨some 67, .mv (.t 66), none⟩,
   ⟨some 68, .mv (.t 5), some (67, false)⟩,
   ⟨some 69, .mv (.t 68), some (67, false)⟩,
   ⟨some 70, .mv (.t 0), some (69, true)⟩,
   ⟨some 71, .mv (.t 4), some (69, true)⟩,
   ⟨some 72, .idxs (.t 70) (.t 71), some (69, true)⟩,
   ⟨some 73, .call K.internal_strconv_lower [(.t 72)], some (69, true)⟩,
   ⟨some 74, .bin .leq (.k (.int .u8 97)) (.t 73), some (69, true)⟩,
   ⟨some 75, .pick (.t 69) (.t 74) (.k (.bool false)), some (67, false)⟩,
   ⟨some 76, .mv (.t 75), some (67, false)⟩,
   ⟨some 77, .mv (.t 0), some (76, true)⟩,
   ⟨some 78, .mv (.t 4), some (76, true)⟩,
   ⟨some 79, .idxs (.t 77) (.t 78), some (76, true)⟩,
   ⟨some 80, .call K.internal_strconv_lower [(.t 79)], some (76, true)⟩,
   ⟨some 81, .bin .leq (.t 80) (.k (.int .u8 102)), some (76, true)⟩,
   ⟨some 82, .pick (.t 76) (.t 81) (.k (.bool false)), some (67, false)⟩,
   ⟨some 83, .pick (.t 67) (.k (.bool true)) (.t 82), none⟩]))
 (.cond (.t 83) (.seq (.region [
     ⟨some 3, .mv (.k (.int .i32 48)), none⟩])
   (.exit 1))
   (.skip)))
 (.seq (.seq (.region [
   ⟨some 84, .mv (.t 0), none⟩,
   ⟨some 85, .mv (.t 4), none⟩,
   ⟨some 86, .idxs (.t 84) (.t 85), none⟩,
   ⟨some 87, .bin .eql (.t 86) (.k (.int .u8 95)), none⟩])
 (.cond (.t 87) (.seq (.seq (.region [
     ⟨some 88, .mv (.t 3), none⟩,
     ⟨some 89, .bin .neq (.t 88) (.k (.int .i32 48)), none⟩])
   (.cond (.t 89) (.seq (.region [
       ⟨some 2, .mv (.k (.bool false)), none⟩])
     (.ret))
     (.skip)))
   (.seq (.region [
     ⟨some 3, .mv (.k (.int .i32 95)), none⟩])
   (.exit 1)))
   (.skip)))
 (.seq (.seq (.region [
   ⟨some 90, .mv (.t 3), none⟩,
   ⟨some 91, .bin .eql (.t 90) (.k (.int .i32 95)), none⟩])
 (.cond (.t 91) (.seq (.region [
     ⟨some 2, .mv (.k (.bool false)), none⟩])
   (.ret))
   (.skip)))
 (.region [
   ⟨some 3, .mv (.k (.int .i32 33)), none⟩])))))
 (.region [
   ⟨some 55, .mv (.t 4), none⟩,
   ⟨some 56, .bin .add (.t 55) (.k (.int .i64 1)), none⟩,
   ⟨some 4, .mv (.t 56), none⟩])))))
 (.seq (.region [
   ⟨some 92, .mv (.t 3), none⟩,
   ⟨some 93, .bin .neq (.t 92) (.k (.int .i32 95)), none⟩,
   ⟨some 2, .mv (.t 93), none⟩])
 (.ret))))))))⟩
theorem eq_internal_strconv_underscoreOK (Φ : Calls') (a0 : AV) (H : AH) (Q : Post) : fnE1 Φ ir_internal_strconv_underscoreOK [a0] H Q = internal_strconv_underscoreOK Φ a0 H Q := by kernel_rfl

/-! internal/strconv.Itoa -/
def internal_strconv_Itoa (Φ : Calls') (a0 : AV) (H : AH) (Q : Post) : Prop :=
Φ K.internal_strconv_FormatInt [a0, (.int .i64 10)] H fun x1 H2 =>
 Q x1 H2
def ir_internal_strconv_Itoa : AFunc := ⟨5, [.tmp 2],
 .seq (.region [
   ⟨some 2, .mv (.k (.str [])), none⟩])
 (.seq (.region [
   ⟨some 3, .mv (.t 0), none⟩,
   ⟨some 4, .call K.internal_strconv_FormatInt [(.t 3), (.k (.int .i64 10))], none⟩,
   ⟨some 2, .mv (.t 4), none⟩])
 (.ret))⟩
theorem eq_internal_strconv_Itoa (Φ : Calls') (a0 : AV) (H : AH) (Q : Post) : fnE1 Φ ir_internal_strconv_Itoa [a0] H Q = internal_strconv_Itoa Φ a0 H Q := by kernel_rfl

/-! internal/strconv.small -/
def internal_strconv_small (Φ : Calls') (a0 : AV) (H : AH) (Q : Post) : Prop :=
 Do (abin .lss a0 (.int .i64 10)) fun x1 =>
 Gd x1 true (
 Do (abin .add a0 (.int .i64 1)) fun x2 =>
 Do (asslice (.str [48, 49, 50, 51, 52, 53, 54, 55, 56, 57, 97, 98, 99, 100, 101, 102, 103, 104, 105, 106, 107, 108, 109, 110, 111, 112, 113, 114, 115, 116, 117, 118, 119, 120, 121, 122]) (some a0) (some x2)) fun x3 =>
 Q x3 H) (
 Do (abin .mul a0 (.int .i64 2)) fun x4 =>
 Do (abin .mul a0 (.int .i64 2)) fun x5 =>
 Do (abin .add x5 (.int .i64 2)) fun x6 =>
 Do (asslice (.str [48, 48, 48, 49, 48, 50, 48, 51, 48, 52, 48, 53, 48, 54, 48, 55, 48, 56, 48, 57, 49, 48, 49, 49, 49, 50, 49, 51, 49, 52, 49, 53, 49, 54, 49, 55, 49, 56, 49, 57, 50, 48, 50, 49, 50, 50, 50, 51, 50, 52, 50, 53, 50, 54, 50, 55, 50, 56, 50, 57, 51, 48, 51, 49, 51, 50, 51, 51, 51, 52, 51, 53, 51, 54, 51, 55, 51, 56, 51, 57, 52, 48, 52, 49, 52, 50, 52, 51, 52, 52, 52, 53, 52, 54, 52, 55, 52, 56, 52, 57, 53, 48, 53, 49, 53, 50, 53, 51, 53, 52, 53, 53, 53, 54, 53, 55, 53, 56, 53, 57, 54, 48, 54, 49, 54, 50, 54, 51, 54, 52, 54, 53, 54, 54, 54, 55, 54, 56, 54, 57, 55, 48, 55, 49, 55, 50, 55, 51, 55, 52, 55, 53, 55, 54, 55, 55, 55, 56, 55, 57, 56, 48, 56, 49, 56, 50, 56, 51, 56, 52, 56, 53, 56, 54, 56, 55, 56, 56, 56, 57, 57, 48, 57, 49, 57, 50, 57, 51, 57, 52, 57, 53, 57, 54, 57, 55, 57, 56, 57, 57]) (some x4) (some x6)) fun x7 =>
 Q x7 H)
def ir_internal_strconv_small : AFunc := ⟨15, [.tmp 2],
 .seq (.region [
   ⟨some 2, .mv (.k (.str [])), none⟩])
 (.seq (.seq (.region [
   ⟨some 3, .mv (.t 0), none⟩,
   ⟨some 4, .bin .lss (.t 3) (.k (.int .i64 10)), none⟩])
 (.cond (.t 4) (.seq (.region [
     ⟨some 5, .mv (.t 0), none⟩,
     ⟨some 6, .mv (.t 0), none⟩,
     ⟨some 7, .bin .add (.t 6) (.k (.int .i64 1)), none⟩,
     ⟨some 8, .sslice (.k (.str [48, 49, 50, 51, 52, 53, 54, 55, 56, 57, 97, 98, 99, 100, 101, 102, 103, 104, 105, 106, 107, 108, 109, 110, 111, 112, 113, 114, 115, 116, 117, 118, 119, 120, 121, 122])) (some (.t 5)) (some (.t 7)), none⟩,
     ⟨some 2, .mv (.t 8), none⟩])
   (.ret))
   (.skip)))
 (.seq (.region [
   ⟨some 9, .mv (.t 0), none⟩,
   ⟨some 10, .bin .mul (.t 9) (.k (.int .i64 2)), none⟩,
   ⟨some 11, .mv (.t 0), none⟩,
   ⟨some 12, .bin .mul (.t 11) (.k (.int .i64 2)), none⟩,
   ⟨some 13, .bin .add (.t 12) (.k (.int .i64 2)), none⟩,
   ⟨some 14, .sslice (.k (.str [48, 48, 48, 49, 48, 50, 48, 51, 48, 52, 48, 53, 48, 54, 48, 55, 48, 56, 48, 57, 49, 48, 49, 49, 49, 50, 49, 51, 49, 52, 49, 53, 49, 54, 49, 55, 49, 56, 49, 57, 50, 48, 50, 49, 50, 50, 50, 51, 50, 52, 50, 53, 50, 54, 50, 55, 50, 56, 50, 57, 51, 48, 51, 49, 51, 50, 51, 51, 51, 52, 51, 53, 51, 54, 51, 55, 51, 56, 51, 57, 52, 48, 52, 49, 52, 50, 52, 51, 52, 52, 52, 53, 52, 54, 52, 55, 52, 56, 52, 57, 53, 48, 53, 49, 53, 50, 53, 51, 53, 52, 53, 53, 53, 54, 53, 55, 53, 56, 53, 57, 54, 48, 54, 49, 54, 50, 54, 51, 54, 52, 54, 53, 54, 54, 54, 55, 54, 56, 54, 57, 55, 48, 55, 49, 55, 50, 55, 51, 55, 52, 55, 53, 55, 54, 55, 55, 55, 56, 55, 57, 56, 48, 56, 49, 56, 50, 56, 51, 56, 52, 56, 53, 56, 54, 56, 55, 56, 56, 56, 57, 57, 48, 57, 49, 57, 50, 57, 51, 57, 52, 57, 53, 57, 54, 57, 55, 57, 56, 57, 57])) (some (.t 10)) (some (.t 13)), none⟩,
   ⟨some 2, .mv (.t 14), none⟩])
 (.ret)))⟩
theorem eq_internal_strconv_small (Φ : Calls') (a0 : AV) (H : AH) (Q : Post) : fnE1 Φ ir_internal_strconv_small [a0] H Q = internal_strconv_small Φ a0 H Q := by kernel_rfl

/-! internal/strconv.formatBase10 -/
def internal_strconv_formatBase10_k1 (Φ : Calls') (a0 : AV) (Q : Post) : List AV → AH → Prop := fun j86 H87 =>
 Do (abin .gtr (sl j86 0) (.int .i64 0)) fun x102 =>
 Gd x102 true (
 Do (abin .add (.int .u32 48) (sl j86 1)) fun x103 =>
 Do (aconv .u8 x103) fun x104 =>
 Do (aiaddr none 1 a0 (.int .i64 0)) fun x105 =>
 Do (astore H87 1 x105 x104) fun H106 =>
 Q (.tup []) H106) (
 Q (.tup []) H87)
def internal_strconv_formatBase10_k2 (Φ : Calls') (a0 : AV) (Q : Post) : List AV → AH → Prop := fun j58 H59 =>
 Do (abin .geq (sl j58 0) (.int .i64 2)) fun x88 =>
 Gd x88 true (
 Do (abin .rem (sl j58 1) (.int .u32 100)) fun x89 =>
 Do (abin .mul x89 (.int .u32 2)) fun x90 =>
 Do (abin .quo (sl j58 1) (.int .u32 100)) fun x91 =>
 Do (abin .sub (sl j58 0) (.int .i64 1)) fun x92 =>
 Do (abin .sub (sl j58 0) (.int .i64 2)) fun x93 =>
 Do (abin .add x90 (.int .u32 1)) fun x94 =>
 Do (aidxs (.str [48, 48, 48, 49, 48, 50, 48, 51, 48, 52, 48, 53, 48, 54, 48, 55, 48, 56, 48, 57, 49, 48, 49, 49, 49, 50, 49, 51, 49, 52, 49, 53, 49, 54, 49, 55, 49, 56, 49, 57, 50, 48, 50, 49, 50, 50, 50, 51, 50, 52, 50, 53, 50, 54, 50, 55, 50, 56, 50, 57, 51, 48, 51, 49, 51, 50, 51, 51, 51, 52, 51, 53, 51, 54, 51, 55, 51, 56, 51, 57, 52, 48, 52, 49, 52, 50, 52, 51, 52, 52, 52, 53, 52, 54, 52, 55, 52, 56, 52, 57, 53, 48, 53, 49, 53, 50, 53, 51, 53, 52, 53, 53, 53, 54, 53, 55, 53, 56, 53, 57, 54, 48, 54, 49, 54, 50, 54, 51, 54, 52, 54, 53, 54, 54, 54, 55, 54, 56, 54, 57, 55, 48, 55, 49, 55, 50, 55, 51, 55, 52, 55, 53, 55, 54, 55, 55, 55, 56, 55, 57, 56, 48, 56, 49, 56, 50, 56, 51, 56, 52, 56, 53, 56, 54, 56, 55, 56, 56, 56, 57, 57, 48, 57, 49, 57, 50, 57, 51, 57, 52, 57, 53, 57, 54, 57, 55, 57, 56, 57, 57]) x94) fun x95 =>
 Do (aidxs (.str [48, 48, 48, 49, 48, 50, 48, 51, 48, 52, 48, 53, 48, 54, 48, 55, 48, 56, 48, 57, 49, 48, 49, 49, 49, 50, 49, 51, 49, 52, 49, 53, 49, 54, 49, 55, 49, 56, 49, 57, 50, 48, 50, 49, 50, 50, 50, 51, 50, 52, 50, 53, 50, 54, 50, 55, 50, 56, 50, 57, 51, 48, 51, 49, 51, 50, 51, 51, 51, 52, 51, 53, 51, 54, 51, 55, 51, 56, 51, 57, 52, 48, 52, 49, 52, 50, 52, 51, 52, 52, 52, 53, 52, 54, 52, 55, 52, 56, 52, 57, 53, 48, 53, 49, 53, 50, 53, 51, 53, 52, 53, 53, 53, 54, 53, 55, 53, 56, 53, 57, 54, 48, 54, 49, 54, 50, 54, 51, 54, 52, 54, 53, 54, 54, 54, 55, 54, 56, 54, 57, 55, 48, 55, 49, 55, 50, 55, 51, 55, 52, 55, 53, 55, 54, 55, 55, 55, 56, 55, 57, 56, 48, 56, 49, 56, 50, 56, 51, 56, 52, 56, 53, 56, 54, 56, 55, 56, 56, 56, 57, 57, 48, 57, 49, 57, 50, 57, 51, 57, 52, 57, 53, 57, 54, 57, 55, 57, 56, 57, 57]) x90) fun x96 =>
 Do (aiaddr none 1 a0 x92) fun x97 =>
 Do (astore H59 1 x97 x95) fun H98 =>
 Do (aiaddr none 1 a0 x93) fun x99 =>
 Do (astore H98 1 x99 x96) fun H100 =>
 Do (abin .sub (sl j58 0) (.int .i64 2)) fun x101 =>
 JoinP (internal_strconv_formatBase10_k1 Φ a0 Q) [x101, x91] H100) (
 JoinP (internal_strconv_formatBase10_k1 Φ a0 Q) [(sl j58 0), (sl j58 1)] H59)
def internal_strconv_formatBase10_k3 (Φ : Calls') (a0 : AV) (Q : Post) : List AV → AH → Prop := fun j2 H3 =>
 Do (aconv .u32 (sl j2 0)) fun x57 =>
 Do (abin .geq (sl j2 1) (.int .i64 4)) fun x60 =>
 Gd x60 true (
 Do (abin .rem x57 (.int .u32 10000)) fun x61 =>
 Do (abin .quo x57 (.int .u32 10000)) fun x62 =>
 Do (abin .quo x61 (.int .u32 100)) fun x63 =>
 Do (abin .mul x63 (.int .u32 2)) fun x64 =>
 Do (abin .rem x61 (.int .u32 100)) fun x65 =>
 Do (abin .mul x65 (.int .u32 2)) fun x66 =>
 Do (abin .sub (sl j2 1) (.int .i64 1)) fun x67 =>
 Do (abin .sub (sl j2 1) (.int .i64 2)) fun x68 =>
 Do (abin .add x66 (.int .u32 1)) fun x69 =>
 Do (aidxs (.str [48, 48, 48, 49, 48, 50, 48, 51, 48, 52, 48, 53, 48, 54, 48, 55, 48, 56, 48, 57, 49, 48, 49, 49, 49, 50, 49, 51, 49, 52, 49, 53, 49, 54, 49, 55, 49, 56, 49, 57, 50, 48, 50, 49, 50, 50, 50, 51, 50, 52, 50, 53, 50, 54, 50, 55, 50, 56, 50, 57, 51, 48, 51, 49, 51, 50, 51, 51, 51, 52, 51, 53, 51, 54, 51, 55, 51, 56, 51, 57, 52, 48, 52, 49, 52, 50, 52, 51, 52, 52, 52, 53, 52, 54, 52, 55, 52, 56, 52, 57, 53, 48, 53, 49, 53, 50, 53, 51, 53, 52, 53, 53, 53, 54, 53, 55, 53, 56, 53, 57, 54, 48, 54, 49, 54, 50, 54, 51, 54, 52, 54, 53, 54, 54, 54, 55, 54, 56, 54, 57, 55, 48, 55, 49, 55, 50, 55, 51, 55, 52, 55, 53, 55, 54, 55, 55, 55, 56, 55, 57, 56, 48, 56, 49, 56, 50, 56, 51, 56, 52, 56, 53, 56, 54, 56, 55, 56, 56, 56, 57, 57, 48, 57, 49, 57, 50, 57, 51, 57, 52, 57, 53, 57, 54, 57, 55, 57, 56, 57, 57]) x69) fun x70 =>
 Do (aidxs (.str [48, 48, 48, 49, 48, 50, 48, 51, 48, 52, 48, 53, 48, 54, 48, 55, 48, 56, 48, 57, 49, 48, 49, 49, 49, 50, 49, 51, 49, 52, 49, 53, 49, 54, 49, 55, 49, 56, 49, 57, 50, 48, 50, 49, 50, 50, 50, 51, 50, 52, 50, 53, 50, 54, 50, 55, 50, 56, 50, 57, 51, 48, 51, 49, 51, 50, 51, 51, 51, 52, 51, 53, 51, 54, 51, 55, 51, 56, 51, 57, 52, 48, 52, 49, 52, 50, 52, 51, 52, 52, 52, 53, 52, 54, 52, 55, 52, 56, 52, 57, 53, 48, 53, 49, 53, 50, 53, 51, 53, 52, 53, 53, 53, 54, 53, 55, 53, 56, 53, 57, 54, 48, 54, 49, 54, 50, 54, 51, 54, 52, 54, 53, 54, 54, 54, 55, 54, 56, 54, 57, 55, 48, 55, 49, 55, 50, 55, 51, 55, 52, 55, 53, 55, 54, 55, 55, 55, 56, 55, 57, 56, 48, 56, 49, 56, 50, 56, 51, 56, 52, 56, 53, 56, 54, 56, 55, 56, 56, 56, 57, 57, 48, 57, 49, 57, 50, 57, 51, 57, 52, 57, 53, 57, 54, 57, 55, 57, 56, 57, 57]) x66) fun x71 =>
 Do (aiaddr none 1 a0 x67) fun x72 =>
 Do (astore H3 1 x72 x70) fun H73 =>
 Do (aiaddr none 1 a0 x68) fun x74 =>
 Do (astore H73 1 x74 x71) fun H75 =>
 Do (abin .sub (sl j2 1) (.int .i64 3)) fun x76 =>
 Do (abin .sub (sl j2 1) (.int .i64 4)) fun x77 =>
 Do (abin .add x64 (.int .u32 1)) fun x78 =>
 Do (aidxs (.str [48, 48, 48, 49, 48, 50, 48, 51, 48, 52, 48, 53, 48, 54, 48, 55, 48, 56, 48, 57, 49, 48, 49, 49, 49, 50, 49, 51, 49, 52, 49, 53, 49, 54, 49, 55, 49, 56, 49, 57, 50, 48, 50, 49, 50, 50, 50, 51, 50, 52, 50, 53, 50, 54, 50, 55, 50, 56, 50, 57, 51, 48, 51, 49, 51, 50, 51, 51, 51, 52, 51, 53, 51, 54, 51, 55, 51, 56, 51, 57, 52, 48, 52, 49, 52, 50, 52, 51, 52, 52, 52, 53, 52, 54, 52, 55, 52, 56, 52, 57, 53, 48, 53, 49, 53, 50, 53, 51, 53, 52, 53, 53, 53, 54, 53, 55, 53, 56, 53, 57, 54, 48, 54, 49, 54, 50, 54, 51, 54, 52, 54, 53, 54, 54, 54, 55, 54, 56, 54, 57, 55, 48, 55, 49, 55, 50, 55, 51, 55, 52, 55, 53, 55, 54, 55, 55, 55, 56, 55, 57, 56, 48, 56, 49, 56, 50, 56, 51, 56, 52, 56, 53, 56, 54, 56, 55, 56, 56, 56, 57, 57, 48, 57, 49, 57, 50, 57, 51, 57, 52, 57, 53, 57, 54, 57, 55, 57, 56, 57, 57]) x78) fun x79 =>
 Do (aidxs (.str [48, 48, 48, 49, 48, 50, 48, 51, 48, 52, 48, 53, 48, 54, 48, 55, 48, 56, 48, 57, 49, 48, 49, 49, 49, 50, 49, 51, 49, 52, 49, 53, 49, 54, 49, 55, 49, 56, 49, 57, 50, 48, 50, 49, 50, 50, 50, 51, 50, 52, 50, 53, 50, 54, 50, 55, 50, 56, 50, 57, 51, 48, 51, 49, 51, 50, 51, 51, 51, 52, 51, 53, 51, 54, 51, 55, 51, 56, 51, 57, 52, 48, 52, 49, 52, 50, 52, 51, 52, 52, 52, 53, 52, 54, 52, 55, 52, 56, 52, 57, 53, 48, 53, 49, 53, 50, 53, 51, 53, 52, 53, 53, 53, 54, 53, 55, 53, 56, 53, 57, 54, 48, 54, 49, 54, 50, 54, 51, 54, 52, 54, 53, 54, 54, 54, 55, 54, 56, 54, 57, 55, 48, 55, 49, 55, 50, 55, 51, 55, 52, 55, 53, 55, 54, 55, 55, 55, 56, 55, 57, 56, 48, 56, 49, 56, 50, 56, 51, 56, 52, 56, 53, 56, 54, 56, 55, 56, 56, 56, 57, 57, 48, 57, 49, 57, 50, 57, 51, 57, 52, 57, 53, 57, 54, 57, 55, 57, 56, 57, 57]) x64) fun x80 =>
 Do (aiaddr none 1 a0 x76) fun x81 =>
 Do (astore H75 1 x81 x79) fun H82 =>
 Do (aiaddr none 1 a0 x77) fun x83 =>
 Do (astore H82 1 x83 x80) fun H84 =>
 Do (abin .sub (sl j2 1) (.int .i64 4)) fun x85 =>
 JoinP (internal_strconv_formatBase10_k2 Φ a0 Q) [x85, x62] H84) (
 JoinP (internal_strconv_formatBase10_k2 Φ a0 Q) [(sl j2 1), x57] H3)
def internal_strconv_formatBase10_l4 (Φ : Calls') (a0 : AV) (Q : Post) : (List AV × AH) → ((List AV × AH) → Prop) → Prop := fun s4 L5 =>
 Do (abin .geq (sl s4.1 1) (.int .i64 8)) fun x6 =>
 Gd x6 true (
 Do (abin .rem (sl s4.1 0) (.int .u64 100000000)) fun x7 =>
 Do (aconv .u32 x7) fun x8 =>
 Do (abin .quo (sl s4.1 0) (.int .u64 100000000)) fun x9 =>
 Do (abin .quo x8 (.int .u32 10000)) fun x10 =>
 Do (abin .rem x8 (.int .u32 10000)) fun x11 =>
 Do (abin .quo x11 (.int .u32 100)) fun x12 =>
 Do (abin .mul x12 (.int .u32 2)) fun x13 =>
 Do (abin .rem x11 (.int .u32 100)) fun x14 =>
 Do (abin .mul x14 (.int .u32 2)) fun x15 =>
 Do (abin .quo x10 (.int .u32 100)) fun x16 =>
 Do (abin .mul x16 (.int .u32 2)) fun x17 =>
 Do (abin .rem x10 (.int .u32 100)) fun x18 =>
 Do (abin .mul x18 (.int .u32 2)) fun x19 =>
 Do (abin .sub (sl s4.1 1) (.int .i64 1)) fun x20 =>
 Do (abin .sub (sl s4.1 1) (.int .i64 2)) fun x21 =>
 Do (abin .add x15 (.int .u32 1)) fun x22 =>
 Do (aidxs (.str [48, 48, 48, 49, 48, 50, 48, 51, 48, 52, 48, 53, 48, 54, 48, 55, 48, 56, 48, 57, 49, 48, 49, 49, 49, 50, 49, 51, 49, 52, 49, 53, 49, 54, 49, 55, 49, 56, 49, 57, 50, 48, 50, 49, 50, 50, 50, 51, 50, 52, 50, 53, 50, 54, 50, 55, 50, 56, 50, 57, 51, 48, 51, 49, 51, 50, 51, 51, 51, 52, 51, 53, 51, 54, 51, 55, 51, 56, 51, 57, 52, 48, 52, 49, 52, 50, 52, 51, 52, 52, 52, 53, 52, 54, 52, 55, 52, 56, 52, 57, 53, 48, 53, 49, 53, 50, 53, 51, 53, 52, 53, 53, 53, 54, 53, 55, 53, 56, 53, 57, 54, 48, 54, 49, 54, 50, 54, 51, 54, 52, 54, 53, 54, 54, 54, 55, 54, 56, 54, 57, 55, 48, 55, 49, 55, 50, 55, 51, 55, 52, 55, 53, 55, 54, 55, 55, 55, 56, 55, 57, 56, 48, 56, 49, 56, 50, 56, 51, 56, 52, 56, 53, 56, 54, 56, 55, 56, 56, 56, 57, 57, 48, 57, 49, 57, 50, 57, 51, 57, 52, 57, 53, 57, 54, 57, 55, 57, 56, 57, 57]) x22) fun x23 =>
 Do (aidxs (.str [48, 48, 48, 49, 48, 50, 48, 51, 48, 52, 48, 53, 48, 54, 48, 55, 48, 56, 48, 57, 49, 48, 49, 49, 49, 50, 49, 51, 49, 52, 49, 53, 49, 54, 49, 55, 49, 56, 49, 57, 50, 48, 50, 49, 50, 50, 50, 51, 50, 52, 50, 53, 50, 54, 50, 55, 50, 56, 50, 57, 51, 48, 51, 49, 51, 50, 51, 51, 51, 52, 51, 53, 51, 54, 51, 55, 51, 56, 51, 57, 52, 48, 52, 49, 52, 50, 52, 51, 52, 52, 52, 53, 52, 54, 52, 55, 52, 56, 52, 57, 53, 48, 53, 49, 53, 50, 53, 51, 53, 52, 53, 53, 53, 54, 53, 55, 53, 56, 53, 57, 54, 48, 54, 49, 54, 50, 54, 51, 54, 52, 54, 53, 54, 54, 54, 55, 54, 56, 54, 57, 55, 48, 55, 49, 55, 50, 55, 51, 55, 52, 55, 53, 55, 54, 55, 55, 55, 56, 55, 57, 56, 48, 56, 49, 56, 50, 56, 51, 56, 52, 56, 53, 56, 54, 56, 55, 56, 56, 56, 57, 57, 48, 57, 49, 57, 50, 57, 51, 57, 52, 57, 53, 57, 54, 57, 55, 57, 56, 57, 57]) x15) fun x24 =>
 Do (aiaddr none 1 a0 x20) fun x25 =>
 Do (astore s4.2 1 x25 x23) fun H26 =>
 Do (aiaddr none 1 a0 x21) fun x27 =>
 Do (astore H26 1 x27 x24) fun H28 =>
 Do (abin .sub (sl s4.1 1) (.int .i64 3)) fun x29 =>
 Do (abin .sub (sl s4.1 1) (.int .i64 4)) fun x30 =>
 Do (abin .add x13 (.int .u32 1)) fun x31 =>
 Do (aidxs (.str [48, 48, 48, 49, 48, 50, 48, 51, 48, 52, 48, 53, 48, 54, 48, 55, 48, 56, 48, 57, 49, 48, 49, 49, 49, 50, 49, 51, 49, 52, 49, 53, 49, 54, 49, 55, 49, 56, 49, 57, 50, 48, 50, 49, 50, 50, 50, 51, 50, 52, 50, 53, 50, 54, 50, 55, 50, 56, 50, 57, 51, 48, 51, 49, 51, 50, 51, 51, 51, 52, 51, 53, 51, 54, 51, 55, 51, 56, 51, 57, 52, 48, 52, 49, 52, 50, 52, 51, 52, 52, 52, 53, 52, 54, 52, 55, 52, 56, 52, 57, 53, 48, 53, 49, 53, 50, 53, 51, 53, 52, 53, 53, 53, 54, 53, 55, 53, 56, 53, 57, 54, 48, 54, 49, 54, 50, 54, 51, 54, 52, 54, 53, 54, 54, 54, 55, 54, 56, 54, 57, 55, 48, 55, 49, 55, 50, 55, 51, 55, 52, 55, 53, 55, 54, 55, 55, 55, 56, 55, 57, 56, 48, 56, 49, 56, 50, 56, 51, 56, 52, 56, 53, 56, 54, 56, 55, 56, 56, 56, 57, 57, 48, 57, 49, 57, 50, 57, 51, 57, 52, 57, 53, 57, 54, 57, 55, 57, 56, 57, 57]) x31) fun x32 =>
 Do (aidxs (.str [48, 48, 48, 49, 48, 50, 48, 51, 48, 52, 48, 53, 48, 54, 48, 55, 48, 56, 48, 57, 49, 48, 49, 49, 49, 50, 49, 51, 49, 52, 49, 53, 49, 54, 49, 55, 49, 56, 49, 57, 50, 48, 50, 49, 50, 50, 50, 51, 50, 52, 50, 53, 50, 54, 50, 55, 50, 56, 50, 57, 51, 48, 51, 49, 51, 50, 51, 51, 51, 52, 51, 53, 51, 54, 51, 55, 51, 56, 51, 57, 52, 48, 52, 49, 52, 50, 52, 51, 52, 52, 52, 53, 52, 54, 52, 55, 52, 56, 52, 57, 53, 48, 53, 49, 53, 50, 53, 51, 53, 52, 53, 53, 53, 54, 53, 55, 53, 56, 53, 57, 54, 48, 54, 49, 54, 50, 54, 51, 54, 52, 54, 53, 54, 54, 54, 55, 54, 56, 54, 57, 55, 48, 55, 49, 55, 50, 55, 51, 55, 52, 55, 53, 55, 54, 55, 55, 55, 56, 55, 57, 56, 48, 56, 49, 56, 50, 56, 51, 56, 52, 56, 53, 56, 54, 56, 55, 56, 56, 56, 57, 57, 48, 57, 49, 57, 50, 57, 51, 57, 52, 57, 53, 57, 54, 57, 55, 57, 56, 57, 57]) x13) fun x33 =>
 Do (aiaddr none 1 a0 x29) fun x34 =>
 Do (astore H28 1 x34 x32) fun H35 =>
 Do (aiaddr none 1 a0 x30) fun x36 =>
 Do (astore H35 1 x36 x33) fun H37 =>
 Do (abin .sub (sl s4.1 1) (.int .i64 5)) fun x38 =>
 Do (abin .sub (sl s4.1 1) (.int .i64 6)) fun x39 =>
 Do (abin .add x19 (.int .u32 1)) fun x40 =>
 Do (aidxs (.str [48, 48, 48, 49, 48, 50, 48, 51, 48, 52, 48, 53, 48, 54, 48, 55, 48, 56, 48, 57, 49, 48, 49, 49, 49, 50, 49, 51, 49, 52, 49, 53, 49, 54, 49, 55, 49, 56, 49, 57, 50, 48, 50, 49, 50, 50, 50, 51, 50, 52, 50, 53, 50, 54, 50, 55, 50, 56, 50, 57, 51, 48, 51, 49, 51, 50, 51, 51, 51, 52, 51, 53, 51, 54, 51, 55, 51, 56, 51, 57, 52, 48, 52, 49, 52, 50, 52, 51, 52, 52, 52, 53, 52, 54, 52, 55, 52, 56, 52, 57, 53, 48, 53, 49, 53, 50, 53, 51, 53, 52, 53, 53, 53, 54, 53, 55, 53, 56, 53, 57, 54, 48, 54, 49, 54, 50, 54, 51, 54, 52, 54, 53, 54, 54, 54, 55, 54, 56, 54, 57, 55, 48, 55, 49, 55, 50, 55, 51, 55, 52, 55, 53, 55, 54, 55, 55, 55, 56, 55, 57, 56, 48, 56, 49, 56, 50, 56, 51, 56, 52, 56, 53, 56, 54, 56, 55, 56, 56, 56, 57, 57, 48, 57, 49, 57, 50, 57, 51, 57, 52, 57, 53, 57, 54, 57, 55, 57, 56, 57, 57]) x40) fun x41 =>
 Do (aidxs (.str [48, 48, 48, 49, 48, 50, 48, 51, 48, 52, 48, 53, 48, 54, 48, 55, 48, 56, 48, 57, 49, 48, 49, 49, 49, 50, 49, 51, 49, 52, 49, 53, 49, 54, 49, 55, 49, 56, 49, 57, 50, 48, 50, 49, 50, 50, 50, 51, 50, 52, 50, 53, 50, 54, 50, 55, 50, 56, 50, 57, 51, 48, 51, 49, 51, 50, 51, 51, 51, 52, 51, 53, 51, 54, 51, 55, 51, 56, 51, 57, 52, 48, 52, 49, 52, 50, 52, 51, 52, 52, 52, 53, 52, 54, 52, 55, 52, 56, 52, 57, 53, 48, 53, 49, 53, 50, 53, 51, 53, 52, 53, 53, 53, 54, 53, 55, 53, 56, 53, 57, 54, 48, 54, 49, 54, 50, 54, 51, 54, 52, 54, 53, 54, 54, 54, 55, 54, 56, 54, 57, 55, 48, 55, 49, 55, 50, 55, 51, 55, 52, 55, 53, 55, 54, 55, 55, 55, 56, 55, 57, 56, 48, 56, 49, 56, 50, 56, 51, 56, 52, 56, 53, 56, 54, 56, 55, 56, 56, 56, 57, 57, 48, 57, 49, 57, 50, 57, 51, 57, 52, 57, 53, 57, 54, 57, 55, 57, 56, 57, 57]) x19) fun x42 =>
 Do (aiaddr none 1 a0 x38) fun x43 =>
 Do (astore H37 1 x43 x41) fun H44 =>
 Do (aiaddr none 1 a0 x39) fun x45 =>
 Do (astore H44 1 x45 x42) fun H46 =>
 Do (abin .sub (sl s4.1 1) (.int .i64 7)) fun x47 =>
 Do (abin .sub (sl s4.1 1) (.int .i64 8)) fun x48 =>
 Do (abin .add x17 (.int .u32 1)) fun x49 =>
 Do (aidxs (.str [48, 48, 48, 49, 48, 50, 48, 51, 48, 52, 48, 53, 48, 54, 48, 55, 48, 56, 48, 57, 49, 48, 49, 49, 49, 50, 49, 51, 49, 52, 49, 53, 49, 54, 49, 55, 49, 56, 49, 57, 50, 48, 50, 49, 50, 50, 50, 51, 50, 52, 50, 53, 50, 54, 50, 55, 50, 56, 50, 57, 51, 48, 51, 49, 51, 50, 51, 51, 51, 52, 51, 53, 51, 54, 51, 55, 51, 56, 51, 57, 52, 48, 52, 49, 52, 50, 52, 51, 52, 52, 52, 53, 52, 54, 52, 55, 52, 56, 52, 57, 53, 48, 53, 49, 53, 50, 53, 51, 53, 52, 53, 53, 53, 54, 53, 55, 53, 56, 53, 57, 54, 48, 54, 49, 54, 50, 54, 51, 54, 52, 54, 53, 54, 54, 54, 55, 54, 56, 54, 57, 55, 48, 55, 49, 55, 50, 55, 51, 55, 52, 55, 53, 55, 54, 55, 55, 55, 56, 55, 57, 56, 48, 56, 49, 56, 50, 56, 51, 56, 52, 56, 53, 56, 54, 56, 55, 56, 56, 56, 57, 57, 48, 57, 49, 57, 50, 57, 51, 57, 52, 57, 53, 57, 54, 57, 55, 57, 56, 57, 57]) x49) fun x50 =>
 Do (aidxs (.str [48, 48, 48, 49, 48, 50, 48, 51, 48, 52, 48, 53, 48, 54, 48, 55, 48, 56, 48, 57, 49, 48, 49, 49, 49, 50, 49, 51, 49, 52, 49, 53, 49, 54, 49, 55, 49, 56, 49, 57, 50, 48, 50, 49, 50, 50, 50, 51, 50, 52, 50, 53, 50, 54, 50, 55, 50, 56, 50, 57, 51, 48, 51, 49, 51, 50, 51, 51, 51, 52, 51, 53, 51, 54, 51, 55, 51, 56, 51, 57, 52, 48, 52, 49, 52, 50, 52, 51, 52, 52, 52, 53, 52, 54, 52, 55, 52, 56, 52, 57, 53, 48, 53, 49, 53, 50, 53, 51, 53, 52, 53, 53, 53, 54, 53, 55, 53, 56, 53, 57, 54, 48, 54, 49, 54, 50, 54, 51, 54, 52, 54, 53, 54, 54, 54, 55, 54, 56, 54, 57, 55, 48, 55, 49, 55, 50, 55, 51, 55, 52, 55, 53, 55, 54, 55, 55, 55, 56, 55, 57, 56, 48, 56, 49, 56, 50, 56, 51, 56, 52, 56, 53, 56, 54, 56, 55, 56, 56, 56, 57, 57, 48, 57, 49, 57, 50, 57, 51, 57, 52, 57, 53, 57, 54, 57, 55, 57, 56, 57, 57]) x17) fun x51 =>
 Do (aiaddr none 1 a0 x47) fun x52 =>
 Do (astore H46 1 x52 x50) fun H53 =>
 Do (aiaddr none 1 a0 x48) fun x54 =>
 Do (astore H53 1 x54 x51) fun H55 =>
 Do (abin .sub (sl s4.1 1) (.int .i64 8)) fun x56 =>
 L5 ([x9, x56], H55)) (
 JoinP (internal_strconv_formatBase10_k3 Φ a0 Q) [(sl s4.1 0), (sl s4.1 1)] s4.2)
def internal_strconv_formatBase10 (Φ : Calls') (a0 : AV) (a1 : AV) (H : AH) (Q : Post) : Prop :=
 Do (alen false a0) fun x1 =>
 LoopP (internal_strconv_formatBase10_l4 Φ a0 Q) ([a1, x1], H)
def ir_internal_strconv_formatBase10 : AFunc := ⟨167, [],
 .seq (.region [
   ⟨some 17, .mv (.t 0), none⟩,
   ⟨some 18, .len false (.t 17), none⟩,
   ⟨some 4, .mv (.t 18), none⟩])
 (.join [1, 4] [5, 6, 7, 8, 9, 10, 11, 19, 20, 21, 22, 23, 24, 25, 26, 27, 28, 29, 30, 31, 32, 33, 34, 35, 36, 37, 38, 39, 40, 41, 42, 43, 44, 45, 46, 47, 48, 49, 50, 51, 52, 53, 54, 55, 56, 57, 58, 59, 60, 61, 62, 63, 64, 65, 66, 67, 68, 69, 70, 71, 72, 73, 74, 75, 76, 77, 78, 79, 80, 81, 82, 83, 84, 85, 86, 87, 88, 89, 90, 91, 92, 93, 94, 95] (.block 0 (.loop [1, 4] [5, 6, 7, 8, 9, 10, 11, 19, 20, 21, 22, 23, 24, 25, 26, 27, 28, 29, 30, 31, 32, 33, 34, 35, 36, 37, 38, 39, 40, 41, 42, 43, 44, 45, 46, 47, 48, 49, 50, 51, 52, 53, 54, 55, 56, 57, 58, 59, 60, 61, 62, 63, 64, 65, 66, 67, 68, 69, 70, 71, 72, 73, 74, 75, 76, 77, 78, 79, 80, 81, 82, 83, 84, 85, 86, 87, 88, 89, 90, 91, 92, 93, 94, 95] (.seq (.seq (.region [
   ⟨some 19, .mv (.t 4), none⟩,
   ⟨some 20, .bin .geq (.t 19) (.k (.int .i64 8)), none⟩])
 (.cond (.t 20) (.skip)
   (.exit 0)))
 (.block 1 (.seq (.region [
   ⟨some 21, .mv (.t 1), none⟩,
   ⟨some 22, .bin .rem (.t 21) (.k (.int .u64 100000000)), none⟩,
   ⟨some 23, .conv .u32 (.t 22), none⟩,
   ⟨some 5, .mv (.t 23), none⟩])
 (.seq (.region [
   ⟨some 24, .mv (.t 1), none⟩,
   ⟨some 25, .bin .quo (.t 24) (.k (.int .u64 100000000)), none⟩,
   ⟨some 1, .mv (.t 25), none⟩])
 (.seq (.region [
   ⟨some 26, .mv (.t 5), none⟩,
   ⟨some 27, .bin .quo (.t 26) (.k (.int .u32 10000)), none⟩,
   ⟨some 28, .mv (.t 5), none⟩,
   ⟨some 29, .bin .rem (.t 28) (.k (.int .u32 10000)), none⟩,
   ⟨some 6, .mv (.t 27), none⟩,
   ⟨some 7, .mv (.t 29), none⟩])
 (.seq (.region [
   ⟨some 30, .mv (.t 7), none⟩,
   ⟨some 31, .bin .quo (.t 30) (.k (.int .u32 100)), none⟩,
   ⟨some 32, .bin .mul (.t 31) (.k (.int .u32 2)), none⟩,
   ⟨some 33, .mv (.t 7), none⟩,
   ⟨some 34, .bin .rem (.t 33) (.k (.int .u32 100)), none⟩,
   ⟨some 35, .bin .mul (.t 34) (.k (.int .u32 2)), none⟩,
   ⟨some 8, .mv (.t 32), none⟩,
   ⟨some 9, .mv (.t 35), none⟩])
 (.seq (.region [
   ⟨some 36, .mv (.t 6), none⟩,
   ⟨some 37, .bin .quo (.t 36) (.k (.int .u32 100)), none⟩,
   ⟨some 38, .bin .mul (.t 37) (.k (.int .u32 2)), none⟩,
   ⟨some 39, .mv (.t 6), none⟩,
   ⟨some 40, .bin .rem (.t 39) (.k (.int .u32 100)), none⟩,
   ⟨some 41, .bin .mul (.t 40) (.k (.int .u32 2)), none⟩,
   ⟨some 10, .mv (.t 38), none⟩,
   ⟨some 11, .mv (.t 41), none⟩])
 (.seq (.draw [
   ⟨some 42, .mv (.t 0), none⟩,
   ⟨some 43, .mv (.t 4), none⟩,
   ⟨some 44, .bin .sub (.t 43) (.k (.int .i64 1)), none⟩,
   ⟨some 45, .mv (.t 0), none⟩,
   ⟨some 46, .mv (.t 4), none⟩,
   ⟨some 47, .bin .sub (.t 46) (.k (.int .i64 2)), none⟩,
   ⟨some 48, .mv (.t 9), none⟩,
   ⟨some 49, .bin .add (.t 48) (.k (.int .u32 1)), none⟩,
   ⟨some 50, .idxs (.k (.str [48, 48, 48, 49, 48, 50, 48, 51, 48, 52, 48, 53, 48, 54, 48, 55, 48, 56, 48, 57, 49, 48, 49, 49, 49, 50, 49, 51, 49, 52, 49, 53, 49, 54, 49, 55, 49, 56, 49, 57, 50, 48, 50, 49, 50, 50, 50, 51, 50, 52, 50, 53, 50, 54, 50, 55, 50, 56, 50, 57, 51, 48, 51, 49, 51, 50, 51, 51, 51, 52, 51, 53, 51, 54, 51, 55, 51, 56, 51, 57, 52, 48, 52, 49, 52, 50, 52, 51, 52, 52, 52, 53, 52, 54, 52, 55, 52, 56, 52, 57, 53, 48, 53, 49, 53, 50, 53, 51, 53, 52, 53, 53, 53, 54, 53, 55, 53, 56, 53, 57, 54, 48, 54, 49, 54, 50, 54, 51, 54, 52, 54, 53, 54, 54, 54, 55, 54, 56, 54, 57, 55, 48, 55, 49, 55, 50, 55, 51, 55, 52, 55, 53, 55, 54, 55, 55, 55, 56, 55, 57, 56, 48, 56, 49, 56, 50, 56, 51, 56, 52, 56, 53, 56, 54, 56, 55, 56, 56, 56, 57, 57, 48, 57, 49, 57, 50, 57, 51, 57, 52, 57, 53, 57, 54, 57, 55, 57, 56, 57, 57])) (.t 49), none⟩,
   ⟨some 51, .mv (.t 9), none⟩,
   ⟨some 52, .idxs (.k (.str [48, 48, 48, 49, 48, 50, 48, 51, 48, 52, 48, 53, 48, 54, 48, 55, 48, 56, 48, 57, 49, 48, 49, 49, 49, 50, 49, 51, 49, 52, 49, 53, 49, 54, 49, 55, 49, 56, 49, 57, 50, 48, 50, 49, 50, 50, 50, 51, 50, 52, 50, 53, 50, 54, 50, 55, 50, 56, 50, 57, 51, 48, 51, 49, 51, 50, 51, 51, 51, 52, 51, 53, 51, 54, 51, 55, 51, 56, 51, 57, 52, 48, 52, 49, 52, 50, 52, 51, 52, 52, 52, 53, 52, 54, 52, 55, 52, 56, 52, 57, 53, 48, 53, 49, 53, 50, 53, 51, 53, 52, 53, 53, 53, 54, 53, 55, 53, 56, 53, 57, 54, 48, 54, 49, 54, 50, 54, 51, 54, 52, 54, 53, 54, 54, 54, 55, 54, 56, 54, 57, 55, 48, 55, 49, 55, 50, 55, 51, 55, 52, 55, 53, 55, 54, 55, 55, 55, 56, 55, 57, 56, 48, 56, 49, 56, 50, 56, 51, 56, 52, 56, 53, 56, 54, 56, 55, 56, 56, 56, 57, 57, 48, 57, 49, 57, 50, 57, 51, 57, 52, 57, 53, 57, 54, 57, 55, 57, 56, 57, 57])) (.t 51), none⟩,
   ⟨some 53, .iaddr none 1 (.t 42) (.t 44), none⟩,
   ⟨none, .store 1 (.t 53) (.t 50), none⟩,
   ⟨some 54, .iaddr none 1 (.t 45) (.t 47), none⟩,
   ⟨none, .store 1 (.t 54) (.t 52), none⟩]
 [[], [], [1], [], [], [4], [], [6], [6, 7], [], [9], [0, 1, 2, 6, 7, 8], [0, 1, 2, 6, 7, 8, 11], [0, 1, 2, 3, 4, 5, 6, 7, 8, 9, 10, 11, 12], [0, 1, 2, 3, 4, 5, 6, 7, 8, 9, 10, 11, 12, 13]] [([0, 1, 2, 3, 4, 5, 6, 7, 8, 9, 10, 11], 12, []), ([13], 14, [])] [])
 (.seq (.draw [
   ⟨some 55, .mv (.t 0), none⟩,
   ⟨some 56, .mv (.t 4), none⟩,
   ⟨some 57, .bin .sub (.t 56) (.k (.int .i64 3)), none⟩,
   ⟨some 58, .mv (.t 0), none⟩,
   ⟨some 59, .mv (.t 4), none⟩,
   ⟨some 60, .bin .sub (.t 59) (.k (.int .i64 4)), none⟩,
   ⟨some 61, .mv (.t 8), none⟩,
   ⟨some 62, .bin .add (.t 61) (.k (.int .u32 1)), none⟩,
   ⟨some 63, .idxs (.k (.str [48, 48, 48, 49, 48, 50, 48, 51, 48, 52, 48, 53, 48, 54, 48, 55, 48, 56, 48, 57, 49, 48, 49, 49, 49, 50, 49, 51, 49, 52, 49, 53, 49, 54, 49, 55, 49, 56, 49, 57, 50, 48, 50, 49, 50, 50, 50, 51, 50, 52, 50, 53, 50, 54, 50, 55, 50, 56, 50, 57, 51, 48, 51, 49, 51, 50, 51, 51, 51, 52, 51, 53, 51, 54, 51, 55, 51, 56, 51, 57, 52, 48, 52, 49, 52, 50, 52, 51, 52, 52, 52, 53, 52, 54, 52, 55, 52, 56, 52, 57, 53, 48, 53, 49, 53, 50, 53, 51, 53, 52, 53, 53, 53, 54, 53, 55, 53, 56, 53, 57, 54, 48, 54, 49, 54, 50, 54, 51, 54, 52, 54, 53, 54, 54, 54, 55, 54, 56, 54, 57, 55, 48, 55, 49, 55, 50, 55, 51, 55, 52, 55, 53, 55, 54, 55, 55, 55, 56, 55, 57, 56, 48, 56, 49, 56, 50, 56, 51, 56, 52, 56, 53, 56, 54, 56, 55, 56, 56, 56, 57, 57, 48, 57, 49, 57, 50, 57, 51, 57, 52, 57, 53, 57, 54, 57, 55, 57, 56, 57, 57])) (.t 62), none⟩,
   ⟨some 64, .mv (.t 8), none⟩,
   ⟨some 65, .idxs (.k (.str [48, 48, 48, 49, 48, 50, 48, 51, 48, 52, 48, 53, 48, 54, 48, 55, 48, 56, 48, 57, 49, 48, 49, 49, 49, 50, 49, 51, 49, 52, 49, 53, 49, 54, 49, 55, 49, 56, 49, 57, 50, 48, 50, 49, 50, 50, 50, 51, 50, 52, 50, 53, 50, 54, 50, 55, 50, 56, 50, 57, 51, 48, 51, 49, 51, 50, 51, 51, 51, 52, 51, 53, 51, 54, 51, 55, 51, 56, 51, 57, 52, 48, 52, 49, 52, 50, 52, 51, 52, 52, 52, 53, 52, 54, 52, 55, 52, 56, 52, 57, 53, 48, 53, 49, 53, 50, 53, 51, 53, 52, 53, 53, 53, 54, 53, 55, 53, 56, 53, 57, 54, 48, 54, 49, 54, 50, 54, 51, 54, 52, 54, 53, 54, 54, 54, 55, 54, 56, 54, 57, 55, 48, 55, 49, 55, 50, 55, 51, 55, 52, 55, 53, 55, 54, 55, 55, 55, 56, 55, 57, 56, 48, 56, 49, 56, 50, 56, 51, 56, 52, 56, 53, 56, 54, 56, 55, 56, 56, 56, 57, 57, 48, 57, 49, 57, 50, 57, 51, 57, 52, 57, 53, 57, 54, 57, 55, 57, 56, 57, 57])) (.t 64), none⟩,
   ⟨some 66, .iaddr none 1 (.t 55) (.t 57), none⟩,
   ⟨none, .store 1 (.t 66) (.t 63), none⟩,
   ⟨some 67, .iaddr none 1 (.t 58) (.t 60), none⟩,
   ⟨none, .store 1 (.t 67) (.t 65), none⟩]
 [[], [], [1], [], [], [4], [], [6], [6, 7], [], [9], [0, 1, 2, 6, 7, 8], [0, 1, 2, 6, 7, 8, 11], [0, 1, 2, 3, 4, 5, 6, 7, 8, 9, 10, 11, 12], [0, 1, 2, 3, 4, 5, 6, 7, 8, 9, 10, 11, 12, 13]] [([0, 1, 2, 3, 4, 5, 6, 7, 8, 9, 10, 11], 12, []), ([13], 14, [])] [])
 (.seq (.draw [
   ⟨some 68, .mv (.t 0), none⟩,
   ⟨some 69, .mv (.t 4), none⟩,
   ⟨some 70, .bin .sub (.t 69) (.k (.int .i64 5)), none⟩,
   ⟨some 71, .mv (.t 0), none⟩,
   ⟨some 72, .mv (.t 4), none⟩,
   ⟨some 73, .bin .sub (.t 72) (.k (.int .i64 6)), none⟩,
   ⟨some 74, .mv (.t 11), none⟩,
   ⟨some 75, .bin .add (.t 74) (.k (.int .u32 1)), none⟩,
   ⟨some 76, .idxs (.k (.str [48, 48, 48, 49, 48, 50, 48, 51, 48, 52, 48, 53, 48, 54, 48, 55, 48, 56, 48, 57, 49, 48, 49, 49, 49, 50, 49, 51, 49, 52, 49, 53, 49, 54, 49, 55, 49, 56, 49, 57, 50, 48, 50, 49, 50, 50, 50, 51, 50, 52, 50, 53, 50, 54, 50, 55, 50, 56, 50, 57, 51, 48, 51, 49, 51, 50, 51, 51, 51, 52, 51, 53, 51, 54, 51, 55, 51, 56, 51, 57, 52, 48, 52, 49, 52, 50, 52, 51, 52, 52, 52, 53, 52, 54, 52, 55, 52, 56, 52, 57, 53, 48, 53, 49, 53, 50, 53, 51, 53, 52, 53, 53, 53, 54, 53, 55, 53, 56, 53, 57, 54, 48, 54, 49, 54, 50, 54, 51, 54, 52, 54, 53, 54, 54, 54, 55, 54, 56, 54, 57, 55, 48, 55, 49, 55, 50, 55, 51, 55, 52, 55, 53, 55, 54, 55, 55, 55, 56, 55, 57, 56, 48, 56, 49, 56, 50, 56, 51, 56, 52, 56, 53, 56, 54, 56, 55, 56, 56, 56, 57, 57, 48, 57, 49, 57, 50, 57, 51, 57, 52, 57, 53, 57, 54, 57, 55, 57, 56, 57, 57])) (.t 75), none⟩,
   ⟨some 77, .mv (.t 11), none⟩,
   ⟨some 78, .idxs (.k (.str [48, 48, 48, 49, 48, 50, 48, 51, 48, 52, 48, 53, 48, 54, 48, 55, 48, 56, 48, 57, 49, 48, 49, 49, 49, 50, 49, 51, 49, 52, 49, 53, 49, 54, 49, 55, 49, 56, 49, 57, 50, 48, 50, 49, 50, 50, 50, 51, 50, 52, 50, 53, 50, 54, 50, 55, 50, 56, 50, 57, 51, 48, 51, 49, 51, 50, 51, 51, 51, 52, 51, 53, 51, 54, 51, 55, 51, 56, 51, 57, 52, 48, 52, 49, 52, 50, 52, 51, 52, 52, 52, 53, 52, 54, 52, 55, 52, 56, 52, 57, 53, 48, 53, 49, 53, 50, 53, 51, 53, 52, 53, 53, 53, 54, 53, 55, 53, 56, 53, 57, 54, 48, 54, 49, 54, 50, 54, 51, 54, 52, 54, 53, 54, 54, 54, 55, 54, 56, 54, 57, 55, 48, 55, 49, 55, 50, 55, 51, 55, 52, 55, 53, 55, 54, 55, 55, 55, 56, 55, 57, 56, 48, 56, 49, 56, 50, 56, 51, 56, 52, 56, 53, 56, 54, 56, 55, 56, 56, 56, 57, 57, 48, 57, 49, 57, 50, 57, 51, 57, 52, 57, 53, 57, 54, 57, 55, 57, 56, 57, 57])) (.t 77), none⟩,
   ⟨some 79, .iaddr none 1 (.t 68) (.t 70), none⟩,
   ⟨none, .store 1 (.t 79) (.t 76), none⟩,
   ⟨some 80, .iaddr none 1 (.t 71) (.t 73), none⟩,
   ⟨none, .store 1 (.t 80) (.t 78), none⟩]
 [[], [], [1], [], [], [4], [], [6], [6, 7], [], [9], [0, 1, 2, 6, 7, 8], [0, 1, 2, 6, 7, 8, 11], [0, 1, 2, 3, 4, 5, 6, 7, 8, 9, 10, 11, 12], [0, 1, 2, 3, 4, 5, 6, 7, 8, 9, 10, 11, 12, 13]] [([0, 1, 2, 3, 4, 5, 6, 7, 8, 9, 10, 11], 12, []), ([13], 14, [])] [])
 (.seq (.draw [
   ⟨some 81, .mv (.t 0), none⟩,
   ⟨some 82, .mv (.t 4), none⟩,
   ⟨some 83, .bin .sub (.t 82) (.k (.int .i64 7)), none⟩,
   ⟨some 84, .mv (.t 0), none⟩,
   ⟨some 85, .mv (.t 4), none⟩,
   ⟨some 86, .bin .sub (.t 85) (.k (.int .i64 8)), none⟩,
   ⟨some 87, .mv (.t 10), none⟩,
   ⟨some 88, .bin .add (.t 87) (.k (.int .u32 1)), none⟩,
   ⟨some 89, .idxs (.k (.str [48, 48, 48, 49, 48, 50, 48, 51, 48, 52, 48, 53, 48, 54, 48, 55, 48, 56, 48, 57, 49, 48, 49, 49, 49, 50, 49, 51, 49, 52, 49, 53, 49, 54, 49, 55, 49, 56, 49, 57, 50, 48, 50, 49, 50, 50, 50, 51, 50, 52, 50, 53, 50, 54, 50, 55, 50, 56, 50, 57, 51, 48, 51, 49, 51, 50, 51, 51, 51, 52, 51, 53, 51, 54, 51, 55, 51, 56, 51, 57, 52, 48, 52, 49, 52, 50, 52, 51, 52, 52, 52, 53, 52, 54, 52, 55, 52, 56, 52, 57, 53, 48, 53, 49, 53, 50, 53, 51, 53, 52, 53, 53, 53, 54, 53, 55, 53, 56, 53, 57, 54, 48, 54, 49, 54, 50, 54, 51, 54, 52, 54, 53, 54, 54, 54, 55, 54, 56, 54, 57, 55, 48, 55, 49, 55, 50, 55, 51, 55, 52, 55, 53, 55, 54, 55, 55, 55, 56, 55, 57, 56, 48, 56, 49, 56, 50, 56, 51, 56, 52, 56, 53, 56, 54, 56, 55, 56, 56, 56, 57, 57, 48, 57, 49, 57, 50, 57, 51, 57, 52, 57, 53, 57, 54, 57, 55, 57, 56, 57, 57])) (.t 88), none⟩,
   ⟨some 90, .mv (.t 10), none⟩,
   ⟨some 91, .idxs (.k (.str [48, 48, 48, 49, 48, 50, 48, 51, 48, 52, 48, 53, 48, 54, 48, 55, 48, 56, 48, 57, 49, 48, 49, 49, 49, 50, 49, 51, 49, 52, 49, 53, 49, 54, 49, 55, 49, 56, 49, 57, 50, 48, 50, 49, 50, 50, 50, 51, 50, 52, 50, 53, 50, 54, 50, 55, 50, 56, 50, 57, 51, 48, 51, 49, 51, 50, 51, 51, 51, 52, 51, 53, 51, 54, 51, 55, 51, 56, 51, 57, 52, 48, 52, 49, 52, 50, 52, 51, 52, 52, 52, 53, 52, 54, 52, 55, 52, 56, 52, 57, 53, 48, 53, 49, 53, 50, 53, 51, 53, 52, 53, 53, 53, 54, 53, 55, 53, 56, 53, 57, 54, 48, 54, 49, 54, 50, 54, 51, 54, 52, 54, 53, 54, 54, 54, 55, 54, 56, 54, 57, 55, 48, 55, 49, 55, 50, 55, 51, 55, 52, 55, 53, 55, 54, 55, 55, 55, 56, 55, 57, 56, 48, 56, 49, 56, 50, 56, 51, 56, 52, 56, 53, 56, 54, 56, 55, 56, 56, 56, 57, 57, 48, 57, 49, 57, 50, 57, 51, 57, 52, 57, 53, 57, 54, 57, 55, 57, 56, 57, 57])) (.t 90), none⟩,
   ⟨some 92, .iaddr none 1 (.t 81) (.t 83), none⟩,
   ⟨none, .store 1 (.t 92) (.t 89), none⟩,
   ⟨some 93, .iaddr none 1 (.t 84) (.t 86), none⟩,
   ⟨none, .store 1 (.t 93) (.t 91), none⟩]
 [[], [], [1], [], [], [4], [], [6], [6, 7], [], [9], [0, 1, 2, 6, 7, 8], [0, 1, 2, 6, 7, 8, 11], [0, 1, 2, 3, 4, 5, 6, 7, 8, 9, 10, 11, 12], [0, 1, 2, 3, 4, 5, 6, 7, 8, 9, 10, 11, 12, 13]] [([0, 1, 2, 3, 4, 5, 6, 7, 8, 9, 10, 11], 12, []), ([13], 14, [])] [])
 (.region [
   ⟨some 94, .mv (.t 4), none⟩,
   ⟨some 95, .bin .sub (.t 94) (.k (.int .i64 8)), none⟩,
   ⟨some 4, .mv (.t 95), none⟩]))))))))))))))
 (.seq (.region [
   ⟨some 96, .mv (.t 1), none⟩,
   ⟨some 97, .conv .u32 (.t 96), none⟩,
   ⟨some 12, .mv (.t 97), none⟩])
 (.join [4, 12] [13, 14, 15, 98, 99, 100, 101, 102, 103, 104, 105, 106, 107, 108, 109, 110, 111, 112, 113, 114, 115, 116, 117, 118, 119, 120, 121, 122, 123, 124, 125, 126, 127, 128, 129, 130, 131, 132, 133, 134, 135, 136, 137] (.seq (.region [
   ⟨some 98, .mv (.t 4), none⟩,
   ⟨some 99, .bin .geq (.t 98) (.k (.int .i64 4)), none⟩])
 (.cond (.t 99) (.seq (.region [
     ⟨some 100, .mv (.t 12), none⟩,
     ⟨some 101, .bin .rem (.t 100) (.k (.int .u32 10000)), none⟩,
     ⟨some 13, .mv (.t 101), none⟩])
   (.seq (.region [
     ⟨some 102, .mv (.t 12), none⟩,
     ⟨some 103, .bin .quo (.t 102) (.k (.int .u32 10000)), none⟩,
     ⟨some 12, .mv (.t 103), none⟩])
   (.seq (.region [
     ⟨some 104, .mv (.t 13), none⟩,
     ⟨some 105, .bin .quo (.t 104) (.k (.int .u32 100)), none⟩,
     ⟨some 106, .bin .mul (.t 105) (.k (.int .u32 2)), none⟩,
     ⟨some 107, .mv (.t 13), none⟩,
     ⟨some 108, .bin .rem (.t 107) (.k (.int .u32 100)), none⟩,
     ⟨some 109, .bin .mul (.t 108) (.k (.int .u32 2)), none⟩,
     ⟨some 14, .mv (.t 106), none⟩,
     ⟨some 15, .mv (.t 109), none⟩])
   (.seq (.draw [
     ⟨some 110, .mv (.t 0), none⟩,
     ⟨some 111, .mv (.t 4), none⟩,
     ⟨some 112, .bin .sub (.t 111) (.k (.int .i64 1)), none⟩,
     ⟨some 113, .mv (.t 0), none⟩,
     ⟨some 114, .mv (.t 4), none⟩,
     ⟨some 115, .bin .sub (.t 114) (.k (.int .i64 2)), none⟩,
     ⟨some 116, .mv (.t 15), none⟩,
     ⟨some 117, .bin .add (.t 116) (.k (.int .u32 1)), none⟩,
     ⟨some 118, .idxs (.k (.str [48, 48, 48, 49, 48, 50, 48, 51, 48, 52, 48, 53, 48, 54, 48, 55, 48, 56, 48, 57, 49, 48, 49, 49, 49, 50, 49, 51, 49, 52, 49, 53, 49, 54, 49, 55, 49, 56, 49, 57, 50, 48, 50, 49, 50, 50, 50, 51, 50, 52, 50, 53, 50, 54, 50, 55, 50, 56, 50, 57, 51, 48, 51, 49, 51, 50, 51, 51, 51, 52, 51, 53, 51, 54, 51, 55, 51, 56, 51, 57, 52, 48, 52, 49, 52, 50, 52, 51, 52, 52, 52, 53, 52, 54, 52, 55, 52, 56, 52, 57, 53, 48, 53, 49, 53, 50, 53, 51, 53, 52, 53, 53, 53, 54, 53, 55, 53, 56, 53, 57, 54, 48, 54, 49, 54, 50, 54, 51, 54, 52, 54, 53, 54, 54, 54, 55, 54, 56, 54, 57, 55, 48, 55, 49, 55, 50, 55, 51, 55, 52, 55, 53, 55, 54, 55, 55, 55, 56, 55, 57, 56, 48, 56, 49, 56, 50, 56, 51, 56, 52, 56, 53, 56, 54, 56, 55, 56, 56, 56, 57, 57, 48, 57, 49, 57, 50, 57, 51, 57, 52, 57, 53, 57, 54, 57, 55, 57, 56, 57, 57])) (.t 117), none⟩,
     ⟨some 119, .mv (.t 15), none⟩,
     ⟨some 120, .idxs (.k (.str [48, 48, 48, 49, 48, 50, 48, 51, 48, 52, 48, 53, 48, 54, 48, 55, 48, 56, 48, 57, 49, 48, 49, 49, 49, 50, 49, 51, 49, 52, 49, 53, 49, 54, 49, 55, 49, 56, 49, 57, 50, 48, 50, 49, 50, 50, 50, 51, 50, 52, 50, 53, 50, 54, 50, 55, 50, 56, 50, 57, 51, 48, 51, 49, 51, 50, 51, 51, 51, 52, 51, 53, 51, 54, 51, 55, 51, 56, 51, 57, 52, 48, 52, 49, 52, 50, 52, 51, 52, 52, 52, 53, 52, 54, 52, 55, 52, 56, 52, 57, 53, 48, 53, 49, 53, 50, 53, 51, 53, 52, 53, 53, 53, 54, 53, 55, 53, 56, 53, 57, 54, 48, 54, 49, 54, 50, 54, 51, 54, 52, 54, 53, 54, 54, 54, 55, 54, 56, 54, 57, 55, 48, 55, 49, 55, 50, 55, 51, 55, 52, 55, 53, 55, 54, 55, 55, 55, 56, 55, 57, 56, 48, 56, 49, 56, 50, 56, 51, 56, 52, 56, 53, 56, 54, 56, 55, 56, 56, 56, 57, 57, 48, 57, 49, 57, 50, 57, 51, 57, 52, 57, 53, 57, 54, 57, 55, 57, 56, 57, 57])) (.t 119), none⟩,
     ⟨some 121, .iaddr none 1 (.t 110) (.t 112), none⟩,
     ⟨none, .store 1 (.t 121) (.t 118), none⟩,
     ⟨some 122, .iaddr none 1 (.t 113) (.t 115), none⟩,
     ⟨none, .store 1 (.t 122) (.t 120), none⟩]
   [[], [], [1], [], [], [4], [], [6], [6, 7], [], [9], [0, 1, 2, 6, 7, 8], [0, 1, 2, 6, 7, 8, 11], [0, 1, 2, 3, 4, 5, 6, 7, 8, 9, 10, 11, 12], [0, 1, 2, 3, 4, 5, 6, 7, 8, 9, 10, 11, 12, 13]] [([0, 1, 2, 3, 4, 5, 6, 7, 8, 9, 10, 11], 12, []), ([13], 14, [])] [])
   (.seq (.draw [
     ⟨some 123, .mv (.t 0), none⟩,
     ⟨some 124, .mv (.t 4), none⟩,
     ⟨some 125, .bin .sub (.t 124) (.k (.int .i64 3)), none⟩,
     ⟨some 126, .mv (.t 0), none⟩,
     ⟨some 127, .mv (.t 4), none⟩,
     ⟨some 128, .bin .sub (.t 127) (.k (.int .i64 4)), none⟩,
     ⟨some 129, .mv (.t 14), none⟩,
     ⟨some 130, .bin .add (.t 129) (.k (.int .u32 1)), none⟩,
     ⟨some 131, .idxs (.k (.str [48, 48, 48, 49, 48, 50, 48, 51, 48, 52, 48, 53, 48, 54, 48, 55, 48, 56, 48, 57, 49, 48, 49, 49, 49, 50, 49, 51, 49, 52, 49, 53, 49, 54, 49, 55, 49, 56, 49, 57, 50, 48, 50, 49, 50, 50, 50, 51, 50, 52, 50, 53, 50, 54, 50, 55, 50, 56, 50, 57, 51, 48, 51, 49, 51, 50, 51, 51, 51, 52, 51, 53, 51, 54, 51, 55, 51, 56, 51, 57, 52, 48, 52, 49, 52, 50, 52, 51, 52, 52, 52, 53, 52, 54, 52, 55, 52, 56, 52, 57, 53, 48, 53, 49, 53, 50, 53, 51, 53, 52, 53, 53, 53, 54, 53, 55, 53, 56, 53, 57, 54, 48, 54, 49, 54, 50, 54, 51, 54, 52, 54, 53, 54, 54, 54, 55, 54, 56, 54, 57, 55, 48, 55, 49, 55, 50, 55, 51, 55, 52, 55, 53, 55, 54, 55, 55, 55, 56, 55, 57, 56, 48, 56, 49, 56, 50, 56, 51, 56, 52, 56, 53, 56, 54, 56, 55, 56, 56, 56, 57, 57, 48, 57, 49, 57, 50, 57, 51, 57, 52, 57, 53, 57, 54, 57, 55, 57, 56, 57, 57])) (.t 130), none⟩,
     ⟨some 132, .mv (.t 14), none⟩,
     ⟨some 133, .idxs (.k (.str [48, 48, 48, 49, 48, 50, 48, 51, 48, 52, 48, 53, 48, 54, 48, 55, 48, 56, 48, 57, 49, 48, 49, 49, 49, 50, 49, 51, 49, 52, 49, 53, 49, 54, 49, 55, 49, 56, 49, 57, 50, 48, 50, 49, 50, 50, 50, 51, 50, 52, 50, 53, 50, 54, 50, 55, 50, 56, 50, 57, 51, 48, 51, 49, 51, 50, 51, 51, 51, 52, 51, 53, 51, 54, 51, 55, 51, 56, 51, 57, 52, 48, 52, 49, 52, 50, 52, 51, 52, 52, 52, 53, 52, 54, 52, 55, 52, 56, 52, 57, 53, 48, 53, 49, 53, 50, 53, 51, 53, 52, 53, 53, 53, 54, 53, 55, 53, 56, 53, 57, 54, 48, 54, 49, 54, 50, 54, 51, 54, 52, 54, 53, 54, 54, 54, 55, 54, 56, 54, 57, 55, 48, 55, 49, 55, 50, 55, 51, 55, 52, 55, 53, 55, 54, 55, 55, 55, 56, 55, 57, 56, 48, 56, 49, 56, 50, 56, 51, 56, 52, 56, 53, 56, 54, 56, 55, 56, 56, 56, 57, 57, 48, 57, 49, 57, 50, 57, 51, 57, 52, 57, 53, 57, 54, 57, 55, 57, 56, 57, 57])) (.t 132), none⟩,
     ⟨some 134, .iaddr none 1 (.t 123) (.t 125), none⟩,
     ⟨none, .store 1 (.t 134) (.t 131), none⟩,
     ⟨some 135, .iaddr none 1 (.t 126) (.t 128), none⟩,
     ⟨none, .store 1 (.t 135) (.t 133), none⟩]
   [[], [], [1], [], [], [4], [], [6], [6, 7], [], [9], [0, 1, 2, 6, 7, 8], [0, 1, 2, 6, 7, 8, 11], [0, 1, 2, 3, 4, 5, 6, 7, 8, 9, 10, 11, 12], [0, 1, 2, 3, 4, 5, 6, 7, 8, 9, 10, 11, 12, 13]] [([0, 1, 2, 3, 4, 5, 6, 7, 8, 9, 10, 11], 12, []), ([13], 14, [])] [])
   (.region [
     ⟨some 136, .mv (.t 4), none⟩,
     ⟨some 137, .bin .sub (.t 136) (.k (.int .i64 4)), none⟩,
     ⟨some 4, .mv (.t 137), none⟩]))))))
   (.skip)))
 (.join [4, 12] [16, 138, 139, 140, 141, 142, 143, 144, 145, 146, 147, 148, 149, 150, 151, 152, 153, 154, 155, 156, 157, 158, 159] (.seq (.region [
   ⟨some 138, .mv (.t 4), none⟩,
   ⟨some 139, .bin .geq (.t 138) (.k (.int .i64 2)), none⟩])
 (.cond (.t 139) (.seq (.region [
     ⟨some 140, .mv (.t 12), none⟩,
     ⟨some 141, .bin .rem (.t 140) (.k (.int .u32 100)), none⟩,
     ⟨some 142, .bin .mul (.t 141) (.k (.int .u32 2)), none⟩,
     ⟨some 16, .mv (.t 142), none⟩])
   (.seq (.region [
     ⟨some 143, .mv (.t 12), none⟩,
     ⟨some 144, .bin .quo (.t 143) (.k (.int .u32 100)), none⟩,
     ⟨some 12, .mv (.t 144), none⟩])
   (.seq (.draw [
     ⟨some 145, .mv (.t 0), none⟩,
     ⟨some 146, .mv (.t 4), none⟩,
     ⟨some 147, .bin .sub (.t 146) (.k (.int .i64 1)), none⟩,
     ⟨some 148, .mv (.t 0), none⟩,
     ⟨some 149, .mv (.t 4), none⟩,
     ⟨some 150, .bin .sub (.t 149) (.k (.int .i64 2)), none⟩,
     ⟨some 151, .mv (.t 16), none⟩,
     ⟨some 152, .bin .add (.t 151) (.k (.int .u32 1)), none⟩,
     ⟨some 153, .idxs (.k (.str [48, 48, 48, 49, 48, 50, 48, 51, 48, 52, 48, 53, 48, 54, 48, 55, 48, 56, 48, 57, 49, 48, 49, 49, 49, 50, 49, 51, 49, 52, 49, 53, 49, 54, 49, 55, 49, 56, 49, 57, 50, 48, 50, 49, 50, 50, 50, 51, 50, 52, 50, 53, 50, 54, 50, 55, 50, 56, 50, 57, 51, 48, 51, 49, 51, 50, 51, 51, 51, 52, 51, 53, 51, 54, 51, 55, 51, 56, 51, 57, 52, 48, 52, 49, 52, 50, 52, 51, 52, 52, 52, 53, 52, 54, 52, 55, 52, 56, 52, 57, 53, 48, 53, 49, 53, 50, 53, 51, 53, 52, 53, 53, 53, 54, 53, 55, 53, 56, 53, 57, 54, 48, 54, 49, 54, 50, 54, 51, 54, 52, 54, 53, 54, 54, 54, 55, 54, 56, 54, 57, 55, 48, 55, 49, 55, 50, 55, 51, 55, 52, 55, 53, 55, 54, 55, 55, 55, 56, 55, 57, 56, 48, 56, 49, 56, 50, 56, 51, 56, 52, 56, 53, 56, 54, 56, 55, 56, 56, 56, 57, 57, 48, 57, 49, 57, 50, 57, 51, 57, 52, 57, 53, 57, 54, 57, 55, 57, 56, 57, 57])) (.t 152), none⟩,
     ⟨some 154, .mv (.t 16), none⟩,
     ⟨some 155, .idxs (.k (.str [48, 48, 48, 49, 48, 50, 48, 51, 48, 52, 48, 53, 48, 54, 48, 55, 48, 56, 48, 57, 49, 48, 49, 49, 49, 50, 49, 51, 49, 52, 49, 53, 49, 54, 49, 55, 49, 56, 49, 57, 50, 48, 50, 49, 50, 50, 50, 51, 50, 52, 50, 53, 50, 54, 50, 55, 50, 56, 50, 57, 51, 48, 51, 49, 51, 50, 51, 51, 51, 52, 51, 53, 51, 54, 51, 55, 51, 56, 51, 57, 52, 48, 52, 49, 52, 50, 52, 51, 52, 52, 52, 53, 52, 54, 52, 55, 52, 56, 52, 57, 53, 48, 53, 49, 53, 50, 53, 51, 53, 52, 53, 53, 53, 54, 53, 55, 53, 56, 53, 57, 54, 48, 54, 49, 54, 50, 54, 51, 54, 52, 54, 53, 54, 54, 54, 55, 54, 56, 54, 57, 55, 48, 55, 49, 55, 50, 55, 51, 55, 52, 55, 53, 55, 54, 55, 55, 55, 56, 55, 57, 56, 48, 56, 49, 56, 50, 56, 51, 56, 52, 56, 53, 56, 54, 56, 55, 56, 56, 56, 57, 57, 48, 57, 49, 57, 50, 57, 51, 57, 52, 57, 53, 57, 54, 57, 55, 57, 56, 57, 57])) (.t 154), none⟩,
     ⟨some 156, .iaddr none 1 (.t 145) (.t 147), none⟩,
     ⟨none, .store 1 (.t 156) (.t 153), none⟩,
     ⟨some 157, .iaddr none 1 (.t 148) (.t 150), none⟩,
     ⟨none, .store 1 (.t 157) (.t 155), none⟩]
   [[], [], [1], [], [], [4], [], [6], [6, 7], [], [9], [0, 1, 2, 6, 7, 8], [0, 1, 2, 6, 7, 8, 11], [0, 1, 2, 3, 4, 5, 6, 7, 8, 9, 10, 11, 12], [0, 1, 2, 3, 4, 5, 6, 7, 8, 9, 10, 11, 12, 13]] [([0, 1, 2, 3, 4, 5, 6, 7, 8, 9, 10, 11], 12, []), ([13], 14, [])] [])
   (.region [
     ⟨some 158, .mv (.t 4), none⟩,
     ⟨some 159, .bin .sub (.t 158) (.k (.int .i64 2)), none⟩,
     ⟨some 4, .mv (.t 159), none⟩]))))
   (.skip)))
 (.seq (.region [
   ⟨some 160, .mv (.t 4), none⟩,
   ⟨some 161, .bin .gtr (.t 160) (.k (.int .i64 0)), none⟩])
 (.cond (.t 161) (.region [
     ⟨some 162, .mv (.t 0), none⟩,
     ⟨some 163, .mv (.t 12), none⟩,
     ⟨some 164, .bin .add (.k (.int .u32 48)) (.t 163), none⟩,
     ⟨some 165, .conv .u8 (.t 164), none⟩,
     ⟨some 166, .iaddr none 1 (.t 162) (.k (.int .i64 0)), none⟩,
     ⟨none, .store 1 (.t 166) (.t 165), none⟩])
   (.skip)))))))⟩
theorem eq_internal_strconv_formatBase10 (Φ : Calls') (a0 a1 : AV) (H : AH) (Q : Post) : fnE1 Φ ir_internal_strconv_formatBase10 [a0, a1] H Q = internal_strconv_formatBase10 Φ a0 a1 H Q := by kernel_rfl

/-! internal/strconv.log10Pow2 -/
def internal_strconv_log10Pow2 (Φ : Calls') (a0 : AV) (H : AH) (Q : Post) : Prop :=
 Do (abin .mul a0 (.int .i64 78913)) fun x1 =>
 Do (abin .shr x1 (.int .u64 18)) fun x2 =>
 Q x2 H
def ir_internal_strconv_log10Pow2 : AFunc := ⟨6, [.tmp 2],
 .seq (.region [
   ⟨some 2, .mv (.k (.int .i64 0)), none⟩])
 (.seq (.region [
   ⟨some 3, .mv (.t 0), none⟩,
   ⟨some 4, .bin .mul (.t 3) (.k (.int .i64 78913)), none⟩,
   ⟨some 5, .bin .shr (.t 4) (.k (.int .u64 18)), none⟩,
   ⟨some 2, .mv (.t 5), none⟩])
 (.ret))⟩
theorem eq_internal_strconv_log10Pow2 (Φ : Calls') (a0 : AV) (H : AH) (Q : Post) : fnE1 Φ ir_internal_strconv_log10Pow2 [a0] H Q = internal_strconv_log10Pow2 Φ a0 H Q := by kernel_rfl

/-! internal/strconv.bool2[int] -/
def internal_strconv_bool2_int_ (Φ : Calls') (a0 : AV) (H : AH) (Q : Post) : Prop :=
 Gd a0 true (
 Q (.int .i64 1) H) (
 Q (.int .i64 0) H)
def ir_internal_strconv_bool2_int_ : AFunc := ⟨4, [.tmp 2],
 .seq (.region [
   ⟨some 2, .mv (.k (.int .i64 0)), none⟩])
 (.seq (.seq (.region [
   ⟨some 3, .mv (.t 0), none⟩])
 (.cond (.t 3) (.seq (.region [
     ⟨some 2, .mv (.k (.int .i64 1)), none⟩])
   (.ret))
   (.skip)))
 (.seq (.region [
   ⟨some 2, .mv (.k (.int .i64 0)), none⟩])
 (.ret)))⟩
theorem eq_internal_strconv_bool2_int_ (Φ : Calls') (a0 : AV) (H : AH) (Q : Post) : fnE1 Φ ir_internal_strconv_bool2_int_ [a0] H Q = internal_strconv_bool2_int_ Φ a0 H Q := by kernel_rfl

/-! internal/strconv.isPowerOfTwo -/
def internal_strconv_isPowerOfTwo (Φ : Calls') (a0 : AV) (H : AH) (Q : Post) : Prop :=
 Do (abin .sub a0 (.int .i64 1)) fun x1 =>
 Do (abin .and a0 x1) fun x2 =>
 Do (abin .eql x2 (.int .i64 0)) fun x3 =>
 Q x3 H
def ir_internal_strconv_isPowerOfTwo : AFunc := ⟨8, [.tmp 2],
 .seq (.region [
   ⟨some 2, .mv (.k (.bool false)), none⟩])
 (.seq (.region [
   ⟨some 3, .mv (.t 0), none⟩,
   ⟨some 4, .mv (.t 0), none⟩,
   ⟨some 5, .bin .sub (.t 4) (.k (.int .i64 1)), none⟩,
   ⟨some 6, .bin .and (.t 3) (.t 5), none⟩,
   ⟨some 7, .bin .eql (.t 6) (.k (.int .i64 0)), none⟩,
   ⟨some 2, .mv (.t 7), none⟩])
 (.ret))⟩
theorem eq_internal_strconv_isPowerOfTwo (Φ : Calls') (a0 : AV) (H : AH) (Q : Post) : fnE1 Φ ir_internal_strconv_isPowerOfTwo [a0] H Q = internal_strconv_isPowerOfTwo Φ a0 H Q := by kernel_rfl

def tab_libinternalstrconv : Tab := [
  (K.internal_strconv_ParseUint, ir_internal_strconv_ParseUint),
  (K.internal_strconv_lower, ir_internal_strconv_lower),
  (K.internal_strconv_underscoreOK, ir_internal_strconv_underscoreOK),
  (K.internal_strconv_Itoa, ir_internal_strconv_Itoa),
  (K.internal_strconv_small, ir_internal_strconv_small),
  (K.internal_strconv_formatBase10, ir_internal_strconv_formatBase10),
  (K.internal_strconv_log10Pow2, ir_internal_strconv_log10Pow2),
  (K.internal_strconv_bool2_int_, ir_internal_strconv_bool2_int_),
  (K.internal_strconv_isPowerOfTwo, ir_internal_strconv_isPowerOfTwo)]

theorem cl_internal_strconv_ParseUint {Φ : Calls'} (hT : Cl Φ tab_libinternalstrconv) {a0 a1 a2 : AV} {H : AH} {Q : Post} (h : internal_strconv_ParseUint Φ a0 a1 a2 H Q) : Φ K.internal_strconv_ParseUint [a0, a1, a2] H Q := hT.call (by kernel_rfl) (by kernel_rfl) (by rw [eq_internal_strconv_ParseUint]; exact h)
theorem cl_internal_strconv_lower {Φ : Calls'} (hT : Cl Φ tab_libinternalstrconv) {a0 : AV} {H : AH} {Q : Post} (h : internal_strconv_lower Φ a0 H Q) : Φ K.internal_strconv_lower [a0] H Q := hT.call (by kernel_rfl) (by kernel_rfl) (by rw [eq_internal_strconv_lower]; exact h)
theorem cl_internal_strconv_underscoreOK {Φ : Calls'} (hT : Cl Φ tab_libinternalstrconv) {a0 : AV} {H : AH} {Q : Post} (h : internal_strconv_underscoreOK Φ a0 H Q) : Φ K.internal_strconv_underscoreOK [a0] H Q := hT.call (by kernel_rfl) (by kernel_rfl) (by rw [eq_internal_strconv_underscoreOK]; exact h)
theorem cl_internal_strconv_Itoa {Φ : Calls'} (hT : Cl Φ tab_libinternalstrconv) {a0 : AV} {H : AH} {Q : Post} (h : internal_strconv_Itoa Φ a0 H Q) : Φ K.internal_strconv_Itoa [a0] H Q := hT.call (by kernel_rfl) (by kernel_rfl) (by rw [eq_internal_strconv_Itoa]; exact h)
theorem cl_internal_strconv_small {Φ : Calls'} (hT : Cl Φ tab_libinternalstrconv) {a0 : AV} {H : AH} {Q : Post} (h : internal_strconv_small Φ a0 H Q) : Φ K.internal_strconv_small [a0] H Q := hT.call (by kernel_rfl) (by kernel_rfl) (by rw [eq_internal_strconv_small]; exact h)
theorem cl_internal_strconv_formatBase10 {Φ : Calls'} (hT : Cl Φ tab_libinternalstrconv) {a0 a1 : AV} {H : AH} {Q : Post} (h : internal_strconv_formatBase10 Φ a0 a1 H Q) : Φ K.internal_strconv_formatBase10 [a0, a1] H Q := hT.call (by kernel_rfl) (by kernel_rfl) (by rw [eq_internal_strconv_formatBase10]; exact h)
theorem cl_internal_strconv_log10Pow2 {Φ : Calls'} (hT : Cl Φ tab_libinternalstrconv) {a0 : AV} {H : AH} {Q : Post} (h : internal_strconv_log10Pow2 Φ a0 H Q) : Φ K.internal_strconv_log10Pow2 [a0] H Q := hT.call (by kernel_rfl) (by kernel_rfl) (by rw [eq_internal_strconv_log10Pow2]; exact h)
theorem cl_internal_strconv_bool2_int_ {Φ : Calls'} (hT : Cl Φ tab_libinternalstrconv) {a0 : AV} {H : AH} {Q : Post} (h : internal_strconv_bool2_int_ Φ a0 H Q) : Φ K.internal_strconv_bool2_int_ [a0] H Q := hT.call (by kernel_rfl) (by kernel_rfl) (by rw [eq_internal_strconv_bool2_int_]; exact h)
theorem cl_internal_strconv_isPowerOfTwo {Φ : Calls'} (hT : Cl Φ tab_libinternalstrconv) {a0 : AV} {H : AH} {Q : Post} (h : internal_strconv_isPowerOfTwo Φ a0 H Q) : Φ K.internal_strconv_isPowerOfTwo [a0] H Q := hT.call (by kernel_rfl) (by kernel_rfl) (by rw [eq_internal_strconv_isPowerOfTwo]; exact h)
end Rb.S

/- Package libinternalstrconv: its functions as runs. By gen.py. -/
set_option linter.unusedVariables false
namespace Rb.R
open Go

def internal_strconv_ParseUint_k1 (Φ : CallsB) (n : Nat) (s22 : List AV × TH) (L23 : (List AV × TH) → Bool) (Q : PostB) : List AV → TH → Bool := fun j25 H26 =>
 DoB (abin .add (sl s22.1 2) (.int .i64 1)) fun x35 =>
 L23 ([(sl j25 0), (sl j25 1), x35], H26)
def internal_strconv_ParseUint_k2 (Φ : CallsB) (n : Nat) (x17 : AV) (x47 : AV) (s22 : List AV × TH) (L23 : (List AV × TH) → Bool) (j30 : List AV) (Q : PostB) : List AV → TH → Bool := fun j48 H49 =>
 GdB (sl j48 0) true (
 Q (.tup [x17, (.iface 76 (.int .i64 1))]) H49) (
 JoinB (internal_strconv_ParseUint_k1 Φ n s22 L23 Q) [(sl j30 0), x47] H49)
def internal_strconv_ParseUint_k3 (Φ : CallsB) (n : Nat) (x17 : AV) (j3 : List AV) (j12 : List AV) (s22 : List AV × TH) (L23 : (List AV × TH) → Bool) (Q : PostB) : List AV → TH → Bool := fun j30 H31 =>
 DoB (aconv .u8 (sl j3 1)) fun x41 =>
 DoB (abin .geq (sl j30 1) x41) fun x42 =>
 GdB x42 true (
 Q (.tup [(.int .u64 0), (.iface 76 (.int .i64 2))]) H31) (
 DoB (abin .geq (sl s22.1 1) (sl j12 0)) fun x43 =>
 GdB x43 true (
 Q (.tup [x17, (.iface 76 (.int .i64 1))]) H31) (
 DoB (aconv .u64 (sl j3 1)) fun x44 =>
 DoB (abin .mul (sl s22.1 1) x44) fun x45 =>
 DoB (aconv .u64 (sl j30 1)) fun x46 =>
 DoB (abin .add x45 x46) fun x47 =>
 DoB (abin .lss x47 x45) fun x50 =>
 Gd3B x50 false (
 DoB (abin .gtr x47 x17) fun x51 =>
 JoinB (internal_strconv_ParseUint_k2 Φ n x17 x47 s22 L23 j30 Q) [x51] H31) (
 JoinB (internal_strconv_ParseUint_k2 Φ n x17 x47 s22 L23 j30 Q) [(.bool true)] H31) (
 false)))
def internal_strconv_ParseUint_k4 (Φ : CallsB) (n : Nat) (x17 : AV) (x28 : AV) (j3 : List AV) (j12 : List AV) (s22 : List AV × TH) (L23 : (List AV × TH) → Bool) (Q : PostB) : List AV → TH → Bool := fun j52 H53 =>
 GdB (sl j52 0) true (
Φ K.internal_strconv_lower [x28] H53 fun x60 H61 =>
 DoB (abin .sub x60 (.int .u8 97)) fun x62 =>
 DoB (abin .add x62 (.int .u8 10)) fun x63 =>
 JoinB (internal_strconv_ParseUint_k3 Φ n x17 j3 j12 s22 L23 Q) [(sl s22.1 0), x63] H61) (
 Q (.tup [(.int .u64 0), (.iface 76 (.int .i64 2))]) H53)
def internal_strconv_ParseUint_k5 (Φ : CallsB) (n : Nat) (x17 : AV) (x28 : AV) (j3 : List AV) (j12 : List AV) (s22 : List AV × TH) (L23 : (List AV × TH) → Bool) (Q : PostB) : List AV → TH → Bool := fun j36 H37 =>
 GdB (sl j36 0) true (
 DoB (abin .sub x28 (.int .u8 48)) fun x40 =>
 JoinB (internal_strconv_ParseUint_k3 Φ n x17 j3 j12 s22 L23 Q) [(sl s22.1 0), x40] H37) (
Φ K.internal_strconv_lower [x28] H37 fun x54 H55 =>
 DoB (abin .leq (.int .u8 97) x54) fun x56 =>
 Gd3B x56 true (
Φ K.internal_strconv_lower [x28] H55 fun x57 H58 =>
 DoB (abin .leq x57 (.int .u8 122)) fun x59 =>
 JoinB (internal_strconv_ParseUint_k4 Φ n x17 x28 j3 j12 s22 L23 Q) [x59] H58) (
 JoinB (internal_strconv_ParseUint_k4 Φ n x17 x28 j3 j12 s22 L23 Q) [(.bool false)] H55) (
 false))
def internal_strconv_ParseUint_k6 (Φ : CallsB) (n : Nat) (x17 : AV) (x28 : AV) (j3 : List AV) (j12 : List AV) (s22 : List AV × TH) (L23 : (List AV × TH) → Bool) (Q : PostB) : List AV → TH → Bool := fun j32 H33 =>
 GdB (sl j32 0) true (
 JoinB (internal_strconv_ParseUint_k1 Φ n s22 L23 Q) [(.bool true), (sl s22.1 1)] H33) (
 DoB (abin .leq (.int .u8 48) x28) fun x38 =>
 Gd3B x38 true (
 DoB (abin .leq x28 (.int .u8 57)) fun x39 =>
 JoinB (internal_strconv_ParseUint_k5 Φ n x17 x28 j3 j12 s22 L23 Q) [x39] H33) (
 JoinB (internal_strconv_ParseUint_k5 Φ n x17 x28 j3 j12 s22 L23 Q) [(.bool false)] H33) (
 false))
def internal_strconv_ParseUint_k7 (Φ : CallsB) (n : Nat) (j18 : List AV) (Q : PostB) : List AV → TH → Bool := fun j64 H65 =>
 Q (.tup [(sl j18 1), (.nilif)]) H65
def internal_strconv_ParseUint_k8 (Φ : CallsB) (n : Nat) (j18 : List AV) (Q : PostB) : List AV → TH → Bool := fun j66 H67 =>
 GdB (sl j66 0) true (
 Q (.tup [(.int .u64 0), (.iface 76 (.int .i64 2))]) H67) (
 JoinB (internal_strconv_ParseUint_k7 Φ n j18 Q) [] H67)
def internal_strconv_ParseUint_k9 (Φ : CallsB) (n : Nat) (a0 : AV) (Q : PostB) : List AV → TH → Bool := fun j18 H19 =>
 Gd3B (sl j18 0) true (
Φ K.internal_strconv_underscoreOK [a0] H19 fun x68 H69 =>
 DoB (aun .not x68) fun x70 =>
 JoinB (internal_strconv_ParseUint_k8 Φ n j18 Q) [x70] H69) (
 JoinB (internal_strconv_ParseUint_k8 Φ n j18 Q) [(.bool false)] H19) (
 false)
def internal_strconv_ParseUint_l10 (Φ : CallsB) (n : Nat) (a0 : AV) (x2 : AV) (x17 : AV) (x20 : AV) (x21 : AV) (j3 : List AV) (j12 : List AV) (Q : PostB) : (List AV × TH) → ((List AV × TH) → Bool) → Bool := fun s22 L23 =>
 DoB (abin .lss (sl s22.1 2) x21) fun x24 =>
 GdB x24 true (
 DoB (aiaddr none 1 x20 (sl s22.1 2)) fun x27 =>
 DoB (aload s22.2.ah 1 false x27) fun x28 =>
 DoB (abin .eql x28 (.int .u8 95)) fun x34 =>
 Gd3B x34 true (
 JoinB (internal_strconv_ParseUint_k6 Φ n x17 x28 j3 j12 s22 L23 Q) [x2] s22.2) (
 JoinB (internal_strconv_ParseUint_k6 Φ n x17 x28 j3 j12 s22 L23 Q) [(.bool false)] s22.2) (
 false)) (
 JoinB (internal_strconv_ParseUint_k9 Φ n a0 Q) [(sl s22.1 0), (sl s22.1 1)] s22.2)
def internal_strconv_ParseUint_k11 (Φ : CallsB) (n : Nat) (a0 : AV) (x2 : AV) (j3 : List AV) (j9 : List AV) (Q : PostB) : List AV → TH → Bool := fun j12 H13 =>
 DoB (aconv .u64 (sl j9 0)) fun x15 =>
 DoB (abin .shl (.int .u64 1) x15) fun x16 =>
 DoB (abin .sub x16 (.int .u64 1)) fun x17 =>
 DoB (asbytes (sl j3 0)) fun x20 =>
 DoB (alen false x20) fun x21 =>
 LoopB (internal_strconv_ParseUint_l10 Φ n a0 x2 x17 x20 x21 j3 j12 Q) n ([(.bool false), (.int .u64 0), (.int .i64 0)], H13)
def internal_strconv_ParseUint_k12 (Φ : CallsB) (n : Nat) (a0 : AV) (x2 : AV) (j3 : List AV) (Q : PostB) : List AV → TH → Bool := fun j9 H10 =>
 DoB (abin .eql (sl j3 1) (.int .i64 10)) fun x14 =>
 GdB x14 true (
 JoinB (internal_strconv_ParseUint_k11 Φ n a0 x2 j3 j9 Q) [(.int .u64 1844674407370955162)] H10) (
 DoB (abin .eql (sl j3 1) (.int .i64 16)) fun x71 =>
 GdB x71 true (
 JoinB (internal_strconv_ParseUint_k11 Φ n a0 x2 j3 j9 Q) [(.int .u64 1152921504606846976)] H10) (
 DoB (aconv .u64 (sl j3 1)) fun x72 =>
 DoB (abin .quo (.int .u64 18446744073709551615) x72) fun x73 =>
 DoB (abin .add x73 (.int .u64 1)) fun x74 =>
 JoinB (internal_strconv_ParseUint_k11 Φ n a0 x2 j3 j9 Q) [x74] H10))
def internal_strconv_ParseUint_k13 (Φ : CallsB) (n : Nat) (a0 : AV) (a2 : AV) (x2 : AV) (j3 : List AV) (Q : PostB) : List AV → TH → Bool := fun j75 H76 =>
 GdB (sl j75 0) true (
 Q (.tup [(.int .u64 0), (.iface 76 (.int .i64 4))]) H76) (
 JoinB (internal_strconv_ParseUint_k12 Φ n a0 x2 j3 Q) [a2] H76)
def internal_strconv_ParseUint_k14 (Φ : CallsB) (n : Nat) (a0 : AV) (a2 : AV) (x2 : AV) (Q : PostB) : List AV → TH → Bool := fun j3 H4 =>
 DoB (abin .eql a2 (.int .i64 0)) fun x11 =>
 GdB x11 true (
 JoinB (internal_strconv_ParseUint_k12 Φ n a0 x2 j3 Q) [(.int .i64 64)] H4) (
 DoB (abin .lss a2 (.int .i64 0)) fun x77 =>
 Gd3B x77 false (
 DoB (abin .gtr a2 (.int .i64 64)) fun x78 =>
 JoinB (internal_strconv_ParseUint_k13 Φ n a0 a2 x2 j3 Q) [x78] H4) (
 JoinB (internal_strconv_ParseUint_k13 Φ n a0 a2 x2 j3 Q) [(.bool true)] H4) (
 false))
def internal_strconv_ParseUint_k15 (Φ : CallsB) (n : Nat) (a0 : AV) (a2 : AV) (x2 : AV) (Q : PostB) : List AV → TH → Bool := fun j100 H101 =>
 GdB (sl j100 0) true (
 DoB (asslice a0 (some (.int .i64 2)) none) fun x108 =>
 JoinB (internal_strconv_ParseUint_k14 Φ n a0 a2 x2 Q) [x108, (.int .i64 16)] H101) (
 DoB (asslice a0 (some (.int .i64 1)) none) fun x109 =>
 JoinB (internal_strconv_ParseUint_k14 Φ n a0 a2 x2 Q) [x109, (.int .i64 8)] H101)
def internal_strconv_ParseUint_k16 (Φ : CallsB) (n : Nat) (a0 : AV) (a2 : AV) (x2 : AV) (Q : PostB) : List AV → TH → Bool := fun j91 H92 =>
 GdB (sl j91 0) true (
 DoB (asslice a0 (some (.int .i64 2)) none) fun x99 =>
 JoinB (internal_strconv_ParseUint_k14 Φ n a0 a2 x2 Q) [x99, (.int .i64 8)] H92) (
 DoB (alen true a0) fun x102 =>
 DoB (abin .geq x102 (.int .i64 3)) fun x103 =>
 Gd3B x103 true (
 DoB (aidxs a0 (.int .i64 1)) fun x104 =>
Φ K.internal_strconv_lower [x104] H92 fun x105 H106 =>
 DoB (abin .eql x105 (.int .u8 120)) fun x107 =>
 JoinB (internal_strconv_ParseUint_k15 Φ n a0 a2 x2 Q) [x107] H106) (
 JoinB (internal_strconv_ParseUint_k15 Φ n a0 a2 x2 Q) [(.bool false)] H92) (
 false))
def internal_strconv_ParseUint_k17 (Φ : CallsB) (n : Nat) (a0 : AV) (a2 : AV) (x2 : AV) (Q : PostB) : List AV → TH → Bool := fun j82 H83 =>
 GdB (sl j82 0) true (
 DoB (asslice a0 (some (.int .i64 2)) none) fun x90 =>
 JoinB (internal_strconv_ParseUint_k14 Φ n a0 a2 x2 Q) [x90, (.int .i64 2)] H83) (
 DoB (alen true a0) fun x93 =>
 DoB (abin .geq x93 (.int .i64 3)) fun x94 =>
 Gd3B x94 true (
 DoB (aidxs a0 (.int .i64 1)) fun x95 =>
Φ K.internal_strconv_lower [x95] H83 fun x96 H97 =>
 DoB (abin .eql x96 (.int .u8 111)) fun x98 =>
 JoinB (internal_strconv_ParseUint_k16 Φ n a0 a2 x2 Q) [x98] H97) (
 JoinB (internal_strconv_ParseUint_k16 Φ n a0 a2 x2 Q) [(.bool false)] H83) (
 false))
def internal_strconv_ParseUint_k18 (Φ : CallsB) (n : Nat) (a0 : AV) (a1 : AV) (a2 : AV) (x2 : AV) (Q : PostB) : List AV → TH → Bool := fun j5 H6 =>
 GdB (sl j5 0) true (
 JoinB (internal_strconv_ParseUint_k14 Φ n a0 a2 x2 Q) [a0, a1] H6) (
 DoB (abin .eql a1 (.int .i64 0)) fun x79 =>
 GdB x79 true (
 DoB (aidxs a0 (.int .i64 0)) fun x80 =>
 DoB (abin .eql x80 (.int .u8 48)) fun x81 =>
 GdB x81 true (
 DoB (alen true a0) fun x84 =>
 DoB (abin .geq x84 (.int .i64 3)) fun x85 =>
 Gd3B x85 true (
 DoB (aidxs a0 (.int .i64 1)) fun x86 =>
Φ K.internal_strconv_lower [x86] H6 fun x87 H88 =>
 DoB (abin .eql x87 (.int .u8 98)) fun x89 =>
 JoinB (internal_strconv_ParseUint_k17 Φ n a0 a2 x2 Q) [x89] H88) (
 JoinB (internal_strconv_ParseUint_k17 Φ n a0 a2 x2 Q) [(.bool false)] H6) (
 false)) (
 JoinB (internal_strconv_ParseUint_k14 Φ n a0 a2 x2 Q) [a0, (.int .i64 10)] H6)) (
 Q (.tup [(.int .u64 0), (.iface 76 (.int .i64 3))]) H6))
def internal_strconv_ParseUint (Φ : CallsB) (n : Nat) (a0 : AV) (a1 : AV) (a2 : AV) (H : TH) (Q : PostB) : Bool :=
 DoB (abin .eql a0 (.str [])) fun x1 =>
 GdB x1 true (
 Q (.tup [(.int .u64 0), (.iface 76 (.int .i64 2))]) H) (
 DoB (abin .eql a1 (.int .i64 0)) fun x2 =>
 DoB (abin .leq (.int .i64 2) a1) fun x7 =>
 Gd3B x7 true (
 DoB (abin .leq a1 (.int .i64 36)) fun x8 =>
 JoinB (internal_strconv_ParseUint_k18 Φ n a0 a1 a2 x2 Q) [x8] H) (
 JoinB (internal_strconv_ParseUint_k18 Φ n a0 a1 a2 x2 Q) [(.bool false)] H) (
 false))
theorem eq_internal_strconv_ParseUint (Φ : CallsB) (n : Nat) (a0 a1 a2 : AV) (H : TH) (Q : PostB) : fnB1 Φ n S.ir_internal_strconv_ParseUint [a0, a1, a2] H Q = internal_strconv_ParseUint Φ n a0 a1 a2 H Q := by kernel_rfl

def internal_strconv_lower (Φ : CallsB) (n : Nat) (a0 : AV) (H : TH) (Q : PostB) : Bool :=
 DoB (abin .or a0 (.int .u8 32)) fun x1 =>
 Q x1 H
theorem eq_internal_strconv_lower (Φ : CallsB) (n : Nat) (a0 : AV) (H : TH) (Q : PostB) : fnB1 Φ n S.ir_internal_strconv_lower [a0] H Q = internal_strconv_lower Φ n a0 H Q := by kernel_rfl

def internal_strconv_underscoreOK_k1 (Φ : CallsB) (n : Nat) (s40 : List AV × TH) (L41 : (List AV × TH) → Bool) (Q : PostB) : List AV → TH → Bool := fun j44 H45 =>
 DoB (abin .add (sl s40.1 1) (.int .i64 1)) fun x64 =>
 L41 ([(sl j44 0), x64], H45)
def internal_strconv_underscoreOK_k2 (Φ : CallsB) (n : Nat) (j1 : List AV) (s40 : List AV × TH) (L41 : (List AV × TH) → Bool) (Q : PostB) : List AV → TH → Bool := fun j46 H47 =>
 DoB (aidxs (sl j1 0) (sl s40.1 1)) fun x65 =>
 DoB (abin .eql x65 (.int .u8 95)) fun x66 =>
 GdB x66 true (
 DoB (abin .neq (sl j46 0) (.int .i32 48)) fun x67 =>
 GdB x67 true (
 Q (.bool false) H47) (
 JoinB (internal_strconv_underscoreOK_k1 Φ n s40 L41 Q) [(.int .i32 95)] H47)) (
 DoB (abin .eql (sl j46 0) (.int .i32 95)) fun x68 =>
 GdB x68 true (
 Q (.bool false) H47) (
 JoinB (internal_strconv_underscoreOK_k1 Φ n s40 L41 Q) [(.int .i32 33)] H47))
def internal_strconv_underscoreOK_k3 (Φ : CallsB) (n : Nat) (j1 : List AV) (s40 : List AV × TH) (L41 : (List AV × TH) → Bool) (Q : PostB) : List AV → TH → Bool := fun j48 H49 =>
 GdB (sl j48 0) true (
 JoinB (internal_strconv_underscoreOK_k1 Φ n s40 L41 Q) [(.int .i32 48)] H49) (
 JoinB (internal_strconv_underscoreOK_k2 Φ n j1 s40 L41 Q) [(sl s40.1 0)] H49)
def internal_strconv_underscoreOK_k4 (Φ : CallsB) (n : Nat) (j1 : List AV) (j12 : List AV) (s40 : List AV × TH) (L41 : (List AV × TH) → Bool) (Q : PostB) : List AV → TH → Bool := fun j50 H51 =>
 Gd3B (sl j50 0) false (
 Gd3B (sl j12 2) true (
 DoB (aidxs (sl j1 0) (sl s40.1 1)) fun x56 =>
Φ K.internal_strconv_lower [x56] H51 fun x57 H58 =>
 DoB (abin .leq (.int .u8 97) x57) fun x59 =>
 Gd3B x59 true (
 DoB (aidxs (sl j1 0) (sl s40.1 1)) fun x60 =>
Φ K.internal_strconv_lower [x60] H58 fun x61 H62 =>
 DoB (abin .leq x61 (.int .u8 102)) fun x63 =>
 JoinB (internal_strconv_underscoreOK_k3 Φ n j1 s40 L41 Q) [x63] H62) (
 JoinB (internal_strconv_underscoreOK_k3 Φ n j1 s40 L41 Q) [(.bool false)] H58) (
 false)) (
 JoinB (internal_strconv_underscoreOK_k3 Φ n j1 s40 L41 Q) [(.bool false)] H51) (
 false)) (
 JoinB (internal_strconv_underscoreOK_k3 Φ n j1 s40 L41 Q) [(.bool true)] H51) (
 false)
def internal_strconv_underscoreOK_k5 (Φ : CallsB) (n : Nat) (Q : PostB) : List AV → TH → Bool := fun j38 H39 =>
 DoB (abin .neq (sl j38 0) (.int .i32 95)) fun x69 =>
 Q x69 H39
def internal_strconv_underscoreOK_l6 (Φ : CallsB) (n : Nat) (j1 : List AV) (j12 : List AV) (Q : PostB) : (List AV × TH) → ((List AV × TH) → Bool) → Bool := fun s40 L41 =>
 DoB (alen true (sl j1 0)) fun x42 =>
 DoB (abin .lss (sl s40.1 1) x42) fun x43 =>
 GdB x43 true (
 DoB (aidxs (sl j1 0) (sl s40.1 1)) fun x52 =>
 DoB (abin .leq (.int .u8 48) x52) fun x53 =>
 Gd3B x53 true (
 DoB (aidxs (sl j1 0) (sl s40.1 1)) fun x54 =>
 DoB (abin .leq x54 (.int .u8 57)) fun x55 =>
 JoinB (internal_strconv_underscoreOK_k4 Φ n j1 j12 s40 L41 Q) [x55] s40.2) (
 JoinB (internal_strconv_underscoreOK_k4 Φ n j1 j12 s40 L41 Q) [(.bool false)] s40.2) (
 false)) (
 JoinB (internal_strconv_underscoreOK_k5 Φ n Q) [(sl s40.1 0)] s40.2)
def internal_strconv_underscoreOK_k7 (Φ : CallsB) (n : Nat) (j1 : List AV) (Q : PostB) : List AV → TH → Bool := fun j12 H13 =>
 LoopB (internal_strconv_underscoreOK_l6 Φ n j1 j12 Q) n ([(sl j12 0), (sl j12 1)], H13)
def internal_strconv_underscoreOK_k8 (Φ : CallsB) (n : Nat) (j1 : List AV) (Q : PostB) : List AV → TH → Bool := fun j14 H15 =>
 GdB (sl j14 0) true (
 DoB (aidxs (sl j1 0) (.int .i64 1)) fun x34 =>
Φ K.internal_strconv_lower [x34] H15 fun x35 H36 =>
 DoB (abin .eql x35 (.int .u8 120)) fun x37 =>
 JoinB (internal_strconv_underscoreOK_k7 Φ n j1 Q) [(.int .i32 48), (.int .i64 2), x37] H36) (
 JoinB (internal_strconv_underscoreOK_k7 Φ n j1 Q) [(.int .i32 94), (.int .i64 0), (.bool false)] H15)
def internal_strconv_underscoreOK_k9 (Φ : CallsB) (n : Nat) (j1 : List AV) (Q : PostB) : List AV → TH → Bool := fun j16 H17 =>
 Gd3B (sl j16 0) true (
 DoB (aidxs (sl j1 0) (.int .i64 1)) fun x22 =>
Φ K.internal_strconv_lower [x22] H17 fun x23 H24 =>
 DoB (abin .eql x23 (.int .u8 98)) fun x25 =>
 Gd3B x25 false (
 DoB (aidxs (sl j1 0) (.int .i64 1)) fun x26 =>
Φ K.internal_strconv_lower [x26] H24 fun x27 H28 =>
 DoB (abin .eql x27 (.int .u8 111)) fun x29 =>
 Gd3B x29 false (
 DoB (aidxs (sl j1 0) (.int .i64 1)) fun x30 =>
Φ K.internal_strconv_lower [x30] H28 fun x31 H32 =>
 DoB (abin .eql x31 (.int .u8 120)) fun x33 =>
 JoinB (internal_strconv_underscoreOK_k8 Φ n j1 Q) [x33] H32) (
 JoinB (internal_strconv_underscoreOK_k8 Φ n j1 Q) [(.bool true)] H28) (
 false)) (
 JoinB (internal_strconv_underscoreOK_k8 Φ n j1 Q) [(.bool true)] H24) (
 false)) (
 JoinB (internal_strconv_underscoreOK_k8 Φ n j1 Q) [(.bool false)] H17) (
 false)
def internal_strconv_underscoreOK_k10 (Φ : CallsB) (n : Nat) (Q : PostB) : List AV → TH → Bool := fun j1 H2 =>
 DoB (alen true (sl j1 0)) fun x18 =>
 DoB (abin .geq x18 (.int .i64 2)) fun x19 =>
 Gd3B x19 true (
 DoB (aidxs (sl j1 0) (.int .i64 0)) fun x20 =>
 DoB (abin .eql x20 (.int .u8 48)) fun x21 =>
 JoinB (internal_strconv_underscoreOK_k9 Φ n j1 Q) [x21] H2) (
 JoinB (internal_strconv_underscoreOK_k9 Φ n j1 Q) [(.bool false)] H2) (
 false)
def internal_strconv_underscoreOK_k11 (Φ : CallsB) (n : Nat) (a0 : AV) (Q : PostB) : List AV → TH → Bool := fun j3 H4 =>
 GdB (sl j3 0) true (
 DoB (asslice a0 (some (.int .i64 1)) none) fun x11 =>
 JoinB (internal_strconv_underscoreOK_k10 Φ n Q) [x11] H4) (
 JoinB (internal_strconv_underscoreOK_k10 Φ n Q) [a0] H4)
def internal_strconv_underscoreOK (Φ : CallsB) (n : Nat) (a0 : AV) (H : TH) (Q : PostB) : Bool :=
 DoB (alen true a0) fun x5 =>
 DoB (abin .geq x5 (.int .i64 1)) fun x6 =>
 Gd3B x6 true (
 DoB (aidxs a0 (.int .i64 0)) fun x7 =>
 DoB (abin .eql x7 (.int .u8 45)) fun x8 =>
 Gd3B x8 false (
 DoB (aidxs a0 (.int .i64 0)) fun x9 =>
 DoB (abin .eql x9 (.int .u8 43)) fun x10 =>
 JoinB (internal_strconv_underscoreOK_k11 Φ n a0 Q) [x10] H) (
 JoinB (internal_strconv_underscoreOK_k11 Φ n a0 Q) [(.bool true)] H) (
 false)) (
 JoinB (internal_strconv_underscoreOK_k11 Φ n a0 Q) [(.bool false)] H) (
 false)
theorem eq_internal_strconv_underscoreOK (Φ : CallsB) (n : Nat) (a0 : AV) (H : TH) (Q : PostB) : fnB1 Φ n S.ir_internal_strconv_underscoreOK [a0] H Q = internal_strconv_underscoreOK Φ n a0 H Q := by kernel_rfl

def internal_strconv_Itoa (Φ : CallsB) (n : Nat) (a0 : AV) (H : TH) (Q : PostB) : Bool :=
Φ K.internal_strconv_FormatInt [a0, (.int .i64 10)] H fun x1 H2 =>
 Q x1 H2
theorem eq_internal_strconv_Itoa (Φ : CallsB) (n : Nat) (a0 : AV) (H : TH) (Q : PostB) : fnB1 Φ n S.ir_internal_strconv_Itoa [a0] H Q = internal_strconv_Itoa Φ n a0 H Q := by kernel_rfl

def internal_strconv_small (Φ : CallsB) (n : Nat) (a0 : AV) (H : TH) (Q : PostB) : Bool :=
 DoB (abin .lss a0 (.int .i64 10)) fun x1 =>
 GdB x1 true (
 DoB (abin .add a0 (.int .i64 1)) fun x2 =>
 DoB (asslice (.str [48, 49, 50, 51, 52, 53, 54, 55, 56, 57, 97, 98, 99, 100, 101, 102, 103, 104, 105, 106, 107, 108, 109, 110, 111, 112, 113, 114, 115, 116, 117, 118, 119, 120, 121, 122]) (some a0) (some x2)) fun x3 =>
 Q x3 H) (
 DoB (abin .mul a0 (.int .i64 2)) fun x4 =>
 DoB (abin .mul a0 (.int .i64 2)) fun x5 =>
 DoB (abin .add x5 (.int .i64 2)) fun x6 =>
 DoB (asslice (.str [48, 48, 48, 49, 48, 50, 48, 51, 48, 52, 48, 53, 48, 54, 48, 55, 48, 56, 48, 57, 49, 48, 49, 49, 49, 50, 49, 51, 49, 52, 49, 53, 49, 54, 49, 55, 49, 56, 49, 57, 50, 48, 50, 49, 50, 50, 50, 51, 50, 52, 50, 53, 50, 54, 50, 55, 50, 56, 50, 57, 51, 48, 51, 49, 51, 50, 51, 51, 51, 52, 51, 53, 51, 54, 51, 55, 51, 56, 51, 57, 52, 48, 52, 49, 52, 50, 52, 51, 52, 52, 52, 53, 52, 54, 52, 55, 52, 56, 52, 57, 53, 48, 53, 49, 53, 50, 53, 51, 53, 52, 53, 53, 53, 54, 53, 55, 53, 56, 53, 57, 54, 48, 54, 49, 54, 50, 54, 51, 54, 52, 54, 53, 54, 54, 54, 55, 54, 56, 54, 57, 55, 48, 55, 49, 55, 50, 55, 51, 55, 52, 55, 53, 55, 54, 55, 55, 55, 56, 55, 57, 56, 48, 56, 49, 56, 50, 56, 51, 56, 52, 56, 53, 56, 54, 56, 55, 56, 56, 56, 57, 57, 48, 57, 49, 57, 50, 57, 51, 57, 52, 57, 53, 57, 54, 57, 55, 57, 56, 57, 57]) (some x4) (some x6)) fun x7 =>
 Q x7 H)
theorem eq_internal_strconv_small (Φ : CallsB) (n : Nat) (a0 : AV) (H : TH) (Q : PostB) : fnB1 Φ n S.ir_internal_strconv_small [a0] H Q = internal_strconv_small Φ n a0 H Q := by kernel_rfl

def internal_strconv_formatBase10_k1 (Φ : CallsB) (n : Nat) (a0 : AV) (Q : PostB) : List AV → TH → Bool := fun j98 H99 =>
 DoB (abin .gtr (sl j98 0) (.int .i64 0)) fun x116 =>
 GdB x116 true (
 DoB (abin .add (.int .u32 48) (sl j98 1)) fun x117 =>
 DoB (aconv .u8 x117) fun x118 =>
 DoB (aiaddr none 1 a0 (.int .i64 0)) fun x119 =>
 DoB (tstore H99 1 x119 x118) fun H121 =>
 Q (.tup []) H121) (
 Q (.tup []) H99)
def internal_strconv_formatBase10_k2 (Φ : CallsB) (n : Nat) (a0 : AV) (Q : PostB) : List AV → TH → Bool := fun j66 H67 =>
 DoB (abin .geq (sl j66 0) (.int .i64 2)) fun x100 =>
 GdB x100 true (
 DoB (abin .rem (sl j66 1) (.int .u32 100)) fun x101 =>
 DoB (abin .mul x101 (.int .u32 2)) fun x102 =>
 DoB (abin .quo (sl j66 1) (.int .u32 100)) fun x103 =>
 DoB (abin .sub (sl j66 0) (.int .i64 1)) fun x104 =>
 DoB (abin .sub (sl j66 0) (.int .i64 2)) fun x105 =>
 DoB (abin .add x102 (.int .u32 1)) fun x106 =>
 DoB (aidxs (.str [48, 48, 48, 49, 48, 50, 48, 51, 48, 52, 48, 53, 48, 54, 48, 55, 48, 56, 48, 57, 49, 48, 49, 49, 49, 50, 49, 51, 49, 52, 49, 53, 49, 54, 49, 55, 49, 56, 49, 57, 50, 48, 50, 49, 50, 50, 50, 51, 50, 52, 50, 53, 50, 54, 50, 55, 50, 56, 50, 57, 51, 48, 51, 49, 51, 50, 51, 51, 51, 52, 51, 53, 51, 54, 51, 55, 51, 56, 51, 57, 52, 48, 52, 49, 52, 50, 52, 51, 52, 52, 52, 53, 52, 54, 52, 55, 52, 56, 52, 57, 53, 48, 53, 49, 53, 50, 53, 51, 53, 52, 53, 53, 53, 54, 53, 55, 53, 56, 53, 57, 54, 48, 54, 49, 54, 50, 54, 51, 54, 52, 54, 53, 54, 54, 54, 55, 54, 56, 54, 57, 55, 48, 55, 49, 55, 50, 55, 51, 55, 52, 55, 53, 55, 54, 55, 55, 55, 56, 55, 57, 56, 48, 56, 49, 56, 50, 56, 51, 56, 52, 56, 53, 56, 54, 56, 55, 56, 56, 56, 57, 57, 48, 57, 49, 57, 50, 57, 51, 57, 52, 57, 53, 57, 54, 57, 55, 57, 56, 57, 57]) x106) fun x107 =>
 DoB (aidxs (.str [48, 48, 48, 49, 48, 50, 48, 51, 48, 52, 48, 53, 48, 54, 48, 55, 48, 56, 48, 57, 49, 48, 49, 49, 49, 50, 49, 51, 49, 52, 49, 53, 49, 54, 49, 55, 49, 56, 49, 57, 50, 48, 50, 49, 50, 50, 50, 51, 50, 52, 50, 53, 50, 54, 50, 55, 50, 56, 50, 57, 51, 48, 51, 49, 51, 50, 51, 51, 51, 52, 51, 53, 51, 54, 51, 55, 51, 56, 51, 57, 52, 48, 52, 49, 52, 50, 52, 51, 52, 52, 52, 53, 52, 54, 52, 55, 52, 56, 52, 57, 53, 48, 53, 49, 53, 50, 53, 51, 53, 52, 53, 53, 53, 54, 53, 55, 53, 56, 53, 57, 54, 48, 54, 49, 54, 50, 54, 51, 54, 52, 54, 53, 54, 54, 54, 55, 54, 56, 54, 57, 55, 48, 55, 49, 55, 50, 55, 51, 55, 52, 55, 53, 55, 54, 55, 55, 55, 56, 55, 57, 56, 48, 56, 49, 56, 50, 56, 51, 56, 52, 56, 53, 56, 54, 56, 55, 56, 56, 56, 57, 57, 48, 57, 49, 57, 50, 57, 51, 57, 52, 57, 53, 57, 54, 57, 55, 57, 56, 57, 57]) x102) fun x108 =>
 DoB (aiaddr none 1 a0 x104) fun x109 =>
 DoB (tstore H67 1 x109 x107) fun H111 =>
 DoB (aiaddr none 1 a0 x105) fun x112 =>
 DoB (tstore H111 1 x112 x108) fun H114 =>
 DoB (abin .sub (sl j66 0) (.int .i64 2)) fun x115 =>
 JoinB (internal_strconv_formatBase10_k1 Φ n a0 Q) [x115, x103] H114) (
 JoinB (internal_strconv_formatBase10_k1 Φ n a0 Q) [(sl j66 0), (sl j66 1)] H67)
def internal_strconv_formatBase10_k3 (Φ : CallsB) (n : Nat) (a0 : AV) (Q : PostB) : List AV → TH → Bool := fun j2 H3 =>
 DoB (aconv .u32 (sl j2 0)) fun x65 =>
 DoB (abin .geq (sl j2 1) (.int .i64 4)) fun x68 =>
 GdB x68 true (
 DoB (abin .rem x65 (.int .u32 10000)) fun x69 =>
 DoB (abin .quo x65 (.int .u32 10000)) fun x70 =>
 DoB (abin .quo x69 (.int .u32 100)) fun x71 =>
 DoB (abin .mul x71 (.int .u32 2)) fun x72 =>
 DoB (abin .rem x69 (.int .u32 100)) fun x73 =>
 DoB (abin .mul x73 (.int .u32 2)) fun x74 =>
 DoB (abin .sub (sl j2 1) (.int .i64 1)) fun x75 =>
 DoB (abin .sub (sl j2 1) (.int .i64 2)) fun x76 =>
 DoB (abin .add x74 (.int .u32 1)) fun x77 =>
 DoB (aidxs (.str [48, 48, 48, 49, 48, 50, 48, 51, 48, 52, 48, 53, 48, 54, 48, 55, 48, 56, 48, 57, 49, 48, 49, 49, 49, 50, 49, 51, 49, 52, 49, 53, 49, 54, 49, 55, 49, 56, 49, 57, 50, 48, 50, 49, 50, 50, 50, 51, 50, 52, 50, 53, 50, 54, 50, 55, 50, 56, 50, 57, 51, 48, 51, 49, 51, 50, 51, 51, 51, 52, 51, 53, 51, 54, 51, 55, 51, 56, 51, 57, 52, 48, 52, 49, 52, 50, 52, 51, 52, 52, 52, 53, 52, 54, 52, 55, 52, 56, 52, 57, 53, 48, 53, 49, 53, 50, 53, 51, 53, 52, 53, 53, 53, 54, 53, 55, 53, 56, 53, 57, 54, 48, 54, 49, 54, 50, 54, 51, 54, 52, 54, 53, 54, 54, 54, 55, 54, 56, 54, 57, 55, 48, 55, 49, 55, 50, 55, 51, 55, 52, 55, 53, 55, 54, 55, 55, 55, 56, 55, 57, 56, 48, 56, 49, 56, 50, 56, 51, 56, 52, 56, 53, 56, 54, 56, 55, 56, 56, 56, 57, 57, 48, 57, 49, 57, 50, 57, 51, 57, 52, 57, 53, 57, 54, 57, 55, 57, 56, 57, 57]) x77) fun x78 =>
 DoB (aidxs (.str [48, 48, 48, 49, 48, 50, 48, 51, 48, 52, 48, 53, 48, 54, 48, 55, 48, 56, 48, 57, 49, 48, 49, 49, 49, 50, 49, 51, 49, 52, 49, 53, 49, 54, 49, 55, 49, 56, 49, 57, 50, 48, 50, 49, 50, 50, 50, 51, 50, 52, 50, 53, 50, 54, 50, 55, 50, 56, 50, 57, 51, 48, 51, 49, 51, 50, 51, 51, 51, 52, 51, 53, 51, 54, 51, 55, 51, 56, 51, 57, 52, 48, 52, 49, 52, 50, 52, 51, 52, 52, 52, 53, 52, 54, 52, 55, 52, 56, 52, 57, 53, 48, 53, 49, 53, 50, 53, 51, 53, 52, 53, 53, 53, 54, 53, 55, 53, 56, 53, 57, 54, 48, 54, 49, 54, 50, 54, 51, 54, 52, 54, 53, 54, 54, 54, 55, 54, 56, 54, 57, 55, 48, 55, 49, 55, 50, 55, 51, 55, 52, 55, 53, 55, 54, 55, 55, 55, 56, 55, 57, 56, 48, 56, 49, 56, 50, 56, 51, 56, 52, 56, 53, 56, 54, 56, 55, 56, 56, 56, 57, 57, 48, 57, 49, 57, 50, 57, 51, 57, 52, 57, 53, 57, 54, 57, 55, 57, 56, 57, 57]) x74) fun x79 =>
 DoB (aiaddr none 1 a0 x75) fun x80 =>
 DoB (tstore H3 1 x80 x78) fun H82 =>
 DoB (aiaddr none 1 a0 x76) fun x83 =>
 DoB (tstore H82 1 x83 x79) fun H85 =>
 DoB (abin .sub (sl j2 1) (.int .i64 3)) fun x86 =>
 DoB (abin .sub (sl j2 1) (.int .i64 4)) fun x87 =>
 DoB (abin .add x72 (.int .u32 1)) fun x88 =>
 DoB (aidxs (.str [48, 48, 48, 49, 48, 50, 48, 51, 48, 52, 48, 53, 48, 54, 48, 55, 48, 56, 48, 57, 49, 48, 49, 49, 49, 50, 49, 51, 49, 52, 49, 53, 49, 54, 49, 55, 49, 56, 49, 57, 50, 48, 50, 49, 50, 50, 50, 51, 50, 52, 50, 53, 50, 54, 50, 55, 50, 56, 50, 57, 51, 48, 51, 49, 51, 50, 51, 51, 51, 52, 51, 53, 51, 54, 51, 55, 51, 56, 51, 57, 52, 48, 52, 49, 52, 50, 52, 51, 52, 52, 52, 53, 52, 54, 52, 55, 52, 56, 52, 57, 53, 48, 53, 49, 53, 50, 53, 51, 53, 52, 53, 53, 53, 54, 53, 55, 53, 56, 53, 57, 54, 48, 54, 49, 54, 50, 54, 51, 54, 52, 54, 53, 54, 54, 54, 55, 54, 56, 54, 57, 55, 48, 55, 49, 55, 50, 55, 51, 55, 52, 55, 53, 55, 54, 55, 55, 55, 56, 55, 57, 56, 48, 56, 49, 56, 50, 56, 51, 56, 52, 56, 53, 56, 54, 56, 55, 56, 56, 56, 57, 57, 48, 57, 49, 57, 50, 57, 51, 57, 52, 57, 53, 57, 54, 57, 55, 57, 56, 57, 57]) x88) fun x89 =>
 DoB (aidxs (.str [48, 48, 48, 49, 48, 50, 48, 51, 48, 52, 48, 53, 48, 54, 48, 55, 48, 56, 48, 57, 49, 48, 49, 49, 49, 50, 49, 51, 49, 52, 49, 53, 49, 54, 49, 55, 49, 56, 49, 57, 50, 48, 50, 49, 50, 50, 50, 51, 50, 52, 50, 53, 50, 54, 50, 55, 50, 56, 50, 57, 51, 48, 51, 49, 51, 50, 51, 51, 51, 52, 51, 53, 51, 54, 51, 55, 51, 56, 51, 57, 52, 48, 52, 49, 52, 50, 52, 51, 52, 52, 52, 53, 52, 54, 52, 55, 52, 56, 52, 57, 53, 48, 53, 49, 53, 50, 53, 51, 53, 52, 53, 53, 53, 54, 53, 55, 53, 56, 53, 57, 54, 48, 54, 49, 54, 50, 54, 51, 54, 52, 54, 53, 54, 54, 54, 55, 54, 56, 54, 57, 55, 48, 55, 49, 55, 50, 55, 51, 55, 52, 55, 53, 55, 54, 55, 55, 55, 56, 55, 57, 56, 48, 56, 49, 56, 50, 56, 51, 56, 52, 56, 53, 56, 54, 56, 55, 56, 56, 56, 57, 57, 48, 57, 49, 57, 50, 57, 51, 57, 52, 57, 53, 57, 54, 57, 55, 57, 56, 57, 57]) x72) fun x90 =>
 DoB (aiaddr none 1 a0 x86) fun x91 =>
 DoB (tstore H85 1 x91 x89) fun H93 =>
 DoB (aiaddr none 1 a0 x87) fun x94 =>
 DoB (tstore H93 1 x94 x90) fun H96 =>
 DoB (abin .sub (sl j2 1) (.int .i64 4)) fun x97 =>
 JoinB (internal_strconv_formatBase10_k2 Φ n a0 Q) [x97, x70] H96) (
 JoinB (internal_strconv_formatBase10_k2 Φ n a0 Q) [(sl j2 1), x65] H3)
def internal_strconv_formatBase10_l4 (Φ : CallsB) (n : Nat) (a0 : AV) (Q : PostB) : (List AV × TH) → ((List AV × TH) → Bool) → Bool := fun s4 L5 =>
 DoB (abin .geq (sl s4.1 1) (.int .i64 8)) fun x6 =>
 GdB x6 true (
 DoB (abin .rem (sl s4.1 0) (.int .u64 100000000)) fun x7 =>
 DoB (aconv .u32 x7) fun x8 =>
 DoB (abin .quo (sl s4.1 0) (.int .u64 100000000)) fun x9 =>
 DoB (abin .quo x8 (.int .u32 10000)) fun x10 =>
 DoB (abin .rem x8 (.int .u32 10000)) fun x11 =>
 DoB (abin .quo x11 (.int .u32 100)) fun x12 =>
 DoB (abin .mul x12 (.int .u32 2)) fun x13 =>
 DoB (abin .rem x11 (.int .u32 100)) fun x14 =>
 DoB (abin .mul x14 (.int .u32 2)) fun x15 =>
 DoB (abin .quo x10 (.int .u32 100)) fun x16 =>
 DoB (abin .mul x16 (.int .u32 2)) fun x17 =>
 DoB (abin .rem x10 (.int .u32 100)) fun x18 =>
 DoB (abin .mul x18 (.int .u32 2)) fun x19 =>
 DoB (abin .sub (sl s4.1 1) (.int .i64 1)) fun x20 =>
 DoB (abin .sub (sl s4.1 1) (.int .i64 2)) fun x21 =>
 DoB (abin .add x15 (.int .u32 1)) fun x22 =>
 DoB (aidxs (.str [48, 48, 48, 49, 48, 50, 48, 51, 48, 52, 48, 53, 48, 54, 48, 55, 48, 56, 48, 57, 49, 48, 49, 49, 49, 50, 49, 51, 49, 52, 49, 53, 49, 54, 49, 55, 49, 56, 49, 57, 50, 48, 50, 49, 50, 50, 50, 51, 50, 52, 50, 53, 50, 54, 50, 55, 50, 56, 50, 57, 51, 48, 51, 49, 51, 50, 51, 51, 51, 52, 51, 53, 51, 54, 51, 55, 51, 56, 51, 57, 52, 48, 52, 49, 52, 50, 52, 51, 52, 52, 52, 53, 52, 54, 52, 55, 52, 56, 52, 57, 53, 48, 53, 49, 53, 50, 53, 51, 53, 52, 53, 53, 53, 54, 53, 55, 53, 56, 53, 57, 54, 48, 54, 49, 54, 50, 54, 51, 54, 52, 54, 53, 54, 54, 54, 55, 54, 56, 54, 57, 55, 48, 55, 49, 55, 50, 55, 51, 55, 52, 55, 53, 55, 54, 55, 55, 55, 56, 55, 57, 56, 48, 56, 49, 56, 50, 56, 51, 56, 52, 56, 53, 56, 54, 56, 55, 56, 56, 56, 57, 57, 48, 57, 49, 57, 50, 57, 51, 57, 52, 57, 53, 57, 54, 57, 55, 57, 56, 57, 57]) x22) fun x23 =>
 DoB (aidxs (.str [48, 48, 48, 49, 48, 50, 48, 51, 48, 52, 48, 53, 48, 54, 48, 55, 48, 56, 48, 57, 49, 48, 49, 49, 49, 50, 49, 51, 49, 52, 49, 53, 49, 54, 49, 55, 49, 56, 49, 57, 50, 48, 50, 49, 50, 50, 50, 51, 50, 52, 50, 53, 50, 54, 50, 55, 50, 56, 50, 57, 51, 48, 51, 49, 51, 50, 51, 51, 51, 52, 51, 53, 51, 54, 51, 55, 51, 56, 51, 57, 52, 48, 52, 49, 52, 50, 52, 51, 52, 52, 52, 53, 52, 54, 52, 55, 52, 56, 52, 57, 53, 48, 53, 49, 53, 50, 53, 51, 53, 52, 53, 53, 53, 54, 53, 55, 53, 56, 53, 57, 54, 48, 54, 49, 54, 50, 54, 51, 54, 52, 54, 53, 54, 54, 54, 55, 54, 56, 54, 57, 55, 48, 55, 49, 55, 50, 55, 51, 55, 52, 55, 53, 55, 54, 55, 55, 55, 56, 55, 57, 56, 48, 56, 49, 56, 50, 56, 51, 56, 52, 56, 53, 56, 54, 56, 55, 56, 56, 56, 57, 57, 48, 57, 49, 57, 50, 57, 51, 57, 52, 57, 53, 57, 54, 57, 55, 57, 56, 57, 57]) x15) fun x24 =>
 DoB (aiaddr none 1 a0 x20) fun x25 =>
 DoB (tstore s4.2 1 x25 x23) fun H27 =>
 DoB (aiaddr none 1 a0 x21) fun x28 =>
 DoB (tstore H27 1 x28 x24) fun H30 =>
 DoB (abin .sub (sl s4.1 1) (.int .i64 3)) fun x31 =>
 DoB (abin .sub (sl s4.1 1) (.int .i64 4)) fun x32 =>
 DoB (abin .add x13 (.int .u32 1)) fun x33 =>
 DoB (aidxs (.str [48, 48, 48, 49, 48, 50, 48, 51, 48, 52, 48, 53, 48, 54, 48, 55, 48, 56, 48, 57, 49, 48, 49, 49, 49, 50, 49, 51, 49, 52, 49, 53, 49, 54, 49, 55, 49, 56, 49, 57, 50, 48, 50, 49, 50, 50, 50, 51, 50, 52, 50, 53, 50, 54, 50, 55, 50, 56, 50, 57, 51, 48, 51, 49, 51, 50, 51, 51, 51, 52, 51, 53, 51, 54, 51, 55, 51, 56, 51, 57, 52, 48, 52, 49, 52, 50, 52, 51, 52, 52, 52, 53, 52, 54, 52, 55, 52, 56, 52, 57, 53, 48, 53, 49, 53, 50, 53, 51, 53, 52, 53, 53, 53, 54, 53, 55, 53, 56, 53, 57, 54, 48, 54, 49, 54, 50, 54, 51, 54, 52, 54, 53, 54, 54, 54, 55, 54, 56, 54, 57, 55, 48, 55, 49, 55, 50, 55, 51, 55, 52, 55, 53, 55, 54, 55, 55, 55, 56, 55, 57, 56, 48, 56, 49, 56, 50, 56, 51, 56, 52, 56, 53, 56, 54, 56, 55, 56, 56, 56, 57, 57, 48, 57, 49, 57, 50, 57, 51, 57, 52, 57, 53, 57, 54, 57, 55, 57, 56, 57, 57]) x33) fun x34 =>
 DoB (aidxs (.str [48, 48, 48, 49, 48, 50, 48, 51, 48, 52, 48, 53, 48, 54, 48, 55, 48, 56, 48, 57, 49, 48, 49, 49, 49, 50, 49, 51, 49, 52, 49, 53, 49, 54, 49, 55, 49, 56, 49, 57, 50, 48, 50, 49, 50, 50, 50, 51, 50, 52, 50, 53, 50, 54, 50, 55, 50, 56, 50, 57, 51, 48, 51, 49, 51, 50, 51, 51, 51, 52, 51, 53, 51, 54, 51, 55, 51, 56, 51, 57, 52, 48, 52, 49, 52, 50, 52, 51, 52, 52, 52, 53, 52, 54, 52, 55, 52, 56, 52, 57, 53, 48, 53, 49, 53, 50, 53, 51, 53, 52, 53, 53, 53, 54, 53, 55, 53, 56, 53, 57, 54, 48, 54, 49, 54, 50, 54, 51, 54, 52, 54, 53, 54, 54, 54, 55, 54, 56, 54, 57, 55, 48, 55, 49, 55, 50, 55, 51, 55, 52, 55, 53, 55, 54, 55, 55, 55, 56, 55, 57, 56, 48, 56, 49, 56, 50, 56, 51, 56, 52, 56, 53, 56, 54, 56, 55, 56, 56, 56, 57, 57, 48, 57, 49, 57, 50, 57, 51, 57, 52, 57, 53, 57, 54, 57, 55, 57, 56, 57, 57]) x13) fun x35 =>
 DoB (aiaddr none 1 a0 x31) fun x36 =>
 DoB (tstore H30 1 x36 x34) fun H38 =>
 DoB (aiaddr none 1 a0 x32) fun x39 =>
 DoB (tstore H38 1 x39 x35) fun H41 =>
 DoB (abin .sub (sl s4.1 1) (.int .i64 5)) fun x42 =>
 DoB (abin .sub (sl s4.1 1) (.int .i64 6)) fun x43 =>
 DoB (abin .add x19 (.int .u32 1)) fun x44 =>
 DoB (aidxs (.str [48, 48, 48, 49, 48, 50, 48, 51, 48, 52, 48, 53, 48, 54, 48, 55, 48, 56, 48, 57, 49, 48, 49, 49, 49, 50, 49, 51, 49, 52, 49, 53, 49, 54, 49, 55, 49, 56, 49, 57, 50, 48, 50, 49, 50, 50, 50, 51, 50, 52, 50, 53, 50, 54, 50, 55, 50, 56, 50, 57, 51, 48, 51, 49, 51, 50, 51, 51, 51, 52, 51, 53, 51, 54, 51, 55, 51, 56, 51, 57, 52, 48, 52, 49, 52, 50, 52, 51, 52, 52, 52, 53, 52, 54, 52, 55, 52, 56, 52, 57, 53, 48, 53, 49, 53, 50, 53, 51, 53, 52, 53, 53, 53, 54, 53, 55, 53, 56, 53, 57, 54, 48, 54, 49, 54, 50, 54, 51, 54, 52, 54, 53, 54, 54, 54, 55, 54, 56, 54, 57, 55, 48, 55, 49, 55, 50, 55, 51, 55, 52, 55, 53, 55, 54, 55, 55, 55, 56, 55, 57, 56, 48, 56, 49, 56, 50, 56, 51, 56, 52, 56, 53, 56, 54, 56, 55, 56, 56, 56, 57, 57, 48, 57, 49, 57, 50, 57, 51, 57, 52, 57, 53, 57, 54, 57, 55, 57, 56, 57, 57]) x44) fun x45 =>
 DoB (aidxs (.str [48, 48, 48, 49, 48, 50, 48, 51, 48, 52, 48, 53, 48, 54, 48, 55, 48, 56, 48, 57, 49, 48, 49, 49, 49, 50, 49, 51, 49, 52, 49, 53, 49, 54, 49, 55, 49, 56, 49, 57, 50, 48, 50, 49, 50, 50, 50, 51, 50, 52, 50, 53, 50, 54, 50, 55, 50, 56, 50, 57, 51, 48, 51, 49, 51, 50, 51, 51, 51, 52, 51, 53, 51, 54, 51, 55, 51, 56, 51, 57, 52, 48, 52, 49, 52, 50, 52, 51, 52, 52, 52, 53, 52, 54, 52, 55, 52, 56, 52, 57, 53, 48, 53, 49, 53, 50, 53, 51, 53, 52, 53, 53, 53, 54, 53, 55, 53, 56, 53, 57, 54, 48, 54, 49, 54, 50, 54, 51, 54, 52, 54, 53, 54, 54, 54, 55, 54, 56, 54, 57, 55, 48, 55, 49, 55, 50, 55, 51, 55, 52, 55, 53, 55, 54, 55, 55, 55, 56, 55, 57, 56, 48, 56, 49, 56, 50, 56, 51, 56, 52, 56, 53, 56, 54, 56, 55, 56, 56, 56, 57, 57, 48, 57, 49, 57, 50, 57, 51, 57, 52, 57, 53, 57, 54, 57, 55, 57, 56, 57, 57]) x19) fun x46 =>
 DoB (aiaddr none 1 a0 x42) fun x47 =>
 DoB (tstore H41 1 x47 x45) fun H49 =>
 DoB (aiaddr none 1 a0 x43) fun x50 =>
 DoB (tstore H49 1 x50 x46) fun H52 =>
 DoB (abin .sub (sl s4.1 1) (.int .i64 7)) fun x53 =>
 DoB (abin .sub (sl s4.1 1) (.int .i64 8)) fun x54 =>
 DoB (abin .add x17 (.int .u32 1)) fun x55 =>
 DoB (aidxs (.str [48, 48, 48, 49, 48, 50, 48, 51, 48, 52, 48, 53, 48, 54, 48, 55, 48, 56, 48, 57, 49, 48, 49, 49, 49, 50, 49, 51, 49, 52, 49, 53, 49, 54, 49, 55, 49, 56, 49, 57, 50, 48, 50, 49, 50, 50, 50, 51, 50, 52, 50, 53, 50, 54, 50, 55, 50, 56, 50, 57, 51, 48, 51, 49, 51, 50, 51, 51, 51, 52, 51, 53, 51, 54, 51, 55, 51, 56, 51, 57, 52, 48, 52, 49, 52, 50, 52, 51, 52, 52, 52, 53, 52, 54, 52, 55, 52, 56, 52, 57, 53, 48, 53, 49, 53, 50, 53, 51, 53, 52, 53, 53, 53, 54, 53, 55, 53, 56, 53, 57, 54, 48, 54, 49, 54, 50, 54, 51, 54, 52, 54, 53, 54, 54, 54, 55, 54, 56, 54, 57, 55, 48, 55, 49, 55, 50, 55, 51, 55, 52, 55, 53, 55, 54, 55, 55, 55, 56, 55, 57, 56, 48, 56, 49, 56, 50, 56, 51, 56, 52, 56, 53, 56, 54, 56, 55, 56, 56, 56, 57, 57, 48, 57, 49, 57, 50, 57, 51, 57, 52, 57, 53, 57, 54, 57, 55, 57, 56, 57, 57]) x55) fun x56 =>
 DoB (aidxs (.str [48, 48, 48, 49, 48, 50, 48, 51, 48, 52, 48, 53, 48, 54, 48, 55, 48, 56, 48, 57, 49, 48, 49, 49, 49, 50, 49, 51, 49, 52, 49, 53, 49, 54, 49, 55, 49, 56, 49, 57, 50, 48, 50, 49, 50, 50, 50, 51, 50, 52, 50, 53, 50, 54, 50, 55, 50, 56, 50, 57, 51, 48, 51, 49, 51, 50, 51, 51, 51, 52, 51, 53, 51, 54, 51, 55, 51, 56, 51, 57, 52, 48, 52, 49, 52, 50, 52, 51, 52, 52, 52, 53, 52, 54, 52, 55, 52, 56, 52, 57, 53, 48, 53, 49, 53, 50, 53, 51, 53, 52, 53, 53, 53, 54, 53, 55, 53, 56, 53, 57, 54, 48, 54, 49, 54, 50, 54, 51, 54, 52, 54, 53, 54, 54, 54, 55, 54, 56, 54, 57, 55, 48, 55, 49, 55, 50, 55, 51, 55, 52, 55, 53, 55, 54, 55, 55, 55, 56, 55, 57, 56, 48, 56, 49, 56, 50, 56, 51, 56, 52, 56, 53, 56, 54, 56, 55, 56, 56, 56, 57, 57, 48, 57, 49, 57, 50, 57, 51, 57, 52, 57, 53, 57, 54, 57, 55, 57, 56, 57, 57]) x17) fun x57 =>
 DoB (aiaddr none 1 a0 x53) fun x58 =>
 DoB (tstore H52 1 x58 x56) fun H60 =>
 DoB (aiaddr none 1 a0 x54) fun x61 =>
 DoB (tstore H60 1 x61 x57) fun H63 =>
 DoB (abin .sub (sl s4.1 1) (.int .i64 8)) fun x64 =>
 L5 ([x9, x64], H63)) (
 JoinB (internal_strconv_formatBase10_k3 Φ n a0 Q) [(sl s4.1 0), (sl s4.1 1)] s4.2)
def internal_strconv_formatBase10 (Φ : CallsB) (n : Nat) (a0 : AV) (a1 : AV) (H : TH) (Q : PostB) : Bool :=
 DoB (alen false a0) fun x1 =>
 LoopB (internal_strconv_formatBase10_l4 Φ n a0 Q) n ([a1, x1], H)
theorem eq_internal_strconv_formatBase10 (Φ : CallsB) (n : Nat) (a0 a1 : AV) (H : TH) (Q : PostB) : fnB1 Φ n S.ir_internal_strconv_formatBase10 [a0, a1] H Q = internal_strconv_formatBase10 Φ n a0 a1 H Q := by kernel_rfl

def internal_strconv_log10Pow2 (Φ : CallsB) (n : Nat) (a0 : AV) (H : TH) (Q : PostB) : Bool :=
 DoB (abin .mul a0 (.int .i64 78913)) fun x1 =>
 DoB (abin .shr x1 (.int .u64 18)) fun x2 =>
 Q x2 H
theorem eq_internal_strconv_log10Pow2 (Φ : CallsB) (n : Nat) (a0 : AV) (H : TH) (Q : PostB) : fnB1 Φ n S.ir_internal_strconv_log10Pow2 [a0] H Q = internal_strconv_log10Pow2 Φ n a0 H Q := by kernel_rfl

def internal_strconv_bool2_int_ (Φ : CallsB) (n : Nat) (a0 : AV) (H : TH) (Q : PostB) : Bool :=
 GdB a0 true (
 Q (.int .i64 1) H) (
 Q (.int .i64 0) H)
theorem eq_internal_strconv_bool2_int_ (Φ : CallsB) (n : Nat) (a0 : AV) (H : TH) (Q : PostB) : fnB1 Φ n S.ir_internal_strconv_bool2_int_ [a0] H Q = internal_strconv_bool2_int_ Φ n a0 H Q := by kernel_rfl

def internal_strconv_isPowerOfTwo (Φ : CallsB) (n : Nat) (a0 : AV) (H : TH) (Q : PostB) : Bool :=
 DoB (abin .sub a0 (.int .i64 1)) fun x1 =>
 DoB (abin .and a0 x1) fun x2 =>
 DoB (abin .eql x2 (.int .i64 0)) fun x3 =>
 Q x3 H
theorem eq_internal_strconv_isPowerOfTwo (Φ : CallsB) (n : Nat) (a0 : AV) (H : TH) (Q : PostB) : fnB1 Φ n S.ir_internal_strconv_isPowerOfTwo [a0] H Q = internal_strconv_isPowerOfTwo Φ n a0 H Q := by kernel_rfl

end Rb.R

/- Package libinternalstringslite: its functions in the small language, and what they mean. By gen.py. -/
set_option linter.unusedVariables false
namespace Rb.S
open Go

/-! internal/stringslite.HasPrefix -/
def internal_stringslite_HasPrefix (Φ : Calls') (a0 : AV) (a1 : AV) (H : AH) (Q : Post) : Prop :=
 Do (alen true a0) fun x1 =>
 Do (alen true a1) fun x2 =>
 Do (abin .geq x1 x2) fun x3 =>
 Gd3 x3 true (
 Do (alen true a1) fun x4 =>
 Do (asslice a0 none (some x4)) fun x5 =>
 Do (abin .eql x5 a1) fun x6 =>
 Q x6 H) (
 Q (.bool false) H) (
 False)
def ir_internal_stringslite_HasPrefix : AFunc := ⟨18, [.tmp 4],
 .seq (.region [
   ⟨some 4, .mv (.k (.bool false)), none⟩])
 (.seq (.region [
   ⟨some 5, .mv (.t 0), none⟩,
   ⟨some 6, .len true (.t 5), none⟩,
   ⟨some 7, .mv (.t 1), none⟩,
   ⟨some 8, .len true (.t 7), none⟩,
   ⟨some 9, .bin .geq (.t 6) (.t 8), none⟩,
   ⟨some 10, .mv (.t 9), none⟩,
   ⟨some 11, .mv (.t 0), some (10, true)⟩,
   ⟨some 12, .mv (.t 1), some (10, true)⟩,
   ⟨some 13, .len true (.t 12), some (10, true)⟩,
   ⟨some 14, .sslice (.t 11) none (some (.t 13)), some (10, true)⟩,
   ⟨some 15, .mv (.t 1), some (10, true)⟩,
   ⟨some 16, .bin .eql (.t 14) (.t 15), some (10, true)⟩,
   ⟨some 17, .pick (.t 10) (.t 16) (.k (.bool false)), none⟩,
   ⟨some 4, .mv (.t 17), none⟩])
 (.ret))⟩
theorem eq_internal_stringslite_HasPrefix (Φ : Calls') (a0 a1 : AV) (H : AH) (Q : Post) : fnE1 Φ ir_internal_stringslite_HasPrefix [a0, a1] H Q = internal_stringslite_HasPrefix Φ a0 a1 H Q := by kernel_rfl

def tab_libinternalstringslite : Tab := [
  (K.internal_stringslite_HasPrefix, ir_internal_stringslite_HasPrefix)]

theorem cl_internal_stringslite_HasPrefix {Φ : Calls'} (hT : Cl Φ tab_libinternalstringslite) {a0 a1 : AV} {H : AH} {Q : Post} (h : internal_stringslite_HasPrefix Φ a0 a1 H Q) : Φ K.internal_stringslite_HasPrefix [a0, a1] H Q := hT.call (by kernel_rfl) (by kernel_rfl) (by rw [eq_internal_stringslite_HasPrefix]; exact h)
end Rb.S

/- Package libinternalstringslite: its functions as runs. By gen.py. -/
set_option linter.unusedVariables false
namespace Rb.R
open Go

def internal_stringslite_HasPrefix (Φ : CallsB) (n : Nat) (a0 : AV) (a1 : AV) (H : TH) (Q : PostB) : Bool :=
 DoB (alen true a0) fun x1 =>
 DoB (alen true a1) fun x2 =>
 DoB (abin .geq x1 x2) fun x3 =>
 Gd3B x3 true (
 DoB (alen true a1) fun x4 =>
 DoB (asslice a0 none (some x4)) fun x5 =>
 DoB (abin .eql x5 a1) fun x6 =>
 Q x6 H) (
 Q (.bool false) H) (
 false)
theorem eq_internal_stringslite_HasPrefix (Φ : CallsB) (n : Nat) (a0 a1 : AV) (H : TH) (Q : PostB) : fnB1 Φ n S.ir_internal_stringslite_HasPrefix [a0, a1] H Q = internal_stringslite_HasPrefix Φ n a0 a1 H Q := by kernel_rfl

end Rb.R

/- Package libslices: its functions in the small language, and what they mean. By gen.py. -/
set_option linter.unusedVariables false
namespace Rb.S
open Go

/-! slices.IndexFunc[[]rabbet/api.Var,rabbet/api.Var] -/
def slices_IndexFunc___api_Var_api_Var__l1 (Φ : Calls') (a0 : AV) (a1 : AV) (x1 : AV) (Q : Post) : (List AV × AH) → ((List AV × AH) → Prop) → Prop := fun s2 L3 =>
 Do (abin .lss (sl s2.1 0) x1) fun x4 =>
 Gd x4 true (
 Do (aiaddr none 7 a0 (sl s2.1 0)) fun x5 =>
 Do (aload s2.2 7 true x5) fun x6 =>
∃ k9 c10, a1 = .fn k9 c10 ∧ Φ k9 ([x6] ++ c10) s2.2 fun x7 H8 =>
 Gd x7 true (
 Q (sl s2.1 0) H8) (
 Do (abin .add (sl s2.1 0) (.int .i64 1)) fun x11 =>
 L3 ([x11], H8))) (
 Q (.int .i64 (-1)) s2.2)
def slices_IndexFunc___api_Var_api_Var_ (Φ : Calls') (a0 : AV) (a1 : AV) (H : AH) (Q : Post) : Prop :=
 Do (alen false a0) fun x1 =>
 LoopP (slices_IndexFunc___api_Var_api_Var__l1 Φ a0 a1 x1 Q) ([(.int .i64 0)], H)
def ir_slices_IndexFunc___api_Var_api_Var_ : AFunc := ⟨19, [.tmp 4],
 .seq (.region [
   ⟨some 4, .mv (.k (.int .i64 0)), none⟩])
 (.seq (.seq (.region [
   ⟨some 6, .mv (.t 0), none⟩,
   ⟨some 7, .len false (.t 6), none⟩,
   ⟨some 8, .mv (.k (.int .i64 0)), none⟩])
 (.block 0 (.loop [8] [4, 5, 9, 10, 11, 12, 13, 14, 15, 16, 17, 18] (.seq (.region [
   ⟨some 9, .bin .lss (.t 8) (.t 7), none⟩])
 (.seq (.cond (.t 9) (.skip)
   (.exit 0))
 (.seq (.block 1 (.seq (.region [
   ⟨some 10, .mv (.t 8), none⟩,
   ⟨some 5, .mv (.t 10), none⟩])
 (.seq (.region [
   ⟨some 11, .mv (.t 1), none⟩,
   ⟨some 12, .mv (.t 0), none⟩,
   ⟨some 13, .mv (.t 5), none⟩,
   ⟨some 14, .iaddr none 7 (.t 12) (.t 13), none⟩,
   ⟨some 15, .load 7 true (.t 14), none⟩,
   ⟨some 16, .callv (.t 11) [(.t 15)], none⟩])
 (.cond (.t 16) (.seq (.region [
     ⟨some 17, .mv (.t 5), none⟩,
     ⟨some 4, .mv (.t 17), none⟩])
   (.ret))
   (.skip)))))
 (.region [
   ⟨some 18, .bin .add (.t 8) (.k (.int .i64 1)), none⟩,
   ⟨some 8, .mv (.t 18), none⟩])))))))
 (.seq (.region [
   ⟨some 4, .mv (.k (.int .i64 (-1))), none⟩])
 (.ret)))⟩
theorem eq_slices_IndexFunc___api_Var_api_Var_ (Φ : Calls') (a0 a1 : AV) (H : AH) (Q : Post) : fnE1 Φ ir_slices_IndexFunc___api_Var_api_Var_ [a0, a1] H Q = slices_IndexFunc___api_Var_api_Var_ Φ a0 a1 H Q := by kernel_rfl

/-! slices.IndexFunc[[]rabbet/api.Field,rabbet/api.Field] -/
def slices_IndexFunc___api_Field_api_Field__l1 (Φ : Calls') (a0 : AV) (a1 : AV) (x1 : AV) (Q : Post) : (List AV × AH) → ((List AV × AH) → Prop) → Prop := fun s2 L3 =>
 Do (abin .lss (sl s2.1 0) x1) fun x4 =>
 Gd x4 true (
 Do (aiaddr none 9 a0 (sl s2.1 0)) fun x5 =>
 Do (aload s2.2 9 true x5) fun x6 =>
∃ k9 c10, a1 = .fn k9 c10 ∧ Φ k9 ([x6] ++ c10) s2.2 fun x7 H8 =>
 Gd x7 true (
 Q (sl s2.1 0) H8) (
 Do (abin .add (sl s2.1 0) (.int .i64 1)) fun x11 =>
 L3 ([x11], H8))) (
 Q (.int .i64 (-1)) s2.2)
def slices_IndexFunc___api_Field_api_Field_ (Φ : Calls') (a0 : AV) (a1 : AV) (H : AH) (Q : Post) : Prop :=
 Do (alen false a0) fun x1 =>
 LoopP (slices_IndexFunc___api_Field_api_Field__l1 Φ a0 a1 x1 Q) ([(.int .i64 0)], H)
def ir_slices_IndexFunc___api_Field_api_Field_ : AFunc := ⟨19, [.tmp 4],
 .seq (.region [
   ⟨some 4, .mv (.k (.int .i64 0)), none⟩])
 (.seq (.seq (.region [
   ⟨some 6, .mv (.t 0), none⟩,
   ⟨some 7, .len false (.t 6), none⟩,
   ⟨some 8, .mv (.k (.int .i64 0)), none⟩])
 (.block 0 (.loop [8] [4, 5, 9, 10, 11, 12, 13, 14, 15, 16, 17, 18] (.seq (.region [
   ⟨some 9, .bin .lss (.t 8) (.t 7), none⟩])
 (.seq (.cond (.t 9) (.skip)
   (.exit 0))
 (.seq (.block 1 (.seq (.region [
   ⟨some 10, .mv (.t 8), none⟩,
   ⟨some 5, .mv (.t 10), none⟩])
 (.seq (.region [
   ⟨some 11, .mv (.t 1), none⟩,
   ⟨some 12, .mv (.t 0), none⟩,
   ⟨some 13, .mv (.t 5), none⟩,
   ⟨some 14, .iaddr none 9 (.t 12) (.t 13), none⟩,
   ⟨some 15, .load 9 true (.t 14), none⟩,
   ⟨some 16, .callv (.t 11) [(.t 15)], none⟩])
 (.cond (.t 16) (.seq (.region [
     ⟨some 17, .mv (.t 5), none⟩,
     ⟨some 4, .mv (.t 17), none⟩])
   (.ret))
   (.skip)))))
 (.region [
   ⟨some 18, .bin .add (.t 8) (.k (.int .i64 1)), none⟩,
   ⟨some 8, .mv (.t 18), none⟩])))))))
 (.seq (.region [
   ⟨some 4, .mv (.k (.int .i64 (-1))), none⟩])
 (.ret)))⟩
theorem eq_slices_IndexFunc___api_Field_api_Field_ (Φ : Calls') (a0 a1 : AV) (H : AH) (Q : Post) : fnE1 Φ ir_slices_IndexFunc___api_Field_api_Field_ [a0, a1] H Q = slices_IndexFunc___api_Field_api_Field_ Φ a0 a1 H Q := by kernel_rfl

/-! slices.ContainsFunc[[]rabbet/api.Var,rabbet/api.Var] -/
def slices_ContainsFunc___api_Var_api_Var_ (Φ : Calls') (a0 : AV) (a1 : AV) (H : AH) (Q : Post) : Prop :=
Φ K.slices_IndexFunc___api_Var_api_Var_ [a0, a1] H fun x1 H2 =>
 Do (abin .geq x1 (.int .i64 0)) fun x3 =>
 Q x3 H2
def ir_slices_ContainsFunc___api_Var_api_Var_ : AFunc := ⟨9, [.tmp 4],
 .seq (.region [
   ⟨some 4, .mv (.k (.bool false)), none⟩])
 (.seq (.region [
   ⟨some 5, .mv (.t 0), none⟩,
   ⟨some 6, .mv (.t 1), none⟩,
   ⟨some 7, .call K.slices_IndexFunc___api_Var_api_Var_ [(.t 5), (.t 6)], none⟩,
   ⟨some 8, .bin .geq (.t 7) (.k (.int .i64 0)), none⟩,
   ⟨some 4, .mv (.t 8), none⟩])
 (.ret))⟩
theorem eq_slices_ContainsFunc___api_Var_api_Var_ (Φ : Calls') (a0 a1 : AV) (H : AH) (Q : Post) : fnE1 Φ ir_slices_ContainsFunc___api_Var_api_Var_ [a0, a1] H Q = slices_ContainsFunc___api_Var_api_Var_ Φ a0 a1 H Q := by kernel_rfl

/-! slices.Contains[[]string,string] -/
def slices_Contains___string_string_ (Φ : Calls') (a0 : AV) (a1 : AV) (H : AH) (Q : Post) : Prop :=
Φ K.slices_Index___string_string_ [a0, a1] H fun x1 H2 =>
 Do (abin .geq x1 (.int .i64 0)) fun x3 =>
 Q x3 H2
def ir_slices_Contains___string_string_ : AFunc := ⟨9, [.tmp 4],
 .seq (.region [
   ⟨some 4, .mv (.k (.bool false)), none⟩])
 (.seq (.region [
   ⟨some 5, .mv (.t 0), none⟩,
   ⟨some 6, .mv (.t 1), none⟩,
   ⟨some 7, .call K.slices_Index___string_string_ [(.t 5), (.t 6)], none⟩,
   ⟨some 8, .bin .geq (.t 7) (.k (.int .i64 0)), none⟩,
   ⟨some 4, .mv (.t 8), none⟩])
 (.ret))⟩
theorem eq_slices_Contains___string_string_ (Φ : Calls') (a0 a1 : AV) (H : AH) (Q : Post) : fnE1 Φ ir_slices_Contains___string_string_ [a0, a1] H Q = slices_Contains___string_string_ Φ a0 a1 H Q := by kernel_rfl

/-! slices.Index[[]string,string] -/
def slices_Index___string_string__l1 (Φ : Calls') (a0 : AV) (a1 : AV) (x1 : AV) (Q : Post) : (List AV × AH) → ((List AV × AH) → Prop) → Prop := fun s2 L3 =>
 Do (abin .lss (sl s2.1 0) x1) fun x4 =>
 Gd x4 true (
 Do (aiaddr none 1 a0 (sl s2.1 0)) fun x5 =>
 Do (aload s2.2 1 false x5) fun x6 =>
 Do (abin .eql a1 x6) fun x7 =>
 Gd x7 true (
 Q (sl s2.1 0) s2.2) (
 Do (abin .add (sl s2.1 0) (.int .i64 1)) fun x8 =>
 L3 ([x8], s2.2))) (
 Q (.int .i64 (-1)) s2.2)
def slices_Index___string_string_ (Φ : Calls') (a0 : AV) (a1 : AV) (H : AH) (Q : Post) : Prop :=
 Do (alen false a0) fun x1 =>
 LoopP (slices_Index___string_string__l1 Φ a0 a1 x1 Q) ([(.int .i64 0)], H)
def ir_slices_Index___string_string_ : AFunc := ⟨19, [.tmp 4],
 .seq (.region [
   ⟨some 4, .mv (.k (.int .i64 0)), none⟩])
 (.seq (.seq (.region [
   ⟨some 6, .mv (.t 0), none⟩,
   ⟨some 7, .len false (.t 6), none⟩,
   ⟨some 8, .mv (.k (.int .i64 0)), none⟩])
 (.block 0 (.loop [8] [4, 5, 9, 10, 11, 12, 13, 14, 15, 16, 17, 18] (.seq (.region [
   ⟨some 9, .bin .lss (.t 8) (.t 7), none⟩])
 (.seq (.cond (.t 9) (.skip)
   (.exit 0))
 (.seq (.block 1 (.seq (.region [
   ⟨some 10, .mv (.t 8), none⟩,
   ⟨some 5, .mv (.t 10), none⟩])
 (.seq (.region [
   ⟨some 11, .mv (.t 1), none⟩,
   ⟨some 12, .mv (.t 0), none⟩,
   ⟨some 13, .mv (.t 5), none⟩,
   ⟨some 14, .iaddr none 1 (.t 12) (.t 13), none⟩,
   ⟨some 15, .load 1 false (.t 14), none⟩,
   ⟨some 16, .bin .eql (.t 11) (.t 15), none⟩])
 (.cond (.t 16) (.seq (.region [
     ⟨some 17, .mv (.t 5), none⟩,
     ⟨some 4, .mv (.t 17), none⟩])
   (.ret))
   (.skip)))))
 (.region [
   ⟨some 18, .bin .add (.t 8) (.k (.int .i64 1)), none⟩,
   ⟨some 8, .mv (.t 18), none⟩])))))))
 (.seq (.region [
   ⟨some 4, .mv (.k (.int .i64 (-1))), none⟩])
 (.ret)))⟩
theorem eq_slices_Index___string_string_ (Φ : Calls') (a0 a1 : AV) (H : AH) (Q : Post) : fnE1 Φ ir_slices_Index___string_string_ [a0, a1] H Q = slices_Index___string_string_ Φ a0 a1 H Q := by kernel_rfl

/-! slices.ContainsFunc[[]rabbet/api.Field,rabbet/api.Field] -/
def slices_ContainsFunc___api_Field_api_Field_ (Φ : Calls') (a0 : AV) (a1 : AV) (H : AH) (Q : Post) : Prop :=
Φ K.slices_IndexFunc___api_Field_api_Field_ [a0, a1] H fun x1 H2 =>
 Do (abin .geq x1 (.int .i64 0)) fun x3 =>
 Q x3 H2
def ir_slices_ContainsFunc___api_Field_api_Field_ : AFunc := ⟨9, [.tmp 4],
 .seq (.region [
   ⟨some 4, .mv (.k (.bool false)), none⟩])
 (.seq (.region [
   ⟨some 5, .mv (.t 0), none⟩,
   ⟨some 6, .mv (.t 1), none⟩,
   ⟨some 7, .call K.slices_IndexFunc___api_Field_api_Field_ [(.t 5), (.t 6)], none⟩,
   ⟨some 8, .bin .geq (.t 7) (.k (.int .i64 0)), none⟩,
   ⟨some 4, .mv (.t 8), none⟩])
 (.ret))⟩
theorem eq_slices_ContainsFunc___api_Field_api_Field_ (Φ : Calls') (a0 a1 : AV) (H : AH) (Q : Post) : fnE1 Φ ir_slices_ContainsFunc___api_Field_api_Field_ [a0, a1] H Q = slices_ContainsFunc___api_Field_api_Field_ Φ a0 a1 H Q := by kernel_rfl

/-! slices.ContainsFunc[[]rabbet/api.Type,rabbet/api.Type] -/
def slices_ContainsFunc___api_Type_api_Type_ (Φ : Calls') (a0 : AV) (a1 : AV) (H : AH) (Q : Post) : Prop :=
Φ K.slices_IndexFunc___api_Type_api_Type_ [a0, a1] H fun x1 H2 =>
 Do (abin .geq x1 (.int .i64 0)) fun x3 =>
 Q x3 H2
def ir_slices_ContainsFunc___api_Type_api_Type_ : AFunc := ⟨9, [.tmp 4],
 .seq (.region [
   ⟨some 4, .mv (.k (.bool false)), none⟩])
 (.seq (.region [
   ⟨some 5, .mv (.t 0), none⟩,
   ⟨some 6, .mv (.t 1), none⟩,
   ⟨some 7, .call K.slices_IndexFunc___api_Type_api_Type_ [(.t 5), (.t 6)], none⟩,
   ⟨some 8, .bin .geq (.t 7) (.k (.int .i64 0)), none⟩,
   ⟨some 4, .mv (.t 8), none⟩])
 (.ret))⟩
theorem eq_slices_ContainsFunc___api_Type_api_Type_ (Φ : Calls') (a0 a1 : AV) (H : AH) (Q : Post) : fnE1 Φ ir_slices_ContainsFunc___api_Type_api_Type_ [a0, a1] H Q = slices_ContainsFunc___api_Type_api_Type_ Φ a0 a1 H Q := by kernel_rfl

/-! slices.IndexFunc[[]rabbet/api.Type,rabbet/api.Type] -/
def slices_IndexFunc___api_Type_api_Type__l1 (Φ : Calls') (a0 : AV) (a1 : AV) (x1 : AV) (Q : Post) : (List AV × AH) → ((List AV × AH) → Prop) → Prop := fun s2 L3 =>
 Do (abin .lss (sl s2.1 0) x1) fun x4 =>
 Gd x4 true (
 Do (aiaddr none 6 a0 (sl s2.1 0)) fun x5 =>
 Do (aload s2.2 6 true x5) fun x6 =>
∃ k9 c10, a1 = .fn k9 c10 ∧ Φ k9 ([x6] ++ c10) s2.2 fun x7 H8 =>
 Gd x7 true (
 Q (sl s2.1 0) H8) (
 Do (abin .add (sl s2.1 0) (.int .i64 1)) fun x11 =>
 L3 ([x11], H8))) (
 Q (.int .i64 (-1)) s2.2)
def slices_IndexFunc___api_Type_api_Type_ (Φ : Calls') (a0 : AV) (a1 : AV) (H : AH) (Q : Post) : Prop :=
 Do (alen false a0) fun x1 =>
 LoopP (slices_IndexFunc___api_Type_api_Type__l1 Φ a0 a1 x1 Q) ([(.int .i64 0)], H)
def ir_slices_IndexFunc___api_Type_api_Type_ : AFunc := ⟨19, [.tmp 4],
 .seq (.region [
   ⟨some 4, .mv (.k (.int .i64 0)), none⟩])
 (.seq (.seq (.region [
   ⟨some 6, .mv (.t 0), none⟩,
   ⟨some 7, .len false (.t 6), none⟩,
   ⟨some 8, .mv (.k (.int .i64 0)), none⟩])
 (.block 0 (.loop [8] [4, 5, 9, 10, 11, 12, 13, 14, 15, 16, 17, 18] (.seq (.region [
   ⟨some 9, .bin .lss (.t 8) (.t 7), none⟩])
 (.seq (.cond (.t 9) (.skip)
   (.exit 0))
 (.seq (.block 1 (.seq (.region [
   ⟨some 10, .mv (.t 8), none⟩,
   ⟨some 5, .mv (.t 10), none⟩])
 (.seq (.region [
   ⟨some 11, .mv (.t 1), none⟩,
   ⟨some 12, .mv (.t 0), none⟩,
   ⟨some 13, .mv (.t 5), none⟩,
   ⟨some 14, .iaddr none 6 (.t 12) (.t 13), none⟩,
   ⟨some 15, .load 6 true (.t 14), none⟩,
   ⟨some 16, .callv (.t 11) [(.t 15)], none⟩])
 (.cond (.t 16) (.seq (.region [
     ⟨some 17, .mv (.t 5), none⟩,
     ⟨some 4, .mv (.t 17), none⟩])
   (.ret))
   (.skip)))))
 (.region [
   ⟨some 18, .bin .add (.t 8) (.k (.int .i64 1)), none⟩,
   ⟨some 8, .mv (.t 18), none⟩])))))))
 (.seq (.region [
   ⟨some 4, .mv (.k (.int .i64 (-1))), none⟩])
 (.ret)))⟩
theorem eq_slices_IndexFunc___api_Type_api_Type_ (Φ : Calls') (a0 a1 : AV) (H : AH) (Q : Post) : fnE1 Φ ir_slices_IndexFunc___api_Type_api_Type_ [a0, a1] H Q = slices_IndexFunc___api_Type_api_Type_ Φ a0 a1 H Q := by kernel_rfl

/-! slices.IndexFunc[[]rabbet/lower.local,rabbet/lower.local] -/
def slices_IndexFunc___lower_local_lower_local__l1 (Φ : Calls') (a0 : AV) (a1 : AV) (x1 : AV) (Q : Post) : (List AV × AH) → ((List AV × AH) → Prop) → Prop := fun s2 L3 =>
 Do (abin .lss (sl s2.1 0) x1) fun x4 =>
 Gd x4 true (
 Do (aiaddr none 2 a0 (sl s2.1 0)) fun x5 =>
 Do (aload s2.2 2 true x5) fun x6 =>
∃ k9 c10, a1 = .fn k9 c10 ∧ Φ k9 ([x6] ++ c10) s2.2 fun x7 H8 =>
 Gd x7 true (
 Q (sl s2.1 0) H8) (
 Do (abin .add (sl s2.1 0) (.int .i64 1)) fun x11 =>
 L3 ([x11], H8))) (
 Q (.int .i64 (-1)) s2.2)
def slices_IndexFunc___lower_local_lower_local_ (Φ : Calls') (a0 : AV) (a1 : AV) (H : AH) (Q : Post) : Prop :=
 Do (alen false a0) fun x1 =>
 LoopP (slices_IndexFunc___lower_local_lower_local__l1 Φ a0 a1 x1 Q) ([(.int .i64 0)], H)
def ir_slices_IndexFunc___lower_local_lower_local_ : AFunc := ⟨19, [.tmp 4],
 .seq (.region [
   ⟨some 4, .mv (.k (.int .i64 0)), none⟩])
 (.seq (.seq (.region [
   ⟨some 6, .mv (.t 0), none⟩,
   ⟨some 7, .len false (.t 6), none⟩,
   ⟨some 8, .mv (.k (.int .i64 0)), none⟩])
 (.block 0 (.loop [8] [4, 5, 9, 10, 11, 12, 13, 14, 15, 16, 17, 18] (.seq (.region [
   ⟨some 9, .bin .lss (.t 8) (.t 7), none⟩])
 (.seq (.cond (.t 9) (.skip)
   (.exit 0))
 (.seq (.block 1 (.seq (.region [
   ⟨some 10, .mv (.t 8), none⟩,
   ⟨some 5, .mv (.t 10), none⟩])
 (.seq (.region [
   ⟨some 11, .mv (.t 1), none⟩,
   ⟨some 12, .mv (.t 0), none⟩,
   ⟨some 13, .mv (.t 5), none⟩,
   ⟨some 14, .iaddr none 2 (.t 12) (.t 13), none⟩,
   ⟨some 15, .load 2 true (.t 14), none⟩,
   ⟨some 16, .callv (.t 11) [(.t 15)], none⟩])
 (.cond (.t 16) (.seq (.region [
     ⟨some 17, .mv (.t 5), none⟩,
     ⟨some 4, .mv (.t 17), none⟩])
   (.ret))
   (.skip)))))
 (.region [
   ⟨some 18, .bin .add (.t 8) (.k (.int .i64 1)), none⟩,
   ⟨some 8, .mv (.t 18), none⟩])))))))
 (.seq (.region [
   ⟨some 4, .mv (.k (.int .i64 (-1))), none⟩])
 (.ret)))⟩
theorem eq_slices_IndexFunc___lower_local_lower_local_ (Φ : Calls') (a0 a1 : AV) (H : AH) (Q : Post) : fnE1 Φ ir_slices_IndexFunc___lower_local_lower_local_ [a0, a1] H Q = slices_IndexFunc___lower_local_lower_local_ Φ a0 a1 H Q := by kernel_rfl

def tab_libslices : Tab := [
  (K.slices_IndexFunc___api_Var_api_Var_, ir_slices_IndexFunc___api_Var_api_Var_),
  (K.slices_IndexFunc___api_Field_api_Field_, ir_slices_IndexFunc___api_Field_api_Field_),
  (K.slices_ContainsFunc___api_Var_api_Var_, ir_slices_ContainsFunc___api_Var_api_Var_),
  (K.slices_Contains___string_string_, ir_slices_Contains___string_string_),
  (K.slices_Index___string_string_, ir_slices_Index___string_string_),
  (K.slices_ContainsFunc___api_Field_api_Field_, ir_slices_ContainsFunc___api_Field_api_Field_),
  (K.slices_ContainsFunc___api_Type_api_Type_, ir_slices_ContainsFunc___api_Type_api_Type_),
  (K.slices_IndexFunc___api_Type_api_Type_, ir_slices_IndexFunc___api_Type_api_Type_),
  (K.slices_IndexFunc___lower_local_lower_local_, ir_slices_IndexFunc___lower_local_lower_local_)]

theorem cl_slices_IndexFunc___api_Var_api_Var_ {Φ : Calls'} (hT : Cl Φ tab_libslices) {a0 a1 : AV} {H : AH} {Q : Post} (h : slices_IndexFunc___api_Var_api_Var_ Φ a0 a1 H Q) : Φ K.slices_IndexFunc___api_Var_api_Var_ [a0, a1] H Q := hT.call (by kernel_rfl) (by kernel_rfl) (by rw [eq_slices_IndexFunc___api_Var_api_Var_]; exact h)
theorem cl_slices_IndexFunc___api_Field_api_Field_ {Φ : Calls'} (hT : Cl Φ tab_libslices) {a0 a1 : AV} {H : AH} {Q : Post} (h : slices_IndexFunc___api_Field_api_Field_ Φ a0 a1 H Q) : Φ K.slices_IndexFunc___api_Field_api_Field_ [a0, a1] H Q := hT.call (by kernel_rfl) (by kernel_rfl) (by rw [eq_slices_IndexFunc___api_Field_api_Field_]; exact h)
theorem cl_slices_ContainsFunc___api_Var_api_Var_ {Φ : Calls'} (hT : Cl Φ tab_libslices) {a0 a1 : AV} {H : AH} {Q : Post} (h : slices_ContainsFunc___api_Var_api_Var_ Φ a0 a1 H Q) : Φ K.slices_ContainsFunc___api_Var_api_Var_ [a0, a1] H Q := hT.call (by kernel_rfl) (by kernel_rfl) (by rw [eq_slices_ContainsFunc___api_Var_api_Var_]; exact h)
theorem cl_slices_Contains___string_string_ {Φ : Calls'} (hT : Cl Φ tab_libslices) {a0 a1 : AV} {H : AH} {Q : Post} (h : slices_Contains___string_string_ Φ a0 a1 H Q) : Φ K.slices_Contains___string_string_ [a0, a1] H Q := hT.call (by kernel_rfl) (by kernel_rfl) (by rw [eq_slices_Contains___string_string_]; exact h)
theorem cl_slices_Index___string_string_ {Φ : Calls'} (hT : Cl Φ tab_libslices) {a0 a1 : AV} {H : AH} {Q : Post} (h : slices_Index___string_string_ Φ a0 a1 H Q) : Φ K.slices_Index___string_string_ [a0, a1] H Q := hT.call (by kernel_rfl) (by kernel_rfl) (by rw [eq_slices_Index___string_string_]; exact h)
theorem cl_slices_ContainsFunc___api_Field_api_Field_ {Φ : Calls'} (hT : Cl Φ tab_libslices) {a0 a1 : AV} {H : AH} {Q : Post} (h : slices_ContainsFunc___api_Field_api_Field_ Φ a0 a1 H Q) : Φ K.slices_ContainsFunc___api_Field_api_Field_ [a0, a1] H Q := hT.call (by kernel_rfl) (by kernel_rfl) (by rw [eq_slices_ContainsFunc___api_Field_api_Field_]; exact h)
theorem cl_slices_ContainsFunc___api_Type_api_Type_ {Φ : Calls'} (hT : Cl Φ tab_libslices) {a0 a1 : AV} {H : AH} {Q : Post} (h : slices_ContainsFunc___api_Type_api_Type_ Φ a0 a1 H Q) : Φ K.slices_ContainsFunc___api_Type_api_Type_ [a0, a1] H Q := hT.call (by kernel_rfl) (by kernel_rfl) (by rw [eq_slices_ContainsFunc___api_Type_api_Type_]; exact h)
theorem cl_slices_IndexFunc___api_Type_api_Type_ {Φ : Calls'} (hT : Cl Φ tab_libslices) {a0 a1 : AV} {H : AH} {Q : Post} (h : slices_IndexFunc___api_Type_api_Type_ Φ a0 a1 H Q) : Φ K.slices_IndexFunc___api_Type_api_Type_ [a0, a1] H Q := hT.call (by kernel_rfl) (by kernel_rfl) (by rw [eq_slices_IndexFunc___api_Type_api_Type_]; exact h)
theorem cl_slices_IndexFunc___lower_local_lower_local_ {Φ : Calls'} (hT : Cl Φ tab_libslices) {a0 a1 : AV} {H : AH} {Q : Post} (h : slices_IndexFunc___lower_local_lower_local_ Φ a0 a1 H Q) : Φ K.slices_IndexFunc___lower_local_lower_local_ [a0, a1] H Q := hT.call (by kernel_rfl) (by kernel_rfl) (by rw [eq_slices_IndexFunc___lower_local_lower_local_]; exact h)
end Rb.S

/- Package libslices: its functions as runs. By gen.py. -/
set_option linter.unusedVariables false
namespace Rb.R
open Go

def slices_IndexFunc___api_Var_api_Var__l1 (Φ : CallsB) (n : Nat) (a0 : AV) (a1 : AV) (x1 : AV) (Q : PostB) : (List AV × TH) → ((List AV × TH) → Bool) → Bool := fun s2 L3 =>
 DoB (abin .lss (sl s2.1 0) x1) fun x4 =>
 GdB x4 true (
 DoB (aiaddr none 7 a0 (sl s2.1 0)) fun x5 =>
 DoB (aload s2.2.ah 7 true x5) fun x6 =>
 clB Φ a1 [x6] s2.2 fun x8 H9 =>
 GdB x8 true (
 Q (sl s2.1 0) H9) (
 DoB (abin .add (sl s2.1 0) (.int .i64 1)) fun x12 =>
 L3 ([x12], H9))) (
 Q (.int .i64 (-1)) s2.2)
def slices_IndexFunc___api_Var_api_Var_ (Φ : CallsB) (n : Nat) (a0 : AV) (a1 : AV) (H : TH) (Q : PostB) : Bool :=
 DoB (alen false a0) fun x1 =>
 LoopB (slices_IndexFunc___api_Var_api_Var__l1 Φ n a0 a1 x1 Q) n ([(.int .i64 0)], H)
theorem eq_slices_IndexFunc___api_Var_api_Var_ (Φ : CallsB) (n : Nat) (a0 a1 : AV) (H : TH) (Q : PostB) : fnB1 Φ n S.ir_slices_IndexFunc___api_Var_api_Var_ [a0, a1] H Q = slices_IndexFunc___api_Var_api_Var_ Φ n a0 a1 H Q := by kernel_rfl

def slices_IndexFunc___api_Field_api_Field__l1 (Φ : CallsB) (n : Nat) (a0 : AV) (a1 : AV) (x1 : AV) (Q : PostB) : (List AV × TH) → ((List AV × TH) → Bool) → Bool := fun s2 L3 =>
 DoB (abin .lss (sl s2.1 0) x1) fun x4 =>
 GdB x4 true (
 DoB (aiaddr none 9 a0 (sl s2.1 0)) fun x5 =>
 DoB (aload s2.2.ah 9 true x5) fun x6 =>
 clB Φ a1 [x6] s2.2 fun x8 H9 =>
 GdB x8 true (
 Q (sl s2.1 0) H9) (
 DoB (abin .add (sl s2.1 0) (.int .i64 1)) fun x12 =>
 L3 ([x12], H9))) (
 Q (.int .i64 (-1)) s2.2)
def slices_IndexFunc___api_Field_api_Field_ (Φ : CallsB) (n : Nat) (a0 : AV) (a1 : AV) (H : TH) (Q : PostB) : Bool :=
 DoB (alen false a0) fun x1 =>
 LoopB (slices_IndexFunc___api_Field_api_Field__l1 Φ n a0 a1 x1 Q) n ([(.int .i64 0)], H)
theorem eq_slices_IndexFunc___api_Field_api_Field_ (Φ : CallsB) (n : Nat) (a0 a1 : AV) (H : TH) (Q : PostB) : fnB1 Φ n S.ir_slices_IndexFunc___api_Field_api_Field_ [a0, a1] H Q = slices_IndexFunc___api_Field_api_Field_ Φ n a0 a1 H Q := by kernel_rfl

def slices_ContainsFunc___api_Var_api_Var_ (Φ : CallsB) (n : Nat) (a0 : AV) (a1 : AV) (H : TH) (Q : PostB) : Bool :=
Φ K.slices_IndexFunc___api_Var_api_Var_ [a0, a1] H fun x1 H2 =>
 DoB (abin .geq x1 (.int .i64 0)) fun x3 =>
 Q x3 H2
theorem eq_slices_ContainsFunc___api_Var_api_Var_ (Φ : CallsB) (n : Nat) (a0 a1 : AV) (H : TH) (Q : PostB) : fnB1 Φ n S.ir_slices_ContainsFunc___api_Var_api_Var_ [a0, a1] H Q = slices_ContainsFunc___api_Var_api_Var_ Φ n a0 a1 H Q := by kernel_rfl

def slices_Contains___string_string_ (Φ : CallsB) (n : Nat) (a0 : AV) (a1 : AV) (H : TH) (Q : PostB) : Bool :=
Φ K.slices_Index___string_string_ [a0, a1] H fun x1 H2 =>
 DoB (abin .geq x1 (.int .i64 0)) fun x3 =>
 Q x3 H2
theorem eq_slices_Contains___string_string_ (Φ : CallsB) (n : Nat) (a0 a1 : AV) (H : TH) (Q : PostB) : fnB1 Φ n S.ir_slices_Contains___string_string_ [a0, a1] H Q = slices_Contains___string_string_ Φ n a0 a1 H Q := by kernel_rfl

def slices_Index___string_string__l1 (Φ : CallsB) (n : Nat) (a0 : AV) (a1 : AV) (x1 : AV) (Q : PostB) : (List AV × TH) → ((List AV × TH) → Bool) → Bool := fun s2 L3 =>
 DoB (abin .lss (sl s2.1 0) x1) fun x4 =>
 GdB x4 true (
 DoB (aiaddr none 1 a0 (sl s2.1 0)) fun x5 =>
 DoB (aload s2.2.ah 1 false x5) fun x6 =>
 DoB (abin .eql a1 x6) fun x8 =>
 GdB x8 true (
 Q (sl s2.1 0) s2.2) (
 DoB (abin .add (sl s2.1 0) (.int .i64 1)) fun x9 =>
 L3 ([x9], s2.2))) (
 Q (.int .i64 (-1)) s2.2)
def slices_Index___string_string_ (Φ : CallsB) (n : Nat) (a0 : AV) (a1 : AV) (H : TH) (Q : PostB) : Bool :=
 DoB (alen false a0) fun x1 =>
 LoopB (slices_Index___string_string__l1 Φ n a0 a1 x1 Q) n ([(.int .i64 0)], H)
theorem eq_slices_Index___string_string_ (Φ : CallsB) (n : Nat) (a0 a1 : AV) (H : TH) (Q : PostB) : fnB1 Φ n S.ir_slices_Index___string_string_ [a0, a1] H Q = slices_Index___string_string_ Φ n a0 a1 H Q := by kernel_rfl

def slices_ContainsFunc___api_Field_api_Field_ (Φ : CallsB) (n : Nat) (a0 : AV) (a1 : AV) (H : TH) (Q : PostB) : Bool :=
Φ K.slices_IndexFunc___api_Field_api_Field_ [a0, a1] H fun x1 H2 =>
 DoB (abin .geq x1 (.int .i64 0)) fun x3 =>
 Q x3 H2
theorem eq_slices_ContainsFunc___api_Field_api_Field_ (Φ : CallsB) (n : Nat) (a0 a1 : AV) (H : TH) (Q : PostB) : fnB1 Φ n S.ir_slices_ContainsFunc___api_Field_api_Field_ [a0, a1] H Q = slices_ContainsFunc___api_Field_api_Field_ Φ n a0 a1 H Q := by kernel_rfl

def slices_ContainsFunc___api_Type_api_Type_ (Φ : CallsB) (n : Nat) (a0 : AV) (a1 : AV) (H : TH) (Q : PostB) : Bool :=
Φ K.slices_IndexFunc___api_Type_api_Type_ [a0, a1] H fun x1 H2 =>
 DoB (abin .geq x1 (.int .i64 0)) fun x3 =>
 Q x3 H2
theorem eq_slices_ContainsFunc___api_Type_api_Type_ (Φ : CallsB) (n : Nat) (a0 a1 : AV) (H : TH) (Q : PostB) : fnB1 Φ n S.ir_slices_ContainsFunc___api_Type_api_Type_ [a0, a1] H Q = slices_ContainsFunc___api_Type_api_Type_ Φ n a0 a1 H Q := by kernel_rfl

def slices_IndexFunc___api_Type_api_Type__l1 (Φ : CallsB) (n : Nat) (a0 : AV) (a1 : AV) (x1 : AV) (Q : PostB) : (List AV × TH) → ((List AV × TH) → Bool) → Bool := fun s2 L3 =>
 DoB (abin .lss (sl s2.1 0) x1) fun x4 =>
 GdB x4 true (
 DoB (aiaddr none 6 a0 (sl s2.1 0)) fun x5 =>
 DoB (aload s2.2.ah 6 true x5) fun x6 =>
 clB Φ a1 [x6] s2.2 fun x8 H9 =>
 GdB x8 true (
 Q (sl s2.1 0) H9) (
 DoB (abin .add (sl s2.1 0) (.int .i64 1)) fun x12 =>
 L3 ([x12], H9))) (
 Q (.int .i64 (-1)) s2.2)
def slices_IndexFunc___api_Type_api_Type_ (Φ : CallsB) (n : Nat) (a0 : AV) (a1 : AV) (H : TH) (Q : PostB) : Bool :=
 DoB (alen false a0) fun x1 =>
 LoopB (slices_IndexFunc___api_Type_api_Type__l1 Φ n a0 a1 x1 Q) n ([(.int .i64 0)], H)
theorem eq_slices_IndexFunc___api_Type_api_Type_ (Φ : CallsB) (n : Nat) (a0 a1 : AV) (H : TH) (Q : PostB) : fnB1 Φ n S.ir_slices_IndexFunc___api_Type_api_Type_ [a0, a1] H Q = slices_IndexFunc___api_Type_api_Type_ Φ n a0 a1 H Q := by kernel_rfl

def slices_IndexFunc___lower_local_lower_local__l1 (Φ : CallsB) (n : Nat) (a0 : AV) (a1 : AV) (x1 : AV) (Q : PostB) : (List AV × TH) → ((List AV × TH) → Bool) → Bool := fun s2 L3 =>
 DoB (abin .lss (sl s2.1 0) x1) fun x4 =>
 GdB x4 true (
 DoB (aiaddr none 2 a0 (sl s2.1 0)) fun x5 =>
 DoB (aload s2.2.ah 2 true x5) fun x6 =>
 clB Φ a1 [x6] s2.2 fun x8 H9 =>
 GdB x8 true (
 Q (sl s2.1 0) H9) (
 DoB (abin .add (sl s2.1 0) (.int .i64 1)) fun x12 =>
 L3 ([x12], H9))) (
 Q (.int .i64 (-1)) s2.2)
def slices_IndexFunc___lower_local_lower_local_ (Φ : CallsB) (n : Nat) (a0 : AV) (a1 : AV) (H : TH) (Q : PostB) : Bool :=
 DoB (alen false a0) fun x1 =>
 LoopB (slices_IndexFunc___lower_local_lower_local__l1 Φ n a0 a1 x1 Q) n ([(.int .i64 0)], H)
theorem eq_slices_IndexFunc___lower_local_lower_local_ (Φ : CallsB) (n : Nat) (a0 a1 : AV) (H : TH) (Q : PostB) : fnB1 Φ n S.ir_slices_IndexFunc___lower_local_lower_local_ [a0, a1] H Q = slices_IndexFunc___lower_local_lower_local_ Φ n a0 a1 H Q := by kernel_rfl

end Rb.R

/- Package libstrconv: its functions in the small language, and what they mean. By gen.py. -/
set_option linter.unusedVariables false
namespace Rb.S
open Go

/-! strconv.ParseUint -/
def strconv_ParseUint (Φ : Calls') (a0 : AV) (a1 : AV) (a2 : AV) (H : AH) (Q : Post) : Prop :=
Φ K.internal_strconv_ParseUint [a0, a1, a2] H fun x1 H2 =>
 Do (aextract 0 x1) fun x3 =>
 Do (aextract 1 x1) fun x4 =>
 Do (anil .i true x4) fun x5 =>
 Gd x5 true (
Φ K.strconv_toError [(.str [80, 97, 114, 115, 101, 85, 105, 110, 116]), a0, a1, a2, x4] H2 fun x6 H7 =>
 Q (.tup [x3, x6]) H7) (
 Q (.tup [x3, (.nilif)]) H2)
def ir_strconv_ParseUint : AFunc := ⟨26, [.tmp 6, .tmp 7],
 .seq (.region [
   ⟨some 6, .mv (.k (.int .u64 0)), none⟩,
   ⟨some 7, .mv (.k (.nilif)), none⟩])
 (.seq (.region [
   ⟨some 11, .mv (.t 0), none⟩,
   ⟨some 12, .mv (.t 1), none⟩,
   ⟨some 13, .mv (.t 2), none⟩,
   ⟨some 14, .call K.internal_strconv_ParseUint [(.t 11), (.t 12), (.t 13)], none⟩,
   ⟨some 10, .mv (.t 14), none⟩,
   ⟨some 15, .extract 0 (.t 10), none⟩,
   ⟨some 16, .extract 1 (.t 10), none⟩,
   ⟨some 8, .mv (.t 15), none⟩,
   ⟨some 9, .mv (.t 16), none⟩])
 (.seq (.seq (.region [
   ⟨some 17, .mv (.t 9), none⟩,
   ⟨some 18, .isnil .i true (.t 17), none⟩])
 (.cond (.t 18) (.seq (.region [
     ⟨some 19, .mv (.t 8), none⟩,
     ⟨some 20, .mv (.t 0), none⟩,
     ⟨some 21, .mv (.t 1), none⟩,
     ⟨some 22, .mv (.t 2), none⟩,
     ⟨some 23, .mv (.t 9), none⟩,
     ⟨some 24, .call K.strconv_toError [(.k (.str [80, 97, 114, 115, 101, 85, 105, 110, 116])), (.t 20), (.t 21), (.t 22), (.t 23)], none⟩,
     ⟨some 6, .mv (.t 19), none⟩,
     ⟨some 7, .mv (.t 24), none⟩])
   (.ret))
   (.skip)))
 (.seq (.region [
   ⟨some 25, .mv (.t 8), none⟩,
   ⟨some 6, .mv (.t 25), none⟩,
   ⟨some 7, .mv (.k (.nilif)), none⟩])
 (.ret))))⟩
theorem eq_strconv_ParseUint (Φ : Calls') (a0 a1 a2 : AV) (H : AH) (Q : Post) : fnE1 Φ ir_strconv_ParseUint [a0, a1, a2] H Q = strconv_ParseUint Φ a0 a1 a2 H Q := by kernel_rfl

/-! strconv.baseError -/
def strconv_baseError (Φ : Calls') (a0 : AV) (a1 : AV) (a2 : AV) (H : AH) (Q : Post) : Prop :=
Φ K.internal_stringslite_Clone [a1] H fun x1 H2 =>
Φ K.strconv_Itoa [a2] H2 fun x3 H4 =>
 Do (abin .add (.str [105, 110, 118, 97, 108, 105, 100, 32, 98, 97, 115, 101, 32]) x3) fun x5 =>
Φ K.errors_New [x5] H4 fun x6 H7 =>
 Do (abuild [.str [], .str [], .nilif] [(0, 1, a0), (1, 1, x1), (2, 1, x6)]) fun x8 =>
 DoH (aboxv H7 true 3 x8) fun x9 H10 =>
 Q x9 H10
def ir_strconv_baseError : AFunc := ⟨16, [.tmp 6],
 .seq (.region [
   ⟨some 6, .mv (.k (.nilp)), none⟩])
 (.seq (.region [
   ⟨some 7, .mv (.t 0), none⟩,
   ⟨some 8, .mv (.t 1), none⟩,
   ⟨some 9, .call K.internal_stringslite_Clone [(.t 8)], none⟩,
   ⟨some 10, .mv (.t 2), none⟩,
   ⟨some 11, .call K.strconv_Itoa [(.t 10)], none⟩,
   ⟨some 12, .bin .add (.k (.str [105, 110, 118, 97, 108, 105, 100, 32, 98, 97, 115, 101, 32])) (.t 11), none⟩,
   ⟨some 13, .call K.errors_New [(.t 12)], none⟩,
   ⟨some 14, .build [.str [], .str [], .nilif] [(0, 1, (.t 7)), (1, 1, (.t 9)), (2, 1, (.t 13))], none⟩,
   ⟨some 15, .box true 3 (.t 14), none⟩,
   ⟨some 6, .mv (.t 15), none⟩])
 (.ret))⟩
theorem eq_strconv_baseError (Φ : Calls') (a0 a1 a2 : AV) (H : AH) (Q : Post) : fnE1 Φ ir_strconv_baseError [a0, a1, a2] H Q = strconv_baseError Φ a0 a1 a2 H Q := by kernel_rfl

/-! strconv.bitSizeError -/
def strconv_bitSizeError (Φ : Calls') (a0 : AV) (a1 : AV) (a2 : AV) (H : AH) (Q : Post) : Prop :=
Φ K.internal_stringslite_Clone [a1] H fun x1 H2 =>
Φ K.strconv_Itoa [a2] H2 fun x3 H4 =>
 Do (abin .add (.str [105, 110, 118, 97, 108, 105, 100, 32, 98, 105, 116, 32, 115, 105, 122, 101, 32]) x3) fun x5 =>
Φ K.errors_New [x5] H4 fun x6 H7 =>
 Do (abuild [.str [], .str [], .nilif] [(0, 1, a0), (1, 1, x1), (2, 1, x6)]) fun x8 =>
 DoH (aboxv H7 true 3 x8) fun x9 H10 =>
 Q x9 H10
def ir_strconv_bitSizeError : AFunc := ⟨16, [.tmp 6],
 .seq (.region [
   ⟨some 6, .mv (.k (.nilp)), none⟩])
 (.seq (.region [
   ⟨some 7, .mv (.t 0), none⟩,
   ⟨some 8, .mv (.t 1), none⟩,
   ⟨some 9, .call K.internal_stringslite_Clone [(.t 8)], none⟩,
   ⟨some 10, .mv (.t 2), none⟩,
   ⟨some 11, .call K.strconv_Itoa [(.t 10)], none⟩,
   ⟨some 12, .bin .add (.k (.str [105, 110, 118, 97, 108, 105, 100, 32, 98, 105, 116, 32, 115, 105, 122, 101, 32])) (.t 11), none⟩,
   ⟨some 13, .call K.errors_New [(.t 12)], none⟩,
   ⟨some 14, .build [.str [], .str [], .nilif] [(0, 1, (.t 7)), (1, 1, (.t 9)), (2, 1, (.t 13))], none⟩,
   ⟨some 15, .box true 3 (.t 14), none⟩,
   ⟨some 6, .mv (.t 15), none⟩])
 (.ret))⟩
theorem eq_strconv_bitSizeError (Φ : Calls') (a0 a1 a2 : AV) (H : AH) (Q : Post) : fnE1 Φ ir_strconv_bitSizeError [a0, a1, a2] H Q = strconv_bitSizeError Φ a0 a1 a2 H Q := by kernel_rfl

/-! strconv.Itoa -/
def strconv_Itoa (Φ : Calls') (a0 : AV) (H : AH) (Q : Post) : Prop :=
Φ K.internal_strconv_Itoa [a0] H fun x1 H2 =>
 Q x1 H2
def ir_strconv_Itoa : AFunc := ⟨5, [.tmp 2],
 .seq (.region [
   ⟨some 2, .mv (.k (.str [])), none⟩])
 (.seq (.region [
   ⟨some 3, .mv (.t 0), none⟩,
   ⟨some 4, .call K.internal_strconv_Itoa [(.t 3)], none⟩,
   ⟨some 2, .mv (.t 4), none⟩])
 (.ret))⟩
theorem eq_strconv_Itoa (Φ : Calls') (a0 : AV) (H : AH) (Q : Post) : fnE1 Φ ir_strconv_Itoa [a0] H Q = strconv_Itoa Φ a0 H Q := by kernel_rfl

def tab_libstrconv : Tab := [
  (K.strconv_ParseUint, ir_strconv_ParseUint),
  (K.strconv_baseError, ir_strconv_baseError),
  (K.strconv_bitSizeError, ir_strconv_bitSizeError),
  (K.strconv_Itoa, ir_strconv_Itoa)]

theorem cl_strconv_ParseUint {Φ : Calls'} (hT : Cl Φ tab_libstrconv) {a0 a1 a2 : AV} {H : AH} {Q : Post} (h : strconv_ParseUint Φ a0 a1 a2 H Q) : Φ K.strconv_ParseUint [a0, a1, a2] H Q := hT.call (by kernel_rfl) (by kernel_rfl) (by rw [eq_strconv_ParseUint]; exact h)
theorem cl_strconv_baseError {Φ : Calls'} (hT : Cl Φ tab_libstrconv) {a0 a1 a2 : AV} {H : AH} {Q : Post} (h : strconv_baseError Φ a0 a1 a2 H Q) : Φ K.strconv_baseError [a0, a1, a2] H Q := hT.call (by kernel_rfl) (by kernel_rfl) (by rw [eq_strconv_baseError]; exact h)
theorem cl_strconv_bitSizeError {Φ : Calls'} (hT : Cl Φ tab_libstrconv) {a0 a1 a2 : AV} {H : AH} {Q : Post} (h : strconv_bitSizeError Φ a0 a1 a2 H Q) : Φ K.strconv_bitSizeError [a0, a1, a2] H Q := hT.call (by kernel_rfl) (by kernel_rfl) (by rw [eq_strconv_bitSizeError]; exact h)
theorem cl_strconv_Itoa {Φ : Calls'} (hT : Cl Φ tab_libstrconv) {a0 : AV} {H : AH} {Q : Post} (h : strconv_Itoa Φ a0 H Q) : Φ K.strconv_Itoa [a0] H Q := hT.call (by kernel_rfl) (by kernel_rfl) (by rw [eq_strconv_Itoa]; exact h)
end Rb.S

/- Package libstrconv: its functions as runs. By gen.py. -/
set_option linter.unusedVariables false
namespace Rb.R
open Go

def strconv_ParseUint (Φ : CallsB) (n : Nat) (a0 : AV) (a1 : AV) (a2 : AV) (H : TH) (Q : PostB) : Bool :=
Φ K.internal_strconv_ParseUint [a0, a1, a2] H fun x1 H2 =>
 DoB (aextract 0 x1) fun x3 =>
 DoB (aextract 1 x1) fun x4 =>
 DoB (anil .i true x4) fun x5 =>
 GdB x5 true (
Φ K.strconv_toError [(.str [80, 97, 114, 115, 101, 85, 105, 110, 116]), a0, a1, a2, x4] H2 fun x6 H7 =>
 Q (.tup [x3, x6]) H7) (
 Q (.tup [x3, (.nilif)]) H2)
theorem eq_strconv_ParseUint (Φ : CallsB) (n : Nat) (a0 a1 a2 : AV) (H : TH) (Q : PostB) : fnB1 Φ n S.ir_strconv_ParseUint [a0, a1, a2] H Q = strconv_ParseUint Φ n a0 a1 a2 H Q := by kernel_rfl

def strconv_baseError (Φ : CallsB) (n : Nat) (a0 : AV) (a1 : AV) (a2 : AV) (H : TH) (Q : PostB) : Bool :=
Φ K.internal_stringslite_Clone [a1] H fun x1 H2 =>
Φ K.strconv_Itoa [a2] H2 fun x3 H4 =>
 DoB (abin .add (.str [105, 110, 118, 97, 108, 105, 100, 32, 98, 97, 115, 101, 32]) x3) fun x5 =>
Φ K.errors_New [x5] H4 fun x6 H7 =>
 DoB (abuild [.str [], .str [], .nilif] [(0, 1, a0), (1, 1, x1), (2, 1, x6)]) fun x8 =>
 DoHB (tboxv H7 true 3 x8) fun x9 H10 =>
 Q x9 H10
theorem eq_strconv_baseError (Φ : CallsB) (n : Nat) (a0 a1 a2 : AV) (H : TH) (Q : PostB) : fnB1 Φ n S.ir_strconv_baseError [a0, a1, a2] H Q = strconv_baseError Φ n a0 a1 a2 H Q := by kernel_rfl

def strconv_bitSizeError (Φ : CallsB) (n : Nat) (a0 : AV) (a1 : AV) (a2 : AV) (H : TH) (Q : PostB) : Bool :=
Φ K.internal_stringslite_Clone [a1] H fun x1 H2 =>
Φ K.strconv_Itoa [a2] H2 fun x3 H4 =>
 DoB (abin .add (.str [105, 110, 118, 97, 108, 105, 100, 32, 98, 105, 116, 32, 115, 105, 122, 101, 32]) x3) fun x5 =>
Φ K.errors_New [x5] H4 fun x6 H7 =>
 DoB (abuild [.str [], .str [], .nilif] [(0, 1, a0), (1, 1, x1), (2, 1, x6)]) fun x8 =>
 DoHB (tboxv H7 true 3 x8) fun x9 H10 =>
 Q x9 H10
theorem eq_strconv_bitSizeError (Φ : CallsB) (n : Nat) (a0 a1 a2 : AV) (H : TH) (Q : PostB) : fnB1 Φ n S.ir_strconv_bitSizeError [a0, a1, a2] H Q = strconv_bitSizeError Φ n a0 a1 a2 H Q := by kernel_rfl

def strconv_Itoa (Φ : CallsB) (n : Nat) (a0 : AV) (H : TH) (Q : PostB) : Bool :=
Φ K.internal_strconv_Itoa [a0] H fun x1 H2 =>
 Q x1 H2
theorem eq_strconv_Itoa (Φ : CallsB) (n : Nat) (a0 : AV) (H : TH) (Q : PostB) : fnB1 Φ n S.ir_strconv_Itoa [a0] H Q = strconv_Itoa Φ n a0 H Q := by kernel_rfl

end Rb.R

/- Package libstrings: its functions in the small language, and what they mean. By gen.py. -/
set_option linter.unusedVariables false
namespace Rb.S
open Go

/-! strings.Fields -/
def strings_Fields_k1 (Φ : Calls') (s23 : List AV × AH) (L24 : (List AV × AH) → Prop) (Q : Post) : List AV → AH → Prop := fun j25 H26 =>
 Do (abin .add (sl s23.1 0) (.int .i64 1)) fun x35 =>
 L24 ([x35], H26)
def strings_Fields_k2 (Φ : Calls') (s52 : List AV × AH) (L53 : (List AV × AH) → Prop) (Q : Post) : List AV → AH → Prop := fun j54 H55 =>
 Do (abin .add (sl s52.1 0) (.int .i64 1)) fun x64 =>
 L53 ([x64], H55)
def strings_Fields_k3 (Φ : Calls') (x50 : AV) (L39 : (List AV × AH) → Prop) (s52 : List AV × AH) (L53 : (List AV × AH) → Prop) (Q : Post) : List AV → AH → Prop := fun j56 H57 =>
 Gd (sl j56 0) true (
 JoinP (strings_Fields_k2 Φ s52 L53 Q) [] H57) (
 L39 ([x50, (sl s52.1 0), (sl s52.1 0)], H57))
def strings_Fields_l4 (Φ : Calls') (a0 : AV) (x50 : AV) (L39 : (List AV × AH) → Prop) (Q : Post) : (List AV × AH) → ((List AV × AH) → Prop) → Prop := fun s52 L53 =>
 Do (alen true a0) fun x58 =>
 Do (abin .lss (sl s52.1 0) x58) fun x59 =>
 Gd3 x59 true (
 Do (aidxs a0 (sl s52.1 0)) fun x60 =>
 Do (aiaddr (some 256) 1 (.fptr asciiSpace) x60) fun x61 =>
 Do (aload s52.2 1 false x61) fun x62 =>
 Do (abin .neq x62 (.int .u8 0)) fun x63 =>
 JoinP (strings_Fields_k3 Φ x50 L39 s52 L53 Q) [x63] s52.2) (
 JoinP (strings_Fields_k3 Φ x50 L39 s52 L53 Q) [(.bool false)] s52.2) (
 False)
def strings_Fields_k5 (Φ : Calls') (x19 : AV) (Q : Post) : List AV → AH → Prop := fun j65 H66 =>
 DoH (afreeze H66 x19) fun x72 H73 =>
 Q x72 H73
def strings_Fields_k6 (Φ : Calls') (a0 : AV) (x19 : AV) (Q : Post) : List AV → AH → Prop := fun j36 H37 =>
 Do (alen true a0) fun x67 =>
 Do (abin .lss (sl j36 1) x67) fun x68 =>
 Gd x68 true (
 Do (asslice a0 (some (sl j36 1)) none) fun x69 =>
 Do (aiaddr none 1 x19 (sl j36 0)) fun x70 =>
 Do (astore H37 1 x70 x69) fun H71 =>
 JoinP (strings_Fields_k5 Φ x19 Q) [] H71) (
 JoinP (strings_Fields_k5 Φ x19 Q) [] H37)
def strings_Fields_l7 (Φ : Calls') (a0 : AV) (x19 : AV) (Q : Post) : (List AV × AH) → ((List AV × AH) → Prop) → Prop := fun s38 L39 =>
 Do (alen true a0) fun x40 =>
 Do (abin .lss (sl s38.1 2) x40) fun x41 =>
 Gd x41 true (
 Do (aidxs a0 (sl s38.1 2)) fun x42 =>
 Do (aiaddr (some 256) 1 (.fptr asciiSpace) x42) fun x43 =>
 Do (aload s38.2 1 false x43) fun x44 =>
 Do (abin .eql x44 (.int .u8 0)) fun x45 =>
 Gd x45 true (
 Do (abin .add (sl s38.1 2) (.int .i64 1)) fun x46 =>
 L39 ([(sl s38.1 0), (sl s38.1 1), x46], s38.2)) (
 Do (asslice a0 (some (sl s38.1 1)) (some (sl s38.1 2))) fun x47 =>
 Do (aiaddr none 1 x19 (sl s38.1 0)) fun x48 =>
 Do (astore s38.2 1 x48 x47) fun H49 =>
 Do (abin .add (sl s38.1 0) (.int .i64 1)) fun x50 =>
 Do (abin .add (sl s38.1 2) (.int .i64 1)) fun x51 =>
 LoopP (strings_Fields_l4 Φ a0 x50 L39 Q) ([x51], H49))) (
 JoinP (strings_Fields_k6 Φ a0 x19 Q) [(sl s38.1 0), (sl s38.1 1)] s38.2)
def strings_Fields_k8 (Φ : Calls') (a0 : AV) (x19 : AV) (Q : Post) : List AV → AH → Prop := fun j21 H22 =>
 LoopP (strings_Fields_l7 Φ a0 x19 Q) ([(.int .i64 0), (sl j21 0), (sl j21 0)], H22)
def strings_Fields_k9 (Φ : Calls') (a0 : AV) (x19 : AV) (s23 : List AV × AH) (L24 : (List AV × AH) → Prop) (Q : Post) : List AV → AH → Prop := fun j27 H28 =>
 Gd (sl j27 0) true (
 JoinP (strings_Fields_k1 Φ s23 L24 Q) [] H28) (
 JoinP (strings_Fields_k8 Φ a0 x19 Q) [(sl s23.1 0)] H28)
def strings_Fields_l10 (Φ : Calls') (a0 : AV) (x19 : AV) (Q : Post) : (List AV × AH) → ((List AV × AH) → Prop) → Prop := fun s23 L24 =>
 Do (alen true a0) fun x29 =>
 Do (abin .lss (sl s23.1 0) x29) fun x30 =>
 Gd3 x30 true (
 Do (aidxs a0 (sl s23.1 0)) fun x31 =>
 Do (aiaddr (some 256) 1 (.fptr asciiSpace) x31) fun x32 =>
 Do (aload s23.2 1 false x32) fun x33 =>
 Do (abin .neq x33 (.int .u8 0)) fun x34 =>
 JoinP (strings_Fields_k9 Φ a0 x19 s23 L24 Q) [x34] s23.2) (
 JoinP (strings_Fields_k9 Φ a0 x19 s23 L24 Q) [(.bool false)] s23.2) (
 False)
def strings_Fields_k11 (Φ : Calls') (a0 : AV) (Q : Post) : List AV → AH → Prop := fun j1 H2 =>
 Do (abin .geq (sl j1 1) (.int .u8 128)) fun x16 =>
 Gd x16 true (
Φ K.strings_FieldsFunc [a0, (.fn K.unicode_IsSpace [])] H2 fun x17 H18 =>
 Q x17 H18) (
 DoH (amake H2 true 1 16 [.str []] (sl j1 0) (sl j1 0)) fun x19 H20 =>
 LoopP (strings_Fields_l10 Φ a0 x19 Q) ([(.int .i64 0)], H20))
def strings_Fields_l12 (Φ : Calls') (a0 : AV) (Q : Post) : (List AV × AH) → ((List AV × AH) → Prop) → Prop := fun s3 L4 =>
 Do (alen true a0) fun x5 =>
 Do (abin .lss (sl s3.1 3) x5) fun x6 =>
 Gd x6 true (
 Do (aidxs a0 (sl s3.1 3)) fun x7 =>
 Do (abin .or (sl s3.1 2) x7) fun x8 =>
 Do (aiaddr (some 256) 1 (.fptr asciiSpace) x7) fun x9 =>
 Do (aload s3.2 1 false x9) fun x10 =>
 Do (aconv .i64 x10) fun x11 =>
 Do (aun .xor x11) fun x12 =>
 Do (abin .and (sl s3.1 1) x12) fun x13 =>
 Do (abin .add (sl s3.1 0) x13) fun x14 =>
 Do (abin .add (sl s3.1 3) (.int .i64 1)) fun x15 =>
 L4 ([x14, x11, x8, x15], s3.2)) (
 JoinP (strings_Fields_k11 Φ a0 Q) [(sl s3.1 0), (sl s3.1 2)] s3.2)
def strings_Fields (Φ : Calls') (a0 : AV) (H : AH) (Q : Post) : Prop :=
 LoopP (strings_Fields_l12 Φ a0 Q) ([(.int .i64 0), (.int .i64 1), (.int .u8 0), (.int .i64 0)], H)
def ir_strings_Fields : AFunc := ⟨106, [.tmp 2],
 .seq (.region [
   ⟨some 2, .mv (.k (.lst .nil 0 [])), none⟩])
 (.seq (.region [
   ⟨some 3, .mv (.k (.int .i64 0)), none⟩])
 (.seq (.region [
   ⟨some 4, .mv (.k (.int .i64 1)), none⟩])
 (.seq (.region [
   ⟨some 5, .mv (.k (.int .u8 0)), none⟩])
 (.join [3, 5] [4, 6, 7, 8, 13, 14, 15, 16, 17, 18, 19, 20, 21, 22, 23, 24, 25, 26, 27, 28, 29, 30, 31, 32, 33, 34, 35] (.seq (.region [
   ⟨some 6, .mv (.k (.int .i64 0)), none⟩])
 (.block 0 (.loop [3, 4, 5, 6] [7, 8, 13, 14, 15, 16, 17, 18, 19, 20, 21, 22, 23, 24, 25, 26, 27, 28, 29, 30, 31, 32, 33, 34, 35] (.seq (.seq (.region [
   ⟨some 13, .mv (.t 6), none⟩,
   ⟨some 14, .mv (.t 0), none⟩,
   ⟨some 15, .len true (.t 14), none⟩,
   ⟨some 16, .bin .lss (.t 13) (.t 15), none⟩])
 (.cond (.t 16) (.skip)
   (.exit 0)))
 (.seq (.block 1 (.seq (.region [
   ⟨some 19, .mv (.t 0), none⟩,
   ⟨some 20, .mv (.t 6), none⟩,
   ⟨some 21, .idxs (.t 19) (.t 20), none⟩,
   ⟨some 7, .mv (.t 21), none⟩])
 (.seq (.region [
   ⟨some 22, .mv (.t 5), none⟩,
   ⟨some 23, .mv (.t 7), none⟩,
   ⟨some 24, .bin .or (.t 22) (.t 23), none⟩,
   ⟨some 5, .mv (.t 24), none⟩])
 (.seq (.region [
   ⟨some 25, .mv (.t 7), none⟩,
   ⟨some 26, .iaddr (some 256) 1 (.k (.fptr asciiSpace)) (.t 25), none⟩,
   ⟨some 27, .load 1 false (.t 26), none⟩,
   ⟨some 28, .conv .i64 (.t 27), none⟩,
   ⟨some 8, .mv (.t 28), none⟩])
 (.seq (.region [
   ⟨some 29, .mv (.t 3), none⟩,
   ⟨some 30, .mv (.t 4), none⟩,
   ⟨some 31, .mv (.t 8), none⟩,
   ⟨some 32, .un .xor (.t 31), none⟩,
   ⟨some 33, .bin .and (.t 30) (.t 32), none⟩,
   ⟨some 34, .bin .add (.t 29) (.t 33), none⟩,
   ⟨some 3, .mv (.t 34), none⟩])
 (.region [
   ⟨some 35, .mv (.t 8), none⟩,
   ⟨some 4, .mv (.t 35), none⟩]))))))
 (.region [
   ⟨some 17, .mv (.t 6), none⟩,
   ⟨some 18, .bin .add (.t 17) (.k (.int .i64 1)), none⟩,
   ⟨some 6, .mv (.t 18), none⟩]))))))
 (.seq (.seq (.region [
   ⟨some 36, .mv (.t 5), none⟩,
   ⟨some 37, .bin .geq (.t 36) (.k (.int .u8 128)), none⟩])
 (.cond (.t 37) (.seq (.region [
     ⟨some 38, .mv (.t 0), none⟩,
     ⟨some 39, .call K.strings_FieldsFunc [(.t 38), (.k (.fn K.unicode_IsSpace []))], none⟩,
     ⟨some 2, .mv (.t 39), none⟩])
   (.ret))
   (.skip)))
 (.seq (.region [
   ⟨some 40, .mv (.t 3), none⟩,
   ⟨some 41, .make true 1 16 [.str []] (.t 40) (.t 40), none⟩,
   ⟨some 9, .mv (.t 41), none⟩])
 (.seq (.region [
   ⟨some 10, .mv (.k (.int .i64 0)), none⟩])
 (.seq (.region [
   ⟨some 11, .mv (.k (.int .i64 0)), none⟩])
 (.seq (.region [
   ⟨some 12, .mv (.k (.int .i64 0)), none⟩])
 (.join [12] [42, 43, 44, 45, 46, 47, 48, 49, 50, 51, 52, 53, 54, 55] (.block 2 (.loop [12] [42, 43, 44, 45, 46, 47, 48, 49, 50, 51, 52, 53, 54, 55] (.join [] [42, 43, 44, 45, 46, 47, 48, 49, 50, 51, 52, 53] (.join [53] [42, 43, 44, 45, 46, 47, 48, 49, 50, 51, 52] (.region [
   ⟨some 42, .mv (.t 12), none⟩,
   ⟨some 43, .mv (.t 0), none⟩,
   ⟨some 44, .len true (.t 43), none⟩,
   ⟨some 45, .bin .lss (.t 42) (.t 44), none⟩,
   ⟨some 46, .mv (.t 45), none⟩,
   ⟨some 47, .mv (.t 0), some (46, true)⟩,
   ⟨some 48, .mv (.t 12), some (46, true)⟩,
   ⟨some 49, .idxs (.t 47) (.t 48), some (46, true)⟩,
   ⟨some 50, .iaddr (some 256) 1 (.k (.fptr asciiSpace)) (.t 49), some (46, true)⟩,
   ⟨some 51, .load 1 false (.t 50), some (46, true)⟩,
   ⟨some 52, .bin .neq (.t 51) (.k (.int .u8 0)), some (46, true)⟩,
   ⟨some 53, .pick (.t 46) (.t 52) (.k (.bool false)), none⟩])
 (.cond (.t 53) (.skip)
   (.exit 2)))
 (.block 3 (.region [
   ⟨some 54, .mv (.t 12), none⟩,
   ⟨some 55, .bin .add (.t 54) (.k (.int .i64 1)), none⟩,
   ⟨some 12, .mv (.t 55), none⟩])))))
 (.seq (.region [
   ⟨some 56, .mv (.t 12), none⟩,
   ⟨some 11, .mv (.t 56), none⟩])
 (.join [10, 11] [12, 57, 58, 59, 60, 61, 62, 63, 64, 65, 66, 67, 68, 69, 70, 71, 72, 73, 74, 75, 76, 77, 78, 79, 80, 81, 82, 83, 84, 85, 86, 87, 88, 89, 90, 91, 92, 93, 94] (.block 4 (.loop [10, 11, 12] [57, 58, 59, 60, 61, 62, 63, 64, 65, 66, 67, 68, 69, 70, 71, 72, 73, 74, 75, 76, 77, 78, 79, 80, 81, 82, 83, 84, 85, 86, 87, 88, 89, 90, 91, 92, 93, 94] (.seq (.seq (.region [
   ⟨some 57, .mv (.t 12), none⟩,
   ⟨some 58, .mv (.t 0), none⟩,
   ⟨some 59, .len true (.t 58), none⟩,
   ⟨some 60, .bin .lss (.t 57) (.t 59), none⟩])
 (.cond (.t 60) (.skip)
   (.exit 4)))
 (.block 5 (.seq (.seq (.region [
   ⟨some 61, .mv (.t 0), none⟩,
   ⟨some 62, .mv (.t 12), none⟩,
   ⟨some 63, .idxs (.t 61) (.t 62), none⟩,
   ⟨some 64, .iaddr (some 256) 1 (.k (.fptr asciiSpace)) (.t 63), none⟩,
   ⟨some 65, .load 1 false (.t 64), none⟩,
   ⟨some 66, .bin .eql (.t 65) (.k (.int .u8 0)), none⟩])
 (.cond (.t 66) (.seq (.region [
     ⟨some 67, .mv (.t 12), none⟩,
     ⟨some 68, .bin .add (.t 67) (.k (.int .i64 1)), none⟩,
     ⟨some 12, .mv (.t 68), none⟩])
   (.exit 5))
   (.skip)))
 (.seq (.region [
   ⟨some 69, .mv (.t 9), none⟩,
   ⟨some 70, .mv (.t 10), none⟩,
   ⟨some 71, .mv (.t 0), none⟩,
   ⟨some 72, .mv (.t 11), none⟩,
   ⟨some 73, .mv (.t 12), none⟩,
   ⟨some 74, .sslice (.t 71) (some (.t 72)) (some (.t 73)), none⟩,
   ⟨some 75, .iaddr none 1 (.t 69) (.t 70), none⟩,
   ⟨none, .store 1 (.t 75) (.t 74), none⟩])
 (.seq (.region [
   ⟨some 76, .mv (.t 10), none⟩,
   ⟨some 77, .bin .add (.t 76) (.k (.int .i64 1)), none⟩,
   ⟨some 10, .mv (.t 77), none⟩])
 (.seq (.region [
   ⟨some 78, .mv (.t 12), none⟩,
   ⟨some 79, .bin .add (.t 78) (.k (.int .i64 1)), none⟩,
   ⟨some 12, .mv (.t 79), none⟩])
 (.seq (.block 6 (.loop [12] [80, 81, 82, 83, 84, 85, 86, 87, 88, 89, 90, 91, 92, 93] (.join [] [80, 81, 82, 83, 84, 85, 86, 87, 88, 89, 90, 91] (.join [91] [80, 81, 82, 83, 84, 85, 86, 87, 88, 89, 90] (.region [
   ⟨some 80, .mv (.t 12), none⟩,
   ⟨some 81, .mv (.t 0), none⟩,
   ⟨some 82, .len true (.t 81), none⟩,
   ⟨some 83, .bin .lss (.t 80) (.t 82), none⟩,
   ⟨some 84, .mv (.t 83), none⟩,
   ⟨some 85, .mv (.t 0), some (84, true)⟩,
   ⟨some 86, .mv (.t 12), some (84, true)⟩,
   ⟨some 87, .idxs (.t 85) (.t 86), some (84, true)⟩,
   ⟨some 88, .iaddr (some 256) 1 (.k (.fptr asciiSpace)) (.t 87), some (84, true)⟩,
   ⟨some 89, .load 1 false (.t 88), some (84, true)⟩,
   ⟨some 90, .bin .neq (.t 89) (.k (.int .u8 0)), some (84, true)⟩,
   ⟨some 91, .pick (.t 84) (.t 90) (.k (.bool false)), none⟩])
 (.cond (.t 91) (.skip)
   (.exit 6)))
 (.block 7 (.region [
   ⟨some 92, .mv (.t 12), none⟩,
   ⟨some 93, .bin .add (.t 92) (.k (.int .i64 1)), none⟩,
   ⟨some 12, .mv (.t 93), none⟩])))))
 (.region [
   ⟨some 94, .mv (.t 12), none⟩,
   ⟨some 11, .mv (.t 94), none⟩]))))))))))
 (.join [] [95, 96, 97, 98, 99, 100, 101, 102, 103, 104] (.seq (.region [
   ⟨some 95, .mv (.t 11), none⟩,
   ⟨some 96, .mv (.t 0), none⟩,
   ⟨some 97, .len true (.t 96), none⟩,
   ⟨some 98, .bin .lss (.t 95) (.t 97), none⟩])
 (.cond (.t 98) (.region [
     ⟨some 99, .mv (.t 9), none⟩,
     ⟨some 100, .mv (.t 10), none⟩,
     ⟨some 101, .mv (.t 0), none⟩,
     ⟨some 102, .mv (.t 11), none⟩,
     ⟨some 103, .sslice (.t 101) (some (.t 102)) none, none⟩,
     ⟨some 104, .iaddr none 1 (.t 99) (.t 100), none⟩,
     ⟨none, .store 1 (.t 104) (.t 103), none⟩])
   (.skip)))
 (.seq (.freeze 9 (.region [
   ⟨some 105, .mv (.t 9), none⟩,
   ⟨some 2, .mv (.t 105), none⟩]))
 (.ret)))))))))))))))⟩
theorem eq_strings_Fields (Φ : Calls') (a0 : AV) (H : AH) (Q : Post) : fnE1 Φ ir_strings_Fields [a0] H Q = strings_Fields Φ a0 H Q := by kernel_rfl

/-! strings.FieldsFunc -/
def strings_FieldsFunc_l1 (Φ : Calls') (a0 : AV) (x36 : AV) (x38 : AV) (j26 : List AV) (Q : Post) : (List AV × AH) → ((List AV × AH) → Prop) → Prop := fun s39 L40 =>
 Do (abin .lss (sl s39.1 0) x38) fun x41 =>
 Gd x41 true (
 Do (aiaddr none 2 (sl j26 0) (sl s39.1 0)) fun x42 =>
 Do (aload s39.2 2 true x42) fun x43 =>
 DoH (some (abox s39.2 true [.int .i64 0, .int .i64 0])) fun x44 H45 =>
 Do (astore H45 2 x44 x43) fun H46 =>
 Do (afaddr 0 x44) fun x47 =>
 Do (aload H46 1 false x47) fun x48 =>
 Do (afaddr 1 x44) fun x49 =>
 Do (aload H46 1 false x49) fun x50 =>
 Do (asslice a0 (some x48) (some x50)) fun x51 =>
 Do (aiaddr none 1 x36 (sl s39.1 0)) fun x52 =>
 Do (astore H46 1 x52 x51) fun H53 =>
 Do (abin .add (sl s39.1 0) (.int .i64 1)) fun x54 =>
 L40 ([x54], H53)) (
 Q x36 s39.2)
def strings_FieldsFunc_k2 (Φ : Calls') (a0 : AV) (Q : Post) : List AV → AH → Prop := fun j26 H27 =>
 Do (alen false (sl j26 0)) fun x35 =>
 DoH (amake H27 true 1 16 [.str []] x35 x35) fun x36 H37 =>
 Do (alen false (sl j26 0)) fun x38 =>
 LoopP (strings_FieldsFunc_l1 Φ a0 x36 x38 j26 Q) ([(.int .i64 0)], H37)
def strings_FieldsFunc_k3 (Φ : Calls') (a0 : AV) (Q : Post) : List AV → AH → Prop := fun j3 H4 =>
 Do (abin .geq (sl j3 1) (.int .i64 0)) fun x28 =>
 Gd x28 true (
 Do (alen true a0) fun x29 =>
 Do (abuild [.int .i64 0, .int .i64 0] [(0, 1, (sl j3 1)), (1, 1, x29)]) fun x30 =>
 DoH (abslice H4 false 2 1 [.int .i64 0, .int .i64 0] [(0, 2, x30)]) fun x31 H32 =>
 DoH (aappend H32 false 2 16 (sl j3 0) x31) fun x33 H34 =>
 JoinP (strings_FieldsFunc_k2 Φ a0 Q) [x33] H34) (
 JoinP (strings_FieldsFunc_k2 Φ a0 Q) [(sl j3 0)] H4)
def strings_FieldsFunc_l4 (Φ : Calls') (a0 : AV) (a1 : AV) (x5 : AV) (Q : Post) : (List AV × AH) → ((List AV × AH) → Prop) → Prop := fun s7 L8 =>
 DoH (asnext s7.2 x5) fun x9 H10 =>
 Do (aextract 0 x9) fun x11 =>
 Gd x11 true (
 Do (aextract 1 x9) fun x12 =>
 Do (aextract 2 x9) fun x13 =>
∃ k16 c17, a1 = .fn k16 c17 ∧ Φ k16 ([x13] ++ c17) H10 fun x14 H15 =>
 Gd x14 true (
 Do (abin .geq (sl s7.1 1) (.int .i64 0)) fun x18 =>
 Gd x18 true (
 Do (abuild [.int .i64 0, .int .i64 0] [(0, 1, (sl s7.1 1)), (1, 1, x12)]) fun x19 =>
 DoH (abslice H15 false 2 1 [.int .i64 0, .int .i64 0] [(0, 2, x19)]) fun x20 H21 =>
 DoH (aappend H21 false 2 16 (sl s7.1 0) x20) fun x22 H23 =>
 Do (aun .xor (sl s7.1 1)) fun x24 =>
 L8 ([x22, x24], H23)) (
 L8 ([(sl s7.1 0), (sl s7.1 1)], H15))) (
 Do (abin .lss (sl s7.1 1) (.int .i64 0)) fun x25 =>
 Gd x25 true (
 L8 ([(sl s7.1 0), x12], H15)) (
 L8 ([(sl s7.1 0), (sl s7.1 1)], H15)))) (
 JoinP (strings_FieldsFunc_k3 Φ a0 Q) [(sl s7.1 0), (sl s7.1 1)] H10)
def strings_FieldsFunc (Φ : Calls') (a0 : AV) (a1 : AV) (H : AH) (Q : Post) : Prop :=
 DoH (amake H true 2 16 [.int .i64 0, .int .i64 0] (.int .i64 0) (.int .i64 32)) fun x1 H2 =>
 DoH (asrange H2 a0) fun x5 H6 =>
 LoopP (strings_FieldsFunc_l4 Φ a0 a1 x5 Q) ([x1, (.int .i64 (-1))], H6)
def ir_strings_FieldsFunc : AFunc := ⟨65, [.tmp 4],
 .seq (.region [
   ⟨some 4, .mv (.k (.lst .nil 0 [])), none⟩])
 (.seq (.region [
   ⟨some 12, .make true 2 16 [.int .i64 0, .int .i64 0] (.k (.int .i64 0)) (.k (.int .i64 32)), none⟩,
   ⟨some 5, .mv (.t 12), none⟩])
 (.seq (.region [
   ⟨some 6, .mv (.k (.int .i64 (-1))), none⟩])
 (.join [5, 6] [7, 8, 13, 14, 15, 16, 17, 18, 19, 20, 21, 22, 23, 24, 25, 26, 27, 28, 29, 30, 31, 32, 33, 34] (.seq (.region [
   ⟨some 13, .mv (.t 0), none⟩,
   ⟨some 14, .srange (.t 13), none⟩])
 (.block 0 (.loop [5, 6] [7, 8, 15, 16, 17, 18, 19, 20, 21, 22, 23, 24, 25, 26, 27, 28, 29, 30, 31, 32, 33, 34] (.seq (.region [
   ⟨some 15, .snext (.t 14), none⟩,
   ⟨some 16, .extract 0 (.t 15), none⟩])
 (.seq (.cond (.t 16) (.skip)
   (.exit 0))
 (.block 1 (.seq (.region [
   ⟨some 17, .extract 1 (.t 15), none⟩,
   ⟨some 18, .extract 2 (.t 15), none⟩,
   ⟨some 7, .mv (.t 17), none⟩,
   ⟨some 8, .mv (.t 18), none⟩])
 (.seq (.region [
   ⟨some 19, .mv (.t 1), none⟩,
   ⟨some 20, .mv (.t 8), none⟩,
   ⟨some 21, .callv (.t 19) [(.t 20)], none⟩])
 (.cond (.t 21) (.seq (.region [
     ⟨some 22, .mv (.t 6), none⟩,
     ⟨some 23, .bin .geq (.t 22) (.k (.int .i64 0)), none⟩])
   (.cond (.t 23) (.seq (.region [
       ⟨some 24, .mv (.t 5), none⟩,
       ⟨some 25, .mv (.t 6), none⟩,
       ⟨some 26, .mv (.t 7), none⟩,
       ⟨some 27, .build [.int .i64 0, .int .i64 0] [(0, 1, (.t 25)), (1, 1, (.t 26))], none⟩,
       ⟨some 28, .bslice false 2 1 [.int .i64 0, .int .i64 0] [(0, 2, (.t 27))], none⟩,
       ⟨some 29, .append false 2 16 (.t 24) (.t 28), none⟩,
       ⟨some 5, .mv (.t 29), none⟩])
     (.region [
       ⟨some 30, .mv (.t 6), none⟩,
       ⟨some 31, .un .xor (.t 30), none⟩,
       ⟨some 6, .mv (.t 31), none⟩]))
     (.skip)))
   (.seq (.region [
     ⟨some 32, .mv (.t 6), none⟩,
     ⟨some 33, .bin .lss (.t 32) (.k (.int .i64 0)), none⟩])
   (.cond (.t 33) (.region [
       ⟨some 34, .mv (.t 7), none⟩,
       ⟨some 6, .mv (.t 34), none⟩])
     (.skip))))))))))))
 (.join [5] [35, 36, 37, 38, 39, 40, 41, 42, 43] (.seq (.region [
   ⟨some 35, .mv (.t 6), none⟩,
   ⟨some 36, .bin .geq (.t 35) (.k (.int .i64 0)), none⟩])
 (.cond (.t 36) (.region [
     ⟨some 37, .mv (.t 5), none⟩,
     ⟨some 38, .mv (.t 6), none⟩,
     ⟨some 39, .mv (.t 0), none⟩,
     ⟨some 40, .len true (.t 39), none⟩,
     ⟨some 41, .build [.int .i64 0, .int .i64 0] [(0, 1, (.t 38)), (1, 1, (.t 40))], none⟩,
     ⟨some 42, .bslice false 2 1 [.int .i64 0, .int .i64 0] [(0, 2, (.t 41))], none⟩,
     ⟨some 43, .append false 2 16 (.t 37) (.t 42), none⟩,
     ⟨some 5, .mv (.t 43), none⟩])
   (.skip)))
 (.seq (.region [
   ⟨some 44, .mv (.t 5), none⟩,
   ⟨some 45, .len false (.t 44), none⟩,
   ⟨some 46, .make true 1 16 [.str []] (.t 45) (.t 45), none⟩,
   ⟨some 9, .mv (.t 46), none⟩])
 (.seq (.seq (.region [
   ⟨some 47, .mv (.t 5), none⟩,
   ⟨some 48, .len false (.t 47), none⟩,
   ⟨some 49, .mv (.k (.int .i64 0)), none⟩])
 (.block 2 (.loop [49] [10, 11, 50, 51, 52, 53, 54, 55, 56, 57, 58, 59, 60, 61, 62, 63] (.seq (.region [
   ⟨some 50, .bin .lss (.t 49) (.t 48), none⟩])
 (.seq (.cond (.t 50) (.skip)
   (.exit 2))
 (.seq (.block 3 (.seq (.region [
   ⟨some 51, .mv (.t 49), none⟩,
   ⟨some 52, .iaddr none 2 (.t 47) (.t 49), none⟩,
   ⟨some 53, .load 2 true (.t 52), none⟩,
   ⟨some 11, .alloc true [.int .i64 0, .int .i64 0], none⟩,
   ⟨some 10, .mv (.t 51), none⟩,
   ⟨none, .store 2 (.t 11) (.t 53), none⟩])
 (.region [
   ⟨some 54, .mv (.t 9), none⟩,
   ⟨some 55, .mv (.t 10), none⟩,
   ⟨some 56, .mv (.t 0), none⟩,
   ⟨some 57, .faddr 0 (.t 11), none⟩,
   ⟨some 58, .load 1 false (.t 57), none⟩,
   ⟨some 59, .faddr 1 (.t 11), none⟩,
   ⟨some 60, .load 1 false (.t 59), none⟩,
   ⟨some 61, .sslice (.t 56) (some (.t 58)) (some (.t 60)), none⟩,
   ⟨some 62, .iaddr none 1 (.t 54) (.t 55), none⟩,
   ⟨none, .store 1 (.t 62) (.t 61), none⟩])))
 (.region [
   ⟨some 63, .bin .add (.t 49) (.k (.int .i64 1)), none⟩,
   ⟨some 49, .mv (.t 63), none⟩])))))))
 (.seq (.region [
   ⟨some 64, .mv (.t 9), none⟩,
   ⟨some 4, .mv (.t 64), none⟩])
 (.ret))))))))⟩
theorem eq_strings_FieldsFunc (Φ : Calls') (a0 a1 : AV) (H : AH) (Q : Post) : fnE1 Φ ir_strings_FieldsFunc [a0, a1] H Q = strings_FieldsFunc Φ a0 a1 H Q := by kernel_rfl

/-! strings.HasPrefix -/
def strings_HasPrefix (Φ : Calls') (a0 : AV) (a1 : AV) (H : AH) (Q : Post) : Prop :=
Φ K.internal_stringslite_HasPrefix [a0, a1] H fun x1 H2 =>
 Q x1 H2
def ir_strings_HasPrefix : AFunc := ⟨8, [.tmp 4],
 .seq (.region [
   ⟨some 4, .mv (.k (.bool false)), none⟩])
 (.seq (.region [
   ⟨some 5, .mv (.t 0), none⟩,
   ⟨some 6, .mv (.t 1), none⟩,
   ⟨some 7, .call K.internal_stringslite_HasPrefix [(.t 5), (.t 6)], none⟩,
   ⟨some 4, .mv (.t 7), none⟩])
 (.ret))⟩
theorem eq_strings_HasPrefix (Φ : Calls') (a0 a1 : AV) (H : AH) (Q : Post) : fnE1 Φ ir_strings_HasPrefix [a0, a1] H Q = strings_HasPrefix Φ a0 a1 H Q := by kernel_rfl

/-! strings.IndexByte -/
def strings_IndexByte (Φ : Calls') (a0 : AV) (a1 : AV) (H : AH) (Q : Post) : Prop :=
Φ K.internal_stringslite_IndexByte [a0, a1] H fun x1 H2 =>
 Q x1 H2
def ir_strings_IndexByte : AFunc := ⟨8, [.tmp 4],
 .seq (.region [
   ⟨some 4, .mv (.k (.int .i64 0)), none⟩])
 (.seq (.region [
   ⟨some 5, .mv (.t 0), none⟩,
   ⟨some 6, .mv (.t 1), none⟩,
   ⟨some 7, .call K.internal_stringslite_IndexByte [(.t 5), (.t 6)], none⟩,
   ⟨some 4, .mv (.t 7), none⟩])
 (.ret))⟩
theorem eq_strings_IndexByte (Φ : Calls') (a0 a1 : AV) (H : AH) (Q : Post) : fnE1 Φ ir_strings_IndexByte [a0, a1] H Q = strings_IndexByte Φ a0 a1 H Q := by kernel_rfl

def tab_libstrings : Tab := [
  (K.strings_Fields, ir_strings_Fields),
  (K.strings_FieldsFunc, ir_strings_FieldsFunc),
  (K.strings_HasPrefix, ir_strings_HasPrefix),
  (K.strings_IndexByte, ir_strings_IndexByte)]

theorem cl_strings_Fields {Φ : Calls'} (hT : Cl Φ tab_libstrings) {a0 : AV} {H : AH} {Q : Post} (h : strings_Fields Φ a0 H Q) : Φ K.strings_Fields [a0] H Q := hT.call (by kernel_rfl) (by kernel_rfl) (by rw [eq_strings_Fields]; exact h)
theorem cl_strings_FieldsFunc {Φ : Calls'} (hT : Cl Φ tab_libstrings) {a0 a1 : AV} {H : AH} {Q : Post} (h : strings_FieldsFunc Φ a0 a1 H Q) : Φ K.strings_FieldsFunc [a0, a1] H Q := hT.call (by kernel_rfl) (by kernel_rfl) (by rw [eq_strings_FieldsFunc]; exact h)
theorem cl_strings_HasPrefix {Φ : Calls'} (hT : Cl Φ tab_libstrings) {a0 a1 : AV} {H : AH} {Q : Post} (h : strings_HasPrefix Φ a0 a1 H Q) : Φ K.strings_HasPrefix [a0, a1] H Q := hT.call (by kernel_rfl) (by kernel_rfl) (by rw [eq_strings_HasPrefix]; exact h)
theorem cl_strings_IndexByte {Φ : Calls'} (hT : Cl Φ tab_libstrings) {a0 a1 : AV} {H : AH} {Q : Post} (h : strings_IndexByte Φ a0 a1 H Q) : Φ K.strings_IndexByte [a0, a1] H Q := hT.call (by kernel_rfl) (by kernel_rfl) (by rw [eq_strings_IndexByte]; exact h)
end Rb.S

/- Package libstrings: its functions as runs. By gen.py. -/
set_option linter.unusedVariables false
namespace Rb.R
open Go

def strings_Fields_k1 (Φ : CallsB) (n : Nat) (s24 : List AV × TH) (L25 : (List AV × TH) → Bool) (Q : PostB) : List AV → TH → Bool := fun j26 H27 =>
 DoB (abin .add (sl s24.1 0) (.int .i64 1)) fun x37 =>
 L25 ([x37], H27)
def strings_Fields_k2 (Φ : CallsB) (n : Nat) (s56 : List AV × TH) (L57 : (List AV × TH) → Bool) (Q : PostB) : List AV → TH → Bool := fun j58 H59 =>
 DoB (abin .add (sl s56.1 0) (.int .i64 1)) fun x69 =>
 L57 ([x69], H59)
def strings_Fields_k3 (Φ : CallsB) (n : Nat) (x54 : AV) (L41 : (List AV × TH) → Bool) (s56 : List AV × TH) (L57 : (List AV × TH) → Bool) (Q : PostB) : List AV → TH → Bool := fun j60 H61 =>
 GdB (sl j60 0) true (
 JoinB (strings_Fields_k2 Φ n s56 L57 Q) [] H61) (
 L41 ([x54, (sl s56.1 0), (sl s56.1 0)], H61))
def strings_Fields_l4 (Φ : CallsB) (n : Nat) (a0 : AV) (x54 : AV) (L41 : (List AV × TH) → Bool) (Q : PostB) : (List AV × TH) → ((List AV × TH) → Bool) → Bool := fun s56 L57 =>
 DoB (alen true a0) fun x62 =>
 DoB (abin .lss (sl s56.1 0) x62) fun x63 =>
 Gd3B x63 true (
 DoB (aidxs a0 (sl s56.1 0)) fun x64 =>
 DoB (aiaddr (some 256) 1 (.fptr asciiSpace) x64) fun x65 =>
 DoB (aload s56.2.ah 1 false x65) fun x66 =>
 DoB (abin .neq x66 (.int .u8 0)) fun x68 =>
 JoinB (strings_Fields_k3 Φ n x54 L41 s56 L57 Q) [x68] s56.2) (
 JoinB (strings_Fields_k3 Φ n x54 L41 s56 L57 Q) [(.bool false)] s56.2) (
 false)
def strings_Fields_k5 (Φ : CallsB) (n : Nat) (x20 : AV) (Q : PostB) : List AV → TH → Bool := fun j70 H71 =>
 DoHB (tfreeze H71 x20) fun x78 H79 =>
 Q x78 H79
def strings_Fields_k6 (Φ : CallsB) (n : Nat) (a0 : AV) (x20 : AV) (Q : PostB) : List AV → TH → Bool := fun j38 H39 =>
 DoB (alen true a0) fun x72 =>
 DoB (abin .lss (sl j38 1) x72) fun x73 =>
 GdB x73 true (
 DoB (asslice a0 (some (sl j38 1)) none) fun x74 =>
 DoB (aiaddr none 1 x20 (sl j38 0)) fun x75 =>
 DoB (tstore H39 1 x75 x74) fun H77 =>
 JoinB (strings_Fields_k5 Φ n x20 Q) [] H77) (
 JoinB (strings_Fields_k5 Φ n x20 Q) [] H39)
def strings_Fields_l7 (Φ : CallsB) (n : Nat) (a0 : AV) (x20 : AV) (Q : PostB) : (List AV × TH) → ((List AV × TH) → Bool) → Bool := fun s40 L41 =>
 DoB (alen true a0) fun x42 =>
 DoB (abin .lss (sl s40.1 2) x42) fun x43 =>
 GdB x43 true (
 DoB (aidxs a0 (sl s40.1 2)) fun x44 =>
 DoB (aiaddr (some 256) 1 (.fptr asciiSpace) x44) fun x45 =>
 DoB (aload s40.2.ah 1 false x45) fun x46 =>
 DoB (abin .eql x46 (.int .u8 0)) fun x48 =>
 GdB x48 true (
 DoB (abin .add (sl s40.1 2) (.int .i64 1)) fun x49 =>
 L41 ([(sl s40.1 0), (sl s40.1 1), x49], s40.2)) (
 DoB (asslice a0 (some (sl s40.1 1)) (some (sl s40.1 2))) fun x50 =>
 DoB (aiaddr none 1 x20 (sl s40.1 0)) fun x51 =>
 DoB (tstore s40.2 1 x51 x50) fun H53 =>
 DoB (abin .add (sl s40.1 0) (.int .i64 1)) fun x54 =>
 DoB (abin .add (sl s40.1 2) (.int .i64 1)) fun x55 =>
 LoopB (strings_Fields_l4 Φ n a0 x54 L41 Q) n ([x55], H53))) (
 JoinB (strings_Fields_k6 Φ n a0 x20 Q) [(sl s40.1 0), (sl s40.1 1)] s40.2)
def strings_Fields_k8 (Φ : CallsB) (n : Nat) (a0 : AV) (x20 : AV) (Q : PostB) : List AV → TH → Bool := fun j22 H23 =>
 LoopB (strings_Fields_l7 Φ n a0 x20 Q) n ([(.int .i64 0), (sl j22 0), (sl j22 0)], H23)
def strings_Fields_k9 (Φ : CallsB) (n : Nat) (a0 : AV) (x20 : AV) (s24 : List AV × TH) (L25 : (List AV × TH) → Bool) (Q : PostB) : List AV → TH → Bool := fun j28 H29 =>
 GdB (sl j28 0) true (
 JoinB (strings_Fields_k1 Φ n s24 L25 Q) [] H29) (
 JoinB (strings_Fields_k8 Φ n a0 x20 Q) [(sl s24.1 0)] H29)
def strings_Fields_l10 (Φ : CallsB) (n : Nat) (a0 : AV) (x20 : AV) (Q : PostB) : (List AV × TH) → ((List AV × TH) → Bool) → Bool := fun s24 L25 =>
 DoB (alen true a0) fun x30 =>
 DoB (abin .lss (sl s24.1 0) x30) fun x31 =>
 Gd3B x31 true (
 DoB (aidxs a0 (sl s24.1 0)) fun x32 =>
 DoB (aiaddr (some 256) 1 (.fptr asciiSpace) x32) fun x33 =>
 DoB (aload s24.2.ah 1 false x33) fun x34 =>
 DoB (abin .neq x34 (.int .u8 0)) fun x36 =>
 JoinB (strings_Fields_k9 Φ n a0 x20 s24 L25 Q) [x36] s24.2) (
 JoinB (strings_Fields_k9 Φ n a0 x20 s24 L25 Q) [(.bool false)] s24.2) (
 false)
def strings_Fields_k11 (Φ : CallsB) (n : Nat) (a0 : AV) (Q : PostB) : List AV → TH → Bool := fun j1 H2 =>
 DoB (abin .geq (sl j1 1) (.int .u8 128)) fun x17 =>
 GdB x17 true (
Φ K.strings_FieldsFunc [a0, (.fn K.unicode_IsSpace [])] H2 fun x18 H19 =>
 Q x18 H19) (
 DoHB (tmake H2 true 1 16 [.str []] (sl j1 0) (sl j1 0)) fun x20 H21 =>
 LoopB (strings_Fields_l10 Φ n a0 x20 Q) n ([(.int .i64 0)], H21))
def strings_Fields_l12 (Φ : CallsB) (n : Nat) (a0 : AV) (Q : PostB) : (List AV × TH) → ((List AV × TH) → Bool) → Bool := fun s3 L4 =>
 DoB (alen true a0) fun x5 =>
 DoB (abin .lss (sl s3.1 3) x5) fun x6 =>
 GdB x6 true (
 DoB (aidxs a0 (sl s3.1 3)) fun x7 =>
 DoB (abin .or (sl s3.1 2) x7) fun x8 =>
 DoB (aiaddr (some 256) 1 (.fptr asciiSpace) x7) fun x9 =>
 DoB (aload s3.2.ah 1 false x9) fun x10 =>
 DoB (aconv .i64 x10) fun x12 =>
 DoB (aun .xor x12) fun x13 =>
 DoB (abin .and (sl s3.1 1) x13) fun x14 =>
 DoB (abin .add (sl s3.1 0) x14) fun x15 =>
 DoB (abin .add (sl s3.1 3) (.int .i64 1)) fun x16 =>
 L4 ([x15, x12, x8, x16], s3.2)) (
 JoinB (strings_Fields_k11 Φ n a0 Q) [(sl s3.1 0), (sl s3.1 2)] s3.2)
def strings_Fields (Φ : CallsB) (n : Nat) (a0 : AV) (H : TH) (Q : PostB) : Bool :=
 LoopB (strings_Fields_l12 Φ n a0 Q) n ([(.int .i64 0), (.int .i64 1), (.int .u8 0), (.int .i64 0)], H)
theorem eq_strings_Fields (Φ : CallsB) (n : Nat) (a0 : AV) (H : TH) (Q : PostB) : fnB1 Φ n S.ir_strings_Fields [a0] H Q = strings_Fields Φ n a0 H Q := by kernel_rfl

def strings_FieldsFunc_l1 (Φ : CallsB) (n : Nat) (a0 : AV) (x36 : AV) (x38 : AV) (j26 : List AV) (Q : PostB) : (List AV × TH) → ((List AV × TH) → Bool) → Bool := fun s39 L40 =>
 DoB (abin .lss (sl s39.1 0) x38) fun x41 =>
 GdB x41 true (
 DoB (aiaddr none 2 (sl j26 0) (sl s39.1 0)) fun x42 =>
 DoB (aload s39.2.ah 2 true x42) fun x43 =>
 DoHB (some (tbox s39.2 true [.int .i64 0, .int .i64 0])) fun x45 H46 =>
 DoB (tstore H46 2 x45 x43) fun H48 =>
 DoB (afaddr 0 x45) fun x49 =>
 DoB (aload H48.ah 1 false x49) fun x50 =>
 DoB (afaddr 1 x45) fun x52 =>
 DoB (aload H48.ah 1 false x52) fun x53 =>
 DoB (asslice a0 (some x50) (some x53)) fun x55 =>
 DoB (aiaddr none 1 x36 (sl s39.1 0)) fun x56 =>
 DoB (tstore H48 1 x56 x55) fun H58 =>
 DoB (abin .add (sl s39.1 0) (.int .i64 1)) fun x59 =>
 L40 ([x59], H58)) (
 Q x36 s39.2)
def strings_FieldsFunc_k2 (Φ : CallsB) (n : Nat) (a0 : AV) (Q : PostB) : List AV → TH → Bool := fun j26 H27 =>
 DoB (alen false (sl j26 0)) fun x35 =>
 DoHB (tmake H27 true 1 16 [.str []] x35 x35) fun x36 H37 =>
 DoB (alen false (sl j26 0)) fun x38 =>
 LoopB (strings_FieldsFunc_l1 Φ n a0 x36 x38 j26 Q) n ([(.int .i64 0)], H37)
def strings_FieldsFunc_k3 (Φ : CallsB) (n : Nat) (a0 : AV) (Q : PostB) : List AV → TH → Bool := fun j3 H4 =>
 DoB (abin .geq (sl j3 1) (.int .i64 0)) fun x28 =>
 GdB x28 true (
 DoB (alen true a0) fun x29 =>
 DoB (abuild [.int .i64 0, .int .i64 0] [(0, 1, (sl j3 1)), (1, 1, x29)]) fun x30 =>
 DoHB (tbslice H4 false 2 1 [.int .i64 0, .int .i64 0] [(0, 2, x30)]) fun x31 H32 =>
 DoHB (tappend H32 false 2 16 (sl j3 0) x31) fun x33 H34 =>
 JoinB (strings_FieldsFunc_k2 Φ n a0 Q) [x33] H34) (
 JoinB (strings_FieldsFunc_k2 Φ n a0 Q) [(sl j3 0)] H4)
def strings_FieldsFunc_l4 (Φ : CallsB) (n : Nat) (a0 : AV) (a1 : AV) (x5 : AV) (Q : PostB) : (List AV × TH) → ((List AV × TH) → Bool) → Bool := fun s7 L8 =>
 DoHB (tsnext s7.2 x5) fun x9 H10 =>
 DoB (aextract 0 x9) fun x11 =>
 GdB x11 true (
 DoB (aextract 1 x9) fun x12 =>
 DoB (aextract 2 x9) fun x13 =>
 clB Φ a1 [x13] H10 fun x14 H15 =>
 GdB x14 true (
 DoB (abin .geq (sl s7.1 1) (.int .i64 0)) fun x18 =>
 GdB x18 true (
 DoB (abuild [.int .i64 0, .int .i64 0] [(0, 1, (sl s7.1 1)), (1, 1, x12)]) fun x19 =>
 DoHB (tbslice H15 false 2 1 [.int .i64 0, .int .i64 0] [(0, 2, x19)]) fun x20 H21 =>
 DoHB (tappend H21 false 2 16 (sl s7.1 0) x20) fun x22 H23 =>
 DoB (aun .xor (sl s7.1 1)) fun x24 =>
 L8 ([x22, x24], H23)) (
 L8 ([(sl s7.1 0), (sl s7.1 1)], H15))) (
 DoB (abin .lss (sl s7.1 1) (.int .i64 0)) fun x25 =>
 GdB x25 true (
 L8 ([(sl s7.1 0), x12], H15)) (
 L8 ([(sl s7.1 0), (sl s7.1 1)], H15)))) (
 JoinB (strings_FieldsFunc_k3 Φ n a0 Q) [(sl s7.1 0), (sl s7.1 1)] H10)
def strings_FieldsFunc (Φ : CallsB) (n : Nat) (a0 : AV) (a1 : AV) (H : TH) (Q : PostB) : Bool :=
 DoHB (tmake H true 2 16 [.int .i64 0, .int .i64 0] (.int .i64 0) (.int .i64 32)) fun x1 H2 =>
 DoHB (tsrange H2 a0) fun x5 H6 =>
 LoopB (strings_FieldsFunc_l4 Φ n a0 a1 x5 Q) n ([x1, (.int .i64 (-1))], H6)
theorem eq_strings_FieldsFunc (Φ : CallsB) (n : Nat) (a0 a1 : AV) (H : TH) (Q : PostB) : fnB1 Φ n S.ir_strings_FieldsFunc [a0, a1] H Q = strings_FieldsFunc Φ n a0 a1 H Q := by kernel_rfl

def strings_HasPrefix (Φ : CallsB) (n : Nat) (a0 : AV) (a1 : AV) (H : TH) (Q : PostB) : Bool :=
Φ K.internal_stringslite_HasPrefix [a0, a1] H fun x1 H2 =>
 Q x1 H2
theorem eq_strings_HasPrefix (Φ : CallsB) (n : Nat) (a0 a1 : AV) (H : TH) (Q : PostB) : fnB1 Φ n S.ir_strings_HasPrefix [a0, a1] H Q = strings_HasPrefix Φ n a0 a1 H Q := by kernel_rfl

def strings_IndexByte (Φ : CallsB) (n : Nat) (a0 : AV) (a1 : AV) (H : TH) (Q : PostB) : Bool :=
Φ K.internal_stringslite_IndexByte [a0, a1] H fun x1 H2 =>
 Q x1 H2
theorem eq_strings_IndexByte (Φ : CallsB) (n : Nat) (a0 a1 : AV) (H : TH) (Q : PostB) : fnB1 Φ n S.ir_strings_IndexByte [a0, a1] H Q = strings_IndexByte Φ n a0 a1 H Q := by kernel_rfl

end Rb.R

/- Package rabbetlaw08: its functions in the small language, and what they mean. By gen.py. -/
set_option linter.unusedVariables false
namespace Rb.S
open Go

/-! rabbet/rabbetlaw08.LexKeywords -/
def rabbetlaw08_LexKeywords_k1 (Φ : Calls') (x7 : AV) (Q : Post) : List AV → AH → Prop := fun j8 H9 =>
 Gd3 (sl j8 0) true (
Φ K.lex_Keyword [x7] H9 fun x17 H18 =>
 Q x17 H18) (
 Q (.bool false) H9) (
 False)
def rabbetlaw08_LexKeywords (Φ : Calls') (a0 : AV) (a1 : AV) (H : AH) (Q : Post) : Prop :=
Φ K.rabbetref08_Keywords [] H fun x1 H2 =>
 Do (aconv .i64 a1) fun x3 =>
 Do (alen false x1) fun x4 =>
 Do (abin .rem x3 x4) fun x5 =>
 Do (aiaddr none 1 x1 x5) fun x6 =>
 Do (aload H2 1 false x6) fun x7 =>
Φ K.rabbetlaw08_awake [] H2 fun x10 H11 =>
 Gd3 x10 true (
Φ K.lex_Keyword [a0] H11 fun x12 H13 =>
Φ K.rabbetref08_Keyword [a0] H13 fun x14 H15 =>
 Do (abeq false x12 x14) fun x16 =>
 JoinP (rabbetlaw08_LexKeywords_k1 Φ x7 Q) [x16] H15) (
 JoinP (rabbetlaw08_LexKeywords_k1 Φ x7 Q) [(.bool false)] H11) (
 False)
def ir_rabbetlaw08_LexKeywords : AFunc := ⟨28, [.tmp 4],
 .seq (.region [
   ⟨some 4, .mv (.k (.bool false)), none⟩])
 (.seq (.region [
   ⟨some 7, .call K.rabbetref08_Keywords [], none⟩,
   ⟨some 5, .mv (.t 7), none⟩])
 (.seq (.region [
   ⟨some 8, .mv (.t 5), none⟩,
   ⟨some 9, .mv (.t 1), none⟩,
   ⟨some 10, .conv .i64 (.t 9), none⟩,
   ⟨some 11, .mv (.t 5), none⟩,
   ⟨some 12, .len false (.t 11), none⟩,
   ⟨some 13, .bin .rem (.t 10) (.t 12), none⟩,
   ⟨some 14, .iaddr none 1 (.t 8) (.t 13), none⟩,
   ⟨some 15, .load 1 false (.t 14), none⟩,
   ⟨some 6, .mv (.t 15), none⟩])
 (.seq (.rjoin [23] [16, 17, 18, 19, 20, 21, 22] [
   ⟨some 16, .call K.rabbetlaw08_awake [], none⟩,
   ⟨some 17, .mv (.t 16), none⟩,
   ⟨some 18, .mv (.t 0), some (17, true)⟩,
   ⟨some 19, .call K.lex_Keyword [(.t 18)], some (17, true)⟩,
   ⟨some 20, .mv (.t 0), some (17, true)⟩,
   ⟨some 21, .call K.rabbetref08_Keyword [(.t 20)], some (17, true)⟩,
   ⟨some 22, .beq false (.t 19) (.t 21), some (17, true)⟩,
   ⟨some 23, .pick (.t 17) (.t 22) (.k (.bool false)), none⟩]
 (.region [
   ⟨some 24, .mv (.t 23), none⟩,
   ⟨some 25, .mv (.t 6), some (24, true)⟩,
   ⟨some 26, .call K.lex_Keyword [(.t 25)], some (24, true)⟩,
   ⟨some 27, .pick (.t 24) (.t 26) (.k (.bool false)), none⟩,
   ⟨some 4, .mv (.t 27), none⟩]))
 (.ret))))⟩
theorem eq_rabbetlaw08_LexKeywords (Φ : Calls') (a0 a1 : AV) (H : AH) (Q : Post) : fnE1 Φ ir_rabbetlaw08_LexKeywords [a0, a1] H Q = rabbetlaw08_LexKeywords Φ a0 a1 H Q := by kernel_rfl

/-! rabbet/rabbetlaw08.LexBack -/
def rabbetlaw08_LexBack_k1 (Φ : Calls') (x3 : AV) (s22 : List AV × AH) (L23 : (List AV × AH) → Prop) (Q : Post) : List AV → AH → Prop := fun j24 H25 =>
 Do (aiaddr none 2 x3 (sl s22.1 1)) fun x31 =>
 Do (afaddr 0 x31) fun x32 =>
 Do (aload H25 1 false x32) fun x33 =>
 Do (abin .add x33 (.str [32])) fun x34 =>
 Do (abin .add (sl s22.1 0) x34) fun x35 =>
 Do (abin .add (sl s22.1 1) (.int .i64 1)) fun x36 =>
 L23 ([x35, x36], H25)
def rabbetlaw08_LexBack_k2 (Φ : Calls') (s57 : List AV × AH) (L58 : (List AV × AH) → Prop) (Q : Post) : List AV → AH → Prop := fun j60 H61 =>
 Do (abin .add (sl s57.1 0) (.int .i64 1)) fun x75 =>
 L58 ([x75], H61)
def rabbetlaw08_LexBack_k3 (Φ : Calls') (s57 : List AV × AH) (L58 : (List AV × AH) → Prop) (Q : Post) : List AV → AH → Prop := fun j62 H63 =>
 Gd (sl j62 0) true (
 Q (.bool false) H63) (
 JoinP (rabbetlaw08_LexBack_k2 Φ s57 L58 Q) [] H63)
def rabbetlaw08_LexBack_l4 (Φ : Calls') (x3 : AV) (x39 : AV) (j45 : List AV) (Q : Post) : (List AV × AH) → ((List AV × AH) → Prop) → Prop := fun s57 L58 =>
 Do (abin .lss (sl s57.1 0) (sl j45 0)) fun x59 =>
 Gd x59 true (
 Do (aiaddr none 2 x39 (sl s57.1 0)) fun x64 =>
 Do (afaddr 0 x64) fun x65 =>
 Do (aload s57.2 1 false x65) fun x66 =>
 Do (aiaddr none 2 x3 (sl s57.1 0)) fun x67 =>
 Do (afaddr 0 x67) fun x68 =>
 Do (aload s57.2 1 false x68) fun x69 =>
 Do (abin .neq x66 x69) fun x70 =>
 Gd3 x70 false (
 Do (aiaddr none 2 x39 (sl s57.1 0)) fun x71 =>
 Do (afaddr 1 x71) fun x72 =>
 Do (aload s57.2 1 false x72) fun x73 =>
 Do (abin .neq x73 (.int .i64 1)) fun x74 =>
 JoinP (rabbetlaw08_LexBack_k3 Φ s57 L58 Q) [x74] s57.2) (
 JoinP (rabbetlaw08_LexBack_k3 Φ s57 L58 Q) [(.bool true)] s57.2) (
 False)) (
 Q (.bool true) s57.2)
def rabbetlaw08_LexBack_k5 (Φ : Calls') (x3 : AV) (x39 : AV) (j45 : List AV) (Q : Post) : List AV → AH → Prop := fun j48 H49 =>
 LoopP (rabbetlaw08_LexBack_l4 Φ x3 x39 j45 Q) ([(.int .i64 0)], H49)
def rabbetlaw08_LexBack_k6 (Φ : Calls') (x3 : AV) (x39 : AV) (j45 : List AV) (Q : Post) : List AV → AH → Prop := fun j50 H51 =>
 Gd (sl j50 0) true (
 Q (.bool false) H51) (
 JoinP (rabbetlaw08_LexBack_k5 Φ x3 x39 j45 Q) [] H51)
def rabbetlaw08_LexBack_k7 (Φ : Calls') (x3 : AV) (x39 : AV) (x41 : AV) (Q : Post) : List AV → AH → Prop := fun j45 H46 =>
 Do (afaddr 1 x41) fun x52 =>
 Do (aload H46 1 false x52) fun x53 =>
 Do (abin .neq x53 (.int .i64 0)) fun x54 =>
 Gd3 x54 false (
 Do (alen false x39) fun x55 =>
 Do (abin .neq x55 (sl j45 0)) fun x56 =>
 JoinP (rabbetlaw08_LexBack_k6 Φ x3 x39 j45 Q) [x56] H46) (
 JoinP (rabbetlaw08_LexBack_k6 Φ x3 x39 j45 Q) [(.bool true)] H46) (
 False)
def rabbetlaw08_LexBack_k8 (Φ : Calls') (x3 : AV) (Q : Post) : List AV → AH → Prop := fun j20 H21 =>
Φ K.lex_Tokens [(sl j20 0)] H21 fun x37 H38 =>
 Do (aextract 0 x37) fun x39 =>
 Do (aextract 1 x37) fun x40 =>
 DoH (some (abox H38 true [.int .i64 0, .int .i64 0])) fun x41 H42 =>
 Do (astore H42 2 x41 x40) fun H43 =>
 Do (alen false x3) fun x44 =>
 Do (abin .gtr x44 (.int .i64 2000)) fun x47 =>
 Gd x47 true (
 JoinP (rabbetlaw08_LexBack_k7 Φ x3 x39 x41 Q) [(.int .i64 2000)] H43) (
 JoinP (rabbetlaw08_LexBack_k7 Φ x3 x39 x41 Q) [x44] H43)
def rabbetlaw08_LexBack_k9 (Φ : Calls') (x3 : AV) (s22 : List AV × AH) (L23 : (List AV × AH) → Prop) (Q : Post) : List AV → AH → Prop := fun j26 H27 =>
 Gd (sl j26 0) true (
 JoinP (rabbetlaw08_LexBack_k1 Φ x3 s22 L23 Q) [] H27) (
 JoinP (rabbetlaw08_LexBack_k8 Φ x3 Q) [(sl s22.1 0)] H27)
def rabbetlaw08_LexBack_l10 (Φ : Calls') (x3 : AV) (Q : Post) : (List AV × AH) → ((List AV × AH) → Prop) → Prop := fun s22 L23 =>
 Do (alen false x3) fun x28 =>
 Do (abin .lss (sl s22.1 1) x28) fun x29 =>
 Gd3 x29 true (
 Do (abin .lss (sl s22.1 1) (.int .i64 2000)) fun x30 =>
 JoinP (rabbetlaw08_LexBack_k9 Φ x3 s22 L23 Q) [x30] s22.2) (
 JoinP (rabbetlaw08_LexBack_k9 Φ x3 s22 L23 Q) [(.bool false)] s22.2) (
 False)
def rabbetlaw08_LexBack_k11 (Φ : Calls') (x3 : AV) (Q : Post) : List AV → AH → Prop := fun j8 H9 =>
 LoopP (rabbetlaw08_LexBack_l10 Φ x3 Q) ([(.str []), (.int .i64 0)], H9)
def rabbetlaw08_LexBack_k12 (Φ : Calls') (x3 : AV) (Q : Post) : List AV → AH → Prop := fun j10 H11 =>
 Gd (sl j10 0) true (
Φ K.rabbetlaw08_awake [] H11 fun x18 H19 =>
 Q x18 H19) (
 JoinP (rabbetlaw08_LexBack_k11 Φ x3 Q) [] H11)
def rabbetlaw08_LexBack (Φ : Calls') (a0 : AV) (H : AH) (Q : Post) : Prop :=
Φ K.lex_Tokens [a0] H fun x1 H2 =>
 Do (aextract 0 x1) fun x3 =>
 Do (aextract 1 x1) fun x4 =>
 DoH (some (abox H2 true [.int .i64 0, .int .i64 0])) fun x5 H6 =>
 Do (astore H6 2 x5 x4) fun H7 =>
Φ K.rabbetlaw08_awake [] H7 fun x12 H13 =>
 Do (aun .not x12) fun x14 =>
 Gd3 x14 false (
 Do (afaddr 1 x5) fun x15 =>
 Do (aload H13 1 false x15) fun x16 =>
 Do (abin .neq x16 (.int .i64 0)) fun x17 =>
 JoinP (rabbetlaw08_LexBack_k12 Φ x3 Q) [x17] H13) (
 JoinP (rabbetlaw08_LexBack_k12 Φ x3 Q) [(.bool true)] H13) (
 False)
def ir_rabbetlaw08_LexBack : AFunc := ⟨84, [.tmp 2],
 .seq (.region [
   ⟨some 2, .mv (.k (.bool false)), none⟩])
 (.seq (.region [
   ⟨some 12, .mv (.t 0), none⟩,
   ⟨some 13, .call K.lex_Tokens [(.t 12)], none⟩,
   ⟨some 11, .mv (.t 13), none⟩,
   ⟨some 14, .extract 0 (.t 11), none⟩,
   ⟨some 15, .extract 1 (.t 11), none⟩,
   ⟨some 4, .alloc true [.int .i64 0, .int .i64 0], none⟩,
   ⟨some 3, .mv (.t 14), none⟩,
   ⟨none, .store 2 (.t 4) (.t 15), none⟩])
 (.join [] [2, 16, 17, 18, 19, 20, 21, 22, 23] (.join [22] [16, 17, 18, 19, 20, 21] (.region [
   ⟨some 16, .call K.rabbetlaw08_awake [], none⟩,
   ⟨some 17, .un .not (.t 16), none⟩,
   ⟨some 18, .mv (.t 17), none⟩,
   ⟨some 19, .faddr 1 (.t 4), some (18, false)⟩,
   ⟨some 20, .load 1 false (.t 19), some (18, false)⟩,
   ⟨some 21, .bin .neq (.t 20) (.k (.int .i64 0)), some (18, false)⟩,
   ⟨some 22, .pick (.t 18) (.k (.bool true)) (.t 21), none⟩])
 (.cond (.t 22) (.seq (.region [
     ⟨some 23, .call K.rabbetlaw08_awake [], none⟩,
     ⟨some 2, .mv (.t 23), none⟩])
   (.ret))
   (.skip)))
 (.seq (.region [
   ⟨some 5, .mv (.k (.str [])), none⟩])
 (.join [5] [6, 24, 25, 26, 27, 28, 29, 30, 31, 32, 33, 34, 35, 36, 37, 38, 39, 40, 41] (.seq (.region [
   ⟨some 6, .mv (.k (.int .i64 0)), none⟩])
 (.block 0 (.loop [5, 6] [24, 25, 26, 27, 28, 29, 30, 31, 32, 33, 34, 35, 36, 37, 38, 39, 40, 41] (.join [] [24, 25, 26, 27, 28, 29, 30, 31] (.join [31] [24, 25, 26, 27, 28, 29, 30] (.region [
   ⟨some 24, .mv (.t 6), none⟩,
   ⟨some 25, .mv (.t 3), none⟩,
   ⟨some 26, .len false (.t 25), none⟩,
   ⟨some 27, .bin .lss (.t 24) (.t 26), none⟩,
   ⟨some 28, .mv (.t 27), none⟩,
   ⟨some 29, .mv (.t 6), some (28, true)⟩,
   ⟨some 30, .bin .lss (.t 29) (.k (.int .i64 2000)), some (28, true)⟩,
   ⟨some 31, .pick (.t 28) (.t 30) (.k (.bool false)), none⟩])
 (.cond (.t 31) (.skip)
   (.exit 0)))
 (.seq (.block 1 (.region [
   ⟨some 34, .mv (.t 5), none⟩,
   ⟨some 35, .mv (.t 3), none⟩,
   ⟨some 36, .mv (.t 6), none⟩,
   ⟨some 37, .iaddr none 2 (.t 35) (.t 36), none⟩,
   ⟨some 38, .faddr 0 (.t 37), none⟩,
   ⟨some 39, .load 1 false (.t 38), none⟩,
   ⟨some 40, .bin .add (.t 39) (.k (.str [32])), none⟩,
   ⟨some 41, .bin .add (.t 34) (.t 40), none⟩,
   ⟨some 5, .mv (.t 41), none⟩]))
 (.region [
   ⟨some 32, .mv (.t 6), none⟩,
   ⟨some 33, .bin .add (.t 32) (.k (.int .i64 1)), none⟩,
   ⟨some 6, .mv (.t 33), none⟩]))))))
 (.seq (.region [
   ⟨some 43, .mv (.t 5), none⟩,
   ⟨some 44, .call K.lex_Tokens [(.t 43)], none⟩,
   ⟨some 42, .mv (.t 44), none⟩,
   ⟨some 45, .extract 0 (.t 42), none⟩,
   ⟨some 46, .extract 1 (.t 42), none⟩,
   ⟨some 8, .alloc true [.int .i64 0, .int .i64 0], none⟩,
   ⟨some 7, .mv (.t 45), none⟩,
   ⟨none, .store 2 (.t 8) (.t 46), none⟩])
 (.seq (.region [
   ⟨some 47, .mv (.t 3), none⟩,
   ⟨some 48, .len false (.t 47), none⟩,
   ⟨some 9, .mv (.t 48), none⟩])
 (.join [9] [49, 50] (.seq (.region [
   ⟨some 49, .mv (.t 9), none⟩,
   ⟨some 50, .bin .gtr (.t 49) (.k (.int .i64 2000)), none⟩])
 (.cond (.t 50) (.region [
     ⟨some 9, .mv (.k (.int .i64 2000)), none⟩])
   (.skip)))
 (.join [] [2, 51, 52, 53, 54, 55, 56, 57, 58, 59] (.join [59] [51, 52, 53, 54, 55, 56, 57, 58] (.region [
   ⟨some 51, .faddr 1 (.t 8), none⟩,
   ⟨some 52, .load 1 false (.t 51), none⟩,
   ⟨some 53, .bin .neq (.t 52) (.k (.int .i64 0)), none⟩,
   ⟨some 54, .mv (.t 53), none⟩,
   ⟨some 55, .mv (.t 7), some (54, false)⟩,
   ⟨some 56, .len false (.t 55), some (54, false)⟩,
   ⟨some 57, .mv (.t 9), some (54, false)⟩,
   ⟨some 58, .bin .neq (.t 56) (.t 57), some (54, false)⟩,
   ⟨some 59, .pick (.t 54) (.k (.bool true)) (.t 58), none⟩])
 (.cond (.t 59) (.seq (.region [
     ⟨some 2, .mv (.k (.bool false)), none⟩])
   (.ret))
   (.skip)))
 (.seq (.seq (.region [
   ⟨some 10, .mv (.k (.int .i64 0)), none⟩])
 (.block 2 (.loop [10] [2, 60, 61, 62, 63, 64, 65, 66, 67, 68, 69, 70, 71, 72, 73, 74, 75, 76, 77, 78, 79, 80, 81, 82, 83] (.seq (.seq (.region [
   ⟨some 60, .mv (.t 10), none⟩,
   ⟨some 61, .mv (.t 9), none⟩,
   ⟨some 62, .bin .lss (.t 60) (.t 61), none⟩])
 (.cond (.t 62) (.skip)
   (.exit 2)))
 (.join [] [2, 65, 66, 67, 68, 69, 70, 71, 72, 73, 74, 75, 76, 77, 78, 79, 80, 81, 82, 83] (.block 3 (.join [83] [65, 66, 67, 68, 69, 70, 71, 72, 73, 74, 75, 76, 77, 78, 79, 80, 81, 82] (.draw [
   ⟨some 65, .mv (.t 7), none⟩,
   ⟨some 66, .mv (.t 10), none⟩,
   ⟨some 67, .iaddr none 2 (.t 65) (.t 66), none⟩,
   ⟨some 68, .faddr 0 (.t 67), none⟩,
   ⟨some 69, .load 1 false (.t 68), none⟩,
   ⟨some 70, .mv (.t 3), none⟩,
   ⟨some 71, .mv (.t 10), none⟩,
   ⟨some 72, .iaddr none 2 (.t 70) (.t 71), none⟩,
   ⟨some 73, .faddr 0 (.t 72), none⟩,
   ⟨some 74, .load 1 false (.t 73), none⟩,
   ⟨some 75, .bin .neq (.t 69) (.t 74), none⟩,
   ⟨some 76, .mv (.t 75), none⟩,
   ⟨some 77, .mv (.t 7), some (76, false)⟩,
   ⟨some 78, .mv (.t 10), some (76, false)⟩,
   ⟨some 79, .iaddr none 2 (.t 77) (.t 78), some (76, false)⟩,
   ⟨some 80, .faddr 1 (.t 79), some (76, false)⟩,
   ⟨some 81, .load 1 false (.t 80), some (76, false)⟩,
   ⟨some 82, .bin .neq (.t 81) (.k (.int .i64 1)), some (76, false)⟩,
   ⟨some 83, .pick (.t 76) (.k (.bool true)) (.t 82), none⟩]
 [[], [], [0, 1], [0, 1, 2], [0, 1, 2, 3], [], [], [5, 6], [5, 6, 7], [5, 6, 7, 8], [0, 1, 2, 3, 4, 5, 6, 7, 8, 9], [0, 1, 2, 3, 4, 5, 6, 7, 8, 9, 10], [0, 1, 2, 3, 4, 5, 6, 7, 8, 9, 10, 11], [0, 1, 2, 3, 4, 5, 6, 7, 8, 9, 10, 11], [0, 1, 2, 3, 4, 5, 6, 7, 8, 9, 10, 11, 12, 13], [0, 1, 2, 3, 4, 5, 6, 7, 8, 9, 10, 11, 12, 13, 14], [0, 1, 2, 3, 4, 5, 6, 7, 8, 9, 10, 11, 12, 13, 14, 15], [0, 1, 2, 3, 4, 5, 6, 7, 8, 9, 10, 11, 12, 13, 14, 15, 16], [0, 1, 2, 3, 4, 5, 6, 7, 8, 9, 10, 11, 12, 13, 14, 15, 16, 17]] [] [0, 1, 2, 3, 4, 5, 6, 7, 8, 9, 10, 11, 12, 13, 14, 15, 16, 17, 18])
 (.cond (.t 83) (.seq (.region [
     ⟨some 2, .mv (.k (.bool false)), none⟩])
   (.ret))
   (.skip))))
 (.region [
   ⟨some 63, .mv (.t 10), none⟩,
   ⟨some 64, .bin .add (.t 63) (.k (.int .i64 1)), none⟩,
   ⟨some 10, .mv (.t 64), none⟩]))))))
 (.seq (.region [
   ⟨some 2, .mv (.k (.bool true)), none⟩])
 (.ret)))))))))))⟩
theorem eq_rabbetlaw08_LexBack (Φ : Calls') (a0 : AV) (H : AH) (Q : Post) : fnE1 Φ ir_rabbetlaw08_LexBack [a0] H Q = rabbetlaw08_LexBack Φ a0 H Q := by kernel_rfl

/-! rabbet/rabbetlaw08.LexJoins -/
def rabbetlaw08_LexJoins_k1 (Φ : Calls') (s47 : List AV × AH) (L48 : (List AV × AH) → Prop) (Q : Post) : List AV → AH → Prop := fun j51 H52 =>
 Do (abin .add (sl s47.1 1) (.int .i64 1)) fun x56 =>
 L48 ([(sl j51 0), x56], H52)
def rabbetlaw08_LexJoins_k2 (Φ : Calls') (s71 : List AV × AH) (L72 : (List AV × AH) → Prop) (Q : Post) : List AV → AH → Prop := fun j75 H76 =>
 Do (abin .add (sl s71.1 0) (.int .i64 1)) fun x92 =>
 L72 ([x92], H76)
def rabbetlaw08_LexJoins_k3 (Φ : Calls') (x25 : AV) (x78 : AV) (s71 : List AV × AH) (L72 : (List AV × AH) → Prop) (Q : Post) : List AV → AH → Prop := fun j81 H82 =>
 Do (aiaddr none 2 x25 (sl s71.1 0)) fun x88 =>
 Do (aload H82 2 true x88) fun x89 =>
 Do (aload H82 2 true x78) fun x90 =>
 Do (aeqAgg true [.t, .n] x89 x90) fun x91 =>
 Gd x91 true (
 Q (.bool false) H82) (
 JoinP (rabbetlaw08_LexJoins_k2 Φ s71 L72 Q) [] H82)
def rabbetlaw08_LexJoins_k4 (Φ : Calls') (Q : Post) : List AV → AH → Prop := fun j69 H70 =>
Φ K.rabbetlaw08_awake [] H70 fun x103 H104 =>
 Q x103 H104
def rabbetlaw08_LexJoins_l5 (Φ : Calls') (x9 : AV) (x16 : AV) (x25 : AV) (j45 : List AV) (Q : Post) : (List AV × AH) → ((List AV × AH) → Prop) → Prop := fun s71 L72 =>
 Do (alen false x25) fun x73 =>
 Do (abin .lss (sl s71.1 0) x73) fun x74 =>
 Gd x74 true (
 Do (abuild [.str [], .int .i64 0] []) fun x77 =>
 DoH (some (abox s71.2 true [.str [], .int .i64 0])) fun x78 H79 =>
 Do (astore H79 2 x78 x77) fun H80 =>
 Do (alen false x9) fun x83 =>
 Do (abin .lss (sl s71.1 0) x83) fun x84 =>
 Gd x84 true (
 Do (aiaddr none 2 x9 (sl s71.1 0)) fun x85 =>
 Do (aload H80 2 true x85) fun x86 =>
 Do (astore H80 2 x78 x86) fun H87 =>
 JoinP (rabbetlaw08_LexJoins_k3 Φ x25 x78 s71 L72 Q) [] H87) (
 Do (alen false x9) fun x93 =>
 Do (abin .sub (sl s71.1 0) x93) fun x94 =>
 Do (aiaddr none 2 x16 x94) fun x95 =>
 Do (aload H80 2 true x95) fun x96 =>
 Do (astore H80 2 x78 x96) fun H97 =>
 Do (afaddr 1 x78) fun x98 =>
 Do (aload H97 1 false x98) fun x99 =>
 Do (abin .add x99 (sl j45 0)) fun x100 =>
 Do (afaddr 1 x78) fun x101 =>
 Do (astore H97 1 x101 x100) fun H102 =>
 JoinP (rabbetlaw08_LexJoins_k3 Φ x25 x78 s71 L72 Q) [] H102)) (
 JoinP (rabbetlaw08_LexJoins_k4 Φ Q) [] s71.2)
def rabbetlaw08_LexJoins_k6 (Φ : Calls') (x9 : AV) (x16 : AV) (x25 : AV) (j45 : List AV) (Q : Post) : List AV → AH → Prop := fun j57 H58 =>
 LoopP (rabbetlaw08_LexJoins_l5 Φ x9 x16 x25 j45 Q) ([(.int .i64 0)], H58)
def rabbetlaw08_LexJoins_k7 (Φ : Calls') (x9 : AV) (x16 : AV) (x25 : AV) (j45 : List AV) (Q : Post) : List AV → AH → Prop := fun j59 H60 =>
 Gd (sl j59 0) true (
 Q (.bool false) H60) (
 JoinP (rabbetlaw08_LexJoins_k6 Φ x9 x16 x25 j45 Q) [] H60)
def rabbetlaw08_LexJoins_k8 (Φ : Calls') (x9 : AV) (x16 : AV) (x25 : AV) (x27 : AV) (Q : Post) : List AV → AH → Prop := fun j45 H46 =>
 Do (afaddr 1 x27) fun x61 =>
 Do (aload H46 1 false x61) fun x62 =>
 Do (abin .neq x62 (.int .i64 0)) fun x63 =>
 Gd3 x63 false (
 Do (alen false x25) fun x64 =>
 Do (alen false x9) fun x65 =>
 Do (alen false x16) fun x66 =>
 Do (abin .add x65 x66) fun x67 =>
 Do (abin .neq x64 x67) fun x68 =>
 JoinP (rabbetlaw08_LexJoins_k7 Φ x9 x16 x25 j45 Q) [x68] H46) (
 JoinP (rabbetlaw08_LexJoins_k7 Φ x9 x16 x25 j45 Q) [(.bool true)] H46) (
 False)
def rabbetlaw08_LexJoins_l9 (Φ : Calls') (a0 : AV) (x9 : AV) (x16 : AV) (x25 : AV) (x27 : AV) (Q : Post) : (List AV × AH) → ((List AV × AH) → Prop) → Prop := fun s47 L48 =>
 Do (alen true a0) fun x49 =>
 Do (abin .lss (sl s47.1 1) x49) fun x50 =>
 Gd x50 true (
 Do (aidxs a0 (sl s47.1 1)) fun x53 =>
 Do (abin .eql x53 (.int .u8 10)) fun x54 =>
 Gd x54 true (
 Do (abin .add (sl s47.1 0) (.int .i64 1)) fun x55 =>
 JoinP (rabbetlaw08_LexJoins_k1 Φ s47 L48 Q) [x55] s47.2) (
 JoinP (rabbetlaw08_LexJoins_k1 Φ s47 L48 Q) [(sl s47.1 0)] s47.2)) (
 JoinP (rabbetlaw08_LexJoins_k8 Φ x9 x16 x25 x27 Q) [(sl s47.1 0)] s47.2)
def rabbetlaw08_LexJoins_k10 (Φ : Calls') (a0 : AV) (x9 : AV) (x16 : AV) (x25 : AV) (x27 : AV) (Q : Post) : List AV → AH → Prop := fun j30 H31 =>
 LoopP (rabbetlaw08_LexJoins_l9 Φ a0 x9 x16 x25 x27 Q) ([(.int .i64 1), (.int .i64 0)], H31)
def rabbetlaw08_LexJoins_k11 (Φ : Calls') (a0 : AV) (x9 : AV) (x16 : AV) (x25 : AV) (x27 : AV) (Q : Post) : List AV → AH → Prop := fun j32 H33 =>
 Gd (sl j32 0) true (
Φ K.rabbetlaw08_awake [] H33 fun x40 H41 =>
 Gd3 x40 true (
 Do (afaddr 1 x27) fun x42 =>
 Do (aload H41 1 false x42) fun x43 =>
 Do (abin .neq x43 (.int .i64 0)) fun x44 =>
 Q x44 H41) (
 Q (.bool false) H41) (
 False)) (
 JoinP (rabbetlaw08_LexJoins_k10 Φ a0 x9 x16 x25 x27 Q) [] H33)
def rabbetlaw08_LexJoins (Φ : Calls') (a0 : AV) (a1 : AV) (H : AH) (Q : Post) : Prop :=
 Do (alen true a0) fun x1 =>
 Do (alen true a1) fun x2 =>
 Do (abin .add x1 x2) fun x3 =>
 Do (abin .gtr x3 (.int .i64 100000)) fun x4 =>
 Gd x4 true (
Φ K.rabbetlaw08_awake [] H fun x5 H6 =>
 Q x5 H6) (
Φ K.lex_Tokens [a0] H fun x7 H8 =>
 Do (aextract 0 x7) fun x9 =>
 Do (aextract 1 x7) fun x10 =>
 DoH (some (abox H8 true [.int .i64 0, .int .i64 0])) fun x11 H12 =>
 Do (astore H12 2 x11 x10) fun H13 =>
Φ K.lex_Tokens [a1] H13 fun x14 H15 =>
 Do (aextract 0 x14) fun x16 =>
 Do (aextract 1 x14) fun x17 =>
 DoH (some (abox H15 true [.int .i64 0, .int .i64 0])) fun x18 H19 =>
 Do (astore H19 2 x18 x17) fun H20 =>
 Do (abin .add a0 (.str [10])) fun x21 =>
 Do (abin .add x21 a1) fun x22 =>
Φ K.lex_Tokens [x22] H20 fun x23 H24 =>
 Do (aextract 0 x23) fun x25 =>
 Do (aextract 1 x23) fun x26 =>
 DoH (some (abox H24 true [.int .i64 0, .int .i64 0])) fun x27 H28 =>
 Do (astore H28 2 x27 x26) fun H29 =>
 Do (afaddr 1 x11) fun x34 =>
 Do (aload H29 1 false x34) fun x35 =>
 Do (abin .neq x35 (.int .i64 0)) fun x36 =>
 Gd3 x36 false (
 Do (afaddr 1 x18) fun x37 =>
 Do (aload H29 1 false x37) fun x38 =>
 Do (abin .neq x38 (.int .i64 0)) fun x39 =>
 JoinP (rabbetlaw08_LexJoins_k11 Φ a0 x9 x16 x25 x27 Q) [x39] H29) (
 JoinP (rabbetlaw08_LexJoins_k11 Φ a0 x9 x16 x25 x27 Q) [(.bool true)] H29) (
 False))
def ir_rabbetlaw08_LexJoins : AFunc := ⟨113, [.tmp 4],
 .seq (.region [
   ⟨some 4, .mv (.k (.bool false)), none⟩])
 (.seq (.seq (.region [
   ⟨some 15, .mv (.t 0), none⟩,
   ⟨some 16, .len true (.t 15), none⟩,
   ⟨some 17, .mv (.t 1), none⟩,
   ⟨some 18, .len true (.t 17), none⟩,
   ⟨some 19, .bin .add (.t 16) (.t 18), none⟩,
   ⟨some 20, .bin .gtr (.t 19) (.k (.int .i64 100000)), none⟩])
 (.cond (.t 20) (.seq (.region [
     ⟨some 21, .call K.rabbetlaw08_awake [], none⟩,
     ⟨some 4, .mv (.t 21), none⟩])
   (.ret))
   (.skip)))
 (.seq (.region [
   ⟨some 23, .mv (.t 0), none⟩,
   ⟨some 24, .call K.lex_Tokens [(.t 23)], none⟩,
   ⟨some 22, .mv (.t 24), none⟩,
   ⟨some 25, .extract 0 (.t 22), none⟩,
   ⟨some 26, .extract 1 (.t 22), none⟩,
   ⟨some 6, .alloc true [.int .i64 0, .int .i64 0], none⟩,
   ⟨some 5, .mv (.t 25), none⟩,
   ⟨none, .store 2 (.t 6) (.t 26), none⟩])
 (.seq (.region [
   ⟨some 28, .mv (.t 1), none⟩,
   ⟨some 29, .call K.lex_Tokens [(.t 28)], none⟩,
   ⟨some 27, .mv (.t 29), none⟩,
   ⟨some 30, .extract 0 (.t 27), none⟩,
   ⟨some 31, .extract 1 (.t 27), none⟩,
   ⟨some 8, .alloc true [.int .i64 0, .int .i64 0], none⟩,
   ⟨some 7, .mv (.t 30), none⟩,
   ⟨none, .store 2 (.t 8) (.t 31), none⟩])
 (.seq (.region [
   ⟨some 33, .mv (.t 0), none⟩,
   ⟨some 34, .bin .add (.t 33) (.k (.str [10])), none⟩,
   ⟨some 35, .mv (.t 1), none⟩,
   ⟨some 36, .bin .add (.t 34) (.t 35), none⟩,
   ⟨some 37, .call K.lex_Tokens [(.t 36)], none⟩,
   ⟨some 32, .mv (.t 37), none⟩,
   ⟨some 38, .extract 0 (.t 32), none⟩,
   ⟨some 39, .extract 1 (.t 32), none⟩,
   ⟨some 10, .alloc true [.int .i64 0, .int .i64 0], none⟩,
   ⟨some 9, .mv (.t 38), none⟩,
   ⟨none, .store 2 (.t 10) (.t 39), none⟩])
 (.join [] [4, 40, 41, 42, 43, 44, 45, 46, 47, 48, 49, 50, 51, 52, 53] (.join [47] [40, 41, 42, 43, 44, 45, 46] (.region [
   ⟨some 40, .faddr 1 (.t 6), none⟩,
   ⟨some 41, .load 1 false (.t 40), none⟩,
   ⟨some 42, .bin .neq (.t 41) (.k (.int .i64 0)), none⟩,
   ⟨some 43, .mv (.t 42), none⟩,
   ⟨some 44, .faddr 1 (.t 8), some (43, false)⟩,
   ⟨some 45, .load 1 false (.t 44), some (43, false)⟩,
   ⟨some 46, .bin .neq (.t 45) (.k (.int .i64 0)), some (43, false)⟩,
   ⟨some 47, .pick (.t 43) (.k (.bool true)) (.t 46), none⟩])
 (.cond (.t 47) (.seq (.region [
     ⟨some 48, .call K.rabbetlaw08_awake [], none⟩,
     ⟨some 49, .mv (.t 48), none⟩,
     ⟨some 50, .faddr 1 (.t 10), some (49, true)⟩,
     ⟨some 51, .load 1 false (.t 50), some (49, true)⟩,
     ⟨some 52, .bin .neq (.t 51) (.k (.int .i64 0)), some (49, true)⟩,
     ⟨some 53, .pick (.t 49) (.t 52) (.k (.bool false)), none⟩,
     ⟨some 4, .mv (.t 53), none⟩])
   (.ret))
   (.skip)))
 (.seq (.region [
   ⟨some 11, .mv (.k (.int .i64 1)), none⟩])
 (.join [11] [12, 54, 55, 56, 57, 58, 59, 60, 61, 62, 63, 64, 65] (.seq (.region [
   ⟨some 12, .mv (.k (.int .i64 0)), none⟩])
 (.block 0 (.loop [11, 12] [54, 55, 56, 57, 58, 59, 60, 61, 62, 63, 64, 65] (.seq (.seq (.region [
   ⟨some 54, .mv (.t 12), none⟩,
   ⟨some 55, .mv (.t 0), none⟩,
   ⟨some 56, .len true (.t 55), none⟩,
   ⟨some 57, .bin .lss (.t 54) (.t 56), none⟩])
 (.cond (.t 57) (.skip)
   (.exit 0)))
 (.join [11] [60, 61, 62, 63, 64, 65] (.block 1 (.seq (.region [
   ⟨some 60, .mv (.t 0), none⟩,
   ⟨some 61, .mv (.t 12), none⟩,
   ⟨some 62, .idxs (.t 60) (.t 61), none⟩,
   ⟨some 63, .bin .eql (.t 62) (.k (.int .u8 10)), none⟩])
 (.cond (.t 63) (.region [
     ⟨some 64, .mv (.t 11), none⟩,
     ⟨some 65, .bin .add (.t 64) (.k (.int .i64 1)), none⟩,
     ⟨some 11, .mv (.t 65), none⟩])
   (.skip))))
 (.region [
   ⟨some 58, .mv (.t 12), none⟩,
   ⟨some 59, .bin .add (.t 58) (.k (.int .i64 1)), none⟩,
   ⟨some 12, .mv (.t 59), none⟩]))))))
 (.join [] [4, 66, 67, 68, 69, 70, 71, 72, 73, 74, 75, 76, 77, 78] (.join [78] [66, 67, 68, 69, 70, 71, 72, 73, 74, 75, 76, 77] (.region [
   ⟨some 66, .faddr 1 (.t 10), none⟩,
   ⟨some 67, .load 1 false (.t 66), none⟩,
   ⟨some 68, .bin .neq (.t 67) (.k (.int .i64 0)), none⟩,
   ⟨some 69, .mv (.t 68), none⟩,
   ⟨some 70, .mv (.t 9), some (69, false)⟩,
   ⟨some 71, .len false (.t 70), some (69, false)⟩,
   ⟨some 72, .mv (.t 5), some (69, false)⟩,
   ⟨some 73, .len false (.t 72), some (69, false)⟩,
   ⟨some 74, .mv (.t 7), some (69, false)⟩,
   ⟨some 75, .len false (.t 74), some (69, false)⟩,
   ⟨some 76, .bin .add (.t 73) (.t 75), some (69, false)⟩,
   ⟨some 77, .bin .neq (.t 71) (.t 76), some (69, false)⟩,
   ⟨some 78, .pick (.t 69) (.k (.bool true)) (.t 77), none⟩])
 (.cond (.t 78) (.seq (.region [
     ⟨some 4, .mv (.k (.bool false)), none⟩])
   (.ret))
   (.skip)))
 (.join [] [4, 13, 14, 79, 80, 81, 82, 83, 84, 85, 86, 87, 88, 89, 90, 91, 92, 93, 94, 95, 96, 97, 98, 99, 100, 101, 102, 103, 104, 105, 106, 107, 108, 109, 110, 111] (.seq (.region [
   ⟨some 13, .mv (.k (.int .i64 0)), none⟩])
 (.block 2 (.loop [13] [4, 14, 79, 80, 81, 82, 83, 84, 85, 86, 87, 88, 89, 90, 91, 92, 93, 94, 95, 96, 97, 98, 99, 100, 101, 102, 103, 104, 105, 106, 107, 108, 109, 110, 111] (.seq (.seq (.region [
   ⟨some 79, .mv (.t 13), none⟩,
   ⟨some 80, .mv (.t 9), none⟩,
   ⟨some 81, .len false (.t 80), none⟩,
   ⟨some 82, .bin .lss (.t 79) (.t 81), none⟩])
 (.cond (.t 82) (.skip)
   (.exit 2)))
 (.join [] [4, 14, 85, 86, 87, 88, 89, 90, 91, 92, 93, 94, 95, 96, 97, 98, 99, 100, 101, 102, 103, 104, 105, 106, 107, 108, 109, 110, 111] (.block 3 (.seq (.region [
   ⟨some 85, .build [.str [], .int .i64 0] [], none⟩,
   ⟨some 14, .alloc true [.str [], .int .i64 0], none⟩,
   ⟨none, .store 2 (.t 14) (.t 85), none⟩])
 (.join [] [86, 87, 88, 89, 90, 91, 92, 93, 94, 95, 96, 97, 98, 99, 100, 101, 102, 103, 104, 105] (.seq (.region [
   ⟨some 86, .mv (.t 13), none⟩,
   ⟨some 87, .mv (.t 5), none⟩,
   ⟨some 88, .len false (.t 87), none⟩,
   ⟨some 89, .bin .lss (.t 86) (.t 88), none⟩])
 (.cond (.t 89) (.region [
     ⟨some 90, .mv (.t 5), none⟩,
     ⟨some 91, .mv (.t 13), none⟩,
     ⟨some 92, .iaddr none 2 (.t 90) (.t 91), none⟩,
     ⟨some 93, .load 2 true (.t 92), none⟩,
     ⟨none, .store 2 (.t 14) (.t 93), none⟩])
   (.seq (.region [
     ⟨some 94, .mv (.t 7), none⟩,
     ⟨some 95, .mv (.t 13), none⟩,
     ⟨some 96, .mv (.t 5), none⟩,
     ⟨some 97, .len false (.t 96), none⟩,
     ⟨some 98, .bin .sub (.t 95) (.t 97), none⟩,
     ⟨some 99, .iaddr none 2 (.t 94) (.t 98), none⟩,
     ⟨some 100, .load 2 true (.t 99), none⟩,
     ⟨none, .store 2 (.t 14) (.t 100), none⟩])
   (.region [
     ⟨some 101, .faddr 1 (.t 14), none⟩,
     ⟨some 102, .load 1 false (.t 101), none⟩,
     ⟨some 103, .mv (.t 11), none⟩,
     ⟨some 104, .bin .add (.t 102) (.t 103), none⟩,
     ⟨some 105, .faddr 1 (.t 14), none⟩,
     ⟨none, .store 1 (.t 105) (.t 104), none⟩]))))
 (.seq (.draw [
   ⟨some 106, .mv (.t 9), none⟩,
   ⟨some 107, .mv (.t 13), none⟩,
   ⟨some 108, .iaddr none 2 (.t 106) (.t 107), none⟩,
   ⟨some 109, .load 2 true (.t 108), none⟩,
   ⟨some 110, .load 2 true (.t 14), none⟩,
   ⟨some 111, .eqagg true [.t, .n] (.t 109) (.t 110), none⟩]
 [[], [], [0, 1], [0, 1, 2], [], [0, 1, 2, 3, 4]] [] [0, 1, 2, 3, 4, 5])
 (.cond (.t 111) (.seq (.region [
     ⟨some 4, .mv (.k (.bool false)), none⟩])
   (.ret))
   (.skip))))))
 (.region [
   ⟨some 83, .mv (.t 13), none⟩,
   ⟨some 84, .bin .add (.t 83) (.k (.int .i64 1)), none⟩,
   ⟨some 13, .mv (.t 84), none⟩]))))))
 (.seq (.region [
   ⟨some 112, .call K.rabbetlaw08_awake [], none⟩,
   ⟨some 4, .mv (.t 112), none⟩])
 (.ret)))))))))))⟩
theorem eq_rabbetlaw08_LexJoins (Φ : Calls') (a0 a1 : AV) (H : AH) (Q : Post) : fnE1 Φ ir_rabbetlaw08_LexJoins [a0, a1] H Q = rabbetlaw08_LexJoins Φ a0 a1 H Q := by kernel_rfl

/-! rabbet/rabbetlaw08.awake -/
def rabbetlaw08_awake_k1 (Φ : Calls') (Q : Post) : List AV → AH → Prop := fun j45 H46 =>
 Gd3 (sl j45 0) true (
Φ K.lex_Keyword [(.str [120])] H46 fun x49 H50 =>
 Do (aun .not x49) fun x51 =>
 Q x51 H50) (
 Q (.bool false) H46) (
 False)
def rabbetlaw08_awake_k2 (Φ : Calls') (Q : Post) : List AV → AH → Prop := fun j40 H41 =>
 Gd3 (sl j40 0) true (
Φ K.lex_Keyword [(.str [97, 49, 50, 56])] H41 fun x47 H48 =>
 JoinP (rabbetlaw08_awake_k1 Φ Q) [x47] H48) (
 JoinP (rabbetlaw08_awake_k1 Φ Q) [(.bool false)] H41) (
 False)
def rabbetlaw08_awake_k3 (Φ : Calls') (x12 : AV) (Q : Post) : List AV → AH → Prop := fun j34 H35 =>
 Gd3 (sl j34 0) true (
 Do (aload H35 2 true x12) fun x42 =>
 Do (abuild [.int .i64 0, .int .i64 0] [(0, 1, (.int .i64 2)), (1, 1, (.int .i64 3))]) fun x43 =>
 Do (aeqAgg false [.n, .n] x42 x43) fun x44 =>
 JoinP (rabbetlaw08_awake_k2 Φ Q) [x44] H35) (
 JoinP (rabbetlaw08_awake_k2 Φ Q) [(.bool false)] H35) (
 False)
def rabbetlaw08_awake_k4 (Φ : Calls') (x3 : AV) (x12 : AV) (Q : Post) : List AV → AH → Prop := fun j28 H29 =>
 Gd3 (sl j28 0) true (
 Do (aiaddr none 2 x3 (.int .i64 5)) fun x36 =>
 Do (afaddr 1 x36) fun x37 =>
 Do (aload H29 1 false x37) fun x38 =>
 Do (abin .eql x38 (.int .i64 2)) fun x39 =>
 JoinP (rabbetlaw08_awake_k3 Φ x12 Q) [x39] H29) (
 JoinP (rabbetlaw08_awake_k3 Φ x12 Q) [(.bool false)] H29) (
 False)
def rabbetlaw08_awake_k5 (Φ : Calls') (x3 : AV) (x12 : AV) (Q : Post) : List AV → AH → Prop := fun j22 H23 =>
 Gd3 (sl j22 0) true (
 Do (aiaddr none 2 x3 (.int .i64 5)) fun x30 =>
 Do (afaddr 0 x30) fun x31 =>
 Do (aload H23 1 false x31) fun x32 =>
 Do (abin .eql x32 (.str [60, 60])) fun x33 =>
 JoinP (rabbetlaw08_awake_k4 Φ x3 x12 Q) [x33] H23) (
 JoinP (rabbetlaw08_awake_k4 Φ x3 x12 Q) [(.bool false)] H23) (
 False)
def rabbetlaw08_awake_k6 (Φ : Calls') (x3 : AV) (x12 : AV) (Q : Post) : List AV → AH → Prop := fun j15 H16 =>
 Gd3 (sl j15 0) true (
 Do (aiaddr none 2 x3 (.int .i64 1)) fun x24 =>
 Do (afaddr 0 x24) fun x25 =>
 Do (aload H16 1 false x25) fun x26 =>
 Do (abin .eql x26 (.str [120, 49])) fun x27 =>
 JoinP (rabbetlaw08_awake_k5 Φ x3 x12 Q) [x27] H16) (
 JoinP (rabbetlaw08_awake_k5 Φ x3 x12 Q) [(.bool false)] H16) (
 False)
def rabbetlaw08_awake (Φ : Calls') (H : AH) (Q : Post) : Prop :=
Φ K.lex_Tokens [(.str [108, 101, 116, 32, 120, 49, 32, 61, 10, 40, 32, 53, 60, 60, 121, 32, 41])] H fun x1 H2 =>
 Do (aextract 0 x1) fun x3 =>
 Do (aextract 1 x1) fun x4 =>
 DoH (some (abox H2 true [.int .i64 0, .int .i64 0])) fun x5 H6 =>
 Do (astore H6 2 x5 x4) fun H7 =>
Φ K.lex_Tokens [(.str [97, 10, 62])] H7 fun x8 H9 =>
 Do (aextract 0 x8) fun x10 =>
 Do (aextract 1 x8) fun x11 =>
 DoH (some (abox H9 true [.int .i64 0, .int .i64 0])) fun x12 H13 =>
 Do (astore H13 2 x12 x11) fun H14 =>
 Do (afaddr 1 x5) fun x17 =>
 Do (aload H14 1 false x17) fun x18 =>
 Do (abin .eql x18 (.int .i64 0)) fun x19 =>
 Gd3 x19 true (
 Do (alen false x3) fun x20 =>
 Do (abin .eql x20 (.int .i64 8)) fun x21 =>
 JoinP (rabbetlaw08_awake_k6 Φ x3 x12 Q) [x21] H14) (
 JoinP (rabbetlaw08_awake_k6 Φ x3 x12 Q) [(.bool false)] H14) (
 False)
def ir_rabbetlaw08_awake : AFunc := ⟨54, [.tmp 0],
 .seq (.region [
   ⟨some 0, .mv (.k (.bool false)), none⟩])
 (.seq (.region [
   ⟨some 6, .call K.lex_Tokens [(.k (.str [108, 101, 116, 32, 120, 49, 32, 61, 10, 40, 32, 53, 60, 60, 121, 32, 41]))], none⟩,
   ⟨some 5, .mv (.t 6), none⟩,
   ⟨some 7, .extract 0 (.t 5), none⟩,
   ⟨some 8, .extract 1 (.t 5), none⟩,
   ⟨some 2, .alloc true [.int .i64 0, .int .i64 0], none⟩,
   ⟨some 1, .mv (.t 7), none⟩,
   ⟨none, .store 2 (.t 2) (.t 8), none⟩])
 (.seq (.region [
   ⟨some 10, .call K.lex_Tokens [(.k (.str [97, 10, 62]))], none⟩,
   ⟨some 9, .mv (.t 10), none⟩,
   ⟨some 11, .extract 0 (.t 9), none⟩,
   ⟨some 12, .extract 1 (.t 9), none⟩,
   ⟨some 4, .alloc true [.int .i64 0, .int .i64 0], none⟩,
   ⟨some 3, .mv (.t 11), none⟩,
   ⟨none, .store 2 (.t 4) (.t 12), none⟩])
 (.seq (.rjoin [20] [13, 14, 15, 16, 17, 18, 19] [
   ⟨some 13, .faddr 1 (.t 2), none⟩,
   ⟨some 14, .load 1 false (.t 13), none⟩,
   ⟨some 15, .bin .eql (.t 14) (.k (.int .i64 0)), none⟩,
   ⟨some 16, .mv (.t 15), none⟩,
   ⟨some 17, .mv (.t 1), some (16, true)⟩,
   ⟨some 18, .len false (.t 17), some (16, true)⟩,
   ⟨some 19, .bin .eql (.t 18) (.k (.int .i64 8)), some (16, true)⟩,
   ⟨some 20, .pick (.t 16) (.t 19) (.k (.bool false)), none⟩]
 (.rjoin [27] [21, 22, 23, 24, 25, 26] [
   ⟨some 21, .mv (.t 20), none⟩,
   ⟨some 22, .mv (.t 1), some (21, true)⟩,
   ⟨some 23, .iaddr none 2 (.t 22) (.k (.int .i64 1)), some (21, true)⟩,
   ⟨some 24, .faddr 0 (.t 23), some (21, true)⟩,
   ⟨some 25, .load 1 false (.t 24), some (21, true)⟩,
   ⟨some 26, .bin .eql (.t 25) (.k (.str [120, 49])), some (21, true)⟩,
   ⟨some 27, .pick (.t 21) (.t 26) (.k (.bool false)), none⟩]
 (.rjoin [34] [28, 29, 30, 31, 32, 33] [
   ⟨some 28, .mv (.t 27), none⟩,
   ⟨some 29, .mv (.t 1), some (28, true)⟩,
   ⟨some 30, .iaddr none 2 (.t 29) (.k (.int .i64 5)), some (28, true)⟩,
   ⟨some 31, .faddr 0 (.t 30), some (28, true)⟩,
   ⟨some 32, .load 1 false (.t 31), some (28, true)⟩,
   ⟨some 33, .bin .eql (.t 32) (.k (.str [60, 60])), some (28, true)⟩,
   ⟨some 34, .pick (.t 28) (.t 33) (.k (.bool false)), none⟩]
 (.rjoin [41] [35, 36, 37, 38, 39, 40] [
   ⟨some 35, .mv (.t 34), none⟩,
   ⟨some 36, .mv (.t 1), some (35, true)⟩,
   ⟨some 37, .iaddr none 2 (.t 36) (.k (.int .i64 5)), some (35, true)⟩,
   ⟨some 38, .faddr 1 (.t 37), some (35, true)⟩,
   ⟨some 39, .load 1 false (.t 38), some (35, true)⟩,
   ⟨some 40, .bin .eql (.t 39) (.k (.int .i64 2)), some (35, true)⟩,
   ⟨some 41, .pick (.t 35) (.t 40) (.k (.bool false)), none⟩]
 (.rjoin [46] [42, 43, 44, 45] [
   ⟨some 42, .mv (.t 41), none⟩,
   ⟨some 43, .load 2 true (.t 4), some (42, true)⟩,
   ⟨some 44, .build [.int .i64 0, .int .i64 0] [(0, 1, (.k (.int .i64 2))), (1, 1, (.k (.int .i64 3)))], some (42, true)⟩,
   ⟨some 45, .eqagg false [.n, .n] (.t 43) (.t 44), some (42, true)⟩,
   ⟨some 46, .pick (.t 42) (.t 45) (.k (.bool false)), none⟩]
 (.rjoin [49] [47, 48] [
   ⟨some 47, .mv (.t 46), none⟩,
   ⟨some 48, .call K.lex_Keyword [(.k (.str [97, 49, 50, 56]))], some (47, true)⟩,
   ⟨some 49, .pick (.t 47) (.t 48) (.k (.bool false)), none⟩]
 (.region [
   ⟨some 50, .mv (.t 49), none⟩,
   ⟨some 51, .call K.lex_Keyword [(.k (.str [120]))], some (50, true)⟩,
   ⟨some 52, .un .not (.t 51), some (50, true)⟩,
   ⟨some 53, .pick (.t 50) (.t 52) (.k (.bool false)), none⟩,
   ⟨some 0, .mv (.t 53), none⟩])))))))
 (.ret))))⟩
theorem eq_rabbetlaw08_awake (Φ : Calls') (H : AH) (Q : Post) : fnE1 Φ ir_rabbetlaw08_awake [] H Q = rabbetlaw08_awake Φ H Q := by kernel_rfl

def tab_rabbetlaw08 : Tab := [
  (K.rabbetlaw08_LexKeywords, ir_rabbetlaw08_LexKeywords),
  (K.rabbetlaw08_LexBack, ir_rabbetlaw08_LexBack),
  (K.rabbetlaw08_LexJoins, ir_rabbetlaw08_LexJoins),
  (K.rabbetlaw08_awake, ir_rabbetlaw08_awake)]

theorem cl_rabbetlaw08_LexKeywords {Φ : Calls'} (hT : Cl Φ tab_rabbetlaw08) {a0 a1 : AV} {H : AH} {Q : Post} (h : rabbetlaw08_LexKeywords Φ a0 a1 H Q) : Φ K.rabbetlaw08_LexKeywords [a0, a1] H Q := hT.call (by kernel_rfl) (by kernel_rfl) (by rw [eq_rabbetlaw08_LexKeywords]; exact h)
theorem cl_rabbetlaw08_LexBack {Φ : Calls'} (hT : Cl Φ tab_rabbetlaw08) {a0 : AV} {H : AH} {Q : Post} (h : rabbetlaw08_LexBack Φ a0 H Q) : Φ K.rabbetlaw08_LexBack [a0] H Q := hT.call (by kernel_rfl) (by kernel_rfl) (by rw [eq_rabbetlaw08_LexBack]; exact h)
theorem cl_rabbetlaw08_LexJoins {Φ : Calls'} (hT : Cl Φ tab_rabbetlaw08) {a0 a1 : AV} {H : AH} {Q : Post} (h : rabbetlaw08_LexJoins Φ a0 a1 H Q) : Φ K.rabbetlaw08_LexJoins [a0, a1] H Q := hT.call (by kernel_rfl) (by kernel_rfl) (by rw [eq_rabbetlaw08_LexJoins]; exact h)
theorem cl_rabbetlaw08_awake {Φ : Calls'} (hT : Cl Φ tab_rabbetlaw08) {H : AH} {Q : Post} (h : rabbetlaw08_awake Φ H Q) : Φ K.rabbetlaw08_awake [] H Q := hT.call (by kernel_rfl) (by kernel_rfl) (by rw [eq_rabbetlaw08_awake]; exact h)
end Rb.S

/- Package rabbetlaw08: its functions as runs. By gen.py. -/
set_option linter.unusedVariables false
namespace Rb.R
open Go

def rabbetlaw08_LexKeywords_k1 (Φ : CallsB) (n : Nat) (x7 : AV) (Q : PostB) : List AV → TH → Bool := fun j9 H10 =>
 Gd3B (sl j9 0) true (
Φ K.lex_Keyword [x7] H10 fun x18 H19 =>
 Q x18 H19) (
 Q (.bool false) H10) (
 false)
def rabbetlaw08_LexKeywords (Φ : CallsB) (n : Nat) (a0 : AV) (a1 : AV) (H : TH) (Q : PostB) : Bool :=
Φ K.rabbetref08_Keywords [] H fun x1 H2 =>
 DoB (aconv .i64 a1) fun x3 =>
 DoB (alen false x1) fun x4 =>
 DoB (abin .rem x3 x4) fun x5 =>
 DoB (aiaddr none 1 x1 x5) fun x6 =>
 DoB (aload H2.ah 1 false x6) fun x7 =>
Φ K.rabbetlaw08_awake [] H2 fun x11 H12 =>
 Gd3B x11 true (
Φ K.lex_Keyword [a0] H12 fun x13 H14 =>
Φ K.rabbetref08_Keyword [a0] H14 fun x15 H16 =>
 DoB (abeq false x13 x15) fun x17 =>
 JoinB (rabbetlaw08_LexKeywords_k1 Φ n x7 Q) [x17] H16) (
 JoinB (rabbetlaw08_LexKeywords_k1 Φ n x7 Q) [(.bool false)] H12) (
 false)
theorem eq_rabbetlaw08_LexKeywords (Φ : CallsB) (n : Nat) (a0 a1 : AV) (H : TH) (Q : PostB) : fnB1 Φ n S.ir_rabbetlaw08_LexKeywords [a0, a1] H Q = rabbetlaw08_LexKeywords Φ n a0 a1 H Q := by kernel_rfl

def rabbetlaw08_LexBack_k1 (Φ : CallsB) (n : Nat) (x3 : AV) (s24 : List AV × TH) (L25 : (List AV × TH) → Bool) (Q : PostB) : List AV → TH → Bool := fun j26 H27 =>
 DoB (aiaddr none 2 x3 (sl s24.1 1)) fun x33 =>
 DoB (afaddr 0 x33) fun x34 =>
 DoB (aload H27.ah 1 false x34) fun x35 =>
 DoB (abin .add x35 (.str [32])) fun x37 =>
 DoB (abin .add (sl s24.1 0) x37) fun x38 =>
 DoB (abin .add (sl s24.1 1) (.int .i64 1)) fun x39 =>
 L25 ([x38, x39], H27)
def rabbetlaw08_LexBack_k2 (Φ : CallsB) (n : Nat) (s62 : List AV × TH) (L63 : (List AV × TH) → Bool) (Q : PostB) : List AV → TH → Bool := fun j65 H66 =>
 DoB (abin .add (sl s62.1 0) (.int .i64 1)) fun x83 =>
 L63 ([x83], H66)
def rabbetlaw08_LexBack_k3 (Φ : CallsB) (n : Nat) (s62 : List AV × TH) (L63 : (List AV × TH) → Bool) (Q : PostB) : List AV → TH → Bool := fun j67 H68 =>
 GdB (sl j67 0) true (
 Q (.bool false) H68) (
 JoinB (rabbetlaw08_LexBack_k2 Φ n s62 L63 Q) [] H68)
def rabbetlaw08_LexBack_l4 (Φ : CallsB) (n : Nat) (x3 : AV) (x42 : AV) (j49 : List AV) (Q : PostB) : (List AV × TH) → ((List AV × TH) → Bool) → Bool := fun s62 L63 =>
 DoB (abin .lss (sl s62.1 0) (sl j49 0)) fun x64 =>
 GdB x64 true (
 DoB (aiaddr none 2 x42 (sl s62.1 0)) fun x69 =>
 DoB (afaddr 0 x69) fun x70 =>
 DoB (aload s62.2.ah 1 false x70) fun x71 =>
 DoB (aiaddr none 2 x3 (sl s62.1 0)) fun x73 =>
 DoB (afaddr 0 x73) fun x74 =>
 DoB (aload s62.2.ah 1 false x74) fun x75 =>
 DoB (abin .neq x71 x75) fun x77 =>
 Gd3B x77 false (
 DoB (aiaddr none 2 x42 (sl s62.1 0)) fun x78 =>
 DoB (afaddr 1 x78) fun x79 =>
 DoB (aload s62.2.ah 1 false x79) fun x80 =>
 DoB (abin .neq x80 (.int .i64 1)) fun x82 =>
 JoinB (rabbetlaw08_LexBack_k3 Φ n s62 L63 Q) [x82] s62.2) (
 JoinB (rabbetlaw08_LexBack_k3 Φ n s62 L63 Q) [(.bool true)] s62.2) (
 false)) (
 Q (.bool true) s62.2)
def rabbetlaw08_LexBack_k5 (Φ : CallsB) (n : Nat) (x3 : AV) (x42 : AV) (j49 : List AV) (Q : PostB) : List AV → TH → Bool := fun j52 H53 =>
 LoopB (rabbetlaw08_LexBack_l4 Φ n x3 x42 j49 Q) n ([(.int .i64 0)], H53)
def rabbetlaw08_LexBack_k6 (Φ : CallsB) (n : Nat) (x3 : AV) (x42 : AV) (j49 : List AV) (Q : PostB) : List AV → TH → Bool := fun j54 H55 =>
 GdB (sl j54 0) true (
 Q (.bool false) H55) (
 JoinB (rabbetlaw08_LexBack_k5 Φ n x3 x42 j49 Q) [] H55)
def rabbetlaw08_LexBack_k7 (Φ : CallsB) (n : Nat) (x3 : AV) (x42 : AV) (x44 : AV) (Q : PostB) : List AV → TH → Bool := fun j49 H50 =>
 DoB (afaddr 1 x44) fun x56 =>
 DoB (aload H50.ah 1 false x56) fun x57 =>
 DoB (abin .neq x57 (.int .i64 0)) fun x59 =>
 Gd3B x59 false (
 DoB (alen false x42) fun x60 =>
 DoB (abin .neq x60 (sl j49 0)) fun x61 =>
 JoinB (rabbetlaw08_LexBack_k6 Φ n x3 x42 j49 Q) [x61] H50) (
 JoinB (rabbetlaw08_LexBack_k6 Φ n x3 x42 j49 Q) [(.bool true)] H50) (
 false)
def rabbetlaw08_LexBack_k8 (Φ : CallsB) (n : Nat) (x3 : AV) (Q : PostB) : List AV → TH → Bool := fun j22 H23 =>
Φ K.lex_Tokens [(sl j22 0)] H23 fun x40 H41 =>
 DoB (aextract 0 x40) fun x42 =>
 DoB (aextract 1 x40) fun x43 =>
 DoHB (some (tbox H41 true [.int .i64 0, .int .i64 0])) fun x44 H45 =>
 DoB (tstore H45 2 x44 x43) fun H47 =>
 DoB (alen false x3) fun x48 =>
 DoB (abin .gtr x48 (.int .i64 2000)) fun x51 =>
 GdB x51 true (
 JoinB (rabbetlaw08_LexBack_k7 Φ n x3 x42 x44 Q) [(.int .i64 2000)] H47) (
 JoinB (rabbetlaw08_LexBack_k7 Φ n x3 x42 x44 Q) [x48] H47)
def rabbetlaw08_LexBack_k9 (Φ : CallsB) (n : Nat) (x3 : AV) (s24 : List AV × TH) (L25 : (List AV × TH) → Bool) (Q : PostB) : List AV → TH → Bool := fun j28 H29 =>
 GdB (sl j28 0) true (
 JoinB (rabbetlaw08_LexBack_k1 Φ n x3 s24 L25 Q) [] H29) (
 JoinB (rabbetlaw08_LexBack_k8 Φ n x3 Q) [(sl s24.1 0)] H29)
def rabbetlaw08_LexBack_l10 (Φ : CallsB) (n : Nat) (x3 : AV) (Q : PostB) : (List AV × TH) → ((List AV × TH) → Bool) → Bool := fun s24 L25 =>
 DoB (alen false x3) fun x30 =>
 DoB (abin .lss (sl s24.1 1) x30) fun x31 =>
 Gd3B x31 true (
 DoB (abin .lss (sl s24.1 1) (.int .i64 2000)) fun x32 =>
 JoinB (rabbetlaw08_LexBack_k9 Φ n x3 s24 L25 Q) [x32] s24.2) (
 JoinB (rabbetlaw08_LexBack_k9 Φ n x3 s24 L25 Q) [(.bool false)] s24.2) (
 false)
def rabbetlaw08_LexBack_k11 (Φ : CallsB) (n : Nat) (x3 : AV) (Q : PostB) : List AV → TH → Bool := fun j9 H10 =>
 LoopB (rabbetlaw08_LexBack_l10 Φ n x3 Q) n ([(.str []), (.int .i64 0)], H10)
def rabbetlaw08_LexBack_k12 (Φ : CallsB) (n : Nat) (x3 : AV) (Q : PostB) : List AV → TH → Bool := fun j11 H12 =>
 GdB (sl j11 0) true (
Φ K.rabbetlaw08_awake [] H12 fun x20 H21 =>
 Q x20 H21) (
 JoinB (rabbetlaw08_LexBack_k11 Φ n x3 Q) [] H12)
def rabbetlaw08_LexBack (Φ : CallsB) (n : Nat) (a0 : AV) (H : TH) (Q : PostB) : Bool :=
Φ K.lex_Tokens [a0] H fun x1 H2 =>
 DoB (aextract 0 x1) fun x3 =>
 DoB (aextract 1 x1) fun x4 =>
 DoHB (some (tbox H2 true [.int .i64 0, .int .i64 0])) fun x5 H6 =>
 DoB (tstore H6 2 x5 x4) fun H8 =>
Φ K.rabbetlaw08_awake [] H8 fun x13 H14 =>
 DoB (aun .not x13) fun x15 =>
 Gd3B x15 false (
 DoB (afaddr 1 x5) fun x16 =>
 DoB (aload H14.ah 1 false x16) fun x17 =>
 DoB (abin .neq x17 (.int .i64 0)) fun x19 =>
 JoinB (rabbetlaw08_LexBack_k12 Φ n x3 Q) [x19] H14) (
 JoinB (rabbetlaw08_LexBack_k12 Φ n x3 Q) [(.bool true)] H14) (
 false)
theorem eq_rabbetlaw08_LexBack (Φ : CallsB) (n : Nat) (a0 : AV) (H : TH) (Q : PostB) : fnB1 Φ n S.ir_rabbetlaw08_LexBack [a0] H Q = rabbetlaw08_LexBack Φ n a0 H Q := by kernel_rfl

def rabbetlaw08_LexJoins_k1 (Φ : CallsB) (n : Nat) (s53 : List AV × TH) (L54 : (List AV × TH) → Bool) (Q : PostB) : List AV → TH → Bool := fun j57 H58 =>
 DoB (abin .add (sl s53.1 1) (.int .i64 1)) fun x62 =>
 L54 ([(sl j57 0), x62], H58)
def rabbetlaw08_LexJoins_k2 (Φ : CallsB) (n : Nat) (s78 : List AV × TH) (L79 : (List AV × TH) → Bool) (Q : PostB) : List AV → TH → Bool := fun j82 H83 =>
 DoB (abin .add (sl s78.1 0) (.int .i64 1)) fun x104 =>
 L79 ([x104], H83)
def rabbetlaw08_LexJoins_k3 (Φ : CallsB) (n : Nat) (x27 : AV) (x85 : AV) (s78 : List AV × TH) (L79 : (List AV × TH) → Bool) (Q : PostB) : List AV → TH → Bool := fun j89 H90 =>
 DoB (aiaddr none 2 x27 (sl s78.1 0)) fun x98 =>
 DoB (aload H90.ah 2 true x98) fun x99 =>
 DoB (aload H90.ah 2 true x85) fun x101 =>
 DoB (aeqAgg true [.t, .n] x99 x101) fun x103 =>
 GdB x103 true (
 Q (.bool false) H90) (
 JoinB (rabbetlaw08_LexJoins_k2 Φ n s78 L79 Q) [] H90)
def rabbetlaw08_LexJoins_k4 (Φ : CallsB) (n : Nat) (Q : PostB) : List AV → TH → Bool := fun j76 H77 =>
Φ K.rabbetlaw08_awake [] H77 fun x119 H120 =>
 Q x119 H120
def rabbetlaw08_LexJoins_l5 (Φ : CallsB) (n : Nat) (x9 : AV) (x17 : AV) (x27 : AV) (j51 : List AV) (Q : PostB) : (List AV × TH) → ((List AV × TH) → Bool) → Bool := fun s78 L79 =>
 DoB (alen false x27) fun x80 =>
 DoB (abin .lss (sl s78.1 0) x80) fun x81 =>
 GdB x81 true (
 DoB (abuild [.str [], .int .i64 0] []) fun x84 =>
 DoHB (some (tbox s78.2 true [.str [], .int .i64 0])) fun x85 H86 =>
 DoB (tstore H86 2 x85 x84) fun H88 =>
 DoB (alen false x9) fun x91 =>
 DoB (abin .lss (sl s78.1 0) x91) fun x92 =>
 GdB x92 true (
 DoB (aiaddr none 2 x9 (sl s78.1 0)) fun x93 =>
 DoB (aload H88.ah 2 true x93) fun x94 =>
 DoB (tstore H88 2 x85 x94) fun H97 =>
 JoinB (rabbetlaw08_LexJoins_k3 Φ n x27 x85 s78 L79 Q) [] H97) (
 DoB (alen false x9) fun x105 =>
 DoB (abin .sub (sl s78.1 0) x105) fun x106 =>
 DoB (aiaddr none 2 x17 x106) fun x107 =>
 DoB (aload H88.ah 2 true x107) fun x108 =>
 DoB (tstore H88 2 x85 x108) fun H111 =>
 DoB (afaddr 1 x85) fun x112 =>
 DoB (aload H111.ah 1 false x112) fun x113 =>
 DoB (abin .add x113 (sl j51 0)) fun x115 =>
 DoB (afaddr 1 x85) fun x116 =>
 DoB (tstore H111 1 x116 x115) fun H118 =>
 JoinB (rabbetlaw08_LexJoins_k3 Φ n x27 x85 s78 L79 Q) [] H118)) (
 JoinB (rabbetlaw08_LexJoins_k4 Φ n Q) [] s78.2)
def rabbetlaw08_LexJoins_k6 (Φ : CallsB) (n : Nat) (x9 : AV) (x17 : AV) (x27 : AV) (j51 : List AV) (Q : PostB) : List AV → TH → Bool := fun j63 H64 =>
 LoopB (rabbetlaw08_LexJoins_l5 Φ n x9 x17 x27 j51 Q) n ([(.int .i64 0)], H64)
def rabbetlaw08_LexJoins_k7 (Φ : CallsB) (n : Nat) (x9 : AV) (x17 : AV) (x27 : AV) (j51 : List AV) (Q : PostB) : List AV → TH → Bool := fun j65 H66 =>
 GdB (sl j65 0) true (
 Q (.bool false) H66) (
 JoinB (rabbetlaw08_LexJoins_k6 Φ n x9 x17 x27 j51 Q) [] H66)
def rabbetlaw08_LexJoins_k8 (Φ : CallsB) (n : Nat) (x9 : AV) (x17 : AV) (x27 : AV) (x29 : AV) (Q : PostB) : List AV → TH → Bool := fun j51 H52 =>
 DoB (afaddr 1 x29) fun x67 =>
 DoB (aload H52.ah 1 false x67) fun x68 =>
 DoB (abin .neq x68 (.int .i64 0)) fun x70 =>
 Gd3B x70 false (
 DoB (alen false x27) fun x71 =>
 DoB (alen false x9) fun x72 =>
 DoB (alen false x17) fun x73 =>
 DoB (abin .add x72 x73) fun x74 =>
 DoB (abin .neq x71 x74) fun x75 =>
 JoinB (rabbetlaw08_LexJoins_k7 Φ n x9 x17 x27 j51 Q) [x75] H52) (
 JoinB (rabbetlaw08_LexJoins_k7 Φ n x9 x17 x27 j51 Q) [(.bool true)] H52) (
 false)
def rabbetlaw08_LexJoins_l9 (Φ : CallsB) (n : Nat) (a0 : AV) (x9 : AV) (x17 : AV) (x27 : AV) (x29 : AV) (Q : PostB) : (List AV × TH) → ((List AV × TH) → Bool) → Bool := fun s53 L54 =>
 DoB (alen true a0) fun x55 =>
 DoB (abin .lss (sl s53.1 1) x55) fun x56 =>
 GdB x56 true (
 DoB (aidxs a0 (sl s53.1 1)) fun x59 =>
 DoB (abin .eql x59 (.int .u8 10)) fun x60 =>
 GdB x60 true (
 DoB (abin .add (sl s53.1 0) (.int .i64 1)) fun x61 =>
 JoinB (rabbetlaw08_LexJoins_k1 Φ n s53 L54 Q) [x61] s53.2) (
 JoinB (rabbetlaw08_LexJoins_k1 Φ n s53 L54 Q) [(sl s53.1 0)] s53.2)) (
 JoinB (rabbetlaw08_LexJoins_k8 Φ n x9 x17 x27 x29 Q) [(sl s53.1 0)] s53.2)
def rabbetlaw08_LexJoins_k10 (Φ : CallsB) (n : Nat) (a0 : AV) (x9 : AV) (x17 : AV) (x27 : AV) (x29 : AV) (Q : PostB) : List AV → TH → Bool := fun j33 H34 =>
 LoopB (rabbetlaw08_LexJoins_l9 Φ n a0 x9 x17 x27 x29 Q) n ([(.int .i64 1), (.int .i64 0)], H34)
def rabbetlaw08_LexJoins_k11 (Φ : CallsB) (n : Nat) (a0 : AV) (x9 : AV) (x17 : AV) (x27 : AV) (x29 : AV) (Q : PostB) : List AV → TH → Bool := fun j35 H36 =>
 GdB (sl j35 0) true (
Φ K.rabbetlaw08_awake [] H36 fun x45 H46 =>
 Gd3B x45 true (
 DoB (afaddr 1 x29) fun x47 =>
 DoB (aload H46.ah 1 false x47) fun x48 =>
 DoB (abin .neq x48 (.int .i64 0)) fun x50 =>
 Q x50 H46) (
 Q (.bool false) H46) (
 false)) (
 JoinB (rabbetlaw08_LexJoins_k10 Φ n a0 x9 x17 x27 x29 Q) [] H36)
def rabbetlaw08_LexJoins (Φ : CallsB) (n : Nat) (a0 : AV) (a1 : AV) (H : TH) (Q : PostB) : Bool :=
 DoB (alen true a0) fun x1 =>
 DoB (alen true a1) fun x2 =>
 DoB (abin .add x1 x2) fun x3 =>
 DoB (abin .gtr x3 (.int .i64 100000)) fun x4 =>
 GdB x4 true (
Φ K.rabbetlaw08_awake [] H fun x5 H6 =>
 Q x5 H6) (
Φ K.lex_Tokens [a0] H fun x7 H8 =>
 DoB (aextract 0 x7) fun x9 =>
 DoB (aextract 1 x7) fun x10 =>
 DoHB (some (tbox H8 true [.int .i64 0, .int .i64 0])) fun x11 H12 =>
 DoB (tstore H12 2 x11 x10) fun H14 =>
Φ K.lex_Tokens [a1] H14 fun x15 H16 =>
 DoB (aextract 0 x15) fun x17 =>
 DoB (aextract 1 x15) fun x18 =>
 DoHB (some (tbox H16 true [.int .i64 0, .int .i64 0])) fun x19 H20 =>
 DoB (tstore H20 2 x19 x18) fun H22 =>
 DoB (abin .add a0 (.str [10])) fun x23 =>
 DoB (abin .add x23 a1) fun x24 =>
Φ K.lex_Tokens [x24] H22 fun x25 H26 =>
 DoB (aextract 0 x25) fun x27 =>
 DoB (aextract 1 x25) fun x28 =>
 DoHB (some (tbox H26 true [.int .i64 0, .int .i64 0])) fun x29 H30 =>
 DoB (tstore H30 2 x29 x28) fun H32 =>
 DoB (afaddr 1 x11) fun x37 =>
 DoB (aload H32.ah 1 false x37) fun x38 =>
 DoB (abin .neq x38 (.int .i64 0)) fun x40 =>
 Gd3B x40 false (
 DoB (afaddr 1 x19) fun x41 =>
 DoB (aload H32.ah 1 false x41) fun x42 =>
 DoB (abin .neq x42 (.int .i64 0)) fun x44 =>
 JoinB (rabbetlaw08_LexJoins_k11 Φ n a0 x9 x17 x27 x29 Q) [x44] H32) (
 JoinB (rabbetlaw08_LexJoins_k11 Φ n a0 x9 x17 x27 x29 Q) [(.bool true)] H32) (
 false))
theorem eq_rabbetlaw08_LexJoins (Φ : CallsB) (n : Nat) (a0 a1 : AV) (H : TH) (Q : PostB) : fnB1 Φ n S.ir_rabbetlaw08_LexJoins [a0, a1] H Q = rabbetlaw08_LexJoins Φ n a0 a1 H Q := by kernel_rfl

def rabbetlaw08_awake_k1 (Φ : CallsB) (n : Nat) (Q : PostB) : List AV → TH → Bool := fun j52 H53 =>
 Gd3B (sl j52 0) true (
Φ K.lex_Keyword [(.str [120])] H53 fun x56 H57 =>
 DoB (aun .not x56) fun x58 =>
 Q x58 H57) (
 Q (.bool false) H53) (
 false)
def rabbetlaw08_awake_k2 (Φ : CallsB) (n : Nat) (Q : PostB) : List AV → TH → Bool := fun j46 H47 =>
 Gd3B (sl j46 0) true (
Φ K.lex_Keyword [(.str [97, 49, 50, 56])] H47 fun x54 H55 =>
 JoinB (rabbetlaw08_awake_k1 Φ n Q) [x54] H55) (
 JoinB (rabbetlaw08_awake_k1 Φ n Q) [(.bool false)] H47) (
 false)
def rabbetlaw08_awake_k3 (Φ : CallsB) (n : Nat) (x13 : AV) (Q : PostB) : List AV → TH → Bool := fun j39 H40 =>
 Gd3B (sl j39 0) true (
 DoB (aload H40.ah 2 true x13) fun x48 =>
 DoB (abuild [.int .i64 0, .int .i64 0] [(0, 1, (.int .i64 2)), (1, 1, (.int .i64 3))]) fun x50 =>
 DoB (aeqAgg false [.n, .n] x48 x50) fun x51 =>
 JoinB (rabbetlaw08_awake_k2 Φ n Q) [x51] H40) (
 JoinB (rabbetlaw08_awake_k2 Φ n Q) [(.bool false)] H40) (
 false)
def rabbetlaw08_awake_k4 (Φ : CallsB) (n : Nat) (x3 : AV) (x13 : AV) (Q : PostB) : List AV → TH → Bool := fun j32 H33 =>
 Gd3B (sl j32 0) true (
 DoB (aiaddr none 2 x3 (.int .i64 5)) fun x41 =>
 DoB (afaddr 1 x41) fun x42 =>
 DoB (aload H33.ah 1 false x42) fun x43 =>
 DoB (abin .eql x43 (.int .i64 2)) fun x45 =>
 JoinB (rabbetlaw08_awake_k3 Φ n x13 Q) [x45] H33) (
 JoinB (rabbetlaw08_awake_k3 Φ n x13 Q) [(.bool false)] H33) (
 false)
def rabbetlaw08_awake_k5 (Φ : CallsB) (n : Nat) (x3 : AV) (x13 : AV) (Q : PostB) : List AV → TH → Bool := fun j25 H26 =>
 Gd3B (sl j25 0) true (
 DoB (aiaddr none 2 x3 (.int .i64 5)) fun x34 =>
 DoB (afaddr 0 x34) fun x35 =>
 DoB (aload H26.ah 1 false x35) fun x36 =>
 DoB (abin .eql x36 (.str [60, 60])) fun x38 =>
 JoinB (rabbetlaw08_awake_k4 Φ n x3 x13 Q) [x38] H26) (
 JoinB (rabbetlaw08_awake_k4 Φ n x3 x13 Q) [(.bool false)] H26) (
 false)
def rabbetlaw08_awake_k6 (Φ : CallsB) (n : Nat) (x3 : AV) (x13 : AV) (Q : PostB) : List AV → TH → Bool := fun j17 H18 =>
 Gd3B (sl j17 0) true (
 DoB (aiaddr none 2 x3 (.int .i64 1)) fun x27 =>
 DoB (afaddr 0 x27) fun x28 =>
 DoB (aload H18.ah 1 false x28) fun x29 =>
 DoB (abin .eql x29 (.str [120, 49])) fun x31 =>
 JoinB (rabbetlaw08_awake_k5 Φ n x3 x13 Q) [x31] H18) (
 JoinB (rabbetlaw08_awake_k5 Φ n x3 x13 Q) [(.bool false)] H18) (
 false)
def rabbetlaw08_awake (Φ : CallsB) (n : Nat) (H : TH) (Q : PostB) : Bool :=
Φ K.lex_Tokens [(.str [108, 101, 116, 32, 120, 49, 32, 61, 10, 40, 32, 53, 60, 60, 121, 32, 41])] H fun x1 H2 =>
 DoB (aextract 0 x1) fun x3 =>
 DoB (aextract 1 x1) fun x4 =>
 DoHB (some (tbox H2 true [.int .i64 0, .int .i64 0])) fun x5 H6 =>
 DoB (tstore H6 2 x5 x4) fun H8 =>
Φ K.lex_Tokens [(.str [97, 10, 62])] H8 fun x9 H10 =>
 DoB (aextract 0 x9) fun x11 =>
 DoB (aextract 1 x9) fun x12 =>
 DoHB (some (tbox H10 true [.int .i64 0, .int .i64 0])) fun x13 H14 =>
 DoB (tstore H14 2 x13 x12) fun H16 =>
 DoB (afaddr 1 x5) fun x19 =>
 DoB (aload H16.ah 1 false x19) fun x20 =>
 DoB (abin .eql x20 (.int .i64 0)) fun x22 =>
 Gd3B x22 true (
 DoB (alen false x3) fun x23 =>
 DoB (abin .eql x23 (.int .i64 8)) fun x24 =>
 JoinB (rabbetlaw08_awake_k6 Φ n x3 x13 Q) [x24] H16) (
 JoinB (rabbetlaw08_awake_k6 Φ n x3 x13 Q) [(.bool false)] H16) (
 false)
theorem eq_rabbetlaw08_awake (Φ : CallsB) (n : Nat) (H : TH) (Q : PostB) : fnB1 Φ n S.ir_rabbetlaw08_awake [] H Q = rabbetlaw08_awake Φ n H Q := by kernel_rfl

end Rb.R

/- Package rabbetref08: its functions in the small language, and what they mean. By gen.py. -/
set_option linter.unusedVariables false
namespace Rb.S
open Go

/-! rabbet/rabbetref08.Keywords -/
def rabbetref08_Keywords (Φ : Calls') (H : AH) (Q : Post) : Prop :=
 DoH (abslice H false 1 34 [.str []] [(0, 1, (.str [118, 97, 114])), (1, 1, (.str [116, 104, 114, 101, 97, 100])), (2, 1, (.str [115, 116, 114, 117, 99, 116])), (3, 1, (.str [117, 110, 105, 111, 110])), (4, 1, (.str [112, 97, 99, 107, 101, 100])), (5, 1, (.str [117, 56])), (6, 1, (.str [117, 49, 54])), (7, 1, (.str [117, 51, 50])), (8, 1, (.str [117, 54, 52])), (9, 1, (.str [97, 56])), (10, 1, (.str [97, 49, 54])), (11, 1, (.str [97, 51, 50])), (12, 1, (.str [97, 54, 52])), (13, 1, (.str [97, 49, 50, 56])), (14, 1, (.str [108, 101, 116])), (15, 1, (.str [115, 101, 116])), (16, 1, (.str [119, 114, 105, 116, 101])), (17, 1, (.str [115, 116, 111, 114, 101])), (18, 1, (.str [108, 111, 97, 100, 50])), (19, 1, (.str [115, 116, 111, 114, 101, 50])), (20, 1, (.str [102, 101, 110, 99, 101])), (21, 1, (.str [105, 102])), (22, 1, (.str [101, 108, 115, 101])), (23, 1, (.str [119, 104, 105, 108, 101])), (24, 1, (.str [112, 114, 105, 110, 116])), (25, 1, (.str [114, 101, 97, 100])), (26, 1, (.str [108, 111, 97, 100])), (27, 1, (.str [97, 100, 100])), (28, 1, (.str [115, 119, 97, 112])), (29, 1, (.str [99, 97, 115])), (30, 1, (.str [114, 108, 120])), (31, 1, (.str [97, 99, 113])), (32, 1, (.str [114, 101, 108])), (33, 1, (.str [115, 99]))]) fun x1 H2 =>
 Q x1 H2
def ir_rabbetref08_Keywords : AFunc := ⟨2, [.tmp 0],
 .seq (.region [
   ⟨some 0, .mv (.k (.lst .nil 0 [])), none⟩])
 (.seq (.region [
   ⟨some 1, .bslice false 1 34 [.str []] [(0, 1, (.k (.str [118, 97, 114]))), (1, 1, (.k (.str [116, 104, 114, 101, 97, 100]))), (2, 1, (.k (.str [115, 116, 114, 117, 99, 116]))), (3, 1, (.k (.str [117, 110, 105, 111, 110]))), (4, 1, (.k (.str [112, 97, 99, 107, 101, 100]))), (5, 1, (.k (.str [117, 56]))), (6, 1, (.k (.str [117, 49, 54]))), (7, 1, (.k (.str [117, 51, 50]))), (8, 1, (.k (.str [117, 54, 52]))), (9, 1, (.k (.str [97, 56]))), (10, 1, (.k (.str [97, 49, 54]))), (11, 1, (.k (.str [97, 51, 50]))), (12, 1, (.k (.str [97, 54, 52]))), (13, 1, (.k (.str [97, 49, 50, 56]))), (14, 1, (.k (.str [108, 101, 116]))), (15, 1, (.k (.str [115, 101, 116]))), (16, 1, (.k (.str [119, 114, 105, 116, 101]))), (17, 1, (.k (.str [115, 116, 111, 114, 101]))), (18, 1, (.k (.str [108, 111, 97, 100, 50]))), (19, 1, (.k (.str [115, 116, 111, 114, 101, 50]))), (20, 1, (.k (.str [102, 101, 110, 99, 101]))), (21, 1, (.k (.str [105, 102]))), (22, 1, (.k (.str [101, 108, 115, 101]))), (23, 1, (.k (.str [119, 104, 105, 108, 101]))), (24, 1, (.k (.str [112, 114, 105, 110, 116]))), (25, 1, (.k (.str [114, 101, 97, 100]))), (26, 1, (.k (.str [108, 111, 97, 100]))), (27, 1, (.k (.str [97, 100, 100]))), (28, 1, (.k (.str [115, 119, 97, 112]))), (29, 1, (.k (.str [99, 97, 115]))), (30, 1, (.k (.str [114, 108, 120]))), (31, 1, (.k (.str [97, 99, 113]))), (32, 1, (.k (.str [114, 101, 108]))), (33, 1, (.k (.str [115, 99])))], none⟩,
   ⟨some 0, .mv (.t 1), none⟩])
 (.ret))⟩
theorem eq_rabbetref08_Keywords (Φ : Calls') (H : AH) (Q : Post) : fnE1 Φ ir_rabbetref08_Keywords [] H Q = rabbetref08_Keywords Φ H Q := by kernel_rfl

/-! rabbet/rabbetref08.Keyword -/
def rabbetref08_Keyword_l1 (Φ : Calls') (a0 : AV) (x1 : AV) (Q : Post) : (List AV × AH) → ((List AV × AH) → Prop) → Prop := fun s3 L4 =>
 Do (alen false x1) fun x5 =>
 Do (abin .lss (sl s3.1 0) x5) fun x6 =>
 Gd x6 true (
 Do (aiaddr none 1 x1 (sl s3.1 0)) fun x7 =>
 Do (aload s3.2 1 false x7) fun x8 =>
 Do (abin .eql x8 a0) fun x9 =>
 Gd x9 true (
 Q (.bool true) s3.2) (
 Do (abin .add (sl s3.1 0) (.int .i64 1)) fun x10 =>
 L4 ([x10], s3.2))) (
 Q (.bool false) s3.2)
def rabbetref08_Keyword (Φ : Calls') (a0 : AV) (H : AH) (Q : Post) : Prop :=
Φ K.rabbetref08_Keywords [] H fun x1 H2 =>
 LoopP (rabbetref08_Keyword_l1 Φ a0 x1 Q) ([(.int .i64 0)], H2)
def ir_rabbetref08_Keyword : AFunc := ⟨18, [.tmp 2],
 .seq (.region [
   ⟨some 2, .mv (.k (.bool false)), none⟩])
 (.seq (.region [
   ⟨some 5, .call K.rabbetref08_Keywords [], none⟩,
   ⟨some 3, .mv (.t 5), none⟩])
 (.seq (.seq (.region [
   ⟨some 4, .mv (.k (.int .i64 0)), none⟩])
 (.block 0 (.loop [4] [2, 6, 7, 8, 9, 10, 11, 12, 13, 14, 15, 16, 17] (.seq (.seq (.region [
   ⟨some 6, .mv (.t 4), none⟩,
   ⟨some 7, .mv (.t 3), none⟩,
   ⟨some 8, .len false (.t 7), none⟩,
   ⟨some 9, .bin .lss (.t 6) (.t 8), none⟩])
 (.cond (.t 9) (.skip)
   (.exit 0)))
 (.seq (.block 1 (.seq (.region [
   ⟨some 12, .mv (.t 3), none⟩,
   ⟨some 13, .mv (.t 4), none⟩,
   ⟨some 14, .iaddr none 1 (.t 12) (.t 13), none⟩,
   ⟨some 15, .load 1 false (.t 14), none⟩,
   ⟨some 16, .mv (.t 0), none⟩,
   ⟨some 17, .bin .eql (.t 15) (.t 16), none⟩])
 (.cond (.t 17) (.seq (.region [
     ⟨some 2, .mv (.k (.bool true)), none⟩])
   (.ret))
   (.skip))))
 (.region [
   ⟨some 10, .mv (.t 4), none⟩,
   ⟨some 11, .bin .add (.t 10) (.k (.int .i64 1)), none⟩,
   ⟨some 4, .mv (.t 11), none⟩]))))))
 (.seq (.region [
   ⟨some 2, .mv (.k (.bool false)), none⟩])
 (.ret))))⟩
theorem eq_rabbetref08_Keyword (Φ : Calls') (a0 : AV) (H : AH) (Q : Post) : fnE1 Φ ir_rabbetref08_Keyword [a0] H Q = rabbetref08_Keyword Φ a0 H Q := by kernel_rfl

def tab_rabbetref08 : Tab := [
  (K.rabbetref08_Keywords, ir_rabbetref08_Keywords),
  (K.rabbetref08_Keyword, ir_rabbetref08_Keyword)]

theorem cl_rabbetref08_Keywords {Φ : Calls'} (hT : Cl Φ tab_rabbetref08) {H : AH} {Q : Post} (h : rabbetref08_Keywords Φ H Q) : Φ K.rabbetref08_Keywords [] H Q := hT.call (by kernel_rfl) (by kernel_rfl) (by rw [eq_rabbetref08_Keywords]; exact h)
theorem cl_rabbetref08_Keyword {Φ : Calls'} (hT : Cl Φ tab_rabbetref08) {a0 : AV} {H : AH} {Q : Post} (h : rabbetref08_Keyword Φ a0 H Q) : Φ K.rabbetref08_Keyword [a0] H Q := hT.call (by kernel_rfl) (by kernel_rfl) (by rw [eq_rabbetref08_Keyword]; exact h)
end Rb.S

/- Package rabbetref08: its functions as runs. By gen.py. -/
set_option linter.unusedVariables false
namespace Rb.R
open Go

def rabbetref08_Keywords (Φ : CallsB) (n : Nat) (H : TH) (Q : PostB) : Bool :=
 DoHB (tbslice H false 1 34 [.str []] [(0, 1, (.str [118, 97, 114])), (1, 1, (.str [116, 104, 114, 101, 97, 100])), (2, 1, (.str [115, 116, 114, 117, 99, 116])), (3, 1, (.str [117, 110, 105, 111, 110])), (4, 1, (.str [112, 97, 99, 107, 101, 100])), (5, 1, (.str [117, 56])), (6, 1, (.str [117, 49, 54])), (7, 1, (.str [117, 51, 50])), (8, 1, (.str [117, 54, 52])), (9, 1, (.str [97, 56])), (10, 1, (.str [97, 49, 54])), (11, 1, (.str [97, 51, 50])), (12, 1, (.str [97, 54, 52])), (13, 1, (.str [97, 49, 50, 56])), (14, 1, (.str [108, 101, 116])), (15, 1, (.str [115, 101, 116])), (16, 1, (.str [119, 114, 105, 116, 101])), (17, 1, (.str [115, 116, 111, 114, 101])), (18, 1, (.str [108, 111, 97, 100, 50])), (19, 1, (.str [115, 116, 111, 114, 101, 50])), (20, 1, (.str [102, 101, 110, 99, 101])), (21, 1, (.str [105, 102])), (22, 1, (.str [101, 108, 115, 101])), (23, 1, (.str [119, 104, 105, 108, 101])), (24, 1, (.str [112, 114, 105, 110, 116])), (25, 1, (.str [114, 101, 97, 100])), (26, 1, (.str [108, 111, 97, 100])), (27, 1, (.str [97, 100, 100])), (28, 1, (.str [115, 119, 97, 112])), (29, 1, (.str [99, 97, 115])), (30, 1, (.str [114, 108, 120])), (31, 1, (.str [97, 99, 113])), (32, 1, (.str [114, 101, 108])), (33, 1, (.str [115, 99]))]) fun x1 H2 =>
 Q x1 H2
theorem eq_rabbetref08_Keywords (Φ : CallsB) (n : Nat) (H : TH) (Q : PostB) : fnB1 Φ n S.ir_rabbetref08_Keywords [] H Q = rabbetref08_Keywords Φ n H Q := by kernel_rfl

def rabbetref08_Keyword_l1 (Φ : CallsB) (n : Nat) (a0 : AV) (x1 : AV) (Q : PostB) : (List AV × TH) → ((List AV × TH) → Bool) → Bool := fun s3 L4 =>
 DoB (alen false x1) fun x5 =>
 DoB (abin .lss (sl s3.1 0) x5) fun x6 =>
 GdB x6 true (
 DoB (aiaddr none 1 x1 (sl s3.1 0)) fun x7 =>
 DoB (aload s3.2.ah 1 false x7) fun x8 =>
 DoB (abin .eql x8 a0) fun x10 =>
 GdB x10 true (
 Q (.bool true) s3.2) (
 DoB (abin .add (sl s3.1 0) (.int .i64 1)) fun x11 =>
 L4 ([x11], s3.2))) (
 Q (.bool false) s3.2)
def rabbetref08_Keyword (Φ : CallsB) (n : Nat) (a0 : AV) (H : TH) (Q : PostB) : Bool :=
Φ K.rabbetref08_Keywords [] H fun x1 H2 =>
 LoopB (rabbetref08_Keyword_l1 Φ n a0 x1 Q) n ([(.int .i64 0)], H2)
theorem eq_rabbetref08_Keyword (Φ : CallsB) (n : Nat) (a0 : AV) (H : TH) (Q : PostB) : fnB1 Φ n S.ir_rabbetref08_Keyword [a0] H Q = rabbetref08_Keyword Φ n a0 H Q := by kernel_rfl

end Rb.R
