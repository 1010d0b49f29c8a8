/- Proved: rabbetlaw13.LowerSingle returns true for every input, its arguments read afterwards as before. Conditions: those of the given card (the variables strings.asciiSpace and unicode.White_Space hold what the program's text lays). -/
import Derived.Test.YtifjgnmgchcfaaaGreatDoorRb2
import Derived.KernelRfl
import Derived.Test.YtifjgnmgchcfaaaGreatDoorRb3
import Derived.Test.YtifjgnmgchcfaaaGreatDoorRb4
import Derived.Test.YtifjgnmgchcfaaaGreatDoorRb5
import Derived.Test.YtifjgnmgchcfaaaGreatDoorRows
import Derived.LaidLaws
import Derived.LaidHandle
import Derived.Lib.LaidU8
import Derived.Deep.DeepLaidRun
import Derived.Handed
import Derived.JoinedOf
import Derived.SevenTiedAt
import Derived.ProofKit
import Derived.Lib.Space
import Derived.Test.YtifjgnmgchcfaaaGreatDoorTie
import Derived.Test.YtifjgnmgchcfaaaGreatDoorCards
/- Package span: its functions in the small language, and what they mean. By gen.py. -/
set_option linter.unusedVariables false
namespace Rb.S
open Go

/-! rabbet/span.Pieces -/
def span_Pieces_k1 (Φ : Calls') (s29 : List AV × AH) (L30 : (List AV × AH) → Prop) (Q : Post) : List AV → AH → Prop := fun j31 H32 =>
 Do (abin .quo (sl s29.1 0) (.int .i64 2)) fun x42 =>
 L30 ([x42], H32)
def span_Pieces_k2 (Φ : Calls') (x1 : AV) (s22 : List AV × AH) (L23 : (List AV × AH) → Prop) (Q : Post) : List AV → AH → Prop := fun j27 H28 =>
 Do (afaddr 0 x1) fun x43 =>
 Do (aload H28 1 false x43) fun x44 =>
 Do (abuild [.int .i64 0, .int .i64 0] [(0, 1, x44), (1, 1, (sl j27 0))]) fun x45 =>
 DoH (abslice H28 false 2 1 [.int .i64 0, .int .i64 0] [(0, 2, x45)]) fun x46 H47 =>
 DoH (aappend H47 false 2 16 (sl s22.1 0) x46) fun x48 H49 =>
 Do (afaddr 0 x1) fun x50 =>
 Do (aload H49 1 false x50) fun x51 =>
 Do (abin .add x51 (sl j27 0)) fun x52 =>
 Do (afaddr 0 x1) fun x53 =>
 Do (astore H49 1 x53 x52) fun H54 =>
 Do (afaddr 1 x1) fun x55 =>
 Do (aload H54 1 false x55) fun x56 =>
 Do (abin .sub x56 (sl j27 0)) fun x57 =>
 Do (afaddr 1 x1) fun x58 =>
 Do (astore H54 1 x58 x57) fun H59 =>
 L23 ([x48], H59)
def span_Pieces_k3 (Φ : Calls') (x1 : AV) (s22 : List AV × AH) (L23 : (List AV × AH) → Prop) (s29 : List AV × AH) (L30 : (List AV × AH) → Prop) (Q : Post) : List AV → AH → Prop := fun j33 H34 =>
 Gd (sl j33 0) true (
 JoinP (span_Pieces_k1 Φ s29 L30 Q) [] H34) (
 JoinP (span_Pieces_k2 Φ x1 s22 L23 Q) [(sl s29.1 0)] H34)
def span_Pieces_l4 (Φ : Calls') (x1 : AV) (s22 : List AV × AH) (L23 : (List AV × AH) → Prop) (Q : Post) : (List AV × AH) → ((List AV × AH) → Prop) → Prop := fun s29 L30 =>
 Do (afaddr 1 x1) fun x35 =>
 Do (aload s29.2 1 false x35) fun x36 =>
 Do (abin .gtr (sl s29.1 0) x36) fun x37 =>
 Gd3 x37 false (
 Do (afaddr 0 x1) fun x38 =>
 Do (aload s29.2 1 false x38) fun x39 =>
 Do (abin .rem x39 (sl s29.1 0)) fun x40 =>
 Do (abin .neq x40 (.int .i64 0)) fun x41 =>
 JoinP (span_Pieces_k3 Φ x1 s22 L23 s29 L30 Q) [x41] s29.2) (
 JoinP (span_Pieces_k3 Φ x1 s22 L23 s29 L30 Q) [(.bool true)] s29.2) (
 False)
def span_Pieces_l5 (Φ : Calls') (x1 : AV) (Q : Post) : (List AV × AH) → ((List AV × AH) → Prop) → Prop := fun s22 L23 =>
 Do (afaddr 1 x1) fun x24 =>
 Do (aload s22.2 1 false x24) fun x25 =>
 Do (abin .gtr x25 (.int .i64 0)) fun x26 =>
 Gd x26 true (
 LoopP (span_Pieces_l4 Φ x1 s22 L23 Q) ([(.int .i64 8)], s22.2)) (
 Q (sl s22.1 0) s22.2)
def span_Pieces_k6 (Φ : Calls') (x1 : AV) (Q : Post) : List AV → AH → Prop := fun j3 H4 =>
 LoopP (span_Pieces_l5 Φ x1 Q) ([(.lst .nil 0 [])], H4)
def span_Pieces_k7 (Φ : Calls') (x1 : AV) (Q : Post) : List AV → AH → Prop := fun j5 H6 =>
 Gd (sl j5 0) true (
 Q (.lst .nil 0 []) H6) (
 JoinP (span_Pieces_k6 Φ x1 Q) [] H6)
def span_Pieces_k8 (Φ : Calls') (x1 : AV) (Q : Post) : List AV → AH → Prop := fun j7 H8 =>
 Gd3 (sl j7 0) false (
 Do (afaddr 0 x1) fun x16 =>
 Do (aload H8 1 false x16) fun x17 =>
 Do (afaddr 1 x1) fun x18 =>
 Do (aload H8 1 false x18) fun x19 =>
 Do (abin .add x17 x19) fun x20 =>
 Do (abin .gtr x20 (.int .i64 1099511627776)) fun x21 =>
 JoinP (span_Pieces_k7 Φ x1 Q) [x21] H8) (
 JoinP (span_Pieces_k7 Φ x1 Q) [(.bool true)] H8) (
 False)
def span_Pieces (Φ : Calls') (a0 : AV) (H : AH) (Q : Post) : Prop :=
 DoH (aboxv H true 2 a0) fun x1 H2 =>
 Do (aload H2 2 true x1) fun x9 =>
Φ K.span_sound [x9] H2 fun x10 H11 =>
 Do (aun .not x10) fun x12 =>
 Gd3 x12 false (
 Do (afaddr 1 x1) fun x13 =>
 Do (aload H11 1 false x13) fun x14 =>
 Do (abin .gtr x14 (.int .i64 64)) fun x15 =>
 JoinP (span_Pieces_k8 Φ x1 Q) [x15] H11) (
 JoinP (span_Pieces_k8 Φ x1 Q) [(.bool true)] H11) (
 False)
def ir_span_Pieces : AFunc := ⟨55, [.tmp 2],
 .seq (.region [
   ⟨some 1, .box true 2 (.t 0), none⟩,
   ⟨some 2, .mv (.k (.lst .nil 0 [])), none⟩])
 (.join [] [2, 5, 6, 7, 8, 9, 10, 11, 12, 13, 14, 15, 16, 17, 18, 19, 20] (.join [20] [5, 6, 7, 8, 9, 10, 11, 12, 13, 14, 15, 16, 17, 18, 19] (.rjoin [12] [5, 6, 7, 8, 9, 10, 11] [
   ⟨some 5, .load 2 true (.t 1), none⟩,
   ⟨some 6, .call K.span_sound [(.t 5)], none⟩,
   ⟨some 7, .un .not (.t 6), none⟩,
   ⟨some 8, .mv (.t 7), none⟩,
   ⟨some 9, .faddr 1 (.t 1), some (8, false)⟩,
   ⟨some 10, .load 1 false (.t 9), some (8, false)⟩,
   ⟨some 11, .bin .gtr (.t 10) (.k (.int .i64 64)), some (8, false)⟩,
   ⟨some 12, .pick (.t 8) (.k (.bool true)) (.t 11), none⟩]
 (.region [
   ⟨some 13, .mv (.t 12), none⟩,
   ⟨some 14, .faddr 0 (.t 1), some (13, false)⟩,
   ⟨some 15, .load 1 false (.t 14), some (13, false)⟩,
   ⟨some 16, .faddr 1 (.t 1), some (13, false)⟩,
   ⟨some 17, .load 1 false (.t 16), some (13, false)⟩,
   ⟨some 18, .bin .add (.t 15) (.t 17), some (13, false)⟩,
   ⟨some 19, .bin .gtr (.t 18) (.k (.int .i64 1099511627776)), some (13, false)⟩,
   ⟨some 20, .pick (.t 13) (.k (.bool true)) (.t 19), none⟩]))
 (.cond (.t 20) (.seq (.region [
     ⟨some 2, .mv (.k (.lst .nil 0 [])), none⟩])
   (.ret))
   (.skip)))
 (.seq (.region [
   ⟨some 3, .mv (.k (.lst .nil 0 [])), none⟩])
 (.seq (.block 0 (.loop [3] [4, 21, 22, 23, 24, 25, 26, 27, 28, 29, 30, 31, 32, 33, 34, 35, 36, 37, 38, 39, 40, 41, 42, 43, 44, 45, 46, 47, 48, 49, 50, 51, 52, 53] (.seq (.seq (.region [
   ⟨some 21, .faddr 1 (.t 1), none⟩,
   ⟨some 22, .load 1 false (.t 21), none⟩,
   ⟨some 23, .bin .gtr (.t 22) (.k (.int .i64 0)), none⟩])
 (.cond (.t 23) (.skip)
   (.exit 0)))
 (.block 1 (.seq (.region [
   ⟨some 4, .mv (.k (.int .i64 8)), none⟩])
 (.join [4] [24, 25, 26, 27, 28, 29, 30, 31, 32, 33, 34, 35, 36] (.block 2 (.loop [4] [24, 25, 26, 27, 28, 29, 30, 31, 32, 33, 34, 35, 36] (.join [] [24, 25, 26, 27, 28, 29, 30, 31, 32, 33, 34] (.join [34] [24, 25, 26, 27, 28, 29, 30, 31, 32, 33] (.region [
   ⟨some 24, .mv (.t 4), none⟩,
   ⟨some 25, .faddr 1 (.t 1), none⟩,
   ⟨some 26, .load 1 false (.t 25), none⟩,
   ⟨some 27, .bin .gtr (.t 24) (.t 26), none⟩,
   ⟨some 28, .mv (.t 27), none⟩,
   ⟨some 29, .faddr 0 (.t 1), some (28, false)⟩,
   ⟨some 30, .load 1 false (.t 29), some (28, false)⟩,
   ⟨some 31, .mv (.t 4), some (28, false)⟩,
   ⟨some 32, .bin .rem (.t 30) (.t 31), some (28, false)⟩,
   ⟨some 33, .bin .neq (.t 32) (.k (.int .i64 0)), some (28, false)⟩,
   ⟨some 34, .pick (.t 28) (.k (.bool true)) (.t 33), none⟩])
 (.cond (.t 34) (.skip)
   (.exit 2)))
 (.block 3 (.region [
   ⟨some 35, .mv (.t 4), none⟩,
   ⟨some 36, .bin .quo (.t 35) (.k (.int .i64 2)), none⟩,
   ⟨some 4, .mv (.t 36), none⟩])))))
 (.seq (.region [
   ⟨some 37, .mv (.t 3), none⟩,
   ⟨some 38, .faddr 0 (.t 1), none⟩,
   ⟨some 39, .load 1 false (.t 38), none⟩,
   ⟨some 40, .mv (.t 4), none⟩,
   ⟨some 41, .build [.int .i64 0, .int .i64 0] [(0, 1, (.t 39)), (1, 1, (.t 40))], none⟩,
   ⟨some 42, .bslice false 2 1 [.int .i64 0, .int .i64 0] [(0, 2, (.t 41))], none⟩,
   ⟨some 43, .append false 2 16 (.t 37) (.t 42), none⟩,
   ⟨some 3, .mv (.t 43), none⟩])
 (.seq (.region [
   ⟨some 44, .faddr 0 (.t 1), none⟩,
   ⟨some 45, .load 1 false (.t 44), none⟩,
   ⟨some 46, .mv (.t 4), none⟩,
   ⟨some 47, .bin .add (.t 45) (.t 46), none⟩,
   ⟨some 48, .faddr 0 (.t 1), none⟩,
   ⟨none, .store 1 (.t 48) (.t 47), none⟩])
 (.region [
   ⟨some 49, .faddr 1 (.t 1), none⟩,
   ⟨some 50, .load 1 false (.t 49), none⟩,
   ⟨some 51, .mv (.t 4), none⟩,
   ⟨some 52, .bin .sub (.t 50) (.t 51), none⟩,
   ⟨some 53, .faddr 1 (.t 1), none⟩,
   ⟨none, .store 1 (.t 53) (.t 52), none⟩])))))))))
 (.seq (.region [
   ⟨some 54, .mv (.t 3), none⟩,
   ⟨some 2, .mv (.t 54), none⟩])
 (.ret)))))⟩
theorem eq_span_Pieces (Φ : Calls') (a0 : AV) (H : AH) (Q : Post) : fnE1 Φ ir_span_Pieces [a0] H Q = span_Pieces Φ a0 H Q := by kernel_rfl

/-! rabbet/span.sound -/
def span_sound_k1 (Φ : Calls') (x1 : AV) (Q : Post) : List AV → AH → Prop := fun j11 H12 =>
 Gd3 (sl j11 0) true (
 Do (afaddr 1 x1) fun x16 =>
 Do (aload H12 1 false x16) fun x17 =>
 Do (abin .leq x17 (.int .i64 1048576)) fun x18 =>
 Q x18 H12) (
 Q (.bool false) H12) (
 False)
def span_sound_k2 (Φ : Calls') (x1 : AV) (Q : Post) : List AV → AH → Prop := fun j3 H4 =>
 Gd3 (sl j3 0) true (
 Do (afaddr 1 x1) fun x13 =>
 Do (aload H4 1 false x13) fun x14 =>
 Do (abin .geq x14 (.int .i64 0)) fun x15 =>
 JoinP (span_sound_k1 Φ x1 Q) [x15] H4) (
 JoinP (span_sound_k1 Φ x1 Q) [(.bool false)] H4) (
 False)
def span_sound (Φ : Calls') (a0 : AV) (H : AH) (Q : Post) : Prop :=
 DoH (aboxv H false 2 a0) fun x1 H2 =>
 Do (afaddr 0 x1) fun x5 =>
 Do (aload H2 1 false x5) fun x6 =>
 Do (abin .geq x6 (.int .i64 0)) fun x7 =>
 Gd3 x7 true (
 Do (afaddr 0 x1) fun x8 =>
 Do (aload H2 1 false x8) fun x9 =>
 Do (abin .leq x9 (.int .i64 1099511627776)) fun x10 =>
 JoinP (span_sound_k2 Φ x1 Q) [x10] H2) (
 JoinP (span_sound_k2 Φ x1 Q) [(.bool false)] H2) (
 False)
def ir_span_sound : AFunc := ⟨21, [.tmp 2],
 .seq (.region [
   ⟨some 1, .box false 2 (.t 0), none⟩,
   ⟨some 2, .mv (.k (.bool false)), none⟩])
 (.seq (.rjoin [10] [3, 4, 5, 6, 7, 8, 9] [
   ⟨some 3, .faddr 0 (.t 1), none⟩,
   ⟨some 4, .load 1 false (.t 3), none⟩,
   ⟨some 5, .bin .geq (.t 4) (.k (.int .i64 0)), none⟩,
   ⟨some 6, .mv (.t 5), none⟩,
   ⟨some 7, .faddr 0 (.t 1), some (6, true)⟩,
   ⟨some 8, .load 1 false (.t 7), some (6, true)⟩,
   ⟨some 9, .bin .leq (.t 8) (.k (.int .i64 1099511627776)), some (6, true)⟩,
   ⟨some 10, .pick (.t 6) (.t 9) (.k (.bool false)), none⟩]
 (.rjoin [15] [11, 12, 13, 14] [
   ⟨some 11, .mv (.t 10), none⟩,
   ⟨some 12, .faddr 1 (.t 1), some (11, true)⟩,
   ⟨some 13, .load 1 false (.t 12), some (11, true)⟩,
   ⟨some 14, .bin .geq (.t 13) (.k (.int .i64 0)), some (11, true)⟩,
   ⟨some 15, .pick (.t 11) (.t 14) (.k (.bool false)), none⟩]
 (.region [
   ⟨some 16, .mv (.t 15), none⟩,
   ⟨some 17, .faddr 1 (.t 1), some (16, true)⟩,
   ⟨some 18, .load 1 false (.t 17), some (16, true)⟩,
   ⟨some 19, .bin .leq (.t 18) (.k (.int .i64 1048576)), some (16, true)⟩,
   ⟨some 20, .pick (.t 16) (.t 19) (.k (.bool false)), none⟩,
   ⟨some 2, .mv (.t 20), none⟩])))
 (.ret))⟩
theorem eq_span_sound (Φ : Calls') (a0 : AV) (H : AH) (Q : Post) : fnE1 Φ ir_span_sound [a0] H Q = span_sound Φ a0 H Q := by kernel_rfl

def tab_span : Tab := [
  (K.span_Pieces, ir_span_Pieces),
  (K.span_sound, ir_span_sound)]

theorem cl_span_Pieces {Φ : Calls'} (hT : Cl Φ tab_span) {a0 : AV} {H : AH} {Q : Post} (h : span_Pieces Φ a0 H Q) : Φ K.span_Pieces [a0] H Q := hT.call (by kernel_rfl) (by kernel_rfl) (by rw [eq_span_Pieces]; exact h)
theorem cl_span_sound {Φ : Calls'} (hT : Cl Φ tab_span) {a0 : AV} {H : AH} {Q : Post} (h : span_sound Φ a0 H Q) : Φ K.span_sound [a0] H Q := hT.call (by kernel_rfl) (by kernel_rfl) (by rw [eq_span_sound]; exact h)
end Rb.S

/- Package span: its functions as runs. By gen.py. -/
set_option linter.unusedVariables false
namespace Rb.R
open Go

def span_Pieces_k1 (Φ : CallsB) (n : Nat) (s34 : List AV × TH) (L35 : (List AV × TH) → Bool) (Q : PostB) : List AV → TH → Bool := fun j36 H37 =>
 DoB (abin .quo (sl s34.1 0) (.int .i64 2)) fun x49 =>
 L35 ([x49], H37)
def span_Pieces_k2 (Φ : CallsB) (n : Nat) (x1 : AV) (s26 : List AV × TH) (L27 : (List AV × TH) → Bool) (Q : PostB) : List AV → TH → Bool := fun j32 H33 =>
 DoB (afaddr 0 x1) fun x50 =>
 DoB (aload H33.ah 1 false x50) fun x51 =>
 DoB (abuild [.int .i64 0, .int .i64 0] [(0, 1, x51), (1, 1, (sl j32 0))]) fun x53 =>
 DoHB (tbslice H33 false 2 1 [.int .i64 0, .int .i64 0] [(0, 2, x53)]) fun x54 H55 =>
 DoHB (tappend H55 false 2 16 (sl s26.1 0) x54) fun x56 H57 =>
 DoB (afaddr 0 x1) fun x58 =>
 DoB (aload H57.ah 1 false x58) fun x59 =>
 DoB (abin .add x59 (sl j32 0)) fun x61 =>
 DoB (afaddr 0 x1) fun x62 =>
 DoB (tstore H57 1 x62 x61) fun H64 =>
 DoB (afaddr 1 x1) fun x65 =>
 DoB (aload H64.ah 1 false x65) fun x66 =>
 DoB (abin .sub x66 (sl j32 0)) fun x68 =>
 DoB (afaddr 1 x1) fun x69 =>
 DoB (tstore H64 1 x69 x68) fun H71 =>
 L27 ([x56], H71)
def span_Pieces_k3 (Φ : CallsB) (n : Nat) (x1 : AV) (s26 : List AV × TH) (L27 : (List AV × TH) → Bool) (s34 : List AV × TH) (L35 : (List AV × TH) → Bool) (Q : PostB) : List AV → TH → Bool := fun j38 H39 =>
 GdB (sl j38 0) true (
 JoinB (span_Pieces_k1 Φ n s34 L35 Q) [] H39) (
 JoinB (span_Pieces_k2 Φ n x1 s26 L27 Q) [(sl s34.1 0)] H39)
def span_Pieces_l4 (Φ : CallsB) (n : Nat) (x1 : AV) (s26 : List AV × TH) (L27 : (List AV × TH) → Bool) (Q : PostB) : (List AV × TH) → ((List AV × TH) → Bool) → Bool := fun s34 L35 =>
 DoB (afaddr 1 x1) fun x40 =>
 DoB (aload s34.2.ah 1 false x40) fun x41 =>
 DoB (abin .gtr (sl s34.1 0) x41) fun x43 =>
 Gd3B x43 false (
 DoB (afaddr 0 x1) fun x44 =>
 DoB (aload s34.2.ah 1 false x44) fun x45 =>
 DoB (abin .rem x45 (sl s34.1 0)) fun x47 =>
 DoB (abin .neq x47 (.int .i64 0)) fun x48 =>
 JoinB (span_Pieces_k3 Φ n x1 s26 L27 s34 L35 Q) [x48] s34.2) (
 JoinB (span_Pieces_k3 Φ n x1 s26 L27 s34 L35 Q) [(.bool true)] s34.2) (
 false)
def span_Pieces_l5 (Φ : CallsB) (n : Nat) (x1 : AV) (Q : PostB) : (List AV × TH) → ((List AV × TH) → Bool) → Bool := fun s26 L27 =>
 DoB (afaddr 1 x1) fun x28 =>
 DoB (aload s26.2.ah 1 false x28) fun x29 =>
 DoB (abin .gtr x29 (.int .i64 0)) fun x31 =>
 GdB x31 true (
 LoopB (span_Pieces_l4 Φ n x1 s26 L27 Q) n ([(.int .i64 8)], s26.2)) (
 Q (sl s26.1 0) s26.2)
def span_Pieces_k6 (Φ : CallsB) (n : Nat) (x1 : AV) (Q : PostB) : List AV → TH → Bool := fun j3 H4 =>
 LoopB (span_Pieces_l5 Φ n x1 Q) n ([(.lst .nil 0 [])], H4)
def span_Pieces_k7 (Φ : CallsB) (n : Nat) (x1 : AV) (Q : PostB) : List AV → TH → Bool := fun j5 H6 =>
 GdB (sl j5 0) true (
 Q (.lst .nil 0 []) H6) (
 JoinB (span_Pieces_k6 Φ n x1 Q) [] H6)
def span_Pieces_k8 (Φ : CallsB) (n : Nat) (x1 : AV) (Q : PostB) : List AV → TH → Bool := fun j7 H8 =>
 Gd3B (sl j7 0) false (
 DoB (afaddr 0 x1) fun x18 =>
 DoB (aload H8.ah 1 false x18) fun x19 =>
 DoB (afaddr 1 x1) fun x21 =>
 DoB (aload H8.ah 1 false x21) fun x22 =>
 DoB (abin .add x19 x22) fun x24 =>
 DoB (abin .gtr x24 (.int .i64 1099511627776)) fun x25 =>
 JoinB (span_Pieces_k7 Φ n x1 Q) [x25] H8) (
 JoinB (span_Pieces_k7 Φ n x1 Q) [(.bool true)] H8) (
 false)
def span_Pieces (Φ : CallsB) (n : Nat) (a0 : AV) (H : TH) (Q : PostB) : Bool :=
 DoHB (tboxv H true 2 a0) fun x1 H2 =>
 DoB (aload H2.ah 2 true x1) fun x9 =>
Φ K.span_sound [x9] H2 fun x11 H12 =>
 DoB (aun .not x11) fun x13 =>
 Gd3B x13 false (
 DoB (afaddr 1 x1) fun x14 =>
 DoB (aload H12.ah 1 false x14) fun x15 =>
 DoB (abin .gtr x15 (.int .i64 64)) fun x17 =>
 JoinB (span_Pieces_k8 Φ n x1 Q) [x17] H12) (
 JoinB (span_Pieces_k8 Φ n x1 Q) [(.bool true)] H12) (
 false)
theorem eq_span_Pieces (Φ : CallsB) (n : Nat) (a0 : AV) (H : TH) (Q : PostB) : fnB1 Φ n S.ir_span_Pieces [a0] H Q = span_Pieces Φ n a0 H Q := by kernel_rfl

def span_sound_k1 (Φ : CallsB) (n : Nat) (x1 : AV) (Q : PostB) : List AV → TH → Bool := fun j13 H14 =>
 Gd3B (sl j13 0) true (
 DoB (afaddr 1 x1) fun x19 =>
 DoB (aload H14.ah 1 false x19) fun x20 =>
 DoB (abin .leq x20 (.int .i64 1048576)) fun x22 =>
 Q x22 H14) (
 Q (.bool false) H14) (
 false)
def span_sound_k2 (Φ : CallsB) (n : Nat) (x1 : AV) (Q : PostB) : List AV → TH → Bool := fun j3 H4 =>
 Gd3B (sl j3 0) true (
 DoB (afaddr 1 x1) fun x15 =>
 DoB (aload H4.ah 1 false x15) fun x16 =>
 DoB (abin .geq x16 (.int .i64 0)) fun x18 =>
 JoinB (span_sound_k1 Φ n x1 Q) [x18] H4) (
 JoinB (span_sound_k1 Φ n x1 Q) [(.bool false)] H4) (
 false)
def span_sound (Φ : CallsB) (n : Nat) (a0 : AV) (H : TH) (Q : PostB) : Bool :=
 DoHB (tboxv H false 2 a0) fun x1 H2 =>
 DoB (afaddr 0 x1) fun x5 =>
 DoB (aload H2.ah 1 false x5) fun x6 =>
 DoB (abin .geq x6 (.int .i64 0)) fun x8 =>
 Gd3B x8 true (
 DoB (afaddr 0 x1) fun x9 =>
 DoB (aload H2.ah 1 false x9) fun x10 =>
 DoB (abin .leq x10 (.int .i64 1099511627776)) fun x12 =>
 JoinB (span_sound_k2 Φ n x1 Q) [x12] H2) (
 JoinB (span_sound_k2 Φ n x1 Q) [(.bool false)] H2) (
 false)
theorem eq_span_sound (Φ : CallsB) (n : Nat) (a0 : AV) (H : TH) (Q : PostB) : fnB1 Φ n S.ir_span_sound [a0] H Q = span_sound Φ n a0 H Q := by kernel_rfl

end Rb.R

/- Package world: its functions in the small language, and what they mean. By gen.py. -/
set_option linter.unusedVariables false
namespace Rb.S
open Go

/-! rabbet/world.Map -/
def world_Map_k1 (Φ : Calls') (s4 : List AV × AH) (L5 : (List AV × AH) → Prop) (Q : Post) : List AV → AH → Prop := fun j7 H8 =>
 Do (abin .add (sl s4.1 2) (.int .i64 1)) fun x39 =>
 L5 ([(sl j7 0), (sl j7 1), x39], H8)
def world_Map_k2 (Φ : Calls') (x11 : AV) (x18 : AV) (s4 : List AV × AH) (L5 : (List AV × AH) → Prop) (Q : Post) : List AV → AH → Prop := fun j26 H27 =>
 Do (afaddr 0 x11) fun x29 =>
 Do (aload H27 1 false x29) fun x30 =>
 Do (abin .add (.int .i64 65536) (sl j26 0)) fun x31 =>
 Do (abuild [.int .i64 0, .int .i64 0] [(0, 1, x31), (1, 1, x18)]) fun x32 =>
 Do (abuild [.str [], .int .i64 0, .int .i64 0] [(0, 1, x30), (1, 2, x32)]) fun x33 =>
 DoH (abslice H27 false 3 1 [.str [], .int .i64 0, .int .i64 0] [(0, 3, x33)]) fun x34 H35 =>
 DoH (aappend H35 false 3 32 (sl s4.1 0) x34) fun x36 H37 =>
 Do (abin .add (sl j26 0) x18) fun x38 =>
 JoinP (world_Map_k1 Φ s4 L5 Q) [x36, x38] H37
def world_Map_k3 (Φ : Calls') (Q : Post) : List AV → AH → Prop := fun j1 H2 =>
 Do (abin .gtr (sl j1 1) (.int .i64 65536)) fun x40 =>
 Gd x40 true (
 Q (.tup [(.lst .nil 0 []), (.int .i64 0), (.int .i64 9)]) H2) (
 Q (.tup [(sl j1 0), (sl j1 1), (.int .i64 0)]) H2)
def world_Map_l4 (Φ : Calls') (a0 : AV) (x3 : AV) (Q : Post) : (List AV × AH) → ((List AV × AH) → Prop) → Prop := fun s4 L5 =>
 Do (abin .lss (sl s4.1 2) x3) fun x6 =>
 Gd x6 true (
 Do (aiaddr none 7 a0 (sl s4.1 2)) fun x9 =>
 Do (aload s4.2 7 true x9) fun x10 =>
 DoH (some (abox s4.2 true [.str [], .int .i64 0, .int .i64 0, .bool false, .lst .nil 0 [], .int .i64 0, .lst .nil 0 []])) fun x11 H12 =>
 Do (astore H12 7 x11 x10) fun H13 =>
 Do (afaddr 1 x11) fun x14 =>
 Do (aload H13 6 true x14) fun x15 =>
Φ K.layout_Of [x15] H13 fun x16 H17 =>
 Do (aextract 0 x16) fun x18 =>
 Do (aextract 1 x16) fun x19 =>
 Do (aextract 2 x16) fun x20 =>
 Do (abin .neq x20 (.int .i64 0)) fun x21 =>
 Gd x21 true (
 Q (.tup [(.lst .nil 0 []), (.int .i64 0), x20]) H17) (
 Do (abin .add (sl s4.1 1) x19) fun x22 =>
 Do (abin .sub x22 (.int .i64 1)) fun x23 =>
 Do (abin .quo x23 x19) fun x24 =>
 Do (abin .mul x24 x19) fun x25 =>
 Do (abin .gtr x25 (.int .i64 65536)) fun x28 =>
 Gd x28 true (
 JoinP (world_Map_k2 Φ x11 x18 s4 L5 Q) [(.int .i64 65537)] H17) (
 JoinP (world_Map_k2 Φ x11 x18 s4 L5 Q) [x25] H17))) (
 JoinP (world_Map_k3 Φ Q) [(sl s4.1 0), (sl s4.1 1)] s4.2)
def world_Map (Φ : Calls') (a0 : AV) (H : AH) (Q : Post) : Prop :=
 Do (alen false a0) fun x3 =>
 LoopP (world_Map_l4 Φ a0 x3 Q) ([(.lst .nil 0 []), (.int .i64 0), (.int .i64 0)], H)
def ir_world_Map : AFunc := ⟨56, [.tmp 2, .tmp 3, .tmp 4],
 .seq (.region [
   ⟨some 2, .mv (.k (.lst .nil 0 [])), none⟩,
   ⟨some 3, .mv (.k (.int .i64 0)), none⟩,
   ⟨some 4, .mv (.k (.int .i64 0)), none⟩])
 (.seq (.region [
   ⟨some 5, .mv (.k (.lst .nil 0 [])), none⟩])
 (.seq (.region [
   ⟨some 6, .mv (.k (.int .i64 0)), none⟩])
 (.join [5, 6] [2, 3, 4, 8, 9, 10, 11, 12, 13, 14, 15, 16, 17, 18, 19, 20, 21, 22, 23, 24, 25, 26, 27, 28, 29, 30, 31, 32, 33, 34, 35, 36, 37, 38, 39, 40, 41, 42, 43, 44, 45, 46, 47, 48, 49, 50, 51] (.seq (.region [
   ⟨some 12, .mv (.t 0), none⟩,
   ⟨some 13, .len false (.t 12), none⟩,
   ⟨some 14, .mv (.k (.int .i64 0)), none⟩])
 (.block 0 (.loop [5, 6, 14] [2, 3, 4, 8, 9, 10, 11, 15, 16, 17, 18, 19, 20, 21, 22, 23, 24, 25, 26, 27, 28, 29, 30, 31, 32, 33, 34, 35, 36, 37, 38, 39, 40, 41, 42, 43, 44, 45, 46, 47, 48, 49, 50, 51] (.seq (.region [
   ⟨some 15, .bin .lss (.t 14) (.t 13), none⟩])
 (.seq (.cond (.t 15) (.skip)
   (.exit 0))
 (.join [5, 6] [2, 3, 4, 8, 9, 10, 11, 16, 17, 18, 19, 20, 21, 22, 23, 24, 25, 26, 27, 28, 29, 30, 31, 32, 33, 34, 35, 36, 37, 38, 39, 40, 41, 42, 43, 44, 45, 46, 47, 48, 49, 50] (.block 1 (.seq (.region [
   ⟨some 16, .iaddr none 7 (.t 12) (.t 14), none⟩,
   ⟨some 17, .load 7 true (.t 16), none⟩,
   ⟨some 8, .alloc true [.str [], .int .i64 0, .int .i64 0, .bool false, .lst .nil 0 [], .int .i64 0, .lst .nil 0 []], none⟩,
   ⟨none, .store 7 (.t 8) (.t 17), none⟩])
 (.seq (.region [
   ⟨some 19, .faddr 1 (.t 8), none⟩,
   ⟨some 20, .load 6 true (.t 19), none⟩,
   ⟨some 21, .call K.layout_Of [(.t 20)], none⟩,
   ⟨some 18, .mv (.t 21), none⟩,
   ⟨some 22, .extract 0 (.t 18), none⟩,
   ⟨some 23, .extract 1 (.t 18), none⟩,
   ⟨some 24, .extract 2 (.t 18), none⟩,
   ⟨some 9, .mv (.t 22), none⟩,
   ⟨some 10, .mv (.t 23), none⟩,
   ⟨some 11, .mv (.t 24), none⟩])
 (.seq (.seq (.region [
   ⟨some 25, .mv (.t 11), none⟩,
   ⟨some 26, .bin .neq (.t 25) (.k (.int .i64 0)), none⟩])
 (.cond (.t 26) (.seq (.region [
     ⟨some 27, .mv (.t 11), none⟩,
     ⟨some 2, .mv (.k (.lst .nil 0 [])), none⟩,
     ⟨some 3, .mv (.k (.int .i64 0)), none⟩,
     ⟨some 4, .mv (.t 27), none⟩])
   (.ret))
   (.skip)))
 (.seq (.region [
   ⟨some 28, .mv (.t 6), none⟩,
   ⟨some 29, .mv (.t 10), none⟩,
   ⟨some 30, .bin .add (.t 28) (.t 29), none⟩,
   ⟨some 31, .bin .sub (.t 30) (.k (.int .i64 1)), none⟩,
   ⟨some 32, .mv (.t 10), none⟩,
   ⟨some 33, .bin .quo (.t 31) (.t 32), none⟩,
   ⟨some 34, .mv (.t 10), none⟩,
   ⟨some 35, .bin .mul (.t 33) (.t 34), none⟩,
   ⟨some 6, .mv (.t 35), none⟩])
 (.join [6] [36, 37] (.seq (.region [
   ⟨some 36, .mv (.t 6), none⟩,
   ⟨some 37, .bin .gtr (.t 36) (.k (.int .i64 65536)), none⟩])
 (.cond (.t 37) (.region [
     ⟨some 6, .mv (.k (.int .i64 65537)), none⟩])
   (.skip)))
 (.seq (.region [
   ⟨some 38, .mv (.t 5), none⟩,
   ⟨some 39, .faddr 0 (.t 8), none⟩,
   ⟨some 40, .load 1 false (.t 39), none⟩,
   ⟨some 41, .mv (.t 6), none⟩,
   ⟨some 42, .bin .add (.k (.int .i64 65536)) (.t 41), none⟩,
   ⟨some 43, .mv (.t 9), none⟩,
   ⟨some 44, .build [.int .i64 0, .int .i64 0] [(0, 1, (.t 42)), (1, 1, (.t 43))], none⟩,
   ⟨some 45, .build [.str [], .int .i64 0, .int .i64 0] [(0, 1, (.t 40)), (1, 2, (.t 44))], none⟩,
   ⟨some 46, .bslice false 3 1 [.str [], .int .i64 0, .int .i64 0] [(0, 3, (.t 45))], none⟩,
   ⟨some 47, .append false 3 32 (.t 38) (.t 46), none⟩,
   ⟨some 5, .mv (.t 47), none⟩])
 (.region [
   ⟨some 48, .mv (.t 6), none⟩,
   ⟨some 49, .mv (.t 9), none⟩,
   ⟨some 50, .bin .add (.t 48) (.t 49), none⟩,
   ⟨some 6, .mv (.t 50), none⟩]))))))))
 (.region [
   ⟨some 51, .bin .add (.t 14) (.k (.int .i64 1)), none⟩,
   ⟨some 14, .mv (.t 51), none⟩])))))))
 (.seq (.seq (.region [
   ⟨some 52, .mv (.t 6), none⟩,
   ⟨some 53, .bin .gtr (.t 52) (.k (.int .i64 65536)), none⟩])
 (.cond (.t 53) (.seq (.region [
     ⟨some 2, .mv (.k (.lst .nil 0 [])), none⟩,
     ⟨some 3, .mv (.k (.int .i64 0)), none⟩,
     ⟨some 4, .mv (.k (.int .i64 9)), none⟩])
   (.ret))
   (.skip)))
 (.seq (.region [
   ⟨some 54, .mv (.t 5), none⟩,
   ⟨some 55, .mv (.t 6), none⟩,
   ⟨some 2, .mv (.t 54), none⟩,
   ⟨some 3, .mv (.t 55), none⟩,
   ⟨some 4, .mv (.k (.int .i64 0)), none⟩])
 (.ret))))))⟩
theorem eq_world_Map (Φ : Calls') (a0 : AV) (H : AH) (Q : Post) : fnE1 Φ ir_world_Map [a0] H Q = world_Map Φ a0 H Q := by kernel_rfl

def tab_world : Tab := [
  (K.world_Map, ir_world_Map)]

theorem cl_world_Map {Φ : Calls'} (hT : Cl Φ tab_world) {a0 : AV} {H : AH} {Q : Post} (h : world_Map Φ a0 H Q) : Φ K.world_Map [a0] H Q := hT.call (by kernel_rfl) (by kernel_rfl) (by rw [eq_world_Map]; exact h)
end Rb.S

/- Package world: its functions as runs. By gen.py. -/
set_option linter.unusedVariables false
namespace Rb.R
open Go

def world_Map_k1 (Φ : CallsB) (n : Nat) (s4 : List AV × TH) (L5 : (List AV × TH) → Bool) (Q : PostB) : List AV → TH → Bool := fun j7 H8 =>
 DoB (abin .add (sl s4.1 2) (.int .i64 1)) fun x43 =>
 L5 ([(sl j7 0), (sl j7 1), x43], H8)
def world_Map_k2 (Φ : CallsB) (n : Nat) (x12 : AV) (x21 : AV) (s4 : List AV × TH) (L5 : (List AV × TH) → Bool) (Q : PostB) : List AV → TH → Bool := fun j29 H30 =>
 DoB (afaddr 0 x12) fun x32 =>
 DoB (aload H30.ah 1 false x32) fun x33 =>
 DoB (abin .add (.int .i64 65536) (sl j29 0)) fun x35 =>
 DoB (abuild [.int .i64 0, .int .i64 0] [(0, 1, x35), (1, 1, x21)]) fun x36 =>
 DoB (abuild [.str [], .int .i64 0, .int .i64 0] [(0, 1, x33), (1, 2, x36)]) fun x37 =>
 DoHB (tbslice H30 false 3 1 [.str [], .int .i64 0, .int .i64 0] [(0, 3, x37)]) fun x38 H39 =>
 DoHB (tappend H39 false 3 32 (sl s4.1 0) x38) fun x40 H41 =>
 DoB (abin .add (sl j29 0) x21) fun x42 =>
 JoinB (world_Map_k1 Φ n s4 L5 Q) [x40, x42] H41
def world_Map_k3 (Φ : CallsB) (n : Nat) (Q : PostB) : List AV → TH → Bool := fun j1 H2 =>
 DoB (abin .gtr (sl j1 1) (.int .i64 65536)) fun x44 =>
 GdB x44 true (
 Q (.tup [(.lst .nil 0 []), (.int .i64 0), (.int .i64 9)]) H2) (
 Q (.tup [(sl j1 0), (sl j1 1), (.int .i64 0)]) H2)
def world_Map_l4 (Φ : CallsB) (n : Nat) (a0 : AV) (x3 : AV) (Q : PostB) : (List AV × TH) → ((List AV × TH) → Bool) → Bool := fun s4 L5 =>
 DoB (abin .lss (sl s4.1 2) x3) fun x6 =>
 GdB x6 true (
 DoB (aiaddr none 7 a0 (sl s4.1 2)) fun x9 =>
 DoB (aload s4.2.ah 7 true x9) fun x10 =>
 DoHB (some (tbox s4.2 true [.str [], .int .i64 0, .int .i64 0, .bool false, .lst .nil 0 [], .int .i64 0, .lst .nil 0 []])) fun x12 H13 =>
 DoB (tstore H13 7 x12 x10) fun H15 =>
 DoB (afaddr 1 x12) fun x16 =>
 DoB (aload H15.ah 6 true x16) fun x17 =>
Φ K.layout_Of [x17] H15 fun x19 H20 =>
 DoB (aextract 0 x19) fun x21 =>
 DoB (aextract 1 x19) fun x22 =>
 DoB (aextract 2 x19) fun x23 =>
 DoB (abin .neq x23 (.int .i64 0)) fun x24 =>
 GdB x24 true (
 Q (.tup [(.lst .nil 0 []), (.int .i64 0), x23]) H20) (
 DoB (abin .add (sl s4.1 1) x22) fun x25 =>
 DoB (abin .sub x25 (.int .i64 1)) fun x26 =>
 DoB (abin .quo x26 x22) fun x27 =>
 DoB (abin .mul x27 x22) fun x28 =>
 DoB (abin .gtr x28 (.int .i64 65536)) fun x31 =>
 GdB x31 true (
 JoinB (world_Map_k2 Φ n x12 x21 s4 L5 Q) [(.int .i64 65537)] H20) (
 JoinB (world_Map_k2 Φ n x12 x21 s4 L5 Q) [x28] H20))) (
 JoinB (world_Map_k3 Φ n Q) [(sl s4.1 0), (sl s4.1 1)] s4.2)
def world_Map (Φ : CallsB) (n : Nat) (a0 : AV) (H : TH) (Q : PostB) : Bool :=
 DoB (alen false a0) fun x3 =>
 LoopB (world_Map_l4 Φ n a0 x3 Q) n ([(.lst .nil 0 []), (.int .i64 0), (.int .i64 0)], H)
theorem eq_world_Map (Φ : CallsB) (n : Nat) (a0 : AV) (H : TH) (Q : PostB) : fnB1 Φ n S.ir_world_Map [a0] H Q = world_Map Φ n a0 H Q := by kernel_rfl

end Rb.R

/- The seat's functions: which they are; that each is as its text says; as runs. By seat.py. -/
set_option linter.unusedVariables false
namespace Go.Proofs.YtifjgnmgchcfaaaGreatDoor.rb
open Rb
noncomputable def fids : List (Nat × FuncId) := [(80, 69), (84, 42), (86, 7), (88, 39), (89, 86), (90, 46), (91, 87), (93, 13), (94, 14), (95, 15), (96, 72), (97, 73), (98, 80), (99, 101), (102, 18), (103, 19), (104, 20), (105, 21), (106, 16), (107, 22), (108, 89), (109, 90), (110, 91), (111, 92), (114, 36), (115, 37), (116, 38), (117, 23), (118, 40), (119, 41), (120, 43), (121, 44), (122, 45), (123, 102), (124, 64), (125, 65), (126, 66), (127, 47), (128, 48), (129, 67), (130, 68), (131, 70), (132, 71), (133, 76), (134, 104), (136, 74), (137, 75), (138, 77), (139, 78), (140, 88), (143, 93), (144, 94), (145, 95), (146, 96), (147, 97), (244, 3), (245, 4), (246, 5), (247, 6), (248, 8), (249, 9), (250, 10), (251, 11), (252, 12), (253, 17), (254, 24), (255, 25), (256, 26), (257, 27), (258, 28), (259, 29), (260, 30), (261, 31), (262, 32), (263, 33), (264, 34), (265, 35), (266, 49), (267, 50), (268, 51), (269, 52), (270, 53), (271, 54), (272, 55), (273, 56), (274, 57), (275, 58), (276, 59), (277, 60), (278, 61), (279, 62), (280, 63), (281, 79), (282, 81), (283, 82), (284, 83), (285, 84), (286, 98), (287, 103)]
noncomputable def gt (g : Nat) : Option (List AV) := if g = 0 then some asciiSpace else none
theorem gtok : ∀ g l, gt g = some l → AV.frozs l = true := by
  intro g l h
  unfold gt at h
  split at h
  · cases h; kernel_rfl
  cases h
noncomputable def C : Ctx := mkC Tryz.prog fids gt
theorem fok : FOK C := fok_of (by kernel_rfl)
theorem gtC : GTok C := gtok
theorem cl_check : Cl (ACall C) S.tab_check := Cl.of (ACall_mono C) (closed_of fok (by kernel_rfl))
theorem cl_kind : Cl (ACall C) S.tab_kind := Cl.of (ACall_mono C) (closed_of fok (by kernel_rfl))
theorem cl_layout : Cl (ACall C) S.tab_layout := Cl.of (ACall_mono C) (closed_of fok (by kernel_rfl))
theorem cl_lex : Cl (ACall C) S.tab_lex := Cl.of (ACall_mono C) (closed_of fok (by kernel_rfl))
theorem cl_libslices : Cl (ACall C) S.tab_libslices := Cl.of (ACall_mono C) (closed_of fok (by kernel_rfl))
theorem cl_libstrings : Cl (ACall C) S.tab_libstrings := Cl.of (ACall_mono C) (closed_of fok (by kernel_rfl))
theorem cl_lower : Cl (ACall C) S.tab_lower := Cl.of (ACall_mono C) (closed_of fok (by kernel_rfl))
theorem cl_rabbetlaw13 : Cl (ACall C) S.tab_rabbetlaw13 := Cl.of (ACall_mono C) (closed_of fok (by kernel_rfl))
theorem cl_span : Cl (ACall C) S.tab_span := Cl.of (ACall_mono C) (closed_of fok (by kernel_rfl))
theorem cl_world : Cl (ACall C) S.tab_world := Cl.of (ACall_mono C) (closed_of fok (by kernel_rfl))
noncomputable def disp (n : Nat) (Φ : CallsB) : CallsB := fun k a T Q =>
  cond (Nat.blt k 143) (cond (Nat.blt k 114) (cond (Nat.blt k 98) (cond (Nat.blt k 91) (cond (Nat.blt k 88) (cond (Nat.blt k 84) (cond (Nat.beq k 80) (ap2 (R.check_Place Φ n) a T Q) false) (cond (Nat.blt k 86) (cond (Nat.beq k 84) (ap2 (R.check_Order Φ n) a T Q) false) (cond (Nat.beq k 86) (ap1 (R.check_Prog Φ n) a T Q) false))) (cond (Nat.blt k 89) (cond (Nat.beq k 88) (ap2 (R.slices_IndexFunc___api_Var_api_Var_ Φ n) a T Q) false) (cond (Nat.blt k 90) (cond (Nat.beq k 89) (ap2 (R.check_Place_c1 Φ n) a T Q) false) (cond (Nat.beq k 90) (ap1 (R.kind_Sound Φ n) a T Q) false)))) (cond (Nat.blt k 95) (cond (Nat.blt k 93) (cond (Nat.beq k 91) (ap2 (R.check_part Φ n) a T Q) false) (cond (Nat.blt k 94) (cond (Nat.beq k 93) (ap1 (R.check_vars Φ n) a T Q) false) (cond (Nat.beq k 94) (ap3 (R.check_checker_block Φ n) a T Q) false))) (cond (Nat.blt k 96) (cond (Nat.beq k 95) (ap1 (R.check_checker_bad Φ n) a T Q) false) (cond (Nat.blt k 97) (cond (Nat.beq k 96) (ap1 (R.kind_Depth Φ n) a T Q) false) (cond (Nat.beq k 97) (ap1 (R.kind_sound Φ n) a T Q) false))))) (cond (Nat.blt k 106) (cond (Nat.blt k 103) (cond (Nat.blt k 99) (cond (Nat.beq k 98) (ap2 (R.slices_IndexFunc___api_Field_api_Field_ Φ n) a T Q) false) (cond (Nat.blt k 102) (cond (Nat.beq k 99) (ap2 (R.check_part_c1 Φ n) a T Q) false) (cond (Nat.beq k 102) (ap1 (R.kind_Name Φ n) a T Q) false))) (cond (Nat.blt k 104) (cond (Nat.beq k 103) (ap1 (R.lex_Keyword Φ n) a T Q) false) (cond (Nat.blt k 105) (cond (Nat.beq k 104) (ap2 (R.slices_ContainsFunc___api_Var_api_Var_ Φ n) a T Q) false) (cond (Nat.beq k 105) (ap2 (R.check_vars_c1 Φ n) a T Q) false)))) (cond (Nat.blt k 109) (cond (Nat.blt k 107) (cond (Nat.beq k 106) (ap1 (R.layout_Of Φ n) a T Q) false) (cond (Nat.blt k 108) (cond (Nat.beq k 107) (ap3 (R.check_checker_stmt Φ n) a T Q) false) (cond (Nat.beq k 108) (ap2 (R.kind_depth Φ n) a T Q) false))) (cond (Nat.blt k 110) (cond (Nat.beq k 109) (ap1 (R.kind_only Φ n) a T Q) false) (cond (Nat.blt k 111) (cond (Nat.beq k 110) (ap2 (R.kind_power Φ n) a T Q) false) (cond (Nat.beq k 111) (ap1 (R.kind_group Φ n) a T Q) false)))))) (cond (Nat.blt k 127) (cond (Nat.blt k 120) (cond (Nat.blt k 117) (cond (Nat.blt k 115) (cond (Nat.beq k 114) (ap1 (R.kind_letter Φ n) a T Q) false) (cond (Nat.blt k 116) (cond (Nat.beq k 115) (ap2 (R.slices_Contains___string_string_ Φ n) a T Q) false) (cond (Nat.beq k 116) (ap1 (R.strings_Fields Φ n) a T Q) false))) (cond (Nat.blt k 118) (cond (Nat.beq k 117) (ap1 (R.layout_check Φ n) a T Q) false) (cond (Nat.blt k 119) (cond (Nat.beq k 118) (ap3 (R.check_checker_need Φ n) a T Q) false) (cond (Nat.beq k 119) (ap1 (R.check_form Φ n) a T Q) false)))) (cond (Nat.blt k 123) (cond (Nat.blt k 121) (cond (Nat.beq k 120) (ap2 (R.check_checker_there Φ n) a T Q) false) (cond (Nat.blt k 122) (cond (Nat.beq k 121) (ap4 (R.check_checker_place Φ n) a T Q) false) (cond (Nat.beq k 122) (ap3 (R.check_checker_exprs Φ n) a T Q) false))) (cond (Nat.blt k 124) (cond (Nat.beq k 123) (ap2 (R.kind_field Φ n) a T Q) false) (cond (Nat.blt k 125) (cond (Nat.beq k 124) (ap2 (R.slices_Index___string_string_ Φ n) a T Q) false) (cond (Nat.beq k 125) (ap2 (R.strings_FieldsFunc Φ n) a T Q) false))))) (cond (Nat.blt k 133) (cond (Nat.blt k 130) (cond (Nat.blt k 128) (cond (Nat.beq k 127) (ap1 (R.layout_torn Φ n) a T Q) false) (cond (Nat.blt k 129) (cond (Nat.beq k 128) (ap1 (R.layout_of Φ n) a T Q) false) (cond (Nat.beq k 129) (ap1 (R.check_of Φ n) a T Q) false))) (cond (Nat.blt k 131) (cond (Nat.beq k 130) (ap1 (R.check_empty Φ n) a T Q) false) (cond (Nat.blt k 132) (cond (Nat.beq k 131) (ap2 (R.check_fits Φ n) a T Q) false) (cond (Nat.beq k 132) (ap3 (R.check_checker_expr Φ n) a T Q) false)))) (cond (Nat.blt k 137) (cond (Nat.blt k 134) (cond (Nat.beq k 133) (ap2 (R.slices_ContainsFunc___api_Field_api_Field_ Φ n) a T Q) false) (cond (Nat.blt k 136) (cond (Nat.beq k 134) (ap2 (R.kind_field_c1 Φ n) a T Q) false) (cond (Nat.beq k 136) (ap1 (R.layout_loose Φ n) a T Q) false))) (cond (Nat.blt k 139) (cond (Nat.blt k 138) (cond (Nat.beq k 137) (ap2 (R.slices_ContainsFunc___api_Type_api_Type_ Φ n) a T Q) false) (cond (Nat.beq k 138) (ap1 (R.layout_torn_c1 Φ n) a T Q) false)) (cond (Nat.blt k 140) (cond (Nat.beq k 139) (ap1 (R.layout_place Φ n) a T Q) false) (cond (Nat.beq k 140) (ap1 (R.check_formed Φ n) a T Q) false))))))) (cond (Nat.blt k 263) (cond (Nat.blt k 251) (cond (Nat.blt k 245) (cond (Nat.blt k 146) (cond (Nat.blt k 144) (cond (Nat.beq k 143) (ap1 (R.layout_loose_c1 Φ n) a T Q) false) (cond (Nat.blt k 145) (cond (Nat.beq k 144) (ap2 (R.slices_IndexFunc___api_Type_api_Type_ Φ n) a T Q) false) (cond (Nat.beq k 145) (ap3 (R.layout_wide Φ n) a T Q) false))) (cond (Nat.blt k 147) (cond (Nat.beq k 146) (ap2 (R.layout_placed_bits Φ n) a T Q) false) (cond (Nat.blt k 244) (cond (Nat.beq k 147) (ap2 (R.layout_up Φ n) a T Q) false) (cond (Nat.beq k 244) (ap2 (R.rabbetlaw13_LowerSingle Φ n) a T Q) false)))) (cond (Nat.blt k 248) (cond (Nat.blt k 246) (cond (Nat.beq k 245) (ap1 (R.rabbetlaw13_num Φ n) a T Q) false) (cond (Nat.blt k 247) (cond (Nat.beq k 246) (ap2 (R.lower_Thread Φ n) a T Q) false) (cond (Nat.beq k 247) (ap0 (R.rabbetlaw13_awake Φ n) a T Q) false))) (cond (Nat.blt k 249) (cond (Nat.beq k 248) (ap1 (R.world_Map Φ n) a T Q) false) (cond (Nat.blt k 250) (cond (Nat.beq k 249) (ap2 (R.lower_maker_block Φ n) a T Q) false) (cond (Nat.beq k 250) (ap1 (R.rabbetlaw13_tiny Φ n) a T Q) false))))) (cond (Nat.blt k 257) (cond (Nat.blt k 254) (cond (Nat.blt k 252) (cond (Nat.beq k 251) (ap1 (R.rabbetlaw13_x Φ n) a T Q) false) (cond (Nat.blt k 253) (cond (Nat.beq k 252) (ap2 (R.lower_Accesses Φ n) a T Q) false) (cond (Nat.beq k 253) (ap2 (R.lower_maker_stmt Φ n) a T Q) false))) (cond (Nat.blt k 255) (cond (Nat.beq k 254) (ap2 (R.lower_maker_expr Φ n) a T Q) false) (cond (Nat.blt k 256) (cond (Nat.beq k 255) (ap1 (R.lower_maker_fresh Φ n) a T Q) false) (cond (Nat.beq k 256) (ap3 (R.lower_maker_set Φ n) a T Q) false)))) (cond (Nat.blt k 260) (cond (Nat.blt k 258) (cond (Nat.beq k 257) (ap2 (R.lower_maker_find Φ n) a T Q) false) (cond (Nat.blt k 259) (cond (Nat.beq k 258) (ap3 (R.lower_maker_write Φ n) a T Q) false) (cond (Nat.beq k 259) (ap2 (R.lower_maker_stored Φ n) a T Q) false))) (cond (Nat.blt k 261) (cond (Nat.beq k 260) (ap2 (R.lower_maker_loaded Φ n) a T Q) false) (cond (Nat.blt k 262) (cond (Nat.beq k 261) (ap1 (R.lower_step Φ n) a T Q) false) (cond (Nat.beq k 262) (ap4 (R.lower_maker_site Φ n) a T Q) false)))))) (cond (Nat.blt k 275) (cond (Nat.blt k 269) (cond (Nat.blt k 266) (cond (Nat.blt k 264) (cond (Nat.beq k 263) (ap2 (R.lower_maker_add Φ n) a T Q) false) (cond (Nat.blt k 265) (cond (Nat.beq k 264) (ap2 (R.lower_maker_choose Φ n) a T Q) false) (cond (Nat.beq k 265) (ap2 (R.lower_maker_loop Φ n) a T Q) false))) (cond (Nat.blt k 267) (cond (Nat.beq k 266) (ap2 (R.lower_maker_number Φ n) a T Q) false) (cond (Nat.blt k 268) (cond (Nat.beq k 267) (ap4 (R.lower_maker_bin Φ n) a T Q) false) (cond (Nat.beq k 268) (ap2 (R.lower_maker_read Φ n) a T Q) false)))) (cond (Nat.blt k 272) (cond (Nat.blt k 270) (cond (Nat.beq k 269) (ap2 (R.lower_maker_atomic Φ n) a T Q) false) (cond (Nat.blt k 271) (cond (Nat.beq k 270) (ap2 (R.slices_IndexFunc___lower_local_lower_local_ Φ n) a T Q) false) (cond (Nat.beq k 271) (ap2 (R.lower_maker_find_c1 Φ n) a T Q) false))) (cond (Nat.blt k 273) (cond (Nat.beq k 272) (ap2 (R.lower_maker_place Φ n) a T Q) false) (cond (Nat.blt k 274) (cond (Nat.beq k 273) (ap2 (R.lower_maker_address Φ n) a T Q) false) (cond (Nat.beq k 274) (ap4 (R.lower_maker_load Φ n) a T Q) false))))) (cond (Nat.blt k 281) (cond (Nat.blt k 278) (cond (Nat.blt k 276) (cond (Nat.beq k 275) (ap4 (R.lower_maker_with Φ n) a T Q) false) (cond (Nat.blt k 277) (cond (Nat.beq k 276) (ap1 (R.lower_ones Φ n) a T Q) false) (cond (Nat.beq k 277) (ap5 (R.lower_maker_store Φ n) a T Q) false))) (cond (Nat.blt k 279) (cond (Nat.beq k 278) (ap1 (R.lower_maker_label Φ n) a T Q) false) (cond (Nat.blt k 280) (cond (Nat.beq k 279) (ap3 (R.lower_maker_jump Φ n) a T Q) false) (cond (Nat.beq k 280) (ap2 (R.lower_maker_mark Φ n) a T Q) false)))) (cond (Nat.blt k 284) (cond (Nat.blt k 282) (cond (Nat.beq k 281) (ap2 (R.lower_maker_place_c1 Φ n) a T Q) false) (cond (Nat.blt k 283) (cond (Nat.beq k 282) (ap2 (R.lower_maker_place_c2 Φ n) a T Q) false) (cond (Nat.beq k 283) (ap1 (R.layout_Fields Φ n) a T Q) false))) (cond (Nat.blt k 286) (cond (Nat.blt k 285) (cond (Nat.beq k 284) (ap2 (R.lower_low Φ n) a T Q) false) (cond (Nat.beq k 285) (ap1 (R.lower_spot_pieces Φ n) a T Q) false)) (cond (Nat.blt k 287) (cond (Nat.beq k 286) (ap1 (R.span_Pieces Φ n) a T Q) false) (cond (Nat.beq k 287) (ap1 (R.span_sound Φ n) a T Q) false)))))))
theorem dispOK (n : Nat) : DispOK (ACall C) (disp n) := fun B hB =>
  (.node 143 (.node 114 (.node 98 (.node 91 (.node 88 (.node 84 (.leaf cl_check hB (n := n) (m := 2) (ir := S.ir_check_Place) (by kernel_rfl) (by kernel_rfl) (leaf2 fun a0 a1 T Q => R.eq_check_Place B n a0 a1 T Q)) (.node 86 (.leaf cl_check hB (n := n) (m := 2) (ir := S.ir_check_Order) (by kernel_rfl) (by kernel_rfl) (leaf2 fun a0 a1 T Q => R.eq_check_Order B n a0 a1 T Q)) (.leaf cl_check hB (n := n) (m := 1) (ir := S.ir_check_Prog) (by kernel_rfl) (by kernel_rfl) (leaf1 fun a0 T Q => R.eq_check_Prog B n a0 T Q)))) (.node 89 (.leaf cl_libslices hB (n := n) (m := 2) (ir := S.ir_slices_IndexFunc___api_Var_api_Var_) (by kernel_rfl) (by kernel_rfl) (leaf2 fun a0 a1 T Q => R.eq_slices_IndexFunc___api_Var_api_Var_ B n a0 a1 T Q)) (.node 90 (.leaf cl_check hB (n := n) (m := 2) (ir := S.ir_check_Place_c1) (by kernel_rfl) (by kernel_rfl) (leaf2 fun a0 a1 T Q => R.eq_check_Place_c1 B n a0 a1 T Q)) (.leaf cl_kind hB (n := n) (m := 1) (ir := S.ir_kind_Sound) (by kernel_rfl) (by kernel_rfl) (leaf1 fun a0 T Q => R.eq_kind_Sound B n a0 T Q))))) (.node 95 (.node 93 (.leaf cl_check hB (n := n) (m := 2) (ir := S.ir_check_part) (by kernel_rfl) (by kernel_rfl) (leaf2 fun a0 a1 T Q => R.eq_check_part B n a0 a1 T Q)) (.node 94 (.leaf cl_check hB (n := n) (m := 1) (ir := S.ir_check_vars) (by kernel_rfl) (by kernel_rfl) (leaf1 fun a0 T Q => R.eq_check_vars B n a0 T Q)) (.leaf cl_check hB (n := n) (m := 3) (ir := S.ir_check_checker_block) (by kernel_rfl) (by kernel_rfl) (leaf3 fun a0 a1 a2 T Q => R.eq_check_checker_block B n a0 a1 a2 T Q)))) (.node 96 (.leaf cl_check hB (n := n) (m := 1) (ir := S.ir_check_checker_bad) (by kernel_rfl) (by kernel_rfl) (leaf1 fun a0 T Q => R.eq_check_checker_bad B n a0 T Q)) (.node 97 (.leaf cl_kind hB (n := n) (m := 1) (ir := S.ir_kind_Depth) (by kernel_rfl) (by kernel_rfl) (leaf1 fun a0 T Q => R.eq_kind_Depth B n a0 T Q)) (.leaf cl_kind hB (n := n) (m := 1) (ir := S.ir_kind_sound) (by kernel_rfl) (by kernel_rfl) (leaf1 fun a0 T Q => R.eq_kind_sound B n a0 T Q)))))) (.node 106 (.node 103 (.node 99 (.leaf cl_libslices hB (n := n) (m := 2) (ir := S.ir_slices_IndexFunc___api_Field_api_Field_) (by kernel_rfl) (by kernel_rfl) (leaf2 fun a0 a1 T Q => R.eq_slices_IndexFunc___api_Field_api_Field_ B n a0 a1 T Q)) (.node 102 (.leaf cl_check hB (n := n) (m := 2) (ir := S.ir_check_part_c1) (by kernel_rfl) (by kernel_rfl) (leaf2 fun a0 a1 T Q => R.eq_check_part_c1 B n a0 a1 T Q)) (.leaf cl_kind hB (n := n) (m := 1) (ir := S.ir_kind_Name) (by kernel_rfl) (by kernel_rfl) (leaf1 fun a0 T Q => R.eq_kind_Name B n a0 T Q)))) (.node 104 (.leaf cl_lex hB (n := n) (m := 1) (ir := S.ir_lex_Keyword) (by kernel_rfl) (by kernel_rfl) (leaf1 fun a0 T Q => R.eq_lex_Keyword B n a0 T Q)) (.node 105 (.leaf cl_libslices hB (n := n) (m := 2) (ir := S.ir_slices_ContainsFunc___api_Var_api_Var_) (by kernel_rfl) (by kernel_rfl) (leaf2 fun a0 a1 T Q => R.eq_slices_ContainsFunc___api_Var_api_Var_ B n a0 a1 T Q)) (.leaf cl_check hB (n := n) (m := 2) (ir := S.ir_check_vars_c1) (by kernel_rfl) (by kernel_rfl) (leaf2 fun a0 a1 T Q => R.eq_check_vars_c1 B n a0 a1 T Q))))) (.node 109 (.node 107 (.leaf cl_layout hB (n := n) (m := 1) (ir := S.ir_layout_Of) (by kernel_rfl) (by kernel_rfl) (leaf1 fun a0 T Q => R.eq_layout_Of B n a0 T Q)) (.node 108 (.leaf cl_check hB (n := n) (m := 3) (ir := S.ir_check_checker_stmt) (by kernel_rfl) (by kernel_rfl) (leaf3 fun a0 a1 a2 T Q => R.eq_check_checker_stmt B n a0 a1 a2 T Q)) (.leaf cl_kind hB (n := n) (m := 2) (ir := S.ir_kind_depth) (by kernel_rfl) (by kernel_rfl) (leaf2 fun a0 a1 T Q => R.eq_kind_depth B n a0 a1 T Q)))) (.node 110 (.leaf cl_kind hB (n := n) (m := 1) (ir := S.ir_kind_only) (by kernel_rfl) (by kernel_rfl) (leaf1 fun a0 T Q => R.eq_kind_only B n a0 T Q)) (.node 111 (.leaf cl_kind hB (n := n) (m := 2) (ir := S.ir_kind_power) (by kernel_rfl) (by kernel_rfl) (leaf2 fun a0 a1 T Q => R.eq_kind_power B n a0 a1 T Q)) (.leaf cl_kind hB (n := n) (m := 1) (ir := S.ir_kind_group) (by kernel_rfl) (by kernel_rfl) (leaf1 fun a0 T Q => R.eq_kind_group B n a0 T Q))))))) (.node 127 (.node 120 (.node 117 (.node 115 (.leaf cl_kind hB (n := n) (m := 1) (ir := S.ir_kind_letter) (by kernel_rfl) (by kernel_rfl) (leaf1 fun a0 T Q => R.eq_kind_letter B n a0 T Q)) (.node 116 (.leaf cl_libslices hB (n := n) (m := 2) (ir := S.ir_slices_Contains___string_string_) (by kernel_rfl) (by kernel_rfl) (leaf2 fun a0 a1 T Q => R.eq_slices_Contains___string_string_ B n a0 a1 T Q)) (.leaf cl_libstrings hB (n := n) (m := 1) (ir := S.ir_strings_Fields) (by kernel_rfl) (by kernel_rfl) (leaf1 fun a0 T Q => R.eq_strings_Fields B n a0 T Q)))) (.node 118 (.leaf cl_layout hB (n := n) (m := 1) (ir := S.ir_layout_check) (by kernel_rfl) (by kernel_rfl) (leaf1 fun a0 T Q => R.eq_layout_check B n a0 T Q)) (.node 119 (.leaf cl_check hB (n := n) (m := 3) (ir := S.ir_check_checker_need) (by kernel_rfl) (by kernel_rfl) (leaf3 fun a0 a1 a2 T Q => R.eq_check_checker_need B n a0 a1 a2 T Q)) (.leaf cl_check hB (n := n) (m := 1) (ir := S.ir_check_form) (by kernel_rfl) (by kernel_rfl) (leaf1 fun a0 T Q => R.eq_check_form B n a0 T Q))))) (.node 123 (.node 121 (.leaf cl_check hB (n := n) (m := 2) (ir := S.ir_check_checker_there) (by kernel_rfl) (by kernel_rfl) (leaf2 fun a0 a1 T Q => R.eq_check_checker_there B n a0 a1 T Q)) (.node 122 (.leaf cl_check hB (n := n) (m := 4) (ir := S.ir_check_checker_place) (by kernel_rfl) (by kernel_rfl) (leaf4 fun a0 a1 a2 a3 T Q => R.eq_check_checker_place B n a0 a1 a2 a3 T Q)) (.leaf cl_check hB (n := n) (m := 3) (ir := S.ir_check_checker_exprs) (by kernel_rfl) (by kernel_rfl) (leaf3 fun a0 a1 a2 T Q => R.eq_check_checker_exprs B n a0 a1 a2 T Q)))) (.node 124 (.leaf cl_kind hB (n := n) (m := 2) (ir := S.ir_kind_field) (by kernel_rfl) (by kernel_rfl) (leaf2 fun a0 a1 T Q => R.eq_kind_field B n a0 a1 T Q)) (.node 125 (.leaf cl_libslices hB (n := n) (m := 2) (ir := S.ir_slices_Index___string_string_) (by kernel_rfl) (by kernel_rfl) (leaf2 fun a0 a1 T Q => R.eq_slices_Index___string_string_ B n a0 a1 T Q)) (.leaf cl_libstrings hB (n := n) (m := 2) (ir := S.ir_strings_FieldsFunc) (by kernel_rfl) (by kernel_rfl) (leaf2 fun a0 a1 T Q => R.eq_strings_FieldsFunc B n a0 a1 T Q)))))) (.node 133 (.node 130 (.node 128 (.leaf cl_layout hB (n := n) (m := 1) (ir := S.ir_layout_torn) (by kernel_rfl) (by kernel_rfl) (leaf1 fun a0 T Q => R.eq_layout_torn B n a0 T Q)) (.node 129 (.leaf cl_layout hB (n := n) (m := 1) (ir := S.ir_layout_of) (by kernel_rfl) (by kernel_rfl) (leaf1 fun a0 T Q => R.eq_layout_of B n a0 T Q)) (.leaf cl_check hB (n := n) (m := 1) (ir := S.ir_check_of) (by kernel_rfl) (by kernel_rfl) (leaf1 fun a0 T Q => R.eq_check_of B n a0 T Q)))) (.node 131 (.leaf cl_check hB (n := n) (m := 1) (ir := S.ir_check_empty) (by kernel_rfl) (by kernel_rfl) (leaf1 fun a0 T Q => R.eq_check_empty B n a0 T Q)) (.node 132 (.leaf cl_check hB (n := n) (m := 2) (ir := S.ir_check_fits) (by kernel_rfl) (by kernel_rfl) (leaf2 fun a0 a1 T Q => R.eq_check_fits B n a0 a1 T Q)) (.leaf cl_check hB (n := n) (m := 3) (ir := S.ir_check_checker_expr) (by kernel_rfl) (by kernel_rfl) (leaf3 fun a0 a1 a2 T Q => R.eq_check_checker_expr B n a0 a1 a2 T Q))))) (.node 137 (.node 134 (.leaf cl_libslices hB (n := n) (m := 2) (ir := S.ir_slices_ContainsFunc___api_Field_api_Field_) (by kernel_rfl) (by kernel_rfl) (leaf2 fun a0 a1 T Q => R.eq_slices_ContainsFunc___api_Field_api_Field_ B n a0 a1 T Q)) (.node 136 (.leaf cl_kind hB (n := n) (m := 2) (ir := S.ir_kind_field_c1) (by kernel_rfl) (by kernel_rfl) (leaf2 fun a0 a1 T Q => R.eq_kind_field_c1 B n a0 a1 T Q)) (.leaf cl_layout hB (n := n) (m := 1) (ir := S.ir_layout_loose) (by kernel_rfl) (by kernel_rfl) (leaf1 fun a0 T Q => R.eq_layout_loose B n a0 T Q)))) (.node 139 (.node 138 (.leaf cl_libslices hB (n := n) (m := 2) (ir := S.ir_slices_ContainsFunc___api_Type_api_Type_) (by kernel_rfl) (by kernel_rfl) (leaf2 fun a0 a1 T Q => R.eq_slices_ContainsFunc___api_Type_api_Type_ B n a0 a1 T Q)) (.leaf cl_layout hB (n := n) (m := 1) (ir := S.ir_layout_torn_c1) (by kernel_rfl) (by kernel_rfl) (leaf1 fun a0 T Q => R.eq_layout_torn_c1 B n a0 T Q))) (.node 140 (.leaf cl_layout hB (n := n) (m := 1) (ir := S.ir_layout_place) (by kernel_rfl) (by kernel_rfl) (leaf1 fun a0 T Q => R.eq_layout_place B n a0 T Q)) (.leaf cl_check hB (n := n) (m := 1) (ir := S.ir_check_formed) (by kernel_rfl) (by kernel_rfl) (leaf1 fun a0 T Q => R.eq_check_formed B n a0 T Q)))))))) (.node 263 (.node 251 (.node 245 (.node 146 (.node 144 (.leaf cl_layout hB (n := n) (m := 1) (ir := S.ir_layout_loose_c1) (by kernel_rfl) (by kernel_rfl) (leaf1 fun a0 T Q => R.eq_layout_loose_c1 B n a0 T Q)) (.node 145 (.leaf cl_libslices hB (n := n) (m := 2) (ir := S.ir_slices_IndexFunc___api_Type_api_Type_) (by kernel_rfl) (by kernel_rfl) (leaf2 fun a0 a1 T Q => R.eq_slices_IndexFunc___api_Type_api_Type_ B n a0 a1 T Q)) (.leaf cl_layout hB (n := n) (m := 3) (ir := S.ir_layout_wide) (by kernel_rfl) (by kernel_rfl) (leaf3 fun a0 a1 a2 T Q => R.eq_layout_wide B n a0 a1 a2 T Q)))) (.node 147 (.leaf cl_layout hB (n := n) (m := 2) (ir := S.ir_layout_placed_bits) (by kernel_rfl) (by kernel_rfl) (leaf2 fun a0 a1 T Q => R.eq_layout_placed_bits B n a0 a1 T Q)) (.node 244 (.leaf cl_layout hB (n := n) (m := 2) (ir := S.ir_layout_up) (by kernel_rfl) (by kernel_rfl) (leaf2 fun a0 a1 T Q => R.eq_layout_up B n a0 a1 T Q)) (.leaf cl_rabbetlaw13 hB (n := n) (m := 2) (ir := S.ir_rabbetlaw13_LowerSingle) (by kernel_rfl) (by kernel_rfl) (leaf2 fun a0 a1 T Q => R.eq_rabbetlaw13_LowerSingle B n a0 a1 T Q))))) (.node 248 (.node 246 (.leaf cl_rabbetlaw13 hB (n := n) (m := 1) (ir := S.ir_rabbetlaw13_num) (by kernel_rfl) (by kernel_rfl) (leaf1 fun a0 T Q => R.eq_rabbetlaw13_num B n a0 T Q)) (.node 247 (.leaf cl_lower hB (n := n) (m := 2) (ir := S.ir_lower_Thread) (by kernel_rfl) (by kernel_rfl) (leaf2 fun a0 a1 T Q => R.eq_lower_Thread B n a0 a1 T Q)) (.leaf cl_rabbetlaw13 hB (n := n) (m := 0) (ir := S.ir_rabbetlaw13_awake) (by kernel_rfl) (by kernel_rfl) (leaf0 fun T Q => R.eq_rabbetlaw13_awake B n T Q)))) (.node 249 (.leaf cl_world hB (n := n) (m := 1) (ir := S.ir_world_Map) (by kernel_rfl) (by kernel_rfl) (leaf1 fun a0 T Q => R.eq_world_Map B n a0 T Q)) (.node 250 (.leaf cl_lower hB (n := n) (m := 2) (ir := S.ir_lower_maker_block) (by kernel_rfl) (by kernel_rfl) (leaf2 fun a0 a1 T Q => R.eq_lower_maker_block B n a0 a1 T Q)) (.leaf cl_rabbetlaw13 hB (n := n) (m := 1) (ir := S.ir_rabbetlaw13_tiny) (by kernel_rfl) (by kernel_rfl) (leaf1 fun a0 T Q => R.eq_rabbetlaw13_tiny B n a0 T Q)))))) (.node 257 (.node 254 (.node 252 (.leaf cl_rabbetlaw13 hB (n := n) (m := 1) (ir := S.ir_rabbetlaw13_x) (by kernel_rfl) (by kernel_rfl) (leaf1 fun a0 T Q => R.eq_rabbetlaw13_x B n a0 T Q)) (.node 253 (.leaf cl_lower hB (n := n) (m := 2) (ir := S.ir_lower_Accesses) (by kernel_rfl) (by kernel_rfl) (leaf2 fun a0 a1 T Q => R.eq_lower_Accesses B n a0 a1 T Q)) (.leaf cl_lower hB (n := n) (m := 2) (ir := S.ir_lower_maker_stmt) (by kernel_rfl) (by kernel_rfl) (leaf2 fun a0 a1 T Q => R.eq_lower_maker_stmt B n a0 a1 T Q)))) (.node 255 (.leaf cl_lower hB (n := n) (m := 2) (ir := S.ir_lower_maker_expr) (by kernel_rfl) (by kernel_rfl) (leaf2 fun a0 a1 T Q => R.eq_lower_maker_expr B n a0 a1 T Q)) (.node 256 (.leaf cl_lower hB (n := n) (m := 1) (ir := S.ir_lower_maker_fresh) (by kernel_rfl) (by kernel_rfl) (leaf1 fun a0 T Q => R.eq_lower_maker_fresh B n a0 T Q)) (.leaf cl_lower hB (n := n) (m := 3) (ir := S.ir_lower_maker_set) (by kernel_rfl) (by kernel_rfl) (leaf3 fun a0 a1 a2 T Q => R.eq_lower_maker_set B n a0 a1 a2 T Q))))) (.node 260 (.node 258 (.leaf cl_lower hB (n := n) (m := 2) (ir := S.ir_lower_maker_find) (by kernel_rfl) (by kernel_rfl) (leaf2 fun a0 a1 T Q => R.eq_lower_maker_find B n a0 a1 T Q)) (.node 259 (.leaf cl_lower hB (n := n) (m := 3) (ir := S.ir_lower_maker_write) (by kernel_rfl) (by kernel_rfl) (leaf3 fun a0 a1 a2 T Q => R.eq_lower_maker_write B n a0 a1 a2 T Q)) (.leaf cl_lower hB (n := n) (m := 2) (ir := S.ir_lower_maker_stored) (by kernel_rfl) (by kernel_rfl) (leaf2 fun a0 a1 T Q => R.eq_lower_maker_stored B n a0 a1 T Q)))) (.node 261 (.leaf cl_lower hB (n := n) (m := 2) (ir := S.ir_lower_maker_loaded) (by kernel_rfl) (by kernel_rfl) (leaf2 fun a0 a1 T Q => R.eq_lower_maker_loaded B n a0 a1 T Q)) (.node 262 (.leaf cl_lower hB (n := n) (m := 1) (ir := S.ir_lower_step) (by kernel_rfl) (by kernel_rfl) (leaf1 fun a0 T Q => R.eq_lower_step B n a0 T Q)) (.leaf cl_lower hB (n := n) (m := 4) (ir := S.ir_lower_maker_site) (by kernel_rfl) (by kernel_rfl) (leaf4 fun a0 a1 a2 a3 T Q => R.eq_lower_maker_site B n a0 a1 a2 a3 T Q))))))) (.node 275 (.node 269 (.node 266 (.node 264 (.leaf cl_lower hB (n := n) (m := 2) (ir := S.ir_lower_maker_add) (by kernel_rfl) (by kernel_rfl) (leaf2 fun a0 a1 T Q => R.eq_lower_maker_add B n a0 a1 T Q)) (.node 265 (.leaf cl_lower hB (n := n) (m := 2) (ir := S.ir_lower_maker_choose) (by kernel_rfl) (by kernel_rfl) (leaf2 fun a0 a1 T Q => R.eq_lower_maker_choose B n a0 a1 T Q)) (.leaf cl_lower hB (n := n) (m := 2) (ir := S.ir_lower_maker_loop) (by kernel_rfl) (by kernel_rfl) (leaf2 fun a0 a1 T Q => R.eq_lower_maker_loop B n a0 a1 T Q)))) (.node 267 (.leaf cl_lower hB (n := n) (m := 2) (ir := S.ir_lower_maker_number) (by kernel_rfl) (by kernel_rfl) (leaf2 fun a0 a1 T Q => R.eq_lower_maker_number B n a0 a1 T Q)) (.node 268 (.leaf cl_lower hB (n := n) (m := 4) (ir := S.ir_lower_maker_bin) (by kernel_rfl) (by kernel_rfl) (leaf4 fun a0 a1 a2 a3 T Q => R.eq_lower_maker_bin B n a0 a1 a2 a3 T Q)) (.leaf cl_lower hB (n := n) (m := 2) (ir := S.ir_lower_maker_read) (by kernel_rfl) (by kernel_rfl) (leaf2 fun a0 a1 T Q => R.eq_lower_maker_read B n a0 a1 T Q))))) (.node 272 (.node 270 (.leaf cl_lower hB (n := n) (m := 2) (ir := S.ir_lower_maker_atomic) (by kernel_rfl) (by kernel_rfl) (leaf2 fun a0 a1 T Q => R.eq_lower_maker_atomic B n a0 a1 T Q)) (.node 271 (.leaf cl_libslices hB (n := n) (m := 2) (ir := S.ir_slices_IndexFunc___lower_local_lower_local_) (by kernel_rfl) (by kernel_rfl) (leaf2 fun a0 a1 T Q => R.eq_slices_IndexFunc___lower_local_lower_local_ B n a0 a1 T Q)) (.leaf cl_lower hB (n := n) (m := 2) (ir := S.ir_lower_maker_find_c1) (by kernel_rfl) (by kernel_rfl) (leaf2 fun a0 a1 T Q => R.eq_lower_maker_find_c1 B n a0 a1 T Q)))) (.node 273 (.leaf cl_lower hB (n := n) (m := 2) (ir := S.ir_lower_maker_place) (by kernel_rfl) (by kernel_rfl) (leaf2 fun a0 a1 T Q => R.eq_lower_maker_place B n a0 a1 T Q)) (.node 274 (.leaf cl_lower hB (n := n) (m := 2) (ir := S.ir_lower_maker_address) (by kernel_rfl) (by kernel_rfl) (leaf2 fun a0 a1 T Q => R.eq_lower_maker_address B n a0 a1 T Q)) (.leaf cl_lower hB (n := n) (m := 4) (ir := S.ir_lower_maker_load) (by kernel_rfl) (by kernel_rfl) (leaf4 fun a0 a1 a2 a3 T Q => R.eq_lower_maker_load B n a0 a1 a2 a3 T Q)))))) (.node 281 (.node 278 (.node 276 (.leaf cl_lower hB (n := n) (m := 4) (ir := S.ir_lower_maker_with) (by kernel_rfl) (by kernel_rfl) (leaf4 fun a0 a1 a2 a3 T Q => R.eq_lower_maker_with B n a0 a1 a2 a3 T Q)) (.node 277 (.leaf cl_lower hB (n := n) (m := 1) (ir := S.ir_lower_ones) (by kernel_rfl) (by kernel_rfl) (leaf1 fun a0 T Q => R.eq_lower_ones B n a0 T Q)) (.leaf cl_lower hB (n := n) (m := 5) (ir := S.ir_lower_maker_store) (by kernel_rfl) (by kernel_rfl) (leaf5 fun a0 a1 a2 a3 a4 T Q => R.eq_lower_maker_store B n a0 a1 a2 a3 a4 T Q)))) (.node 279 (.leaf cl_lower hB (n := n) (m := 1) (ir := S.ir_lower_maker_label) (by kernel_rfl) (by kernel_rfl) (leaf1 fun a0 T Q => R.eq_lower_maker_label B n a0 T Q)) (.node 280 (.leaf cl_lower hB (n := n) (m := 3) (ir := S.ir_lower_maker_jump) (by kernel_rfl) (by kernel_rfl) (leaf3 fun a0 a1 a2 T Q => R.eq_lower_maker_jump B n a0 a1 a2 T Q)) (.leaf cl_lower hB (n := n) (m := 2) (ir := S.ir_lower_maker_mark) (by kernel_rfl) (by kernel_rfl) (leaf2 fun a0 a1 T Q => R.eq_lower_maker_mark B n a0 a1 T Q))))) (.node 284 (.node 282 (.leaf cl_lower hB (n := n) (m := 2) (ir := S.ir_lower_maker_place_c1) (by kernel_rfl) (by kernel_rfl) (leaf2 fun a0 a1 T Q => R.eq_lower_maker_place_c1 B n a0 a1 T Q)) (.node 283 (.leaf cl_lower hB (n := n) (m := 2) (ir := S.ir_lower_maker_place_c2) (by kernel_rfl) (by kernel_rfl) (leaf2 fun a0 a1 T Q => R.eq_lower_maker_place_c2 B n a0 a1 T Q)) (.leaf cl_layout hB (n := n) (m := 1) (ir := S.ir_layout_Fields) (by kernel_rfl) (by kernel_rfl) (leaf1 fun a0 T Q => R.eq_layout_Fields B n a0 T Q)))) (.node 286 (.node 285 (.leaf cl_lower hB (n := n) (m := 2) (ir := S.ir_lower_low) (by kernel_rfl) (by kernel_rfl) (leaf2 fun a0 a1 T Q => R.eq_lower_low B n a0 a1 T Q)) (.leaf cl_lower hB (n := n) (m := 1) (ir := S.ir_lower_spot_pieces) (by kernel_rfl) (by kernel_rfl) (leaf1 fun a0 T Q => R.eq_lower_spot_pieces B n a0 T Q))) (.node 287 (.leaf cl_span hB (n := n) (m := 1) (ir := S.ir_span_Pieces) (by kernel_rfl) (by kernel_rfl) (leaf1 fun a0 T Q => R.eq_span_Pieces B n a0 T Q)) (.leaf cl_span hB (n := n) (m := 1) (ir := S.ir_span_sound) (by kernel_rfl) (by kernel_rfl) (leaf1 fun a0 T Q => R.eq_span_sound B n a0 T Q)))))))))
end Go.Proofs.YtifjgnmgchcfaaaGreatDoor.rb

/- Laws for reading what a function means, by simp. -/
set_option linter.unusedVariables false
namespace Rb
open Go

@[simp] theorem Do_of {α : Type} (a : α) (K : α → Prop) : Do (some a) K ↔ K a := ⟨fun ⟨b, h, k⟩ => by cases h; exact k, fun h => ⟨a, rfl, h⟩⟩
@[simp] theorem DoH_some (v : AV) (H : AH) (K : Post) : DoH (some (v, H)) K ↔ K v H := ⟨fun ⟨a, b, h, k⟩ => by cases h; exact k, fun h => ⟨v, H, rfl, h⟩⟩
@[simp] theorem Gd_true (b : Bool) (A B : Prop) : Gd (.bool b) true A B ↔ if b = true then A else B := Iff.rfl
@[simp] theorem Gd_false (b : Bool) (A B : Prop) : Gd (.bool b) false A B ↔ if b = false then A else B := Iff.rfl
@[simp] theorem JoinP_def (K : List AV → AH → Prop) (st : List AV) (H : AH) : JoinP K st H ↔ K st H := Iff.rfl
@[simp] theorem sl_zero (a : AV) (l : List AV) : sl (a :: l) 0 = a := rfl
@[simp] theorem sl_succ (a : AV) (l : List AV) (i : Nat) : sl (a :: l) (i + 1) = sl l i := rfl

section
variable (k : IntKind) (a b : Int)
@[simp] theorem abin_add : abin .add (.int k a) (.int k b) = some (.int k (k.wrap (a + b))) := by simp [abin, abinInt]
@[simp] theorem abin_sub : abin .sub (.int k a) (.int k b) = some (.int k (k.wrap (a - b))) := by simp [abin, abinInt]
@[simp] theorem abin_mul : abin .mul (.int k a) (.int k b) = some (.int k (k.wrap (a * b))) := by simp [abin, abinInt]
@[simp] theorem abin_eql : abin .eql (.int k a) (.int k b) = some (.bool (a == b)) := by simp [abin, abinInt]
@[simp] theorem abin_neq : abin .neq (.int k a) (.int k b) = some (.bool (a != b)) := by simp [abin, abinInt]
@[simp] theorem abin_lss : abin .lss (.int k a) (.int k b) = some (.bool (decide (a < b))) := by simp [abin, abinInt]
@[simp] theorem abin_leq : abin .leq (.int k a) (.int k b) = some (.bool (decide (a ≤ b))) := by simp [abin, abinInt]
@[simp] theorem abin_gtr : abin .gtr (.int k a) (.int k b) = some (.bool (decide (a > b))) := by simp [abin, abinInt]
@[simp] theorem abin_geq : abin .geq (.int k a) (.int k b) = some (.bool (decide (a ≥ b))) := by simp [abin, abinInt]
theorem abin_rem (h : b ≠ 0) : abin .rem (.int k a) (.int k b) = some (.int k (a.tmod b)) := by simp [abin, abinInt, h]
theorem abin_quo (h : b ≠ 0) : abin .quo (.int k a) (.int k b) = some (.int k (k.wrap (a.tdiv b))) := by simp [abin, abinInt, h]
@[simp] theorem abin_and : abin .and (.int k a) (.int k b) = some (.int k (k.wrap (BitVec.ofInt k.bits a &&& BitVec.ofInt k.bits b).toNat)) := by simp [abin, abinInt, bitsOp]
@[simp] theorem abin_or : abin .or (.int k a) (.int k b) = some (.int k (k.wrap (BitVec.ofInt k.bits a ||| BitVec.ofInt k.bits b).toNat)) := by simp [abin, abinInt, bitsOp]
@[simp] theorem abin_xor : abin .xor (.int k a) (.int k b) = some (.int k (k.wrap (BitVec.ofInt k.bits a ^^^ BitVec.ofInt k.bits b).toNat)) := by simp [abin, abinInt, bitsOp]
theorem abin_shr (k' : IntKind) (h : 0 ≤ b) : abin .shr (.int k a) (.int k' b) = some (.int k (a.fdiv (2 ^ (min b.toNat k.bits)))) := by simp [abin, abinInt, Int.not_lt.2 h]
theorem abin_shl (k' : IntKind) (h : 0 ≤ b) : abin .shl (.int k a) (.int k' b) = some (.int k (k.wrap (a * 2 ^ (min b.toNat k.bits)))) := by simp [abin, abinInt, Int.not_lt.2 h]
@[simp] theorem aconv_int (k' : IntKind) : aconv k' (.int k a) = some (.int k' (k'.wrap a)) := rfl
@[simp] theorem abeq_def (neg : Bool) (x y : Bool) : abeq neg (.bool x) (.bool y) = some (.bool (if neg then !(x == y) else x == y)) := rfl
@[simp] theorem aun_not (x : Bool) : aun .not (.bool x) = some (.bool !x) := rfl
end
@[simp] theorem alen_lst (tk : Tok) (n : Nat) (cs : List AV) : alen false (.lst tk n cs) = some (.int .i64 n) := rfl
@[simp] theorem alen_row (id o n sz : Nat) : alen false (.row id o n sz) = some (.int .i64 n) := rfl
@[simp] theorem alen_str (s : List UInt8) : alen true (.str s) = some (.int .i64 s.length) := rfl

end Rb

/- Memory that only grew; numbers. -/
set_option linter.unusedVariables false
namespace Rb
open Go

/-- What was there is as it was. -/
def AH.Ext (H H' : AH) : Prop := H.n ≤ H'.n ∧ ∀ i, i < H.n → H'.o i = H.o i
theorem AH.Ext.refl (H : AH) : AH.Ext H H := ⟨Nat.le_refl _, fun _ _ => rfl⟩
theorem AH.Ext.trans {a b c : AH} (h : AH.Ext a b) (k : AH.Ext b c) : AH.Ext a c := ⟨Nat.le_trans h.1 k.1, fun i hi => (k.2 i (Nat.lt_of_lt_of_le hi h.1)).trans (h.2 i hi)⟩
theorem AH.Ext.push (H : AH) (x : AObj) : AH.Ext H (H.push x) := ⟨Nat.le_succ _, fun i hi => if_neg (Nat.ne_of_lt hi)⟩
theorem AH.Ext.set {H H' : AH} (h : AH.Ext H H') {i : Nat} (hi : H.n ≤ i) (x : AObj) : AH.Ext H (H'.set i x) := ⟨h.1, fun j hj => by
  simp only [AH.set]; rw [if_neg (by omega)]; exact h.2 j hj⟩
@[simp] theorem AH.push_n (H : AH) (x : AObj) : (H.push x).n = H.n + 1 := rfl
@[simp] theorem AH.set_n (H : AH) (i : Nat) (x : AObj) : (H.set i x).n = H.n := rfl
theorem AH.push_self (H : AH) (x : AObj) : (H.push x).o H.n = x := if_pos rfl
theorem AH.push_ne (H : AH) (x : AObj) {i : Nat} (h : i ≠ H.n) : (H.push x).o i = H.o i := if_neg h
theorem AH.set_self (H : AH) (i : Nat) (x : AObj) : (H.set i x).o i = x := if_pos rfl
theorem AH.set_ne (H : AH) {i j : Nat} (x : AObj) (h : j ≠ i) : (H.set i x).o j = H.o j := if_neg h

theorem wrap_i64 {n : Int} (h1 : -9223372036854775808 ≤ n) (h2 : n ≤ 9223372036854775807) : IntKind.wrap .i64 n = n := by
  simp [IntKind.wrap, IntKind.signed, IntKind.bits]; omega
theorem wrap_u64 {n : Int} (h1 : 0 ≤ n) (h2 : n < 18446744073709551616) : IntKind.wrap .u64 n = n := by
  simp [IntKind.wrap, IntKind.signed, IntKind.bits]; omega
theorem wrap_u8 {n : Int} (h1 : 0 ≤ n) (h2 : n < 256) : IntKind.wrap .u8 n = n := by
  simp [IntKind.wrap, IntKind.signed, IntKind.bits]; omega
theorem wrap_u32 {n : Int} (h1 : 0 ≤ n) (h2 : n < 4294967296) : IntKind.wrap .u32 n = n := by
  simp [IntKind.wrap, IntKind.signed, IntKind.bits]; omega

/-- A list that grows at its end, and that nobody else holds. -/
def Lst (H0 H : AH) (sz : Nat) (x : AV) (len : Nat) (cells : List AV) : Prop :=
  AH.Ext H0 H ∧ ∃ tk, x = .lst tk len cells ∧ cells.length = len * sz ∧ ((tk = .nil ∧ len = 0) ∨ ∃ t, tk = .own t ∧ H0.n ≤ t ∧ t < H.n ∧ H.o t = .tok (len * sz) sz)

theorem Lst.nil (H : AH) (sz : Nat) : Lst H H sz (.lst .nil 0 []) 0 [] := ⟨AH.Ext.refl H, .nil, rfl, by simp, .inl ⟨rfl, rfl⟩⟩

theorem Lst.append {H0 H : AH} {sz bytes len m : Nat} {x y : AV} {cells news : List AV} {K : Post} (h : Lst H0 H sz x len cells) (hy : acells H sz y = some (m, news)) (hn : news.length = m * sz) (hs : news.all AV.scalar = true) (hm : m ≠ 0)
    (hb : (len + m) * bytes ≤ 140737488355328) (hl : len + m ≤ 9223372036854775807) (hK : ∀ x' H', Lst H0 H' sz x' (len + m) (cells ++ news) → K x' H') : DoH (aappend H false sz bytes x y) K := by
  obtain ⟨hx, tk, rfl, hc, htk⟩ := h
  have hlen : (cells ++ news).length = (len + m) * sz := by simp [hc, hn, Nat.add_mul]
  rcases htk with ⟨rfl, rfl⟩ | ⟨t, rfl, h1, h2, h3⟩
  · refine ⟨.lst (.own H.n) (0 + m) (cells ++ news), H.push (.tok ((0 + m) * sz) sz), ?_, hK _ _ ⟨hx.trans (AH.Ext.push _ _), _, rfl, hlen, .inr ⟨H.n, rfl, hx.1, Nat.lt_succ_self _, AH.push_self _ _⟩⟩⟩
    simp only [aappend, hy, hs, not_true_eq_false, if_false, if_neg hm]
    rw [if_neg (by simp only [Decidable.not_not]; exact ⟨hc, hb, hl⟩)]
  · refine ⟨.lst (.own H.n) (len + m) (cells ++ news), (H.set t .gone).push (.tok ((len + m) * sz) sz), ?_, hK _ _ ⟨(hx.set h1 _).trans (AH.Ext.push _ _), _, rfl, hlen, .inr ⟨H.n, rfl, hx.1, Nat.lt_succ_self _, AH.push_self _ _⟩⟩⟩
    simp only [aappend, hy, hs, not_true_eq_false, if_false, if_neg hm]
    rw [if_neg (by simp only [Decidable.not_not]; exact ⟨hc, hb, hl⟩)]
    simp [h3]

/-- What stands at a place. -/
def At (H : AH) (id : Nat) (x : AObj) : Prop := id < H.n ∧ H.o id = x
theorem At.new (H : AH) (x : AObj) : At (H.push x) H.n x := ⟨Nat.lt_succ_self _, AH.push_self H x⟩
theorem At.ext {H H' : AH} {id : Nat} {x : AObj} (h : At H id x) (hE : AH.Ext H H') : At H' id x := ⟨Nat.lt_of_lt_of_le h.1 hE.1, (hE.2 id h.1).trans h.2⟩
theorem At.push {H : AH} {id : Nat} {x : AObj} (h : At H id x) (y : AObj) : At (H.push y) id x := h.ext (AH.Ext.push H y)
theorem At.set_ne {H : AH} {id i : Nat} {x : AObj} (h : At H id x) (hne : id ≠ i) (y : AObj) : At (H.set i y) id x := ⟨h.1, (AH.set_ne H y hne).trans h.2⟩
theorem At.set {H : AH} {id : Nat} {x : AObj} (h : At H id x) (y : AObj) : At (H.set id y) id y := ⟨h.1, AH.set_self H id y⟩
theorem At.ne {H : AH} {id i : Nat} {x y : AObj} (h : At H id x) (k : At H i y) (hxy : x ≠ y) : id ≠ i := fun e => hxy (by rw [← h.2, ← k.2, e])
theorem At.lt_new {H : AH} {id : Nat} {x : AObj} (h : At H id x) : id ≠ H.n := Nat.ne_of_lt h.1

theorem At.load {H : AH} {id : Nat} {cs : List AV} (h : At H id (.row cs)) (n o : Nat) (agg : Bool) : aload H n agg (.ptr id o) = takeCells cs o n agg := by simp [aload, h.2]
theorem At.store {H : AH} {id : Nat} {cs : List AV} (h : At H id (.row cs)) (n o : Nat) (v : AV) : astore H n (.ptr id o) v = if v.known ∧ v.cells.length = n ∧ v.cells.all AV.scalar ∧ o + n ≤ cs.length then some (H.set id (.row (setCells cs o v.cells))) else none := by simp [astore, h.2]

end Rb

/- Library: what slices.Index of texts gives; whether a text is a keyword. -/
set_option linter.unusedVariables false
set_option linter.unusedSimpArgs false
namespace Rb
open Go

def strCells (xs : List (List UInt8)) : List AV := xs.map .str
/-- Texts as a slice. -/
def strL (tk : Tok) (xs : List (List UInt8)) : AV := .lst tk xs.length (strCells xs)

theorem strL_read (tk : Tok) (xs : List (List UInt8)) (i : Nat) (x : List UInt8) (h : xs[i]? = some x) : aiaddr none 1 (strL tk xs) (.int .i64 i) = some (.fptr ((strCells xs).drop i)) := by
  have hi := (List.getElem?_eq_some_iff.1 h).1
  simp only [strL, aiaddr]
  rw [if_pos ⟨by omega, by omega⟩]; simp
theorem strL_load (H : AH) (xs : List (List UInt8)) (i : Nat) (x : List UInt8) (h : xs[i]? = some x) : aload H 1 false (.fptr ((strCells xs).drop i)) = some (.str x) := by
  have hi := (List.getElem?_eq_some_iff.1 h).1
  have hl : 0 + 1 ≤ ((strCells xs).drop i).length := by simp [strCells]; omega
  show takeCells ((strCells xs).drop i) 0 1 false = _
  unfold takeCells
  rw [if_pos hl]
  simp [strCells, h]

theorem Index_str {Φ : Calls'} {tk : Tok} {xs : List (List UInt8)} {s : List UInt8} {H : AH} {Q : Post} (hb : xs.length < 9223372036854775807) (hQ : Q (.int .i64 (match xs.findIdx? (fun x => s == x) with | some i => (i : Int) | none => -1)) H) : S.slices_Index___string_string_ Φ (strL tk xs) (.str s) H Q := by
  unfold S.slices_Index___string_string_
  have hlen : alen false (strL tk xs) = some (.int .i64 xs.length) := rfl
  rw [hlen]
  simp only [Do_of]
  have main : ∀ (ys : List (List UInt8)) (i : Nat), xs.drop i = ys → (Q (.int .i64 (match ys.findIdx? (fun x => s == x) with | some k => ((k + i : Nat) : Int) | none => -1)) H) → LoopP (S.slices_Index___string_string__l1 Φ (strL tk xs) (.str s) (.int .i64 xs.length) Q) ([.int .i64 i], H) := by
    intro ys
    induction ys with
    | nil =>
      intro i hi hq
      refine LoopP.step ?_
      have : xs.length ≤ i := by simpa using hi
      simp only [S.slices_Index___string_string__l1, sl_zero, abin_lss, Do_of, Gd_true]
      rw [if_neg (by simp; omega)]
      simpa using hq
    | cons y ys ih =>
      intro i hi hq
      have hlt : i < xs.length := by
        rcases Nat.lt_or_ge i xs.length with h | h
        · exact h
        · rw [List.drop_eq_nil_of_le h] at hi; cases hi
      have hy : xs[i]? = some y := by
        have := congrArg (fun l => l[0]?) hi
        simpa using this
      have hd : xs.drop (i + 1) = ys := by
        have := congrArg List.tail hi
        simpa using this
      refine LoopP.step ?_
      simp only [S.slices_Index___string_string__l1, sl_zero, abin_lss, Do_of, Gd_true]
      rw [if_pos (by simp; omega), strL_read tk xs i y hy]
      simp only [Do_of]
      rw [strL_load H xs i y hy]
      simp only [Do_of, abin, abinStr, Gd_true]
      by_cases he : (s == y) = true
      · rw [if_pos he]
        rw [List.findIdx?_cons, he] at hq
        simpa using hq
      · rw [if_neg he]
        rw [List.findIdx?_cons, if_neg he] at hq
        simp only [abin_add, abinInt, if_true, Do_of]
        rw [wrap_i64 (by omega) (by omega), show ((i : Int) + 1) = ((i + 1 : Nat) : Int) by simp]
        refine ih (i + 1) hd ?_
        cases hf : List.findIdx? (fun x => s == x) ys with
        | none => rw [hf] at hq; simpa using hq
        | some k => rw [hf] at hq; simp only [Option.map_some] at hq ⊢; rw [show k + (i + 1) = k + 1 + i by omega]; exact hq
  refine main xs 0 rfl ?_
  simpa using hQ

theorem Contains_str {Φ : Calls'} (hT : Cl Φ S.tab_libslices) {tk : Tok} {xs : List (List UInt8)} {s : List UInt8} {H : AH} {Q : Post} (hb : xs.length < 9223372036854775807) (hQ : Q (.bool (xs.any fun x => s == x)) H) : S.slices_Contains___string_string_ Φ (strL tk xs) (.str s) H Q := by
  unfold S.slices_Contains___string_string_
  refine S.cl_slices_Index___string_string_ hT (Index_str hb ?_)
  simp only [abin_geq, Do_of]
  have : (decide ((match xs.findIdx? (fun x => s == x) with | some i => (i : Int) | none => -1) ≥ 0)) = xs.any fun x => s == x := by
    cases hf : xs.findIdx? (fun x => s == x) with
    | none =>
      rw [List.findIdx?_eq_none_iff] at hf
      have : (xs.any fun x => s == x) = false := by simpa using hf
      rw [this]; rfl
    | some i =>
      have h := List.findIdx?_eq_some_iff_getElem.1 hf
      obtain ⟨hi, h1, _⟩ := h
      have : (xs.any fun x => s == x) = true := by
        rw [List.any_eq_true]; exact ⟨xs[i], List.getElem_mem hi, h1⟩
      rw [this]; simp
  rw [this]; exact hQ

def kwText : List UInt8 := [118, 97, 114, 32, 116, 104, 114, 101, 97, 100, 32, 115, 116, 114, 117, 99, 116, 32, 117, 110, 105, 111, 110, 32, 112, 97, 99, 107, 101, 100, 32, 117, 56, 32, 117, 49, 54, 32, 117, 51, 50, 32, 117, 54, 52, 32, 97, 56, 32, 97, 49, 54, 32, 97, 51, 50, 32, 97, 54, 52, 32, 97, 49, 50, 56, 32, 108, 101, 116, 32, 115, 101, 116, 32, 119, 114, 105, 116, 101, 32, 115, 116, 111, 114, 101, 32, 108, 111, 97, 100, 50, 32, 115, 116, 111, 114, 101, 50, 32, 102, 101, 110, 99, 101, 32, 105, 102, 32, 101, 108, 115, 101, 32, 119, 104, 105, 108, 101, 32, 112, 114, 105, 110, 116, 32, 114, 101, 97, 100, 32, 108, 111, 97, 100, 32, 97, 100, 100, 32, 115, 119, 97, 112, 32, 99, 97, 115, 32, 114, 108, 120, 32, 97, 99, 113, 32, 114, 101, 108, 32, 115, 99]
/-- The words of a text, by its blanks. -/
def cutB : List UInt8 → List UInt8 → List (List UInt8)
  | [], acc => [acc.reverse]
  | c :: r, acc => if c = 32 then acc.reverse :: cutB r [] else cutB r (c :: acc)
def kws : List (List UInt8) := [[118, 97, 114], [116, 104, 114, 101, 97, 100], [115, 116, 114, 117, 99, 116], [117, 110, 105, 111, 110], [112, 97, 99, 107, 101, 100], [117, 56], [117, 49, 54], [117, 51, 50], [117, 54, 52], [97, 56], [97, 49, 54], [97, 51, 50], [97, 54, 52], [97, 49, 50, 56],
  [108, 101, 116], [115, 101, 116], [119, 114, 105, 116, 101], [115, 116, 111, 114, 101], [108, 111, 97, 100, 50], [115, 116, 111, 114, 101, 50], [102, 101, 110, 99, 101], [105, 102], [101, 108, 115, 101], [119, 104, 105, 108, 101], [112, 114, 105, 110, 116], [114, 101, 97, 100], [108, 111, 97, 100], [97, 100, 100],
  [115, 119, 97, 112], [99, 97, 115], [114, 108, 120], [97, 99, 113], [114, 101, 108], [115, 99]]
def isKw (s : List UInt8) : Bool := kws.any fun x => s == x

theorem Keyword_spec {Φ : Calls'} (hS : Cl Φ S.tab_libslices) (hF : ∀ (H : AH) (Q : Post), Q (strL .dead kws) H → Φ K.strings_Fields [.str kwText] H Q) {s : List UInt8} {H : AH} {Q : Post} (hQ : Q (.bool (isKw s)) H) : S.lex_Keyword Φ (.str s) H Q := by
  unfold S.lex_Keyword
  refine hF _ _ ?_
  refine S.cl_slices_Contains___string_string_ hS (Contains_str hS (by decide) ?_)
  exact hQ
end Rb

/- From what a law's function does to the statement. -/
set_option linter.unusedVariables false
namespace Rb
open Go Go.RowKit

/-- All that is there may be read, and nothing is written: frozen. -/
def allFz (W : World) : Nat → Nat → Prop := fun b o => ∃ V, W.cell? ⟨b, o, none⟩ = some V

theorem law_calls {C : Ctx} {key : Nat} {f : FuncId} {args : List AV} {Vs : Array Value} {W : World} (hf : C.F key = some f) (h : ACall C key args AH.mt (fun v _ => v = .bool true)) (hG : GOK C W (Ghost.mt (allFz W)))
    (hargs : VRs C.F W (Ghost.mt (allFz W)) args Vs) : Calls C.P f Vs W fun e W' => e = .returned (.bool true) ∧ Below W.heap.size W W' := by
  refine Calls.mono (h f hf _ W Vs hG (Rel.mt fun _ _ h => h) hargs) fun e w' he => ?_
  obtain ⟨V, v, H', G', rfl, rfl, hv, _, hst⟩ := he
  obtain rfl := hv.bool_inv
  exact ⟨rfl, hst.below⟩

/-- A variable that holds small numbers. -/
theorem fptr_of_tab {F : FTab} {W : World} {g : Nat} {k : IntKind} {zs : List Int} (h : ∀ i, i < zs.length → W.cell? ⟨g, i, none⟩ = some (.int k (zs.getD i 0))) : VR F W (Ghost.mt (allFz W)) (.fptr (zs.map (.int k))) (.pointer (some ⟨g, 0, none⟩)) := by
  refine .fptr _ g 0 (fun j => .int k (zs.getD j 0)) (fun j c hj => ?_) fun j c hj => ?_
  · have hl : j < zs.length := by simpa using (List.getElem?_eq_some_iff.1 hj).1
    rw [Nat.zero_add]
    exact ⟨⟨_, h j hl⟩, h j hl⟩
  · have hl : j < zs.length := by simpa using (List.getElem?_eq_some_iff.1 hj).1
    have : c = .int k (zs.getD j 0) := by
      rw [List.getElem?_map, List.getElem?_eq_getElem hl] at hj
      simp only [Option.map_some, Option.some.injEq] at hj
      rw [← hj, List.getD_eq_getElem?_getD, List.getElem?_eq_getElem hl]; rfl
    rw [this]
    exact .int _ _

theorem VRs.two {F : FTab} {w : World} {G : Ghost} {c d : AV} {V U : Value} (h : VR F w G c V) (h' : VR F w G d U) : VRs F w G [c, d] #[V, U] := ⟨rfl, fun j c' V' hc hV => by
  rcases j with _ | _ | j
  · simp at hc hV; subst hc; subst hV; exact h
  · simp at hc hV; subst hc; subst hV; exact h'
  · simp at hc⟩
theorem VRs.three {F : FTab} {w : World} {G : Ghost} {c d e : AV} {V U X : Value} (h : VR F w G c V) (h' : VR F w G d U) (h'' : VR F w G e X) : VRs F w G [c, d, e] #[V, U, X] := ⟨rfl, fun j c' V' hc hV => by
  rcases j with _ | _ | _ | j
  · simp at hc hV; subst hc; subst hV; exact h
  · simp at hc hV; subst hc; subst hV; exact h'
  · simp at hc hV; subst hc; subst hV; exact h''
  · simp at hc⟩

theorem asciiSpace_eq : asciiSpace = (Go.Lib.asciiSpaceTab.map (AV.int .u8)) := by kernel_rfl
end Rb

/- Law 13, LowerSingle: the runs. -/
set_option linter.unusedVariables false
namespace Go.Proofs.YtifjgnmgchcfaaaGreatDoor.rb
open Rb
noncomputable section

def M0 : Memo := fun _ _ => none
theorem M0_ok : MemoOK (ACall C) M0 := fun _ _ _ h => by cases h
def B0 : CallsB := runM M0 (disp 4096) 60
theorem B0_ok : SoundB (ACall C) B0 := runM_sound M0_ok (dispOK 4096) 60

theorem fields_run : B0 K.strings_Fields [.str kwText] TH.mt (fun u _ => u.same (strL .dead kws)) = true := by kernel_rfl
theorem fields (H : AH) (Q : Post) (hQ : Q (strL .dead kws) H) : ACall C K.strings_Fields [.str kwText] H Q := run_any gtC B0_ok (by kernel_rfl) (by kernel_rfl) fields_run H Q hQ
theorem keyword (s : List UInt8) (H : AH) (Q : Post) (hQ : Q (.bool (isKw s)) H) : ACall C K.lex_Keyword [.str s] H Q := S.cl_lex_Keyword cl_lex (Keyword_spec cl_libslices fields hQ)

def M1 : Memo := fun k a => cond (Nat.beq k K.lex_Keyword) (match a with | [.str s] => some (.bool (isKw s)) | _ => none) none
theorem M1_ok : MemoOK (ACall C) M1 := by
  intro k a v h H Q hQ
  unfold M1 at h
  cases hb : Nat.beq k K.lex_Keyword with
  | false => rw [hb] at h; cases h
  | true =>
    rw [hb] at h
    obtain rfl := Nat.eq_of_beq_eq_true hb
    simp only [cond_true] at h
    split at h
    · cases h; exact keyword _ H Q hQ
    · cases h
def B1 : CallsB := runM M1 (disp 4096) 60
theorem B1_ok : SoundB (ACall C) B1 := runM_sound M1_ok (dispOK 4096) 60
theorem awake_run : B1 K.rabbetlaw13_awake [] TH.mt (fun u _ => u.same (.bool true)) = true := by kernel_rfl
theorem awake (H : AH) (Q : Post) (hQ : Q (.bool true) H) : ACall C K.rabbetlaw13_awake [] H Q := run_any gtC B1_ok (by kernel_rfl) (by kernel_rfl) awake_run H Q hQ

def M2 : Memo := fun k a => cond (Nat.beq k K.rabbetlaw13_awake) (match a with | [] => some (.bool true) | _ => none) (M1 k a)
theorem M2_ok : MemoOK (ACall C) M2 := by
  intro k a v h H Q hQ
  unfold M2 at h
  cases hb : Nat.beq k K.rabbetlaw13_awake with
  | false => rw [hb] at h; exact M1_ok k a v h H Q hQ
  | true =>
    rw [hb] at h
    obtain rfl := Nat.eq_of_beq_eq_true hb
    simp only [cond_true] at h
    split at h
    · cases h; exact awake H Q hQ
    · cases h
def B2 : CallsB := runM M2 (disp 4096) 60
theorem B2_ok : SoundB (ACall C) B2 := runM_sound M2_ok (dispOK 4096) 60
theorem all36 : ((List.range 9).all fun a => (List.range 4).all fun b => R.rabbetlaw13_LowerSingle B2 4096 (.int .u8 (Int.ofNat a)) (.int .u8 (Int.ofNat b)) TH.mt (fun u _ => u.same (.bool true))) = true := by kernel_rfl
theorem single (a b : Nat) (ha : a < 9) (hb : b < 4) : S.rabbetlaw13_LowerSingle (ACall C) (.int .u8 a) (.int .u8 b) AH.mt (fun v _ => v = .bool true) := by
  have h := all36
  rw [List.all_eq_true] at h
  have h1 := h a (List.mem_range.2 ha)
  rw [List.all_eq_true] at h1
  have h2 := h1 b (List.mem_range.2 hb)
  rw [← R.eq_rabbetlaw13_LowerSingle] at h2
  have h3 := (fnB_sound (Q := fun v _ => v = .bool true) B2_ok (f := S.ir_rabbetlaw13_LowerSingle) (fuel := 4096) (by unfold fnB; rw [h2]; rfl) (fun v T' h => AV.same_sound _ _ h)).2
  rw [S.eq_rabbetlaw13_LowerSingle, TH.ah_mt] at h3
  exact h3

theorem rem9 (a : Int) (h : 0 ≤ a) : abin .rem (.int .u8 a) (.int .u8 9) = abin .rem (.int .u8 ((a % 9).toNat : Int)) (.int .u8 9) := by
  rw [abin_rem _ _ _ (by decide), abin_rem _ _ _ (by decide), Int.tmod_eq_emod_of_nonneg h, Int.tmod_eq_emod_of_nonneg (by omega)]
  congr 2; omega
theorem rem4 (a : Int) (h : 0 ≤ a) : abin .rem (.int .u8 a) (.int .u8 4) = abin .rem (.int .u8 ((a % 4).toNat : Int)) (.int .u8 4) := by
  rw [abin_rem _ _ _ (by decide), abin_rem _ _ _ (by decide), Int.tmod_eq_emod_of_nonneg h, Int.tmod_eq_emod_of_nonneg (by omega)]
  congr 2; omega

theorem any (a b : Int) (ha : 0 ≤ a) (hb : 0 ≤ b) : ACall C K.rabbetlaw13_LowerSingle [.int .u8 a, .int .u8 b] AH.mt (fun v _ => v = .bool true) := by
  refine S.cl_rabbetlaw13_LowerSingle cl_rabbetlaw13 ?_
  have h := single (a % 9).toNat (b % 4).toNat (by omega) (by omega)
  unfold S.rabbetlaw13_LowerSingle at h ⊢
  rw [rem9 a ha, rem4 b hb]
  exact h
end
end Go.Proofs.YtifjgnmgchcfaaaGreatDoor.rb

/- Law 13, LowerSingle: the statement. -/
set_option linter.unusedVariables false
namespace Go.Proofs.YtifjgnmgchcfaaaGreatDoor.rb
open Rb Go.ChangeShapes Go.WideShapes Go.ChangeAt Go.RowKit

theorem own : ownKnob Tryz.prog.godebug = none := by kernel_rfl
theorem laidOut : laidOutB Tryz.prog = true := by kernel_rfl
theorem gT : Tryz.prog.globalNamed "strings.asciiSpace" = some 0 := by kernel_rfl
theorem gTType : (Tryz.prog.globals[0]?).map (·.type) = some 134 := by kernel_rfl
theorem cells5 : Tryz.prog.cellsOf 5 = 1 := by kernel_rfl
theorem cells134 : Tryz.prog.cellsOf 134 = 256 := by kernel_rfl

theorem tab_eq : (Rows.laid_strings_asciiSpace : DataW Unit) = Go.Lib.tabData .u8 Go.Lib.asciiSpaceTab := by kernel_rfl
theorem tab_mem : (("strings.asciiSpace", Go.Lib.tabData .u8 Go.Lib.asciiSpaceTab) : String × DataW Unit) ∈ Rows.lowerSingleRow.laid := by
  rw [← tab_eq]; exact .tail _ (.head _)
theorem tab_of {W : World} (h : laidMet Tryz.prog Rows.lowerSingleRow.laid W) : Go.Lib.TabIs Tryz.prog W "strings.asciiSpace" .u8 Go.Lib.asciiSpaceTab := by
  obtain ⟨g', t', cs, fuel, p, hg', ht', hvar, hd⟩ := Go.Lib.laidMet.reads h tab_mem
  obtain rfl := Option.some.inj (gT.symm.trans hg')
  obtain rfl := Option.some.inj (gTType.symm.trans ht')
  unfold Go.Lib.TabIs
  rw [hvar, ← Go.Lib.cells_of_tab Tryz.underlying134 Tryz.underlying5 cells5 cells134 hd]

theorem gok {W : World} (h : laidMet Tryz.prog Rows.lowerSingleRow.laid W) : GOK C W (Ghost.mt (allFz W)) := by
  intro g l hg
  have ht := tab_of h
  change gt g = some l at hg
  unfold gt at hg
  split at hg
  · rename_i e
    subst e
    cases hg
    rw [asciiSpace_eq]
    exact fptr_of_tab fun i hi => ht.cell gT i hi
  · cases hg

/-- A world in which the variables hold what their initialisers lay. -/
noncomputable def laidWorld (os : Os) : World :=
  let N := (World.settled Tryz.prog os).heap.size
  let w0 := World.holding Tryz.prog os ⟨#[.cells (Go.Lib.whiteT.map fun (z : Nat) => Value.int .u16 (z : Int)).toArray 180, .cells #[.slice (some ⟨N, 0, none⟩) 7 7, .slice none 0 0, .int .i64 2] 177], #[], []⟩
  let put (h : Array Obj) (g : Nat) (cs : Array Value) : Array Obj := h.modify g fun
    | .cells _ t frozen => .cells cs t frozen
    | o => o
  { w0 with heap := put (put w0.heap 0 (Go.Lib.asciiSpaceTab.map fun z => Value.int .u8 z).toArray) 1 #[.pointer (some ⟨N + 1, 0, none⟩)] }
theorem laid_met (os : Os) (args : Array Value) : laidMet Tryz.prog Rows.lowerSingleRow.laid ((laidWorld os).forCall (fun _ _ => 0) ⟨#[], args, []⟩).memory :=
  laidMet_of_run3 10 (by kernel_rfl) (by kernel_rfl) (by kernel_rfl)

set_option maxRecDepth 100000 in
theorem lifted (os : Os) (started : os.Started) (H : Type) (enc : TypeId × Value → H) :
    ReturnsInHanded {} Tryz.checked os 3 .any (fun w args => (Rows.lowerSingleSpec.pre enc Tryz.prog Tryz.f3 [] false w args ∧ laidMet Tryz.prog Rows.lowerSingleRow.laid w) ∧ sizedMet enc Tryz.prog Tryz.f3 (OpenSpec.ofChange Rows.lowerSingleSpec) false w args)
      (Rows.lowerSingleSpec.post enc Tryz.prog Tryz.f3 false true false false) := by
  refine returnsInHanded_of_change_and (C := Tryz.checked) (X := fun w _ => laidMet Tryz.prog Rows.lowerSingleRow.laid w) (fun _ _ _ hh h => h.of_heap hh) own started (by kernel_rfl) Tryz.func3
    (ChangeSpec.witness_shaped (enc := enc) (C := Tryz.checked) (os := os) (X := fun w _ => laidMet Tryz.prog Rows.lowerSingleRow.laid w) false (laidWorld os) #[.int .u8 0, .int .u8 0] 8 rfl (World.shaped_of_RefB (by kernel_rfl) (by kernel_rfl)) (by kernel_rfl) (by kernel_rfl) (by kernel_rfl) (laid_met os _)) ?_
  intro W base args ds gs before hval0 hW _ _ hL _
  have hval : ∀ (j : Nat) t v, Tryz.f3.params[j]? = some t → args[j]? = some v → Value.okWide Tryz.prog W .any base t v := hval0
  have hW' := hW
  obtain ⟨p, q, hA0, hV0, rfl, hfz, hnd⟩ := hW
  have hA : DataW.TrodAll enc Tryz.prog W 0 (fun _ => true) true Tryz.f3.params.toList args.toList ds p := hA0
  have hV : DataW.TrodVars enc Tryz.prog W (fun _ => true) [] gs q := hV0
  rw [Tryz.params3] at hA hval
  obtain ⟨v0, v1, d0, d1, p0, p1, rfl, rfl, rfl, h0, h1⟩ := trodAll_two hA
  obtain ⟨rfl, rfl⟩ : gs = [] ∧ q = [] := by
    cases gs with
    | nil => exact ⟨rfl, hV⟩
    | cons g r => exact absurd hV (by intro h; cases h)
  obtain ⟨a, rfl, rfl, rfl, wa⟩ := open_int Tryz.underlying5 (hval 0 5 v0 rfl rfl) h0
  obtain ⟨b, rfl, rfl, rfl, wb⟩ := open_int Tryz.underlying5 (hval 1 5 v1 rfl rfl) h1
  have ha : 0 ≤ a := by simp [Lit.wf, IntKind.min, IntKind.max, IntKind.signed, IntKind.bits] at wa; omega
  have hb : 0 ≤ b := by simp [Lit.wf, IntKind.min, IntKind.max, IntKind.signed, IntKind.bits] at wb; omega
  refine (law_calls (C := C) (f := 3) (by kernel_rfl) (any a b ha hb) (gok hL) (VRs.two (.int _ _) (.int _ _))).mono fun e W' ⟨he, hbel⟩ => ?_
  subst he
  exact ⟨_, rfl, post_true (bt := 4) hW' laidOut (by kernel_rfl) (by kernel_rfl) (by kernel_rfl) Tryz.underlying4 rfl hbel⟩

theorem row : Rows.LowerSingleSaid :=
  OpenClaim.holds_of_wide 3 Tryz.f3 rfl rfl rfl rfl rfl rfl rfl ⟨rfl, rfl, rfl, rfl, rfl⟩ rfl rfl rfl rfl rfl (by kernel_rfl) Tryz.func3 (by kernel_rfl)
    (of_decide_eq_true (by kernel_rfl)) (by unfold Func.isWrapper; first | (rw [if_pos (by decide +kernel)]; kernel_rfl) | (rw [if_neg (by decide +kernel)]; exact ⟨rfl, rfl⟩))
    (fun os started H enc _ => lifted os started H enc)
end Go.Proofs.YtifjgnmgchcfaaaGreatDoor.rb
namespace Go.Proofs.YtifjgnmgchcfaaaGreatDoor
open Go

theorem lowerSingle_holds : Rows.LowerSingleCardSaid :=
  Claim7.holds_tied_plain_at .later [] [.listed, .data] true (true, "f0c058d11b93c8fac8c4353a64c3c1936e8760fe1870c7d414434688f9f51c89") false
    rb.row (fun _ h => by cases h) (by kernel_rfl) (fun _ h => by cases h) lowerSingle_row_tie rfl ⟨rfl, rfl⟩ (by kernel_rfl) rfl
    (fun f fn hf hfn => by
      obtain rfl : f = 3 := Option.some.inj ((show Tryz.prog.funcNamed Rows.lowerSingleRow.func = some 3 by kernel_rfl).symm.trans hf) |>.symm
      obtain rfl : fn = Tryz.f3 := (Option.some.inj (Tryz.func3.symm.trans hfn)).symm
      exact ⟨by kernel_rfl, fun j t ht => by
        rw [Tryz.params3] at ht
        have h3 : t = 5 := by
          rcases j with _ | _ | j
          · simpa using ht.symm
          · simpa using ht.symm
          · simp at ht
        subst h3
        exact (show Tryz.prog.wantsStandIn 5 = false by kernel_rfl)⟩)
    (by kernel_rfl)
#print axioms lowerSingle_holds
end Go.Proofs.YtifjgnmgchcfaaaGreatDoor
