/- A part of the proof (part 3): see the last text. -/
import Derived.Test.YtpmpckhgkhiebaaDoorRb2
import Derived.Test.YtpmpckhgkhiebaaDoorRows
import Derived.KernelRfl
import Derived.WalkKit
import Derived.ProofKit
import Derived.Lib.Bytealg
import Derived.Laws.Externs
import Derived.LaidLaws
import Derived.LaidHandle
import Derived.Lib.LaidU8
import Derived.Deep.DeepLaidRun
import Derived.Handed
import Derived.JoinedOf
import Derived.SevenTiedAt
import Derived.Lib.Space
import Derived.ChangeArms
import Derived.Lib.DecodeN
/- Quick ways to reckon what the small language's operations say: the same values, found by fewer steps. -/
set_option linter.unusedVariables false
set_option linter.unusedSimpArgs false
namespace Rb
open Go
noncomputable section

theorem nb (a b : Nat) : Nat.beq a b = decide (a = b) := by rw [Bool.eq_iff_iff]; simp
theorem nl (a b : Nat) : Nat.blt a b = decide (a < b) := by rw [Bool.eq_iff_iff]; simp [Nat.blt]; omega
theorem ne' (a b : Nat) : Nat.ble a b = decide (a ≤ b) := by rw [Bool.eq_iff_iff]; simp

/-! Lists -/
def nthF {α : Type} (l : List α) : Nat → Option α := List.rec (motive := fun _ => Nat → Option α) (fun _ => none) (fun x _ ih n => Nat.rec (motive := fun _ => Option α) (some x) (fun m _ => ih m) n) l
theorem nthF_eq {α : Type} : ∀ (l : List α) (n : Nat), nthF l n = l[n]?
  | [], n => by cases n <;> rfl
  | x :: r, 0 => rfl
  | x :: r, n + 1 => by rw [List.getElem?_cons_succ, ← nthF_eq r n]; rfl
def dropF {α : Type} (n : Nat) : List α → List α := Nat.rec (motive := fun _ => List α → List α) (fun l => l) (fun _ ih l => List.rec (motive := fun _ => List α) [] (fun _ t _ => ih t) l) n
theorem dropF_eq {α : Type} : ∀ (n : Nat) (l : List α), dropF n l = l.drop n
  | 0, l => rfl
  | n + 1, [] => rfl
  | n + 1, x :: r => by rw [List.drop_succ_cons, ← dropF_eq n r]; rfl
def leF {α : Type} (n : Nat) : List α → Bool := Nat.rec (motive := fun _ => List α → Bool) (fun _ => true) (fun _ ih l => List.rec (motive := fun _ => Bool) false (fun _ t _ => ih t) l) n
theorem leF_eq {α : Type} : ∀ (n : Nat) (l : List α), leF n l = decide (n ≤ l.length)
  | 0, l => by simp; rfl
  | n + 1, [] => by simp; rfl
  | n + 1, x :: r => by rw [List.length_cons, show decide (n + 1 ≤ r.length + 1) = decide (n ≤ r.length) by simp, ← leF_eq n r]; rfl

/-! Numbers -/
def kN : IntKind → Nat
  | .i8 => 0 | .i16 => 1 | .i32 => 2 | .i64 => 3 | .u8 => 4 | .u16 => 5 | .u32 => 6 | .u64 => 7
def kEq (k k' : IntKind) : Bool := Nat.beq (kN k) (kN k')
theorem kEq_eq {k k' : IntKind} (h : kEq k k' = true) : k = k' := by
  revert h; cases k <;> cases k' <;> decide
def lim : IntKind → Nat
  | .i8 => 128 | .i16 => 32768 | .i32 => 2147483648 | .i64 => 9223372036854775808 | .u8 => 256 | .u16 => 65536 | .u32 => 4294967296 | .u64 => 18446744073709551616
theorem wrap_lim {k : IntKind} {m : Nat} (h : m < lim k) : k.wrap (Int.ofNat m) = Int.ofNat m := by
  have hm : (Int.ofNat m) = (m : Int) := rfl
  rw [hm]
  cases k <;> simp only [lim] at h <;> simp only [IntKind.wrap, IntKind.bits, IntKind.signed] <;> simp <;> omega

def asNat (v : AV) (d : Option AV) (f : IntKind → Nat → Option AV) : Option AV :=
  match v with
  | .int k n => (match n with | .ofNat m => f k m | .negSucc _ => d)
  | _ => d
theorem asNat_eq {v : AV} {d : Option AV} {f : IntKind → Nat → Option AV} (h : ∀ k m, v = .int k (.ofNat m) → f k m = d) : asNat v d f = d := by
  unfold asNat
  split
  · split
    · exact h _ _ rfl
    · rfl
  · rfl

def natOp (g : IntKind → Nat → Nat → Option AV → Option AV) (s : Option AV) (x y : AV) : Option AV :=
  asNat x s fun k a => asNat y s fun k' b => cond (kEq k k') (g k a b s) s
theorem natOp_eq {g : IntKind → Nat → Nat → Option AV → Option AV} {op : BinOp} (hg : ∀ k a b, g k a b (abinInt op k (.ofNat a) k (.ofNat b)) = abinInt op k (.ofNat a) k (.ofNat b)) (x y : AV) : natOp g (abin op x y) x y = abin op x y := by
  refine asNat_eq fun k a hx => asNat_eq fun k' b hy => ?_
  subst hx hy
  cases h : kEq k k' with
  | false => rfl
  | true =>
    obtain rfl := kEq_eq h
    exact hg k a b

def gAdd (k : IntKind) (a b : Nat) (s : Option AV) : Option AV := cond (Nat.blt (Nat.add a b) (lim k)) (some (.int k (.ofNat (Nat.add a b)))) s
def gSub (k : IntKind) (a b : Nat) (s : Option AV) : Option AV := cond (and (Nat.ble b a) (Nat.blt a (lim k))) (some (.int k (.ofNat (Nat.sub a b)))) s
def gMul (k : IntKind) (a b : Nat) (s : Option AV) : Option AV := cond (Nat.blt (Nat.mul a b) (lim k)) (some (.int k (.ofNat (Nat.mul a b)))) s
def gLss (k : IntKind) (a b : Nat) (s : Option AV) : Option AV := some (.bool (Nat.blt a b))
def gLeq (k : IntKind) (a b : Nat) (s : Option AV) : Option AV := some (.bool (Nat.ble a b))
def gGtr (k : IntKind) (a b : Nat) (s : Option AV) : Option AV := some (.bool (Nat.blt b a))
def gGeq (k : IntKind) (a b : Nat) (s : Option AV) : Option AV := some (.bool (Nat.ble b a))
def gEql (k : IntKind) (a b : Nat) (s : Option AV) : Option AV := some (.bool (Nat.beq a b))
def gNeq (k : IntKind) (a b : Nat) (s : Option AV) : Option AV := some (.bool (not (Nat.beq a b)))
def gQuo (k : IntKind) (a b : Nat) (s : Option AV) : Option AV := cond (and (Nat.blt 0 b) (Nat.blt a (lim k))) (some (.int k (.ofNat (Nat.div a b)))) s
def gRem (k : IntKind) (a b : Nat) (s : Option AV) : Option AV := cond (Nat.blt 0 b) (some (.int k (.ofNat (Nat.mod a b)))) s
def gAnd (k : IntKind) (a b : Nat) (s : Option AV) : Option AV := cond (and (Nat.blt a (lim k)) (Nat.blt b (lim k))) (some (.int k (.ofNat (Nat.land a b)))) s
def gOr (k : IntKind) (a b : Nat) (s : Option AV) : Option AV := cond (and (Nat.blt a (lim k)) (Nat.blt b (lim k))) (some (.int k (.ofNat (Nat.lor a b)))) s
def gXor (k : IntKind) (a b : Nat) (s : Option AV) : Option AV := cond (and (Nat.blt a (lim k)) (Nat.blt b (lim k))) (some (.int k (.ofNat (Nat.xor a b)))) s

theorem gAdd_eq (k : IntKind) (a b : Nat) : gAdd k a b (abinInt .add k (.ofNat a) k (.ofNat b)) = abinInt .add k (.ofNat a) k (.ofNat b) := by
  unfold gAdd
  rw [nl]
  by_cases h : Nat.add a b < lim k
  · simp only [h, decide_true, cond_true, abinInt, if_true]
    rw [show (Int.ofNat a + Int.ofNat b) = Int.ofNat (Nat.add a b) from rfl, wrap_lim h]
  · simp only [h, decide_false, cond_false]
theorem gMul_eq (k : IntKind) (a b : Nat) : gMul k a b (abinInt .mul k (.ofNat a) k (.ofNat b)) = abinInt .mul k (.ofNat a) k (.ofNat b) := by
  unfold gMul
  rw [nl]
  by_cases h : Nat.mul a b < lim k
  · simp only [h, decide_true, cond_true, abinInt, if_true]
    rw [show (Int.ofNat a * Int.ofNat b) = Int.ofNat (Nat.mul a b) from rfl, wrap_lim h]
  · simp only [h, decide_false, cond_false]
theorem gSub_eq (k : IntKind) (a b : Nat) : gSub k a b (abinInt .sub k (.ofNat a) k (.ofNat b)) = abinInt .sub k (.ofNat a) k (.ofNat b) := by
  unfold gSub
  rw [nl, ne']
  by_cases h : b ≤ a ∧ a < lim k
  · simp only [h.1, h.2, decide_true, Bool.and_self, cond_true, abinInt, if_true]
    have : (Int.ofNat a - Int.ofNat b) = Int.ofNat (Nat.sub a b) := by
      show (a : Int) - (b : Int) = ((a - b : Nat) : Int)
      omega
    rw [this, wrap_lim (show Nat.sub a b < lim k from Nat.lt_of_le_of_lt (Nat.sub_le _ _) h.2)]
  · have : (decide (b ≤ a) && decide (a < lim k)) = false := by
      rw [Bool.eq_false_iff]; intro h2; simp at h2; exact h h2
    simp only [this, cond_false]
theorem gLss_eq (k : IntKind) (a b : Nat) : gLss k a b (abinInt .lss k (.ofNat a) k (.ofNat b)) = abinInt .lss k (.ofNat a) k (.ofNat b) := by
  simp only [gLss, abinInt, if_true, nl]
  congr 2
  simp
theorem gLeq_eq (k : IntKind) (a b : Nat) : gLeq k a b (abinInt .leq k (.ofNat a) k (.ofNat b)) = abinInt .leq k (.ofNat a) k (.ofNat b) := by
  simp only [gLeq, abinInt, if_true, ne']
  congr 2
  simp
theorem gGtr_eq (k : IntKind) (a b : Nat) : gGtr k a b (abinInt .gtr k (.ofNat a) k (.ofNat b)) = abinInt .gtr k (.ofNat a) k (.ofNat b) := by
  simp only [gGtr, abinInt, if_true, nl]
  congr 2
  simp
theorem gGeq_eq (k : IntKind) (a b : Nat) : gGeq k a b (abinInt .geq k (.ofNat a) k (.ofNat b)) = abinInt .geq k (.ofNat a) k (.ofNat b) := by
  simp only [gGeq, abinInt, if_true, ne']
  congr 2
  simp
theorem ofN_beq (a b : Nat) : (Int.ofNat a == Int.ofNat b) = decide (a = b) := by
  rw [Bool.eq_iff_iff]; simp; omega
theorem gEql_eq (k : IntKind) (a b : Nat) : gEql k a b (abinInt .eql k (.ofNat a) k (.ofNat b)) = abinInt .eql k (.ofNat a) k (.ofNat b) := by
  simp only [gEql, abinInt, if_true, nb, ofN_beq]
theorem gNeq_eq (k : IntKind) (a b : Nat) : gNeq k a b (abinInt .neq k (.ofNat a) k (.ofNat b)) = abinInt .neq k (.ofNat a) k (.ofNat b) := by
  simp only [gNeq, abinInt, if_true, nb, bne, ofN_beq]
theorem gRem_eq (k : IntKind) (a b : Nat) : gRem k a b (abinInt .rem k (.ofNat a) k (.ofNat b)) = abinInt .rem k (.ofNat a) k (.ofNat b) := by
  unfold gRem
  rw [nl]
  by_cases h : 0 < b
  · have hb : (Int.ofNat b) ≠ 0 := by simp; omega
    simp only [h, decide_true, cond_true, abinInt, if_pos (show True ∧ Int.ofNat b ≠ 0 from ⟨trivial, hb⟩)]
    rfl
  · simp only [h, decide_false, cond_false]
theorem gQuo_eq (k : IntKind) (a b : Nat) : gQuo k a b (abinInt .quo k (.ofNat a) k (.ofNat b)) = abinInt .quo k (.ofNat a) k (.ofNat b) := by
  unfold gQuo
  rw [nl, nl]
  by_cases h : 0 < b ∧ a < lim k
  · have hb : (Int.ofNat b) ≠ 0 := by have := h.1; simp; omega
    simp only [h.1, h.2, decide_true, Bool.and_self, cond_true, abinInt, if_pos (show True ∧ Int.ofNat b ≠ 0 from ⟨trivial, hb⟩)]
    rw [show (Int.ofNat a).tdiv (Int.ofNat b) = Int.ofNat (Nat.div a b) from rfl, wrap_lim (show Nat.div a b < lim k from Nat.lt_of_le_of_lt (Nat.div_le_self _ _) h.2)]
  · have : (decide (0 < b) && decide (a < lim k)) = false := by
      rw [Bool.eq_false_iff]; intro h2; simp at h2; exact h h2
    simp only [this, cond_false]
theorem lim_le (k : IntKind) : lim k ≤ 2 ^ k.bits := by cases k <;> decide
theorem lim_pow (k : IntKind) : ∃ n, lim k = 2 ^ n := by
  cases k
  · exact ⟨7, rfl⟩
  · exact ⟨15, rfl⟩
  · exact ⟨31, rfl⟩
  · exact ⟨63, rfl⟩
  · exact ⟨8, rfl⟩
  · exact ⟨16, rfl⟩
  · exact ⟨32, rfl⟩
  · exact ⟨64, rfl⟩
theorem bits_eq {op : BinOp} {f : Nat → Nat → Nat} (k : IntKind) (a b : Nat) (ha : a < lim k) (hb : b < lim k) (hf : f a b < lim k)
    (h : bitsOp op k (.ofNat a) (.ofNat b) = some (k.wrap (((f (BitVec.ofInt k.bits (.ofNat a)).toNat (BitVec.ofInt k.bits (.ofNat b)).toNat) : Nat) : Int))) : bitsOp op k (.ofNat a) (.ofNat b) = some (.ofNat (f a b)) := by
  have h2 := lim_le k
  have e : ∀ n : Nat, n < lim k → (BitVec.ofInt k.bits (.ofNat n)).toNat = n := fun n hn => by
    have : BitVec.ofInt k.bits (.ofNat n) = BitVec.ofNat k.bits n := by simp
    rw [this, BitVec.toNat_ofNat, Nat.mod_eq_of_lt (by omega)]
  rw [h, e a ha, e b hb]
  exact congrArg some (wrap_lim hf)
theorem gAnd_eq (k : IntKind) (a b : Nat) : gAnd k a b (abinInt .and k (.ofNat a) k (.ofNat b)) = abinInt .and k (.ofNat a) k (.ofNat b) := by
  unfold gAnd
  rw [nl, nl]
  by_cases h : a < lim k ∧ b < lim k
  · simp only [h.1, h.2, decide_true, Bool.and_self, cond_true, abinInt, if_true]
    rw [bits_eq (op := .and) (f := Nat.land) k a b h.1 h.2 (Nat.lt_of_le_of_lt Nat.and_le_left h.1) (by simp only [bitsOp, BitVec.toNat_and]; rfl)]
    rfl
  · have : (decide (a < lim k) && decide (b < lim k)) = false := by
      rw [Bool.eq_false_iff]; intro h2; simp at h2; exact h h2
    simp only [this, cond_false]
theorem gOr_eq (k : IntKind) (a b : Nat) : gOr k a b (abinInt .or k (.ofNat a) k (.ofNat b)) = abinInt .or k (.ofNat a) k (.ofNat b) := by
  unfold gOr
  rw [nl, nl]
  by_cases h : a < lim k ∧ b < lim k
  · simp only [h.1, h.2, decide_true, Bool.and_self, cond_true, abinInt, if_true]
    have hl : Nat.lor a b < lim k := by
      obtain ⟨n, hn⟩ := lim_pow k
      rw [hn] at h ⊢
      exact Nat.or_lt_two_pow h.1 h.2
    rw [bits_eq (op := .or) (f := Nat.lor) k a b h.1 h.2 hl (by simp only [bitsOp, BitVec.toNat_or]; rfl)]
    rfl
  · have : (decide (a < lim k) && decide (b < lim k)) = false := by
      rw [Bool.eq_false_iff]; intro h2; simp at h2; exact h h2
    simp only [this, cond_false]
theorem gXor_eq (k : IntKind) (a b : Nat) : gXor k a b (abinInt .xor k (.ofNat a) k (.ofNat b)) = abinInt .xor k (.ofNat a) k (.ofNat b) := by
  unfold gXor
  rw [nl, nl]
  by_cases h : a < lim k ∧ b < lim k
  · simp only [h.1, h.2, decide_true, Bool.and_self, cond_true, abinInt, if_true]
    have hl : Nat.xor a b < lim k := by
      obtain ⟨n, hn⟩ := lim_pow k
      rw [hn] at h ⊢
      exact Nat.xor_lt_two_pow h.1 h.2
    rw [bits_eq (op := .xor) (f := Nat.xor) k a b h.1 h.2 hl (by simp only [bitsOp, BitVec.toNat_xor]; rfl)]
    rfl
  · have : (decide (a < lim k) && decide (b < lim k)) = false := by
      rw [Bool.eq_false_iff]; intro h2; simp at h2; exact h h2
    simp only [this, cond_false]

structure BinC where
  f : AV → AV → Option AV
def binC : BinOp → BinC
  | .add => ⟨fun x y => natOp gAdd (abin .add x y) x y⟩
  | .sub => ⟨fun x y => natOp gSub (abin .sub x y) x y⟩
  | .mul => ⟨fun x y => natOp gMul (abin .mul x y) x y⟩
  | .quo => ⟨fun x y => natOp gQuo (abin .quo x y) x y⟩
  | .rem => ⟨fun x y => natOp gRem (abin .rem x y) x y⟩
  | .and => ⟨fun x y => natOp gAnd (abin .and x y) x y⟩
  | .or => ⟨fun x y => natOp gOr (abin .or x y) x y⟩
  | .xor => ⟨fun x y => natOp gXor (abin .xor x y) x y⟩
  | .lss => ⟨fun x y => natOp gLss (abin .lss x y) x y⟩
  | .leq => ⟨fun x y => natOp gLeq (abin .leq x y) x y⟩
  | .gtr => ⟨fun x y => natOp gGtr (abin .gtr x y) x y⟩
  | .geq => ⟨fun x y => natOp gGeq (abin .geq x y) x y⟩
  | .eql => ⟨fun x y => natOp gEql (abin .eql x y) x y⟩
  | .neq => ⟨fun x y => natOp gNeq (abin .neq x y) x y⟩
  | .shl => ⟨fun x y => abin .shl x y⟩
  | .shr => ⟨fun x y => abin .shr x y⟩
  | .andNot => ⟨fun x y => abin .andNot x y⟩
theorem binC_eq (op : BinOp) (x y : AV) : (binC op).f x y = abin op x y := by
  cases op <;> first | rfl | exact natOp_eq (by first | exact gAdd_eq | exact gSub_eq | exact gMul_eq | exact gQuo_eq | exact gRem_eq | exact gAnd_eq | exact gOr_eq | exact gXor_eq | exact gLss_eq | exact gLeq_eq | exact gGtr_eq | exact gGeq_eq | exact gEql_eq | exact gNeq_eq) x y

def convF (k : IntKind) (x : AV) : Option AV := asNat x (aconv k x) fun _ m => cond (Nat.blt m (lim k)) (some (.int k (.ofNat m))) (aconv k x)
theorem convF_eq (k : IntKind) (x : AV) : convF k x = aconv k x := by
  refine asNat_eq fun k' m hx => ?_
  subst hx
  rw [nl]
  by_cases h : m < lim k
  · simp only [h, decide_true, cond_true, aconv]
    rw [wrap_lim h]
  · simp only [h, decide_false, cond_false]

/-! Places -/
def takeF (cs : List AV) (o n : Nat) (agg : Bool) : Option AV :=
  cond agg (cond (leF (Nat.add o n) cs) (some (.agg ((dropF o cs).take n))) none) (cond (Nat.beq n 1) (nthF cs o) (takeCells cs o n false))
theorem takeF_eq (cs : List AV) (o n : Nat) (agg : Bool) : takeF cs o n agg = takeCells cs o n agg := by
  unfold takeF takeCells
  cases agg with
  | true =>
    rw [leF_eq, dropF_eq]
    by_cases h : o + n ≤ cs.length
    · rw [if_pos h]; simp [show Nat.add o n = o + n from rfl, h]
    · rw [if_neg h]; simp [show Nat.add o n = o + n from rfl, h]
  | false =>
    rw [nb, nthF_eq]
    by_cases h1 : n = 1
    · subst h1
      simp only [decide_true, cond_true, cond_false, Bool.false_eq_true, if_false]
      by_cases h : o + 1 ≤ cs.length
      · rw [if_pos h]
      · rw [if_neg h, List.getElem?_eq_none (by omega)]
    · simp only [h1, decide_false, cond_false]
def fieldF (off sz : Nat) (agg : Bool) (x : AV) : Option AV :=
  match x with
  | .agg cs => takeF cs off sz agg
  | _ => none
theorem fieldF_eq (off sz : Nat) (agg : Bool) (x : AV) : fieldF off sz agg x = afield off sz agg x := by
  unfold fieldF afield; cases x <;> first | rfl | exact takeF_eq _ _ _ _
def idxF (len sz : Nat) (agg : Bool) (x i : AV) : Option AV := asNat i (aidx len sz agg x i) fun k m => match x with
  | .agg cs => cond (Nat.blt m len) (takeF cs (Nat.mul m sz) sz agg) none
  | _ => aidx len sz agg x i
theorem idxF_eq (len sz : Nat) (agg : Bool) (x i : AV) : idxF len sz agg x i = aidx len sz agg x i := by
  refine asNat_eq fun k m hi => ?_
  subst hi
  cases x <;> first | rfl | skip
  rename_i cs
  dsimp only
  rw [nl, takeF_eq]
  simp only [aidx]
  by_cases h : m < len
  · rw [if_pos ⟨Int.natCast_nonneg _, by exact Int.ofNat_lt.2 h⟩]; simp only [h, decide_true, cond_true]; rfl
  · rw [if_neg (fun h2 => h (Int.ofNat_lt.1 h2.2))]; simp only [h, decide_false, cond_false]
def idxsF (x i : AV) : Option AV := asNat i (aidxs x i) fun _ m => match x with
  | .str s => (match nthF s m with | some b => some (.int .u8 (.ofNat b.toNat)) | none => none)
  | _ => aidxs x i
theorem idxsF_eq (x i : AV) : idxsF x i = aidxs x i := by
  refine asNat_eq fun k m hi => ?_
  subst hi
  cases x <;> first | rfl | skip
  rename_i s
  dsimp only
  rw [nthF_eq]
  simp only [aidxs]
  rw [if_pos (show 0 ≤ Int.ofNat m from Int.natCast_nonneg _)]
  show _ = Option.map _ s[m]?
  cases s[m]? <;> rfl
def iaddrF (arr : Option Nat) (sz : Nat) (x i : AV) : Option AV := asNat i (aiaddr arr sz x i) fun _ m => match arr, x with
  | none, .lst _ len cells => cond (Nat.blt m len) (some (.fptr (dropF (Nat.mul m sz) cells))) none
  | none, .row id o len _ => cond (Nat.blt m len) (some (.ptr id (Nat.add o (Nat.mul m sz)))) none
  | some n, .ptr id o => cond (Nat.blt m n) (some (.ptr id (Nat.add o (Nat.mul m sz)))) none
  | some n, .fptr cells => cond (Nat.blt m n) (some (.fptr (dropF (Nat.mul m sz) cells))) none
  | _, _ => aiaddr arr sz x i
theorem iaddrF_eq (arr : Option Nat) (sz : Nat) (x i : AV) : iaddrF arr sz x i = aiaddr arr sz x i := by
  refine asNat_eq fun k m hi => ?_
  subst hi
  have key : ∀ (n : Nat) (v : AV), cond (Nat.blt m n) (some v) none = if 0 ≤ (Int.ofNat m) ∧ (Int.ofNat m) < (n : Int) then some v else none := by
    intro n v
    rw [nl]
    by_cases h : m < n
    · rw [if_pos ⟨Int.natCast_nonneg _, Int.ofNat_lt.2 h⟩]; simp only [h, decide_true, cond_true]
    · rw [if_neg (fun h2 => h (Int.ofNat_lt.1 h2.2))]; simp only [h, decide_false, cond_false]
  cases arr <;> cases x <;> first
    | rfl
    | (dsimp only; rw [key]; simp only [dropF_eq]; rfl)
    | (dsimp only; rw [key]; rfl)
def loadF (T : TH) (n : Nat) (agg : Bool) (x : AV) : Option AV :=
  match x with
  | .ptr id o => (match T.t.get id with | .row cs => takeF cs o n agg | _ => none)
  | .fptr cs => takeF cs 0 n agg
  | _ => none
theorem loadF_eq (T : TH) (n : Nat) (agg : Bool) (x : AV) : loadF T n agg x = aload T.ah n agg x := by
  unfold loadF aload
  cases x <;> first | rfl | skip
  · dsimp only
    show _ = match T.t.get _ with | .row cs => _ | _ => _
    split <;> first | rfl | exact takeF_eq _ _ _ _
  · exact takeF_eq _ _ _ _
end
end Rb

/- Runs by pieces that are made once: each piece of a text becomes a function over the slots' values, in a box, so that it is found again. All values are reckoned to the end before they are handed on: what waits would drag behind it all that it came from. -/
set_option linter.unusedVariables false
set_option linter.unusedSimpArgs false
namespace Rb
open Go
noncomputable section

/-! Values, reckoned to the end and handed on -/
def natV (m : Nat) (K : Nat → Bool) : Bool := Nat.rec (motive := fun _ => Bool) (K 0) (fun p _ => K (Nat.succ p)) m
theorem natV_eq (m : Nat) (K : Nat → Bool) : natV m K = K m := by cases m <;> rfl
def spineK {α : Type} (l : List α) : (List α → Bool) → Bool := List.rec (motive := fun _ => (List α → Bool) → Bool) (fun K => K []) (fun x _ ih K => ih fun r => K (x :: r)) l
theorem spineK_eq {α : Type} : ∀ (l : List α) (K : List α → Bool), spineK l K = K l
  | [], K => rfl
  | x :: r, K => by show spineK r (fun r => K (x :: r)) = _; rw [spineK_eq r]
def dropK {α : Type} (n : Nat) : List α → (List α → Bool) → Bool := Nat.rec (motive := fun _ => List α → (List α → Bool) → Bool) (fun l K => K l) (fun _ ih l K => List.rec (motive := fun _ => Bool) (K []) (fun _ t _ => ih t K) l) n
theorem dropK_eq {α : Type} : ∀ (n : Nat) (l : List α) (K : List α → Bool), dropK n l K = K (l.drop n)
  | 0, l, K => rfl
  | n + 1, [], K => rfl
  | n + 1, x :: r, K => by rw [List.drop_succ_cons, ← dropK_eq n r K]; rfl

def fv (v : AV) (K : AV → Bool) : Bool :=
  match v with
  | .int k n => (match n with | .ofNat m => natV m fun m => K (.int k (.ofNat m)) | .negSucc m => natV m fun m => K (.int k (.negSucc m)))
  | .bool b => (match b with | true => K (.bool true) | false => K (.bool false))
  | .str s => spineK s fun s => K (.str s)
  | .ptr i o => natV i fun i => natV o fun o => K (.ptr i o)
  | .row i o l z => natV i fun i => natV o fun o => natV l fun l => K (.row i o l z)
  | .lst tk l cs => natV l fun l => spineK cs fun cs => K (.lst tk l cs)
  | .fptr cs => spineK cs fun cs => K (.fptr cs)
  | .agg cs => spineK cs fun cs => K (.agg cs)
  | .tup cs => spineK cs fun cs => K (.tup cs)
  | v => K v
theorem fv_eq (v : AV) (K : AV → Bool) : fv v K = K v := by
  unfold fv
  split <;> (try split) <;> simp only [natV_eq, spineK_eq]

/-- What comes to be; what was there and is handed on. -/
def DoK (x : Option AV) (K : AV → Bool) : Bool := match x with | some v => fv v K | none => false
theorem DoK_eq (x : Option AV) (K : AV → Bool) : DoK x K = DoB x K := by
  cases x with
  | none => rfl
  | some v => exact fv_eq v K
def DoR (x : Option AV) (K : AV → Bool) : Bool := match x with | some v => K v | none => false
theorem DoR_eq (x : Option AV) (K : AV → Bool) : DoR x K = DoB x K := by cases x <;> rfl

/-! The slots -/
def getK (E : EV) (t : Nat) (K : AV → Bool) : Bool := List.rec (motive := fun _ => Bool) (K .bot) (fun p _ ih => Prod.rec (motive := fun _ => Bool) (fun s v => Bool.rec (motive := fun _ => Bool) ih (K v) (Nat.beq s t)) p) E
theorem getK_eq : ∀ (E : EV) (t : Nat) (K : AV → Bool), getK E t K = K (eget E t)
  | [], t, K => rfl
  | (s, v) :: E, t, K => by
    show Bool.rec (motive := fun _ => Bool) (getK E t K) (K v) (Nat.beq s t) = K (cond (Nat.beq s t) v (eget E t))
    rw [getK_eq E t K]
    cases Nat.beq s t <;> rfl

def Opd.val (E : EV) : Opd → AV
  | .t n => eget E n
  | .k v => v
def ovals (E : EV) : Option Opd → Option AV
  | none => none
  | some x => some (x.val E)
def vals (E : EV) : List Opd → List AV
  | [] => []
  | x :: r => x.val E :: vals E r
def pvals (E : EV) : List (Nat × Nat × Opd) → List (Nat × Nat × AV)
  | [] => []
  | (a, b, x) :: r => (a, b, x.val E) :: pvals E r
theorem val_eq (E : EV) (x : Opd) : (x.sub E).ev [] = x.val E := by cases x <;> rfl
theorem vals_eq (E : EV) : ∀ xs : List Opd, evs [] (xs.map (Opd.sub E)) = vals E xs
  | [] => rfl
  | x :: r => by
    have := vals_eq E r
    simp only [evs, List.map_cons] at this ⊢
    rw [this, val_eq]; rfl
theorem pvals_eq (E : EV) : ∀ xs : List (Nat × Nat × Opd), evps [] (xs.map fun p => (p.1, p.2.1, p.2.2.sub E)) = pvals E xs
  | [] => rfl
  | (a, b, x) :: r => by
    have := pvals_eq E r
    simp only [evps, List.map_cons] at this ⊢
    rw [this, val_eq]; rfl
theorem ovals_eq (E : EV) (x : Option Opd) : (x.map (Opd.sub E)).map (Opd.ev []) = ovals E x := by
  cases x with
  | none => rfl
  | some x => exact congrArg some (val_eq E x)

def valK (x : Opd) (E : EV) (K : AV → Bool) : Bool := match x with | .t n => getK E n K | .k v => K v
theorem valK_eq (x : Opd) (E : EV) (K : AV → Bool) : valK x E K = K (x.val E) := by
  cases x with
  | t n => exact getK_eq E n K
  | k v => rfl
def valsK (E : EV) : List Opd → (List AV → Bool) → Bool
  | [], K => K []
  | x :: r, K => valK x E fun v => valsK E r fun vs => K (v :: vs)
theorem valsK_eq (E : EV) : ∀ (xs : List Opd) (K : List AV → Bool), valsK E xs K = K (vals E xs)
  | [], K => rfl
  | x :: r, K => by rw [valsK, valK_eq, valsK_eq E r]; rfl
def pvalsK (E : EV) : List (Nat × Nat × Opd) → (List (Nat × Nat × AV) → Bool) → Bool
  | [], K => K []
  | (a, b, x) :: r, K => valK x E fun v => pvalsK E r fun vs => K ((a, b, v) :: vs)
theorem pvalsK_eq (E : EV) : ∀ (xs : List (Nat × Nat × Opd)) (K : List (Nat × Nat × AV) → Bool), pvalsK E xs K = K (pvals E xs)
  | [], K => rfl
  | (a, b, x) :: r, K => by rw [pvalsK, valK_eq, pvalsK_eq E r]; rfl
def ovalK (E : EV) (x : Option Opd) (K : Option AV → Bool) : Bool := match x with | none => K none | some x => valK x E fun v => K (some v)
theorem ovalK_eq (E : EV) (x : Option Opd) (K : Option AV → Bool) : ovalK E x K = K (ovals E x) := by
  cases x with
  | none => rfl
  | some x => exact valK_eq x E _

/-! The memory -/
def setK (x : AObj) (f : Nat) : TT → Nat → (TT → Bool) → Bool :=
  Nat.rec (motive := fun _ => TT → Nat → (TT → Bool) → Bool) (fun t _ K => K t)
    (fun _ ih t i K => TT.casesOn (motive := fun _ => Bool) t
      (cond (Nat.beq i 0) (K (.node x .leaf .leaf)) (cond (Nat.beq (Nat.mod i 2) 1) (ih .leaf (Nat.div i 2) fun l => K (.node .gone l .leaf)) (ih .leaf (Nat.sub (Nat.div i 2) 1) fun r => K (.node .gone .leaf r))))
      (fun a l r => cond (Nat.beq i 0) (K (.node x l r)) (cond (Nat.beq (Nat.mod i 2) 1) (ih l (Nat.div i 2) fun l => K (.node a l r)) (ih r (Nat.sub (Nat.div i 2) 1) fun r => K (.node a l r))))) f
theorem setK_eq (x : AObj) : ∀ (f : Nat) (t : TT) (i : Nat) (K : TT → Bool), setK x f t i K = K (TT.setF x f t i) := by
  intro f
  induction f with
  | zero => intro t i K; cases t <;> rfl
  | succ f ih =>
    intro t i K
    cases t with
    | leaf =>
      show cond (Nat.beq i 0) (K (.node x .leaf .leaf)) (cond (Nat.beq (i % 2) 1) (setK x f .leaf (i / 2) fun l => K (.node .gone l .leaf)) (setK x f .leaf (i / 2 - 1) fun r => K (.node .gone .leaf r))) = _
      rw [ih, ih, TT.setF]
      cases Nat.beq i 0 <;> cases Nat.beq (i % 2) 1 <;> rfl
    | node a l r =>
      show cond (Nat.beq i 0) (K (.node x l r)) (cond (Nat.beq (i % 2) 1) (setK x f l (i / 2) fun l => K (.node a l r)) (setK x f r (i / 2 - 1) fun r => K (.node a l r))) = _
      rw [ih, ih, TT.setF]
      cases Nat.beq i 0 <;> cases Nat.beq (i % 2) 1 <;> rfl
def THset (T : TH) (i : Nat) (x : AObj) (K : TH → Bool) : Bool := match T with | ⟨n, t⟩ => setK x (Nat.succ i) t i fun t => K ⟨n, t⟩
theorem THset_eq (T : TH) (i : Nat) (x : AObj) (K : TH → Bool) : THset T i x K = K (T.set i x) := by
  obtain ⟨n, t⟩ := T
  exact setK_eq x (i + 1) t i fun t => K ⟨n, t⟩
def THpush (T : TH) (x : AObj) (K : TH → Bool) : Bool := match T with | ⟨n, t⟩ => setK x (Nat.succ n) t n fun t => natV (Nat.succ n) fun m => K ⟨m, t⟩
theorem THpush_eq (T : TH) (x : AObj) (K : TH → Bool) : THpush T x K = K (T.push x) := by
  obtain ⟨n, t⟩ := T
  simp only [THpush, setK_eq, natV_eq]
  rfl
def objK (x : AObj) (K : AObj → Bool) : Bool :=
  match x with
  | .row cs => spineK cs fun cs => K (.row cs)
  | .map es => spineK es fun es => K (.map es)
  | .tok a b => natV a fun a => K (.tok a b)
  | .siter s p => natV p fun p => K (.siter s p)
  | .gone => K .gone
theorem objK_eq (x : AObj) (K : AObj → Bool) : objK x K = K x := by cases x <;> simp only [objK, spineK_eq, natV_eq]

/-- Some cells written: those ahead of them are laid anew, those behind are shared. -/
def putK (n : Nat) : AV → List AV → (List AV → Bool) → Bool :=
  Nat.rec (motive := fun _ => AV → List AV → (List AV → Bool) → Bool) (fun v l K => List.rec (motive := fun _ => Bool) (K []) (fun _ t _ => K (v :: t)) l) (fun _ ih v l K => List.rec (motive := fun _ => Bool) (K []) (fun x t _ => ih v t fun r => K (x :: r)) l) n
theorem putK_eq : ∀ (n : Nat) (v : AV) (l : List AV) (K : List AV → Bool), putK n v l K = K (l.set n v)
  | 0, v, [], K => rfl
  | 0, v, x :: t, K => rfl
  | n + 1, v, [], K => rfl
  | n + 1, v, x :: t, K => by
    show putK n v t (fun r => K (x :: r)) = _
    rw [putK_eq n v t]; rfl
def cellsK (o : Nat) : List AV → List AV → (List AV → Bool) → Bool
  | [], cs, K => K cs
  | v :: r, cs, K => putK o v cs fun cs => cellsK (Nat.succ o) r cs K
theorem cellsK_eq : ∀ (o : Nat) (l cs : List AV) (K : List AV → Bool), cellsK o l cs K = K (setCells cs o l)
  | _, [], cs, K => rfl
  | o, v :: r, cs, K => by rw [cellsK, putK_eq, cellsK_eq (Nat.succ o) r]; rfl

/-- What an operation does to the memory. -/
inductive Eff where
  | wr (v : AV) (i : Nat) (cs : List AV) (o : Nat) (news : List AV)
  | keep (v : AV)
  | set (v : AV) (i : Nat) (x : AObj)
  | push (v : AV) (x : AObj)
  | gp (v : AV) (i : Nat) (x : AObj)
def Eff.app (T : TH) : Eff → AV × TH
  | .wr v i cs o news => (v, T.set i (.row (setCells cs o news)))
  | .keep v => (v, T)
  | .set v i x => (v, T.set i x)
  | .push v x => (v, T.push x)
  | .gp v i x => (v, (T.set i .gone).push x)
def DoE (T : TH) (r : Option Eff) (K : PostB) : Bool :=
  match r with
  | none => false
  | some e => (match e with
    | .wr v i cs o news => fv v fun v => spineK news fun news => cellsK o news cs fun cs => THset T i (.row cs) (K v)
    | .keep v => fv v fun v => K v T
    | .set v i x => fv v fun v => objK x fun x => THset T i x (K v)
    | .push v x => fv v fun v => objK x fun x => THpush T x (K v)
    | .gp v i x => fv v fun v => objK x fun x => THset T i .gone fun T => THpush T x (K v))
theorem DoE_eq (T : TH) (r : Option Eff) (K : PostB) : DoE T r K = DoHB (r.map (Eff.app T)) K := by
  cases r with
  | none => rfl
  | some e => cases e <;> simp only [DoE, fv_eq, objK_eq, THset_eq, THpush_eq, spineK_eq, cellsK_eq, Option.map_some, Eff.app, DoHB]

def storeE (T : TH) (n : Nat) (x v : AV) : Option Eff :=
  match x with
  | .ptr id o =>
    match T.t.get id with
    | .row cs => cond (and v.known (and (Nat.beq v.cells.length n) (and (v.cells.all AV.scalar) (leF (Nat.add o n) cs)))) (some (.wr (.tup []) id cs o v.cells)) none
    | _ => none
  | _ => none
theorem storeE_eq (T : TH) (n : Nat) (x v : AV) : (storeE T n x v).map (Eff.app T) = (tstore T n x v).map fun T => (.tup [], T) := by
  cases x with
  | ptr id o =>
    simp only [storeE, tstore]
    cases hc : T.t.get id with
    | row cs =>
      dsimp only
      rw [leF_eq, nb]
      by_cases h : v.known = true ∧ v.cells.length = n ∧ v.cells.all AV.scalar = true ∧ o + n ≤ cs.length
      · rw [if_pos h]
        have : (v.known && (decide (v.cells.length = n) && (v.cells.all AV.scalar && decide (Nat.add o n ≤ cs.length)))) = true := by
          simp only [h.1, h.2.1, h.2.2.1, decide_true, Bool.true_and, decide_eq_true_eq]; exact h.2.2.2
        rw [this]; rfl
      · rw [if_neg h]
        have : (v.known && (decide (v.cells.length = n) && (v.cells.all AV.scalar && decide (Nat.add o n ≤ cs.length)))) = false := by
          rw [Bool.eq_false_iff]; intro h2
          simp only [Bool.and_eq_true, decide_eq_true_eq] at h2
          exact h h2
        rw [this]; rfl
    | _ => rfl
  | _ => rfl

def boxE (T : TH) (mu : Bool) (cells : List AV) : Eff := cond mu (.push (.ptr T.n 0) (.row cells)) (.keep (.fptr cells))
theorem boxE_eq (T : TH) (mu : Bool) (cells : List AV) : (boxE T mu cells).app T = tbox T mu cells := by cases mu <;> rfl
def boxvE (T : TH) (mu : Bool) (n : Nat) (v : AV) : Option Eff := if v.known ∧ v.cells.length = n then some (boxE T mu v.cells) else none
theorem boxvE_eq (T : TH) (mu : Bool) (n : Nat) (v : AV) : (boxvE T mu n v).map (Eff.app T) = tboxv T mu n v := by
  unfold boxvE tboxv; split
  · exact congrArg some (boxE_eq _ _ _)
  · rfl
def bsliceE (T : TH) (mu : Bool) (sz len : Nat) (zero : List AV) (parts : List (Nat × Nat × AV)) : Option Eff :=
  match fillA (List.replicate len zero).flatten parts with
  | some cells => some (cond mu (.push (.row T.n 0 len sz) (.row cells)) (.keep (.lst .full len cells)))
  | none => none
theorem bsliceE_eq (T : TH) (mu : Bool) (sz len : Nat) (zero : List AV) (parts : List (Nat × Nat × AV)) : (bsliceE T mu sz len zero parts).map (Eff.app T) = tbslice T mu sz len zero parts := by
  unfold bsliceE tbslice
  cases fillA (List.replicate len zero).flatten parts with
  | none => rfl
  | some cells => cases mu <;> rfl
def appendE (T : TH) (mu : Bool) (sz bytes : Nat) (x y : AV) : Option Eff :=
  match acells T.ah sz y with
  | none => none
  | some (m, news) =>
    if ¬ news.all AV.scalar then none else
    match x with
    | .lst tk len cells =>
      if m = 0 then some (.keep (.lst tk len cells))
      else if ¬ (cells.length = len * sz ∧ (len + m) * bytes ≤ 140737488355328 ∧ len + m ≤ 9223372036854775807) then none
      else match tk, mu with
      | .nil, true | .full, true => some (.push (.row T.n 0 (len + m) sz) (.row (cells ++ news)))
      | .nil, false | .full, false => some (.push (.lst (.own T.n) (len + m) (cells ++ news)) (.tok ((len + m) * sz) sz))
      | .own t, _ => match T.t.get t with
        | .tok k sz' => if k = len * sz ∧ sz' = sz then some (.gp (.lst (.own T.n) (len + m) (cells ++ news)) t (.tok ((len + m) * sz) sz)) else none
        | _ => none
      | .dead, _ => none
    | .row id o len sz' =>
      match T.t.get id with
      | .row cs =>
        if m = 0 then some (.keep (.row id o len sz'))
        else if ¬ (o = 0 ∧ sz' = sz ∧ (len + m) * bytes ≤ 140737488355328 ∧ len + m ≤ 9223372036854775807) then none
        else if (len + m) * sz ≤ cs.length then some (.wr (.row id 0 (len + m) sz) id cs (len * sz) news)
        else if cs.length = len * sz then some (.gp (.row T.n 0 (len + m) sz) id (.row (cs ++ news)))
        else none
      | _ => none
    | _ => none
theorem appendE_eq (T : TH) (mu : Bool) (sz bytes : Nat) (x y : AV) : (appendE T mu sz bytes x y).map (Eff.app T) = tappend T mu sz bytes x y := by
  unfold appendE tappend
  cases acells T.ah sz y with
  | none => rfl
  | some p =>
    obtain ⟨m, news⟩ := p
    dsimp only
    split
    · rfl
    · cases x <;> try rfl
      · rename_i tk len cells
        dsimp only
        split
        · rfl
        · split
          · rfl
          · cases tk <;> cases mu <;> try rfl
            all_goals
              rename_i t
              dsimp only
              generalize T.t.get t = o
              cases o <;> try rfl
              dsimp only
              split <;> rfl
      · rename_i id o len sz'
        dsimp only
        generalize T.t.get id = o
        cases o <;> try rfl
        dsimp only
        split
        · rfl
        · split
          · rfl
          · split
            · rfl
            · split <;> rfl
def makeE (T : TH) (mu : Bool) (sz bytes : Nat) (zero : List AV) (len cap : AV) : Option Eff :=
  match len, cap with
  | .int .i64 n, .int .i64 c =>
    if 0 ≤ n ∧ n ≤ c ∧ bytes * c ≤ 281474976710656 ∧ c ≤ 9223372036854775807 ∧ zero.length = sz then
      if mu then some (.push (.row T.n 0 n.toNat sz) (.row (List.replicate c.toNat zero).flatten))
      else if n = c then some (.keep (.lst .full n.toNat (List.replicate n.toNat zero).flatten)) else none
    else none
  | _, _ => none
theorem makeE_eq (T : TH) (mu : Bool) (sz bytes : Nat) (zero : List AV) (len cap : AV) : (makeE T mu sz bytes zero len cap).map (Eff.app T) = tmake T mu sz bytes zero len cap := by
  unfold makeE tmake
  cases len <;> try rfl
  rename_i k n
  cases k <;> try rfl
  cases cap <;> try rfl
  rename_i k c
  cases k <;> try rfl
  dsimp only
  split
  · split
    · rfl
    · split <;> rfl
  · rfl
def copyE (T : TH) (sz : Nat) (x y : AV) : Option Eff :=
  match x, acells T.ah sz y with
  | .row id o len _, some (m, news) =>
    match T.t.get id with
    | .row cs =>
      let n := min m len
      if news.all AV.scalar ∧ o + n * sz ≤ cs.length then some (.wr (.int .i64 n) id cs o (news.take (n * sz))) else none
    | _ => none
  | _, _ => none
theorem copyE_eq (T : TH) (sz : Nat) (x y : AV) : (copyE T sz x y).map (Eff.app T) = tcopy T sz x y := by
  unfold copyE tcopy
  cases x <;> try rfl
  rename_i id o len z
  cases acells T.ah sz y with
  | none => rfl
  | some p =>
    obtain ⟨m, news⟩ := p
    dsimp only
    generalize T.t.get id = q
    cases q <;> try rfl
    dsimp only
    split <;> rfl
def mapupE (T : TH) (kk : FK) (m k v : AV) : Option Eff :=
  match m with
  | .map id =>
    match T.t.get id with
    | .map es => if plainKey kk k ∧ v.known then (match findA kk k es 0 with
        | some (some (i, _)) => some (.set (.tup []) id (.map (es.set i (k, v))))
        | some none => some (.set (.tup []) id (.map (es ++ [(k, v)])))
        | none => none) else none
    | _ => none
  | _ => none
theorem mapupE_eq (T : TH) (kk : FK) (m k v : AV) : (mapupE T kk m k v).map (Eff.app T) = (tmapup T kk m k v).map fun T => (.tup [], T) := by
  unfold mapupE tmapup
  cases m <;> try rfl
  rename_i id
  dsimp only
  generalize T.t.get id = q
  cases q <;> try rfl
  rename_i es
  dsimp only
  split
  · cases findA kk k es 0 with
    | none => rfl
    | some r =>
      cases r with
      | none => rfl
      | some p => rfl
  · rfl
def freezeE (T : TH) (x : AV) : Option Eff :=
  match x with
  | .row id o len sz =>
    match T.t.get id with
    | .row cs => if o + len * sz ≤ cs.length then some (.set (.lst .dead len ((cs.drop o).take (len * sz))) id .gone) else none
    | _ => none
  | .ptr id o =>
    match T.t.get id with
    | .row cs => some (.set (.fptr (cs.drop o)) id .gone)
    | _ => none
  | .lst tk len cells => some (.keep (.lst tk len cells))
  | .fptr cs => some (.keep (.fptr cs))
  | _ => none
theorem freezeE_eq (T : TH) (x : AV) : (freezeE T x).map (Eff.app T) = tfreeze T x := by
  unfold freezeE tfreeze
  cases x <;> try rfl
  · rename_i id o
    dsimp only
    generalize T.t.get id = q
    cases q <;> rfl
  · rename_i id o len sz
    dsimp only
    generalize T.t.get id = q
    cases q <;> try rfl
    dsimp only
    split <;> rfl

structure OpC where
  f : CallsB → EV → TH → PostB → Bool
structure SetC where
  f : EV → AV → (EV → Bool) → Bool
structure RegC where
  f : CallsB → EV → TH → (EV → TH → Bool) → Bool
structure CodC where
  f : CallsB → EV → TH → (EV → TH → Bool) → (AExit → EV → TH → Bool) → Bool
structure PutC where
  f : EV → List AV → (EV → Bool) → Bool
structure SamC where
  f : EV → TH → Bool → Bool
structure ResC where
  f : EV → TH → (List AV → Bool) → Bool
structure FnC where
  f : CallsB → List AV → TH → PostB → Bool

def ldC (agg : Bool) (x : Option AV) (K : AV → Bool) : Bool := cond agg (DoK x K) (DoR x K)
theorem ldC_eq (agg : Bool) (x : Option AV) (K : AV → Bool) : ldC agg x K = DoB x K := by cases agg <;> simp only [ldC, cond_true, cond_false, DoK_eq, DoR_eq]

/-- Elements' places: what is frozen is handed on as it is. -/
def iaddrK (arr : Option Nat) (sz : Nat) (x i : AV) (K : AV → Bool) : Bool :=
  match x with
  | .lst _ len cells => (match i with
    | .int _ n => (match n with
      | .ofNat m => (match arr with | none => cond (Nat.blt m len) (dropK (Nat.mul m sz) cells fun r => K (.fptr r)) false | some _ => DoK (iaddrF arr sz x i) K)
      | _ => DoK (iaddrF arr sz x i) K)
    | _ => DoK (iaddrF arr sz x i) K)
  | .fptr cells => (match i with
    | .int _ n => (match n with
      | .ofNat m => (match arr with | some l => cond (Nat.blt m l) (dropK (Nat.mul m sz) cells fun r => K (.fptr r)) false | none => DoK (iaddrF arr sz x i) K)
      | _ => DoK (iaddrF arr sz x i) K)
    | _ => DoK (iaddrF arr sz x i) K)
  | _ => DoK (iaddrF arr sz x i) K
theorem iaddrK_eq (arr : Option Nat) (sz : Nat) (x i : AV) (K : AV → Bool) : iaddrK arr sz x i K = DoB (aiaddr arr sz x i) K := by
  rw [← iaddrF_eq, ← DoK_eq]
  cases x <;> try rfl
  · rename_i cells
    cases i <;> try rfl
    rename_i k n
    cases n <;> try rfl
    rename_i m
    cases arr <;> try rfl
    rename_i l
    rw [DoK_eq]
    simp only [iaddrK, iaddrF, asNat, dropK_eq, dropF_eq]
    cases Nat.blt m l <;> rfl
  · rename_i tk len cells
    cases i <;> try rfl
    rename_i k n
    cases n <;> try rfl
    rename_i m
    cases arr <;> try rfl
    rw [DoK_eq]
    simp only [iaddrK, iaddrF, asNat, dropK_eq, dropF_eq]
    cases Nat.blt m len <;> rfl
def faddrK (off : Nat) (x : AV) (K : AV → Bool) : Bool :=
  match x with
  | .ptr i o => natV (Nat.add o off) fun o => K (.ptr i o)
  | .fptr cs => dropK off cs fun r => K (.fptr r)
  | _ => DoK (afaddr off x) K
theorem faddrK_eq (off : Nat) (x : AV) (K : AV → Bool) : faddrK off x K = DoB (afaddr off x) K := by
  unfold faddrK
  split
  · rw [natV_eq]; rfl
  · rw [dropK_eq]; rfl
  · exact DoK_eq _ _

def opC : AOp → OpC
  | .mv x => ⟨fun _ E T K => valK x E fun v => K v T⟩
  | .pick c a b => ⟨fun _ E T K => valK c E fun c => GdB c true (valK a E fun v => K v T) (valK b E fun v => K v T)⟩
  | .bin op x y => ⟨fun _ E T K => valK x E fun x => valK y E fun y => DoK ((binC op).f x y) fun v => K v T⟩
  | .beq neg x y => ⟨fun _ E T K => valK x E fun x => valK y E fun y => DoK (abeq neg x y) fun v => K v T⟩
  | .isnil k neg x => ⟨fun _ E T K => valK x E fun x => DoK (anil k neg x) fun v => K v T⟩
  | .eqagg neg ks x y => ⟨fun _ E T K => valK x E fun x => valK y E fun y => DoK (aeqAgg neg ks x y) fun v => K v T⟩
  | .un op x => ⟨fun _ E T K => valK x E fun x => DoK (aun op x) fun v => K v T⟩
  | .conv k x => ⟨fun _ E T K => valK x E fun x => DoK (convF k x) fun v => K v T⟩
  | .same x => ⟨fun _ E T K => valK x E fun x => DoR (asame x) fun v => K v T⟩
  | .nilck x => ⟨fun _ E T K => valK x E fun x => DoR (anilck x) fun v => K v T⟩
  | .field off sz agg x => ⟨fun _ E T K => valK x E fun x => ldC agg (fieldF off sz agg x) fun v => K v T⟩
  | .idx len sz agg x i => ⟨fun _ E T K => valK x E fun x => valK i E fun i => ldC agg (idxF len sz agg x i) fun v => K v T⟩
  | .idxs x i => ⟨fun _ E T K => valK x E fun x => valK i E fun i => DoK (idxsF x i) fun v => K v T⟩
  | .faddr off x => ⟨fun _ E T K => valK x E fun x => faddrK off x fun v => K v T⟩
  | .iaddr arr sz x i => ⟨fun _ E T K => valK x E fun x => valK i E fun i => iaddrK arr sz x i fun v => K v T⟩
  | .slice sz x lo hi mx => ⟨fun _ E T K => valK x E fun x => ovalK E lo fun lo => ovalK E hi fun hi => ovalK E mx fun mx => DoK (aslice sz x lo hi mx) fun v => K v T⟩
  | .sslice x lo hi => ⟨fun _ E T K => valK x E fun x => ovalK E lo fun lo => ovalK E hi fun hi => DoK (asslice x lo hi) fun v => K v T⟩
  | .mkif t x => ⟨fun _ E T K => valK x E fun v => K (.iface t v) T⟩
  | .mkfn key caps => ⟨fun _ E T K => valsK E caps fun vs => K (.fn key vs) T⟩
  | .extract i x => ⟨fun _ E T K => valK x E fun x => DoR (aextract i x) fun v => K v T⟩
  | .build zero parts => ⟨fun _ E T K => pvalsK E parts fun ps => DoK (abuild zero ps) fun v => K v T⟩
  | .len str x => ⟨fun _ E T K => valK x E fun x => DoK (alen str x) fun v => K v T⟩
  | .lenk n => ⟨fun _ E T K => K (.int .i64 n) T⟩
  | .cap x => ⟨fun _ E T K => valK x E fun x => DoK (acap x) fun v => K v T⟩
  | .minmax mx xs => ⟨fun _ E T K => valsK E xs fun vs => DoK (aminmax mx vs) fun v => K v T⟩
  | .load n agg x => ⟨fun _ E T K => valK x E fun x => ldC agg (loadF T n agg x) fun v => K v T⟩
  | .store n x v => ⟨fun _ E T K => valK x E fun x => valK v E fun v => DoE T (storeE T n x v) K⟩
  | .box mu n x => ⟨fun _ E T K => valK x E fun x => DoE T (boxvE T mu n x) K⟩
  | .alloc mu zero => ⟨fun _ E T K => DoE T (some (boxE T mu zero)) K⟩
  | .bslice mu sz len zero parts => ⟨fun _ E T K => pvalsK E parts fun ps => DoE T (bsliceE T mu sz len zero ps) K⟩
  | .append mu sz bytes x y => ⟨fun _ E T K => valK x E fun x => valK y E fun y => DoE T (appendE T mu sz bytes x y) K⟩
  | .make mu sz bytes zero len cap => ⟨fun _ E T K => valK len E fun l => valK cap E fun c => DoE T (makeE T mu sz bytes zero l c) K⟩
  | .copy sz x y => ⟨fun _ E T K => valK x E fun x => valK y E fun y => DoE T (copyE T sz x y) K⟩
  | .mkmap => ⟨fun _ E T K => DoE T (some (.push (.map T.n) (.map []))) K⟩
  | .lookup kk zero ok m k => ⟨fun _ E T K => valK m E fun m => valK k E fun k => DoK (alookup T.ah kk zero ok m k) fun v => K v T⟩
  | .mapup kk m k v => ⟨fun _ E T K => valK m E fun m => valK k E fun k => valK v E fun v => DoE T (mapupE T kk m k v) K⟩
  | .delete kk m k => ⟨fun _ E T K => DoB (tdelete T kk (m.val E) (k.val E)) fun T => K (.tup []) T⟩
  | .maplen m => ⟨fun _ E T K => valK m E fun m => DoK (amaplen T.ah m) fun v => K v T⟩
  | .sbytes x => ⟨fun _ E T K => valK x E fun x => DoK (asbytes x) fun v => K v T⟩
  | .bstr x => ⟨fun _ E T K => valK x E fun x => DoK (abstr T.ah x) fun v => K v T⟩
  | .srange x => ⟨fun _ E T K => DoHB (tsrange T (x.val E)) K⟩
  | .snext x => ⟨fun _ E T K => DoHB (tsnext T (x.val E)) K⟩
  | .call key args => ⟨fun B E T K => valsK E args fun vs => B key vs T K⟩
  | .callv f args => ⟨fun B E T K => valK f E fun f => valsK E args fun vs => clB B f vs T K⟩
  | .ext e xs => ⟨fun _ E T K => valsK E xs fun vs => DoHB (text T e vs) K⟩
  | .inv tbl x args => ⟨fun B E T K => valK x E fun x => valsK E args fun vs => invB B tbl x vs T K⟩

theorem mapB (x : Option TH) (K : PostB) : DoHB (x.map fun T => (.tup [], T)) K = DoB x fun T => K (.tup []) T := by cases x <;> rfl
theorem opC_eq (B : CallsB) (E : EV) (T : TH) (K : PostB) (op : AOp) : (opC op).f B E T K = opB B [] T K (op.sub E) := by
  cases op <;> simp only [opC, AOp.sub, opB, val_eq, vals_eq, pvals_eq, ovals_eq, valK_eq, valsK_eq, pvalsK_eq, ovalK_eq, DoK_eq, DoR_eq, ldC_eq, iaddrK_eq, faddrK_eq, binC_eq, convF_eq, fieldF_eq, idxF_eq, idxsF_eq, loadF_eq, DoE_eq, storeE_eq, boxvE_eq, bsliceE_eq, appendE_eq, makeE_eq, copyE_eq, mapupE_eq, mapB, Option.map_some, boxE_eq] <;> rfl

def setC (n : Nat) : Option Nat → SetC
  | none => ⟨fun E _ K => K E⟩
  | some d => cond (Nat.blt d n) ⟨fun E v K => K ((d, v) :: E)⟩ ⟨fun E _ K => K E⟩
theorem setC_eq (n : Nat) (d : Option Nat) (E : EV) (v : AV) (K : EV → Bool) : (setC n d).f E v K = K (esetd n E d v) := by
  cases d with
  | none => rfl
  | some d =>
    simp only [setC, esetd, eset]
    cases Nat.blt d n <;> rfl

def oneC (n : Nat) (o : AOper) : RegC :=
  match o.guard with
  | none => ⟨fun B E T K => (opC o.op).f B E T fun v T' => (setC n o.dst).f E v fun E => K E T'⟩
  | some (s, want) => ⟨fun B E T K => getK E s fun g =>
      Gd3B g want ((setC n (some s)).f E (.bool want) fun E => (opC o.op).f B E T fun v T' => (setC n o.dst).f E v fun E => K E T')
        ((setC n (some s)).f E (.bool !want) fun E => (setC n o.dst).f E (.tup []) fun E => K E T) ((setC n (some s)).f E (.tup []) fun E => (setC n o.dst).f E (.tup []) fun E => K E T)⟩
theorem oneC_eq (n : Nat) (o : AOper) (B : CallsB) (E : EV) (T : TH) (K : EV → TH → Bool) : (oneC n o).f B E T K = oneB B n o E T K := by
  unfold oneC oneB
  cases hg : o.guard with
  | none => simp only [opC_eq, setC_eq]
  | some g => simp only [opC_eq, setC_eq, esetd, getK_eq]

def regC (n : Nat) : List AOper → RegC
  | [] => ⟨fun _ E T K => K E T⟩
  | o :: r => ⟨fun B E T K => (oneC n o).f B E T fun E' T' => (regC n r).f B E' T' K⟩
theorem regC_eq (n : Nat) : ∀ (l : List AOper) (B : CallsB) (E : EV) (T : TH) (K : EV → TH → Bool), (regC n l).f B E T K = regB B n l E T K := by
  intro l
  induction l with
  | nil => intro B E T K; rfl
  | cons o r ih =>
    intro B E T K
    simp only [regC, oneC_eq, regB, oneB, ih]

def segC (n : Nat) (ops : List AOper) : List Nat → RegC
  | [] => ⟨fun _ E T K => K E T⟩
  | i :: r => match ops[i]? with
    | some o => ⟨fun B E T K => (oneC n o).f B E T fun E' T' => (segC n ops r).f B E' T' K⟩
    | none => ⟨fun _ _ _ _ => false⟩
theorem segC_eq (n : Nat) (ops : List AOper) : ∀ (l : List Nat) (B : CallsB) (E : EV) (T : TH) (K : EV → TH → Bool), (segC n ops l).f B E T K = segB B n ops l E T K := by
  intro l
  induction l with
  | nil => intro B E T K; rfl
  | cons i r ih =>
    intro B E T K
    simp only [segC, segB]
    cases ops[i]? with
    | none => rfl
    | some o => simp only [oneC_eq, ih]

def readC (o : AOper) : SamC :=
  match o.op with
  | .load n agg x => ⟨fun E T X => valK x E fun x => getK E (o.dst.getD 0) fun d => and (sameV (loadF T n agg x) d) X⟩
  | .lookup kk zero ok m k => ⟨fun E T X => and (sameV (alookup T.ah kk zero ok (m.val E) (k.val E)) (eget E (o.dst.getD 0))) X⟩
  | .maplen m => ⟨fun E T X => and (sameV (amaplen T.ah (m.val E)) (eget E (o.dst.getD 0))) X⟩
  | .bstr x => ⟨fun E T X => and (sameV (abstr T.ah (x.val E)) (eget E (o.dst.getD 0))) X⟩
  | _ => ⟨fun _ _ X => X⟩
theorem readC_eq (o : AOper) (E : EV) (T : TH) (X : Bool) : (readC o).f E T X = (readB T E o && X) := by
  unfold readC readB
  cases o.op <;> simp only [val_eq, Bool.true_and, valK_eq, getK_eq, loadF_eq] <;> rfl
def samC (ops : List AOper) : List Nat → SamC
  | [] => ⟨fun _ _ X => X⟩
  | l :: r => match ops[l]? with
    | some o => (match o.guard with
      | none => ⟨fun E T X => (readC o).f E T ((samC ops r).f E T X)⟩
      | some (s, want) => ⟨fun E T X => and (getK E s fun g => sameW g want ((readC o).f E T true)) ((samC ops r).f E T X)⟩)
    | none => ⟨fun E T X => (samC ops r).f E T X⟩
theorem samC_eq (ops : List AOper) : ∀ (l : List Nat) (E : EV) (T : TH) (X : Bool), (samC ops l).f E T X = samesT ops E T X l := by
  intro l
  induction l with
  | nil => intro E T X; rfl
  | cons i r ih =>
    intro E T X
    simp only [samC, samesT]
    cases ops[i]? with
    | none => simp only [ih, Bool.true_and]
    | some o =>
      simp only [sameGB]
      cases o.guard with
      | none => simp only [ih, readC_eq]
      | some g => simp only [ih, readC_eq, Bool.and_true, getK_eq]

def drawC (n : Nat) (ops : List AOper) (last : List Nat) : List (List Nat × Nat × List Nat) → RegC
  | [] => segC n ops last
  | (seg, e, st) :: r => match ops[e]? with
    | some o => ⟨fun B E T K => (segC n ops seg).f B E T fun E1 T1 => (oneC n o).f B E1 T1 fun E2 T2 => (samC ops st).f E1 T2 ((drawC n ops last r).f B E2 T2 K)⟩
    | none => ⟨fun B E T K => (segC n ops seg).f B E T fun _ _ => false⟩
theorem drawC_eq (n : Nat) (ops : List AOper) (last : List Nat) : ∀ (l : List (List Nat × Nat × List Nat)) (B : CallsB) (E : EV) (T : TH) (K : EV → TH → Bool), (drawC n ops last l).f B E T K = drawB B n ops last l E T K := by
  intro l
  induction l with
  | nil => intro B E T K; exact segC_eq _ _ _ _ _ _ _
  | cons p r ih =>
    obtain ⟨seg, e, st⟩ := p
    intro B E T K
    simp only [drawC, drawB]
    cases ops[e]? with
    | none => simp only [segC_eq]
    | some o => simp only [segC_eq, oneC_eq, samC_eq, ih]

def putC (n : Nat) : List Nat → PutC
  | [] => ⟨fun E _ K => K E⟩
  | t :: r => cond (Nat.blt t n) ⟨fun E s K => List.rec (motive := fun _ => Bool) ((putC n r).f ((t, .bot) :: E) [] K) (fun v q _ => (putC n r).f ((t, v) :: E) q K) s⟩ ⟨fun E s K => (putC n r).f E s.tail K⟩
theorem putC_eq (n : Nat) : ∀ (l : List Nat) (E : EV) (s : List AV) (K : EV → Bool), (putC n l).f E s K = K (eputs n E l s) := by
  intro l
  induction l with
  | nil => intro E s K; cases s <;> rfl
  | cons t r ih =>
    intro E s K
    simp only [putC, eputs, eset]
    cases Nat.blt t n with
    | true => cases s <;> simp only [cond_true, ih, List.headD_nil, List.headD_cons, List.tail_nil, List.tail_cons]
    | false => simp only [cond_false, ih]
def getsK (E : EV) : List Nat → (List AV → Bool) → Bool
  | [], K => K []
  | t :: r, K => getK E t fun v => getsK E r fun vs => K (v :: vs)
theorem getsK_eq (E : EV) : ∀ (l : List Nat) (K : List AV → Bool), getsK E l K = K (egets E l)
  | [], K => rfl
  | t :: r, K => by rw [getsK, getK_eq, getsK_eq E r]; rfl
/-- The slots that are not forgotten. -/
def keepE (ks : List Nat) : EV → EV
  | [] => []
  | (t, v) :: E => cond (memN t ks) (keepE ks E) ((t, v) :: keepE ks E)
def keepK (ks : List Nat) (E : EV) : (EV → Bool) → Bool := List.rec (motive := fun _ => (EV → Bool) → Bool) (fun K => K []) (fun p _ ih K => Prod.rec (motive := fun _ => Bool) (fun t v => cond (memN t ks) (ih K) (ih fun E => K ((t, v) :: E))) p) E
theorem keepK_eq (ks : List Nat) : ∀ (E : EV) (K : EV → Bool), keepK ks E K = K (keepE ks E)
  | [], K => rfl
  | (t, v) :: E, K => by
    show cond (memN t ks) (keepK ks E K) (keepK ks E fun E => K ((t, v) :: E)) = _
    rw [keepK_eq ks E, keepK_eq ks E, keepE]
    cases memN t ks <;> rfl
theorem memN_iff : ∀ (t : Nat) (l : List Nat), memN t l = decide (t ∈ l)
  | t, [] => rfl
  | t, s :: r => by
    rw [memN, nb, memN_iff t r]
    by_cases h : t = s
    · simp [h]
    · simp [h]
theorem keepE_get (ks : List Nat) : ∀ (E : EV) (i : Nat), eget (keepE ks E) i = if i ∈ ks then .bot else eget E i
  | [], i => by simp [keepE, eget]
  | (t, v) :: E, i => by
    rw [keepE, memN_iff, eget_cons]
    by_cases h : t ∈ ks
    · simp only [h, decide_true, cond_true, keepE_get ks E i]
      by_cases hi : i ∈ ks
      · rw [if_pos hi, if_pos hi]
      · rw [if_neg hi, if_neg hi, if_neg (show ¬ t = i from fun e => hi (e ▸ h))]
    · simp only [h, decide_false, cond_false, eget_cons, keepE_get ks E i]
      by_cases e : t = i
      · subst e; rw [if_pos rfl, if_neg h, if_pos rfl]
      · rw [if_neg e, if_neg e]
theorem killsI_get : ∀ (ks : List Nat) (env : Env) (i : Nat), (Rb.kills env ks).getD i .bot = if i ∈ ks then .bot else env.getD i .bot
  | [], env, i => by simp [Rb.kills]
  | t :: r, env, i => by
    rw [Rb.kills, killsI_get r]
    by_cases hr : i ∈ r
    · rw [if_pos hr, if_pos (List.mem_cons_of_mem _ hr)]
    · rw [if_neg hr]
      by_cases e : t = i
      · subst e
        rw [if_pos List.mem_cons_self, List.getD_eq_getElem?_getD, List.getElem?_set]
        simp only [if_true]
        split <;> rfl
      · rw [if_neg (by simp only [List.mem_cons, not_or]; exact ⟨fun h => e h.symm, hr⟩), List.getD_eq_getElem?_getD, List.getElem?_set_ne e, ← List.getD_eq_getElem?_getD]
theorem killsI_length : ∀ (ks : List Nat) (env : Env), (Rb.kills env ks).length = env.length
  | [], env => rfl
  | t :: r, env => by rw [Rb.kills, killsI_length r]; simp
theorem Agree.keep {n : Nat} {E : EV} {env : Env} (h : Agree n E env) (ks : List Nat) : Agree n (keepE ks E) (Rb.kills env ks) :=
  ⟨by rw [killsI_length]; exact h.1, fun i => by rw [keepE_get, killsI_get, h.2 i]⟩

def blockX (id : Nat) (N : EV → TH → Bool) (X : AExit → EV → TH → Bool) : AExit → EV → TH → Bool
  | .exit id', E, T => cond (Nat.beq id' id) (N E T) (X (.exit id') E T)
  | e, E, T => X e E T

def LoopC (F : List AV → TH → (List AV → TH → Bool) → Bool) (n : Nat) : List AV → TH → Bool := Nat.rec (motive := fun _ => List AV → TH → Bool) (fun _ _ => false) (fun _ ih s T => F s T ih) n

def codeC (fuel n : Nat) : ACode → CodC
  | .skip => ⟨fun _ E T N _ => N E T⟩
  | .region ops => ⟨fun B E T N _ => (regC n ops).f B E T N⟩
  | .draw ops _ plan last => ⟨fun B E T N _ => (drawC n ops last plan).f B E T N⟩
  | .seq a b => ⟨fun B E T N X => (codeC fuel n a).f B E T (fun E T => (codeC fuel n b).f B E T N X) X⟩
  | .cond x a b => ⟨fun B E T N X => valK x E fun x => GdB x true ((codeC fuel n a).f B E T N X) ((codeC fuel n b).f B E T N X)⟩
  | .block id a => ⟨fun B E T N X => (codeC fuel n a).f B E T N (blockX id N X)⟩
  | .loop vs ks a => ⟨fun B E T N X => keepK ks E fun E0 => getsK E vs fun s => LoopC (fun s T K => (putC n vs).f E0 s fun E => (codeC fuel n a).f B E T (fun E' T' => getsK E' vs fun s => K s T') X) fuel s T⟩
  | .exit id => ⟨fun _ E T _ X => X (.exit id) E T⟩
  | .ret => ⟨fun _ E T _ X => X .ret E T⟩
  | .freeze t a => ⟨fun B E T N X => getK E t fun v => DoE T (freezeE T v) fun v T' => (setC n (some t)).f E v fun E => (codeC fuel n a).f B E T' N X⟩
  | .join vs ks a b => ⟨fun _ _ _ _ _ => false⟩
  | .rjoin vs ks ops b => ⟨fun _ _ _ _ _ => false⟩

theorem codeC_sound {Φ : Calls'} {B : CallsB} (hB : SoundB Φ B) (hΦ : Mono Φ) (fuel n : Nat) : ∀ (c : ACode) {E : EV} {env : Env} {T : TH} {N : EV → TH → Bool} {X : AExit → EV → TH → Bool} {Q : AExit → Env → AH → Prop}, Agree n E env → (codeC fuel n c).f B E T N X = true →
    (∀ E' env' T', Agree n E' env' → N E' T' = true → Q .normal env' T'.ah) → (∀ x E' env' T', x ≠ .normal → Agree n E' env' → X x E' T' = true → Q x env' T'.ah) → codeSem Φ c env T.ah Q := by
  have reg : ∀ (l : List AOper) {E : EV} {env : Env} {T : TH} {N : EV → TH → Bool} {Q : Env → AH → Prop}, Agree n E env → (regC n l).f B E T N = true → (∀ E' env' T', Agree n E' env' → N E' T' = true → Q env' T'.ah) → regSem Φ l env T.ah Q := by
    intro l E env T N Q ha h hN
    rw [regC_eq] at h
    refine regE_sound hΦ ha (regB_sound (Q := fun E' H' => ∃ T', H' = T'.ah ∧ N E' T' = true) hB h fun e T' h => ⟨T', rfl, h⟩) fun E' env' H' ha' h' => ?_
    obtain ⟨T', rfl, h'⟩ := h'
    exact hN _ _ _ ha' h'
  intro c
  induction c with
  | skip => intro E env T N X Q ha h hN hX; exact hN _ _ _ ha h
  | region ops => intro E env T N X Q ha h hN hX; exact reg ops ha h hN
  | draw ops pr plan last =>
    intro E env T N X Q ha h hN hX
    simp only [codeC, drawC_eq] at h
    refine drawE_sound hΦ ha (drawB_sound (Q := fun E' H' => ∃ T', H' = T'.ah ∧ N E' T' = true) hB h fun e T' h => ⟨T', rfl, h⟩) fun E' env' H' ha' h' => ?_
    obtain ⟨T', rfl, h'⟩ := h'
    exact hN _ _ _ ha' h'
  | seq a b iha ihb =>
    intro E env T N X Q ha h hN hX
    simp only [codeC] at h
    simp only [codeSem]
    refine iha ha h (fun E' env' T' ha' h' => ihb ha' h' hN hX) fun x E' env' T' hx ha' h' => ?_
    cases x with
    | normal => exact absurd rfl hx
    | exit i => exact hX _ _ _ _ hx ha' h'
    | ret => exact hX _ _ _ _ hx ha' h'
  | join vs ks a b iha ihb => intro E env T N X Q ha h hN hX; cases h
  | cond x a b iha ihb =>
    intro E env T N X Q ha h hN hX
    simp only [codeC, valK_eq] at h
    rw [← val_eq, sub_ev ha] at h
    exact GdB_sound h (fun h => iha ha h hN hX) fun h => ihb ha h hN hX
  | block id a ih =>
    intro E env T N X Q ha h hN hX
    simp only [codeC] at h
    simp only [codeSem]
    refine ih ha h hN fun x E' env' T' hx ha' h' => ?_
    cases x with
    | normal => exact absurd rfl hx
    | exit i =>
      simp only [blockX, nb] at h'
      dsimp only
      by_cases hi : i = id
      · rw [if_pos hi]; simp only [hi, decide_true, cond_true] at h'; exact hN _ _ _ ha' h'
      · rw [if_neg hi]; simp only [hi, decide_false, cond_false] at h'; exact hX _ _ _ _ hx ha' h'
    | ret => exact hX _ _ _ _ hx ha' h'
  | loop vs ks a ih =>
    intro E env T N X Q ha h hN hX
    simp only [codeC, keepK_eq, getsK_eq, putC_eq] at h
    simp only [codeSem]
    have main : ∀ (m : Nat) (s : List AV) (T : TH), LoopC (fun s T K => (codeC fuel n a).f B (eputs n (keepE ks E) vs s) T (fun E' T' => K (egets E' vs) T') X) m s T = true →
        LoopP (fun (s : List AV × AH) (K : List AV × AH → Prop) =>
          codeSem Φ a (puts (kills env ks) vs s.1) s.2 fun e env' H' => match e with
            | .normal => K (gets env' vs, H')
            | e => Q e env' H') (s, T.ah) := by
      intro m
      induction m with
      | zero => intro s T h; cases h
      | succ m ihm =>
        intro s T h
        refine LoopP.step ?_
        refine ih ((ha.keep ks).puts vs s) h (fun E' env' T' ha' h' => ?_) fun x E' env' T' hx ha' h' => ?_
        · dsimp only
          rw [← ha'.gets vs]
          exact ihm _ _ h'
        · cases x with
          | normal => exact absurd rfl hx
          | exit i => exact hX _ _ _ _ hx ha' h'
          | ret => exact hX _ _ _ _ hx ha' h'
    rw [← ha.gets vs]
    exact main fuel _ _ h
  | exit id => intro E env T N X Q ha h hN hX; exact hX _ _ _ _ (by intro h; cases h) ha h
  | ret => intro E env T N X Q ha h hN hX; exact hX _ _ _ _ (by intro h; cases h) ha h
  | freeze t a ih =>
    intro E env T N X Q ha h hN hX
    simp only [codeC, getK_eq, DoE_eq, freezeE_eq, setC_eq, esetd] at h
    simp only [codeSem]
    rw [ha.2 t] at h
    exact DoHB_sound (tfreeze_ah _ _) h fun v T' h' => ih (ha.set t v) h' hN hX
  | rjoin vs ks ops b ih => intro E env T N X Q ha h hN hX; cases h

def resC : List ARes → ResC
  | [] => ⟨fun _ _ K => K []⟩
  | .tmp t :: r => ⟨fun E T K => getK E t fun v => (resC r).f E T fun vs => K (v :: vs)⟩
  | .cell t n agg :: r => ⟨fun E T K => getK E t fun x => ldC agg (loadF T n agg x) fun v => (resC r).f E T fun vs => K (v :: vs)⟩
theorem resC_eq : ∀ (rs : List ARes) (E : EV) (T : TH) (K : List AV → Bool), (resC rs).f E T K = resB E T rs K := by
  intro rs
  induction rs with
  | nil => intros; rfl
  | cons r rs ih => intro E T K; cases r <;> simp only [resC, resB, ih, getK_eq, ldC_eq, loadF_eq]

/-- One result, or more. -/
def oneK (vs : List AV) (Q : PostB) (T : TH) : Bool :=
  match vs with
  | [v] => Q v T
  | vs => Q (.tup vs) T
theorem oneK_eq (vs : List AV) (Q : PostB) (T : TH) : oneK vs Q T = Q (oneRes vs) T := by
  cases vs with
  | nil => rfl
  | cons v r => cases r <;> rfl

def retX (rs : List ARes) (Q : PostB) : AExit → EV → TH → Bool
  | .exit _, _, _ => false
  | _, E, T => (resC rs).f E T fun vs => oneK vs Q T

def initK : List AV → Nat → (EV → Bool) → Bool
  | [], _, K => K []
  | a :: r, i, K => initK r (Nat.succ i) fun E => K ((i, a) :: E)
theorem initK_eq : ∀ (l : List AV) (i : Nat) (K : EV → Bool), initK l i K = K (einit l i)
  | [], _, _ => rfl
  | a :: r, i, K => by rw [initK, initK_eq r]; rfl

def fnC (fuel : Nat) (f : AFunc) : FnC :=
  ⟨fun B args T Q => and (Nat.ble args.length f.ntmps) (initK args 0 fun E => (codeC fuel f.ntmps f.body).f B E T (fun E T => (resC f.results).f E T fun vs => oneK vs Q T) (retX f.results Q))⟩
theorem fnC_sound {Φ : Calls'} {B : CallsB} (hB : SoundB Φ B) (hΦ : Mono Φ) {fuel : Nat} {f : AFunc} {args : List AV} {T : TH} {K : PostB} (h : (fnC fuel f).f B args T K = true) {Q : Post} (hK : ∀ v T', K v T' = true → Q v T'.ah) : fnSem Φ f args T.ah Q := by
  simp only [fnC, Bool.and_eq_true, initK_eq] at h
  have hle := Nat.le_of_ble_eq_true h.1
  have ha : Agree f.ntmps (einit args 0) (args ++ List.replicate (f.ntmps - args.length) .bot) := by
    refine ⟨by simp; omega, fun i => ?_⟩
    rw [einit_get]
    simp only [Nat.not_lt_zero, if_false, Nat.sub_zero]
    simp only [List.getD_eq_getElem?_getD]
    by_cases hi : i < args.length
    · rw [List.getElem?_append_left hi]
    · rw [List.getElem?_append_right (by omega), List.getElem?_eq_none (by omega), List.getElem?_replicate]
      split <;> rfl
  have fin : ∀ (E' : EV) (env' : Env) (T' : TH), Agree f.ntmps E' env' → (resC f.results).f E' T' (fun vs => oneK vs K T') = true → resSem env' T'.ah f.results fun vs => Q (oneRes vs) T'.ah := by
    intro E' env' T' ha' h'
    rw [resC_eq] at h'
    rw [← resE_eq ha']
    exact resB_sound h' fun vs h => hK _ _ (by rwa [oneK_eq] at h)
  refine codeC_sound hB hΦ fuel _ f.body ha h.2 (fun E' env' T' ha' h' => fin E' env' T' ha' h') fun x E' env' T' hx ha' h' => ?_
  cases x with
  | normal => exact absurd rfl hx
  | exit i => cases h'
  | ret => exact fin E' env' T' ha' h'

/-- The functions of a table, made once. -/
def dispI (tab : Nat → Option FnC) (B : CallsB) : CallsB := fun k args T Q => match tab k with
  | some c => c.f B args T Q
  | none => false

def tabH (C : Ctx) (fuel : Nat) : List Hint → Nat → Option FnC
  | [], _ => none
  | h :: r, k => cond (Nat.beq h.fid k) (some (fnC fuel (decF C h))) (tabH C fuel r k)

theorem tabH_mem {C : Ctx} {fuel : Nat} : ∀ {L : List Hint} {k : Nat} {c : FnC}, tabH C fuel L k = some c → ∃ h, h ∈ L ∧ h.fid = k ∧ c = fnC fuel (decF C h)
  | [], _, _, h => by cases h
  | p :: r, k, c, h => by
    unfold tabH at h
    cases hb : Nat.beq p.fid k with
    | true =>
      rw [hb] at h
      simp only [cond_true, Option.some.injEq] at h
      exact ⟨p, List.mem_cons_self, Nat.eq_of_beq_eq_true hb, h.symm⟩
    | false =>
      rw [hb] at h
      obtain ⟨f, hf, hc⟩ := tabH_mem (L := r) h
      exact ⟨f, List.mem_cons_of_mem _ hf, hc⟩

theorem dispI_ok {P : Program} {GT : Nat → Option (List AV)} {L : List Hint} (hL : chkH (idC P GT) L = true) (fuel : Nat) : DispOK (ACall (idC P GT)) (dispI (tabH (idC P GT) fuel L)) := by
  intro B hB k args T K h Q hQ
  unfold dispI at h
  split at h
  · rename_i c hc
    obtain ⟨hi, hm, hk, rfl⟩ := tabH_mem hc
    have hs : fnSem (ACall (idC P GT)) (decF (idC P GT) hi) args T.ah Q := fnC_sound hB (ACall_mono _) h hQ
    intro f hf G w Vs hG hrel hargs
    have hfk : f = k := by
      simp only [idC] at hf
      cases hg : goodFn P k with
      | true => rw [hg] at hf; simpa using hf.symm
      | false => rw [hg] at hf; cases hf
    subst hfk
    exact fn_sound (idC_fok P GT) (by rw [← hk]; exact chkH_mem hL _ hm) hs hG hrel hargs
  · cases h
end
end Rb

/- Known calls, found by runs; closed runs. -/
set_option linter.unusedVariables false
namespace Rb
open Go
noncomputable section

/-- Reckoned as what is asked for, not as one side of an equation. -/
def forced (b : Bool) : Bool := Bool.rec (motive := fun _ => Bool) false true b
theorem forced_eq (b : Bool) : forced b = b := by cases b <;> rfl
theorem of_forced {b : Bool} (h : forced b = true) : b = true := by rwa [forced_eq] at h

def memL : List (Nat × List AV × AV) → Memo
  | [], _, _ => none
  | e :: r, k, args => cond (Nat.beq e.1 k) (cond (AV.sames e.2.1 args) (some e.2.2) (memL r k args)) (memL r k args)

/-- An entry, run. -/
def entry (B : CallsB) (e : Nat × List AV × AV) : Bool := and (AV.frozs e.2.1) (and e.2.2.froz (B e.1 e.2.1 TH.mt (fun u _ => u.same e.2.2)))

theorem memL_nil {Φ : Calls'} : MemoOK Φ (memL []) := fun _ _ _ h => by cases h
theorem memL_cons {C : Ctx} (hGT : GTok C) {B : CallsB} (hB : SoundB (ACall C) B) {e : Nat × List AV × AV} {L : List (Nat × List AV × AV)} (h : entry B e = true) (hL : MemoOK (ACall C) (memL L)) : MemoOK (ACall C) (memL (e :: L)) := by
  obtain ⟨k0, a0, v0⟩ := e
  simp only [entry, Bool.and_eq_true] at h
  obtain ⟨h1, h2, h3⟩ := h
  intro k args v hm H Q hQ
  unfold memL at hm
  dsimp only at hm
  cases hb : Nat.beq k0 k with
  | false => rw [hb] at hm; exact hL k args v hm H Q hQ
  | true =>
    rw [hb] at hm
    obtain rfl := Nat.eq_of_beq_eq_true hb
    cases hs : AV.sames a0 args with
    | false => rw [hs] at hm; exact hL k0 args v hm H Q hQ
    | true =>
      rw [hs] at hm
      simp only [cond_true, Option.some.injEq] at hm
      subst hm
      obtain rfl := AV.sames_sound _ _ hs
      exact run_any hGT hB h1 h2 h3 H Q hQ
theorem memL_app {C : Ctx} (hGT : GTok C) {B : CallsB} (hB : SoundB (ACall C) B) {L : List (Nat × List AV × AV)} (hL : MemoOK (ACall C) (memL L)) : ∀ {N : List (Nat × List AV × AV)}, N.all (entry B) = true → MemoOK (ACall C) (memL (N ++ L))
  | [], _ => hL
  | e :: N, h => by
    simp only [List.all_cons, Bool.and_eq_true] at h
    exact memL_cons hGT hB h.1 (memL_app hGT hB hL h.2)

/-- What is known, as a table of functions' runs. -/
def runI (fn : Nat → Option FnC) (L : List (Nat × List AV × AV)) : CallsB := runM (memL L) (dispI fn) 100
theorem runI_ok {C : Ctx} {fn : Nat → Option FnC} (hd : DispOK (ACall C) (dispI fn)) {L : List (Nat × List AV × AV)} (hL : MemoOK (ACall C) (memL L)) : SoundB (ACall C) (runI fn L) := runM_sound hL hd 100

theorem run_yes {C : Ctx} {B : CallsB} (hB : SoundB (ACall C) B) {k : Nat} {args : List AV} (h : B k args TH.mt (fun u _ => u.same (.bool true)) = true) : ACall C k args AH.mt (fun v _ => v = .bool true) := by
  have := hB k args TH.mt _ h (fun v _ => v = .bool true) (fun v T' h => AV.same_sound _ _ h)
  rwa [TH.ah_mt] at this
end
end Rb

/- Values told more weakly: which slice may still grow is forgotten. -/
set_option linter.unusedVariables false
set_option linter.unusedSimpArgs false
namespace Rb
open Go
mutual
def AV.weak : AV → AV
  | .fptr cs => .fptr (AV.weaks cs)
  | .lst _ len cs => .lst .dead len (AV.weaks cs)
  | .fn k cs => .fn k (AV.weaks cs)
  | .iface t v => .iface t (AV.weak v)
  | .agg cs => .agg (AV.weaks cs)
  | .tup cs => .tup (AV.weaks cs)
  | v => v
def AV.weaks : List AV → List AV
  | [] => []
  | c :: r => AV.weak c :: AV.weaks r
end
theorem weaks_map : ∀ cs : List AV, AV.weaks cs = cs.map AV.weak
  | [] => rfl
  | c :: r => by rw [AV.weaks, weaks_map r]; rfl
theorem weaks_get {cs : List AV} {j : Nat} {c : AV} (h : (AV.weaks cs)[j]? = some c) : ∃ d, cs[j]? = some d ∧ c = d.weak := by
  rw [weaks_map, List.getElem?_map] at h
  cases hc : cs[j]? with
  | none => rw [hc] at h; cases h
  | some d => rw [hc] at h; simp at h; exact ⟨d, rfl, h.symm⟩
theorem weaks_len (cs : List AV) : (AV.weaks cs).length = cs.length := by rw [weaks_map, List.length_map]

theorem VR.weak {F : FTab} {w : World} {G : Ghost} {c : AV} {V : Value} (h : VR F w G c V) : VR F w G c.weak V := by
  induction h with
  | bot V => exact .bot V
  | bool b => exact .bool b
  | int k n => exact .int k n
  | str s => exact .str s
  | nilp => exact .nilp
  | ptr id off h => exact .ptr id off h
  | fptr cells b o Vs h _ ih =>
    refine .fptr _ b o Vs (fun j c hj => ?_) fun j c hj => ?_
    · obtain ⟨d, hd, rfl⟩ := weaks_get hj; exact h j d hd
    · obtain ⟨d, hd, rfl⟩ := weaks_get hj; exact ih j d hd
  | lstnil => exact .lst0 none 0
  | lst0 a cap => exact .lst0 a cap
  | lst tk len cells b o cap Vs ht hle h _ ih =>
    refine .lst .dead len _ b o cap Vs trivial hle (fun j c hj => ?_) fun j c hj => ?_
    · obtain ⟨d, hd, rfl⟩ := weaks_get hj; exact h j d hd
    · obtain ⟨d, hd, rfl⟩ := weaks_get hj; exact ih j d hd
  | row id off len sz cap h hle hc => exact .row id off len sz cap h hle hc
  | map id h => exact .map id h
  | nilmap => exact .nilmap
  | fn key caps f Vs hf hl _ ih =>
    refine .fn key _ f Vs hf (by rw [weaks_len]; exact hl) fun j c V hc hV => ?_
    obtain ⟨d, hd, rfl⟩ := weaks_get hc; exact ih j d V hd hV
  | nilfn => exact .nilfn
  | iface t v V _ ih => exact .iface t _ V ih
  | nilif => exact .nilif
  | agg cs Vs hl _ ih =>
    refine .agg _ Vs (by rw [weaks_len]; exact hl) fun j c V hc hV => ?_
    obtain ⟨d, hd, rfl⟩ := weaks_get hc; exact ih j d V hd hV
  | tup cs Vs hl _ ih =>
    refine .tup _ Vs (by rw [weaks_len]; exact hl) fun j c V hc hV => ?_
    obtain ⟨d, hd, rfl⟩ := weaks_get hc; exact ih j d V hd hV

/-- A result may be told more weakly. -/
theorem ACall.weak {C : Ctx} {key : Nat} {args : List AV} {H : AH} {Q : Post} (h : ACall C key args H (fun v H' => Q v.weak H')) : ACall C key args H Q := by
  intro f hf G w Vs hG hrel hargs
  refine Calls.mono (h f hf G w Vs hG hrel hargs) fun e w' he => ?_
  obtain ⟨V, v, H', G', e1, hQ, hv, r⟩ := he
  exact ⟨V, v.weak, H', G', e1, hQ, hv.weak, r⟩

/-- What holds of arguments told weakly holds of them told strongly. -/
theorem ACall.weak_args {C : Ctx} {key : Nat} {args : List AV} {H : AH} {Q : Post} (h : ACall C key (AV.weaks args) H Q) : ACall C key args H Q := by
  intro f hf G w Vs hG hrel hargs
  refine h f hf G w Vs hG hrel ⟨by rw [weaks_len]; exact hargs.1, fun j c V hc hV => ?_⟩
  obtain ⟨d, hd, rfl⟩ := weaks_get hc
  exact (hargs.2 j d V hd hV).weak
end Rb

/- Known calls, found by function first; results and arguments told weakly. -/
set_option linter.unusedVariables false
namespace Rb
open Go
noncomputable section

def lookA : List (List AV × AV) → List AV → Option AV
  | [], _ => none
  | e :: r, a => cond (AV.sames e.1 a) (some e.2) (lookA r a)
def grp (k : Nat) : List (Nat × List AV × AV) → List (List AV × AV)
  | [] => []
  | e :: r => cond (Nat.beq e.1 k) ((e.2.1, e.2.2) :: grp k r) (grp k r)
theorem look_grp (k : Nat) (args : List AV) : ∀ L : List (Nat × List AV × AV), lookA (grp k L) args = memL L k args
  | [] => rfl
  | e :: r => by
    have ih := look_grp k args r
    unfold grp memL
    cases Nat.beq e.1 k with
    | false => exact ih
    | true =>
      simp only [cond_true, lookA]
      cases AV.sames e.2.1 args with
      | false => exact ih
      | true => rfl
def memG (L : List (Nat × List AV × AV)) : Memo := fun k args => match grp k L with
  | [] => none
  | l => lookA l (AV.weaks args)
theorem memG_ok {C : Ctx} {L : List (Nat × List AV × AV)} (h : MemoOK (ACall C) (memL L)) : MemoOK (ACall C) (memG L) := by
  intro k args v hm H Q hQ
  have : lookA (grp k L) (AV.weaks args) = some v := by
    unfold memG at hm
    split at hm
    · cases hm
    · exact hm
  rw [look_grp] at this
  exact ACall.weak_args (h k _ v this H Q hQ)

theorem run_anyW {C : Ctx} (hGT : GTok C) {B : CallsB} (hB : SoundB (ACall C) B) {k : Nat} {args : List AV} {v : AV} (ha : AV.frozs args = true) (hv : v.froz = true) (h : B k args TH.mt (fun u _ => u.weak.same v) = true) (H : AH) (Q : Post) (hQ : Q v H) : ACall C k args H Q :=
  ACall.frame2 hGT (ACall.weak (Q := fun u _ => u.same v = true) (run_closed hB (K := fun u => u.weak.same v) h)) ha H Q fun u _ hu => by rw [AV.same_sound _ _ hu]; exact ⟨hv, hQ⟩

/-- An entry, run; its result may be told more weakly. -/
def entryW (B : CallsB) (e : Nat × List AV × AV) : Bool := and (AV.frozs e.2.1) (and e.2.2.froz (B e.1 e.2.1 TH.mt (fun u _ => u.weak.same e.2.2)))
def allW (B : CallsB) : List (Nat × List AV × AV) → Bool
  | [] => true
  | e :: r => and (entryW B e) (allW B r)
theorem memL_consW {C : Ctx} (hGT : GTok C) {B : CallsB} (hB : SoundB (ACall C) B) {e : Nat × List AV × AV} {L : List (Nat × List AV × AV)} (h : entryW B e = true) (hL : MemoOK (ACall C) (memL L)) : MemoOK (ACall C) (memL (e :: L)) := by
  obtain ⟨k0, a0, v0⟩ := e
  simp only [entryW, Bool.and_eq_true] at h
  obtain ⟨h1, h2, h3⟩ := h
  intro k args v hm H Q hQ
  unfold memL at hm
  dsimp only at hm
  cases hb : Nat.beq k0 k with
  | false => rw [hb] at hm; exact hL k args v hm H Q hQ
  | true =>
    rw [hb] at hm
    obtain rfl := Nat.eq_of_beq_eq_true hb
    cases hs : AV.sames a0 args with
    | false => rw [hs] at hm; exact hL k0 args v hm H Q hQ
    | true =>
      rw [hs] at hm
      simp only [cond_true, Option.some.injEq] at hm
      subst hm
      obtain rfl := AV.sames_sound _ _ hs
      exact run_anyW hGT hB h1 h2 h3 H Q hQ
theorem memL_appW {C : Ctx} (hGT : GTok C) {B : CallsB} (hB : SoundB (ACall C) B) {L : List (Nat × List AV × AV)} (hL : MemoOK (ACall C) (memL L)) : ∀ {N : List (Nat × List AV × AV)}, allW B N = true → MemoOK (ACall C) (memL (N ++ L))
  | [], _ => hL
  | e :: N, h => by
    simp only [allW, Bool.and_eq_true] at h
    exact memL_consW hGT hB h.1 (memL_appW hGT hB hL h.2)
end
end Rb

/- The seat's functions: what a text of them needs that the program does not say. By hints.py. -/
set_option linter.unusedVariables false
namespace Go.Proofs.YtpmpckhgkhiebaaDoor.rb
open Rb
noncomputable def gt (g : Nat) : Option (List AV) := if g = 0 then some asciiSpace else if g = 2 then some [.iface 86 (.fptr [])] else if g = 3 then some [.iface 86 (.fptr [])] else none
noncomputable def C : Ctx := idC Tryd.prog gt
noncomputable def hs0 : List Hint := [
  ⟨3,[4,8],[[5,6],[10]],none,[]⟩,
  ⟨4,[6,8,10,14],[[11,12],[13]],none,[]⟩,
  ⟨5,[3,11],[[]],none,[]⟩,
  ⟨6,[2,4],[],none,[]⟩,
  ⟨7,[],[],none,[]⟩,
  ⟨8,[],[],none,[]⟩,
  ⟨9,[],[],none,[]⟩,
  ⟨10,[],[],none,[]⟩,
  ⟨11,[],[],none,[]⟩,
  ⟨12,[],[],none,[]⟩,
  ⟨13,[],[[6]],none,[]⟩,
  ⟨14,[],[],none,[]⟩,
  ⟨15,[41],[[3,4,5,6],[12],[10,11,12],[12]],some 9,[]⟩,
  ⟨16,[],[[5]],none,[]⟩,
  ⟨17,[],[],none,[]⟩,
  ⟨18,[],[],none,[]⟩,
  ⟨19,[],[],none,[]⟩,
  ⟨20,[],[],none,[]⟩,
  ⟨21,[],[],none,[]⟩,
  ⟨22,[],[[8]],none,[]⟩,
  ⟨23,[11,12,46],[[5,6],[49]],none,[]⟩,
  ⟨24,[],[],none,[]⟩,
  ⟨25,[],[[12,13,101]],none,[]⟩,
  ⟨26,[],[],none,[]⟩,
  ⟨27,[],[],none,[]⟩,
  ⟨28,[],[],none,[]⟩,
  ⟨29,[],[],none,[]⟩,
  ⟨30,[],[],none,[]⟩,
  ⟨31,[],[[3,4]],none,[]⟩,
  ⟨34,[15],[],none,[]⟩,
  ⟨35,[15],[],none,[]⟩,
  ⟨37,[],[[20],[7,8]],none,[]⟩,
  ⟨38,[10],[[16],[7,8]],none,[]⟩,
  ⟨39,[9],[],none,[]⟩,
  ⟨40,[5],[],none,[]⟩,
  ⟨41,[],[],none,[]⟩,
  ⟨42,[],[],none,[]⟩,
  ⟨43,[5],[],none,[]⟩,
  ⟨44,[],[],none,[]⟩,
  ⟨45,[],[],none,[]⟩]
theorem ok0 : chkH C hs0 = true := by kernel_rfl
noncomputable def hs1 : List Hint := [
  ⟨46,[],[[1,4]],none,[]⟩,
  ⟨47,[12],[[1,13],[1,13]],none,[]⟩,
  ⟨48,[],[],none,[]⟩,
  ⟨49,[],[],none,[]⟩,
  ⟨50,[],[],none,[]⟩,
  ⟨51,[],[],none,[]⟩,
  ⟨52,[],[],none,[]⟩,
  ⟨53,[],[],none,[]⟩,
  ⟨54,[],[],none,[]⟩]
theorem ok1 : chkH C hs1 = true := by kernel_rfl
noncomputable def hs : List Hint := hs0 ++ (hs1)
theorem okAll : chkH C hs = true := chkH_app ok0 (ok1)
end Go.Proofs.YtpmpckhgkhiebaaDoor.rb

/- The seat's functions, run. By hints.py. -/
set_option linter.unusedVariables false
namespace Go.Proofs.YtpmpckhgkhiebaaDoor.rb
open Rb
theorem gtok : ∀ g l, gt g = some l → AV.frozs l = true := by
  intro g l h
  unfold gt at h
  split at h
  · cases h; kernel_rfl
  split at h
  · cases h; kernel_rfl
  split at h
  · cases h; kernel_rfl
  cases h
theorem gtC : GTok C := gtok
noncomputable def fn : Nat → Option FnC := tabH C 4096 hs
theorem dispOK : DispOK (ACall C) (dispI fn) := dispI_ok okAll 4096
end Go.Proofs.YtpmpckhgkhiebaaDoor.rb

/- A function of the library that is not in the small language: it asks the machine where a byte stands. -/
set_option linter.unusedVariables false
namespace Go.Proofs.YtpmpckhgkhiebaaDoor.rb
open Rb Go.RowKit

set_option maxRecDepth 100000 in
theorem indexByte_calls (s : ByteArray) (c : Int) (w : World) : Calls Tryd.prog 28 #[.string s, .int .u8 c] w fun e w' => e = .returned (.int .i64 (Go.Lib.indexByte s.data.toList c.toNat.toUInt8)) ∧ w' = w := by
  go_enter Tryd.func28, Tryd.ntmps28
  go_wp2
  rw [run_callFunc_extern Tryd.func36 (by kernel_rfl) (by kernel_rfl) (by kernel_rfl) (e := Extern.BytealgIndexByte.indexByte) (by kernel_rfl), Go.Lib.run_indexByteString]
  simp only [Result.andThen]
  rw [Oper.upon_value]
  go_wp2
  go_ret
  exact ⟨rfl, rfl⟩

theorem indexByte (s : List UInt8) (c : Int) (H : AH) (Q : Post) (hQ : Q (.int .i64 (Go.Lib.indexByte s c.toNat.toUInt8)) H) : ACall C 28 [.str s, .int .u8 c] H Q := by
  intro f hf G w Vs hG hrel hargs
  obtain rfl : f = 28 := by
    have : C.F 28 = some 28 := by kernel_rfl
    rw [this] at hf; exact (Option.some.inj hf).symm
  obtain ⟨hl, hv⟩ := hargs
  obtain ⟨Vl⟩ := Vs
  match Vl, hl with
  | [V0, V1], _ =>
    have h0 := (hv 0 _ V0 rfl rfl).str_inv
    have h1 := (hv 1 _ V1 rfl rfl).int_inv
    subst h0 h1
    refine (indexByte_calls ⟨s.toArray⟩ c w).mono fun e w' ⟨he, hw⟩ => ?_
    subst hw
    exact ⟨_, _, H, G, he, hQ, .int _ _, hrel, Step.refl _ _ _⟩

noncomputable def MxG (L : List (Nat × List AV × AV)) : Memo := fun k a => cond (Nat.beq k 28) (match a with | [.str s, .int .u8 c] => some (.int .i64 (Go.Lib.indexByte s c.toNat.toUInt8)) | _ => none) (memG L k a)
theorem MxG_ok {L : List (Nat × List AV × AV)} (hL : MemoOK (ACall C) (memL L)) : MemoOK (ACall C) (MxG L) := by
  intro k a v h H Q hQ
  unfold MxG at h
  cases hb : Nat.beq k 28 with
  | false => rw [hb] at h; exact memG_ok hL k a v h H Q hQ
  | true =>
    rw [hb] at h
    obtain rfl := Nat.eq_of_beq_eq_true hb
    simp only [cond_true] at h
    split at h
    · cases h; exact indexByte _ _ H Q hQ
    · cases h
noncomputable def runG (L : List (Nat × List AV × AV)) : CallsB := runM (MxG L) (dispI fn) 100
theorem runG_ok {L : List (Nat × List AV × AV)} (hL : MemoOK (ACall C) (memL L)) : SoundB (ACall C) (runG L) := runM_sound (MxG_ok hL) dispOK 100
end Go.Proofs.YtpmpckhgkhiebaaDoor.rb

/- Known calls, found by runs. By runs.py. -/
set_option linter.unusedVariables false
namespace Go.Proofs.YtpmpckhgkhiebaaDoor.rb
open Rb
noncomputable section
def RbM080 : List (Nat × List AV × AV) := [
  (15, [.str [118,97,114,32,116,104,114,101,97,100,32,115,116,114,117,99,116,32,117,110,105,111,110,32,112,97,99,107,101,100,32,117,56,32,117,49,54,32,117,51,50,32,117,54,52,32,97,56,32,97,49,54,32,97,51,50,32,97,54,52,32,97,49,50,56,32,108,101,116,32,115,101,116,32,119,114,105,116,101,32,115,116,111,114,101,32,108,111,97,100,50,32,115,116,111,114,101,50,32,102,101,110,99,101,32,105,102,32,101,108,115,101,32,119,104,105,108,101,32,112,114,105,110,116,32,114,101,97,100,32,108,111,97,100,32,97,100,100,32,115,119,97,112,32,99,97,115,32,114,108,120,32,97,99,113,32,114,101,108,32,115,99]], .lst .dead 34 [.str [118,97,114],.str [116,104,114,101,97,100],.str [115,116,114,117,99,116],.str [117,110,105,111,110],.str [112,97,99,107,101,100],.str [117,56],.str [117,49,54],.str [117,51,50],.str [117,54,52],.str [97,56],.str [97,49,54],.str [97,51,50],.str [97,54,52],.str [97,49,50,56],.str [108,101,116],.str [115,101,116],.str [119,114,105,116,101],.str [115,116,111,114,101],.str [108,111,97,100,50],.str [115,116,111,114,101,50],.str [102,101,110,99,101],.str [105,102],.str [101,108,115,101],.str [119,104,105,108,101],.str [112,114,105,110,116],.str [114,101,97,100],.str [108,111,97,100],.str [97,100,100],.str [115,119,97,112],.str [99,97,115],.str [114,108,120],.str [97,99,113],.str [114,101,108],.str [115,99]])]
theorem RbM080_run : forced (allW (runG []) RbM080) = true := by kernel_rfl
theorem RbM080_ok : MemoOK (ACall C) (memL (RbM080 ++ [])) := memL_appW gtC (runG_ok memL_nil) memL_nil (of_forced RbM080_run)
theorem RbM08_root0 : forced (allW (runG (RbM080 ++ [])) [(6, [], .bool true)]) = true := by kernel_rfl
theorem RbM08_rootok0 : MemoOK (ACall C) (memL [(6, [], .bool true)]) := memL_appW gtC (runG_ok RbM080_ok) memL_nil (N := [(6, [], .bool true)]) (of_forced RbM08_root0)
end
end Go.Proofs.YtpmpckhgkhiebaaDoor.rb

/- The functions' keys. By spec.py. -/
namespace Rb.K
abbrev rabbetlaw08_LexBack : Nat := 3
abbrev rabbetlaw08_LexJoins : Nat := 4
abbrev lex_Tokens : Nat := 5
abbrev rabbetlaw08_awake : Nat := 6
abbrev lex_scanner_next : Nat := 7
abbrev lex_Keyword : Nat := 8
abbrev lex_letter : Nat := 9
abbrev lex_scanner_word : Nat := 10
abbrev lex_digit : Nat := 11
abbrev lex_scanner_number : Nat := 12
abbrev lex_scanner_sign : Nat := 13
abbrev slices_Contains___string_string_ : Nat := 14
abbrev strings_Fields : Nat := 15
abbrev lex_scanner_run : Nat := 16
abbrev lex_part : Nat := 17
abbrev lex_scanner_take : Nat := 18
abbrev strconv_ParseUint : Nat := 19
abbrev strings_HasPrefix : Nat := 20
abbrev strings_IndexByte : Nat := 21
abbrev internal_stringslite_HasPrefix : Nat := 27
abbrev internal_stringslite_IndexByte : Nat := 28
end Rb.K

/- Functions in the small language, and what they mean. By spec.py. -/
set_option linter.unusedVariables false
namespace Rb.S
open Go

/-! rabbet/rabbetlaw08.LexBack -/
def rabbetlaw08_LexBack_k1 (Φ : Calls') (x3 : AV) (s22 : List AV × AH) (L23 : (List AV × AH) → Prop) (Q : Post) : List AV → AH → Prop := fun j24 H25 =>
 Do (aiaddr none 2 x3 (sl s22.1 1)) fun x31 =>
 Do (afaddr 0 x31) fun x32 =>
 Do (aload H25 1 false x32) fun x33 =>
 Do (abin .add x33 (.str [32])) fun x34 =>
 Do (abin .add (sl s22.1 0) x34) fun x35 =>
 Do (abin .add (sl s22.1 1) (.int .i64 1)) fun x36 =>
 L23 ([x35, x36], H25)
def rabbetlaw08_LexBack_k2 (Φ : Calls') (s57 : List AV × AH) (L58 : (List AV × AH) → Prop) (Q : Post) : List AV → AH → Prop := fun j60 H61 =>
 Do (abin .add (sl s57.1 0) (.int .i64 1)) fun x75 =>
 L58 ([x75], H61)
def rabbetlaw08_LexBack_k3 (Φ : Calls') (s57 : List AV × AH) (L58 : (List AV × AH) → Prop) (Q : Post) : List AV → AH → Prop := fun j62 H63 =>
 Gd (sl j62 0) true (
 Q (.bool false) H63) (
 JoinP (rabbetlaw08_LexBack_k2 Φ s57 L58 Q) [] H63)
def rabbetlaw08_LexBack_l4 (Φ : Calls') (x3 : AV) (x39 : AV) (j45 : List AV) (Q : Post) : (List AV × AH) → ((List AV × AH) → Prop) → Prop := fun s57 L58 =>
 Do (abin .lss (sl s57.1 0) (sl j45 0)) fun x59 =>
 Gd x59 true (
 Do (aiaddr none 2 x39 (sl s57.1 0)) fun x64 =>
 Do (afaddr 0 x64) fun x65 =>
 Do (aload s57.2 1 false x65) fun x66 =>
 Do (aiaddr none 2 x3 (sl s57.1 0)) fun x67 =>
 Do (afaddr 0 x67) fun x68 =>
 Do (aload s57.2 1 false x68) fun x69 =>
 Do (abin .neq x66 x69) fun x70 =>
 Gd3 x70 false (
 Do (aiaddr none 2 x39 (sl s57.1 0)) fun x71 =>
 Do (afaddr 1 x71) fun x72 =>
 Do (aload s57.2 1 false x72) fun x73 =>
 Do (abin .neq x73 (.int .i64 1)) fun x74 =>
 JoinP (rabbetlaw08_LexBack_k3 Φ s57 L58 Q) [x74] s57.2) (
 JoinP (rabbetlaw08_LexBack_k3 Φ s57 L58 Q) [(.bool true)] s57.2) (
 False)) (
 Q (.bool true) s57.2)
def rabbetlaw08_LexBack_k5 (Φ : Calls') (x3 : AV) (x39 : AV) (j45 : List AV) (Q : Post) : List AV → AH → Prop := fun j48 H49 =>
 LoopP (rabbetlaw08_LexBack_l4 Φ x3 x39 j45 Q) ([(.int .i64 0)], H49)
def rabbetlaw08_LexBack_k6 (Φ : Calls') (x3 : AV) (x39 : AV) (j45 : List AV) (Q : Post) : List AV → AH → Prop := fun j50 H51 =>
 Gd (sl j50 0) true (
 Q (.bool false) H51) (
 JoinP (rabbetlaw08_LexBack_k5 Φ x3 x39 j45 Q) [] H51)
def rabbetlaw08_LexBack_k7 (Φ : Calls') (x3 : AV) (x39 : AV) (x41 : AV) (Q : Post) : List AV → AH → Prop := fun j45 H46 =>
 Do (afaddr 1 x41) fun x52 =>
 Do (aload H46 1 false x52) fun x53 =>
 Do (abin .neq x53 (.int .i64 0)) fun x54 =>
 Gd3 x54 false (
 Do (alen false x39) fun x55 =>
 Do (abin .neq x55 (sl j45 0)) fun x56 =>
 JoinP (rabbetlaw08_LexBack_k6 Φ x3 x39 j45 Q) [x56] H46) (
 JoinP (rabbetlaw08_LexBack_k6 Φ x3 x39 j45 Q) [(.bool true)] H46) (
 False)
def rabbetlaw08_LexBack_k8 (Φ : Calls') (x3 : AV) (Q : Post) : List AV → AH → Prop := fun j20 H21 =>
Φ K.lex_Tokens [(sl j20 0)] H21 fun x37 H38 =>
 Do (aextract 0 x37) fun x39 =>
 Do (aextract 1 x37) fun x40 =>
 DoH (some (abox H38 true [.int .i64 0, .int .i64 0])) fun x41 H42 =>
 Do (astore H42 2 x41 x40) fun H43 =>
 Do (alen false x3) fun x44 =>
 Do (abin .gtr x44 (.int .i64 2000)) fun x47 =>
 Gd x47 true (
 JoinP (rabbetlaw08_LexBack_k7 Φ x3 x39 x41 Q) [(.int .i64 2000)] H43) (
 JoinP (rabbetlaw08_LexBack_k7 Φ x3 x39 x41 Q) [x44] H43)
def rabbetlaw08_LexBack_k9 (Φ : Calls') (x3 : AV) (s22 : List AV × AH) (L23 : (List AV × AH) → Prop) (Q : Post) : List AV → AH → Prop := fun j26 H27 =>
 Gd (sl j26 0) true (
 JoinP (rabbetlaw08_LexBack_k1 Φ x3 s22 L23 Q) [] H27) (
 JoinP (rabbetlaw08_LexBack_k8 Φ x3 Q) [(sl s22.1 0)] H27)
def rabbetlaw08_LexBack_l10 (Φ : Calls') (x3 : AV) (Q : Post) : (List AV × AH) → ((List AV × AH) → Prop) → Prop := fun s22 L23 =>
 Do (alen false x3) fun x28 =>
 Do (abin .lss (sl s22.1 1) x28) fun x29 =>
 Gd3 x29 true (
 Do (abin .lss (sl s22.1 1) (.int .i64 2000)) fun x30 =>
 JoinP (rabbetlaw08_LexBack_k9 Φ x3 s22 L23 Q) [x30] s22.2) (
 JoinP (rabbetlaw08_LexBack_k9 Φ x3 s22 L23 Q) [(.bool false)] s22.2) (
 False)
def rabbetlaw08_LexBack_k11 (Φ : Calls') (x3 : AV) (Q : Post) : List AV → AH → Prop := fun j8 H9 =>
 LoopP (rabbetlaw08_LexBack_l10 Φ x3 Q) ([(.str []), (.int .i64 0)], H9)
def rabbetlaw08_LexBack_k12 (Φ : Calls') (x3 : AV) (Q : Post) : List AV → AH → Prop := fun j10 H11 =>
 Gd (sl j10 0) true (
Φ K.rabbetlaw08_awake [] H11 fun x18 H19 =>
 Q x18 H19) (
 JoinP (rabbetlaw08_LexBack_k11 Φ x3 Q) [] H11)
def rabbetlaw08_LexBack (Φ : Calls') (a0 : AV) (H : AH) (Q : Post) : Prop :=
Φ K.lex_Tokens [a0] H fun x1 H2 =>
 Do (aextract 0 x1) fun x3 =>
 Do (aextract 1 x1) fun x4 =>
 DoH (some (abox H2 true [.int .i64 0, .int .i64 0])) fun x5 H6 =>
 Do (astore H6 2 x5 x4) fun H7 =>
Φ K.rabbetlaw08_awake [] H7 fun x12 H13 =>
 Do (aun .not x12) fun x14 =>
 Gd3 x14 false (
 Do (afaddr 1 x5) fun x15 =>
 Do (aload H13 1 false x15) fun x16 =>
 Do (abin .neq x16 (.int .i64 0)) fun x17 =>
 JoinP (rabbetlaw08_LexBack_k12 Φ x3 Q) [x17] H13) (
 JoinP (rabbetlaw08_LexBack_k12 Φ x3 Q) [(.bool true)] H13) (
 False)
def ir_rabbetlaw08_LexBack : AFunc := ⟨84, [.tmp 2],
 .seq (.region [
   ⟨some 2, .mv (.k (.bool false)), none⟩])
 (.seq (.region [
   ⟨some 12, .mv (.t 0), none⟩,
   ⟨some 13, .call K.lex_Tokens [(.t 12)], none⟩,
   ⟨some 11, .mv (.t 13), none⟩,
   ⟨some 14, .extract 0 (.t 11), none⟩,
   ⟨some 15, .extract 1 (.t 11), none⟩,
   ⟨some 4, .alloc true [.int .i64 0, .int .i64 0], none⟩,
   ⟨some 3, .mv (.t 14), none⟩,
   ⟨none, .store 2 (.t 4) (.t 15), none⟩])
 (.join [] [2, 16, 17, 18, 19, 20, 21, 22, 23] (.join [22] [16, 17, 18, 19, 20, 21] (.region [
   ⟨some 16, .call K.rabbetlaw08_awake [], none⟩,
   ⟨some 17, .un .not (.t 16), none⟩,
   ⟨some 18, .mv (.t 17), none⟩,
   ⟨some 19, .faddr 1 (.t 4), some (18, false)⟩,
   ⟨some 20, .load 1 false (.t 19), some (18, false)⟩,
   ⟨some 21, .bin .neq (.t 20) (.k (.int .i64 0)), some (18, false)⟩,
   ⟨some 22, .pick (.t 18) (.k (.bool true)) (.t 21), none⟩])
 (.cond (.t 22) (.seq (.region [
     ⟨some 23, .call K.rabbetlaw08_awake [], none⟩,
     ⟨some 2, .mv (.t 23), none⟩])
   (.ret))
   (.skip)))
 (.seq (.region [
   ⟨some 5, .mv (.k (.str [])), none⟩])
 (.join [5] [6, 24, 25, 26, 27, 28, 29, 30, 31, 32, 33, 34, 35, 36, 37, 38, 39, 40, 41] (.seq (.region [
   ⟨some 6, .mv (.k (.int .i64 0)), none⟩])
 (.block 0 (.loop [5, 6] [24, 25, 26, 27, 28, 29, 30, 31, 32, 33, 34, 35, 36, 37, 38, 39, 40, 41] (.join [] [24, 25, 26, 27, 28, 29, 30, 31] (.join [31] [24, 25, 26, 27, 28, 29, 30] (.region [
   ⟨some 24, .mv (.t 6), none⟩,
   ⟨some 25, .mv (.t 3), none⟩,
   ⟨some 26, .len false (.t 25), none⟩,
   ⟨some 27, .bin .lss (.t 24) (.t 26), none⟩,
   ⟨some 28, .mv (.t 27), none⟩,
   ⟨some 29, .mv (.t 6), some (28, true)⟩,
   ⟨some 30, .bin .lss (.t 29) (.k (.int .i64 2000)), some (28, true)⟩,
   ⟨some 31, .pick (.t 28) (.t 30) (.k (.bool false)), none⟩])
 (.cond (.t 31) (.skip)
   (.exit 0)))
 (.seq (.block 1 (.region [
   ⟨some 34, .mv (.t 5), none⟩,
   ⟨some 35, .mv (.t 3), none⟩,
   ⟨some 36, .mv (.t 6), none⟩,
   ⟨some 37, .iaddr none 2 (.t 35) (.t 36), none⟩,
   ⟨some 38, .faddr 0 (.t 37), none⟩,
   ⟨some 39, .load 1 false (.t 38), none⟩,
   ⟨some 40, .bin .add (.t 39) (.k (.str [32])), none⟩,
   ⟨some 41, .bin .add (.t 34) (.t 40), none⟩,
   ⟨some 5, .mv (.t 41), none⟩]))
 (.region [
   ⟨some 32, .mv (.t 6), none⟩,
   ⟨some 33, .bin .add (.t 32) (.k (.int .i64 1)), none⟩,
   ⟨some 6, .mv (.t 33), none⟩]))))))
 (.seq (.region [
   ⟨some 43, .mv (.t 5), none⟩,
   ⟨some 44, .call K.lex_Tokens [(.t 43)], none⟩,
   ⟨some 42, .mv (.t 44), none⟩,
   ⟨some 45, .extract 0 (.t 42), none⟩,
   ⟨some 46, .extract 1 (.t 42), none⟩,
   ⟨some 8, .alloc true [.int .i64 0, .int .i64 0], none⟩,
   ⟨some 7, .mv (.t 45), none⟩,
   ⟨none, .store 2 (.t 8) (.t 46), none⟩])
 (.seq (.region [
   ⟨some 47, .mv (.t 3), none⟩,
   ⟨some 48, .len false (.t 47), none⟩,
   ⟨some 9, .mv (.t 48), none⟩])
 (.join [9] [49, 50] (.seq (.region [
   ⟨some 49, .mv (.t 9), none⟩,
   ⟨some 50, .bin .gtr (.t 49) (.k (.int .i64 2000)), none⟩])
 (.cond (.t 50) (.region [
     ⟨some 9, .mv (.k (.int .i64 2000)), none⟩])
   (.skip)))
 (.join [] [2, 51, 52, 53, 54, 55, 56, 57, 58, 59] (.join [59] [51, 52, 53, 54, 55, 56, 57, 58] (.region [
   ⟨some 51, .faddr 1 (.t 8), none⟩,
   ⟨some 52, .load 1 false (.t 51), none⟩,
   ⟨some 53, .bin .neq (.t 52) (.k (.int .i64 0)), none⟩,
   ⟨some 54, .mv (.t 53), none⟩,
   ⟨some 55, .mv (.t 7), some (54, false)⟩,
   ⟨some 56, .len false (.t 55), some (54, false)⟩,
   ⟨some 57, .mv (.t 9), some (54, false)⟩,
   ⟨some 58, .bin .neq (.t 56) (.t 57), some (54, false)⟩,
   ⟨some 59, .pick (.t 54) (.k (.bool true)) (.t 58), none⟩])
 (.cond (.t 59) (.seq (.region [
     ⟨some 2, .mv (.k (.bool false)), none⟩])
   (.ret))
   (.skip)))
 (.seq (.seq (.region [
   ⟨some 10, .mv (.k (.int .i64 0)), none⟩])
 (.block 2 (.loop [10] [2, 60, 61, 62, 63, 64, 65, 66, 67, 68, 69, 70, 71, 72, 73, 74, 75, 76, 77, 78, 79, 80, 81, 82, 83] (.seq (.seq (.region [
   ⟨some 60, .mv (.t 10), none⟩,
   ⟨some 61, .mv (.t 9), none⟩,
   ⟨some 62, .bin .lss (.t 60) (.t 61), none⟩])
 (.cond (.t 62) (.skip)
   (.exit 2)))
 (.join [] [2, 65, 66, 67, 68, 69, 70, 71, 72, 73, 74, 75, 76, 77, 78, 79, 80, 81, 82, 83] (.block 3 (.join [83] [65, 66, 67, 68, 69, 70, 71, 72, 73, 74, 75, 76, 77, 78, 79, 80, 81, 82] (.draw [
   ⟨some 65, .mv (.t 7), none⟩,
   ⟨some 66, .mv (.t 10), none⟩,
   ⟨some 67, .iaddr none 2 (.t 65) (.t 66), none⟩,
   ⟨some 68, .faddr 0 (.t 67), none⟩,
   ⟨some 69, .load 1 false (.t 68), none⟩,
   ⟨some 70, .mv (.t 3), none⟩,
   ⟨some 71, .mv (.t 10), none⟩,
   ⟨some 72, .iaddr none 2 (.t 70) (.t 71), none⟩,
   ⟨some 73, .faddr 0 (.t 72), none⟩,
   ⟨some 74, .load 1 false (.t 73), none⟩,
   ⟨some 75, .bin .neq (.t 69) (.t 74), none⟩,
   ⟨some 76, .mv (.t 75), none⟩,
   ⟨some 77, .mv (.t 7), some (76, false)⟩,
   ⟨some 78, .mv (.t 10), some (76, false)⟩,
   ⟨some 79, .iaddr none 2 (.t 77) (.t 78), some (76, false)⟩,
   ⟨some 80, .faddr 1 (.t 79), some (76, false)⟩,
   ⟨some 81, .load 1 false (.t 80), some (76, false)⟩,
   ⟨some 82, .bin .neq (.t 81) (.k (.int .i64 1)), some (76, false)⟩,
   ⟨some 83, .pick (.t 76) (.k (.bool true)) (.t 82), none⟩]
 [[], [], [0, 1], [0, 1, 2], [0, 1, 2, 3], [], [], [5, 6], [5, 6, 7], [5, 6, 7, 8], [0, 1, 2, 3, 4, 5, 6, 7, 8, 9], [0, 1, 2, 3, 4, 5, 6, 7, 8, 9, 10], [0, 1, 2, 3, 4, 5, 6, 7, 8, 9, 10, 11], [0, 1, 2, 3, 4, 5, 6, 7, 8, 9, 10, 11], [0, 1, 2, 3, 4, 5, 6, 7, 8, 9, 10, 11, 12, 13], [0, 1, 2, 3, 4, 5, 6, 7, 8, 9, 10, 11, 12, 13, 14], [0, 1, 2, 3, 4, 5, 6, 7, 8, 9, 10, 11, 12, 13, 14, 15], [0, 1, 2, 3, 4, 5, 6, 7, 8, 9, 10, 11, 12, 13, 14, 15, 16], [0, 1, 2, 3, 4, 5, 6, 7, 8, 9, 10, 11, 12, 13, 14, 15, 16, 17]] [] [0, 1, 2, 3, 4, 5, 6, 7, 8, 9, 10, 11, 12, 13, 14, 15, 16, 17, 18])
 (.cond (.t 83) (.seq (.region [
     ⟨some 2, .mv (.k (.bool false)), none⟩])
   (.ret))
   (.skip))))
 (.region [
   ⟨some 63, .mv (.t 10), none⟩,
   ⟨some 64, .bin .add (.t 63) (.k (.int .i64 1)), none⟩,
   ⟨some 10, .mv (.t 64), none⟩]))))))
 (.seq (.region [
   ⟨some 2, .mv (.k (.bool true)), none⟩])
 (.ret)))))))))))⟩
theorem eq_rabbetlaw08_LexBack (Φ : Calls') (a0 : AV) (H : AH) (Q : Post) : fnE1 Φ ir_rabbetlaw08_LexBack [a0] H Q = rabbetlaw08_LexBack Φ a0 H Q := by kernel_rfl

/-! rabbet/rabbetlaw08.LexJoins -/
def rabbetlaw08_LexJoins_k1 (Φ : Calls') (s47 : List AV × AH) (L48 : (List AV × AH) → Prop) (Q : Post) : List AV → AH → Prop := fun j51 H52 =>
 Do (abin .add (sl s47.1 1) (.int .i64 1)) fun x56 =>
 L48 ([(sl j51 0), x56], H52)
def rabbetlaw08_LexJoins_k2 (Φ : Calls') (s71 : List AV × AH) (L72 : (List AV × AH) → Prop) (Q : Post) : List AV → AH → Prop := fun j75 H76 =>
 Do (abin .add (sl s71.1 0) (.int .i64 1)) fun x92 =>
 L72 ([x92], H76)
def rabbetlaw08_LexJoins_k3 (Φ : Calls') (x25 : AV) (x78 : AV) (s71 : List AV × AH) (L72 : (List AV × AH) → Prop) (Q : Post) : List AV → AH → Prop := fun j81 H82 =>
 Do (aiaddr none 2 x25 (sl s71.1 0)) fun x88 =>
 Do (aload H82 2 true x88) fun x89 =>
 Do (aload H82 2 true x78) fun x90 =>
 Do (aeqAgg true [.t, .n] x89 x90) fun x91 =>
 Gd x91 true (
 Q (.bool false) H82) (
 JoinP (rabbetlaw08_LexJoins_k2 Φ s71 L72 Q) [] H82)
def rabbetlaw08_LexJoins_k4 (Φ : Calls') (Q : Post) : List AV → AH → Prop := fun j69 H70 =>
Φ K.rabbetlaw08_awake [] H70 fun x103 H104 =>
 Q x103 H104
def rabbetlaw08_LexJoins_l5 (Φ : Calls') (x9 : AV) (x16 : AV) (x25 : AV) (j45 : List AV) (Q : Post) : (List AV × AH) → ((List AV × AH) → Prop) → Prop := fun s71 L72 =>
 Do (alen false x25) fun x73 =>
 Do (abin .lss (sl s71.1 0) x73) fun x74 =>
 Gd x74 true (
 Do (abuild [.str [], .int .i64 0] []) fun x77 =>
 DoH (some (abox s71.2 true [.str [], .int .i64 0])) fun x78 H79 =>
 Do (astore H79 2 x78 x77) fun H80 =>
 Do (alen false x9) fun x83 =>
 Do (abin .lss (sl s71.1 0) x83) fun x84 =>
 Gd x84 true (
 Do (aiaddr none 2 x9 (sl s71.1 0)) fun x85 =>
 Do (aload H80 2 true x85) fun x86 =>
 Do (astore H80 2 x78 x86) fun H87 =>
 JoinP (rabbetlaw08_LexJoins_k3 Φ x25 x78 s71 L72 Q) [] H87) (
 Do (alen false x9) fun x93 =>
 Do (abin .sub (sl s71.1 0) x93) fun x94 =>
 Do (aiaddr none 2 x16 x94) fun x95 =>
 Do (aload H80 2 true x95) fun x96 =>
 Do (astore H80 2 x78 x96) fun H97 =>
 Do (afaddr 1 x78) fun x98 =>
 Do (aload H97 1 false x98) fun x99 =>
 Do (abin .add x99 (sl j45 0)) fun x100 =>
 Do (afaddr 1 x78) fun x101 =>
 Do (astore H97 1 x101 x100) fun H102 =>
 JoinP (rabbetlaw08_LexJoins_k3 Φ x25 x78 s71 L72 Q) [] H102)) (
 JoinP (rabbetlaw08_LexJoins_k4 Φ Q) [] s71.2)
def rabbetlaw08_LexJoins_k6 (Φ : Calls') (x9 : AV) (x16 : AV) (x25 : AV) (j45 : List AV) (Q : Post) : List AV → AH → Prop := fun j57 H58 =>
 LoopP (rabbetlaw08_LexJoins_l5 Φ x9 x16 x25 j45 Q) ([(.int .i64 0)], H58)
def rabbetlaw08_LexJoins_k7 (Φ : Calls') (x9 : AV) (x16 : AV) (x25 : AV) (j45 : List AV) (Q : Post) : List AV → AH → Prop := fun j59 H60 =>
 Gd (sl j59 0) true (
 Q (.bool false) H60) (
 JoinP (rabbetlaw08_LexJoins_k6 Φ x9 x16 x25 j45 Q) [] H60)
def rabbetlaw08_LexJoins_k8 (Φ : Calls') (x9 : AV) (x16 : AV) (x25 : AV) (x27 : AV) (Q : Post) : List AV → AH → Prop := fun j45 H46 =>
 Do (afaddr 1 x27) fun x61 =>
 Do (aload H46 1 false x61) fun x62 =>
 Do (abin .neq x62 (.int .i64 0)) fun x63 =>
 Gd3 x63 false (
 Do (alen false x25) fun x64 =>
 Do (alen false x9) fun x65 =>
 Do (alen false x16) fun x66 =>
 Do (abin .add x65 x66) fun x67 =>
 Do (abin .neq x64 x67) fun x68 =>
 JoinP (rabbetlaw08_LexJoins_k7 Φ x9 x16 x25 j45 Q) [x68] H46) (
 JoinP (rabbetlaw08_LexJoins_k7 Φ x9 x16 x25 j45 Q) [(.bool true)] H46) (
 False)
def rabbetlaw08_LexJoins_l9 (Φ : Calls') (a0 : AV) (x9 : AV) (x16 : AV) (x25 : AV) (x27 : AV) (Q : Post) : (List AV × AH) → ((List AV × AH) → Prop) → Prop := fun s47 L48 =>
 Do (alen true a0) fun x49 =>
 Do (abin .lss (sl s47.1 1) x49) fun x50 =>
 Gd x50 true (
 Do (aidxs a0 (sl s47.1 1)) fun x53 =>
 Do (abin .eql x53 (.int .u8 10)) fun x54 =>
 Gd x54 true (
 Do (abin .add (sl s47.1 0) (.int .i64 1)) fun x55 =>
 JoinP (rabbetlaw08_LexJoins_k1 Φ s47 L48 Q) [x55] s47.2) (
 JoinP (rabbetlaw08_LexJoins_k1 Φ s47 L48 Q) [(sl s47.1 0)] s47.2)) (
 JoinP (rabbetlaw08_LexJoins_k8 Φ x9 x16 x25 x27 Q) [(sl s47.1 0)] s47.2)
def rabbetlaw08_LexJoins_k10 (Φ : Calls') (a0 : AV) (x9 : AV) (x16 : AV) (x25 : AV) (x27 : AV) (Q : Post) : List AV → AH → Prop := fun j30 H31 =>
 LoopP (rabbetlaw08_LexJoins_l9 Φ a0 x9 x16 x25 x27 Q) ([(.int .i64 1), (.int .i64 0)], H31)
def rabbetlaw08_LexJoins_k11 (Φ : Calls') (a0 : AV) (x9 : AV) (x16 : AV) (x25 : AV) (x27 : AV) (Q : Post) : List AV → AH → Prop := fun j32 H33 =>
 Gd (sl j32 0) true (
Φ K.rabbetlaw08_awake [] H33 fun x40 H41 =>
 Gd3 x40 true (
 Do (afaddr 1 x27) fun x42 =>
 Do (aload H41 1 false x42) fun x43 =>
 Do (abin .neq x43 (.int .i64 0)) fun x44 =>
 Q x44 H41) (
 Q (.bool false) H41) (
 False)) (
 JoinP (rabbetlaw08_LexJoins_k10 Φ a0 x9 x16 x25 x27 Q) [] H33)
def rabbetlaw08_LexJoins (Φ : Calls') (a0 : AV) (a1 : AV) (H : AH) (Q : Post) : Prop :=
 Do (alen true a0) fun x1 =>
 Do (alen true a1) fun x2 =>
 Do (abin .add x1 x2) fun x3 =>
 Do (abin .gtr x3 (.int .i64 100000)) fun x4 =>
 Gd x4 true (
Φ K.rabbetlaw08_awake [] H fun x5 H6 =>
 Q x5 H6) (
Φ K.lex_Tokens [a0] H fun x7 H8 =>
 Do (aextract 0 x7) fun x9 =>
 Do (aextract 1 x7) fun x10 =>
 DoH (some (abox H8 true [.int .i64 0, .int .i64 0])) fun x11 H12 =>
 Do (astore H12 2 x11 x10) fun H13 =>
Φ K.lex_Tokens [a1] H13 fun x14 H15 =>
 Do (aextract 0 x14) fun x16 =>
 Do (aextract 1 x14) fun x17 =>
 DoH (some (abox H15 true [.int .i64 0, .int .i64 0])) fun x18 H19 =>
 Do (astore H19 2 x18 x17) fun H20 =>
 Do (abin .add a0 (.str [10])) fun x21 =>
 Do (abin .add x21 a1) fun x22 =>
Φ K.lex_Tokens [x22] H20 fun x23 H24 =>
 Do (aextract 0 x23) fun x25 =>
 Do (aextract 1 x23) fun x26 =>
 DoH (some (abox H24 true [.int .i64 0, .int .i64 0])) fun x27 H28 =>
 Do (astore H28 2 x27 x26) fun H29 =>
 Do (afaddr 1 x11) fun x34 =>
 Do (aload H29 1 false x34) fun x35 =>
 Do (abin .neq x35 (.int .i64 0)) fun x36 =>
 Gd3 x36 false (
 Do (afaddr 1 x18) fun x37 =>
 Do (aload H29 1 false x37) fun x38 =>
 Do (abin .neq x38 (.int .i64 0)) fun x39 =>
 JoinP (rabbetlaw08_LexJoins_k11 Φ a0 x9 x16 x25 x27 Q) [x39] H29) (
 JoinP (rabbetlaw08_LexJoins_k11 Φ a0 x9 x16 x25 x27 Q) [(.bool true)] H29) (
 False))
def ir_rabbetlaw08_LexJoins : AFunc := ⟨113, [.tmp 4],
 .seq (.region [
   ⟨some 4, .mv (.k (.bool false)), none⟩])
 (.seq (.seq (.region [
   ⟨some 15, .mv (.t 0), none⟩,
   ⟨some 16, .len true (.t 15), none⟩,
   ⟨some 17, .mv (.t 1), none⟩,
   ⟨some 18, .len true (.t 17), none⟩,
   ⟨some 19, .bin .add (.t 16) (.t 18), none⟩,
   ⟨some 20, .bin .gtr (.t 19) (.k (.int .i64 100000)), none⟩])
 (.cond (.t 20) (.seq (.region [
     ⟨some 21, .call K.rabbetlaw08_awake [], none⟩,
     ⟨some 4, .mv (.t 21), none⟩])
   (.ret))
   (.skip)))
 (.seq (.region [
   ⟨some 23, .mv (.t 0), none⟩,
   ⟨some 24, .call K.lex_Tokens [(.t 23)], none⟩,
   ⟨some 22, .mv (.t 24), none⟩,
   ⟨some 25, .extract 0 (.t 22), none⟩,
   ⟨some 26, .extract 1 (.t 22), none⟩,
   ⟨some 6, .alloc true [.int .i64 0, .int .i64 0], none⟩,
   ⟨some 5, .mv (.t 25), none⟩,
   ⟨none, .store 2 (.t 6) (.t 26), none⟩])
 (.seq (.region [
   ⟨some 28, .mv (.t 1), none⟩,
   ⟨some 29, .call K.lex_Tokens [(.t 28)], none⟩,
   ⟨some 27, .mv (.t 29), none⟩,
   ⟨some 30, .extract 0 (.t 27), none⟩,
   ⟨some 31, .extract 1 (.t 27), none⟩,
   ⟨some 8, .alloc true [.int .i64 0, .int .i64 0], none⟩,
   ⟨some 7, .mv (.t 30), none⟩,
   ⟨none, .store 2 (.t 8) (.t 31), none⟩])
 (.seq (.region [
   ⟨some 33, .mv (.t 0), none⟩,
   ⟨some 34, .bin .add (.t 33) (.k (.str [10])), none⟩,
   ⟨some 35, .mv (.t 1), none⟩,
   ⟨some 36, .bin .add (.t 34) (.t 35), none⟩,
   ⟨some 37, .call K.lex_Tokens [(.t 36)], none⟩,
   ⟨some 32, .mv (.t 37), none⟩,
   ⟨some 38, .extract 0 (.t 32), none⟩,
   ⟨some 39, .extract 1 (.t 32), none⟩,
   ⟨some 10, .alloc true [.int .i64 0, .int .i64 0], none⟩,
   ⟨some 9, .mv (.t 38), none⟩,
   ⟨none, .store 2 (.t 10) (.t 39), none⟩])
 (.join [] [4, 40, 41, 42, 43, 44, 45, 46, 47, 48, 49, 50, 51, 52, 53] (.join [47] [40, 41, 42, 43, 44, 45, 46] (.region [
   ⟨some 40, .faddr 1 (.t 6), none⟩,
   ⟨some 41, .load 1 false (.t 40), none⟩,
   ⟨some 42, .bin .neq (.t 41) (.k (.int .i64 0)), none⟩,
   ⟨some 43, .mv (.t 42), none⟩,
   ⟨some 44, .faddr 1 (.t 8), some (43, false)⟩,
   ⟨some 45, .load 1 false (.t 44), some (43, false)⟩,
   ⟨some 46, .bin .neq (.t 45) (.k (.int .i64 0)), some (43, false)⟩,
   ⟨some 47, .pick (.t 43) (.k (.bool true)) (.t 46), none⟩])
 (.cond (.t 47) (.seq (.region [
     ⟨some 48, .call K.rabbetlaw08_awake [], none⟩,
     ⟨some 49, .mv (.t 48), none⟩,
     ⟨some 50, .faddr 1 (.t 10), some (49, true)⟩,
     ⟨some 51, .load 1 false (.t 50), some (49, true)⟩,
     ⟨some 52, .bin .neq (.t 51) (.k (.int .i64 0)), some (49, true)⟩,
     ⟨some 53, .pick (.t 49) (.t 52) (.k (.bool false)), none⟩,
     ⟨some 4, .mv (.t 53), none⟩])
   (.ret))
   (.skip)))
 (.seq (.region [
   ⟨some 11, .mv (.k (.int .i64 1)), none⟩])
 (.join [11] [12, 54, 55, 56, 57, 58, 59, 60, 61, 62, 63, 64, 65] (.seq (.region [
   ⟨some 12, .mv (.k (.int .i64 0)), none⟩])
 (.block 0 (.loop [11, 12] [54, 55, 56, 57, 58, 59, 60, 61, 62, 63, 64, 65] (.seq (.seq (.region [
   ⟨some 54, .mv (.t 12), none⟩,
   ⟨some 55, .mv (.t 0), none⟩,
   ⟨some 56, .len true (.t 55), none⟩,
   ⟨some 57, .bin .lss (.t 54) (.t 56), none⟩])
 (.cond (.t 57) (.skip)
   (.exit 0)))
 (.join [11] [60, 61, 62, 63, 64, 65] (.block 1 (.seq (.region [
   ⟨some 60, .mv (.t 0), none⟩,
   ⟨some 61, .mv (.t 12), none⟩,
   ⟨some 62, .idxs (.t 60) (.t 61), none⟩,
   ⟨some 63, .bin .eql (.t 62) (.k (.int .u8 10)), none⟩])
 (.cond (.t 63) (.region [
     ⟨some 64, .mv (.t 11), none⟩,
     ⟨some 65, .bin .add (.t 64) (.k (.int .i64 1)), none⟩,
     ⟨some 11, .mv (.t 65), none⟩])
   (.skip))))
 (.region [
   ⟨some 58, .mv (.t 12), none⟩,
   ⟨some 59, .bin .add (.t 58) (.k (.int .i64 1)), none⟩,
   ⟨some 12, .mv (.t 59), none⟩]))))))
 (.join [] [4, 66, 67, 68, 69, 70, 71, 72, 73, 74, 75, 76, 77, 78] (.join [78] [66, 67, 68, 69, 70, 71, 72, 73, 74, 75, 76, 77] (.region [
   ⟨some 66, .faddr 1 (.t 10), none⟩,
   ⟨some 67, .load 1 false (.t 66), none⟩,
   ⟨some 68, .bin .neq (.t 67) (.k (.int .i64 0)), none⟩,
   ⟨some 69, .mv (.t 68), none⟩,
   ⟨some 70, .mv (.t 9), some (69, false)⟩,
   ⟨some 71, .len false (.t 70), some (69, false)⟩,
   ⟨some 72, .mv (.t 5), some (69, false)⟩,
   ⟨some 73, .len false (.t 72), some (69, false)⟩,
   ⟨some 74, .mv (.t 7), some (69, false)⟩,
   ⟨some 75, .len false (.t 74), some (69, false)⟩,
   ⟨some 76, .bin .add (.t 73) (.t 75), some (69, false)⟩,
   ⟨some 77, .bin .neq (.t 71) (.t 76), some (69, false)⟩,
   ⟨some 78, .pick (.t 69) (.k (.bool true)) (.t 77), none⟩])
 (.cond (.t 78) (.seq (.region [
     ⟨some 4, .mv (.k (.bool false)), none⟩])
   (.ret))
   (.skip)))
 (.join [] [4, 13, 14, 79, 80, 81, 82, 83, 84, 85, 86, 87, 88, 89, 90, 91, 92, 93, 94, 95, 96, 97, 98, 99, 100, 101, 102, 103, 104, 105, 106, 107, 108, 109, 110, 111] (.seq (.region [
   ⟨some 13, .mv (.k (.int .i64 0)), none⟩])
 (.block 2 (.loop [13] [4, 14, 79, 80, 81, 82, 83, 84, 85, 86, 87, 88, 89, 90, 91, 92, 93, 94, 95, 96, 97, 98, 99, 100, 101, 102, 103, 104, 105, 106, 107, 108, 109, 110, 111] (.seq (.seq (.region [
   ⟨some 79, .mv (.t 13), none⟩,
   ⟨some 80, .mv (.t 9), none⟩,
   ⟨some 81, .len false (.t 80), none⟩,
   ⟨some 82, .bin .lss (.t 79) (.t 81), none⟩])
 (.cond (.t 82) (.skip)
   (.exit 2)))
 (.join [] [4, 14, 85, 86, 87, 88, 89, 90, 91, 92, 93, 94, 95, 96, 97, 98, 99, 100, 101, 102, 103, 104, 105, 106, 107, 108, 109, 110, 111] (.block 3 (.seq (.region [
   ⟨some 85, .build [.str [], .int .i64 0] [], none⟩,
   ⟨some 14, .alloc true [.str [], .int .i64 0], none⟩,
   ⟨none, .store 2 (.t 14) (.t 85), none⟩])
 (.join [] [86, 87, 88, 89, 90, 91, 92, 93, 94, 95, 96, 97, 98, 99, 100, 101, 102, 103, 104, 105] (.seq (.region [
   ⟨some 86, .mv (.t 13), none⟩,
   ⟨some 87, .mv (.t 5), none⟩,
   ⟨some 88, .len false (.t 87), none⟩,
   ⟨some 89, .bin .lss (.t 86) (.t 88), none⟩])
 (.cond (.t 89) (.region [
     ⟨some 90, .mv (.t 5), none⟩,
     ⟨some 91, .mv (.t 13), none⟩,
     ⟨some 92, .iaddr none 2 (.t 90) (.t 91), none⟩,
     ⟨some 93, .load 2 true (.t 92), none⟩,
     ⟨none, .store 2 (.t 14) (.t 93), none⟩])
   (.seq (.region [
     ⟨some 94, .mv (.t 7), none⟩,
     ⟨some 95, .mv (.t 13), none⟩,
     ⟨some 96, .mv (.t 5), none⟩,
     ⟨some 97, .len false (.t 96), none⟩,
     ⟨some 98, .bin .sub (.t 95) (.t 97), none⟩,
     ⟨some 99, .iaddr none 2 (.t 94) (.t 98), none⟩,
     ⟨some 100, .load 2 true (.t 99), none⟩,
     ⟨none, .store 2 (.t 14) (.t 100), none⟩])
   (.region [
     ⟨some 101, .faddr 1 (.t 14), none⟩,
     ⟨some 102, .load 1 false (.t 101), none⟩,
     ⟨some 103, .mv (.t 11), none⟩,
     ⟨some 104, .bin .add (.t 102) (.t 103), none⟩,
     ⟨some 105, .faddr 1 (.t 14), none⟩,
     ⟨none, .store 1 (.t 105) (.t 104), none⟩]))))
 (.seq (.draw [
   ⟨some 106, .mv (.t 9), none⟩,
   ⟨some 107, .mv (.t 13), none⟩,
   ⟨some 108, .iaddr none 2 (.t 106) (.t 107), none⟩,
   ⟨some 109, .load 2 true (.t 108), none⟩,
   ⟨some 110, .load 2 true (.t 14), none⟩,
   ⟨some 111, .eqagg true [.t, .n] (.t 109) (.t 110), none⟩]
 [[], [], [0, 1], [0, 1, 2], [], [0, 1, 2, 3, 4]] [] [0, 1, 2, 3, 4, 5])
 (.cond (.t 111) (.seq (.region [
     ⟨some 4, .mv (.k (.bool false)), none⟩])
   (.ret))
   (.skip))))))
 (.region [
   ⟨some 83, .mv (.t 13), none⟩,
   ⟨some 84, .bin .add (.t 83) (.k (.int .i64 1)), none⟩,
   ⟨some 13, .mv (.t 84), none⟩]))))))
 (.seq (.region [
   ⟨some 112, .call K.rabbetlaw08_awake [], none⟩,
   ⟨some 4, .mv (.t 112), none⟩])
 (.ret)))))))))))⟩
theorem eq_rabbetlaw08_LexJoins (Φ : Calls') (a0 a1 : AV) (H : AH) (Q : Post) : fnE1 Φ ir_rabbetlaw08_LexJoins [a0, a1] H Q = rabbetlaw08_LexJoins Φ a0 a1 H Q := by kernel_rfl

/-! rabbet/lex.Tokens -/
def lex_Tokens_k1 (Φ : Calls') (x1 : AV) (x9 : AV) (Q : Post) : List AV → AH → Prop := fun j11 H12 =>
 Do (anilck x9) fun x29 =>
 Do (afaddr 3 x29) fun x30 =>
 Do (aload H12 1 false x30) fun x31 =>
 Do (abuild [.int .i64 0, .int .i64 0] []) fun x32 =>
 Do (astore H12 2 x1 x32) fun H33 =>
 Do (aload H33 2 true x1) fun x34 =>
 Q (.tup [x31, x34]) H33
def lex_Tokens_l2 (Φ : Calls') (a0 : AV) (x1 : AV) (x9 : AV) (Q : Post) : (List AV × AH) → ((List AV × AH) → Prop) → Prop := fun s13 L14 =>
 Do (anilck x9) fun x15 =>
 Do (afaddr 1 x15) fun x16 =>
 Do (aload s13.2 1 false x16) fun x17 =>
 Do (alen true a0) fun x18 =>
 Do (abin .lss x17 x18) fun x19 =>
 Gd x19 true (
Φ K.lex_scanner_next [x9] s13.2 fun x20 H21 =>
 Do (aun .not x20) fun x22 =>
 Gd x22 true (
 Do (anilck x9) fun x23 =>
 Do (afaddr 2 x23) fun x24 =>
 Do (aload H21 1 false x24) fun x25 =>
 Do (abuild [.int .i64 0, .int .i64 0] [(0, 1, x25), (1, 1, (.int .i64 3))]) fun x26 =>
 Do (astore H21 2 x1 x26) fun H27 =>
 Do (aload H27 2 true x1) fun x28 =>
 Q (.tup [(.lst .nil 0 []), x28]) H27) (
 L14 ([], H21))) (
 JoinP (lex_Tokens_k1 Φ x1 x9 Q) [] s13.2)
def lex_Tokens (Φ : Calls') (a0 : AV) (H : AH) (Q : Post) : Prop :=
 DoH (some (abox H true [.int .i64 0, .int .i64 0])) fun x1 H2 =>
 Do (alen true a0) fun x3 =>
 Do (abin .gtr x3 (.int .i64 1048576)) fun x4 =>
 Gd x4 true (
 Do (abuild [.int .i64 0, .int .i64 0] [(1, 1, (.int .i64 12))]) fun x5 =>
 Do (astore H2 2 x1 x5) fun H6 =>
 Do (aload H6 2 true x1) fun x7 =>
 Q (.tup [(.lst .nil 0 []), x7]) H6) (
 Do (abuild [.str [], .int .i64 0, .int .i64 0, .lst .nil 0 []] [(0, 1, a0), (2, 1, (.int .i64 1))]) fun x8 =>
 DoH (aboxv H2 true 4 x8) fun x9 H10 =>
 LoopP (lex_Tokens_l2 Φ a0 x1 x9 Q) ([], H10))
def ir_lex_Tokens : AFunc := ⟨32, [.tmp 2, .cell 3 2 true],
 .seq (.region [
   ⟨some 2, .mv (.k (.lst .nil 0 [])), none⟩,
   ⟨some 3, .alloc true [.int .i64 0, .int .i64 0], none⟩])
 (.seq (.seq (.region [
   ⟨some 5, .mv (.t 0), none⟩,
   ⟨some 6, .len true (.t 5), none⟩,
   ⟨some 7, .bin .gtr (.t 6) (.k (.int .i64 1048576)), none⟩])
 (.cond (.t 7) (.seq (.region [
     ⟨some 8, .build [.int .i64 0, .int .i64 0] [(1, 1, (.k (.int .i64 12)))], none⟩,
     ⟨some 2, .mv (.k (.lst .nil 0 [])), none⟩,
     ⟨none, .store 2 (.t 3) (.t 8), none⟩])
   (.ret))
   (.skip)))
 (.seq (.region [
   ⟨some 9, .mv (.t 0), none⟩,
   ⟨some 10, .build [.str [], .int .i64 0, .int .i64 0, .lst .nil 0 []] [(0, 1, (.t 9)), (2, 1, (.k (.int .i64 1)))], none⟩,
   ⟨some 11, .box true 4 (.t 10), none⟩,
   ⟨some 4, .mv (.t 11), none⟩])
 (.join [] [2, 12, 13, 14, 15, 16, 17, 18, 19, 20, 21, 22, 23, 24, 25, 26] (.block 0 (.loop [] [2, 12, 13, 14, 15, 16, 17, 18, 19, 20, 21, 22, 23, 24, 25, 26] (.seq (.seq (.region [
   ⟨some 12, .mv (.t 4), none⟩,
   ⟨some 13, .nilck (.t 12), none⟩,
   ⟨some 14, .faddr 1 (.t 13), none⟩,
   ⟨some 15, .load 1 false (.t 14), none⟩,
   ⟨some 16, .mv (.t 0), none⟩,
   ⟨some 17, .len true (.t 16), none⟩,
   ⟨some 18, .bin .lss (.t 15) (.t 17), none⟩])
 (.cond (.t 18) (.skip)
   (.exit 0)))
 (.block 1 (.seq (.region [
   ⟨some 19, .mv (.t 4), none⟩,
   ⟨some 20, .call K.lex_scanner_next [(.t 19)], none⟩,
   ⟨some 21, .un .not (.t 20), none⟩])
 (.cond (.t 21) (.seq (.draw [
     ⟨some 22, .mv (.t 4), none⟩,
     ⟨some 23, .nilck (.t 22), none⟩,
     ⟨some 24, .faddr 2 (.t 23), none⟩,
     ⟨some 25, .load 1 false (.t 24), none⟩,
     ⟨some 26, .build [.int .i64 0, .int .i64 0] [(0, 1, (.t 25)), (1, 1, (.k (.int .i64 3)))], none⟩,
     ⟨some 2, .mv (.k (.lst .nil 0 [])), none⟩,
     ⟨none, .store 2 (.t 3) (.t 26), none⟩]
   [[], [0], [0, 1], [0, 1, 2], [0, 1, 2, 3], [], [0, 1, 2, 3, 4, 5]] [([0, 1, 2, 3, 4, 5], 6, [])] [])
   (.ret))
   (.skip)))))))
 (.seq (.region [
   ⟨some 27, .mv (.t 4), none⟩,
   ⟨some 28, .nilck (.t 27), none⟩,
   ⟨some 29, .faddr 3 (.t 28), none⟩,
   ⟨some 30, .load 1 false (.t 29), none⟩,
   ⟨some 31, .build [.int .i64 0, .int .i64 0] [], none⟩,
   ⟨some 2, .mv (.t 30), none⟩,
   ⟨none, .store 2 (.t 3) (.t 31), none⟩])
 (.ret)))))⟩
theorem eq_lex_Tokens (Φ : Calls') (a0 : AV) (H : AH) (Q : Post) : fnE1 Φ ir_lex_Tokens [a0] H Q = lex_Tokens Φ a0 H Q := by kernel_rfl

/-! rabbet/rabbetlaw08.awake -/
def rabbetlaw08_awake_k1 (Φ : Calls') (Q : Post) : List AV → AH → Prop := fun j45 H46 =>
 Gd3 (sl j45 0) true (
Φ K.lex_Keyword [(.str [120])] H46 fun x49 H50 =>
 Do (aun .not x49) fun x51 =>
 Q x51 H50) (
 Q (.bool false) H46) (
 False)
def rabbetlaw08_awake_k2 (Φ : Calls') (Q : Post) : List AV → AH → Prop := fun j40 H41 =>
 Gd3 (sl j40 0) true (
Φ K.lex_Keyword [(.str [97, 49, 50, 56])] H41 fun x47 H48 =>
 JoinP (rabbetlaw08_awake_k1 Φ Q) [x47] H48) (
 JoinP (rabbetlaw08_awake_k1 Φ Q) [(.bool false)] H41) (
 False)
def rabbetlaw08_awake_k3 (Φ : Calls') (x12 : AV) (Q : Post) : List AV → AH → Prop := fun j34 H35 =>
 Gd3 (sl j34 0) true (
 Do (aload H35 2 true x12) fun x42 =>
 Do (abuild [.int .i64 0, .int .i64 0] [(0, 1, (.int .i64 2)), (1, 1, (.int .i64 3))]) fun x43 =>
 Do (aeqAgg false [.n, .n] x42 x43) fun x44 =>
 JoinP (rabbetlaw08_awake_k2 Φ Q) [x44] H35) (
 JoinP (rabbetlaw08_awake_k2 Φ Q) [(.bool false)] H35) (
 False)
def rabbetlaw08_awake_k4 (Φ : Calls') (x3 : AV) (x12 : AV) (Q : Post) : List AV → AH → Prop := fun j28 H29 =>
 Gd3 (sl j28 0) true (
 Do (aiaddr none 2 x3 (.int .i64 5)) fun x36 =>
 Do (afaddr 1 x36) fun x37 =>
 Do (aload H29 1 false x37) fun x38 =>
 Do (abin .eql x38 (.int .i64 2)) fun x39 =>
 JoinP (rabbetlaw08_awake_k3 Φ x12 Q) [x39] H29) (
 JoinP (rabbetlaw08_awake_k3 Φ x12 Q) [(.bool false)] H29) (
 False)
def rabbetlaw08_awake_k5 (Φ : Calls') (x3 : AV) (x12 : AV) (Q : Post) : List AV → AH → Prop := fun j22 H23 =>
 Gd3 (sl j22 0) true (
 Do (aiaddr none 2 x3 (.int .i64 5)) fun x30 =>
 Do (afaddr 0 x30) fun x31 =>
 Do (aload H23 1 false x31) fun x32 =>
 Do (abin .eql x32 (.str [60, 60])) fun x33 =>
 JoinP (rabbetlaw08_awake_k4 Φ x3 x12 Q) [x33] H23) (
 JoinP (rabbetlaw08_awake_k4 Φ x3 x12 Q) [(.bool false)] H23) (
 False)
def rabbetlaw08_awake_k6 (Φ : Calls') (x3 : AV) (x12 : AV) (Q : Post) : List AV → AH → Prop := fun j15 H16 =>
 Gd3 (sl j15 0) true (
 Do (aiaddr none 2 x3 (.int .i64 1)) fun x24 =>
 Do (afaddr 0 x24) fun x25 =>
 Do (aload H16 1 false x25) fun x26 =>
 Do (abin .eql x26 (.str [120, 49])) fun x27 =>
 JoinP (rabbetlaw08_awake_k5 Φ x3 x12 Q) [x27] H16) (
 JoinP (rabbetlaw08_awake_k5 Φ x3 x12 Q) [(.bool false)] H16) (
 False)
def rabbetlaw08_awake (Φ : Calls') (H : AH) (Q : Post) : Prop :=
Φ K.lex_Tokens [(.str [108, 101, 116, 32, 120, 49, 32, 61, 10, 40, 32, 53, 60, 60, 121, 32, 41])] H fun x1 H2 =>
 Do (aextract 0 x1) fun x3 =>
 Do (aextract 1 x1) fun x4 =>
 DoH (some (abox H2 true [.int .i64 0, .int .i64 0])) fun x5 H6 =>
 Do (astore H6 2 x5 x4) fun H7 =>
Φ K.lex_Tokens [(.str [97, 10, 62])] H7 fun x8 H9 =>
 Do (aextract 0 x8) fun x10 =>
 Do (aextract 1 x8) fun x11 =>
 DoH (some (abox H9 true [.int .i64 0, .int .i64 0])) fun x12 H13 =>
 Do (astore H13 2 x12 x11) fun H14 =>
 Do (afaddr 1 x5) fun x17 =>
 Do (aload H14 1 false x17) fun x18 =>
 Do (abin .eql x18 (.int .i64 0)) fun x19 =>
 Gd3 x19 true (
 Do (alen false x3) fun x20 =>
 Do (abin .eql x20 (.int .i64 8)) fun x21 =>
 JoinP (rabbetlaw08_awake_k6 Φ x3 x12 Q) [x21] H14) (
 JoinP (rabbetlaw08_awake_k6 Φ x3 x12 Q) [(.bool false)] H14) (
 False)
def ir_rabbetlaw08_awake : AFunc := ⟨54, [.tmp 0],
 .seq (.region [
   ⟨some 0, .mv (.k (.bool false)), none⟩])
 (.seq (.region [
   ⟨some 6, .call K.lex_Tokens [(.k (.str [108, 101, 116, 32, 120, 49, 32, 61, 10, 40, 32, 53, 60, 60, 121, 32, 41]))], none⟩,
   ⟨some 5, .mv (.t 6), none⟩,
   ⟨some 7, .extract 0 (.t 5), none⟩,
   ⟨some 8, .extract 1 (.t 5), none⟩,
   ⟨some 2, .alloc true [.int .i64 0, .int .i64 0], none⟩,
   ⟨some 1, .mv (.t 7), none⟩,
   ⟨none, .store 2 (.t 2) (.t 8), none⟩])
 (.seq (.region [
   ⟨some 10, .call K.lex_Tokens [(.k (.str [97, 10, 62]))], none⟩,
   ⟨some 9, .mv (.t 10), none⟩,
   ⟨some 11, .extract 0 (.t 9), none⟩,
   ⟨some 12, .extract 1 (.t 9), none⟩,
   ⟨some 4, .alloc true [.int .i64 0, .int .i64 0], none⟩,
   ⟨some 3, .mv (.t 11), none⟩,
   ⟨none, .store 2 (.t 4) (.t 12), none⟩])
 (.seq (.rjoin [20] [13, 14, 15, 16, 17, 18, 19] [
   ⟨some 13, .faddr 1 (.t 2), none⟩,
   ⟨some 14, .load 1 false (.t 13), none⟩,
   ⟨some 15, .bin .eql (.t 14) (.k (.int .i64 0)), none⟩,
   ⟨some 16, .mv (.t 15), none⟩,
   ⟨some 17, .mv (.t 1), some (16, true)⟩,
   ⟨some 18, .len false (.t 17), some (16, true)⟩,
   ⟨some 19, .bin .eql (.t 18) (.k (.int .i64 8)), some (16, true)⟩,
   ⟨some 20, .pick (.t 16) (.t 19) (.k (.bool false)), none⟩]
 (.rjoin [27] [21, 22, 23, 24, 25, 26] [
   ⟨some 21, .mv (.t 20), none⟩,
   ⟨some 22, .mv (.t 1), some (21, true)⟩,
   ⟨some 23, .iaddr none 2 (.t 22) (.k (.int .i64 1)), some (21, true)⟩,
   ⟨some 24, .faddr 0 (.t 23), some (21, true)⟩,
   ⟨some 25, .load 1 false (.t 24), some (21, true)⟩,
   ⟨some 26, .bin .eql (.t 25) (.k (.str [120, 49])), some (21, true)⟩,
   ⟨some 27, .pick (.t 21) (.t 26) (.k (.bool false)), none⟩]
 (.rjoin [34] [28, 29, 30, 31, 32, 33] [
   ⟨some 28, .mv (.t 27), none⟩,
   ⟨some 29, .mv (.t 1), some (28, true)⟩,
   ⟨some 30, .iaddr none 2 (.t 29) (.k (.int .i64 5)), some (28, true)⟩,
   ⟨some 31, .faddr 0 (.t 30), some (28, true)⟩,
   ⟨some 32, .load 1 false (.t 31), some (28, true)⟩,
   ⟨some 33, .bin .eql (.t 32) (.k (.str [60, 60])), some (28, true)⟩,
   ⟨some 34, .pick (.t 28) (.t 33) (.k (.bool false)), none⟩]
 (.rjoin [41] [35, 36, 37, 38, 39, 40] [
   ⟨some 35, .mv (.t 34), none⟩,
   ⟨some 36, .mv (.t 1), some (35, true)⟩,
   ⟨some 37, .iaddr none 2 (.t 36) (.k (.int .i64 5)), some (35, true)⟩,
   ⟨some 38, .faddr 1 (.t 37), some (35, true)⟩,
   ⟨some 39, .load 1 false (.t 38), some (35, true)⟩,
   ⟨some 40, .bin .eql (.t 39) (.k (.int .i64 2)), some (35, true)⟩,
   ⟨some 41, .pick (.t 35) (.t 40) (.k (.bool false)), none⟩]
 (.rjoin [46] [42, 43, 44, 45] [
   ⟨some 42, .mv (.t 41), none⟩,
   ⟨some 43, .load 2 true (.t 4), some (42, true)⟩,
   ⟨some 44, .build [.int .i64 0, .int .i64 0] [(0, 1, (.k (.int .i64 2))), (1, 1, (.k (.int .i64 3)))], some (42, true)⟩,
   ⟨some 45, .eqagg false [.n, .n] (.t 43) (.t 44), some (42, true)⟩,
   ⟨some 46, .pick (.t 42) (.t 45) (.k (.bool false)), none⟩]
 (.rjoin [49] [47, 48] [
   ⟨some 47, .mv (.t 46), none⟩,
   ⟨some 48, .call K.lex_Keyword [(.k (.str [97, 49, 50, 56]))], some (47, true)⟩,
   ⟨some 49, .pick (.t 47) (.t 48) (.k (.bool false)), none⟩]
 (.region [
   ⟨some 50, .mv (.t 49), none⟩,
   ⟨some 51, .call K.lex_Keyword [(.k (.str [120]))], some (50, true)⟩,
   ⟨some 52, .un .not (.t 51), some (50, true)⟩,
   ⟨some 53, .pick (.t 50) (.t 52) (.k (.bool false)), none⟩,
   ⟨some 0, .mv (.t 53), none⟩])))))))
 (.ret))))⟩
theorem eq_rabbetlaw08_awake (Φ : Calls') (H : AH) (Q : Post) : fnE1 Φ ir_rabbetlaw08_awake [] H Q = rabbetlaw08_awake Φ H Q := by kernel_rfl

/-! (rabbet/lex.scanner).next -/
def lex_scanner_next (Φ : Calls') (a0 : AV) (H : AH) (Q : Post) : Prop :=
 Do (anilck a0) fun x1 =>
 Do (afaddr 0 x1) fun x2 =>
 Do (aload H 1 false x2) fun x3 =>
 Do (anilck a0) fun x4 =>
 Do (afaddr 1 x4) fun x5 =>
 Do (aload H 1 false x5) fun x6 =>
 Do (aidxs x3 x6) fun x7 =>
 Do (abin .eql x7 (.int .u8 10)) fun x8 =>
 Gd x8 true (
 Do (anilck a0) fun x9 =>
 Do (afaddr 2 x9) fun x10 =>
 Do (aload H 1 false x10) fun x11 =>
 Do (abin .add x11 (.int .i64 1)) fun x12 =>
 Do (anilck a0) fun x13 =>
 Do (afaddr 2 x13) fun x14 =>
 Do (astore H 1 x14 x12) fun H15 =>
 Do (anilck a0) fun x16 =>
 Do (afaddr 1 x16) fun x17 =>
 Do (aload H15 1 false x17) fun x18 =>
 Do (abin .add x18 (.int .i64 1)) fun x19 =>
 Do (anilck a0) fun x20 =>
 Do (afaddr 1 x20) fun x21 =>
 Do (astore H15 1 x21 x19) fun H22 =>
 Q (.bool true) H22) (
 Do (abin .eql x7 (.int .u8 32)) fun x23 =>
 Gd x23 true (
 Do (anilck a0) fun x24 =>
 Do (afaddr 1 x24) fun x25 =>
 Do (aload H 1 false x25) fun x26 =>
 Do (abin .add x26 (.int .i64 1)) fun x27 =>
 Do (anilck a0) fun x28 =>
 Do (afaddr 1 x28) fun x29 =>
 Do (astore H 1 x29 x27) fun H30 =>
 Q (.bool true) H30) (
Φ K.lex_letter [x7] H fun x31 H32 =>
 Gd x31 true (
Φ K.lex_scanner_word [a0] H32 fun x33 H34 =>
 Q x33 H34) (
Φ K.lex_digit [x7] H32 fun x35 H36 =>
 Gd x35 true (
Φ K.lex_scanner_number [a0] H36 fun x37 H38 =>
 Q x37 H38) (
Φ K.lex_scanner_sign [a0] H36 fun x39 H40 =>
 Q x39 H40))))
def ir_lex_scanner_next : AFunc := ⟨52, [.tmp 2],
 .seq (.region [
   ⟨some 2, .mv (.k (.bool false)), none⟩])
 (.seq (.seq (.draw [
   ⟨some 4, .mv (.t 0), none⟩,
   ⟨some 5, .nilck (.t 4), none⟩,
   ⟨some 6, .faddr 0 (.t 5), none⟩,
   ⟨some 7, .load 1 false (.t 6), none⟩,
   ⟨some 8, .mv (.t 0), none⟩,
   ⟨some 9, .nilck (.t 8), none⟩,
   ⟨some 10, .faddr 1 (.t 9), none⟩,
   ⟨some 11, .load 1 false (.t 10), none⟩,
   ⟨some 12, .idxs (.t 7) (.t 11), none⟩,
   ⟨some 3, .mv (.t 12), none⟩]
 [[], [0], [0, 1], [0, 1, 2], [], [4], [4, 5], [4, 5, 6], [0, 1, 2, 3, 4, 5, 6, 7], [0, 1, 2, 3, 4, 5, 6, 7, 8]] [] [0, 1, 2, 3, 4, 5, 6, 7, 8, 9])
 (.block 0 (.seq (.region [
   ⟨some 16, .mv (.t 3), none⟩,
   ⟨some 17, .bin .eql (.t 16) (.k (.int .u8 10)), none⟩,
   ⟨some 15, .mv (.t 17), none⟩])
 (.cond (.t 15) (.seq (.region [
     ⟨some 18, .mv (.t 0), none⟩,
     ⟨some 19, .nilck (.t 18), none⟩,
     ⟨some 20, .faddr 2 (.t 19), none⟩,
     ⟨some 21, .load 1 false (.t 20), none⟩,
     ⟨some 22, .bin .add (.t 21) (.k (.int .i64 1)), none⟩,
     ⟨some 23, .nilck (.t 18), none⟩,
     ⟨some 24, .faddr 2 (.t 23), none⟩,
     ⟨none, .store 1 (.t 24) (.t 22), none⟩])
   (.region [
     ⟨some 25, .mv (.t 0), none⟩,
     ⟨some 26, .nilck (.t 25), none⟩,
     ⟨some 27, .faddr 1 (.t 26), none⟩,
     ⟨some 28, .load 1 false (.t 27), none⟩,
     ⟨some 29, .bin .add (.t 28) (.k (.int .i64 1)), none⟩,
     ⟨some 30, .nilck (.t 25), none⟩,
     ⟨some 31, .faddr 1 (.t 30), none⟩,
     ⟨none, .store 1 (.t 31) (.t 29), none⟩]))
   (.seq (.region [
     ⟨some 33, .mv (.t 3), none⟩,
     ⟨some 34, .bin .eql (.t 33) (.k (.int .u8 32)), none⟩,
     ⟨some 32, .mv (.t 34), none⟩])
   (.cond (.t 32) (.region [
       ⟨some 35, .mv (.t 0), none⟩,
       ⟨some 36, .nilck (.t 35), none⟩,
       ⟨some 37, .faddr 1 (.t 36), none⟩,
       ⟨some 38, .load 1 false (.t 37), none⟩,
       ⟨some 39, .bin .add (.t 38) (.k (.int .i64 1)), none⟩,
       ⟨some 40, .nilck (.t 35), none⟩,
       ⟨some 41, .faddr 1 (.t 40), none⟩,
       ⟨none, .store 1 (.t 41) (.t 39), none⟩])
     (.seq (.region [
       ⟨some 43, .mv (.t 3), none⟩,
       ⟨some 44, .call K.lex_letter [(.t 43)], none⟩,
       ⟨some 42, .mv (.t 44), none⟩])
     (.cond (.t 42) (.seq (.region [
         ⟨some 45, .mv (.t 0), none⟩,
         ⟨some 46, .call K.lex_scanner_word [(.t 45)], none⟩,
         ⟨some 2, .mv (.t 46), none⟩])
       (.ret))
       (.seq (.region [
         ⟨some 48, .mv (.t 3), none⟩,
         ⟨some 49, .call K.lex_digit [(.t 48)], none⟩,
         ⟨some 47, .mv (.t 49), none⟩])
       (.cond (.t 47) (.seq (.region [
           ⟨some 50, .mv (.t 0), none⟩,
           ⟨some 51, .call K.lex_scanner_number [(.t 50)], none⟩,
           ⟨some 2, .mv (.t 51), none⟩])
         (.ret))
         (.seq (.region [
           ⟨some 13, .mv (.t 0), none⟩,
           ⟨some 14, .call K.lex_scanner_sign [(.t 13)], none⟩,
           ⟨some 2, .mv (.t 14), none⟩])
         (.ret))))))))))))
 (.seq (.region [
   ⟨some 2, .mv (.k (.bool true)), none⟩])
 (.ret)))⟩
theorem eq_lex_scanner_next (Φ : Calls') (a0 : AV) (H : AH) (Q : Post) : fnE1 Φ ir_lex_scanner_next [a0] H Q = lex_scanner_next Φ a0 H Q := by kernel_rfl

/-! rabbet/lex.Keyword -/
def lex_Keyword (Φ : Calls') (a0 : AV) (H : AH) (Q : Post) : Prop :=
Φ K.strings_Fields [(.str [118, 97, 114, 32, 116, 104, 114, 101, 97, 100, 32, 115, 116, 114, 117, 99, 116, 32, 117, 110, 105, 111, 110, 32, 112, 97, 99, 107, 101, 100, 32, 117, 56, 32, 117, 49, 54, 32, 117, 51, 50, 32, 117, 54, 52, 32, 97, 56, 32, 97, 49, 54, 32, 97, 51, 50, 32, 97, 54, 52, 32, 97, 49, 50, 56, 32, 108, 101, 116, 32, 115, 101, 116, 32, 119, 114, 105, 116, 101, 32, 115, 116, 111, 114, 101, 32, 108, 111, 97, 100, 50, 32, 115, 116, 111, 114, 101, 50, 32, 102, 101, 110, 99, 101, 32, 105, 102, 32, 101, 108, 115, 101, 32, 119, 104, 105, 108, 101, 32, 112, 114, 105, 110, 116, 32, 114, 101, 97, 100, 32, 108, 111, 97, 100, 32, 97, 100, 100, 32, 115, 119, 97, 112, 32, 99, 97, 115, 32, 114, 108, 120, 32, 97, 99, 113, 32, 114, 101, 108, 32, 115, 99])] H fun x1 H2 =>
Φ K.slices_Contains___string_string_ [x1, a0] H2 fun x3 H4 =>
 Q x3 H4
def ir_lex_Keyword : AFunc := ⟨6, [.tmp 2],
 .seq (.region [
   ⟨some 2, .mv (.k (.bool false)), none⟩])
 (.seq (.region [
   ⟨some 3, .call K.strings_Fields [(.k (.str [118, 97, 114, 32, 116, 104, 114, 101, 97, 100, 32, 115, 116, 114, 117, 99, 116, 32, 117, 110, 105, 111, 110, 32, 112, 97, 99, 107, 101, 100, 32, 117, 56, 32, 117, 49, 54, 32, 117, 51, 50, 32, 117, 54, 52, 32, 97, 56, 32, 97, 49, 54, 32, 97, 51, 50, 32, 97, 54, 52, 32, 97, 49, 50, 56, 32, 108, 101, 116, 32, 115, 101, 116, 32, 119, 114, 105, 116, 101, 32, 115, 116, 111, 114, 101, 32, 108, 111, 97, 100, 50, 32, 115, 116, 111, 114, 101, 50, 32, 102, 101, 110, 99, 101, 32, 105, 102, 32, 101, 108, 115, 101, 32, 119, 104, 105, 108, 101, 32, 112, 114, 105, 110, 116, 32, 114, 101, 97, 100, 32, 108, 111, 97, 100, 32, 97, 100, 100, 32, 115, 119, 97, 112, 32, 99, 97, 115, 32, 114, 108, 120, 32, 97, 99, 113, 32, 114, 101, 108, 32, 115, 99]))], none⟩,
   ⟨some 4, .mv (.t 0), none⟩,
   ⟨some 5, .call K.slices_Contains___string_string_ [(.t 3), (.t 4)], none⟩,
   ⟨some 2, .mv (.t 5), none⟩])
 (.ret))⟩
theorem eq_lex_Keyword (Φ : Calls') (a0 : AV) (H : AH) (Q : Post) : fnE1 Φ ir_lex_Keyword [a0] H Q = lex_Keyword Φ a0 H Q := by kernel_rfl

/-! rabbet/lex.letter -/
def lex_letter (Φ : Calls') (a0 : AV) (H : AH) (Q : Post) : Prop :=
 Do (abin .geq a0 (.int .u8 97)) fun x1 =>
 Gd3 x1 true (
 Do (abin .leq a0 (.int .u8 122)) fun x2 =>
 Q x2 H) (
 Q (.bool false) H) (
 False)
def ir_lex_letter : AFunc := ⟨9, [.tmp 2],
 .seq (.region [
   ⟨some 2, .mv (.k (.bool false)), none⟩])
 (.seq (.region [
   ⟨some 3, .mv (.t 0), none⟩,
   ⟨some 4, .bin .geq (.t 3) (.k (.int .u8 97)), none⟩,
   ⟨some 5, .mv (.t 4), none⟩,
   ⟨some 6, .mv (.t 0), some (5, true)⟩,
   ⟨some 7, .bin .leq (.t 6) (.k (.int .u8 122)), some (5, true)⟩,
   ⟨some 8, .pick (.t 5) (.t 7) (.k (.bool false)), none⟩,
   ⟨some 2, .mv (.t 8), none⟩])
 (.ret))⟩
theorem eq_lex_letter (Φ : Calls') (a0 : AV) (H : AH) (Q : Post) : fnE1 Φ ir_lex_letter [a0] H Q = lex_letter Φ a0 H Q := by kernel_rfl

/-! (rabbet/lex.scanner).word -/
def lex_scanner_word (Φ : Calls') (a0 : AV) (H : AH) (Q : Post) : Prop :=
Φ K.lex_scanner_run [a0, (.fn K.lex_part [])] H fun x1 H2 =>
 Do (abin .gtr x1 (.int .i64 16)) fun x3 =>
 Gd x3 true (
 Q (.bool false) H2) (
Φ K.lex_scanner_take [a0, x1] H2 fun x4 H5 =>
 Q (.bool true) H5)
def ir_lex_scanner_word : AFunc := ⟨11, [.tmp 2],
 .seq (.region [
   ⟨some 2, .mv (.k (.bool false)), none⟩])
 (.seq (.region [
   ⟨some 4, .mv (.t 0), none⟩,
   ⟨some 5, .call K.lex_scanner_run [(.t 4), (.k (.fn K.lex_part []))], none⟩,
   ⟨some 3, .mv (.t 5), none⟩])
 (.seq (.seq (.region [
   ⟨some 6, .mv (.t 3), none⟩,
   ⟨some 7, .bin .gtr (.t 6) (.k (.int .i64 16)), none⟩])
 (.cond (.t 7) (.seq (.region [
     ⟨some 2, .mv (.k (.bool false)), none⟩])
   (.ret))
   (.skip)))
 (.seq (.region [
   ⟨some 8, .mv (.t 0), none⟩,
   ⟨some 9, .mv (.t 3), none⟩,
   ⟨some 10, .call K.lex_scanner_take [(.t 8), (.t 9)], none⟩])
 (.seq (.region [
   ⟨some 2, .mv (.k (.bool true)), none⟩])
 (.ret)))))⟩
theorem eq_lex_scanner_word (Φ : Calls') (a0 : AV) (H : AH) (Q : Post) : fnE1 Φ ir_lex_scanner_word [a0] H Q = lex_scanner_word Φ a0 H Q := by kernel_rfl

/-! rabbet/lex.digit -/
def lex_digit (Φ : Calls') (a0 : AV) (H : AH) (Q : Post) : Prop :=
 Do (abin .geq a0 (.int .u8 48)) fun x1 =>
 Gd3 x1 true (
 Do (abin .leq a0 (.int .u8 57)) fun x2 =>
 Q x2 H) (
 Q (.bool false) H) (
 False)
def ir_lex_digit : AFunc := ⟨9, [.tmp 2],
 .seq (.region [
   ⟨some 2, .mv (.k (.bool false)), none⟩])
 (.seq (.region [
   ⟨some 3, .mv (.t 0), none⟩,
   ⟨some 4, .bin .geq (.t 3) (.k (.int .u8 48)), none⟩,
   ⟨some 5, .mv (.t 4), none⟩,
   ⟨some 6, .mv (.t 0), some (5, true)⟩,
   ⟨some 7, .bin .leq (.t 6) (.k (.int .u8 57)), some (5, true)⟩,
   ⟨some 8, .pick (.t 5) (.t 7) (.k (.bool false)), none⟩,
   ⟨some 2, .mv (.t 8), none⟩])
 (.ret))⟩
theorem eq_lex_digit (Φ : Calls') (a0 : AV) (H : AH) (Q : Post) : fnE1 Φ ir_lex_digit [a0] H Q = lex_digit Φ a0 H Q := by kernel_rfl

/-! (rabbet/lex.scanner).number -/
def lex_scanner_number_k1 (Φ : Calls') (a0 : AV) (x1 : AV) (Q : Post) : List AV → AH → Prop := fun j26 H27 =>
Φ K.lex_scanner_take [a0, x1] H27 fun x42 H43 =>
 Q (.bool true) H43
def lex_scanner_number_k2 (Φ : Calls') (a0 : AV) (x1 : AV) (Q : Post) : List AV → AH → Prop := fun j36 H37 =>
 Gd (sl j36 0) true (
 Q (.bool false) H37) (
 JoinP (lex_scanner_number_k1 Φ a0 x1 Q) [] H37)
def lex_scanner_number_k3 (Φ : Calls') (a0 : AV) (x1 : AV) (Q : Post) : List AV → AH → Prop := fun j18 H19 =>
 Do (anilck a0) fun x28 =>
 Do (afaddr 0 x28) fun x29 =>
 Do (aload H19 1 false x29) fun x30 =>
 Do (anilck a0) fun x31 =>
 Do (afaddr 1 x31) fun x32 =>
 Do (aload H19 1 false x32) fun x33 =>
 Do (abin .add x33 x1) fun x34 =>
 Do (asslice x30 (some x34) none) fun x35 =>
 Do (abin .neq x35 (.str [])) fun x38 =>
 Gd3 x38 true (
 Do (aidxs x35 (.int .i64 0)) fun x39 =>
Φ K.lex_part [x39] H19 fun x40 H41 =>
 JoinP (lex_scanner_number_k2 Φ a0 x1 Q) [x40] H41) (
 JoinP (lex_scanner_number_k2 Φ a0 x1 Q) [(.bool false)] H19) (
 False)
def lex_scanner_number_k4 (Φ : Calls') (a0 : AV) (x1 : AV) (Q : Post) : List AV → AH → Prop := fun j20 H21 =>
 Gd (sl j20 0) true (
 Q (.bool false) H21) (
 JoinP (lex_scanner_number_k3 Φ a0 x1 Q) [] H21)
def lex_scanner_number (Φ : Calls') (a0 : AV) (H : AH) (Q : Post) : Prop :=
Φ K.lex_scanner_run [a0, (.fn K.lex_digit [])] H fun x1 H2 =>
 Do (anilck a0) fun x3 =>
 Do (afaddr 0 x3) fun x4 =>
 Do (aload H2 1 false x4) fun x5 =>
 Do (anilck a0) fun x6 =>
 Do (afaddr 1 x6) fun x7 =>
 Do (aload H2 1 false x7) fun x8 =>
 Do (anilck a0) fun x9 =>
 Do (afaddr 1 x9) fun x10 =>
 Do (aload H2 1 false x10) fun x11 =>
 Do (abin .add x11 x1) fun x12 =>
 Do (asslice x5 (some x8) (some x12)) fun x13 =>
Φ K.strconv_ParseUint [x13, (.int .i64 10), (.int .i64 64)] H2 fun x14 H15 =>
 Do (aextract 0 x14) fun x16 =>
 Do (aextract 1 x14) fun x17 =>
 Do (anil .i true x17) fun x22 =>
 Gd3 x22 false (
 Do (abin .gtr x1 (.int .i64 1)) fun x23 =>
 Gd3 x23 true (
 Do (aidxs x13 (.int .i64 0)) fun x24 =>
 Do (abin .eql x24 (.int .u8 48)) fun x25 =>
 JoinP (lex_scanner_number_k4 Φ a0 x1 Q) [x25] H15) (
 JoinP (lex_scanner_number_k4 Φ a0 x1 Q) [(.bool false)] H15) (
 False)) (
 JoinP (lex_scanner_number_k4 Φ a0 x1 Q) [(.bool true)] H15) (
 False)
def ir_lex_scanner_number : AFunc := ⟨62, [.tmp 2],
 .seq (.region [
   ⟨some 2, .mv (.k (.bool false)), none⟩])
 (.seq (.region [
   ⟨some 8, .mv (.t 0), none⟩,
   ⟨some 9, .call K.lex_scanner_run [(.t 8), (.k (.fn K.lex_digit []))], none⟩,
   ⟨some 3, .mv (.t 9), none⟩])
 (.seq (.draw [
   ⟨some 10, .mv (.t 0), none⟩,
   ⟨some 11, .nilck (.t 10), none⟩,
   ⟨some 12, .faddr 0 (.t 11), none⟩,
   ⟨some 13, .load 1 false (.t 12), none⟩,
   ⟨some 14, .mv (.t 0), none⟩,
   ⟨some 15, .nilck (.t 14), none⟩,
   ⟨some 16, .faddr 1 (.t 15), none⟩,
   ⟨some 17, .load 1 false (.t 16), none⟩,
   ⟨some 18, .mv (.t 0), none⟩,
   ⟨some 19, .nilck (.t 18), none⟩,
   ⟨some 20, .faddr 1 (.t 19), none⟩,
   ⟨some 21, .load 1 false (.t 20), none⟩,
   ⟨some 22, .mv (.t 3), none⟩,
   ⟨some 23, .bin .add (.t 21) (.t 22), none⟩,
   ⟨some 24, .sslice (.t 13) (some (.t 17)) (some (.t 23)), none⟩,
   ⟨some 4, .mv (.t 24), none⟩]
 [[], [0], [0, 1], [0, 1, 2], [], [4], [4, 5], [4, 5, 6], [], [8], [8, 9], [8, 9, 10], [], [8, 9, 10, 11, 12], [0, 1, 2, 3, 4, 5, 6, 7, 8, 9, 10, 11, 12, 13], [0, 1, 2, 3, 4, 5, 6, 7, 8, 9, 10, 11, 12, 13, 14]] [] [0, 1, 2, 3, 4, 5, 6, 7, 8, 9, 10, 11, 12, 13, 14, 15])
 (.seq (.region [
   ⟨some 26, .mv (.t 4), none⟩,
   ⟨some 27, .call K.strconv_ParseUint [(.t 26), (.k (.int .i64 10)), (.k (.int .i64 64))], none⟩,
   ⟨some 25, .mv (.t 27), none⟩,
   ⟨some 28, .extract 0 (.t 25), none⟩,
   ⟨some 29, .extract 1 (.t 25), none⟩,
   ⟨some 5, .mv (.t 28), none⟩,
   ⟨some 6, .mv (.t 29), none⟩])
 (.join [] [2, 30, 31, 32, 33, 34, 35, 36, 37, 38, 39, 40] (.join [40] [30, 31, 32, 33, 34, 35, 36, 37, 38, 39] (.region [
   ⟨some 30, .mv (.t 6), none⟩,
   ⟨some 31, .isnil .i true (.t 30), none⟩,
   ⟨some 32, .mv (.t 31), none⟩,
   ⟨some 33, .mv (.t 3), some (32, false)⟩,
   ⟨some 34, .bin .gtr (.t 33) (.k (.int .i64 1)), some (32, false)⟩,
   ⟨some 35, .mv (.t 34), some (32, false)⟩,
   ⟨some 36, .mv (.t 4), some (35, true)⟩,
   ⟨some 37, .idxs (.t 36) (.k (.int .i64 0)), some (35, true)⟩,
   ⟨some 38, .bin .eql (.t 37) (.k (.int .u8 48)), some (35, true)⟩,
   ⟨some 39, .pick (.t 35) (.t 38) (.k (.bool false)), some (32, false)⟩,
   ⟨some 40, .pick (.t 32) (.k (.bool true)) (.t 39), none⟩])
 (.cond (.t 40) (.seq (.region [
     ⟨some 2, .mv (.k (.bool false)), none⟩])
   (.ret))
   (.skip)))
 (.join [] [2, 7, 41, 42, 43, 44, 45, 46, 47, 48, 49, 50, 51, 52, 53, 54, 55, 56, 57, 58] (.seq (.draw [
   ⟨some 41, .mv (.t 0), none⟩,
   ⟨some 42, .nilck (.t 41), none⟩,
   ⟨some 43, .faddr 0 (.t 42), none⟩,
   ⟨some 44, .load 1 false (.t 43), none⟩,
   ⟨some 45, .mv (.t 0), none⟩,
   ⟨some 46, .nilck (.t 45), none⟩,
   ⟨some 47, .faddr 1 (.t 46), none⟩,
   ⟨some 48, .load 1 false (.t 47), none⟩,
   ⟨some 49, .mv (.t 3), none⟩,
   ⟨some 50, .bin .add (.t 48) (.t 49), none⟩,
   ⟨some 51, .sslice (.t 44) (some (.t 50)) none, none⟩,
   ⟨some 7, .mv (.t 51), none⟩]
 [[], [0], [0, 1], [0, 1, 2], [], [4], [4, 5], [4, 5, 6], [], [4, 5, 6, 7, 8], [0, 1, 2, 3, 4, 5, 6, 7, 8, 9], [0, 1, 2, 3, 4, 5, 6, 7, 8, 9, 10]] [] [0, 1, 2, 3, 4, 5, 6, 7, 8, 9, 10, 11])
 (.join [58] [52, 53, 54, 55, 56, 57] (.region [
   ⟨some 52, .mv (.t 7), none⟩,
   ⟨some 53, .bin .neq (.t 52) (.k (.str [])), none⟩,
   ⟨some 54, .mv (.t 53), none⟩,
   ⟨some 55, .mv (.t 7), some (54, true)⟩,
   ⟨some 56, .idxs (.t 55) (.k (.int .i64 0)), some (54, true)⟩,
   ⟨some 57, .call K.lex_part [(.t 56)], some (54, true)⟩,
   ⟨some 58, .pick (.t 54) (.t 57) (.k (.bool false)), none⟩])
 (.cond (.t 58) (.seq (.region [
     ⟨some 2, .mv (.k (.bool false)), none⟩])
   (.ret))
   (.skip))))
 (.seq (.region [
   ⟨some 59, .mv (.t 0), none⟩,
   ⟨some 60, .mv (.t 3), none⟩,
   ⟨some 61, .call K.lex_scanner_take [(.t 59), (.t 60)], none⟩])
 (.seq (.region [
   ⟨some 2, .mv (.k (.bool true)), none⟩])
 (.ret))))))))⟩
theorem eq_lex_scanner_number (Φ : Calls') (a0 : AV) (H : AH) (Q : Post) : fnE1 Φ ir_lex_scanner_number [a0] H Q = lex_scanner_number Φ a0 H Q := by kernel_rfl

/-! (rabbet/lex.scanner).sign -/
def lex_scanner_sign_k1 (Φ : Calls') (a0 : AV) (Q : Post) : List AV → AH → Prop := fun j1 H2 =>
 Do (anilck a0) fun x21 =>
 Do (afaddr 0 x21) fun x22 =>
 Do (aload H2 1 false x22) fun x23 =>
 Do (anilck a0) fun x24 =>
 Do (afaddr 1 x24) fun x25 =>
 Do (aload H2 1 false x25) fun x26 =>
 Do (aidxs x23 x26) fun x27 =>
Φ K.strings_IndexByte [(.str [123, 125, 91, 93, 40, 41, 59, 58, 44, 46, 95, 61, 43, 45, 42, 38, 124, 94, 60]), x27] H2 fun x28 H29 =>
 Do (abin .lss x28 (.int .i64 0)) fun x30 =>
 Gd x30 true (
 Q (.bool false) H29) (
Φ K.lex_scanner_take [a0, (.int .i64 1)] H29 fun x31 H32 =>
 Q (.bool true) H32)
def lex_scanner_sign_l2 (Φ : Calls') (a0 : AV) (x3 : AV) (Q : Post) : (List AV × AH) → ((List AV × AH) → Prop) → Prop := fun s4 L5 =>
 Do (abin .lss (sl s4.1 0) (.int .i64 4)) fun x6 =>
 Gd x6 true (
 Do (aidx 4 1 false x3 (sl s4.1 0)) fun x7 =>
 Do (anilck a0) fun x8 =>
 Do (afaddr 0 x8) fun x9 =>
 Do (aload s4.2 1 false x9) fun x10 =>
 Do (anilck a0) fun x11 =>
 Do (afaddr 1 x11) fun x12 =>
 Do (aload s4.2 1 false x12) fun x13 =>
 Do (asslice x10 (some x13) none) fun x14 =>
Φ K.strings_HasPrefix [x14, x7] s4.2 fun x15 H16 =>
 Gd x15 true (
 Do (alen true x7) fun x17 =>
Φ K.lex_scanner_take [a0, x17] H16 fun x18 H19 =>
 Q (.bool true) H19) (
 Do (abin .add (sl s4.1 0) (.int .i64 1)) fun x20 =>
 L5 ([x20], H16))) (
 JoinP (lex_scanner_sign_k1 Φ a0 Q) [] s4.2)
def lex_scanner_sign (Φ : Calls') (a0 : AV) (H : AH) (Q : Post) : Prop :=
 Do (abuild [.str [], .str [], .str [], .str []] [(0, 1, (.str [60, 60])), (1, 1, (.str [62, 62])), (2, 1, (.str [61, 61])), (3, 1, (.str [33, 61]))]) fun x3 =>
 LoopP (lex_scanner_sign_l2 Φ a0 x3 Q) ([(.int .i64 0)], H)
def ir_lex_scanner_sign : AFunc := ⟨38, [.tmp 2],
 .seq (.region [
   ⟨some 2, .mv (.k (.bool false)), none⟩])
 (.join [] [2, 4, 5, 6, 7, 8, 9, 10, 11, 12, 13, 14, 15, 16, 17, 18, 19, 20, 21, 22, 23, 24] (.seq (.region [
   ⟨some 5, .build [.str [], .str [], .str [], .str []] [(0, 1, (.k (.str [60, 60]))), (1, 1, (.k (.str [62, 62]))), (2, 1, (.k (.str [61, 61]))), (3, 1, (.k (.str [33, 61])))], none⟩,
   ⟨some 6, .mv (.k (.int .i64 0)), none⟩])
 (.block 0 (.loop [6] [2, 4, 7, 8, 9, 10, 11, 12, 13, 14, 15, 16, 17, 18, 19, 20, 21, 22, 23, 24] (.seq (.region [
   ⟨some 7, .bin .lss (.t 6) (.k (.int .i64 4)), none⟩])
 (.seq (.cond (.t 7) (.skip)
   (.exit 0))
 (.seq (.block 1 (.seq (.region [
   ⟨some 8, .idx 4 1 false (.t 5) (.t 6), none⟩,
   ⟨some 4, .mv (.t 8), none⟩])
 (.seq (.draw [
   ⟨some 9, .mv (.t 0), none⟩,
   ⟨some 10, .nilck (.t 9), none⟩,
   ⟨some 11, .faddr 0 (.t 10), none⟩,
   ⟨some 12, .load 1 false (.t 11), none⟩,
   ⟨some 13, .mv (.t 0), none⟩,
   ⟨some 14, .nilck (.t 13), none⟩,
   ⟨some 15, .faddr 1 (.t 14), none⟩,
   ⟨some 16, .load 1 false (.t 15), none⟩,
   ⟨some 17, .sslice (.t 12) (some (.t 16)) none, none⟩,
   ⟨some 18, .mv (.t 4), none⟩,
   ⟨some 19, .call K.strings_HasPrefix [(.t 17), (.t 18)], none⟩]
 [[], [0], [0, 1], [0, 1, 2], [], [4], [4, 5], [4, 5, 6], [0, 1, 2, 3, 4, 5, 6, 7], [], [0, 1, 2, 3, 4, 5, 6, 7, 8, 9]] [([0, 1, 2, 3, 4, 5, 6, 7, 8, 9], 10, [])] [])
 (.cond (.t 19) (.seq (.region [
     ⟨some 20, .mv (.t 0), none⟩,
     ⟨some 21, .mv (.t 4), none⟩,
     ⟨some 22, .len true (.t 21), none⟩,
     ⟨some 23, .call K.lex_scanner_take [(.t 20), (.t 22)], none⟩])
   (.seq (.region [
     ⟨some 2, .mv (.k (.bool true)), none⟩])
   (.ret)))
   (.skip)))))
 (.region [
   ⟨some 24, .bin .add (.t 6) (.k (.int .i64 1)), none⟩,
   ⟨some 6, .mv (.t 24), none⟩])))))))
 (.seq (.seq (.draw [
   ⟨some 25, .mv (.t 0), none⟩,
   ⟨some 26, .nilck (.t 25), none⟩,
   ⟨some 27, .faddr 0 (.t 26), none⟩,
   ⟨some 28, .load 1 false (.t 27), none⟩,
   ⟨some 29, .mv (.t 0), none⟩,
   ⟨some 30, .nilck (.t 29), none⟩,
   ⟨some 31, .faddr 1 (.t 30), none⟩,
   ⟨some 32, .load 1 false (.t 31), none⟩,
   ⟨some 33, .idxs (.t 28) (.t 32), none⟩,
   ⟨some 34, .call K.strings_IndexByte [(.k (.str [123, 125, 91, 93, 40, 41, 59, 58, 44, 46, 95, 61, 43, 45, 42, 38, 124, 94, 60])), (.t 33)], none⟩,
   ⟨some 35, .bin .lss (.t 34) (.k (.int .i64 0)), none⟩]
 [[], [0], [0, 1], [0, 1, 2], [], [4], [4, 5], [4, 5, 6], [0, 1, 2, 3, 4, 5, 6, 7], [0, 1, 2, 3, 4, 5, 6, 7, 8], [0, 1, 2, 3, 4, 5, 6, 7, 8, 9]] [([0, 1, 2, 3, 4, 5, 6, 7, 8], 9, [])] [10])
 (.cond (.t 35) (.seq (.region [
     ⟨some 2, .mv (.k (.bool false)), none⟩])
   (.ret))
   (.skip)))
 (.seq (.region [
   ⟨some 36, .mv (.t 0), none⟩,
   ⟨some 37, .call K.lex_scanner_take [(.t 36), (.k (.int .i64 1))], none⟩])
 (.seq (.region [
   ⟨some 2, .mv (.k (.bool true)), none⟩])
 (.ret)))))⟩
theorem eq_lex_scanner_sign (Φ : Calls') (a0 : AV) (H : AH) (Q : Post) : fnE1 Φ ir_lex_scanner_sign [a0] H Q = lex_scanner_sign Φ a0 H Q := by kernel_rfl

/-! (rabbet/lex.scanner).run -/
def lex_scanner_run_k1 (Φ : Calls') (s6 : List AV × AH) (L7 : (List AV × AH) → Prop) (Q : Post) : List AV → AH → Prop := fun j8 H9 =>
 Do (abin .add (sl s6.1 0) (.int .i64 1)) fun x25 =>
 L7 ([x25], H9)
def lex_scanner_run_k2 (Φ : Calls') (a0 : AV) (Q : Post) : List AV → AH → Prop := fun j4 H5 =>
 Do (anilck a0) fun x26 =>
 Do (afaddr 1 x26) fun x27 =>
 Do (aload H5 1 false x27) fun x28 =>
 Do (abin .sub (sl j4 0) x28) fun x29 =>
 Q x29 H5
def lex_scanner_run_k3 (Φ : Calls') (a0 : AV) (s6 : List AV × AH) (L7 : (List AV × AH) → Prop) (Q : Post) : List AV → AH → Prop := fun j10 H11 =>
 Gd (sl j10 0) true (
 JoinP (lex_scanner_run_k1 Φ s6 L7 Q) [] H11) (
 JoinP (lex_scanner_run_k2 Φ a0 Q) [(sl s6.1 0)] H11)
def lex_scanner_run_l4 (Φ : Calls') (a0 : AV) (a1 : AV) (Q : Post) : (List AV × AH) → ((List AV × AH) → Prop) → Prop := fun s6 L7 =>
 Do (anilck a0) fun x12 =>
 Do (afaddr 0 x12) fun x13 =>
 Do (aload s6.2 1 false x13) fun x14 =>
 Do (alen true x14) fun x15 =>
 Do (abin .lss (sl s6.1 0) x15) fun x16 =>
 Gd3 x16 true (
 Do (anilck a0) fun x17 =>
 Do (afaddr 0 x17) fun x18 =>
 Do (aload s6.2 1 false x18) fun x19 =>
 Do (aidxs x19 (sl s6.1 0)) fun x20 =>
∃ k23 c24, a1 = .fn k23 c24 ∧ Φ k23 ([x20] ++ c24) s6.2 fun x21 H22 =>
 JoinP (lex_scanner_run_k3 Φ a0 s6 L7 Q) [x21] H22) (
 JoinP (lex_scanner_run_k3 Φ a0 s6 L7 Q) [(.bool false)] s6.2) (
 False)
def lex_scanner_run (Φ : Calls') (a0 : AV) (a1 : AV) (H : AH) (Q : Post) : Prop :=
 Do (anilck a0) fun x1 =>
 Do (afaddr 1 x1) fun x2 =>
 Do (aload H 1 false x2) fun x3 =>
 LoopP (lex_scanner_run_l4 Φ a0 a1 Q) ([x3], H)
def ir_lex_scanner_run : AFunc := ⟨35, [.tmp 4],
 .seq (.region [
   ⟨some 4, .mv (.k (.int .i64 0)), none⟩])
 (.seq (.region [
   ⟨some 6, .mv (.t 0), none⟩,
   ⟨some 7, .nilck (.t 6), none⟩,
   ⟨some 8, .faddr 1 (.t 7), none⟩,
   ⟨some 9, .load 1 false (.t 8), none⟩,
   ⟨some 5, .mv (.t 9), none⟩])
 (.join [5] [10, 11, 12, 13, 14, 15, 16, 17, 18, 19, 20, 21, 22, 23, 24, 25, 26, 27, 28] (.block 0 (.loop [5] [10, 11, 12, 13, 14, 15, 16, 17, 18, 19, 20, 21, 22, 23, 24, 25, 26, 27, 28] (.join [] [10, 11, 12, 13, 14, 15, 16, 17, 18, 19, 20, 21, 22, 23, 24, 25, 26] (.join [26] [10, 11, 12, 13, 14, 15, 16, 17, 18, 19, 20, 21, 22, 23, 24, 25] (.region [
   ⟨some 10, .mv (.t 5), none⟩,
   ⟨some 11, .mv (.t 0), none⟩,
   ⟨some 12, .nilck (.t 11), none⟩,
   ⟨some 13, .faddr 0 (.t 12), none⟩,
   ⟨some 14, .load 1 false (.t 13), none⟩,
   ⟨some 15, .len true (.t 14), none⟩,
   ⟨some 16, .bin .lss (.t 10) (.t 15), none⟩,
   ⟨some 17, .mv (.t 16), none⟩,
   ⟨some 18, .mv (.t 1), some (17, true)⟩,
   ⟨some 19, .mv (.t 0), some (17, true)⟩,
   ⟨some 20, .nilck (.t 19), some (17, true)⟩,
   ⟨some 21, .faddr 0 (.t 20), some (17, true)⟩,
   ⟨some 22, .load 1 false (.t 21), some (17, true)⟩,
   ⟨some 23, .mv (.t 5), some (17, true)⟩,
   ⟨some 24, .idxs (.t 22) (.t 23), some (17, true)⟩,
   ⟨some 25, .callv (.t 18) [(.t 24)], some (17, true)⟩,
   ⟨some 26, .pick (.t 17) (.t 25) (.k (.bool false)), none⟩])
 (.cond (.t 26) (.skip)
   (.exit 0)))
 (.block 1 (.region [
   ⟨some 27, .mv (.t 5), none⟩,
   ⟨some 28, .bin .add (.t 27) (.k (.int .i64 1)), none⟩,
   ⟨some 5, .mv (.t 28), none⟩])))))
 (.seq (.region [
   ⟨some 29, .mv (.t 5), none⟩,
   ⟨some 30, .mv (.t 0), none⟩,
   ⟨some 31, .nilck (.t 30), none⟩,
   ⟨some 32, .faddr 1 (.t 31), none⟩,
   ⟨some 33, .load 1 false (.t 32), none⟩,
   ⟨some 34, .bin .sub (.t 29) (.t 33), none⟩,
   ⟨some 4, .mv (.t 34), none⟩])
 (.ret))))⟩
theorem eq_lex_scanner_run (Φ : Calls') (a0 a1 : AV) (H : AH) (Q : Post) : fnE1 Φ ir_lex_scanner_run [a0, a1] H Q = lex_scanner_run Φ a0 a1 H Q := by kernel_rfl

/-! rabbet/lex.part -/
def lex_part_k1 (Φ : Calls') (a0 : AV) (Q : Post) : List AV → AH → Prop := fun j1 H2 =>
 Gd3 (sl j1 0) false (
 Do (abin .eql a0 (.int .u8 95)) fun x7 =>
 Q x7 H2) (
 Q (.bool true) H2) (
 False)
def lex_part (Φ : Calls') (a0 : AV) (H : AH) (Q : Post) : Prop :=
Φ K.lex_letter [a0] H fun x3 H4 =>
 Gd3 x3 false (
Φ K.lex_digit [a0] H4 fun x5 H6 =>
 JoinP (lex_part_k1 Φ a0 Q) [x5] H6) (
 JoinP (lex_part_k1 Φ a0 Q) [(.bool true)] H4) (
 False)
def ir_lex_part : AFunc := ⟨13, [.tmp 2],
 .seq (.region [
   ⟨some 2, .mv (.k (.bool false)), none⟩])
 (.seq (.rjoin [8] [3, 4, 5, 6, 7] [
   ⟨some 3, .mv (.t 0), none⟩,
   ⟨some 4, .call K.lex_letter [(.t 3)], none⟩,
   ⟨some 5, .mv (.t 4), none⟩,
   ⟨some 6, .mv (.t 0), some (5, false)⟩,
   ⟨some 7, .call K.lex_digit [(.t 6)], some (5, false)⟩,
   ⟨some 8, .pick (.t 5) (.k (.bool true)) (.t 7), none⟩]
 (.region [
   ⟨some 9, .mv (.t 8), none⟩,
   ⟨some 10, .mv (.t 0), some (9, false)⟩,
   ⟨some 11, .bin .eql (.t 10) (.k (.int .u8 95)), some (9, false)⟩,
   ⟨some 12, .pick (.t 9) (.k (.bool true)) (.t 11), none⟩,
   ⟨some 2, .mv (.t 12), none⟩]))
 (.ret))⟩
theorem eq_lex_part (Φ : Calls') (a0 : AV) (H : AH) (Q : Post) : fnE1 Φ ir_lex_part [a0] H Q = lex_part Φ a0 H Q := by kernel_rfl

/-! (rabbet/lex.scanner).take -/
def lex_scanner_take (Φ : Calls') (a0 : AV) (a1 : AV) (H : AH) (Q : Post) : Prop :=
 Do (anilck a0) fun x1 =>
 Do (afaddr 3 x1) fun x2 =>
 Do (aload H 1 false x2) fun x3 =>
 Do (anilck a0) fun x4 =>
 Do (afaddr 0 x4) fun x5 =>
 Do (aload H 1 false x5) fun x6 =>
 Do (anilck a0) fun x7 =>
 Do (afaddr 1 x7) fun x8 =>
 Do (aload H 1 false x8) fun x9 =>
 Do (anilck a0) fun x10 =>
 Do (afaddr 1 x10) fun x11 =>
 Do (aload H 1 false x11) fun x12 =>
 Do (abin .add x12 a1) fun x13 =>
 Do (asslice x6 (some x9) (some x13)) fun x14 =>
 Do (anilck a0) fun x15 =>
 Do (afaddr 2 x15) fun x16 =>
 Do (aload H 1 false x16) fun x17 =>
 Do (abuild [.str [], .int .i64 0] [(0, 1, x14), (1, 1, x17)]) fun x18 =>
 DoH (abslice H false 2 1 [.str [], .int .i64 0] [(0, 2, x18)]) fun x19 H20 =>
 DoH (aappend H20 false 2 24 x3 x19) fun x21 H22 =>
 Do (anilck a0) fun x23 =>
 Do (afaddr 3 x23) fun x24 =>
 Do (astore H22 1 x24 x21) fun H25 =>
 Do (anilck a0) fun x26 =>
 Do (afaddr 1 x26) fun x27 =>
 Do (aload H25 1 false x27) fun x28 =>
 Do (abin .add x28 a1) fun x29 =>
 Do (anilck a0) fun x30 =>
 Do (afaddr 1 x30) fun x31 =>
 Do (astore H25 1 x31 x29) fun H32 =>
 Q (.tup []) H32
def ir_lex_scanner_take : AFunc := ⟨41, [],
 .seq (.draw [
   ⟨some 4, .mv (.t 0), none⟩,
   ⟨some 5, .mv (.t 0), none⟩,
   ⟨some 6, .nilck (.t 5), none⟩,
   ⟨some 7, .faddr 3 (.t 6), none⟩,
   ⟨some 8, .load 1 false (.t 7), none⟩,
   ⟨some 9, .mv (.t 0), none⟩,
   ⟨some 10, .nilck (.t 9), none⟩,
   ⟨some 11, .faddr 0 (.t 10), none⟩,
   ⟨some 12, .load 1 false (.t 11), none⟩,
   ⟨some 13, .mv (.t 0), none⟩,
   ⟨some 14, .nilck (.t 13), none⟩,
   ⟨some 15, .faddr 1 (.t 14), none⟩,
   ⟨some 16, .load 1 false (.t 15), none⟩,
   ⟨some 17, .mv (.t 0), none⟩,
   ⟨some 18, .nilck (.t 17), none⟩,
   ⟨some 19, .faddr 1 (.t 18), none⟩,
   ⟨some 20, .load 1 false (.t 19), none⟩,
   ⟨some 21, .mv (.t 1), none⟩,
   ⟨some 22, .bin .add (.t 20) (.t 21), none⟩,
   ⟨some 23, .sslice (.t 12) (some (.t 16)) (some (.t 22)), none⟩,
   ⟨some 24, .mv (.t 0), none⟩,
   ⟨some 25, .nilck (.t 24), none⟩,
   ⟨some 26, .faddr 2 (.t 25), none⟩,
   ⟨some 27, .load 1 false (.t 26), none⟩,
   ⟨some 28, .build [.str [], .int .i64 0] [(0, 1, (.t 23)), (1, 1, (.t 27))], none⟩,
   ⟨some 29, .bslice false 2 1 [.str [], .int .i64 0] [(0, 2, (.t 28))], none⟩,
   ⟨some 30, .append false 2 24 (.t 8) (.t 29), none⟩,
   ⟨some 31, .nilck (.t 4), none⟩,
   ⟨some 32, .faddr 3 (.t 31), none⟩,
   ⟨none, .store 1 (.t 32) (.t 30), none⟩]
 [[], [], [1], [1, 2], [1, 2, 3], [], [5], [5, 6], [5, 6, 7], [], [9], [9, 10], [9, 10, 11], [], [13], [13, 14], [13, 14, 15], [], [13, 14, 15, 16, 17], [5, 6, 7, 8, 9, 10, 11, 12, 13, 14, 15, 16, 17, 18], [], [20], [20, 21], [20, 21, 22], [5, 6, 7, 8, 9, 10, 11, 12, 13, 14, 15, 16, 17, 18, 19, 20, 21, 22, 23], [5, 6, 7, 8, 9, 10, 11, 12, 13, 14, 15, 16, 17, 18, 19, 20, 21, 22, 23, 24], [1, 2, 3, 4, 5, 6, 7, 8, 9, 10, 11, 12, 13, 14, 15, 16, 17, 18, 19, 20, 21, 22, 23, 24, 25], [0, 1, 2, 3, 4, 5, 6, 7, 8, 9, 10, 11, 12, 13, 14, 15, 16, 17, 18, 19, 20, 21, 22, 23, 24, 25, 26], [0, 1, 2, 3, 4, 5, 6, 7, 8, 9, 10, 11, 12, 13, 14, 15, 16, 17, 18, 19, 20, 21, 22, 23, 24, 25, 26, 27], [0, 1, 2, 3, 4, 5, 6, 7, 8, 9, 10, 11, 12, 13, 14, 15, 16, 17, 18, 19, 20, 21, 22, 23, 24, 25, 26, 27, 28]] [([0, 1, 2, 3, 4, 5, 6, 7, 8, 9, 10, 11, 12, 13, 14, 15, 16, 17, 18, 19, 20, 21, 22, 23, 24, 25], 26, []), ([27, 28], 29, [])] [])
 (.region [
   ⟨some 33, .mv (.t 0), none⟩,
   ⟨some 34, .nilck (.t 33), none⟩,
   ⟨some 35, .faddr 1 (.t 34), none⟩,
   ⟨some 36, .load 1 false (.t 35), none⟩,
   ⟨some 37, .mv (.t 1), none⟩,
   ⟨some 38, .bin .add (.t 36) (.t 37), none⟩,
   ⟨some 39, .nilck (.t 33), none⟩,
   ⟨some 40, .faddr 1 (.t 39), none⟩,
   ⟨none, .store 1 (.t 40) (.t 38), none⟩])⟩
theorem eq_lex_scanner_take (Φ : Calls') (a0 a1 : AV) (H : AH) (Q : Post) : fnE1 Φ ir_lex_scanner_take [a0, a1] H Q = lex_scanner_take Φ a0 a1 H Q := by kernel_rfl

/-! strings.HasPrefix -/
def strings_HasPrefix (Φ : Calls') (a0 : AV) (a1 : AV) (H : AH) (Q : Post) : Prop :=
Φ K.internal_stringslite_HasPrefix [a0, a1] H fun x1 H2 =>
 Q x1 H2
def ir_strings_HasPrefix : AFunc := ⟨8, [.tmp 4],
 .seq (.region [
   ⟨some 4, .mv (.k (.bool false)), none⟩])
 (.seq (.region [
   ⟨some 5, .mv (.t 0), none⟩,
   ⟨some 6, .mv (.t 1), none⟩,
   ⟨some 7, .call K.internal_stringslite_HasPrefix [(.t 5), (.t 6)], none⟩,
   ⟨some 4, .mv (.t 7), none⟩])
 (.ret))⟩
theorem eq_strings_HasPrefix (Φ : Calls') (a0 a1 : AV) (H : AH) (Q : Post) : fnE1 Φ ir_strings_HasPrefix [a0, a1] H Q = strings_HasPrefix Φ a0 a1 H Q := by kernel_rfl

/-! strings.IndexByte -/
def strings_IndexByte (Φ : Calls') (a0 : AV) (a1 : AV) (H : AH) (Q : Post) : Prop :=
Φ K.internal_stringslite_IndexByte [a0, a1] H fun x1 H2 =>
 Q x1 H2
def ir_strings_IndexByte : AFunc := ⟨8, [.tmp 4],
 .seq (.region [
   ⟨some 4, .mv (.k (.int .i64 0)), none⟩])
 (.seq (.region [
   ⟨some 5, .mv (.t 0), none⟩,
   ⟨some 6, .mv (.t 1), none⟩,
   ⟨some 7, .call K.internal_stringslite_IndexByte [(.t 5), (.t 6)], none⟩,
   ⟨some 4, .mv (.t 7), none⟩])
 (.ret))⟩
theorem eq_strings_IndexByte (Φ : Calls') (a0 a1 : AV) (H : AH) (Q : Post) : fnE1 Φ ir_strings_IndexByte [a0, a1] H Q = strings_IndexByte Φ a0 a1 H Q := by kernel_rfl

/-! internal/stringslite.HasPrefix -/
def internal_stringslite_HasPrefix (Φ : Calls') (a0 : AV) (a1 : AV) (H : AH) (Q : Post) : Prop :=
 Do (alen true a0) fun x1 =>
 Do (alen true a1) fun x2 =>
 Do (abin .geq x1 x2) fun x3 =>
 Gd3 x3 true (
 Do (alen true a1) fun x4 =>
 Do (asslice a0 none (some x4)) fun x5 =>
 Do (abin .eql x5 a1) fun x6 =>
 Q x6 H) (
 Q (.bool false) H) (
 False)
def ir_internal_stringslite_HasPrefix : AFunc := ⟨18, [.tmp 4],
 .seq (.region [
   ⟨some 4, .mv (.k (.bool false)), none⟩])
 (.seq (.region [
   ⟨some 5, .mv (.t 0), none⟩,
   ⟨some 6, .len true (.t 5), none⟩,
   ⟨some 7, .mv (.t 1), none⟩,
   ⟨some 8, .len true (.t 7), none⟩,
   ⟨some 9, .bin .geq (.t 6) (.t 8), none⟩,
   ⟨some 10, .mv (.t 9), none⟩,
   ⟨some 11, .mv (.t 0), some (10, true)⟩,
   ⟨some 12, .mv (.t 1), some (10, true)⟩,
   ⟨some 13, .len true (.t 12), some (10, true)⟩,
   ⟨some 14, .sslice (.t 11) none (some (.t 13)), some (10, true)⟩,
   ⟨some 15, .mv (.t 1), some (10, true)⟩,
   ⟨some 16, .bin .eql (.t 14) (.t 15), some (10, true)⟩,
   ⟨some 17, .pick (.t 10) (.t 16) (.k (.bool false)), none⟩,
   ⟨some 4, .mv (.t 17), none⟩])
 (.ret))⟩
theorem eq_internal_stringslite_HasPrefix (Φ : Calls') (a0 a1 : AV) (H : AH) (Q : Post) : fnE1 Φ ir_internal_stringslite_HasPrefix [a0, a1] H Q = internal_stringslite_HasPrefix Φ a0 a1 H Q := by kernel_rfl

def tab_Lex : Tab := [
  (K.rabbetlaw08_LexBack, ir_rabbetlaw08_LexBack),
  (K.rabbetlaw08_LexJoins, ir_rabbetlaw08_LexJoins),
  (K.lex_Tokens, ir_lex_Tokens),
  (K.rabbetlaw08_awake, ir_rabbetlaw08_awake),
  (K.lex_scanner_next, ir_lex_scanner_next),
  (K.lex_Keyword, ir_lex_Keyword),
  (K.lex_letter, ir_lex_letter),
  (K.lex_scanner_word, ir_lex_scanner_word),
  (K.lex_digit, ir_lex_digit),
  (K.lex_scanner_number, ir_lex_scanner_number),
  (K.lex_scanner_sign, ir_lex_scanner_sign),
  (K.lex_scanner_run, ir_lex_scanner_run),
  (K.lex_part, ir_lex_part),
  (K.lex_scanner_take, ir_lex_scanner_take),
  (K.strings_HasPrefix, ir_strings_HasPrefix),
  (K.strings_IndexByte, ir_strings_IndexByte),
  (K.internal_stringslite_HasPrefix, ir_internal_stringslite_HasPrefix)]

theorem cl_rabbetlaw08_LexBack {Φ : Calls'} (hT : Cl Φ tab_Lex) {a0 : AV} {H : AH} {Q : Post} (h : rabbetlaw08_LexBack Φ a0 H Q) : Φ K.rabbetlaw08_LexBack [a0] H Q := hT.call (by kernel_rfl) (by kernel_rfl) (by rw [eq_rabbetlaw08_LexBack]; exact h)
theorem cl_rabbetlaw08_LexJoins {Φ : Calls'} (hT : Cl Φ tab_Lex) {a0 a1 : AV} {H : AH} {Q : Post} (h : rabbetlaw08_LexJoins Φ a0 a1 H Q) : Φ K.rabbetlaw08_LexJoins [a0, a1] H Q := hT.call (by kernel_rfl) (by kernel_rfl) (by rw [eq_rabbetlaw08_LexJoins]; exact h)
theorem cl_lex_Tokens {Φ : Calls'} (hT : Cl Φ tab_Lex) {a0 : AV} {H : AH} {Q : Post} (h : lex_Tokens Φ a0 H Q) : Φ K.lex_Tokens [a0] H Q := hT.call (by kernel_rfl) (by kernel_rfl) (by rw [eq_lex_Tokens]; exact h)
theorem cl_rabbetlaw08_awake {Φ : Calls'} (hT : Cl Φ tab_Lex) {H : AH} {Q : Post} (h : rabbetlaw08_awake Φ H Q) : Φ K.rabbetlaw08_awake [] H Q := hT.call (by kernel_rfl) (by kernel_rfl) (by rw [eq_rabbetlaw08_awake]; exact h)
theorem cl_lex_scanner_next {Φ : Calls'} (hT : Cl Φ tab_Lex) {a0 : AV} {H : AH} {Q : Post} (h : lex_scanner_next Φ a0 H Q) : Φ K.lex_scanner_next [a0] H Q := hT.call (by kernel_rfl) (by kernel_rfl) (by rw [eq_lex_scanner_next]; exact h)
theorem cl_lex_Keyword {Φ : Calls'} (hT : Cl Φ tab_Lex) {a0 : AV} {H : AH} {Q : Post} (h : lex_Keyword Φ a0 H Q) : Φ K.lex_Keyword [a0] H Q := hT.call (by kernel_rfl) (by kernel_rfl) (by rw [eq_lex_Keyword]; exact h)
theorem cl_lex_letter {Φ : Calls'} (hT : Cl Φ tab_Lex) {a0 : AV} {H : AH} {Q : Post} (h : lex_letter Φ a0 H Q) : Φ K.lex_letter [a0] H Q := hT.call (by kernel_rfl) (by kernel_rfl) (by rw [eq_lex_letter]; exact h)
theorem cl_lex_scanner_word {Φ : Calls'} (hT : Cl Φ tab_Lex) {a0 : AV} {H : AH} {Q : Post} (h : lex_scanner_word Φ a0 H Q) : Φ K.lex_scanner_word [a0] H Q := hT.call (by kernel_rfl) (by kernel_rfl) (by rw [eq_lex_scanner_word]; exact h)
theorem cl_lex_digit {Φ : Calls'} (hT : Cl Φ tab_Lex) {a0 : AV} {H : AH} {Q : Post} (h : lex_digit Φ a0 H Q) : Φ K.lex_digit [a0] H Q := hT.call (by kernel_rfl) (by kernel_rfl) (by rw [eq_lex_digit]; exact h)
theorem cl_lex_scanner_number {Φ : Calls'} (hT : Cl Φ tab_Lex) {a0 : AV} {H : AH} {Q : Post} (h : lex_scanner_number Φ a0 H Q) : Φ K.lex_scanner_number [a0] H Q := hT.call (by kernel_rfl) (by kernel_rfl) (by rw [eq_lex_scanner_number]; exact h)
theorem cl_lex_scanner_sign {Φ : Calls'} (hT : Cl Φ tab_Lex) {a0 : AV} {H : AH} {Q : Post} (h : lex_scanner_sign Φ a0 H Q) : Φ K.lex_scanner_sign [a0] H Q := hT.call (by kernel_rfl) (by kernel_rfl) (by rw [eq_lex_scanner_sign]; exact h)
theorem cl_lex_scanner_run {Φ : Calls'} (hT : Cl Φ tab_Lex) {a0 a1 : AV} {H : AH} {Q : Post} (h : lex_scanner_run Φ a0 a1 H Q) : Φ K.lex_scanner_run [a0, a1] H Q := hT.call (by kernel_rfl) (by kernel_rfl) (by rw [eq_lex_scanner_run]; exact h)
theorem cl_lex_part {Φ : Calls'} (hT : Cl Φ tab_Lex) {a0 : AV} {H : AH} {Q : Post} (h : lex_part Φ a0 H Q) : Φ K.lex_part [a0] H Q := hT.call (by kernel_rfl) (by kernel_rfl) (by rw [eq_lex_part]; exact h)
theorem cl_lex_scanner_take {Φ : Calls'} (hT : Cl Φ tab_Lex) {a0 a1 : AV} {H : AH} {Q : Post} (h : lex_scanner_take Φ a0 a1 H Q) : Φ K.lex_scanner_take [a0, a1] H Q := hT.call (by kernel_rfl) (by kernel_rfl) (by rw [eq_lex_scanner_take]; exact h)
theorem cl_strings_HasPrefix {Φ : Calls'} (hT : Cl Φ tab_Lex) {a0 a1 : AV} {H : AH} {Q : Post} (h : strings_HasPrefix Φ a0 a1 H Q) : Φ K.strings_HasPrefix [a0, a1] H Q := hT.call (by kernel_rfl) (by kernel_rfl) (by rw [eq_strings_HasPrefix]; exact h)
theorem cl_strings_IndexByte {Φ : Calls'} (hT : Cl Φ tab_Lex) {a0 a1 : AV} {H : AH} {Q : Post} (h : strings_IndexByte Φ a0 a1 H Q) : Φ K.strings_IndexByte [a0, a1] H Q := hT.call (by kernel_rfl) (by kernel_rfl) (by rw [eq_strings_IndexByte]; exact h)
theorem cl_internal_stringslite_HasPrefix {Φ : Calls'} (hT : Cl Φ tab_Lex) {a0 a1 : AV} {H : AH} {Q : Post} (h : internal_stringslite_HasPrefix Φ a0 a1 H Q) : Φ K.internal_stringslite_HasPrefix [a0, a1] H Q := hT.call (by kernel_rfl) (by kernel_rfl) (by rw [eq_internal_stringslite_HasPrefix]; exact h)
end Rb.S

/- The texts are the program's. By spec.py. -/
set_option linter.unusedVariables false
namespace Go.Proofs.YtpmpckhgkhiebaaDoor.rb
open Rb
theorem cl_Lex : Cl (ACall C) S.tab_Lex := Cl.of (ACall_mono C) (closed_of (idC_fok _ _) (by kernel_rfl))
end Go.Proofs.YtpmpckhgkhiebaaDoor.rb

/- From what a law's function does to the statement. -/
set_option linter.unusedVariables false
namespace Rb
open Go Go.RowKit

/-- All that is there may be read, and nothing is written: frozen. -/
def allFz (W : World) : Nat → Nat → Prop := fun b o => ∃ V, W.cell? ⟨b, o, none⟩ = some V

theorem law_calls {C : Ctx} {key : Nat} {f : FuncId} {args : List AV} {Vs : Array Value} {W : World} (hf : C.F key = some f) (h : ACall C key args AH.mt (fun v _ => v = .bool true)) (hG : GOK C W (Ghost.mt (allFz W)))
    (hargs : VRs C.F W (Ghost.mt (allFz W)) args Vs) : Calls C.P f Vs W fun e W' => e = .returned (.bool true) ∧ Below W.heap.size W W' := by
  refine Calls.mono (h f hf _ W Vs hG (Rel.mt fun _ _ h => h) hargs) fun e w' he => ?_
  obtain ⟨V, v, H', G', rfl, rfl, hv, _, hst⟩ := he
  obtain rfl := hv.bool_inv
  exact ⟨rfl, hst.below⟩

/-- A variable that holds small numbers. -/
theorem fptr_of_tab {F : FTab} {W : World} {g : Nat} {k : IntKind} {zs : List Int} (h : ∀ i, i < zs.length → W.cell? ⟨g, i, none⟩ = some (.int k (zs.getD i 0))) : VR F W (Ghost.mt (allFz W)) (.fptr (zs.map (.int k))) (.pointer (some ⟨g, 0, none⟩)) := by
  refine .fptr _ g 0 (fun j => .int k (zs.getD j 0)) (fun j c hj => ?_) fun j c hj => ?_
  · have hl : j < zs.length := by simpa using (List.getElem?_eq_some_iff.1 hj).1
    rw [Nat.zero_add]
    exact ⟨⟨_, h j hl⟩, h j hl⟩
  · have hl : j < zs.length := by simpa using (List.getElem?_eq_some_iff.1 hj).1
    have : c = .int k (zs.getD j 0) := by
      rw [List.getElem?_map, List.getElem?_eq_getElem hl] at hj
      simp only [Option.map_some, Option.some.injEq] at hj
      rw [← hj, List.getD_eq_getElem?_getD, List.getElem?_eq_getElem hl]; rfl
    rw [this]
    exact .int _ _

theorem VRs.two {F : FTab} {w : World} {G : Ghost} {c d : AV} {V U : Value} (h : VR F w G c V) (h' : VR F w G d U) : VRs F w G [c, d] #[V, U] := ⟨rfl, fun j c' V' hc hV => by
  rcases j with _ | _ | j
  · simp at hc hV; subst hc; subst hV; exact h
  · simp at hc hV; subst hc; subst hV; exact h'
  · simp at hc⟩
theorem VRs.three {F : FTab} {w : World} {G : Ghost} {c d e : AV} {V U X : Value} (h : VR F w G c V) (h' : VR F w G d U) (h'' : VR F w G e X) : VRs F w G [c, d, e] #[V, U, X] := ⟨rfl, fun j c' V' hc hV => by
  rcases j with _ | _ | _ | j
  · simp at hc hV; subst hc; subst hV; exact h
  · simp at hc hV; subst hc; subst hV; exact h'
  · simp at hc hV; subst hc; subst hV; exact h''
  · simp at hc⟩

theorem VR_string {F : FTab} {w : World} {G : Ghost} (b : ByteArray) : VR F w G (.str b.data.toList) (.string b) := by
  have h : (⟨b.data.toList.toArray⟩ : ByteArray) = b := by cases b; simp
  have := VR.str (F := F) (w := w) (G := G) b.data.toList
  rwa [h] at this

theorem asciiSpace_eq : asciiSpace = (Go.Lib.asciiSpaceTab.map (AV.int .u8)) := by kernel_rfl
end Rb

/- What comes in as data, as abstract values: typed readings. -/
set_option linter.unusedVariables false
set_option linter.unusedSimpArgs false
namespace Rb
open Go Go.RowKit

section
variable {H : Type} {enc : TypeId × Value → H} {P : Program} {w : World} {sp : Nat → Bool} {held : Bool} {F : FTab}

/-- A type's cells, read as data with so much fuel, are those of a typed value. -/
def Dec (F : FTab) (enc : TypeId × Value → H) (P : Program) (w : World) (sp : Nat → Bool) (held : Bool) (n : Nat) (t : TypeId) {α : Type} (cells : α → List AV) (ok : α → Prop) : Prop :=
  ∀ fuel, fuel ≤ n → ∀ cs d ps, DataW.trod enc P w 0 sp held fuel t cs = some (d, ps) → ∃ x, ok x ∧ VRs F w (Ghost.mt (allFz w)) (cells x) cs.toArray

theorem Dec.mono {n m : Nat} {t : TypeId} {α : Type} {cells : α → List AV} {ok : α → Prop} (h : Dec F enc P w sp held n t cells ok) (hm : m ≤ n) : Dec F enc P w sp held m t cells ok :=
  fun fuel hf cs d ps ht => h fuel (Nat.le_trans hf hm) cs d ps ht

theorem Dec.zero {t : TypeId} {α : Type} {cells : α → List AV} {ok : α → Prop} : Dec F enc P w sp held 0 t cells ok := by
  intro fuel hf cs d ps h
  obtain rfl : fuel = 0 := by omega
  simp [DataW.trod] at h

theorem Dec.int {n : Nat} {t : TypeId} {k : IntKind} (ht : P.underlying t = some (.int k)) : Dec F enc P w sp held n t (fun z : Int => [.int k z]) (fun z => k.min ≤ z ∧ z ≤ k.max) := by
  intro fuel _ cs d ps h
  obtain ⟨z, rfl, _, hw⟩ := DataW.trod_int ht h
  exact ⟨z, by simpa [Lit.wf] using hw, VRs.one (.int _ _)⟩

theorem Dec.bool {n : Nat} {t : TypeId} (ht : P.underlying t = some .bool) : Dec F enc P w sp held n t (fun z : Bool => [.bool z]) (fun _ => True) := by
  intro fuel _ cs d ps h
  obtain ⟨z, rfl, _⟩ := DataW.trod_bool ht h
  exact ⟨z, trivial, VRs.one (.bool _)⟩

theorem Dec.string {n : Nat} {t : TypeId} (ht : P.underlying t = some .string) : Dec F enc P w sp held n t (fun z : List UInt8 => [.str z]) (fun z => z.length ≤ maxLen) := by
  intro fuel _ cs d ps h
  obtain ⟨s, rfl, _, hl⟩ := DataW.trod_string ht h
  exact ⟨s.data.toList, by simpa using hl, VRs.one (VR_string s)⟩

/-- A slice of such. -/
def lstA {α : Type} (cells : α → List AV) (xs : List α) : AV := .lst .dead xs.length (xs.flatMap cells)

theorem exists_list {α : Type} {p : Nat → α → Prop} : ∀ (n : Nat), (∀ i, i < n → ∃ x, p i x) → ∃ xs : List α, xs.length = n ∧ ∀ i x, xs[i]? = some x → p i x := by
  intro n
  induction n with
  | zero => intro _; exact ⟨[], rfl, fun i x h => by simp at h⟩
  | succ n ih =>
    intro h
    obtain ⟨xs, hl, hx⟩ := ih fun i hi => h i (by omega)
    obtain ⟨y, hy⟩ := h n (by omega)
    refine ⟨xs ++ [y], by simp [hl], fun i x hi => ?_⟩
    by_cases hlt : i < n
    · rw [List.getElem?_append_left (by omega)] at hi
      exact hx i x hi
    · rw [List.getElem?_append_right (by omega)] at hi
      have : i - xs.length = 0 := by
        rcases Nat.eq_zero_or_pos (i - xs.length) with h | h
        · exact h
        · rw [List.getElem?_eq_none (by simp; omega)] at hi; cases hi
      rw [this] at hi
      simp at hi
      subst hi
      have : i = n := by omega
      rw [this]; exact hy

theorem flat_get {α : Type} {cells : α → List AV} {sz : Nat} (hc : ∀ x, (cells x).length = sz) : ∀ (xs : List α) (j : Nat) (c : AV), (xs.flatMap cells)[j]? = some c → ∃ i k x, j = i * sz + k ∧ k < sz ∧ xs[i]? = some x ∧ (cells x)[k]? = some c := by
  intro xs
  induction xs with
  | nil => intro j c h; simp at h
  | cons y ys ih =>
    intro j c h
    rw [List.flatMap_cons] at h
    by_cases hj : j < sz
    · rw [List.getElem?_append_left (by rw [hc]; exact hj)] at h
      exact ⟨0, j, y, by omega, hj, rfl, h⟩
    · rw [List.getElem?_append_right (by rw [hc]; omega), hc] at h
      obtain ⟨i, k, x, h1, h2, h3, h4⟩ := ih _ _ h
      refine ⟨i + 1, k, x, ?_, h2, by simpa using h3, h4⟩
      rw [Nat.add_mul]; omega

theorem add_at {b o m : Nat} : (Addr.mk b o none).add m = ⟨b, o + m, none⟩ := by
  unfold Addr.add
  split
  · rename_i h; subst h; rfl
  · rfl

theorem Dec.slice {n : Nat} {t e : TypeId} {α : Type} {cells : α → List AV} {ok : α → Prop} (ht : P.underlying t = some (.slice e)) {sz : Nat} (hs : P.cellsOf e = sz) (hz : 0 < sz) (hc : ∀ x, (cells x).length = sz) (h : Dec F enc P w sp held n e cells ok) :
    Dec F enc P w sp held (n + 1) t (fun xs : List α => [lstA cells xs]) (fun xs => xs.length ≤ maxLen ∧ ∀ x ∈ xs, ok x) := by
  intro fuel hf cs d ps hd
  rcases DataW.trod_slice ht hd with ⟨rfl, _⟩ | ⟨a, len, cap, elems, rest, m, rfl, rfl, _, _, hle, hcap, hel, helems, _⟩
  · exact ⟨[], ⟨Nat.zero_le _, by simp⟩, VRs.one (.lst0 _ _)⟩
  · have each : ∀ i, i < len → ∃ x, ok x ∧ ∃ ci, w.cells? 0 (a.add (i * sz)) sz = some ci ∧ VRs F w (Ghost.mt (allFz w)) (cells x) ci.toArray := by
      intro i hi
      have h1 := helems i hi
      rw [List.getElem?_eq_getElem (by omega), hs] at h1
      obtain ⟨ci, h2, h3⟩ := Option.bind_eq_some_iff.1 h1
      obtain ⟨x, hx, hv⟩ := h m (by omega) ci _ _ h3
      exact ⟨x, hx, ci, h2, hv⟩
    obtain ⟨xs, hl, hx⟩ := exists_list len each
    refine ⟨xs, ⟨by omega, fun x hxm => ?_⟩, VRs.one ?_⟩
    · obtain ⟨i, hi, e⟩ := List.mem_iff_getElem.1 hxm
      exact (hx i x (by rw [List.getElem?_eq_getElem hi, e])).1
    · rcases Nat.eq_zero_or_pos len with h0 | h0
      · subst h0
        obtain rfl := List.length_eq_zero_iff.1 hl
        exact .lst0 _ _
      · -- the address is plain
        have hsp : a.spot = none := by
          obtain ⟨x, _, ci, h2, _⟩ := each 0 h0
          obtain ⟨_, h3, h4⟩ := World.cells?_some h2
          have h5 := h4 0 hz
          rw [List.getElem?_eq_getElem (by omega)] at h5
          rw [Nat.zero_mul] at h5
          have e0 : (a.add 0).add 0 = a := by simp [Addr.add]
          rw [e0] at h5
          unfold World.cell? at h5
          split at h5
          · split at h5
            · cases h5
            · rename_i hn; cases ha : a.spot with
              | none => rfl
              | some _ => rw [ha] at hn; simp at hn
          · cases h5
        obtain ⟨b, o, spt⟩ := a
        simp only at hsp
        subst hsp
        have key : ∀ (j : Nat) (c : AV), (xs.flatMap cells)[j]? = some c → ∃ V, w.cell? ⟨b, o + j, none⟩ = some V ∧ VR F w (Ghost.mt (allFz w)) c V := by
          intro j c hj
          obtain ⟨i, k, x, rfl, hk, hxi, hck⟩ := flat_get hc xs j c hj
          obtain ⟨_, ci, h2, hv⟩ := hx i x hxi
          obtain ⟨_, h3, h4⟩ := World.cells?_some h2
          have h5 := h4 k hk
          rw [add_at, add_at, List.getElem?_eq_getElem (by omega)] at h5
          refine ⟨ci[k], by rw [← Nat.add_assoc]; exact h5, hv.2 k c _ hck (by simp [List.getElem?_eq_getElem (show k < ci.length by omega)])⟩
        unfold lstA
        rw [hl]
        refine .lst .dead len _ b o cap (fun j => (w.cell? ⟨b, o + j, none⟩).getD undef) trivial hle (fun j c hj => ?_) fun j c hj => ?_
        · obtain ⟨V, h1, _⟩ := key j c hj
          exact ⟨⟨V, h1⟩, by rw [h1]; rfl⟩
        · obtain ⟨V, h1, h2⟩ := key j c hj
          rw [h1]; exact h2

/-! Structs: their fields, one behind the other -/
def chainB (P : Program) : Nat → List (TypeId × Nat) → Bool
  | _, [] => true
  | off, (t, o) :: r => o == off && chainB P (off + P.cellsOf t) r
def totC (P : Program) : List (TypeId × Nat) → Nat
  | [] => 0
  | (t, _) :: r => P.cellsOf t + totC P r

def DecL (F : FTab) (enc : TypeId × Value → H) (P : Program) (w : World) (sp : Nat → Bool) (held : Bool) (n : Nat) (L : List (TypeId × Nat)) {α : Type} (cells : α → List AV) (ok : α → Prop) : Prop :=
  ∀ m, m ≤ n → ∀ (off : Nat) (cs : List Value), chainB P off L = true → (∀ f ∈ L, ∃ y, DataW.trod enc P w 0 sp held m f.1 ((cs.drop f.2).take (P.cellsOf f.1)) = some y) →
    ∃ x, ok x ∧ VRs F w (Ghost.mt (allFz w)) (cells x) ((cs.drop off).take (totC P L)).toArray

theorem DecL.nil {n : Nat} : DecL F enc P w sp held n [] (fun _ : Unit => []) (fun _ => True) := by
  intro m _ off cs _ _
  exact ⟨(), trivial, by simp only [totC, List.take_zero]; exact VRs.nil⟩

theorem DecL.cons {n : Nat} {t : TypeId} {o : Nat} {L : List (TypeId × Nat)} {α β : Type} {c1 : α → List AV} {c2 : β → List AV} {o1 : α → Prop} {o2 : β → Prop} (h1 : Dec F enc P w sp held n t c1 o1) (h2 : DecL F enc P w sp held n L c2 o2) :
    DecL F enc P w sp held n ((t, o) :: L) (fun x : α × β => c1 x.1 ++ c2 x.2) (fun x => o1 x.1 ∧ o2 x.2) := by
  intro m hm off cs hch hf
  simp only [chainB, Bool.and_eq_true, beq_iff_eq] at hch
  obtain ⟨rfl, hch⟩ := hch
  obtain ⟨⟨d, ps⟩, hy⟩ := hf (t, o) (by simp)
  obtain ⟨x, hx, hv⟩ := h1 m hm _ _ _ hy
  obtain ⟨y, hy2, hv2⟩ := h2 m hm _ cs hch fun f hfm => hf f (by simp [hfm])
  refine ⟨(x, y), ⟨hx, hy2⟩, ?_⟩
  have e : ((cs.drop o).take (totC P ((t, o) :: L))) = (cs.drop o).take (P.cellsOf t) ++ (cs.drop (o + P.cellsOf t)).take (totC P L) := by
    simp only [totC]
    rw [List.take_add, List.drop_drop]
  rw [e]
  have := hv.app hv2
  simpa using this

theorem Dec.struct {n : Nat} {t : TypeId} {fs : Array Field} (ht : P.underlying t = some (.struct fs)) {L : List (TypeId × Nat)} (hL : fs.toList.map (fun f => (f.type, f.offset)) = L) (hch : chainB P 0 L = true) (htot : P.cellsOf t = totC P L)
    {α : Type} {cells : α → List AV} {ok : α → Prop} (h : DecL F enc P w sp held n L cells ok) : Dec F enc P w sp held (n + 1) t cells ok := by
  intro fuel hf cs d ps hd
  obtain ⟨xs, m, rfl, _, hlen, hxl, hfs⟩ := DataW.trod_struct ht hd
  obtain ⟨x, hx, hv⟩ := h m (by omega) 0 cs hch fun f hfm => by
    rw [← hL] at hfm
    obtain ⟨g, hg, rfl⟩ := List.mem_map.1 hfm
    obtain ⟨i, hi, e⟩ := List.mem_iff_getElem.1 hg
    have hi' : i < fs.size := by simpa using hi
    have h1 := hfs i g (by rw [Array.getElem?_eq_getElem hi']; congr 1)
    rw [List.getElem?_eq_getElem (by omega)] at h1
    exact ⟨_, h1⟩
  refine ⟨x, hx, ?_⟩
  rw [List.drop_zero, ← htot, ← hlen, List.take_length] at hv
  exact hv

/-- The same values, told otherwise. -/
theorem Dec.map {n : Nat} {t : TypeId} {α β : Type} {c1 : α → List AV} {c2 : β → List AV} {o1 : α → Prop} {o2 : β → Prop} (g : α → β) (hc : ∀ x, c2 (g x) = c1 x) (ho : ∀ x, o1 x → o2 (g x)) (h : Dec F enc P w sp held n t c1 o1) : Dec F enc P w sp held n t c2 o2 := by
  intro fuel hf cs d ps hd
  obtain ⟨x, hx, hv⟩ := h fuel hf cs d ps hd
  exact ⟨g x, ho x hx, by rw [hc]; exact hv⟩

/-- An argument of a law. -/
theorem Dec.arg {t : TypeId} {α : Type} {cells : α → List AV} {ok : α → Prop} (h : ∀ n, Dec F enc P w sp held n t cells ok) {v : Value} {d : DataW H} {ps : List MemPlace} (hd : DataW.Trod enc P w 0 sp held t v d ps) : ∃ x, ok x ∧ VRs F w (Ghost.mt (allFz w)) (cells x) v.cells := by
  obtain ⟨fuel, hf⟩ := hd
  obtain ⟨x, hx, hv⟩ := h fuel fuel (Nat.le_refl _) _ _ _ hf
  exact ⟨x, hx, by simpa using hv⟩
end
end Rb

/- The types of the api, as Lean's: types and their fields. -/
set_option linter.unusedVariables false
set_option linter.unusedSimpArgs false
namespace Rb
open Go
mutual
structure GType where
  kind : Int
  size : Int
  packed : Bool
  fields : List GField
  count : Int
  elem : List GType
structure GField where
  name : List UInt8
  type : GType
  bits : Bool
  width : Int
end
mutual
def GType.cells : GType → List AV
  | .mk kind size packed fields count elem => [.int .i64 kind, .int .i64 size, .bool packed, .lst .dead fields.length (GField.all fields), .int .i64 count, .lst .dead elem.length (GType.all elem)]
def GType.all : List GType → List AV
  | [] => []
  | x :: r => GType.cells x ++ GType.all r
def GField.cells : GField → List AV
  | .mk name type bits width => .str name :: (GType.cells type ++ [.bool bits, .int .i64 width])
def GField.all : List GField → List AV
  | [] => []
  | x :: r => GField.cells x ++ GField.all r
end
theorem GType.all_eq : ∀ xs : List GType, GType.all xs = xs.flatMap GType.cells
  | [] => rfl
  | x :: r => by rw [GType.all, GType.all_eq r, List.flatMap_cons]
theorem GField.all_eq : ∀ xs : List GField, GField.all xs = xs.flatMap GField.cells
  | [] => rfl
  | x :: r => by rw [GField.all, GField.all_eq r, List.flatMap_cons]
theorem GType.cells_eq (x : GType) : x.cells = [.int .i64 x.kind, .int .i64 x.size, .bool x.packed, lstA GField.cells x.fields, .int .i64 x.count, lstA GType.cells x.elem] := by
  cases x; simp only [GType.cells, GType.all_eq, GField.all_eq, lstA]
theorem GField.cells_eq (x : GField) : x.cells = .str x.name :: (x.type.cells ++ [.bool x.bits, .int .i64 x.width]) := by
  cases x; rfl
theorem GType.len (x : GType) : x.cells.length = 6 := by rw [GType.cells_eq]; rfl
theorem GField.len (x : GField) : x.cells.length = 9 := by rw [GField.cells_eq]; simp [GType.len]

def i64ok (z : Int) : Prop := -9223372036854775808 ≤ z ∧ z ≤ 9223372036854775807
mutual
/-- Numbers are such as the machine holds, lists not too long. -/
def GType.ok : GType → Prop
  | .mk kind size packed fields count elem => i64ok kind ∧ i64ok size ∧ fields.length ≤ maxLen ∧ GField.oks fields ∧ i64ok count ∧ elem.length ≤ maxLen ∧ GType.oks elem
def GType.oks : List GType → Prop
  | [] => True
  | x :: r => GType.ok x ∧ GType.oks r
def GField.ok : GField → Prop
  | .mk name type bits width => name.length ≤ maxLen ∧ GType.ok type ∧ i64ok width
def GField.oks : List GField → Prop
  | [] => True
  | x :: r => GField.ok x ∧ GField.oks r
end
theorem GType.oks_iff : ∀ {xs : List GType}, GType.oks xs ↔ ∀ x ∈ xs, x.ok
  | [] => by simp [GType.oks]
  | x :: r => by simp [GType.oks, GType.oks_iff (xs := r)]
theorem GField.oks_iff : ∀ {xs : List GField}, GField.oks xs ↔ ∀ x ∈ xs, x.ok
  | [] => by simp [GField.oks]
  | x :: r => by simp [GField.oks, GField.oks_iff (xs := r)]

section
variable {H : Type} {enc : TypeId × Value → H} {P : Program} {w : World} {sp : Nat → Bool} {held : Bool} {F : FTab}

/-- What a program must say of its types. -/
structure TyOK (P : Program) (ti tb ts tT tF sT sF : TypeId) (fT fF : Array Field) : Prop where
  int : P.underlying ti = some (.int .i64)
  bool : P.underlying tb = some .bool
  str : P.underlying ts = some .string
  typ : P.underlying tT = some (.struct fT)
  fld : P.underlying tF = some (.struct fF)
  slT : P.underlying sT = some (.slice tT)
  slF : P.underlying sF = some (.slice tF)
  lT : fT.toList.map (fun f => (f.type, f.offset)) = [(ti, 0), (ti, 1), (tb, 2), (sF, 3), (ti, 4), (sT, 5)]
  lF : fF.toList.map (fun f => (f.type, f.offset)) = [(ts, 0), (tT, 1), (tb, 7), (ti, 8)]
  cT : P.cellsOf tT = 6
  cF : P.cellsOf tF = 9
  c1 : ∀ t ∈ [ti, tb, ts, sT, sF], P.cellsOf t = 1

theorem Dec_type {ti tb ts tT tF sT sF : TypeId} {fT fF : Array Field} (h : TyOK P ti tb ts tT tF sT sF fT fF) : ∀ n, Dec F enc P w sp held n tT GType.cells GType.ok := by
  have c1 : P.cellsOf ti = 1 := h.c1 _ (by simp)
  have c2 : P.cellsOf tb = 1 := h.c1 _ (by simp)
  have c3 : P.cellsOf ts = 1 := h.c1 _ (by simp)
  have c4 : P.cellsOf sT = 1 := h.c1 _ (by simp)
  have c5 : P.cellsOf sF = 1 := h.c1 _ (by simp)
  have int : ∀ n, Dec F enc P w sp held n ti (fun z : Int => [.int .i64 z]) i64ok := fun n => Dec.map id (fun _ => rfl) (fun x hx => by
    simp only [IntKind.min, IntKind.max, IntKind.signed, IntKind.bits, if_true] at hx
    show -9223372036854775808 ≤ x ∧ x ≤ 9223372036854775807
    omega) (Dec.int h.int)
  intro n
  induction n using Nat.strongRecOn with
  | _ n ih =>
    cases n with
    | zero => exact Dec.zero
    | succ n =>
      have ihT : Dec F enc P w sp held n tT GType.cells GType.ok := ih n (by omega)
      have ihF : Dec F enc P w sp held n tF GField.cells GField.ok := by
        cases n with
        | zero => exact Dec.zero
        | succ n =>
          refine Dec.map (fun (x : List UInt8 × GType × Bool × Int × Unit) => (⟨x.1, x.2.1, x.2.2.1, x.2.2.2.1⟩ : GField)) (fun x => ?_) (fun x hx => ?_)
            (Dec.struct h.fld h.lF (by simp [chainB, c1, c2, c3, h.cT]) (by simp [totC, c1, c2, c3, h.cT, h.cF])
              (DecL.cons (Dec.string h.str) (DecL.cons (ih n (by omega)) (DecL.cons (Dec.bool h.bool) (DecL.cons (int n) DecL.nil)))))
          · simp [GField.cells]
          · exact ⟨hx.1, hx.2.1, hx.2.2.2.1⟩
      refine Dec.map (fun (x : Int × Int × Bool × List GField × Int × List GType × Unit) => (⟨x.1, x.2.1, x.2.2.1, x.2.2.2.1, x.2.2.2.2.1, x.2.2.2.2.2.1⟩ : GType)) (fun x => ?_) (fun x hx => ?_)
        (Dec.struct h.typ h.lT (by simp [chainB, c1, c2, c4, c5]) (by simp [totC, c1, c2, c4, c5, h.cT])
          (DecL.cons (int n) (DecL.cons (int n) (DecL.cons (Dec.bool h.bool) (DecL.cons (Dec.mono (Dec.slice h.slF h.cF (by decide) GField.len ihF) (Nat.le_succ n)) (DecL.cons (int n) (DecL.cons (Dec.mono (Dec.slice h.slT h.cT (by decide) GType.len ihT) (Nat.le_succ n)) DecL.nil)))))))
      · rw [GType.cells_eq]; rfl
      · obtain ⟨h1, h2, _, ⟨h3, h4⟩, h5, ⟨h6, h7⟩, _⟩ := hx
        exact ⟨h1, h2, h3, GField.oks_iff.2 h4, h5, h6, GType.oks_iff.2 h7⟩
end
end Rb

/- The types of the api, as Lean's: expressions, places, variables. -/
set_option linter.unusedVariables false
set_option linter.unusedSimpArgs false
namespace Rb
open Go
mutual
structure GExpr where
  kind : Int
  n : Int
  name : List UInt8
  op : Int
  order : Int
  place : GPlace
  kids : List GExpr
structure GPlace where
  var : List UInt8
  parts : List GPart
structure GPart where
  field : List UInt8
  index : List GExpr
end
mutual
def GExpr.cells : GExpr → List AV
  | .mk kind n name op order place kids => .int .i64 kind :: .int .u64 n :: .str name :: .int .i64 op :: .int .i64 order :: (GPlace.cells place ++ [.lst .dead kids.length (GExpr.all kids)])
def GExpr.all : List GExpr → List AV
  | [] => []
  | x :: r => GExpr.cells x ++ GExpr.all r
def GPlace.cells : GPlace → List AV
  | .mk var parts => [.str var, .lst .dead parts.length (GPart.all parts)]
def GPart.cells : GPart → List AV
  | .mk field index => [.str field, .lst .dead index.length (GExpr.all index)]
def GPart.all : List GPart → List AV
  | [] => []
  | x :: r => GPart.cells x ++ GPart.all r
end
theorem GExpr.all_eq : ∀ xs : List GExpr, GExpr.all xs = xs.flatMap GExpr.cells
  | [] => rfl
  | x :: r => by rw [GExpr.all, GExpr.all_eq r, List.flatMap_cons]
theorem GPart.all_eq : ∀ xs : List GPart, GPart.all xs = xs.flatMap GPart.cells
  | [] => rfl
  | x :: r => by rw [GPart.all, GPart.all_eq r, List.flatMap_cons]
theorem GPlace.cells_eq (x : GPlace) : x.cells = [.str x.var, lstA GPart.cells x.parts] := by
  cases x; simp only [GPlace.cells, GPart.all_eq, lstA]
theorem GPart.cells_eq (x : GPart) : x.cells = [.str x.field, lstA GExpr.cells x.index] := by
  cases x; simp only [GPart.cells, GExpr.all_eq, lstA]
theorem GExpr.cells_eq (x : GExpr) : x.cells = .int .i64 x.kind :: .int .u64 x.n :: .str x.name :: .int .i64 x.op :: .int .i64 x.order :: (x.place.cells ++ [lstA GExpr.cells x.kids]) := by
  cases x; simp only [GExpr.cells, GExpr.all_eq, lstA]
theorem GPlace.len (x : GPlace) : x.cells.length = 2 := by rw [GPlace.cells_eq]; rfl
theorem GPart.len (x : GPart) : x.cells.length = 2 := by rw [GPart.cells_eq]; rfl
theorem GExpr.len (x : GExpr) : x.cells.length = 8 := by rw [GExpr.cells_eq]; simp [GPlace.len]

def u64ok (z : Int) : Prop := 0 ≤ z ∧ z ≤ 18446744073709551615
mutual
def GExpr.ok : GExpr → Prop
  | .mk kind n name op order place kids => i64ok kind ∧ u64ok n ∧ name.length ≤ maxLen ∧ i64ok op ∧ i64ok order ∧ GPlace.ok place ∧ kids.length ≤ maxLen ∧ GExpr.oks kids
def GExpr.oks : List GExpr → Prop
  | [] => True
  | x :: r => GExpr.ok x ∧ GExpr.oks r
def GPlace.ok : GPlace → Prop
  | .mk var parts => var.length ≤ maxLen ∧ parts.length ≤ maxLen ∧ GPart.oks parts
def GPart.ok : GPart → Prop
  | .mk field index => field.length ≤ maxLen ∧ index.length ≤ maxLen ∧ GExpr.oks index
def GPart.oks : List GPart → Prop
  | [] => True
  | x :: r => GPart.ok x ∧ GPart.oks r
end
theorem GExpr.oks_iff : ∀ {xs : List GExpr}, GExpr.oks xs ↔ ∀ x ∈ xs, x.ok
  | [] => by simp [GExpr.oks]
  | x :: r => by simp [GExpr.oks, GExpr.oks_iff (xs := r)]
theorem GPart.oks_iff : ∀ {xs : List GPart}, GPart.oks xs ↔ ∀ x ∈ xs, x.ok
  | [] => by simp [GPart.oks]
  | x :: r => by simp [GPart.oks, GPart.oks_iff (xs := r)]

structure GVar where
  name : List UInt8
  type : GType
def GVar.cells (x : GVar) : List AV := .str x.name :: x.type.cells
theorem GVar.len (x : GVar) : x.cells.length = 7 := by simp [GVar.cells, GType.len]
def GVar.ok (x : GVar) : Prop := x.name.length ≤ maxLen ∧ x.type.ok

section
variable {H : Type} {enc : TypeId × Value → H} {P : Program} {w : World} {sp : Nat → Bool} {held : Bool} {F : FTab}

theorem Dec.i64 {n : Nat} {ti : TypeId} (h : P.underlying ti = some (.int .i64)) : Dec F enc P w sp held n ti (fun z : Int => [.int .i64 z]) i64ok := Dec.map id (fun _ => rfl) (fun x hx => by
    simp only [IntKind.min, IntKind.max, IntKind.signed, IntKind.bits, if_true] at hx
    show -9223372036854775808 ≤ x ∧ x ≤ 9223372036854775807
    omega) (Dec.int h)
theorem Dec.u64 {n : Nat} {ti : TypeId} (h : P.underlying ti = some (.int .u64)) : Dec F enc P w sp held n ti (fun z : Int => [.int .u64 z]) u64ok := Dec.map id (fun _ => rfl) (fun x hx => by
    simp [IntKind.min, IntKind.max, IntKind.signed, IntKind.bits] at hx
    show 0 ≤ x ∧ x ≤ 18446744073709551615
    omega) (Dec.int h)

structure ExOK (P : Program) (ti tu ts tE tL tR sE sR : TypeId) (fE fL fR : Array Field) : Prop where
  int : P.underlying ti = some (.int .i64)
  u64 : P.underlying tu = some (.int .u64)
  str : P.underlying ts = some .string
  exp : P.underlying tE = some (.struct fE)
  pla : P.underlying tL = some (.struct fL)
  par : P.underlying tR = some (.struct fR)
  slE : P.underlying sE = some (.slice tE)
  slR : P.underlying sR = some (.slice tR)
  lE : fE.toList.map (fun f => (f.type, f.offset)) = [(ti, 0), (tu, 1), (ts, 2), (ti, 3), (ti, 4), (tL, 5), (sE, 7)]
  lL : fL.toList.map (fun f => (f.type, f.offset)) = [(ts, 0), (sR, 1)]
  lR : fR.toList.map (fun f => (f.type, f.offset)) = [(ts, 0), (sE, 1)]
  cE : P.cellsOf tE = 8
  cL : P.cellsOf tL = 2
  cR : P.cellsOf tR = 2
  c1 : ∀ t ∈ [ti, tu, ts, sE, sR], P.cellsOf t = 1

theorem Dec_exprs {ti tu ts tE tL tR sE sR : TypeId} {fE fL fR : Array Field} (h : ExOK P ti tu ts tE tL tR sE sR fE fL fR) :
    ∀ n, Dec F enc P w sp held n tE GExpr.cells GExpr.ok ∧ Dec F enc P w sp held n tL GPlace.cells GPlace.ok ∧ Dec F enc P w sp held n tR GPart.cells GPart.ok := by
  have c1 : P.cellsOf ti = 1 := h.c1 _ (by simp)
  have c2 : P.cellsOf tu = 1 := h.c1 _ (by simp)
  have c3 : P.cellsOf ts = 1 := h.c1 _ (by simp)
  have c4 : P.cellsOf sE = 1 := h.c1 _ (by simp)
  have c5 : P.cellsOf sR = 1 := h.c1 _ (by simp)
  intro n
  induction n with
  | zero => exact ⟨Dec.zero, Dec.zero, Dec.zero⟩
  | succ n ih =>
    obtain ⟨iE, iL, iR⟩ := ih
    have kE := Dec.mono (Dec.slice h.slE h.cE (by decide) GExpr.len iE) (Nat.le_succ n)
    have kR := Dec.mono (Dec.slice h.slR h.cR (by decide) GPart.len iR) (Nat.le_succ n)
    refine ⟨?_, ?_, ?_⟩
    · refine Dec.map (fun (x : Int × Int × List UInt8 × Int × Int × GPlace × List GExpr × Unit) => (⟨x.1, x.2.1, x.2.2.1, x.2.2.2.1, x.2.2.2.2.1, x.2.2.2.2.2.1, x.2.2.2.2.2.2.1⟩ : GExpr)) (fun x => ?_) (fun x hx => ?_)
        (Dec.struct h.exp h.lE (by simp [chainB, c1, c2, c3, c4, h.cL]) (by simp [totC, c1, c2, c3, c4, h.cL, h.cE])
          (DecL.cons (Dec.i64 h.int) (DecL.cons (Dec.u64 h.u64) (DecL.cons (Dec.string h.str) (DecL.cons (Dec.i64 h.int) (DecL.cons (Dec.i64 h.int) (DecL.cons iL (DecL.cons kE DecL.nil))))))))
      · rw [GExpr.cells_eq]; simp
      · obtain ⟨h1, h2, h3, h4, h5, h6, ⟨h7, h8⟩, _⟩ := hx
        exact ⟨h1, h2, h3, h4, h5, h6, h7, GExpr.oks_iff.2 h8⟩
    · refine Dec.map (fun (x : List UInt8 × List GPart × Unit) => (⟨x.1, x.2.1⟩ : GPlace)) (fun x => ?_) (fun x hx => ?_)
        (Dec.struct h.pla h.lL (by simp [chainB, c3, c5]) (by simp [totC, c3, c5, h.cL]) (DecL.cons (Dec.string h.str) (DecL.cons kR DecL.nil)))
      · rw [GPlace.cells_eq]; rfl
      · obtain ⟨h1, ⟨h2, h3⟩, _⟩ := hx
        exact ⟨h1, h2, GPart.oks_iff.2 h3⟩
    · refine Dec.map (fun (x : List UInt8 × List GExpr × Unit) => (⟨x.1, x.2.1⟩ : GPart)) (fun x => ?_) (fun x hx => ?_)
        (Dec.struct h.par h.lR (by simp [chainB, c3, c4]) (by simp [totC, c3, c4, h.cR]) (DecL.cons (Dec.string h.str) (DecL.cons kE DecL.nil)))
      · rw [GPart.cells_eq]; rfl
      · obtain ⟨h1, ⟨h2, h3⟩, _⟩ := hx
        exact ⟨h1, h2, GExpr.oks_iff.2 h3⟩
end
end Rb

/- The types of the api, as Lean's: statements, programs. -/
set_option linter.unusedVariables false
set_option linter.unusedSimpArgs false
namespace Rb
open Go
structure GStmt where
  kind : Int
  line : Int
  name : List UInt8
  name2 : List UInt8
  order : Int
  place : GPlace
  exprs : List GExpr
  thn : List GStmt
  els : List GStmt
mutual
def GStmt.cells : GStmt → List AV
  | .mk kind line name name2 order place exprs thn els => .int .i64 kind :: .int .i64 line :: .str name :: .str name2 :: .int .i64 order :: (GPlace.cells place ++ [lstA GExpr.cells exprs, .lst .dead thn.length (GStmt.all thn), .lst .dead els.length (GStmt.all els)])
def GStmt.all : List GStmt → List AV
  | [] => []
  | x :: r => GStmt.cells x ++ GStmt.all r
end
theorem GStmt.all_eq : ∀ xs : List GStmt, GStmt.all xs = xs.flatMap GStmt.cells
  | [] => rfl
  | x :: r => by rw [GStmt.all, GStmt.all_eq r, List.flatMap_cons]
theorem GStmt.cells_eq (x : GStmt) : x.cells = .int .i64 x.kind :: .int .i64 x.line :: .str x.name :: .str x.name2 :: .int .i64 x.order :: (x.place.cells ++ [lstA GExpr.cells x.exprs, lstA GStmt.cells x.thn, lstA GStmt.cells x.els]) := by
  cases x; simp only [GStmt.cells, GStmt.all_eq, lstA]
theorem GStmt.len (x : GStmt) : x.cells.length = 10 := by rw [GStmt.cells_eq]; simp [GPlace.len]
mutual
def GStmt.ok : GStmt → Prop
  | .mk kind line name name2 order place exprs thn els => i64ok kind ∧ i64ok line ∧ name.length ≤ maxLen ∧ name2.length ≤ maxLen ∧ i64ok order ∧ GPlace.ok place ∧ exprs.length ≤ maxLen ∧ GExpr.oks exprs ∧ thn.length ≤ maxLen ∧ GStmt.oks thn ∧ els.length ≤ maxLen ∧ GStmt.oks els
def GStmt.oks : List GStmt → Prop
  | [] => True
  | x :: r => GStmt.ok x ∧ GStmt.oks r
end
theorem GStmt.oks_iff : ∀ {xs : List GStmt}, GStmt.oks xs ↔ ∀ x ∈ xs, x.ok
  | [] => by simp [GStmt.oks]
  | x :: r => by simp [GStmt.oks, GStmt.oks_iff (xs := r)]

structure GProg where
  vars : List GVar
  threads : List (List GStmt)
def thrCells (l : List GStmt) : List AV := [lstA GStmt.cells l]
def GProg.cells (x : GProg) : List AV := [lstA GVar.cells x.vars, lstA thrCells x.threads]
def GProg.ok (x : GProg) : Prop := (x.vars.length ≤ maxLen ∧ ∀ v ∈ x.vars, v.ok) ∧ x.threads.length ≤ maxLen ∧ ∀ t ∈ x.threads, t.length ≤ maxLen ∧ ∀ s ∈ t, s.ok

section
variable {H : Type} {enc : TypeId × Value → H} {P : Program} {w : World} {sp : Nat → Bool} {held : Bool} {F : FTab}

theorem Dec_var {ts tT tV : TypeId} {fV : Array Field} (hs : P.underlying ts = some .string) (c3 : P.cellsOf ts = 1) (cT : P.cellsOf tT = 6) (hT : ∀ n, Dec F enc P w sp held n tT GType.cells GType.ok)
    (hV : P.underlying tV = some (.struct fV)) (lV : fV.toList.map (fun f => (f.type, f.offset)) = [(ts, 0), (tT, 1)]) (cV : P.cellsOf tV = 7) : ∀ n, Dec F enc P w sp held n tV GVar.cells GVar.ok := by
  intro n
  refine Dec.mono (n := n + 1) ?_ (Nat.le_succ n)
  refine Dec.map (fun (x : List UInt8 × GType × Unit) => (⟨x.1, x.2.1⟩ : GVar)) (fun x => ?_) (fun x hx => ?_)
    (Dec.struct hV lV (by simp [chainB, c3]) (by simp [totC, c3, cT, cV]) (DecL.cons (Dec.string hs) (DecL.cons (hT n) DecL.nil)))
  · simp [GVar.cells]
  · exact ⟨hx.1, hx.2.1⟩

theorem Dec_stmt {ti tu ts tE tL tR sE sR tS sS : TypeId} {fE fL fR fS : Array Field} (h : ExOK P ti tu ts tE tL tR sE sR fE fL fR) (hS : P.underlying tS = some (.struct fS)) (slS : P.underlying sS = some (.slice tS))
    (lS : fS.toList.map (fun f => (f.type, f.offset)) = [(ti, 0), (ti, 1), (ts, 2), (ts, 3), (ti, 4), (tL, 5), (sE, 7), (sS, 8), (sS, 9)]) (cS : P.cellsOf tS = 10) (csS : P.cellsOf sS = 1) :
    ∀ n, Dec F enc P w sp held n tS GStmt.cells GStmt.ok := by
  have c1 : P.cellsOf ti = 1 := h.c1 _ (by simp)
  have c3 : P.cellsOf ts = 1 := h.c1 _ (by simp)
  have c4 : P.cellsOf sE = 1 := h.c1 _ (by simp)
  intro n
  induction n with
  | zero => exact Dec.zero
  | succ n ih =>
    have kE := Dec.mono (Dec.slice h.slE h.cE (by decide) GExpr.len (Dec_exprs (F := F) (enc := enc) (w := w) (sp := sp) (held := held) h n).1) (Nat.le_succ n)
    have kS := Dec.mono (Dec.slice slS cS (by decide) GStmt.len ih) (Nat.le_succ n)
    refine Dec.map (fun (x : Int × Int × List UInt8 × List UInt8 × Int × GPlace × List GExpr × List GStmt × List GStmt × Unit) => (⟨x.1, x.2.1, x.2.2.1, x.2.2.2.1, x.2.2.2.2.1, x.2.2.2.2.2.1, x.2.2.2.2.2.2.1, x.2.2.2.2.2.2.2.1, x.2.2.2.2.2.2.2.2.1⟩ : GStmt)) (fun x => ?_) (fun x hx => ?_)
      (Dec.struct hS lS (by simp [chainB, c1, c3, c4, csS, h.cL]) (by simp [totC, c1, c3, c4, csS, h.cL, cS])
        (DecL.cons (Dec.i64 h.int) (DecL.cons (Dec.i64 h.int) (DecL.cons (Dec.string h.str) (DecL.cons (Dec.string h.str) (DecL.cons (Dec.i64 h.int) (DecL.cons (Dec_exprs h n).2.1 (DecL.cons kE (DecL.cons kS (DecL.cons kS DecL.nil))))))))))
    · rw [GStmt.cells_eq]; simp
    · obtain ⟨h1, h2, h3, h4, h5, h6, ⟨h7, h8⟩, ⟨h9, h10⟩, ⟨h11, h12⟩, _⟩ := hx
      exact ⟨h1, h2, h3, h4, h5, h6, h7, GExpr.oks_iff.2 h8, h9, GStmt.oks_iff.2 h10, h11, GStmt.oks_iff.2 h12⟩

theorem Dec_prog {tV sV tS sS ssS tP : TypeId} {fP : Array Field} (hV : ∀ n, Dec F enc P w sp held n tV GVar.cells GVar.ok) (hS : ∀ n, Dec F enc P w sp held n tS GStmt.cells GStmt.ok)
    (slV : P.underlying sV = some (.slice tV)) (slS : P.underlying sS = some (.slice tS)) (slSS : P.underlying ssS = some (.slice sS)) (cV : P.cellsOf tV = 7) (cS : P.cellsOf tS = 10) (csS : P.cellsOf sS = 1) (csV : P.cellsOf sV = 1) (cssS : P.cellsOf ssS = 1)
    (hP : P.underlying tP = some (.struct fP)) (lP : fP.toList.map (fun f => (f.type, f.offset)) = [(sV, 0), (ssS, 1)]) (cP : P.cellsOf tP = 2) : ∀ n, Dec F enc P w sp held n tP GProg.cells GProg.ok := by
  intro n
  refine Dec.mono (n := n + 2 + 1) ?_ (by omega)
  have k1 : Dec F enc P w sp held (n + 2) sV (fun xs : List GVar => [lstA GVar.cells xs]) (fun xs => xs.length ≤ maxLen ∧ ∀ x ∈ xs, x.ok) := Dec.slice slV cV (by decide) GVar.len (hV (n + 1))
  have k2 : Dec F enc P w sp held (n + 1) sS thrCells (fun xs => xs.length ≤ maxLen ∧ ∀ x ∈ xs, x.ok) := Dec.slice slS cS (by decide) GStmt.len (hS n)
  have k3 : Dec F enc P w sp held (n + 2) ssS (fun xs : List (List GStmt) => [lstA thrCells xs]) (fun xs => xs.length ≤ maxLen ∧ ∀ x ∈ xs, x.length ≤ maxLen ∧ ∀ y ∈ x, y.ok) := Dec.slice slSS csS (by decide) (fun _ => rfl) k2
  refine Dec.map (fun (x : List GVar × List (List GStmt) × Unit) => (⟨x.1, x.2.1⟩ : GProg)) (fun x => ?_) (fun x hx => ?_)
    (Dec.struct hP lP (by simp [chainB, csV]) (by simp [totC, csV, cssS, cP]) (DecL.cons k1 (DecL.cons k3 DecL.nil)))
  · simp [GProg.cells]
  · exact ⟨hx.1, hx.2.1⟩
end
end Rb

/- Laws for reading what a function means, by simp. -/
set_option linter.unusedVariables false
namespace Rb
open Go

@[simp] theorem Do_of {α : Type} (a : α) (K : α → Prop) : Do (some a) K ↔ K a := ⟨fun ⟨b, h, k⟩ => by cases h; exact k, fun h => ⟨a, rfl, h⟩⟩
@[simp] theorem DoH_some (v : AV) (H : AH) (K : Post) : DoH (some (v, H)) K ↔ K v H := ⟨fun ⟨a, b, h, k⟩ => by cases h; exact k, fun h => ⟨v, H, rfl, h⟩⟩
@[simp] theorem Gd_true (b : Bool) (A B : Prop) : Gd (.bool b) true A B ↔ if b = true then A else B := Iff.rfl
@[simp] theorem Gd_false (b : Bool) (A B : Prop) : Gd (.bool b) false A B ↔ if b = false then A else B := Iff.rfl
@[simp] theorem JoinP_def (K : List AV → AH → Prop) (st : List AV) (H : AH) : JoinP K st H ↔ K st H := Iff.rfl
@[simp] theorem sl_zero (a : AV) (l : List AV) : sl (a :: l) 0 = a := rfl
@[simp] theorem sl_succ (a : AV) (l : List AV) (i : Nat) : sl (a :: l) (i + 1) = sl l i := rfl

section
variable (k : IntKind) (a b : Int)
@[simp] theorem abin_add : abin .add (.int k a) (.int k b) = some (.int k (k.wrap (a + b))) := by simp [abin, abinInt]
@[simp] theorem abin_sub : abin .sub (.int k a) (.int k b) = some (.int k (k.wrap (a - b))) := by simp [abin, abinInt]
@[simp] theorem abin_mul : abin .mul (.int k a) (.int k b) = some (.int k (k.wrap (a * b))) := by simp [abin, abinInt]
@[simp] theorem abin_eql : abin .eql (.int k a) (.int k b) = some (.bool (a == b)) := by simp [abin, abinInt]
@[simp] theorem abin_neq : abin .neq (.int k a) (.int k b) = some (.bool (a != b)) := by simp [abin, abinInt]
@[simp] theorem abin_lss : abin .lss (.int k a) (.int k b) = some (.bool (decide (a < b))) := by simp [abin, abinInt]
@[simp] theorem abin_leq : abin .leq (.int k a) (.int k b) = some (.bool (decide (a ≤ b))) := by simp [abin, abinInt]
@[simp] theorem abin_gtr : abin .gtr (.int k a) (.int k b) = some (.bool (decide (a > b))) := by simp [abin, abinInt]
@[simp] theorem abin_geq : abin .geq (.int k a) (.int k b) = some (.bool (decide (a ≥ b))) := by simp [abin, abinInt]
theorem abin_rem (h : b ≠ 0) : abin .rem (.int k a) (.int k b) = some (.int k (a.tmod b)) := by simp [abin, abinInt, h]
theorem abin_quo (h : b ≠ 0) : abin .quo (.int k a) (.int k b) = some (.int k (k.wrap (a.tdiv b))) := by simp [abin, abinInt, h]
@[simp] theorem abin_and : abin .and (.int k a) (.int k b) = some (.int k (k.wrap (BitVec.ofInt k.bits a &&& BitVec.ofInt k.bits b).toNat)) := by simp [abin, abinInt, bitsOp]
@[simp] theorem abin_or : abin .or (.int k a) (.int k b) = some (.int k (k.wrap (BitVec.ofInt k.bits a ||| BitVec.ofInt k.bits b).toNat)) := by simp [abin, abinInt, bitsOp]
@[simp] theorem abin_xor : abin .xor (.int k a) (.int k b) = some (.int k (k.wrap (BitVec.ofInt k.bits a ^^^ BitVec.ofInt k.bits b).toNat)) := by simp [abin, abinInt, bitsOp]
theorem abin_shr (k' : IntKind) (h : 0 ≤ b) : abin .shr (.int k a) (.int k' b) = some (.int k (a.fdiv (2 ^ (min b.toNat k.bits)))) := by simp [abin, abinInt, Int.not_lt.2 h]
theorem abin_shl (k' : IntKind) (h : 0 ≤ b) : abin .shl (.int k a) (.int k' b) = some (.int k (k.wrap (a * 2 ^ (min b.toNat k.bits)))) := by simp [abin, abinInt, Int.not_lt.2 h]
@[simp] theorem aconv_int (k' : IntKind) : aconv k' (.int k a) = some (.int k' (k'.wrap a)) := rfl
@[simp] theorem abeq_def (neg : Bool) (x y : Bool) : abeq neg (.bool x) (.bool y) = some (.bool (if neg then !(x == y) else x == y)) := rfl
@[simp] theorem aun_not (x : Bool) : aun .not (.bool x) = some (.bool !x) := rfl
end
@[simp] theorem alen_lst (tk : Tok) (n : Nat) (cs : List AV) : alen false (.lst tk n cs) = some (.int .i64 n) := rfl
@[simp] theorem alen_row (id o n sz : Nat) : alen false (.row id o n sz) = some (.int .i64 n) := rfl
@[simp] theorem alen_str (s : List UInt8) : alen true (.str s) = some (.int .i64 s.length) := rfl

end Rb

/- Memory that only grew; numbers. -/
set_option linter.unusedVariables false
namespace Rb
open Go

/-- What was there is as it was. -/
def AH.Ext (H H' : AH) : Prop := H.n ≤ H'.n ∧ ∀ i, i < H.n → H'.o i = H.o i
theorem AH.Ext.refl (H : AH) : AH.Ext H H := ⟨Nat.le_refl _, fun _ _ => rfl⟩
theorem AH.Ext.trans {a b c : AH} (h : AH.Ext a b) (k : AH.Ext b c) : AH.Ext a c := ⟨Nat.le_trans h.1 k.1, fun i hi => (k.2 i (Nat.lt_of_lt_of_le hi h.1)).trans (h.2 i hi)⟩
theorem AH.Ext.push (H : AH) (x : AObj) : AH.Ext H (H.push x) := ⟨Nat.le_succ _, fun i hi => if_neg (Nat.ne_of_lt hi)⟩
theorem AH.Ext.set {H H' : AH} (h : AH.Ext H H') {i : Nat} (hi : H.n ≤ i) (x : AObj) : AH.Ext H (H'.set i x) := ⟨h.1, fun j hj => by
  simp only [AH.set]; rw [if_neg (by omega)]; exact h.2 j hj⟩
@[simp] theorem AH.push_n (H : AH) (x : AObj) : (H.push x).n = H.n + 1 := rfl
@[simp] theorem AH.set_n (H : AH) (i : Nat) (x : AObj) : (H.set i x).n = H.n := rfl
theorem AH.push_self (H : AH) (x : AObj) : (H.push x).o H.n = x := if_pos rfl
theorem AH.push_ne (H : AH) (x : AObj) {i : Nat} (h : i ≠ H.n) : (H.push x).o i = H.o i := if_neg h
theorem AH.set_self (H : AH) (i : Nat) (x : AObj) : (H.set i x).o i = x := if_pos rfl
theorem AH.set_ne (H : AH) {i j : Nat} (x : AObj) (h : j ≠ i) : (H.set i x).o j = H.o j := if_neg h

theorem wrap_i64 {n : Int} (h1 : -9223372036854775808 ≤ n) (h2 : n ≤ 9223372036854775807) : IntKind.wrap .i64 n = n := by
  simp [IntKind.wrap, IntKind.signed, IntKind.bits]; omega
theorem wrap_u64 {n : Int} (h1 : 0 ≤ n) (h2 : n < 18446744073709551616) : IntKind.wrap .u64 n = n := by
  simp [IntKind.wrap, IntKind.signed, IntKind.bits]; omega
theorem wrap_u8 {n : Int} (h1 : 0 ≤ n) (h2 : n < 256) : IntKind.wrap .u8 n = n := by
  simp [IntKind.wrap, IntKind.signed, IntKind.bits]; omega
theorem wrap_u32 {n : Int} (h1 : 0 ≤ n) (h2 : n < 4294967296) : IntKind.wrap .u32 n = n := by
  simp [IntKind.wrap, IntKind.signed, IntKind.bits]; omega

/-- A list that grows at its end, and that nobody else holds. -/
def Lst (H0 H : AH) (sz : Nat) (x : AV) (len : Nat) (cells : List AV) : Prop :=
  AH.Ext H0 H ∧ ∃ tk, x = .lst tk len cells ∧ cells.length = len * sz ∧ ((tk = .nil ∧ len = 0) ∨ ∃ t, tk = .own t ∧ H0.n ≤ t ∧ t < H.n ∧ H.o t = .tok (len * sz) sz)

theorem Lst.nil (H : AH) (sz : Nat) : Lst H H sz (.lst .nil 0 []) 0 [] := ⟨AH.Ext.refl H, .nil, rfl, by simp, .inl ⟨rfl, rfl⟩⟩

theorem Lst.append {H0 H : AH} {sz bytes len m : Nat} {x y : AV} {cells news : List AV} {K : Post} (h : Lst H0 H sz x len cells) (hy : acells H sz y = some (m, news)) (hn : news.length = m * sz) (hs : news.all AV.scalar = true) (hm : m ≠ 0)
    (hb : (len + m) * bytes ≤ 140737488355328) (hl : len + m ≤ 9223372036854775807) (hK : ∀ x' H', Lst H0 H' sz x' (len + m) (cells ++ news) → K x' H') : DoH (aappend H false sz bytes x y) K := by
  obtain ⟨hx, tk, rfl, hc, htk⟩ := h
  have hlen : (cells ++ news).length = (len + m) * sz := by simp [hc, hn, Nat.add_mul]
  rcases htk with ⟨rfl, rfl⟩ | ⟨t, rfl, h1, h2, h3⟩
  · refine ⟨.lst (.own H.n) (0 + m) (cells ++ news), H.push (.tok ((0 + m) * sz) sz), ?_, hK _ _ ⟨hx.trans (AH.Ext.push _ _), _, rfl, hlen, .inr ⟨H.n, rfl, hx.1, Nat.lt_succ_self _, AH.push_self _ _⟩⟩⟩
    simp only [aappend, hy, hs, not_true_eq_false, if_false, if_neg hm]
    rw [if_neg (by simp only [Decidable.not_not]; exact ⟨hc, hb, hl⟩)]
  · refine ⟨.lst (.own H.n) (len + m) (cells ++ news), (H.set t .gone).push (.tok ((len + m) * sz) sz), ?_, hK _ _ ⟨(hx.set h1 _).trans (AH.Ext.push _ _), _, rfl, hlen, .inr ⟨H.n, rfl, hx.1, Nat.lt_succ_self _, AH.push_self _ _⟩⟩⟩
    simp only [aappend, hy, hs, not_true_eq_false, if_false, if_neg hm]
    rw [if_neg (by simp only [Decidable.not_not]; exact ⟨hc, hb, hl⟩)]
    simp [h3]

/-- What stands at a place. -/
def At (H : AH) (id : Nat) (x : AObj) : Prop := id < H.n ∧ H.o id = x
theorem At.new (H : AH) (x : AObj) : At (H.push x) H.n x := ⟨Nat.lt_succ_self _, AH.push_self H x⟩
theorem At.ext {H H' : AH} {id : Nat} {x : AObj} (h : At H id x) (hE : AH.Ext H H') : At H' id x := ⟨Nat.lt_of_lt_of_le h.1 hE.1, (hE.2 id h.1).trans h.2⟩
theorem At.push {H : AH} {id : Nat} {x : AObj} (h : At H id x) (y : AObj) : At (H.push y) id x := h.ext (AH.Ext.push H y)
theorem At.set_ne {H : AH} {id i : Nat} {x : AObj} (h : At H id x) (hne : id ≠ i) (y : AObj) : At (H.set i y) id x := ⟨h.1, (AH.set_ne H y hne).trans h.2⟩
theorem At.set {H : AH} {id : Nat} {x : AObj} (h : At H id x) (y : AObj) : At (H.set id y) id y := ⟨h.1, AH.set_self H id y⟩
theorem At.ne {H : AH} {id i : Nat} {x y : AObj} (h : At H id x) (k : At H i y) (hxy : x ≠ y) : id ≠ i := fun e => hxy (by rw [← h.2, ← k.2, e])
theorem At.lt_new {H : AH} {id : Nat} {x : AObj} (h : At H id x) : id ≠ H.n := Nat.ne_of_lt h.1

theorem At.load {H : AH} {id : Nat} {cs : List AV} (h : At H id (.row cs)) (n o : Nat) (agg : Bool) : aload H n agg (.ptr id o) = takeCells cs o n agg := by simp [aload, h.2]
theorem At.store {H : AH} {id : Nat} {cs : List AV} (h : At H id (.row cs)) (n o : Nat) (v : AV) : astore H n (.ptr id o) v = if v.known ∧ v.cells.length = n ∧ v.cells.all AV.scalar ∧ o + n ≤ cs.length then some (H.set id (.row (setCells cs o v.cells))) else none := by simp [astore, h.2]

end Rb

/- More laws for reading. -/
set_option linter.unusedVariables false
namespace Rb
open Go
@[simp] theorem Gd3_true (b : Bool) (A B C : Prop) : Gd3 (.bool b) true A B C ↔ if b = true then A else B := Iff.rfl
@[simp] theorem Gd3_false (b : Bool) (A B C : Prop) : Gd3 (.bool b) false A B C ↔ if b = false then A else B := Iff.rfl
@[simp] theorem Gd3_tup (want : Bool) (A B C : Prop) : Gd3 (.tup []) want A B C ↔ C := Iff.rfl
theorem ite_both {c : Prop} [Decidable c] {A B : Prop} (h1 : c → A) (h2 : ¬ c → B) : if c then A else B := by
  split
  · exact h1 ‹_›
  · exact h2 ‹_›
theorem drop_nil_le {α : Type} {xs : List α} {i : Nat} (h : xs.drop i = []) : xs.length ≤ i := by simpa using h
theorem drop_cons_lt {α : Type} {xs ys : List α} {i : Nat} {y : α} (h : xs.drop i = y :: ys) : i < xs.length ∧ xs[i]? = some y ∧ xs.drop (i + 1) = ys := by
  have hlt : i < xs.length := by
    rcases Nat.lt_or_ge i xs.length with h' | h'
    · exact h'
    · rw [List.drop_eq_nil_of_le h'] at h; cases h
  refine ⟨hlt, ?_, ?_⟩
  · have := congrArg (fun l => l[0]?) h
    simpa using this
  · have := congrArg List.tail h
    simpa using this
end Rb

/- Slices of typed values: reading an element; slices.IndexFunc. -/
set_option linter.unusedVariables false
set_option linter.unusedSimpArgs false
namespace Rb
open Go

section
variable {α : Type} {cells : α → List AV} {sz : Nat}

theorem flatMap_drop (hc : ∀ x, (cells x).length = sz) : ∀ (xs : List α) (i : Nat), (xs.flatMap cells).drop (i * sz) = (xs.drop i).flatMap cells := by
  intro xs i
  induction i generalizing xs with
  | zero => simp
  | succ i ih =>
    cases xs with
    | nil => simp
    | cons x xs =>
      rw [List.flatMap_cons, List.drop_succ_cons, ← ih]
      rw [show (i + 1) * sz = (cells x).length + i * sz by rw [hc, Nat.add_mul, Nat.one_mul, Nat.add_comm], ← List.drop_drop, List.drop_left]

theorem flatMap_len (hc : ∀ x, (cells x).length = sz) (xs : List α) : (xs.flatMap cells).length = xs.length * sz := by
  induction xs with
  | nil => simp
  | cons x xs ih => rw [List.flatMap_cons, List.length_append, ih, hc, List.length_cons, Nat.add_mul]; omega

/-- The address of an element. -/
def elA (cells : α → List AV) (sz : Nat) (xs : List α) (i : Nat) : AV := .fptr ((xs.flatMap cells).drop (i * sz))

theorem lstA_addr {xs : List α} {i : Nat} (hi : i < xs.length) : aiaddr none sz (lstA cells xs) (.int .i64 i) = some (elA cells sz xs i) := by
  simp only [lstA, aiaddr]
  rw [if_pos ⟨by omega, by omega⟩]; rfl

theorem elA_load (hc : ∀ x, (cells x).length = sz) (hz : 0 < sz) (H : AH) {xs : List α} {i : Nat} {x : α} (hx : xs[i]? = some x) : aload H sz true (elA cells sz xs i) = some (.agg (cells x)) := by
  have hlt := (List.getElem?_eq_some_iff.1 hx).1
  have hd : xs.drop i = x :: xs.drop (i + 1) := by
    rw [List.drop_eq_getElem_cons hlt]
    rw [List.getElem?_eq_getElem hlt] at hx
    simp at hx
    rw [hx]
  show takeCells ((xs.flatMap cells).drop (i * sz)) 0 sz true = _
  rw [flatMap_drop hc, hd, List.flatMap_cons]
  unfold takeCells
  rw [if_pos (by rw [List.length_append, hc]; omega)]
  simp only [if_true, List.drop_zero]
  rw [List.take_append_of_le_length (by rw [hc]; omega), List.take_of_length_le (by rw [hc]; omega)]

def IndexFuncL (sz : Nat) (Φ : Calls') (a0 : AV) (a1 : AV) (x1 : AV) (Q : Post) : (List AV × AH) → ((List AV × AH) → Prop) → Prop := fun s2 L3 =>
  Do (abin .lss (sl s2.1 0) x1) fun x4 =>
  Gd x4 true (
  Do (aiaddr none sz a0 (sl s2.1 0)) fun x5 =>
  Do (aload s2.2 sz true x5) fun x6 =>
  ∃ k9 c10, a1 = .fn k9 c10 ∧ Φ k9 ([x6] ++ c10) s2.2 fun x7 H8 =>
  Gd x7 true (
  Q (sl s2.1 0) H8) (
  Do (abin .add (sl s2.1 0) (.int .i64 1)) fun x11 =>
  L3 ([x11], H8))) (
  Q (.int .i64 (-1)) s2.2)
def IndexFunc (sz : Nat) (Φ : Calls') (a0 : AV) (a1 : AV) (H : AH) (Q : Post) : Prop :=
  Do (alen false a0) fun x1 =>
  LoopP (IndexFuncL sz Φ a0 a1 x1 Q) ([(.int .i64 0)], H)

def idxI : Option Nat → Int
  | some i => i
  | none => -1

theorem IndexFunc_spec {Φ : Calls'} (hc : ∀ x, (cells x).length = sz) (hz : 0 < sz) {p : α → Bool} {key : Nat} {caps : List AV} {xs : List α} {H : AH} (hf : ∀ x ∈ xs, ∀ (R : Post), R (.bool (p x)) H → Φ key ([.agg (cells x)] ++ caps) H R) (hl : xs.length ≤ 9223372036854775807) {Q : Post}
    (hQ : Q (.int .i64 (idxI (xs.findIdx? p))) H) : IndexFunc sz Φ (lstA cells xs) (.fn key caps) H Q := by
  unfold IndexFunc
  have hlen : alen false (lstA cells xs) = some (.int .i64 xs.length) := rfl
  rw [hlen]
  simp only [Do_of]
  have main : ∀ (ys : List α) (i : Nat), xs.drop i = ys → Q (.int .i64 (idxI ((ys.findIdx? p).map (· + i)))) H → LoopP (IndexFuncL sz Φ (lstA cells xs) (.fn key caps) (.int .i64 xs.length) Q) ([.int .i64 i], H) := by
    intro ys
    induction ys with
    | nil =>
      intro i hi hq
      have hle := drop_nil_le hi
      refine LoopP.step ?_
      simp only [IndexFuncL, sl_zero, abin_lss, Do_of, Gd_true]
      rw [if_neg (by simp only [decide_eq_true_eq]; omega)]
      simpa [idxI] using hq
    | cons y ys ih =>
      intro i hi hq
      obtain ⟨hlt, hy, hd⟩ := drop_cons_lt hi
      refine LoopP.step ?_
      simp only [IndexFuncL, sl_zero, abin_lss, Do_of, Gd_true]
      rw [if_pos (by simp only [decide_eq_true_eq]; omega), lstA_addr hlt]
      simp only [Do_of]
      rw [elA_load hc hz H hy]
      simp only [Do_of]
      refine ⟨key, caps, rfl, hf y (List.mem_of_getElem? hy) _ ?_⟩
      simp only [Gd_true]
      rw [List.findIdx?_cons] at hq
      by_cases he : p y = true
      · rw [if_pos he]
        rw [if_pos he] at hq
        simpa [idxI] using hq
      · rw [if_neg he]
        rw [if_neg he] at hq
        simp only [abin_add, Do_of]
        rw [wrap_i64 (by omega) (by omega), show ((i : Int) + 1) = ((i + 1 : Nat) : Int) by simp]
        refine ih (i + 1) hd ?_
        have : (List.findIdx? p ys).map (· + (i + 1)) = ((List.findIdx? p ys).map (· + 1)).map (· + i) := by
          rw [Option.map_map]; congr 1; funext k; simp only [Function.comp]; omega
        rw [this]; exact hq
  refine main xs 0 rfl ?_
  simpa using hQ
end
end Rb

/- Typed values are frozen. -/
set_option linter.unusedVariables false
set_option linter.unusedSimpArgs false
namespace Rb
open Go

theorem frozs_app (a b : List AV) : AV.frozs (a ++ b) = (AV.frozs a && AV.frozs b) := by
  rw [frozs_all, frozs_all, frozs_all, List.all_append]

mutual
theorem GType.froz : ∀ x : GType, AV.frozs x.cells = true
  | .mk kind size packed fields count elem => by
    simp only [GType.cells, AV.frozs, AV.froz, Tok.free, GField.allFroz fields, GType.allFroz elem, Bool.and_self]
theorem GType.allFroz : ∀ xs : List GType, AV.frozs (GType.all xs) = true
  | [] => rfl
  | x :: r => by rw [GType.all, frozs_app, GType.froz x, GType.allFroz r]; rfl
theorem GField.froz : ∀ x : GField, AV.frozs x.cells = true
  | .mk name type bits width => by
    simp only [GField.cells, AV.frozs, AV.froz, frozs_app, GType.froz type, Bool.and_self]
theorem GField.allFroz : ∀ xs : List GField, AV.frozs (GField.all xs) = true
  | [] => rfl
  | x :: r => by rw [GField.all, frozs_app, GField.froz x, GField.allFroz r]; rfl
end
mutual
theorem GExpr.froz : ∀ x : GExpr, AV.frozs x.cells = true
  | .mk kind n name op order place kids => by
    simp only [GExpr.cells, AV.frozs, AV.froz, frozs_app, Tok.free, GPlace.froz place, GExpr.allFroz kids, Bool.and_self]
theorem GExpr.allFroz : ∀ xs : List GExpr, AV.frozs (GExpr.all xs) = true
  | [] => rfl
  | x :: r => by rw [GExpr.all, frozs_app, GExpr.froz x, GExpr.allFroz r]; rfl
theorem GPlace.froz : ∀ x : GPlace, AV.frozs x.cells = true
  | .mk var parts => by simp only [GPlace.cells, AV.frozs, AV.froz, Tok.free, GPart.allFroz parts, Bool.and_self]
theorem GPart.froz : ∀ x : GPart, AV.frozs x.cells = true
  | .mk field index => by simp only [GPart.cells, AV.frozs, AV.froz, Tok.free, GExpr.allFroz index, Bool.and_self]
theorem GPart.allFroz : ∀ xs : List GPart, AV.frozs (GPart.all xs) = true
  | [] => rfl
  | x :: r => by rw [GPart.all, frozs_app, GPart.froz x, GPart.allFroz r]; rfl
end
theorem lstA_froz {α : Type} {cells : α → List AV} (h : ∀ x, AV.frozs (cells x) = true) (xs : List α) : (lstA cells xs).froz = true := by
  have : AV.frozs (xs.flatMap cells) = true := by
    induction xs with
    | nil => rfl
    | cons x xs ih => rw [List.flatMap_cons, frozs_app, h, ih]; rfl
  simp only [lstA, AV.froz, Tok.free, this, Bool.and_self]
theorem GVar.froz (x : GVar) : AV.frozs x.cells = true := by simp only [GVar.cells, AV.frozs, AV.froz, GType.froz, Bool.and_self]
mutual
theorem GStmt.froz : ∀ x : GStmt, AV.frozs x.cells = true
  | .mk kind line name name2 order place exprs thn els => by
    simp only [GStmt.cells, AV.frozs, AV.froz, frozs_app, Tok.free, GPlace.froz place, lstA_froz GExpr.froz exprs, GStmt.allFroz thn, GStmt.allFroz els, Bool.and_self]
theorem GStmt.allFroz : ∀ xs : List GStmt, AV.frozs (GStmt.all xs) = true
  | [] => rfl
  | x :: r => by rw [GStmt.all, frozs_app, GStmt.froz x, GStmt.allFroz r]; rfl
end
theorem thr_froz (l : List GStmt) : AV.frozs (thrCells l) = true := by simp only [thrCells, AV.frozs, lstA_froz GStmt.froz, Bool.and_self]
theorem GProg.froz (x : GProg) : AV.frozs x.cells = true := by simp only [GProg.cells, AV.frozs, lstA_froz GVar.froz, lstA_froz thr_froz, Bool.and_self]
end Rb

/- New variables, and what is read of them. -/
set_option linter.unusedVariables false
set_option linter.unusedSimpArgs false
namespace Rb
open Go

@[simp] theorem AH.push_set (H : AH) (x y : AObj) : (H.push x).set H.n y = H.push y := by
  simp only [AH.push, AH.set]
  congr 1
  funext j
  split <;> rfl
@[simp] theorem load_push (H : AH) (cs : List AV) (n o : Nat) (agg : Bool) : aload (H.push (.row cs)) n agg (.ptr H.n o) = takeCells cs o n agg := by
  simp [aload, AH.push_self]
theorem store_push (H : AH) (cs : List AV) (n o : Nat) (v : AV) (h1 : v.known = true) (h2 : v.cells.length = n) (h3 : v.cells.all AV.scalar = true) (h4 : o + n ≤ cs.length) : astore (H.push (.row cs)) n (.ptr H.n o) v = some (H.push (.row (setCells cs o v.cells))) := by
  rw [(At.new H (.row cs)).store, if_pos ⟨h1, h2, h3, h4⟩, AH.push_set]
theorem setCells_all {xs ys : List AV} : ∀ {k : Nat}, k + ys.length = xs.length → setCells xs k ys = xs.take k ++ ys := by
  induction ys generalizing xs with
  | nil => intro k h; simp only [setCells]; rw [List.append_nil, List.take_of_length_le (by simp at h; omega)]
  | cons y ys ih =>
    intro k h
    simp only [setCells]
    rw [ih (by simp at h ⊢; omega)]
    have hk : k < xs.length := by simp at h; omega
    rw [List.take_add_one, List.getElem?_set_self hk, List.take_set_of_le (by omega)]
    simp
/-- A new variable gets a struct. -/
theorem store_new (H : AH) (zs cs : List AV) (n : Nat) (h2 : cs.length = n) (h3 : cs.all AV.scalar = true) (h4 : zs.length = n) : astore (H.push (.row zs)) n (.ptr H.n 0) (.agg cs) = some (H.push (.row cs)) := by
  rw [store_push H zs n 0 (.agg cs) rfl h2 h3 (by omega)]
  congr 3
  show setCells zs 0 cs = cs
  rw [setCells_all (by omega)]; rfl

theorem takeCells_app {a b : List AV} {n : Nat} (h : a.length = n) : takeCells (a ++ b) 0 n true = some (.agg a) := by
  unfold takeCells
  rw [if_pos (by rw [List.length_append]; omega)]
  simp only [if_true, List.drop_zero]
  rw [List.take_append_of_le_length (by omega), List.take_of_length_le (by omega)]
theorem takeCells_whole {a : List AV} {n : Nat} (h : a.length = n) : takeCells a 0 n true = some (.agg a) := by
  have := takeCells_app (a := a) (b := []) h
  rwa [List.append_nil] at this
theorem takeCells_drop {cs : List AV} {o n : Nat} {agg : Bool} (h : o ≤ cs.length) : takeCells cs o n agg = takeCells (cs.drop o) 0 n agg := by
  by_cases hl : o + n ≤ cs.length
  · have hl' : 0 + n ≤ (cs.drop o).length := by rw [List.length_drop]; omega
    unfold takeCells
    simp only [hl, hl', if_true]
    cases agg <;> simp
  · have hl' : ¬ 0 + n ≤ (cs.drop o).length := by rw [List.length_drop]; omega
    unfold takeCells
    simp only [hl, hl', if_false]

/-- Frozen values may lie in a cell. -/
theorem froz_scalar : ∀ {cs : List AV}, (∀ c ∈ cs, c.scalar = true) → cs.all AV.scalar = true := fun h => List.all_eq_true.2 h
mutual
theorem GType.scalar : ∀ x : GType, x.cells.all AV.scalar = true
  | .mk kind size packed fields count elem => by simp [GType.cells, AV.scalar]
theorem GField.scalar : ∀ x : GField, x.cells.all AV.scalar = true
  | .mk name type bits width => by simp only [GField.cells, List.all_cons, List.all_append, GType.scalar type]; rfl
end
theorem GPlace.scalar (x : GPlace) : x.cells.all AV.scalar = true := by rw [GPlace.cells_eq]; rfl
theorem GPart.scalar (x : GPart) : x.cells.all AV.scalar = true := by rw [GPart.cells_eq]; rfl
theorem GExpr.scalar (x : GExpr) : x.cells.all AV.scalar = true := by rw [GExpr.cells_eq]; simp only [List.all_cons, List.all_append, GPlace.scalar]; rfl
theorem GStmt.scalar (x : GStmt) : x.cells.all AV.scalar = true := by rw [GStmt.cells_eq]; simp only [List.all_cons, List.all_append, GPlace.scalar]; rfl
theorem GVar.scalar (x : GVar) : x.cells.all AV.scalar = true := by simp only [GVar.cells, List.all_cons, GType.scalar]; rfl
end Rb

/- Slices of numbers held against one another. -/
set_option linter.unusedVariables false
set_option linter.unusedSimpArgs false
namespace Rb
open Go

/-- A number's cell. -/
def i1 (k : IntKind) (z : Int) : List AV := [.int k z]
theorem i1_len (k : IntKind) (z : Int) : (i1 k z).length = 1 := rfl

section
variable {α : Type} {c : α → AV}
theorem one_load (H : AH) {xs : List α} {i : Nat} {x : α} (hx : xs[i]? = some x) : aload H 1 false (elA (fun x => [c x]) 1 xs i) = some (c x) := by
  have hlt := (List.getElem?_eq_some_iff.1 hx).1
  have hd : xs.drop i = x :: xs.drop (i + 1) := by
    rw [List.drop_eq_getElem_cons hlt]
    rw [List.getElem?_eq_getElem hlt] at hx
    simp at hx
    rw [hx]
  show takeCells ((xs.flatMap fun x => [c x]).drop (i * 1)) 0 1 false = _
  rw [flatMap_drop (sz := 1) (fun _ => rfl), hd, List.flatMap_cons]
  rfl
end
theorem num_load {k : IntKind} (H : AH) {xs : List Int} {i : Nat} {x : Int} (hx : xs[i]? = some x) : aload H 1 false (elA (i1 k) 1 xs i) = some (.int k x) := one_load H hx

def EqualL (a0 : AV) (a1 : AV) (x4 : AV) (Q : Post) : (List AV × AH) → ((List AV × AH) → Prop) → Prop := fun s5 L6 =>
 Do (abin .lss (sl s5.1 0) x4) fun x7 =>
 Gd x7 true (
 Do (aiaddr none 1 a0 (sl s5.1 0)) fun x8 =>
 Do (aload s5.2 1 false x8) fun x9 =>
 Do (aiaddr none 1 a1 (sl s5.1 0)) fun x10 =>
 Do (aload s5.2 1 false x10) fun x11 =>
 Do (abin .neq x9 x11) fun x12 =>
 Gd x12 true (
 Q (.bool false) s5.2) (
 Do (abin .add (sl s5.1 0) (.int .i64 1)) fun x13 =>
 L6 ([x13], s5.2))) (
 Q (.bool true) s5.2)
/-- slices.Equal of numbers. -/
def Equal (a0 : AV) (a1 : AV) (H : AH) (Q : Post) : Prop :=
 Do (alen false a0) fun x1 =>
 Do (alen false a1) fun x2 =>
 Do (abin .neq x1 x2) fun x3 =>
 Gd x3 true (
 Q (.bool false) H) (
 Do (alen false a0) fun x4 =>
 LoopP (EqualL a0 a1 x4 Q) ([(.int .i64 0)], H))

theorem lstA_len' {α : Type} (cells : α → List AV) (xs : List α) : alen false (lstA cells xs) = some (.int .i64 xs.length) := rfl
theorem ne_len {α : Type} {xs ys : List α} [BEq α] [LawfulBEq α] (h : xs.length ≠ ys.length) : (xs == ys) = false := by
  rw [beq_eq_false_iff_ne]; intro e; exact h (by rw [e])

theorem Equal_spec {k : IntKind} {xs ys : List Int} {H : AH} {Q : Post} (hl : xs.length ≤ 9223372036854775807) (hQ : Q (.bool (xs == ys)) H) : Equal (lstA (i1 k) xs) (lstA (i1 k) ys) H Q := by
  unfold Equal
  simp only [lstA_len', Do_of, abin_neq, Gd_true]
  by_cases he : xs.length = ys.length
  · rw [if_neg (by simp [he])]
    have main : ∀ (us vs : List Int) (i : Nat), xs.drop i = us → ys.drop i = vs → us.length = vs.length → Q (.bool (us == vs)) H → LoopP (EqualL (lstA (i1 k) xs) (lstA (i1 k) ys) (.int .i64 xs.length) Q) ([.int .i64 i], H) := by
      intro us
      induction us with
      | nil =>
        intro vs i hu hv hlen hq
        have hle := drop_nil_le hu
        obtain rfl : vs = [] := by cases vs with | nil => rfl | cons _ _ => cases hlen
        refine LoopP.step ?_
        simp only [EqualL, sl_zero, abin_lss, Do_of, Gd_true]
        rw [if_neg (by simp only [decide_eq_true_eq]; omega)]
        exact hq
      | cons u us ih =>
        intro vs i hu hv hlen hq
        cases vs with
        | nil => cases hlen
        | cons v vs =>
          obtain ⟨hlt, hu1, hu2⟩ := drop_cons_lt hu
          obtain ⟨hlt', hv1, hv2⟩ := drop_cons_lt hv
          refine LoopP.step ?_
          simp only [EqualL, sl_zero, abin_lss, Do_of, Gd_true]
          rw [if_pos (by simp only [decide_eq_true_eq]; omega), lstA_addr hlt, lstA_addr hlt']
          simp only [Do_of]
          rw [num_load H hu1, num_load H hv1]
          simp only [Do_of, abin_neq, Gd_true]
          by_cases hx : u = v
          · subst hx
            rw [if_neg (by simp)]
            simp only [abin_add, Do_of]
            rw [wrap_i64 (by omega) (by omega), show ((i : Int) + 1) = ((i + 1 : Nat) : Int) by simp]
            refine ih vs (i + 1) hu2 hv2 (by simpa using hlen) ?_
            simpa using hq
          · rw [if_pos (by simpa using hx)]
            have : (u :: us == v :: vs) = false := by rw [beq_eq_false_iff_ne]; intro e; cases e; exact hx rfl
            rw [this] at hq; exact hq
    exact main xs ys 0 rfl rfl he hQ
  · rw [if_pos (by simpa using fun e => he (by omega))]
    rw [ne_len he] at hQ; exact hQ

def SameL (a0 : AV) (a1 : AV) (Q : Post) : (List AV × AH) → ((List AV × AH) → Prop) → Prop := fun s4 L5 =>
 Do (alen false a0) fun x6 =>
 Do (abin .lss (sl s4.1 0) x6) fun x7 =>
 Gd x7 true (
 Do (aiaddr none 1 a0 (sl s4.1 0)) fun x8 =>
 Do (aload s4.2 1 false x8) fun x9 =>
 Do (aiaddr none 1 a1 (sl s4.1 0)) fun x10 =>
 Do (aload s4.2 1 false x10) fun x11 =>
 Do (abin .neq x9 x11) fun x12 =>
 Gd x12 true (
 Q (.bool false) s4.2) (
 Do (abin .add (sl s4.1 0) (.int .i64 1)) fun x13 =>
 L5 ([x13], s4.2))) (
 Q (.bool true) s4.2)
def SameD (a0 : AV) (a1 : AV) (H : AH) (Q : Post) : Prop :=
 Do (alen false a0) fun x1 =>
 Do (alen false a1) fun x2 =>
 Do (abin .neq x1 x2) fun x3 =>
 Gd x3 true (
 Q (.bool false) H) (
 LoopP (SameL a0 a1 Q) ([(.int .i64 0)], H))
theorem SameD_spec {k : IntKind} {xs ys : List Int} {H : AH} {Q : Post} (hl : xs.length ≤ 9223372036854775807) (hQ : Q (.bool (xs == ys)) H) : SameD (lstA (i1 k) xs) (lstA (i1 k) ys) H Q := by
  have e : SameL (lstA (i1 k) xs) (lstA (i1 k) ys) Q = EqualL (lstA (i1 k) xs) (lstA (i1 k) ys) (.int .i64 xs.length) Q := by
    funext s L
    unfold SameL EqualL
    rw [lstA_len']
    simp only [Do_of]
  have := Equal_spec (k := k) (ys := ys) hl hQ
  unfold Equal at this
  unfold SameD
  rw [e]
  simp only [lstA_len', Do_of] at this ⊢
  exact this

/-- Bytes as a text. -/
theorem bytes_str {H : AH} : ∀ {xs : List Int}, (∀ x ∈ xs, 0 ≤ x ∧ x ≤ 255) → abstr H (lstA (i1 .u8) xs) = some (.str (xs.map fun x => UInt8.ofNat x.toNat)) := by
  intro xs hx
  have h1 : ∀ ys : List Int, cellBytes (ys.flatMap (i1 .u8)) = some (ys.map fun x => UInt8.ofNat x.toNat) := by
    intro ys
    induction ys with
    | nil => rfl
    | cons y ys ih =>
      rw [List.flatMap_cons]
      show cellBytes (.int .u8 y :: ys.flatMap (i1 .u8)) = _
      unfold cellBytes
      rw [ih]; rfl
  simp only [abstr, lstA, acells]
  rw [if_pos (by rw [flatMap_len (i1_len _)])]
  simp only [h1, Option.map_some]
theorem bytes_eq {xs ys : List Int} (hx : ∀ x ∈ xs, 0 ≤ x ∧ x ≤ 255) (hy : ∀ x ∈ ys, 0 ≤ x ∧ x ≤ 255) : ((xs.map fun x => UInt8.ofNat x.toNat) == ys.map fun x => UInt8.ofNat x.toNat) = (xs == ys) := by
  rw [Bool.eq_iff_iff]
  simp only [beq_iff_eq]
  constructor
  · intro h
    induction xs generalizing ys with
    | nil => cases ys with | nil => rfl | cons _ _ => cases h
    | cons x xs ih =>
      cases ys with
      | nil => cases h
      | cons y ys =>
        simp only [List.map_cons, List.cons.injEq] at h
        obtain ⟨h1, h2⟩ := h
        have h3 := hx x (by simp)
        have h4 := hy y (by simp)
        have h5 := congrArg UInt8.toNat h1
        simp only [UInt8.toNat_ofNat'] at h5
        rw [ih (fun z hz => hx z (by simp [hz])) (fun z hz => hy z (by simp [hz])) h2]
        congr 1
        omega
  · intro h; rw [h]
end Rb

/- Types: what the program's package kind, and the document, say of them: models. -/
set_option linter.unusedVariables false
set_option linter.unusedSimpArgs false
namespace Rb
open Go

/-- A call that gives a value, and leaves the memory as it is. -/
def Val (Φ : Calls') (k : Nat) (args : List AV) (v : AV) : Prop := ∀ (H : AH) (Q : Post), Q v H → Φ k args H Q
theorem Val.of {C : Ctx} (hGT : GTok C) {k : Nat} {args : List AV} {v : AV} (ha : AV.frozs args = true) (hv : v.froz = true) (h : ∀ Q : Post, (∀ H', Q v H') → ACall C k args AH.mt Q) : Val (ACall C) k args v :=
  fun H Q hQ => ACall.frame2 (Q := fun u _ => u = v) hGT (h _ fun _ => rfl) ha H Q fun u _ hu => by subst hu; exact ⟨hv, hQ⟩

/-! Names -/
def isLet (c : UInt8) : Bool := decide (97 ≤ c.toNat) && decide (c.toNat ≤ 122)
def isDig (c : UInt8) : Bool := decide (48 ≤ c.toNat) && decide (c.toNat ≤ 57)
def isPart (c : UInt8) : Bool := isLet c || isDig c || decide (c.toNat = 95)
def nameOk : List UInt8 → Bool
  | [] => false
  | c :: r => decide (r.length < 16) && isLet c && r.all isPart

theorem decodeN_lo {n b0 b1 b2 b3 : Nat} (h : b0 < 128) : Go.Lib.decodeN n b0 b1 b2 b3 = (b0, 1) := by unfold Go.Lib.decodeN; rw [if_pos h]
theorem decodeN_hi {n b0 b1 b2 b3 : Nat} (h : ¬ b0 < 128) : 128 ≤ (Go.Lib.decodeN n b0 b1 b2 b3).1 := by
  unfold Go.Lib.decodeN
  rw [if_neg h]
  repeat' split
  all_goals (dsimp only; omega)
theorem decode_lo {s : List UInt8} {i : Nat} {c : UInt8} (hc : s[i]? = some c) (h : c.toNat < 128) : Utf8.decode ⟨s.toArray⟩ i = (c.toNat, 1) := by
  have e : (ByteArray.mk s.toArray).get! i = c := by
    show s.toArray[i]! = c
    have hi := (List.getElem?_eq_some_iff.1 hc).1
    rw [getElem!_pos s.toArray i (by simpa using hi)]
    simp [List.getElem?_eq_getElem hi] at hc
    simpa using hc
  rw [Go.Lib.decode_at, e, decodeN_lo h]
theorem decode_hi {s : List UInt8} {i : Nat} {c : UInt8} (hc : s[i]? = some c) (h : ¬ c.toNat < 128) : 128 ≤ (Utf8.decode ⟨s.toArray⟩ i).1 := by
  have e : (ByteArray.mk s.toArray).get! i = c := by
    show s.toArray[i]! = c
    have hi := (List.getElem?_eq_some_iff.1 hc).1
    rw [getElem!_pos s.toArray i (by simpa using hi)]
    simp [List.getElem?_eq_getElem hi] at hc
    simpa using hc
  rw [Go.Lib.decode_at, e]
  exact decodeN_hi h

/-! Types -/
def pow2 (n most : Int) : Bool := (n == 1 || n == 2 || n == 4 || n == 8 || n == 16) && decide (n ≤ most)
def onlyM (kind size : Int) (packed : Bool) (nf : Nat) (count : Int) (ne : Nat) : Bool :=
  if kind = 1 ∨ kind = 2 then !packed && nf == 0 && count == 0 && ne == 0
  else if kind = 3 ∨ kind = 4 then size == 0 && count == 0 && ne == 0
  else if kind = 5 then size == 0 && !packed && nf == 0 && ne == 1
  else false

mutual
def sndT : GType → Int
  | .mk kind size packed fields count elem =>
    if onlyM kind size packed fields.length count elem.length = false then 8
    else if kind = 1 then (if pow2 size 8 then 0 else 9)
    else if kind = 2 then (if pow2 size 16 then 0 else 9)
    else if kind = 5 then (if count < 1 ∨ 65536 < count then 9 else sndE elem)
    else if fields.length < 1 ∨ 32 < fields.length then 12
    else sndFs packed [] fields
def sndE : List GType → Int
  | [] => 0
  | t :: _ => sndT t
def sndF (packed : Bool) (seen : List (List UInt8)) : GField → Int
  | .mk name type bits width =>
    if nameOk name = false ∧ (name ≠ [] ∨ bits = false) then 6
    else if name ≠ [] ∧ seen.contains name = true then 7
    else if sndT type ≠ 0 then sndT type
    else if (bits = false ∧ width ≠ 0) ∨ (bits = true ∧ (type.kind ≠ 1 ∨ packed = true)) then 8
    else if bits = true ∧ (width < 0 ∨ 8 * type.size < width ∨ (width = 0 ∧ name ≠ [])) then 9
    else 0
def sndFs (packed : Bool) (seen : List (List UInt8)) : List GField → Int
  | [] => 0
  | f :: r => if sndF packed seen f ≠ 0 then sndF packed seen f else sndFs packed (seen ++ [f.name]) r
end

mutual
def depT (most : Nat) : GType → Int
  | .mk kind size packed fields count elem => if 1 < most then max (depFs (most - 1) fields) (depEs (most - 1) elem) + 1 else 1
def depF (most : Nat) : GField → Int
  | .mk name type bits width => depT most type
def depFs (most : Nat) : List GField → Int
  | [] => 0
  | f :: r => max (depF most f) (depFs most r)
def depEs (most : Nat) : List GType → Int
  | [] => 0
  | t :: r => max (depT most t) (depEs most r)
end
def soundM (t : GType) : Int := if 64 < depT 65 t then 5 else sndT t

theorem GType.ind {P : GType → Prop} (h : ∀ t : GType, (∀ f ∈ t.fields, P f.type) → (∀ e ∈ t.elem, P e) → P t) : ∀ t, P t := by
  have main : ∀ (n : Nat) (t : GType), sizeOf t < n → P t := by
    intro n
    induction n with
    | zero => intro t ht; omega
    | succ n ih =>
      intro t ht
      refine h t (fun f hf => ih _ ?_) fun e he => ih _ ?_
      · cases t with
        | mk kind size packed fields count elem =>
          have := List.sizeOf_lt_of_mem hf
          cases f with
          | mk name type bits width => simp at this ht ⊢; omega
      · cases t with
        | mk kind size packed fields count elem =>
          have := List.sizeOf_lt_of_mem he
          simp at this ht ⊢; omega
  exact fun t => main _ t (Nat.lt_succ_self _)
end Rb

/- Package lex: a model of its words; what the laws ask of it. -/
set_option linter.unusedVariables false
set_option linter.unusedSimpArgs false
namespace Rb
open Go

def sgn1 : List UInt8 := [123, 125, 91, 93, 40, 41, 59, 58, 44, 46, 95, 61, 43, 45, 42, 38, 124, 94, 60]
def two (x : UInt8) : Option UInt8 := if x = 60 then some 60 else if x = 62 then some 62 else if x = 61 then some 61 else if x = 33 then some 61 else none
def restOk : List UInt8 → Bool
  | [] => true
  | c :: _ => !isPart c
/-- How many bytes the word has that stands at a text's head. -/
def wordM (num : List UInt8 → Bool) : List UInt8 → Option Nat
  | [] => none
  | x :: r =>
    if isLet x = true then (if 16 < ((x :: r).takeWhile isPart).length then none else some ((x :: r).takeWhile isPart).length)
    else if isDig x = true then (if (num ((x :: r).takeWhile isDig) = true ∧ ¬ (1 < ((x :: r).takeWhile isDig).length ∧ x = 48)) ∧ restOk ((x :: r).dropWhile isDig) = true then some ((x :: r).takeWhile isDig).length else none)
    else if two x ≠ none ∧ r.head? = two x then some 2
    else if sgn1.contains x = true then some 1 else none
theorem wordM_cons (num : List UInt8 → Bool) (x : UInt8) (r : List UInt8) : wordM num (x :: r) = if isLet x = true then (if 16 < ((x :: r).takeWhile isPart).length then none else some ((x :: r).takeWhile isPart).length)
    else if isDig x = true then (if (num ((x :: r).takeWhile isDig) = true ∧ ¬ (1 < ((x :: r).takeWhile isDig).length ∧ x = 48)) ∧ restOk ((x :: r).dropWhile isDig) = true then some ((x :: r).takeWhile isDig).length else none)
    else if two x ≠ none ∧ r.head? = two x then some 2
    else if sgn1.contains x = true then some 1 else none := rfl
def toks (num : List UInt8 → Bool) : Nat → List UInt8 → Int → Except Int (List (List UInt8 × Int))
  | 0, _, _ => .ok []
  | _ + 1, [], _ => .ok []
  | n + 1, x :: r, line =>
    if x = 10 then toks num n r (line + 1) else if x = 32 then toks num n r line
    else match wordM num (x :: r) with
      | none => .error line
      | some k => match toks num n ((x :: r).drop k) line with
        | .error l => .error l
        | .ok ws => .ok (((x :: r).take k, line) :: ws)

section
variable {num : List UInt8 → Bool}
theorem wordM_pos {s : List UInt8} {k : Nat} (h : wordM num s = some k) : 1 ≤ k ∧ k ≤ s.length := by
  cases s with
  | nil => cases h
  | cons x r =>
    rw [wordM_cons] at h
    have hl : ∀ p : UInt8 → Bool, ((x :: r).takeWhile p).length ≤ (x :: r).length := fun p => (List.takeWhile_prefix p).length_le
    split at h
    · rename_i hx
      have hp : isPart x = true := by simp [isPart, hx]
      have := hl isPart
      split at h
      · cases h
      · simp only [Option.some.injEq] at h
        subst h
        refine ⟨?_, this⟩
        rw [List.takeWhile_cons, if_pos hp]; simp
    · split at h
      · rename_i hx
        have := hl isDig
        split at h
        · simp only [Option.some.injEq] at h
          subst h
          refine ⟨?_, this⟩
          rw [List.takeWhile_cons, if_pos hx]; simp
        · cases h
      · split at h
        · rename_i ht
          simp only [Option.some.injEq] at h
          subst h
          cases r with
          | nil => exact absurd ht.2.symm ht.1
          | cons y r => simp
        · split at h
          · simp only [Option.some.injEq] at h
            subst h
            simp
          · cases h
theorem toks_nil (n : Nat) (line : Int) : toks num n [] line = .ok [] := by cases n <;> rfl
theorem toks_fuel : ∀ (n m : Nat) (s : List UInt8) (line : Int), s.length ≤ n → s.length ≤ m → toks num n s line = toks num m s line := by
  intro n
  induction n with
  | zero =>
    intro m s line h1 h2
    have : s = [] := List.length_eq_zero_iff.1 (by omega)
    subst this
    rw [toks_nil, toks_nil]
  | succ n ih =>
    intro m s line h1 h2
    cases s with
    | nil => rw [toks_nil, toks_nil]
    | cons x r =>
      simp only [List.length_cons] at h1 h2
      cases m with
      | zero => omega
      | succ m =>
        rw [toks, toks]
        rw [ih m r (line + 1) (by omega) (by omega), ih m r line (by omega) (by omega)]
        cases hw : wordM num (x :: r) with
        | none => rfl
        | some k =>
          have := wordM_pos hw
          simp only
          rw [ih m ((x :: r).drop k) line (by rw [List.length_drop, List.length_cons]; omega) (by rw [List.length_drop, List.length_cons]; omega)]

def shift (k : Int) : Except Int (List (List UInt8 × Int)) → Except Int (List (List UInt8 × Int))
  | .error l => .error (l + k)
  | .ok ws => .ok (ws.map fun w => (w.1, w.2 + k))
theorem toks_shift (k : Int) : ∀ (n : Nat) (s : List UInt8) (line : Int), toks num n s (line + k) = shift k (toks num n s line) := by
  intro n
  induction n with
  | zero => intro s line; rfl
  | succ n ih =>
    intro s line
    cases s with
    | nil => rfl
    | cons x r =>
      rw [toks, toks]
      split
      · rw [show line + k + 1 = line + 1 + k by omega, ih]
      · split
        · rw [ih]
        · cases hw : wordM num (x :: r) with
          | none => rfl
          | some j =>
            simp only
            rw [ih]
            cases toks num n ((x :: r).drop j) line with
            | error l => rfl
            | ok ws => rfl

def nls (s : List UInt8) : Int := (s.countP (· == 10) : Nat)

theorem takeWhile_stop {p : UInt8 → Bool} {c : UInt8} (hc : p c = false) (t : List UInt8) : ∀ s : List UInt8, (s ++ c :: t).takeWhile p = s.takeWhile p
  | [] => by rw [List.nil_append, List.takeWhile_cons, hc]; rfl
  | x :: r => by
    rw [List.cons_append, List.takeWhile_cons, List.takeWhile_cons, takeWhile_stop hc t r]
theorem dropWhile_stop {p : UInt8 → Bool} {c : UInt8} (hc : p c = false) (t : List UInt8) : ∀ s : List UInt8, (s ++ c :: t).dropWhile p = s.dropWhile p ++ c :: t
  | [] => by rw [List.nil_append, List.dropWhile_cons, hc]; rfl
  | x :: r => by
    rw [List.cons_append, List.dropWhile_cons, List.dropWhile_cons]
    split
    · exact dropWhile_stop hc t r
    · rfl
/-- A byte that ends words. -/
def stops (c : UInt8) : Prop := c = 10 ∨ c = 32
theorem stops_part {c : UInt8} (h : stops c) : isPart c = false := by rcases h with rfl | rfl <;> rfl
theorem stops_dig {c : UInt8} (h : stops c) : isDig c = false := by rcases h with rfl | rfl <;> rfl
theorem wordM_stop {c : UInt8} (hc : stops c) (x : UInt8) (r t : List UInt8) : wordM num (x :: (r ++ c :: t)) = wordM num (x :: r) := by
  have e1 : (x :: (r ++ c :: t)).takeWhile isPart = (x :: r).takeWhile isPart := takeWhile_stop (stops_part hc) t (x :: r)
  have e2 : (x :: (r ++ c :: t)).takeWhile isDig = (x :: r).takeWhile isDig := takeWhile_stop (stops_dig hc) t (x :: r)
  have e3 : (x :: (r ++ c :: t)).dropWhile isDig = (x :: r).dropWhile isDig ++ c :: t := dropWhile_stop (stops_dig hc) t (x :: r)
  have e4 : restOk ((x :: r).dropWhile isDig ++ c :: t) = restOk ((x :: r).dropWhile isDig) := by
    cases (x :: r).dropWhile isDig with
    | nil => show (!isPart c) = true; rw [stops_part hc]; rfl
    | cons y l => rfl
  have e5 : (two x ≠ none ∧ (r ++ c :: t).head? = two x) ↔ (two x ≠ none ∧ r.head? = two x) := by
    cases r with
    | nil =>
      simp only [List.nil_append, List.head?_cons, List.head?_nil]
      constructor
      · rintro ⟨h1, h2⟩
        exfalso
        have : ∀ y, two x = some y → ¬ stops y := by
          intro y hy
          unfold two at hy
          intro hs
          repeat' (split at hy)
          all_goals first | (simp only [Option.some.injEq] at hy; subst hy; rcases hs with h | h <;> exact absurd h (by decide)) | cases hy
        exact this c h2.symm hc
      · rintro ⟨h1, h2⟩; exact absurd h2.symm h1
    | cons y r => rfl
  rw [wordM_cons, wordM_cons, e1, e2, e3, e4]
  simp only [e5]

theorem mem_tw {p : UInt8 → Bool} {y : UInt8} : ∀ {s : List UInt8}, y ∈ s.takeWhile p → p y = true
  | [], h => by cases h
  | x :: r, h => by
    rw [List.takeWhile_cons] at h
    split at h
    · rename_i hx
      rcases List.mem_cons.1 h with rfl | h
      · exact hx
      · exact mem_tw h
    · cases h
theorem toks_app (t : List UInt8) : ∀ (n : Nat) (s : List UInt8) (line : Int), s.length + 1 + t.length ≤ n →
    toks num n (s ++ 10 :: t) line = match toks num n s line with
      | .error l => .error l
      | .ok a => match toks num n t (line + nls s + 1) with
        | .error l => .error l
        | .ok b => .ok (a ++ b) := by
  intro n
  induction n with
  | zero => intro s line h; omega
  | succ n ih =>
    intro s line h
    cases s with
    | nil =>
      simp only [List.length_nil] at h
      rw [List.nil_append, toks_nil]
      rw [show toks num (n + 1) (10 :: t) line = toks num n t (line + 1) by rw [toks, if_pos rfl]]
      simp only
      rw [show line + nls [] + 1 = line + 1 by simp [nls], toks_fuel n (n + 1) t (line + 1) (by omega) (by omega)]
      cases toks num (n + 1) t (line + 1) <;> rfl
    | cons x r =>
      simp only [List.length_cons] at h
      rw [List.cons_append, toks, toks]
      by_cases h1 : x = 10
      · subst h1
        rw [if_pos rfl, if_pos rfl, ih r (line + 1) (by omega)]
        have : line + 1 + nls r + 1 = line + nls (10 :: r) + 1 := by simp [nls]; omega
        rw [this, toks_fuel n (n + 1) t _ (by omega) (by omega)]
      · rw [if_neg h1, if_neg h1]
        have hn : nls (x :: r) = nls r := by simp [nls, h1]
        by_cases h2 : x = 32
        · rw [if_pos h2, if_pos h2, ih r line (by omega), hn, toks_fuel n (n + 1) t _ (by omega) (by omega)]
        · rw [if_neg h2, if_neg h2, wordM_stop (.inl rfl)]
          cases hw : wordM num (x :: r) with
          | none => rfl
          | some k =>
            obtain ⟨k1, k2⟩ := wordM_pos hw
            simp only
            have d1 : (x :: (r ++ 10 :: t)).drop k = (x :: r).drop k ++ 10 :: t := by
              rw [← List.cons_append, List.drop_append_of_le_length k2]
            have d2 : (x :: (r ++ 10 :: t)).take k = (x :: r).take k := by
              rw [← List.cons_append, List.take_append_of_le_length k2]
            rw [d1, d2, ih ((x :: r).drop k) line (by rw [List.length_drop, List.length_cons]; omega)]
            have hk : ∀ y ∈ (x :: r).take k, y ≠ 10 := by
              intro y hy e
              subst e
              rw [wordM_cons] at hw
              have tk : ∀ p : UInt8 → Bool, p 10 = false → 10 ∈ (x :: r).take ((x :: r).takeWhile p).length → False := by
                intro p hp hm
                rw [List.prefix_iff_eq_take.1 (List.takeWhile_prefix p) |>.symm] at hm
                have := mem_tw hm
                rw [hp] at this; cases this
              split at hw
              · split at hw
                · cases hw
                · simp only [Option.some.injEq] at hw; subst hw; exact tk isPart rfl hy
              · split at hw
                · split at hw
                  · simp only [Option.some.injEq] at hw; subst hw; exact tk isDig rfl hy
                  · cases hw
                · split at hw
                  · rename_i ht
                    simp only [Option.some.injEq] at hw; subst hw
                    cases r with
                    | nil => simp at hy; exact h1 hy.symm
                    | cons z r =>
                      simp only [List.head?_cons] at ht
                      simp only [List.take_succ_cons, List.take_zero, List.mem_cons, List.not_mem_nil, or_false] at hy
                      rcases hy with hy | hy
                      · exact h1 hy.symm
                      · subst hy
                        have := ht.2
                        unfold two at this
                        repeat' (split at this)
                        all_goals cases this
                  · split at hw
                    · simp only [Option.some.injEq] at hw; subst hw
                      simp at hy
                      exact h1 hy.symm
                    · cases hw
            have hnl : nls ((x :: r).drop k) = nls (x :: r) := by
              unfold nls
              have e : (x :: r).countP (· == 10) = ((x :: r).take k ++ (x :: r).drop k).countP (· == 10) := by rw [List.take_append_drop]
              rw [e, List.countP_append]
              have : ((x :: r).take k).countP (· == 10) = 0 := by
                rw [List.countP_eq_zero]
                intro y hy
                simpa using hk y hy
              omega
            rw [hnl, toks_fuel n (n + 1) t _ (by omega) (by omega)]
            cases toks num n ((x :: r).drop k) line with
            | error l => rfl
            | ok a =>
              simp only
              cases toks num (n + 1) t (line + nls (x :: r) + 1) with
              | error l => rfl
              | ok b => rfl

/-- A word that is found again where a blank stands behind it. -/
def WOK (num : List UInt8 → Bool) (w : List UInt8) : Prop := 1 ≤ w.length ∧ w.length ≤ 20 ∧ ∃ x l, w = x :: l ∧ x ≠ 10 ∧ x ≠ 32 ∧ wordM num (x :: l) = some (x :: l).length
theorem takeWhile_self (p : UInt8 → Bool) : ∀ s : List UInt8, (s.takeWhile p).takeWhile p = s.takeWhile p
  | [] => rfl
  | x :: r => by
    rw [List.takeWhile_cons]
    split
    · rename_i h; rw [List.takeWhile_cons, if_pos h, takeWhile_self p r]
    · rfl
theorem dropWhile_self (p : UInt8 → Bool) : ∀ s : List UInt8, (s.takeWhile p).dropWhile p = []
  | [] => rfl
  | x :: r => by
    rw [List.takeWhile_cons]
    split
    · rename_i h; rw [List.dropWhile_cons, if_pos h, dropWhile_self p r]
    · rfl
theorem wordM_self (hnum : ∀ w, num w = true → ¬ (1 < w.length ∧ w.head? = some 48) → w.length ≤ 20) {x : UInt8} {r : List UInt8} {k : Nat} (h : wordM num (x :: r) = some k) (h1 : x ≠ 10) (h2 : x ≠ 32) : WOK num ((x :: r).take k) := by
  obtain ⟨k1, k2⟩ := wordM_pos h
  have tk : ∀ p : UInt8 → Bool, (x :: r).take ((x :: r).takeWhile p).length = (x :: r).takeWhile p := fun p => (List.prefix_iff_eq_take.1 (List.takeWhile_prefix p)).symm
  rw [wordM_cons] at h
  split at h
  · rename_i hx
    have hp : isPart x = true := by simp [isPart, hx]
    split at h
    · cases h
    · rename_i hle
      simp only [Option.some.injEq] at h; subst h
      rw [tk]
      have e : (x :: r).takeWhile isPart = x :: r.takeWhile isPart := by rw [List.takeWhile_cons, if_pos hp]
      refine ⟨k1, by omega, x, _, e, h1, h2, ?_⟩
      rw [wordM_cons, if_pos hx, ← e, takeWhile_self, if_neg hle]
  · rename_i hx
    split at h
    · rename_i hd
      split at h
      · rename_i hc
        simp only [Option.some.injEq] at h; subst h
        rw [tk]
        have e : (x :: r).takeWhile isDig = x :: r.takeWhile isDig := by rw [List.takeWhile_cons, if_pos hd]
        refine ⟨k1, hnum _ hc.1.1 ?_, x, _, e, h1, h2, ?_⟩
        · have := hc.1.2
          rw [e] at this ⊢
          simpa using this
        · rw [wordM_cons, if_neg hx, if_pos hd, ← e, takeWhile_self, dropWhile_self, if_pos ⟨hc.1, rfl⟩]
      · cases h
    · rename_i hd
      split at h
      · rename_i ht
        simp only [Option.some.injEq] at h; subst h
        cases r with
        | nil => simp at k2
        | cons y r =>
          refine ⟨by simp, by simp, x, [y], by simp, h1, h2, ?_⟩
          rw [wordM_cons, if_neg hx, if_neg hd, if_pos ⟨ht.1, by simpa using ht.2⟩]; rfl
      · split at h
        · rename_i ht hs
          simp only [Option.some.injEq] at h; subst h
          refine ⟨by simp, by simp, x, [], by simp, h1, h2, ?_⟩
          rw [wordM_cons, if_neg hx, if_neg hd, if_neg (fun y => y.1 (by simpa using y.2.symm)), if_pos hs]; rfl
        · cases h
theorem toks_wok (hnum : ∀ w, num w = true → ¬ (1 < w.length ∧ w.head? = some 48) → w.length ≤ 20) : ∀ (n : Nat) (s : List UInt8) (line : Int) (ws : List (List UInt8 × Int)), toks num n s line = .ok ws → ∀ w ∈ ws, WOK num w.1 := by
  intro n
  induction n with
  | zero => intro s line ws h w hw; rw [toks] at h; cases h; cases hw
  | succ n ih =>
    intro s line ws h w hw
    cases s with
    | nil => rw [toks] at h; cases h; cases hw
    | cons x r =>
      rw [toks] at h
      split at h
      · exact ih _ _ _ h w hw
      · split at h
        · exact ih _ _ _ h w hw
        · rename_i h1 h2
          cases hk : wordM num (x :: r) with
          | none => rw [hk] at h; cases h
          | some k =>
            rw [hk] at h
            simp only at h
            cases ht : toks num n ((x :: r).drop k) line with
            | error l => rw [ht] at h; cases h
            | ok a =>
              rw [ht] at h
              cases h
              rcases List.mem_cons.1 hw with rfl | hw
              · exact wordM_self hnum hk h1 h2
              · exact ih _ _ _ ht w hw
def blanks (ws : List (List UInt8)) : List UInt8 := ws.flatMap fun w => w ++ [32]
theorem toks_back : ∀ (ws : List (List UInt8)) (n : Nat) (line : Int), (∀ w ∈ ws, WOK num w) → (blanks ws).length ≤ n → toks num n (blanks ws) line = .ok (ws.map fun w => (w, line))
  | [], n, line, _, _ => toks_nil n line
  | w :: r, n, line, h, hn => by
    obtain ⟨g1, g2, x, l, rfl, h1, h2, hw⟩ := h w (by simp)
    have e : blanks ((x :: l) :: r) = x :: (l ++ 32 :: blanks r) := by simp [blanks]
    rw [e] at hn ⊢
    simp only [List.length_cons, List.length_append] at hn
    cases n with
    | zero => omega
    | succ n =>
      rw [toks, if_neg h1, if_neg h2, wordM_stop (.inr rfl), hw]
      simp only
      have d1 : (x :: (l ++ 32 :: blanks r)).drop (x :: l).length = 32 :: blanks r := by
        rw [← List.cons_append, List.drop_left]
      have d2 : (x :: (l ++ 32 :: blanks r)).take (x :: l).length = x :: l := by
        rw [← List.cons_append, List.take_left]
      rw [d1, d2]
      cases n with
      | zero => omega
      | succ n =>
        rw [toks, if_neg (by decide), if_pos rfl, toks_back r n line (fun w hw => h w (by simp [hw])) (by omega)]
        rfl
theorem blanks_len : ∀ (ws : List (List UInt8)), (∀ w ∈ ws, WOK num w) → (blanks ws).length ≤ ws.length * 21
  | [], _ => by simp [blanks]
  | w :: r, h => by
    have := blanks_len r fun w hw => h w (by simp [hw])
    have h1 := (h w (by simp)).2.1
    have e : (blanks (w :: r)).length = w.length + 1 + (blanks r).length := by
      show ((w ++ [32]) ++ blanks r).length = _
      rw [List.length_append, List.length_append]; rfl
    rw [e, List.length_cons]
    omega
end
end Rb

/- Lists that grow beside other objects; texts held against one another. -/
set_option linter.unusedVariables false
set_option linter.unusedSimpArgs false
namespace Rb
open Go

theorem str_eql (s t : List UInt8) : abin .eql (.str s) (.str t) = some (.bool (s == t)) := rfl
theorem str_neq (s t : List UInt8) : abin .neq (.str s) (.str t) = some (.bool (!(s == t))) := rfl
theorem Lst.app2 {H0 H : AH} {sz bytes len m : Nat} {x y : AV} {cells news : List AV} {K : Post} (h : Lst H0 H sz x len cells) (hy : acells H sz y = some (m, news)) (hn : news.length = m * sz) (hs : news.all AV.scalar = true) (hm : m ≠ 0)
    (hb : (len + m) * bytes ≤ 140737488355328) (hl : len + m ≤ 9223372036854775807) (hK : ∀ x' H', Lst H0 H' sz x' (len + m) (cells ++ news) → (∀ i o, At H i o → (∀ a b, o ≠ .tok a b) → At H' i o) → K x' H') : DoH (aappend H false sz bytes x y) K := by
  obtain ⟨hx, tk, rfl, hc, htk⟩ := h
  have hlen : (cells ++ news).length = (len + m) * sz := by simp [hc, hn, Nat.add_mul]
  rcases htk with ⟨rfl, rfl⟩ | ⟨t, rfl, h1, h2, h3⟩
  · refine ⟨.lst (.own H.n) (0 + m) (cells ++ news), H.push (.tok ((0 + m) * sz) sz), ?_, hK _ _ ⟨hx.trans (AH.Ext.push _ _), _, rfl, hlen, .inr ⟨H.n, rfl, hx.1, Nat.lt_succ_self _, AH.push_self _ _⟩⟩ fun i o ho _ => ho.push _⟩
    simp only [aappend, hy, hs, not_true_eq_false, if_false, if_neg hm]
    rw [if_neg (by simp only [Decidable.not_not]; exact ⟨hc, hb, hl⟩)]
  · refine ⟨.lst (.own H.n) (len + m) (cells ++ news), (H.set t .gone).push (.tok ((len + m) * sz) sz), ?_, hK _ _ ⟨(hx.set h1 _).trans (AH.Ext.push _ _), _, rfl, hlen, .inr ⟨H.n, rfl, hx.1, Nat.lt_succ_self _, AH.push_self _ _⟩⟩ fun i o ho hno => ?_⟩
    · simp only [aappend, hy, hs, not_true_eq_false, if_false, if_neg hm]
      rw [if_neg (by simp only [Decidable.not_not]; exact ⟨hc, hb, hl⟩)]
      simp [h3]
    · exact (ho.set_ne (fun e => by subst e; rw [ho.2] at h3; exact hno _ _ h3) _).push _
theorem Lst.oth {H0 H : AH} {sz len : Nat} {x : AV} {cells : List AV} (h : Lst H0 H sz x len cells) {id : Nat} {cs : List AV} (ha : At H id (.row cs)) (hid : H0.n ≤ id) (y : AObj) : Lst H0 (H.set id y) sz x len cells := by
  obtain ⟨hx, tk, rfl, hc, htk⟩ := h
  refine ⟨hx.set hid y, tk, rfl, hc, ?_⟩
  rcases htk with h | ⟨t, rfl, h1, h2, h3⟩
  · exact .inl h
  · exact .inr ⟨t, rfl, h1, h2, by rw [AH.set_ne _ _ (fun e => by subst e; rw [ha.2] at h3; cases h3)]; exact h3⟩
theorem Lst.psh {H0 H : AH} {sz len : Nat} {x : AV} {cells : List AV} (h : Lst H0 H sz x len cells) (y : AObj) : Lst H0 (H.push y) sz x len cells := by
  obtain ⟨hx, tk, rfl, hc, htk⟩ := h
  refine ⟨hx.trans (AH.Ext.push _ _), tk, rfl, hc, ?_⟩
  rcases htk with h | ⟨t, rfl, h1, h2, h3⟩
  · exact .inl h
  · exact .inr ⟨t, rfl, h1, Nat.lt_succ_of_lt h2, by rw [AH.push_ne _ _ (by omega)]; exact h3⟩

end Rb

/- Package lex: what the program's scanner does. -/
set_option linter.unusedVariables false
set_option linter.unusedSimpArgs false
set_option linter.unusedSectionVars false
namespace Rb
open Go

/-- A word, as it lies in memory. -/
def tokC (w : List UInt8 × Int) : List AV := [.str w.1, .int .i64 w.2]
theorem tokC_len (w : List UInt8 × Int) : (tokC w).length = 2 := rfl
/-- The scanner as it lies in memory. -/
def SCN (H0 H : AH) (id : Nat) (s : List UInt8) (a : Nat) (line : Int) (ws : List (List UInt8 × Int)) : Prop :=
  H0.n ≤ id ∧ ∃ x, At H id (.row [.str s, .int .i64 a, .int .i64 line, x]) ∧ Lst H0 H 2 x ws.length (ws.flatMap tokC)
/-- What strconv.ParseUint gives, as far as the scanner asks. -/
def NumS (Φ : Calls') (num : List UInt8 → Bool) : Prop :=
  ∀ (w : List UInt8) (H : AH) (Q : Post), w.length ≤ 1048576 → (num w = true → ∀ u, Q (.tup [.int .u64 u, .nilif]) H) → (num w = false → ∀ u T, Q (.tup [.int .u64 u, .iface T .bot]) H) → Φ K.strconv_ParseUint [.str w, .int .i64 10, .int .i64 64] H Q
def IdxS (Φ : Calls') : Prop := ∀ (c : UInt8) (H : AH) (Q : Post), (∀ z : Int, (z < 0 ↔ sgn1.contains c = false) → Q (.int .i64 z) H) → Φ K.internal_stringslite_IndexByte [.str sgn1, .int .u8 c.toNat] H Q

section
variable {Φ : Calls'} {H H0 : AH} {Q : Post} {id : Nat} {s : List UInt8} {a : Nat} {line : Int} {ws : List (List UInt8 × Int)}
theorem lex_letter_spec {c : UInt8} (hQ : Q (.bool (isLet c)) H) : S.lex_letter Φ (.int .u8 c.toNat) H Q := by
  have fin : ∀ b : Bool, b = isLet c → Q (.bool b) H := fun b h => by rw [h]; exact hQ
  simp only [S.lex_letter, abin_geq, abin_leq, Do_of, Gd3_true]
  refine ite_both (fun h => fin _ ?_) (fun h => fin _ ?_)
  · have h' : 97 ≤ c.toNat := by simp only [ge_iff_le, decide_eq_true_eq] at h; omega
    rw [Bool.eq_iff_iff]; simp [isLet, h']; omega
  · have h' : ¬ 97 ≤ c.toNat := by simp only [ge_iff_le, decide_eq_true_eq] at h; omega
    simp [isLet, h']
theorem lex_digit_spec {c : UInt8} (hQ : Q (.bool (isDig c)) H) : S.lex_digit Φ (.int .u8 c.toNat) H Q := by
  have fin : ∀ b : Bool, b = isDig c → Q (.bool b) H := fun b h => by rw [h]; exact hQ
  simp only [S.lex_digit, abin_geq, abin_leq, Do_of, Gd3_true]
  refine ite_both (fun h => fin _ ?_) (fun h => fin _ ?_)
  · have h' : 48 ≤ c.toNat := by simp only [ge_iff_le, decide_eq_true_eq] at h; omega
    rw [Bool.eq_iff_iff]; simp [isDig, h']; omega
  · have h' : ¬ 48 ≤ c.toNat := by simp only [ge_iff_le, decide_eq_true_eq] at h; omega
    simp [isDig, h']
theorem lex_part_spec (hT : Cl Φ S.tab_Lex) {c : UInt8} (hQ : Q (.bool (isPart c)) H) : S.lex_part Φ (.int .u8 c.toNat) H Q := by
  have fin : ∀ b : Bool, b = isPart c → Q (.bool b) H := fun b h => by rw [h]; exact hQ
  unfold S.lex_part
  refine S.cl_lex_letter hT (lex_letter_spec ?_)
  have k1 : ∀ b : Bool, (b || decide (c.toNat = 95)) = isPart c → JoinP (S.lex_part_k1 Φ (.int .u8 c.toNat) Q) [.bool b] H := by
    intro b hb
    simp only [JoinP_def, S.lex_part_k1, sl_zero, Gd3_false, abin_eql, Do_of]
    cases b
    · refine fin _ ?_
      rw [← hb, Bool.false_or, Bool.eq_iff_iff]; simp; omega
    · exact fin _ (by rw [← hb]; rfl)
  simp only [Gd3_false]
  refine ite_both (fun h => ?_) (fun h => ?_)
  · refine S.cl_lex_digit hT (lex_digit_spec ?_)
    exact k1 _ (by simp [isPart, h])
  · exact k1 _ (by simp [isPart] at h ⊢; simp [h])

theorem SCN.l0 (h : SCN H0 H id s a line ws) : aload H 1 false (.ptr id 0) = some (.str s) := by obtain ⟨_, x, h, _⟩ := h; rw [h.load]; rfl
theorem SCN.l1 (h : SCN H0 H id s a line ws) : aload H 1 false (.ptr id 1) = some (.int .i64 a) := by obtain ⟨_, x, h, _⟩ := h; rw [h.load]; rfl
theorem SCN.l2 (h : SCN H0 H id s a line ws) : aload H 1 false (.ptr id 2) = some (.int .i64 line) := by obtain ⟨_, x, h, _⟩ := h; rw [h.load]; rfl

theorem lex_run_spec (hT : Cl Φ S.tab_Lex) {p : UInt8 → Bool} {key : Nat} (hp : ∀ (c : UInt8) (R : Post), R (.bool (p c)) H → Φ key [.int .u8 c.toNat] H R) (h : SCN H0 H id s a line ws) (ha : a ≤ s.length) (hl : s.length ≤ 1048576)
    (hQ : Q (.int .i64 (((s.drop a).takeWhile p).length : Nat)) H) : Φ K.lex_scanner_run [.ptr id 0, .fn key []] H Q := by
  refine S.cl_lex_scanner_run hT ?_
  unfold S.lex_scanner_run
  simp only [anilck, afaddr, Do_of, Nat.zero_add, h.l1]
  have main : ∀ (ys : List UInt8) (n : Nat), s.drop n = ys → a ≤ n → n ≤ s.length → n - a + (ys.takeWhile p).length = ((s.drop a).takeWhile p).length → LoopP (S.lex_scanner_run_l4 Φ (.ptr id 0) (.fn key []) Q) ([.int .i64 n], H) := by
    intro ys
    induction ys with
    | nil =>
      intro n hd hn hn2 he
      have hle := drop_nil_le hd
      refine LoopP.step ?_
      simp only [S.lex_scanner_run_l4, sl_zero, anilck, afaddr, Do_of, Nat.zero_add, Nat.add_zero, h.l0, alen_str, abin_lss, Gd3_true]
      rw [if_neg (by simp only [decide_eq_true_eq]; omega)]
      simp only [JoinP_def, S.lex_scanner_run_k3, sl_zero, Gd_true, Bool.false_eq_true, if_false, S.lex_scanner_run_k2, anilck, afaddr, Do_of, Nat.zero_add, h.l1, abin_sub]
      have e : IntKind.wrap .i64 ((n : Int) - a) = (((s.drop a).takeWhile p).length : Nat) := by
        simp at he
        rw [wrap_i64 (by omega) (by omega)]; omega
      rw [e]; exact hQ
    | cons y ys ih =>
      intro n hd hn hn2 he
      obtain ⟨hlt, hy, hd'⟩ := drop_cons_lt hd
      refine LoopP.step ?_
      simp only [S.lex_scanner_run_l4, sl_zero, anilck, afaddr, Do_of, Nat.zero_add, Nat.add_zero, h.l0, alen_str, abin_lss, Gd3_true]
      rw [if_pos (by simp only [decide_eq_true_eq]; omega)]
      have hx : aidxs (.str s) (.int .i64 n) = some (.int .u8 y.toNat) := by
        simp only [aidxs]; rw [if_pos (by omega)]; simp [hy]
      rw [hx]
      simp only [Do_of]
      refine ⟨key, [], rfl, ?_⟩
      rw [List.append_nil]
      refine hp y _ ?_
      simp only [JoinP_def, S.lex_scanner_run_k3, sl_zero, Gd_true]
      rw [List.takeWhile_cons] at he
      refine ite_both (fun hpy => ?_) (fun hpy => ?_)
      · rw [if_pos hpy] at he
        simp only [S.lex_scanner_run_k1, sl_zero, abin_add, Do_of]
        rw [wrap_i64 (by omega) (by omega), show ((n : Int) + 1) = ((n + 1 : Nat) : Int) by simp]
        refine ih (n + 1) hd' (by omega) (by omega) ?_
        simp only [List.length_cons] at he
        omega
      · rw [if_neg hpy] at he
        simp only [S.lex_scanner_run_k2, anilck, afaddr, Do_of, Nat.zero_add, sl_zero, h.l1, abin_sub]
        have e : IntKind.wrap .i64 ((n : Int) - a) = (((s.drop a).takeWhile p).length : Nat) := by
          simp at he
          rw [wrap_i64 (by omega) (by omega)]; omega
        rw [e]; exact hQ
  exact main (s.drop a) a rfl (Nat.le_refl _) ha (by omega)

theorem sslice_str {lo hi : Nat} (h1 : lo ≤ hi) (h2 : hi ≤ s.length) : asslice (.str s) (some (.int .i64 lo)) (some (.int .i64 hi)) = some (.str ((s.take hi).drop lo)) := by
  simp only [asslice, abound]
  rw [if_pos (by omega), if_pos (by omega)]
  simp only
  rw [if_pos ⟨by omega, by omega⟩]
  simp
theorem sslice_end {lo : Nat} (h1 : lo ≤ s.length) : asslice (.str s) (some (.int .i64 lo)) none = some (.str (s.drop lo)) := by
  simp only [asslice, abound]
  rw [if_pos (by omega)]
  simp only
  rw [if_pos ⟨by omega, by omega⟩]
  simp

theorem lex_take_spec (hT : Cl Φ S.tab_Lex) {n : Nat} (h : SCN H0 H id s a line ws) (hn : a + n ≤ s.length) (hl : s.length ≤ 1048576) (hws : ws.length ≤ 1048576)
    (hQ : ∀ H', SCN H0 H' id s (a + n) line (ws ++ [((s.drop a).take n, line)]) → Q (.tup []) H') : Φ K.lex_scanner_take [.ptr id 0, .int .i64 n] H Q := by
  refine S.cl_lex_scanner_take hT ?_
  unfold S.lex_scanner_take
  obtain ⟨hid, x, hat, hlst⟩ := h
  have h' : SCN H0 H id s a line ws := ⟨hid, x, hat, hlst⟩
  have l3 : aload H 1 false (.ptr id 3) = some x := by rw [hat.load]; rfl
  simp only [anilck, afaddr, Do_of, Nat.zero_add, Nat.add_zero, l3, h'.l0, h'.l1, h'.l2, abin_add]
  have e1 : IntKind.wrap .i64 ((a : Int) + n) = ((a + n : Nat) : Int) := by rw [wrap_i64 (by omega) (by omega)]; simp
  rw [e1, sslice_str (by omega) hn]
  have e2 : (s.take (a + n)).drop a = (s.drop a).take n := by rw [List.drop_take]; congr 1; omega
  rw [e2]
  simp only [Do_of]
  rw [show abuild [.str [], .int .i64 0] [(0, 1, .str ((s.drop a).take n)), (1, 1, .int .i64 line)] = some (.agg [.str ((s.drop a).take n), .int .i64 line]) from rfl]
  simp only [Do_of]
  rw [show abslice H false 2 1 [.str [], .int .i64 0] [(0, 2, .agg [.str ((s.drop a).take n), .int .i64 line])] = some (.lst .full 1 [.str ((s.drop a).take n), .int .i64 line], H) from rfl]
  simp only [DoH_some]
  refine hlst.app2 (m := 1) (news := [.str ((s.drop a).take n), .int .i64 line]) rfl rfl rfl (by decide) (by omega) (by omega) fun x' H' hl' hkeep => ?_
  have hat' : At H' id (.row [.str s, .int .i64 a, .int .i64 line, x]) := hkeep id _ hat (fun _ _ => by intro e; cases e)
  have kn : x'.known = true ∧ x'.cells = [x'] ∧ x'.scalar = true := by
    obtain ⟨_, tk, rfl, _⟩ := hl'
    exact ⟨rfl, rfl, rfl⟩
  rw [hat'.store, if_pos ⟨kn.1, by rw [kn.2.1]; rfl, by rw [kn.2.1]; simp [kn.2.2], by simp⟩, kn.2.1]
  simp only [Do_of]
  have e3 : setCells [AV.str s, .int .i64 a, .int .i64 line, x] 3 [x'] = [.str s, .int .i64 a, .int .i64 line, x'] := rfl
  rw [e3]
  have hat2 : At (H'.set id (.row [.str s, .int .i64 a, .int .i64 line, x'])) id (.row [.str s, .int .i64 a, .int .i64 line, x']) := hat'.set _
  have hl2 := hl'.oth hat' hid (.row [.str s, .int .i64 a, .int .i64 line, x'])
  generalize H'.set id (.row [.str s, .int .i64 a, .int .i64 line, x']) = H2 at *
  have l1 : aload H2 1 false (.ptr id 1) = some (.int .i64 a) := by rw [hat2.load]; rfl
  simp only [l1, Do_of, abin_add]
  rw [e1, hat2.store, if_pos ⟨rfl, rfl, rfl, by simp⟩]
  simp only [Do_of]
  refine hQ _ ⟨hid, x', hat2.set _, ?_⟩
  have hl3 := hl2.oth hat2 hid (.row (setCells [AV.str s, .int .i64 a, .int .i64 line, x'] 1 (AV.int .i64 ((a + n : Nat) : Int)).cells))
  rw [List.length_append, List.length_singleton, List.flatMap_append, List.flatMap_cons, List.flatMap_nil, List.append_nil]
  exact hl3

theorem drop_tw (p : UInt8 → Bool) : ∀ l : List UInt8, l.drop (l.takeWhile p).length = l.dropWhile p
  | [] => rfl
  | x :: r => by
    rw [List.takeWhile_cons, List.dropWhile_cons]
    split
    · rw [List.length_cons, List.drop_succ_cons, drop_tw p r]
    · rfl
/-- What a word at a place gives. -/
theorem lex_word_spec (hT : Cl Φ S.tab_Lex) {num : List UInt8 → Bool} {y : UInt8} {r : List UInt8} (h : SCN H0 H id s a line ws) (hd : s.drop a = y :: r) (hy : isLet y = true) (hl : s.length ≤ 1048576) (hws : ws.length ≤ 1048576)
    (hQ : ∀ H', (match wordM num (y :: r) with | none => SCN H0 H' id s a line ws → Q (.bool false) H' | some k => SCN H0 H' id s (a + k) line (ws ++ [((s.drop a).take k, line)]) → Q (.bool true) H')) : Φ K.lex_scanner_word [.ptr id 0] H Q := by
  refine S.cl_lex_scanner_word hT ?_
  unfold S.lex_scanner_word
  have hlt := (drop_cons_lt hd).1
  refine lex_run_spec hT (p := isPart) (fun c R hR => S.cl_lex_part hT (lex_part_spec hT hR)) h (by omega) hl ?_
  simp only [abin_gtr, Do_of, Gd_true]
  rw [wordM_cons, if_pos hy] at hQ
  rw [hd]
  have hk : ((y :: r).takeWhile isPart).length ≤ (y :: r).length := (List.takeWhile_prefix isPart).length_le
  have hlen : (y :: r).length = s.length - a := by rw [← hd, List.length_drop]
  refine ite_both (fun hg => ?_) (fun hg => ?_)
  · have hg' : 16 < ((y :: r).takeWhile isPart).length := by simp only [decide_eq_true_eq] at hg; omega
    rw [if_pos hg'] at hQ
    exact hQ H h
  · have hg' : ¬ 16 < ((y :: r).takeWhile isPart).length := by simp only [decide_eq_true_eq] at hg; omega
    rw [if_neg hg'] at hQ
    exact lex_take_spec hT h (by omega) hl hws fun H' h' => hQ H' h'

theorem lex_number_spec (hT : Cl Φ S.tab_Lex) {num : List UInt8 → Bool} (hnum : NumS Φ num) {y : UInt8} {r : List UInt8} (h : SCN H0 H id s a line ws) (hd : s.drop a = y :: r) (hy1 : isLet y = false) (hy : isDig y = true) (hl : s.length ≤ 1048576) (hws : ws.length ≤ 1048576)
    (hQ : ∀ H', (match wordM num (y :: r) with | none => SCN H0 H' id s a line ws → Q (.bool false) H' | some k => SCN H0 H' id s (a + k) line (ws ++ [((s.drop a).take k, line)]) → Q (.bool true) H')) : Φ K.lex_scanner_number [.ptr id 0] H Q := by
  refine S.cl_lex_scanner_number hT ?_
  unfold S.lex_scanner_number
  have hlt := (drop_cons_lt hd).1
  refine lex_run_spec hT (p := isDig) (fun c R hR => S.cl_lex_digit hT (lex_digit_spec hR)) h (by omega) hl ?_
  rw [wordM_cons, if_neg (by rw [hy1]; decide), if_pos hy] at hQ
  rw [hd]
  have hk : ((y :: r).takeWhile isDig).length ≤ (y :: r).length := (List.takeWhile_prefix isDig).length_le
  have hk1 : 1 ≤ ((y :: r).takeWhile isDig).length := by rw [List.takeWhile_cons, if_pos hy]; simp
  have hlen : (y :: r).length = s.length - a := by rw [← hd, List.length_drop]
  have hw : (s.take (a + ((y :: r).takeWhile isDig).length)).drop a = (y :: r).takeWhile isDig := by
    rw [List.drop_take, hd, show a + ((y :: r).takeWhile isDig).length - a = ((y :: r).takeWhile isDig).length by omega]
    exact (List.prefix_iff_eq_take.1 (List.takeWhile_prefix isDig)).symm
  have hrest : s.drop (a + ((y :: r).takeWhile isDig).length) = (y :: r).dropWhile isDig := by
    rw [← List.drop_drop, hd]
    exact drop_tw isDig _
  have hfirst : ∃ l, (y :: r).takeWhile isDig = y :: l := ⟨_, by rw [List.takeWhile_cons, if_pos hy]⟩
  generalize hW : (y :: r).takeWhile isDig = W at *
  simp only [anilck, afaddr, Do_of, Nat.zero_add, Nat.add_zero, h.l0, h.l1, abin_add]
  have e1 : IntKind.wrap .i64 ((a : Int) + W.length) = ((a + W.length : Nat) : Int) := by rw [wrap_i64 (by omega) (by omega)]; simp
  rw [e1, sslice_str (by omega) (by omega), hw]
  simp only [Do_of]
  -- behind the number
  have k3 : num W = true → ¬ (1 < W.length ∧ y = 48) → JoinP (S.lex_scanner_number_k3 Φ (.ptr id 0) (.int .i64 W.length) Q) [] H := by
    intro n1 n2
    simp only [JoinP_def, S.lex_scanner_number_k3, anilck, afaddr, Do_of, Nat.zero_add, Nat.add_zero, h.l0, h.l1, abin_add]
    rw [e1, sslice_end (by omega), hrest]
    simp only [Do_of, str_neq, Gd3_true]
    have k2 : ∀ b : Bool, b = !restOk ((y :: r).dropWhile isDig) → JoinP (S.lex_scanner_number_k2 Φ (.ptr id 0) (.int .i64 W.length) Q) [.bool b] H := by
      intro b hb
      simp only [JoinP_def, S.lex_scanner_number_k2, sl_zero, Gd_true]
      refine ite_both (fun hx => ?_) (fun hx => ?_)
      · have hr : restOk ((y :: r).dropWhile isDig) = false := by rw [hx] at hb; simpa using hb.symm
        rw [if_neg (by rw [hr]; simp)] at hQ
        exact hQ H h
      · have hr : restOk ((y :: r).dropWhile isDig) = true := by simp only [Bool.not_eq_true] at hx; rw [hx] at hb; simpa using hb.symm
        rw [if_pos ⟨⟨n1, n2⟩, hr⟩] at hQ
        simp only [S.lex_scanner_number_k1]
        exact lex_take_spec hT h (by omega) hl hws fun H' h' => hQ H' h'
    cases hdw : (y :: r).dropWhile isDig with
    | nil =>
      rw [hdw] at k2
      rw [if_neg (by decide)]
      exact k2 _ rfl
    | cons z l =>
      rw [hdw] at k2
      rw [if_pos (by simp)]
      have hx : aidxs (.str (z :: l)) (.int .i64 0) = some (.int .u8 z.toNat) := by simp [aidxs]
      rw [hx]
      simp only [Do_of]
      refine S.cl_lex_part hT (lex_part_spec hT ?_)
      exact k2 _ (by simp [restOk])
  have k4 : ∀ b : Bool, (b = true ↔ (num W = false ∨ (1 < W.length ∧ y = 48))) → JoinP (S.lex_scanner_number_k4 Φ (.ptr id 0) (.int .i64 W.length) Q) [.bool b] H := by
    intro b hb
    simp only [JoinP_def, S.lex_scanner_number_k4, sl_zero, Gd_true]
    refine ite_both (fun hx => ?_) (fun hx => ?_)
    · have := hb.1 hx
      rw [if_neg (by rintro ⟨⟨h1, h2⟩, _⟩; rcases this with h | h; rw [h1] at h; cases h; exact h2 h)] at hQ
      exact hQ H h
    · have hn : ¬ (num W = false ∨ (1 < W.length ∧ y = 48)) := fun q => hx (hb.2 q)
      exact k3 (by simpa using fun q => hn (.inl q)) fun q => hn (.inr q)
  refine hnum W H _ (by omega) (fun hn u => ?_) (fun hn u T => ?_)
  · simp only [aextract, List.getElem?_cons_zero, List.getElem?_cons_succ, Do_of]
    rw [show anil .i true .nilif = some (.bool false) from rfl]
    simp only [Do_of, Gd3_false, if_true, abin_gtr, Gd3_true]
    refine ite_both (fun hx => ?_) (fun hx => ?_)
    · obtain ⟨l, hWl⟩ := hfirst
      have hx0 : aidxs (.str W) (.int .i64 0) = some (.int .u8 y.toNat) := by rw [hWl]; simp [aidxs]
      rw [hx0]
      simp only [Do_of, abin_eql]
      refine k4 _ ?_
      have h1 : 1 < W.length := by simp only [decide_eq_true_eq] at hx; omega
      have hy48 : ((y.toNat : Int) == 48) = true ↔ y = 48 := by
        simp only [beq_iff_eq]
        constructor
        · intro e
          apply UInt8.toNat_inj.1
          show y.toNat = 48
          omega
        · rintro rfl; rfl
      rw [hy48]
      simp [hn, h1]
    · refine k4 _ ?_
      have h1 : ¬ 1 < W.length := by simp only [decide_eq_true_eq] at hx; omega
      simp [hn, h1]
  · simp only [aextract, List.getElem?_cons_zero, List.getElem?_cons_succ, Do_of]
    rw [show anil .i true (.iface T .bot) = some (.bool true) from rfl]
    simp only [Do_of, Gd3_false]
    rw [if_neg (by decide)]
    exact k4 _ (by simp [hn])

theorem HasPrefix_spec (hT : Cl Φ S.tab_Lex) {t p : List UInt8} (hQ : Q (.bool (decide (t.take p.length = p ∧ p.length ≤ t.length))) H) : Φ K.strings_HasPrefix [.str t, .str p] H Q := by
  have fin : ∀ b : Bool, b = decide (t.take p.length = p ∧ p.length ≤ t.length) → Q (.bool b) H := fun b h => by rw [h]; exact hQ
  refine S.cl_strings_HasPrefix hT ?_
  unfold S.strings_HasPrefix
  refine S.cl_internal_stringslite_HasPrefix hT ?_
  unfold S.internal_stringslite_HasPrefix
  simp only [alen_str, Do_of, abin_geq, Gd3_true]
  refine ite_both (fun h => ?_) (fun h => ?_)
  · have h' : p.length ≤ t.length := by simp only [ge_iff_le, decide_eq_true_eq] at h; omega
    have hs : asslice (.str t) none (some (.int .i64 p.length)) = some (.str (t.take p.length)) := by
      simp only [asslice, abound]
      rw [if_pos (by omega)]
      simp only
      rw [if_pos ⟨by omega, by omega⟩]
      simp
    rw [hs]
    simp only [Do_of, str_eql]
    refine fin _ ?_
    rw [Bool.eq_iff_iff]; simp [h']
  · refine fin _ ?_
    have h' : ¬ p.length ≤ t.length := by simp only [ge_iff_le, decide_eq_true_eq] at h; omega
    simp [h']

theorem lex_sign_spec (hT : Cl Φ S.tab_Lex) (hidx : IdxS Φ) {num : List UInt8 → Bool} {y : UInt8} {r : List UInt8} (h : SCN H0 H id s a line ws) (hd : s.drop a = y :: r) (hy1 : isLet y = false) (hy : isDig y = false) (hl : s.length ≤ 1048576) (hws : ws.length ≤ 1048576)
    (hQ : ∀ H', (match wordM num (y :: r) with | none => SCN H0 H' id s a line ws → Q (.bool false) H' | some k => SCN H0 H' id s (a + k) line (ws ++ [((s.drop a).take k, line)]) → Q (.bool true) H')) : Φ K.lex_scanner_sign [.ptr id 0] H Q := by
  refine S.cl_lex_scanner_sign hT ?_
  have hlt := (drop_cons_lt hd).1
  have hlen : (y :: r).length = s.length - a := by rw [← hd, List.length_drop]
  have hget := (drop_cons_lt hd).2.1
  rw [wordM_cons, if_neg (by rw [hy1]; decide), if_neg (by rw [hy]; decide)] at hQ
  unfold S.lex_scanner_sign
  rw [show abuild [.str [], .str [], .str [], .str []] [(0, 1, .str [60, 60]), (1, 1, .str [62, 62]), (2, 1, .str [61, 61]), (3, 1, .str [33, 61])] = some (.agg [.str [60, 60], .str [62, 62], .str [61, 61], .str [33, 61]]) from rfl]
  simp only [Do_of]
  have k1 : ¬ (two y ≠ none ∧ r.head? = two y) → JoinP (S.lex_scanner_sign_k1 Φ (.ptr id 0) Q) [] H := by
    intro hn
    rw [if_neg hn] at hQ
    simp only [JoinP_def, S.lex_scanner_sign_k1, anilck, afaddr, Do_of, Nat.zero_add, Nat.add_zero, h.l0, h.l1]
    have hx : aidxs (.str s) (.int .i64 a) = some (.int .u8 y.toNat) := by
      simp only [aidxs]; rw [if_pos (by omega)]; simp [hget]
    rw [hx]
    simp only [Do_of]
    refine S.cl_strings_IndexByte hT ?_
    unfold S.strings_IndexByte
    refine hidx y H _ fun z hz => ?_
    simp only [abin_lss, Do_of, Gd_true]
    refine ite_both (fun hx => ?_) (fun hx => ?_)
    · have hc : sgn1.contains y = false := hz.1 (by simpa using hx)
      rw [if_neg (by rw [hc]; decide)] at hQ
      exact hQ H h
    · have hc : sgn1.contains y = true := by
        cases hcc : sgn1.contains y with
        | true => rfl
        | false => exact absurd (hz.2 hcc) (by simpa using hx)
      rw [if_pos hc] at hQ
      refine lex_take_spec hT (n := 1) h (by simp at hlen; omega) hl hws fun H' h' => hQ H' h'
  -- one of the four
  have two_pre : ∀ (p q : UInt8) (b : Bool), b = decide ((y :: r).take 2 = [p, q] ∧ 2 ≤ (y :: r).length) → (b = true ↔ (y = p ∧ r.head? = some q)) := by
    intro p q b hb
    rw [hb]
    cases r with
    | nil => simp
    | cons z l => simp
  have step : ∀ (i : Nat) (p q : UInt8) (tl : Prop), i < 4 → aidx 4 1 false (.agg [.str [60, 60], .str [62, 62], .str [61, 61], .str [33, 61]]) (.int .i64 i) = some (.str [p, q]) → two p = some q →
      ((¬ (y = p ∧ r.head? = some q)) → LoopP (S.lex_scanner_sign_l2 Φ (.ptr id 0) (.agg [.str [60, 60], .str [62, 62], .str [61, 61], .str [33, 61]]) Q) ([.int .i64 ((i + 1 : Nat) : Int)], H)) →
      LoopP (S.lex_scanner_sign_l2 Φ (.ptr id 0) (.agg [.str [60, 60], .str [62, 62], .str [61, 61], .str [33, 61]]) Q) ([.int .i64 i], H) := by
    intro i p q _ hi hget2 htwo hnext
    refine LoopP.step ?_
    simp only [S.lex_scanner_sign_l2, sl_zero, abin_lss, Do_of, Gd_true]
    rw [if_pos (by simp only [decide_eq_true_eq]; omega), hget2]
    simp only [anilck, afaddr, Do_of, Nat.zero_add, Nat.add_zero, h.l0, h.l1]
    rw [sslice_end (by omega), hd]
    simp only [Do_of]
    refine HasPrefix_spec hT ?_
    have hb := two_pre p q _ rfl
    simp only [List.length_cons, List.length_nil, Nat.zero_add, Nat.reduceAdd, Gd_true]
    refine ite_both (fun hx => ?_) (fun hx => ?_)
    · obtain ⟨rfl, hr⟩ := hb.1 hx
      rw [if_pos ⟨by rw [htwo]; simp, by rw [htwo]; exact hr⟩] at hQ
      simp only [alen_str, Do_of, List.length_cons, List.length_nil, Nat.zero_add, Nat.reduceAdd]
      have h2 : 2 ≤ (y :: r).length := by
        cases r with
        | nil => cases hr
        | cons z l => simp
      exact lex_take_spec hT (n := 2) h (by omega) hl hws fun H' h' => hQ H' h'
    · simp only [abin_add, Do_of]
      rw [wrap_i64 (by omega) (by omega), show ((i : Int) + 1) = ((i + 1 : Nat) : Int) by simp]
      exact hnext fun q => hx (hb.2 q)
  refine step 0 60 60 True (by omega) rfl rfl fun n0 => ?_
  refine step 1 62 62 True (by omega) rfl rfl fun n1 => ?_
  refine step 2 61 61 True (by omega) rfl rfl fun n2 => ?_
  refine step 3 33 61 True (by omega) rfl rfl fun n3 => ?_
  refine LoopP.step ?_
  simp only [S.lex_scanner_sign_l2, sl_zero, abin_lss, Do_of, Gd_true]
  rw [if_neg (by decide)]
  refine k1 fun ⟨q1, q2⟩ => ?_
  unfold two at q1 q2
  split at q2
  · rename_i e; exact n0 ⟨e, q2⟩
  · split at q2
    · rename_i e; exact n1 ⟨e, q2⟩
    · split at q2
      · rename_i e; exact n2 ⟨e, q2⟩
      · split at q2
        · rename_i e; exact n3 ⟨e, q2⟩
        · rename_i e0 e1 e2 e3
          rw [if_neg e0, if_neg e1, if_neg e2, if_neg e3] at q1
          exact q1 rfl
end
end Rb
