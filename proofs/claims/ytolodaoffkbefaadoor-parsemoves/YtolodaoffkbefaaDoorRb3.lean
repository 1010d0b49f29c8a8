/- A part of the proof (part 3): see the last text. -/
import Derived.Test.YtolodaoffkbefaaDoorRb2
import Derived.Test.YtolodaoffkbefaaDoorRows
import Derived.KernelRfl
import Derived.WalkKit
import Derived.ProofKit
import Derived.Lib.Bytealg
import Derived.Laws.Externs
/- Quick ways to reckon what the small language's operations say: the same values, found by fewer steps. -/
set_option linter.unusedVariables false
set_option linter.unusedSimpArgs false
namespace Rb
open Go
noncomputable section

theorem nb (a b : Nat) : Nat.beq a b = decide (a = b) := by rw [Bool.eq_iff_iff]; simp
theorem nl (a b : Nat) : Nat.blt a b = decide (a < b) := by rw [Bool.eq_iff_iff]; simp [Nat.blt]; omega
theorem ne' (a b : Nat) : Nat.ble a b = decide (a ≤ b) := by rw [Bool.eq_iff_iff]; simp

/-- A call that is named, so that the kernel comes back up before it goes on: long lists would else go too deep. -/
def apK {α β : Type} (f : α → β) (a : α) : β := f a

/-! Lists -/
def nthF {α : Type} (l : List α) : Nat → Option α := List.rec (motive := fun _ => Nat → Option α) (fun _ => none) (fun x _ ih n => Nat.rec (motive := fun _ => Option α) (some x) (fun m _ => apK ih m) n) l
theorem nthF_eq {α : Type} : ∀ (l : List α) (n : Nat), nthF l n = l[n]?
  | [], n => by cases n <;> rfl
  | x :: r, 0 => rfl
  | x :: r, n + 1 => by rw [List.getElem?_cons_succ, ← nthF_eq r n]; rfl
def dropF {α : Type} (n : Nat) : List α → List α := Nat.rec (motive := fun _ => List α → List α) (fun l => l) (fun _ ih l => List.rec (motive := fun _ => List α) [] (fun _ t _ => apK ih t) l) n
theorem dropF_eq {α : Type} : ∀ (n : Nat) (l : List α), dropF n l = l.drop n
  | 0, l => rfl
  | n + 1, [] => rfl
  | n + 1, x :: r => by rw [List.drop_succ_cons, ← dropF_eq n r]; rfl
def leF {α : Type} (n : Nat) : List α → Bool := Nat.rec (motive := fun _ => List α → Bool) (fun _ => true) (fun _ ih l => List.rec (motive := fun _ => Bool) false (fun _ t _ => apK ih t) l) n
theorem leF_eq {α : Type} : ∀ (n : Nat) (l : List α), leF n l = decide (n ≤ l.length)
  | 0, l => by simp; rfl
  | n + 1, [] => by simp; rfl
  | n + 1, x :: r => by rw [List.length_cons, show decide (n + 1 ≤ r.length + 1) = decide (n ≤ r.length) by simp, ← leF_eq n r]; rfl

/-! Numbers -/
def kN : IntKind → Nat
  | .i8 => 0 | .i16 => 1 | .i32 => 2 | .i64 => 3 | .u8 => 4 | .u16 => 5 | .u32 => 6 | .u64 => 7
def kEq (k k' : IntKind) : Bool := Nat.beq (kN k) (kN k')
theorem kEq_eq {k k' : IntKind} (h : kEq k k' = true) : k = k' := by
  revert h; cases k <;> cases k' <;> decide
def lim : IntKind → Nat
  | .i8 => 128 | .i16 => 32768 | .i32 => 2147483648 | .i64 => 9223372036854775808 | .u8 => 256 | .u16 => 65536 | .u32 => 4294967296 | .u64 => 18446744073709551616
theorem wrap_lim {k : IntKind} {m : Nat} (h : m < lim k) : k.wrap (Int.ofNat m) = Int.ofNat m := by
  have hm : (Int.ofNat m) = (m : Int) := rfl
  rw [hm]
  cases k <;> simp only [lim] at h <;> simp only [IntKind.wrap, IntKind.bits, IntKind.signed] <;> simp <;> omega

def asNat (v : AV) (d : Option AV) (f : IntKind → Nat → Option AV) : Option AV :=
  match v with
  | .int k n => (match n with | .ofNat m => f k m | .negSucc _ => d)
  | _ => d
theorem asNat_eq {v : AV} {d : Option AV} {f : IntKind → Nat → Option AV} (h : ∀ k m, v = .int k (.ofNat m) → f k m = d) : asNat v d f = d := by
  unfold asNat
  split
  · split
    · exact h _ _ rfl
    · rfl
  · rfl

def natOp (g : IntKind → Nat → Nat → Option AV → Option AV) (s : Option AV) (x y : AV) : Option AV :=
  asNat x s fun k a => asNat y s fun k' b => cond (kEq k k') (g k a b s) s
theorem natOp_eq {g : IntKind → Nat → Nat → Option AV → Option AV} {op : BinOp} (hg : ∀ k a b, g k a b (abinInt op k (.ofNat a) k (.ofNat b)) = abinInt op k (.ofNat a) k (.ofNat b)) (x y : AV) : natOp g (abin op x y) x y = abin op x y := by
  refine asNat_eq fun k a hx => asNat_eq fun k' b hy => ?_
  subst hx hy
  cases h : kEq k k' with
  | false => rfl
  | true =>
    obtain rfl := kEq_eq h
    exact hg k a b

def gAdd (k : IntKind) (a b : Nat) (s : Option AV) : Option AV := cond (Nat.blt (Nat.add a b) (lim k)) (some (.int k (.ofNat (Nat.add a b)))) s
def gSub (k : IntKind) (a b : Nat) (s : Option AV) : Option AV := cond (and (Nat.ble b a) (Nat.blt a (lim k))) (some (.int k (.ofNat (Nat.sub a b)))) s
def gMul (k : IntKind) (a b : Nat) (s : Option AV) : Option AV := cond (Nat.blt (Nat.mul a b) (lim k)) (some (.int k (.ofNat (Nat.mul a b)))) s
def gLss (k : IntKind) (a b : Nat) (s : Option AV) : Option AV := some (.bool (Nat.blt a b))
def gLeq (k : IntKind) (a b : Nat) (s : Option AV) : Option AV := some (.bool (Nat.ble a b))
def gGtr (k : IntKind) (a b : Nat) (s : Option AV) : Option AV := some (.bool (Nat.blt b a))
def gGeq (k : IntKind) (a b : Nat) (s : Option AV) : Option AV := some (.bool (Nat.ble b a))
def gEql (k : IntKind) (a b : Nat) (s : Option AV) : Option AV := some (.bool (Nat.beq a b))
def gNeq (k : IntKind) (a b : Nat) (s : Option AV) : Option AV := some (.bool (not (Nat.beq a b)))
def gQuo (k : IntKind) (a b : Nat) (s : Option AV) : Option AV := cond (and (Nat.blt 0 b) (Nat.blt a (lim k))) (some (.int k (.ofNat (Nat.div a b)))) s
def gRem (k : IntKind) (a b : Nat) (s : Option AV) : Option AV := cond (Nat.blt 0 b) (some (.int k (.ofNat (Nat.mod a b)))) s
def gAnd (k : IntKind) (a b : Nat) (s : Option AV) : Option AV := cond (and (Nat.blt a (lim k)) (Nat.blt b (lim k))) (some (.int k (.ofNat (Nat.land a b)))) s
def gOr (k : IntKind) (a b : Nat) (s : Option AV) : Option AV := cond (and (Nat.blt a (lim k)) (Nat.blt b (lim k))) (some (.int k (.ofNat (Nat.lor a b)))) s
def gXor (k : IntKind) (a b : Nat) (s : Option AV) : Option AV := cond (and (Nat.blt a (lim k)) (Nat.blt b (lim k))) (some (.int k (.ofNat (Nat.xor a b)))) s

theorem gAdd_eq (k : IntKind) (a b : Nat) : gAdd k a b (abinInt .add k (.ofNat a) k (.ofNat b)) = abinInt .add k (.ofNat a) k (.ofNat b) := by
  unfold gAdd
  rw [nl]
  by_cases h : Nat.add a b < lim k
  · simp only [h, decide_true, cond_true, abinInt, if_true]
    rw [show (Int.ofNat a + Int.ofNat b) = Int.ofNat (Nat.add a b) from rfl, wrap_lim h]
  · simp only [h, decide_false, cond_false]
theorem gMul_eq (k : IntKind) (a b : Nat) : gMul k a b (abinInt .mul k (.ofNat a) k (.ofNat b)) = abinInt .mul k (.ofNat a) k (.ofNat b) := by
  unfold gMul
  rw [nl]
  by_cases h : Nat.mul a b < lim k
  · simp only [h, decide_true, cond_true, abinInt, if_true]
    rw [show (Int.ofNat a * Int.ofNat b) = Int.ofNat (Nat.mul a b) from rfl, wrap_lim h]
  · simp only [h, decide_false, cond_false]
theorem gSub_eq (k : IntKind) (a b : Nat) : gSub k a b (abinInt .sub k (.ofNat a) k (.ofNat b)) = abinInt .sub k (.ofNat a) k (.ofNat b) := by
  unfold gSub
  rw [nl, ne']
  by_cases h : b ≤ a ∧ a < lim k
  · simp only [h.1, h.2, decide_true, Bool.and_self, cond_true, abinInt, if_true]
    have : (Int.ofNat a - Int.ofNat b) = Int.ofNat (Nat.sub a b) := by
      show (a : Int) - (b : Int) = ((a - b : Nat) : Int)
      omega
    rw [this, wrap_lim (show Nat.sub a b < lim k from Nat.lt_of_le_of_lt (Nat.sub_le _ _) h.2)]
  · have : (decide (b ≤ a) && decide (a < lim k)) = false := by
      rw [Bool.eq_false_iff]; intro h2; simp at h2; exact h h2
    simp only [this, cond_false]
theorem gLss_eq (k : IntKind) (a b : Nat) : gLss k a b (abinInt .lss k (.ofNat a) k (.ofNat b)) = abinInt .lss k (.ofNat a) k (.ofNat b) := by
  simp only [gLss, abinInt, if_true, nl]
  congr 2
  simp
theorem gLeq_eq (k : IntKind) (a b : Nat) : gLeq k a b (abinInt .leq k (.ofNat a) k (.ofNat b)) = abinInt .leq k (.ofNat a) k (.ofNat b) := by
  simp only [gLeq, abinInt, if_true, ne']
  congr 2
  simp
theorem gGtr_eq (k : IntKind) (a b : Nat) : gGtr k a b (abinInt .gtr k (.ofNat a) k (.ofNat b)) = abinInt .gtr k (.ofNat a) k (.ofNat b) := by
  simp only [gGtr, abinInt, if_true, nl]
  congr 2
  simp
theorem gGeq_eq (k : IntKind) (a b : Nat) : gGeq k a b (abinInt .geq k (.ofNat a) k (.ofNat b)) = abinInt .geq k (.ofNat a) k (.ofNat b) := by
  simp only [gGeq, abinInt, if_true, ne']
  congr 2
  simp
theorem ofN_beq (a b : Nat) : (Int.ofNat a == Int.ofNat b) = decide (a = b) := by
  rw [Bool.eq_iff_iff]; simp; omega
theorem gEql_eq (k : IntKind) (a b : Nat) : gEql k a b (abinInt .eql k (.ofNat a) k (.ofNat b)) = abinInt .eql k (.ofNat a) k (.ofNat b) := by
  simp only [gEql, abinInt, if_true, nb, ofN_beq]
theorem gNeq_eq (k : IntKind) (a b : Nat) : gNeq k a b (abinInt .neq k (.ofNat a) k (.ofNat b)) = abinInt .neq k (.ofNat a) k (.ofNat b) := by
  simp only [gNeq, abinInt, if_true, nb, bne, ofN_beq]
theorem gRem_eq (k : IntKind) (a b : Nat) : gRem k a b (abinInt .rem k (.ofNat a) k (.ofNat b)) = abinInt .rem k (.ofNat a) k (.ofNat b) := by
  unfold gRem
  rw [nl]
  by_cases h : 0 < b
  · have hb : (Int.ofNat b) ≠ 0 := by simp; omega
    simp only [h, decide_true, cond_true, abinInt, if_pos (show True ∧ Int.ofNat b ≠ 0 from ⟨trivial, hb⟩)]
    rfl
  · simp only [h, decide_false, cond_false]
theorem gQuo_eq (k : IntKind) (a b : Nat) : gQuo k a b (abinInt .quo k (.ofNat a) k (.ofNat b)) = abinInt .quo k (.ofNat a) k (.ofNat b) := by
  unfold gQuo
  rw [nl, nl]
  by_cases h : 0 < b ∧ a < lim k
  · have hb : (Int.ofNat b) ≠ 0 := by have := h.1; simp; omega
    simp only [h.1, h.2, decide_true, Bool.and_self, cond_true, abinInt, if_pos (show True ∧ Int.ofNat b ≠ 0 from ⟨trivial, hb⟩)]
    rw [show (Int.ofNat a).tdiv (Int.ofNat b) = Int.ofNat (Nat.div a b) from rfl, wrap_lim (show Nat.div a b < lim k from Nat.lt_of_le_of_lt (Nat.div_le_self _ _) h.2)]
  · have : (decide (0 < b) && decide (a < lim k)) = false := by
      rw [Bool.eq_false_iff]; intro h2; simp at h2; exact h h2
    simp only [this, cond_false]
theorem lim_le (k : IntKind) : lim k ≤ 2 ^ k.bits := by cases k <;> decide
theorem lim_pow (k : IntKind) : ∃ n, lim k = 2 ^ n := by
  cases k
  · exact ⟨7, rfl⟩
  · exact ⟨15, rfl⟩
  · exact ⟨31, rfl⟩
  · exact ⟨63, rfl⟩
  · exact ⟨8, rfl⟩
  · exact ⟨16, rfl⟩
  · exact ⟨32, rfl⟩
  · exact ⟨64, rfl⟩
theorem bits_eq {op : BinOp} {f : Nat → Nat → Nat} (k : IntKind) (a b : Nat) (ha : a < lim k) (hb : b < lim k) (hf : f a b < lim k)
    (h : bitsOp op k (.ofNat a) (.ofNat b) = some (k.wrap (((f (BitVec.ofInt k.bits (.ofNat a)).toNat (BitVec.ofInt k.bits (.ofNat b)).toNat) : Nat) : Int))) : bitsOp op k (.ofNat a) (.ofNat b) = some (.ofNat (f a b)) := by
  have h2 := lim_le k
  have e : ∀ n : Nat, n < lim k → (BitVec.ofInt k.bits (.ofNat n)).toNat = n := fun n hn => by
    have : BitVec.ofInt k.bits (.ofNat n) = BitVec.ofNat k.bits n := by simp
    rw [this, BitVec.toNat_ofNat, Nat.mod_eq_of_lt (by omega)]
  rw [h, e a ha, e b hb]
  exact congrArg some (wrap_lim hf)
theorem gAnd_eq (k : IntKind) (a b : Nat) : gAnd k a b (abinInt .and k (.ofNat a) k (.ofNat b)) = abinInt .and k (.ofNat a) k (.ofNat b) := by
  unfold gAnd
  rw [nl, nl]
  by_cases h : a < lim k ∧ b < lim k
  · simp only [h.1, h.2, decide_true, Bool.and_self, cond_true, abinInt, if_true]
    rw [bits_eq (op := .and) (f := Nat.land) k a b h.1 h.2 (Nat.lt_of_le_of_lt Nat.and_le_left h.1) (by simp only [bitsOp, BitVec.toNat_and]; rfl)]
    rfl
  · have : (decide (a < lim k) && decide (b < lim k)) = false := by
      rw [Bool.eq_false_iff]; intro h2; simp at h2; exact h h2
    simp only [this, cond_false]
theorem gOr_eq (k : IntKind) (a b : Nat) : gOr k a b (abinInt .or k (.ofNat a) k (.ofNat b)) = abinInt .or k (.ofNat a) k (.ofNat b) := by
  unfold gOr
  rw [nl, nl]
  by_cases h : a < lim k ∧ b < lim k
  · simp only [h.1, h.2, decide_true, Bool.and_self, cond_true, abinInt, if_true]
    have hl : Nat.lor a b < lim k := by
      obtain ⟨n, hn⟩ := lim_pow k
      rw [hn] at h ⊢
      exact Nat.or_lt_two_pow h.1 h.2
    rw [bits_eq (op := .or) (f := Nat.lor) k a b h.1 h.2 hl (by simp only [bitsOp, BitVec.toNat_or]; rfl)]
    rfl
  · have : (decide (a < lim k) && decide (b < lim k)) = false := by
      rw [Bool.eq_false_iff]; intro h2; simp at h2; exact h h2
    simp only [this, cond_false]
theorem gXor_eq (k : IntKind) (a b : Nat) : gXor k a b (abinInt .xor k (.ofNat a) k (.ofNat b)) = abinInt .xor k (.ofNat a) k (.ofNat b) := by
  unfold gXor
  rw [nl, nl]
  by_cases h : a < lim k ∧ b < lim k
  · simp only [h.1, h.2, decide_true, Bool.and_self, cond_true, abinInt, if_true]
    have hl : Nat.xor a b < lim k := by
      obtain ⟨n, hn⟩ := lim_pow k
      rw [hn] at h ⊢
      exact Nat.xor_lt_two_pow h.1 h.2
    rw [bits_eq (op := .xor) (f := Nat.xor) k a b h.1 h.2 hl (by simp only [bitsOp, BitVec.toNat_xor]; rfl)]
    rfl
  · have : (decide (a < lim k) && decide (b < lim k)) = false := by
      rw [Bool.eq_false_iff]; intro h2; simp at h2; exact h h2
    simp only [this, cond_false]

structure BinC where
  f : AV → AV → Option AV
def binC : BinOp → BinC
  | .add => ⟨fun x y => natOp gAdd (abin .add x y) x y⟩
  | .sub => ⟨fun x y => natOp gSub (abin .sub x y) x y⟩
  | .mul => ⟨fun x y => natOp gMul (abin .mul x y) x y⟩
  | .quo => ⟨fun x y => natOp gQuo (abin .quo x y) x y⟩
  | .rem => ⟨fun x y => natOp gRem (abin .rem x y) x y⟩
  | .and => ⟨fun x y => natOp gAnd (abin .and x y) x y⟩
  | .or => ⟨fun x y => natOp gOr (abin .or x y) x y⟩
  | .xor => ⟨fun x y => natOp gXor (abin .xor x y) x y⟩
  | .lss => ⟨fun x y => natOp gLss (abin .lss x y) x y⟩
  | .leq => ⟨fun x y => natOp gLeq (abin .leq x y) x y⟩
  | .gtr => ⟨fun x y => natOp gGtr (abin .gtr x y) x y⟩
  | .geq => ⟨fun x y => natOp gGeq (abin .geq x y) x y⟩
  | .eql => ⟨fun x y => natOp gEql (abin .eql x y) x y⟩
  | .neq => ⟨fun x y => natOp gNeq (abin .neq x y) x y⟩
  | .shl => ⟨fun x y => abin .shl x y⟩
  | .shr => ⟨fun x y => abin .shr x y⟩
  | .andNot => ⟨fun x y => abin .andNot x y⟩
theorem binC_eq (op : BinOp) (x y : AV) : (binC op).f x y = abin op x y := by
  cases op <;> first | rfl | exact natOp_eq (by first | exact gAdd_eq | exact gSub_eq | exact gMul_eq | exact gQuo_eq | exact gRem_eq | exact gAnd_eq | exact gOr_eq | exact gXor_eq | exact gLss_eq | exact gLeq_eq | exact gGtr_eq | exact gGeq_eq | exact gEql_eq | exact gNeq_eq) x y

def convF (k : IntKind) (x : AV) : Option AV := asNat x (aconv k x) fun _ m => cond (Nat.blt m (lim k)) (some (.int k (.ofNat m))) (aconv k x)
theorem convF_eq (k : IntKind) (x : AV) : convF k x = aconv k x := by
  refine asNat_eq fun k' m hx => ?_
  subst hx
  rw [nl]
  by_cases h : m < lim k
  · simp only [h, decide_true, cond_true, aconv]
    rw [wrap_lim h]
  · simp only [h, decide_false, cond_false]

/-! Places -/
def takeF (cs : List AV) (o n : Nat) (agg : Bool) : Option AV :=
  cond agg (cond (leF (Nat.add o n) cs) (some (.agg ((dropF o cs).take n))) none) (cond (Nat.beq n 1) (nthF cs o) (takeCells cs o n false))
theorem takeF_eq (cs : List AV) (o n : Nat) (agg : Bool) : takeF cs o n agg = takeCells cs o n agg := by
  unfold takeF takeCells
  cases agg with
  | true =>
    rw [leF_eq, dropF_eq]
    by_cases h : o + n ≤ cs.length
    · rw [if_pos h]; simp [show Nat.add o n = o + n from rfl, h]
    · rw [if_neg h]; simp [show Nat.add o n = o + n from rfl, h]
  | false =>
    rw [nb, nthF_eq]
    by_cases h1 : n = 1
    · subst h1
      simp only [decide_true, cond_true, cond_false, Bool.false_eq_true, if_false]
      by_cases h : o + 1 ≤ cs.length
      · rw [if_pos h]
      · rw [if_neg h, List.getElem?_eq_none (by omega)]
    · simp only [h1, decide_false, cond_false]
def fieldF (off sz : Nat) (agg : Bool) (x : AV) : Option AV :=
  match x with
  | .agg cs => takeF cs off sz agg
  | _ => none
theorem fieldF_eq (off sz : Nat) (agg : Bool) (x : AV) : fieldF off sz agg x = afield off sz agg x := by
  unfold fieldF afield; cases x <;> first | rfl | exact takeF_eq _ _ _ _
def idxF (len sz : Nat) (agg : Bool) (x i : AV) : Option AV := asNat i (aidx len sz agg x i) fun k m => match x with
  | .agg cs => cond (Nat.blt m len) (takeF cs (Nat.mul m sz) sz agg) none
  | _ => aidx len sz agg x i
theorem idxF_eq (len sz : Nat) (agg : Bool) (x i : AV) : idxF len sz agg x i = aidx len sz agg x i := by
  refine asNat_eq fun k m hi => ?_
  subst hi
  cases x <;> first | rfl | skip
  rename_i cs
  dsimp only
  rw [nl, takeF_eq]
  simp only [aidx]
  by_cases h : m < len
  · rw [if_pos ⟨Int.natCast_nonneg _, by exact Int.ofNat_lt.2 h⟩]; simp only [h, decide_true, cond_true]; rfl
  · rw [if_neg (fun h2 => h (Int.ofNat_lt.1 h2.2))]; simp only [h, decide_false, cond_false]
def idxsF (x i : AV) : Option AV := asNat i (aidxs x i) fun _ m => match x with
  | .str s => (match nthF s m with | some b => some (.int .u8 (.ofNat b.toNat)) | none => none)
  | _ => aidxs x i
theorem idxsF_eq (x i : AV) : idxsF x i = aidxs x i := by
  refine asNat_eq fun k m hi => ?_
  subst hi
  cases x <;> first | rfl | skip
  rename_i s
  dsimp only
  rw [nthF_eq]
  simp only [aidxs]
  rw [if_pos (show 0 ≤ Int.ofNat m from Int.natCast_nonneg _)]
  show _ = Option.map _ s[m]?
  cases s[m]? <;> rfl
def iaddrF (arr : Option Nat) (sz : Nat) (x i : AV) : Option AV := asNat i (aiaddr arr sz x i) fun _ m => match arr, x with
  | none, .lst _ len cells => cond (Nat.blt m len) (some (.fptr (dropF (Nat.mul m sz) cells))) none
  | none, .row id o len _ => cond (Nat.blt m len) (some (.ptr id (Nat.add o (Nat.mul m sz)))) none
  | some n, .ptr id o => cond (Nat.blt m n) (some (.ptr id (Nat.add o (Nat.mul m sz)))) none
  | some n, .fptr cells => cond (Nat.blt m n) (some (.fptr (dropF (Nat.mul m sz) cells))) none
  | _, _ => aiaddr arr sz x i
theorem iaddrF_eq (arr : Option Nat) (sz : Nat) (x i : AV) : iaddrF arr sz x i = aiaddr arr sz x i := by
  refine asNat_eq fun k m hi => ?_
  subst hi
  have key : ∀ (n : Nat) (v : AV), cond (Nat.blt m n) (some v) none = if 0 ≤ (Int.ofNat m) ∧ (Int.ofNat m) < (n : Int) then some v else none := by
    intro n v
    rw [nl]
    by_cases h : m < n
    · rw [if_pos ⟨Int.natCast_nonneg _, Int.ofNat_lt.2 h⟩]; simp only [h, decide_true, cond_true]
    · rw [if_neg (fun h2 => h (Int.ofNat_lt.1 h2.2))]; simp only [h, decide_false, cond_false]
  cases arr <;> cases x <;> first
    | rfl
    | (dsimp only; rw [key]; simp only [dropF_eq]; rfl)
    | (dsimp only; rw [key]; rfl)
def loadF (T : TH) (n : Nat) (agg : Bool) (x : AV) : Option AV :=
  match x with
  | .ptr id o => (match T.t.get id with | .row cs => takeF cs o n agg | _ => none)
  | .fptr cs => takeF cs 0 n agg
  | _ => none
theorem loadF_eq (T : TH) (n : Nat) (agg : Bool) (x : AV) : loadF T n agg x = aload T.ah n agg x := by
  unfold loadF aload
  cases x <;> first | rfl | skip
  · dsimp only
    show _ = match T.t.get _ with | .row cs => _ | _ => _
    split <;> first | rfl | exact takeF_eq _ _ _ _
  · exact takeF_eq _ _ _ _
end
end Rb

/- Runs by pieces that are made once: each piece of a text becomes a function over the slots' values, in a box, so that it is found again. All values are reckoned to the end before they are handed on: what waits would drag behind it all that it came from. -/
set_option linter.unusedVariables false
set_option linter.unusedSimpArgs false
namespace Rb
open Go
noncomputable section

/-! Values, reckoned to the end and handed on -/
def natV (m : Nat) (K : Nat → Bool) : Bool := Nat.rec (motive := fun _ => Bool) (K 0) (fun p _ => K (Nat.succ p)) m
theorem natV_eq (m : Nat) (K : Nat → Bool) : natV m K = K m := by cases m <;> rfl
def spineK {α : Type} (l : List α) : (List α → Bool) → Bool := List.rec (motive := fun _ => (List α → Bool) → Bool) (fun K => K []) (fun x _ ih K => apK ih fun r => apK K (x :: r)) l
theorem spineK_eq {α : Type} : ∀ (l : List α) (K : List α → Bool), spineK l K = K l
  | [], K => rfl
  | x :: r, K => by show spineK r (fun r => K (x :: r)) = _; rw [spineK_eq r]
def dropK {α : Type} (n : Nat) : List α → (List α → Bool) → Bool := Nat.rec (motive := fun _ => List α → (List α → Bool) → Bool) (fun l K => K l) (fun _ ih l K => List.rec (motive := fun _ => Bool) (K []) (fun _ t _ => apK (ih t) K) l) n
theorem dropK_eq {α : Type} : ∀ (n : Nat) (l : List α) (K : List α → Bool), dropK n l K = K (l.drop n)
  | 0, l, K => rfl
  | n + 1, [], K => rfl
  | n + 1, x :: r, K => by rw [List.drop_succ_cons, ← dropK_eq n r K]; rfl

def fv (v : AV) (K : AV → Bool) : Bool :=
  match v with
  | .int k n => (match n with | .ofNat m => natV m fun m => K (.int k (.ofNat m)) | .negSucc m => natV m fun m => K (.int k (.negSucc m)))
  | .bool b => (match b with | true => K (.bool true) | false => K (.bool false))
  | .str s => spineK s fun s => K (.str s)
  | .ptr i o => natV i fun i => natV o fun o => K (.ptr i o)
  | .row i o l z => natV i fun i => natV o fun o => natV l fun l => K (.row i o l z)
  | .lst tk l cs => natV l fun l => spineK cs fun cs => K (.lst tk l cs)
  | .fptr cs => spineK cs fun cs => K (.fptr cs)
  | .agg cs => spineK cs fun cs => K (.agg cs)
  | .tup cs => spineK cs fun cs => K (.tup cs)
  | v => K v
theorem fv_eq (v : AV) (K : AV → Bool) : fv v K = K v := by
  unfold fv
  split <;> (try split) <;> simp only [natV_eq, spineK_eq]

/-- What comes to be; what was there and is handed on. -/
def DoK (x : Option AV) (K : AV → Bool) : Bool := match x with | some v => fv v K | none => false
theorem DoK_eq (x : Option AV) (K : AV → Bool) : DoK x K = DoB x K := by
  cases x with
  | none => rfl
  | some v => exact fv_eq v K
def DoR (x : Option AV) (K : AV → Bool) : Bool := match x with | some v => K v | none => false
theorem DoR_eq (x : Option AV) (K : AV → Bool) : DoR x K = DoB x K := by cases x <;> rfl

/-! The slots -/
def getK (E : EV) (t : Nat) (K : AV → Bool) : Bool := List.rec (motive := fun _ => Bool) (K .bot) (fun p _ ih => Prod.rec (motive := fun _ => Bool) (fun s v => Bool.rec (motive := fun _ => Bool) ih (K v) (Nat.beq s t)) p) E
theorem getK_eq : ∀ (E : EV) (t : Nat) (K : AV → Bool), getK E t K = K (eget E t)
  | [], t, K => rfl
  | (s, v) :: E, t, K => by
    show Bool.rec (motive := fun _ => Bool) (getK E t K) (K v) (Nat.beq s t) = K (cond (Nat.beq s t) v (eget E t))
    rw [getK_eq E t K]
    cases Nat.beq s t <;> rfl

def Opd.val (E : EV) : Opd → AV
  | .t n => eget E n
  | .k v => v
def ovals (E : EV) : Option Opd → Option AV
  | none => none
  | some x => some (x.val E)
def vals (E : EV) : List Opd → List AV
  | [] => []
  | x :: r => x.val E :: vals E r
def pvals (E : EV) : List (Nat × Nat × Opd) → List (Nat × Nat × AV)
  | [] => []
  | (a, b, x) :: r => (a, b, x.val E) :: pvals E r
theorem val_eq (E : EV) (x : Opd) : (x.sub E).ev [] = x.val E := by cases x <;> rfl
theorem vals_eq (E : EV) : ∀ xs : List Opd, evs [] (xs.map (Opd.sub E)) = vals E xs
  | [] => rfl
  | x :: r => by
    have := vals_eq E r
    simp only [evs, List.map_cons] at this ⊢
    rw [this, val_eq]; rfl
theorem pvals_eq (E : EV) : ∀ xs : List (Nat × Nat × Opd), evps [] (xs.map fun p => (p.1, p.2.1, p.2.2.sub E)) = pvals E xs
  | [] => rfl
  | (a, b, x) :: r => by
    have := pvals_eq E r
    simp only [evps, List.map_cons] at this ⊢
    rw [this, val_eq]; rfl
theorem ovals_eq (E : EV) (x : Option Opd) : (x.map (Opd.sub E)).map (Opd.ev []) = ovals E x := by
  cases x with
  | none => rfl
  | some x => exact congrArg some (val_eq E x)

def valK (x : Opd) (E : EV) (K : AV → Bool) : Bool := match x with | .t n => getK E n K | .k v => K v
theorem valK_eq (x : Opd) (E : EV) (K : AV → Bool) : valK x E K = K (x.val E) := by
  cases x with
  | t n => exact getK_eq E n K
  | k v => rfl
def valsK (E : EV) : List Opd → (List AV → Bool) → Bool
  | [], K => K []
  | x :: r, K => valK x E fun v => valsK E r fun vs => K (v :: vs)
theorem valsK_eq (E : EV) : ∀ (xs : List Opd) (K : List AV → Bool), valsK E xs K = K (vals E xs)
  | [], K => rfl
  | x :: r, K => by rw [valsK, valK_eq, valsK_eq E r]; rfl
def pvalsK (E : EV) : List (Nat × Nat × Opd) → (List (Nat × Nat × AV) → Bool) → Bool
  | [], K => K []
  | (a, b, x) :: r, K => valK x E fun v => pvalsK E r fun vs => K ((a, b, v) :: vs)
theorem pvalsK_eq (E : EV) : ∀ (xs : List (Nat × Nat × Opd)) (K : List (Nat × Nat × AV) → Bool), pvalsK E xs K = K (pvals E xs)
  | [], K => rfl
  | (a, b, x) :: r, K => by rw [pvalsK, valK_eq, pvalsK_eq E r]; rfl
def ovalK (E : EV) (x : Option Opd) (K : Option AV → Bool) : Bool := match x with | none => K none | some x => valK x E fun v => K (some v)
theorem ovalK_eq (E : EV) (x : Option Opd) (K : Option AV → Bool) : ovalK E x K = K (ovals E x) := by
  cases x with
  | none => rfl
  | some x => exact valK_eq x E _

/-! The memory -/
def setK (x : AObj) (f : Nat) : TT → Nat → (TT → Bool) → Bool :=
  Nat.rec (motive := fun _ => TT → Nat → (TT → Bool) → Bool) (fun t _ K => K t)
    (fun _ ih t i K => TT.casesOn (motive := fun _ => Bool) t
      (cond (Nat.beq i 0) (K (.node x .leaf .leaf)) (cond (Nat.beq (Nat.mod i 2) 1) (ih .leaf (Nat.div i 2) fun l => K (.node .gone l .leaf)) (ih .leaf (Nat.sub (Nat.div i 2) 1) fun r => K (.node .gone .leaf r))))
      (fun a l r => cond (Nat.beq i 0) (K (.node x l r)) (cond (Nat.beq (Nat.mod i 2) 1) (ih l (Nat.div i 2) fun l => K (.node a l r)) (ih r (Nat.sub (Nat.div i 2) 1) fun r => K (.node a l r))))) f
theorem setK_eq (x : AObj) : ∀ (f : Nat) (t : TT) (i : Nat) (K : TT → Bool), setK x f t i K = K (TT.setF x f t i) := by
  intro f
  induction f with
  | zero => intro t i K; cases t <;> rfl
  | succ f ih =>
    intro t i K
    cases t with
    | leaf =>
      show cond (Nat.beq i 0) (K (.node x .leaf .leaf)) (cond (Nat.beq (i % 2) 1) (setK x f .leaf (i / 2) fun l => K (.node .gone l .leaf)) (setK x f .leaf (i / 2 - 1) fun r => K (.node .gone .leaf r))) = _
      rw [ih, ih, TT.setF]
      cases Nat.beq i 0 <;> cases Nat.beq (i % 2) 1 <;> rfl
    | node a l r =>
      show cond (Nat.beq i 0) (K (.node x l r)) (cond (Nat.beq (i % 2) 1) (setK x f l (i / 2) fun l => K (.node a l r)) (setK x f r (i / 2 - 1) fun r => K (.node a l r))) = _
      rw [ih, ih, TT.setF]
      cases Nat.beq i 0 <;> cases Nat.beq (i % 2) 1 <;> rfl
def THset (T : TH) (i : Nat) (x : AObj) (K : TH → Bool) : Bool := match T with | ⟨n, t⟩ => setK x (Nat.succ i) t i fun t => K ⟨n, t⟩
theorem THset_eq (T : TH) (i : Nat) (x : AObj) (K : TH → Bool) : THset T i x K = K (T.set i x) := by
  obtain ⟨n, t⟩ := T
  exact setK_eq x (i + 1) t i fun t => K ⟨n, t⟩
def THpush (T : TH) (x : AObj) (K : TH → Bool) : Bool := match T with | ⟨n, t⟩ => setK x (Nat.succ n) t n fun t => natV (Nat.succ n) fun m => K ⟨m, t⟩
theorem THpush_eq (T : TH) (x : AObj) (K : TH → Bool) : THpush T x K = K (T.push x) := by
  obtain ⟨n, t⟩ := T
  simp only [THpush, setK_eq, natV_eq]
  rfl
def objK (x : AObj) (K : AObj → Bool) : Bool :=
  match x with
  | .row cs => spineK cs fun cs => K (.row cs)
  | .map es => spineK es fun es => K (.map es)
  | .tok a b => natV a fun a => K (.tok a b)
  | .siter s p => natV p fun p => K (.siter s p)
  | .gone => K .gone
theorem objK_eq (x : AObj) (K : AObj → Bool) : objK x K = K x := by cases x <;> simp only [objK, spineK_eq, natV_eq]

/-- Some cells written: those ahead of them are laid anew, those behind are shared. -/
def putK (n : Nat) : AV → List AV → (List AV → Bool) → Bool :=
  Nat.rec (motive := fun _ => AV → List AV → (List AV → Bool) → Bool) (fun v l K => List.rec (motive := fun _ => Bool) (K []) (fun _ t _ => K (v :: t)) l) (fun _ ih v l K => List.rec (motive := fun _ => Bool) (K []) (fun x t _ => apK (ih v t) fun r => apK K (x :: r)) l) n
theorem putK_eq : ∀ (n : Nat) (v : AV) (l : List AV) (K : List AV → Bool), putK n v l K = K (l.set n v)
  | 0, v, [], K => rfl
  | 0, v, x :: t, K => rfl
  | n + 1, v, [], K => rfl
  | n + 1, v, x :: t, K => by
    show putK n v t (fun r => K (x :: r)) = _
    rw [putK_eq n v t]; rfl
def cellsK (o : Nat) : List AV → List AV → (List AV → Bool) → Bool
  | [], cs, K => K cs
  | v :: r, cs, K => putK o v cs fun cs => cellsK (Nat.succ o) r cs K
theorem cellsK_eq : ∀ (o : Nat) (l cs : List AV) (K : List AV → Bool), cellsK o l cs K = K (setCells cs o l)
  | _, [], cs, K => rfl
  | o, v :: r, cs, K => by rw [cellsK, putK_eq, cellsK_eq (Nat.succ o) r]; rfl

/-- What an operation does to the memory. -/
inductive Eff where
  | wr (v : AV) (i : Nat) (cs : List AV) (o : Nat) (news : List AV)
  | keep (v : AV)
  | set (v : AV) (i : Nat) (x : AObj)
  | push (v : AV) (x : AObj)
  | gp (v : AV) (i : Nat) (x : AObj)
def Eff.app (T : TH) : Eff → AV × TH
  | .wr v i cs o news => (v, T.set i (.row (setCells cs o news)))
  | .keep v => (v, T)
  | .set v i x => (v, T.set i x)
  | .push v x => (v, T.push x)
  | .gp v i x => (v, (T.set i .gone).push x)
def DoE (T : TH) (r : Option Eff) (K : PostB) : Bool :=
  match r with
  | none => false
  | some e => (match e with
    | .wr v i cs o news => fv v fun v => spineK news fun news => cellsK o news cs fun cs => THset T i (.row cs) (K v)
    | .keep v => fv v fun v => K v T
    | .set v i x => fv v fun v => objK x fun x => THset T i x (K v)
    | .push v x => fv v fun v => objK x fun x => THpush T x (K v)
    | .gp v i x => fv v fun v => objK x fun x => THset T i .gone fun T => THpush T x (K v))
theorem DoE_eq (T : TH) (r : Option Eff) (K : PostB) : DoE T r K = DoHB (r.map (Eff.app T)) K := by
  cases r with
  | none => rfl
  | some e => cases e <;> simp only [DoE, fv_eq, objK_eq, THset_eq, THpush_eq, spineK_eq, cellsK_eq, Option.map_some, Eff.app, DoHB]

def storeE (T : TH) (n : Nat) (x v : AV) : Option Eff :=
  match x with
  | .ptr id o =>
    match T.t.get id with
    | .row cs => cond (and v.known (and (Nat.beq v.cells.length n) (and (v.cells.all AV.scalar) (leF (Nat.add o n) cs)))) (some (.wr (.tup []) id cs o v.cells)) none
    | _ => none
  | _ => none
theorem storeE_eq (T : TH) (n : Nat) (x v : AV) : (storeE T n x v).map (Eff.app T) = (tstore T n x v).map fun T => (.tup [], T) := by
  cases x with
  | ptr id o =>
    simp only [storeE, tstore]
    cases hc : T.t.get id with
    | row cs =>
      dsimp only
      rw [leF_eq, nb]
      by_cases h : v.known = true ∧ v.cells.length = n ∧ v.cells.all AV.scalar = true ∧ o + n ≤ cs.length
      · rw [if_pos h]
        have : (v.known && (decide (v.cells.length = n) && (v.cells.all AV.scalar && decide (Nat.add o n ≤ cs.length)))) = true := by
          simp only [h.1, h.2.1, h.2.2.1, decide_true, Bool.true_and, decide_eq_true_eq]; exact h.2.2.2
        rw [this]; rfl
      · rw [if_neg h]
        have : (v.known && (decide (v.cells.length = n) && (v.cells.all AV.scalar && decide (Nat.add o n ≤ cs.length)))) = false := by
          rw [Bool.eq_false_iff]; intro h2
          simp only [Bool.and_eq_true, decide_eq_true_eq] at h2
          exact h h2
        rw [this]; rfl
    | _ => rfl
  | _ => rfl

def boxE (T : TH) (mu : Bool) (cells : List AV) : Eff := cond mu (.push (.ptr T.n 0) (.row cells)) (.keep (.fptr cells))
theorem boxE_eq (T : TH) (mu : Bool) (cells : List AV) : (boxE T mu cells).app T = tbox T mu cells := by cases mu <;> rfl
def boxvE (T : TH) (mu : Bool) (n : Nat) (v : AV) : Option Eff := if v.known ∧ v.cells.length = n then some (boxE T mu v.cells) else none
theorem boxvE_eq (T : TH) (mu : Bool) (n : Nat) (v : AV) : (boxvE T mu n v).map (Eff.app T) = tboxv T mu n v := by
  unfold boxvE tboxv; split
  · exact congrArg some (boxE_eq _ _ _)
  · rfl
def bsliceE (T : TH) (mu : Bool) (sz len : Nat) (zero : List AV) (parts : List (Nat × Nat × AV)) : Option Eff :=
  match fillA (List.replicate len zero).flatten parts with
  | some cells => some (cond mu (.push (.row T.n 0 len sz) (.row cells)) (.keep (.lst .full len cells)))
  | none => none
theorem bsliceE_eq (T : TH) (mu : Bool) (sz len : Nat) (zero : List AV) (parts : List (Nat × Nat × AV)) : (bsliceE T mu sz len zero parts).map (Eff.app T) = tbslice T mu sz len zero parts := by
  unfold bsliceE tbslice
  cases fillA (List.replicate len zero).flatten parts with
  | none => rfl
  | some cells => cases mu <;> rfl
def appendE (T : TH) (mu : Bool) (sz bytes : Nat) (x y : AV) : Option Eff :=
  match acells T.ah sz y with
  | none => none
  | some (m, news) =>
    if ¬ news.all AV.scalar then none else
    match x with
    | .lst tk len cells =>
      if m = 0 then some (.keep (.lst tk len cells))
      else if ¬ (cells.length = len * sz ∧ (len + m) * bytes ≤ 140737488355328 ∧ len + m ≤ 9223372036854775807) then none
      else match tk, mu with
      | .nil, true | .full, true => some (.push (.row T.n 0 (len + m) sz) (.row (cells ++ news)))
      | .nil, false | .full, false => some (.push (.lst (.own T.n) (len + m) (cells ++ news)) (.tok ((len + m) * sz) sz))
      | .own t, _ => match T.t.get t with
        | .tok k sz' => if k = len * sz ∧ sz' = sz then some (.gp (.lst (.own T.n) (len + m) (cells ++ news)) t (.tok ((len + m) * sz) sz)) else none
        | _ => none
      | .dead, _ => none
    | .row id o len sz' =>
      match T.t.get id with
      | .row cs =>
        if m = 0 then some (.keep (.row id o len sz'))
        else if ¬ (o = 0 ∧ sz' = sz ∧ (len + m) * bytes ≤ 140737488355328 ∧ len + m ≤ 9223372036854775807) then none
        else if (len + m) * sz ≤ cs.length then some (.wr (.row id 0 (len + m) sz) id cs (len * sz) news)
        else if cs.length = len * sz then some (.gp (.row T.n 0 (len + m) sz) id (.row (cs ++ news)))
        else none
      | _ => none
    | _ => none
theorem appendE_eq (T : TH) (mu : Bool) (sz bytes : Nat) (x y : AV) : (appendE T mu sz bytes x y).map (Eff.app T) = tappend T mu sz bytes x y := by
  unfold appendE tappend
  cases acells T.ah sz y with
  | none => rfl
  | some p =>
    obtain ⟨m, news⟩ := p
    dsimp only
    split
    · rfl
    · cases x <;> try rfl
      · rename_i tk len cells
        dsimp only
        split
        · rfl
        · split
          · rfl
          · cases tk <;> cases mu <;> try rfl
            all_goals
              rename_i t
              dsimp only
              generalize T.t.get t = o
              cases o <;> try rfl
              dsimp only
              split <;> rfl
      · rename_i id o len sz'
        dsimp only
        generalize T.t.get id = o
        cases o <;> try rfl
        dsimp only
        split
        · rfl
        · split
          · rfl
          · split
            · rfl
            · split <;> rfl
def makeE (T : TH) (mu : Bool) (sz bytes : Nat) (zero : List AV) (len cap : AV) : Option Eff :=
  match len, cap with
  | .int .i64 n, .int .i64 c =>
    if 0 ≤ n ∧ n ≤ c ∧ bytes * c ≤ 281474976710656 ∧ c ≤ 9223372036854775807 ∧ zero.length = sz then
      if mu then some (.push (.row T.n 0 n.toNat sz) (.row (List.replicate c.toNat zero).flatten))
      else if n = c then some (.keep (.lst .full n.toNat (List.replicate n.toNat zero).flatten)) else none
    else none
  | _, _ => none
theorem makeE_eq (T : TH) (mu : Bool) (sz bytes : Nat) (zero : List AV) (len cap : AV) : (makeE T mu sz bytes zero len cap).map (Eff.app T) = tmake T mu sz bytes zero len cap := by
  unfold makeE tmake
  cases len <;> try rfl
  rename_i k n
  cases k <;> try rfl
  cases cap <;> try rfl
  rename_i k c
  cases k <;> try rfl
  dsimp only
  split
  · split
    · rfl
    · split <;> rfl
  · rfl
def copyE (T : TH) (sz : Nat) (x y : AV) : Option Eff :=
  match x, acells T.ah sz y with
  | .row id o len _, some (m, news) =>
    match T.t.get id with
    | .row cs =>
      let n := min m len
      if news.all AV.scalar ∧ o + n * sz ≤ cs.length then some (.wr (.int .i64 n) id cs o (news.take (n * sz))) else none
    | _ => none
  | _, _ => none
theorem copyE_eq (T : TH) (sz : Nat) (x y : AV) : (copyE T sz x y).map (Eff.app T) = tcopy T sz x y := by
  unfold copyE tcopy
  cases x <;> try rfl
  rename_i id o len z
  cases acells T.ah sz y with
  | none => rfl
  | some p =>
    obtain ⟨m, news⟩ := p
    dsimp only
    generalize T.t.get id = q
    cases q <;> try rfl
    dsimp only
    split <;> rfl
def mapupE (T : TH) (kk : FK) (m k v : AV) : Option Eff :=
  match m with
  | .map id =>
    match T.t.get id with
    | .map es => if plainKey kk k ∧ v.known then (match findA kk k es 0 with
        | some (some (i, _)) => some (.set (.tup []) id (.map (es.set i (k, v))))
        | some none => some (.set (.tup []) id (.map (es ++ [(k, v)])))
        | none => none) else none
    | _ => none
  | _ => none
theorem mapupE_eq (T : TH) (kk : FK) (m k v : AV) : (mapupE T kk m k v).map (Eff.app T) = (tmapup T kk m k v).map fun T => (.tup [], T) := by
  unfold mapupE tmapup
  cases m <;> try rfl
  rename_i id
  dsimp only
  generalize T.t.get id = q
  cases q <;> try rfl
  rename_i es
  dsimp only
  split
  · cases findA kk k es 0 with
    | none => rfl
    | some r =>
      cases r with
      | none => rfl
      | some p => rfl
  · rfl
def freezeE (T : TH) (x : AV) : Option Eff :=
  match x with
  | .row id o len sz =>
    match T.t.get id with
    | .row cs => if o + len * sz ≤ cs.length then some (.set (.lst .dead len ((cs.drop o).take (len * sz))) id .gone) else none
    | _ => none
  | .ptr id o =>
    match T.t.get id with
    | .row cs => some (.set (.fptr (cs.drop o)) id .gone)
    | _ => none
  | .lst tk len cells => some (.keep (.lst tk len cells))
  | .fptr cs => some (.keep (.fptr cs))
  | _ => none
theorem freezeE_eq (T : TH) (x : AV) : (freezeE T x).map (Eff.app T) = tfreeze T x := by
  unfold freezeE tfreeze
  cases x <;> try rfl
  · rename_i id o
    dsimp only
    generalize T.t.get id = q
    cases q <;> rfl
  · rename_i id o len sz
    dsimp only
    generalize T.t.get id = q
    cases q <;> try rfl
    dsimp only
    split <;> rfl

structure OpC where
  f : CallsB → EV → TH → PostB → Bool
structure SetC where
  f : EV → AV → (EV → Bool) → Bool
structure RegC where
  f : CallsB → EV → TH → (EV → TH → Bool) → Bool
structure CodC where
  f : CallsB → EV → TH → (EV → TH → Bool) → (AExit → EV → TH → Bool) → Bool
structure PutC where
  f : EV → List AV → (EV → Bool) → Bool
structure SamC where
  f : EV → TH → Bool → Bool
structure ResC where
  f : EV → TH → (List AV → Bool) → Bool
structure FnC where
  f : CallsB → List AV → TH → PostB → Bool

def ldC (agg : Bool) (x : Option AV) (K : AV → Bool) : Bool := cond agg (DoK x K) (DoR x K)
theorem ldC_eq (agg : Bool) (x : Option AV) (K : AV → Bool) : ldC agg x K = DoB x K := by cases agg <;> simp only [ldC, cond_true, cond_false, DoK_eq, DoR_eq]

/-- Elements' places: what is frozen is handed on as it is. -/
def iaddrK (arr : Option Nat) (sz : Nat) (x i : AV) (K : AV → Bool) : Bool :=
  match x with
  | .lst _ len cells => (match i with
    | .int _ n => (match n with
      | .ofNat m => (match arr with | none => cond (Nat.blt m len) (dropK (Nat.mul m sz) cells fun r => K (.fptr r)) false | some _ => DoK (iaddrF arr sz x i) K)
      | _ => DoK (iaddrF arr sz x i) K)
    | _ => DoK (iaddrF arr sz x i) K)
  | .fptr cells => (match i with
    | .int _ n => (match n with
      | .ofNat m => (match arr with | some l => cond (Nat.blt m l) (dropK (Nat.mul m sz) cells fun r => K (.fptr r)) false | none => DoK (iaddrF arr sz x i) K)
      | _ => DoK (iaddrF arr sz x i) K)
    | _ => DoK (iaddrF arr sz x i) K)
  | _ => DoK (iaddrF arr sz x i) K
theorem iaddrK_eq (arr : Option Nat) (sz : Nat) (x i : AV) (K : AV → Bool) : iaddrK arr sz x i K = DoB (aiaddr arr sz x i) K := by
  rw [← iaddrF_eq, ← DoK_eq]
  cases x <;> try rfl
  · rename_i cells
    cases i <;> try rfl
    rename_i k n
    cases n <;> try rfl
    rename_i m
    cases arr <;> try rfl
    rename_i l
    rw [DoK_eq]
    simp only [iaddrK, iaddrF, asNat, dropK_eq, dropF_eq]
    cases Nat.blt m l <;> rfl
  · rename_i tk len cells
    cases i <;> try rfl
    rename_i k n
    cases n <;> try rfl
    rename_i m
    cases arr <;> try rfl
    rw [DoK_eq]
    simp only [iaddrK, iaddrF, asNat, dropK_eq, dropF_eq]
    cases Nat.blt m len <;> rfl
def faddrK (off : Nat) (x : AV) (K : AV → Bool) : Bool :=
  match x with
  | .ptr i o => natV (Nat.add o off) fun o => K (.ptr i o)
  | .fptr cs => dropK off cs fun r => K (.fptr r)
  | _ => DoK (afaddr off x) K
theorem faddrK_eq (off : Nat) (x : AV) (K : AV → Bool) : faddrK off x K = DoB (afaddr off x) K := by
  unfold faddrK
  split
  · rw [natV_eq]; rfl
  · rw [dropK_eq]; rfl
  · exact DoK_eq _ _

def opC : AOp → OpC
  | .mv x => ⟨fun _ E T K => valK x E fun v => K v T⟩
  | .pick c a b => ⟨fun _ E T K => valK c E fun c => GdB c true (valK a E fun v => K v T) (valK b E fun v => K v T)⟩
  | .bin op x y => ⟨fun _ E T K => valK x E fun x => valK y E fun y => DoK ((binC op).f x y) fun v => K v T⟩
  | .beq neg x y => ⟨fun _ E T K => valK x E fun x => valK y E fun y => DoK (abeq neg x y) fun v => K v T⟩
  | .isnil k neg x => ⟨fun _ E T K => valK x E fun x => DoK (anil k neg x) fun v => K v T⟩
  | .eqagg neg ks x y => ⟨fun _ E T K => valK x E fun x => valK y E fun y => DoK (aeqAgg neg ks x y) fun v => K v T⟩
  | .un op x => ⟨fun _ E T K => valK x E fun x => DoK (aun op x) fun v => K v T⟩
  | .conv k x => ⟨fun _ E T K => valK x E fun x => DoK (convF k x) fun v => K v T⟩
  | .same x => ⟨fun _ E T K => valK x E fun x => DoR (asame x) fun v => K v T⟩
  | .nilck x => ⟨fun _ E T K => valK x E fun x => DoR (anilck x) fun v => K v T⟩
  | .field off sz agg x => ⟨fun _ E T K => valK x E fun x => ldC agg (fieldF off sz agg x) fun v => K v T⟩
  | .idx len sz agg x i => ⟨fun _ E T K => valK x E fun x => valK i E fun i => ldC agg (idxF len sz agg x i) fun v => K v T⟩
  | .idxs x i => ⟨fun _ E T K => valK x E fun x => valK i E fun i => DoK (idxsF x i) fun v => K v T⟩
  | .faddr off x => ⟨fun _ E T K => valK x E fun x => faddrK off x fun v => K v T⟩
  | .iaddr arr sz x i => ⟨fun _ E T K => valK x E fun x => valK i E fun i => iaddrK arr sz x i fun v => K v T⟩
  | .slice sz x lo hi mx => ⟨fun _ E T K => valK x E fun x => ovalK E lo fun lo => ovalK E hi fun hi => ovalK E mx fun mx => DoK (aslice sz x lo hi mx) fun v => K v T⟩
  | .sslice x lo hi => ⟨fun _ E T K => valK x E fun x => ovalK E lo fun lo => ovalK E hi fun hi => DoK (asslice x lo hi) fun v => K v T⟩
  | .mkif t x => ⟨fun _ E T K => valK x E fun v => K (.iface t v) T⟩
  | .mkfn key caps => ⟨fun _ E T K => valsK E caps fun vs => K (.fn key vs) T⟩
  | .extract i x => ⟨fun _ E T K => valK x E fun x => DoR (aextract i x) fun v => K v T⟩
  | .build zero parts => ⟨fun _ E T K => pvalsK E parts fun ps => DoK (abuild zero ps) fun v => K v T⟩
  | .len str x => ⟨fun _ E T K => valK x E fun x => DoK (alen str x) fun v => K v T⟩
  | .lenk n => ⟨fun _ E T K => K (.int .i64 n) T⟩
  | .cap x => ⟨fun _ E T K => valK x E fun x => DoK (acap x) fun v => K v T⟩
  | .minmax mx xs => ⟨fun _ E T K => valsK E xs fun vs => DoK (aminmax mx vs) fun v => K v T⟩
  | .load n agg x => ⟨fun _ E T K => valK x E fun x => ldC agg (loadF T n agg x) fun v => K v T⟩
  | .store n x v => ⟨fun _ E T K => valK x E fun x => valK v E fun v => DoE T (storeE T n x v) K⟩
  | .box mu n x => ⟨fun _ E T K => valK x E fun x => DoE T (boxvE T mu n x) K⟩
  | .alloc mu zero => ⟨fun _ E T K => DoE T (some (boxE T mu zero)) K⟩
  | .bslice mu sz len zero parts => ⟨fun _ E T K => pvalsK E parts fun ps => DoE T (bsliceE T mu sz len zero ps) K⟩
  | .append mu sz bytes x y => ⟨fun _ E T K => valK x E fun x => valK y E fun y => DoE T (appendE T mu sz bytes x y) K⟩
  | .make mu sz bytes zero len cap => ⟨fun _ E T K => valK len E fun l => valK cap E fun c => DoE T (makeE T mu sz bytes zero l c) K⟩
  | .copy sz x y => ⟨fun _ E T K => valK x E fun x => valK y E fun y => DoE T (copyE T sz x y) K⟩
  | .mkmap => ⟨fun _ E T K => DoE T (some (.push (.map T.n) (.map []))) K⟩
  | .lookup kk zero ok m k => ⟨fun _ E T K => valK m E fun m => valK k E fun k => DoK (alookup T.ah kk zero ok m k) fun v => K v T⟩
  | .mapup kk m k v => ⟨fun _ E T K => valK m E fun m => valK k E fun k => valK v E fun v => DoE T (mapupE T kk m k v) K⟩
  | .delete kk m k => ⟨fun _ E T K => DoB (tdelete T kk (m.val E) (k.val E)) fun T => K (.tup []) T⟩
  | .maplen m => ⟨fun _ E T K => valK m E fun m => DoK (amaplen T.ah m) fun v => K v T⟩
  | .sbytes x => ⟨fun _ E T K => valK x E fun x => DoK (asbytes x) fun v => K v T⟩
  | .bstr x => ⟨fun _ E T K => valK x E fun x => DoK (abstr T.ah x) fun v => K v T⟩
  | .srange x => ⟨fun _ E T K => DoHB (tsrange T (x.val E)) K⟩
  | .snext x => ⟨fun _ E T K => DoHB (tsnext T (x.val E)) K⟩
  | .call key args => ⟨fun B E T K => valsK E args fun vs => B key vs T K⟩
  | .callv f args => ⟨fun B E T K => valK f E fun f => valsK E args fun vs => clB B f vs T K⟩
  | .ext e xs => ⟨fun _ E T K => valsK E xs fun vs => DoHB (text T e vs) K⟩
  | .inv tbl x args => ⟨fun B E T K => valK x E fun x => valsK E args fun vs => invB B tbl x vs T K⟩

theorem mapB (x : Option TH) (K : PostB) : DoHB (x.map fun T => (.tup [], T)) K = DoB x fun T => K (.tup []) T := by cases x <;> rfl
theorem opC_eq (B : CallsB) (E : EV) (T : TH) (K : PostB) (op : AOp) : (opC op).f B E T K = opB B [] T K (op.sub E) := by
  cases op <;> simp only [opC, AOp.sub, opB, val_eq, vals_eq, pvals_eq, ovals_eq, valK_eq, valsK_eq, pvalsK_eq, ovalK_eq, DoK_eq, DoR_eq, ldC_eq, iaddrK_eq, faddrK_eq, binC_eq, convF_eq, fieldF_eq, idxF_eq, idxsF_eq, loadF_eq, DoE_eq, storeE_eq, boxvE_eq, bsliceE_eq, appendE_eq, makeE_eq, copyE_eq, mapupE_eq, mapB, Option.map_some, boxE_eq] <;> rfl

def setC (n : Nat) : Option Nat → SetC
  | none => ⟨fun E _ K => K E⟩
  | some d => cond (Nat.blt d n) ⟨fun E v K => K ((d, v) :: E)⟩ ⟨fun E _ K => K E⟩
theorem setC_eq (n : Nat) (d : Option Nat) (E : EV) (v : AV) (K : EV → Bool) : (setC n d).f E v K = K (esetd n E d v) := by
  cases d with
  | none => rfl
  | some d =>
    simp only [setC, esetd, eset]
    cases Nat.blt d n <;> rfl

def oneC (n : Nat) (o : AOper) : RegC :=
  match o.guard with
  | none => ⟨fun B E T K => (opC o.op).f B E T fun v T' => (setC n o.dst).f E v fun E => K E T'⟩
  | some (s, want) => ⟨fun B E T K => getK E s fun g =>
      Gd3B g want ((setC n (some s)).f E (.bool want) fun E => (opC o.op).f B E T fun v T' => (setC n o.dst).f E v fun E => K E T')
        ((setC n (some s)).f E (.bool !want) fun E => (setC n o.dst).f E (.tup []) fun E => K E T) ((setC n (some s)).f E (.tup []) fun E => (setC n o.dst).f E (.tup []) fun E => K E T)⟩
theorem oneC_eq (n : Nat) (o : AOper) (B : CallsB) (E : EV) (T : TH) (K : EV → TH → Bool) : (oneC n o).f B E T K = oneB B n o E T K := by
  unfold oneC oneB
  cases hg : o.guard with
  | none => simp only [opC_eq, setC_eq]
  | some g => simp only [opC_eq, setC_eq, esetd, getK_eq]

def regC (n : Nat) : List AOper → RegC
  | [] => ⟨fun _ E T K => K E T⟩
  | o :: r => ⟨fun B E T K => (oneC n o).f B E T fun E' T' => (regC n r).f B E' T' K⟩
theorem regC_eq (n : Nat) : ∀ (l : List AOper) (B : CallsB) (E : EV) (T : TH) (K : EV → TH → Bool), (regC n l).f B E T K = regB B n l E T K := by
  intro l
  induction l with
  | nil => intro B E T K; rfl
  | cons o r ih =>
    intro B E T K
    simp only [regC, oneC_eq, regB, oneB, ih]

def segC (n : Nat) (ops : List AOper) : List Nat → RegC
  | [] => ⟨fun _ E T K => K E T⟩
  | i :: r => match ops[i]? with
    | some o => ⟨fun B E T K => (oneC n o).f B E T fun E' T' => (segC n ops r).f B E' T' K⟩
    | none => ⟨fun _ _ _ _ => false⟩
theorem segC_eq (n : Nat) (ops : List AOper) : ∀ (l : List Nat) (B : CallsB) (E : EV) (T : TH) (K : EV → TH → Bool), (segC n ops l).f B E T K = segB B n ops l E T K := by
  intro l
  induction l with
  | nil => intro B E T K; rfl
  | cons i r ih =>
    intro B E T K
    simp only [segC, segB]
    cases ops[i]? with
    | none => rfl
    | some o => simp only [oneC_eq, ih]

def readC (o : AOper) : SamC :=
  match o.op with
  | .load n agg x => ⟨fun E T X => valK x E fun x => getK E (o.dst.getD 0) fun d => and (sameV (loadF T n agg x) d) X⟩
  | .lookup kk zero ok m k => ⟨fun E T X => and (sameV (alookup T.ah kk zero ok (m.val E) (k.val E)) (eget E (o.dst.getD 0))) X⟩
  | .maplen m => ⟨fun E T X => and (sameV (amaplen T.ah (m.val E)) (eget E (o.dst.getD 0))) X⟩
  | .bstr x => ⟨fun E T X => and (sameV (abstr T.ah (x.val E)) (eget E (o.dst.getD 0))) X⟩
  | _ => ⟨fun _ _ X => X⟩
theorem readC_eq (o : AOper) (E : EV) (T : TH) (X : Bool) : (readC o).f E T X = (readB T E o && X) := by
  unfold readC readB
  cases o.op <;> simp only [val_eq, Bool.true_and, valK_eq, getK_eq, loadF_eq] <;> rfl
def samC (ops : List AOper) : List Nat → SamC
  | [] => ⟨fun _ _ X => X⟩
  | l :: r => match ops[l]? with
    | some o => (match o.guard with
      | none => ⟨fun E T X => (readC o).f E T ((samC ops r).f E T X)⟩
      | some (s, want) => ⟨fun E T X => and (getK E s fun g => sameW g want ((readC o).f E T true)) ((samC ops r).f E T X)⟩)
    | none => ⟨fun E T X => (samC ops r).f E T X⟩
theorem samC_eq (ops : List AOper) : ∀ (l : List Nat) (E : EV) (T : TH) (X : Bool), (samC ops l).f E T X = samesT ops E T X l := by
  intro l
  induction l with
  | nil => intro E T X; rfl
  | cons i r ih =>
    intro E T X
    simp only [samC, samesT]
    cases ops[i]? with
    | none => simp only [ih, Bool.true_and]
    | some o =>
      simp only [sameGB]
      cases o.guard with
      | none => simp only [ih, readC_eq]
      | some g => simp only [ih, readC_eq, Bool.and_true, getK_eq]

def drawC (n : Nat) (ops : List AOper) (last : List Nat) : List (List Nat × Nat × List Nat) → RegC
  | [] => segC n ops last
  | (seg, e, st) :: r => match ops[e]? with
    | some o => ⟨fun B E T K => (segC n ops seg).f B E T fun E1 T1 => (oneC n o).f B E1 T1 fun E2 T2 => (samC ops st).f E1 T2 ((drawC n ops last r).f B E2 T2 K)⟩
    | none => ⟨fun B E T K => (segC n ops seg).f B E T fun _ _ => false⟩
theorem drawC_eq (n : Nat) (ops : List AOper) (last : List Nat) : ∀ (l : List (List Nat × Nat × List Nat)) (B : CallsB) (E : EV) (T : TH) (K : EV → TH → Bool), (drawC n ops last l).f B E T K = drawB B n ops last l E T K := by
  intro l
  induction l with
  | nil => intro B E T K; exact segC_eq _ _ _ _ _ _ _
  | cons p r ih =>
    obtain ⟨seg, e, st⟩ := p
    intro B E T K
    simp only [drawC, drawB]
    cases ops[e]? with
    | none => simp only [segC_eq]
    | some o => simp only [segC_eq, oneC_eq, samC_eq, ih]

def putC (n : Nat) : List Nat → PutC
  | [] => ⟨fun E _ K => K E⟩
  | t :: r => cond (Nat.blt t n) ⟨fun E s K => List.rec (motive := fun _ => Bool) ((putC n r).f ((t, .bot) :: E) [] K) (fun v q _ => (putC n r).f ((t, v) :: E) q K) s⟩ ⟨fun E s K => (putC n r).f E s.tail K⟩
theorem putC_eq (n : Nat) : ∀ (l : List Nat) (E : EV) (s : List AV) (K : EV → Bool), (putC n l).f E s K = K (eputs n E l s) := by
  intro l
  induction l with
  | nil => intro E s K; cases s <;> rfl
  | cons t r ih =>
    intro E s K
    simp only [putC, eputs, eset]
    cases Nat.blt t n with
    | true => cases s <;> simp only [cond_true, ih, List.headD_nil, List.headD_cons, List.tail_nil, List.tail_cons]
    | false => simp only [cond_false, ih]
def getsK (E : EV) : List Nat → (List AV → Bool) → Bool
  | [], K => K []
  | t :: r, K => getK E t fun v => getsK E r fun vs => K (v :: vs)
theorem getsK_eq (E : EV) : ∀ (l : List Nat) (K : List AV → Bool), getsK E l K = K (egets E l)
  | [], K => rfl
  | t :: r, K => by rw [getsK, getK_eq, getsK_eq E r]; rfl
/-- The slots that are not forgotten. -/
def keepE (ks : List Nat) : EV → EV
  | [] => []
  | (t, v) :: E => cond (memN t ks) (keepE ks E) ((t, v) :: keepE ks E)
def keepK (ks : List Nat) (E : EV) : (EV → Bool) → Bool := List.rec (motive := fun _ => (EV → Bool) → Bool) (fun K => K []) (fun p _ ih K => Prod.rec (motive := fun _ => Bool) (fun t v => cond (memN t ks) (ih K) (ih fun E => K ((t, v) :: E))) p) E
theorem keepK_eq (ks : List Nat) : ∀ (E : EV) (K : EV → Bool), keepK ks E K = K (keepE ks E)
  | [], K => rfl
  | (t, v) :: E, K => by
    show cond (memN t ks) (keepK ks E K) (keepK ks E fun E => K ((t, v) :: E)) = _
    rw [keepK_eq ks E, keepK_eq ks E, keepE]
    cases memN t ks <;> rfl
theorem memN_iff : ∀ (t : Nat) (l : List Nat), memN t l = decide (t ∈ l)
  | t, [] => rfl
  | t, s :: r => by
    rw [memN, nb, memN_iff t r]
    by_cases h : t = s
    · simp [h]
    · simp [h]
theorem keepE_get (ks : List Nat) : ∀ (E : EV) (i : Nat), eget (keepE ks E) i = if i ∈ ks then .bot else eget E i
  | [], i => by simp [keepE, eget]
  | (t, v) :: E, i => by
    rw [keepE, memN_iff, eget_cons]
    by_cases h : t ∈ ks
    · simp only [h, decide_true, cond_true, keepE_get ks E i]
      by_cases hi : i ∈ ks
      · rw [if_pos hi, if_pos hi]
      · rw [if_neg hi, if_neg hi, if_neg (show ¬ t = i from fun e => hi (e ▸ h))]
    · simp only [h, decide_false, cond_false, eget_cons, keepE_get ks E i]
      by_cases e : t = i
      · subst e; rw [if_pos rfl, if_neg h, if_pos rfl]
      · rw [if_neg e, if_neg e]
theorem killsI_get : ∀ (ks : List Nat) (env : Env) (i : Nat), (Rb.kills env ks).getD i .bot = if i ∈ ks then .bot else env.getD i .bot
  | [], env, i => by simp [Rb.kills]
  | t :: r, env, i => by
    rw [Rb.kills, killsI_get r]
    by_cases hr : i ∈ r
    · rw [if_pos hr, if_pos (List.mem_cons_of_mem _ hr)]
    · rw [if_neg hr]
      by_cases e : t = i
      · subst e
        rw [if_pos List.mem_cons_self, List.getD_eq_getElem?_getD, List.getElem?_set]
        simp only [if_true]
        split <;> rfl
      · rw [if_neg (by simp only [List.mem_cons, not_or]; exact ⟨fun h => e h.symm, hr⟩), List.getD_eq_getElem?_getD, List.getElem?_set_ne e, ← List.getD_eq_getElem?_getD]
theorem killsI_length : ∀ (ks : List Nat) (env : Env), (Rb.kills env ks).length = env.length
  | [], env => rfl
  | t :: r, env => by rw [Rb.kills, killsI_length r]; simp
theorem Agree.keep {n : Nat} {E : EV} {env : Env} (h : Agree n E env) (ks : List Nat) : Agree n (keepE ks E) (Rb.kills env ks) :=
  ⟨by rw [killsI_length]; exact h.1, fun i => by rw [keepE_get, killsI_get, h.2 i]⟩

def blockX (id : Nat) (N : EV → TH → Bool) (X : AExit → EV → TH → Bool) : AExit → EV → TH → Bool
  | .exit id', E, T => cond (Nat.beq id' id) (N E T) (X (.exit id') E T)
  | e, E, T => X e E T

def LoopC (F : List AV → TH → (List AV → TH → Bool) → Bool) (n : Nat) : List AV → TH → Bool := Nat.rec (motive := fun _ => List AV → TH → Bool) (fun _ _ => false) (fun _ ih s T => F s T ih) n

def codeC (fuel n : Nat) : ACode → CodC
  | .skip => ⟨fun _ E T N _ => N E T⟩
  | .region ops => ⟨fun B E T N _ => (regC n ops).f B E T N⟩
  | .draw ops _ plan last => ⟨fun B E T N _ => (drawC n ops last plan).f B E T N⟩
  | .seq a b => ⟨fun B E T N X => (codeC fuel n a).f B E T (fun E T => (codeC fuel n b).f B E T N X) X⟩
  | .cond x a b => ⟨fun B E T N X => valK x E fun x => GdB x true ((codeC fuel n a).f B E T N X) ((codeC fuel n b).f B E T N X)⟩
  | .block id a => ⟨fun B E T N X => (codeC fuel n a).f B E T N (blockX id N X)⟩
  | .loop vs ks a => ⟨fun B E T N X => keepK ks E fun E0 => getsK E vs fun s => LoopC (fun s T K => (putC n vs).f E0 s fun E => (codeC fuel n a).f B E T (fun E' T' => getsK E' vs fun s => K s T') X) fuel s T⟩
  | .exit id => ⟨fun _ E T _ X => X (.exit id) E T⟩
  | .ret => ⟨fun _ E T _ X => X .ret E T⟩
  | .freeze t a => ⟨fun B E T N X => getK E t fun v => DoE T (freezeE T v) fun v T' => (setC n (some t)).f E v fun E => (codeC fuel n a).f B E T' N X⟩
  | .join vs ks a b => ⟨fun _ _ _ _ _ => false⟩
  | .rjoin vs ks ops b => ⟨fun _ _ _ _ _ => false⟩

theorem codeC_sound {Φ : Calls'} {B : CallsB} (hB : SoundB Φ B) (hΦ : Mono Φ) (fuel n : Nat) : ∀ (c : ACode) {E : EV} {env : Env} {T : TH} {N : EV → TH → Bool} {X : AExit → EV → TH → Bool} {Q : AExit → Env → AH → Prop}, Agree n E env → (codeC fuel n c).f B E T N X = true →
    (∀ E' env' T', Agree n E' env' → N E' T' = true → Q .normal env' T'.ah) → (∀ x E' env' T', x ≠ .normal → Agree n E' env' → X x E' T' = true → Q x env' T'.ah) → codeSem Φ c env T.ah Q := by
  have reg : ∀ (l : List AOper) {E : EV} {env : Env} {T : TH} {N : EV → TH → Bool} {Q : Env → AH → Prop}, Agree n E env → (regC n l).f B E T N = true → (∀ E' env' T', Agree n E' env' → N E' T' = true → Q env' T'.ah) → regSem Φ l env T.ah Q := by
    intro l E env T N Q ha h hN
    rw [regC_eq] at h
    refine regE_sound hΦ ha (regB_sound (Q := fun E' H' => ∃ T', H' = T'.ah ∧ N E' T' = true) hB h fun e T' h => ⟨T', rfl, h⟩) fun E' env' H' ha' h' => ?_
    obtain ⟨T', rfl, h'⟩ := h'
    exact hN _ _ _ ha' h'
  intro c
  induction c with
  | skip => intro E env T N X Q ha h hN hX; exact hN _ _ _ ha h
  | region ops => intro E env T N X Q ha h hN hX; exact reg ops ha h hN
  | draw ops pr plan last =>
    intro E env T N X Q ha h hN hX
    simp only [codeC, drawC_eq] at h
    refine drawE_sound hΦ ha (drawB_sound (Q := fun E' H' => ∃ T', H' = T'.ah ∧ N E' T' = true) hB h fun e T' h => ⟨T', rfl, h⟩) fun E' env' H' ha' h' => ?_
    obtain ⟨T', rfl, h'⟩ := h'
    exact hN _ _ _ ha' h'
  | seq a b iha ihb =>
    intro E env T N X Q ha h hN hX
    simp only [codeC] at h
    simp only [codeSem]
    refine iha ha h (fun E' env' T' ha' h' => ihb ha' h' hN hX) fun x E' env' T' hx ha' h' => ?_
    cases x with
    | normal => exact absurd rfl hx
    | exit i => exact hX _ _ _ _ hx ha' h'
    | ret => exact hX _ _ _ _ hx ha' h'
  | join vs ks a b iha ihb => intro E env T N X Q ha h hN hX; cases h
  | cond x a b iha ihb =>
    intro E env T N X Q ha h hN hX
    simp only [codeC, valK_eq] at h
    rw [← val_eq, sub_ev ha] at h
    exact GdB_sound h (fun h => iha ha h hN hX) fun h => ihb ha h hN hX
  | block id a ih =>
    intro E env T N X Q ha h hN hX
    simp only [codeC] at h
    simp only [codeSem]
    refine ih ha h hN fun x E' env' T' hx ha' h' => ?_
    cases x with
    | normal => exact absurd rfl hx
    | exit i =>
      simp only [blockX, nb] at h'
      dsimp only
      by_cases hi : i = id
      · rw [if_pos hi]; simp only [hi, decide_true, cond_true] at h'; exact hN _ _ _ ha' h'
      · rw [if_neg hi]; simp only [hi, decide_false, cond_false] at h'; exact hX _ _ _ _ hx ha' h'
    | ret => exact hX _ _ _ _ hx ha' h'
  | loop vs ks a ih =>
    intro E env T N X Q ha h hN hX
    simp only [codeC, keepK_eq, getsK_eq, putC_eq] at h
    simp only [codeSem]
    have main : ∀ (m : Nat) (s : List AV) (T : TH), LoopC (fun s T K => (codeC fuel n a).f B (eputs n (keepE ks E) vs s) T (fun E' T' => K (egets E' vs) T') X) m s T = true →
        LoopP (fun (s : List AV × AH) (K : List AV × AH → Prop) =>
          codeSem Φ a (puts (kills env ks) vs s.1) s.2 fun e env' H' => match e with
            | .normal => K (gets env' vs, H')
            | e => Q e env' H') (s, T.ah) := by
      intro m
      induction m with
      | zero => intro s T h; cases h
      | succ m ihm =>
        intro s T h
        refine LoopP.step ?_
        refine ih ((ha.keep ks).puts vs s) h (fun E' env' T' ha' h' => ?_) fun x E' env' T' hx ha' h' => ?_
        · dsimp only
          rw [← ha'.gets vs]
          exact ihm _ _ h'
        · cases x with
          | normal => exact absurd rfl hx
          | exit i => exact hX _ _ _ _ hx ha' h'
          | ret => exact hX _ _ _ _ hx ha' h'
    rw [← ha.gets vs]
    exact main fuel _ _ h
  | exit id => intro E env T N X Q ha h hN hX; exact hX _ _ _ _ (by intro h; cases h) ha h
  | ret => intro E env T N X Q ha h hN hX; exact hX _ _ _ _ (by intro h; cases h) ha h
  | freeze t a ih =>
    intro E env T N X Q ha h hN hX
    simp only [codeC, getK_eq, DoE_eq, freezeE_eq, setC_eq, esetd] at h
    simp only [codeSem]
    rw [ha.2 t] at h
    exact DoHB_sound (tfreeze_ah _ _) h fun v T' h' => ih (ha.set t v) h' hN hX
  | rjoin vs ks ops b ih => intro E env T N X Q ha h hN hX; cases h

def resC : List ARes → ResC
  | [] => ⟨fun _ _ K => K []⟩
  | .tmp t :: r => ⟨fun E T K => getK E t fun v => (resC r).f E T fun vs => K (v :: vs)⟩
  | .cell t n agg :: r => ⟨fun E T K => getK E t fun x => ldC agg (loadF T n agg x) fun v => (resC r).f E T fun vs => K (v :: vs)⟩
theorem resC_eq : ∀ (rs : List ARes) (E : EV) (T : TH) (K : List AV → Bool), (resC rs).f E T K = resB E T rs K := by
  intro rs
  induction rs with
  | nil => intros; rfl
  | cons r rs ih => intro E T K; cases r <;> simp only [resC, resB, ih, getK_eq, ldC_eq, loadF_eq]

/-- One result, or more. -/
def oneK (vs : List AV) (Q : PostB) (T : TH) : Bool :=
  match vs with
  | [v] => Q v T
  | vs => Q (.tup vs) T
theorem oneK_eq (vs : List AV) (Q : PostB) (T : TH) : oneK vs Q T = Q (oneRes vs) T := by
  cases vs with
  | nil => rfl
  | cons v r => cases r <;> rfl

def retX (rs : List ARes) (Q : PostB) : AExit → EV → TH → Bool
  | .exit _, _, _ => false
  | _, E, T => (resC rs).f E T fun vs => oneK vs Q T

def initK : List AV → Nat → (EV → Bool) → Bool
  | [], _, K => K []
  | a :: r, i, K => initK r (Nat.succ i) fun E => K ((i, a) :: E)
theorem initK_eq : ∀ (l : List AV) (i : Nat) (K : EV → Bool), initK l i K = K (einit l i)
  | [], _, _ => rfl
  | a :: r, i, K => by rw [initK, initK_eq r]; rfl

def fnC (fuel : Nat) (f : AFunc) : FnC :=
  ⟨fun B args T Q => and (Nat.ble args.length f.ntmps) (initK args 0 fun E => (codeC fuel f.ntmps f.body).f B E T (fun E T => (resC f.results).f E T fun vs => oneK vs Q T) (retX f.results Q))⟩
theorem fnC_sound {Φ : Calls'} {B : CallsB} (hB : SoundB Φ B) (hΦ : Mono Φ) {fuel : Nat} {f : AFunc} {args : List AV} {T : TH} {K : PostB} (h : (fnC fuel f).f B args T K = true) {Q : Post} (hK : ∀ v T', K v T' = true → Q v T'.ah) : fnSem Φ f args T.ah Q := by
  simp only [fnC, Bool.and_eq_true, initK_eq] at h
  have hle := Nat.le_of_ble_eq_true h.1
  have ha : Agree f.ntmps (einit args 0) (args ++ List.replicate (f.ntmps - args.length) .bot) := by
    refine ⟨by simp; omega, fun i => ?_⟩
    rw [einit_get]
    simp only [Nat.not_lt_zero, if_false, Nat.sub_zero]
    simp only [List.getD_eq_getElem?_getD]
    by_cases hi : i < args.length
    · rw [List.getElem?_append_left hi]
    · rw [List.getElem?_append_right (by omega), List.getElem?_eq_none (by omega), List.getElem?_replicate]
      split <;> rfl
  have fin : ∀ (E' : EV) (env' : Env) (T' : TH), Agree f.ntmps E' env' → (resC f.results).f E' T' (fun vs => oneK vs K T') = true → resSem env' T'.ah f.results fun vs => Q (oneRes vs) T'.ah := by
    intro E' env' T' ha' h'
    rw [resC_eq] at h'
    rw [← resE_eq ha']
    exact resB_sound h' fun vs h => hK _ _ (by rwa [oneK_eq] at h)
  refine codeC_sound hB hΦ fuel _ f.body ha h.2 (fun E' env' T' ha' h' => fin E' env' T' ha' h') fun x E' env' T' hx ha' h' => ?_
  cases x with
  | normal => exact absurd rfl hx
  | exit i => cases h'
  | ret => exact fin E' env' T' ha' h'

/-- The functions of a table, made once. -/
def dispI (tab : Nat → Option FnC) (B : CallsB) : CallsB := fun k args T Q => match tab k with
  | some c => c.f B args T Q
  | none => false

def tabH (C : Ctx) (fuel : Nat) : List Hint → Nat → Option FnC
  | [], _ => none
  | h :: r, k => cond (Nat.beq h.fid k) (some (fnC fuel (decF C h))) (tabH C fuel r k)

theorem tabH_mem {C : Ctx} {fuel : Nat} : ∀ {L : List Hint} {k : Nat} {c : FnC}, tabH C fuel L k = some c → ∃ h, h ∈ L ∧ h.fid = k ∧ c = fnC fuel (decF C h)
  | [], _, _, h => by cases h
  | p :: r, k, c, h => by
    unfold tabH at h
    cases hb : Nat.beq p.fid k with
    | true =>
      rw [hb] at h
      simp only [cond_true, Option.some.injEq] at h
      exact ⟨p, List.mem_cons_self, Nat.eq_of_beq_eq_true hb, h.symm⟩
    | false =>
      rw [hb] at h
      obtain ⟨f, hf, hc⟩ := tabH_mem (L := r) h
      exact ⟨f, List.mem_cons_of_mem _ hf, hc⟩

theorem dispI_ok {P : Program} {GT : Nat → Option (List AV)} {L : List Hint} (hL : chkH (idC P GT) L = true) (fuel : Nat) : DispOK (ACall (idC P GT)) (dispI (tabH (idC P GT) fuel L)) := by
  intro B hB k args T K h Q hQ
  unfold dispI at h
  split at h
  · rename_i c hc
    obtain ⟨hi, hm, hk, rfl⟩ := tabH_mem hc
    have hs : fnSem (ACall (idC P GT)) (decF (idC P GT) hi) args T.ah Q := fnC_sound hB (ACall_mono _) h hQ
    intro f hf G w Vs hG hrel hargs
    have hfk : f = k := by
      simp only [idC] at hf
      cases hg : goodFn P k with
      | true => rw [hg] at hf; simpa using hf.symm
      | false => rw [hg] at hf; cases hf
    subst hfk
    exact fn_sound (idC_fok P GT) (by rw [← hk]; exact chkH_mem hL _ hm) hs hG hrel hargs
  · cases h
end
end Rb

/- Known calls, found by runs; closed runs. -/
set_option linter.unusedVariables false
namespace Rb
open Go
noncomputable section

/-- Reckoned as what is asked for, not as one side of an equation. -/
def forced (b : Bool) : Bool := Bool.rec (motive := fun _ => Bool) false true b
theorem forced_eq (b : Bool) : forced b = b := by cases b <;> rfl
theorem of_forced {b : Bool} (h : forced b = true) : b = true := by rwa [forced_eq] at h

def memL : List (Nat × List AV × AV) → Memo
  | [], _, _ => none
  | e :: r, k, args => cond (Nat.beq e.1 k) (cond (AV.sames e.2.1 args) (some e.2.2) (memL r k args)) (memL r k args)

/-- An entry, run. -/
def entry (B : CallsB) (e : Nat × List AV × AV) : Bool := and (AV.frozs e.2.1) (and e.2.2.froz (B e.1 e.2.1 TH.mt (fun u _ => u.same e.2.2)))

theorem memL_nil {Φ : Calls'} : MemoOK Φ (memL []) := fun _ _ _ h => by cases h
theorem memL_cons {C : Ctx} (hGT : GTok C) {B : CallsB} (hB : SoundB (ACall C) B) {e : Nat × List AV × AV} {L : List (Nat × List AV × AV)} (h : entry B e = true) (hL : MemoOK (ACall C) (memL L)) : MemoOK (ACall C) (memL (e :: L)) := by
  obtain ⟨k0, a0, v0⟩ := e
  simp only [entry, Bool.and_eq_true] at h
  obtain ⟨h1, h2, h3⟩ := h
  intro k args v hm H Q hQ
  unfold memL at hm
  dsimp only at hm
  cases hb : Nat.beq k0 k with
  | false => rw [hb] at hm; exact hL k args v hm H Q hQ
  | true =>
    rw [hb] at hm
    obtain rfl := Nat.eq_of_beq_eq_true hb
    cases hs : AV.sames a0 args with
    | false => rw [hs] at hm; exact hL k0 args v hm H Q hQ
    | true =>
      rw [hs] at hm
      simp only [cond_true, Option.some.injEq] at hm
      subst hm
      obtain rfl := AV.sames_sound _ _ hs
      exact run_any hGT hB h1 h2 h3 H Q hQ
theorem memL_app {C : Ctx} (hGT : GTok C) {B : CallsB} (hB : SoundB (ACall C) B) {L : List (Nat × List AV × AV)} (hL : MemoOK (ACall C) (memL L)) : ∀ {N : List (Nat × List AV × AV)}, N.all (entry B) = true → MemoOK (ACall C) (memL (N ++ L))
  | [], _ => hL
  | e :: N, h => by
    simp only [List.all_cons, Bool.and_eq_true] at h
    exact memL_cons hGT hB h.1 (memL_app hGT hB hL h.2)

/-- What is known, as a table of functions' runs. -/
def runI (fn : Nat → Option FnC) (L : List (Nat × List AV × AV)) : CallsB := runM (memL L) (dispI fn) 100
theorem runI_ok {C : Ctx} {fn : Nat → Option FnC} (hd : DispOK (ACall C) (dispI fn)) {L : List (Nat × List AV × AV)} (hL : MemoOK (ACall C) (memL L)) : SoundB (ACall C) (runI fn L) := runM_sound hL hd 100

theorem run_yes {C : Ctx} {B : CallsB} (hB : SoundB (ACall C) B) {k : Nat} {args : List AV} (h : B k args TH.mt (fun u _ => u.same (.bool true)) = true) : ACall C k args AH.mt (fun v _ => v = .bool true) := by
  have := hB k args TH.mt _ h (fun v _ => v = .bool true) (fun v T' h => AV.same_sound _ _ h)
  rwa [TH.ah_mt] at this
end
end Rb

/- Values told more weakly: which slice may still grow is forgotten. -/
set_option linter.unusedVariables false
set_option linter.unusedSimpArgs false
namespace Rb
open Go
mutual
def AV.weak : AV → AV
  | .fptr cs => .fptr (AV.weaks cs)
  | .lst _ len cs => .lst .dead len (AV.weaks cs)
  | .fn k cs => .fn k (AV.weaks cs)
  | .iface t v => .iface t (AV.weak v)
  | .agg cs => .agg (AV.weaks cs)
  | .tup cs => .tup (AV.weaks cs)
  | v => v
def AV.weaks : List AV → List AV
  | [] => []
  | c :: r => AV.weak c :: AV.weaks r
end
theorem weaks_map : ∀ cs : List AV, AV.weaks cs = cs.map AV.weak
  | [] => rfl
  | c :: r => by rw [AV.weaks, weaks_map r]; rfl
theorem weaks_get {cs : List AV} {j : Nat} {c : AV} (h : (AV.weaks cs)[j]? = some c) : ∃ d, cs[j]? = some d ∧ c = d.weak := by
  rw [weaks_map, List.getElem?_map] at h
  cases hc : cs[j]? with
  | none => rw [hc] at h; cases h
  | some d => rw [hc] at h; simp at h; exact ⟨d, rfl, h.symm⟩
theorem weaks_len (cs : List AV) : (AV.weaks cs).length = cs.length := by rw [weaks_map, List.length_map]

theorem VR.weak {F : FTab} {w : World} {G : Ghost} {c : AV} {V : Value} (h : VR F w G c V) : VR F w G c.weak V := by
  induction h with
  | bot V => exact .bot V
  | bool b => exact .bool b
  | int k n => exact .int k n
  | str s => exact .str s
  | nilp => exact .nilp
  | ptr id off h => exact .ptr id off h
  | fptr cells b o Vs h _ ih =>
    refine .fptr _ b o Vs (fun j c hj => ?_) fun j c hj => ?_
    · obtain ⟨d, hd, rfl⟩ := weaks_get hj; exact h j d hd
    · obtain ⟨d, hd, rfl⟩ := weaks_get hj; exact ih j d hd
  | lstnil => exact .lst0 none 0
  | lst0 a cap => exact .lst0 a cap
  | lst tk len cells b o cap Vs ht hle h _ ih =>
    refine .lst .dead len _ b o cap Vs trivial hle (fun j c hj => ?_) fun j c hj => ?_
    · obtain ⟨d, hd, rfl⟩ := weaks_get hj; exact h j d hd
    · obtain ⟨d, hd, rfl⟩ := weaks_get hj; exact ih j d hd
  | row id off len sz cap h hle hc => exact .row id off len sz cap h hle hc
  | map id h => exact .map id h
  | nilmap => exact .nilmap
  | fn key caps f Vs hf hl _ ih =>
    refine .fn key _ f Vs hf (by rw [weaks_len]; exact hl) fun j c V hc hV => ?_
    obtain ⟨d, hd, rfl⟩ := weaks_get hc; exact ih j d V hd hV
  | nilfn => exact .nilfn
  | iface t v V _ ih => exact .iface t _ V ih
  | nilif => exact .nilif
  | agg cs Vs hl _ ih =>
    refine .agg _ Vs (by rw [weaks_len]; exact hl) fun j c V hc hV => ?_
    obtain ⟨d, hd, rfl⟩ := weaks_get hc; exact ih j d V hd hV
  | tup cs Vs hl _ ih =>
    refine .tup _ Vs (by rw [weaks_len]; exact hl) fun j c V hc hV => ?_
    obtain ⟨d, hd, rfl⟩ := weaks_get hc; exact ih j d V hd hV

/-- A result may be told more weakly. -/
theorem ACall.weak {C : Ctx} {key : Nat} {args : List AV} {H : AH} {Q : Post} (h : ACall C key args H (fun v H' => Q v.weak H')) : ACall C key args H Q := by
  intro f hf G w Vs hG hrel hargs
  refine Calls.mono (h f hf G w Vs hG hrel hargs) fun e w' he => ?_
  obtain ⟨V, v, H', G', e1, hQ, hv, r⟩ := he
  exact ⟨V, v.weak, H', G', e1, hQ, hv.weak, r⟩

/-- What holds of arguments told weakly holds of them told strongly. -/
theorem ACall.weak_args {C : Ctx} {key : Nat} {args : List AV} {H : AH} {Q : Post} (h : ACall C key (AV.weaks args) H Q) : ACall C key args H Q := by
  intro f hf G w Vs hG hrel hargs
  refine h f hf G w Vs hG hrel ⟨by rw [weaks_len]; exact hargs.1, fun j c V hc hV => ?_⟩
  obtain ⟨d, hd, rfl⟩ := weaks_get hc
  exact (hargs.2 j d V hd hV).weak
end Rb

/- Known calls, found by function first; results and arguments told weakly. -/
set_option linter.unusedVariables false
namespace Rb
open Go
noncomputable section

def lookA : List (List AV × AV) → List AV → Option AV
  | [], _ => none
  | e :: r, a => cond (AV.sames e.1 a) (some e.2) (lookA r a)
def grp (k : Nat) : List (Nat × List AV × AV) → List (List AV × AV)
  | [] => []
  | e :: r => cond (Nat.beq e.1 k) ((e.2.1, e.2.2) :: grp k r) (grp k r)
theorem look_grp (k : Nat) (args : List AV) : ∀ L : List (Nat × List AV × AV), lookA (grp k L) args = memL L k args
  | [] => rfl
  | e :: r => by
    have ih := look_grp k args r
    unfold grp memL
    cases Nat.beq e.1 k with
    | false => exact ih
    | true =>
      simp only [cond_true, lookA]
      cases AV.sames e.2.1 args with
      | false => exact ih
      | true => rfl
def memG (L : List (Nat × List AV × AV)) : Memo := fun k args => match grp k L with
  | [] => none
  | l => lookA l (AV.weaks args)
theorem memG_ok {C : Ctx} {L : List (Nat × List AV × AV)} (h : MemoOK (ACall C) (memL L)) : MemoOK (ACall C) (memG L) := by
  intro k args v hm H Q hQ
  have : lookA (grp k L) (AV.weaks args) = some v := by
    unfold memG at hm
    split at hm
    · cases hm
    · exact hm
  rw [look_grp] at this
  exact ACall.weak_args (h k _ v this H Q hQ)

theorem run_anyW {C : Ctx} (hGT : GTok C) {B : CallsB} (hB : SoundB (ACall C) B) {k : Nat} {args : List AV} {v : AV} (ha : AV.frozs args = true) (hv : v.froz = true) (h : B k args TH.mt (fun u _ => u.weak.same v) = true) (H : AH) (Q : Post) (hQ : Q v H) : ACall C k args H Q :=
  ACall.frame2 hGT (ACall.weak (Q := fun u _ => u.same v = true) (run_closed hB (K := fun u => u.weak.same v) h)) ha H Q fun u _ hu => by rw [AV.same_sound _ _ hu]; exact ⟨hv, hQ⟩

/-- An entry, run; its result may be told more weakly. -/
def entryW (B : CallsB) (e : Nat × List AV × AV) : Bool := and (AV.frozs e.2.1) (and e.2.2.froz (B e.1 e.2.1 TH.mt (fun u _ => u.weak.same e.2.2)))
def allW (B : CallsB) : List (Nat × List AV × AV) → Bool
  | [] => true
  | e :: r => and (entryW B e) (allW B r)
theorem memL_consW {C : Ctx} (hGT : GTok C) {B : CallsB} (hB : SoundB (ACall C) B) {e : Nat × List AV × AV} {L : List (Nat × List AV × AV)} (h : entryW B e = true) (hL : MemoOK (ACall C) (memL L)) : MemoOK (ACall C) (memL (e :: L)) := by
  obtain ⟨k0, a0, v0⟩ := e
  simp only [entryW, Bool.and_eq_true] at h
  obtain ⟨h1, h2, h3⟩ := h
  intro k args v hm H Q hQ
  unfold memL at hm
  dsimp only at hm
  cases hb : Nat.beq k0 k with
  | false => rw [hb] at hm; exact hL k args v hm H Q hQ
  | true =>
    rw [hb] at hm
    obtain rfl := Nat.eq_of_beq_eq_true hb
    cases hs : AV.sames a0 args with
    | false => rw [hs] at hm; exact hL k0 args v hm H Q hQ
    | true =>
      rw [hs] at hm
      simp only [cond_true, Option.some.injEq] at hm
      subst hm
      obtain rfl := AV.sames_sound _ _ hs
      exact run_anyW hGT hB h1 h2 h3 H Q hQ
theorem memL_appW {C : Ctx} (hGT : GTok C) {B : CallsB} (hB : SoundB (ACall C) B) {L : List (Nat × List AV × AV)} (hL : MemoOK (ACall C) (memL L)) : ∀ {N : List (Nat × List AV × AV)}, allW B N = true → MemoOK (ACall C) (memL (N ++ L))
  | [], _ => hL
  | e :: N, h => by
    simp only [allW, Bool.and_eq_true] at h
    exact memL_consW hGT hB h.1 (memL_appW hGT hB hL h.2)
end
end Rb

/- The seat's functions: what a text of them needs that the program does not say. By hints.py. -/
set_option linter.unusedVariables false
namespace Go.Proofs.YtolodaoffkbefaaDoor.rb
open Rb
noncomputable def gt (g : Nat) : Option (List AV) := if g = 0 then some asciiSpace else if g = 2 then some [.iface 146 (.fptr [])] else if g = 3 then some [.iface 146 (.fptr [])] else none
noncomputable def C : Ctx := idC Tryd.prog gt
noncomputable def hs0 : List Hint := [
  ⟨3,[4,8,9,10,11,12,13],[[5,6,7]],none,[]⟩,
  ⟨4,[8,9,10,11],[[6,7],[12],[13]],none,[]⟩,
  ⟨5,[3],[[4,5,6]],none,[]⟩,
  ⟨6,[1,2,3,4,5,6],[],none,[]⟩,
  ⟨7,[2,3,5,6,7],[[],[]],none,[]⟩,
  ⟨8,[],[[6],[6]],none,[]⟩,
  ⟨9,[2,3,5,6,7],[],none,[]⟩,
  ⟨10,[3,5,37],[],none,[]⟩,
  ⟨11,[],[],none,[]⟩,
  ⟨12,[],[],none,[]⟩,
  ⟨13,[4,5,7],[[]],none,[]⟩,
  ⟨14,[],[],none,[]⟩,
  ⟨15,[],[[5]],none,[]⟩,
  ⟨16,[2],[],none,[]⟩,
  ⟨17,[],[[4]],none,[]⟩,
  ⟨18,[],[],none,[]⟩,
  ⟨19,[3,11],[[]],none,[]⟩,
  ⟨20,[],[],none,[]⟩,
  ⟨21,[],[],none,[]⟩,
  ⟨22,[],[],none,[]⟩,
  ⟨23,[],[],none,[]⟩,
  ⟨24,[],[],none,[]⟩,
  ⟨25,[],[],none,[]⟩,
  ⟨26,[],[],none,[]⟩,
  ⟨27,[2],[[11],[17]],none,[]⟩,
  ⟨28,[],[],none,[]⟩,
  ⟨29,[],[],none,[]⟩,
  ⟨30,[4,5],[],none,[]⟩,
  ⟨31,[4,5],[],none,[]⟩,
  ⟨32,[],[],none,[]⟩,
  ⟨33,[],[],none,[]⟩,
  ⟨34,[41],[[3,4,5,6],[12],[10,11,12],[12]],some 9,[]⟩,
  ⟨35,[],[],none,[]⟩,
  ⟨36,[],[],none,[]⟩,
  ⟨37,[],[],none,[]⟩,
  ⟨38,[4,5],[[]],none,[]⟩,
  ⟨39,[],[[6]],none,[]⟩,
  ⟨40,[4],[],none,[]⟩,
  ⟨41,[4,6],[],none,[]⟩,
  ⟨42,[],[],none,[]⟩]
theorem ok0 : chkH C hs0 = true := by kernel_rfl
noncomputable def hs1 : List Hint := [
  ⟨43,[],[],none,[]⟩,
  ⟨44,[],[],none,[]⟩,
  ⟨45,[],[],none,[]⟩,
  ⟨46,[],[[6]],none,[]⟩,
  ⟨47,[],[[8]],none,[]⟩,
  ⟨48,[11,12,46],[[5,6],[49]],none,[]⟩,
  ⟨49,[],[],none,[]⟩,
  ⟨50,[],[[12,13,101]],none,[]⟩,
  ⟨51,[],[],none,[]⟩,
  ⟨52,[4,5,7],[],none,[]⟩,
  ⟨53,[8,9],[[22]],none,[]⟩,
  ⟨54,[],[[5]],none,[]⟩,
  ⟨55,[],[],none,[]⟩,
  ⟨56,[],[],none,[]⟩,
  ⟨57,[],[],none,[]⟩,
  ⟨58,[],[],none,[]⟩,
  ⟨59,[],[],none,[]⟩,
  ⟨60,[],[],none,[]⟩,
  ⟨61,[],[[3,4]],none,[]⟩,
  ⟨64,[15],[],none,[]⟩,
  ⟨65,[15],[],none,[]⟩,
  ⟨66,[],[[6]],none,[]⟩,
  ⟨67,[],[],none,[]⟩,
  ⟨68,[],[],none,[]⟩,
  ⟨69,[],[[20],[7,8]],none,[]⟩,
  ⟨70,[10],[[16],[7,8]],none,[]⟩,
  ⟨71,[9],[],none,[]⟩,
  ⟨72,[5],[],none,[]⟩,
  ⟨73,[],[],none,[]⟩,
  ⟨75,[],[],none,[]⟩,
  ⟨76,[5],[],none,[]⟩,
  ⟨77,[],[],none,[]⟩,
  ⟨78,[],[],none,[]⟩,
  ⟨79,[],[[1,4]],none,[]⟩,
  ⟨80,[12],[[1,13],[1,13]],none,[]⟩,
  ⟨81,[],[],none,[]⟩,
  ⟨82,[],[],none,[]⟩,
  ⟨83,[],[],none,[]⟩,
  ⟨84,[],[],none,[]⟩,
  ⟨85,[],[],none,[]⟩]
theorem ok1 : chkH C hs1 = true := by kernel_rfl
noncomputable def hs2 : List Hint := [
  ⟨86,[],[],none,[]⟩,
  ⟨87,[],[],none,[]⟩]
theorem ok2 : chkH C hs2 = true := by kernel_rfl
noncomputable def hs : List Hint := hs0 ++ (hs1 ++ (hs2))
theorem okAll : chkH C hs = true := chkH_app ok0 (chkH_app ok1 (ok2))
end Go.Proofs.YtolodaoffkbefaaDoor.rb

/- The seat's functions, run. By hints.py. -/
set_option linter.unusedVariables false
namespace Go.Proofs.YtolodaoffkbefaaDoor.rb
open Rb
theorem gtok : ∀ g l, gt g = some l → AV.frozs l = true := by
  intro g l h
  unfold gt at h
  split at h
  · cases h; kernel_rfl
  split at h
  · cases h; kernel_rfl
  split at h
  · cases h; kernel_rfl
  cases h
theorem gtC : GTok C := gtok
noncomputable def fn : Nat → Option FnC := tabH C 4096 hs
theorem dispOK : DispOK (ACall C) (dispI fn) := dispI_ok okAll 4096
end Go.Proofs.YtolodaoffkbefaaDoor.rb

/- A function of the library that is not in the small language: it asks the machine where a byte stands. -/
set_option linter.unusedVariables false
namespace Go.Proofs.YtolodaoffkbefaaDoor.rb
open Rb Go.RowKit

set_option maxRecDepth 100000 in
theorem indexByte_calls (s : ByteArray) (c : Int) (w : World) : Calls Tryd.prog 68 #[.string s, .int .u8 c] w fun e w' => e = .returned (.int .i64 (Go.Lib.indexByte s.data.toList c.toNat.toUInt8)) ∧ w' = w := by
  go_enter Tryd.func68, Tryd.ntmps68
  go_wp2
  rw [run_callFunc_extern Tryd.func74 (by kernel_rfl) (by kernel_rfl) (by kernel_rfl) (e := Extern.BytealgIndexByte.indexByte) (by kernel_rfl), Go.Lib.run_indexByteString]
  simp only [Result.andThen]
  rw [Oper.upon_value]
  go_wp2
  go_ret
  exact ⟨rfl, rfl⟩

theorem indexByte (s : List UInt8) (c : Int) (H : AH) (Q : Post) (hQ : Q (.int .i64 (Go.Lib.indexByte s c.toNat.toUInt8)) H) : ACall C 68 [.str s, .int .u8 c] H Q := by
  intro f hf G w Vs hG hrel hargs
  obtain rfl : f = 68 := by
    have : C.F 68 = some 68 := by kernel_rfl
    rw [this] at hf; exact (Option.some.inj hf).symm
  obtain ⟨hl, hv⟩ := hargs
  obtain ⟨Vl⟩ := Vs
  match Vl, hl with
  | [V0, V1], _ =>
    have h0 := (hv 0 _ V0 rfl rfl).str_inv
    have h1 := (hv 1 _ V1 rfl rfl).int_inv
    subst h0 h1
    refine (indexByte_calls ⟨s.toArray⟩ c w).mono fun e w' ⟨he, hw⟩ => ?_
    subst hw
    exact ⟨_, _, H, G, he, hQ, .int _ _, hrel, Step.refl _ _ _⟩

noncomputable def MxG (L : List (Nat × List AV × AV)) : Memo := fun k a => cond (Nat.beq k 68) (match a with | [.str s, .int .u8 c] => some (.int .i64 (Go.Lib.indexByte s c.toNat.toUInt8)) | _ => none) (memG L k a)
theorem MxG_ok {L : List (Nat × List AV × AV)} (hL : MemoOK (ACall C) (memL L)) : MemoOK (ACall C) (MxG L) := by
  intro k a v h H Q hQ
  unfold MxG at h
  cases hb : Nat.beq k 68 with
  | false => rw [hb] at h; exact memG_ok hL k a v h H Q hQ
  | true =>
    rw [hb] at h
    obtain rfl := Nat.eq_of_beq_eq_true hb
    simp only [cond_true] at h
    split at h
    · cases h; exact indexByte _ _ H Q hQ
    · cases h
noncomputable def runG (L : List (Nat × List AV × AV)) : CallsB := runM (MxG L) (dispI fn) 100
theorem runG_ok {L : List (Nat × List AV × AV)} (hL : MemoOK (ACall C) (memL L)) : SoundB (ACall C) (runG L) := runM_sound (MxG_ok hL) dispOK 100
end Go.Proofs.YtolodaoffkbefaaDoor.rb

/- Known calls, found by runs. By runs.py. -/
set_option linter.unusedVariables false
namespace Go.Proofs.YtolodaoffkbefaaDoor.rb
open Rb
noncomputable section
def RbM090 : List (Nat × List AV × AV) := [
  (55, [.int .u8 (.ofNat 32)], .bool false),
  (34, [.str [118,97,114,32,116,104,114,101,97,100,32,115,116,114,117,99,116,32,117,110,105,111,110,32,112,97,99,107,101,100,32,117,56,32,117,49,54,32,117,51,50,32,117,54,52,32,97,56,32,97,49,54,32,97,51,50,32,97,54,52,32,97,49,50,56,32,108,101,116,32,115,101,116,32,119,114,105,116,101,32,115,116,111,114,101,32,108,111,97,100,50,32,115,116,111,114,101,50,32,102,101,110,99,101,32,105,102,32,101,108,115,101,32,119,104,105,108,101,32,112,114,105,110,116,32,114,101,97,100,32,108,111,97,100,32,97,100,100,32,115,119,97,112,32,99,97,115,32,114,108,120,32,97,99,113,32,114,101,108,32,115,99]], .lst .dead 34 [.str [118,97,114],.str [116,104,114,101,97,100],.str [115,116,114,117,99,116],.str [117,110,105,111,110],.str [112,97,99,107,101,100],.str [117,56],.str [117,49,54],.str [117,51,50],.str [117,54,52],.str [97,56],.str [97,49,54],.str [97,51,50],.str [97,54,52],.str [97,49,50,56],.str [108,101,116],.str [115,101,116],.str [119,114,105,116,101],.str [115,116,111,114,101],.str [108,111,97,100,50],.str [115,116,111,114,101,50],.str [102,101,110,99,101],.str [105,102],.str [101,108,115,101],.str [119,104,105,108,101],.str [112,114,105,110,116],.str [114,101,97,100],.str [108,111,97,100],.str [97,100,100],.str [115,119,97,112],.str [99,97,115],.str [114,108,120],.str [97,99,113],.str [114,101,108],.str [115,99]])]
def RbM091 : List (Nat × List AV × AV) := [
  (7, [.str [118,97,114,32,120,32,97,51,50,32,59,32,116,104,114,101,97,100,32,123,10,108,101,116,32,121,32,61,32,97,100,100,32,114,108,120,32,120,32,49,32,59,32,125]], .tup [.agg [.lst .dead 1 [.str [120],.int .i64 (.ofNat 2),.int .i64 (.ofNat 4),.bool false,.lst .dead 0 [],.int .i64 (.ofNat 0),.lst .dead 0 []],.lst .dead 1 [.lst .dead 1 [.int .i64 (.ofNat 1),.int .i64 (.ofNat 2),.str [121],.str [],.int .i64 (.ofNat 0),.str [],.lst .dead 0 [],.lst .dead 1 [.int .i64 (.ofNat 6),.int .u64 (.ofNat 0),.str [],.int .i64 (.ofNat 0),.int .i64 (.ofNat 1),.str [120],.lst .dead 0 [],.lst .dead 1 [.int .i64 (.ofNat 1),.int .u64 (.ofNat 1),.str [],.int .i64 (.ofNat 0),.int .i64 (.ofNat 0),.str [],.lst .dead 0 [],.lst .dead 0 []]],.lst .dead 0 [],.lst .dead 0 []]]],.agg [.int .i64 (.ofNat 0),.int .i64 (.ofNat 0)]]),
  (9, [.str [91,32,51,32,93,32,115,116,114,117,99,116,32,123,32,97,32,117,56,32,58,32,50,32,59,32,95,32,117,51,50,32,58,32,48,32,59,32,125]], .tup [.agg [.int .i64 (.ofNat 5),.int .i64 (.ofNat 0),.bool false,.lst .dead 0 [],.int .i64 (.ofNat 3),.lst .dead 1 [.int .i64 (.ofNat 3),.int .i64 (.ofNat 0),.bool false,.lst .dead 2 [.str [97],.int .i64 (.ofNat 1),.int .i64 (.ofNat 1),.bool false,.lst .dead 0 [],.int .i64 (.ofNat 0),.lst .dead 0 [],.bool true,.int .i64 (.ofNat 2),.str [],.int .i64 (.ofNat 1),.int .i64 (.ofNat 4),.bool false,.lst .dead 0 [],.int .i64 (.ofNat 0),.lst .dead 0 [],.bool true,.int .i64 (.ofNat 0)],.int .i64 (.ofNat 0),.lst .dead 0 []]],.agg [.int .i64 (.ofNat 0),.int .i64 (.ofNat 0)]])]
theorem RbM090_run : forced (allW (runG []) RbM090) = true := by kernel_rfl
theorem RbM090_ok : MemoOK (ACall C) (memL (RbM090 ++ [])) := memL_appW gtC (runG_ok memL_nil) memL_nil (of_forced RbM090_run)
theorem RbM091_run : forced (allW (runG (RbM090 ++ [])) RbM091) = true := by kernel_rfl
theorem RbM091_ok : MemoOK (ACall C) (memL (RbM091 ++ (RbM090 ++ []))) := memL_appW gtC (runG_ok RbM090_ok) RbM090_ok (of_forced RbM091_run)
theorem RbM09_root0 : forced (allW (runG (RbM091 ++ (RbM090 ++ []))) [(6, [], .bool true)]) = true := by kernel_rfl
theorem RbM09_rootok0 : MemoOK (ACall C) (memL [(6, [], .bool true)]) := memL_appW gtC (runG_ok RbM091_ok) memL_nil (N := [(6, [], .bool true)]) (of_forced RbM09_root0)
end
end Go.Proofs.YtolodaoffkbefaaDoor.rb

/- The functions' keys. By spec.py. -/
namespace Rb.K
abbrev rabbetlaw09_ParseWords : Nat := 3
abbrev rabbetlaw09_ParseMoves : Nat := 4
abbrev rabbetref08_Words : Nat := 5
abbrev rabbetlaw09_awake : Nat := 6
abbrev parse_Prog : Nat := 7
abbrev rabbetref08_one : Nat := 8
abbrev parse_Type : Nat := 9
abbrev parse_begin : Nat := 10
abbrev parse_parser_is : Nat := 11
abbrev parse_parser_name : Nat := 12
abbrev parse_parser_typ : Nat := 13
abbrev parse_parser_want : Nat := 14
abbrev parse_parser_block : Nat := 15
abbrev parse_parser_end : Nat := 16
abbrev rabbetref08_class : Nat := 17
abbrev rabbetref08_great : Nat := 18
abbrev lex_Tokens : Nat := 19
abbrev parse_parser_bad : Nat := 20
abbrev parse_parser_peek : Nat := 21
abbrev parse_parser_next : Nat := 22
abbrev parse_letters : Nat := 23
abbrev lex_Keyword : Nat := 24
abbrev parse_parser_fail : Nat := 25
abbrev parse_parser_deep : Nat := 26
abbrev parse_scalar : Nat := 27
abbrev parse_kind : Nat := 28
abbrev parse_parser_number : Nat := 29
abbrev parse_parser_field : Nat := 30
abbrev parse_parser_stmt : Nat := 31
abbrev lex_scanner_next : Nat := 32
abbrev slices_Contains___string_string_ : Nat := 33
abbrev strings_Fields : Nat := 34
abbrev parse_digits : Nat := 35
abbrev strconv_ParseUint : Nat := 36
abbrev parse_parser_value : Nat := 37
abbrev parse_parser_place : Nat := 38
abbrev parse_parser_order : Nat := 39
abbrev parse_parser_expr : Nat := 40
abbrev parse_parser_control : Nat := 41
abbrev lex_letter : Nat := 42
abbrev lex_scanner_word : Nat := 43
abbrev lex_digit : Nat := 44
abbrev lex_scanner_number : Nat := 45
abbrev lex_scanner_sign : Nat := 46
abbrev slices_Index___string_string_ : Nat := 47
abbrev parse_parser_binary : Nat := 52
abbrev parse_parser_access : Nat := 53
abbrev lex_scanner_run : Nat := 54
abbrev lex_part : Nat := 55
abbrev lex_scanner_take : Nat := 56
abbrev strings_HasPrefix : Nat := 57
abbrev strings_IndexByte : Nat := 58
abbrev parse_operator : Nat := 66
abbrev internal_stringslite_HasPrefix : Nat := 67
abbrev internal_stringslite_IndexByte : Nat := 68
end Rb.K

/- Functions in the small language, and what they mean. By spec.py. -/
set_option linter.unusedVariables false
namespace Rb.S
open Go

/-! rabbet/rabbetlaw09.ParseWords -/
def rabbetlaw09_ParseWords_k1 (Φ : Calls') (x42 : AV) (x52 : AV) (Q : Post) : List AV → AH → Prop := fun j100 H101 =>
 Gd3 (sl j100 0) true (
 Do (afaddr 1 x42) fun x109 =>
 Do (aload H101 1 false x109) fun x110 =>
 Do (abin .eql x110 (.int .i64 0)) fun x111 =>
 Gd3 x111 false (
 Do (afaddr 0 x52) fun x112 =>
 Do (aload H101 1 false x112) fun x113 =>
 Do (abin .leq x113 (.int .i64 1)) fun x114 =>
 Q x114 H101) (
 Q (.bool true) H101) (
 False)) (
 Q (.bool false) H101) (
 False)
def rabbetlaw09_ParseWords_k2 (Φ : Calls') (x42 : AV) (x50 : AV) (x52 : AV) (x60 : AV) (Q : Post) : List AV → AH → Prop := fun j91 H92 =>
 Gd3 (sl j91 0) true (
 Do (afaddr 1 x60) fun x102 =>
 Do (aload H92 1 false x102) fun x103 =>
 Do (alen false x103) fun x104 =>
 Do (afaddr 1 x50) fun x105 =>
 Do (aload H92 1 false x105) fun x106 =>
 Do (alen false x106) fun x107 =>
 Do (abin .eql x104 x107) fun x108 =>
 JoinP (rabbetlaw09_ParseWords_k1 Φ x42 x52 Q) [x108] H92) (
 JoinP (rabbetlaw09_ParseWords_k1 Φ x42 x52 Q) [(.bool false)] H92) (
 False)
def rabbetlaw09_ParseWords_k3 (Φ : Calls') (x40 : AV) (x42 : AV) (x50 : AV) (x52 : AV) (x60 : AV) (Q : Post) : List AV → AH → Prop := fun j82 H83 =>
 Gd3 (sl j82 0) true (
 Do (afaddr 1 x40) fun x93 =>
 Do (aload H83 1 false x93) fun x94 =>
 Do (alen false x94) fun x95 =>
 Do (afaddr 1 x50) fun x96 =>
 Do (aload H83 1 false x96) fun x97 =>
 Do (alen false x97) fun x98 =>
 Do (abin .eql x95 x98) fun x99 =>
 JoinP (rabbetlaw09_ParseWords_k2 Φ x42 x50 x52 x60 Q) [x99] H83) (
 JoinP (rabbetlaw09_ParseWords_k2 Φ x42 x50 x52 x60 Q) [(.bool false)] H83) (
 False)
def rabbetlaw09_ParseWords_k4 (Φ : Calls') (x40 : AV) (x42 : AV) (x50 : AV) (x52 : AV) (x60 : AV) (Q : Post) : List AV → AH → Prop := fun j75 H76 =>
 Gd3 (sl j75 0) true (
 Do (afaddr 0 x40) fun x84 =>
 Do (aload H76 1 false x84) fun x85 =>
 Do (alen false x85) fun x86 =>
 Do (afaddr 0 x50) fun x87 =>
 Do (aload H76 1 false x87) fun x88 =>
 Do (alen false x88) fun x89 =>
 Do (abin .eql x86 x89) fun x90 =>
 JoinP (rabbetlaw09_ParseWords_k3 Φ x40 x42 x50 x52 x60 Q) [x90] H76) (
 JoinP (rabbetlaw09_ParseWords_k3 Φ x40 x42 x50 x52 x60 Q) [(.bool false)] H76) (
 False)
def rabbetlaw09_ParseWords_k5 (Φ : Calls') (x40 : AV) (x42 : AV) (x50 : AV) (x52 : AV) (x60 : AV) (x62 : AV) (Q : Post) : List AV → AH → Prop := fun j66 H67 =>
 Gd3 (sl j66 0) true (
 Do (afaddr 1 x42) fun x77 =>
 Do (aload H67 1 false x77) fun x78 =>
 Do (afaddr 1 x62) fun x79 =>
 Do (aload H67 1 false x79) fun x80 =>
 Do (abin .eql x78 x80) fun x81 =>
 JoinP (rabbetlaw09_ParseWords_k4 Φ x40 x42 x50 x52 x60 Q) [x81] H67) (
 JoinP (rabbetlaw09_ParseWords_k4 Φ x40 x42 x50 x52 x60 Q) [(.bool false)] H67) (
 False)
def rabbetlaw09_ParseWords_k6 (Φ : Calls') (a0 : AV) (Q : Post) : List AV → AH → Prop := fun j19 H20 =>
Φ K.parse_Prog [a0] H20 fun x36 H37 =>
 Do (aextract 0 x36) fun x38 =>
 Do (aextract 1 x36) fun x39 =>
 DoH (some (abox H37 true [.lst .nil 0 [], .lst .nil 0 []])) fun x40 H41 =>
 DoH (some (abox H41 true [.int .i64 0, .int .i64 0])) fun x42 H43 =>
 Do (astore H43 2 x40 x38) fun H44 =>
 Do (astore H44 2 x42 x39) fun H45 =>
Φ K.parse_Prog [(sl j19 0)] H45 fun x46 H47 =>
 Do (aextract 0 x46) fun x48 =>
 Do (aextract 1 x46) fun x49 =>
 DoH (some (abox H47 true [.lst .nil 0 [], .lst .nil 0 []])) fun x50 H51 =>
 DoH (some (abox H51 true [.int .i64 0, .int .i64 0])) fun x52 H53 =>
 Do (astore H53 2 x50 x48) fun H54 =>
 Do (astore H54 2 x52 x49) fun H55 =>
Φ K.parse_Prog [(sl j19 1)] H55 fun x56 H57 =>
 Do (aextract 0 x56) fun x58 =>
 Do (aextract 1 x56) fun x59 =>
 DoH (some (abox H57 true [.lst .nil 0 [], .lst .nil 0 []])) fun x60 H61 =>
 DoH (some (abox H61 true [.int .i64 0, .int .i64 0])) fun x62 H63 =>
 Do (astore H63 2 x60 x58) fun H64 =>
 Do (astore H64 2 x62 x59) fun H65 =>
Φ K.rabbetlaw09_awake [] H65 fun x68 H69 =>
 Gd3 x68 true (
 Do (afaddr 1 x42) fun x70 =>
 Do (aload H69 1 false x70) fun x71 =>
 Do (afaddr 1 x52) fun x72 =>
 Do (aload H69 1 false x72) fun x73 =>
 Do (abin .eql x71 x73) fun x74 =>
 JoinP (rabbetlaw09_ParseWords_k5 Φ x40 x42 x50 x52 x60 x62 Q) [x74] H69) (
 JoinP (rabbetlaw09_ParseWords_k5 Φ x40 x42 x50 x52 x60 x62 Q) [(.bool false)] H69) (
 False)
def rabbetlaw09_ParseWords_l7 (Φ : Calls') (a0 : AV) (x3 : AV) (Q : Post) : (List AV × AH) → ((List AV × AH) → Prop) → Prop := fun s21 L22 =>
 Do (alen false x3) fun x23 =>
 Do (abin .lss (sl s21.1 2) x23) fun x24 =>
 Gd x24 true (
 Do (aiaddr none 2 x3 (sl s21.1 2)) fun x25 =>
 Do (afaddr 0 x25) fun x26 =>
 Do (aload s21.2 1 false x26) fun x27 =>
 Do (abin .add x27 (.str [32])) fun x28 =>
 Do (abin .add (sl s21.1 0) x28) fun x29 =>
 Do (aiaddr none 2 x3 (sl s21.1 2)) fun x30 =>
 Do (afaddr 0 x30) fun x31 =>
 Do (aload s21.2 1 false x31) fun x32 =>
 Do (abin .add x32 (.str [10, 10, 32])) fun x33 =>
 Do (abin .add (sl s21.1 1) x33) fun x34 =>
 Do (abin .add (sl s21.1 2) (.int .i64 1)) fun x35 =>
 L22 ([x29, x34, x35], s21.2)) (
 JoinP (rabbetlaw09_ParseWords_k6 Φ a0 Q) [(sl s21.1 0), (sl s21.1 1)] s21.2)
def rabbetlaw09_ParseWords_k8 (Φ : Calls') (a0 : AV) (x3 : AV) (Q : Post) : List AV → AH → Prop := fun j8 H9 =>
 LoopP (rabbetlaw09_ParseWords_l7 Φ a0 x3 Q) ([(.str []), (.str [10]), (.int .i64 0)], H9)
def rabbetlaw09_ParseWords_k9 (Φ : Calls') (a0 : AV) (x3 : AV) (Q : Post) : List AV → AH → Prop := fun j10 H11 =>
 Gd (sl j10 0) true (
Φ K.rabbetlaw09_awake [] H11 fun x17 H18 =>
 Q x17 H18) (
 JoinP (rabbetlaw09_ParseWords_k8 Φ a0 x3 Q) [] H11)
def rabbetlaw09_ParseWords (Φ : Calls') (a0 : AV) (H : AH) (Q : Post) : Prop :=
Φ K.rabbetref08_Words [a0] H fun x1 H2 =>
 Do (aextract 0 x1) fun x3 =>
 Do (aextract 1 x1) fun x4 =>
 DoH (some (abox H2 true [.int .i64 0, .int .i64 0])) fun x5 H6 =>
 Do (astore H6 2 x5 x4) fun H7 =>
 Do (alen false x3) fun x12 =>
 Do (abin .gtr x12 (.int .i64 3000)) fun x13 =>
 Gd3 x13 false (
 Do (afaddr 1 x5) fun x14 =>
 Do (aload H7 1 false x14) fun x15 =>
 Do (abin .neq x15 (.int .i64 0)) fun x16 =>
 JoinP (rabbetlaw09_ParseWords_k9 Φ a0 x3 Q) [x16] H7) (
 JoinP (rabbetlaw09_ParseWords_k9 Φ a0 x3 Q) [(.bool true)] H7) (
 False)
def ir_rabbetlaw09_ParseWords : AFunc := ⟨117, [.tmp 2],
 .seq (.region [
   ⟨some 2, .mv (.k (.bool false)), none⟩])
 (.seq (.region [
   ⟨some 15, .mv (.t 0), none⟩,
   ⟨some 16, .call K.rabbetref08_Words [(.t 15)], none⟩,
   ⟨some 14, .mv (.t 16), none⟩,
   ⟨some 17, .extract 0 (.t 14), none⟩,
   ⟨some 18, .extract 1 (.t 14), none⟩,
   ⟨some 4, .alloc true [.int .i64 0, .int .i64 0], none⟩,
   ⟨some 3, .mv (.t 17), none⟩,
   ⟨none, .store 2 (.t 4) (.t 18), none⟩])
 (.join [] [2, 19, 20, 21, 22, 23, 24, 25, 26, 27] (.join [26] [19, 20, 21, 22, 23, 24, 25] (.region [
   ⟨some 19, .mv (.t 3), none⟩,
   ⟨some 20, .len false (.t 19), none⟩,
   ⟨some 21, .bin .gtr (.t 20) (.k (.int .i64 3000)), none⟩,
   ⟨some 22, .mv (.t 21), none⟩,
   ⟨some 23, .faddr 1 (.t 4), some (22, false)⟩,
   ⟨some 24, .load 1 false (.t 23), some (22, false)⟩,
   ⟨some 25, .bin .neq (.t 24) (.k (.int .i64 0)), some (22, false)⟩,
   ⟨some 26, .pick (.t 22) (.k (.bool true)) (.t 25), none⟩])
 (.cond (.t 26) (.seq (.region [
     ⟨some 27, .call K.rabbetlaw09_awake [], none⟩,
     ⟨some 2, .mv (.t 27), none⟩])
   (.ret))
   (.skip)))
 (.seq (.region [
   ⟨some 5, .mv (.k (.str [])), none⟩,
   ⟨some 6, .mv (.k (.str [10])), none⟩])
 (.join [5, 6] [7, 28, 29, 30, 31, 32, 33, 34, 35, 36, 37, 38, 39, 40, 41, 42, 43, 44, 45, 46, 47, 48, 49] (.seq (.region [
   ⟨some 7, .mv (.k (.int .i64 0)), none⟩])
 (.block 0 (.loop [5, 6, 7] [28, 29, 30, 31, 32, 33, 34, 35, 36, 37, 38, 39, 40, 41, 42, 43, 44, 45, 46, 47, 48, 49] (.seq (.seq (.region [
   ⟨some 28, .mv (.t 7), none⟩,
   ⟨some 29, .mv (.t 3), none⟩,
   ⟨some 30, .len false (.t 29), none⟩,
   ⟨some 31, .bin .lss (.t 28) (.t 30), none⟩])
 (.cond (.t 31) (.skip)
   (.exit 0)))
 (.seq (.block 1 (.seq (.region [
   ⟨some 34, .mv (.t 5), none⟩,
   ⟨some 35, .mv (.t 3), none⟩,
   ⟨some 36, .mv (.t 7), none⟩,
   ⟨some 37, .iaddr none 2 (.t 35) (.t 36), none⟩,
   ⟨some 38, .faddr 0 (.t 37), none⟩,
   ⟨some 39, .load 1 false (.t 38), none⟩,
   ⟨some 40, .bin .add (.t 39) (.k (.str [32])), none⟩,
   ⟨some 41, .bin .add (.t 34) (.t 40), none⟩,
   ⟨some 5, .mv (.t 41), none⟩])
 (.region [
   ⟨some 42, .mv (.t 6), none⟩,
   ⟨some 43, .mv (.t 3), none⟩,
   ⟨some 44, .mv (.t 7), none⟩,
   ⟨some 45, .iaddr none 2 (.t 43) (.t 44), none⟩,
   ⟨some 46, .faddr 0 (.t 45), none⟩,
   ⟨some 47, .load 1 false (.t 46), none⟩,
   ⟨some 48, .bin .add (.t 47) (.k (.str [10, 10, 32])), none⟩,
   ⟨some 49, .bin .add (.t 42) (.t 48), none⟩,
   ⟨some 6, .mv (.t 49), none⟩])))
 (.region [
   ⟨some 32, .mv (.t 7), none⟩,
   ⟨some 33, .bin .add (.t 32) (.k (.int .i64 1)), none⟩,
   ⟨some 7, .mv (.t 33), none⟩]))))))
 (.seq (.region [
   ⟨some 51, .mv (.t 0), none⟩,
   ⟨some 52, .call K.parse_Prog [(.t 51)], none⟩,
   ⟨some 50, .mv (.t 52), none⟩,
   ⟨some 53, .extract 0 (.t 50), none⟩,
   ⟨some 54, .extract 1 (.t 50), none⟩,
   ⟨some 8, .alloc true [.lst .nil 0 [], .lst .nil 0 []], none⟩,
   ⟨some 9, .alloc true [.int .i64 0, .int .i64 0], none⟩,
   ⟨none, .store 2 (.t 8) (.t 53), none⟩,
   ⟨none, .store 2 (.t 9) (.t 54), none⟩])
 (.seq (.region [
   ⟨some 56, .mv (.t 5), none⟩,
   ⟨some 57, .call K.parse_Prog [(.t 56)], none⟩,
   ⟨some 55, .mv (.t 57), none⟩,
   ⟨some 58, .extract 0 (.t 55), none⟩,
   ⟨some 59, .extract 1 (.t 55), none⟩,
   ⟨some 10, .alloc true [.lst .nil 0 [], .lst .nil 0 []], none⟩,
   ⟨some 11, .alloc true [.int .i64 0, .int .i64 0], none⟩,
   ⟨none, .store 2 (.t 10) (.t 58), none⟩,
   ⟨none, .store 2 (.t 11) (.t 59), none⟩])
 (.seq (.region [
   ⟨some 61, .mv (.t 6), none⟩,
   ⟨some 62, .call K.parse_Prog [(.t 61)], none⟩,
   ⟨some 60, .mv (.t 62), none⟩,
   ⟨some 63, .extract 0 (.t 60), none⟩,
   ⟨some 64, .extract 1 (.t 60), none⟩,
   ⟨some 12, .alloc true [.lst .nil 0 [], .lst .nil 0 []], none⟩,
   ⟨some 13, .alloc true [.int .i64 0, .int .i64 0], none⟩,
   ⟨none, .store 2 (.t 12) (.t 63), none⟩,
   ⟨none, .store 2 (.t 13) (.t 64), none⟩])
 (.seq (.rjoin [72] [65, 66, 67, 68, 69, 70, 71] [
   ⟨some 65, .call K.rabbetlaw09_awake [], none⟩,
   ⟨some 66, .mv (.t 65), none⟩,
   ⟨some 67, .faddr 1 (.t 9), some (66, true)⟩,
   ⟨some 68, .load 1 false (.t 67), some (66, true)⟩,
   ⟨some 69, .faddr 1 (.t 11), some (66, true)⟩,
   ⟨some 70, .load 1 false (.t 69), some (66, true)⟩,
   ⟨some 71, .bin .eql (.t 68) (.t 70), some (66, true)⟩,
   ⟨some 72, .pick (.t 66) (.t 71) (.k (.bool false)), none⟩]
 (.rjoin [79] [73, 74, 75, 76, 77, 78] [
   ⟨some 73, .mv (.t 72), none⟩,
   ⟨some 74, .faddr 1 (.t 9), some (73, true)⟩,
   ⟨some 75, .load 1 false (.t 74), some (73, true)⟩,
   ⟨some 76, .faddr 1 (.t 13), some (73, true)⟩,
   ⟨some 77, .load 1 false (.t 76), some (73, true)⟩,
   ⟨some 78, .bin .eql (.t 75) (.t 77), some (73, true)⟩,
   ⟨some 79, .pick (.t 73) (.t 78) (.k (.bool false)), none⟩]
 (.rjoin [88] [80, 81, 82, 83, 84, 85, 86, 87] [
   ⟨some 80, .mv (.t 79), none⟩,
   ⟨some 81, .faddr 0 (.t 8), some (80, true)⟩,
   ⟨some 82, .load 1 false (.t 81), some (80, true)⟩,
   ⟨some 83, .len false (.t 82), some (80, true)⟩,
   ⟨some 84, .faddr 0 (.t 10), some (80, true)⟩,
   ⟨some 85, .load 1 false (.t 84), some (80, true)⟩,
   ⟨some 86, .len false (.t 85), some (80, true)⟩,
   ⟨some 87, .bin .eql (.t 83) (.t 86), some (80, true)⟩,
   ⟨some 88, .pick (.t 80) (.t 87) (.k (.bool false)), none⟩]
 (.rjoin [97] [89, 90, 91, 92, 93, 94, 95, 96] [
   ⟨some 89, .mv (.t 88), none⟩,
   ⟨some 90, .faddr 1 (.t 8), some (89, true)⟩,
   ⟨some 91, .load 1 false (.t 90), some (89, true)⟩,
   ⟨some 92, .len false (.t 91), some (89, true)⟩,
   ⟨some 93, .faddr 1 (.t 10), some (89, true)⟩,
   ⟨some 94, .load 1 false (.t 93), some (89, true)⟩,
   ⟨some 95, .len false (.t 94), some (89, true)⟩,
   ⟨some 96, .bin .eql (.t 92) (.t 95), some (89, true)⟩,
   ⟨some 97, .pick (.t 89) (.t 96) (.k (.bool false)), none⟩]
 (.rjoin [106] [98, 99, 100, 101, 102, 103, 104, 105] [
   ⟨some 98, .mv (.t 97), none⟩,
   ⟨some 99, .faddr 1 (.t 12), some (98, true)⟩,
   ⟨some 100, .load 1 false (.t 99), some (98, true)⟩,
   ⟨some 101, .len false (.t 100), some (98, true)⟩,
   ⟨some 102, .faddr 1 (.t 10), some (98, true)⟩,
   ⟨some 103, .load 1 false (.t 102), some (98, true)⟩,
   ⟨some 104, .len false (.t 103), some (98, true)⟩,
   ⟨some 105, .bin .eql (.t 101) (.t 104), some (98, true)⟩,
   ⟨some 106, .pick (.t 98) (.t 105) (.k (.bool false)), none⟩]
 (.region [
   ⟨some 107, .mv (.t 106), none⟩,
   ⟨some 108, .faddr 1 (.t 9), some (107, true)⟩,
   ⟨some 109, .load 1 false (.t 108), some (107, true)⟩,
   ⟨some 110, .bin .eql (.t 109) (.k (.int .i64 0)), some (107, true)⟩,
   ⟨some 111, .mv (.t 110), some (107, true)⟩,
   ⟨some 112, .faddr 0 (.t 11), some (111, false)⟩,
   ⟨some 113, .load 1 false (.t 112), some (111, false)⟩,
   ⟨some 114, .bin .leq (.t 113) (.k (.int .i64 1)), some (111, false)⟩,
   ⟨some 115, .pick (.t 111) (.k (.bool true)) (.t 114), some (107, true)⟩,
   ⟨some 116, .pick (.t 107) (.t 115) (.k (.bool false)), none⟩,
   ⟨some 2, .mv (.t 116), none⟩]))))))
 (.ret)))))))))⟩
theorem eq_rabbetlaw09_ParseWords (Φ : Calls') (a0 : AV) (H : AH) (Q : Post) : fnE1 Φ ir_rabbetlaw09_ParseWords [a0] H Q = rabbetlaw09_ParseWords Φ a0 H Q := by kernel_rfl

/-! rabbet/rabbetlaw09.ParseMoves -/
def rabbetlaw09_ParseMoves_k1 (Φ : Calls') (x6 : AV) (x20 : AV) (x31 : AV) (Q : Post) : List AV → AH → Prop := fun j38 H39 =>
 Gd3 (sl j38 0) true (
 Do (afaddr 0 x31) fun x47 =>
 Do (aload H39 1 false x47) fun x48 =>
 Do (afaddr 0 x20) fun x49 =>
 Do (aload H39 1 false x49) fun x50 =>
 Do (abin .add x50 x6) fun x51 =>
 Do (abin .eql x48 x51) fun x52 =>
 Gd3 x52 false (
 Do (afaddr 0 x20) fun x53 =>
 Do (aload H39 1 false x53) fun x54 =>
 Do (abin .eql x54 (.int .i64 0)) fun x55 =>
 Gd3 x55 true (
 Do (afaddr 0 x31) fun x56 =>
 Do (aload H39 1 false x56) fun x57 =>
 Do (abin .eql x57 (.int .i64 0)) fun x58 =>
 Q x58 H39) (
 Q (.bool false) H39) (
 False)) (
 Q (.bool true) H39) (
 False)) (
 Q (.bool false) H39) (
 False)
def rabbetlaw09_ParseMoves_k2 (Φ : Calls') (s75 : List AV × AH) (L76 : (List AV × AH) → Prop) (Q : Post) : List AV → AH → Prop := fun j81 H82 =>
 Do (abin .add (sl s75.1 0) (.int .i64 1)) fun x119 =>
 L76 ([x119], H82)
def rabbetlaw09_ParseMoves_l3 (Φ : Calls') (x6 : AV) (x18 : AV) (x29 : AV) (s75 : List AV × AH) (L76 : (List AV × AH) → Prop) (Q : Post) : (List AV × AH) → ((List AV × AH) → Prop) → Prop := fun s94 L95 =>
 Do (afaddr 1 x18) fun x96 =>
 Do (aload s94.2 1 false x96) fun x97 =>
 Do (aiaddr none 1 x97 (sl s75.1 0)) fun x98 =>
 Do (aload s94.2 1 false x98) fun x99 =>
 Do (alen false x99) fun x100 =>
 Do (abin .lss (sl s94.1 0) x100) fun x101 =>
 Gd x101 true (
 Do (afaddr 1 x29) fun x102 =>
 Do (aload s94.2 1 false x102) fun x103 =>
 Do (aiaddr none 1 x103 (sl s75.1 0)) fun x104 =>
 Do (aload s94.2 1 false x104) fun x105 =>
 Do (aiaddr none 10 x105 (sl s94.1 0)) fun x106 =>
 Do (afaddr 1 x106) fun x107 =>
 Do (aload s94.2 1 false x107) fun x108 =>
 Do (afaddr 1 x18) fun x109 =>
 Do (aload s94.2 1 false x109) fun x110 =>
 Do (aiaddr none 1 x110 (sl s75.1 0)) fun x111 =>
 Do (aload s94.2 1 false x111) fun x112 =>
 Do (aiaddr none 10 x112 (sl s94.1 0)) fun x113 =>
 Do (afaddr 1 x113) fun x114 =>
 Do (aload s94.2 1 false x114) fun x115 =>
 Do (abin .add x115 x6) fun x116 =>
 Do (abin .neq x108 x116) fun x117 =>
 Gd x117 true (
 Q (.bool false) s94.2) (
 Do (abin .add (sl s94.1 0) (.int .i64 1)) fun x118 =>
 L95 ([x118], s94.2))) (
 JoinP (rabbetlaw09_ParseMoves_k2 Φ s75 L76 Q) [] s94.2)
def rabbetlaw09_ParseMoves_k4 (Φ : Calls') (Q : Post) : List AV → AH → Prop := fun j73 H74 =>
Φ K.rabbetlaw09_awake [] H74 fun x120 H121 =>
 Q x120 H121
def rabbetlaw09_ParseMoves_l5 (Φ : Calls') (x6 : AV) (x18 : AV) (x29 : AV) (Q : Post) : (List AV × AH) → ((List AV × AH) → Prop) → Prop := fun s75 L76 =>
 Do (afaddr 1 x18) fun x77 =>
 Do (aload s75.2 1 false x77) fun x78 =>
 Do (alen false x78) fun x79 =>
 Do (abin .lss (sl s75.1 0) x79) fun x80 =>
 Gd x80 true (
 Do (afaddr 1 x18) fun x83 =>
 Do (aload s75.2 1 false x83) fun x84 =>
 Do (aiaddr none 1 x84 (sl s75.1 0)) fun x85 =>
 Do (aload s75.2 1 false x85) fun x86 =>
 Do (alen false x86) fun x87 =>
 Do (afaddr 1 x29) fun x88 =>
 Do (aload s75.2 1 false x88) fun x89 =>
 Do (aiaddr none 1 x89 (sl s75.1 0)) fun x90 =>
 Do (aload s75.2 1 false x90) fun x91 =>
 Do (alen false x91) fun x92 =>
 Do (abin .neq x87 x92) fun x93 =>
 Gd x93 true (
 Q (.bool false) s75.2) (
 LoopP (rabbetlaw09_ParseMoves_l3 Φ x6 x18 x29 s75 L76 Q) ([(.int .i64 0)], s75.2))) (
 JoinP (rabbetlaw09_ParseMoves_k4 Φ Q) [] s75.2)
def rabbetlaw09_ParseMoves_k6 (Φ : Calls') (x6 : AV) (x18 : AV) (x29 : AV) (Q : Post) : List AV → AH → Prop := fun j59 H60 =>
 LoopP (rabbetlaw09_ParseMoves_l5 Φ x6 x18 x29 Q) ([(.int .i64 0)], H60)
def rabbetlaw09_ParseMoves_k7 (Φ : Calls') (x6 : AV) (x18 : AV) (x29 : AV) (Q : Post) : List AV → AH → Prop := fun j61 H62 =>
 Gd (sl j61 0) true (
 Q (.bool false) H62) (
 JoinP (rabbetlaw09_ParseMoves_k6 Φ x6 x18 x29 Q) [] H62)
def rabbetlaw09_ParseMoves_k8 (Φ : Calls') (a0 : AV) (x6 : AV) (Q : Post) : List AV → AH → Prop := fun j7 H8 =>
Φ K.parse_Prog [a0] H8 fun x14 H15 =>
 Do (aextract 0 x14) fun x16 =>
 Do (aextract 1 x14) fun x17 =>
 DoH (some (abox H15 true [.lst .nil 0 [], .lst .nil 0 []])) fun x18 H19 =>
 DoH (some (abox H19 true [.int .i64 0, .int .i64 0])) fun x20 H21 =>
 Do (astore H21 2 x18 x16) fun H22 =>
 Do (astore H22 2 x20 x17) fun H23 =>
 Do (abin .add (sl j7 0) a0) fun x24 =>
Φ K.parse_Prog [x24] H23 fun x25 H26 =>
 Do (aextract 0 x25) fun x27 =>
 Do (aextract 1 x25) fun x28 =>
 DoH (some (abox H26 true [.lst .nil 0 [], .lst .nil 0 []])) fun x29 H30 =>
 DoH (some (abox H30 true [.int .i64 0, .int .i64 0])) fun x31 H32 =>
 Do (astore H32 2 x29 x27) fun H33 =>
 Do (astore H33 2 x31 x28) fun H34 =>
 Do (afaddr 1 x20) fun x35 =>
 Do (aload H34 1 false x35) fun x36 =>
 Do (abin .neq x36 (.int .i64 0)) fun x37 =>
 Gd x37 true (
Φ K.rabbetlaw09_awake [] H34 fun x40 H41 =>
 Gd3 x40 true (
 Do (afaddr 1 x31) fun x42 =>
 Do (aload H41 1 false x42) fun x43 =>
 Do (afaddr 1 x20) fun x44 =>
 Do (aload H41 1 false x44) fun x45 =>
 Do (abin .eql x43 x45) fun x46 =>
 JoinP (rabbetlaw09_ParseMoves_k1 Φ x6 x20 x31 Q) [x46] H41) (
 JoinP (rabbetlaw09_ParseMoves_k1 Φ x6 x20 x31 Q) [(.bool false)] H41) (
 False)) (
 Do (afaddr 1 x31) fun x63 =>
 Do (aload H34 1 false x63) fun x64 =>
 Do (abin .neq x64 (.int .i64 0)) fun x65 =>
 Gd3 x65 false (
 Do (afaddr 1 x18) fun x66 =>
 Do (aload H34 1 false x66) fun x67 =>
 Do (alen false x67) fun x68 =>
 Do (afaddr 1 x29) fun x69 =>
 Do (aload H34 1 false x69) fun x70 =>
 Do (alen false x70) fun x71 =>
 Do (abin .neq x68 x71) fun x72 =>
 JoinP (rabbetlaw09_ParseMoves_k7 Φ x6 x18 x29 Q) [x72] H34) (
 JoinP (rabbetlaw09_ParseMoves_k7 Φ x6 x18 x29 Q) [(.bool true)] H34) (
 False))
def rabbetlaw09_ParseMoves_l9 (Φ : Calls') (a0 : AV) (x6 : AV) (Q : Post) : (List AV × AH) → ((List AV × AH) → Prop) → Prop := fun s9 L10 =>
 Do (abin .lss (sl s9.1 1) x6) fun x11 =>
 Gd x11 true (
 Do (abin .add (sl s9.1 0) (.str [32, 10])) fun x12 =>
 Do (abin .add (sl s9.1 1) (.int .i64 1)) fun x13 =>
 L10 ([x12, x13], s9.2)) (
 JoinP (rabbetlaw09_ParseMoves_k8 Φ a0 x6 Q) [(sl s9.1 0)] s9.2)
def rabbetlaw09_ParseMoves (Φ : Calls') (a0 : AV) (a1 : AV) (H : AH) (Q : Post) : Prop :=
 Do (alen true a0) fun x1 =>
 Do (abin .gtr x1 (.int .i64 100000)) fun x2 =>
 Gd x2 true (
Φ K.rabbetlaw09_awake [] H fun x3 H4 =>
 Q x3 H4) (
 Do (abin .rem a1 (.int .u8 9)) fun x5 =>
 Do (aconv .i64 x5) fun x6 =>
 LoopP (rabbetlaw09_ParseMoves_l9 Φ a0 x6 Q) ([(.str []), (.int .i64 0)], H))
def ir_rabbetlaw09_ParseMoves : AFunc := ⟨134, [.tmp 4],
 .seq (.region [
   ⟨some 4, .mv (.k (.bool false)), none⟩])
 (.seq (.seq (.region [
   ⟨some 14, .mv (.t 0), none⟩,
   ⟨some 15, .len true (.t 14), none⟩,
   ⟨some 16, .bin .gtr (.t 15) (.k (.int .i64 100000)), none⟩])
 (.cond (.t 16) (.seq (.region [
     ⟨some 17, .call K.rabbetlaw09_awake [], none⟩,
     ⟨some 4, .mv (.t 17), none⟩])
   (.ret))
   (.skip)))
 (.seq (.region [
   ⟨some 18, .mv (.t 1), none⟩,
   ⟨some 19, .bin .rem (.t 18) (.k (.int .u8 9)), none⟩,
   ⟨some 20, .conv .i64 (.t 19), none⟩,
   ⟨some 5, .mv (.t 20), none⟩])
 (.seq (.region [
   ⟨some 6, .mv (.k (.str [])), none⟩])
 (.join [6] [7, 21, 22, 23, 24, 25, 26, 27] (.seq (.region [
   ⟨some 7, .mv (.k (.int .i64 0)), none⟩])
 (.block 0 (.loop [6, 7] [21, 22, 23, 24, 25, 26, 27] (.seq (.seq (.region [
   ⟨some 21, .mv (.t 7), none⟩,
   ⟨some 22, .mv (.t 5), none⟩,
   ⟨some 23, .bin .lss (.t 21) (.t 22), none⟩])
 (.cond (.t 23) (.skip)
   (.exit 0)))
 (.seq (.block 1 (.region [
   ⟨some 26, .mv (.t 6), none⟩,
   ⟨some 27, .bin .add (.t 26) (.k (.str [32, 10])), none⟩,
   ⟨some 6, .mv (.t 27), none⟩]))
 (.region [
   ⟨some 24, .mv (.t 7), none⟩,
   ⟨some 25, .bin .add (.t 24) (.k (.int .i64 1)), none⟩,
   ⟨some 7, .mv (.t 25), none⟩]))))))
 (.seq (.region [
   ⟨some 29, .mv (.t 0), none⟩,
   ⟨some 30, .call K.parse_Prog [(.t 29)], none⟩,
   ⟨some 28, .mv (.t 30), none⟩,
   ⟨some 31, .extract 0 (.t 28), none⟩,
   ⟨some 32, .extract 1 (.t 28), none⟩,
   ⟨some 8, .alloc true [.lst .nil 0 [], .lst .nil 0 []], none⟩,
   ⟨some 9, .alloc true [.int .i64 0, .int .i64 0], none⟩,
   ⟨none, .store 2 (.t 8) (.t 31), none⟩,
   ⟨none, .store 2 (.t 9) (.t 32), none⟩])
 (.seq (.region [
   ⟨some 34, .mv (.t 6), none⟩,
   ⟨some 35, .mv (.t 0), none⟩,
   ⟨some 36, .bin .add (.t 34) (.t 35), none⟩,
   ⟨some 37, .call K.parse_Prog [(.t 36)], none⟩,
   ⟨some 33, .mv (.t 37), none⟩,
   ⟨some 38, .extract 0 (.t 33), none⟩,
   ⟨some 39, .extract 1 (.t 33), none⟩,
   ⟨some 10, .alloc true [.lst .nil 0 [], .lst .nil 0 []], none⟩,
   ⟨some 11, .alloc true [.int .i64 0, .int .i64 0], none⟩,
   ⟨none, .store 2 (.t 10) (.t 38), none⟩,
   ⟨none, .store 2 (.t 11) (.t 39), none⟩])
 (.seq (.seq (.region [
   ⟨some 40, .faddr 1 (.t 9), none⟩,
   ⟨some 41, .load 1 false (.t 40), none⟩,
   ⟨some 42, .bin .neq (.t 41) (.k (.int .i64 0)), none⟩])
 (.cond (.t 42) (.seq (.rjoin [50] [43, 44, 45, 46, 47, 48, 49] [
     ⟨some 43, .call K.rabbetlaw09_awake [], none⟩,
     ⟨some 44, .mv (.t 43), none⟩,
     ⟨some 45, .faddr 1 (.t 11), some (44, true)⟩,
     ⟨some 46, .load 1 false (.t 45), some (44, true)⟩,
     ⟨some 47, .faddr 1 (.t 9), some (44, true)⟩,
     ⟨some 48, .load 1 false (.t 47), some (44, true)⟩,
     ⟨some 49, .bin .eql (.t 46) (.t 48), some (44, true)⟩,
     ⟨some 50, .pick (.t 44) (.t 49) (.k (.bool false)), none⟩]
   (.region [
     ⟨some 51, .mv (.t 50), none⟩,
     ⟨some 52, .faddr 0 (.t 11), some (51, true)⟩,
     ⟨some 53, .load 1 false (.t 52), some (51, true)⟩,
     ⟨some 54, .faddr 0 (.t 9), some (51, true)⟩,
     ⟨some 55, .load 1 false (.t 54), some (51, true)⟩,
     ⟨some 56, .mv (.t 5), some (51, true)⟩,
     ⟨some 57, .bin .add (.t 55) (.t 56), some (51, true)⟩,
     ⟨some 58, .bin .eql (.t 53) (.t 57), some (51, true)⟩,
     ⟨some 59, .mv (.t 58), some (51, true)⟩,
     ⟨some 60, .faddr 0 (.t 9), some (59, false)⟩,
     ⟨some 61, .load 1 false (.t 60), some (59, false)⟩,
     ⟨some 62, .bin .eql (.t 61) (.k (.int .i64 0)), some (59, false)⟩,
     ⟨some 63, .mv (.t 62), some (59, false)⟩,
     ⟨some 64, .faddr 0 (.t 11), some (63, true)⟩,
     ⟨some 65, .load 1 false (.t 64), some (63, true)⟩,
     ⟨some 66, .bin .eql (.t 65) (.k (.int .i64 0)), some (63, true)⟩,
     ⟨some 67, .pick (.t 63) (.t 66) (.k (.bool false)), some (59, false)⟩,
     ⟨some 68, .pick (.t 59) (.k (.bool true)) (.t 67), some (51, true)⟩,
     ⟨some 69, .pick (.t 51) (.t 68) (.k (.bool false)), none⟩,
     ⟨some 4, .mv (.t 69), none⟩]))
   (.ret))
   (.skip)))
 (.join [] [4, 70, 71, 72, 73, 74, 75, 76, 77, 78, 79, 80, 81] (.join [81] [70, 71, 72, 73, 74, 75, 76, 77, 78, 79, 80] (.region [
   ⟨some 70, .faddr 1 (.t 11), none⟩,
   ⟨some 71, .load 1 false (.t 70), none⟩,
   ⟨some 72, .bin .neq (.t 71) (.k (.int .i64 0)), none⟩,
   ⟨some 73, .mv (.t 72), none⟩,
   ⟨some 74, .faddr 1 (.t 8), some (73, false)⟩,
   ⟨some 75, .load 1 false (.t 74), some (73, false)⟩,
   ⟨some 76, .len false (.t 75), some (73, false)⟩,
   ⟨some 77, .faddr 1 (.t 10), some (73, false)⟩,
   ⟨some 78, .load 1 false (.t 77), some (73, false)⟩,
   ⟨some 79, .len false (.t 78), some (73, false)⟩,
   ⟨some 80, .bin .neq (.t 76) (.t 79), some (73, false)⟩,
   ⟨some 81, .pick (.t 73) (.k (.bool true)) (.t 80), none⟩])
 (.cond (.t 81) (.seq (.region [
     ⟨some 4, .mv (.k (.bool false)), none⟩])
   (.ret))
   (.skip)))
 (.join [] [4, 12, 13, 82, 83, 84, 85, 86, 87, 88, 89, 90, 91, 92, 93, 94, 95, 96, 97, 98, 99, 100, 101, 102, 103, 104, 105, 106, 107, 108, 109, 110, 111, 112, 113, 114, 115, 116, 117, 118, 119, 120, 121, 122, 123, 124, 125, 126, 127, 128, 129, 130, 131, 132] (.seq (.region [
   ⟨some 12, .mv (.k (.int .i64 0)), none⟩])
 (.block 2 (.loop [12] [4, 13, 82, 83, 84, 85, 86, 87, 88, 89, 90, 91, 92, 93, 94, 95, 96, 97, 98, 99, 100, 101, 102, 103, 104, 105, 106, 107, 108, 109, 110, 111, 112, 113, 114, 115, 116, 117, 118, 119, 120, 121, 122, 123, 124, 125, 126, 127, 128, 129, 130, 131, 132] (.seq (.seq (.region [
   ⟨some 82, .mv (.t 12), none⟩,
   ⟨some 83, .faddr 1 (.t 8), none⟩,
   ⟨some 84, .load 1 false (.t 83), none⟩,
   ⟨some 85, .len false (.t 84), none⟩,
   ⟨some 86, .bin .lss (.t 82) (.t 85), none⟩])
 (.cond (.t 86) (.skip)
   (.exit 2)))
 (.join [] [4, 13, 89, 90, 91, 92, 93, 94, 95, 96, 97, 98, 99, 100, 101, 102, 103, 104, 105, 106, 107, 108, 109, 110, 111, 112, 113, 114, 115, 116, 117, 118, 119, 120, 121, 122, 123, 124, 125, 126, 127, 128, 129, 130, 131, 132] (.block 3 (.seq (.seq (.draw [
   ⟨some 89, .faddr 1 (.t 8), none⟩,
   ⟨some 90, .load 1 false (.t 89), none⟩,
   ⟨some 91, .mv (.t 12), none⟩,
   ⟨some 92, .iaddr none 1 (.t 90) (.t 91), none⟩,
   ⟨some 93, .load 1 false (.t 92), none⟩,
   ⟨some 94, .len false (.t 93), none⟩,
   ⟨some 95, .faddr 1 (.t 10), none⟩,
   ⟨some 96, .load 1 false (.t 95), none⟩,
   ⟨some 97, .mv (.t 12), none⟩,
   ⟨some 98, .iaddr none 1 (.t 96) (.t 97), none⟩,
   ⟨some 99, .load 1 false (.t 98), none⟩,
   ⟨some 100, .len false (.t 99), none⟩,
   ⟨some 101, .bin .neq (.t 94) (.t 100), none⟩]
 [[], [0], [], [0, 1, 2], [0, 1, 2, 3], [0, 1, 2, 3, 4], [], [6], [], [6, 7, 8], [6, 7, 8, 9], [6, 7, 8, 9, 10], [0, 1, 2, 3, 4, 5, 6, 7, 8, 9, 10, 11]] [] [0, 1, 2, 3, 4, 5, 6, 7, 8, 9, 10, 11, 12])
 (.cond (.t 101) (.seq (.region [
     ⟨some 4, .mv (.k (.bool false)), none⟩])
   (.ret))
   (.skip)))
 (.seq (.region [
   ⟨some 13, .mv (.k (.int .i64 0)), none⟩])
 (.block 4 (.loop [13] [4, 102, 103, 104, 105, 106, 107, 108, 109, 110, 111, 112, 113, 114, 115, 116, 117, 118, 119, 120, 121, 122, 123, 124, 125, 126, 127, 128, 129, 130, 131, 132] (.seq (.seq (.region [
   ⟨some 102, .mv (.t 13), none⟩,
   ⟨some 103, .faddr 1 (.t 8), none⟩,
   ⟨some 104, .load 1 false (.t 103), none⟩,
   ⟨some 105, .mv (.t 12), none⟩,
   ⟨some 106, .iaddr none 1 (.t 104) (.t 105), none⟩,
   ⟨some 107, .load 1 false (.t 106), none⟩,
   ⟨some 108, .len false (.t 107), none⟩,
   ⟨some 109, .bin .lss (.t 102) (.t 108), none⟩])
 (.cond (.t 109) (.skip)
   (.exit 4)))
 (.seq (.block 5 (.seq (.draw [
   ⟨some 112, .faddr 1 (.t 10), none⟩,
   ⟨some 113, .load 1 false (.t 112), none⟩,
   ⟨some 114, .mv (.t 12), none⟩,
   ⟨some 115, .iaddr none 1 (.t 113) (.t 114), none⟩,
   ⟨some 116, .load 1 false (.t 115), none⟩,
   ⟨some 117, .mv (.t 13), none⟩,
   ⟨some 118, .iaddr none 10 (.t 116) (.t 117), none⟩,
   ⟨some 119, .faddr 1 (.t 118), none⟩,
   ⟨some 120, .load 1 false (.t 119), none⟩,
   ⟨some 121, .faddr 1 (.t 8), none⟩,
   ⟨some 122, .load 1 false (.t 121), none⟩,
   ⟨some 123, .mv (.t 12), none⟩,
   ⟨some 124, .iaddr none 1 (.t 122) (.t 123), none⟩,
   ⟨some 125, .load 1 false (.t 124), none⟩,
   ⟨some 126, .mv (.t 13), none⟩,
   ⟨some 127, .iaddr none 10 (.t 125) (.t 126), none⟩,
   ⟨some 128, .faddr 1 (.t 127), none⟩,
   ⟨some 129, .load 1 false (.t 128), none⟩,
   ⟨some 130, .mv (.t 5), none⟩,
   ⟨some 131, .bin .add (.t 129) (.t 130), none⟩,
   ⟨some 132, .bin .neq (.t 120) (.t 131), none⟩]
 [[], [0], [], [0, 1, 2], [0, 1, 2, 3], [], [0, 1, 2, 3, 4, 5], [0, 1, 2, 3, 4, 5, 6], [0, 1, 2, 3, 4, 5, 6, 7], [], [9], [], [9, 10, 11], [9, 10, 11, 12], [], [9, 10, 11, 12, 13, 14], [9, 10, 11, 12, 13, 14, 15], [9, 10, 11, 12, 13, 14, 15, 16], [], [9, 10, 11, 12, 13, 14, 15, 16, 17, 18], [0, 1, 2, 3, 4, 5, 6, 7, 8, 9, 10, 11, 12, 13, 14, 15, 16, 17, 18, 19]] [] [0, 1, 2, 3, 4, 5, 6, 7, 8, 9, 10, 11, 12, 13, 14, 15, 16, 17, 18, 19, 20])
 (.cond (.t 132) (.seq (.region [
     ⟨some 4, .mv (.k (.bool false)), none⟩])
   (.ret))
   (.skip))))
 (.region [
   ⟨some 110, .mv (.t 13), none⟩,
   ⟨some 111, .bin .add (.t 110) (.k (.int .i64 1)), none⟩,
   ⟨some 13, .mv (.t 111), none⟩]))))))))
 (.region [
   ⟨some 87, .mv (.t 12), none⟩,
   ⟨some 88, .bin .add (.t 87) (.k (.int .i64 1)), none⟩,
   ⟨some 12, .mv (.t 88), none⟩]))))))
 (.seq (.region [
   ⟨some 133, .call K.rabbetlaw09_awake [], none⟩,
   ⟨some 4, .mv (.t 133), none⟩])
 (.ret)))))))))))⟩
theorem eq_rabbetlaw09_ParseMoves (Φ : Calls') (a0 a1 : AV) (H : AH) (Q : Post) : fnE1 Φ ir_rabbetlaw09_ParseMoves [a0, a1] H Q = rabbetlaw09_ParseMoves Φ a0 a1 H Q := by kernel_rfl

/-! rabbet/rabbetref08.Words -/
def rabbetref08_Words_k1 (Φ : Calls') (a0 : AV) (x1 : AV) (s10 : List AV × AH) (L11 : (List AV × AH) → Prop) (j14 : List AV) (Q : Post) : List AV → AH → Prop := fun j19 H20 =>
Φ K.rabbetref08_one [a0, (sl j19 0)] H20 fun x28 H29 =>
 Do (abin .eql x28 (.int .i64 0)) fun x30 =>
 Gd x30 true (
 Do (abuild [.int .i64 0, .int .i64 0] [(0, 1, (sl j14 0)), (1, 1, (.int .i64 3))]) fun x31 =>
 Do (astore H29 2 x1 x31) fun H32 =>
 Do (aload H32 2 true x1) fun x33 =>
 Q (.tup [(.lst .nil 0 []), x33]) H32) (
 Do (abin .add (sl j19 0) x28) fun x34 =>
 Do (asslice a0 (some (sl j19 0)) (some x34)) fun x35 =>
 Do (abuild [.str [], .int .i64 0] [(0, 1, x35), (1, 1, (sl j14 0))]) fun x36 =>
 DoH (abslice H29 false 2 1 [.str [], .int .i64 0] [(0, 2, x36)]) fun x37 H38 =>
 DoH (aappend H38 false 2 24 (sl s10.1 0) x37) fun x39 H40 =>
 Do (abin .add (sl j19 0) x28) fun x41 =>
 L11 ([x39, (sl j14 0), x41], H40))
def rabbetref08_Words_k2 (Φ : Calls') (a0 : AV) (x1 : AV) (s10 : List AV × AH) (L11 : (List AV × AH) → Prop) (j14 : List AV) (Q : Post) : List AV → AH → Prop := fun j21 H22 =>
 Gd (sl j21 0) true (
 Do (abin .add (sl s10.1 2) (.int .i64 1)) fun x27 =>
 L11 ([(sl s10.1 0), (sl j14 0), x27], H22)) (
 JoinP (rabbetref08_Words_k1 Φ a0 x1 s10 L11 j14 Q) [(sl s10.1 2)] H22)
def rabbetref08_Words_k3 (Φ : Calls') (a0 : AV) (x1 : AV) (s10 : List AV × AH) (L11 : (List AV × AH) → Prop) (Q : Post) : List AV → AH → Prop := fun j14 H15 =>
 Do (aidxs a0 (sl s10.1 2)) fun x23 =>
 Do (abin .eql x23 (.int .u8 10)) fun x24 =>
 Gd3 x24 false (
 Do (aidxs a0 (sl s10.1 2)) fun x25 =>
 Do (abin .eql x25 (.int .u8 32)) fun x26 =>
 JoinP (rabbetref08_Words_k2 Φ a0 x1 s10 L11 j14 Q) [x26] H15) (
 JoinP (rabbetref08_Words_k2 Φ a0 x1 s10 L11 j14 Q) [(.bool true)] H15) (
 False)
def rabbetref08_Words_k4 (Φ : Calls') (x1 : AV) (Q : Post) : List AV → AH → Prop := fun j8 H9 =>
 Do (abuild [.int .i64 0, .int .i64 0] []) fun x42 =>
 Do (astore H9 2 x1 x42) fun H43 =>
 Do (aload H43 2 true x1) fun x44 =>
 Q (.tup [(sl j8 0), x44]) H43
def rabbetref08_Words_l5 (Φ : Calls') (a0 : AV) (x1 : AV) (Q : Post) : (List AV × AH) → ((List AV × AH) → Prop) → Prop := fun s10 L11 =>
 Do (alen true a0) fun x12 =>
 Do (abin .lss (sl s10.1 2) x12) fun x13 =>
 Gd x13 true (
 Do (aidxs a0 (sl s10.1 2)) fun x16 =>
 Do (abin .eql x16 (.int .u8 10)) fun x17 =>
 Gd x17 true (
 Do (abin .add (sl s10.1 1) (.int .i64 1)) fun x18 =>
 JoinP (rabbetref08_Words_k3 Φ a0 x1 s10 L11 Q) [x18] s10.2) (
 JoinP (rabbetref08_Words_k3 Φ a0 x1 s10 L11 Q) [(sl s10.1 1)] s10.2)) (
 JoinP (rabbetref08_Words_k4 Φ x1 Q) [(sl s10.1 0)] s10.2)
def rabbetref08_Words (Φ : Calls') (a0 : AV) (H : AH) (Q : Post) : Prop :=
 DoH (some (abox H true [.int .i64 0, .int .i64 0])) fun x1 H2 =>
 Do (alen true a0) fun x3 =>
 Do (abin .gtr x3 (.int .i64 1048576)) fun x4 =>
 Gd x4 true (
 Do (abuild [.int .i64 0, .int .i64 0] [(1, 1, (.int .i64 12))]) fun x5 =>
 Do (astore H2 2 x1 x5) fun H6 =>
 Do (aload H6 2 true x1) fun x7 =>
 Q (.tup [(.lst .nil 0 []), x7]) H6) (
 LoopP (rabbetref08_Words_l5 Φ a0 x1 Q) ([(.lst .nil 0 []), (.int .i64 1), (.int .i64 0)], H2))
def ir_rabbetref08_Words : AFunc := ⟨57, [.tmp 2, .cell 3 2 true],
 .seq (.region [
   ⟨some 2, .mv (.k (.lst .nil 0 [])), none⟩,
   ⟨some 3, .alloc true [.int .i64 0, .int .i64 0], none⟩])
 (.seq (.seq (.region [
   ⟨some 8, .mv (.t 0), none⟩,
   ⟨some 9, .len true (.t 8), none⟩,
   ⟨some 10, .bin .gtr (.t 9) (.k (.int .i64 1048576)), none⟩])
 (.cond (.t 10) (.seq (.region [
     ⟨some 11, .build [.int .i64 0, .int .i64 0] [(1, 1, (.k (.int .i64 12)))], none⟩,
     ⟨some 2, .mv (.k (.lst .nil 0 [])), none⟩,
     ⟨none, .store 2 (.t 3) (.t 11), none⟩])
   (.ret))
   (.skip)))
 (.seq (.region [
   ⟨some 4, .mv (.k (.lst .nil 0 [])), none⟩])
 (.seq (.region [
   ⟨some 5, .mv (.k (.int .i64 1)), none⟩])
 (.join [4] [2, 5, 6, 7, 12, 13, 14, 15, 16, 17, 18, 19, 20, 21, 22, 23, 24, 25, 26, 27, 28, 29, 30, 31, 32, 33, 34, 35, 36, 37, 38, 39, 40, 41, 42, 43, 44, 45, 46, 47, 48, 49, 50, 51, 52, 53, 54] (.seq (.region [
   ⟨some 6, .mv (.k (.int .i64 0)), none⟩])
 (.block 0 (.loop [4, 5, 6] [2, 7, 12, 13, 14, 15, 16, 17, 18, 19, 20, 21, 22, 23, 24, 25, 26, 27, 28, 29, 30, 31, 32, 33, 34, 35, 36, 37, 38, 39, 40, 41, 42, 43, 44, 45, 46, 47, 48, 49, 50, 51, 52, 53, 54] (.seq (.seq (.region [
   ⟨some 12, .mv (.t 6), none⟩,
   ⟨some 13, .mv (.t 0), none⟩,
   ⟨some 14, .len true (.t 13), none⟩,
   ⟨some 15, .bin .lss (.t 12) (.t 14), none⟩])
 (.cond (.t 15) (.skip)
   (.exit 0)))
 (.block 1 (.join [5] [16, 17, 18, 19, 20, 21] (.seq (.region [
   ⟨some 16, .mv (.t 0), none⟩,
   ⟨some 17, .mv (.t 6), none⟩,
   ⟨some 18, .idxs (.t 16) (.t 17), none⟩,
   ⟨some 19, .bin .eql (.t 18) (.k (.int .u8 10)), none⟩])
 (.cond (.t 19) (.region [
     ⟨some 20, .mv (.t 5), none⟩,
     ⟨some 21, .bin .add (.t 20) (.k (.int .i64 1)), none⟩,
     ⟨some 5, .mv (.t 21), none⟩])
   (.skip)))
 (.join [6] [22, 23, 24, 25, 26, 27, 28, 29, 30, 31, 32, 33] (.join [31] [22, 23, 24, 25, 26, 27, 28, 29, 30] (.region [
   ⟨some 22, .mv (.t 0), none⟩,
   ⟨some 23, .mv (.t 6), none⟩,
   ⟨some 24, .idxs (.t 22) (.t 23), none⟩,
   ⟨some 25, .bin .eql (.t 24) (.k (.int .u8 10)), none⟩,
   ⟨some 26, .mv (.t 25), none⟩,
   ⟨some 27, .mv (.t 0), some (26, false)⟩,
   ⟨some 28, .mv (.t 6), some (26, false)⟩,
   ⟨some 29, .idxs (.t 27) (.t 28), some (26, false)⟩,
   ⟨some 30, .bin .eql (.t 29) (.k (.int .u8 32)), some (26, false)⟩,
   ⟨some 31, .pick (.t 26) (.k (.bool true)) (.t 30), none⟩])
 (.cond (.t 31) (.seq (.region [
     ⟨some 32, .mv (.t 6), none⟩,
     ⟨some 33, .bin .add (.t 32) (.k (.int .i64 1)), none⟩,
     ⟨some 6, .mv (.t 33), none⟩])
   (.exit 1))
   (.skip)))
 (.seq (.region [
   ⟨some 34, .mv (.t 0), none⟩,
   ⟨some 35, .mv (.t 6), none⟩,
   ⟨some 36, .call K.rabbetref08_one [(.t 34), (.t 35)], none⟩,
   ⟨some 7, .mv (.t 36), none⟩])
 (.seq (.seq (.region [
   ⟨some 37, .mv (.t 7), none⟩,
   ⟨some 38, .bin .eql (.t 37) (.k (.int .i64 0)), none⟩])
 (.cond (.t 38) (.seq (.region [
     ⟨some 39, .mv (.t 5), none⟩,
     ⟨some 40, .build [.int .i64 0, .int .i64 0] [(0, 1, (.t 39)), (1, 1, (.k (.int .i64 3)))], none⟩,
     ⟨some 2, .mv (.k (.lst .nil 0 [])), none⟩,
     ⟨none, .store 2 (.t 3) (.t 40), none⟩])
   (.ret))
   (.skip)))
 (.seq (.region [
   ⟨some 41, .mv (.t 4), none⟩,
   ⟨some 42, .mv (.t 0), none⟩,
   ⟨some 43, .mv (.t 6), none⟩,
   ⟨some 44, .mv (.t 6), none⟩,
   ⟨some 45, .mv (.t 7), none⟩,
   ⟨some 46, .bin .add (.t 44) (.t 45), none⟩,
   ⟨some 47, .sslice (.t 42) (some (.t 43)) (some (.t 46)), none⟩,
   ⟨some 48, .mv (.t 5), none⟩,
   ⟨some 49, .build [.str [], .int .i64 0] [(0, 1, (.t 47)), (1, 1, (.t 48))], none⟩,
   ⟨some 50, .bslice false 2 1 [.str [], .int .i64 0] [(0, 2, (.t 49))], none⟩,
   ⟨some 51, .append false 2 24 (.t 41) (.t 50), none⟩,
   ⟨some 4, .mv (.t 51), none⟩])
 (.region [
   ⟨some 52, .mv (.t 6), none⟩,
   ⟨some 53, .mv (.t 7), none⟩,
   ⟨some 54, .bin .add (.t 52) (.t 53), none⟩,
   ⟨some 6, .mv (.t 54), none⟩])))))))))))
 (.seq (.region [
   ⟨some 55, .mv (.t 4), none⟩,
   ⟨some 56, .build [.int .i64 0, .int .i64 0] [], none⟩,
   ⟨some 2, .mv (.t 55), none⟩,
   ⟨none, .store 2 (.t 3) (.t 56), none⟩])
 (.ret))))))⟩
theorem eq_rabbetref08_Words (Φ : Calls') (a0 : AV) (H : AH) (Q : Post) : fnE1 Φ ir_rabbetref08_Words [a0] H Q = rabbetref08_Words Φ a0 H Q := by kernel_rfl

/-! rabbet/rabbetlaw09.awake -/
def rabbetlaw09_awake_k1 (Φ : Calls') (x15 : AV) (Q : Post) : List AV → AH → Prop := fun j88 H89 =>
 Gd3 (sl j88 0) true (
 Do (afaddr 5 x15) fun x93 =>
 Do (aload H89 1 false x93) fun x94 =>
 Do (aiaddr none 6 x94 (.int .i64 0)) fun x95 =>
 Do (afaddr 3 x95) fun x96 =>
 Do (aload H89 1 false x96) fun x97 =>
 Do (alen false x97) fun x98 =>
 Do (abin .eql x98 (.int .i64 2)) fun x99 =>
 Q x99 H89) (
 Q (.bool false) H89) (
 False)
def rabbetlaw09_awake_k2 (Φ : Calls') (x15 : AV) (Q : Post) : List AV → AH → Prop := fun j75 H76 =>
 Gd3 (sl j75 0) true (
 Do (afaddr 4 x15) fun x90 =>
 Do (aload H76 1 false x90) fun x91 =>
 Do (abin .eql x91 (.int .i64 3)) fun x92 =>
 JoinP (rabbetlaw09_awake_k1 Φ x15 Q) [x92] H76) (
 JoinP (rabbetlaw09_awake_k1 Φ x15 Q) [(.bool false)] H76) (
 False)
def rabbetlaw09_awake_k3 (Φ : Calls') (x5 : AV) (x15 : AV) (Q : Post) : List AV → AH → Prop := fun j65 H66 =>
 Gd3 (sl j65 0) true (
 Do (afaddr 1 x5) fun x77 =>
 Do (aload H66 1 false x77) fun x78 =>
 Do (aiaddr none 1 x78 (.int .i64 0)) fun x79 =>
 Do (aload H66 1 false x79) fun x80 =>
 Do (aiaddr none 10 x80 (.int .i64 0)) fun x81 =>
 Do (afaddr 7 x81) fun x82 =>
 Do (aload H66 1 false x82) fun x83 =>
 Do (aiaddr none 8 x83 (.int .i64 0)) fun x84 =>
 Do (afaddr 0 x84) fun x85 =>
 Do (aload H66 1 false x85) fun x86 =>
 Do (abin .eql x86 (.int .i64 6)) fun x87 =>
 JoinP (rabbetlaw09_awake_k2 Φ x15 Q) [x87] H66) (
 JoinP (rabbetlaw09_awake_k2 Φ x15 Q) [(.bool false)] H66) (
 False)
def rabbetlaw09_awake_k4 (Φ : Calls') (x5 : AV) (x15 : AV) (Q : Post) : List AV → AH → Prop := fun j59 H60 =>
 Gd3 (sl j59 0) true (
 Do (afaddr 1 x5) fun x67 =>
 Do (aload H60 1 false x67) fun x68 =>
 Do (aiaddr none 1 x68 (.int .i64 0)) fun x69 =>
 Do (aload H60 1 false x69) fun x70 =>
 Do (aiaddr none 10 x70 (.int .i64 0)) fun x71 =>
 Do (afaddr 1 x71) fun x72 =>
 Do (aload H60 1 false x72) fun x73 =>
 Do (abin .eql x73 (.int .i64 2)) fun x74 =>
 JoinP (rabbetlaw09_awake_k3 Φ x5 x15 Q) [x74] H60) (
 JoinP (rabbetlaw09_awake_k3 Φ x5 x15 Q) [(.bool false)] H60) (
 False)
def rabbetlaw09_awake_k5 (Φ : Calls') (x5 : AV) (x15 : AV) (Q : Post) : List AV → AH → Prop := fun j50 H51 =>
 Gd3 (sl j50 0) true (
 Do (afaddr 1 x5) fun x61 =>
 Do (aload H51 1 false x61) fun x62 =>
 Do (alen false x62) fun x63 =>
 Do (abin .eql x63 (.int .i64 1)) fun x64 =>
 JoinP (rabbetlaw09_awake_k4 Φ x5 x15 Q) [x64] H51) (
 JoinP (rabbetlaw09_awake_k4 Φ x5 x15 Q) [(.bool false)] H51) (
 False)
def rabbetlaw09_awake_k6 (Φ : Calls') (x5 : AV) (x15 : AV) (Q : Post) : List AV → AH → Prop := fun j44 H45 =>
 Gd3 (sl j44 0) true (
 Do (afaddr 0 x5) fun x52 =>
 Do (aload H45 1 false x52) fun x53 =>
 Do (aiaddr none 7 x53 (.int .i64 0)) fun x54 =>
 Do (afaddr 1 x54) fun x55 =>
 Do (afaddr 1 x55) fun x56 =>
 Do (aload H45 1 false x56) fun x57 =>
 Do (abin .eql x57 (.int .i64 4)) fun x58 =>
 JoinP (rabbetlaw09_awake_k5 Φ x5 x15 Q) [x58] H45) (
 JoinP (rabbetlaw09_awake_k5 Φ x5 x15 Q) [(.bool false)] H45) (
 False)
def rabbetlaw09_awake_k7 (Φ : Calls') (x5 : AV) (x15 : AV) (Q : Post) : List AV → AH → Prop := fun j39 H40 =>
 Gd3 (sl j39 0) true (
 Do (afaddr 0 x5) fun x46 =>
 Do (aload H40 1 false x46) fun x47 =>
 Do (alen false x47) fun x48 =>
 Do (abin .eql x48 (.int .i64 1)) fun x49 =>
 JoinP (rabbetlaw09_awake_k6 Φ x5 x15 Q) [x49] H40) (
 JoinP (rabbetlaw09_awake_k6 Φ x5 x15 Q) [(.bool false)] H40) (
 False)
def rabbetlaw09_awake_k8 (Φ : Calls') (x5 : AV) (x15 : AV) (x27 : AV) (Q : Post) : List AV → AH → Prop := fun j31 H32 =>
 Gd3 (sl j31 0) true (
 Do (aload H32 2 true x27) fun x41 =>
 Do (abuild [.int .i64 0, .int .i64 0] [(0, 1, (.int .i64 2)), (1, 1, (.int .i64 4))]) fun x42 =>
 Do (aeqAgg false [.n, .n] x41 x42) fun x43 =>
 JoinP (rabbetlaw09_awake_k7 Φ x5 x15 Q) [x43] H32) (
 JoinP (rabbetlaw09_awake_k7 Φ x5 x15 Q) [(.bool false)] H32) (
 False)
def rabbetlaw09_awake (Φ : Calls') (H : AH) (Q : Post) : Prop :=
Φ K.parse_Prog [(.str [118, 97, 114, 32, 120, 32, 97, 51, 50, 32, 59, 32, 116, 104, 114, 101, 97, 100, 32, 123, 10, 108, 101, 116, 32, 121, 32, 61, 32, 97, 100, 100, 32, 114, 108, 120, 32, 120, 32, 49, 32, 59, 32, 125])] H fun x1 H2 =>
 Do (aextract 0 x1) fun x3 =>
 Do (aextract 1 x1) fun x4 =>
 DoH (some (abox H2 true [.lst .nil 0 [], .lst .nil 0 []])) fun x5 H6 =>
 DoH (some (abox H6 true [.int .i64 0, .int .i64 0])) fun x7 H8 =>
 Do (astore H8 2 x5 x3) fun H9 =>
 Do (astore H9 2 x7 x4) fun H10 =>
Φ K.parse_Type [(.str [91, 32, 51, 32, 93, 32, 115, 116, 114, 117, 99, 116, 32, 123, 32, 97, 32, 117, 56, 32, 58, 32, 50, 32, 59, 32, 95, 32, 117, 51, 50, 32, 58, 32, 48, 32, 59, 32, 125])] H10 fun x11 H12 =>
 Do (aextract 0 x11) fun x13 =>
 Do (aextract 1 x11) fun x14 =>
 DoH (some (abox H12 true [.int .i64 0, .int .i64 0, .bool false, .lst .nil 0 [], .int .i64 0, .lst .nil 0 []])) fun x15 H16 =>
 DoH (some (abox H16 true [.int .i64 0, .int .i64 0])) fun x17 H18 =>
 Do (astore H18 6 x15 x13) fun H19 =>
 Do (astore H19 2 x17 x14) fun H20 =>
Φ K.parse_Prog [(.str [116, 104, 114, 101, 97, 100, 32, 123, 10, 108, 101, 116, 32, 59, 32, 125])] H20 fun x21 H22 =>
 Do (aextract 0 x21) fun x23 =>
 Do (aextract 1 x21) fun x24 =>
 DoH (some (abox H22 true [.lst .nil 0 [], .lst .nil 0 []])) fun x25 H26 =>
 DoH (some (abox H26 true [.int .i64 0, .int .i64 0])) fun x27 H28 =>
 Do (astore H28 2 x25 x23) fun H29 =>
 Do (astore H29 2 x27 x24) fun H30 =>
 Do (afaddr 1 x7) fun x33 =>
 Do (aload H30 1 false x33) fun x34 =>
 Do (abin .eql x34 (.int .i64 0)) fun x35 =>
 Gd3 x35 true (
 Do (afaddr 1 x17) fun x36 =>
 Do (aload H30 1 false x36) fun x37 =>
 Do (abin .eql x37 (.int .i64 0)) fun x38 =>
 JoinP (rabbetlaw09_awake_k8 Φ x5 x15 x27 Q) [x38] H30) (
 JoinP (rabbetlaw09_awake_k8 Φ x5 x15 x27 Q) [(.bool false)] H30) (
 False)
def ir_rabbetlaw09_awake : AFunc := ⟨90, [.tmp 0],
 .seq (.region [
   ⟨some 0, .mv (.k (.bool false)), none⟩])
 (.seq (.region [
   ⟨some 8, .call K.parse_Prog [(.k (.str [118, 97, 114, 32, 120, 32, 97, 51, 50, 32, 59, 32, 116, 104, 114, 101, 97, 100, 32, 123, 10, 108, 101, 116, 32, 121, 32, 61, 32, 97, 100, 100, 32, 114, 108, 120, 32, 120, 32, 49, 32, 59, 32, 125]))], none⟩,
   ⟨some 7, .mv (.t 8), none⟩,
   ⟨some 9, .extract 0 (.t 7), none⟩,
   ⟨some 10, .extract 1 (.t 7), none⟩,
   ⟨some 1, .alloc true [.lst .nil 0 [], .lst .nil 0 []], none⟩,
   ⟨some 2, .alloc true [.int .i64 0, .int .i64 0], none⟩,
   ⟨none, .store 2 (.t 1) (.t 9), none⟩,
   ⟨none, .store 2 (.t 2) (.t 10), none⟩])
 (.seq (.region [
   ⟨some 12, .call K.parse_Type [(.k (.str [91, 32, 51, 32, 93, 32, 115, 116, 114, 117, 99, 116, 32, 123, 32, 97, 32, 117, 56, 32, 58, 32, 50, 32, 59, 32, 95, 32, 117, 51, 50, 32, 58, 32, 48, 32, 59, 32, 125]))], none⟩,
   ⟨some 11, .mv (.t 12), none⟩,
   ⟨some 13, .extract 0 (.t 11), none⟩,
   ⟨some 14, .extract 1 (.t 11), none⟩,
   ⟨some 3, .alloc true [.int .i64 0, .int .i64 0, .bool false, .lst .nil 0 [], .int .i64 0, .lst .nil 0 []], none⟩,
   ⟨some 4, .alloc true [.int .i64 0, .int .i64 0], none⟩,
   ⟨none, .store 6 (.t 3) (.t 13), none⟩,
   ⟨none, .store 2 (.t 4) (.t 14), none⟩])
 (.seq (.region [
   ⟨some 16, .call K.parse_Prog [(.k (.str [116, 104, 114, 101, 97, 100, 32, 123, 10, 108, 101, 116, 32, 59, 32, 125]))], none⟩,
   ⟨some 15, .mv (.t 16), none⟩,
   ⟨some 17, .extract 0 (.t 15), none⟩,
   ⟨some 18, .extract 1 (.t 15), none⟩,
   ⟨some 5, .alloc true [.lst .nil 0 [], .lst .nil 0 []], none⟩,
   ⟨some 6, .alloc true [.int .i64 0, .int .i64 0], none⟩,
   ⟨none, .store 2 (.t 5) (.t 17), none⟩,
   ⟨none, .store 2 (.t 6) (.t 18), none⟩])
 (.seq (.rjoin [26] [19, 20, 21, 22, 23, 24, 25] [
   ⟨some 19, .faddr 1 (.t 2), none⟩,
   ⟨some 20, .load 1 false (.t 19), none⟩,
   ⟨some 21, .bin .eql (.t 20) (.k (.int .i64 0)), none⟩,
   ⟨some 22, .mv (.t 21), none⟩,
   ⟨some 23, .faddr 1 (.t 4), some (22, true)⟩,
   ⟨some 24, .load 1 false (.t 23), some (22, true)⟩,
   ⟨some 25, .bin .eql (.t 24) (.k (.int .i64 0)), some (22, true)⟩,
   ⟨some 26, .pick (.t 22) (.t 25) (.k (.bool false)), none⟩]
 (.rjoin [31] [27, 28, 29, 30] [
   ⟨some 27, .mv (.t 26), none⟩,
   ⟨some 28, .load 2 true (.t 6), some (27, true)⟩,
   ⟨some 29, .build [.int .i64 0, .int .i64 0] [(0, 1, (.k (.int .i64 2))), (1, 1, (.k (.int .i64 4)))], some (27, true)⟩,
   ⟨some 30, .eqagg false [.n, .n] (.t 28) (.t 29), some (27, true)⟩,
   ⟨some 31, .pick (.t 27) (.t 30) (.k (.bool false)), none⟩]
 (.rjoin [37] [32, 33, 34, 35, 36] [
   ⟨some 32, .mv (.t 31), none⟩,
   ⟨some 33, .faddr 0 (.t 1), some (32, true)⟩,
   ⟨some 34, .load 1 false (.t 33), some (32, true)⟩,
   ⟨some 35, .len false (.t 34), some (32, true)⟩,
   ⟨some 36, .bin .eql (.t 35) (.k (.int .i64 1)), some (32, true)⟩,
   ⟨some 37, .pick (.t 32) (.t 36) (.k (.bool false)), none⟩]
 (.rjoin [46] [38, 39, 40, 41, 42, 43, 44, 45] [
   ⟨some 38, .mv (.t 37), none⟩,
   ⟨some 39, .faddr 0 (.t 1), some (38, true)⟩,
   ⟨some 40, .load 1 false (.t 39), some (38, true)⟩,
   ⟨some 41, .iaddr none 7 (.t 40) (.k (.int .i64 0)), some (38, true)⟩,
   ⟨some 42, .faddr 1 (.t 41), some (38, true)⟩,
   ⟨some 43, .faddr 1 (.t 42), some (38, true)⟩,
   ⟨some 44, .load 1 false (.t 43), some (38, true)⟩,
   ⟨some 45, .bin .eql (.t 44) (.k (.int .i64 4)), some (38, true)⟩,
   ⟨some 46, .pick (.t 38) (.t 45) (.k (.bool false)), none⟩]
 (.rjoin [52] [47, 48, 49, 50, 51] [
   ⟨some 47, .mv (.t 46), none⟩,
   ⟨some 48, .faddr 1 (.t 1), some (47, true)⟩,
   ⟨some 49, .load 1 false (.t 48), some (47, true)⟩,
   ⟨some 50, .len false (.t 49), some (47, true)⟩,
   ⟨some 51, .bin .eql (.t 50) (.k (.int .i64 1)), some (47, true)⟩,
   ⟨some 52, .pick (.t 47) (.t 51) (.k (.bool false)), none⟩]
 (.rjoin [62] [53, 54, 55, 56, 57, 58, 59, 60, 61] [
   ⟨some 53, .mv (.t 52), none⟩,
   ⟨some 54, .faddr 1 (.t 1), some (53, true)⟩,
   ⟨some 55, .load 1 false (.t 54), some (53, true)⟩,
   ⟨some 56, .iaddr none 1 (.t 55) (.k (.int .i64 0)), some (53, true)⟩,
   ⟨some 57, .load 1 false (.t 56), some (53, true)⟩,
   ⟨some 58, .iaddr none 10 (.t 57) (.k (.int .i64 0)), some (53, true)⟩,
   ⟨some 59, .faddr 1 (.t 58), some (53, true)⟩,
   ⟨some 60, .load 1 false (.t 59), some (53, true)⟩,
   ⟨some 61, .bin .eql (.t 60) (.k (.int .i64 2)), some (53, true)⟩,
   ⟨some 62, .pick (.t 53) (.t 61) (.k (.bool false)), none⟩]
 (.rjoin [75] [63, 64, 65, 66, 67, 68, 69, 70, 71, 72, 73, 74] [
   ⟨some 63, .mv (.t 62), none⟩,
   ⟨some 64, .faddr 1 (.t 1), some (63, true)⟩,
   ⟨some 65, .load 1 false (.t 64), some (63, true)⟩,
   ⟨some 66, .iaddr none 1 (.t 65) (.k (.int .i64 0)), some (63, true)⟩,
   ⟨some 67, .load 1 false (.t 66), some (63, true)⟩,
   ⟨some 68, .iaddr none 10 (.t 67) (.k (.int .i64 0)), some (63, true)⟩,
   ⟨some 69, .faddr 7 (.t 68), some (63, true)⟩,
   ⟨some 70, .load 1 false (.t 69), some (63, true)⟩,
   ⟨some 71, .iaddr none 8 (.t 70) (.k (.int .i64 0)), some (63, true)⟩,
   ⟨some 72, .faddr 0 (.t 71), some (63, true)⟩,
   ⟨some 73, .load 1 false (.t 72), some (63, true)⟩,
   ⟨some 74, .bin .eql (.t 73) (.k (.int .i64 6)), some (63, true)⟩,
   ⟨some 75, .pick (.t 63) (.t 74) (.k (.bool false)), none⟩]
 (.rjoin [80] [76, 77, 78, 79] [
   ⟨some 76, .mv (.t 75), none⟩,
   ⟨some 77, .faddr 4 (.t 3), some (76, true)⟩,
   ⟨some 78, .load 1 false (.t 77), some (76, true)⟩,
   ⟨some 79, .bin .eql (.t 78) (.k (.int .i64 3)), some (76, true)⟩,
   ⟨some 80, .pick (.t 76) (.t 79) (.k (.bool false)), none⟩]
 (.region [
   ⟨some 81, .mv (.t 80), none⟩,
   ⟨some 82, .faddr 5 (.t 3), some (81, true)⟩,
   ⟨some 83, .load 1 false (.t 82), some (81, true)⟩,
   ⟨some 84, .iaddr none 6 (.t 83) (.k (.int .i64 0)), some (81, true)⟩,
   ⟨some 85, .faddr 3 (.t 84), some (81, true)⟩,
   ⟨some 86, .load 1 false (.t 85), some (81, true)⟩,
   ⟨some 87, .len false (.t 86), some (81, true)⟩,
   ⟨some 88, .bin .eql (.t 87) (.k (.int .i64 2)), some (81, true)⟩,
   ⟨some 89, .pick (.t 81) (.t 88) (.k (.bool false)), none⟩,
   ⟨some 0, .mv (.t 89), none⟩])))))))))
 (.ret)))))⟩
theorem eq_rabbetlaw09_awake (Φ : Calls') (H : AH) (Q : Post) : fnE1 Φ ir_rabbetlaw09_awake [] H Q = rabbetlaw09_awake Φ H Q := by kernel_rfl

/-! rabbet/parse.Prog -/
def parse_Prog_k1 (Φ : Calls') (x1 : AV) (x3 : AV) (x7 : AV) (x21 : AV) (Q : Post) : List AV → AH → Prop := fun j44 H45 =>
Φ K.parse_parser_end [x7] H45 fun x60 H61 =>
 DoH (some (abox H61 true [.int .i64 0, .int .i64 0])) fun x62 H63 =>
 Do (astore H63 2 x62 x60) fun H64 =>
 Do (afaddr 1 x62) fun x65 =>
 Do (aload H64 1 false x65) fun x66 =>
 Do (abin .neq x66 (.int .i64 0)) fun x67 =>
 Gd x67 true (
 Do (abuild [.lst .nil 0 [], .lst .nil 0 []] []) fun x68 =>
 Do (aload H64 2 true x62) fun x69 =>
 Do (astore H64 2 x1 x68) fun H70 =>
(aload H70 2 true x62 = some x69) ∧
(Do (astore H70 2 x3 x69) fun H71 =>
 Do (aload H71 2 true x1) fun x72 =>
 Do (aload H71 2 true x3) fun x73 =>
 Q (.tup [x72, x73]) H71)) (
 Do (aload H64 2 true x21) fun x74 =>
 Do (abuild [.int .i64 0, .int .i64 0] []) fun x75 =>
 Do (astore H64 2 x1 x74) fun H76 =>
 Do (astore H76 2 x3 x75) fun H77 =>
 Do (aload H77 2 true x1) fun x78 =>
 Do (aload H77 2 true x3) fun x79 =>
 Q (.tup [x78, x79]) H77)
def parse_Prog_l2 (Φ : Calls') (x1 : AV) (x3 : AV) (x7 : AV) (x21 : AV) (Q : Post) : (List AV × AH) → ((List AV × AH) → Prop) → Prop := fun s46 L47 =>
Φ K.parse_parser_is [x7, (.str [116, 104, 114, 101, 97, 100])] s46.2 fun x48 H49 =>
 Gd x48 true (
 Do (afaddr 1 x21) fun x50 =>
 Do (aload H49 1 false x50) fun x51 =>
Φ K.parse_parser_block [x7, (.int .i64 1)] H49 fun x52 H53 =>
(aload H53 1 false x50 = some x51) ∧
(DoH (abslice H53 false 1 1 [.lst .nil 0 []] [(0, 1, x52)]) fun x54 H55 =>
 DoH (aappend H55 false 1 24 x51 x54) fun x56 H57 =>
 Do (afaddr 1 x21) fun x58 =>
 Do (astore H57 1 x58 x56) fun H59 =>
 L47 ([], H59))) (
 JoinP (parse_Prog_k1 Φ x1 x3 x7 x21 Q) [] H49)
def parse_Prog_k3 (Φ : Calls') (x1 : AV) (x3 : AV) (x7 : AV) (x21 : AV) (Q : Post) : List AV → AH → Prop := fun j23 H24 =>
 LoopP (parse_Prog_l2 Φ x1 x3 x7 x21 Q) ([], H24)
def parse_Prog_l4 (Φ : Calls') (x1 : AV) (x3 : AV) (x7 : AV) (x21 : AV) (Q : Post) : (List AV × AH) → ((List AV × AH) → Prop) → Prop := fun s25 L26 =>
Φ K.parse_parser_is [x7, (.str [118, 97, 114])] s25.2 fun x27 H28 =>
 Gd x27 true (
 Do (afaddr 0 x21) fun x29 =>
 Do (aload H28 1 false x29) fun x30 =>
Φ K.parse_parser_name [x7] H28 fun x31 H32 =>
(aload H32 1 false x29 = some x30) ∧
(Φ K.parse_parser_typ [x7, (.int .i64 1)] H32 fun x33 H34 =>
(aload H34 1 false x29 = some x30) ∧
(Do (abuild [.str [], .int .i64 0, .int .i64 0, .bool false, .lst .nil 0 [], .int .i64 0, .lst .nil 0 []] [(0, 1, x31), (1, 6, x33)]) fun x35 =>
 DoH (abslice H34 false 7 1 [.str [], .int .i64 0, .int .i64 0, .bool false, .lst .nil 0 [], .int .i64 0, .lst .nil 0 []] [(0, 7, x35)]) fun x36 H37 =>
 DoH (aappend H37 false 7 96 x30 x36) fun x38 H39 =>
 Do (afaddr 0 x21) fun x40 =>
 Do (astore H39 1 x40 x38) fun H41 =>
Φ K.parse_parser_want [x7, (.str [59])] H41 fun x42 H43 =>
 L26 ([], H43)))) (
 JoinP (parse_Prog_k3 Φ x1 x3 x7 x21 Q) [] H28)
def parse_Prog (Φ : Calls') (a0 : AV) (H : AH) (Q : Post) : Prop :=
 DoH (some (abox H true [.lst .nil 0 [], .lst .nil 0 []])) fun x1 H2 =>
 DoH (some (abox H2 true [.int .i64 0, .int .i64 0])) fun x3 H4 =>
Φ K.parse_begin [a0] H4 fun x5 H6 =>
 Do (aextract 0 x5) fun x7 =>
 Do (aextract 1 x5) fun x8 =>
 DoH (some (abox H6 true [.int .i64 0, .int .i64 0])) fun x9 H10 =>
 Do (astore H10 2 x9 x8) fun H11 =>
 Do (afaddr 1 x9) fun x12 =>
 Do (aload H11 1 false x12) fun x13 =>
 Do (abin .neq x13 (.int .i64 0)) fun x14 =>
 Gd x14 true (
 Do (abuild [.lst .nil 0 [], .lst .nil 0 []] []) fun x15 =>
 Do (aload H11 2 true x9) fun x16 =>
 Do (astore H11 2 x1 x15) fun H17 =>
(aload H17 2 true x9 = some x16) ∧
(Do (astore H17 2 x3 x16) fun H18 =>
 Do (aload H18 2 true x1) fun x19 =>
 Do (aload H18 2 true x3) fun x20 =>
 Q (.tup [x19, x20]) H18)) (
 DoH (some (abox H11 true [.lst .nil 0 [], .lst .nil 0 []])) fun x21 H22 =>
 LoopP (parse_Prog_l4 Φ x1 x3 x7 x21 Q) ([], H22))
def ir_parse_Prog : AFunc := ⟨50, [.cell 2 2 true, .cell 3 2 true],
 .seq (.region [
   ⟨some 2, .alloc true [.lst .nil 0 [], .lst .nil 0 []], none⟩,
   ⟨some 3, .alloc true [.int .i64 0, .int .i64 0], none⟩])
 (.seq (.region [
   ⟨some 9, .mv (.t 0), none⟩,
   ⟨some 10, .call K.parse_begin [(.t 9)], none⟩,
   ⟨some 8, .mv (.t 10), none⟩,
   ⟨some 11, .extract 0 (.t 8), none⟩,
   ⟨some 12, .extract 1 (.t 8), none⟩,
   ⟨some 5, .alloc true [.int .i64 0, .int .i64 0], none⟩,
   ⟨some 4, .mv (.t 11), none⟩,
   ⟨none, .store 2 (.t 5) (.t 12), none⟩])
 (.seq (.seq (.region [
   ⟨some 13, .faddr 1 (.t 5), none⟩,
   ⟨some 14, .load 1 false (.t 13), none⟩,
   ⟨some 15, .bin .neq (.t 14) (.k (.int .i64 0)), none⟩])
 (.cond (.t 15) (.seq (.draw [
     ⟨some 16, .build [.lst .nil 0 [], .lst .nil 0 []] [], none⟩,
     ⟨some 17, .load 2 true (.t 5), none⟩,
     ⟨none, .store 2 (.t 2) (.t 16), none⟩,
     ⟨none, .store 2 (.t 3) (.t 17), none⟩]
   [[], [], [0], [0, 1, 2]] [([0, 1], 2, [1]), ([], 3, [])] [])
   (.ret))
   (.skip)))
 (.seq (.region [
   ⟨some 6, .alloc true [.lst .nil 0 [], .lst .nil 0 []], none⟩])
 (.join [] [18, 19, 20, 21, 22, 23, 24, 25, 26, 27, 28, 29, 30, 31] (.block 0 (.loop [] [18, 19, 20, 21, 22, 23, 24, 25, 26, 27, 28, 29, 30, 31] (.seq (.seq (.region [
   ⟨some 18, .mv (.t 4), none⟩,
   ⟨some 19, .call K.parse_parser_is [(.t 18), (.k (.str [118, 97, 114]))], none⟩])
 (.cond (.t 19) (.skip)
   (.exit 0)))
 (.block 1 (.seq (.draw [
   ⟨some 20, .faddr 0 (.t 6), none⟩,
   ⟨some 21, .load 1 false (.t 20), none⟩,
   ⟨some 22, .mv (.t 4), none⟩,
   ⟨some 23, .call K.parse_parser_name [(.t 22)], none⟩,
   ⟨some 24, .mv (.t 4), none⟩,
   ⟨some 25, .call K.parse_parser_typ [(.t 24), (.k (.int .i64 1))], none⟩,
   ⟨some 26, .build [.str [], .int .i64 0, .int .i64 0, .bool false, .lst .nil 0 [], .int .i64 0, .lst .nil 0 []] [(0, 1, (.t 23)), (1, 6, (.t 25))], none⟩,
   ⟨some 27, .bslice false 7 1 [.str [], .int .i64 0, .int .i64 0, .bool false, .lst .nil 0 [], .int .i64 0, .lst .nil 0 []] [(0, 7, (.t 26))], none⟩,
   ⟨some 28, .append false 7 96 (.t 21) (.t 27), none⟩,
   ⟨some 29, .faddr 0 (.t 6), none⟩,
   ⟨none, .store 1 (.t 29) (.t 28), none⟩]
 [[], [0], [], [2], [], [2, 3, 4], [2, 3, 4, 5], [2, 3, 4, 5, 6], [0, 1, 2, 3, 4, 5, 6, 7], [0, 1, 2, 3, 4, 5, 6, 7, 8], [0, 1, 2, 3, 4, 5, 6, 7, 8, 9]] [([0, 1, 2, 4], 3, [1]), ([], 5, [1]), ([6, 7], 8, []), ([9], 10, [])] [])
 (.region [
   ⟨some 30, .mv (.t 4), none⟩,
   ⟨some 31, .call K.parse_parser_want [(.t 30), (.k (.str [59]))], none⟩]))))))
 (.join [] [32, 33, 34, 35, 36, 37, 38, 39, 40] (.block 2 (.loop [] [32, 33, 34, 35, 36, 37, 38, 39, 40] (.seq (.seq (.region [
   ⟨some 32, .mv (.t 4), none⟩,
   ⟨some 33, .call K.parse_parser_is [(.t 32), (.k (.str [116, 104, 114, 101, 97, 100]))], none⟩])
 (.cond (.t 33) (.skip)
   (.exit 2)))
 (.block 3 (.draw [
   ⟨some 34, .faddr 1 (.t 6), none⟩,
   ⟨some 35, .load 1 false (.t 34), none⟩,
   ⟨some 36, .mv (.t 4), none⟩,
   ⟨some 37, .call K.parse_parser_block [(.t 36), (.k (.int .i64 1))], none⟩,
   ⟨some 38, .bslice false 1 1 [.lst .nil 0 []] [(0, 1, (.t 37))], none⟩,
   ⟨some 39, .append false 1 24 (.t 35) (.t 38), none⟩,
   ⟨some 40, .faddr 1 (.t 6), none⟩,
   ⟨none, .store 1 (.t 40) (.t 39), none⟩]
 [[], [0], [], [2], [2, 3], [0, 1, 2, 3, 4], [0, 1, 2, 3, 4, 5], [0, 1, 2, 3, 4, 5, 6]] [([0, 1, 2], 3, [1]), ([4], 5, []), ([6], 7, [])] [])))))
 (.seq (.seq (.region [
   ⟨some 41, .mv (.t 4), none⟩,
   ⟨some 42, .call K.parse_parser_end [(.t 41)], none⟩,
   ⟨some 7, .alloc true [.int .i64 0, .int .i64 0], none⟩,
   ⟨none, .store 2 (.t 7) (.t 42), none⟩])
 (.seq (.region [
   ⟨some 43, .faddr 1 (.t 7), none⟩,
   ⟨some 44, .load 1 false (.t 43), none⟩,
   ⟨some 45, .bin .neq (.t 44) (.k (.int .i64 0)), none⟩])
 (.cond (.t 45) (.seq (.draw [
     ⟨some 46, .build [.lst .nil 0 [], .lst .nil 0 []] [], none⟩,
     ⟨some 47, .load 2 true (.t 7), none⟩,
     ⟨none, .store 2 (.t 2) (.t 46), none⟩,
     ⟨none, .store 2 (.t 3) (.t 47), none⟩]
   [[], [], [0], [0, 1, 2]] [([0, 1], 2, [1]), ([], 3, [])] [])
   (.ret))
   (.skip))))
 (.seq (.region [
   ⟨some 48, .load 2 true (.t 6), none⟩,
   ⟨some 49, .build [.int .i64 0, .int .i64 0] [], none⟩,
   ⟨none, .store 2 (.t 2) (.t 48), none⟩,
   ⟨none, .store 2 (.t 3) (.t 49), none⟩])
 (.ret))))))))⟩
theorem eq_parse_Prog (Φ : Calls') (a0 : AV) (H : AH) (Q : Post) : fnE1 Φ ir_parse_Prog [a0] H Q = parse_Prog Φ a0 H Q := by kernel_rfl

/-! rabbet/rabbetref08.one -/
def rabbetref08_one_k1 (Φ : Calls') (s7 : List AV × AH) (L8 : (List AV × AH) → Prop) (Q : Post) : List AV → AH → Prop := fun j9 H10 =>
 Do (abin .add (sl s7.1 0) (.int .i64 1)) fun x28 =>
 L8 ([x28], H10)
def rabbetref08_one_k2 (Φ : Calls') (Q : Post) : List AV → AH → Prop := fun j5 H6 =>
 Do (abin .gtr (sl j5 0) (.int .i64 16)) fun x29 =>
 Gd x29 true (
 Q (.int .i64 0) H6) (
 Q (sl j5 0) H6)
def rabbetref08_one_k3 (Φ : Calls') (s7 : List AV × AH) (L8 : (List AV × AH) → Prop) (Q : Post) : List AV → AH → Prop := fun j11 H12 =>
 Gd (sl j11 0) true (
 JoinP (rabbetref08_one_k1 Φ s7 L8 Q) [] H12) (
 JoinP (rabbetref08_one_k2 Φ Q) [(sl s7.1 0)] H12)
def rabbetref08_one_k4 (Φ : Calls') (a0 : AV) (a1 : AV) (s7 : List AV × AH) (L8 : (List AV × AH) → Prop) (Q : Post) : List AV → AH → Prop := fun j13 H14 =>
 Gd3 (sl j13 0) true (
 Do (abin .add a1 (sl s7.1 0)) fun x23 =>
 Do (aidxs a0 x23) fun x24 =>
Φ K.rabbetref08_class [x24] H14 fun x25 H26 =>
 Do (abin .leq x25 (.int .i64 3)) fun x27 =>
 JoinP (rabbetref08_one_k3 Φ s7 L8 Q) [x27] H26) (
 JoinP (rabbetref08_one_k3 Φ s7 L8 Q) [(.bool false)] H14) (
 False)
def rabbetref08_one_l5 (Φ : Calls') (a0 : AV) (a1 : AV) (Q : Post) : (List AV × AH) → ((List AV × AH) → Prop) → Prop := fun s7 L8 =>
 Do (abin .add a1 (sl s7.1 0)) fun x15 =>
 Do (alen true a0) fun x16 =>
 Do (abin .lss x15 x16) fun x17 =>
 Gd3 x17 true (
 Do (abin .add a1 (sl s7.1 0)) fun x18 =>
 Do (aidxs a0 x18) fun x19 =>
Φ K.rabbetref08_class [x19] s7.2 fun x20 H21 =>
 Do (abin .geq x20 (.int .i64 1)) fun x22 =>
 JoinP (rabbetref08_one_k4 Φ a0 a1 s7 L8 Q) [x22] H21) (
 JoinP (rabbetref08_one_k4 Φ a0 a1 s7 L8 Q) [(.bool false)] s7.2) (
 False)
def rabbetref08_one_k6 (Φ : Calls') (s33 : List AV × AH) (L34 : (List AV × AH) → Prop) (Q : Post) : List AV → AH → Prop := fun j35 H36 =>
 Do (abin .add (sl s33.1 0) (.int .i64 1)) fun x47 =>
 L34 ([x47], H36)
def rabbetref08_one_k7 (Φ : Calls') (j31 : List AV) (Q : Post) : List AV → AH → Prop := fun j48 H49 =>
 Gd (sl j48 0) true (
 Q (.int .i64 0) H49) (
 Q (sl j31 0) H49)
def rabbetref08_one_k8 (Φ : Calls') (a0 : AV) (a1 : AV) (j31 : List AV) (Q : Post) : List AV → AH → Prop := fun j54 H55 =>
 Gd3 (sl j54 0) false (
 Do (abin .add a1 (sl j31 0)) fun x60 =>
 Do (alen true a0) fun x61 =>
 Do (abin .lss x60 x61) fun x62 =>
 Gd3 x62 true (
 Do (abin .add a1 (sl j31 0)) fun x63 =>
 Do (aidxs a0 x63) fun x64 =>
Φ K.rabbetref08_class [x64] H55 fun x65 H66 =>
 Do (abin .eql x65 (.int .i64 1)) fun x67 =>
 Gd3 x67 false (
 Do (abin .add a1 (sl j31 0)) fun x68 =>
 Do (aidxs a0 x68) fun x69 =>
Φ K.rabbetref08_class [x69] H66 fun x70 H71 =>
 Do (abin .eql x70 (.int .i64 3)) fun x72 =>
 JoinP (rabbetref08_one_k7 Φ j31 Q) [x72] H71) (
 JoinP (rabbetref08_one_k7 Φ j31 Q) [(.bool true)] H66) (
 False)) (
 JoinP (rabbetref08_one_k7 Φ j31 Q) [(.bool false)] H55) (
 False)) (
 JoinP (rabbetref08_one_k7 Φ j31 Q) [(.bool true)] H55) (
 False)
def rabbetref08_one_k9 (Φ : Calls') (a0 : AV) (a1 : AV) (j31 : List AV) (Q : Post) : List AV → AH → Prop := fun j50 H51 =>
 Gd3 (sl j50 0) false (
 Do (abin .add a1 (sl j31 0)) fun x56 =>
 Do (asslice a0 (some a1) (some x56)) fun x57 =>
Φ K.rabbetref08_great [x57] H51 fun x58 H59 =>
 JoinP (rabbetref08_one_k8 Φ a0 a1 j31 Q) [x58] H59) (
 JoinP (rabbetref08_one_k8 Φ a0 a1 j31 Q) [(.bool true)] H51) (
 False)
def rabbetref08_one_k10 (Φ : Calls') (a0 : AV) (a1 : AV) (x1 : AV) (Q : Post) : List AV → AH → Prop := fun j31 H32 =>
 Do (abin .gtr (sl j31 0) (.int .i64 1)) fun x52 =>
 Gd3 x52 true (
 Do (abin .eql x1 (.int .u8 48)) fun x53 =>
 JoinP (rabbetref08_one_k9 Φ a0 a1 j31 Q) [x53] H32) (
 JoinP (rabbetref08_one_k9 Φ a0 a1 j31 Q) [(.bool false)] H32) (
 False)
def rabbetref08_one_k11 (Φ : Calls') (a0 : AV) (a1 : AV) (x1 : AV) (s33 : List AV × AH) (L34 : (List AV × AH) → Prop) (Q : Post) : List AV → AH → Prop := fun j37 H38 =>
 Gd (sl j37 0) true (
 JoinP (rabbetref08_one_k6 Φ s33 L34 Q) [] H38) (
 JoinP (rabbetref08_one_k10 Φ a0 a1 x1 Q) [(sl s33.1 0)] H38)
def rabbetref08_one_l12 (Φ : Calls') (a0 : AV) (a1 : AV) (x1 : AV) (Q : Post) : (List AV × AH) → ((List AV × AH) → Prop) → Prop := fun s33 L34 =>
 Do (abin .add a1 (sl s33.1 0)) fun x39 =>
 Do (alen true a0) fun x40 =>
 Do (abin .lss x39 x40) fun x41 =>
 Gd3 x41 true (
 Do (abin .add a1 (sl s33.1 0)) fun x42 =>
 Do (aidxs a0 x42) fun x43 =>
Φ K.rabbetref08_class [x43] s33.2 fun x44 H45 =>
 Do (abin .eql x44 (.int .i64 2)) fun x46 =>
 JoinP (rabbetref08_one_k11 Φ a0 a1 x1 s33 L34 Q) [x46] H45) (
 JoinP (rabbetref08_one_k11 Φ a0 a1 x1 s33 L34 Q) [(.bool false)] s33.2) (
 False)
def rabbetref08_one_k13 (Φ : Calls') (x1 : AV) (Q : Post) : List AV → AH → Prop := fun j74 H75 =>
 Do (abin .eql x1 (.int .u8 33)) fun x84 =>
 Gd x84 true (
 Q (.int .i64 0) H75) (
 Q (.int .i64 1) H75)
def rabbetref08_one_k14 (Φ : Calls') (x1 : AV) (Q : Post) : List AV → AH → Prop := fun j76 H77 =>
 Gd (sl j76 0) true (
 Q (.int .i64 2) H77) (
 JoinP (rabbetref08_one_k13 Φ x1 Q) [] H77)
def rabbetref08_one_k15 (Φ : Calls') (x1 : AV) (Q : Post) : List AV → AH → Prop := fun j86 H87 =>
 Do (abin .eql x1 (.int .u8 62)) fun x96 =>
 Gd x96 true (
 Q (.int .i64 0) H87) (
 Q (.int .i64 1) H87)
def rabbetref08_one_k16 (Φ : Calls') (x1 : AV) (Q : Post) : List AV → AH → Prop := fun j88 H89 =>
 Gd (sl j88 0) true (
 Q (.int .i64 2) H89) (
 JoinP (rabbetref08_one_k15 Φ x1 Q) [] H89)
def rabbetref08_one (Φ : Calls') (a0 : AV) (a1 : AV) (H : AH) (Q : Post) : Prop :=
 Do (aidxs a0 a1) fun x1 =>
Φ K.rabbetref08_class [x1] H fun x2 H3 =>
 Do (abin .eql x2 (.int .i64 1)) fun x4 =>
 Gd x4 true (
 LoopP (rabbetref08_one_l5 Φ a0 a1 Q) ([(.int .i64 1)], H3)) (
 Do (abin .eql x2 (.int .i64 2)) fun x30 =>
 Gd x30 true (
 LoopP (rabbetref08_one_l12 Φ a0 a1 x1 Q) ([(.int .i64 1)], H3)) (
 Do (abin .eql x2 (.int .i64 5)) fun x73 =>
 Gd x73 true (
 Do (abin .add a1 (.int .i64 1)) fun x78 =>
 Do (alen true a0) fun x79 =>
 Do (abin .lss x78 x79) fun x80 =>
 Gd3 x80 true (
 Do (abin .add a1 (.int .i64 1)) fun x81 =>
 Do (aidxs a0 x81) fun x82 =>
 Do (abin .eql x82 (.int .u8 61)) fun x83 =>
 JoinP (rabbetref08_one_k14 Φ x1 Q) [x83] H3) (
 JoinP (rabbetref08_one_k14 Φ x1 Q) [(.bool false)] H3) (
 False)) (
 Do (abin .eql x2 (.int .i64 6)) fun x85 =>
 Gd x85 true (
 Do (abin .add a1 (.int .i64 1)) fun x90 =>
 Do (alen true a0) fun x91 =>
 Do (abin .lss x90 x91) fun x92 =>
 Gd3 x92 true (
 Do (abin .add a1 (.int .i64 1)) fun x93 =>
 Do (aidxs a0 x93) fun x94 =>
 Do (abin .eql x94 x1) fun x95 =>
 JoinP (rabbetref08_one_k16 Φ x1 Q) [x95] H3) (
 JoinP (rabbetref08_one_k16 Φ x1 Q) [(.bool false)] H3) (
 False)) (
 Do (abin .eql x2 (.int .i64 0)) fun x97 =>
 Gd x97 true (
 Q (.int .i64 0) H3) (
 Q (.int .i64 1) H3)))))
def ir_rabbetref08_one : AFunc := ⟨139, [.tmp 4],
 .seq (.region [
   ⟨some 4, .mv (.k (.int .i64 0)), none⟩])
 (.seq (.region [
   ⟨some 7, .mv (.t 0), none⟩,
   ⟨some 8, .mv (.t 1), none⟩,
   ⟨some 9, .idxs (.t 7) (.t 8), none⟩,
   ⟨some 5, .mv (.t 9), none⟩])
 (.seq (.region [
   ⟨some 6, .mv (.k (.int .i64 1)), none⟩])
 (.seq (.seq (.region [
   ⟨some 10, .mv (.t 5), none⟩,
   ⟨some 11, .call K.rabbetref08_class [(.t 10)], none⟩])
 (.block 0 (.seq (.region [
   ⟨some 13, .bin .eql (.t 11) (.k (.int .i64 1)), none⟩,
   ⟨some 12, .mv (.t 13), none⟩])
 (.cond (.t 12) (.join [6] [14, 15, 16, 17, 18, 19, 20, 21, 22, 23, 24, 25, 26, 27, 28, 29, 30, 31, 32, 33, 34, 35, 36, 37, 38, 39] (.block 1 (.loop [6] [14, 15, 16, 17, 18, 19, 20, 21, 22, 23, 24, 25, 26, 27, 28, 29, 30, 31, 32, 33, 34, 35, 36, 37, 38, 39] (.join [] [14, 15, 16, 17, 18, 19, 20, 21, 22, 23, 24, 25, 26, 27, 28, 29, 30, 31, 32, 33, 34, 35, 36, 37] (.join [37] [14, 15, 16, 17, 18, 19, 20, 21, 22, 23, 24, 25, 26, 27, 28, 29, 30, 31, 32, 33, 34, 35, 36] (.rjoin [28] [14, 15, 16, 17, 18, 19, 20, 21, 22, 23, 24, 25, 26, 27] [
     ⟨some 14, .mv (.t 1), none⟩,
     ⟨some 15, .mv (.t 6), none⟩,
     ⟨some 16, .bin .add (.t 14) (.t 15), none⟩,
     ⟨some 17, .mv (.t 0), none⟩,
     ⟨some 18, .len true (.t 17), none⟩,
     ⟨some 19, .bin .lss (.t 16) (.t 18), none⟩,
     ⟨some 20, .mv (.t 19), none⟩,
     ⟨some 21, .mv (.t 0), some (20, true)⟩,
     ⟨some 22, .mv (.t 1), some (20, true)⟩,
     ⟨some 23, .mv (.t 6), some (20, true)⟩,
     ⟨some 24, .bin .add (.t 22) (.t 23), some (20, true)⟩,
     ⟨some 25, .idxs (.t 21) (.t 24), some (20, true)⟩,
     ⟨some 26, .call K.rabbetref08_class [(.t 25)], some (20, true)⟩,
     ⟨some 27, .bin .geq (.t 26) (.k (.int .i64 1)), some (20, true)⟩,
     ⟨some 28, .pick (.t 20) (.t 27) (.k (.bool false)), none⟩]
   (.region [
     ⟨some 29, .mv (.t 28), none⟩,
     ⟨some 30, .mv (.t 0), some (29, true)⟩,
     ⟨some 31, .mv (.t 1), some (29, true)⟩,
     ⟨some 32, .mv (.t 6), some (29, true)⟩,
     ⟨some 33, .bin .add (.t 31) (.t 32), some (29, true)⟩,
     ⟨some 34, .idxs (.t 30) (.t 33), some (29, true)⟩,
     ⟨some 35, .call K.rabbetref08_class [(.t 34)], some (29, true)⟩,
     ⟨some 36, .bin .leq (.t 35) (.k (.int .i64 3)), some (29, true)⟩,
     ⟨some 37, .pick (.t 29) (.t 36) (.k (.bool false)), none⟩]))
   (.cond (.t 37) (.skip)
     (.exit 1)))
   (.block 2 (.region [
     ⟨some 38, .mv (.t 6), none⟩,
     ⟨some 39, .bin .add (.t 38) (.k (.int .i64 1)), none⟩,
     ⟨some 6, .mv (.t 39), none⟩])))))
   (.seq (.seq (.region [
     ⟨some 40, .mv (.t 6), none⟩,
     ⟨some 41, .bin .gtr (.t 40) (.k (.int .i64 16)), none⟩])
   (.cond (.t 41) (.seq (.region [
       ⟨some 4, .mv (.k (.int .i64 0)), none⟩])
     (.ret))
     (.skip)))
   (.seq (.region [
     ⟨some 42, .mv (.t 6), none⟩,
     ⟨some 4, .mv (.t 42), none⟩])
   (.ret))))
   (.seq (.region [
     ⟨some 44, .bin .eql (.t 11) (.k (.int .i64 2)), none⟩,
     ⟨some 43, .mv (.t 44), none⟩])
   (.cond (.t 43) (.join [6] [45, 46, 47, 48, 49, 50, 51, 52, 53, 54, 55, 56, 57, 58, 59, 60, 61] (.block 3 (.loop [6] [45, 46, 47, 48, 49, 50, 51, 52, 53, 54, 55, 56, 57, 58, 59, 60, 61] (.join [] [45, 46, 47, 48, 49, 50, 51, 52, 53, 54, 55, 56, 57, 58, 59] (.join [59] [45, 46, 47, 48, 49, 50, 51, 52, 53, 54, 55, 56, 57, 58] (.region [
       ⟨some 45, .mv (.t 1), none⟩,
       ⟨some 46, .mv (.t 6), none⟩,
       ⟨some 47, .bin .add (.t 45) (.t 46), none⟩,
       ⟨some 48, .mv (.t 0), none⟩,
       ⟨some 49, .len true (.t 48), none⟩,
       ⟨some 50, .bin .lss (.t 47) (.t 49), none⟩,
       ⟨some 51, .mv (.t 50), none⟩,
       ⟨some 52, .mv (.t 0), some (51, true)⟩,
       ⟨some 53, .mv (.t 1), some (51, true)⟩,
       ⟨some 54, .mv (.t 6), some (51, true)⟩,
       ⟨some 55, .bin .add (.t 53) (.t 54), some (51, true)⟩,
       ⟨some 56, .idxs (.t 52) (.t 55), some (51, true)⟩,
       ⟨some 57, .call K.rabbetref08_class [(.t 56)], some (51, true)⟩,
       ⟨some 58, .bin .eql (.t 57) (.k (.int .i64 2)), some (51, true)⟩,
       ⟨some 59, .pick (.t 51) (.t 58) (.k (.bool false)), none⟩])
     (.cond (.t 59) (.skip)
       (.exit 3)))
     (.block 4 (.region [
       ⟨some 60, .mv (.t 6), none⟩,
       ⟨some 61, .bin .add (.t 60) (.k (.int .i64 1)), none⟩,
       ⟨some 6, .mv (.t 61), none⟩])))))
     (.seq (.join [102] [62, 63, 64, 65, 66, 67, 68, 69, 70, 71, 72, 73, 74, 75, 76, 77, 78, 79, 80, 81, 82, 83, 84, 85, 86, 87, 88, 89, 90, 91, 92, 93, 94, 95, 96, 97, 98, 99, 100, 101] (.rjoin [67] [62, 63, 64, 65, 66] [
       ⟨some 62, .mv (.t 6), none⟩,
       ⟨some 63, .bin .gtr (.t 62) (.k (.int .i64 1)), none⟩,
       ⟨some 64, .mv (.t 63), none⟩,
       ⟨some 65, .mv (.t 5), some (64, true)⟩,
       ⟨some 66, .bin .eql (.t 65) (.k (.int .u8 48)), some (64, true)⟩,
       ⟨some 67, .pick (.t 64) (.t 66) (.k (.bool false)), none⟩]
     (.rjoin [76] [68, 69, 70, 71, 72, 73, 74, 75] [
       ⟨some 68, .mv (.t 67), none⟩,
       ⟨some 69, .mv (.t 0), some (68, false)⟩,
       ⟨some 70, .mv (.t 1), some (68, false)⟩,
       ⟨some 71, .mv (.t 1), some (68, false)⟩,
       ⟨some 72, .mv (.t 6), some (68, false)⟩,
       ⟨some 73, .bin .add (.t 71) (.t 72), some (68, false)⟩,
       ⟨some 74, .sslice (.t 69) (some (.t 70)) (some (.t 73)), some (68, false)⟩,
       ⟨some 75, .call K.rabbetref08_great [(.t 74)], some (68, false)⟩,
       ⟨some 76, .pick (.t 68) (.k (.bool true)) (.t 75), none⟩]
     (.region [
       ⟨some 77, .mv (.t 76), none⟩,
       ⟨some 78, .mv (.t 1), some (77, false)⟩,
       ⟨some 79, .mv (.t 6), some (77, false)⟩,
       ⟨some 80, .bin .add (.t 78) (.t 79), some (77, false)⟩,
       ⟨some 81, .mv (.t 0), some (77, false)⟩,
       ⟨some 82, .len true (.t 81), some (77, false)⟩,
       ⟨some 83, .bin .lss (.t 80) (.t 82), some (77, false)⟩,
       ⟨some 84, .mv (.t 83), some (77, false)⟩,
       ⟨some 85, .mv (.t 0), some (84, true)⟩,
       ⟨some 86, .mv (.t 1), some (84, true)⟩,
       ⟨some 87, .mv (.t 6), some (84, true)⟩,
       ⟨some 88, .bin .add (.t 86) (.t 87), some (84, true)⟩,
       ⟨some 89, .idxs (.t 85) (.t 88), some (84, true)⟩,
       ⟨some 90, .call K.rabbetref08_class [(.t 89)], some (84, true)⟩,
       ⟨some 91, .bin .eql (.t 90) (.k (.int .i64 1)), some (84, true)⟩,
       ⟨some 92, .mv (.t 91), some (84, true)⟩,
       ⟨some 93, .mv (.t 0), some (92, false)⟩,
       ⟨some 94, .mv (.t 1), some (92, false)⟩,
       ⟨some 95, .mv (.t 6), some (92, false)⟩,
       ⟨some 96, .bin .add (.t 94) (.t 95), some (92, false)⟩,
       ⟨some 97, .idxs (.t 93) (.t 96), some (92, false)⟩,
       ⟨some 98, .call K.rabbetref08_class [(.t 97)], some (92, false)⟩,
       ⟨some 99, .bin .eql (.t 98) (.k (.int .i64 3)), some (92, false)⟩,
       ⟨some 100, .pick (.t 92) (.k (.bool true)) (.t 99), some (84, true)⟩,
       ⟨some 101, .pick (.t 84) (.t 100) (.k (.bool false)), some (77, false)⟩,
       ⟨some 102, .pick (.t 77) (.k (.bool true)) (.t 101), none⟩])))
     (.cond (.t 102) (.seq (.region [
         ⟨some 4, .mv (.k (.int .i64 0)), none⟩])
       (.ret))
       (.skip)))
     (.seq (.region [
       ⟨some 103, .mv (.t 6), none⟩,
       ⟨some 4, .mv (.t 103), none⟩])
     (.ret))))
     (.seq (.region [
       ⟨some 105, .bin .eql (.t 11) (.k (.int .i64 5)), none⟩,
       ⟨some 104, .mv (.t 105), none⟩])
     (.cond (.t 104) (.join [] [4, 106, 107, 108, 109, 110, 111, 112, 113, 114, 115, 116, 117] (.join [117] [106, 107, 108, 109, 110, 111, 112, 113, 114, 115, 116] (.region [
         ⟨some 106, .mv (.t 1), none⟩,
         ⟨some 107, .bin .add (.t 106) (.k (.int .i64 1)), none⟩,
         ⟨some 108, .mv (.t 0), none⟩,
         ⟨some 109, .len true (.t 108), none⟩,
         ⟨some 110, .bin .lss (.t 107) (.t 109), none⟩,
         ⟨some 111, .mv (.t 110), none⟩,
         ⟨some 112, .mv (.t 0), some (111, true)⟩,
         ⟨some 113, .mv (.t 1), some (111, true)⟩,
         ⟨some 114, .bin .add (.t 113) (.k (.int .i64 1)), some (111, true)⟩,
         ⟨some 115, .idxs (.t 112) (.t 114), some (111, true)⟩,
         ⟨some 116, .bin .eql (.t 115) (.k (.int .u8 61)), some (111, true)⟩,
         ⟨some 117, .pick (.t 111) (.t 116) (.k (.bool false)), none⟩])
       (.cond (.t 117) (.seq (.region [
           ⟨some 4, .mv (.k (.int .i64 2)), none⟩])
         (.ret))
         (.skip)))
       (.seq (.seq (.region [
         ⟨some 118, .mv (.t 5), none⟩,
         ⟨some 119, .bin .eql (.t 118) (.k (.int .u8 33)), none⟩])
       (.cond (.t 119) (.seq (.region [
           ⟨some 4, .mv (.k (.int .i64 0)), none⟩])
         (.ret))
         (.skip)))
       (.seq (.region [
         ⟨some 4, .mv (.k (.int .i64 1)), none⟩])
       (.ret))))
       (.seq (.region [
         ⟨some 121, .bin .eql (.t 11) (.k (.int .i64 6)), none⟩,
         ⟨some 120, .mv (.t 121), none⟩])
       (.cond (.t 120) (.join [] [4, 122, 123, 124, 125, 126, 127, 128, 129, 130, 131, 132, 133, 134] (.join [134] [122, 123, 124, 125, 126, 127, 128, 129, 130, 131, 132, 133] (.region [
           ⟨some 122, .mv (.t 1), none⟩,
           ⟨some 123, .bin .add (.t 122) (.k (.int .i64 1)), none⟩,
           ⟨some 124, .mv (.t 0), none⟩,
           ⟨some 125, .len true (.t 124), none⟩,
           ⟨some 126, .bin .lss (.t 123) (.t 125), none⟩,
           ⟨some 127, .mv (.t 126), none⟩,
           ⟨some 128, .mv (.t 0), some (127, true)⟩,
           ⟨some 129, .mv (.t 1), some (127, true)⟩,
           ⟨some 130, .bin .add (.t 129) (.k (.int .i64 1)), some (127, true)⟩,
           ⟨some 131, .idxs (.t 128) (.t 130), some (127, true)⟩,
           ⟨some 132, .mv (.t 5), some (127, true)⟩,
           ⟨some 133, .bin .eql (.t 131) (.t 132), some (127, true)⟩,
           ⟨some 134, .pick (.t 127) (.t 133) (.k (.bool false)), none⟩])
         (.cond (.t 134) (.seq (.region [
             ⟨some 4, .mv (.k (.int .i64 2)), none⟩])
           (.ret))
           (.skip)))
         (.seq (.seq (.region [
           ⟨some 135, .mv (.t 5), none⟩,
           ⟨some 136, .bin .eql (.t 135) (.k (.int .u8 62)), none⟩])
         (.cond (.t 136) (.seq (.region [
             ⟨some 4, .mv (.k (.int .i64 0)), none⟩])
           (.ret))
           (.skip)))
         (.seq (.region [
           ⟨some 4, .mv (.k (.int .i64 1)), none⟩])
         (.ret))))
         (.seq (.region [
           ⟨some 138, .bin .eql (.t 11) (.k (.int .i64 0)), none⟩,
           ⟨some 137, .mv (.t 138), none⟩])
         (.cond (.t 137) (.seq (.region [
             ⟨some 4, .mv (.k (.int .i64 0)), none⟩])
           (.ret))
           (.skip)))))))))))))
 (.seq (.region [
   ⟨some 4, .mv (.k (.int .i64 1)), none⟩])
 (.ret)))))⟩
theorem eq_rabbetref08_one (Φ : Calls') (a0 a1 : AV) (H : AH) (Q : Post) : fnE1 Φ ir_rabbetref08_one [a0, a1] H Q = rabbetref08_one Φ a0 a1 H Q := by kernel_rfl

/-! rabbet/parse.Type -/
def parse_Type (Φ : Calls') (a0 : AV) (H : AH) (Q : Post) : Prop :=
 DoH (some (abox H true [.int .i64 0, .int .i64 0, .bool false, .lst .nil 0 [], .int .i64 0, .lst .nil 0 []])) fun x1 H2 =>
 DoH (some (abox H2 true [.int .i64 0, .int .i64 0])) fun x3 H4 =>
Φ K.parse_begin [a0] H4 fun x5 H6 =>
 Do (aextract 0 x5) fun x7 =>
 Do (aextract 1 x5) fun x8 =>
 DoH (some (abox H6 true [.int .i64 0, .int .i64 0])) fun x9 H10 =>
 Do (astore H10 2 x9 x8) fun H11 =>
 Do (afaddr 1 x9) fun x12 =>
 Do (aload H11 1 false x12) fun x13 =>
 Do (abin .neq x13 (.int .i64 0)) fun x14 =>
 Gd x14 true (
 Do (abuild [.int .i64 0, .int .i64 0, .bool false, .lst .nil 0 [], .int .i64 0, .lst .nil 0 []] []) fun x15 =>
 Do (aload H11 2 true x9) fun x16 =>
 Do (astore H11 6 x1 x15) fun H17 =>
(aload H17 2 true x9 = some x16) ∧
(Do (astore H17 2 x3 x16) fun H18 =>
 Do (aload H18 6 true x1) fun x19 =>
 Do (aload H18 2 true x3) fun x20 =>
 Q (.tup [x19, x20]) H18)) (
Φ K.parse_parser_typ [x7, (.int .i64 1)] H11 fun x21 H22 =>
 DoH (some (abox H22 true [.int .i64 0, .int .i64 0, .bool false, .lst .nil 0 [], .int .i64 0, .lst .nil 0 []])) fun x23 H24 =>
 Do (astore H24 6 x23 x21) fun H25 =>
Φ K.parse_parser_end [x7] H25 fun x26 H27 =>
 DoH (some (abox H27 true [.int .i64 0, .int .i64 0])) fun x28 H29 =>
 Do (astore H29 2 x28 x26) fun H30 =>
 Do (afaddr 1 x28) fun x31 =>
 Do (aload H30 1 false x31) fun x32 =>
 Do (abin .neq x32 (.int .i64 0)) fun x33 =>
 Gd x33 true (
 Do (abuild [.int .i64 0, .int .i64 0, .bool false, .lst .nil 0 [], .int .i64 0, .lst .nil 0 []] []) fun x34 =>
 Do (aload H30 2 true x28) fun x35 =>
 Do (astore H30 6 x1 x34) fun H36 =>
(aload H36 2 true x28 = some x35) ∧
(Do (astore H36 2 x3 x35) fun H37 =>
 Do (aload H37 6 true x1) fun x38 =>
 Do (aload H37 2 true x3) fun x39 =>
 Q (.tup [x38, x39]) H37)) (
 Do (aload H30 6 true x23) fun x40 =>
 Do (abuild [.int .i64 0, .int .i64 0] []) fun x41 =>
 Do (astore H30 6 x1 x40) fun H42 =>
 Do (astore H42 2 x3 x41) fun H43 =>
 Do (aload H43 6 true x1) fun x44 =>
 Do (aload H43 2 true x3) fun x45 =>
 Q (.tup [x44, x45]) H43))
def ir_parse_Type : AFunc := ⟨29, [.cell 2 6 true, .cell 3 2 true],
 .seq (.region [
   ⟨some 2, .alloc true [.int .i64 0, .int .i64 0, .bool false, .lst .nil 0 [], .int .i64 0, .lst .nil 0 []], none⟩,
   ⟨some 3, .alloc true [.int .i64 0, .int .i64 0], none⟩])
 (.seq (.region [
   ⟨some 9, .mv (.t 0), none⟩,
   ⟨some 10, .call K.parse_begin [(.t 9)], none⟩,
   ⟨some 8, .mv (.t 10), none⟩,
   ⟨some 11, .extract 0 (.t 8), none⟩,
   ⟨some 12, .extract 1 (.t 8), none⟩,
   ⟨some 5, .alloc true [.int .i64 0, .int .i64 0], none⟩,
   ⟨some 4, .mv (.t 11), none⟩,
   ⟨none, .store 2 (.t 5) (.t 12), none⟩])
 (.seq (.seq (.region [
   ⟨some 13, .faddr 1 (.t 5), none⟩,
   ⟨some 14, .load 1 false (.t 13), none⟩,
   ⟨some 15, .bin .neq (.t 14) (.k (.int .i64 0)), none⟩])
 (.cond (.t 15) (.seq (.draw [
     ⟨some 16, .build [.int .i64 0, .int .i64 0, .bool false, .lst .nil 0 [], .int .i64 0, .lst .nil 0 []] [], none⟩,
     ⟨some 17, .load 2 true (.t 5), none⟩,
     ⟨none, .store 6 (.t 2) (.t 16), none⟩,
     ⟨none, .store 2 (.t 3) (.t 17), none⟩]
   [[], [], [0], [0, 1, 2]] [([0, 1], 2, [1]), ([], 3, [])] [])
   (.ret))
   (.skip)))
 (.seq (.region [
   ⟨some 18, .mv (.t 4), none⟩,
   ⟨some 19, .call K.parse_parser_typ [(.t 18), (.k (.int .i64 1))], none⟩,
   ⟨some 6, .alloc true [.int .i64 0, .int .i64 0, .bool false, .lst .nil 0 [], .int .i64 0, .lst .nil 0 []], none⟩,
   ⟨none, .store 6 (.t 6) (.t 19), none⟩])
 (.seq (.seq (.region [
   ⟨some 20, .mv (.t 4), none⟩,
   ⟨some 21, .call K.parse_parser_end [(.t 20)], none⟩,
   ⟨some 7, .alloc true [.int .i64 0, .int .i64 0], none⟩,
   ⟨none, .store 2 (.t 7) (.t 21), none⟩])
 (.seq (.region [
   ⟨some 22, .faddr 1 (.t 7), none⟩,
   ⟨some 23, .load 1 false (.t 22), none⟩,
   ⟨some 24, .bin .neq (.t 23) (.k (.int .i64 0)), none⟩])
 (.cond (.t 24) (.seq (.draw [
     ⟨some 25, .build [.int .i64 0, .int .i64 0, .bool false, .lst .nil 0 [], .int .i64 0, .lst .nil 0 []] [], none⟩,
     ⟨some 26, .load 2 true (.t 7), none⟩,
     ⟨none, .store 6 (.t 2) (.t 25), none⟩,
     ⟨none, .store 2 (.t 3) (.t 26), none⟩]
   [[], [], [0], [0, 1, 2]] [([0, 1], 2, [1]), ([], 3, [])] [])
   (.ret))
   (.skip))))
 (.seq (.region [
   ⟨some 27, .load 6 true (.t 6), none⟩,
   ⟨some 28, .build [.int .i64 0, .int .i64 0] [], none⟩,
   ⟨none, .store 6 (.t 2) (.t 27), none⟩,
   ⟨none, .store 2 (.t 3) (.t 28), none⟩])
 (.ret))))))⟩
theorem eq_parse_Type (Φ : Calls') (a0 : AV) (H : AH) (Q : Post) : fnE1 Φ ir_parse_Type [a0] H Q = parse_Type Φ a0 H Q := by kernel_rfl

/-! rabbet/parse.begin -/
def parse_begin_k1 (Φ : Calls') (x1 : AV) (x5 : AV) (Q : Post) : List AV → AH → Prop := fun j16 H17 =>
 Do (alen false x5) fun x25 =>
 Do (alen false x5) fun x26 =>
 Do (aslice 2 x5 none (some x25) (some x26)) fun x27 =>
 Do (abuild [.str [], .int .i64 0] [(1, 1, (sl j16 0))]) fun x28 =>
 DoH (abslice H17 false 2 1 [.str [], .int .i64 0] [(0, 2, x28)]) fun x29 H30 =>
 DoH (aappend H30 false 2 24 x27 x29) fun x31 H32 =>
 Do (abuild [.lst .nil 0 [], .int .i64 0, .int .i64 0] [(0, 1, x31)]) fun x33 =>
 DoH (aboxv H32 true 3 x33) fun x34 H35 =>
 Do (abuild [.int .i64 0, .int .i64 0] []) fun x36 =>
 Do (astore H35 2 x1 x36) fun H37 =>
 Do (aload H37 2 true x1) fun x38 =>
 Q (.tup [x34, x38]) H37
def parse_begin (Φ : Calls') (a0 : AV) (H : AH) (Q : Post) : Prop :=
 DoH (some (abox H true [.int .i64 0, .int .i64 0])) fun x1 H2 =>
Φ K.lex_Tokens [a0] H2 fun x3 H4 =>
 Do (aextract 0 x3) fun x5 =>
 Do (aextract 1 x3) fun x6 =>
 DoH (some (abox H4 true [.int .i64 0, .int .i64 0])) fun x7 H8 =>
 Do (astore H8 2 x7 x6) fun H9 =>
 Do (afaddr 1 x7) fun x10 =>
 Do (aload H9 1 false x10) fun x11 =>
 Do (abin .neq x11 (.int .i64 0)) fun x12 =>
 Gd x12 true (
 Do (aload H9 2 true x7) fun x13 =>
 Do (astore H9 2 x1 x13) fun H14 =>
 Do (aload H14 2 true x1) fun x15 =>
 Q (.tup [(.nilp), x15]) H14) (
 Do (alen false x5) fun x18 =>
 Do (abin .gtr x18 (.int .i64 0)) fun x19 =>
 Gd x19 true (
 Do (alen false x5) fun x20 =>
 Do (abin .sub x20 (.int .i64 1)) fun x21 =>
 Do (aiaddr none 2 x5 x21) fun x22 =>
 Do (afaddr 1 x22) fun x23 =>
 Do (aload H9 1 false x23) fun x24 =>
 JoinP (parse_begin_k1 Φ x1 x5 Q) [x24] H9) (
 JoinP (parse_begin_k1 Φ x1 x5 Q) [(.int .i64 0)] H9))
def ir_parse_begin : AFunc := ⟨39, [.tmp 2, .cell 3 2 true],
 .seq (.region [
   ⟨some 2, .mv (.k (.nilp)), none⟩,
   ⟨some 3, .alloc true [.int .i64 0, .int .i64 0], none⟩])
 (.seq (.region [
   ⟨some 8, .mv (.t 0), none⟩,
   ⟨some 9, .call K.lex_Tokens [(.t 8)], none⟩,
   ⟨some 7, .mv (.t 9), none⟩,
   ⟨some 10, .extract 0 (.t 7), none⟩,
   ⟨some 11, .extract 1 (.t 7), none⟩,
   ⟨some 5, .alloc true [.int .i64 0, .int .i64 0], none⟩,
   ⟨some 4, .mv (.t 10), none⟩,
   ⟨none, .store 2 (.t 5) (.t 11), none⟩])
 (.seq (.seq (.region [
   ⟨some 12, .faddr 1 (.t 5), none⟩,
   ⟨some 13, .load 1 false (.t 12), none⟩,
   ⟨some 14, .bin .neq (.t 13) (.k (.int .i64 0)), none⟩])
 (.cond (.t 14) (.seq (.draw [
     ⟨some 15, .load 2 true (.t 5), none⟩,
     ⟨some 2, .mv (.k (.nilp)), none⟩,
     ⟨none, .store 2 (.t 3) (.t 15), none⟩]
   [[], [], [0, 1]] [([0, 1], 2, [])] [])
   (.ret))
   (.skip)))
 (.seq (.region [
   ⟨some 6, .mv (.k (.int .i64 0)), none⟩])
 (.join [6] [16, 17, 18, 19, 20, 21, 22, 23, 24, 25] (.seq (.region [
   ⟨some 16, .mv (.t 4), none⟩,
   ⟨some 17, .len false (.t 16), none⟩,
   ⟨some 18, .bin .gtr (.t 17) (.k (.int .i64 0)), none⟩])
 (.cond (.t 18) (.region [
     ⟨some 19, .mv (.t 4), none⟩,
     ⟨some 20, .mv (.t 4), none⟩,
     ⟨some 21, .len false (.t 20), none⟩,
     ⟨some 22, .bin .sub (.t 21) (.k (.int .i64 1)), none⟩,
     ⟨some 23, .iaddr none 2 (.t 19) (.t 22), none⟩,
     ⟨some 24, .faddr 1 (.t 23), none⟩,
     ⟨some 25, .load 1 false (.t 24), none⟩,
     ⟨some 6, .mv (.t 25), none⟩])
   (.skip)))
 (.seq (.region [
   ⟨some 26, .mv (.t 4), none⟩,
   ⟨some 27, .mv (.t 4), none⟩,
   ⟨some 28, .len false (.t 27), none⟩,
   ⟨some 29, .mv (.t 4), none⟩,
   ⟨some 30, .len false (.t 29), none⟩,
   ⟨some 31, .slice 2 (.t 26) none (some (.t 28)) (some (.t 30)), none⟩,
   ⟨some 32, .mv (.t 6), none⟩,
   ⟨some 33, .build [.str [], .int .i64 0] [(1, 1, (.t 32))], none⟩,
   ⟨some 34, .bslice false 2 1 [.str [], .int .i64 0] [(0, 2, (.t 33))], none⟩,
   ⟨some 35, .append false 2 24 (.t 31) (.t 34), none⟩,
   ⟨some 36, .build [.lst .nil 0 [], .int .i64 0, .int .i64 0] [(0, 1, (.t 35))], none⟩,
   ⟨some 37, .box true 3 (.t 36), none⟩,
   ⟨some 38, .build [.int .i64 0, .int .i64 0] [], none⟩,
   ⟨some 2, .mv (.t 37), none⟩,
   ⟨none, .store 2 (.t 3) (.t 38), none⟩])
 (.ret))))))⟩
theorem eq_parse_begin (Φ : Calls') (a0 : AV) (H : AH) (Q : Post) : fnE1 Φ ir_parse_begin [a0] H Q = parse_begin Φ a0 H Q := by kernel_rfl

/-! (rabbet/parse.parser).is -/
def parse_parser_is_k1 (Φ : Calls') (a0 : AV) (Q : Post) : List AV → AH → Prop := fun j1 H2 =>
Φ K.parse_parser_next [a0] H2 fun x10 H11 =>
 Q (.bool true) H11
def parse_parser_is_k2 (Φ : Calls') (a0 : AV) (Q : Post) : List AV → AH → Prop := fun j3 H4 =>
 Gd (sl j3 0) true (
 Q (.bool false) H4) (
 JoinP (parse_parser_is_k1 Φ a0 Q) [] H4)
def parse_parser_is (Φ : Calls') (a0 : AV) (a1 : AV) (H : AH) (Q : Post) : Prop :=
Φ K.parse_parser_bad [a0] H fun x5 H6 =>
 Gd3 x5 false (
Φ K.parse_parser_peek [a0] H6 fun x7 H8 =>
 Do (abin .neq x7 a1) fun x9 =>
 JoinP (parse_parser_is_k2 Φ a0 Q) [x9] H8) (
 JoinP (parse_parser_is_k2 Φ a0 Q) [(.bool true)] H6) (
 False)
def ir_parse_parser_is : AFunc := ⟨15, [.tmp 4],
 .seq (.region [
   ⟨some 4, .mv (.k (.bool false)), none⟩])
 (.join [] [4, 5, 6, 7, 8, 9, 10, 11, 12] (.join [12] [5, 6, 7, 8, 9, 10, 11] (.region [
   ⟨some 5, .mv (.t 0), none⟩,
   ⟨some 6, .call K.parse_parser_bad [(.t 5)], none⟩,
   ⟨some 7, .mv (.t 6), none⟩,
   ⟨some 8, .mv (.t 0), some (7, false)⟩,
   ⟨some 9, .call K.parse_parser_peek [(.t 8)], some (7, false)⟩,
   ⟨some 10, .mv (.t 1), some (7, false)⟩,
   ⟨some 11, .bin .neq (.t 9) (.t 10), some (7, false)⟩,
   ⟨some 12, .pick (.t 7) (.k (.bool true)) (.t 11), none⟩])
 (.cond (.t 12) (.seq (.region [
     ⟨some 4, .mv (.k (.bool false)), none⟩])
   (.ret))
   (.skip)))
 (.seq (.region [
   ⟨some 13, .mv (.t 0), none⟩,
   ⟨some 14, .call K.parse_parser_next [(.t 13)], none⟩])
 (.seq (.region [
   ⟨some 4, .mv (.k (.bool true)), none⟩])
 (.ret))))⟩
theorem eq_parse_parser_is (Φ : Calls') (a0 a1 : AV) (H : AH) (Q : Post) : fnE1 Φ ir_parse_parser_is [a0, a1] H Q = parse_parser_is Φ a0 a1 H Q := by kernel_rfl

/-! (rabbet/parse.parser).name -/
def parse_parser_name_k1 (Φ : Calls') (a0 : AV) (Q : Post) : List AV → AH → Prop := fun j1 H2 =>
Φ K.parse_parser_next [a0] H2 fun x20 H21 =>
 Q x20 H21
def parse_parser_name_k2 (Φ : Calls') (a0 : AV) (Q : Post) : List AV → AH → Prop := fun j3 H4 =>
 Gd (sl j3 0) true (
Φ K.parse_parser_fail [a0, (.int .i64 4)] H4 fun x18 H19 =>
 Q (.str []) H19) (
 JoinP (parse_parser_name_k1 Φ a0 Q) [] H4)
def parse_parser_name_k3 (Φ : Calls') (a0 : AV) (Q : Post) : List AV → AH → Prop := fun j5 H6 =>
 Gd3 (sl j5 0) false (
Φ K.parse_parser_peek [a0] H6 fun x14 H15 =>
Φ K.lex_Keyword [x14] H15 fun x16 H17 =>
 JoinP (parse_parser_name_k2 Φ a0 Q) [x16] H17) (
 JoinP (parse_parser_name_k2 Φ a0 Q) [(.bool true)] H6) (
 False)
def parse_parser_name (Φ : Calls') (a0 : AV) (H : AH) (Q : Post) : Prop :=
Φ K.parse_parser_bad [a0] H fun x7 H8 =>
 Gd3 x7 false (
Φ K.parse_parser_peek [a0] H8 fun x9 H10 =>
Φ K.parse_letters [x9] H10 fun x11 H12 =>
 Do (aun .not x11) fun x13 =>
 JoinP (parse_parser_name_k3 Φ a0 Q) [x13] H12) (
 JoinP (parse_parser_name_k3 Φ a0 Q) [(.bool true)] H8) (
 False)
def ir_parse_parser_name : AFunc := ⟨20, [.tmp 2],
 .seq (.region [
   ⟨some 2, .mv (.k (.str [])), none⟩])
 (.join [] [2, 3, 4, 5, 6, 7, 8, 9, 10, 11, 12, 13, 14, 15, 16, 17] (.join [15] [3, 4, 5, 6, 7, 8, 9, 10, 11, 12, 13, 14] (.rjoin [10] [3, 4, 5, 6, 7, 8, 9] [
   ⟨some 3, .mv (.t 0), none⟩,
   ⟨some 4, .call K.parse_parser_bad [(.t 3)], none⟩,
   ⟨some 5, .mv (.t 4), none⟩,
   ⟨some 6, .mv (.t 0), some (5, false)⟩,
   ⟨some 7, .call K.parse_parser_peek [(.t 6)], some (5, false)⟩,
   ⟨some 8, .call K.parse_letters [(.t 7)], some (5, false)⟩,
   ⟨some 9, .un .not (.t 8), some (5, false)⟩,
   ⟨some 10, .pick (.t 5) (.k (.bool true)) (.t 9), none⟩]
 (.region [
   ⟨some 11, .mv (.t 10), none⟩,
   ⟨some 12, .mv (.t 0), some (11, false)⟩,
   ⟨some 13, .call K.parse_parser_peek [(.t 12)], some (11, false)⟩,
   ⟨some 14, .call K.lex_Keyword [(.t 13)], some (11, false)⟩,
   ⟨some 15, .pick (.t 11) (.k (.bool true)) (.t 14), none⟩]))
 (.cond (.t 15) (.seq (.region [
     ⟨some 16, .mv (.t 0), none⟩,
     ⟨some 17, .call K.parse_parser_fail [(.t 16), (.k (.int .i64 4))], none⟩])
   (.seq (.region [
     ⟨some 2, .mv (.k (.str [])), none⟩])
   (.ret)))
   (.skip)))
 (.seq (.region [
   ⟨some 18, .mv (.t 0), none⟩,
   ⟨some 19, .call K.parse_parser_next [(.t 18)], none⟩,
   ⟨some 2, .mv (.t 19), none⟩])
 (.ret)))⟩
theorem eq_parse_parser_name (Φ : Calls') (a0 : AV) (H : AH) (Q : Post) : fnE1 Φ ir_parse_parser_name [a0] H Q = parse_parser_name Φ a0 H Q := by kernel_rfl

/-! (rabbet/parse.parser).typ -/
def parse_parser_typ_k1 (Φ : Calls') (a0 : AV) (a1 : AV) (x28 : AV) (L70 : (List AV × AH) → Prop) (Q : Post) : List AV → AH → Prop := fun j71 H72 =>
 Do (afaddr 3 x28) fun x81 =>
 Do (aload H72 1 false x81) fun x82 =>
Φ K.parse_parser_field [a0, a1] H72 fun x83 H84 =>
(aload H84 1 false x81 = some x82) ∧
(DoH (abslice H84 false 9 1 [.str [], .int .i64 0, .int .i64 0, .bool false, .lst .nil 0 [], .int .i64 0, .lst .nil 0 [], .bool false, .int .i64 0] [(0, 9, x83)]) fun x85 H86 =>
 DoH (aappend H86 false 9 112 x82 x85) fun x87 H88 =>
 Do (afaddr 3 x28) fun x89 =>
 Do (astore H88 1 x89 x87) fun H90 =>
 L70 ([], H90))
def parse_parser_typ_k2 (Φ : Calls') (x1 : AV) (x28 : AV) (Q : Post) : List AV → AH → Prop := fun j65 H66 =>
 Do (aload H66 6 true x28) fun x91 =>
 Do (astore H66 6 x1 x91) fun H92 =>
 Do (aload H92 6 true x1) fun x93 =>
 Q x93 H92
def parse_parser_typ_k3 (Φ : Calls') (a0 : AV) (a1 : AV) (x1 : AV) (x28 : AV) (L70 : (List AV × AH) → Prop) (Q : Post) : List AV → AH → Prop := fun j73 H74 =>
 Gd (sl j73 0) true (
 JoinP (parse_parser_typ_k1 Φ a0 a1 x28 L70 Q) [] H74) (
 JoinP (parse_parser_typ_k2 Φ x1 x28 Q) [] H74)
def parse_parser_typ_l4 (Φ : Calls') (a0 : AV) (a1 : AV) (x1 : AV) (x28 : AV) (Q : Post) : (List AV × AH) → ((List AV × AH) → Prop) → Prop := fun s69 L70 =>
Φ K.parse_parser_bad [a0] s69.2 fun x75 H76 =>
 Do (aun .not x75) fun x77 =>
 Gd3 x77 true (
Φ K.parse_parser_is [a0, (.str [125])] H76 fun x78 H79 =>
 Do (aun .not x78) fun x80 =>
 JoinP (parse_parser_typ_k3 Φ a0 a1 x1 x28 L70 Q) [x80] H79) (
 JoinP (parse_parser_typ_k3 Φ a0 a1 x1 x28 L70 Q) [(.bool false)] H76) (
 False)
def parse_parser_typ (Φ : Calls') (a0 : AV) (a1 : AV) (H : AH) (Q : Post) : Prop :=
 DoH (some (abox H true [.int .i64 0, .int .i64 0, .bool false, .lst .nil 0 [], .int .i64 0, .lst .nil 0 []])) fun x1 H2 =>
Φ K.parse_parser_deep [a0, a1] H2 fun x3 H4 =>
 Do (aun .not x3) fun x5 =>
 Gd x5 true (
 Do (abuild [.int .i64 0, .int .i64 0, .bool false, .lst .nil 0 [], .int .i64 0, .lst .nil 0 []] []) fun x6 =>
 Do (astore H4 6 x1 x6) fun H7 =>
 Do (aload H7 6 true x1) fun x8 =>
 Q x8 H7) (
Φ K.parse_parser_peek [a0] H4 fun x9 H10 =>
Φ K.parse_scalar [x9] H10 fun x11 H12 =>
 Do (aextract 0 x11) fun x13 =>
 Do (aextract 1 x11) fun x14 =>
 DoH (some (abox H12 true [.int .i64 0, .int .i64 0, .bool false, .lst .nil 0 [], .int .i64 0, .lst .nil 0 []])) fun x15 H16 =>
 Do (astore H16 6 x15 x13) fun H17 =>
 Gd x14 true (
Φ K.parse_parser_next [a0] H17 fun x18 H19 =>
 Do (aload H19 6 true x15) fun x20 =>
 Do (astore H19 6 x1 x20) fun H21 =>
 Do (aload H21 6 true x1) fun x22 =>
 Q x22 H21) (
Φ K.parse_parser_peek [a0] H17 fun x23 H24 =>
Φ K.parse_kind [x23] H24 fun x25 H26 =>
 Do (abuild [.int .i64 0, .int .i64 0, .bool false, .lst .nil 0 [], .int .i64 0, .lst .nil 0 []] [(0, 1, x25)]) fun x27 =>
 DoH (some (abox H26 true [.int .i64 0, .int .i64 0, .bool false, .lst .nil 0 [], .int .i64 0, .lst .nil 0 []])) fun x28 H29 =>
 Do (astore H29 6 x28 x27) fun H30 =>
 Do (afaddr 0 x28) fun x31 =>
 Do (aload H30 1 false x31) fun x32 =>
 Do (abin .eql x32 (.int .i64 0)) fun x33 =>
 Gd x33 true (
Φ K.parse_parser_fail [a0, (.int .i64 4)] H30 fun x34 H35 =>
 Do (abuild [.int .i64 0, .int .i64 0, .bool false, .lst .nil 0 [], .int .i64 0, .lst .nil 0 []] []) fun x36 =>
 Do (astore H35 6 x1 x36) fun H37 =>
 Do (aload H37 6 true x1) fun x38 =>
 Q x38 H37) (
 Do (abin .eql x32 (.int .i64 5)) fun x39 =>
 Gd x39 true (
Φ K.parse_parser_next [a0] H30 fun x40 H41 =>
Φ K.parse_parser_number [a0, (.int .u64 1073741824)] H41 fun x42 H43 =>
 Do (aconv .i64 x42) fun x44 =>
 Do (afaddr 4 x28) fun x45 =>
 Do (astore H43 1 x45 x44) fun H46 =>
Φ K.parse_parser_want [a0, (.str [93])] H46 fun x47 H48 =>
 Do (abin .add a1 (.int .i64 1)) fun x49 =>
Φ K.parse_parser_typ [a0, x49] H48 fun x50 H51 =>
 DoH (abslice H51 false 6 1 [.int .i64 0, .int .i64 0, .bool false, .lst .nil 0 [], .int .i64 0, .lst .nil 0 []] [(0, 6, x50)]) fun x52 H53 =>
 Do (afaddr 5 x28) fun x54 =>
 Do (astore H53 1 x54 x52) fun H55 =>
 Do (aload H55 6 true x28) fun x56 =>
 Do (astore H55 6 x1 x56) fun H57 =>
 Do (aload H57 6 true x1) fun x58 =>
 Q x58 H57) (
Φ K.parse_parser_next [a0] H30 fun x59 H60 =>
Φ K.parse_parser_is [a0, (.str [112, 97, 99, 107, 101, 100])] H60 fun x61 H62 =>
 Do (afaddr 2 x28) fun x63 =>
 Do (astore H62 1 x63 x61) fun H64 =>
Φ K.parse_parser_want [a0, (.str [123])] H64 fun x67 H68 =>
 LoopP (parse_parser_typ_l4 Φ a0 a1 x1 x28 Q) ([], H68)))))
def ir_parse_parser_typ : AFunc := ⟨75, [.cell 4 6 true],
 .seq (.region [
   ⟨some 4, .alloc true [.int .i64 0, .int .i64 0, .bool false, .lst .nil 0 [], .int .i64 0, .lst .nil 0 []], none⟩])
 (.seq (.seq (.region [
   ⟨some 8, .mv (.t 0), none⟩,
   ⟨some 9, .mv (.t 1), none⟩,
   ⟨some 10, .call K.parse_parser_deep [(.t 8), (.t 9)], none⟩,
   ⟨some 11, .un .not (.t 10), none⟩])
 (.cond (.t 11) (.seq (.region [
     ⟨some 12, .build [.int .i64 0, .int .i64 0, .bool false, .lst .nil 0 [], .int .i64 0, .lst .nil 0 []] [], none⟩,
     ⟨none, .store 6 (.t 4) (.t 12), none⟩])
   (.ret))
   (.skip)))
 (.seq (.seq (.region [
   ⟨some 14, .mv (.t 0), none⟩,
   ⟨some 15, .call K.parse_parser_peek [(.t 14)], none⟩,
   ⟨some 16, .call K.parse_scalar [(.t 15)], none⟩,
   ⟨some 13, .mv (.t 16), none⟩,
   ⟨some 17, .extract 0 (.t 13), none⟩,
   ⟨some 18, .extract 1 (.t 13), none⟩,
   ⟨some 5, .alloc true [.int .i64 0, .int .i64 0, .bool false, .lst .nil 0 [], .int .i64 0, .lst .nil 0 []], none⟩,
   ⟨none, .store 6 (.t 5) (.t 17), none⟩,
   ⟨some 6, .mv (.t 18), none⟩])
 (.seq (.region [
   ⟨some 19, .mv (.t 6), none⟩])
 (.cond (.t 19) (.seq (.region [
     ⟨some 20, .mv (.t 0), none⟩,
     ⟨some 21, .call K.parse_parser_next [(.t 20)], none⟩])
   (.seq (.region [
     ⟨some 22, .load 6 true (.t 5), none⟩,
     ⟨none, .store 6 (.t 4) (.t 22), none⟩])
   (.ret)))
   (.skip))))
 (.seq (.region [
   ⟨some 23, .mv (.t 0), none⟩,
   ⟨some 24, .call K.parse_parser_peek [(.t 23)], none⟩,
   ⟨some 25, .call K.parse_kind [(.t 24)], none⟩,
   ⟨some 26, .build [.int .i64 0, .int .i64 0, .bool false, .lst .nil 0 [], .int .i64 0, .lst .nil 0 []] [(0, 1, (.t 25))], none⟩,
   ⟨some 7, .alloc true [.int .i64 0, .int .i64 0, .bool false, .lst .nil 0 [], .int .i64 0, .lst .nil 0 []], none⟩,
   ⟨none, .store 6 (.t 7) (.t 26), none⟩])
 (.seq (.seq (.region [
   ⟨some 27, .faddr 0 (.t 7), none⟩,
   ⟨some 28, .load 1 false (.t 27), none⟩])
 (.block 0 (.seq (.region [
   ⟨some 30, .bin .eql (.t 28) (.k (.int .i64 0)), none⟩,
   ⟨some 29, .mv (.t 30), none⟩])
 (.cond (.t 29) (.seq (.region [
     ⟨some 31, .mv (.t 0), none⟩,
     ⟨some 32, .call K.parse_parser_fail [(.t 31), (.k (.int .i64 4))], none⟩])
   (.seq (.region [
     ⟨some 33, .build [.int .i64 0, .int .i64 0, .bool false, .lst .nil 0 [], .int .i64 0, .lst .nil 0 []] [], none⟩,
     ⟨none, .store 6 (.t 4) (.t 33), none⟩])
   (.ret)))
   (.seq (.region [
     ⟨some 35, .bin .eql (.t 28) (.k (.int .i64 5)), none⟩,
     ⟨some 34, .mv (.t 35), none⟩])
   (.cond (.t 34) (.seq (.region [
       ⟨some 36, .mv (.t 0), none⟩,
       ⟨some 37, .call K.parse_parser_next [(.t 36)], none⟩])
     (.seq (.region [
       ⟨some 38, .mv (.t 0), none⟩,
       ⟨some 39, .call K.parse_parser_number [(.t 38), (.k (.int .u64 1073741824))], none⟩,
       ⟨some 40, .conv .i64 (.t 39), none⟩,
       ⟨some 41, .faddr 4 (.t 7), none⟩,
       ⟨none, .store 1 (.t 41) (.t 40), none⟩])
     (.seq (.region [
       ⟨some 42, .mv (.t 0), none⟩,
       ⟨some 43, .call K.parse_parser_want [(.t 42), (.k (.str [93]))], none⟩])
     (.seq (.region [
       ⟨some 44, .mv (.t 0), none⟩,
       ⟨some 45, .mv (.t 1), none⟩,
       ⟨some 46, .bin .add (.t 45) (.k (.int .i64 1)), none⟩,
       ⟨some 47, .call K.parse_parser_typ [(.t 44), (.t 46)], none⟩,
       ⟨some 48, .bslice false 6 1 [.int .i64 0, .int .i64 0, .bool false, .lst .nil 0 [], .int .i64 0, .lst .nil 0 []] [(0, 6, (.t 47))], none⟩,
       ⟨some 49, .faddr 5 (.t 7), none⟩,
       ⟨none, .store 1 (.t 49) (.t 48), none⟩])
     (.seq (.region [
       ⟨some 50, .load 6 true (.t 7), none⟩,
       ⟨none, .store 6 (.t 4) (.t 50), none⟩])
     (.ret))))))
     (.skip)))))))
 (.seq (.region [
   ⟨some 51, .mv (.t 0), none⟩,
   ⟨some 52, .call K.parse_parser_next [(.t 51)], none⟩])
 (.seq (.region [
   ⟨some 53, .mv (.t 0), none⟩,
   ⟨some 54, .call K.parse_parser_is [(.t 53), (.k (.str [112, 97, 99, 107, 101, 100]))], none⟩,
   ⟨some 55, .faddr 2 (.t 7), none⟩,
   ⟨none, .store 1 (.t 55) (.t 54), none⟩])
 (.join [] [56, 57, 58, 59, 60, 61, 62, 63, 64, 65, 66, 67, 68, 69, 70, 71, 72, 73] (.seq (.region [
   ⟨some 56, .mv (.t 0), none⟩,
   ⟨some 57, .call K.parse_parser_want [(.t 56), (.k (.str [123]))], none⟩])
 (.block 1 (.loop [] [58, 59, 60, 61, 62, 63, 64, 65, 66, 67, 68, 69, 70, 71, 72, 73] (.join [] [58, 59, 60, 61, 62, 63, 64, 65] (.join [65] [58, 59, 60, 61, 62, 63, 64] (.region [
   ⟨some 58, .mv (.t 0), none⟩,
   ⟨some 59, .call K.parse_parser_bad [(.t 58)], none⟩,
   ⟨some 60, .un .not (.t 59), none⟩,
   ⟨some 61, .mv (.t 60), none⟩,
   ⟨some 62, .mv (.t 0), some (61, true)⟩,
   ⟨some 63, .call K.parse_parser_is [(.t 62), (.k (.str [125]))], some (61, true)⟩,
   ⟨some 64, .un .not (.t 63), some (61, true)⟩,
   ⟨some 65, .pick (.t 61) (.t 64) (.k (.bool false)), none⟩])
 (.cond (.t 65) (.skip)
   (.exit 1)))
 (.block 2 (.draw [
   ⟨some 66, .faddr 3 (.t 7), none⟩,
   ⟨some 67, .load 1 false (.t 66), none⟩,
   ⟨some 68, .mv (.t 0), none⟩,
   ⟨some 69, .mv (.t 1), none⟩,
   ⟨some 70, .call K.parse_parser_field [(.t 68), (.t 69)], none⟩,
   ⟨some 71, .bslice false 9 1 [.str [], .int .i64 0, .int .i64 0, .bool false, .lst .nil 0 [], .int .i64 0, .lst .nil 0 [], .bool false, .int .i64 0] [(0, 9, (.t 70))], none⟩,
   ⟨some 72, .append false 9 112 (.t 67) (.t 71), none⟩,
   ⟨some 73, .faddr 3 (.t 7), none⟩,
   ⟨none, .store 1 (.t 73) (.t 72), none⟩]
 [[], [0], [], [], [2, 3], [2, 3, 4], [0, 1, 2, 3, 4, 5], [0, 1, 2, 3, 4, 5, 6], [0, 1, 2, 3, 4, 5, 6, 7]] [([0, 1, 2, 3], 4, [1]), ([5], 6, []), ([7], 8, [])] []))))))
 (.seq (.region [
   ⟨some 74, .load 6 true (.t 7), none⟩,
   ⟨none, .store 6 (.t 4) (.t 74), none⟩])
 (.ret)))))))))⟩
theorem eq_parse_parser_typ (Φ : Calls') (a0 a1 : AV) (H : AH) (Q : Post) : fnE1 Φ ir_parse_parser_typ [a0, a1] H Q = parse_parser_typ Φ a0 a1 H Q := by kernel_rfl

/-! (rabbet/parse.parser).want -/
def parse_parser_want_k1 (Φ : Calls') (a0 : AV) (Q : Post) : List AV → AH → Prop := fun j1 H2 =>
 Gd (sl j1 0) true (
Φ K.parse_parser_fail [a0, (.int .i64 4)] H2 fun x9 H10 =>
 Q (.tup []) H10) (
 Q (.tup []) H2)
def parse_parser_want (Φ : Calls') (a0 : AV) (a1 : AV) (H : AH) (Q : Post) : Prop :=
Φ K.parse_parser_bad [a0] H fun x3 H4 =>
 Do (aun .not x3) fun x5 =>
 Gd3 x5 true (
Φ K.parse_parser_is [a0, a1] H4 fun x6 H7 =>
 Do (aun .not x6) fun x8 =>
 JoinP (parse_parser_want_k1 Φ a0 Q) [x8] H7) (
 JoinP (parse_parser_want_k1 Φ a0 Q) [(.bool false)] H4) (
 False)
def ir_parse_parser_want : AFunc := ⟨15, [],
 .join [12] [4, 5, 6, 7, 8, 9, 10, 11] (.region [
   ⟨some 4, .mv (.t 0), none⟩,
   ⟨some 5, .call K.parse_parser_bad [(.t 4)], none⟩,
   ⟨some 6, .un .not (.t 5), none⟩,
   ⟨some 7, .mv (.t 6), none⟩,
   ⟨some 8, .mv (.t 0), some (7, true)⟩,
   ⟨some 9, .mv (.t 1), some (7, true)⟩,
   ⟨some 10, .call K.parse_parser_is [(.t 8), (.t 9)], some (7, true)⟩,
   ⟨some 11, .un .not (.t 10), some (7, true)⟩,
   ⟨some 12, .pick (.t 7) (.t 11) (.k (.bool false)), none⟩])
 (.cond (.t 12) (.region [
     ⟨some 13, .mv (.t 0), none⟩,
     ⟨some 14, .call K.parse_parser_fail [(.t 13), (.k (.int .i64 4))], none⟩])
   (.skip))⟩
theorem eq_parse_parser_want (Φ : Calls') (a0 a1 : AV) (H : AH) (Q : Post) : fnE1 Φ ir_parse_parser_want [a0, a1] H Q = parse_parser_want Φ a0 a1 H Q := by kernel_rfl

/-! (rabbet/parse.parser).block -/
def parse_parser_block_k1 (Φ : Calls') (a0 : AV) (a1 : AV) (s6 : List AV × AH) (L7 : (List AV × AH) → Prop) (Q : Post) : List AV → AH → Prop := fun j8 H9 =>
Φ K.parse_parser_stmt [a0, a1] H9 fun x18 H19 =>
 DoH (abslice H19 false 10 1 [.int .i64 0, .int .i64 0, .str [], .str [], .int .i64 0, .str [], .lst .nil 0 [], .lst .nil 0 [], .lst .nil 0 [], .lst .nil 0 []] [(0, 10, x18)]) fun x20 H21 =>
 DoH (aappend H21 false 10 168 (sl s6.1 0) x20) fun x22 H23 =>
 L7 ([x22], H23)
def parse_parser_block_k2 (Φ : Calls') (a0 : AV) (a1 : AV) (s6 : List AV × AH) (L7 : (List AV × AH) → Prop) (Q : Post) : List AV → AH → Prop := fun j10 H11 =>
 Gd (sl j10 0) true (
 JoinP (parse_parser_block_k1 Φ a0 a1 s6 L7 Q) [] H11) (
 Q (sl s6.1 0) H11)
def parse_parser_block_l3 (Φ : Calls') (a0 : AV) (a1 : AV) (Q : Post) : (List AV × AH) → ((List AV × AH) → Prop) → Prop := fun s6 L7 =>
Φ K.parse_parser_bad [a0] s6.2 fun x12 H13 =>
 Do (aun .not x12) fun x14 =>
 Gd3 x14 true (
Φ K.parse_parser_is [a0, (.str [125])] H13 fun x15 H16 =>
 Do (aun .not x15) fun x17 =>
 JoinP (parse_parser_block_k2 Φ a0 a1 s6 L7 Q) [x17] H16) (
 JoinP (parse_parser_block_k2 Φ a0 a1 s6 L7 Q) [(.bool false)] H13) (
 False)
def parse_parser_block (Φ : Calls') (a0 : AV) (a1 : AV) (H : AH) (Q : Post) : Prop :=
Φ K.parse_parser_deep [a0, a1] H fun x1 H2 =>
 Do (aun .not x1) fun x3 =>
 Gd x3 true (
 Q (.lst .nil 0 []) H2) (
Φ K.parse_parser_want [a0, (.str [123])] H2 fun x4 H5 =>
 LoopP (parse_parser_block_l3 Φ a0 a1 Q) ([(.lst .nil 0 [])], H5))
def ir_parse_parser_block : AFunc := ⟨27, [.tmp 4],
 .seq (.region [
   ⟨some 4, .mv (.k (.lst .nil 0 [])), none⟩])
 (.seq (.seq (.region [
   ⟨some 6, .mv (.t 0), none⟩,
   ⟨some 7, .mv (.t 1), none⟩,
   ⟨some 8, .call K.parse_parser_deep [(.t 6), (.t 7)], none⟩,
   ⟨some 9, .un .not (.t 8), none⟩])
 (.cond (.t 9) (.seq (.region [
     ⟨some 4, .mv (.k (.lst .nil 0 [])), none⟩])
   (.ret))
   (.skip)))
 (.seq (.region [
   ⟨some 5, .mv (.k (.lst .nil 0 [])), none⟩])
 (.seq (.seq (.region [
   ⟨some 10, .mv (.t 0), none⟩,
   ⟨some 11, .call K.parse_parser_want [(.t 10), (.k (.str [123]))], none⟩])
 (.block 0 (.loop [5] [12, 13, 14, 15, 16, 17, 18, 19, 20, 21, 22, 23, 24, 25] (.join [] [12, 13, 14, 15, 16, 17, 18, 19] (.join [19] [12, 13, 14, 15, 16, 17, 18] (.region [
   ⟨some 12, .mv (.t 0), none⟩,
   ⟨some 13, .call K.parse_parser_bad [(.t 12)], none⟩,
   ⟨some 14, .un .not (.t 13), none⟩,
   ⟨some 15, .mv (.t 14), none⟩,
   ⟨some 16, .mv (.t 0), some (15, true)⟩,
   ⟨some 17, .call K.parse_parser_is [(.t 16), (.k (.str [125]))], some (15, true)⟩,
   ⟨some 18, .un .not (.t 17), some (15, true)⟩,
   ⟨some 19, .pick (.t 15) (.t 18) (.k (.bool false)), none⟩])
 (.cond (.t 19) (.skip)
   (.exit 0)))
 (.block 1 (.region [
   ⟨some 20, .mv (.t 5), none⟩,
   ⟨some 21, .mv (.t 0), none⟩,
   ⟨some 22, .mv (.t 1), none⟩,
   ⟨some 23, .call K.parse_parser_stmt [(.t 21), (.t 22)], none⟩,
   ⟨some 24, .bslice false 10 1 [.int .i64 0, .int .i64 0, .str [], .str [], .int .i64 0, .str [], .lst .nil 0 [], .lst .nil 0 [], .lst .nil 0 [], .lst .nil 0 []] [(0, 10, (.t 23))], none⟩,
   ⟨some 25, .append false 10 168 (.t 20) (.t 24), none⟩,
   ⟨some 5, .mv (.t 25), none⟩]))))))
 (.seq (.region [
   ⟨some 26, .mv (.t 5), none⟩,
   ⟨some 4, .mv (.t 26), none⟩])
 (.ret)))))⟩
theorem eq_parse_parser_block (Φ : Calls') (a0 a1 : AV) (H : AH) (Q : Post) : fnE1 Φ ir_parse_parser_block [a0, a1] H Q = parse_parser_block Φ a0 a1 H Q := by kernel_rfl

/-! (rabbet/parse.parser).end -/
def parse_parser_end_k1 (Φ : Calls') (a0 : AV) (x1 : AV) (Q : Post) : List AV → AH → Prop := fun j3 H4 =>
 Do (anilck a0) fun x17 =>
 Do (afaddr 1 x17) fun x18 =>
 Do (aload H4 2 true x18) fun x19 =>
 Do (astore H4 2 x1 x19) fun H20 =>
 Do (aload H20 2 true x1) fun x21 =>
 Q x21 H20
def parse_parser_end_k2 (Φ : Calls') (a0 : AV) (x1 : AV) (Q : Post) : List AV → AH → Prop := fun j5 H6 =>
 Gd (sl j5 0) true (
Φ K.parse_parser_fail [a0, (.int .i64 4)] H6 fun x15 H16 =>
 JoinP (parse_parser_end_k1 Φ a0 x1 Q) [] H16) (
 JoinP (parse_parser_end_k1 Φ a0 x1 Q) [] H6)
def parse_parser_end (Φ : Calls') (a0 : AV) (H : AH) (Q : Post) : Prop :=
 DoH (some (abox H true [.int .i64 0, .int .i64 0])) fun x1 H2 =>
Φ K.parse_parser_bad [a0] H2 fun x7 H8 =>
 Do (aun .not x7) fun x9 =>
 Gd3 x9 true (
 Do (anilck a0) fun x10 =>
 Do (afaddr 0 x10) fun x11 =>
 Do (aload H8 1 false x11) fun x12 =>
 Do (alen false x12) fun x13 =>
 Do (abin .gtr x13 (.int .i64 1)) fun x14 =>
 JoinP (parse_parser_end_k2 Φ a0 x1 Q) [x14] H8) (
 JoinP (parse_parser_end_k2 Φ a0 x1 Q) [(.bool false)] H8) (
 False)
def ir_parse_parser_end : AFunc := ⟨20, [.cell 2 2 true],
 .seq (.region [
   ⟨some 2, .alloc true [.int .i64 0, .int .i64 0], none⟩])
 (.join [] [3, 4, 5, 6, 7, 8, 9, 10, 11, 12, 13, 14, 15] (.join [13] [3, 4, 5, 6, 7, 8, 9, 10, 11, 12] (.region [
   ⟨some 3, .mv (.t 0), none⟩,
   ⟨some 4, .call K.parse_parser_bad [(.t 3)], none⟩,
   ⟨some 5, .un .not (.t 4), none⟩,
   ⟨some 6, .mv (.t 5), none⟩,
   ⟨some 7, .mv (.t 0), some (6, true)⟩,
   ⟨some 8, .nilck (.t 7), some (6, true)⟩,
   ⟨some 9, .faddr 0 (.t 8), some (6, true)⟩,
   ⟨some 10, .load 1 false (.t 9), some (6, true)⟩,
   ⟨some 11, .len false (.t 10), some (6, true)⟩,
   ⟨some 12, .bin .gtr (.t 11) (.k (.int .i64 1)), some (6, true)⟩,
   ⟨some 13, .pick (.t 6) (.t 12) (.k (.bool false)), none⟩])
 (.cond (.t 13) (.region [
     ⟨some 14, .mv (.t 0), none⟩,
     ⟨some 15, .call K.parse_parser_fail [(.t 14), (.k (.int .i64 4))], none⟩])
   (.skip)))
 (.seq (.region [
   ⟨some 16, .mv (.t 0), none⟩,
   ⟨some 17, .nilck (.t 16), none⟩,
   ⟨some 18, .faddr 1 (.t 17), none⟩,
   ⟨some 19, .load 2 true (.t 18), none⟩,
   ⟨none, .store 2 (.t 2) (.t 19), none⟩])
 (.ret)))⟩
theorem eq_parse_parser_end (Φ : Calls') (a0 : AV) (H : AH) (Q : Post) : fnE1 Φ ir_parse_parser_end [a0] H Q = parse_parser_end Φ a0 H Q := by kernel_rfl

/-! rabbet/rabbetref08.class -/
def rabbetref08_class_l1 (Φ : Calls') (a0 : AV) (Q : Post) : (List AV × AH) → ((List AV × AH) → Prop) → Prop := fun s20 L21 =>
 Do (alen true (.str [123, 125, 91, 93, 40, 41, 59, 58, 44, 46, 43, 45, 42, 38, 124, 94])) fun x22 =>
 Do (abin .lss (sl s20.1 0) x22) fun x23 =>
 Gd x23 true (
 Do (aidxs (.str [123, 125, 91, 93, 40, 41, 59, 58, 44, 46, 43, 45, 42, 38, 124, 94]) (sl s20.1 0)) fun x24 =>
 Do (abin .eql x24 a0) fun x25 =>
 Gd x25 true (
 Q (.int .i64 4) s20.2) (
 Do (abin .add (sl s20.1 0) (.int .i64 1)) fun x26 =>
 L21 ([x26], s20.2))) (
 Q (.int .i64 0) s20.2)
def rabbetref08_class_k2 (Φ : Calls') (a0 : AV) (Q : Post) : List AV → AH → Prop := fun j1 H2 =>
 LoopP (rabbetref08_class_l1 Φ a0 Q) ([(.int .i64 0)], H2)
def rabbetref08_class_k3 (Φ : Calls') (a0 : AV) (Q : Post) : List AV → AH → Prop := fun j16 H17 =>
 Gd (sl j16 0) true (
 Q (.int .i64 6) H17) (
 JoinP (rabbetref08_class_k2 Φ a0 Q) [] H17)
def rabbetref08_class_k4 (Φ : Calls') (a0 : AV) (Q : Post) : List AV → AH → Prop := fun j12 H13 =>
 Gd (sl j12 0) true (
 Q (.int .i64 5) H13) (
 Do (abin .eql a0 (.int .u8 60)) fun x18 =>
 Gd3 x18 false (
 Do (abin .eql a0 (.int .u8 62)) fun x19 =>
 JoinP (rabbetref08_class_k3 Φ a0 Q) [x19] H13) (
 JoinP (rabbetref08_class_k3 Φ a0 Q) [(.bool true)] H13) (
 False))
def rabbetref08_class_k5 (Φ : Calls') (a0 : AV) (Q : Post) : List AV → AH → Prop := fun j7 H8 =>
 Gd (sl j7 0) true (
 Q (.int .i64 2) H8) (
 Do (abin .eql a0 (.int .u8 95)) fun x11 =>
 Gd x11 true (
 Q (.int .i64 3) H8) (
 Do (abin .eql a0 (.int .u8 61)) fun x14 =>
 Gd3 x14 false (
 Do (abin .eql a0 (.int .u8 33)) fun x15 =>
 JoinP (rabbetref08_class_k4 Φ a0 Q) [x15] H8) (
 JoinP (rabbetref08_class_k4 Φ a0 Q) [(.bool true)] H8) (
 False)))
def rabbetref08_class_k6 (Φ : Calls') (a0 : AV) (Q : Post) : List AV → AH → Prop := fun j3 H4 =>
 Gd (sl j3 0) true (
 Q (.int .i64 1) H4) (
 Do (abin .geq a0 (.int .u8 48)) fun x9 =>
 Gd3 x9 true (
 Do (abin .leq a0 (.int .u8 57)) fun x10 =>
 JoinP (rabbetref08_class_k5 Φ a0 Q) [x10] H4) (
 JoinP (rabbetref08_class_k5 Φ a0 Q) [(.bool false)] H4) (
 False))
def rabbetref08_class (Φ : Calls') (a0 : AV) (H : AH) (Q : Post) : Prop :=
 Do (abin .geq a0 (.int .u8 97)) fun x5 =>
 Gd3 x5 true (
 Do (abin .leq a0 (.int .u8 122)) fun x6 =>
 JoinP (rabbetref08_class_k6 Φ a0 Q) [x6] H) (
 JoinP (rabbetref08_class_k6 Φ a0 Q) [(.bool false)] H) (
 False)
def ir_rabbetref08_class : AFunc := ⟨47, [.tmp 2],
 .seq (.region [
   ⟨some 2, .mv (.k (.int .i64 0)), none⟩])
 (.join [] [2, 5, 6, 7, 8, 9, 10, 11, 12, 13, 14, 15, 16, 17, 18, 19, 20, 21, 22, 23, 24, 25, 26, 27, 28, 29, 30, 31, 32, 33, 34, 35] (.block 0 (.join [5] [6, 7, 8, 9, 10, 11] (.region [
   ⟨some 6, .mv (.t 0), none⟩,
   ⟨some 7, .bin .geq (.t 6) (.k (.int .u8 97)), none⟩,
   ⟨some 8, .mv (.t 7), none⟩,
   ⟨some 9, .mv (.t 0), some (8, true)⟩,
   ⟨some 10, .bin .leq (.t 9) (.k (.int .u8 122)), some (8, true)⟩,
   ⟨some 11, .pick (.t 8) (.t 10) (.k (.bool false)), none⟩,
   ⟨some 5, .mv (.t 11), none⟩])
 (.cond (.t 5) (.seq (.region [
     ⟨some 2, .mv (.k (.int .i64 1)), none⟩])
   (.ret))
   (.join [12] [13, 14, 15, 16, 17, 18] (.region [
     ⟨some 13, .mv (.t 0), none⟩,
     ⟨some 14, .bin .geq (.t 13) (.k (.int .u8 48)), none⟩,
     ⟨some 15, .mv (.t 14), none⟩,
     ⟨some 16, .mv (.t 0), some (15, true)⟩,
     ⟨some 17, .bin .leq (.t 16) (.k (.int .u8 57)), some (15, true)⟩,
     ⟨some 18, .pick (.t 15) (.t 17) (.k (.bool false)), none⟩,
     ⟨some 12, .mv (.t 18), none⟩])
   (.cond (.t 12) (.seq (.region [
       ⟨some 2, .mv (.k (.int .i64 2)), none⟩])
     (.ret))
     (.seq (.region [
       ⟨some 20, .mv (.t 0), none⟩,
       ⟨some 21, .bin .eql (.t 20) (.k (.int .u8 95)), none⟩,
       ⟨some 19, .mv (.t 21), none⟩])
     (.cond (.t 19) (.seq (.region [
         ⟨some 2, .mv (.k (.int .i64 3)), none⟩])
       (.ret))
       (.join [22] [23, 24, 25, 26, 27, 28] (.region [
         ⟨some 23, .mv (.t 0), none⟩,
         ⟨some 24, .bin .eql (.t 23) (.k (.int .u8 61)), none⟩,
         ⟨some 25, .mv (.t 24), none⟩,
         ⟨some 26, .mv (.t 0), some (25, false)⟩,
         ⟨some 27, .bin .eql (.t 26) (.k (.int .u8 33)), some (25, false)⟩,
         ⟨some 28, .pick (.t 25) (.k (.bool true)) (.t 27), none⟩,
         ⟨some 22, .mv (.t 28), none⟩])
       (.cond (.t 22) (.seq (.region [
           ⟨some 2, .mv (.k (.int .i64 5)), none⟩])
         (.ret))
         (.join [29] [30, 31, 32, 33, 34, 35] (.region [
           ⟨some 30, .mv (.t 0), none⟩,
           ⟨some 31, .bin .eql (.t 30) (.k (.int .u8 60)), none⟩,
           ⟨some 32, .mv (.t 31), none⟩,
           ⟨some 33, .mv (.t 0), some (32, false)⟩,
           ⟨some 34, .bin .eql (.t 33) (.k (.int .u8 62)), some (32, false)⟩,
           ⟨some 35, .pick (.t 32) (.k (.bool true)) (.t 34), none⟩,
           ⟨some 29, .mv (.t 35), none⟩])
         (.cond (.t 29) (.seq (.region [
             ⟨some 2, .mv (.k (.int .i64 6)), none⟩])
           (.ret))
           (.skip))))))))))))
 (.seq (.region [
   ⟨some 3, .mv (.k (.str [123, 125, 91, 93, 40, 41, 59, 58, 44, 46, 43, 45, 42, 38, 124, 94])), none⟩])
 (.seq (.seq (.region [
   ⟨some 4, .mv (.k (.int .i64 0)), none⟩])
 (.block 1 (.loop [4] [2, 36, 37, 38, 39, 40, 41, 42, 43, 44, 45, 46] (.seq (.seq (.region [
   ⟨some 36, .mv (.t 4), none⟩,
   ⟨some 37, .mv (.t 3), none⟩,
   ⟨some 38, .len true (.t 37), none⟩,
   ⟨some 39, .bin .lss (.t 36) (.t 38), none⟩])
 (.cond (.t 39) (.skip)
   (.exit 1)))
 (.seq (.block 2 (.seq (.region [
   ⟨some 42, .mv (.t 3), none⟩,
   ⟨some 43, .mv (.t 4), none⟩,
   ⟨some 44, .idxs (.t 42) (.t 43), none⟩,
   ⟨some 45, .mv (.t 0), none⟩,
   ⟨some 46, .bin .eql (.t 44) (.t 45), none⟩])
 (.cond (.t 46) (.seq (.region [
     ⟨some 2, .mv (.k (.int .i64 4)), none⟩])
   (.ret))
   (.skip))))
 (.region [
   ⟨some 40, .mv (.t 4), none⟩,
   ⟨some 41, .bin .add (.t 40) (.k (.int .i64 1)), none⟩,
   ⟨some 4, .mv (.t 41), none⟩]))))))
 (.seq (.region [
   ⟨some 2, .mv (.k (.int .i64 0)), none⟩])
 (.ret)))))⟩
theorem eq_rabbetref08_class (Φ : Calls') (a0 : AV) (H : AH) (Q : Post) : fnE1 Φ ir_rabbetref08_class [a0] H Q = rabbetref08_class Φ a0 H Q := by kernel_rfl

/-! rabbet/rabbetref08.great -/
def rabbetref08_great (Φ : Calls') (a0 : AV) (H : AH) (Q : Post) : Prop :=
 Do (alen true a0) fun x1 =>
 Do (alen true (.str [49, 56, 52, 52, 54, 55, 52, 52, 48, 55, 51, 55, 48, 57, 53, 53, 49, 54, 49, 53])) fun x2 =>
 Do (abin .gtr x1 x2) fun x3 =>
 Gd3 x3 false (
 Do (alen true a0) fun x4 =>
 Do (alen true (.str [49, 56, 52, 52, 54, 55, 52, 52, 48, 55, 51, 55, 48, 57, 53, 53, 49, 54, 49, 53])) fun x5 =>
 Do (abin .eql x4 x5) fun x6 =>
 Gd3 x6 true (
 Do (abin .gtr a0 (.str [49, 56, 52, 52, 54, 55, 52, 52, 48, 55, 51, 55, 48, 57, 53, 53, 49, 54, 49, 53])) fun x7 =>
 Q x7 H) (
 Q (.bool false) H) (
 False)) (
 Q (.bool true) H) (
 False)
def ir_rabbetref08_great : AFunc := ⟨21, [.tmp 2],
 .seq (.region [
   ⟨some 2, .mv (.k (.bool false)), none⟩])
 (.seq (.region [
   ⟨some 3, .mv (.k (.str [49, 56, 52, 52, 54, 55, 52, 52, 48, 55, 51, 55, 48, 57, 53, 53, 49, 54, 49, 53])), none⟩])
 (.seq (.region [
   ⟨some 4, .mv (.t 0), none⟩,
   ⟨some 5, .len true (.t 4), none⟩,
   ⟨some 6, .mv (.t 3), none⟩,
   ⟨some 7, .len true (.t 6), none⟩,
   ⟨some 8, .bin .gtr (.t 5) (.t 7), none⟩,
   ⟨some 9, .mv (.t 8), none⟩,
   ⟨some 10, .mv (.t 0), some (9, false)⟩,
   ⟨some 11, .len true (.t 10), some (9, false)⟩,
   ⟨some 12, .mv (.t 3), some (9, false)⟩,
   ⟨some 13, .len true (.t 12), some (9, false)⟩,
   ⟨some 14, .bin .eql (.t 11) (.t 13), some (9, false)⟩,
   ⟨some 15, .mv (.t 14), some (9, false)⟩,
   ⟨some 16, .mv (.t 0), some (15, true)⟩,
   ⟨some 17, .mv (.t 3), some (15, true)⟩,
   ⟨some 18, .bin .gtr (.t 16) (.t 17), some (15, true)⟩,
   ⟨some 19, .pick (.t 15) (.t 18) (.k (.bool false)), some (9, false)⟩,
   ⟨some 20, .pick (.t 9) (.k (.bool true)) (.t 19), none⟩,
   ⟨some 2, .mv (.t 20), none⟩])
 (.ret)))⟩
theorem eq_rabbetref08_great (Φ : Calls') (a0 : AV) (H : AH) (Q : Post) : fnE1 Φ ir_rabbetref08_great [a0] H Q = rabbetref08_great Φ a0 H Q := by kernel_rfl

/-! rabbet/lex.Tokens -/
def lex_Tokens_k1 (Φ : Calls') (x1 : AV) (x9 : AV) (Q : Post) : List AV → AH → Prop := fun j11 H12 =>
 Do (anilck x9) fun x29 =>
 Do (afaddr 3 x29) fun x30 =>
 Do (aload H12 1 false x30) fun x31 =>
 Do (abuild [.int .i64 0, .int .i64 0] []) fun x32 =>
 Do (astore H12 2 x1 x32) fun H33 =>
 Do (aload H33 2 true x1) fun x34 =>
 Q (.tup [x31, x34]) H33
def lex_Tokens_l2 (Φ : Calls') (a0 : AV) (x1 : AV) (x9 : AV) (Q : Post) : (List AV × AH) → ((List AV × AH) → Prop) → Prop := fun s13 L14 =>
 Do (anilck x9) fun x15 =>
 Do (afaddr 1 x15) fun x16 =>
 Do (aload s13.2 1 false x16) fun x17 =>
 Do (alen true a0) fun x18 =>
 Do (abin .lss x17 x18) fun x19 =>
 Gd x19 true (
Φ K.lex_scanner_next [x9] s13.2 fun x20 H21 =>
 Do (aun .not x20) fun x22 =>
 Gd x22 true (
 Do (anilck x9) fun x23 =>
 Do (afaddr 2 x23) fun x24 =>
 Do (aload H21 1 false x24) fun x25 =>
 Do (abuild [.int .i64 0, .int .i64 0] [(0, 1, x25), (1, 1, (.int .i64 3))]) fun x26 =>
 Do (astore H21 2 x1 x26) fun H27 =>
 Do (aload H27 2 true x1) fun x28 =>
 Q (.tup [(.lst .nil 0 []), x28]) H27) (
 L14 ([], H21))) (
 JoinP (lex_Tokens_k1 Φ x1 x9 Q) [] s13.2)
def lex_Tokens (Φ : Calls') (a0 : AV) (H : AH) (Q : Post) : Prop :=
 DoH (some (abox H true [.int .i64 0, .int .i64 0])) fun x1 H2 =>
 Do (alen true a0) fun x3 =>
 Do (abin .gtr x3 (.int .i64 1048576)) fun x4 =>
 Gd x4 true (
 Do (abuild [.int .i64 0, .int .i64 0] [(1, 1, (.int .i64 12))]) fun x5 =>
 Do (astore H2 2 x1 x5) fun H6 =>
 Do (aload H6 2 true x1) fun x7 =>
 Q (.tup [(.lst .nil 0 []), x7]) H6) (
 Do (abuild [.str [], .int .i64 0, .int .i64 0, .lst .nil 0 []] [(0, 1, a0), (2, 1, (.int .i64 1))]) fun x8 =>
 DoH (aboxv H2 true 4 x8) fun x9 H10 =>
 LoopP (lex_Tokens_l2 Φ a0 x1 x9 Q) ([], H10))
def ir_lex_Tokens : AFunc := ⟨32, [.tmp 2, .cell 3 2 true],
 .seq (.region [
   ⟨some 2, .mv (.k (.lst .nil 0 [])), none⟩,
   ⟨some 3, .alloc true [.int .i64 0, .int .i64 0], none⟩])
 (.seq (.seq (.region [
   ⟨some 5, .mv (.t 0), none⟩,
   ⟨some 6, .len true (.t 5), none⟩,
   ⟨some 7, .bin .gtr (.t 6) (.k (.int .i64 1048576)), none⟩])
 (.cond (.t 7) (.seq (.region [
     ⟨some 8, .build [.int .i64 0, .int .i64 0] [(1, 1, (.k (.int .i64 12)))], none⟩,
     ⟨some 2, .mv (.k (.lst .nil 0 [])), none⟩,
     ⟨none, .store 2 (.t 3) (.t 8), none⟩])
   (.ret))
   (.skip)))
 (.seq (.region [
   ⟨some 9, .mv (.t 0), none⟩,
   ⟨some 10, .build [.str [], .int .i64 0, .int .i64 0, .lst .nil 0 []] [(0, 1, (.t 9)), (2, 1, (.k (.int .i64 1)))], none⟩,
   ⟨some 11, .box true 4 (.t 10), none⟩,
   ⟨some 4, .mv (.t 11), none⟩])
 (.join [] [2, 12, 13, 14, 15, 16, 17, 18, 19, 20, 21, 22, 23, 24, 25, 26] (.block 0 (.loop [] [2, 12, 13, 14, 15, 16, 17, 18, 19, 20, 21, 22, 23, 24, 25, 26] (.seq (.seq (.region [
   ⟨some 12, .mv (.t 4), none⟩,
   ⟨some 13, .nilck (.t 12), none⟩,
   ⟨some 14, .faddr 1 (.t 13), none⟩,
   ⟨some 15, .load 1 false (.t 14), none⟩,
   ⟨some 16, .mv (.t 0), none⟩,
   ⟨some 17, .len true (.t 16), none⟩,
   ⟨some 18, .bin .lss (.t 15) (.t 17), none⟩])
 (.cond (.t 18) (.skip)
   (.exit 0)))
 (.block 1 (.seq (.region [
   ⟨some 19, .mv (.t 4), none⟩,
   ⟨some 20, .call K.lex_scanner_next [(.t 19)], none⟩,
   ⟨some 21, .un .not (.t 20), none⟩])
 (.cond (.t 21) (.seq (.draw [
     ⟨some 22, .mv (.t 4), none⟩,
     ⟨some 23, .nilck (.t 22), none⟩,
     ⟨some 24, .faddr 2 (.t 23), none⟩,
     ⟨some 25, .load 1 false (.t 24), none⟩,
     ⟨some 26, .build [.int .i64 0, .int .i64 0] [(0, 1, (.t 25)), (1, 1, (.k (.int .i64 3)))], none⟩,
     ⟨some 2, .mv (.k (.lst .nil 0 [])), none⟩,
     ⟨none, .store 2 (.t 3) (.t 26), none⟩]
   [[], [0], [0, 1], [0, 1, 2], [0, 1, 2, 3], [], [0, 1, 2, 3, 4, 5]] [([0, 1, 2, 3, 4, 5], 6, [])] [])
   (.ret))
   (.skip)))))))
 (.seq (.region [
   ⟨some 27, .mv (.t 4), none⟩,
   ⟨some 28, .nilck (.t 27), none⟩,
   ⟨some 29, .faddr 3 (.t 28), none⟩,
   ⟨some 30, .load 1 false (.t 29), none⟩,
   ⟨some 31, .build [.int .i64 0, .int .i64 0] [], none⟩,
   ⟨some 2, .mv (.t 30), none⟩,
   ⟨none, .store 2 (.t 3) (.t 31), none⟩])
 (.ret)))))⟩
theorem eq_lex_Tokens (Φ : Calls') (a0 : AV) (H : AH) (Q : Post) : fnE1 Φ ir_lex_Tokens [a0] H Q = lex_Tokens Φ a0 H Q := by kernel_rfl

/-! (rabbet/parse.parser).bad -/
def parse_parser_bad (Φ : Calls') (a0 : AV) (H : AH) (Q : Post) : Prop :=
 Do (anilck a0) fun x1 =>
 Do (afaddr 1 x1) fun x2 =>
 Do (afaddr 1 x2) fun x3 =>
 Do (aload H 1 false x3) fun x4 =>
 Do (abin .neq x4 (.int .i64 0)) fun x5 =>
 Q x5 H
def ir_parse_parser_bad : AFunc := ⟨9, [.tmp 2],
 .seq (.region [
   ⟨some 2, .mv (.k (.bool false)), none⟩])
 (.seq (.region [
   ⟨some 3, .mv (.t 0), none⟩,
   ⟨some 4, .nilck (.t 3), none⟩,
   ⟨some 5, .faddr 1 (.t 4), none⟩,
   ⟨some 6, .faddr 1 (.t 5), none⟩,
   ⟨some 7, .load 1 false (.t 6), none⟩,
   ⟨some 8, .bin .neq (.t 7) (.k (.int .i64 0)), none⟩,
   ⟨some 2, .mv (.t 8), none⟩])
 (.ret))⟩
theorem eq_parse_parser_bad (Φ : Calls') (a0 : AV) (H : AH) (Q : Post) : fnE1 Φ ir_parse_parser_bad [a0] H Q = parse_parser_bad Φ a0 H Q := by kernel_rfl

/-! (rabbet/parse.parser).peek -/
def parse_parser_peek (Φ : Calls') (a0 : AV) (H : AH) (Q : Post) : Prop :=
 Do (anilck a0) fun x1 =>
 Do (afaddr 0 x1) fun x2 =>
 Do (aload H 1 false x2) fun x3 =>
 Do (aiaddr none 2 x3 (.int .i64 0)) fun x4 =>
 Do (afaddr 0 x4) fun x5 =>
 Do (aload H 1 false x5) fun x6 =>
 Q x6 H
def ir_parse_parser_peek : AFunc := ⟨10, [.tmp 2],
 .seq (.region [
   ⟨some 2, .mv (.k (.str [])), none⟩])
 (.seq (.region [
   ⟨some 3, .mv (.t 0), none⟩,
   ⟨some 4, .nilck (.t 3), none⟩,
   ⟨some 5, .faddr 0 (.t 4), none⟩,
   ⟨some 6, .load 1 false (.t 5), none⟩,
   ⟨some 7, .iaddr none 2 (.t 6) (.k (.int .i64 0)), none⟩,
   ⟨some 8, .faddr 0 (.t 7), none⟩,
   ⟨some 9, .load 1 false (.t 8), none⟩,
   ⟨some 2, .mv (.t 9), none⟩])
 (.ret))⟩
theorem eq_parse_parser_peek (Φ : Calls') (a0 : AV) (H : AH) (Q : Post) : fnE1 Φ ir_parse_parser_peek [a0] H Q = parse_parser_peek Φ a0 H Q := by kernel_rfl

/-! (rabbet/parse.parser).next -/
def parse_parser_next (Φ : Calls') (a0 : AV) (H : AH) (Q : Post) : Prop :=
Φ K.parse_parser_peek [a0] H fun x1 H2 =>
 Do (anilck a0) fun x3 =>
 Do (afaddr 0 x3) fun x4 =>
 Do (aload H2 1 false x4) fun x5 =>
 Do (alen false x5) fun x6 =>
 Do (abin .gtr x6 (.int .i64 1)) fun x7 =>
 Gd x7 true (
 Do (anilck a0) fun x8 =>
 Do (afaddr 0 x8) fun x9 =>
 Do (aload H2 1 false x9) fun x10 =>
 Do (aslice 2 x10 (some (.int .i64 1)) none none) fun x11 =>
 Do (anilck a0) fun x12 =>
 Do (afaddr 0 x12) fun x13 =>
 Do (astore H2 1 x13 x11) fun H14 =>
 Q x1 H14) (
 Q x1 H2)
def ir_parse_parser_next : AFunc := ⟨21, [.tmp 2],
 .seq (.region [
   ⟨some 2, .mv (.k (.str [])), none⟩])
 (.seq (.region [
   ⟨some 4, .mv (.t 0), none⟩,
   ⟨some 5, .call K.parse_parser_peek [(.t 4)], none⟩,
   ⟨some 3, .mv (.t 5), none⟩])
 (.seq (.seq (.region [
   ⟨some 6, .mv (.t 0), none⟩,
   ⟨some 7, .nilck (.t 6), none⟩,
   ⟨some 8, .faddr 0 (.t 7), none⟩,
   ⟨some 9, .load 1 false (.t 8), none⟩,
   ⟨some 10, .len false (.t 9), none⟩,
   ⟨some 11, .bin .gtr (.t 10) (.k (.int .i64 1)), none⟩])
 (.cond (.t 11) (.region [
     ⟨some 12, .mv (.t 0), none⟩,
     ⟨some 13, .mv (.t 0), none⟩,
     ⟨some 14, .nilck (.t 13), none⟩,
     ⟨some 15, .faddr 0 (.t 14), none⟩,
     ⟨some 16, .load 1 false (.t 15), none⟩,
     ⟨some 17, .slice 2 (.t 16) (some (.k (.int .i64 1))) none none, none⟩,
     ⟨some 18, .nilck (.t 12), none⟩,
     ⟨some 19, .faddr 0 (.t 18), none⟩,
     ⟨none, .store 1 (.t 19) (.t 17), none⟩])
   (.skip)))
 (.seq (.region [
   ⟨some 20, .mv (.t 3), none⟩,
   ⟨some 2, .mv (.t 20), none⟩])
 (.ret))))⟩
theorem eq_parse_parser_next (Φ : Calls') (a0 : AV) (H : AH) (Q : Post) : fnE1 Φ ir_parse_parser_next [a0] H Q = parse_parser_next Φ a0 H Q := by kernel_rfl

/-! rabbet/parse.letters -/
def parse_letters_k1 (Φ : Calls') (a0 : AV) (Q : Post) : List AV → AH → Prop := fun j1 H2 =>
 Gd3 (sl j1 0) true (
 Do (aidxs a0 (.int .i64 0)) fun x6 =>
 Do (abin .leq x6 (.int .u8 122)) fun x7 =>
 Q x7 H2) (
 Q (.bool false) H2) (
 False)
def parse_letters (Φ : Calls') (a0 : AV) (H : AH) (Q : Post) : Prop :=
 Do (abin .neq a0 (.str [])) fun x3 =>
 Gd3 x3 true (
 Do (aidxs a0 (.int .i64 0)) fun x4 =>
 Do (abin .geq x4 (.int .u8 97)) fun x5 =>
 JoinP (parse_letters_k1 Φ a0 Q) [x5] H) (
 JoinP (parse_letters_k1 Φ a0 Q) [(.bool false)] H) (
 False)
def ir_parse_letters : AFunc := ⟨15, [.tmp 2],
 .seq (.region [
   ⟨some 2, .mv (.k (.bool false)), none⟩])
 (.seq (.rjoin [9] [3, 4, 5, 6, 7, 8] [
   ⟨some 3, .mv (.t 0), none⟩,
   ⟨some 4, .bin .neq (.t 3) (.k (.str [])), none⟩,
   ⟨some 5, .mv (.t 4), none⟩,
   ⟨some 6, .mv (.t 0), some (5, true)⟩,
   ⟨some 7, .idxs (.t 6) (.k (.int .i64 0)), some (5, true)⟩,
   ⟨some 8, .bin .geq (.t 7) (.k (.int .u8 97)), some (5, true)⟩,
   ⟨some 9, .pick (.t 5) (.t 8) (.k (.bool false)), none⟩]
 (.region [
   ⟨some 10, .mv (.t 9), none⟩,
   ⟨some 11, .mv (.t 0), some (10, true)⟩,
   ⟨some 12, .idxs (.t 11) (.k (.int .i64 0)), some (10, true)⟩,
   ⟨some 13, .bin .leq (.t 12) (.k (.int .u8 122)), some (10, true)⟩,
   ⟨some 14, .pick (.t 10) (.t 13) (.k (.bool false)), none⟩,
   ⟨some 2, .mv (.t 14), none⟩]))
 (.ret))⟩
theorem eq_parse_letters (Φ : Calls') (a0 : AV) (H : AH) (Q : Post) : fnE1 Φ ir_parse_letters [a0] H Q = parse_letters Φ a0 H Q := by kernel_rfl

/-! rabbet/lex.Keyword -/
def lex_Keyword (Φ : Calls') (a0 : AV) (H : AH) (Q : Post) : Prop :=
Φ K.strings_Fields [(.str [118, 97, 114, 32, 116, 104, 114, 101, 97, 100, 32, 115, 116, 114, 117, 99, 116, 32, 117, 110, 105, 111, 110, 32, 112, 97, 99, 107, 101, 100, 32, 117, 56, 32, 117, 49, 54, 32, 117, 51, 50, 32, 117, 54, 52, 32, 97, 56, 32, 97, 49, 54, 32, 97, 51, 50, 32, 97, 54, 52, 32, 97, 49, 50, 56, 32, 108, 101, 116, 32, 115, 101, 116, 32, 119, 114, 105, 116, 101, 32, 115, 116, 111, 114, 101, 32, 108, 111, 97, 100, 50, 32, 115, 116, 111, 114, 101, 50, 32, 102, 101, 110, 99, 101, 32, 105, 102, 32, 101, 108, 115, 101, 32, 119, 104, 105, 108, 101, 32, 112, 114, 105, 110, 116, 32, 114, 101, 97, 100, 32, 108, 111, 97, 100, 32, 97, 100, 100, 32, 115, 119, 97, 112, 32, 99, 97, 115, 32, 114, 108, 120, 32, 97, 99, 113, 32, 114, 101, 108, 32, 115, 99])] H fun x1 H2 =>
Φ K.slices_Contains___string_string_ [x1, a0] H2 fun x3 H4 =>
 Q x3 H4
def ir_lex_Keyword : AFunc := ⟨6, [.tmp 2],
 .seq (.region [
   ⟨some 2, .mv (.k (.bool false)), none⟩])
 (.seq (.region [
   ⟨some 3, .call K.strings_Fields [(.k (.str [118, 97, 114, 32, 116, 104, 114, 101, 97, 100, 32, 115, 116, 114, 117, 99, 116, 32, 117, 110, 105, 111, 110, 32, 112, 97, 99, 107, 101, 100, 32, 117, 56, 32, 117, 49, 54, 32, 117, 51, 50, 32, 117, 54, 52, 32, 97, 56, 32, 97, 49, 54, 32, 97, 51, 50, 32, 97, 54, 52, 32, 97, 49, 50, 56, 32, 108, 101, 116, 32, 115, 101, 116, 32, 119, 114, 105, 116, 101, 32, 115, 116, 111, 114, 101, 32, 108, 111, 97, 100, 50, 32, 115, 116, 111, 114, 101, 50, 32, 102, 101, 110, 99, 101, 32, 105, 102, 32, 101, 108, 115, 101, 32, 119, 104, 105, 108, 101, 32, 112, 114, 105, 110, 116, 32, 114, 101, 97, 100, 32, 108, 111, 97, 100, 32, 97, 100, 100, 32, 115, 119, 97, 112, 32, 99, 97, 115, 32, 114, 108, 120, 32, 97, 99, 113, 32, 114, 101, 108, 32, 115, 99]))], none⟩,
   ⟨some 4, .mv (.t 0), none⟩,
   ⟨some 5, .call K.slices_Contains___string_string_ [(.t 3), (.t 4)], none⟩,
   ⟨some 2, .mv (.t 5), none⟩])
 (.ret))⟩
theorem eq_lex_Keyword (Φ : Calls') (a0 : AV) (H : AH) (Q : Post) : fnE1 Φ ir_lex_Keyword [a0] H Q = lex_Keyword Φ a0 H Q := by kernel_rfl

/-! (rabbet/parse.parser).fail -/
def parse_parser_fail (Φ : Calls') (a0 : AV) (a1 : AV) (H : AH) (Q : Post) : Prop :=
Φ K.parse_parser_bad [a0] H fun x1 H2 =>
 Do (aun .not x1) fun x3 =>
 Gd x3 true (
 Do (anilck a0) fun x4 =>
 Do (afaddr 0 x4) fun x5 =>
 Do (aload H2 1 false x5) fun x6 =>
 Do (aiaddr none 2 x6 (.int .i64 0)) fun x7 =>
 Do (afaddr 1 x7) fun x8 =>
 Do (aload H2 1 false x8) fun x9 =>
 Do (abuild [.int .i64 0, .int .i64 0] [(0, 1, x9), (1, 1, a1)]) fun x10 =>
 Do (anilck a0) fun x11 =>
 Do (afaddr 1 x11) fun x12 =>
 Do (astore H2 2 x12 x10) fun H13 =>
 Q (.tup []) H13) (
 Q (.tup []) H2)
def ir_parse_parser_fail : AFunc := ⟨19, [],
 .seq (.region [
   ⟨some 4, .mv (.t 0), none⟩,
   ⟨some 5, .call K.parse_parser_bad [(.t 4)], none⟩,
   ⟨some 6, .un .not (.t 5), none⟩])
 (.cond (.t 6) (.region [
     ⟨some 7, .mv (.t 0), none⟩,
     ⟨some 8, .mv (.t 0), none⟩,
     ⟨some 9, .nilck (.t 8), none⟩,
     ⟨some 10, .faddr 0 (.t 9), none⟩,
     ⟨some 11, .load 1 false (.t 10), none⟩,
     ⟨some 12, .iaddr none 2 (.t 11) (.k (.int .i64 0)), none⟩,
     ⟨some 13, .faddr 1 (.t 12), none⟩,
     ⟨some 14, .load 1 false (.t 13), none⟩,
     ⟨some 15, .mv (.t 1), none⟩,
     ⟨some 16, .build [.int .i64 0, .int .i64 0] [(0, 1, (.t 14)), (1, 1, (.t 15))], none⟩,
     ⟨some 17, .nilck (.t 7), none⟩,
     ⟨some 18, .faddr 1 (.t 17), none⟩,
     ⟨none, .store 2 (.t 18) (.t 16), none⟩])
   (.skip))⟩
theorem eq_parse_parser_fail (Φ : Calls') (a0 a1 : AV) (H : AH) (Q : Post) : fnE1 Φ ir_parse_parser_fail [a0, a1] H Q = parse_parser_fail Φ a0 a1 H Q := by kernel_rfl

/-! (rabbet/parse.parser).deep -/
def parse_parser_deep_k1 (Φ : Calls') (a0 : AV) (Q : Post) : List AV → AH → Prop := fun j1 H2 =>
Φ K.parse_parser_bad [a0] H2 fun x6 H7 =>
 Do (aun .not x6) fun x8 =>
 Q x8 H7
def parse_parser_deep (Φ : Calls') (a0 : AV) (a1 : AV) (H : AH) (Q : Post) : Prop :=
 Do (abin .gtr a1 (.int .i64 64)) fun x3 =>
 Gd x3 true (
Φ K.parse_parser_fail [a0, (.int .i64 5)] H fun x4 H5 =>
 JoinP (parse_parser_deep_k1 Φ a0 Q) [] H5) (
 JoinP (parse_parser_deep_k1 Φ a0 Q) [] H)
def ir_parse_parser_deep : AFunc := ⟨12, [.tmp 4],
 .seq (.region [
   ⟨some 4, .mv (.k (.bool false)), none⟩])
 (.join [] [5, 6, 7, 8] (.seq (.region [
   ⟨some 5, .mv (.t 1), none⟩,
   ⟨some 6, .bin .gtr (.t 5) (.k (.int .i64 64)), none⟩])
 (.cond (.t 6) (.region [
     ⟨some 7, .mv (.t 0), none⟩,
     ⟨some 8, .call K.parse_parser_fail [(.t 7), (.k (.int .i64 5))], none⟩])
   (.skip)))
 (.seq (.region [
   ⟨some 9, .mv (.t 0), none⟩,
   ⟨some 10, .call K.parse_parser_bad [(.t 9)], none⟩,
   ⟨some 11, .un .not (.t 10), none⟩,
   ⟨some 4, .mv (.t 11), none⟩])
 (.ret)))⟩
theorem eq_parse_parser_deep (Φ : Calls') (a0 a1 : AV) (H : AH) (Q : Post) : fnE1 Φ ir_parse_parser_deep [a0, a1] H Q = parse_parser_deep Φ a0 a1 H Q := by kernel_rfl

/-! rabbet/parse.scalar -/
def parse_scalar_k1 (Φ : Calls') (s10 : List AV × AH) (L11 : (List AV × AH) → Prop) (Q : Post) : List AV → AH → Prop := fun j13 H14 =>
 Do (abin .add (sl s10.1 0) (.int .i64 1)) fun x29 =>
 L11 ([x29], H14)
def parse_scalar_l2 (Φ : Calls') (a0 : AV) (x1 : AV) (x15 : AV) (x16 : AV) (s10 : List AV × AH) (L11 : (List AV × AH) → Prop) (Q : Post) : (List AV × AH) → ((List AV × AH) → Prop) → Prop := fun s17 L18 =>
 Do (abin .lss (sl s17.1 0) x16) fun x19 =>
 Gd x19 true (
 Do (aiaddr none 1 x15 (sl s17.1 0)) fun x20 =>
 Do (aload s17.2 1 false x20) fun x21 =>
 Do (abin .eql x21 a0) fun x22 =>
 Gd x22 true (
 Do (abin .add (sl s10.1 0) (.int .i64 1)) fun x23 =>
 Do (abin .shl (.int .i64 1) (sl s17.1 0)) fun x24 =>
 Do (abuild [.int .i64 0, .int .i64 0, .bool false, .lst .nil 0 [], .int .i64 0, .lst .nil 0 []] [(0, 1, x23), (1, 1, x24)]) fun x25 =>
 Do (astore s17.2 6 x1 x25) fun H26 =>
 Do (aload H26 6 true x1) fun x27 =>
 Q (.tup [x27, (.bool true)]) H26) (
 Do (abin .add (sl s17.1 0) (.int .i64 1)) fun x28 =>
 L18 ([x28], s17.2))) (
 JoinP (parse_scalar_k1 Φ s10 L11 Q) [] s17.2)
def parse_scalar_k3 (Φ : Calls') (x1 : AV) (Q : Post) : List AV → AH → Prop := fun j3 H4 =>
 Do (abuild [.int .i64 0, .int .i64 0, .bool false, .lst .nil 0 [], .int .i64 0, .lst .nil 0 []] []) fun x30 =>
 Do (astore H4 6 x1 x30) fun H31 =>
 Do (aload H31 6 true x1) fun x32 =>
 Q (.tup [x32, (.bool false)]) H31
def parse_scalar_l4 (Φ : Calls') (a0 : AV) (x1 : AV) (x9 : AV) (Q : Post) : (List AV × AH) → ((List AV × AH) → Prop) → Prop := fun s10 L11 =>
 Do (abin .lss (sl s10.1 0) (.int .i64 2)) fun x12 =>
 Gd x12 true (
 Do (aidx 2 1 false x9 (sl s10.1 0)) fun x15 =>
 Do (alen false x15) fun x16 =>
 LoopP (parse_scalar_l2 Φ a0 x1 x15 x16 s10 L11 Q) ([(.int .i64 0)], s10.2)) (
 JoinP (parse_scalar_k3 Φ x1 Q) [] s10.2)
def parse_scalar (Φ : Calls') (a0 : AV) (H : AH) (Q : Post) : Prop :=
 DoH (some (abox H true [.int .i64 0, .int .i64 0, .bool false, .lst .nil 0 [], .int .i64 0, .lst .nil 0 []])) fun x1 H2 =>
 DoH (abslice H2 false 1 4 [.str []] [(0, 1, (.str [117, 56])), (1, 1, (.str [117, 49, 54])), (2, 1, (.str [117, 51, 50])), (3, 1, (.str [117, 54, 52]))]) fun x5 H6 =>
 DoH (abslice H6 false 1 5 [.str []] [(0, 1, (.str [97, 56])), (1, 1, (.str [97, 49, 54])), (2, 1, (.str [97, 51, 50])), (3, 1, (.str [97, 54, 52])), (4, 1, (.str [97, 49, 50, 56]))]) fun x7 H8 =>
 Do (abuild [.lst .nil 0 [], .lst .nil 0 []] [(0, 1, x5), (1, 1, x7)]) fun x9 =>
 LoopP (parse_scalar_l4 Φ a0 x1 x9 Q) ([(.int .i64 0)], H8)
def ir_parse_scalar : AFunc := ⟨33, [.cell 2 6 true, .tmp 3],
 .seq (.region [
   ⟨some 2, .alloc true [.int .i64 0, .int .i64 0, .bool false, .lst .nil 0 [], .int .i64 0, .lst .nil 0 []], none⟩,
   ⟨some 3, .mv (.k (.bool false)), none⟩])
 (.join [] [3, 4, 5, 6, 7, 8, 9, 10, 11, 12, 13, 14, 15, 16, 17, 18, 19, 20, 21, 22, 23, 24, 25, 26, 27, 28, 29, 30, 31] (.seq (.region [
   ⟨some 8, .bslice false 1 4 [.str []] [(0, 1, (.k (.str [117, 56]))), (1, 1, (.k (.str [117, 49, 54]))), (2, 1, (.k (.str [117, 51, 50]))), (3, 1, (.k (.str [117, 54, 52])))], none⟩,
   ⟨some 9, .bslice false 1 5 [.str []] [(0, 1, (.k (.str [97, 56]))), (1, 1, (.k (.str [97, 49, 54]))), (2, 1, (.k (.str [97, 51, 50]))), (3, 1, (.k (.str [97, 54, 52]))), (4, 1, (.k (.str [97, 49, 50, 56])))], none⟩,
   ⟨some 10, .build [.lst .nil 0 [], .lst .nil 0 []] [(0, 1, (.t 8)), (1, 1, (.t 9))], none⟩,
   ⟨some 11, .mv (.k (.int .i64 0)), none⟩])
 (.block 0 (.loop [11] [3, 4, 5, 6, 7, 12, 13, 14, 15, 16, 17, 18, 19, 20, 21, 22, 23, 24, 25, 26, 27, 28, 29, 30, 31] (.seq (.region [
   ⟨some 12, .bin .lss (.t 11) (.k (.int .i64 2)), none⟩])
 (.seq (.cond (.t 12) (.skip)
   (.exit 0))
 (.join [] [3, 4, 5, 6, 7, 13, 14, 15, 16, 17, 18, 19, 20, 21, 22, 23, 24, 25, 26, 27, 28, 29, 30] (.block 1 (.seq (.region [
   ⟨some 13, .mv (.t 11), none⟩,
   ⟨some 14, .idx 2 1 false (.t 10) (.t 11), none⟩,
   ⟨some 4, .mv (.t 13), none⟩,
   ⟨some 5, .mv (.t 14), none⟩])
 (.seq (.region [
   ⟨some 15, .mv (.t 5), none⟩,
   ⟨some 16, .len false (.t 15), none⟩,
   ⟨some 17, .mv (.k (.int .i64 0)), none⟩])
 (.block 2 (.loop [17] [3, 6, 7, 18, 19, 20, 21, 22, 23, 24, 25, 26, 27, 28, 29, 30] (.seq (.region [
   ⟨some 18, .bin .lss (.t 17) (.t 16), none⟩])
 (.seq (.cond (.t 18) (.skip)
   (.exit 2))
 (.seq (.block 3 (.seq (.region [
   ⟨some 19, .mv (.t 17), none⟩,
   ⟨some 20, .iaddr none 1 (.t 15) (.t 17), none⟩,
   ⟨some 21, .load 1 false (.t 20), none⟩,
   ⟨some 6, .mv (.t 19), none⟩,
   ⟨some 7, .mv (.t 21), none⟩])
 (.seq (.region [
   ⟨some 22, .mv (.t 7), none⟩,
   ⟨some 23, .mv (.t 0), none⟩,
   ⟨some 24, .bin .eql (.t 22) (.t 23), none⟩])
 (.cond (.t 24) (.seq (.region [
     ⟨some 25, .mv (.t 4), none⟩,
     ⟨some 26, .bin .add (.t 25) (.k (.int .i64 1)), none⟩,
     ⟨some 27, .mv (.t 6), none⟩,
     ⟨some 28, .bin .shl (.k (.int .i64 1)) (.t 27), none⟩,
     ⟨some 29, .build [.int .i64 0, .int .i64 0, .bool false, .lst .nil 0 [], .int .i64 0, .lst .nil 0 []] [(0, 1, (.t 26)), (1, 1, (.t 28))], none⟩,
     ⟨none, .store 6 (.t 2) (.t 29), none⟩,
     ⟨some 3, .mv (.k (.bool true)), none⟩])
   (.ret))
   (.skip)))))
 (.region [
   ⟨some 30, .bin .add (.t 17) (.k (.int .i64 1)), none⟩,
   ⟨some 17, .mv (.t 30), none⟩])))))))))
 (.region [
   ⟨some 31, .bin .add (.t 11) (.k (.int .i64 1)), none⟩,
   ⟨some 11, .mv (.t 31), none⟩])))))))
 (.seq (.region [
   ⟨some 32, .build [.int .i64 0, .int .i64 0, .bool false, .lst .nil 0 [], .int .i64 0, .lst .nil 0 []] [], none⟩,
   ⟨none, .store 6 (.t 2) (.t 32), none⟩,
   ⟨some 3, .mv (.k (.bool false)), none⟩])
 (.ret)))⟩
theorem eq_parse_scalar (Φ : Calls') (a0 : AV) (H : AH) (Q : Post) : fnE1 Φ ir_parse_scalar [a0] H Q = parse_scalar Φ a0 H Q := by kernel_rfl

/-! rabbet/parse.kind -/
def parse_kind (Φ : Calls') (a0 : AV) (H : AH) (Q : Post) : Prop :=
 Do (abin .eql a0 (.str [115, 116, 114, 117, 99, 116])) fun x1 =>
 Gd x1 true (
 Q (.int .i64 3) H) (
 Do (abin .eql a0 (.str [117, 110, 105, 111, 110])) fun x2 =>
 Gd x2 true (
 Q (.int .i64 4) H) (
 Do (abin .eql a0 (.str [91])) fun x3 =>
 Gd x3 true (
 Q (.int .i64 5) H) (
 Q (.int .i64 0) H)))
def ir_parse_kind : AFunc := ⟨10, [.tmp 2],
 .seq (.region [
   ⟨some 2, .mv (.k (.int .i64 0)), none⟩])
 (.seq (.seq (.region [
   ⟨some 3, .mv (.t 0), none⟩])
 (.block 0 (.seq (.region [
   ⟨some 5, .bin .eql (.t 3) (.k (.str [115, 116, 114, 117, 99, 116])), none⟩,
   ⟨some 4, .mv (.t 5), none⟩])
 (.cond (.t 4) (.seq (.region [
     ⟨some 2, .mv (.k (.int .i64 3)), none⟩])
   (.ret))
   (.seq (.region [
     ⟨some 7, .bin .eql (.t 3) (.k (.str [117, 110, 105, 111, 110])), none⟩,
     ⟨some 6, .mv (.t 7), none⟩])
   (.cond (.t 6) (.seq (.region [
       ⟨some 2, .mv (.k (.int .i64 4)), none⟩])
     (.ret))
     (.seq (.region [
       ⟨some 9, .bin .eql (.t 3) (.k (.str [91])), none⟩,
       ⟨some 8, .mv (.t 9), none⟩])
     (.cond (.t 8) (.seq (.region [
         ⟨some 2, .mv (.k (.int .i64 5)), none⟩])
       (.ret))
       (.skip)))))))))
 (.seq (.region [
   ⟨some 2, .mv (.k (.int .i64 0)), none⟩])
 (.ret)))⟩
theorem eq_parse_kind (Φ : Calls') (a0 : AV) (H : AH) (Q : Post) : fnE1 Φ ir_parse_kind [a0] H Q = parse_kind Φ a0 H Q := by kernel_rfl

/-! (rabbet/parse.parser).number -/
def parse_parser_number_k1 (Φ : Calls') (a0 : AV) (a1 : AV) (Q : Post) : List AV → AH → Prop := fun j1 H2 =>
Φ K.parse_parser_peek [a0] H2 fun x14 H15 =>
Φ K.strconv_ParseUint [x14, (.int .i64 10), (.int .i64 64)] H15 fun x16 H17 =>
 Do (aextract 0 x16) fun x18 =>
 Do (aextract 1 x16) fun x19 =>
 Do (abin .gtr x18 a1) fun x20 =>
 Gd x20 true (
Φ K.parse_parser_fail [a0, (.int .i64 9)] H17 fun x21 H22 =>
 Q (.int .u64 0) H22) (
Φ K.parse_parser_next [a0] H17 fun x23 H24 =>
 Q x18 H24)
def parse_parser_number_k2 (Φ : Calls') (a0 : AV) (a1 : AV) (Q : Post) : List AV → AH → Prop := fun j3 H4 =>
 Gd (sl j3 0) true (
Φ K.parse_parser_fail [a0, (.int .i64 4)] H4 fun x12 H13 =>
 Q (.int .u64 0) H13) (
 JoinP (parse_parser_number_k1 Φ a0 a1 Q) [] H4)
def parse_parser_number (Φ : Calls') (a0 : AV) (a1 : AV) (H : AH) (Q : Post) : Prop :=
Φ K.parse_parser_bad [a0] H fun x5 H6 =>
 Gd3 x5 false (
Φ K.parse_parser_peek [a0] H6 fun x7 H8 =>
Φ K.parse_digits [x7] H8 fun x9 H10 =>
 Do (aun .not x9) fun x11 =>
 JoinP (parse_parser_number_k2 Φ a0 a1 Q) [x11] H10) (
 JoinP (parse_parser_number_k2 Φ a0 a1 Q) [(.bool true)] H6) (
 False)
def ir_parse_parser_number : AFunc := ⟨31, [.tmp 4],
 .seq (.region [
   ⟨some 4, .mv (.k (.int .u64 0)), none⟩])
 (.join [] [4, 7, 8, 9, 10, 11, 12, 13, 14, 15, 16] (.join [14] [7, 8, 9, 10, 11, 12, 13] (.region [
   ⟨some 7, .mv (.t 0), none⟩,
   ⟨some 8, .call K.parse_parser_bad [(.t 7)], none⟩,
   ⟨some 9, .mv (.t 8), none⟩,
   ⟨some 10, .mv (.t 0), some (9, false)⟩,
   ⟨some 11, .call K.parse_parser_peek [(.t 10)], some (9, false)⟩,
   ⟨some 12, .call K.parse_digits [(.t 11)], some (9, false)⟩,
   ⟨some 13, .un .not (.t 12), some (9, false)⟩,
   ⟨some 14, .pick (.t 9) (.k (.bool true)) (.t 13), none⟩])
 (.cond (.t 14) (.seq (.region [
     ⟨some 15, .mv (.t 0), none⟩,
     ⟨some 16, .call K.parse_parser_fail [(.t 15), (.k (.int .i64 4))], none⟩])
   (.seq (.region [
     ⟨some 4, .mv (.k (.int .u64 0)), none⟩])
   (.ret)))
   (.skip)))
 (.seq (.region [
   ⟨some 18, .mv (.t 0), none⟩,
   ⟨some 19, .call K.parse_parser_peek [(.t 18)], none⟩,
   ⟨some 20, .call K.strconv_ParseUint [(.t 19), (.k (.int .i64 10)), (.k (.int .i64 64))], none⟩,
   ⟨some 17, .mv (.t 20), none⟩,
   ⟨some 21, .extract 0 (.t 17), none⟩,
   ⟨some 22, .extract 1 (.t 17), none⟩,
   ⟨some 5, .mv (.t 21), none⟩,
   ⟨some 6, .mv (.t 22), none⟩])
 (.seq (.seq (.region [
   ⟨some 23, .mv (.t 5), none⟩,
   ⟨some 24, .mv (.t 1), none⟩,
   ⟨some 25, .bin .gtr (.t 23) (.t 24), none⟩])
 (.cond (.t 25) (.seq (.region [
     ⟨some 26, .mv (.t 0), none⟩,
     ⟨some 27, .call K.parse_parser_fail [(.t 26), (.k (.int .i64 9))], none⟩])
   (.seq (.region [
     ⟨some 4, .mv (.k (.int .u64 0)), none⟩])
   (.ret)))
   (.skip)))
 (.seq (.region [
   ⟨some 28, .mv (.t 0), none⟩,
   ⟨some 29, .call K.parse_parser_next [(.t 28)], none⟩])
 (.seq (.region [
   ⟨some 30, .mv (.t 5), none⟩,
   ⟨some 4, .mv (.t 30), none⟩])
 (.ret))))))⟩
theorem eq_parse_parser_number (Φ : Calls') (a0 a1 : AV) (H : AH) (Q : Post) : fnE1 Φ ir_parse_parser_number [a0, a1] H Q = parse_parser_number Φ a0 a1 H Q := by kernel_rfl

/-! (rabbet/parse.parser).field -/
def parse_parser_field_k1 (Φ : Calls') (a0 : AV) (x1 : AV) (x3 : AV) (Q : Post) : List AV → AH → Prop := fun j19 H20 =>
Φ K.parse_parser_want [a0, (.str [59])] H20 fun x35 H36 =>
 Do (aload H36 9 true x3) fun x37 =>
 Do (astore H36 9 x1 x37) fun H38 =>
 Do (aload H38 9 true x1) fun x39 =>
 Q x39 H38
def parse_parser_field_k2 (Φ : Calls') (a0 : AV) (x1 : AV) (x3 : AV) (Q : Post) : List AV → AH → Prop := fun j21 H22 =>
 Gd (sl j21 0) true (
Φ K.parse_parser_want [a0, (.str [58])] H22 fun x26 H27 =>
 Do (afaddr 7 x3) fun x28 =>
 Do (astore H27 1 x28 (.bool true)) fun H29 =>
Φ K.parse_parser_number [a0, (.int .u64 1073741824)] H29 fun x30 H31 =>
 Do (aconv .i64 x30) fun x32 =>
 Do (afaddr 8 x3) fun x33 =>
 Do (astore H31 1 x33 x32) fun H34 =>
 JoinP (parse_parser_field_k1 Φ a0 x1 x3 Q) [] H34) (
 JoinP (parse_parser_field_k1 Φ a0 x1 x3 Q) [] H22)
def parse_parser_field_k3 (Φ : Calls') (a0 : AV) (a1 : AV) (x1 : AV) (x3 : AV) (x5 : AV) (Q : Post) : List AV → AH → Prop := fun j7 H8 =>
 Do (abin .add a1 (.int .i64 1)) fun x14 =>
Φ K.parse_parser_typ [a0, x14] H8 fun x15 H16 =>
 Do (afaddr 1 x3) fun x17 =>
 Do (astore H16 6 x17 x15) fun H18 =>
 Gd3 x5 false (
Φ K.parse_parser_peek [a0] H18 fun x23 H24 =>
 Do (abin .eql x23 (.str [58])) fun x25 =>
 JoinP (parse_parser_field_k2 Φ a0 x1 x3 Q) [x25] H24) (
 JoinP (parse_parser_field_k2 Φ a0 x1 x3 Q) [(.bool true)] H18) (
 False)
def parse_parser_field (Φ : Calls') (a0 : AV) (a1 : AV) (H : AH) (Q : Post) : Prop :=
 DoH (some (abox H true [.str [], .int .i64 0, .int .i64 0, .bool false, .lst .nil 0 [], .int .i64 0, .lst .nil 0 [], .bool false, .int .i64 0])) fun x1 H2 =>
 DoH (some (abox H2 true [.str [], .int .i64 0, .int .i64 0, .bool false, .lst .nil 0 [], .int .i64 0, .lst .nil 0 [], .bool false, .int .i64 0])) fun x3 H4 =>
Φ K.parse_parser_is [a0, (.str [95])] H4 fun x5 H6 =>
 Do (aun .not x5) fun x9 =>
 Gd x9 true (
Φ K.parse_parser_name [a0] H6 fun x10 H11 =>
 Do (afaddr 0 x3) fun x12 =>
 Do (astore H11 1 x12 x10) fun H13 =>
 JoinP (parse_parser_field_k3 Φ a0 a1 x1 x3 x5 Q) [] H13) (
 JoinP (parse_parser_field_k3 Φ a0 a1 x1 x3 x5 Q) [] H6)
def ir_parse_parser_field : AFunc := ⟨35, [.cell 4 9 true],
 .seq (.region [
   ⟨some 4, .alloc true [.str [], .int .i64 0, .int .i64 0, .bool false, .lst .nil 0 [], .int .i64 0, .lst .nil 0 [], .bool false, .int .i64 0], none⟩])
 (.seq (.region [
   ⟨some 5, .alloc true [.str [], .int .i64 0, .int .i64 0, .bool false, .lst .nil 0 [], .int .i64 0, .lst .nil 0 [], .bool false, .int .i64 0], none⟩])
 (.seq (.region [
   ⟨some 7, .mv (.t 0), none⟩,
   ⟨some 8, .call K.parse_parser_is [(.t 7), (.k (.str [95]))], none⟩,
   ⟨some 6, .mv (.t 8), none⟩])
 (.join [] [9, 10, 11, 12, 13] (.seq (.region [
   ⟨some 9, .mv (.t 6), none⟩,
   ⟨some 10, .un .not (.t 9), none⟩])
 (.cond (.t 10) (.region [
     ⟨some 11, .mv (.t 0), none⟩,
     ⟨some 12, .call K.parse_parser_name [(.t 11)], none⟩,
     ⟨some 13, .faddr 0 (.t 5), none⟩,
     ⟨none, .store 1 (.t 13) (.t 12), none⟩])
   (.skip)))
 (.seq (.region [
   ⟨some 14, .mv (.t 0), none⟩,
   ⟨some 15, .mv (.t 1), none⟩,
   ⟨some 16, .bin .add (.t 15) (.k (.int .i64 1)), none⟩,
   ⟨some 17, .call K.parse_parser_typ [(.t 14), (.t 16)], none⟩,
   ⟨some 18, .faddr 1 (.t 5), none⟩,
   ⟨none, .store 6 (.t 18) (.t 17), none⟩])
 (.join [] [19, 20, 21, 22, 23, 24, 25, 26, 27, 28, 29, 30, 31] (.join [24] [19, 20, 21, 22, 23] (.region [
   ⟨some 19, .mv (.t 6), none⟩,
   ⟨some 20, .mv (.t 19), none⟩,
   ⟨some 21, .mv (.t 0), some (20, false)⟩,
   ⟨some 22, .call K.parse_parser_peek [(.t 21)], some (20, false)⟩,
   ⟨some 23, .bin .eql (.t 22) (.k (.str [58])), some (20, false)⟩,
   ⟨some 24, .pick (.t 20) (.k (.bool true)) (.t 23), none⟩])
 (.cond (.t 24) (.seq (.region [
     ⟨some 25, .mv (.t 0), none⟩,
     ⟨some 26, .call K.parse_parser_want [(.t 25), (.k (.str [58]))], none⟩])
   (.seq (.region [
     ⟨some 27, .faddr 7 (.t 5), none⟩,
     ⟨none, .store 1 (.t 27) (.k (.bool true)), none⟩])
   (.region [
     ⟨some 28, .mv (.t 0), none⟩,
     ⟨some 29, .call K.parse_parser_number [(.t 28), (.k (.int .u64 1073741824))], none⟩,
     ⟨some 30, .conv .i64 (.t 29), none⟩,
     ⟨some 31, .faddr 8 (.t 5), none⟩,
     ⟨none, .store 1 (.t 31) (.t 30), none⟩])))
   (.skip)))
 (.seq (.region [
   ⟨some 32, .mv (.t 0), none⟩,
   ⟨some 33, .call K.parse_parser_want [(.t 32), (.k (.str [59]))], none⟩])
 (.seq (.region [
   ⟨some 34, .load 9 true (.t 5), none⟩,
   ⟨none, .store 9 (.t 4) (.t 34), none⟩])
 (.ret))))))))⟩
theorem eq_parse_parser_field (Φ : Calls') (a0 a1 : AV) (H : AH) (Q : Post) : fnE1 Φ ir_parse_parser_field [a0, a1] H Q = parse_parser_field Φ a0 a1 H Q := by kernel_rfl

end Rb.S
