/- A part of the proof (part 3): see the last text. -/
import Derived.Test.YtbdhmikigkgoiaaDoorRb2
import Derived.Test.YtbdhmikigkgoiaaDoorRows
import Derived.KernelRfl
/- Quick ways to reckon what the small language's operations say: the same values, found by fewer steps. -/
set_option linter.unusedVariables false
set_option linter.unusedSimpArgs false
namespace Rb
open Go
noncomputable section

theorem nb (a b : Nat) : Nat.beq a b = decide (a = b) := by rw [Bool.eq_iff_iff]; simp
theorem nl (a b : Nat) : Nat.blt a b = decide (a < b) := by rw [Bool.eq_iff_iff]; simp [Nat.blt]; omega
theorem ne' (a b : Nat) : Nat.ble a b = decide (a ≤ b) := by rw [Bool.eq_iff_iff]; simp

/-! Lists -/
def nthF {α : Type} (l : List α) : Nat → Option α := List.rec (motive := fun _ => Nat → Option α) (fun _ => none) (fun x _ ih n => Nat.rec (motive := fun _ => Option α) (some x) (fun m _ => ih m) n) l
theorem nthF_eq {α : Type} : ∀ (l : List α) (n : Nat), nthF l n = l[n]?
  | [], n => by cases n <;> rfl
  | x :: r, 0 => rfl
  | x :: r, n + 1 => by rw [List.getElem?_cons_succ, ← nthF_eq r n]; rfl
def dropF {α : Type} (n : Nat) : List α → List α := Nat.rec (motive := fun _ => List α → List α) (fun l => l) (fun _ ih l => List.rec (motive := fun _ => List α) [] (fun _ t _ => ih t) l) n
theorem dropF_eq {α : Type} : ∀ (n : Nat) (l : List α), dropF n l = l.drop n
  | 0, l => rfl
  | n + 1, [] => rfl
  | n + 1, x :: r => by rw [List.drop_succ_cons, ← dropF_eq n r]; rfl
def leF {α : Type} (n : Nat) : List α → Bool := Nat.rec (motive := fun _ => List α → Bool) (fun _ => true) (fun _ ih l => List.rec (motive := fun _ => Bool) false (fun _ t _ => ih t) l) n
theorem leF_eq {α : Type} : ∀ (n : Nat) (l : List α), leF n l = decide (n ≤ l.length)
  | 0, l => by simp; rfl
  | n + 1, [] => by simp; rfl
  | n + 1, x :: r => by rw [List.length_cons, show decide (n + 1 ≤ r.length + 1) = decide (n ≤ r.length) by simp, ← leF_eq n r]; rfl

/-! Numbers -/
def kN : IntKind → Nat
  | .i8 => 0 | .i16 => 1 | .i32 => 2 | .i64 => 3 | .u8 => 4 | .u16 => 5 | .u32 => 6 | .u64 => 7
def kEq (k k' : IntKind) : Bool := Nat.beq (kN k) (kN k')
theorem kEq_eq {k k' : IntKind} (h : kEq k k' = true) : k = k' := by
  revert h; cases k <;> cases k' <;> decide
def lim : IntKind → Nat
  | .i8 => 128 | .i16 => 32768 | .i32 => 2147483648 | .i64 => 9223372036854775808 | .u8 => 256 | .u16 => 65536 | .u32 => 4294967296 | .u64 => 18446744073709551616
theorem wrap_lim {k : IntKind} {m : Nat} (h : m < lim k) : k.wrap (Int.ofNat m) = Int.ofNat m := by
  have hm : (Int.ofNat m) = (m : Int) := rfl
  rw [hm]
  cases k <;> simp only [lim] at h <;> simp only [IntKind.wrap, IntKind.bits, IntKind.signed] <;> simp <;> omega

def asNat (v : AV) (d : Option AV) (f : IntKind → Nat → Option AV) : Option AV :=
  match v with
  | .int k n => (match n with | .ofNat m => f k m | .negSucc _ => d)
  | _ => d
theorem asNat_eq {v : AV} {d : Option AV} {f : IntKind → Nat → Option AV} (h : ∀ k m, v = .int k (.ofNat m) → f k m = d) : asNat v d f = d := by
  unfold asNat
  split
  · split
    · exact h _ _ rfl
    · rfl
  · rfl

def natOp (g : IntKind → Nat → Nat → Option AV → Option AV) (s : Option AV) (x y : AV) : Option AV :=
  asNat x s fun k a => asNat y s fun k' b => cond (kEq k k') (g k a b s) s
theorem natOp_eq {g : IntKind → Nat → Nat → Option AV → Option AV} {op : BinOp} (hg : ∀ k a b, g k a b (abinInt op k (.ofNat a) k (.ofNat b)) = abinInt op k (.ofNat a) k (.ofNat b)) (x y : AV) : natOp g (abin op x y) x y = abin op x y := by
  refine asNat_eq fun k a hx => asNat_eq fun k' b hy => ?_
  subst hx hy
  cases h : kEq k k' with
  | false => rfl
  | true =>
    obtain rfl := kEq_eq h
    exact hg k a b

def gAdd (k : IntKind) (a b : Nat) (s : Option AV) : Option AV := cond (Nat.blt (Nat.add a b) (lim k)) (some (.int k (.ofNat (Nat.add a b)))) s
def gSub (k : IntKind) (a b : Nat) (s : Option AV) : Option AV := cond (and (Nat.ble b a) (Nat.blt a (lim k))) (some (.int k (.ofNat (Nat.sub a b)))) s
def gMul (k : IntKind) (a b : Nat) (s : Option AV) : Option AV := cond (Nat.blt (Nat.mul a b) (lim k)) (some (.int k (.ofNat (Nat.mul a b)))) s
def gLss (k : IntKind) (a b : Nat) (s : Option AV) : Option AV := some (.bool (Nat.blt a b))
def gLeq (k : IntKind) (a b : Nat) (s : Option AV) : Option AV := some (.bool (Nat.ble a b))
def gGtr (k : IntKind) (a b : Nat) (s : Option AV) : Option AV := some (.bool (Nat.blt b a))
def gGeq (k : IntKind) (a b : Nat) (s : Option AV) : Option AV := some (.bool (Nat.ble b a))
def gEql (k : IntKind) (a b : Nat) (s : Option AV) : Option AV := some (.bool (Nat.beq a b))
def gNeq (k : IntKind) (a b : Nat) (s : Option AV) : Option AV := some (.bool (not (Nat.beq a b)))
def gQuo (k : IntKind) (a b : Nat) (s : Option AV) : Option AV := cond (and (Nat.blt 0 b) (Nat.blt a (lim k))) (some (.int k (.ofNat (Nat.div a b)))) s
def gRem (k : IntKind) (a b : Nat) (s : Option AV) : Option AV := cond (Nat.blt 0 b) (some (.int k (.ofNat (Nat.mod a b)))) s
def gAnd (k : IntKind) (a b : Nat) (s : Option AV) : Option AV := cond (and (Nat.blt a (lim k)) (Nat.blt b (lim k))) (some (.int k (.ofNat (Nat.land a b)))) s
def gOr (k : IntKind) (a b : Nat) (s : Option AV) : Option AV := cond (and (Nat.blt a (lim k)) (Nat.blt b (lim k))) (some (.int k (.ofNat (Nat.lor a b)))) s
def gXor (k : IntKind) (a b : Nat) (s : Option AV) : Option AV := cond (and (Nat.blt a (lim k)) (Nat.blt b (lim k))) (some (.int k (.ofNat (Nat.xor a b)))) s

theorem gAdd_eq (k : IntKind) (a b : Nat) : gAdd k a b (abinInt .add k (.ofNat a) k (.ofNat b)) = abinInt .add k (.ofNat a) k (.ofNat b) := by
  unfold gAdd
  rw [nl]
  by_cases h : Nat.add a b < lim k
  · simp only [h, decide_true, cond_true, abinInt, if_true]
    rw [show (Int.ofNat a + Int.ofNat b) = Int.ofNat (Nat.add a b) from rfl, wrap_lim h]
  · simp only [h, decide_false, cond_false]
theorem gMul_eq (k : IntKind) (a b : Nat) : gMul k a b (abinInt .mul k (.ofNat a) k (.ofNat b)) = abinInt .mul k (.ofNat a) k (.ofNat b) := by
  unfold gMul
  rw [nl]
  by_cases h : Nat.mul a b < lim k
  · simp only [h, decide_true, cond_true, abinInt, if_true]
    rw [show (Int.ofNat a * Int.ofNat b) = Int.ofNat (Nat.mul a b) from rfl, wrap_lim h]
  · simp only [h, decide_false, cond_false]
theorem gSub_eq (k : IntKind) (a b : Nat) : gSub k a b (abinInt .sub k (.ofNat a) k (.ofNat b)) = abinInt .sub k (.ofNat a) k (.ofNat b) := by
  unfold gSub
  rw [nl, ne']
  by_cases h : b ≤ a ∧ a < lim k
  · simp only [h.1, h.2, decide_true, Bool.and_self, cond_true, abinInt, if_true]
    have : (Int.ofNat a - Int.ofNat b) = Int.ofNat (Nat.sub a b) := by
      show (a : Int) - (b : Int) = ((a - b : Nat) : Int)
      omega
    rw [this, wrap_lim (show Nat.sub a b < lim k from Nat.lt_of_le_of_lt (Nat.sub_le _ _) h.2)]
  · have : (decide (b ≤ a) && decide (a < lim k)) = false := by
      rw [Bool.eq_false_iff]; intro h2; simp at h2; exact h h2
    simp only [this, cond_false]
theorem gLss_eq (k : IntKind) (a b : Nat) : gLss k a b (abinInt .lss k (.ofNat a) k (.ofNat b)) = abinInt .lss k (.ofNat a) k (.ofNat b) := by
  simp only [gLss, abinInt, if_true, nl]
  congr 2
  simp
theorem gLeq_eq (k : IntKind) (a b : Nat) : gLeq k a b (abinInt .leq k (.ofNat a) k (.ofNat b)) = abinInt .leq k (.ofNat a) k (.ofNat b) := by
  simp only [gLeq, abinInt, if_true, ne']
  congr 2
  simp
theorem gGtr_eq (k : IntKind) (a b : Nat) : gGtr k a b (abinInt .gtr k (.ofNat a) k (.ofNat b)) = abinInt .gtr k (.ofNat a) k (.ofNat b) := by
  simp only [gGtr, abinInt, if_true, nl]
  congr 2
  simp
theorem gGeq_eq (k : IntKind) (a b : Nat) : gGeq k a b (abinInt .geq k (.ofNat a) k (.ofNat b)) = abinInt .geq k (.ofNat a) k (.ofNat b) := by
  simp only [gGeq, abinInt, if_true, ne']
  congr 2
  simp
theorem ofN_beq (a b : Nat) : (Int.ofNat a == Int.ofNat b) = decide (a = b) := by
  rw [Bool.eq_iff_iff]; simp; omega
theorem gEql_eq (k : IntKind) (a b : Nat) : gEql k a b (abinInt .eql k (.ofNat a) k (.ofNat b)) = abinInt .eql k (.ofNat a) k (.ofNat b) := by
  simp only [gEql, abinInt, if_true, nb, ofN_beq]
theorem gNeq_eq (k : IntKind) (a b : Nat) : gNeq k a b (abinInt .neq k (.ofNat a) k (.ofNat b)) = abinInt .neq k (.ofNat a) k (.ofNat b) := by
  simp only [gNeq, abinInt, if_true, nb, bne, ofN_beq]
theorem gRem_eq (k : IntKind) (a b : Nat) : gRem k a b (abinInt .rem k (.ofNat a) k (.ofNat b)) = abinInt .rem k (.ofNat a) k (.ofNat b) := by
  unfold gRem
  rw [nl]
  by_cases h : 0 < b
  · have hb : (Int.ofNat b) ≠ 0 := by simp; omega
    simp only [h, decide_true, cond_true, abinInt, if_pos (show True ∧ Int.ofNat b ≠ 0 from ⟨trivial, hb⟩)]
    rfl
  · simp only [h, decide_false, cond_false]
theorem gQuo_eq (k : IntKind) (a b : Nat) : gQuo k a b (abinInt .quo k (.ofNat a) k (.ofNat b)) = abinInt .quo k (.ofNat a) k (.ofNat b) := by
  unfold gQuo
  rw [nl, nl]
  by_cases h : 0 < b ∧ a < lim k
  · have hb : (Int.ofNat b) ≠ 0 := by have := h.1; simp; omega
    simp only [h.1, h.2, decide_true, Bool.and_self, cond_true, abinInt, if_pos (show True ∧ Int.ofNat b ≠ 0 from ⟨trivial, hb⟩)]
    rw [show (Int.ofNat a).tdiv (Int.ofNat b) = Int.ofNat (Nat.div a b) from rfl, wrap_lim (show Nat.div a b < lim k from Nat.lt_of_le_of_lt (Nat.div_le_self _ _) h.2)]
  · have : (decide (0 < b) && decide (a < lim k)) = false := by
      rw [Bool.eq_false_iff]; intro h2; simp at h2; exact h h2
    simp only [this, cond_false]
theorem lim_le (k : IntKind) : lim k ≤ 2 ^ k.bits := by cases k <;> decide
theorem lim_pow (k : IntKind) : ∃ n, lim k = 2 ^ n := by
  cases k
  · exact ⟨7, rfl⟩
  · exact ⟨15, rfl⟩
  · exact ⟨31, rfl⟩
  · exact ⟨63, rfl⟩
  · exact ⟨8, rfl⟩
  · exact ⟨16, rfl⟩
  · exact ⟨32, rfl⟩
  · exact ⟨64, rfl⟩
theorem bits_eq {op : BinOp} {f : Nat → Nat → Nat} (k : IntKind) (a b : Nat) (ha : a < lim k) (hb : b < lim k) (hf : f a b < lim k)
    (h : bitsOp op k (.ofNat a) (.ofNat b) = some (k.wrap (((f (BitVec.ofInt k.bits (.ofNat a)).toNat (BitVec.ofInt k.bits (.ofNat b)).toNat) : Nat) : Int))) : bitsOp op k (.ofNat a) (.ofNat b) = some (.ofNat (f a b)) := by
  have h2 := lim_le k
  have e : ∀ n : Nat, n < lim k → (BitVec.ofInt k.bits (.ofNat n)).toNat = n := fun n hn => by
    have : BitVec.ofInt k.bits (.ofNat n) = BitVec.ofNat k.bits n := by simp
    rw [this, BitVec.toNat_ofNat, Nat.mod_eq_of_lt (by omega)]
  rw [h, e a ha, e b hb]
  exact congrArg some (wrap_lim hf)
theorem gAnd_eq (k : IntKind) (a b : Nat) : gAnd k a b (abinInt .and k (.ofNat a) k (.ofNat b)) = abinInt .and k (.ofNat a) k (.ofNat b) := by
  unfold gAnd
  rw [nl, nl]
  by_cases h : a < lim k ∧ b < lim k
  · simp only [h.1, h.2, decide_true, Bool.and_self, cond_true, abinInt, if_true]
    rw [bits_eq (op := .and) (f := Nat.land) k a b h.1 h.2 (Nat.lt_of_le_of_lt Nat.and_le_left h.1) (by simp only [bitsOp, BitVec.toNat_and]; rfl)]
    rfl
  · have : (decide (a < lim k) && decide (b < lim k)) = false := by
      rw [Bool.eq_false_iff]; intro h2; simp at h2; exact h h2
    simp only [this, cond_false]
theorem gOr_eq (k : IntKind) (a b : Nat) : gOr k a b (abinInt .or k (.ofNat a) k (.ofNat b)) = abinInt .or k (.ofNat a) k (.ofNat b) := by
  unfold gOr
  rw [nl, nl]
  by_cases h : a < lim k ∧ b < lim k
  · simp only [h.1, h.2, decide_true, Bool.and_self, cond_true, abinInt, if_true]
    have hl : Nat.lor a b < lim k := by
      obtain ⟨n, hn⟩ := lim_pow k
      rw [hn] at h ⊢
      exact Nat.or_lt_two_pow h.1 h.2
    rw [bits_eq (op := .or) (f := Nat.lor) k a b h.1 h.2 hl (by simp only [bitsOp, BitVec.toNat_or]; rfl)]
    rfl
  · have : (decide (a < lim k) && decide (b < lim k)) = false := by
      rw [Bool.eq_false_iff]; intro h2; simp at h2; exact h h2
    simp only [this, cond_false]
theorem gXor_eq (k : IntKind) (a b : Nat) : gXor k a b (abinInt .xor k (.ofNat a) k (.ofNat b)) = abinInt .xor k (.ofNat a) k (.ofNat b) := by
  unfold gXor
  rw [nl, nl]
  by_cases h : a < lim k ∧ b < lim k
  · simp only [h.1, h.2, decide_true, Bool.and_self, cond_true, abinInt, if_true]
    have hl : Nat.xor a b < lim k := by
      obtain ⟨n, hn⟩ := lim_pow k
      rw [hn] at h ⊢
      exact Nat.xor_lt_two_pow h.1 h.2
    rw [bits_eq (op := .xor) (f := Nat.xor) k a b h.1 h.2 hl (by simp only [bitsOp, BitVec.toNat_xor]; rfl)]
    rfl
  · have : (decide (a < lim k) && decide (b < lim k)) = false := by
      rw [Bool.eq_false_iff]; intro h2; simp at h2; exact h h2
    simp only [this, cond_false]

structure BinC where
  f : AV → AV → Option AV
def binC : BinOp → BinC
  | .add => ⟨fun x y => natOp gAdd (abin .add x y) x y⟩
  | .sub => ⟨fun x y => natOp gSub (abin .sub x y) x y⟩
  | .mul => ⟨fun x y => natOp gMul (abin .mul x y) x y⟩
  | .quo => ⟨fun x y => natOp gQuo (abin .quo x y) x y⟩
  | .rem => ⟨fun x y => natOp gRem (abin .rem x y) x y⟩
  | .and => ⟨fun x y => natOp gAnd (abin .and x y) x y⟩
  | .or => ⟨fun x y => natOp gOr (abin .or x y) x y⟩
  | .xor => ⟨fun x y => natOp gXor (abin .xor x y) x y⟩
  | .lss => ⟨fun x y => natOp gLss (abin .lss x y) x y⟩
  | .leq => ⟨fun x y => natOp gLeq (abin .leq x y) x y⟩
  | .gtr => ⟨fun x y => natOp gGtr (abin .gtr x y) x y⟩
  | .geq => ⟨fun x y => natOp gGeq (abin .geq x y) x y⟩
  | .eql => ⟨fun x y => natOp gEql (abin .eql x y) x y⟩
  | .neq => ⟨fun x y => natOp gNeq (abin .neq x y) x y⟩
  | .shl => ⟨fun x y => abin .shl x y⟩
  | .shr => ⟨fun x y => abin .shr x y⟩
  | .andNot => ⟨fun x y => abin .andNot x y⟩
theorem binC_eq (op : BinOp) (x y : AV) : (binC op).f x y = abin op x y := by
  cases op <;> first | rfl | exact natOp_eq (by first | exact gAdd_eq | exact gSub_eq | exact gMul_eq | exact gQuo_eq | exact gRem_eq | exact gAnd_eq | exact gOr_eq | exact gXor_eq | exact gLss_eq | exact gLeq_eq | exact gGtr_eq | exact gGeq_eq | exact gEql_eq | exact gNeq_eq) x y

def convF (k : IntKind) (x : AV) : Option AV := asNat x (aconv k x) fun _ m => cond (Nat.blt m (lim k)) (some (.int k (.ofNat m))) (aconv k x)
theorem convF_eq (k : IntKind) (x : AV) : convF k x = aconv k x := by
  refine asNat_eq fun k' m hx => ?_
  subst hx
  rw [nl]
  by_cases h : m < lim k
  · simp only [h, decide_true, cond_true, aconv]
    rw [wrap_lim h]
  · simp only [h, decide_false, cond_false]

/-! Places -/
def takeF (cs : List AV) (o n : Nat) (agg : Bool) : Option AV :=
  cond agg (cond (leF (Nat.add o n) cs) (some (.agg ((dropF o cs).take n))) none) (cond (Nat.beq n 1) (nthF cs o) (takeCells cs o n false))
theorem takeF_eq (cs : List AV) (o n : Nat) (agg : Bool) : takeF cs o n agg = takeCells cs o n agg := by
  unfold takeF takeCells
  cases agg with
  | true =>
    rw [leF_eq, dropF_eq]
    by_cases h : o + n ≤ cs.length
    · rw [if_pos h]; simp [show Nat.add o n = o + n from rfl, h]
    · rw [if_neg h]; simp [show Nat.add o n = o + n from rfl, h]
  | false =>
    rw [nb, nthF_eq]
    by_cases h1 : n = 1
    · subst h1
      simp only [decide_true, cond_true, cond_false, Bool.false_eq_true, if_false]
      by_cases h : o + 1 ≤ cs.length
      · rw [if_pos h]
      · rw [if_neg h, List.getElem?_eq_none (by omega)]
    · simp only [h1, decide_false, cond_false]
def fieldF (off sz : Nat) (agg : Bool) (x : AV) : Option AV :=
  match x with
  | .agg cs => takeF cs off sz agg
  | _ => none
theorem fieldF_eq (off sz : Nat) (agg : Bool) (x : AV) : fieldF off sz agg x = afield off sz agg x := by
  unfold fieldF afield; cases x <;> first | rfl | exact takeF_eq _ _ _ _
def idxF (len sz : Nat) (agg : Bool) (x i : AV) : Option AV := asNat i (aidx len sz agg x i) fun k m => match x with
  | .agg cs => cond (Nat.blt m len) (takeF cs (Nat.mul m sz) sz agg) none
  | _ => aidx len sz agg x i
theorem idxF_eq (len sz : Nat) (agg : Bool) (x i : AV) : idxF len sz agg x i = aidx len sz agg x i := by
  refine asNat_eq fun k m hi => ?_
  subst hi
  cases x <;> first | rfl | skip
  rename_i cs
  dsimp only
  rw [nl, takeF_eq]
  simp only [aidx]
  by_cases h : m < len
  · rw [if_pos ⟨Int.natCast_nonneg _, by exact Int.ofNat_lt.2 h⟩]; simp only [h, decide_true, cond_true]; rfl
  · rw [if_neg (fun h2 => h (Int.ofNat_lt.1 h2.2))]; simp only [h, decide_false, cond_false]
def idxsF (x i : AV) : Option AV := asNat i (aidxs x i) fun _ m => match x with
  | .str s => (match nthF s m with | some b => some (.int .u8 (.ofNat b.toNat)) | none => none)
  | _ => aidxs x i
theorem idxsF_eq (x i : AV) : idxsF x i = aidxs x i := by
  refine asNat_eq fun k m hi => ?_
  subst hi
  cases x <;> first | rfl | skip
  rename_i s
  dsimp only
  rw [nthF_eq]
  simp only [aidxs]
  rw [if_pos (show 0 ≤ Int.ofNat m from Int.natCast_nonneg _)]
  show _ = Option.map _ s[m]?
  cases s[m]? <;> rfl
def iaddrF (arr : Option Nat) (sz : Nat) (x i : AV) : Option AV := asNat i (aiaddr arr sz x i) fun _ m => match arr, x with
  | none, .lst _ len cells => cond (Nat.blt m len) (some (.fptr (dropF (Nat.mul m sz) cells))) none
  | none, .row id o len _ => cond (Nat.blt m len) (some (.ptr id (Nat.add o (Nat.mul m sz)))) none
  | some n, .ptr id o => cond (Nat.blt m n) (some (.ptr id (Nat.add o (Nat.mul m sz)))) none
  | some n, .fptr cells => cond (Nat.blt m n) (some (.fptr (dropF (Nat.mul m sz) cells))) none
  | _, _ => aiaddr arr sz x i
theorem iaddrF_eq (arr : Option Nat) (sz : Nat) (x i : AV) : iaddrF arr sz x i = aiaddr arr sz x i := by
  refine asNat_eq fun k m hi => ?_
  subst hi
  have key : ∀ (n : Nat) (v : AV), cond (Nat.blt m n) (some v) none = if 0 ≤ (Int.ofNat m) ∧ (Int.ofNat m) < (n : Int) then some v else none := by
    intro n v
    rw [nl]
    by_cases h : m < n
    · rw [if_pos ⟨Int.natCast_nonneg _, Int.ofNat_lt.2 h⟩]; simp only [h, decide_true, cond_true]
    · rw [if_neg (fun h2 => h (Int.ofNat_lt.1 h2.2))]; simp only [h, decide_false, cond_false]
  cases arr <;> cases x <;> first
    | rfl
    | (dsimp only; rw [key]; simp only [dropF_eq]; rfl)
    | (dsimp only; rw [key]; rfl)
def loadF (T : TH) (n : Nat) (agg : Bool) (x : AV) : Option AV :=
  match x with
  | .ptr id o => (match T.t.get id with | .row cs => takeF cs o n agg | _ => none)
  | .fptr cs => takeF cs 0 n agg
  | _ => none
theorem loadF_eq (T : TH) (n : Nat) (agg : Bool) (x : AV) : loadF T n agg x = aload T.ah n agg x := by
  unfold loadF aload
  cases x <;> first | rfl | skip
  · dsimp only
    show _ = match T.t.get _ with | .row cs => _ | _ => _
    split <;> first | rfl | exact takeF_eq _ _ _ _
  · exact takeF_eq _ _ _ _
end
end Rb

/- Runs by pieces that are made once: each piece of a text becomes a function over the slots' values, in a box, so that it is found again. All values are reckoned to the end before they are handed on: what waits would drag behind it all that it came from. -/
set_option linter.unusedVariables false
set_option linter.unusedSimpArgs false
namespace Rb
open Go
noncomputable section

/-! Values, reckoned to the end and handed on -/
def natV (m : Nat) (K : Nat → Bool) : Bool := Nat.rec (motive := fun _ => Bool) (K 0) (fun p _ => K (Nat.succ p)) m
theorem natV_eq (m : Nat) (K : Nat → Bool) : natV m K = K m := by cases m <;> rfl
def spineK {α : Type} (l : List α) : (List α → Bool) → Bool := List.rec (motive := fun _ => (List α → Bool) → Bool) (fun K => K []) (fun x _ ih K => ih fun r => K (x :: r)) l
theorem spineK_eq {α : Type} : ∀ (l : List α) (K : List α → Bool), spineK l K = K l
  | [], K => rfl
  | x :: r, K => by show spineK r (fun r => K (x :: r)) = _; rw [spineK_eq r]
def dropK {α : Type} (n : Nat) : List α → (List α → Bool) → Bool := Nat.rec (motive := fun _ => List α → (List α → Bool) → Bool) (fun l K => K l) (fun _ ih l K => List.rec (motive := fun _ => Bool) (K []) (fun _ t _ => ih t K) l) n
theorem dropK_eq {α : Type} : ∀ (n : Nat) (l : List α) (K : List α → Bool), dropK n l K = K (l.drop n)
  | 0, l, K => rfl
  | n + 1, [], K => rfl
  | n + 1, x :: r, K => by rw [List.drop_succ_cons, ← dropK_eq n r K]; rfl

def fv (v : AV) (K : AV → Bool) : Bool :=
  match v with
  | .int k n => (match n with | .ofNat m => natV m fun m => K (.int k (.ofNat m)) | .negSucc m => natV m fun m => K (.int k (.negSucc m)))
  | .bool b => (match b with | true => K (.bool true) | false => K (.bool false))
  | .str s => spineK s fun s => K (.str s)
  | .ptr i o => natV i fun i => natV o fun o => K (.ptr i o)
  | .row i o l z => natV i fun i => natV o fun o => natV l fun l => K (.row i o l z)
  | .lst tk l cs => natV l fun l => spineK cs fun cs => K (.lst tk l cs)
  | .fptr cs => spineK cs fun cs => K (.fptr cs)
  | .agg cs => spineK cs fun cs => K (.agg cs)
  | .tup cs => spineK cs fun cs => K (.tup cs)
  | v => K v
theorem fv_eq (v : AV) (K : AV → Bool) : fv v K = K v := by
  unfold fv
  split <;> (try split) <;> simp only [natV_eq, spineK_eq]

/-- What comes to be; what was there and is handed on. -/
def DoK (x : Option AV) (K : AV → Bool) : Bool := match x with | some v => fv v K | none => false
theorem DoK_eq (x : Option AV) (K : AV → Bool) : DoK x K = DoB x K := by
  cases x with
  | none => rfl
  | some v => exact fv_eq v K
def DoR (x : Option AV) (K : AV → Bool) : Bool := match x with | some v => K v | none => false
theorem DoR_eq (x : Option AV) (K : AV → Bool) : DoR x K = DoB x K := by cases x <;> rfl

/-! The slots -/
def getK (E : EV) (t : Nat) (K : AV → Bool) : Bool := List.rec (motive := fun _ => Bool) (K .bot) (fun p _ ih => Prod.rec (motive := fun _ => Bool) (fun s v => Bool.rec (motive := fun _ => Bool) ih (K v) (Nat.beq s t)) p) E
theorem getK_eq : ∀ (E : EV) (t : Nat) (K : AV → Bool), getK E t K = K (eget E t)
  | [], t, K => rfl
  | (s, v) :: E, t, K => by
    show Bool.rec (motive := fun _ => Bool) (getK E t K) (K v) (Nat.beq s t) = K (cond (Nat.beq s t) v (eget E t))
    rw [getK_eq E t K]
    cases Nat.beq s t <;> rfl

def Opd.val (E : EV) : Opd → AV
  | .t n => eget E n
  | .k v => v
def ovals (E : EV) : Option Opd → Option AV
  | none => none
  | some x => some (x.val E)
def vals (E : EV) : List Opd → List AV
  | [] => []
  | x :: r => x.val E :: vals E r
def pvals (E : EV) : List (Nat × Nat × Opd) → List (Nat × Nat × AV)
  | [] => []
  | (a, b, x) :: r => (a, b, x.val E) :: pvals E r
theorem val_eq (E : EV) (x : Opd) : (x.sub E).ev [] = x.val E := by cases x <;> rfl
theorem vals_eq (E : EV) : ∀ xs : List Opd, evs [] (xs.map (Opd.sub E)) = vals E xs
  | [] => rfl
  | x :: r => by
    have := vals_eq E r
    simp only [evs, List.map_cons] at this ⊢
    rw [this, val_eq]; rfl
theorem pvals_eq (E : EV) : ∀ xs : List (Nat × Nat × Opd), evps [] (xs.map fun p => (p.1, p.2.1, p.2.2.sub E)) = pvals E xs
  | [] => rfl
  | (a, b, x) :: r => by
    have := pvals_eq E r
    simp only [evps, List.map_cons] at this ⊢
    rw [this, val_eq]; rfl
theorem ovals_eq (E : EV) (x : Option Opd) : (x.map (Opd.sub E)).map (Opd.ev []) = ovals E x := by
  cases x with
  | none => rfl
  | some x => exact congrArg some (val_eq E x)

def valK (x : Opd) (E : EV) (K : AV → Bool) : Bool := match x with | .t n => getK E n K | .k v => K v
theorem valK_eq (x : Opd) (E : EV) (K : AV → Bool) : valK x E K = K (x.val E) := by
  cases x with
  | t n => exact getK_eq E n K
  | k v => rfl
def valsK (E : EV) : List Opd → (List AV → Bool) → Bool
  | [], K => K []
  | x :: r, K => valK x E fun v => valsK E r fun vs => K (v :: vs)
theorem valsK_eq (E : EV) : ∀ (xs : List Opd) (K : List AV → Bool), valsK E xs K = K (vals E xs)
  | [], K => rfl
  | x :: r, K => by rw [valsK, valK_eq, valsK_eq E r]; rfl
def pvalsK (E : EV) : List (Nat × Nat × Opd) → (List (Nat × Nat × AV) → Bool) → Bool
  | [], K => K []
  | (a, b, x) :: r, K => valK x E fun v => pvalsK E r fun vs => K ((a, b, v) :: vs)
theorem pvalsK_eq (E : EV) : ∀ (xs : List (Nat × Nat × Opd)) (K : List (Nat × Nat × AV) → Bool), pvalsK E xs K = K (pvals E xs)
  | [], K => rfl
  | (a, b, x) :: r, K => by rw [pvalsK, valK_eq, pvalsK_eq E r]; rfl
def ovalK (E : EV) (x : Option Opd) (K : Option AV → Bool) : Bool := match x with | none => K none | some x => valK x E fun v => K (some v)
theorem ovalK_eq (E : EV) (x : Option Opd) (K : Option AV → Bool) : ovalK E x K = K (ovals E x) := by
  cases x with
  | none => rfl
  | some x => exact valK_eq x E _

/-! The memory -/
def setK (x : AObj) (f : Nat) : TT → Nat → (TT → Bool) → Bool :=
  Nat.rec (motive := fun _ => TT → Nat → (TT → Bool) → Bool) (fun t _ K => K t)
    (fun _ ih t i K => TT.casesOn (motive := fun _ => Bool) t
      (cond (Nat.beq i 0) (K (.node x .leaf .leaf)) (cond (Nat.beq (Nat.mod i 2) 1) (ih .leaf (Nat.div i 2) fun l => K (.node .gone l .leaf)) (ih .leaf (Nat.sub (Nat.div i 2) 1) fun r => K (.node .gone .leaf r))))
      (fun a l r => cond (Nat.beq i 0) (K (.node x l r)) (cond (Nat.beq (Nat.mod i 2) 1) (ih l (Nat.div i 2) fun l => K (.node a l r)) (ih r (Nat.sub (Nat.div i 2) 1) fun r => K (.node a l r))))) f
theorem setK_eq (x : AObj) : ∀ (f : Nat) (t : TT) (i : Nat) (K : TT → Bool), setK x f t i K = K (TT.setF x f t i) := by
  intro f
  induction f with
  | zero => intro t i K; cases t <;> rfl
  | succ f ih =>
    intro t i K
    cases t with
    | leaf =>
      show cond (Nat.beq i 0) (K (.node x .leaf .leaf)) (cond (Nat.beq (i % 2) 1) (setK x f .leaf (i / 2) fun l => K (.node .gone l .leaf)) (setK x f .leaf (i / 2 - 1) fun r => K (.node .gone .leaf r))) = _
      rw [ih, ih, TT.setF]
      cases Nat.beq i 0 <;> cases Nat.beq (i % 2) 1 <;> rfl
    | node a l r =>
      show cond (Nat.beq i 0) (K (.node x l r)) (cond (Nat.beq (i % 2) 1) (setK x f l (i / 2) fun l => K (.node a l r)) (setK x f r (i / 2 - 1) fun r => K (.node a l r))) = _
      rw [ih, ih, TT.setF]
      cases Nat.beq i 0 <;> cases Nat.beq (i % 2) 1 <;> rfl
def THset (T : TH) (i : Nat) (x : AObj) (K : TH → Bool) : Bool := match T with | ⟨n, t⟩ => setK x (Nat.succ i) t i fun t => K ⟨n, t⟩
theorem THset_eq (T : TH) (i : Nat) (x : AObj) (K : TH → Bool) : THset T i x K = K (T.set i x) := by
  obtain ⟨n, t⟩ := T
  exact setK_eq x (i + 1) t i fun t => K ⟨n, t⟩
def THpush (T : TH) (x : AObj) (K : TH → Bool) : Bool := match T with | ⟨n, t⟩ => setK x (Nat.succ n) t n fun t => natV (Nat.succ n) fun m => K ⟨m, t⟩
theorem THpush_eq (T : TH) (x : AObj) (K : TH → Bool) : THpush T x K = K (T.push x) := by
  obtain ⟨n, t⟩ := T
  simp only [THpush, setK_eq, natV_eq]
  rfl
def objK (x : AObj) (K : AObj → Bool) : Bool :=
  match x with
  | .row cs => spineK cs fun cs => K (.row cs)
  | .map es => spineK es fun es => K (.map es)
  | .tok a b => natV a fun a => K (.tok a b)
  | .siter s p => natV p fun p => K (.siter s p)
  | .gone => K .gone
theorem objK_eq (x : AObj) (K : AObj → Bool) : objK x K = K x := by cases x <;> simp only [objK, spineK_eq, natV_eq]

/-- Some cells written: those ahead of them are laid anew, those behind are shared. -/
def putK (n : Nat) : AV → List AV → (List AV → Bool) → Bool :=
  Nat.rec (motive := fun _ => AV → List AV → (List AV → Bool) → Bool) (fun v l K => List.rec (motive := fun _ => Bool) (K []) (fun _ t _ => K (v :: t)) l) (fun _ ih v l K => List.rec (motive := fun _ => Bool) (K []) (fun x t _ => ih v t fun r => K (x :: r)) l) n
theorem putK_eq : ∀ (n : Nat) (v : AV) (l : List AV) (K : List AV → Bool), putK n v l K = K (l.set n v)
  | 0, v, [], K => rfl
  | 0, v, x :: t, K => rfl
  | n + 1, v, [], K => rfl
  | n + 1, v, x :: t, K => by
    show putK n v t (fun r => K (x :: r)) = _
    rw [putK_eq n v t]; rfl
def cellsK (o : Nat) : List AV → List AV → (List AV → Bool) → Bool
  | [], cs, K => K cs
  | v :: r, cs, K => putK o v cs fun cs => cellsK (Nat.succ o) r cs K
theorem cellsK_eq : ∀ (o : Nat) (l cs : List AV) (K : List AV → Bool), cellsK o l cs K = K (setCells cs o l)
  | _, [], cs, K => rfl
  | o, v :: r, cs, K => by rw [cellsK, putK_eq, cellsK_eq (Nat.succ o) r]; rfl

/-- What an operation does to the memory. -/
inductive Eff where
  | wr (v : AV) (i : Nat) (cs : List AV) (o : Nat) (news : List AV)
  | keep (v : AV)
  | set (v : AV) (i : Nat) (x : AObj)
  | push (v : AV) (x : AObj)
  | gp (v : AV) (i : Nat) (x : AObj)
def Eff.app (T : TH) : Eff → AV × TH
  | .wr v i cs o news => (v, T.set i (.row (setCells cs o news)))
  | .keep v => (v, T)
  | .set v i x => (v, T.set i x)
  | .push v x => (v, T.push x)
  | .gp v i x => (v, (T.set i .gone).push x)
def DoE (T : TH) (r : Option Eff) (K : PostB) : Bool :=
  match r with
  | none => false
  | some e => (match e with
    | .wr v i cs o news => fv v fun v => spineK news fun news => cellsK o news cs fun cs => THset T i (.row cs) (K v)
    | .keep v => fv v fun v => K v T
    | .set v i x => fv v fun v => objK x fun x => THset T i x (K v)
    | .push v x => fv v fun v => objK x fun x => THpush T x (K v)
    | .gp v i x => fv v fun v => objK x fun x => THset T i .gone fun T => THpush T x (K v))
theorem DoE_eq (T : TH) (r : Option Eff) (K : PostB) : DoE T r K = DoHB (r.map (Eff.app T)) K := by
  cases r with
  | none => rfl
  | some e => cases e <;> simp only [DoE, fv_eq, objK_eq, THset_eq, THpush_eq, spineK_eq, cellsK_eq, Option.map_some, Eff.app, DoHB]

def storeE (T : TH) (n : Nat) (x v : AV) : Option Eff :=
  match x with
  | .ptr id o =>
    match T.t.get id with
    | .row cs => cond (and v.known (and (Nat.beq v.cells.length n) (and (v.cells.all AV.scalar) (leF (Nat.add o n) cs)))) (some (.wr (.tup []) id cs o v.cells)) none
    | _ => none
  | _ => none
theorem storeE_eq (T : TH) (n : Nat) (x v : AV) : (storeE T n x v).map (Eff.app T) = (tstore T n x v).map fun T => (.tup [], T) := by
  cases x with
  | ptr id o =>
    simp only [storeE, tstore]
    cases hc : T.t.get id with
    | row cs =>
      dsimp only
      rw [leF_eq, nb]
      by_cases h : v.known = true ∧ v.cells.length = n ∧ v.cells.all AV.scalar = true ∧ o + n ≤ cs.length
      · rw [if_pos h]
        have : (v.known && (decide (v.cells.length = n) && (v.cells.all AV.scalar && decide (Nat.add o n ≤ cs.length)))) = true := by
          simp only [h.1, h.2.1, h.2.2.1, decide_true, Bool.true_and, decide_eq_true_eq]; exact h.2.2.2
        rw [this]; rfl
      · rw [if_neg h]
        have : (v.known && (decide (v.cells.length = n) && (v.cells.all AV.scalar && decide (Nat.add o n ≤ cs.length)))) = false := by
          rw [Bool.eq_false_iff]; intro h2
          simp only [Bool.and_eq_true, decide_eq_true_eq] at h2
          exact h h2
        rw [this]; rfl
    | _ => rfl
  | _ => rfl

def boxE (T : TH) (mu : Bool) (cells : List AV) : Eff := cond mu (.push (.ptr T.n 0) (.row cells)) (.keep (.fptr cells))
theorem boxE_eq (T : TH) (mu : Bool) (cells : List AV) : (boxE T mu cells).app T = tbox T mu cells := by cases mu <;> rfl
def boxvE (T : TH) (mu : Bool) (n : Nat) (v : AV) : Option Eff := if v.known ∧ v.cells.length = n then some (boxE T mu v.cells) else none
theorem boxvE_eq (T : TH) (mu : Bool) (n : Nat) (v : AV) : (boxvE T mu n v).map (Eff.app T) = tboxv T mu n v := by
  unfold boxvE tboxv; split
  · exact congrArg some (boxE_eq _ _ _)
  · rfl
def bsliceE (T : TH) (mu : Bool) (sz len : Nat) (zero : List AV) (parts : List (Nat × Nat × AV)) : Option Eff :=
  match fillA (List.replicate len zero).flatten parts with
  | some cells => some (cond mu (.push (.row T.n 0 len sz) (.row cells)) (.keep (.lst .full len cells)))
  | none => none
theorem bsliceE_eq (T : TH) (mu : Bool) (sz len : Nat) (zero : List AV) (parts : List (Nat × Nat × AV)) : (bsliceE T mu sz len zero parts).map (Eff.app T) = tbslice T mu sz len zero parts := by
  unfold bsliceE tbslice
  cases fillA (List.replicate len zero).flatten parts with
  | none => rfl
  | some cells => cases mu <;> rfl
def appendE (T : TH) (mu : Bool) (sz bytes : Nat) (x y : AV) : Option Eff :=
  match acells T.ah sz y with
  | none => none
  | some (m, news) =>
    if ¬ news.all AV.scalar then none else
    match x with
    | .lst tk len cells =>
      if m = 0 then some (.keep (.lst tk len cells))
      else if ¬ (cells.length = len * sz ∧ (len + m) * bytes ≤ 140737488355328 ∧ len + m ≤ 9223372036854775807) then none
      else match tk, mu with
      | .nil, true | .full, true => some (.push (.row T.n 0 (len + m) sz) (.row (cells ++ news)))
      | .nil, false | .full, false => some (.push (.lst (.own T.n) (len + m) (cells ++ news)) (.tok ((len + m) * sz) sz))
      | .own t, _ => match T.t.get t with
        | .tok k sz' => if k = len * sz ∧ sz' = sz then some (.gp (.lst (.own T.n) (len + m) (cells ++ news)) t (.tok ((len + m) * sz) sz)) else none
        | _ => none
      | .dead, _ => none
    | .row id o len sz' =>
      match T.t.get id with
      | .row cs =>
        if m = 0 then some (.keep (.row id o len sz'))
        else if ¬ (o = 0 ∧ sz' = sz ∧ (len + m) * bytes ≤ 140737488355328 ∧ len + m ≤ 9223372036854775807) then none
        else if (len + m) * sz ≤ cs.length then some (.wr (.row id 0 (len + m) sz) id cs (len * sz) news)
        else if cs.length = len * sz then some (.gp (.row T.n 0 (len + m) sz) id (.row (cs ++ news)))
        else none
      | _ => none
    | _ => none
theorem appendE_eq (T : TH) (mu : Bool) (sz bytes : Nat) (x y : AV) : (appendE T mu sz bytes x y).map (Eff.app T) = tappend T mu sz bytes x y := by
  unfold appendE tappend
  cases acells T.ah sz y with
  | none => rfl
  | some p =>
    obtain ⟨m, news⟩ := p
    dsimp only
    split
    · rfl
    · cases x <;> try rfl
      · rename_i tk len cells
        dsimp only
        split
        · rfl
        · split
          · rfl
          · cases tk <;> cases mu <;> try rfl
            all_goals
              rename_i t
              dsimp only
              generalize T.t.get t = o
              cases o <;> try rfl
              dsimp only
              split <;> rfl
      · rename_i id o len sz'
        dsimp only
        generalize T.t.get id = o
        cases o <;> try rfl
        dsimp only
        split
        · rfl
        · split
          · rfl
          · split
            · rfl
            · split <;> rfl
def makeE (T : TH) (mu : Bool) (sz bytes : Nat) (zero : List AV) (len cap : AV) : Option Eff :=
  match len, cap with
  | .int .i64 n, .int .i64 c =>
    if 0 ≤ n ∧ n ≤ c ∧ bytes * c ≤ 281474976710656 ∧ c ≤ 9223372036854775807 ∧ zero.length = sz then
      if mu then some (.push (.row T.n 0 n.toNat sz) (.row (List.replicate c.toNat zero).flatten))
      else if n = c then some (.keep (.lst .full n.toNat (List.replicate n.toNat zero).flatten)) else none
    else none
  | _, _ => none
theorem makeE_eq (T : TH) (mu : Bool) (sz bytes : Nat) (zero : List AV) (len cap : AV) : (makeE T mu sz bytes zero len cap).map (Eff.app T) = tmake T mu sz bytes zero len cap := by
  unfold makeE tmake
  cases len <;> try rfl
  rename_i k n
  cases k <;> try rfl
  cases cap <;> try rfl
  rename_i k c
  cases k <;> try rfl
  dsimp only
  split
  · split
    · rfl
    · split <;> rfl
  · rfl
def copyE (T : TH) (sz : Nat) (x y : AV) : Option Eff :=
  match x, acells T.ah sz y with
  | .row id o len _, some (m, news) =>
    match T.t.get id with
    | .row cs =>
      let n := min m len
      if news.all AV.scalar ∧ o + n * sz ≤ cs.length then some (.wr (.int .i64 n) id cs o (news.take (n * sz))) else none
    | _ => none
  | _, _ => none
theorem copyE_eq (T : TH) (sz : Nat) (x y : AV) : (copyE T sz x y).map (Eff.app T) = tcopy T sz x y := by
  unfold copyE tcopy
  cases x <;> try rfl
  rename_i id o len z
  cases acells T.ah sz y with
  | none => rfl
  | some p =>
    obtain ⟨m, news⟩ := p
    dsimp only
    generalize T.t.get id = q
    cases q <;> try rfl
    dsimp only
    split <;> rfl
def mapupE (T : TH) (kk : FK) (m k v : AV) : Option Eff :=
  match m with
  | .map id =>
    match T.t.get id with
    | .map es => if plainKey kk k ∧ v.known then (match findA kk k es 0 with
        | some (some (i, _)) => some (.set (.tup []) id (.map (es.set i (k, v))))
        | some none => some (.set (.tup []) id (.map (es ++ [(k, v)])))
        | none => none) else none
    | _ => none
  | _ => none
theorem mapupE_eq (T : TH) (kk : FK) (m k v : AV) : (mapupE T kk m k v).map (Eff.app T) = (tmapup T kk m k v).map fun T => (.tup [], T) := by
  unfold mapupE tmapup
  cases m <;> try rfl
  rename_i id
  dsimp only
  generalize T.t.get id = q
  cases q <;> try rfl
  rename_i es
  dsimp only
  split
  · cases findA kk k es 0 with
    | none => rfl
    | some r =>
      cases r with
      | none => rfl
      | some p => rfl
  · rfl
def freezeE (T : TH) (x : AV) : Option Eff :=
  match x with
  | .row id o len sz =>
    match T.t.get id with
    | .row cs => if o + len * sz ≤ cs.length then some (.set (.lst .dead len ((cs.drop o).take (len * sz))) id .gone) else none
    | _ => none
  | .ptr id o =>
    match T.t.get id with
    | .row cs => some (.set (.fptr (cs.drop o)) id .gone)
    | _ => none
  | .lst tk len cells => some (.keep (.lst tk len cells))
  | .fptr cs => some (.keep (.fptr cs))
  | _ => none
theorem freezeE_eq (T : TH) (x : AV) : (freezeE T x).map (Eff.app T) = tfreeze T x := by
  unfold freezeE tfreeze
  cases x <;> try rfl
  · rename_i id o
    dsimp only
    generalize T.t.get id = q
    cases q <;> rfl
  · rename_i id o len sz
    dsimp only
    generalize T.t.get id = q
    cases q <;> try rfl
    dsimp only
    split <;> rfl

structure OpC where
  f : CallsB → EV → TH → PostB → Bool
structure SetC where
  f : EV → AV → (EV → Bool) → Bool
structure RegC where
  f : CallsB → EV → TH → (EV → TH → Bool) → Bool
structure CodC where
  f : CallsB → EV → TH → (EV → TH → Bool) → (AExit → EV → TH → Bool) → Bool
structure PutC where
  f : EV → List AV → (EV → Bool) → Bool
structure SamC where
  f : EV → TH → Bool → Bool
structure ResC where
  f : EV → TH → (List AV → Bool) → Bool
structure FnC where
  f : CallsB → List AV → TH → PostB → Bool

def ldC (agg : Bool) (x : Option AV) (K : AV → Bool) : Bool := cond agg (DoK x K) (DoR x K)
theorem ldC_eq (agg : Bool) (x : Option AV) (K : AV → Bool) : ldC agg x K = DoB x K := by cases agg <;> simp only [ldC, cond_true, cond_false, DoK_eq, DoR_eq]

/-- Elements' places: what is frozen is handed on as it is. -/
def iaddrK (arr : Option Nat) (sz : Nat) (x i : AV) (K : AV → Bool) : Bool :=
  match x with
  | .lst _ len cells => (match i with
    | .int _ n => (match n with
      | .ofNat m => (match arr with | none => cond (Nat.blt m len) (dropK (Nat.mul m sz) cells fun r => K (.fptr r)) false | some _ => DoK (iaddrF arr sz x i) K)
      | _ => DoK (iaddrF arr sz x i) K)
    | _ => DoK (iaddrF arr sz x i) K)
  | .fptr cells => (match i with
    | .int _ n => (match n with
      | .ofNat m => (match arr with | some l => cond (Nat.blt m l) (dropK (Nat.mul m sz) cells fun r => K (.fptr r)) false | none => DoK (iaddrF arr sz x i) K)
      | _ => DoK (iaddrF arr sz x i) K)
    | _ => DoK (iaddrF arr sz x i) K)
  | _ => DoK (iaddrF arr sz x i) K
theorem iaddrK_eq (arr : Option Nat) (sz : Nat) (x i : AV) (K : AV → Bool) : iaddrK arr sz x i K = DoB (aiaddr arr sz x i) K := by
  rw [← iaddrF_eq, ← DoK_eq]
  cases x <;> try rfl
  · rename_i cells
    cases i <;> try rfl
    rename_i k n
    cases n <;> try rfl
    rename_i m
    cases arr <;> try rfl
    rename_i l
    rw [DoK_eq]
    simp only [iaddrK, iaddrF, asNat, dropK_eq, dropF_eq]
    cases Nat.blt m l <;> rfl
  · rename_i tk len cells
    cases i <;> try rfl
    rename_i k n
    cases n <;> try rfl
    rename_i m
    cases arr <;> try rfl
    rw [DoK_eq]
    simp only [iaddrK, iaddrF, asNat, dropK_eq, dropF_eq]
    cases Nat.blt m len <;> rfl
def faddrK (off : Nat) (x : AV) (K : AV → Bool) : Bool :=
  match x with
  | .ptr i o => natV (Nat.add o off) fun o => K (.ptr i o)
  | .fptr cs => dropK off cs fun r => K (.fptr r)
  | _ => DoK (afaddr off x) K
theorem faddrK_eq (off : Nat) (x : AV) (K : AV → Bool) : faddrK off x K = DoB (afaddr off x) K := by
  unfold faddrK
  split
  · rw [natV_eq]; rfl
  · rw [dropK_eq]; rfl
  · exact DoK_eq _ _

def opC : AOp → OpC
  | .mv x => ⟨fun _ E T K => valK x E fun v => K v T⟩
  | .pick c a b => ⟨fun _ E T K => valK c E fun c => GdB c true (valK a E fun v => K v T) (valK b E fun v => K v T)⟩
  | .bin op x y => ⟨fun _ E T K => valK x E fun x => valK y E fun y => DoK ((binC op).f x y) fun v => K v T⟩
  | .beq neg x y => ⟨fun _ E T K => valK x E fun x => valK y E fun y => DoK (abeq neg x y) fun v => K v T⟩
  | .isnil k neg x => ⟨fun _ E T K => valK x E fun x => DoK (anil k neg x) fun v => K v T⟩
  | .eqagg neg ks x y => ⟨fun _ E T K => valK x E fun x => valK y E fun y => DoK (aeqAgg neg ks x y) fun v => K v T⟩
  | .un op x => ⟨fun _ E T K => valK x E fun x => DoK (aun op x) fun v => K v T⟩
  | .conv k x => ⟨fun _ E T K => valK x E fun x => DoK (convF k x) fun v => K v T⟩
  | .same x => ⟨fun _ E T K => valK x E fun x => DoR (asame x) fun v => K v T⟩
  | .nilck x => ⟨fun _ E T K => valK x E fun x => DoR (anilck x) fun v => K v T⟩
  | .field off sz agg x => ⟨fun _ E T K => valK x E fun x => ldC agg (fieldF off sz agg x) fun v => K v T⟩
  | .idx len sz agg x i => ⟨fun _ E T K => valK x E fun x => valK i E fun i => ldC agg (idxF len sz agg x i) fun v => K v T⟩
  | .idxs x i => ⟨fun _ E T K => valK x E fun x => valK i E fun i => DoK (idxsF x i) fun v => K v T⟩
  | .faddr off x => ⟨fun _ E T K => valK x E fun x => faddrK off x fun v => K v T⟩
  | .iaddr arr sz x i => ⟨fun _ E T K => valK x E fun x => valK i E fun i => iaddrK arr sz x i fun v => K v T⟩
  | .slice sz x lo hi mx => ⟨fun _ E T K => valK x E fun x => ovalK E lo fun lo => ovalK E hi fun hi => ovalK E mx fun mx => DoK (aslice sz x lo hi mx) fun v => K v T⟩
  | .sslice x lo hi => ⟨fun _ E T K => valK x E fun x => ovalK E lo fun lo => ovalK E hi fun hi => DoK (asslice x lo hi) fun v => K v T⟩
  | .mkif t x => ⟨fun _ E T K => valK x E fun v => K (.iface t v) T⟩
  | .mkfn key caps => ⟨fun _ E T K => valsK E caps fun vs => K (.fn key vs) T⟩
  | .extract i x => ⟨fun _ E T K => valK x E fun x => DoR (aextract i x) fun v => K v T⟩
  | .build zero parts => ⟨fun _ E T K => pvalsK E parts fun ps => DoK (abuild zero ps) fun v => K v T⟩
  | .len str x => ⟨fun _ E T K => valK x E fun x => DoK (alen str x) fun v => K v T⟩
  | .lenk n => ⟨fun _ E T K => K (.int .i64 n) T⟩
  | .cap x => ⟨fun _ E T K => valK x E fun x => DoK (acap x) fun v => K v T⟩
  | .minmax mx xs => ⟨fun _ E T K => valsK E xs fun vs => DoK (aminmax mx vs) fun v => K v T⟩
  | .load n agg x => ⟨fun _ E T K => valK x E fun x => ldC agg (loadF T n agg x) fun v => K v T⟩
  | .store n x v => ⟨fun _ E T K => valK x E fun x => valK v E fun v => DoE T (storeE T n x v) K⟩
  | .box mu n x => ⟨fun _ E T K => valK x E fun x => DoE T (boxvE T mu n x) K⟩
  | .alloc mu zero => ⟨fun _ E T K => DoE T (some (boxE T mu zero)) K⟩
  | .bslice mu sz len zero parts => ⟨fun _ E T K => pvalsK E parts fun ps => DoE T (bsliceE T mu sz len zero ps) K⟩
  | .append mu sz bytes x y => ⟨fun _ E T K => valK x E fun x => valK y E fun y => DoE T (appendE T mu sz bytes x y) K⟩
  | .make mu sz bytes zero len cap => ⟨fun _ E T K => valK len E fun l => valK cap E fun c => DoE T (makeE T mu sz bytes zero l c) K⟩
  | .copy sz x y => ⟨fun _ E T K => valK x E fun x => valK y E fun y => DoE T (copyE T sz x y) K⟩
  | .mkmap => ⟨fun _ E T K => DoE T (some (.push (.map T.n) (.map []))) K⟩
  | .lookup kk zero ok m k => ⟨fun _ E T K => valK m E fun m => valK k E fun k => DoK (alookup T.ah kk zero ok m k) fun v => K v T⟩
  | .mapup kk m k v => ⟨fun _ E T K => valK m E fun m => valK k E fun k => valK v E fun v => DoE T (mapupE T kk m k v) K⟩
  | .delete kk m k => ⟨fun _ E T K => DoB (tdelete T kk (m.val E) (k.val E)) fun T => K (.tup []) T⟩
  | .maplen m => ⟨fun _ E T K => valK m E fun m => DoK (amaplen T.ah m) fun v => K v T⟩
  | .sbytes x => ⟨fun _ E T K => valK x E fun x => DoK (asbytes x) fun v => K v T⟩
  | .bstr x => ⟨fun _ E T K => valK x E fun x => DoK (abstr T.ah x) fun v => K v T⟩
  | .srange x => ⟨fun _ E T K => DoHB (tsrange T (x.val E)) K⟩
  | .snext x => ⟨fun _ E T K => DoHB (tsnext T (x.val E)) K⟩
  | .call key args => ⟨fun B E T K => valsK E args fun vs => B key vs T K⟩
  | .callv f args => ⟨fun B E T K => valK f E fun f => valsK E args fun vs => clB B f vs T K⟩
  | .ext e xs => ⟨fun _ E T K => valsK E xs fun vs => DoHB (text T e vs) K⟩
  | .inv tbl x args => ⟨fun B E T K => valK x E fun x => valsK E args fun vs => invB B tbl x vs T K⟩

theorem mapB (x : Option TH) (K : PostB) : DoHB (x.map fun T => (.tup [], T)) K = DoB x fun T => K (.tup []) T := by cases x <;> rfl
theorem opC_eq (B : CallsB) (E : EV) (T : TH) (K : PostB) (op : AOp) : (opC op).f B E T K = opB B [] T K (op.sub E) := by
  cases op <;> simp only [opC, AOp.sub, opB, val_eq, vals_eq, pvals_eq, ovals_eq, valK_eq, valsK_eq, pvalsK_eq, ovalK_eq, DoK_eq, DoR_eq, ldC_eq, iaddrK_eq, faddrK_eq, binC_eq, convF_eq, fieldF_eq, idxF_eq, idxsF_eq, loadF_eq, DoE_eq, storeE_eq, boxvE_eq, bsliceE_eq, appendE_eq, makeE_eq, copyE_eq, mapupE_eq, mapB, Option.map_some, boxE_eq] <;> rfl

def setC (n : Nat) : Option Nat → SetC
  | none => ⟨fun E _ K => K E⟩
  | some d => cond (Nat.blt d n) ⟨fun E v K => K ((d, v) :: E)⟩ ⟨fun E _ K => K E⟩
theorem setC_eq (n : Nat) (d : Option Nat) (E : EV) (v : AV) (K : EV → Bool) : (setC n d).f E v K = K (esetd n E d v) := by
  cases d with
  | none => rfl
  | some d =>
    simp only [setC, esetd, eset]
    cases Nat.blt d n <;> rfl

def oneC (n : Nat) (o : AOper) : RegC :=
  match o.guard with
  | none => ⟨fun B E T K => (opC o.op).f B E T fun v T' => (setC n o.dst).f E v fun E => K E T'⟩
  | some (s, want) => ⟨fun B E T K => getK E s fun g =>
      Gd3B g want ((setC n (some s)).f E (.bool want) fun E => (opC o.op).f B E T fun v T' => (setC n o.dst).f E v fun E => K E T')
        ((setC n (some s)).f E (.bool !want) fun E => (setC n o.dst).f E (.tup []) fun E => K E T) ((setC n (some s)).f E (.tup []) fun E => (setC n o.dst).f E (.tup []) fun E => K E T)⟩
theorem oneC_eq (n : Nat) (o : AOper) (B : CallsB) (E : EV) (T : TH) (K : EV → TH → Bool) : (oneC n o).f B E T K = oneB B n o E T K := by
  unfold oneC oneB
  cases hg : o.guard with
  | none => simp only [opC_eq, setC_eq]
  | some g => simp only [opC_eq, setC_eq, esetd, getK_eq]

def regC (n : Nat) : List AOper → RegC
  | [] => ⟨fun _ E T K => K E T⟩
  | o :: r => ⟨fun B E T K => (oneC n o).f B E T fun E' T' => (regC n r).f B E' T' K⟩
theorem regC_eq (n : Nat) : ∀ (l : List AOper) (B : CallsB) (E : EV) (T : TH) (K : EV → TH → Bool), (regC n l).f B E T K = regB B n l E T K := by
  intro l
  induction l with
  | nil => intro B E T K; rfl
  | cons o r ih =>
    intro B E T K
    simp only [regC, oneC_eq, regB, oneB, ih]

def segC (n : Nat) (ops : List AOper) : List Nat → RegC
  | [] => ⟨fun _ E T K => K E T⟩
  | i :: r => match ops[i]? with
    | some o => ⟨fun B E T K => (oneC n o).f B E T fun E' T' => (segC n ops r).f B E' T' K⟩
    | none => ⟨fun _ _ _ _ => false⟩
theorem segC_eq (n : Nat) (ops : List AOper) : ∀ (l : List Nat) (B : CallsB) (E : EV) (T : TH) (K : EV → TH → Bool), (segC n ops l).f B E T K = segB B n ops l E T K := by
  intro l
  induction l with
  | nil => intro B E T K; rfl
  | cons i r ih =>
    intro B E T K
    simp only [segC, segB]
    cases ops[i]? with
    | none => rfl
    | some o => simp only [oneC_eq, ih]

def readC (o : AOper) : SamC :=
  match o.op with
  | .load n agg x => ⟨fun E T X => valK x E fun x => getK E (o.dst.getD 0) fun d => and (sameV (loadF T n agg x) d) X⟩
  | .lookup kk zero ok m k => ⟨fun E T X => and (sameV (alookup T.ah kk zero ok (m.val E) (k.val E)) (eget E (o.dst.getD 0))) X⟩
  | .maplen m => ⟨fun E T X => and (sameV (amaplen T.ah (m.val E)) (eget E (o.dst.getD 0))) X⟩
  | .bstr x => ⟨fun E T X => and (sameV (abstr T.ah (x.val E)) (eget E (o.dst.getD 0))) X⟩
  | _ => ⟨fun _ _ X => X⟩
theorem readC_eq (o : AOper) (E : EV) (T : TH) (X : Bool) : (readC o).f E T X = (readB T E o && X) := by
  unfold readC readB
  cases o.op <;> simp only [val_eq, Bool.true_and, valK_eq, getK_eq, loadF_eq] <;> rfl
def samC (ops : List AOper) : List Nat → SamC
  | [] => ⟨fun _ _ X => X⟩
  | l :: r => match ops[l]? with
    | some o => (match o.guard with
      | none => ⟨fun E T X => (readC o).f E T ((samC ops r).f E T X)⟩
      | some (s, want) => ⟨fun E T X => and (getK E s fun g => sameW g want ((readC o).f E T true)) ((samC ops r).f E T X)⟩)
    | none => ⟨fun E T X => (samC ops r).f E T X⟩
theorem samC_eq (ops : List AOper) : ∀ (l : List Nat) (E : EV) (T : TH) (X : Bool), (samC ops l).f E T X = samesT ops E T X l := by
  intro l
  induction l with
  | nil => intro E T X; rfl
  | cons i r ih =>
    intro E T X
    simp only [samC, samesT]
    cases ops[i]? with
    | none => simp only [ih, Bool.true_and]
    | some o =>
      simp only [sameGB]
      cases o.guard with
      | none => simp only [ih, readC_eq]
      | some g => simp only [ih, readC_eq, Bool.and_true, getK_eq]

def drawC (n : Nat) (ops : List AOper) (last : List Nat) : List (List Nat × Nat × List Nat) → RegC
  | [] => segC n ops last
  | (seg, e, st) :: r => match ops[e]? with
    | some o => ⟨fun B E T K => (segC n ops seg).f B E T fun E1 T1 => (oneC n o).f B E1 T1 fun E2 T2 => (samC ops st).f E1 T2 ((drawC n ops last r).f B E2 T2 K)⟩
    | none => ⟨fun B E T K => (segC n ops seg).f B E T fun _ _ => false⟩
theorem drawC_eq (n : Nat) (ops : List AOper) (last : List Nat) : ∀ (l : List (List Nat × Nat × List Nat)) (B : CallsB) (E : EV) (T : TH) (K : EV → TH → Bool), (drawC n ops last l).f B E T K = drawB B n ops last l E T K := by
  intro l
  induction l with
  | nil => intro B E T K; exact segC_eq _ _ _ _ _ _ _
  | cons p r ih =>
    obtain ⟨seg, e, st⟩ := p
    intro B E T K
    simp only [drawC, drawB]
    cases ops[e]? with
    | none => simp only [segC_eq]
    | some o => simp only [segC_eq, oneC_eq, samC_eq, ih]

def putC (n : Nat) : List Nat → PutC
  | [] => ⟨fun E _ K => K E⟩
  | t :: r => cond (Nat.blt t n) ⟨fun E s K => List.rec (motive := fun _ => Bool) ((putC n r).f ((t, .bot) :: E) [] K) (fun v q _ => (putC n r).f ((t, v) :: E) q K) s⟩ ⟨fun E s K => (putC n r).f E s.tail K⟩
theorem putC_eq (n : Nat) : ∀ (l : List Nat) (E : EV) (s : List AV) (K : EV → Bool), (putC n l).f E s K = K (eputs n E l s) := by
  intro l
  induction l with
  | nil => intro E s K; cases s <;> rfl
  | cons t r ih =>
    intro E s K
    simp only [putC, eputs, eset]
    cases Nat.blt t n with
    | true => cases s <;> simp only [cond_true, ih, List.headD_nil, List.headD_cons, List.tail_nil, List.tail_cons]
    | false => simp only [cond_false, ih]
def getsK (E : EV) : List Nat → (List AV → Bool) → Bool
  | [], K => K []
  | t :: r, K => getK E t fun v => getsK E r fun vs => K (v :: vs)
theorem getsK_eq (E : EV) : ∀ (l : List Nat) (K : List AV → Bool), getsK E l K = K (egets E l)
  | [], K => rfl
  | t :: r, K => by rw [getsK, getK_eq, getsK_eq E r]; rfl
/-- The slots that are not forgotten. -/
def keepE (ks : List Nat) : EV → EV
  | [] => []
  | (t, v) :: E => cond (memN t ks) (keepE ks E) ((t, v) :: keepE ks E)
def keepK (ks : List Nat) (E : EV) : (EV → Bool) → Bool := List.rec (motive := fun _ => (EV → Bool) → Bool) (fun K => K []) (fun p _ ih K => Prod.rec (motive := fun _ => Bool) (fun t v => cond (memN t ks) (ih K) (ih fun E => K ((t, v) :: E))) p) E
theorem keepK_eq (ks : List Nat) : ∀ (E : EV) (K : EV → Bool), keepK ks E K = K (keepE ks E)
  | [], K => rfl
  | (t, v) :: E, K => by
    show cond (memN t ks) (keepK ks E K) (keepK ks E fun E => K ((t, v) :: E)) = _
    rw [keepK_eq ks E, keepK_eq ks E, keepE]
    cases memN t ks <;> rfl
theorem memN_iff : ∀ (t : Nat) (l : List Nat), memN t l = decide (t ∈ l)
  | t, [] => rfl
  | t, s :: r => by
    rw [memN, nb, memN_iff t r]
    by_cases h : t = s
    · simp [h]
    · simp [h]
theorem keepE_get (ks : List Nat) : ∀ (E : EV) (i : Nat), eget (keepE ks E) i = if i ∈ ks then .bot else eget E i
  | [], i => by simp [keepE, eget]
  | (t, v) :: E, i => by
    rw [keepE, memN_iff, eget_cons]
    by_cases h : t ∈ ks
    · simp only [h, decide_true, cond_true, keepE_get ks E i]
      by_cases hi : i ∈ ks
      · rw [if_pos hi, if_pos hi]
      · rw [if_neg hi, if_neg hi, if_neg (show ¬ t = i from fun e => hi (e ▸ h))]
    · simp only [h, decide_false, cond_false, eget_cons, keepE_get ks E i]
      by_cases e : t = i
      · subst e; rw [if_pos rfl, if_neg h, if_pos rfl]
      · rw [if_neg e, if_neg e]
theorem killsI_get : ∀ (ks : List Nat) (env : Env) (i : Nat), (Rb.kills env ks).getD i .bot = if i ∈ ks then .bot else env.getD i .bot
  | [], env, i => by simp [Rb.kills]
  | t :: r, env, i => by
    rw [Rb.kills, killsI_get r]
    by_cases hr : i ∈ r
    · rw [if_pos hr, if_pos (List.mem_cons_of_mem _ hr)]
    · rw [if_neg hr]
      by_cases e : t = i
      · subst e
        rw [if_pos List.mem_cons_self, List.getD_eq_getElem?_getD, List.getElem?_set]
        simp only [if_true]
        split <;> rfl
      · rw [if_neg (by simp only [List.mem_cons, not_or]; exact ⟨fun h => e h.symm, hr⟩), List.getD_eq_getElem?_getD, List.getElem?_set_ne e, ← List.getD_eq_getElem?_getD]
theorem killsI_length : ∀ (ks : List Nat) (env : Env), (Rb.kills env ks).length = env.length
  | [], env => rfl
  | t :: r, env => by rw [Rb.kills, killsI_length r]; simp
theorem Agree.keep {n : Nat} {E : EV} {env : Env} (h : Agree n E env) (ks : List Nat) : Agree n (keepE ks E) (Rb.kills env ks) :=
  ⟨by rw [killsI_length]; exact h.1, fun i => by rw [keepE_get, killsI_get, h.2 i]⟩

def blockX (id : Nat) (N : EV → TH → Bool) (X : AExit → EV → TH → Bool) : AExit → EV → TH → Bool
  | .exit id', E, T => cond (Nat.beq id' id) (N E T) (X (.exit id') E T)
  | e, E, T => X e E T

def LoopC (F : List AV → TH → (List AV → TH → Bool) → Bool) (n : Nat) : List AV → TH → Bool := Nat.rec (motive := fun _ => List AV → TH → Bool) (fun _ _ => false) (fun _ ih s T => F s T ih) n

def codeC (fuel n : Nat) : ACode → CodC
  | .skip => ⟨fun _ E T N _ => N E T⟩
  | .region ops => ⟨fun B E T N _ => (regC n ops).f B E T N⟩
  | .draw ops _ plan last => ⟨fun B E T N _ => (drawC n ops last plan).f B E T N⟩
  | .seq a b => ⟨fun B E T N X => (codeC fuel n a).f B E T (fun E T => (codeC fuel n b).f B E T N X) X⟩
  | .cond x a b => ⟨fun B E T N X => valK x E fun x => GdB x true ((codeC fuel n a).f B E T N X) ((codeC fuel n b).f B E T N X)⟩
  | .block id a => ⟨fun B E T N X => (codeC fuel n a).f B E T N (blockX id N X)⟩
  | .loop vs ks a => ⟨fun B E T N X => keepK ks E fun E0 => getsK E vs fun s => LoopC (fun s T K => (putC n vs).f E0 s fun E => (codeC fuel n a).f B E T (fun E' T' => getsK E' vs fun s => K s T') X) fuel s T⟩
  | .exit id => ⟨fun _ E T _ X => X (.exit id) E T⟩
  | .ret => ⟨fun _ E T _ X => X .ret E T⟩
  | .freeze t a => ⟨fun B E T N X => getK E t fun v => DoE T (freezeE T v) fun v T' => (setC n (some t)).f E v fun E => (codeC fuel n a).f B E T' N X⟩
  | .join vs ks a b => ⟨fun _ _ _ _ _ => false⟩
  | .rjoin vs ks ops b => ⟨fun _ _ _ _ _ => false⟩

theorem codeC_sound {Φ : Calls'} {B : CallsB} (hB : SoundB Φ B) (hΦ : Mono Φ) (fuel n : Nat) : ∀ (c : ACode) {E : EV} {env : Env} {T : TH} {N : EV → TH → Bool} {X : AExit → EV → TH → Bool} {Q : AExit → Env → AH → Prop}, Agree n E env → (codeC fuel n c).f B E T N X = true →
    (∀ E' env' T', Agree n E' env' → N E' T' = true → Q .normal env' T'.ah) → (∀ x E' env' T', x ≠ .normal → Agree n E' env' → X x E' T' = true → Q x env' T'.ah) → codeSem Φ c env T.ah Q := by
  have reg : ∀ (l : List AOper) {E : EV} {env : Env} {T : TH} {N : EV → TH → Bool} {Q : Env → AH → Prop}, Agree n E env → (regC n l).f B E T N = true → (∀ E' env' T', Agree n E' env' → N E' T' = true → Q env' T'.ah) → regSem Φ l env T.ah Q := by
    intro l E env T N Q ha h hN
    rw [regC_eq] at h
    refine regE_sound hΦ ha (regB_sound (Q := fun E' H' => ∃ T', H' = T'.ah ∧ N E' T' = true) hB h fun e T' h => ⟨T', rfl, h⟩) fun E' env' H' ha' h' => ?_
    obtain ⟨T', rfl, h'⟩ := h'
    exact hN _ _ _ ha' h'
  intro c
  induction c with
  | skip => intro E env T N X Q ha h hN hX; exact hN _ _ _ ha h
  | region ops => intro E env T N X Q ha h hN hX; exact reg ops ha h hN
  | draw ops pr plan last =>
    intro E env T N X Q ha h hN hX
    simp only [codeC, drawC_eq] at h
    refine drawE_sound hΦ ha (drawB_sound (Q := fun E' H' => ∃ T', H' = T'.ah ∧ N E' T' = true) hB h fun e T' h => ⟨T', rfl, h⟩) fun E' env' H' ha' h' => ?_
    obtain ⟨T', rfl, h'⟩ := h'
    exact hN _ _ _ ha' h'
  | seq a b iha ihb =>
    intro E env T N X Q ha h hN hX
    simp only [codeC] at h
    simp only [codeSem]
    refine iha ha h (fun E' env' T' ha' h' => ihb ha' h' hN hX) fun x E' env' T' hx ha' h' => ?_
    cases x with
    | normal => exact absurd rfl hx
    | exit i => exact hX _ _ _ _ hx ha' h'
    | ret => exact hX _ _ _ _ hx ha' h'
  | join vs ks a b iha ihb => intro E env T N X Q ha h hN hX; cases h
  | cond x a b iha ihb =>
    intro E env T N X Q ha h hN hX
    simp only [codeC, valK_eq] at h
    rw [← val_eq, sub_ev ha] at h
    exact GdB_sound h (fun h => iha ha h hN hX) fun h => ihb ha h hN hX
  | block id a ih =>
    intro E env T N X Q ha h hN hX
    simp only [codeC] at h
    simp only [codeSem]
    refine ih ha h hN fun x E' env' T' hx ha' h' => ?_
    cases x with
    | normal => exact absurd rfl hx
    | exit i =>
      simp only [blockX, nb] at h'
      dsimp only
      by_cases hi : i = id
      · rw [if_pos hi]; simp only [hi, decide_true, cond_true] at h'; exact hN _ _ _ ha' h'
      · rw [if_neg hi]; simp only [hi, decide_false, cond_false] at h'; exact hX _ _ _ _ hx ha' h'
    | ret => exact hX _ _ _ _ hx ha' h'
  | loop vs ks a ih =>
    intro E env T N X Q ha h hN hX
    simp only [codeC, keepK_eq, getsK_eq, putC_eq] at h
    simp only [codeSem]
    have main : ∀ (m : Nat) (s : List AV) (T : TH), LoopC (fun s T K => (codeC fuel n a).f B (eputs n (keepE ks E) vs s) T (fun E' T' => K (egets E' vs) T') X) m s T = true →
        LoopP (fun (s : List AV × AH) (K : List AV × AH → Prop) =>
          codeSem Φ a (puts (kills env ks) vs s.1) s.2 fun e env' H' => match e with
            | .normal => K (gets env' vs, H')
            | e => Q e env' H') (s, T.ah) := by
      intro m
      induction m with
      | zero => intro s T h; cases h
      | succ m ihm =>
        intro s T h
        refine LoopP.step ?_
        refine ih ((ha.keep ks).puts vs s) h (fun E' env' T' ha' h' => ?_) fun x E' env' T' hx ha' h' => ?_
        · dsimp only
          rw [← ha'.gets vs]
          exact ihm _ _ h'
        · cases x with
          | normal => exact absurd rfl hx
          | exit i => exact hX _ _ _ _ hx ha' h'
          | ret => exact hX _ _ _ _ hx ha' h'
    rw [← ha.gets vs]
    exact main fuel _ _ h
  | exit id => intro E env T N X Q ha h hN hX; exact hX _ _ _ _ (by intro h; cases h) ha h
  | ret => intro E env T N X Q ha h hN hX; exact hX _ _ _ _ (by intro h; cases h) ha h
  | freeze t a ih =>
    intro E env T N X Q ha h hN hX
    simp only [codeC, getK_eq, DoE_eq, freezeE_eq, setC_eq, esetd] at h
    simp only [codeSem]
    rw [ha.2 t] at h
    exact DoHB_sound (tfreeze_ah _ _) h fun v T' h' => ih (ha.set t v) h' hN hX
  | rjoin vs ks ops b ih => intro E env T N X Q ha h hN hX; cases h

def resC : List ARes → ResC
  | [] => ⟨fun _ _ K => K []⟩
  | .tmp t :: r => ⟨fun E T K => getK E t fun v => (resC r).f E T fun vs => K (v :: vs)⟩
  | .cell t n agg :: r => ⟨fun E T K => getK E t fun x => ldC agg (loadF T n agg x) fun v => (resC r).f E T fun vs => K (v :: vs)⟩
theorem resC_eq : ∀ (rs : List ARes) (E : EV) (T : TH) (K : List AV → Bool), (resC rs).f E T K = resB E T rs K := by
  intro rs
  induction rs with
  | nil => intros; rfl
  | cons r rs ih => intro E T K; cases r <;> simp only [resC, resB, ih, getK_eq, ldC_eq, loadF_eq]

/-- One result, or more. -/
def oneK (vs : List AV) (Q : PostB) (T : TH) : Bool :=
  match vs with
  | [v] => Q v T
  | vs => Q (.tup vs) T
theorem oneK_eq (vs : List AV) (Q : PostB) (T : TH) : oneK vs Q T = Q (oneRes vs) T := by
  cases vs with
  | nil => rfl
  | cons v r => cases r <;> rfl

def retX (rs : List ARes) (Q : PostB) : AExit → EV → TH → Bool
  | .exit _, _, _ => false
  | _, E, T => (resC rs).f E T fun vs => oneK vs Q T

def initK : List AV → Nat → (EV → Bool) → Bool
  | [], _, K => K []
  | a :: r, i, K => initK r (Nat.succ i) fun E => K ((i, a) :: E)
theorem initK_eq : ∀ (l : List AV) (i : Nat) (K : EV → Bool), initK l i K = K (einit l i)
  | [], _, _ => rfl
  | a :: r, i, K => by rw [initK, initK_eq r]; rfl

def fnC (fuel : Nat) (f : AFunc) : FnC :=
  ⟨fun B args T Q => and (Nat.ble args.length f.ntmps) (initK args 0 fun E => (codeC fuel f.ntmps f.body).f B E T (fun E T => (resC f.results).f E T fun vs => oneK vs Q T) (retX f.results Q))⟩
theorem fnC_sound {Φ : Calls'} {B : CallsB} (hB : SoundB Φ B) (hΦ : Mono Φ) {fuel : Nat} {f : AFunc} {args : List AV} {T : TH} {K : PostB} (h : (fnC fuel f).f B args T K = true) {Q : Post} (hK : ∀ v T', K v T' = true → Q v T'.ah) : fnSem Φ f args T.ah Q := by
  simp only [fnC, Bool.and_eq_true, initK_eq] at h
  have hle := Nat.le_of_ble_eq_true h.1
  have ha : Agree f.ntmps (einit args 0) (args ++ List.replicate (f.ntmps - args.length) .bot) := by
    refine ⟨by simp; omega, fun i => ?_⟩
    rw [einit_get]
    simp only [Nat.not_lt_zero, if_false, Nat.sub_zero]
    simp only [List.getD_eq_getElem?_getD]
    by_cases hi : i < args.length
    · rw [List.getElem?_append_left hi]
    · rw [List.getElem?_append_right (by omega), List.getElem?_eq_none (by omega), List.getElem?_replicate]
      split <;> rfl
  have fin : ∀ (E' : EV) (env' : Env) (T' : TH), Agree f.ntmps E' env' → (resC f.results).f E' T' (fun vs => oneK vs K T') = true → resSem env' T'.ah f.results fun vs => Q (oneRes vs) T'.ah := by
    intro E' env' T' ha' h'
    rw [resC_eq] at h'
    rw [← resE_eq ha']
    exact resB_sound h' fun vs h => hK _ _ (by rwa [oneK_eq] at h)
  refine codeC_sound hB hΦ fuel _ f.body ha h.2 (fun E' env' T' ha' h' => fin E' env' T' ha' h') fun x E' env' T' hx ha' h' => ?_
  cases x with
  | normal => exact absurd rfl hx
  | exit i => cases h'
  | ret => exact fin E' env' T' ha' h'

/-- The functions of a table, made once. -/
def dispI (tab : Nat → Option FnC) (B : CallsB) : CallsB := fun k args T Q => match tab k with
  | some c => c.f B args T Q
  | none => false

def tabH (C : Ctx) (fuel : Nat) : List Hint → Nat → Option FnC
  | [], _ => none
  | h :: r, k => cond (Nat.beq h.fid k) (some (fnC fuel (decF C h))) (tabH C fuel r k)

theorem tabH_mem {C : Ctx} {fuel : Nat} : ∀ {L : List Hint} {k : Nat} {c : FnC}, tabH C fuel L k = some c → ∃ h, h ∈ L ∧ h.fid = k ∧ c = fnC fuel (decF C h)
  | [], _, _, h => by cases h
  | p :: r, k, c, h => by
    unfold tabH at h
    cases hb : Nat.beq p.fid k with
    | true =>
      rw [hb] at h
      simp only [cond_true, Option.some.injEq] at h
      exact ⟨p, List.mem_cons_self, Nat.eq_of_beq_eq_true hb, h.symm⟩
    | false =>
      rw [hb] at h
      obtain ⟨f, hf, hc⟩ := tabH_mem (L := r) h
      exact ⟨f, List.mem_cons_of_mem _ hf, hc⟩

theorem dispI_ok {P : Program} {GT : Nat → Option (List AV)} {L : List Hint} (hL : chkH (idC P GT) L = true) (fuel : Nat) : DispOK (ACall (idC P GT)) (dispI (tabH (idC P GT) fuel L)) := by
  intro B hB k args T K h Q hQ
  unfold dispI at h
  split at h
  · rename_i c hc
    obtain ⟨hi, hm, hk, rfl⟩ := tabH_mem hc
    have hs : fnSem (ACall (idC P GT)) (decF (idC P GT) hi) args T.ah Q := fnC_sound hB (ACall_mono _) h hQ
    intro f hf G w Vs hG hrel hargs
    have hfk : f = k := by
      simp only [idC] at hf
      cases hg : goodFn P k with
      | true => rw [hg] at hf; simpa using hf.symm
      | false => rw [hg] at hf; cases hf
    subst hfk
    exact fn_sound (idC_fok P GT) (by rw [← hk]; exact chkH_mem hL _ hm) hs hG hrel hargs
  · cases h
end
end Rb

/- Known calls, found by runs; closed runs. -/
set_option linter.unusedVariables false
namespace Rb
open Go
noncomputable section

/-- Reckoned as what is asked for, not as one side of an equation. -/
def forced (b : Bool) : Bool := Bool.rec (motive := fun _ => Bool) false true b
theorem forced_eq (b : Bool) : forced b = b := by cases b <;> rfl
theorem of_forced {b : Bool} (h : forced b = true) : b = true := by rwa [forced_eq] at h

def memL : List (Nat × List AV × AV) → Memo
  | [], _, _ => none
  | e :: r, k, args => cond (Nat.beq e.1 k) (cond (AV.sames e.2.1 args) (some e.2.2) (memL r k args)) (memL r k args)

/-- An entry, run. -/
def entry (B : CallsB) (e : Nat × List AV × AV) : Bool := and (AV.frozs e.2.1) (and e.2.2.froz (B e.1 e.2.1 TH.mt (fun u _ => u.same e.2.2)))

theorem memL_nil {Φ : Calls'} : MemoOK Φ (memL []) := fun _ _ _ h => by cases h
theorem memL_cons {C : Ctx} (hGT : GTok C) {B : CallsB} (hB : SoundB (ACall C) B) {e : Nat × List AV × AV} {L : List (Nat × List AV × AV)} (h : entry B e = true) (hL : MemoOK (ACall C) (memL L)) : MemoOK (ACall C) (memL (e :: L)) := by
  obtain ⟨k0, a0, v0⟩ := e
  simp only [entry, Bool.and_eq_true] at h
  obtain ⟨h1, h2, h3⟩ := h
  intro k args v hm H Q hQ
  unfold memL at hm
  dsimp only at hm
  cases hb : Nat.beq k0 k with
  | false => rw [hb] at hm; exact hL k args v hm H Q hQ
  | true =>
    rw [hb] at hm
    obtain rfl := Nat.eq_of_beq_eq_true hb
    cases hs : AV.sames a0 args with
    | false => rw [hs] at hm; exact hL k0 args v hm H Q hQ
    | true =>
      rw [hs] at hm
      simp only [cond_true, Option.some.injEq] at hm
      subst hm
      obtain rfl := AV.sames_sound _ _ hs
      exact run_any hGT hB h1 h2 h3 H Q hQ
theorem memL_app {C : Ctx} (hGT : GTok C) {B : CallsB} (hB : SoundB (ACall C) B) {L : List (Nat × List AV × AV)} (hL : MemoOK (ACall C) (memL L)) : ∀ {N : List (Nat × List AV × AV)}, N.all (entry B) = true → MemoOK (ACall C) (memL (N ++ L))
  | [], _ => hL
  | e :: N, h => by
    simp only [List.all_cons, Bool.and_eq_true] at h
    exact memL_cons hGT hB h.1 (memL_app hGT hB hL h.2)

/-- What is known, as a table of functions' runs. -/
def runI (fn : Nat → Option FnC) (L : List (Nat × List AV × AV)) : CallsB := runM (memL L) (dispI fn) 100
theorem runI_ok {C : Ctx} {fn : Nat → Option FnC} (hd : DispOK (ACall C) (dispI fn)) {L : List (Nat × List AV × AV)} (hL : MemoOK (ACall C) (memL L)) : SoundB (ACall C) (runI fn L) := runM_sound hL hd 100

theorem run_yes {C : Ctx} {B : CallsB} (hB : SoundB (ACall C) B) {k : Nat} {args : List AV} (h : B k args TH.mt (fun u _ => u.same (.bool true)) = true) : ACall C k args AH.mt (fun v _ => v = .bool true) := by
  have := hB k args TH.mt _ h (fun v _ => v = .bool true) (fun v T' h => AV.same_sound _ _ h)
  rwa [TH.ah_mt] at this
end
end Rb

/- Values told more weakly: which slice may still grow is forgotten. -/
set_option linter.unusedVariables false
set_option linter.unusedSimpArgs false
namespace Rb
open Go
mutual
def AV.weak : AV → AV
  | .fptr cs => .fptr (AV.weaks cs)
  | .lst _ len cs => .lst .dead len (AV.weaks cs)
  | .fn k cs => .fn k (AV.weaks cs)
  | .iface t v => .iface t (AV.weak v)
  | .agg cs => .agg (AV.weaks cs)
  | .tup cs => .tup (AV.weaks cs)
  | v => v
def AV.weaks : List AV → List AV
  | [] => []
  | c :: r => AV.weak c :: AV.weaks r
end
theorem weaks_map : ∀ cs : List AV, AV.weaks cs = cs.map AV.weak
  | [] => rfl
  | c :: r => by rw [AV.weaks, weaks_map r]; rfl
theorem weaks_get {cs : List AV} {j : Nat} {c : AV} (h : (AV.weaks cs)[j]? = some c) : ∃ d, cs[j]? = some d ∧ c = d.weak := by
  rw [weaks_map, List.getElem?_map] at h
  cases hc : cs[j]? with
  | none => rw [hc] at h; cases h
  | some d => rw [hc] at h; simp at h; exact ⟨d, rfl, h.symm⟩
theorem weaks_len (cs : List AV) : (AV.weaks cs).length = cs.length := by rw [weaks_map, List.length_map]

theorem VR.weak {F : FTab} {w : World} {G : Ghost} {c : AV} {V : Value} (h : VR F w G c V) : VR F w G c.weak V := by
  induction h with
  | bot V => exact .bot V
  | bool b => exact .bool b
  | int k n => exact .int k n
  | str s => exact .str s
  | nilp => exact .nilp
  | ptr id off h => exact .ptr id off h
  | fptr cells b o Vs h _ ih =>
    refine .fptr _ b o Vs (fun j c hj => ?_) fun j c hj => ?_
    · obtain ⟨d, hd, rfl⟩ := weaks_get hj; exact h j d hd
    · obtain ⟨d, hd, rfl⟩ := weaks_get hj; exact ih j d hd
  | lstnil => exact .lst0 none 0
  | lst0 a cap => exact .lst0 a cap
  | lst tk len cells b o cap Vs ht hle h _ ih =>
    refine .lst .dead len _ b o cap Vs trivial hle (fun j c hj => ?_) fun j c hj => ?_
    · obtain ⟨d, hd, rfl⟩ := weaks_get hj; exact h j d hd
    · obtain ⟨d, hd, rfl⟩ := weaks_get hj; exact ih j d hd
  | row id off len sz cap h hle hc => exact .row id off len sz cap h hle hc
  | map id h => exact .map id h
  | nilmap => exact .nilmap
  | fn key caps f Vs hf hl _ ih =>
    refine .fn key _ f Vs hf (by rw [weaks_len]; exact hl) fun j c V hc hV => ?_
    obtain ⟨d, hd, rfl⟩ := weaks_get hc; exact ih j d V hd hV
  | nilfn => exact .nilfn
  | iface t v V _ ih => exact .iface t _ V ih
  | nilif => exact .nilif
  | agg cs Vs hl _ ih =>
    refine .agg _ Vs (by rw [weaks_len]; exact hl) fun j c V hc hV => ?_
    obtain ⟨d, hd, rfl⟩ := weaks_get hc; exact ih j d V hd hV
  | tup cs Vs hl _ ih =>
    refine .tup _ Vs (by rw [weaks_len]; exact hl) fun j c V hc hV => ?_
    obtain ⟨d, hd, rfl⟩ := weaks_get hc; exact ih j d V hd hV

/-- A result may be told more weakly. -/
theorem ACall.weak {C : Ctx} {key : Nat} {args : List AV} {H : AH} {Q : Post} (h : ACall C key args H (fun v H' => Q v.weak H')) : ACall C key args H Q := by
  intro f hf G w Vs hG hrel hargs
  refine Calls.mono (h f hf G w Vs hG hrel hargs) fun e w' he => ?_
  obtain ⟨V, v, H', G', e1, hQ, hv, r⟩ := he
  exact ⟨V, v.weak, H', G', e1, hQ, hv.weak, r⟩

/-- What holds of arguments told weakly holds of them told strongly. -/
theorem ACall.weak_args {C : Ctx} {key : Nat} {args : List AV} {H : AH} {Q : Post} (h : ACall C key (AV.weaks args) H Q) : ACall C key args H Q := by
  intro f hf G w Vs hG hrel hargs
  refine h f hf G w Vs hG hrel ⟨by rw [weaks_len]; exact hargs.1, fun j c V hc hV => ?_⟩
  obtain ⟨d, hd, rfl⟩ := weaks_get hc
  exact (hargs.2 j d V hd hV).weak
end Rb

/- Known calls, found by function first; results and arguments told weakly. -/
set_option linter.unusedVariables false
namespace Rb
open Go
noncomputable section

def lookA : List (List AV × AV) → List AV → Option AV
  | [], _ => none
  | e :: r, a => cond (AV.sames e.1 a) (some e.2) (lookA r a)
def grp (k : Nat) : List (Nat × List AV × AV) → List (List AV × AV)
  | [] => []
  | e :: r => cond (Nat.beq e.1 k) ((e.2.1, e.2.2) :: grp k r) (grp k r)
theorem look_grp (k : Nat) (args : List AV) : ∀ L : List (Nat × List AV × AV), lookA (grp k L) args = memL L k args
  | [] => rfl
  | e :: r => by
    have ih := look_grp k args r
    unfold grp memL
    cases Nat.beq e.1 k with
    | false => exact ih
    | true =>
      simp only [cond_true, lookA]
      cases AV.sames e.2.1 args with
      | false => exact ih
      | true => rfl
def memG (L : List (Nat × List AV × AV)) : Memo := fun k args => match grp k L with
  | [] => none
  | l => lookA l (AV.weaks args)
theorem memG_ok {C : Ctx} {L : List (Nat × List AV × AV)} (h : MemoOK (ACall C) (memL L)) : MemoOK (ACall C) (memG L) := by
  intro k args v hm H Q hQ
  have : lookA (grp k L) (AV.weaks args) = some v := by
    unfold memG at hm
    split at hm
    · cases hm
    · exact hm
  rw [look_grp] at this
  exact ACall.weak_args (h k _ v this H Q hQ)

theorem run_anyW {C : Ctx} (hGT : GTok C) {B : CallsB} (hB : SoundB (ACall C) B) {k : Nat} {args : List AV} {v : AV} (ha : AV.frozs args = true) (hv : v.froz = true) (h : B k args TH.mt (fun u _ => u.weak.same v) = true) (H : AH) (Q : Post) (hQ : Q v H) : ACall C k args H Q :=
  ACall.frame2 hGT (ACall.weak (Q := fun u _ => u.same v = true) (run_closed hB (K := fun u => u.weak.same v) h)) ha H Q fun u _ hu => by rw [AV.same_sound _ _ hu]; exact ⟨hv, hQ⟩

/-- An entry, run; its result may be told more weakly. -/
def entryW (B : CallsB) (e : Nat × List AV × AV) : Bool := and (AV.frozs e.2.1) (and e.2.2.froz (B e.1 e.2.1 TH.mt (fun u _ => u.weak.same e.2.2)))
def allW (B : CallsB) : List (Nat × List AV × AV) → Bool
  | [] => true
  | e :: r => and (entryW B e) (allW B r)
theorem memL_consW {C : Ctx} (hGT : GTok C) {B : CallsB} (hB : SoundB (ACall C) B) {e : Nat × List AV × AV} {L : List (Nat × List AV × AV)} (h : entryW B e = true) (hL : MemoOK (ACall C) (memL L)) : MemoOK (ACall C) (memL (e :: L)) := by
  obtain ⟨k0, a0, v0⟩ := e
  simp only [entryW, Bool.and_eq_true] at h
  obtain ⟨h1, h2, h3⟩ := h
  intro k args v hm H Q hQ
  unfold memL at hm
  dsimp only at hm
  cases hb : Nat.beq k0 k with
  | false => rw [hb] at hm; exact hL k args v hm H Q hQ
  | true =>
    rw [hb] at hm
    obtain rfl := Nat.eq_of_beq_eq_true hb
    cases hs : AV.sames a0 args with
    | false => rw [hs] at hm; exact hL k0 args v hm H Q hQ
    | true =>
      rw [hs] at hm
      simp only [cond_true, Option.some.injEq] at hm
      subst hm
      obtain rfl := AV.sames_sound _ _ hs
      exact run_anyW hGT hB h1 h2 h3 H Q hQ
theorem memL_appW {C : Ctx} (hGT : GTok C) {B : CallsB} (hB : SoundB (ACall C) B) {L : List (Nat × List AV × AV)} (hL : MemoOK (ACall C) (memL L)) : ∀ {N : List (Nat × List AV × AV)}, allW B N = true → MemoOK (ACall C) (memL (N ++ L))
  | [], _ => hL
  | e :: N, h => by
    simp only [allW, Bool.and_eq_true] at h
    exact memL_consW hGT hB h.1 (memL_appW hGT hB hL h.2)
end
end Rb

/- The seat's functions: what a text of them needs that the program does not say. By hints.py. -/
set_option linter.unusedVariables false
namespace Go.Proofs.YtbdhmikigkgoiaaDoor.rb
open Rb
noncomputable def gt (g : Nat) : Option (List AV) := if g = 0 then some asciiSpace else none
noncomputable def C : Ctx := idC Tryd.prog gt
noncomputable def hs0 : List Hint := [
  ⟨3,[5,7],[],none,[]⟩,
  ⟨5,[5,8,10],[[6,7]],none,[]⟩,
  ⟨6,[3,4,6],[[5]],none,[]⟩,
  ⟨7,[4,7,10,11],[[33]],none,[]⟩,
  ⟨8,[4,8,11,12],[[6,7],[9,10],[9,13]],none,[]⟩,
  ⟨9,[1,2,8],[],none,[]⟩,
  ⟨10,[7,8],[[5],[6]],none,[]⟩,
  ⟨11,[],[],none,[]⟩,
  ⟨13,[2,41],[[34]],none,[]⟩,
  ⟨14,[],[[5,6],[5,7]],none,[]⟩,
  ⟨15,[],[[8]],none,[]⟩,
  ⟨16,[],[],none,[]⟩,
  ⟨17,[],[],none,[]⟩,
  ⟨18,[4],[],none,[]⟩,
  ⟨19,[],[],none,[]⟩,
  ⟨20,[5],[[3,14]],none,[]⟩,
  ⟨21,[8],[[16]],none,[]⟩,
  ⟨22,[],[],none,[]⟩,
  ⟨23,[],[],none,[]⟩,
  ⟨24,[],[],none,[]⟩,
  ⟨25,[],[[8]],none,[]⟩,
  ⟨26,[],[],none,[]⟩,
  ⟨27,[],[[5,6],[5,8]],none,[]⟩,
  ⟨28,[4],[[3],[5]],none,[]⟩,
  ⟨29,[],[[]],none,[]⟩,
  ⟨30,[],[],none,[]⟩,
  ⟨31,[],[],none,[]⟩,
  ⟨32,[],[],none,[]⟩,
  ⟨33,[5],[],none,[]⟩,
  ⟨34,[87],[],none,[]⟩,
  ⟨35,[7,9],[[5,15],[5,30]],none,[]⟩,
  ⟨36,[],[],none,[]⟩,
  ⟨37,[],[],none,[]⟩,
  ⟨38,[],[[18]],none,[]⟩,
  ⟨39,[],[[5]],none,[]⟩,
  ⟨40,[],[[3]],none,[]⟩,
  ⟨41,[],[],none,[]⟩,
  ⟨42,[],[],none,[]⟩,
  ⟨43,[41],[[3,4,5,6],[12],[10,11,12],[12]],some 9,[]⟩,
  ⟨44,[2,5],[],none,[]⟩]
theorem ok0 : chkH C hs0 = true := by kernel_rfl
noncomputable def hs1 : List Hint := [
  ⟨45,[],[],none,[]⟩,
  ⟨46,[3],[],none,[]⟩,
  ⟨47,[],[],none,[]⟩,
  ⟨48,[8,11,13],[[42],[49]],none,[]⟩,
  ⟨49,[7],[[10]],none,[]⟩,
  ⟨50,[5],[],none,[]⟩,
  ⟨51,[],[[8]],none,[]⟩,
  ⟨52,[11,12,46],[[5,6],[49]],none,[]⟩,
  ⟨53,[],[],none,[]⟩,
  ⟨54,[],[],none,[]⟩,
  ⟨55,[2,4,6],[],none,[]⟩,
  ⟨56,[2],[],none,[]⟩,
  ⟨57,[],[],none,[]⟩,
  ⟨58,[],[],none,[]⟩,
  ⟨59,[],[],none,[]⟩,
  ⟨60,[],[],none,[]⟩,
  ⟨61,[],[],none,[]⟩,
  ⟨62,[],[],none,[]⟩,
  ⟨63,[],[],none,[]⟩,
  ⟨64,[],[],none,[]⟩,
  ⟨65,[],[],none,[]⟩,
  ⟨66,[2,4,6,7],[[16]],none,[]⟩,
  ⟨67,[],[],none,[]⟩,
  ⟨68,[],[[20],[7,8]],none,[]⟩,
  ⟨69,[10],[[16],[7,8]],none,[]⟩,
  ⟨70,[],[],none,[]⟩,
  ⟨71,[],[[8]],none,[]⟩,
  ⟨72,[],[],none,[]⟩,
  ⟨73,[],[],none,[]⟩,
  ⟨74,[],[],none,[]⟩]
theorem ok1 : chkH C hs1 = true := by kernel_rfl
noncomputable def hs : List Hint := hs0 ++ (hs1)
theorem okAll : chkH C hs = true := chkH_app ok0 (ok1)
end Go.Proofs.YtbdhmikigkgoiaaDoor.rb

/- The seat's functions, run. By hints.py. -/
set_option linter.unusedVariables false
namespace Go.Proofs.YtbdhmikigkgoiaaDoor.rb
open Rb
theorem gtok : ∀ g l, gt g = some l → AV.frozs l = true := by
  intro g l h
  unfold gt at h
  split at h
  · cases h; kernel_rfl
  cases h
theorem gtC : GTok C := gtok
noncomputable def fn : Nat → Option FnC := tabH C 4096 hs
theorem dispOK : DispOK (ACall C) (dispI fn) := dispI_ok okAll 4096
end Go.Proofs.YtbdhmikigkgoiaaDoor.rb

/- Runs over lists of known calls. By xmemo.py. -/
set_option linter.unusedVariables false
namespace Go.Proofs.YtbdhmikigkgoiaaDoor.rb
open Rb
noncomputable def runG (L : List (Nat × List AV × AV)) : CallsB := runM (memG L) (dispI fn) 100
theorem runG_ok {L : List (Nat × List AV × AV)} (hL : MemoOK (ACall C) (memL L)) : SoundB (ACall C) (runG L) := runM_sound (memG_ok hL) dispOK 100
end Go.Proofs.YtbdhmikigkgoiaaDoor.rb

/- Known calls, found by runs. By runs.py. -/
set_option linter.unusedVariables false
namespace Go.Proofs.YtbdhmikigkgoiaaDoor.rb
open Rb
noncomputable section
def RbM110 : List (Nat × List AV × AV) := [
  (43, [.str [118,97,114,32,116,104,114,101,97,100,32,115,116,114,117,99,116,32,117,110,105,111,110,32,112,97,99,107,101,100,32,117,56,32,117,49,54,32,117,51,50,32,117,54,52,32,97,56,32,97,49,54,32,97,51,50,32,97,54,52,32,97,49,50,56,32,108,101,116,32,115,101,116,32,119,114,105,116,101,32,115,116,111,114,101,32,108,111,97,100,50,32,115,116,111,114,101,50,32,102,101,110,99,101,32,105,102,32,101,108,115,101,32,119,104,105,108,101,32,112,114,105,110,116,32,114,101,97,100,32,108,111,97,100,32,97,100,100,32,115,119,97,112,32,99,97,115,32,114,108,120,32,97,99,113,32,114,101,108,32,115,99]], .lst .dead 34 [.str [118,97,114],.str [116,104,114,101,97,100],.str [115,116,114,117,99,116],.str [117,110,105,111,110],.str [112,97,99,107,101,100],.str [117,56],.str [117,49,54],.str [117,51,50],.str [117,54,52],.str [97,56],.str [97,49,54],.str [97,51,50],.str [97,54,52],.str [97,49,50,56],.str [108,101,116],.str [115,101,116],.str [119,114,105,116,101],.str [115,116,111,114,101],.str [108,111,97,100,50],.str [115,116,111,114,101,50],.str [102,101,110,99,101],.str [105,102],.str [101,108,115,101],.str [119,104,105,108,101],.str [112,114,105,110,116],.str [114,101,97,100],.str [108,111,97,100],.str [97,100,100],.str [115,119,97,112],.str [99,97,115],.str [114,108,120],.str [97,99,113],.str [114,101,108],.str [115,99]])]
def RbM111 : List (Nat × List AV × AV) := [
  (20, [.lst .dead 1 [.str [120],.int .i64 (.ofNat 1),.int .i64 (.ofNat 4),.bool false,.lst .dead 0 [],.int .i64 (.ofNat 0),.lst .dead 0 []]], .int .i64 (.ofNat 0))]
theorem RbM110_run : forced (allW (runG []) RbM110) = true := by kernel_rfl
theorem RbM110_ok : MemoOK (ACall C) (memL (RbM110 ++ [])) := memL_appW gtC (runG_ok memL_nil) memL_nil (of_forced RbM110_run)
theorem RbM111_run : forced (allW (runG (RbM110 ++ [])) RbM111) = true := by kernel_rfl
theorem RbM111_ok : MemoOK (ACall C) (memL (RbM111 ++ (RbM110 ++ []))) := memL_appW gtC (runG_ok RbM110_ok) RbM110_ok (of_forced RbM111_run)
theorem RbM11_root0 : forced (allW (runG (RbM111 ++ (RbM110 ++ []))) [(9, [], .bool true)]) = true := by kernel_rfl
theorem RbM11_rootok0 : MemoOK (ACall C) (memL [(9, [], .bool true)]) := memL_appW gtC (runG_ok RbM111_ok) memL_nil (N := [(9, [], .bool true)]) (of_forced RbM11_root0)
end
end Go.Proofs.YtbdhmikigkgoiaaDoor.rb

/- The functions' keys. By spec.py. -/
namespace Rb.K
abbrev rabbetlaw11_CheckPlaces : Nat := 3
abbrev rabbetlaw11_CheckOrders : Nat := 4
abbrev rabbetlaw11_CheckParts : Nat := 5
abbrev rabbetlaw11_CheckNames : Nat := 6
abbrev check_Place : Nat := 7
abbrev rabbetref11_Place : Nat := 8
abbrev rabbetlaw11_awake : Nat := 9
abbrev rabbetref06_Same : Nat := 10
abbrev check_Order : Nat := 11
abbrev rabbetref11_Order : Nat := 12
abbrev check_Prog : Nat := 13
abbrev rabbetlaw11_places : Nat := 14
abbrev slices_IndexFunc___api_Var_api_Var_ : Nat := 15
abbrev check_Place_c1 : Nat := 16
abbrev kind_Sound : Nat := 17
abbrev check_part : Nat := 18
abbrev rabbetref06_Sound : Nat := 19
abbrev check_vars : Nat := 20
abbrev check_checker_block : Nat := 21
abbrev check_checker_bad : Nat := 22
abbrev kind_Depth : Nat := 23
abbrev kind_sound : Nat := 24
abbrev slices_IndexFunc___api_Field_api_Field_ : Nat := 25
abbrev check_part_c1 : Nat := 26
abbrev rabbetref06_Depth : Nat := 27
abbrev rabbetref06_inner : Nat := 28
abbrev kind_Name : Nat := 29
abbrev lex_Keyword : Nat := 30
abbrev slices_ContainsFunc___api_Var_api_Var_ : Nat := 31
abbrev check_vars_c1 : Nat := 32
abbrev layout_Of : Nat := 33
abbrev check_checker_stmt : Nat := 34
abbrev kind_depth : Nat := 35
abbrev kind_only : Nat := 36
abbrev kind_power : Nat := 37
abbrev kind_group : Nat := 38
abbrev rabbetref06_size : Nat := 39
abbrev rabbetref06_Name : Nat := 40
abbrev kind_letter : Nat := 41
abbrev slices_Contains___string_string_ : Nat := 42
abbrev strings_Fields : Nat := 43
abbrev layout_check : Nat := 44
abbrev check_checker_need : Nat := 45
abbrev check_form : Nat := 46
abbrev check_checker_there : Nat := 47
abbrev check_checker_place : Nat := 48
abbrev check_checker_exprs : Nat := 49
abbrev kind_field : Nat := 50
abbrev slices_Index___string_string_ : Nat := 51
abbrev layout_torn : Nat := 54
abbrev layout_of : Nat := 55
abbrev check_of : Nat := 56
abbrev check_empty : Nat := 57
abbrev check_fits : Nat := 58
abbrev check_checker_expr : Nat := 59
abbrev slices_ContainsFunc___api_Field_api_Field_ : Nat := 60
abbrev kind_field_c1 : Nat := 61
abbrev layout_loose : Nat := 63
abbrev slices_ContainsFunc___api_Type_api_Type_ : Nat := 64
abbrev layout_torn_c1 : Nat := 65
abbrev layout_place : Nat := 66
abbrev check_formed : Nat := 67
abbrev layout_loose_c1 : Nat := 70
abbrev slices_IndexFunc___api_Type_api_Type_ : Nat := 71
abbrev layout_wide : Nat := 72
abbrev layout_placed_bits : Nat := 73
abbrev layout_up : Nat := 74
end Rb.K

/- Functions in the small language, and what they mean. By spec.py. -/
set_option linter.unusedVariables false
namespace Rb.S
open Go

/-! rabbet/rabbetlaw11.CheckPlaces -/
def rabbetlaw11_CheckPlaces_k1 (Φ : Calls') (x8 : AV) (x16 : AV) (Q : Post) : List AV → AH → Prop := fun j19 H20 =>
 Gd3 (sl j19 0) true (
 Do (aload H20 6 true x8) fun x24 =>
 Do (aload H20 6 true x16) fun x25 =>
Φ K.rabbetref06_Same [x24, x25] H20 fun x26 H27 =>
 Q x26 H27) (
 Q (.bool false) H20) (
 False)
def rabbetlaw11_CheckPlaces (Φ : Calls') (a0 : AV) (a1 : AV) (H : AH) (Q : Post) : Prop :=
 DoH (aboxv H false 2 a1) fun x1 H2 =>
 Do (aload H2 2 true x1) fun x3 =>
Φ K.check_Place [a0, x3] H2 fun x4 H5 =>
 Do (aextract 0 x4) fun x6 =>
 Do (aextract 1 x4) fun x7 =>
 DoH (some (abox H5 true [.int .i64 0, .int .i64 0, .bool false, .lst .nil 0 [], .int .i64 0, .lst .nil 0 []])) fun x8 H9 =>
 Do (astore H9 6 x8 x6) fun H10 =>
 Do (aload H10 2 true x1) fun x11 =>
Φ K.rabbetref11_Place [a0, x11] H10 fun x12 H13 =>
 Do (aextract 0 x12) fun x14 =>
 Do (aextract 1 x12) fun x15 =>
 DoH (some (abox H13 true [.int .i64 0, .int .i64 0, .bool false, .lst .nil 0 [], .int .i64 0, .lst .nil 0 []])) fun x16 H17 =>
 Do (astore H17 6 x16 x14) fun H18 =>
Φ K.rabbetlaw11_awake [] H18 fun x21 H22 =>
 Gd3 x21 true (
 Do (abin .eql x7 x15) fun x23 =>
 JoinP (rabbetlaw11_CheckPlaces_k1 Φ x8 x16 Q) [x23] H22) (
 JoinP (rabbetlaw11_CheckPlaces_k1 Φ x8 x16 Q) [(.bool false)] H22) (
 False)
def ir_rabbetlaw11_CheckPlaces : AFunc := ⟨32, [.tmp 4],
 .seq (.region [
   ⟨some 3, .box false 2 (.t 1), none⟩,
   ⟨some 4, .mv (.k (.bool false)), none⟩])
 (.seq (.region [
   ⟨some 10, .mv (.t 0), none⟩,
   ⟨some 11, .load 2 true (.t 3), none⟩,
   ⟨some 12, .call K.check_Place [(.t 10), (.t 11)], none⟩,
   ⟨some 9, .mv (.t 12), none⟩,
   ⟨some 13, .extract 0 (.t 9), none⟩,
   ⟨some 14, .extract 1 (.t 9), none⟩,
   ⟨some 5, .alloc true [.int .i64 0, .int .i64 0, .bool false, .lst .nil 0 [], .int .i64 0, .lst .nil 0 []], none⟩,
   ⟨none, .store 6 (.t 5) (.t 13), none⟩,
   ⟨some 6, .mv (.t 14), none⟩])
 (.seq (.region [
   ⟨some 16, .mv (.t 0), none⟩,
   ⟨some 17, .load 2 true (.t 3), none⟩,
   ⟨some 18, .call K.rabbetref11_Place [(.t 16), (.t 17)], none⟩,
   ⟨some 15, .mv (.t 18), none⟩,
   ⟨some 19, .extract 0 (.t 15), none⟩,
   ⟨some 20, .extract 1 (.t 15), none⟩,
   ⟨some 7, .alloc true [.int .i64 0, .int .i64 0, .bool false, .lst .nil 0 [], .int .i64 0, .lst .nil 0 []], none⟩,
   ⟨none, .store 6 (.t 7) (.t 19), none⟩,
   ⟨some 8, .mv (.t 20), none⟩])
 (.seq (.rjoin [26] [21, 22, 23, 24, 25] [
   ⟨some 21, .call K.rabbetlaw11_awake [], none⟩,
   ⟨some 22, .mv (.t 21), none⟩,
   ⟨some 23, .mv (.t 6), some (22, true)⟩,
   ⟨some 24, .mv (.t 8), some (22, true)⟩,
   ⟨some 25, .bin .eql (.t 23) (.t 24), some (22, true)⟩,
   ⟨some 26, .pick (.t 22) (.t 25) (.k (.bool false)), none⟩]
 (.region [
   ⟨some 27, .mv (.t 26), none⟩,
   ⟨some 28, .load 6 true (.t 5), some (27, true)⟩,
   ⟨some 29, .load 6 true (.t 7), some (27, true)⟩,
   ⟨some 30, .call K.rabbetref06_Same [(.t 28), (.t 29)], some (27, true)⟩,
   ⟨some 31, .pick (.t 27) (.t 30) (.k (.bool false)), none⟩,
   ⟨some 4, .mv (.t 31), none⟩]))
 (.ret))))⟩
theorem eq_rabbetlaw11_CheckPlaces (Φ : Calls') (a0 a1 : AV) (H : AH) (Q : Post) : fnE1 Φ ir_rabbetlaw11_CheckPlaces [a0, a1] H Q = rabbetlaw11_CheckPlaces Φ a0 a1 H Q := by kernel_rfl

/-! rabbet/rabbetlaw11.CheckOrders -/
def rabbetlaw11_CheckOrders (Φ : Calls') (a0 : AV) (a1 : AV) (H : AH) (Q : Post) : Prop :=
Φ K.rabbetlaw11_awake [] H fun x1 H2 =>
 Gd3 x1 true (
Φ K.check_Order [a0, a1] H2 fun x3 H4 =>
Φ K.rabbetref11_Order [a0, a1] H4 fun x5 H6 =>
 Do (abeq false x3 x5) fun x7 =>
 Q x7 H6) (
 Q (.bool false) H2) (
 False)
def ir_rabbetlaw11_CheckOrders : AFunc := ⟨15, [.tmp 4],
 .seq (.region [
   ⟨some 4, .mv (.k (.bool false)), none⟩])
 (.seq (.region [
   ⟨some 5, .call K.rabbetlaw11_awake [], none⟩,
   ⟨some 6, .mv (.t 5), none⟩,
   ⟨some 7, .mv (.t 0), some (6, true)⟩,
   ⟨some 8, .mv (.t 1), some (6, true)⟩,
   ⟨some 9, .call K.check_Order [(.t 7), (.t 8)], some (6, true)⟩,
   ⟨some 10, .mv (.t 0), some (6, true)⟩,
   ⟨some 11, .mv (.t 1), some (6, true)⟩,
   ⟨some 12, .call K.rabbetref11_Order [(.t 10), (.t 11)], some (6, true)⟩,
   ⟨some 13, .beq false (.t 9) (.t 12), some (6, true)⟩,
   ⟨some 14, .pick (.t 6) (.t 13) (.k (.bool false)), none⟩,
   ⟨some 4, .mv (.t 14), none⟩])
 (.ret))⟩
theorem eq_rabbetlaw11_CheckOrders (Φ : Calls') (a0 a1 : AV) (H : AH) (Q : Post) : fnE1 Φ ir_rabbetlaw11_CheckOrders [a0, a1] H Q = rabbetlaw11_CheckOrders Φ a0 a1 H Q := by kernel_rfl

/-! rabbet/rabbetlaw11.CheckParts -/
def rabbetlaw11_CheckParts_k1 (Φ : Calls') (s28 : List AV × AH) (L29 : (List AV × AH) → Prop) (Q : Post) : List AV → AH → Prop := fun j34 H35 =>
 Do (abin .add (sl s28.1 1) (.int .i64 1)) fun x51 =>
 L29 ([(sl j34 0), x51], H35)
def rabbetlaw11_CheckParts_k2 (Φ : Calls') (a1 : AV) (x1 : AV) (Q : Post) : List AV → AH → Prop := fun j52 H53 =>
 Do (afaddr 1 x1) fun x72 =>
 Do (aload H53 1 false x72) fun x73 =>
 Do (aiaddr none 1 x73 (.int .i64 0)) fun x74 =>
 Do (aload H53 1 false x74) fun x75 =>
 Do (afaddr 0 x1) fun x76 =>
 Do (aload H53 1 false x76) fun x77 =>
 Do (aconv .i64 a1) fun x78 =>
 Do (alen false x75) fun x79 =>
 Do (abin .add x79 (.int .i64 1)) fun x80 =>
 Do (abin .rem x78 x80) fun x81 =>
 Do (aslice 10 x75 none (some x81) none) fun x82 =>
 DoH (abslice H53 false 1 1 [.lst .nil 0 []] [(0, 1, x82)]) fun x83 H84 =>
 Do (abuild [.lst .nil 0 [], .lst .nil 0 []] [(0, 1, x77), (1, 1, x83)]) fun x85 =>
 DoH (some (abox H84 true [.lst .nil 0 [], .lst .nil 0 []])) fun x86 H87 =>
(aload H87 1 false x76 = some x77) ∧
(Do (astore H87 2 x86 x85) fun H88 =>
 Do (aload H88 2 true x86) fun x89 =>
Φ K.check_Prog [x89] H88 fun x90 H91 =>
 Do (afield 1 1 false x90) fun x92 =>
 Do (abin .eql x92 (.int .i64 0)) fun x93 =>
 Q x93 H91)
def rabbetlaw11_CheckParts_k3 (Φ : Calls') (a1 : AV) (x1 : AV) (x6 : AV) (j26 : List AV) (Q : Post) : List AV → AH → Prop := fun j54 H55 =>
 Gd (sl j54 0) true (
Φ K.rabbetlaw11_awake [] H55 fun x66 H67 =>
 Gd3 x66 true (
 Do (afaddr 1 x6) fun x68 =>
 Do (aload H67 1 false x68) fun x69 =>
 Do (abin .eql x69 (.int .i64 0)) fun x70 =>
 Do (abeq false (sl j26 0) x70) fun x71 =>
 Q x71 H67) (
 Q (.bool false) H67) (
 False)) (
 JoinP (rabbetlaw11_CheckParts_k2 Φ a1 x1 Q) [] H55)
def rabbetlaw11_CheckParts_k4 (Φ : Calls') (a1 : AV) (x1 : AV) (x6 : AV) (j26 : List AV) (Q : Post) : List AV → AH → Prop := fun j56 H57 =>
 Gd3 (sl j56 0) false (
 Do (aun .not (sl j26 0)) fun x65 =>
 JoinP (rabbetlaw11_CheckParts_k3 Φ a1 x1 x6 j26 Q) [x65] H57) (
 JoinP (rabbetlaw11_CheckParts_k3 Φ a1 x1 x6 j26 Q) [(.bool true)] H57) (
 False)
def rabbetlaw11_CheckParts_k5 (Φ : Calls') (a1 : AV) (x1 : AV) (x6 : AV) (Q : Post) : List AV → AH → Prop := fun j26 H27 =>
Φ K.rabbetlaw11_awake [] H27 fun x58 H59 =>
 Do (aun .not x58) fun x60 =>
 Gd3 x60 false (
 Do (afaddr 1 x6) fun x61 =>
 Do (aload H59 1 false x61) fun x62 =>
 Do (abin .eql x62 (.int .i64 0)) fun x63 =>
 Do (abeq true (sl j26 0) x63) fun x64 =>
 JoinP (rabbetlaw11_CheckParts_k4 Φ a1 x1 x6 j26 Q) [x64] H59) (
 JoinP (rabbetlaw11_CheckParts_k4 Φ a1 x1 x6 j26 Q) [(.bool true)] H59) (
 False)
def rabbetlaw11_CheckParts_l6 (Φ : Calls') (a1 : AV) (x1 : AV) (x6 : AV) (Q : Post) : (List AV × AH) → ((List AV × AH) → Prop) → Prop := fun s28 L29 =>
 Do (afaddr 1 x1) fun x30 =>
 Do (aload s28.2 1 false x30) fun x31 =>
 Do (alen false x31) fun x32 =>
 Do (abin .lss (sl s28.1 1) x32) fun x33 =>
 Gd x33 true (
 Do (afaddr 0 x1) fun x36 =>
 Do (aload s28.2 1 false x36) fun x37 =>
 Do (afaddr 1 x1) fun x38 =>
 Do (aload s28.2 1 false x38) fun x39 =>
 Do (abin .add (sl s28.1 1) (.int .i64 1)) fun x40 =>
 Do (aslice 1 x39 (some (sl s28.1 1)) (some x40) none) fun x41 =>
 Do (abuild [.lst .nil 0 [], .lst .nil 0 []] [(0, 1, x37), (1, 1, x41)]) fun x42 =>
 DoH (some (abox s28.2 true [.lst .nil 0 [], .lst .nil 0 []])) fun x43 H44 =>
(aload H44 1 false x36 = some x37) ∧
(aload H44 1 false x38 = some x39) ∧
(Do (astore H44 2 x43 x42) fun H45 =>
 Gd3 (sl s28.1 0) true (
 Do (aload H45 2 true x43) fun x46 =>
Φ K.check_Prog [x46] H45 fun x47 H48 =>
 Do (afield 1 1 false x47) fun x49 =>
 Do (abin .eql x49 (.int .i64 0)) fun x50 =>
 JoinP (rabbetlaw11_CheckParts_k1 Φ s28 L29 Q) [x50] H48) (
 JoinP (rabbetlaw11_CheckParts_k1 Φ s28 L29 Q) [(.bool false)] H45) (
 False))) (
 JoinP (rabbetlaw11_CheckParts_k5 Φ a1 x1 x6 Q) [(sl s28.1 0)] s28.2)
def rabbetlaw11_CheckParts_k7 (Φ : Calls') (a1 : AV) (x1 : AV) (x6 : AV) (Q : Post) : List AV → AH → Prop := fun j9 H10 =>
 LoopP (rabbetlaw11_CheckParts_l6 Φ a1 x1 x6 Q) ([(.bool true), (.int .i64 0)], H10)
def rabbetlaw11_CheckParts_k8 (Φ : Calls') (a1 : AV) (x1 : AV) (x6 : AV) (Q : Post) : List AV → AH → Prop := fun j11 H12 =>
 Gd (sl j11 0) true (
Φ K.rabbetlaw11_awake [] H12 fun x21 H22 =>
 Gd3 x21 true (
 Do (afaddr 1 x6) fun x23 =>
 Do (aload H22 1 false x23) fun x24 =>
 Do (abin .eql x24 (.int .i64 12)) fun x25 =>
 Q x25 H22) (
 Q (.bool false) H22) (
 False)) (
 JoinP (rabbetlaw11_CheckParts_k7 Φ a1 x1 x6 Q) [] H12)
def rabbetlaw11_CheckParts (Φ : Calls') (a0 : AV) (a1 : AV) (H : AH) (Q : Post) : Prop :=
 DoH (aboxv H false 2 a0) fun x1 H2 =>
 Do (aload H2 2 true x1) fun x3 =>
Φ K.check_Prog [x3] H2 fun x4 H5 =>
 DoH (some (abox H5 true [.int .i64 0, .int .i64 0])) fun x6 H7 =>
 Do (astore H7 2 x6 x4) fun H8 =>
 Do (afaddr 1 x1) fun x13 =>
 Do (aload H8 1 false x13) fun x14 =>
 Do (alen false x14) fun x15 =>
 Do (abin .eql x15 (.int .i64 0)) fun x16 =>
 Gd3 x16 false (
 Do (afaddr 1 x1) fun x17 =>
 Do (aload H8 1 false x17) fun x18 =>
 Do (alen false x18) fun x19 =>
 Do (abin .gtr x19 (.int .i64 8)) fun x20 =>
 JoinP (rabbetlaw11_CheckParts_k8 Φ a1 x1 x6 Q) [x20] H8) (
 JoinP (rabbetlaw11_CheckParts_k8 Φ a1 x1 x6 Q) [(.bool true)] H8) (
 False)
def ir_rabbetlaw11_CheckParts : AFunc := ⟨93, [.tmp 4],
 .seq (.region [
   ⟨some 2, .box false 2 (.t 0), none⟩,
   ⟨some 4, .mv (.k (.bool false)), none⟩])
 (.seq (.region [
   ⟨some 11, .load 2 true (.t 2), none⟩,
   ⟨some 12, .call K.check_Prog [(.t 11)], none⟩,
   ⟨some 5, .alloc true [.int .i64 0, .int .i64 0], none⟩,
   ⟨none, .store 2 (.t 5) (.t 12), none⟩])
 (.join [] [4, 13, 14, 15, 16, 17, 18, 19, 20, 21, 22, 23, 24, 25, 26, 27, 28] (.join [22] [13, 14, 15, 16, 17, 18, 19, 20, 21] (.region [
   ⟨some 13, .faddr 1 (.t 2), none⟩,
   ⟨some 14, .load 1 false (.t 13), none⟩,
   ⟨some 15, .len false (.t 14), none⟩,
   ⟨some 16, .bin .eql (.t 15) (.k (.int .i64 0)), none⟩,
   ⟨some 17, .mv (.t 16), none⟩,
   ⟨some 18, .faddr 1 (.t 2), some (17, false)⟩,
   ⟨some 19, .load 1 false (.t 18), some (17, false)⟩,
   ⟨some 20, .len false (.t 19), some (17, false)⟩,
   ⟨some 21, .bin .gtr (.t 20) (.k (.int .i64 8)), some (17, false)⟩,
   ⟨some 22, .pick (.t 17) (.k (.bool true)) (.t 21), none⟩])
 (.cond (.t 22) (.seq (.region [
     ⟨some 23, .call K.rabbetlaw11_awake [], none⟩,
     ⟨some 24, .mv (.t 23), none⟩,
     ⟨some 25, .faddr 1 (.t 5), some (24, true)⟩,
     ⟨some 26, .load 1 false (.t 25), some (24, true)⟩,
     ⟨some 27, .bin .eql (.t 26) (.k (.int .i64 12)), some (24, true)⟩,
     ⟨some 28, .pick (.t 24) (.t 27) (.k (.bool false)), none⟩,
     ⟨some 4, .mv (.t 28), none⟩])
   (.ret))
   (.skip)))
 (.seq (.region [
   ⟨some 6, .mv (.k (.bool true)), none⟩])
 (.join [6] [7, 8, 29, 30, 31, 32, 33, 34, 35, 36, 37, 38, 39, 40, 41, 42, 43, 44, 45, 46, 47, 48, 49, 50, 51] (.seq (.region [
   ⟨some 7, .mv (.k (.int .i64 0)), none⟩])
 (.block 0 (.loop [6, 7] [8, 29, 30, 31, 32, 33, 34, 35, 36, 37, 38, 39, 40, 41, 42, 43, 44, 45, 46, 47, 48, 49, 50, 51] (.seq (.seq (.region [
   ⟨some 29, .mv (.t 7), none⟩,
   ⟨some 30, .faddr 1 (.t 2), none⟩,
   ⟨some 31, .load 1 false (.t 30), none⟩,
   ⟨some 32, .len false (.t 31), none⟩,
   ⟨some 33, .bin .lss (.t 29) (.t 32), none⟩])
 (.cond (.t 33) (.skip)
   (.exit 0)))
 (.join [6] [8, 36, 37, 38, 39, 40, 41, 42, 43, 44, 45, 46, 47, 48, 49, 50, 51] (.block 1 (.seq (.draw [
   ⟨some 36, .faddr 0 (.t 2), none⟩,
   ⟨some 37, .load 1 false (.t 36), none⟩,
   ⟨some 38, .faddr 1 (.t 2), none⟩,
   ⟨some 39, .load 1 false (.t 38), none⟩,
   ⟨some 40, .mv (.t 7), none⟩,
   ⟨some 41, .mv (.t 7), none⟩,
   ⟨some 42, .bin .add (.t 41) (.k (.int .i64 1)), none⟩,
   ⟨some 43, .slice 1 (.t 39) (some (.t 40)) (some (.t 42)) none, none⟩,
   ⟨some 44, .build [.lst .nil 0 [], .lst .nil 0 []] [(0, 1, (.t 37)), (1, 1, (.t 43))], none⟩,
   ⟨some 8, .alloc true [.lst .nil 0 [], .lst .nil 0 []], none⟩,
   ⟨none, .store 2 (.t 8) (.t 44), none⟩]
 [[], [0], [], [2], [], [], [5], [2, 3, 4, 5, 6], [0, 1, 2, 3, 4, 5, 6, 7], [], [0, 1, 2, 3, 4, 5, 6, 7, 8, 9]] [([0, 1, 2, 3, 4, 5, 6, 7, 8], 9, [1, 3]), ([], 10, [])] [])
 (.region [
   ⟨some 45, .mv (.t 6), none⟩,
   ⟨some 46, .mv (.t 45), none⟩,
   ⟨some 47, .load 2 true (.t 8), some (46, true)⟩,
   ⟨some 48, .call K.check_Prog [(.t 47)], some (46, true)⟩,
   ⟨some 49, .field 1 1 false (.t 48), some (46, true)⟩,
   ⟨some 50, .bin .eql (.t 49) (.k (.int .i64 0)), some (46, true)⟩,
   ⟨some 51, .pick (.t 46) (.t 50) (.k (.bool false)), none⟩,
   ⟨some 6, .mv (.t 51), none⟩])))
 (.region [
   ⟨some 34, .mv (.t 7), none⟩,
   ⟨some 35, .bin .add (.t 34) (.k (.int .i64 1)), none⟩,
   ⟨some 7, .mv (.t 35), none⟩]))))))
 (.join [] [4, 52, 53, 54, 55, 56, 57, 58, 59, 60, 61, 62, 63, 64, 65, 66, 67, 68, 69, 70, 71, 72] (.join [64] [52, 53, 54, 55, 56, 57, 58, 59, 60, 61, 62, 63] (.rjoin [60] [52, 53, 54, 55, 56, 57, 58, 59] [
   ⟨some 52, .call K.rabbetlaw11_awake [], none⟩,
   ⟨some 53, .un .not (.t 52), none⟩,
   ⟨some 54, .mv (.t 53), none⟩,
   ⟨some 55, .mv (.t 6), some (54, false)⟩,
   ⟨some 56, .faddr 1 (.t 5), some (54, false)⟩,
   ⟨some 57, .load 1 false (.t 56), some (54, false)⟩,
   ⟨some 58, .bin .eql (.t 57) (.k (.int .i64 0)), some (54, false)⟩,
   ⟨some 59, .beq true (.t 55) (.t 58), some (54, false)⟩,
   ⟨some 60, .pick (.t 54) (.k (.bool true)) (.t 59), none⟩]
 (.region [
   ⟨some 61, .mv (.t 60), none⟩,
   ⟨some 62, .mv (.t 6), some (61, false)⟩,
   ⟨some 63, .un .not (.t 62), some (61, false)⟩,
   ⟨some 64, .pick (.t 61) (.k (.bool true)) (.t 63), none⟩]))
 (.cond (.t 64) (.seq (.region [
     ⟨some 65, .call K.rabbetlaw11_awake [], none⟩,
     ⟨some 66, .mv (.t 65), none⟩,
     ⟨some 67, .mv (.t 6), some (66, true)⟩,
     ⟨some 68, .faddr 1 (.t 5), some (66, true)⟩,
     ⟨some 69, .load 1 false (.t 68), some (66, true)⟩,
     ⟨some 70, .bin .eql (.t 69) (.k (.int .i64 0)), some (66, true)⟩,
     ⟨some 71, .beq false (.t 67) (.t 70), some (66, true)⟩,
     ⟨some 72, .pick (.t 66) (.t 71) (.k (.bool false)), none⟩,
     ⟨some 4, .mv (.t 72), none⟩])
   (.ret))
   (.skip)))
 (.seq (.region [
   ⟨some 73, .faddr 1 (.t 2), none⟩,
   ⟨some 74, .load 1 false (.t 73), none⟩,
   ⟨some 75, .iaddr none 1 (.t 74) (.k (.int .i64 0)), none⟩,
   ⟨some 76, .load 1 false (.t 75), none⟩,
   ⟨some 9, .mv (.t 76), none⟩])
 (.seq (.draw [
   ⟨some 77, .faddr 0 (.t 2), none⟩,
   ⟨some 78, .load 1 false (.t 77), none⟩,
   ⟨some 79, .mv (.t 9), none⟩,
   ⟨some 80, .mv (.t 1), none⟩,
   ⟨some 81, .conv .i64 (.t 80), none⟩,
   ⟨some 82, .mv (.t 9), none⟩,
   ⟨some 83, .len false (.t 82), none⟩,
   ⟨some 84, .bin .add (.t 83) (.k (.int .i64 1)), none⟩,
   ⟨some 85, .bin .rem (.t 81) (.t 84), none⟩,
   ⟨some 86, .slice 10 (.t 79) none (some (.t 85)) none, none⟩,
   ⟨some 87, .bslice false 1 1 [.lst .nil 0 []] [(0, 1, (.t 86))], none⟩,
   ⟨some 88, .build [.lst .nil 0 [], .lst .nil 0 []] [(0, 1, (.t 78)), (1, 1, (.t 87))], none⟩,
   ⟨some 10, .alloc true [.lst .nil 0 [], .lst .nil 0 []], none⟩,
   ⟨none, .store 2 (.t 10) (.t 88), none⟩]
 [[], [0], [], [], [3], [], [5], [5, 6], [3, 4, 5, 6, 7], [2, 3, 4, 5, 6, 7, 8], [2, 3, 4, 5, 6, 7, 8, 9], [0, 1, 2, 3, 4, 5, 6, 7, 8, 9, 10], [], [0, 1, 2, 3, 4, 5, 6, 7, 8, 9, 10, 11, 12]] [([0, 1, 2, 3, 4, 5, 6, 7, 8, 9, 10, 11], 12, [1]), ([], 13, [])] [])
 (.seq (.region [
   ⟨some 89, .load 2 true (.t 10), none⟩,
   ⟨some 90, .call K.check_Prog [(.t 89)], none⟩,
   ⟨some 91, .field 1 1 false (.t 90), none⟩,
   ⟨some 92, .bin .eql (.t 91) (.k (.int .i64 0)), none⟩,
   ⟨some 4, .mv (.t 92), none⟩])
 (.ret)))))))))⟩
theorem eq_rabbetlaw11_CheckParts (Φ : Calls') (a0 a1 : AV) (H : AH) (Q : Post) : fnE1 Φ ir_rabbetlaw11_CheckParts [a0, a1] H Q = rabbetlaw11_CheckParts Φ a0 a1 H Q := by kernel_rfl

/-! rabbet/rabbetlaw11.CheckNames -/
def rabbetlaw11_CheckNames_k1 (Φ : Calls') (x1 : AV) (x6 : AV) (x47 : AV) (Q : Post) : List AV → AH → Prop := fun j50 H51 =>
Φ K.rabbetlaw11_awake [] H51 fun x71 H72 =>
 Gd3 x71 true (
 Do (aload H72 2 true x6) fun x73 =>
 Do (aload H72 2 true x47) fun x74 =>
 Do (aeqAgg false [.n, .n] x73 x74) fun x75 =>
 Gd3 x75 false (
 Do (afaddr 1 x6) fun x76 =>
 Do (aload H72 1 false x76) fun x77 =>
 Do (abin .eql x77 (.int .i64 6)) fun x78 =>
 Gd3 x78 true (
 Do (afaddr 1 x1) fun x79 =>
 Do (aload H72 1 false x79) fun x80 =>
Φ K.rabbetlaw11_places [x80, (.int .i64 200)] H72 fun x81 H82 =>
 Do (abin .neq x81 (.int .i64 0)) fun x83 =>
 Q x83 H82) (
 Q (.bool false) H72) (
 False)) (
 Q (.bool true) H72) (
 False)) (
 Q (.bool false) H72) (
 False)
def rabbetlaw11_CheckNames_k2 (Φ : Calls') (x1 : AV) (x6 : AV) (x47 : AV) (Q : Post) : List AV → AH → Prop := fun j52 H53 =>
 Gd (sl j52 0) true (
Φ K.rabbetlaw11_awake [] H53 fun x69 H70 =>
 Q x69 H70) (
 JoinP (rabbetlaw11_CheckNames_k1 Φ x1 x6 x47 Q) [] H53)
def rabbetlaw11_CheckNames_k3 (Φ : Calls') (x1 : AV) (x6 : AV) (x47 : AV) (Q : Post) : List AV → AH → Prop := fun j54 H55 =>
 Gd3 (sl j54 0) false (
 Do (afaddr 1 x47) fun x63 =>
 Do (aload H55 1 false x63) fun x64 =>
 Do (abin .eql x64 (.int .i64 9)) fun x65 =>
 Gd3 x65 true (
 Do (afaddr 0 x47) fun x66 =>
 Do (aload H55 1 false x66) fun x67 =>
 Do (abin .eql x67 (.int .i64 0)) fun x68 =>
 JoinP (rabbetlaw11_CheckNames_k2 Φ x1 x6 x47 Q) [x68] H55) (
 JoinP (rabbetlaw11_CheckNames_k2 Φ x1 x6 x47 Q) [(.bool false)] H55) (
 False)) (
 JoinP (rabbetlaw11_CheckNames_k2 Φ x1 x6 x47 Q) [(.bool true)] H55) (
 False)
def rabbetlaw11_CheckNames_k4 (Φ : Calls') (x1 : AV) (x6 : AV) (x24 : AV) (Q : Post) : List AV → AH → Prop := fun j27 H28 =>
 Do (aload H28 2 true x24) fun x44 =>
Φ K.check_Prog [x44] H28 fun x45 H46 =>
 DoH (some (abox H46 true [.int .i64 0, .int .i64 0])) fun x47 H48 =>
 Do (astore H48 2 x47 x45) fun H49 =>
 Do (afaddr 1 x47) fun x56 =>
 Do (aload H49 1 false x56) fun x57 =>
 Do (abin .eql x57 (.int .i64 12)) fun x58 =>
 Gd3 x58 true (
 Do (afaddr 0 x24) fun x59 =>
 Do (aload H49 1 false x59) fun x60 =>
 Do (alen false x60) fun x61 =>
 Do (abin .gtr x61 (.int .i64 32)) fun x62 =>
 JoinP (rabbetlaw11_CheckNames_k3 Φ x1 x6 x47 Q) [x62] H49) (
 JoinP (rabbetlaw11_CheckNames_k3 Φ x1 x6 x47 Q) [(.bool false)] H49) (
 False)
def rabbetlaw11_CheckNames_l5 (Φ : Calls') (x1 : AV) (x6 : AV) (x24 : AV) (Q : Post) : (List AV × AH) → ((List AV × AH) → Prop) → Prop := fun s29 L30 =>
 Do (afaddr 0 x1) fun x31 =>
 Do (aload s29.2 1 false x31) fun x32 =>
 Do (alen false x32) fun x33 =>
 Do (abin .lss (sl s29.1 0) x33) fun x34 =>
 Gd x34 true (
 Do (afaddr 0 x1) fun x35 =>
 Do (aload s29.2 1 false x35) fun x36 =>
 Do (aiaddr none 7 x36 (sl s29.1 0)) fun x37 =>
 Do (afaddr 0 x37) fun x38 =>
 Do (aload s29.2 1 false x38) fun x39 =>
 Do (abin .eql x39 (.str [122, 122, 122, 122, 122])) fun x40 =>
 Gd x40 true (
Φ K.rabbetlaw11_awake [] s29.2 fun x41 H42 =>
 Q x41 H42) (
 Do (abin .add (sl s29.1 0) (.int .i64 1)) fun x43 =>
 L30 ([x43], s29.2))) (
 JoinP (rabbetlaw11_CheckNames_k4 Φ x1 x6 x24 Q) [] s29.2)
def rabbetlaw11_CheckNames (Φ : Calls') (a0 : AV) (H : AH) (Q : Post) : Prop :=
 DoH (aboxv H false 2 a0) fun x1 H2 =>
 Do (aload H2 2 true x1) fun x3 =>
Φ K.check_Prog [x3] H2 fun x4 H5 =>
 DoH (some (abox H5 true [.int .i64 0, .int .i64 0])) fun x6 H7 =>
 Do (astore H7 2 x6 x4) fun H8 =>
 DoH (abslice H8 false 7 0 [.str [], .int .i64 0, .int .i64 0, .bool false, .lst .nil 0 [], .int .i64 0, .lst .nil 0 []] []) fun x9 H10 =>
 Do (afaddr 0 x1) fun x11 =>
 Do (aload H10 1 false x11) fun x12 =>
 Do (abuild [.int .i64 0, .int .i64 0, .bool false, .lst .nil 0 [], .int .i64 0, .lst .nil 0 []] [(0, 1, (.int .i64 1)), (1, 1, (.int .i64 1))]) fun x13 =>
 Do (abuild [.str [], .int .i64 0, .int .i64 0, .bool false, .lst .nil 0 [], .int .i64 0, .lst .nil 0 []] [(0, 1, (.str [122, 122, 122, 122, 122])), (1, 6, x13)]) fun x14 =>
 DoH (abslice H10 false 7 1 [.str [], .int .i64 0, .int .i64 0, .bool false, .lst .nil 0 [], .int .i64 0, .lst .nil 0 []] [(0, 7, x14)]) fun x15 H16 =>
 Do (afaddr 1 x1) fun x17 =>
 Do (aload H16 1 false x17) fun x18 =>
 DoH (aappend H16 false 7 96 x9 x12) fun x19 H20 =>
(aload H20 1 false x17 = some x18) ∧
(DoH (aappend H20 false 7 96 x19 x15) fun x21 H22 =>
(aload H22 1 false x17 = some x18) ∧
(Do (abuild [.lst .nil 0 [], .lst .nil 0 []] [(0, 1, x21), (1, 1, x18)]) fun x23 =>
 DoH (some (abox H22 true [.lst .nil 0 [], .lst .nil 0 []])) fun x24 H25 =>
(aload H25 1 false x11 = some x12) ∧
(aload H25 1 false x17 = some x18) ∧
(Do (astore H25 2 x24 x23) fun H26 =>
 LoopP (rabbetlaw11_CheckNames_l5 Φ x1 x6 x24 Q) ([(.int .i64 0)], H26))))
def ir_rabbetlaw11_CheckNames : AFunc := ⟨74, [.tmp 2],
 .seq (.region [
   ⟨some 1, .box false 2 (.t 0), none⟩,
   ⟨some 2, .mv (.k (.bool false)), none⟩])
 (.seq (.region [
   ⟨some 7, .load 2 true (.t 1), none⟩,
   ⟨some 8, .call K.check_Prog [(.t 7)], none⟩,
   ⟨some 3, .alloc true [.int .i64 0, .int .i64 0], none⟩,
   ⟨none, .store 2 (.t 3) (.t 8), none⟩])
 (.seq (.draw [
   ⟨some 9, .bslice false 7 0 [.str [], .int .i64 0, .int .i64 0, .bool false, .lst .nil 0 [], .int .i64 0, .lst .nil 0 []] [], none⟩,
   ⟨some 10, .faddr 0 (.t 1), none⟩,
   ⟨some 11, .load 1 false (.t 10), none⟩,
   ⟨some 12, .append false 7 96 (.t 9) (.t 11), none⟩,
   ⟨some 13, .build [.int .i64 0, .int .i64 0, .bool false, .lst .nil 0 [], .int .i64 0, .lst .nil 0 []] [(0, 1, (.k (.int .i64 1))), (1, 1, (.k (.int .i64 1)))], none⟩,
   ⟨some 14, .build [.str [], .int .i64 0, .int .i64 0, .bool false, .lst .nil 0 [], .int .i64 0, .lst .nil 0 []] [(0, 1, (.k (.str [122, 122, 122, 122, 122]))), (1, 6, (.t 13))], none⟩,
   ⟨some 15, .bslice false 7 1 [.str [], .int .i64 0, .int .i64 0, .bool false, .lst .nil 0 [], .int .i64 0, .lst .nil 0 []] [(0, 7, (.t 14))], none⟩,
   ⟨some 16, .append false 7 96 (.t 12) (.t 15), none⟩,
   ⟨some 17, .faddr 1 (.t 1), none⟩,
   ⟨some 18, .load 1 false (.t 17), none⟩,
   ⟨some 19, .build [.lst .nil 0 [], .lst .nil 0 []] [(0, 1, (.t 16)), (1, 1, (.t 18))], none⟩,
   ⟨some 4, .alloc true [.lst .nil 0 [], .lst .nil 0 []], none⟩,
   ⟨none, .store 2 (.t 4) (.t 19), none⟩]
 [[], [], [1], [0, 1, 2], [], [4], [4, 5], [0, 1, 2, 3, 4, 5, 6], [], [8], [0, 1, 2, 3, 4, 5, 6, 7, 8, 9], [], [0, 1, 2, 3, 4, 5, 6, 7, 8, 9, 10, 11]] [([0, 1, 2, 4, 5, 6, 8, 9], 3, [9]), ([], 7, [9]), ([10], 11, [2, 9]), ([], 12, [])] [])
 (.join [] [2, 5, 20, 21, 22, 23, 24, 25, 26, 27, 28, 29, 30, 31, 32, 33, 34] (.seq (.region [
   ⟨some 5, .mv (.k (.int .i64 0)), none⟩])
 (.block 0 (.loop [5] [2, 20, 21, 22, 23, 24, 25, 26, 27, 28, 29, 30, 31, 32, 33, 34] (.seq (.seq (.region [
   ⟨some 20, .mv (.t 5), none⟩,
   ⟨some 21, .faddr 0 (.t 1), none⟩,
   ⟨some 22, .load 1 false (.t 21), none⟩,
   ⟨some 23, .len false (.t 22), none⟩,
   ⟨some 24, .bin .lss (.t 20) (.t 23), none⟩])
 (.cond (.t 24) (.skip)
   (.exit 0)))
 (.seq (.block 1 (.seq (.region [
   ⟨some 27, .faddr 0 (.t 1), none⟩,
   ⟨some 28, .load 1 false (.t 27), none⟩,
   ⟨some 29, .mv (.t 5), none⟩,
   ⟨some 30, .iaddr none 7 (.t 28) (.t 29), none⟩,
   ⟨some 31, .faddr 0 (.t 30), none⟩,
   ⟨some 32, .load 1 false (.t 31), none⟩,
   ⟨some 33, .bin .eql (.t 32) (.k (.str [122, 122, 122, 122, 122])), none⟩])
 (.cond (.t 33) (.seq (.region [
     ⟨some 34, .call K.rabbetlaw11_awake [], none⟩,
     ⟨some 2, .mv (.t 34), none⟩])
   (.ret))
   (.skip))))
 (.region [
   ⟨some 25, .mv (.t 5), none⟩,
   ⟨some 26, .bin .add (.t 25) (.k (.int .i64 1)), none⟩,
   ⟨some 5, .mv (.t 26), none⟩]))))))
 (.seq (.region [
   ⟨some 35, .load 2 true (.t 4), none⟩,
   ⟨some 36, .call K.check_Prog [(.t 35)], none⟩,
   ⟨some 6, .alloc true [.int .i64 0, .int .i64 0], none⟩,
   ⟨none, .store 2 (.t 6) (.t 36), none⟩])
 (.join [] [2, 37, 38, 39, 40, 41, 42, 43, 44, 45, 46, 47, 48, 49, 50, 51, 52, 53, 54, 55, 56] (.join [55] [37, 38, 39, 40, 41, 42, 43, 44, 45, 46, 47, 48, 49, 50, 51, 52, 53, 54] (.rjoin [45] [37, 38, 39, 40, 41, 42, 43, 44] [
   ⟨some 37, .faddr 1 (.t 6), none⟩,
   ⟨some 38, .load 1 false (.t 37), none⟩,
   ⟨some 39, .bin .eql (.t 38) (.k (.int .i64 12)), none⟩,
   ⟨some 40, .mv (.t 39), none⟩,
   ⟨some 41, .faddr 0 (.t 4), some (40, true)⟩,
   ⟨some 42, .load 1 false (.t 41), some (40, true)⟩,
   ⟨some 43, .len false (.t 42), some (40, true)⟩,
   ⟨some 44, .bin .gtr (.t 43) (.k (.int .i64 32)), some (40, true)⟩,
   ⟨some 45, .pick (.t 40) (.t 44) (.k (.bool false)), none⟩]
 (.region [
   ⟨some 46, .mv (.t 45), none⟩,
   ⟨some 47, .faddr 1 (.t 6), some (46, false)⟩,
   ⟨some 48, .load 1 false (.t 47), some (46, false)⟩,
   ⟨some 49, .bin .eql (.t 48) (.k (.int .i64 9)), some (46, false)⟩,
   ⟨some 50, .mv (.t 49), some (46, false)⟩,
   ⟨some 51, .faddr 0 (.t 6), some (50, true)⟩,
   ⟨some 52, .load 1 false (.t 51), some (50, true)⟩,
   ⟨some 53, .bin .eql (.t 52) (.k (.int .i64 0)), some (50, true)⟩,
   ⟨some 54, .pick (.t 50) (.t 53) (.k (.bool false)), some (46, false)⟩,
   ⟨some 55, .pick (.t 46) (.k (.bool true)) (.t 54), none⟩]))
 (.cond (.t 55) (.seq (.region [
     ⟨some 56, .call K.rabbetlaw11_awake [], none⟩,
     ⟨some 2, .mv (.t 56), none⟩])
   (.ret))
   (.skip)))
 (.seq (.region [
   ⟨some 57, .call K.rabbetlaw11_awake [], none⟩,
   ⟨some 58, .mv (.t 57), none⟩,
   ⟨some 59, .load 2 true (.t 3), some (58, true)⟩,
   ⟨some 60, .load 2 true (.t 6), some (58, true)⟩,
   ⟨some 61, .eqagg false [.n, .n] (.t 59) (.t 60), some (58, true)⟩,
   ⟨some 62, .mv (.t 61), some (58, true)⟩,
   ⟨some 63, .faddr 1 (.t 3), some (62, false)⟩,
   ⟨some 64, .load 1 false (.t 63), some (62, false)⟩,
   ⟨some 65, .bin .eql (.t 64) (.k (.int .i64 6)), some (62, false)⟩,
   ⟨some 66, .mv (.t 65), some (62, false)⟩,
   ⟨some 67, .faddr 1 (.t 1), some (66, true)⟩,
   ⟨some 68, .load 1 false (.t 67), some (66, true)⟩,
   ⟨some 69, .call K.rabbetlaw11_places [(.t 68), (.k (.int .i64 200))], some (66, true)⟩,
   ⟨some 70, .bin .neq (.t 69) (.k (.int .i64 0)), some (66, true)⟩,
   ⟨some 71, .pick (.t 66) (.t 70) (.k (.bool false)), some (62, false)⟩,
   ⟨some 72, .pick (.t 62) (.k (.bool true)) (.t 71), some (58, true)⟩,
   ⟨some 73, .pick (.t 58) (.t 72) (.k (.bool false)), none⟩,
   ⟨some 2, .mv (.t 73), none⟩])
 (.ret)))))))⟩
theorem eq_rabbetlaw11_CheckNames (Φ : Calls') (a0 : AV) (H : AH) (Q : Post) : fnE1 Φ ir_rabbetlaw11_CheckNames [a0] H Q = rabbetlaw11_CheckNames Φ a0 H Q := by kernel_rfl

/-! rabbet/check.Place -/
def check_Place_k1 (Φ : Calls') (x3 : AV) (x14 : AV) (Q : Post) : List AV → AH → Prop := fun j24 H25 =>
 Do (aload H25 6 true x14) fun x53 =>
 Do (astore H25 6 x3 x53) fun H54 =>
 Do (aload H54 6 true x3) fun x55 =>
 Q (.tup [x55, (.int .i64 0)]) H54
def check_Place_l2 (Φ : Calls') (x3 : AV) (x14 : AV) (x27 : AV) (x28 : AV) (Q : Post) : (List AV × AH) → ((List AV × AH) → Prop) → Prop := fun s29 L30 =>
 Do (abin .lss (sl s29.1 0) x28) fun x31 =>
 Gd x31 true (
 Do (aiaddr none 2 x27 (sl s29.1 0)) fun x32 =>
 Do (aload s29.2 2 true x32) fun x33 =>
 DoH (some (abox s29.2 true [.str [], .lst .nil 0 []])) fun x34 H35 =>
 Do (astore H35 2 x34 x33) fun H36 =>
 Do (aload H36 6 true x14) fun x37 =>
 Do (aload H36 2 true x34) fun x38 =>
Φ K.check_part [x37, x38] H36 fun x39 H40 =>
 Do (aextract 0 x39) fun x41 =>
 Do (aextract 1 x39) fun x42 =>
 DoH (some (abox H40 true [.int .i64 0, .int .i64 0, .bool false, .lst .nil 0 [], .int .i64 0, .lst .nil 0 []])) fun x43 H44 =>
 Do (astore H44 6 x43 x41) fun H45 =>
 Do (abin .neq x42 (.int .i64 0)) fun x46 =>
 Gd x46 true (
 Do (abuild [.int .i64 0, .int .i64 0, .bool false, .lst .nil 0 [], .int .i64 0, .lst .nil 0 []] []) fun x47 =>
 Do (astore H45 6 x3 x47) fun H48 =>
 Do (aload H48 6 true x3) fun x49 =>
 Q (.tup [x49, x42]) H48) (
 Do (aload H45 6 true x43) fun x50 =>
 Do (astore H45 6 x14 x50) fun H51 =>
 Do (abin .add (sl s29.1 0) (.int .i64 1)) fun x52 =>
 L30 ([x52], H51))) (
 JoinP (check_Place_k1 Φ x3 x14 Q) [] s29.2)
def check_Place (Φ : Calls') (a0 : AV) (a1 : AV) (H : AH) (Q : Post) : Prop :=
 DoH (aboxv H false 2 a1) fun x1 H2 =>
 DoH (some (abox H2 true [.int .i64 0, .int .i64 0, .bool false, .lst .nil 0 [], .int .i64 0, .lst .nil 0 []])) fun x3 H4 =>
Φ K.slices_IndexFunc___api_Var_api_Var_ [a0, (.fn K.check_Place_c1 [x1])] H4 fun x5 H6 =>
 Do (abin .lss x5 (.int .i64 0)) fun x7 =>
 Gd x7 true (
 Do (abuild [.int .i64 0, .int .i64 0, .bool false, .lst .nil 0 [], .int .i64 0, .lst .nil 0 []] []) fun x8 =>
 Do (astore H6 6 x3 x8) fun H9 =>
 Do (aload H9 6 true x3) fun x10 =>
 Q (.tup [x10, (.int .i64 6)]) H9) (
 Do (aiaddr none 7 a0 x5) fun x11 =>
 Do (afaddr 1 x11) fun x12 =>
 Do (aload H6 6 true x12) fun x13 =>
 DoH (some (abox H6 true [.int .i64 0, .int .i64 0, .bool false, .lst .nil 0 [], .int .i64 0, .lst .nil 0 []])) fun x14 H15 =>
 Do (astore H15 6 x14 x13) fun H16 =>
 Do (aload H16 6 true x14) fun x17 =>
Φ K.kind_Sound [x17] H16 fun x18 H19 =>
 Do (abin .neq x18 (.int .i64 0)) fun x20 =>
 Gd x20 true (
 Do (abuild [.int .i64 0, .int .i64 0, .bool false, .lst .nil 0 [], .int .i64 0, .lst .nil 0 []] []) fun x21 =>
 Do (astore H19 6 x3 x21) fun H22 =>
 Do (aload H22 6 true x3) fun x23 =>
 Q (.tup [x23, x18]) H22) (
 Do (afaddr 1 x1) fun x26 =>
 Do (aload H19 1 false x26) fun x27 =>
 Do (alen false x27) fun x28 =>
 LoopP (check_Place_l2 Φ x3 x14 x27 x28 Q) ([(.int .i64 0)], H19)))
def ir_check_Place : AFunc := ⟨50, [.cell 4 6 true, .tmp 5],
 .seq (.region [
   ⟨some 3, .box false 2 (.t 1), none⟩,
   ⟨some 4, .alloc true [.int .i64 0, .int .i64 0, .bool false, .lst .nil 0 [], .int .i64 0, .lst .nil 0 []], none⟩,
   ⟨some 5, .mv (.k (.int .i64 0)), none⟩])
 (.seq (.region [
   ⟨some 13, .mv (.t 0), none⟩,
   ⟨some 14, .mkfn K.check_Place_c1 [(.t 3)], none⟩,
   ⟨some 15, .call K.slices_IndexFunc___api_Var_api_Var_ [(.t 13), (.t 14)], none⟩,
   ⟨some 6, .mv (.t 15), none⟩])
 (.seq (.seq (.region [
   ⟨some 16, .mv (.t 6), none⟩,
   ⟨some 17, .bin .lss (.t 16) (.k (.int .i64 0)), none⟩])
 (.cond (.t 17) (.seq (.region [
     ⟨some 18, .build [.int .i64 0, .int .i64 0, .bool false, .lst .nil 0 [], .int .i64 0, .lst .nil 0 []] [], none⟩,
     ⟨none, .store 6 (.t 4) (.t 18), none⟩,
     ⟨some 5, .mv (.k (.int .i64 6)), none⟩])
   (.ret))
   (.skip)))
 (.seq (.region [
   ⟨some 19, .mv (.t 0), none⟩,
   ⟨some 20, .mv (.t 6), none⟩,
   ⟨some 21, .iaddr none 7 (.t 19) (.t 20), none⟩,
   ⟨some 22, .faddr 1 (.t 21), none⟩,
   ⟨some 23, .load 6 true (.t 22), none⟩,
   ⟨some 7, .alloc true [.int .i64 0, .int .i64 0, .bool false, .lst .nil 0 [], .int .i64 0, .lst .nil 0 []], none⟩,
   ⟨none, .store 6 (.t 7) (.t 23), none⟩])
 (.seq (.seq (.region [
   ⟨some 24, .load 6 true (.t 7), none⟩,
   ⟨some 25, .call K.kind_Sound [(.t 24)], none⟩,
   ⟨some 8, .mv (.t 25), none⟩])
 (.seq (.region [
   ⟨some 26, .mv (.t 8), none⟩,
   ⟨some 27, .bin .neq (.t 26) (.k (.int .i64 0)), none⟩])
 (.cond (.t 27) (.seq (.region [
     ⟨some 28, .build [.int .i64 0, .int .i64 0, .bool false, .lst .nil 0 [], .int .i64 0, .lst .nil 0 []] [], none⟩,
     ⟨some 29, .mv (.t 8), none⟩,
     ⟨none, .store 6 (.t 4) (.t 28), none⟩,
     ⟨some 5, .mv (.t 29), none⟩])
   (.ret))
   (.skip))))
 (.join [] [5, 10, 11, 12, 30, 31, 32, 33, 34, 35, 36, 37, 38, 39, 40, 41, 42, 43, 44, 45, 46, 47, 48] (.seq (.region [
   ⟨some 30, .faddr 1 (.t 3), none⟩,
   ⟨some 31, .load 1 false (.t 30), none⟩,
   ⟨some 32, .len false (.t 31), none⟩,
   ⟨some 33, .mv (.k (.int .i64 0)), none⟩])
 (.block 0 (.loop [33] [5, 10, 11, 12, 34, 35, 36, 37, 38, 39, 40, 41, 42, 43, 44, 45, 46, 47, 48] (.seq (.region [
   ⟨some 34, .bin .lss (.t 33) (.t 32), none⟩])
 (.seq (.cond (.t 34) (.skip)
   (.exit 0))
 (.seq (.block 1 (.seq (.region [
   ⟨some 35, .iaddr none 2 (.t 31) (.t 33), none⟩,
   ⟨some 36, .load 2 true (.t 35), none⟩,
   ⟨some 10, .alloc true [.str [], .lst .nil 0 []], none⟩,
   ⟨none, .store 2 (.t 10) (.t 36), none⟩])
 (.seq (.region [
   ⟨some 38, .load 6 true (.t 7), none⟩,
   ⟨some 39, .load 2 true (.t 10), none⟩,
   ⟨some 40, .call K.check_part [(.t 38), (.t 39)], none⟩,
   ⟨some 37, .mv (.t 40), none⟩,
   ⟨some 41, .extract 0 (.t 37), none⟩,
   ⟨some 42, .extract 1 (.t 37), none⟩,
   ⟨some 11, .alloc true [.int .i64 0, .int .i64 0, .bool false, .lst .nil 0 [], .int .i64 0, .lst .nil 0 []], none⟩,
   ⟨none, .store 6 (.t 11) (.t 41), none⟩,
   ⟨some 12, .mv (.t 42), none⟩])
 (.seq (.seq (.region [
   ⟨some 43, .mv (.t 12), none⟩,
   ⟨some 44, .bin .neq (.t 43) (.k (.int .i64 0)), none⟩])
 (.cond (.t 44) (.seq (.region [
     ⟨some 45, .build [.int .i64 0, .int .i64 0, .bool false, .lst .nil 0 [], .int .i64 0, .lst .nil 0 []] [], none⟩,
     ⟨some 46, .mv (.t 12), none⟩,
     ⟨none, .store 6 (.t 4) (.t 45), none⟩,
     ⟨some 5, .mv (.t 46), none⟩])
   (.ret))
   (.skip)))
 (.region [
   ⟨some 47, .load 6 true (.t 11), none⟩,
   ⟨none, .store 6 (.t 7) (.t 47), none⟩])))))
 (.region [
   ⟨some 48, .bin .add (.t 33) (.k (.int .i64 1)), none⟩,
   ⟨some 33, .mv (.t 48), none⟩])))))))
 (.seq (.region [
   ⟨some 49, .load 6 true (.t 7), none⟩,
   ⟨none, .store 6 (.t 4) (.t 49), none⟩,
   ⟨some 5, .mv (.k (.int .i64 0)), none⟩])
 (.ret)))))))⟩
theorem eq_check_Place (Φ : Calls') (a0 a1 : AV) (H : AH) (Q : Post) : fnE1 Φ ir_check_Place [a0, a1] H Q = check_Place Φ a0 a1 H Q := by kernel_rfl

/-! rabbet/rabbetref11.Place -/
def rabbetref11_Place_k1 (Φ : Calls') (s9 : List AV × AH) (L10 : (List AV × AH) → Prop) (Q : Post) : List AV → AH → Prop := fun j12 H13 =>
 Do (abin .sub (sl s9.1 1) (.int .i64 1)) fun x20 =>
 L10 ([(sl j12 0), x20], H13)
def rabbetref11_Place_k2 (Φ : Calls') (s36 : List AV × AH) (L37 : (List AV × AH) → Prop) (Q : Post) : List AV → AH → Prop := fun j47 H48 =>
 Do (abin .add (sl s36.1 1) (.int .i64 1)) fun x75 =>
 L37 ([(sl j47 0), x75], H48)
def rabbetref11_Place_k3 (Φ : Calls') (s99 : List AV × AH) (L100 : (List AV × AH) → Prop) (Q : Post) : List AV → AH → Prop := fun j110 H111 =>
 Do (abin .add (sl s99.1 1) (.int .i64 1)) fun x126 =>
 L100 ([(sl j110 0), x126], H111)
def rabbetref11_Place_k4 (Φ : Calls') (x28 : AV) (x53 : AV) (x94 : AV) (s99 : List AV × AH) (L100 : (List AV × AH) → Prop) (Q : Post) : List AV → AH → Prop := fun j101 H102 =>
 Do (afaddr 3 x28) fun x112 =>
 Do (aload H102 1 false x112) fun x113 =>
 Do (aiaddr none 9 x113 (sl s99.1 1)) fun x114 =>
 Do (afaddr 0 x114) fun x115 =>
 Do (aload H102 1 false x115) fun x116 =>
 Do (afaddr 0 x53) fun x117 =>
 Do (aload H102 1 false x117) fun x118 =>
 Do (abin .eql x116 x118) fun x119 =>
 Gd x119 true (
 Do (afaddr 3 x28) fun x120 =>
 Do (aload H102 1 false x120) fun x121 =>
 Do (aiaddr none 9 x121 (sl s99.1 1)) fun x122 =>
 Do (afaddr 1 x122) fun x123 =>
 Do (aload H102 6 true x123) fun x124 =>
 Do (astore H102 6 x94 x124) fun H125 =>
 JoinP (rabbetref11_Place_k3 Φ s99 L100 Q) [(.int .i64 0)] H125) (
 JoinP (rabbetref11_Place_k3 Φ s99 L100 Q) [(sl s99.1 0)] H102)
def rabbetref11_Place_k5 (Φ : Calls') (x28 : AV) (x94 : AV) (s36 : List AV × AH) (L37 : (List AV × AH) → Prop) (Q : Post) : List AV → AH → Prop := fun j97 H98 =>
 Do (aload H98 6 true x94) fun x127 =>
 Do (astore H98 6 x28 x127) fun H128 =>
 JoinP (rabbetref11_Place_k2 Φ s36 L37 Q) [(sl j97 0)] H128
def rabbetref11_Place_k6 (Φ : Calls') (x28 : AV) (x53 : AV) (x94 : AV) (s36 : List AV × AH) (L37 : (List AV × AH) → Prop) (s99 : List AV × AH) (L100 : (List AV × AH) → Prop) (Q : Post) : List AV → AH → Prop := fun j103 H104 =>
 Gd (sl j103 0) true (
 JoinP (rabbetref11_Place_k4 Φ x28 x53 x94 s99 L100 Q) [] H104) (
 JoinP (rabbetref11_Place_k5 Φ x28 x94 s36 L37 Q) [(sl s99.1 0)] H104)
def rabbetref11_Place_l7 (Φ : Calls') (x28 : AV) (x53 : AV) (x94 : AV) (s36 : List AV × AH) (L37 : (List AV × AH) → Prop) (Q : Post) : (List AV × AH) → ((List AV × AH) → Prop) → Prop := fun s99 L100 =>
 Do (afaddr 3 x28) fun x105 =>
 Do (aload s99.2 1 false x105) fun x106 =>
 Do (alen false x106) fun x107 =>
 Do (abin .lss (sl s99.1 1) x107) fun x108 =>
 Gd3 x108 true (
 Do (abin .neq (sl s99.1 0) (.int .i64 0)) fun x109 =>
 JoinP (rabbetref11_Place_k6 Φ x28 x53 x94 s36 L37 s99 L100 Q) [x109] s99.2) (
 JoinP (rabbetref11_Place_k6 Φ x28 x53 x94 s36 L37 s99 L100 Q) [(.bool false)] s99.2) (
 False)
def rabbetref11_Place_k8 (Φ : Calls') (x28 : AV) (x53 : AV) (s36 : List AV × AH) (L37 : (List AV × AH) → Prop) (Q : Post) : List AV → AH → Prop := fun j76 H77 =>
 Gd (sl j76 0) true (
 Do (abuild [.int .i64 0, .int .i64 0, .bool false, .lst .nil 0 [], .int .i64 0, .lst .nil 0 []] []) fun x93 =>
 DoH (some (abox H77 true [.int .i64 0, .int .i64 0, .bool false, .lst .nil 0 [], .int .i64 0, .lst .nil 0 []])) fun x94 H95 =>
 Do (astore H95 6 x94 x93) fun H96 =>
 LoopP (rabbetref11_Place_l7 Φ x28 x53 x94 s36 L37 Q) ([(.int .i64 6), (.int .i64 0)], H96)) (
 JoinP (rabbetref11_Place_k2 Φ s36 L37 Q) [(.int .i64 8)] H77)
def rabbetref11_Place_k9 (Φ : Calls') (x28 : AV) (x53 : AV) (s36 : List AV × AH) (L37 : (List AV × AH) → Prop) (Q : Post) : List AV → AH → Prop := fun j78 H79 =>
 Gd3 (sl j78 0) true (
 Do (afaddr 0 x28) fun x87 =>
 Do (aload H79 1 false x87) fun x88 =>
 Do (abin .eql x88 (.int .i64 3)) fun x89 =>
 Gd3 x89 false (
 Do (afaddr 0 x28) fun x90 =>
 Do (aload H79 1 false x90) fun x91 =>
 Do (abin .eql x91 (.int .i64 4)) fun x92 =>
 JoinP (rabbetref11_Place_k8 Φ x28 x53 s36 L37 Q) [x92] H79) (
 JoinP (rabbetref11_Place_k8 Φ x28 x53 s36 L37 Q) [(.bool true)] H79) (
 False)) (
 JoinP (rabbetref11_Place_k8 Φ x28 x53 s36 L37 Q) [(.bool false)] H79) (
 False)
def rabbetref11_Place_k10 (Φ : Calls') (x28 : AV) (x53 : AV) (s36 : List AV × AH) (L37 : (List AV × AH) → Prop) (Q : Post) : List AV → AH → Prop := fun j56 H57 =>
 Gd (sl j56 0) true (
 Do (afaddr 5 x28) fun x70 =>
 Do (aload H57 1 false x70) fun x71 =>
 Do (aiaddr none 6 x71 (.int .i64 0)) fun x72 =>
 Do (aload H57 6 true x72) fun x73 =>
 Do (astore H57 6 x28 x73) fun H74 =>
 JoinP (rabbetref11_Place_k2 Φ s36 L37 Q) [(sl s36.1 0)] H74) (
 Do (afaddr 1 x53) fun x80 =>
 Do (aload H57 1 false x80) fun x81 =>
 Do (alen false x81) fun x82 =>
 Do (abin .eql x82 (.int .i64 0)) fun x83 =>
 Gd3 x83 true (
 Do (afaddr 0 x53) fun x84 =>
 Do (aload H57 1 false x84) fun x85 =>
 Do (abin .neq x85 (.str [])) fun x86 =>
 JoinP (rabbetref11_Place_k9 Φ x28 x53 s36 L37 Q) [x86] H57) (
 JoinP (rabbetref11_Place_k9 Φ x28 x53 s36 L37 Q) [(.bool false)] H57) (
 False))
def rabbetref11_Place_k11 (Φ : Calls') (x28 : AV) (x53 : AV) (s36 : List AV × AH) (L37 : (List AV × AH) → Prop) (Q : Post) : List AV → AH → Prop := fun j58 H59 =>
 Gd3 (sl j58 0) true (
 Do (afaddr 0 x28) fun x67 =>
 Do (aload H59 1 false x67) fun x68 =>
 Do (abin .eql x68 (.int .i64 5)) fun x69 =>
 JoinP (rabbetref11_Place_k10 Φ x28 x53 s36 L37 Q) [x69] H59) (
 JoinP (rabbetref11_Place_k10 Φ x28 x53 s36 L37 Q) [(.bool false)] H59) (
 False)
def rabbetref11_Place_k12 (Φ : Calls') (x1 : AV) (x28 : AV) (s36 : List AV × AH) (L37 : (List AV × AH) → Prop) (Q : Post) : List AV → AH → Prop := fun j38 H39 =>
 Do (afaddr 1 x1) fun x49 =>
 Do (aload H39 1 false x49) fun x50 =>
 Do (aiaddr none 2 x50 (sl s36.1 1)) fun x51 =>
 Do (aload H39 2 true x51) fun x52 =>
 DoH (some (abox H39 true [.str [], .lst .nil 0 []])) fun x53 H54 =>
 Do (astore H54 2 x53 x52) fun H55 =>
 Do (afaddr 1 x53) fun x60 =>
 Do (aload H55 1 false x60) fun x61 =>
 Do (alen false x61) fun x62 =>
 Do (abin .eql x62 (.int .i64 1)) fun x63 =>
 Gd3 x63 true (
 Do (afaddr 0 x53) fun x64 =>
 Do (aload H55 1 false x64) fun x65 =>
 Do (abin .eql x65 (.str [])) fun x66 =>
 JoinP (rabbetref11_Place_k11 Φ x28 x53 s36 L37 Q) [x66] H55) (
 JoinP (rabbetref11_Place_k11 Φ x28 x53 s36 L37 Q) [(.bool false)] H55) (
 False)
def rabbetref11_Place_k13 (Φ : Calls') (x3 : AV) (x28 : AV) (Q : Post) : List AV → AH → Prop := fun j34 H35 =>
 Do (abin .neq (sl j34 0) (.int .i64 0)) fun x129 =>
 Gd x129 true (
 Do (abuild [.int .i64 0, .int .i64 0, .bool false, .lst .nil 0 [], .int .i64 0, .lst .nil 0 []] []) fun x130 =>
 Do (astore H35 6 x3 x130) fun H131 =>
 Do (aload H131 6 true x3) fun x132 =>
 Q (.tup [x132, (sl j34 0)]) H131) (
 Do (aload H35 6 true x28) fun x133 =>
 Do (astore H35 6 x3 x133) fun H134 =>
 Do (aload H134 6 true x3) fun x135 =>
 Q (.tup [x135, (.int .i64 0)]) H134)
def rabbetref11_Place_k14 (Φ : Calls') (x1 : AV) (x3 : AV) (x28 : AV) (s36 : List AV × AH) (L37 : (List AV × AH) → Prop) (Q : Post) : List AV → AH → Prop := fun j40 H41 =>
 Gd (sl j40 0) true (
 JoinP (rabbetref11_Place_k12 Φ x1 x28 s36 L37 Q) [] H41) (
 JoinP (rabbetref11_Place_k13 Φ x3 x28 Q) [(sl s36.1 0)] H41)
def rabbetref11_Place_l15 (Φ : Calls') (x1 : AV) (x3 : AV) (x28 : AV) (Q : Post) : (List AV × AH) → ((List AV × AH) → Prop) → Prop := fun s36 L37 =>
 Do (afaddr 1 x1) fun x42 =>
 Do (aload s36.2 1 false x42) fun x43 =>
 Do (alen false x43) fun x44 =>
 Do (abin .lss (sl s36.1 1) x44) fun x45 =>
 Gd3 x45 true (
 Do (abin .eql (sl s36.1 0) (.int .i64 0)) fun x46 =>
 JoinP (rabbetref11_Place_k14 Φ x1 x3 x28 s36 L37 Q) [x46] s36.2) (
 JoinP (rabbetref11_Place_k14 Φ x1 x3 x28 s36 L37 Q) [(.bool false)] s36.2) (
 False)
def rabbetref11_Place_k16 (Φ : Calls') (a0 : AV) (x1 : AV) (x3 : AV) (Q : Post) : List AV → AH → Prop := fun j5 H6 =>
 Do (abin .lss (sl j5 0) (.int .i64 0)) fun x21 =>
 Gd x21 true (
 Do (abuild [.int .i64 0, .int .i64 0, .bool false, .lst .nil 0 [], .int .i64 0, .lst .nil 0 []] []) fun x22 =>
 Do (astore H6 6 x3 x22) fun H23 =>
 Do (aload H23 6 true x3) fun x24 =>
 Q (.tup [x24, (.int .i64 6)]) H23) (
 Do (aiaddr none 7 a0 (sl j5 0)) fun x25 =>
 Do (afaddr 1 x25) fun x26 =>
 Do (aload H6 6 true x26) fun x27 =>
 DoH (some (abox H6 true [.int .i64 0, .int .i64 0, .bool false, .lst .nil 0 [], .int .i64 0, .lst .nil 0 []])) fun x28 H29 =>
 Do (astore H29 6 x28 x27) fun H30 =>
 Do (aload H30 6 true x28) fun x31 =>
Φ K.rabbetref06_Sound [x31] H30 fun x32 H33 =>
 LoopP (rabbetref11_Place_l15 Φ x1 x3 x28 Q) ([x32, (.int .i64 0)], H33))
def rabbetref11_Place_l17 (Φ : Calls') (a0 : AV) (x1 : AV) (x3 : AV) (Q : Post) : (List AV × AH) → ((List AV × AH) → Prop) → Prop := fun s9 L10 =>
 Do (abin .geq (sl s9.1 1) (.int .i64 0)) fun x11 =>
 Gd x11 true (
 Do (aiaddr none 7 a0 (sl s9.1 1)) fun x14 =>
 Do (afaddr 0 x14) fun x15 =>
 Do (aload s9.2 1 false x15) fun x16 =>
 Do (afaddr 0 x1) fun x17 =>
 Do (aload s9.2 1 false x17) fun x18 =>
 Do (abin .eql x16 x18) fun x19 =>
 Gd x19 true (
 JoinP (rabbetref11_Place_k1 Φ s9 L10 Q) [(sl s9.1 1)] s9.2) (
 JoinP (rabbetref11_Place_k1 Φ s9 L10 Q) [(sl s9.1 0)] s9.2)) (
 JoinP (rabbetref11_Place_k16 Φ a0 x1 x3 Q) [(sl s9.1 0)] s9.2)
def rabbetref11_Place (Φ : Calls') (a0 : AV) (a1 : AV) (H : AH) (Q : Post) : Prop :=
 DoH (aboxv H false 2 a1) fun x1 H2 =>
 DoH (some (abox H2 true [.int .i64 0, .int .i64 0, .bool false, .lst .nil 0 [], .int .i64 0, .lst .nil 0 []])) fun x3 H4 =>
 Do (alen false a0) fun x7 =>
 Do (abin .sub x7 (.int .i64 1)) fun x8 =>
 LoopP (rabbetref11_Place_l17 Φ a0 x1 x3 Q) ([(.int .i64 (-1)), x8], H4)
def ir_rabbetref11_Place : AFunc := ⟨128, [.cell 4 6 true, .tmp 5],
 .seq (.region [
   ⟨some 3, .box false 2 (.t 1), none⟩,
   ⟨some 4, .alloc true [.int .i64 0, .int .i64 0, .bool false, .lst .nil 0 [], .int .i64 0, .lst .nil 0 []], none⟩,
   ⟨some 5, .mv (.k (.int .i64 0)), none⟩])
 (.seq (.region [
   ⟨some 6, .mv (.k (.int .i64 (-1))), none⟩])
 (.join [6] [7, 14, 15, 16, 17, 18, 19, 20, 21, 22, 23, 24, 25, 26, 27, 28, 29] (.seq (.region [
   ⟨some 14, .mv (.t 0), none⟩,
   ⟨some 15, .len false (.t 14), none⟩,
   ⟨some 16, .bin .sub (.t 15) (.k (.int .i64 1)), none⟩,
   ⟨some 7, .mv (.t 16), none⟩])
 (.block 0 (.loop [6, 7] [17, 18, 19, 20, 21, 22, 23, 24, 25, 26, 27, 28, 29] (.seq (.seq (.region [
   ⟨some 17, .mv (.t 7), none⟩,
   ⟨some 18, .bin .geq (.t 17) (.k (.int .i64 0)), none⟩])
 (.cond (.t 18) (.skip)
   (.exit 0)))
 (.join [6] [21, 22, 23, 24, 25, 26, 27, 28, 29] (.block 1 (.seq (.draw [
   ⟨some 21, .mv (.t 0), none⟩,
   ⟨some 22, .mv (.t 7), none⟩,
   ⟨some 23, .iaddr none 7 (.t 21) (.t 22), none⟩,
   ⟨some 24, .faddr 0 (.t 23), none⟩,
   ⟨some 25, .load 1 false (.t 24), none⟩,
   ⟨some 26, .faddr 0 (.t 3), none⟩,
   ⟨some 27, .load 1 false (.t 26), none⟩,
   ⟨some 28, .bin .eql (.t 25) (.t 27), none⟩]
 [[], [], [0, 1], [0, 1, 2], [0, 1, 2, 3], [], [5], [0, 1, 2, 3, 4, 5, 6]] [] [0, 1, 2, 3, 4, 5, 6, 7])
 (.cond (.t 28) (.region [
     ⟨some 29, .mv (.t 7), none⟩,
     ⟨some 6, .mv (.t 29), none⟩])
   (.skip))))
 (.region [
   ⟨some 19, .mv (.t 7), none⟩,
   ⟨some 20, .bin .sub (.t 19) (.k (.int .i64 1)), none⟩,
   ⟨some 7, .mv (.t 20), none⟩]))))))
 (.seq (.seq (.region [
   ⟨some 30, .mv (.t 6), none⟩,
   ⟨some 31, .bin .lss (.t 30) (.k (.int .i64 0)), none⟩])
 (.cond (.t 31) (.seq (.region [
     ⟨some 32, .build [.int .i64 0, .int .i64 0, .bool false, .lst .nil 0 [], .int .i64 0, .lst .nil 0 []] [], none⟩,
     ⟨none, .store 6 (.t 4) (.t 32), none⟩,
     ⟨some 5, .mv (.k (.int .i64 6)), none⟩])
   (.ret))
   (.skip)))
 (.seq (.region [
   ⟨some 33, .mv (.t 0), none⟩,
   ⟨some 34, .mv (.t 6), none⟩,
   ⟨some 35, .iaddr none 7 (.t 33) (.t 34), none⟩,
   ⟨some 36, .faddr 1 (.t 35), none⟩,
   ⟨some 37, .load 6 true (.t 36), none⟩,
   ⟨some 8, .alloc true [.int .i64 0, .int .i64 0, .bool false, .lst .nil 0 [], .int .i64 0, .lst .nil 0 []], none⟩,
   ⟨none, .store 6 (.t 8) (.t 37), none⟩])
 (.seq (.region [
   ⟨some 38, .load 6 true (.t 8), none⟩,
   ⟨some 39, .call K.rabbetref06_Sound [(.t 38)], none⟩,
   ⟨some 9, .mv (.t 39), none⟩])
 (.join [9] [10, 11, 12, 13, 40, 41, 42, 43, 44, 45, 46, 47, 48, 49, 50, 51, 52, 53, 54, 55, 56, 57, 58, 59, 60, 61, 62, 63, 64, 65, 66, 67, 68, 69, 70, 71, 72, 73, 74, 75, 76, 77, 78, 79, 80, 81, 82, 83, 84, 85, 86, 87, 88, 89, 90, 91, 92, 93, 94, 95, 96, 97, 98, 99, 100, 101, 102, 103, 104, 105, 106, 107, 108, 109, 110, 111, 112, 113, 114, 115, 116, 117, 118, 119, 120, 121, 122] (.seq (.region [
   ⟨some 10, .mv (.k (.int .i64 0)), none⟩])
 (.block 2 (.loop [9, 10] [11, 12, 13, 40, 41, 42, 43, 44, 45, 46, 47, 48, 49, 50, 51, 52, 53, 54, 55, 56, 57, 58, 59, 60, 61, 62, 63, 64, 65, 66, 67, 68, 69, 70, 71, 72, 73, 74, 75, 76, 77, 78, 79, 80, 81, 82, 83, 84, 85, 86, 87, 88, 89, 90, 91, 92, 93, 94, 95, 96, 97, 98, 99, 100, 101, 102, 103, 104, 105, 106, 107, 108, 109, 110, 111, 112, 113, 114, 115, 116, 117, 118, 119, 120, 121, 122] (.join [] [40, 41, 42, 43, 44, 45, 46, 47, 48] (.join [48] [40, 41, 42, 43, 44, 45, 46, 47] (.region [
   ⟨some 40, .mv (.t 10), none⟩,
   ⟨some 41, .faddr 1 (.t 3), none⟩,
   ⟨some 42, .load 1 false (.t 41), none⟩,
   ⟨some 43, .len false (.t 42), none⟩,
   ⟨some 44, .bin .lss (.t 40) (.t 43), none⟩,
   ⟨some 45, .mv (.t 44), none⟩,
   ⟨some 46, .mv (.t 9), some (45, true)⟩,
   ⟨some 47, .bin .eql (.t 46) (.k (.int .i64 0)), some (45, true)⟩,
   ⟨some 48, .pick (.t 45) (.t 47) (.k (.bool false)), none⟩])
 (.cond (.t 48) (.skip)
   (.exit 2)))
 (.join [9] [11, 12, 13, 51, 52, 53, 54, 55, 56, 57, 58, 59, 60, 61, 62, 63, 64, 65, 66, 67, 68, 69, 70, 71, 72, 73, 74, 75, 76, 77, 78, 79, 80, 81, 82, 83, 84, 85, 86, 87, 88, 89, 90, 91, 92, 93, 94, 95, 96, 97, 98, 99, 100, 101, 102, 103, 104, 105, 106, 107, 108, 109, 110, 111, 112, 113, 114, 115, 116, 117, 118, 119, 120, 121, 122] (.block 3 (.seq (.region [
   ⟨some 51, .faddr 1 (.t 3), none⟩,
   ⟨some 52, .load 1 false (.t 51), none⟩,
   ⟨some 53, .mv (.t 10), none⟩,
   ⟨some 54, .iaddr none 2 (.t 52) (.t 53), none⟩,
   ⟨some 55, .load 2 true (.t 54), none⟩,
   ⟨some 11, .alloc true [.str [], .lst .nil 0 []], none⟩,
   ⟨none, .store 2 (.t 11) (.t 55), none⟩])
 (.block 4 (.join [56] [57, 58, 59, 60, 61, 62, 63, 64, 65, 66, 67, 68, 69, 70] (.rjoin [65] [57, 58, 59, 60, 61, 62, 63, 64] [
   ⟨some 57, .faddr 1 (.t 11), none⟩,
   ⟨some 58, .load 1 false (.t 57), none⟩,
   ⟨some 59, .len false (.t 58), none⟩,
   ⟨some 60, .bin .eql (.t 59) (.k (.int .i64 1)), none⟩,
   ⟨some 61, .mv (.t 60), none⟩,
   ⟨some 62, .faddr 0 (.t 11), some (61, true)⟩,
   ⟨some 63, .load 1 false (.t 62), some (61, true)⟩,
   ⟨some 64, .bin .eql (.t 63) (.k (.str [])), some (61, true)⟩,
   ⟨some 65, .pick (.t 61) (.t 64) (.k (.bool false)), none⟩]
 (.region [
   ⟨some 66, .mv (.t 65), none⟩,
   ⟨some 67, .faddr 0 (.t 8), some (66, true)⟩,
   ⟨some 68, .load 1 false (.t 67), some (66, true)⟩,
   ⟨some 69, .bin .eql (.t 68) (.k (.int .i64 5)), some (66, true)⟩,
   ⟨some 70, .pick (.t 66) (.t 69) (.k (.bool false)), none⟩,
   ⟨some 56, .mv (.t 70), none⟩]))
 (.cond (.t 56) (.region [
     ⟨some 71, .faddr 5 (.t 8), none⟩,
     ⟨some 72, .load 1 false (.t 71), none⟩,
     ⟨some 73, .iaddr none 6 (.t 72) (.k (.int .i64 0)), none⟩,
     ⟨some 74, .load 6 true (.t 73), none⟩,
     ⟨none, .store 6 (.t 8) (.t 74), none⟩])
   (.join [75] [76, 77, 78, 79, 80, 81, 82, 83, 84, 85, 86, 87, 88, 89, 90, 91, 92, 93, 94] (.rjoin [84] [76, 77, 78, 79, 80, 81, 82, 83] [
     ⟨some 76, .faddr 1 (.t 11), none⟩,
     ⟨some 77, .load 1 false (.t 76), none⟩,
     ⟨some 78, .len false (.t 77), none⟩,
     ⟨some 79, .bin .eql (.t 78) (.k (.int .i64 0)), none⟩,
     ⟨some 80, .mv (.t 79), none⟩,
     ⟨some 81, .faddr 0 (.t 11), some (80, true)⟩,
     ⟨some 82, .load 1 false (.t 81), some (80, true)⟩,
     ⟨some 83, .bin .neq (.t 82) (.k (.str [])), some (80, true)⟩,
     ⟨some 84, .pick (.t 80) (.t 83) (.k (.bool false)), none⟩]
   (.region [
     ⟨some 85, .mv (.t 84), none⟩,
     ⟨some 86, .faddr 0 (.t 8), some (85, true)⟩,
     ⟨some 87, .load 1 false (.t 86), some (85, true)⟩,
     ⟨some 88, .bin .eql (.t 87) (.k (.int .i64 3)), some (85, true)⟩,
     ⟨some 89, .mv (.t 88), some (85, true)⟩,
     ⟨some 90, .faddr 0 (.t 8), some (89, false)⟩,
     ⟨some 91, .load 1 false (.t 90), some (89, false)⟩,
     ⟨some 92, .bin .eql (.t 91) (.k (.int .i64 4)), some (89, false)⟩,
     ⟨some 93, .pick (.t 89) (.k (.bool true)) (.t 92), some (85, true)⟩,
     ⟨some 94, .pick (.t 85) (.t 93) (.k (.bool false)), none⟩,
     ⟨some 75, .mv (.t 94), none⟩]))
   (.cond (.t 75) (.seq (.region [
       ⟨some 9, .mv (.k (.int .i64 6)), none⟩])
     (.seq (.region [
       ⟨some 95, .build [.int .i64 0, .int .i64 0, .bool false, .lst .nil 0 [], .int .i64 0, .lst .nil 0 []] [], none⟩,
       ⟨some 12, .alloc true [.int .i64 0, .int .i64 0, .bool false, .lst .nil 0 [], .int .i64 0, .lst .nil 0 []], none⟩,
       ⟨none, .store 6 (.t 12) (.t 95), none⟩])
     (.join [9] [13, 96, 97, 98, 99, 100, 101, 102, 103, 104, 105, 106, 107, 108, 109, 110, 111, 112, 113, 114, 115, 116, 117, 118, 119, 120, 121] (.seq (.region [
       ⟨some 13, .mv (.k (.int .i64 0)), none⟩])
     (.block 5 (.loop [9, 13] [96, 97, 98, 99, 100, 101, 102, 103, 104, 105, 106, 107, 108, 109, 110, 111, 112, 113, 114, 115, 116, 117, 118, 119, 120, 121] (.join [] [96, 97, 98, 99, 100, 101, 102, 103, 104] (.join [104] [96, 97, 98, 99, 100, 101, 102, 103] (.region [
       ⟨some 96, .mv (.t 13), none⟩,
       ⟨some 97, .faddr 3 (.t 8), none⟩,
       ⟨some 98, .load 1 false (.t 97), none⟩,
       ⟨some 99, .len false (.t 98), none⟩,
       ⟨some 100, .bin .lss (.t 96) (.t 99), none⟩,
       ⟨some 101, .mv (.t 100), none⟩,
       ⟨some 102, .mv (.t 9), some (101, true)⟩,
       ⟨some 103, .bin .neq (.t 102) (.k (.int .i64 0)), some (101, true)⟩,
       ⟨some 104, .pick (.t 101) (.t 103) (.k (.bool false)), none⟩])
     (.cond (.t 104) (.skip)
       (.exit 5)))
     (.join [9] [107, 108, 109, 110, 111, 112, 113, 114, 115, 116, 117, 118, 119, 120, 121] (.block 6 (.seq (.draw [
       ⟨some 107, .faddr 3 (.t 8), none⟩,
       ⟨some 108, .load 1 false (.t 107), none⟩,
       ⟨some 109, .mv (.t 13), none⟩,
       ⟨some 110, .iaddr none 9 (.t 108) (.t 109), none⟩,
       ⟨some 111, .faddr 0 (.t 110), none⟩,
       ⟨some 112, .load 1 false (.t 111), none⟩,
       ⟨some 113, .faddr 0 (.t 11), none⟩,
       ⟨some 114, .load 1 false (.t 113), none⟩,
       ⟨some 115, .bin .eql (.t 112) (.t 114), none⟩]
     [[], [0], [], [0, 1, 2], [0, 1, 2, 3], [0, 1, 2, 3, 4], [], [6], [0, 1, 2, 3, 4, 5, 6, 7]] [] [0, 1, 2, 3, 4, 5, 6, 7, 8])
     (.cond (.t 115) (.region [
         ⟨some 116, .faddr 3 (.t 8), none⟩,
         ⟨some 117, .load 1 false (.t 116), none⟩,
         ⟨some 118, .mv (.t 13), none⟩,
         ⟨some 119, .iaddr none 9 (.t 117) (.t 118), none⟩,
         ⟨some 120, .faddr 1 (.t 119), none⟩,
         ⟨some 121, .load 6 true (.t 120), none⟩,
         ⟨none, .store 6 (.t 12) (.t 121), none⟩,
         ⟨some 9, .mv (.k (.int .i64 0)), none⟩])
       (.skip))))
     (.region [
       ⟨some 105, .mv (.t 13), none⟩,
       ⟨some 106, .bin .add (.t 105) (.k (.int .i64 1)), none⟩,
       ⟨some 13, .mv (.t 106), none⟩]))))))
     (.region [
       ⟨some 122, .load 6 true (.t 12), none⟩,
       ⟨none, .store 6 (.t 8) (.t 122), none⟩]))))
     (.region [
       ⟨some 9, .mv (.k (.int .i64 8)), none⟩]))))))))
 (.region [
   ⟨some 49, .mv (.t 10), none⟩,
   ⟨some 50, .bin .add (.t 49) (.k (.int .i64 1)), none⟩,
   ⟨some 10, .mv (.t 50), none⟩]))))))
 (.seq (.seq (.region [
   ⟨some 123, .mv (.t 9), none⟩,
   ⟨some 124, .bin .neq (.t 123) (.k (.int .i64 0)), none⟩])
 (.cond (.t 124) (.seq (.region [
     ⟨some 125, .build [.int .i64 0, .int .i64 0, .bool false, .lst .nil 0 [], .int .i64 0, .lst .nil 0 []] [], none⟩,
     ⟨some 126, .mv (.t 9), none⟩,
     ⟨none, .store 6 (.t 4) (.t 125), none⟩,
     ⟨some 5, .mv (.t 126), none⟩])
   (.ret))
   (.skip)))
 (.seq (.region [
   ⟨some 127, .load 6 true (.t 8), none⟩,
   ⟨none, .store 6 (.t 4) (.t 127), none⟩,
   ⟨some 5, .mv (.k (.int .i64 0)), none⟩])
 (.ret)))))))))⟩
theorem eq_rabbetref11_Place (Φ : Calls') (a0 a1 : AV) (H : AH) (Q : Post) : fnE1 Φ ir_rabbetref11_Place [a0, a1] H Q = rabbetref11_Place Φ a0 a1 H Q := by kernel_rfl

/-! rabbet/rabbetlaw11.awake -/
def rabbetlaw11_awake_k1 (Φ : Calls') (Q : Post) : List AV → AH → Prop := fun j44 H45 =>
 Gd3 (sl j44 0) true (
Φ K.check_Order [(.int .i64 4), (.int .i64 2)] H45 fun x48 H49 =>
 Do (aun .not x48) fun x50 =>
 Q x50 H49) (
 Q (.bool false) H45) (
 False)
def rabbetlaw11_awake_k2 (Φ : Calls') (Q : Post) : List AV → AH → Prop := fun j34 H35 =>
 Gd3 (sl j34 0) true (
Φ K.check_Order [(.int .i64 7), (.int .i64 4)] H35 fun x46 H47 =>
 JoinP (rabbetlaw11_awake_k1 Φ Q) [x46] H47) (
 JoinP (rabbetlaw11_awake_k1 Φ Q) [(.bool false)] H35) (
 False)
def rabbetlaw11_awake (Φ : Calls') (H : AH) (Q : Post) : Prop :=
 Do (abuild [.int .i64 0, .int .i64 0, .bool false, .lst .nil 0 [], .int .i64 0, .lst .nil 0 []] [(0, 1, (.int .i64 1)), (1, 1, (.int .i64 4))]) fun x1 =>
 Do (abuild [.str [], .int .i64 0, .int .i64 0, .bool false, .lst .nil 0 [], .int .i64 0, .lst .nil 0 []] [(0, 1, (.str [120])), (1, 6, x1)]) fun x2 =>
 DoH (abslice H false 7 1 [.str [], .int .i64 0, .int .i64 0, .bool false, .lst .nil 0 [], .int .i64 0, .lst .nil 0 []] [(0, 7, x2)]) fun x3 H4 =>
 Do (abuild [.str [], .lst .nil 0 []] [(0, 1, (.str [120]))]) fun x5 =>
 Do (abuild [.int .i64 0, .int .u64 0, .str [], .int .i64 0, .int .i64 0, .str [], .lst .nil 0 [], .lst .nil 0 []] [(0, 1, (.int .i64 1)), (1, 1, (.int .u64 7))]) fun x6 =>
 DoH (abslice H4 true 8 1 [.int .i64 0, .int .u64 0, .str [], .int .i64 0, .int .i64 0, .str [], .lst .nil 0 [], .lst .nil 0 []] [(0, 8, x6)]) fun x7 H8 =>
 Do (abuild [.int .i64 0, .int .i64 0, .str [], .str [], .int .i64 0, .str [], .lst .nil 0 [], .lst .nil 0 [], .lst .nil 0 [], .lst .nil 0 []] [(0, 1, (.int .i64 3)), (1, 1, (.int .i64 3)), (5, 2, x5), (7, 1, x7)]) fun x9 =>
 DoH (abslice H8 false 10 1 [.int .i64 0, .int .i64 0, .str [], .str [], .int .i64 0, .str [], .lst .nil 0 [], .lst .nil 0 [], .lst .nil 0 [], .lst .nil 0 []] [(0, 10, x9)]) fun x10 H11 =>
 DoH (abslice H11 false 1 1 [.lst .nil 0 []] [(0, 1, x10)]) fun x12 H13 =>
 Do (abuild [.lst .nil 0 [], .lst .nil 0 []] [(0, 1, x3), (1, 1, x12)]) fun x14 =>
 DoH (some (abox H13 true [.lst .nil 0 [], .lst .nil 0 []])) fun x15 H16 =>
 Do (astore H16 2 x15 x14) fun H17 =>
 Do (aload H17 2 true x15) fun x18 =>
Φ K.check_Prog [x18] H17 fun x19 H20 =>
 DoH (some (abox H20 true [.int .i64 0, .int .i64 0])) fun x21 H22 =>
 Do (astore H22 2 x21 x19) fun H23 =>
 Do (afaddr 1 x15) fun x24 =>
 Do (aload H23 1 false x24) fun x25 =>
 Do (aiaddr none 1 x25 (.int .i64 0)) fun x26 =>
 Do (aload H23 1 false x26) fun x27 =>
 Do (aiaddr none 10 x27 (.int .i64 0)) fun x28 =>
 Do (afaddr 7 x28) fun x29 =>
 Do (aload H23 1 false x29) fun x30 =>
 Do (abuild [.int .i64 0, .int .u64 0, .str [], .int .i64 0, .int .i64 0, .str [], .lst .nil 0 [], .lst .nil 0 []] [(0, 1, (.int .i64 2)), (2, 1, (.str [121]))]) fun x31 =>
 Do (aiaddr none 8 x30 (.int .i64 0)) fun x32 =>
 Do (astore H23 8 x32 x31) fun H33 =>
 Do (afaddr 1 x21) fun x36 =>
 Do (aload H33 1 false x36) fun x37 =>
 Do (abin .eql x37 (.int .i64 0)) fun x38 =>
 Gd3 x38 true (
 Do (aload H33 2 true x15) fun x39 =>
Φ K.check_Prog [x39] H33 fun x40 H41 =>
 Do (abuild [.int .i64 0, .int .i64 0] [(0, 1, (.int .i64 3)), (1, 1, (.int .i64 6))]) fun x42 =>
 Do (aeqAgg false [.n, .n] x40 x42) fun x43 =>
 JoinP (rabbetlaw11_awake_k2 Φ Q) [x43] H41) (
 JoinP (rabbetlaw11_awake_k2 Φ Q) [(.bool false)] H33) (
 False)
def ir_rabbetlaw11_awake : AFunc := ⟨40, [.tmp 0],
 .seq (.region [
   ⟨some 0, .mv (.k (.bool false)), none⟩])
 (.seq (.region [
   ⟨some 3, .build [.int .i64 0, .int .i64 0, .bool false, .lst .nil 0 [], .int .i64 0, .lst .nil 0 []] [(0, 1, (.k (.int .i64 1))), (1, 1, (.k (.int .i64 4)))], none⟩,
   ⟨some 4, .build [.str [], .int .i64 0, .int .i64 0, .bool false, .lst .nil 0 [], .int .i64 0, .lst .nil 0 []] [(0, 1, (.k (.str [120]))), (1, 6, (.t 3))], none⟩,
   ⟨some 5, .bslice false 7 1 [.str [], .int .i64 0, .int .i64 0, .bool false, .lst .nil 0 [], .int .i64 0, .lst .nil 0 []] [(0, 7, (.t 4))], none⟩,
   ⟨some 6, .build [.str [], .lst .nil 0 []] [(0, 1, (.k (.str [120])))], none⟩,
   ⟨some 7, .build [.int .i64 0, .int .u64 0, .str [], .int .i64 0, .int .i64 0, .str [], .lst .nil 0 [], .lst .nil 0 []] [(0, 1, (.k (.int .i64 1))), (1, 1, (.k (.int .u64 7)))], none⟩,
   ⟨some 8, .bslice true 8 1 [.int .i64 0, .int .u64 0, .str [], .int .i64 0, .int .i64 0, .str [], .lst .nil 0 [], .lst .nil 0 []] [(0, 8, (.t 7))], none⟩,
   ⟨some 9, .build [.int .i64 0, .int .i64 0, .str [], .str [], .int .i64 0, .str [], .lst .nil 0 [], .lst .nil 0 [], .lst .nil 0 [], .lst .nil 0 []] [(0, 1, (.k (.int .i64 3))), (1, 1, (.k (.int .i64 3))), (5, 2, (.t 6)), (7, 1, (.t 8))], none⟩,
   ⟨some 10, .bslice false 10 1 [.int .i64 0, .int .i64 0, .str [], .str [], .int .i64 0, .str [], .lst .nil 0 [], .lst .nil 0 [], .lst .nil 0 [], .lst .nil 0 []] [(0, 10, (.t 9))], none⟩,
   ⟨some 11, .bslice false 1 1 [.lst .nil 0 []] [(0, 1, (.t 10))], none⟩,
   ⟨some 12, .build [.lst .nil 0 [], .lst .nil 0 []] [(0, 1, (.t 5)), (1, 1, (.t 11))], none⟩,
   ⟨some 1, .alloc true [.lst .nil 0 [], .lst .nil 0 []], none⟩,
   ⟨none, .store 2 (.t 1) (.t 12), none⟩])
 (.seq (.region [
   ⟨some 13, .load 2 true (.t 1), none⟩,
   ⟨some 14, .call K.check_Prog [(.t 13)], none⟩,
   ⟨some 2, .alloc true [.int .i64 0, .int .i64 0], none⟩,
   ⟨none, .store 2 (.t 2) (.t 14), none⟩])
 (.seq (.region [
   ⟨some 15, .faddr 1 (.t 1), none⟩,
   ⟨some 16, .load 1 false (.t 15), none⟩,
   ⟨some 17, .iaddr none 1 (.t 16) (.k (.int .i64 0)), none⟩,
   ⟨some 18, .load 1 false (.t 17), none⟩,
   ⟨some 19, .iaddr none 10 (.t 18) (.k (.int .i64 0)), none⟩,
   ⟨some 20, .faddr 7 (.t 19), none⟩,
   ⟨some 21, .load 1 false (.t 20), none⟩,
   ⟨some 22, .build [.int .i64 0, .int .u64 0, .str [], .int .i64 0, .int .i64 0, .str [], .lst .nil 0 [], .lst .nil 0 []] [(0, 1, (.k (.int .i64 2))), (2, 1, (.k (.str [121])))], none⟩,
   ⟨some 23, .iaddr none 8 (.t 21) (.k (.int .i64 0)), none⟩,
   ⟨none, .store 8 (.t 23) (.t 22), none⟩])
 (.seq (.rjoin [32] [24, 25, 26, 27, 28, 29, 30, 31] [
   ⟨some 24, .faddr 1 (.t 2), none⟩,
   ⟨some 25, .load 1 false (.t 24), none⟩,
   ⟨some 26, .bin .eql (.t 25) (.k (.int .i64 0)), none⟩,
   ⟨some 27, .mv (.t 26), none⟩,
   ⟨some 28, .load 2 true (.t 1), some (27, true)⟩,
   ⟨some 29, .call K.check_Prog [(.t 28)], some (27, true)⟩,
   ⟨some 30, .build [.int .i64 0, .int .i64 0] [(0, 1, (.k (.int .i64 3))), (1, 1, (.k (.int .i64 6)))], some (27, true)⟩,
   ⟨some 31, .eqagg false [.n, .n] (.t 29) (.t 30), some (27, true)⟩,
   ⟨some 32, .pick (.t 27) (.t 31) (.k (.bool false)), none⟩]
 (.rjoin [35] [33, 34] [
   ⟨some 33, .mv (.t 32), none⟩,
   ⟨some 34, .call K.check_Order [(.k (.int .i64 7)), (.k (.int .i64 4))], some (33, true)⟩,
   ⟨some 35, .pick (.t 33) (.t 34) (.k (.bool false)), none⟩]
 (.region [
   ⟨some 36, .mv (.t 35), none⟩,
   ⟨some 37, .call K.check_Order [(.k (.int .i64 4)), (.k (.int .i64 2))], some (36, true)⟩,
   ⟨some 38, .un .not (.t 37), some (36, true)⟩,
   ⟨some 39, .pick (.t 36) (.t 38) (.k (.bool false)), none⟩,
   ⟨some 0, .mv (.t 39), none⟩])))
 (.ret)))))⟩
theorem eq_rabbetlaw11_awake (Φ : Calls') (H : AH) (Q : Post) : fnE1 Φ ir_rabbetlaw11_awake [] H Q = rabbetlaw11_awake Φ H Q := by kernel_rfl

/-! rabbet/rabbetref06.Same -/
def rabbetref06_Same_k1 (Φ : Calls') (s71 : List AV × AH) (L72 : (List AV × AH) → Prop) (Q : Post) : List AV → AH → Prop := fun j77 H78 =>
 Do (abin .add (sl s71.1 0) (.int .i64 1)) fun x121 =>
 L72 ([x121], H78)
def rabbetref06_Same_k2 (Φ : Calls') (s71 : List AV × AH) (L72 : (List AV × AH) → Prop) (Q : Post) : List AV → AH → Prop := fun j93 H94 =>
 Gd (sl j93 0) true (
 Q (.bool false) H94) (
 JoinP (rabbetref06_Same_k1 Φ s71 L72 Q) [] H94)
def rabbetref06_Same_k3 (Φ : Calls') (x87 : AV) (x89 : AV) (s71 : List AV × AH) (L72 : (List AV × AH) → Prop) (Q : Post) : List AV → AH → Prop := fun j107 H108 =>
 Gd3 (sl j107 0) false (
 Do (afaddr 1 x87) fun x114 =>
 Do (aload H108 6 true x114) fun x115 =>
 Do (afaddr 1 x89) fun x116 =>
 Do (aload H108 6 true x116) fun x117 =>
Φ K.rabbetref06_Same [x115, x117] H108 fun x118 H119 =>
 Do (aun .not x118) fun x120 =>
 JoinP (rabbetref06_Same_k2 Φ s71 L72 Q) [x120] H119) (
 JoinP (rabbetref06_Same_k2 Φ s71 L72 Q) [(.bool true)] H108) (
 False)
def rabbetref06_Same_k4 (Φ : Calls') (x87 : AV) (x89 : AV) (s71 : List AV × AH) (L72 : (List AV × AH) → Prop) (Q : Post) : List AV → AH → Prop := fun j95 H96 =>
 Gd3 (sl j95 0) false (
 Do (afaddr 8 x87) fun x109 =>
 Do (aload H96 1 false x109) fun x110 =>
 Do (afaddr 8 x89) fun x111 =>
 Do (aload H96 1 false x111) fun x112 =>
 Do (abin .neq x110 x112) fun x113 =>
 JoinP (rabbetref06_Same_k3 Φ x87 x89 s71 L72 Q) [x113] H96) (
 JoinP (rabbetref06_Same_k3 Φ x87 x89 s71 L72 Q) [(.bool true)] H96) (
 False)
def rabbetref06_Same_l5 (Φ : Calls') (x1 : AV) (x3 : AV) (Q : Post) : (List AV × AH) → ((List AV × AH) → Prop) → Prop := fun s71 L72 =>
 Do (afaddr 3 x1) fun x73 =>
 Do (aload s71.2 1 false x73) fun x74 =>
 Do (alen false x74) fun x75 =>
 Do (abin .lss (sl s71.1 0) x75) fun x76 =>
 Gd x76 true (
 Do (afaddr 3 x1) fun x79 =>
 Do (aload s71.2 1 false x79) fun x80 =>
 Do (aiaddr none 9 x80 (sl s71.1 0)) fun x81 =>
 Do (aload s71.2 9 true x81) fun x82 =>
 Do (afaddr 3 x3) fun x83 =>
 Do (aload s71.2 1 false x83) fun x84 =>
 Do (aiaddr none 9 x84 (sl s71.1 0)) fun x85 =>
 Do (aload s71.2 9 true x85) fun x86 =>
 DoH (some (abox s71.2 true [.str [], .int .i64 0, .int .i64 0, .bool false, .lst .nil 0 [], .int .i64 0, .lst .nil 0 [], .bool false, .int .i64 0])) fun x87 H88 =>
(aload H88 1 false x79 = some x80) ∧
(aload H88 9 true x81 = some x82) ∧
(aload H88 1 false x83 = some x84) ∧
(aload H88 9 true x85 = some x86) ∧
(DoH (some (abox H88 true [.str [], .int .i64 0, .int .i64 0, .bool false, .lst .nil 0 [], .int .i64 0, .lst .nil 0 [], .bool false, .int .i64 0])) fun x89 H90 =>
(aload H90 1 false x79 = some x80) ∧
(aload H90 9 true x81 = some x82) ∧
(aload H90 1 false x83 = some x84) ∧
(aload H90 9 true x85 = some x86) ∧
(Do (astore H90 9 x87 x82) fun H91 =>
(aload H91 1 false x83 = some x84) ∧
(aload H91 9 true x85 = some x86) ∧
(Do (astore H91 9 x89 x86) fun H92 =>
 Do (afaddr 0 x87) fun x97 =>
 Do (aload H92 1 false x97) fun x98 =>
 Do (afaddr 0 x89) fun x99 =>
 Do (aload H92 1 false x99) fun x100 =>
 Do (abin .neq x98 x100) fun x101 =>
 Gd3 x101 false (
 Do (afaddr 7 x87) fun x102 =>
 Do (aload H92 1 false x102) fun x103 =>
 Do (afaddr 7 x89) fun x104 =>
 Do (aload H92 1 false x104) fun x105 =>
 Do (abeq true x103 x105) fun x106 =>
 JoinP (rabbetref06_Same_k4 Φ x87 x89 s71 L72 Q) [x106] H92) (
 JoinP (rabbetref06_Same_k4 Φ x87 x89 s71 L72 Q) [(.bool true)] H92) (
 False))))) (
 Q (.bool true) s71.2)
def rabbetref06_Same_k6 (Φ : Calls') (x1 : AV) (x3 : AV) (Q : Post) : List AV → AH → Prop := fun j51 H52 =>
 LoopP (rabbetref06_Same_l5 Φ x1 x3 Q) ([(.int .i64 0)], H52)
def rabbetref06_Same_l7 (Φ : Calls') (x1 : AV) (x3 : AV) (Q : Post) : (List AV × AH) → ((List AV × AH) → Prop) → Prop := fun s53 L54 =>
 Do (afaddr 5 x1) fun x55 =>
 Do (aload s53.2 1 false x55) fun x56 =>
 Do (alen false x56) fun x57 =>
 Do (abin .lss (sl s53.1 0) x57) fun x58 =>
 Gd x58 true (
 Do (afaddr 5 x1) fun x59 =>
 Do (aload s53.2 1 false x59) fun x60 =>
 Do (aiaddr none 6 x60 (sl s53.1 0)) fun x61 =>
 Do (aload s53.2 6 true x61) fun x62 =>
 Do (afaddr 5 x3) fun x63 =>
 Do (aload s53.2 1 false x63) fun x64 =>
 Do (aiaddr none 6 x64 (sl s53.1 0)) fun x65 =>
 Do (aload s53.2 6 true x65) fun x66 =>
Φ K.rabbetref06_Same [x62, x66] s53.2 fun x67 H68 =>
 Do (aun .not x67) fun x69 =>
 Gd x69 true (
 Q (.bool false) H68) (
 Do (abin .add (sl s53.1 0) (.int .i64 1)) fun x70 =>
 L54 ([x70], H68))) (
 JoinP (rabbetref06_Same_k6 Φ x1 x3 Q) [] s53.2)
def rabbetref06_Same_k8 (Φ : Calls') (x1 : AV) (x3 : AV) (Q : Post) : List AV → AH → Prop := fun j5 H6 =>
 LoopP (rabbetref06_Same_l7 Φ x1 x3 Q) ([(.int .i64 0)], H6)
def rabbetref06_Same_k9 (Φ : Calls') (x1 : AV) (x3 : AV) (Q : Post) : List AV → AH → Prop := fun j7 H8 =>
 Gd (sl j7 0) true (
 Q (.bool false) H8) (
 JoinP (rabbetref06_Same_k8 Φ x1 x3 Q) [] H8)
def rabbetref06_Same_k10 (Φ : Calls') (x1 : AV) (x3 : AV) (Q : Post) : List AV → AH → Prop := fun j35 H36 =>
 Gd3 (sl j35 0) false (
 Do (afaddr 5 x1) fun x44 =>
 Do (aload H36 1 false x44) fun x45 =>
 Do (alen false x45) fun x46 =>
 Do (afaddr 5 x3) fun x47 =>
 Do (aload H36 1 false x47) fun x48 =>
 Do (alen false x48) fun x49 =>
 Do (abin .neq x46 x49) fun x50 =>
 JoinP (rabbetref06_Same_k9 Φ x1 x3 Q) [x50] H36) (
 JoinP (rabbetref06_Same_k9 Φ x1 x3 Q) [(.bool true)] H36) (
 False)
def rabbetref06_Same_k11 (Φ : Calls') (x1 : AV) (x3 : AV) (Q : Post) : List AV → AH → Prop := fun j28 H29 =>
 Gd3 (sl j28 0) false (
 Do (afaddr 3 x1) fun x37 =>
 Do (aload H29 1 false x37) fun x38 =>
 Do (alen false x38) fun x39 =>
 Do (afaddr 3 x3) fun x40 =>
 Do (aload H29 1 false x40) fun x41 =>
 Do (alen false x41) fun x42 =>
 Do (abin .neq x39 x42) fun x43 =>
 JoinP (rabbetref06_Same_k10 Φ x1 x3 Q) [x43] H29) (
 JoinP (rabbetref06_Same_k10 Φ x1 x3 Q) [(.bool true)] H29) (
 False)
def rabbetref06_Same_k12 (Φ : Calls') (x1 : AV) (x3 : AV) (Q : Post) : List AV → AH → Prop := fun j21 H22 =>
 Gd3 (sl j21 0) false (
 Do (afaddr 4 x1) fun x30 =>
 Do (aload H22 1 false x30) fun x31 =>
 Do (afaddr 4 x3) fun x32 =>
 Do (aload H22 1 false x32) fun x33 =>
 Do (abin .neq x31 x33) fun x34 =>
 JoinP (rabbetref06_Same_k11 Φ x1 x3 Q) [x34] H22) (
 JoinP (rabbetref06_Same_k11 Φ x1 x3 Q) [(.bool true)] H22) (
 False)
def rabbetref06_Same_k13 (Φ : Calls') (x1 : AV) (x3 : AV) (Q : Post) : List AV → AH → Prop := fun j9 H10 =>
 Gd3 (sl j9 0) false (
 Do (afaddr 2 x1) fun x23 =>
 Do (aload H10 1 false x23) fun x24 =>
 Do (afaddr 2 x3) fun x25 =>
 Do (aload H10 1 false x25) fun x26 =>
 Do (abeq true x24 x26) fun x27 =>
 JoinP (rabbetref06_Same_k12 Φ x1 x3 Q) [x27] H10) (
 JoinP (rabbetref06_Same_k12 Φ x1 x3 Q) [(.bool true)] H10) (
 False)
def rabbetref06_Same (Φ : Calls') (a0 : AV) (a1 : AV) (H : AH) (Q : Post) : Prop :=
 DoH (aboxv H false 6 a0) fun x1 H2 =>
 DoH (aboxv H2 false 6 a1) fun x3 H4 =>
 Do (afaddr 0 x1) fun x11 =>
 Do (aload H4 1 false x11) fun x12 =>
 Do (afaddr 0 x3) fun x13 =>
 Do (aload H4 1 false x13) fun x14 =>
 Do (abin .neq x12 x14) fun x15 =>
 Gd3 x15 false (
 Do (afaddr 1 x1) fun x16 =>
 Do (aload H4 1 false x16) fun x17 =>
 Do (afaddr 1 x3) fun x18 =>
 Do (aload H4 1 false x18) fun x19 =>
 Do (abin .neq x17 x19) fun x20 =>
 JoinP (rabbetref06_Same_k13 Φ x1 x3 Q) [x20] H4) (
 JoinP (rabbetref06_Same_k13 Φ x1 x3 Q) [(.bool true)] H4) (
 False)
def ir_rabbetref06_Same : AFunc := ⟨116, [.tmp 4],
 .seq (.region [
   ⟨some 2, .box false 6 (.t 0), none⟩,
   ⟨some 3, .box false 6 (.t 1), none⟩,
   ⟨some 4, .mv (.k (.bool false)), none⟩])
 (.join [] [4, 9, 10, 11, 12, 13, 14, 15, 16, 17, 18, 19, 20, 21, 22, 23, 24, 25, 26, 27, 28, 29, 30, 31, 32, 33, 34, 35, 36, 37, 38, 39, 40, 41, 42, 43, 44, 45, 46, 47, 48, 49, 50, 51, 52] (.join [52] [9, 10, 11, 12, 13, 14, 15, 16, 17, 18, 19, 20, 21, 22, 23, 24, 25, 26, 27, 28, 29, 30, 31, 32, 33, 34, 35, 36, 37, 38, 39, 40, 41, 42, 43, 44, 45, 46, 47, 48, 49, 50, 51] (.rjoin [20] [9, 10, 11, 12, 13, 14, 15, 16, 17, 18, 19] [
   ⟨some 9, .faddr 0 (.t 2), none⟩,
   ⟨some 10, .load 1 false (.t 9), none⟩,
   ⟨some 11, .faddr 0 (.t 3), none⟩,
   ⟨some 12, .load 1 false (.t 11), none⟩,
   ⟨some 13, .bin .neq (.t 10) (.t 12), none⟩,
   ⟨some 14, .mv (.t 13), none⟩,
   ⟨some 15, .faddr 1 (.t 2), some (14, false)⟩,
   ⟨some 16, .load 1 false (.t 15), some (14, false)⟩,
   ⟨some 17, .faddr 1 (.t 3), some (14, false)⟩,
   ⟨some 18, .load 1 false (.t 17), some (14, false)⟩,
   ⟨some 19, .bin .neq (.t 16) (.t 18), some (14, false)⟩,
   ⟨some 20, .pick (.t 14) (.k (.bool true)) (.t 19), none⟩]
 (.rjoin [27] [21, 22, 23, 24, 25, 26] [
   ⟨some 21, .mv (.t 20), none⟩,
   ⟨some 22, .faddr 2 (.t 2), some (21, false)⟩,
   ⟨some 23, .load 1 false (.t 22), some (21, false)⟩,
   ⟨some 24, .faddr 2 (.t 3), some (21, false)⟩,
   ⟨some 25, .load 1 false (.t 24), some (21, false)⟩,
   ⟨some 26, .beq true (.t 23) (.t 25), some (21, false)⟩,
   ⟨some 27, .pick (.t 21) (.k (.bool true)) (.t 26), none⟩]
 (.rjoin [34] [28, 29, 30, 31, 32, 33] [
   ⟨some 28, .mv (.t 27), none⟩,
   ⟨some 29, .faddr 4 (.t 2), some (28, false)⟩,
   ⟨some 30, .load 1 false (.t 29), some (28, false)⟩,
   ⟨some 31, .faddr 4 (.t 3), some (28, false)⟩,
   ⟨some 32, .load 1 false (.t 31), some (28, false)⟩,
   ⟨some 33, .bin .neq (.t 30) (.t 32), some (28, false)⟩,
   ⟨some 34, .pick (.t 28) (.k (.bool true)) (.t 33), none⟩]
 (.rjoin [43] [35, 36, 37, 38, 39, 40, 41, 42] [
   ⟨some 35, .mv (.t 34), none⟩,
   ⟨some 36, .faddr 3 (.t 2), some (35, false)⟩,
   ⟨some 37, .load 1 false (.t 36), some (35, false)⟩,
   ⟨some 38, .len false (.t 37), some (35, false)⟩,
   ⟨some 39, .faddr 3 (.t 3), some (35, false)⟩,
   ⟨some 40, .load 1 false (.t 39), some (35, false)⟩,
   ⟨some 41, .len false (.t 40), some (35, false)⟩,
   ⟨some 42, .bin .neq (.t 38) (.t 41), some (35, false)⟩,
   ⟨some 43, .pick (.t 35) (.k (.bool true)) (.t 42), none⟩]
 (.region [
   ⟨some 44, .mv (.t 43), none⟩,
   ⟨some 45, .faddr 5 (.t 2), some (44, false)⟩,
   ⟨some 46, .load 1 false (.t 45), some (44, false)⟩,
   ⟨some 47, .len false (.t 46), some (44, false)⟩,
   ⟨some 48, .faddr 5 (.t 3), some (44, false)⟩,
   ⟨some 49, .load 1 false (.t 48), some (44, false)⟩,
   ⟨some 50, .len false (.t 49), some (44, false)⟩,
   ⟨some 51, .bin .neq (.t 47) (.t 50), some (44, false)⟩,
   ⟨some 52, .pick (.t 44) (.k (.bool true)) (.t 51), none⟩])))))
 (.cond (.t 52) (.seq (.region [
     ⟨some 4, .mv (.k (.bool false)), none⟩])
   (.ret))
   (.skip)))
 (.join [] [4, 5, 53, 54, 55, 56, 57, 58, 59, 60, 61, 62, 63, 64, 65, 66, 67, 68, 69, 70, 71] (.seq (.region [
   ⟨some 5, .mv (.k (.int .i64 0)), none⟩])
 (.block 0 (.loop [5] [4, 53, 54, 55, 56, 57, 58, 59, 60, 61, 62, 63, 64, 65, 66, 67, 68, 69, 70, 71] (.seq (.seq (.region [
   ⟨some 53, .mv (.t 5), none⟩,
   ⟨some 54, .faddr 5 (.t 2), none⟩,
   ⟨some 55, .load 1 false (.t 54), none⟩,
   ⟨some 56, .len false (.t 55), none⟩,
   ⟨some 57, .bin .lss (.t 53) (.t 56), none⟩])
 (.cond (.t 57) (.skip)
   (.exit 0)))
 (.seq (.block 1 (.seq (.draw [
   ⟨some 60, .faddr 5 (.t 2), none⟩,
   ⟨some 61, .load 1 false (.t 60), none⟩,
   ⟨some 62, .mv (.t 5), none⟩,
   ⟨some 63, .iaddr none 6 (.t 61) (.t 62), none⟩,
   ⟨some 64, .load 6 true (.t 63), none⟩,
   ⟨some 65, .faddr 5 (.t 3), none⟩,
   ⟨some 66, .load 1 false (.t 65), none⟩,
   ⟨some 67, .mv (.t 5), none⟩,
   ⟨some 68, .iaddr none 6 (.t 66) (.t 67), none⟩,
   ⟨some 69, .load 6 true (.t 68), none⟩,
   ⟨some 70, .call K.rabbetref06_Same [(.t 64), (.t 69)], none⟩,
   ⟨some 71, .un .not (.t 70), none⟩]
 [[], [0], [], [0, 1, 2], [0, 1, 2, 3], [], [5], [], [5, 6, 7], [5, 6, 7, 8], [0, 1, 2, 3, 4, 5, 6, 7, 8, 9], [0, 1, 2, 3, 4, 5, 6, 7, 8, 9, 10]] [([0, 1, 2, 3, 4, 5, 6, 7, 8, 9], 10, [])] [11])
 (.cond (.t 71) (.seq (.region [
     ⟨some 4, .mv (.k (.bool false)), none⟩])
   (.ret))
   (.skip))))
 (.region [
   ⟨some 58, .mv (.t 5), none⟩,
   ⟨some 59, .bin .add (.t 58) (.k (.int .i64 1)), none⟩,
   ⟨some 5, .mv (.t 59), none⟩]))))))
 (.seq (.seq (.region [
   ⟨some 6, .mv (.k (.int .i64 0)), none⟩])
 (.block 2 (.loop [6] [4, 7, 8, 72, 73, 74, 75, 76, 77, 78, 79, 80, 81, 82, 83, 84, 85, 86, 87, 88, 89, 90, 91, 92, 93, 94, 95, 96, 97, 98, 99, 100, 101, 102, 103, 104, 105, 106, 107, 108, 109, 110, 111, 112, 113, 114, 115] (.seq (.seq (.region [
   ⟨some 72, .mv (.t 6), none⟩,
   ⟨some 73, .faddr 3 (.t 2), none⟩,
   ⟨some 74, .load 1 false (.t 73), none⟩,
   ⟨some 75, .len false (.t 74), none⟩,
   ⟨some 76, .bin .lss (.t 72) (.t 75), none⟩])
 (.cond (.t 76) (.skip)
   (.exit 2)))
 (.join [] [4, 7, 8, 79, 80, 81, 82, 83, 84, 85, 86, 87, 88, 89, 90, 91, 92, 93, 94, 95, 96, 97, 98, 99, 100, 101, 102, 103, 104, 105, 106, 107, 108, 109, 110, 111, 112, 113, 114, 115] (.block 3 (.seq (.draw [
   ⟨some 79, .faddr 3 (.t 2), none⟩,
   ⟨some 80, .load 1 false (.t 79), none⟩,
   ⟨some 81, .mv (.t 6), none⟩,
   ⟨some 82, .iaddr none 9 (.t 80) (.t 81), none⟩,
   ⟨some 83, .load 9 true (.t 82), none⟩,
   ⟨some 84, .faddr 3 (.t 3), none⟩,
   ⟨some 85, .load 1 false (.t 84), none⟩,
   ⟨some 86, .mv (.t 6), none⟩,
   ⟨some 87, .iaddr none 9 (.t 85) (.t 86), none⟩,
   ⟨some 88, .load 9 true (.t 87), none⟩,
   ⟨some 7, .alloc true [.str [], .int .i64 0, .int .i64 0, .bool false, .lst .nil 0 [], .int .i64 0, .lst .nil 0 [], .bool false, .int .i64 0], none⟩,
   ⟨some 8, .alloc true [.str [], .int .i64 0, .int .i64 0, .bool false, .lst .nil 0 [], .int .i64 0, .lst .nil 0 [], .bool false, .int .i64 0], none⟩,
   ⟨none, .store 9 (.t 7) (.t 83), none⟩,
   ⟨none, .store 9 (.t 8) (.t 88), none⟩]
 [[], [0], [], [0, 1, 2], [0, 1, 2, 3], [], [5], [], [5, 6, 7], [5, 6, 7, 8], [], [], [0, 1, 2, 3, 4, 10, 11], [0, 1, 2, 3, 4, 5, 6, 7, 8, 9, 10, 11, 12]] [([0, 1, 2, 3, 4, 5, 6, 7, 8, 9], 10, [1, 4, 6, 9]), ([], 11, [1, 4, 6, 9]), ([], 12, [6, 9]), ([], 13, [])] [])
 (.join [115] [89, 90, 91, 92, 93, 94, 95, 96, 97, 98, 99, 100, 101, 102, 103, 104, 105, 106, 107, 108, 109, 110, 111, 112, 113, 114] (.rjoin [100] [89, 90, 91, 92, 93, 94, 95, 96, 97, 98, 99] [
   ⟨some 89, .faddr 0 (.t 7), none⟩,
   ⟨some 90, .load 1 false (.t 89), none⟩,
   ⟨some 91, .faddr 0 (.t 8), none⟩,
   ⟨some 92, .load 1 false (.t 91), none⟩,
   ⟨some 93, .bin .neq (.t 90) (.t 92), none⟩,
   ⟨some 94, .mv (.t 93), none⟩,
   ⟨some 95, .faddr 7 (.t 7), some (94, false)⟩,
   ⟨some 96, .load 1 false (.t 95), some (94, false)⟩,
   ⟨some 97, .faddr 7 (.t 8), some (94, false)⟩,
   ⟨some 98, .load 1 false (.t 97), some (94, false)⟩,
   ⟨some 99, .beq true (.t 96) (.t 98), some (94, false)⟩,
   ⟨some 100, .pick (.t 94) (.k (.bool true)) (.t 99), none⟩]
 (.rjoin [107] [101, 102, 103, 104, 105, 106] [
   ⟨some 101, .mv (.t 100), none⟩,
   ⟨some 102, .faddr 8 (.t 7), some (101, false)⟩,
   ⟨some 103, .load 1 false (.t 102), some (101, false)⟩,
   ⟨some 104, .faddr 8 (.t 8), some (101, false)⟩,
   ⟨some 105, .load 1 false (.t 104), some (101, false)⟩,
   ⟨some 106, .bin .neq (.t 103) (.t 105), some (101, false)⟩,
   ⟨some 107, .pick (.t 101) (.k (.bool true)) (.t 106), none⟩]
 (.region [
   ⟨some 108, .mv (.t 107), none⟩,
   ⟨some 109, .faddr 1 (.t 7), some (108, false)⟩,
   ⟨some 110, .load 6 true (.t 109), some (108, false)⟩,
   ⟨some 111, .faddr 1 (.t 8), some (108, false)⟩,
   ⟨some 112, .load 6 true (.t 111), some (108, false)⟩,
   ⟨some 113, .call K.rabbetref06_Same [(.t 110), (.t 112)], some (108, false)⟩,
   ⟨some 114, .un .not (.t 113), some (108, false)⟩,
   ⟨some 115, .pick (.t 108) (.k (.bool true)) (.t 114), none⟩])))
 (.cond (.t 115) (.seq (.region [
     ⟨some 4, .mv (.k (.bool false)), none⟩])
   (.ret))
   (.skip)))))
 (.region [
   ⟨some 77, .mv (.t 6), none⟩,
   ⟨some 78, .bin .add (.t 77) (.k (.int .i64 1)), none⟩,
   ⟨some 6, .mv (.t 78), none⟩]))))))
 (.seq (.region [
   ⟨some 4, .mv (.k (.bool true)), none⟩])
 (.ret)))))⟩
theorem eq_rabbetref06_Same (Φ : Calls') (a0 a1 : AV) (H : AH) (Q : Post) : fnE1 Φ ir_rabbetref06_Same [a0, a1] H Q = rabbetref06_Same Φ a0 a1 H Q := by kernel_rfl

/-! rabbet/check.Order -/
def check_Order_k1 (Φ : Calls') (a1 : AV) (Q : Post) : List AV → AH → Prop := fun j6 H7 =>
 Gd3 (sl j6 0) false (
 Do (abin .eql a1 (.int .i64 4)) fun x10 =>
 Q x10 H7) (
 Q (.bool true) H7) (
 False)
def check_Order_k2 (Φ : Calls') (a1 : AV) (Q : Post) : List AV → AH → Prop := fun j14 H15 =>
 Gd3 (sl j14 0) false (
 Do (abin .eql a1 (.int .i64 4)) fun x18 =>
 Q x18 H15) (
 Q (.bool true) H15) (
 False)
def check_Order_k3 (Φ : Calls') (a1 : AV) (Q : Post) : List AV → AH → Prop := fun j1 H2 =>
 Do (abin .eql a1 (.int .i64 0)) fun x27 =>
 Q x27 H2
def check_Order_k4 (Φ : Calls') (a0 : AV) (a1 : AV) (Q : Post) : List AV → AH → Prop := fun j19 H20 =>
 Gd (sl j19 0) true (
 Do (abin .geq a1 (.int .i64 1)) fun x22 =>
 Gd3 x22 true (
 Do (abin .leq a1 (.int .i64 4)) fun x23 =>
 Q x23 H20) (
 Q (.bool false) H20) (
 False)) (
 Do (abin .eql a0 (.int .i64 7)) fun x24 =>
 Gd x24 true (
 Do (abin .geq a1 (.int .i64 2)) fun x25 =>
 Gd3 x25 true (
 Do (abin .leq a1 (.int .i64 4)) fun x26 =>
 Q x26 H20) (
 Q (.bool false) H20) (
 False)) (
 JoinP (check_Order_k3 Φ a1 Q) [] H20))
def check_Order_k5 (Φ : Calls') (a0 : AV) (a1 : AV) (Q : Post) : List AV → AH → Prop := fun j11 H12 =>
 Gd (sl j11 0) true (
 Do (abin .eql a1 (.int .i64 1)) fun x16 =>
 Gd3 x16 false (
 Do (abin .eql a1 (.int .i64 2)) fun x17 =>
 JoinP (check_Order_k2 Φ a1 Q) [x17] H12) (
 JoinP (check_Order_k2 Φ a1 Q) [(.bool true)] H12) (
 False)) (
 Do (abin .eql a0 (.int .i64 16)) fun x21 =>
 Gd x21 true (
 JoinP (check_Order_k4 Φ a0 a1 Q) [x21] H12) (
 Do (abin .eql a0 (.int .i64 17)) fun x28 =>
 Gd x28 true (
 JoinP (check_Order_k4 Φ a0 a1 Q) [x28] H12) (
 Do (abin .eql a0 (.int .i64 18)) fun x29 =>
 JoinP (check_Order_k4 Φ a0 a1 Q) [x29] H12)))
def check_Order_k6 (Φ : Calls') (a0 : AV) (a1 : AV) (Q : Post) : List AV → AH → Prop := fun j3 H4 =>
 Gd (sl j3 0) true (
 Do (abin .eql a1 (.int .i64 1)) fun x8 =>
 Gd3 x8 false (
 Do (abin .eql a1 (.int .i64 3)) fun x9 =>
 JoinP (check_Order_k1 Φ a1 Q) [x9] H4) (
 JoinP (check_Order_k1 Φ a1 Q) [(.bool true)] H4) (
 False)) (
 Do (abin .eql a0 (.int .i64 5)) fun x13 =>
 Gd x13 true (
 JoinP (check_Order_k5 Φ a0 a1 Q) [x13] H4) (
 Do (abin .eql a0 (.int .i64 15)) fun x30 =>
 JoinP (check_Order_k5 Φ a0 a1 Q) [x30] H4))
def check_Order (Φ : Calls') (a0 : AV) (a1 : AV) (H : AH) (Q : Post) : Prop :=
 Do (abin .eql a0 (.int .i64 4)) fun x5 =>
 Gd x5 true (
 JoinP (check_Order_k6 Φ a0 a1 Q) [x5] H) (
 Do (abin .eql a0 (.int .i64 6)) fun x31 =>
 JoinP (check_Order_k6 Φ a0 a1 Q) [x31] H)
def ir_check_Order : AFunc := ⟨52, [.tmp 4],
 .seq (.region [
   ⟨some 4, .mv (.k (.bool false)), none⟩])
 (.join [] [4, 5, 6, 7, 8, 9, 10, 11, 12, 13, 14, 15, 16, 17, 18, 19, 20, 21, 22, 23, 24, 25, 26, 27, 28, 29, 30, 31, 32, 33, 34, 35, 36, 37, 38, 39, 40, 41, 42, 43, 44, 45, 46, 47, 48, 49] (.seq (.region [
   ⟨some 5, .mv (.t 0), none⟩])
 (.block 0 (.join [6] [7, 8] (.seq (.region [
   ⟨some 7, .bin .eql (.t 5) (.k (.int .i64 4)), none⟩,
   ⟨some 6, .mv (.t 7), none⟩])
 (.cond (.t 6) (.skip)
   (.region [
     ⟨some 8, .bin .eql (.t 5) (.k (.int .i64 6)), none⟩,
     ⟨some 6, .mv (.t 8), none⟩])))
 (.cond (.t 6) (.seq (.rjoin [14] [9, 10, 11, 12, 13] [
     ⟨some 9, .mv (.t 1), none⟩,
     ⟨some 10, .bin .eql (.t 9) (.k (.int .i64 1)), none⟩,
     ⟨some 11, .mv (.t 10), none⟩,
     ⟨some 12, .mv (.t 1), some (11, false)⟩,
     ⟨some 13, .bin .eql (.t 12) (.k (.int .i64 3)), some (11, false)⟩,
     ⟨some 14, .pick (.t 11) (.k (.bool true)) (.t 13), none⟩]
   (.region [
     ⟨some 15, .mv (.t 14), none⟩,
     ⟨some 16, .mv (.t 1), some (15, false)⟩,
     ⟨some 17, .bin .eql (.t 16) (.k (.int .i64 4)), some (15, false)⟩,
     ⟨some 18, .pick (.t 15) (.k (.bool true)) (.t 17), none⟩,
     ⟨some 4, .mv (.t 18), none⟩]))
   (.ret))
   (.join [19] [20, 21] (.seq (.region [
     ⟨some 20, .bin .eql (.t 5) (.k (.int .i64 5)), none⟩,
     ⟨some 19, .mv (.t 20), none⟩])
   (.cond (.t 19) (.skip)
     (.region [
       ⟨some 21, .bin .eql (.t 5) (.k (.int .i64 15)), none⟩,
       ⟨some 19, .mv (.t 21), none⟩])))
   (.cond (.t 19) (.seq (.rjoin [27] [22, 23, 24, 25, 26] [
       ⟨some 22, .mv (.t 1), none⟩,
       ⟨some 23, .bin .eql (.t 22) (.k (.int .i64 1)), none⟩,
       ⟨some 24, .mv (.t 23), none⟩,
       ⟨some 25, .mv (.t 1), some (24, false)⟩,
       ⟨some 26, .bin .eql (.t 25) (.k (.int .i64 2)), some (24, false)⟩,
       ⟨some 27, .pick (.t 24) (.k (.bool true)) (.t 26), none⟩]
     (.region [
       ⟨some 28, .mv (.t 27), none⟩,
       ⟨some 29, .mv (.t 1), some (28, false)⟩,
       ⟨some 30, .bin .eql (.t 29) (.k (.int .i64 4)), some (28, false)⟩,
       ⟨some 31, .pick (.t 28) (.k (.bool true)) (.t 30), none⟩,
       ⟨some 4, .mv (.t 31), none⟩]))
     (.ret))
     (.join [32] [33, 34, 35] (.seq (.region [
       ⟨some 33, .bin .eql (.t 5) (.k (.int .i64 16)), none⟩,
       ⟨some 32, .mv (.t 33), none⟩])
     (.cond (.t 32) (.skip)
       (.seq (.region [
         ⟨some 34, .bin .eql (.t 5) (.k (.int .i64 17)), none⟩,
         ⟨some 32, .mv (.t 34), none⟩])
       (.cond (.t 32) (.skip)
         (.region [
           ⟨some 35, .bin .eql (.t 5) (.k (.int .i64 18)), none⟩,
           ⟨some 32, .mv (.t 35), none⟩])))))
     (.cond (.t 32) (.seq (.region [
         ⟨some 36, .mv (.t 1), none⟩,
         ⟨some 37, .bin .geq (.t 36) (.k (.int .i64 1)), none⟩,
         ⟨some 38, .mv (.t 37), none⟩,
         ⟨some 39, .mv (.t 1), some (38, true)⟩,
         ⟨some 40, .bin .leq (.t 39) (.k (.int .i64 4)), some (38, true)⟩,
         ⟨some 41, .pick (.t 38) (.t 40) (.k (.bool false)), none⟩,
         ⟨some 4, .mv (.t 41), none⟩])
       (.ret))
       (.seq (.region [
         ⟨some 43, .bin .eql (.t 5) (.k (.int .i64 7)), none⟩,
         ⟨some 42, .mv (.t 43), none⟩])
       (.cond (.t 42) (.seq (.region [
           ⟨some 44, .mv (.t 1), none⟩,
           ⟨some 45, .bin .geq (.t 44) (.k (.int .i64 2)), none⟩,
           ⟨some 46, .mv (.t 45), none⟩,
           ⟨some 47, .mv (.t 1), some (46, true)⟩,
           ⟨some 48, .bin .leq (.t 47) (.k (.int .i64 4)), some (46, true)⟩,
           ⟨some 49, .pick (.t 46) (.t 48) (.k (.bool false)), none⟩,
           ⟨some 4, .mv (.t 49), none⟩])
         (.ret))
         (.skip)))))))))))
 (.seq (.region [
   ⟨some 50, .mv (.t 1), none⟩,
   ⟨some 51, .bin .eql (.t 50) (.k (.int .i64 0)), none⟩,
   ⟨some 4, .mv (.t 51), none⟩])
 (.ret)))⟩
theorem eq_check_Order (Φ : Calls') (a0 a1 : AV) (H : AH) (Q : Post) : fnE1 Φ ir_check_Order [a0, a1] H Q = check_Order Φ a0 a1 H Q := by kernel_rfl

/-! rabbet/check.Prog -/
def check_Prog_k1 (Φ : Calls') (x3 : AV) (Q : Post) : List AV → AH → Prop := fun j34 H35 =>
 Do (abuild [.int .i64 0, .int .i64 0] []) fun x59 =>
 Do (astore H35 2 x3 x59) fun H60 =>
 Do (aload H60 2 true x3) fun x61 =>
 Q x61 H60
def check_Prog_l2 (Φ : Calls') (x1 : AV) (x3 : AV) (x37 : AV) (x38 : AV) (Q : Post) : (List AV × AH) → ((List AV × AH) → Prop) → Prop := fun s39 L40 =>
 Do (abin .lss (sl s39.1 0) x38) fun x41 =>
 Gd x41 true (
 Do (aiaddr none 1 x37 (sl s39.1 0)) fun x42 =>
 Do (aload s39.2 1 false x42) fun x43 =>
 Do (afaddr 0 x1) fun x44 =>
 Do (aload s39.2 1 false x44) fun x45 =>
 Do (abuild [.lst .nil 0 [], .lst .nil 0 [], .int .i64 0, .int .i64 0, .int .i64 0, .int .i64 0] [(0, 1, x45)]) fun x46 =>
 DoH (aboxv s39.2 true 6 x46) fun x47 H48 =>
Φ K.check_checker_block [x47, x43, (.int .i64 1)] H48 fun x49 H50 =>
Φ K.check_checker_bad [x47] H50 fun x51 H52 =>
 Gd x51 true (
 Do (anilck x47) fun x53 =>
 Do (afaddr 4 x53) fun x54 =>
 Do (aload H52 2 true x54) fun x55 =>
 Do (astore H52 2 x3 x55) fun H56 =>
 Do (aload H56 2 true x3) fun x57 =>
 Q x57 H56) (
 Do (abin .add (sl s39.1 0) (.int .i64 1)) fun x58 =>
 L40 ([x58], H52))) (
 JoinP (check_Prog_k1 Φ x3 Q) [] s39.2)
def check_Prog_k3 (Φ : Calls') (x1 : AV) (x3 : AV) (Q : Post) : List AV → AH → Prop := fun j5 H6 =>
 Do (afaddr 0 x1) fun x26 =>
 Do (aload H6 1 false x26) fun x27 =>
Φ K.check_vars [x27] H6 fun x28 H29 =>
 Do (abin .neq x28 (.int .i64 0)) fun x30 =>
 Gd x30 true (
 Do (abuild [.int .i64 0, .int .i64 0] [(1, 1, x28)]) fun x31 =>
 Do (astore H29 2 x3 x31) fun H32 =>
 Do (aload H32 2 true x3) fun x33 =>
 Q x33 H32) (
 Do (afaddr 1 x1) fun x36 =>
 Do (aload H29 1 false x36) fun x37 =>
 Do (alen false x37) fun x38 =>
 LoopP (check_Prog_l2 Φ x1 x3 x37 x38 Q) ([(.int .i64 0)], H29))
def check_Prog_k4 (Φ : Calls') (x1 : AV) (x3 : AV) (Q : Post) : List AV → AH → Prop := fun j7 H8 =>
 Gd (sl j7 0) true (
 Do (abuild [.int .i64 0, .int .i64 0] [(1, 1, (.int .i64 12))]) fun x23 =>
 Do (astore H8 2 x3 x23) fun H24 =>
 Do (aload H24 2 true x3) fun x25 =>
 Q x25 H24) (
 JoinP (check_Prog_k3 Φ x1 x3 Q) [] H8)
def check_Prog_k5 (Φ : Calls') (x1 : AV) (x3 : AV) (Q : Post) : List AV → AH → Prop := fun j9 H10 =>
 Gd3 (sl j9 0) false (
 Do (afaddr 1 x1) fun x19 =>
 Do (aload H10 1 false x19) fun x20 =>
 Do (alen false x20) fun x21 =>
 Do (abin .gtr x21 (.int .i64 8)) fun x22 =>
 JoinP (check_Prog_k4 Φ x1 x3 Q) [x22] H10) (
 JoinP (check_Prog_k4 Φ x1 x3 Q) [(.bool true)] H10) (
 False)
def check_Prog (Φ : Calls') (a0 : AV) (H : AH) (Q : Post) : Prop :=
 DoH (aboxv H false 2 a0) fun x1 H2 =>
 DoH (some (abox H2 true [.int .i64 0, .int .i64 0])) fun x3 H4 =>
 Do (afaddr 0 x1) fun x11 =>
 Do (aload H4 1 false x11) fun x12 =>
 Do (alen false x12) fun x13 =>
 Do (abin .gtr x13 (.int .i64 32)) fun x14 =>
 Gd3 x14 false (
 Do (afaddr 1 x1) fun x15 =>
 Do (aload H4 1 false x15) fun x16 =>
 Do (alen false x16) fun x17 =>
 Do (abin .lss x17 (.int .i64 1)) fun x18 =>
 JoinP (check_Prog_k5 Φ x1 x3 Q) [x18] H4) (
 JoinP (check_Prog_k5 Φ x1 x3 Q) [(.bool true)] H4) (
 False)
def ir_check_Prog : AFunc := ⟨53, [.cell 2 2 true],
 .seq (.region [
   ⟨some 1, .box false 2 (.t 0), none⟩,
   ⟨some 2, .alloc true [.int .i64 0, .int .i64 0], none⟩])
 (.join [] [7, 8, 9, 10, 11, 12, 13, 14, 15, 16, 17, 18, 19, 20, 21, 22, 23] (.join [22] [7, 8, 9, 10, 11, 12, 13, 14, 15, 16, 17, 18, 19, 20, 21] (.rjoin [16] [7, 8, 9, 10, 11, 12, 13, 14, 15] [
   ⟨some 7, .faddr 0 (.t 1), none⟩,
   ⟨some 8, .load 1 false (.t 7), none⟩,
   ⟨some 9, .len false (.t 8), none⟩,
   ⟨some 10, .bin .gtr (.t 9) (.k (.int .i64 32)), none⟩,
   ⟨some 11, .mv (.t 10), none⟩,
   ⟨some 12, .faddr 1 (.t 1), some (11, false)⟩,
   ⟨some 13, .load 1 false (.t 12), some (11, false)⟩,
   ⟨some 14, .len false (.t 13), some (11, false)⟩,
   ⟨some 15, .bin .lss (.t 14) (.k (.int .i64 1)), some (11, false)⟩,
   ⟨some 16, .pick (.t 11) (.k (.bool true)) (.t 15), none⟩]
 (.region [
   ⟨some 17, .mv (.t 16), none⟩,
   ⟨some 18, .faddr 1 (.t 1), some (17, false)⟩,
   ⟨some 19, .load 1 false (.t 18), some (17, false)⟩,
   ⟨some 20, .len false (.t 19), some (17, false)⟩,
   ⟨some 21, .bin .gtr (.t 20) (.k (.int .i64 8)), some (17, false)⟩,
   ⟨some 22, .pick (.t 17) (.k (.bool true)) (.t 21), none⟩]))
 (.cond (.t 22) (.seq (.region [
     ⟨some 23, .build [.int .i64 0, .int .i64 0] [(1, 1, (.k (.int .i64 12)))], none⟩,
     ⟨none, .store 2 (.t 2) (.t 23), none⟩])
   (.ret))
   (.skip)))
 (.seq (.seq (.region [
   ⟨some 24, .faddr 0 (.t 1), none⟩,
   ⟨some 25, .load 1 false (.t 24), none⟩,
   ⟨some 26, .call K.check_vars [(.t 25)], none⟩,
   ⟨some 3, .mv (.t 26), none⟩])
 (.seq (.region [
   ⟨some 27, .mv (.t 3), none⟩,
   ⟨some 28, .bin .neq (.t 27) (.k (.int .i64 0)), none⟩])
 (.cond (.t 28) (.seq (.region [
     ⟨some 29, .mv (.t 3), none⟩,
     ⟨some 30, .build [.int .i64 0, .int .i64 0] [(1, 1, (.t 29))], none⟩,
     ⟨none, .store 2 (.t 2) (.t 30), none⟩])
   (.ret))
   (.skip))))
 (.join [] [5, 6, 31, 32, 33, 34, 35, 36, 37, 38, 39, 40, 41, 42, 43, 44, 45, 46, 47, 48, 49, 50, 51] (.seq (.region [
   ⟨some 31, .faddr 1 (.t 1), none⟩,
   ⟨some 32, .load 1 false (.t 31), none⟩,
   ⟨some 33, .len false (.t 32), none⟩,
   ⟨some 34, .mv (.k (.int .i64 0)), none⟩])
 (.block 0 (.loop [34] [5, 6, 35, 36, 37, 38, 39, 40, 41, 42, 43, 44, 45, 46, 47, 48, 49, 50, 51] (.seq (.region [
   ⟨some 35, .bin .lss (.t 34) (.t 33), none⟩])
 (.seq (.cond (.t 35) (.skip)
   (.exit 0))
 (.seq (.block 1 (.seq (.region [
   ⟨some 36, .iaddr none 1 (.t 32) (.t 34), none⟩,
   ⟨some 37, .load 1 false (.t 36), none⟩,
   ⟨some 5, .mv (.t 37), none⟩])
 (.seq (.region [
   ⟨some 38, .faddr 0 (.t 1), none⟩,
   ⟨some 39, .load 1 false (.t 38), none⟩,
   ⟨some 40, .build [.lst .nil 0 [], .lst .nil 0 [], .int .i64 0, .int .i64 0, .int .i64 0, .int .i64 0] [(0, 1, (.t 39))], none⟩,
   ⟨some 41, .box true 6 (.t 40), none⟩,
   ⟨some 6, .mv (.t 41), none⟩])
 (.seq (.region [
   ⟨some 42, .mv (.t 6), none⟩,
   ⟨some 43, .mv (.t 5), none⟩,
   ⟨some 44, .call K.check_checker_block [(.t 42), (.t 43), (.k (.int .i64 1))], none⟩])
 (.seq (.region [
   ⟨some 45, .mv (.t 6), none⟩,
   ⟨some 46, .call K.check_checker_bad [(.t 45)], none⟩])
 (.cond (.t 46) (.seq (.region [
     ⟨some 47, .mv (.t 6), none⟩,
     ⟨some 48, .nilck (.t 47), none⟩,
     ⟨some 49, .faddr 4 (.t 48), none⟩,
     ⟨some 50, .load 2 true (.t 49), none⟩,
     ⟨none, .store 2 (.t 2) (.t 50), none⟩])
   (.ret))
   (.skip)))))))
 (.region [
   ⟨some 51, .bin .add (.t 34) (.k (.int .i64 1)), none⟩,
   ⟨some 34, .mv (.t 51), none⟩])))))))
 (.seq (.region [
   ⟨some 52, .build [.int .i64 0, .int .i64 0] [], none⟩,
   ⟨none, .store 2 (.t 2) (.t 52), none⟩])
 (.ret)))))⟩
theorem eq_check_Prog (Φ : Calls') (a0 : AV) (H : AH) (Q : Post) : fnE1 Φ ir_check_Prog [a0] H Q = check_Prog Φ a0 H Q := by kernel_rfl

/-! rabbet/rabbetlaw11.places -/
def rabbetlaw11_places_k1 (Φ : Calls') (s7 : List AV × AH) (L8 : (List AV × AH) → Prop) (Q : Post) : List AV → AH → Prop := fun j9 H10 =>
 Do (abin .add (sl s7.1 0) (.int .i64 1)) fun x18 =>
 Do (abin .add (sl s7.1 1) (.int .i64 1)) fun x19 =>
 L8 ([x18, x19], H10)
def rabbetlaw11_places_k2 (Φ : Calls') (s1 : List AV × AH) (L2 : (List AV × AH) → Prop) (Q : Post) : List AV → AH → Prop := fun j5 H6 =>
 Do (abin .add (sl s1.1 1) (.int .i64 1)) fun x20 =>
 L2 ([(sl j5 0), x20], H6)
def rabbetlaw11_places_k3 (Φ : Calls') (s1 : List AV × AH) (L2 : (List AV × AH) → Prop) (s7 : List AV × AH) (L8 : (List AV × AH) → Prop) (Q : Post) : List AV → AH → Prop := fun j11 H12 =>
 Gd (sl j11 0) true (
 JoinP (rabbetlaw11_places_k1 Φ s7 L8 Q) [] H12) (
 JoinP (rabbetlaw11_places_k2 Φ s1 L2 Q) [(sl s7.1 0)] H12)
def rabbetlaw11_places_l4 (Φ : Calls') (a0 : AV) (a1 : AV) (s1 : List AV × AH) (L2 : (List AV × AH) → Prop) (Q : Post) : (List AV × AH) → ((List AV × AH) → Prop) → Prop := fun s7 L8 =>
 Do (aiaddr none 1 a0 (sl s1.1 1)) fun x13 =>
 Do (aload s7.2 1 false x13) fun x14 =>
 Do (alen false x14) fun x15 =>
 Do (abin .lss (sl s7.1 1) x15) fun x16 =>
 Gd3 x16 true (
 Do (abin .lss (sl s7.1 0) a1) fun x17 =>
 JoinP (rabbetlaw11_places_k3 Φ s1 L2 s7 L8 Q) [x17] s7.2) (
 JoinP (rabbetlaw11_places_k3 Φ s1 L2 s7 L8 Q) [(.bool false)] s7.2) (
 False)
def rabbetlaw11_places_l5 (Φ : Calls') (a0 : AV) (a1 : AV) (Q : Post) : (List AV × AH) → ((List AV × AH) → Prop) → Prop := fun s1 L2 =>
 Do (alen false a0) fun x3 =>
 Do (abin .lss (sl s1.1 1) x3) fun x4 =>
 Gd x4 true (
 LoopP (rabbetlaw11_places_l4 Φ a0 a1 s1 L2 Q) ([(sl s1.1 0), (.int .i64 0)], s1.2)) (
 Q (sl s1.1 0) s1.2)
def rabbetlaw11_places (Φ : Calls') (a0 : AV) (a1 : AV) (H : AH) (Q : Post) : Prop :=
 LoopP (rabbetlaw11_places_l5 Φ a0 a1 Q) ([(.int .i64 0), (.int .i64 0)], H)
def ir_rabbetlaw11_places : AFunc := ⟨31, [.tmp 4],
 .seq (.region [
   ⟨some 4, .mv (.k (.int .i64 0)), none⟩])
 (.seq (.region [
   ⟨some 5, .mv (.k (.int .i64 0)), none⟩])
 (.seq (.seq (.region [
   ⟨some 6, .mv (.k (.int .i64 0)), none⟩])
 (.block 0 (.loop [5, 6] [7, 8, 9, 10, 11, 12, 13, 14, 15, 16, 17, 18, 19, 20, 21, 22, 23, 24, 25, 26, 27, 28, 29] (.seq (.seq (.region [
   ⟨some 8, .mv (.t 6), none⟩,
   ⟨some 9, .mv (.t 0), none⟩,
   ⟨some 10, .len false (.t 9), none⟩,
   ⟨some 11, .bin .lss (.t 8) (.t 10), none⟩])
 (.cond (.t 11) (.skip)
   (.exit 0)))
 (.join [5] [7, 14, 15, 16, 17, 18, 19, 20, 21, 22, 23, 24, 25, 26, 27, 28, 29] (.block 1 (.seq (.region [
   ⟨some 7, .mv (.k (.int .i64 0)), none⟩])
 (.block 2 (.loop [5, 7] [14, 15, 16, 17, 18, 19, 20, 21, 22, 23, 24, 25, 26, 27, 28, 29] (.join [] [14, 15, 16, 17, 18, 19, 20, 21, 22, 23, 24, 25] (.join [25] [14, 15, 16, 17, 18, 19, 20, 21, 22, 23, 24] (.region [
   ⟨some 14, .mv (.t 7), none⟩,
   ⟨some 15, .mv (.t 0), none⟩,
   ⟨some 16, .mv (.t 6), none⟩,
   ⟨some 17, .iaddr none 1 (.t 15) (.t 16), none⟩,
   ⟨some 18, .load 1 false (.t 17), none⟩,
   ⟨some 19, .len false (.t 18), none⟩,
   ⟨some 20, .bin .lss (.t 14) (.t 19), none⟩,
   ⟨some 21, .mv (.t 20), none⟩,
   ⟨some 22, .mv (.t 5), some (21, true)⟩,
   ⟨some 23, .mv (.t 1), some (21, true)⟩,
   ⟨some 24, .bin .lss (.t 22) (.t 23), some (21, true)⟩,
   ⟨some 25, .pick (.t 21) (.t 24) (.k (.bool false)), none⟩])
 (.cond (.t 25) (.skip)
   (.exit 2)))
 (.seq (.block 3 (.region [
   ⟨some 28, .mv (.t 5), none⟩,
   ⟨some 29, .bin .add (.t 28) (.k (.int .i64 1)), none⟩,
   ⟨some 5, .mv (.t 29), none⟩]))
 (.region [
   ⟨some 26, .mv (.t 7), none⟩,
   ⟨some 27, .bin .add (.t 26) (.k (.int .i64 1)), none⟩,
   ⟨some 7, .mv (.t 27), none⟩])))))))
 (.region [
   ⟨some 12, .mv (.t 6), none⟩,
   ⟨some 13, .bin .add (.t 12) (.k (.int .i64 1)), none⟩,
   ⟨some 6, .mv (.t 13), none⟩]))))))
 (.seq (.region [
   ⟨some 30, .mv (.t 5), none⟩,
   ⟨some 4, .mv (.t 30), none⟩])
 (.ret))))⟩
theorem eq_rabbetlaw11_places (Φ : Calls') (a0 a1 : AV) (H : AH) (Q : Post) : fnE1 Φ ir_rabbetlaw11_places [a0, a1] H Q = rabbetlaw11_places Φ a0 a1 H Q := by kernel_rfl

/-! slices.IndexFunc[[]rabbet/api.Var,rabbet/api.Var] -/
def slices_IndexFunc___api_Var_api_Var__l1 (Φ : Calls') (a0 : AV) (a1 : AV) (x1 : AV) (Q : Post) : (List AV × AH) → ((List AV × AH) → Prop) → Prop := fun s2 L3 =>
 Do (abin .lss (sl s2.1 0) x1) fun x4 =>
 Gd x4 true (
 Do (aiaddr none 7 a0 (sl s2.1 0)) fun x5 =>
 Do (aload s2.2 7 true x5) fun x6 =>
∃ k9 c10, a1 = .fn k9 c10 ∧ Φ k9 ([x6] ++ c10) s2.2 fun x7 H8 =>
 Gd x7 true (
 Q (sl s2.1 0) H8) (
 Do (abin .add (sl s2.1 0) (.int .i64 1)) fun x11 =>
 L3 ([x11], H8))) (
 Q (.int .i64 (-1)) s2.2)
def slices_IndexFunc___api_Var_api_Var_ (Φ : Calls') (a0 : AV) (a1 : AV) (H : AH) (Q : Post) : Prop :=
 Do (alen false a0) fun x1 =>
 LoopP (slices_IndexFunc___api_Var_api_Var__l1 Φ a0 a1 x1 Q) ([(.int .i64 0)], H)
def ir_slices_IndexFunc___api_Var_api_Var_ : AFunc := ⟨19, [.tmp 4],
 .seq (.region [
   ⟨some 4, .mv (.k (.int .i64 0)), none⟩])
 (.seq (.seq (.region [
   ⟨some 6, .mv (.t 0), none⟩,
   ⟨some 7, .len false (.t 6), none⟩,
   ⟨some 8, .mv (.k (.int .i64 0)), none⟩])
 (.block 0 (.loop [8] [4, 5, 9, 10, 11, 12, 13, 14, 15, 16, 17, 18] (.seq (.region [
   ⟨some 9, .bin .lss (.t 8) (.t 7), none⟩])
 (.seq (.cond (.t 9) (.skip)
   (.exit 0))
 (.seq (.block 1 (.seq (.region [
   ⟨some 10, .mv (.t 8), none⟩,
   ⟨some 5, .mv (.t 10), none⟩])
 (.seq (.region [
   ⟨some 11, .mv (.t 1), none⟩,
   ⟨some 12, .mv (.t 0), none⟩,
   ⟨some 13, .mv (.t 5), none⟩,
   ⟨some 14, .iaddr none 7 (.t 12) (.t 13), none⟩,
   ⟨some 15, .load 7 true (.t 14), none⟩,
   ⟨some 16, .callv (.t 11) [(.t 15)], none⟩])
 (.cond (.t 16) (.seq (.region [
     ⟨some 17, .mv (.t 5), none⟩,
     ⟨some 4, .mv (.t 17), none⟩])
   (.ret))
   (.skip)))))
 (.region [
   ⟨some 18, .bin .add (.t 8) (.k (.int .i64 1)), none⟩,
   ⟨some 8, .mv (.t 18), none⟩])))))))
 (.seq (.region [
   ⟨some 4, .mv (.k (.int .i64 (-1))), none⟩])
 (.ret)))⟩
theorem eq_slices_IndexFunc___api_Var_api_Var_ (Φ : Calls') (a0 a1 : AV) (H : AH) (Q : Post) : fnE1 Φ ir_slices_IndexFunc___api_Var_api_Var_ [a0, a1] H Q = slices_IndexFunc___api_Var_api_Var_ Φ a0 a1 H Q := by kernel_rfl

/-! rabbet/check.Place$1 -/
def check_Place_c1 (Φ : Calls') (a0 : AV) (a1 : AV) (H : AH) (Q : Post) : Prop :=
 DoH (aboxv H false 7 a0) fun x1 H2 =>
 Do (afaddr 0 x1) fun x3 =>
 Do (aload H2 1 false x3) fun x4 =>
 Do (afaddr 0 a1) fun x5 =>
 Do (aload H2 1 false x5) fun x6 =>
 Do (abin .eql x4 x6) fun x7 =>
 Q x7 H2
def ir_check_Place_c1 : AFunc := ⟨9, [.tmp 3],
 .seq (.region [
   ⟨some 2, .box false 7 (.t 0), none⟩,
   ⟨some 3, .mv (.k (.bool false)), none⟩])
 (.seq (.region [
   ⟨some 4, .faddr 0 (.t 2), none⟩,
   ⟨some 5, .load 1 false (.t 4), none⟩,
   ⟨some 6, .faddr 0 (.t 1), none⟩,
   ⟨some 7, .load 1 false (.t 6), none⟩,
   ⟨some 8, .bin .eql (.t 5) (.t 7), none⟩,
   ⟨some 3, .mv (.t 8), none⟩])
 (.ret))⟩
theorem eq_check_Place_c1 (Φ : Calls') (a0 a1 : AV) (H : AH) (Q : Post) : fnE1 Φ ir_check_Place_c1 [a0, a1] H Q = check_Place_c1 Φ a0 a1 H Q := by kernel_rfl

/-! rabbet/kind.Sound -/
def kind_Sound (Φ : Calls') (a0 : AV) (H : AH) (Q : Post) : Prop :=
 DoH (aboxv H false 6 a0) fun x1 H2 =>
 Do (aload H2 6 true x1) fun x3 =>
Φ K.kind_Depth [x3] H2 fun x4 H5 =>
 Do (abin .gtr x4 (.int .i64 64)) fun x6 =>
 Gd x6 true (
 Q (.int .i64 5) H5) (
 Do (aload H5 6 true x1) fun x7 =>
Φ K.kind_sound [x7] H5 fun x8 H9 =>
 Q x8 H9)
def ir_kind_Sound : AFunc := ⟨8, [.tmp 2],
 .seq (.region [
   ⟨some 1, .box false 6 (.t 0), none⟩,
   ⟨some 2, .mv (.k (.int .i64 0)), none⟩])
 (.seq (.seq (.region [
   ⟨some 3, .load 6 true (.t 1), none⟩,
   ⟨some 4, .call K.kind_Depth [(.t 3)], none⟩,
   ⟨some 5, .bin .gtr (.t 4) (.k (.int .i64 64)), none⟩])
 (.cond (.t 5) (.seq (.region [
     ⟨some 2, .mv (.k (.int .i64 5)), none⟩])
   (.ret))
   (.skip)))
 (.seq (.region [
   ⟨some 6, .load 6 true (.t 1), none⟩,
   ⟨some 7, .call K.kind_sound [(.t 6)], none⟩,
   ⟨some 2, .mv (.t 7), none⟩])
 (.ret)))⟩
theorem eq_kind_Sound (Φ : Calls') (a0 : AV) (H : AH) (Q : Post) : fnE1 Φ ir_kind_Sound [a0] H Q = kind_Sound Φ a0 H Q := by kernel_rfl

/-! rabbet/check.part -/
def check_part_k1 (Φ : Calls') (x1 : AV) (x3 : AV) (x5 : AV) (Q : Post) : List AV → AH → Prop := fun j15 H16 =>
 Do (afaddr 3 x1) fun x59 =>
 Do (aload H16 1 false x59) fun x60 =>
Φ K.slices_IndexFunc___api_Field_api_Field_ [x60, (.fn K.check_part_c1 [x3])] H16 fun x61 H62 =>
 Do (abin .lss x61 (.int .i64 0)) fun x63 =>
 Gd x63 true (
 Do (abuild [.int .i64 0, .int .i64 0, .bool false, .lst .nil 0 [], .int .i64 0, .lst .nil 0 []] []) fun x64 =>
 Do (astore H62 6 x5 x64) fun H65 =>
 Do (aload H65 6 true x5) fun x66 =>
 Q (.tup [x66, (.int .i64 6)]) H65) (
 Do (afaddr 3 x1) fun x67 =>
 Do (aload H62 1 false x67) fun x68 =>
 Do (aiaddr none 9 x68 x61) fun x69 =>
 Do (afaddr 1 x69) fun x70 =>
 Do (aload H62 6 true x70) fun x71 =>
 Do (astore H62 6 x5 x71) fun H72 =>
 Do (aload H72 6 true x5) fun x73 =>
 Q (.tup [x73, (.int .i64 0)]) H72)
def check_part_k2 (Φ : Calls') (x1 : AV) (x3 : AV) (x5 : AV) (Q : Post) : List AV → AH → Prop := fun j49 H50 =>
 Gd (sl j49 0) true (
 Do (abuild [.int .i64 0, .int .i64 0, .bool false, .lst .nil 0 [], .int .i64 0, .lst .nil 0 []] []) fun x56 =>
 Do (astore H50 6 x5 x56) fun H57 =>
 Do (aload H57 6 true x5) fun x58 =>
 Q (.tup [x58, (.int .i64 8)]) H57) (
 JoinP (check_part_k1 Φ x1 x3 x5 Q) [] H50)
def check_part_k3 (Φ : Calls') (x1 : AV) (x3 : AV) (x5 : AV) (j7 : List AV) (Q : Post) : List AV → AH → Prop := fun j34 H35 =>
 Gd (sl j34 0) true (
 Do (afaddr 5 x1) fun x43 =>
 Do (aload H35 1 false x43) fun x44 =>
 Do (aiaddr none 6 x44 (.int .i64 0)) fun x45 =>
 Do (aload H35 6 true x45) fun x46 =>
 Do (astore H35 6 x5 x46) fun H47 =>
 Do (aload H47 6 true x5) fun x48 =>
 Q (.tup [x48, (.int .i64 0)]) H47) (
 Do (afaddr 1 x3) fun x51 =>
 Do (aload H35 1 false x51) fun x52 =>
 Do (alen false x52) fun x53 =>
 Do (abin .eql x53 (.int .i64 1)) fun x54 =>
 Gd3 x54 false (
 Do (aun .not (sl j7 0)) fun x55 =>
 JoinP (check_part_k2 Φ x1 x3 x5 Q) [x55] H35) (
 JoinP (check_part_k2 Φ x1 x3 x5 Q) [(.bool true)] H35) (
 False))
def check_part_k4 (Φ : Calls') (x1 : AV) (x3 : AV) (x5 : AV) (j7 : List AV) (Q : Post) : List AV → AH → Prop := fun j17 H18 =>
 Gd (sl j17 0) true (
 Do (abuild [.int .i64 0, .int .i64 0, .bool false, .lst .nil 0 [], .int .i64 0, .lst .nil 0 []] []) fun x31 =>
 Do (astore H18 6 x5 x31) fun H32 =>
 Do (aload H32 6 true x5) fun x33 =>
 Q (.tup [x33, (.int .i64 8)]) H32) (
 Do (afaddr 1 x3) fun x36 =>
 Do (aload H18 1 false x36) fun x37 =>
 Do (alen false x37) fun x38 =>
 Do (abin .eql x38 (.int .i64 1)) fun x39 =>
 Gd3 x39 true (
 Do (afaddr 0 x1) fun x40 =>
 Do (aload H18 1 false x40) fun x41 =>
 Do (abin .eql x41 (.int .i64 5)) fun x42 =>
 JoinP (check_part_k3 Φ x1 x3 x5 j7 Q) [x42] H18) (
 JoinP (check_part_k3 Φ x1 x3 x5 j7 Q) [(.bool false)] H18) (
 False))
def check_part_k5 (Φ : Calls') (x1 : AV) (x3 : AV) (x5 : AV) (Q : Post) : List AV → AH → Prop := fun j7 H8 =>
 Do (afaddr 1 x3) fun x19 =>
 Do (aload H8 1 false x19) fun x20 =>
 Do (alen false x20) fun x21 =>
 Do (abin .gtr x21 (.int .i64 1)) fun x22 =>
 Gd3 x22 false (
 Do (afaddr 1 x3) fun x23 =>
 Do (aload H8 1 false x23) fun x24 =>
 Do (alen false x24) fun x25 =>
 Do (abin .eql x25 (.int .i64 1)) fun x26 =>
 Do (afaddr 0 x3) fun x27 =>
 Do (aload H8 1 false x27) fun x28 =>
 Do (abin .neq x28 (.str [])) fun x29 =>
 Do (abeq false x26 x29) fun x30 =>
 JoinP (check_part_k4 Φ x1 x3 x5 j7 Q) [x30] H8) (
 JoinP (check_part_k4 Φ x1 x3 x5 j7 Q) [(.bool true)] H8) (
 False)
def check_part (Φ : Calls') (a0 : AV) (a1 : AV) (H : AH) (Q : Post) : Prop :=
 DoH (aboxv H false 6 a0) fun x1 H2 =>
 DoH (aboxv H2 false 2 a1) fun x3 H4 =>
 DoH (some (abox H4 true [.int .i64 0, .int .i64 0, .bool false, .lst .nil 0 [], .int .i64 0, .lst .nil 0 []])) fun x5 H6 =>
 Do (afaddr 0 x1) fun x9 =>
 Do (aload H6 1 false x9) fun x10 =>
 Do (abin .eql x10 (.int .i64 3)) fun x11 =>
 Gd3 x11 false (
 Do (afaddr 0 x1) fun x12 =>
 Do (aload H6 1 false x12) fun x13 =>
 Do (abin .eql x13 (.int .i64 4)) fun x14 =>
 JoinP (check_part_k5 Φ x1 x3 x5 Q) [x14] H6) (
 JoinP (check_part_k5 Φ x1 x3 x5 Q) [(.bool true)] H6) (
 False)
def ir_check_part : AFunc := ⟨69, [.cell 4 6 true, .tmp 5],
 .seq (.region [
   ⟨some 2, .box false 6 (.t 0), none⟩,
   ⟨some 3, .box false 2 (.t 1), none⟩,
   ⟨some 4, .alloc true [.int .i64 0, .int .i64 0, .bool false, .lst .nil 0 [], .int .i64 0, .lst .nil 0 []], none⟩,
   ⟨some 5, .mv (.k (.int .i64 0)), none⟩])
 (.join [6] [8, 9, 10, 11, 12, 13, 14, 15] (.region [
   ⟨some 8, .faddr 0 (.t 2), none⟩,
   ⟨some 9, .load 1 false (.t 8), none⟩,
   ⟨some 10, .bin .eql (.t 9) (.k (.int .i64 3)), none⟩,
   ⟨some 11, .mv (.t 10), none⟩,
   ⟨some 12, .faddr 0 (.t 2), some (11, false)⟩,
   ⟨some 13, .load 1 false (.t 12), some (11, false)⟩,
   ⟨some 14, .bin .eql (.t 13) (.k (.int .i64 4)), some (11, false)⟩,
   ⟨some 15, .pick (.t 11) (.k (.bool true)) (.t 14), none⟩,
   ⟨some 6, .mv (.t 15), none⟩])
 (.join [] [5, 16, 17, 18, 19, 20, 21, 22, 23, 24, 25, 26, 27, 28, 29, 30, 31, 32, 33, 34, 35, 36, 37, 38, 39, 40, 41, 42, 43, 44, 45, 46, 47, 48, 49, 50, 51, 52, 53, 54, 55] (.block 0 (.join [16] [17, 18, 19, 20, 21, 22, 23, 24, 25, 26, 27, 28, 29, 30] (.region [
   ⟨some 17, .faddr 1 (.t 3), none⟩,
   ⟨some 18, .load 1 false (.t 17), none⟩,
   ⟨some 19, .len false (.t 18), none⟩,
   ⟨some 20, .bin .gtr (.t 19) (.k (.int .i64 1)), none⟩,
   ⟨some 21, .mv (.t 20), none⟩,
   ⟨some 22, .faddr 1 (.t 3), some (21, false)⟩,
   ⟨some 23, .load 1 false (.t 22), some (21, false)⟩,
   ⟨some 24, .len false (.t 23), some (21, false)⟩,
   ⟨some 25, .bin .eql (.t 24) (.k (.int .i64 1)), some (21, false)⟩,
   ⟨some 26, .faddr 0 (.t 3), some (21, false)⟩,
   ⟨some 27, .load 1 false (.t 26), some (21, false)⟩,
   ⟨some 28, .bin .neq (.t 27) (.k (.str [])), some (21, false)⟩,
   ⟨some 29, .beq false (.t 25) (.t 28), some (21, false)⟩,
   ⟨some 30, .pick (.t 21) (.k (.bool true)) (.t 29), none⟩,
   ⟨some 16, .mv (.t 30), none⟩])
 (.cond (.t 16) (.seq (.region [
     ⟨some 31, .build [.int .i64 0, .int .i64 0, .bool false, .lst .nil 0 [], .int .i64 0, .lst .nil 0 []] [], none⟩,
     ⟨none, .store 6 (.t 4) (.t 31), none⟩,
     ⟨some 5, .mv (.k (.int .i64 8)), none⟩])
   (.ret))
   (.join [32] [33, 34, 35, 36, 37, 38, 39, 40, 41] (.region [
     ⟨some 33, .faddr 1 (.t 3), none⟩,
     ⟨some 34, .load 1 false (.t 33), none⟩,
     ⟨some 35, .len false (.t 34), none⟩,
     ⟨some 36, .bin .eql (.t 35) (.k (.int .i64 1)), none⟩,
     ⟨some 37, .mv (.t 36), none⟩,
     ⟨some 38, .faddr 0 (.t 2), some (37, true)⟩,
     ⟨some 39, .load 1 false (.t 38), some (37, true)⟩,
     ⟨some 40, .bin .eql (.t 39) (.k (.int .i64 5)), some (37, true)⟩,
     ⟨some 41, .pick (.t 37) (.t 40) (.k (.bool false)), none⟩,
     ⟨some 32, .mv (.t 41), none⟩])
   (.cond (.t 32) (.seq (.region [
       ⟨some 42, .faddr 5 (.t 2), none⟩,
       ⟨some 43, .load 1 false (.t 42), none⟩,
       ⟨some 44, .iaddr none 6 (.t 43) (.k (.int .i64 0)), none⟩,
       ⟨some 45, .load 6 true (.t 44), none⟩,
       ⟨none, .store 6 (.t 4) (.t 45), none⟩,
       ⟨some 5, .mv (.k (.int .i64 0)), none⟩])
     (.ret))
     (.join [46] [47, 48, 49, 50, 51, 52, 53, 54] (.region [
       ⟨some 47, .faddr 1 (.t 3), none⟩,
       ⟨some 48, .load 1 false (.t 47), none⟩,
       ⟨some 49, .len false (.t 48), none⟩,
       ⟨some 50, .bin .eql (.t 49) (.k (.int .i64 1)), none⟩,
       ⟨some 51, .mv (.t 50), none⟩,
       ⟨some 52, .mv (.t 6), some (51, false)⟩,
       ⟨some 53, .un .not (.t 52), some (51, false)⟩,
       ⟨some 54, .pick (.t 51) (.k (.bool true)) (.t 53), none⟩,
       ⟨some 46, .mv (.t 54), none⟩])
     (.cond (.t 46) (.seq (.region [
         ⟨some 55, .build [.int .i64 0, .int .i64 0, .bool false, .lst .nil 0 [], .int .i64 0, .lst .nil 0 []] [], none⟩,
         ⟨none, .store 6 (.t 4) (.t 55), none⟩,
         ⟨some 5, .mv (.k (.int .i64 8)), none⟩])
       (.ret))
       (.skip))))))))
 (.seq (.region [
   ⟨some 56, .faddr 3 (.t 2), none⟩,
   ⟨some 57, .load 1 false (.t 56), none⟩,
   ⟨some 58, .mkfn K.check_part_c1 [(.t 3)], none⟩,
   ⟨some 59, .call K.slices_IndexFunc___api_Field_api_Field_ [(.t 57), (.t 58)], none⟩,
   ⟨some 7, .mv (.t 59), none⟩])
 (.seq (.seq (.region [
   ⟨some 60, .mv (.t 7), none⟩,
   ⟨some 61, .bin .lss (.t 60) (.k (.int .i64 0)), none⟩])
 (.cond (.t 61) (.seq (.region [
     ⟨some 62, .build [.int .i64 0, .int .i64 0, .bool false, .lst .nil 0 [], .int .i64 0, .lst .nil 0 []] [], none⟩,
     ⟨none, .store 6 (.t 4) (.t 62), none⟩,
     ⟨some 5, .mv (.k (.int .i64 6)), none⟩])
   (.ret))
   (.skip)))
 (.seq (.region [
   ⟨some 63, .faddr 3 (.t 2), none⟩,
   ⟨some 64, .load 1 false (.t 63), none⟩,
   ⟨some 65, .mv (.t 7), none⟩,
   ⟨some 66, .iaddr none 9 (.t 64) (.t 65), none⟩,
   ⟨some 67, .faddr 1 (.t 66), none⟩,
   ⟨some 68, .load 6 true (.t 67), none⟩,
   ⟨none, .store 6 (.t 4) (.t 68), none⟩,
   ⟨some 5, .mv (.k (.int .i64 0)), none⟩])
 (.ret))))))⟩
theorem eq_check_part (Φ : Calls') (a0 a1 : AV) (H : AH) (Q : Post) : fnE1 Φ ir_check_part [a0, a1] H Q = check_part Φ a0 a1 H Q := by kernel_rfl

/-! rabbet/rabbetref06.Sound -/
def rabbetref06_Sound (Φ : Calls') (a0 : AV) (H : AH) (Q : Post) : Prop :=
 DoH (aboxv H false 6 a0) fun x1 H2 =>
 Do (aload H2 6 true x1) fun x3 =>
Φ K.rabbetref06_Depth [x3, (.int .i64 65)] H2 fun x4 H5 =>
 Do (abin .gtr x4 (.int .i64 64)) fun x6 =>
 Gd x6 true (
 Q (.int .i64 5) H5) (
 Do (aload H5 6 true x1) fun x7 =>
Φ K.rabbetref06_inner [x7] H5 fun x8 H9 =>
 Q x8 H9)
def ir_rabbetref06_Sound : AFunc := ⟨8, [.tmp 2],
 .seq (.region [
   ⟨some 1, .box false 6 (.t 0), none⟩,
   ⟨some 2, .mv (.k (.int .i64 0)), none⟩])
 (.seq (.seq (.region [
   ⟨some 3, .load 6 true (.t 1), none⟩,
   ⟨some 4, .call K.rabbetref06_Depth [(.t 3), (.k (.int .i64 65))], none⟩,
   ⟨some 5, .bin .gtr (.t 4) (.k (.int .i64 64)), none⟩])
 (.cond (.t 5) (.seq (.region [
     ⟨some 2, .mv (.k (.int .i64 5)), none⟩])
   (.ret))
   (.skip)))
 (.seq (.region [
   ⟨some 6, .load 6 true (.t 1), none⟩,
   ⟨some 7, .call K.rabbetref06_inner [(.t 6)], none⟩,
   ⟨some 2, .mv (.t 7), none⟩])
 (.ret)))⟩
theorem eq_rabbetref06_Sound (Φ : Calls') (a0 : AV) (H : AH) (Q : Post) : fnE1 Φ ir_rabbetref06_Sound [a0] H Q = rabbetref06_Sound Φ a0 H Q := by kernel_rfl

/-! rabbet/check.vars -/
def check_vars_k1 (Φ : Calls') (s6 : List AV × AH) (L7 : (List AV × AH) → Prop) (Q : Post) : List AV → AH → Prop := fun j9 H10 =>
 Do (abin .add (sl s6.1 1) (.int .i64 1)) fun x45 =>
 L7 ([(sl j9 0), x45], H10)
def check_vars_k2 (Φ : Calls') (x13 : AV) (s6 : List AV × AH) (L7 : (List AV × AH) → Prop) (Q : Post) : List AV → AH → Prop := fun j16 H17 =>
 Do (afaddr 1 x13) fun x32 =>
 Do (aload H17 6 true x32) fun x33 =>
Φ K.layout_Of [x33] H17 fun x34 H35 =>
 Do (aextract 0 x34) fun x36 =>
 Do (aextract 1 x34) fun x37 =>
 Do (aextract 2 x34) fun x38 =>
 Do (abin .neq x38 (.int .i64 0)) fun x39 =>
 Gd x39 true (
 Q x38 H35) (
 Do (abin .add (sl s6.1 0) x37) fun x40 =>
 Do (abin .sub x40 (.int .i64 1)) fun x41 =>
 Do (abin .quo x41 x37) fun x42 =>
 Do (abin .mul x42 x37) fun x43 =>
 Do (abin .add x43 x36) fun x44 =>
 JoinP (check_vars_k1 Φ s6 L7 Q) [x44] H35)
def check_vars_k3 (Φ : Calls') (a0 : AV) (x13 : AV) (s6 : List AV × AH) (L7 : (List AV × AH) → Prop) (Q : Post) : List AV → AH → Prop := fun j18 H19 =>
 Gd (sl j18 0) true (
 Q (.int .i64 6) H19) (
 Do (aslice 7 a0 none (some (sl s6.1 1)) none) fun x29 =>
Φ K.slices_ContainsFunc___api_Var_api_Var_ [x29, (.fn K.check_vars_c1 [x13])] H19 fun x30 H31 =>
 Gd x30 true (
 Q (.int .i64 7) H31) (
 JoinP (check_vars_k2 Φ x13 s6 L7 Q) [] H31))
def check_vars_k4 (Φ : Calls') (Q : Post) : List AV → AH → Prop := fun j3 H4 =>
 Do (abin .gtr (sl j3 0) (.int .i64 65536)) fun x46 =>
 Gd x46 true (
 Q (.int .i64 9) H4) (
 Q (.int .i64 0) H4)
def check_vars_l5 (Φ : Calls') (a0 : AV) (x5 : AV) (Q : Post) : (List AV × AH) → ((List AV × AH) → Prop) → Prop := fun s6 L7 =>
 Do (abin .lss (sl s6.1 1) x5) fun x8 =>
 Gd x8 true (
 Do (aiaddr none 7 a0 (sl s6.1 1)) fun x11 =>
 Do (aload s6.2 7 true x11) fun x12 =>
 DoH (some (abox s6.2 true [.str [], .int .i64 0, .int .i64 0, .bool false, .lst .nil 0 [], .int .i64 0, .lst .nil 0 []])) fun x13 H14 =>
 Do (astore H14 7 x13 x12) fun H15 =>
 Do (afaddr 0 x13) fun x20 =>
 Do (aload H15 1 false x20) fun x21 =>
Φ K.kind_Name [x21] H15 fun x22 H23 =>
 Do (aun .not x22) fun x24 =>
 Gd3 x24 false (
 Do (afaddr 0 x13) fun x25 =>
 Do (aload H23 1 false x25) fun x26 =>
Φ K.lex_Keyword [x26] H23 fun x27 H28 =>
 JoinP (check_vars_k3 Φ a0 x13 s6 L7 Q) [x27] H28) (
 JoinP (check_vars_k3 Φ a0 x13 s6 L7 Q) [(.bool true)] H23) (
 False)) (
 JoinP (check_vars_k4 Φ Q) [(sl s6.1 0)] s6.2)
def check_vars (Φ : Calls') (a0 : AV) (H : AH) (Q : Post) : Prop :=
 Do (alen false a0) fun x1 =>
 Do (abin .gtr x1 (.int .i64 32)) fun x2 =>
 Gd x2 true (
 Q (.int .i64 12) H) (
 Do (alen false a0) fun x5 =>
 LoopP (check_vars_l5 Φ a0 x5 Q) ([(.int .i64 0), (.int .i64 0)], H))
def ir_check_vars : AFunc := ⟨58, [.tmp 2],
 .seq (.region [
   ⟨some 2, .mv (.k (.int .i64 0)), none⟩])
 (.seq (.seq (.region [
   ⟨some 9, .mv (.t 0), none⟩,
   ⟨some 10, .len false (.t 9), none⟩,
   ⟨some 11, .bin .gtr (.t 10) (.k (.int .i64 32)), none⟩])
 (.cond (.t 11) (.seq (.region [
     ⟨some 2, .mv (.k (.int .i64 12)), none⟩])
   (.ret))
   (.skip)))
 (.seq (.region [
   ⟨some 3, .mv (.k (.int .i64 0)), none⟩])
 (.join [3] [2, 4, 5, 6, 7, 8, 12, 13, 14, 15, 16, 17, 18, 19, 20, 21, 22, 23, 24, 25, 26, 27, 28, 29, 30, 31, 32, 33, 34, 35, 36, 37, 38, 39, 40, 41, 42, 43, 44, 45, 46, 47, 48, 49, 50, 51, 52, 53, 54, 55] (.seq (.region [
   ⟨some 12, .mv (.t 0), none⟩,
   ⟨some 13, .len false (.t 12), none⟩,
   ⟨some 14, .mv (.k (.int .i64 0)), none⟩])
 (.block 0 (.loop [3, 14] [2, 4, 5, 6, 7, 8, 15, 16, 17, 18, 19, 20, 21, 22, 23, 24, 25, 26, 27, 28, 29, 30, 31, 32, 33, 34, 35, 36, 37, 38, 39, 40, 41, 42, 43, 44, 45, 46, 47, 48, 49, 50, 51, 52, 53, 54, 55] (.seq (.region [
   ⟨some 15, .bin .lss (.t 14) (.t 13), none⟩])
 (.seq (.cond (.t 15) (.skip)
   (.exit 0))
 (.join [3] [2, 4, 5, 6, 7, 8, 16, 17, 18, 19, 20, 21, 22, 23, 24, 25, 26, 27, 28, 29, 30, 31, 32, 33, 34, 35, 36, 37, 38, 39, 40, 41, 42, 43, 44, 45, 46, 47, 48, 49, 50, 51, 52, 53, 54] (.block 1 (.seq (.region [
   ⟨some 16, .mv (.t 14), none⟩,
   ⟨some 17, .iaddr none 7 (.t 12) (.t 14), none⟩,
   ⟨some 18, .load 7 true (.t 17), none⟩,
   ⟨some 5, .alloc true [.str [], .int .i64 0, .int .i64 0, .bool false, .lst .nil 0 [], .int .i64 0, .lst .nil 0 []], none⟩,
   ⟨some 4, .mv (.t 16), none⟩,
   ⟨none, .store 7 (.t 5) (.t 18), none⟩])
 (.join [] [2, 19, 20, 21, 22, 23, 24, 25, 26, 27, 28, 29, 30, 31, 32, 33, 34] (.block 2 (.join [19] [20, 21, 22, 23, 24, 25, 26, 27, 28] (.region [
   ⟨some 20, .faddr 0 (.t 5), none⟩,
   ⟨some 21, .load 1 false (.t 20), none⟩,
   ⟨some 22, .call K.kind_Name [(.t 21)], none⟩,
   ⟨some 23, .un .not (.t 22), none⟩,
   ⟨some 24, .mv (.t 23), none⟩,
   ⟨some 25, .faddr 0 (.t 5), some (24, false)⟩,
   ⟨some 26, .load 1 false (.t 25), some (24, false)⟩,
   ⟨some 27, .call K.lex_Keyword [(.t 26)], some (24, false)⟩,
   ⟨some 28, .pick (.t 24) (.k (.bool true)) (.t 27), none⟩,
   ⟨some 19, .mv (.t 28), none⟩])
 (.cond (.t 19) (.seq (.region [
     ⟨some 2, .mv (.k (.int .i64 6)), none⟩])
   (.ret))
   (.seq (.region [
     ⟨some 30, .mv (.t 0), none⟩,
     ⟨some 31, .mv (.t 4), none⟩,
     ⟨some 32, .slice 7 (.t 30) none (some (.t 31)) none, none⟩,
     ⟨some 33, .mkfn K.check_vars_c1 [(.t 5)], none⟩,
     ⟨some 34, .call K.slices_ContainsFunc___api_Var_api_Var_ [(.t 32), (.t 33)], none⟩,
     ⟨some 29, .mv (.t 34), none⟩])
   (.cond (.t 29) (.seq (.region [
       ⟨some 2, .mv (.k (.int .i64 7)), none⟩])
     (.ret))
     (.skip))))))
 (.seq (.region [
   ⟨some 36, .faddr 1 (.t 5), none⟩,
   ⟨some 37, .load 6 true (.t 36), none⟩,
   ⟨some 38, .call K.layout_Of [(.t 37)], none⟩,
   ⟨some 35, .mv (.t 38), none⟩,
   ⟨some 39, .extract 0 (.t 35), none⟩,
   ⟨some 40, .extract 1 (.t 35), none⟩,
   ⟨some 41, .extract 2 (.t 35), none⟩,
   ⟨some 6, .mv (.t 39), none⟩,
   ⟨some 7, .mv (.t 40), none⟩,
   ⟨some 8, .mv (.t 41), none⟩])
 (.seq (.seq (.region [
   ⟨some 42, .mv (.t 8), none⟩,
   ⟨some 43, .bin .neq (.t 42) (.k (.int .i64 0)), none⟩])
 (.cond (.t 43) (.seq (.region [
     ⟨some 44, .mv (.t 8), none⟩,
     ⟨some 2, .mv (.t 44), none⟩])
   (.ret))
   (.skip)))
 (.region [
   ⟨some 45, .mv (.t 3), none⟩,
   ⟨some 46, .mv (.t 7), none⟩,
   ⟨some 47, .bin .add (.t 45) (.t 46), none⟩,
   ⟨some 48, .bin .sub (.t 47) (.k (.int .i64 1)), none⟩,
   ⟨some 49, .mv (.t 7), none⟩,
   ⟨some 50, .bin .quo (.t 48) (.t 49), none⟩,
   ⟨some 51, .mv (.t 7), none⟩,
   ⟨some 52, .bin .mul (.t 50) (.t 51), none⟩,
   ⟨some 53, .mv (.t 6), none⟩,
   ⟨some 54, .bin .add (.t 52) (.t 53), none⟩,
   ⟨some 3, .mv (.t 54), none⟩]))))))
 (.region [
   ⟨some 55, .bin .add (.t 14) (.k (.int .i64 1)), none⟩,
   ⟨some 14, .mv (.t 55), none⟩])))))))
 (.seq (.seq (.region [
   ⟨some 56, .mv (.t 3), none⟩,
   ⟨some 57, .bin .gtr (.t 56) (.k (.int .i64 65536)), none⟩])
 (.cond (.t 57) (.seq (.region [
     ⟨some 2, .mv (.k (.int .i64 9)), none⟩])
   (.ret))
   (.skip)))
 (.seq (.region [
   ⟨some 2, .mv (.k (.int .i64 0)), none⟩])
 (.ret))))))⟩
theorem eq_check_vars (Φ : Calls') (a0 : AV) (H : AH) (Q : Post) : fnE1 Φ ir_check_vars [a0] H Q = check_vars Φ a0 H Q := by kernel_rfl

/-! (rabbet/check.checker).block -/
def check_checker_block_k1 (Φ : Calls') (s8 : List AV × AH) (L9 : (List AV × AH) → Prop) (Q : Post) : List AV → AH → Prop := fun j11 H12 =>
 Do (abin .add (sl s8.1 0) (.int .i64 1)) fun x29 =>
 L9 ([x29], H12)
def check_checker_block_k2 (Φ : Calls') (a0 : AV) (x4 : AV) (Q : Post) : List AV → AH → Prop := fun j5 H6 =>
 Do (anilck a0) fun x30 =>
 Do (afaddr 1 x30) fun x31 =>
 Do (aload H6 1 false x31) fun x32 =>
 Do (aslice 1 x32 none (some x4) none) fun x33 =>
 Do (anilck a0) fun x34 =>
 Do (afaddr 1 x34) fun x35 =>
 Do (astore H6 1 x35 x33) fun H36 =>
 Q (.tup []) H36
def check_checker_block_l3 (Φ : Calls') (a0 : AV) (a1 : AV) (a2 : AV) (x4 : AV) (x7 : AV) (Q : Post) : (List AV × AH) → ((List AV × AH) → Prop) → Prop := fun s8 L9 =>
 Do (abin .lss (sl s8.1 0) x7) fun x10 =>
 Gd x10 true (
 Do (aiaddr none 10 a1 (sl s8.1 0)) fun x13 =>
 Do (aload s8.2 10 true x13) fun x14 =>
 DoH (some (abox s8.2 true [.int .i64 0, .int .i64 0, .str [], .str [], .int .i64 0, .str [], .lst .nil 0 [], .lst .nil 0 [], .lst .nil 0 [], .lst .nil 0 []])) fun x15 H16 =>
 Do (astore H16 10 x15 x14) fun H17 =>
Φ K.check_checker_bad [a0] H17 fun x18 H19 =>
 Do (aun .not x18) fun x20 =>
 Gd x20 true (
 Do (afaddr 1 x15) fun x21 =>
 Do (aload H19 1 false x21) fun x22 =>
 Do (anilck a0) fun x23 =>
 Do (afaddr 3 x23) fun x24 =>
 Do (astore H19 1 x24 x22) fun H25 =>
 Do (aload H25 10 true x15) fun x26 =>
Φ K.check_checker_stmt [a0, x26, a2] H25 fun x27 H28 =>
 JoinP (check_checker_block_k1 Φ s8 L9 Q) [] H28) (
 JoinP (check_checker_block_k1 Φ s8 L9 Q) [] H19)) (
 JoinP (check_checker_block_k2 Φ a0 x4 Q) [] s8.2)
def check_checker_block (Φ : Calls') (a0 : AV) (a1 : AV) (a2 : AV) (H : AH) (Q : Post) : Prop :=
 Do (anilck a0) fun x1 =>
 Do (afaddr 1 x1) fun x2 =>
 Do (aload H 1 false x2) fun x3 =>
 Do (alen false x3) fun x4 =>
 Do (alen false a1) fun x7 =>
 LoopP (check_checker_block_l3 Φ a0 a1 a2 x4 x7 Q) ([(.int .i64 0)], H)
def ir_check_checker_block : AFunc := ⟨42, [],
 .seq (.region [
   ⟨some 9, .mv (.t 0), none⟩,
   ⟨some 10, .nilck (.t 9), none⟩,
   ⟨some 11, .faddr 1 (.t 10), none⟩,
   ⟨some 12, .load 1 false (.t 11), none⟩,
   ⟨some 13, .len false (.t 12), none⟩,
   ⟨some 6, .mv (.t 13), none⟩])
 (.join [] [8, 14, 15, 16, 17, 18, 19, 20, 21, 22, 23, 24, 25, 26, 27, 28, 29, 30, 31, 32] (.seq (.region [
   ⟨some 14, .mv (.t 1), none⟩,
   ⟨some 15, .len false (.t 14), none⟩,
   ⟨some 16, .mv (.k (.int .i64 0)), none⟩])
 (.block 0 (.loop [16] [8, 17, 18, 19, 20, 21, 22, 23, 24, 25, 26, 27, 28, 29, 30, 31, 32] (.seq (.region [
   ⟨some 17, .bin .lss (.t 16) (.t 15), none⟩])
 (.seq (.cond (.t 17) (.skip)
   (.exit 0))
 (.join [] [8, 18, 19, 20, 21, 22, 23, 24, 25, 26, 27, 28, 29, 30, 31] (.block 1 (.seq (.region [
   ⟨some 18, .iaddr none 10 (.t 14) (.t 16), none⟩,
   ⟨some 19, .load 10 true (.t 18), none⟩,
   ⟨some 8, .alloc true [.int .i64 0, .int .i64 0, .str [], .str [], .int .i64 0, .str [], .lst .nil 0 [], .lst .nil 0 [], .lst .nil 0 [], .lst .nil 0 []], none⟩,
   ⟨none, .store 10 (.t 8) (.t 19), none⟩])
 (.seq (.region [
   ⟨some 20, .mv (.t 0), none⟩,
   ⟨some 21, .call K.check_checker_bad [(.t 20)], none⟩,
   ⟨some 22, .un .not (.t 21), none⟩])
 (.cond (.t 22) (.seq (.region [
     ⟨some 23, .mv (.t 0), none⟩,
     ⟨some 24, .faddr 1 (.t 8), none⟩,
     ⟨some 25, .load 1 false (.t 24), none⟩,
     ⟨some 26, .nilck (.t 23), none⟩,
     ⟨some 27, .faddr 3 (.t 26), none⟩,
     ⟨none, .store 1 (.t 27) (.t 25), none⟩])
   (.region [
     ⟨some 28, .mv (.t 0), none⟩,
     ⟨some 29, .load 10 true (.t 8), none⟩,
     ⟨some 30, .mv (.t 2), none⟩,
     ⟨some 31, .call K.check_checker_stmt [(.t 28), (.t 29), (.t 30)], none⟩]))
   (.skip)))))
 (.region [
   ⟨some 32, .bin .add (.t 16) (.k (.int .i64 1)), none⟩,
   ⟨some 16, .mv (.t 32), none⟩])))))))
 (.region [
   ⟨some 33, .mv (.t 0), none⟩,
   ⟨some 34, .mv (.t 0), none⟩,
   ⟨some 35, .nilck (.t 34), none⟩,
   ⟨some 36, .faddr 1 (.t 35), none⟩,
   ⟨some 37, .load 1 false (.t 36), none⟩,
   ⟨some 38, .mv (.t 6), none⟩,
   ⟨some 39, .slice 1 (.t 37) none (some (.t 38)) none, none⟩,
   ⟨some 40, .nilck (.t 33), none⟩,
   ⟨some 41, .faddr 1 (.t 40), none⟩,
   ⟨none, .store 1 (.t 41) (.t 39), none⟩]))⟩
theorem eq_check_checker_block (Φ : Calls') (a0 a1 a2 : AV) (H : AH) (Q : Post) : fnE1 Φ ir_check_checker_block [a0, a1, a2] H Q = check_checker_block Φ a0 a1 a2 H Q := by kernel_rfl

/-! (rabbet/check.checker).bad -/
def check_checker_bad (Φ : Calls') (a0 : AV) (H : AH) (Q : Post) : Prop :=
 Do (anilck a0) fun x1 =>
 Do (afaddr 4 x1) fun x2 =>
 Do (afaddr 1 x2) fun x3 =>
 Do (aload H 1 false x3) fun x4 =>
 Do (abin .neq x4 (.int .i64 0)) fun x5 =>
 Q x5 H
def ir_check_checker_bad : AFunc := ⟨9, [.tmp 2],
 .seq (.region [
   ⟨some 2, .mv (.k (.bool false)), none⟩])
 (.seq (.region [
   ⟨some 3, .mv (.t 0), none⟩,
   ⟨some 4, .nilck (.t 3), none⟩,
   ⟨some 5, .faddr 4 (.t 4), none⟩,
   ⟨some 6, .faddr 1 (.t 5), none⟩,
   ⟨some 7, .load 1 false (.t 6), none⟩,
   ⟨some 8, .bin .neq (.t 7) (.k (.int .i64 0)), none⟩,
   ⟨some 2, .mv (.t 8), none⟩])
 (.ret))⟩
theorem eq_check_checker_bad (Φ : Calls') (a0 : AV) (H : AH) (Q : Post) : fnE1 Φ ir_check_checker_bad [a0] H Q = check_checker_bad Φ a0 H Q := by kernel_rfl

/-! rabbet/kind.Depth -/
def kind_Depth (Φ : Calls') (a0 : AV) (H : AH) (Q : Post) : Prop :=
 DoH (aboxv H false 6 a0) fun x1 H2 =>
 Do (aload H2 6 true x1) fun x3 =>
Φ K.kind_depth [x3, (.int .i64 65)] H2 fun x4 H5 =>
 Q x4 H5
def ir_kind_Depth : AFunc := ⟨5, [.tmp 2],
 .seq (.region [
   ⟨some 1, .box false 6 (.t 0), none⟩,
   ⟨some 2, .mv (.k (.int .i64 0)), none⟩])
 (.seq (.region [
   ⟨some 3, .load 6 true (.t 1), none⟩,
   ⟨some 4, .call K.kind_depth [(.t 3), (.k (.int .i64 65))], none⟩,
   ⟨some 2, .mv (.t 4), none⟩])
 (.ret))⟩
theorem eq_kind_Depth (Φ : Calls') (a0 : AV) (H : AH) (Q : Post) : fnE1 Φ ir_kind_Depth [a0] H Q = kind_Depth Φ a0 H Q := by kernel_rfl

/-! rabbet/kind.sound -/
def kind_sound_k1 (Φ : Calls') (x1 : AV) (Q : Post) : List AV → AH → Prop := fun j22 H23 =>
 Do (afaddr 5 x1) fun x32 =>
 Do (aload H23 1 false x32) fun x33 =>
 Do (aiaddr none 6 x33 (.int .i64 0)) fun x34 =>
 Do (aload H23 6 true x34) fun x35 =>
Φ K.kind_sound [x35] H23 fun x36 H37 =>
 Q x36 H37
def kind_sound_k2 (Φ : Calls') (x1 : AV) (Q : Post) : List AV → AH → Prop := fun j24 H25 =>
 Gd (sl j24 0) true (
 Q (.int .i64 9) H25) (
 JoinP (kind_sound_k1 Φ x1 Q) [] H25)
def kind_sound (Φ : Calls') (a0 : AV) (H : AH) (Q : Post) : Prop :=
 DoH (aboxv H false 6 a0) fun x1 H2 =>
 Do (aload H2 6 true x1) fun x3 =>
Φ K.kind_only [x3] H2 fun x4 H5 =>
 Do (aun .not x4) fun x6 =>
 Gd x6 true (
 Q (.int .i64 8) H5) (
 Do (afaddr 0 x1) fun x7 =>
 Do (aload H5 1 false x7) fun x8 =>
 Do (abin .eql x8 (.int .i64 1)) fun x9 =>
 Gd x9 true (
 Do (afaddr 1 x1) fun x10 =>
 Do (aload H5 1 false x10) fun x11 =>
Φ K.kind_power [x11, (.int .i64 8)] H5 fun x12 H13 =>
 Do (aun .not x12) fun x14 =>
 Gd x14 true (
 Q (.int .i64 9) H13) (
 Q (.int .i64 0) H13)) (
 Do (abin .eql x8 (.int .i64 2)) fun x15 =>
 Gd x15 true (
 Do (afaddr 1 x1) fun x16 =>
 Do (aload H5 1 false x16) fun x17 =>
Φ K.kind_power [x17, (.int .i64 16)] H5 fun x18 H19 =>
 Do (aun .not x18) fun x20 =>
 Gd x20 true (
 Q (.int .i64 9) H19) (
 Q (.int .i64 0) H19)) (
 Do (abin .eql x8 (.int .i64 5)) fun x21 =>
 Gd x21 true (
 Do (afaddr 4 x1) fun x26 =>
 Do (aload H5 1 false x26) fun x27 =>
 Do (abin .lss x27 (.int .i64 1)) fun x28 =>
 Gd3 x28 false (
 Do (afaddr 4 x1) fun x29 =>
 Do (aload H5 1 false x29) fun x30 =>
 Do (abin .gtr x30 (.int .i64 65536)) fun x31 =>
 JoinP (kind_sound_k2 Φ x1 Q) [x31] H5) (
 JoinP (kind_sound_k2 Φ x1 Q) [(.bool true)] H5) (
 False)) (
 Do (aload H5 6 true x1) fun x38 =>
Φ K.kind_group [x38] H5 fun x39 H40 =>
 Q x39 H40))))
def ir_kind_sound : AFunc := ⟨37, [.tmp 2],
 .seq (.region [
   ⟨some 1, .box false 6 (.t 0), none⟩,
   ⟨some 2, .mv (.k (.int .i64 0)), none⟩])
 (.seq (.seq (.region [
   ⟨some 3, .load 6 true (.t 1), none⟩,
   ⟨some 4, .call K.kind_only [(.t 3)], none⟩,
   ⟨some 5, .un .not (.t 4), none⟩])
 (.cond (.t 5) (.seq (.region [
     ⟨some 2, .mv (.k (.int .i64 8)), none⟩])
   (.ret))
   (.skip)))
 (.seq (.seq (.region [
   ⟨some 6, .faddr 0 (.t 1), none⟩,
   ⟨some 7, .load 1 false (.t 6), none⟩])
 (.block 0 (.seq (.region [
   ⟨some 11, .bin .eql (.t 7) (.k (.int .i64 1)), none⟩,
   ⟨some 10, .mv (.t 11), none⟩])
 (.cond (.t 10) (.seq (.region [
     ⟨some 12, .faddr 1 (.t 1), none⟩,
     ⟨some 13, .load 1 false (.t 12), none⟩,
     ⟨some 14, .call K.kind_power [(.t 13), (.k (.int .i64 8))], none⟩,
     ⟨some 15, .un .not (.t 14), none⟩])
   (.cond (.t 15) (.seq (.region [
       ⟨some 2, .mv (.k (.int .i64 9)), none⟩])
     (.ret))
     (.skip)))
   (.seq (.region [
     ⟨some 17, .bin .eql (.t 7) (.k (.int .i64 2)), none⟩,
     ⟨some 16, .mv (.t 17), none⟩])
   (.cond (.t 16) (.seq (.region [
       ⟨some 18, .faddr 1 (.t 1), none⟩,
       ⟨some 19, .load 1 false (.t 18), none⟩,
       ⟨some 20, .call K.kind_power [(.t 19), (.k (.int .i64 16))], none⟩,
       ⟨some 21, .un .not (.t 20), none⟩])
     (.cond (.t 21) (.seq (.region [
         ⟨some 2, .mv (.k (.int .i64 9)), none⟩])
       (.ret))
       (.skip)))
     (.seq (.region [
       ⟨some 23, .bin .eql (.t 7) (.k (.int .i64 5)), none⟩,
       ⟨some 22, .mv (.t 23), none⟩])
     (.cond (.t 22) (.join [] [2, 24, 25, 26, 27, 28, 29, 30, 31] (.join [31] [24, 25, 26, 27, 28, 29, 30] (.region [
         ⟨some 24, .faddr 4 (.t 1), none⟩,
         ⟨some 25, .load 1 false (.t 24), none⟩,
         ⟨some 26, .bin .lss (.t 25) (.k (.int .i64 1)), none⟩,
         ⟨some 27, .mv (.t 26), none⟩,
         ⟨some 28, .faddr 4 (.t 1), some (27, false)⟩,
         ⟨some 29, .load 1 false (.t 28), some (27, false)⟩,
         ⟨some 30, .bin .gtr (.t 29) (.k (.int .i64 65536)), some (27, false)⟩,
         ⟨some 31, .pick (.t 27) (.k (.bool true)) (.t 30), none⟩])
       (.cond (.t 31) (.seq (.region [
           ⟨some 2, .mv (.k (.int .i64 9)), none⟩])
         (.ret))
         (.skip)))
       (.seq (.region [
         ⟨some 32, .faddr 5 (.t 1), none⟩,
         ⟨some 33, .load 1 false (.t 32), none⟩,
         ⟨some 34, .iaddr none 6 (.t 33) (.k (.int .i64 0)), none⟩,
         ⟨some 35, .load 6 true (.t 34), none⟩,
         ⟨some 36, .call K.kind_sound [(.t 35)], none⟩,
         ⟨some 2, .mv (.t 36), none⟩])
       (.ret)))
       (.seq (.region [
         ⟨some 8, .load 6 true (.t 1), none⟩,
         ⟨some 9, .call K.kind_group [(.t 8)], none⟩,
         ⟨some 2, .mv (.t 9), none⟩])
       (.ret))))))))))
 (.seq (.region [
   ⟨some 2, .mv (.k (.int .i64 0)), none⟩])
 (.ret))))⟩
theorem eq_kind_sound (Φ : Calls') (a0 : AV) (H : AH) (Q : Post) : fnE1 Φ ir_kind_sound [a0] H Q = kind_sound Φ a0 H Q := by kernel_rfl

/-! slices.IndexFunc[[]rabbet/api.Field,rabbet/api.Field] -/
def slices_IndexFunc___api_Field_api_Field__l1 (Φ : Calls') (a0 : AV) (a1 : AV) (x1 : AV) (Q : Post) : (List AV × AH) → ((List AV × AH) → Prop) → Prop := fun s2 L3 =>
 Do (abin .lss (sl s2.1 0) x1) fun x4 =>
 Gd x4 true (
 Do (aiaddr none 9 a0 (sl s2.1 0)) fun x5 =>
 Do (aload s2.2 9 true x5) fun x6 =>
∃ k9 c10, a1 = .fn k9 c10 ∧ Φ k9 ([x6] ++ c10) s2.2 fun x7 H8 =>
 Gd x7 true (
 Q (sl s2.1 0) H8) (
 Do (abin .add (sl s2.1 0) (.int .i64 1)) fun x11 =>
 L3 ([x11], H8))) (
 Q (.int .i64 (-1)) s2.2)
def slices_IndexFunc___api_Field_api_Field_ (Φ : Calls') (a0 : AV) (a1 : AV) (H : AH) (Q : Post) : Prop :=
 Do (alen false a0) fun x1 =>
 LoopP (slices_IndexFunc___api_Field_api_Field__l1 Φ a0 a1 x1 Q) ([(.int .i64 0)], H)
def ir_slices_IndexFunc___api_Field_api_Field_ : AFunc := ⟨19, [.tmp 4],
 .seq (.region [
   ⟨some 4, .mv (.k (.int .i64 0)), none⟩])
 (.seq (.seq (.region [
   ⟨some 6, .mv (.t 0), none⟩,
   ⟨some 7, .len false (.t 6), none⟩,
   ⟨some 8, .mv (.k (.int .i64 0)), none⟩])
 (.block 0 (.loop [8] [4, 5, 9, 10, 11, 12, 13, 14, 15, 16, 17, 18] (.seq (.region [
   ⟨some 9, .bin .lss (.t 8) (.t 7), none⟩])
 (.seq (.cond (.t 9) (.skip)
   (.exit 0))
 (.seq (.block 1 (.seq (.region [
   ⟨some 10, .mv (.t 8), none⟩,
   ⟨some 5, .mv (.t 10), none⟩])
 (.seq (.region [
   ⟨some 11, .mv (.t 1), none⟩,
   ⟨some 12, .mv (.t 0), none⟩,
   ⟨some 13, .mv (.t 5), none⟩,
   ⟨some 14, .iaddr none 9 (.t 12) (.t 13), none⟩,
   ⟨some 15, .load 9 true (.t 14), none⟩,
   ⟨some 16, .callv (.t 11) [(.t 15)], none⟩])
 (.cond (.t 16) (.seq (.region [
     ⟨some 17, .mv (.t 5), none⟩,
     ⟨some 4, .mv (.t 17), none⟩])
   (.ret))
   (.skip)))))
 (.region [
   ⟨some 18, .bin .add (.t 8) (.k (.int .i64 1)), none⟩,
   ⟨some 8, .mv (.t 18), none⟩])))))))
 (.seq (.region [
   ⟨some 4, .mv (.k (.int .i64 (-1))), none⟩])
 (.ret)))⟩
theorem eq_slices_IndexFunc___api_Field_api_Field_ (Φ : Calls') (a0 a1 : AV) (H : AH) (Q : Post) : fnE1 Φ ir_slices_IndexFunc___api_Field_api_Field_ [a0, a1] H Q = slices_IndexFunc___api_Field_api_Field_ Φ a0 a1 H Q := by kernel_rfl

/-! rabbet/check.part$1 -/
def check_part_c1 (Φ : Calls') (a0 : AV) (a1 : AV) (H : AH) (Q : Post) : Prop :=
 DoH (aboxv H false 9 a0) fun x1 H2 =>
 Do (afaddr 0 x1) fun x3 =>
 Do (aload H2 1 false x3) fun x4 =>
 Do (afaddr 0 a1) fun x5 =>
 Do (aload H2 1 false x5) fun x6 =>
 Do (abin .eql x4 x6) fun x7 =>
 Q x7 H2
def ir_check_part_c1 : AFunc := ⟨9, [.tmp 3],
 .seq (.region [
   ⟨some 2, .box false 9 (.t 0), none⟩,
   ⟨some 3, .mv (.k (.bool false)), none⟩])
 (.seq (.region [
   ⟨some 4, .faddr 0 (.t 2), none⟩,
   ⟨some 5, .load 1 false (.t 4), none⟩,
   ⟨some 6, .faddr 0 (.t 1), none⟩,
   ⟨some 7, .load 1 false (.t 6), none⟩,
   ⟨some 8, .bin .eql (.t 5) (.t 7), none⟩,
   ⟨some 3, .mv (.t 8), none⟩])
 (.ret))⟩
theorem eq_check_part_c1 (Φ : Calls') (a0 a1 : AV) (H : AH) (Q : Post) : fnE1 Φ ir_check_part_c1 [a0, a1] H Q = check_part_c1 Φ a0 a1 H Q := by kernel_rfl

/-! rabbet/rabbetref06.Depth -/
def rabbetref06_Depth_k1 (Φ : Calls') (s5 : List AV × AH) (L6 : (List AV × AH) → Prop) (Q : Post) : List AV → AH → Prop := fun j16 H17 =>
 Do (abin .add (sl s5.1 1) (.int .i64 1)) fun x27 =>
 L6 ([(sl j16 0), x27], H17)
def rabbetref06_Depth_k2 (Φ : Calls') (a1 : AV) (x1 : AV) (s5 : List AV × AH) (L6 : (List AV × AH) → Prop) (Q : Post) : List AV → AH → Prop := fun j7 H8 =>
 Do (afaddr 3 x1) fun x18 =>
 Do (aload H8 1 false x18) fun x19 =>
 Do (aiaddr none 9 x19 (sl s5.1 1)) fun x20 =>
 Do (afaddr 1 x20) fun x21 =>
 Do (aload H8 6 true x21) fun x22 =>
 Do (abin .sub a1 (.int .i64 1)) fun x23 =>
Φ K.rabbetref06_Depth [x22, x23] H8 fun x24 H25 =>
 Do (abin .gtr x24 (sl s5.1 0)) fun x26 =>
 Gd x26 true (
 JoinP (rabbetref06_Depth_k1 Φ s5 L6 Q) [x24] H25) (
 JoinP (rabbetref06_Depth_k1 Φ s5 L6 Q) [(sl s5.1 0)] H25)
def rabbetref06_Depth_k3 (Φ : Calls') (s30 : List AV × AH) (L31 : (List AV × AH) → Prop) (Q : Post) : List AV → AH → Prop := fun j41 H42 =>
 Do (abin .add (sl s30.1 1) (.int .i64 1)) fun x51 =>
 L31 ([(sl j41 0), x51], H42)
def rabbetref06_Depth_k4 (Φ : Calls') (a1 : AV) (x1 : AV) (s30 : List AV × AH) (L31 : (List AV × AH) → Prop) (Q : Post) : List AV → AH → Prop := fun j32 H33 =>
 Do (afaddr 5 x1) fun x43 =>
 Do (aload H33 1 false x43) fun x44 =>
 Do (aiaddr none 6 x44 (sl s30.1 1)) fun x45 =>
 Do (aload H33 6 true x45) fun x46 =>
 Do (abin .sub a1 (.int .i64 1)) fun x47 =>
Φ K.rabbetref06_Depth [x46, x47] H33 fun x48 H49 =>
 Do (abin .gtr x48 (sl s30.1 0)) fun x50 =>
 Gd x50 true (
 JoinP (rabbetref06_Depth_k3 Φ s30 L31 Q) [x48] H49) (
 JoinP (rabbetref06_Depth_k3 Φ s30 L31 Q) [(sl s30.1 0)] H49)
def rabbetref06_Depth_k5 (Φ : Calls') (Q : Post) : List AV → AH → Prop := fun j28 H29 =>
 Do (abin .add (sl j28 0) (.int .i64 1)) fun x52 =>
 Q x52 H29
def rabbetref06_Depth_k6 (Φ : Calls') (a1 : AV) (x1 : AV) (s30 : List AV × AH) (L31 : (List AV × AH) → Prop) (Q : Post) : List AV → AH → Prop := fun j34 H35 =>
 Gd (sl j34 0) true (
 JoinP (rabbetref06_Depth_k4 Φ a1 x1 s30 L31 Q) [] H35) (
 JoinP (rabbetref06_Depth_k5 Φ Q) [(sl s30.1 0)] H35)
def rabbetref06_Depth_l7 (Φ : Calls') (a1 : AV) (x1 : AV) (Q : Post) : (List AV × AH) → ((List AV × AH) → Prop) → Prop := fun s30 L31 =>
 Do (afaddr 5 x1) fun x36 =>
 Do (aload s30.2 1 false x36) fun x37 =>
 Do (alen false x37) fun x38 =>
 Do (abin .lss (sl s30.1 1) x38) fun x39 =>
 Gd3 x39 true (
 Do (abin .gtr a1 (.int .i64 1)) fun x40 =>
 JoinP (rabbetref06_Depth_k6 Φ a1 x1 s30 L31 Q) [x40] s30.2) (
 JoinP (rabbetref06_Depth_k6 Φ a1 x1 s30 L31 Q) [(.bool false)] s30.2) (
 False)
def rabbetref06_Depth_k8 (Φ : Calls') (a1 : AV) (x1 : AV) (Q : Post) : List AV → AH → Prop := fun j3 H4 =>
 LoopP (rabbetref06_Depth_l7 Φ a1 x1 Q) ([(sl j3 0), (.int .i64 0)], H4)
def rabbetref06_Depth_k9 (Φ : Calls') (a1 : AV) (x1 : AV) (s5 : List AV × AH) (L6 : (List AV × AH) → Prop) (Q : Post) : List AV → AH → Prop := fun j9 H10 =>
 Gd (sl j9 0) true (
 JoinP (rabbetref06_Depth_k2 Φ a1 x1 s5 L6 Q) [] H10) (
 JoinP (rabbetref06_Depth_k8 Φ a1 x1 Q) [(sl s5.1 0)] H10)
def rabbetref06_Depth_l10 (Φ : Calls') (a1 : AV) (x1 : AV) (Q : Post) : (List AV × AH) → ((List AV × AH) → Prop) → Prop := fun s5 L6 =>
 Do (afaddr 3 x1) fun x11 =>
 Do (aload s5.2 1 false x11) fun x12 =>
 Do (alen false x12) fun x13 =>
 Do (abin .lss (sl s5.1 1) x13) fun x14 =>
 Gd3 x14 true (
 Do (abin .gtr a1 (.int .i64 1)) fun x15 =>
 JoinP (rabbetref06_Depth_k9 Φ a1 x1 s5 L6 Q) [x15] s5.2) (
 JoinP (rabbetref06_Depth_k9 Φ a1 x1 s5 L6 Q) [(.bool false)] s5.2) (
 False)
def rabbetref06_Depth (Φ : Calls') (a0 : AV) (a1 : AV) (H : AH) (Q : Post) : Prop :=
 DoH (aboxv H false 6 a0) fun x1 H2 =>
 LoopP (rabbetref06_Depth_l10 Φ a1 x1 Q) ([(.int .i64 0), (.int .i64 0)], H2)
def ir_rabbetref06_Depth : AFunc := ⟨59, [.tmp 4],
 .seq (.region [
   ⟨some 2, .box false 6 (.t 0), none⟩,
   ⟨some 4, .mv (.k (.int .i64 0)), none⟩])
 (.seq (.region [
   ⟨some 5, .mv (.k (.int .i64 0)), none⟩])
 (.join [5] [6, 7, 10, 11, 12, 13, 14, 15, 16, 17, 18, 19, 20, 21, 22, 23, 24, 25, 26, 27, 28, 29, 30, 31, 32, 33] (.seq (.region [
   ⟨some 6, .mv (.k (.int .i64 0)), none⟩])
 (.block 0 (.loop [5, 6] [7, 10, 11, 12, 13, 14, 15, 16, 17, 18, 19, 20, 21, 22, 23, 24, 25, 26, 27, 28, 29, 30, 31, 32, 33] (.join [] [10, 11, 12, 13, 14, 15, 16, 17, 18] (.join [18] [10, 11, 12, 13, 14, 15, 16, 17] (.region [
   ⟨some 10, .mv (.t 6), none⟩,
   ⟨some 11, .faddr 3 (.t 2), none⟩,
   ⟨some 12, .load 1 false (.t 11), none⟩,
   ⟨some 13, .len false (.t 12), none⟩,
   ⟨some 14, .bin .lss (.t 10) (.t 13), none⟩,
   ⟨some 15, .mv (.t 14), none⟩,
   ⟨some 16, .mv (.t 1), some (15, true)⟩,
   ⟨some 17, .bin .gtr (.t 16) (.k (.int .i64 1)), some (15, true)⟩,
   ⟨some 18, .pick (.t 15) (.t 17) (.k (.bool false)), none⟩])
 (.cond (.t 18) (.skip)
   (.exit 0)))
 (.join [5] [7, 21, 22, 23, 24, 25, 26, 27, 28, 29, 30, 31, 32, 33] (.block 1 (.seq (.region [
   ⟨some 21, .faddr 3 (.t 2), none⟩,
   ⟨some 22, .load 1 false (.t 21), none⟩,
   ⟨some 23, .mv (.t 6), none⟩,
   ⟨some 24, .iaddr none 9 (.t 22) (.t 23), none⟩,
   ⟨some 25, .faddr 1 (.t 24), none⟩,
   ⟨some 26, .load 6 true (.t 25), none⟩,
   ⟨some 27, .mv (.t 1), none⟩,
   ⟨some 28, .bin .sub (.t 27) (.k (.int .i64 1)), none⟩,
   ⟨some 29, .call K.rabbetref06_Depth [(.t 26), (.t 28)], none⟩,
   ⟨some 7, .mv (.t 29), none⟩])
 (.seq (.region [
   ⟨some 30, .mv (.t 7), none⟩,
   ⟨some 31, .mv (.t 5), none⟩,
   ⟨some 32, .bin .gtr (.t 30) (.t 31), none⟩])
 (.cond (.t 32) (.region [
     ⟨some 33, .mv (.t 7), none⟩,
     ⟨some 5, .mv (.t 33), none⟩])
   (.skip)))))
 (.region [
   ⟨some 19, .mv (.t 6), none⟩,
   ⟨some 20, .bin .add (.t 19) (.k (.int .i64 1)), none⟩,
   ⟨some 6, .mv (.t 20), none⟩]))))))
 (.join [5] [8, 9, 34, 35, 36, 37, 38, 39, 40, 41, 42, 43, 44, 45, 46, 47, 48, 49, 50, 51, 52, 53, 54, 55, 56] (.seq (.region [
   ⟨some 8, .mv (.k (.int .i64 0)), none⟩])
 (.block 2 (.loop [5, 8] [9, 34, 35, 36, 37, 38, 39, 40, 41, 42, 43, 44, 45, 46, 47, 48, 49, 50, 51, 52, 53, 54, 55, 56] (.join [] [34, 35, 36, 37, 38, 39, 40, 41, 42] (.join [42] [34, 35, 36, 37, 38, 39, 40, 41] (.region [
   ⟨some 34, .mv (.t 8), none⟩,
   ⟨some 35, .faddr 5 (.t 2), none⟩,
   ⟨some 36, .load 1 false (.t 35), none⟩,
   ⟨some 37, .len false (.t 36), none⟩,
   ⟨some 38, .bin .lss (.t 34) (.t 37), none⟩,
   ⟨some 39, .mv (.t 38), none⟩,
   ⟨some 40, .mv (.t 1), some (39, true)⟩,
   ⟨some 41, .bin .gtr (.t 40) (.k (.int .i64 1)), some (39, true)⟩,
   ⟨some 42, .pick (.t 39) (.t 41) (.k (.bool false)), none⟩])
 (.cond (.t 42) (.skip)
   (.exit 2)))
 (.join [5] [9, 45, 46, 47, 48, 49, 50, 51, 52, 53, 54, 55, 56] (.block 3 (.seq (.region [
   ⟨some 45, .faddr 5 (.t 2), none⟩,
   ⟨some 46, .load 1 false (.t 45), none⟩,
   ⟨some 47, .mv (.t 8), none⟩,
   ⟨some 48, .iaddr none 6 (.t 46) (.t 47), none⟩,
   ⟨some 49, .load 6 true (.t 48), none⟩,
   ⟨some 50, .mv (.t 1), none⟩,
   ⟨some 51, .bin .sub (.t 50) (.k (.int .i64 1)), none⟩,
   ⟨some 52, .call K.rabbetref06_Depth [(.t 49), (.t 51)], none⟩,
   ⟨some 9, .mv (.t 52), none⟩])
 (.seq (.region [
   ⟨some 53, .mv (.t 9), none⟩,
   ⟨some 54, .mv (.t 5), none⟩,
   ⟨some 55, .bin .gtr (.t 53) (.t 54), none⟩])
 (.cond (.t 55) (.region [
     ⟨some 56, .mv (.t 9), none⟩,
     ⟨some 5, .mv (.t 56), none⟩])
   (.skip)))))
 (.region [
   ⟨some 43, .mv (.t 8), none⟩,
   ⟨some 44, .bin .add (.t 43) (.k (.int .i64 1)), none⟩,
   ⟨some 8, .mv (.t 44), none⟩]))))))
 (.seq (.region [
   ⟨some 57, .mv (.t 5), none⟩,
   ⟨some 58, .bin .add (.t 57) (.k (.int .i64 1)), none⟩,
   ⟨some 4, .mv (.t 58), none⟩])
 (.ret)))))⟩
theorem eq_rabbetref06_Depth (Φ : Calls') (a0 a1 : AV) (H : AH) (Q : Post) : fnE1 Φ ir_rabbetref06_Depth [a0, a1] H Q = rabbetref06_Depth Φ a0 a1 H Q := by kernel_rfl

end Rb.S
