/- A part of the proof (part 1): see the last text. -/
import Derived.Tactics2
import Derived.Laws.AppendOwn
import Derived.LoopN
import Derived.Laws.Strings
import Derived.Lib.Strings
import Derived.Laws.IdiomStrings
import Derived.WideLaws
import Derived.Laws.StructEq
import Derived.LaidEql
set_option linter.unusedVariables false
set_option linter.unusedSimpArgs false
namespace Rb
open Go
inductive Tok where
 | nil | full | own (t : Nat) | dead
 deriving DecidableEq
inductive AV where
 | bool (b : Bool)
 | int (k : IntKind) (n : Int)
 | str (s : List UInt8)
 | nilp
 | ptr (id off : Nat)
 | fptr (cells : List AV)
 | lst (tk : Tok) (len : Nat) (cells : List AV)
 | row (id off len sz : Nat)
 | map (id : Nat)
 | nilmap
 | fn (key : Nat) (caps : List AV)
 | nilfn
 | iface (t : TypeId) (v : AV)
 | nilif
 | agg (cs : List AV)
 | tup (vs : List AV)
 | bot
 deriving Inhabited
def AV.cells : AV → List AV
 | .agg cs => cs
 | v => [v]
def bkey (key : Nat) : Option Nat := cond (Nat.ble 1048576 key) (some (key - 1048576)) none
def AV.scalar : AV → Bool
 | .agg _ | .tup _ | .bot => false
 | _ => true
inductive AObj where
 | row (cs : List AV)
 | tok (n sz : Nat)
 | map (es : List (AV × AV))
 | siter (s : List UInt8) (pos : Nat)
 | bld (T : TypeId) (used : Bool) (buf : Option (Nat × Nat))
 | buf (U : TypeId) (bs : List UInt8)
 | gone
def AObj.live : AObj → Bool
 | .gone => false
 | _ => true
structure AH where
 n : Nat
 o : Nat → AObj
def AH.set (H : AH) (i : Nat) (x : AObj) : AH := { H with o := fun j => if j = i then x else H.o j }
def AH.push (H : AH) (x : AObj) : AH := { n := H.n + 1, o := fun j => if j = H.n then x else H.o j }
structure Ghost where
 n : Nat
 loc : Nat → Nat
 cap : Nat → Nat
 fz : Nat → Nat → Prop
def TokOK (G : Ghost) (b o len cap : Nat) : Tok → Prop
 | .nil => False
 | .full => cap = len
 | .own t => t < G.n ∧ G.loc t = b ∧ o = 0 ∧ G.cap t = cap
 | .dead => True
abbrev FTab := Nat → Option FuncId
inductive VR (F : FTab) (w : World) (G : Ghost) : AV → Value → Prop where
 | bot (V : Value) : VR F w G .bot V
 | bool (b : Bool) : VR F w G (.bool b) (.bool b)
 | int (k : IntKind) (n : Int) : VR F w G (.int k n) (.int k n)
 | str (s : List UInt8) : VR F w G (.str s) (.string ⟨s.toArray⟩)
 | nilp : VR F w G .nilp (.pointer none)
 | ptr (id off : Nat) (h : id < G.n) : VR F w G (.ptr id off) (.pointer (some ⟨G.loc id, off, none⟩))
 | fptr (cells : List AV) (b o : Nat) (Vs : Nat → Value)
   (h : ∀ (j : Nat) (c : AV), cells[j]? = some c → G.fz b (o + j) ∧ w.cell? ⟨b, o + j, none⟩ = some (Vs j))
   (hv : ∀ (j : Nat) (c : AV), cells[j]? = some c → VR F w G c (Vs j)) : VR F w G (.fptr cells) (.pointer (some ⟨b, o, none⟩))
 | lstnil : VR F w G (.lst .nil 0 []) (.slice none 0 0)
 | lst0 (a : Option Addr) (cap : Nat) : VR F w G (.lst .dead 0 []) (.slice a 0 cap)
 | lst (tk : Tok) (len : Nat) (cells : List AV) (b o cap : Nat) (Vs : Nat → Value) (ht : TokOK G b o len cap tk) (hle : len ≤ cap)
   (h : ∀ (j : Nat) (c : AV), cells[j]? = some c → G.fz b (o + j) ∧ w.cell? ⟨b, o + j, none⟩ = some (Vs j))
   (hv : ∀ (j : Nat) (c : AV), cells[j]? = some c → VR F w G c (Vs j)) : VR F w G (.lst tk len cells) (.slice (some ⟨b, o, none⟩) len cap)
 | row (id off len sz cap : Nat) (h : id < G.n) (hle : len ≤ cap) (hc : off + cap * sz = G.cap id) : VR F w G (.row id off len sz) (.slice (some ⟨G.loc id, off, none⟩) len cap)
 | map (id : Nat) (h : id < G.n) : VR F w G (.map id) (.map (some (G.loc id)))
 | nilmap : VR F w G .nilmap (.map none)
 | fn (key : Nat) (caps : List AV) (f : FuncId) (Vs : Array Value) (hk : bkey key = none) (hf : F key = some f) (hl : caps.length = Vs.size)
   (hv : ∀ (j : Nat) (c : AV) (V : Value), caps[j]? = some c → Vs[j]? = some V → VR F w G c V) : VR F w G (.fn key caps) (.func (.func f) #[] Vs)
 | bfn (key k : Nat) (caps : List AV) (f : FuncId) (Vs : Array Value) (hk : bkey key = some k) (hf : F k = some f) (hl : caps.length = Vs.size)
   (hv : ∀ (j : Nat) (c : AV) (V : Value), caps[j]? = some c → Vs[j]? = some V → VR F w G c V) : VR F w G (.fn key caps) (.func (.func f) Vs #[])
 | nilfn : VR F w G .nilfn .nilFunc
 | iface (t : TypeId) (v : AV) (V : Value) (h : VR F w G v V) : VR F w G (.iface t v) (.iface t V)
 | nilif : VR F w G .nilif .nilIface
 | agg (cs : List AV) (Vs : Array Value) (hl : cs.length = Vs.size)
   (hv : ∀ (j : Nat) (c : AV) (V : Value), cs[j]? = some c → Vs[j]? = some V → VR F w G c V) : VR F w G (.agg cs) (.agg Vs)
 | tup (cs : List AV) (Vs : Array Value) (hl : cs.length = Vs.size)
   (hv : ∀ (j : Nat) (c : AV) (V : Value), cs[j]? = some c → Vs[j]? = some V → VR F w G c V) : VR F w G (.tup cs) (.tuple Vs)
structure GLe (w : World) (G : Ghost) (w' : World) (G' : Ghost) : Prop where
 n : G.n ≤ G'.n
 loc : ∀ i, i < G.n → G'.loc i = G.loc i
 cap : ∀ i, i < G.n → G'.cap i = G.cap i
 fz : ∀ b o, G.fz b o → G'.fz b o
 cell : ∀ b o V, G.fz b o → w.cell? ⟨b, o, none⟩ = some V → w'.cell? ⟨b, o, none⟩ = some V
theorem GLe.refl (w : World) (G : Ghost) : GLe w G w G := ⟨Nat.le_refl _, fun _ _ => rfl, fun _ _ => rfl, fun _ _ h => h, fun _ _ _ _ h => h⟩
theorem GLe.trans {w1 w2 w3 : World} {G1 G2 G3 : Ghost} (h : GLe w1 G1 w2 G2) (k : GLe w2 G2 w3 G3) : GLe w1 G1 w3 G3 :=
 ⟨Nat.le_trans h.n k.n, fun i hi => (k.loc i (Nat.lt_of_lt_of_le hi h.n)).trans (h.loc i hi),
   fun i hi => (k.cap i (Nat.lt_of_lt_of_le hi h.n)).trans (h.cap i hi),
   fun b o hb => k.fz b o (h.fz b o hb), fun b o V hb hc => k.cell b o V (h.fz b o hb) (h.cell b o V hb hc)⟩
theorem TokOK.mono {w w' : World} {G G' : Ghost} (hg : GLe w G w' G') {b o len cap : Nat} {tk : Tok} (h : TokOK G b o len cap tk) : TokOK G' b o len cap tk := by
 cases tk with
 | nil => exact h
 | full => exact h
 | dead => exact h
 | own t =>
  obtain ⟨h1, h2, h3, h4⟩ := h
  exact ⟨Nat.lt_of_lt_of_le h1 hg.n, (hg.loc t h1).trans h2, h3, (hg.cap t h1).trans h4⟩
theorem VR.mono {F : FTab} {w w' : World} {G G' : Ghost} (hg : GLe w G w' G') {c : AV} {V : Value} (h : VR F w G c V) : VR F w' G' c V := by
 induction h with
 | bot V => exact .bot V
 | bool b => exact .bool b
 | int k n => exact .int k n
 | str s => exact .str s
 | nilp => exact .nilp
 | ptr id off h => rw [← hg.loc id h]; exact .ptr id off (Nat.lt_of_lt_of_le h hg.n)
 | fptr cells b o Vs h _ ih => exact .fptr cells b o Vs (fun j c hj => ⟨hg.fz _ _ (h j c hj).1, hg.cell _ _ _ (h j c hj).1 (h j c hj).2⟩) ih
 | lstnil => exact .lstnil
 | lst0 a cap => exact .lst0 a cap
 | lst tk len cells b o cap Vs ht hle h _ ih => exact .lst tk len cells b o cap Vs (ht.mono hg) hle (fun j c hj => ⟨hg.fz _ _ (h j c hj).1, hg.cell _ _ _ (h j c hj).1 (h j c hj).2⟩) ih
 | row id off len sz cap h hle hc =>
  rw [← hg.loc id h]
  exact .row id off len sz cap (Nat.lt_of_lt_of_le h hg.n) hle (by rw [hg.cap id h]; exact hc)
 | map id h => rw [← hg.loc id h]; exact .map id (Nat.lt_of_lt_of_le h hg.n)
 | nilmap => exact .nilmap
 | fn key caps f Vs hk hf hl _ ih => exact .fn key caps f Vs hk hf hl ih
 | bfn key k caps f Vs hk hf hl _ ih => exact .bfn key k caps f Vs hk hf hl ih
 | nilfn => exact .nilfn
 | iface t v V _ ih => exact .iface t v V ih
 | nilif => exact .nilif
 | agg cs Vs hl _ ih => exact .agg cs Vs hl ih
 | tup cs Vs hl _ ih => exact .tup cs Vs hl ih
def ObjR (F : FTab) (w : World) (G : Ghost) (i : Nat) : AObj → Prop
 | .row cs => ∃ C e, w.heap[G.loc i]? = some (.cells C e (0, 0)) ∧ C.size = G.cap i ∧ (∀ j, ¬ G.fz (G.loc i) j) ∧
   ∀ (j : Nat) (c : AV), cs[j]? = some c → ∃ V, C[j]? = some V ∧ VR F w G c V
 | .tok k sz => ∃ C e, w.heap[G.loc i]? = some (.cells C e (0, 0)) ∧ C.size = G.cap i * sz ∧ k ≤ C.size ∧ (∀ j, k ≤ j → ¬ G.fz (G.loc i) j)
 | .map es => ∃ (E : Array MapEntry) (clock : Nat), w.heap[G.loc i]? = some (.map E clock) ∧ E.size = es.length ∧ (∀ j, ¬ G.fz (G.loc i) j) ∧
   ∀ (j : Nat) (k v : AV), es[j]? = some (k, v) → ∃ e, E[j]? = some e ∧ VR F w G k e.key ∧ VR F w G v e.val
 | .siter s pos => w.heap[G.loc i]? = some (.stringIter ⟨s.toArray⟩ pos) ∧ ∀ j, ¬ G.fz (G.loc i) j
 | .bld T used buf => ∃ v, w.heap[G.loc i]? = some (.cells #[.pointer (if used = true then some ⟨G.loc i, 0, none⟩ else none), v] T (0, 0)) ∧ (∀ j, ¬ G.fz (G.loc i) j) ∧
   ((buf = none ∧ v = .slice none 0 0) ∨ ∃ j n, buf = some (j, n) ∧ j < G.n ∧ v = .slice (some ⟨G.loc j, 0, none⟩) n (G.cap j))
 | .buf U bs => ∃ (C : Array Value) (z : Nat × Nat), w.heap[G.loc i]? = some (.cells C U z) ∧ C.size = G.cap i ∧ z.2 ≤ bs.length ∧ bs.length ≤ G.cap i ∧ G.cap i ≤ maxLen ∧ (∀ j, ¬ G.fz (G.loc i) j) ∧
   C.toList.take bs.length = bs.map fun b => Value.int .u8 b.toNat
 | .gone => True
structure Rel (F : FTab) (w : World) (G : Ghost) (H : AH) : Prop where
 n : G.n = H.n
 over : ∀ i, H.n ≤ i → H.o i = .gone
 obj : ∀ i, ObjR F w G i (H.o i)
 dist : ∀ i j, i ≠ j → (H.o i).live = true → (H.o j).live = true → G.loc i ≠ G.loc j
 fzc : ∀ b o, G.fz b o → ∃ V, w.cell? ⟨b, o, none⟩ = some V
structure Step (w : World) (G : Ghost) (H : AH) (w' : World) (G' : Ghost) (H' : AH) : Prop extends GLe w G w' G' where
 size : w.heap.size ≤ w'.heap.size
 os : w'.os = w.os
 tape : w'.tape = w.tape
 output : w'.output = w.output
 old : ∀ k, k < w.heap.size → (∀ i, (H.o i).live = true → G.loc i ≠ k) → w'.heap[k]? = w.heap[k]?
 owned : ∀ i, (H'.o i).live = true → G'.loc i < w.heap.size → ∃ j, (H.o j).live = true ∧ G.loc j = G'.loc i
 fznew : ∀ b o, G'.fz b o → G.fz b o ∨ w.heap.size ≤ b ∨ ∃ i, (H.o i).live = true ∧ G.loc i = b
theorem Step.refl (w : World) (G : Ghost) (H : AH) : Step w G H w G H :=
 { GLe.refl w G with size := Nat.le_refl _, os := rfl, tape := rfl, output := rfl, old := fun _ _ _ => rfl, owned := fun i h _ => ⟨i, h, rfl⟩, fznew := fun _ _ h => .inl h }
theorem Step.trans {w1 w2 w3 : World} {G1 G2 G3 : Ghost} {H1 H2 H3 : AH} (h : Step w1 G1 H1 w2 G2 H2) (k : Step w2 G2 H2 w3 G3 H3) : Step w1 G1 H1 w3 G3 H3 :=
 { h.toGLe.trans k.toGLe with
   size := Nat.le_trans h.size k.size
   os := k.os.trans h.os
   tape := k.tape.trans h.tape
   output := k.output.trans h.output
   old := fun b hb hn => by
    rw [k.old b (Nat.lt_of_lt_of_le hb h.size) fun i hi he => ?_, h.old b hb hn]
    subst he
    obtain ⟨j, hj, e⟩ := h.owned i hi hb
    exact hn j hj e
   owned := fun i hi hb => by
    obtain ⟨j, hj, e⟩ := k.owned i hi (Nat.lt_of_lt_of_le hb h.size)
    rw [← e] at hb ⊢
    exact h.owned j hj hb
   fznew := fun b o hf => by
    rcases k.fznew b o hf with hf | hb | ⟨i, hi, e⟩
    · exact h.fznew b o hf
    · exact .inr (.inl (Nat.le_trans h.size hb))
    · rcases Nat.lt_or_ge b w1.heap.size with hb | hb
      · obtain ⟨j, hj, e'⟩ := h.owned i hi (by rw [e]; exact hb)
        exact .inr (.inr ⟨j, hj, e'.trans e⟩)
      · exact .inr (.inl hb) }
def VRs (F : FTab) (w : World) (G : Ghost) (cs : List AV) (Vs : Array Value) : Prop :=
 cs.length = Vs.size ∧ ∀ (j : Nat) (c : AV) (V : Value), cs[j]? = some c → Vs[j]? = some V → VR F w G c V
theorem VRs.mono {F : FTab} {w w' : World} {G G' : Ghost} (hg : GLe w G w' G') {cs : List AV} {Vs : Array Value} (h : VRs F w G cs Vs) : VRs F w' G' cs Vs :=
 ⟨h.1, fun j c V hc hV => (h.2 j c V hc hV).mono hg⟩
end Rb

namespace Rb
open Go
def Do {α : Type} (x : Option α) (K : α → Prop) : Prop := ∃ a, x = some a ∧ K a
def bitsOp (op : BinOp) (k : IntKind) (a b : Int) : Option Int :=
 let x := BitVec.ofInt k.bits a
 let y := BitVec.ofInt k.bits b
 match op with
 | .and => some (k.wrap (x &&& y).toNat)
 | .or => some (k.wrap (x ||| y).toNat)
 | .xor => some (k.wrap (x ^^^ y).toNat)
 | .andNot => some (k.wrap (x &&& ~~~y).toNat)
 | _ => none
def abinInt (op : BinOp) (k : IntKind) (a : Int) (k' : IntKind) (b : Int) : Option AV :=
 match op with
 | .shl => if b < 0 then none else some (.int k (k.wrap (a * 2 ^ (min b.toNat k.bits))))
 | .shr => if b < 0 then none else some (.int k (a.fdiv (2 ^ (min b.toNat k.bits))))
 | .add => if k = k' then some (.int k (k.wrap (a + b))) else none
 | .sub => if k = k' then some (.int k (k.wrap (a - b))) else none
 | .mul => if k = k' then some (.int k (k.wrap (a * b))) else none
 | .quo => if k = k' ∧ b ≠ 0 then some (.int k (k.wrap (a.tdiv b))) else none
 | .rem => if k = k' ∧ b ≠ 0 then some (.int k (a.tmod b)) else none
 | .eql => if k = k' then some (.bool (a == b)) else none
 | .neq => if k = k' then some (.bool (a != b)) else none
 | .lss => if k = k' then some (.bool (decide (a < b))) else none
 | .leq => if k = k' then some (.bool (decide (a ≤ b))) else none
 | .gtr => if k = k' then some (.bool (decide (a > b))) else none
 | .geq => if k = k' then some (.bool (decide (a ≥ b))) else none
 | op => if k = k' then (bitsOp op k a b).map (.int k) else none
def abinStr (op : BinOp) (s t : List UInt8) : Option AV :=
 match op with
 | .add => if s.length + t.length ≤ 9223372036854775807 then some (.str (s ++ t)) else none
 | .eql => some (.bool (s == t))
 | .neq => some (.bool !(s == t))
 | .lss => some (.bool (Op.bytesLess s t))
 | .leq => some (.bool (Op.bytesLess s t || s == t))
 | .gtr => some (.bool !(Op.bytesLess s t || s == t))
 | .geq => some (.bool !(Op.bytesLess s t))
 | _ => none
inductive NK where
 | p | s | m | f | i
 deriving DecidableEq
def AV.isNil : NK → AV → Option Bool
 | .p, .nilp => some true
 | .p, .ptr _ _ | .p, .fptr _ => some false
 | .s, .lst .nil _ _ => some true
 | .s, .row _ _ _ _ | .s, .lst .full _ (_ :: _) | .s, .lst (.own _) _ _ | .s, .lst .dead (_ + 1) _ => some false
 | .m, .nilmap => some true
 | .m, .map _ => some false
 | .f, .nilfn => some true
 | .f, .fn _ _ => some false
 | .i, .nilif => some true
 | .i, .iface _ _ => some false
 | _, _ => none
inductive FK where
 | n | b | t
 deriving DecidableEq
def eqCells : List FK → List AV → List AV → Option Bool
 | [], [], [] => some true
 | .n :: ks, .int k a :: r, .int k' b :: t => if k = k' then (eqCells ks r t).map (fun x => a == b && x) else none
 | .b :: ks, .bool a :: r, .bool b :: t => (eqCells ks r t).map (fun x => a == b && x)
 | .t :: ks, .str a :: r, .str b :: t => (eqCells ks r t).map (fun x => a == b && x)
 | _, _, _ => none
def abin (op : BinOp) (x y : AV) : Option AV :=
 match x, y with
 | .int k a, .int k' b => abinInt op k a k' b
 | .str s, .str t => abinStr op s t
 | _, _ => none
def abeq (neg : Bool) (x y : AV) : Option AV :=
 match x, y with
 | .bool a, .bool b => some (.bool (if neg then !(a == b) else a == b))
 | _, _ => none
def anil (k : NK) (neg : Bool) (x : AV) : Option AV := (x.isNil k).map fun b => .bool (if neg then !b else b)
def aeqAgg (neg : Bool) (ks : List FK) (x y : AV) : Option AV :=
 match x, y with
 | .agg a, .agg b => (eqCells ks a b).map fun r => .bool (if neg then !r else r)
 | _, _ => none
def aun (op : UnOp) (x : AV) : Option AV :=
 match op, x with
 | .not, .bool b => some (.bool !b)
 | .neg, .int k n => some (.int k (k.wrap (0 - n)))
 | .xor, .int k n => (bitsOp .xor k (if k.signed then -1 else k.max) n).map (.int k)
 | _, _ => none
def aconv (k : IntKind) (x : AV) : Option AV :=
 match x with
 | .int _ n => some (.int k (k.wrap n))
 | _ => none
def asame (x : AV) : Option AV :=
 match x with
 | .str s => some (.str s)
 | _ => none
def anilck (x : AV) : Option AV :=
 match x with
 | .ptr i o => some (.ptr i o)
 | .fptr cs => some (.fptr cs)
 | .fn k cs => some (.fn k cs)
 | _ => none
def takeCells (cs : List AV) (o n : Nat) (agg : Bool) : Option AV :=
 if o + n ≤ cs.length then (if agg then some (.agg ((cs.drop o).take n)) else cs[o]?) else none
def afield (off sz : Nat) (agg : Bool) (x : AV) : Option AV :=
 match x with
 | .agg cs => takeCells cs off sz agg
 | _ => none
def aidx (len sz : Nat) (agg : Bool) (x i : AV) : Option AV :=
 match x, i with
 | .agg cs, .int _ i => if 0 ≤ i ∧ i < len then takeCells cs (i.toNat * sz) sz agg else none
 | _, _ => none
def aidxs (x i : AV) : Option AV :=
 match x, i with
 | .str s, .int _ i => if 0 ≤ i then (s[i.toNat]?).map fun b => .int .u8 b.toNat else none
 | _, _ => none
def afaddr (off : Nat) (x : AV) : Option AV :=
 match x with
 | .ptr i o => some (.ptr i (o + off))
 | .fptr cs => some (.fptr (cs.drop off))
 | _ => none
def aiaddr (arr : Option Nat) (sz : Nat) (x i : AV) : Option AV :=
 match i with
 | .int _ i =>
  match arr, x with
  | none, .lst _ len cells => if 0 ≤ i ∧ i < len then some (.fptr (cells.drop (i.toNat * sz))) else none
  | none, .row id o len _ => if 0 ≤ i ∧ i < len then some (.ptr id (o + i.toNat * sz)) else none
  | some n, .ptr id o => if 0 ≤ i ∧ i < n then some (.ptr id (o + i.toNat * sz)) else none
  | some n, .fptr cells => if 0 ≤ i ∧ i < n then some (.fptr (cells.drop (i.toNat * sz))) else none
  | _, _ => none
 | _ => none
def abound (x : Option AV) (d : Nat) : Option Nat :=
 match x with
 | none => some d
 | some (.int _ i) => if 0 ≤ i then some i.toNat else none
 | _ => none
def asslice (x : AV) (lo hi : Option AV) : Option AV :=
 match x with
 | .str s =>
  match abound hi s.length, abound lo 0 with
  | some h, some l => if l ≤ h ∧ h ≤ s.length then some (.str ((s.take h).drop l)) else none
  | _, _ => none
 | _ => none
def aslice (sz : Nat) (x : AV) (lo hi mx : Option AV) : Option AV :=
 match x with
 | .lst tk len cells =>
  match abound hi len, abound lo 0, mx.map fun m => abound (some m) 0 with
  | some h, some l, none =>
   if l ≤ h ∧ h ≤ len ∧ cells.length = len * sz then
    if l = 0 ∧ h = len then some (.lst tk len cells)
    else some (.lst (if l = 0 then (match tk with | .own t => .own t | _ => .dead) else .dead) (h - l) ((cells.take (h * sz)).drop (l * sz)))
   else none
  | some h, some l, some (some m) =>
   if l = h ∧ h = m ∧ m ≤ len then (match tk with | .nil => some (.lst .nil 0 []) | _ => some (.lst .dead 0 []))
   else if l ≤ h ∧ h ≤ m ∧ m ≤ len ∧ cells.length = len * sz ∧ tk ≠ .nil ∧ l < m then some (.lst (if m = h then .full else .dead) (h - l) ((cells.take (h * sz)).drop (l * sz))) else none
  | _, _, _ => none
 | .row id o len sz' =>
  match abound hi len, abound lo 0, mx with
  | some h, some l, none =>
   if l ≤ h ∧ h ≤ len ∧ sz' = sz then (if l = 0 ∨ l < h then some (.row id (o + l * sz) (h - l) sz) else some (.lst .dead 0 [])) else none
  | _, _, _ => none
 | _ => none
def Gd (v : AV) (want : Bool) (A B : Prop) : Prop :=
 match v with
 | .bool b => if b = want then A else B
 | _ => False
def Gd3 (v : AV) (want : Bool) (A B C : Prop) : Prop :=
 match v with
 | .bool b => if b = want then A else B
 | .tup [] => C
 | _ => False
def AV.wanted (v : AV) (want : Bool) : Option Bool :=
 match v with
 | .bool b => some (b == want)
 | .tup [] => some false
 | _ => none
theorem AV.wanted_true {v : AV} {want : Bool} (h : v.wanted want = some true) : v = .bool want := by
 unfold AV.wanted at h
 split at h
 · simp at h; rw [h]
 · cases h
 · cases h
theorem AV.wanted_false {v : AV} {want : Bool} (h : v.wanted want = some false) : v = .bool (!want) ∨ v = .tup [] := by
 unfold AV.wanted at h
 split at h
 · rename_i b
   left
   cases b <;> cases want <;> simp_all
 · exact .inr rfl
 · cases h
@[simp] theorem AV.wanted_self (want : Bool) : (AV.bool want).wanted want = some true := by simp [AV.wanted]
@[simp] theorem AV.wanted_not (want : Bool) : (AV.bool (!want)).wanted want = some false := by cases want <;> rfl
@[simp] theorem AV.wanted_tup (want : Bool) : (AV.tup []).wanted want = some false := rfl
def aextract (i : Nat) (x : AV) : Option AV :=
 match x with
 | .tup vs => vs[i]?
 | _ => none
def setCells (cs : List AV) (o : Nat) : List AV → List AV
 | [] => cs
 | v :: r => setCells (cs.set o v) (o + 1) r
def AV.known : AV → Bool
 | .bot | .tup _ => false
 | _ => true
def fillA (cs : List AV) : List (Nat × Nat × AV) → Option (List AV)
 | [] => some cs
 | (off, sz, v) :: r => if v.known ∧ v.cells.length = sz ∧ off + sz ≤ cs.length then fillA (setCells cs off v.cells) r else none
def abuild (zero : List AV) (parts : List (Nat × Nat × AV)) : Option AV := (fillA zero parts).map .agg
def alen (str : Bool) (x : AV) : Option AV :=
 match str, x with
 | true, .str s => some (.int .i64 s.length)
 | false, .lst _ len _ => some (.int .i64 len)
 | false, .row _ _ len _ => some (.int .i64 len)
 | _, _ => none
def mm2 (mx : Bool) (x y : AV) : Option AV :=
 match x, y with
 | .int k a, .int _ b => some (.int k (if mx then (if b > a then b else a) else (if b < a then b else a)))
 | _, _ => none
def mmAll (mx : Bool) (x : AV) : List AV → Option AV
 | [] => some x
 | y :: r => match mm2 mx x y with | some z => mmAll mx z r | none => none
def aminmax (mx : Bool) (xs : List AV) : Option AV :=
 match xs with
 | .int k a :: r => mmAll mx (.int k a) r
 | _ => none
def aload (H : AH) (n : Nat) (agg : Bool) (x : AV) : Option AV :=
 match x with
 | .ptr id o => match H.o id with | .row cs => takeCells cs o n agg | _ => none
 | .fptr cs => takeCells cs 0 n agg
 | _ => none
def astore (H : AH) (n : Nat) (x v : AV) : Option AH :=
 match x with
 | .ptr id o =>
  match H.o id with
  | .row cs => if v.known ∧ v.cells.length = n ∧ v.cells.all AV.scalar ∧ o + n ≤ cs.length then some (H.set id (.row (setCells cs o v.cells))) else none
  | _ => none
 | _ => none
def abox (H : AH) (mu : Bool) (cells : List AV) : AV × AH :=
 if mu then (.ptr H.n 0, H.push (.row cells)) else (.fptr cells, H)
def aboxv (H : AH) (mu : Bool) (n : Nat) (v : AV) : Option (AV × AH) :=
 if v.known ∧ v.cells.length = n then some (abox H mu v.cells) else none
def abslice (H : AH) (mu : Bool) (sz len : Nat) (zero : List AV) (parts : List (Nat × Nat × AV)) : Option (AV × AH) :=
 (fillA (List.replicate len zero).flatten parts).map fun cells =>
  if mu then (.row H.n 0 len sz, H.push (.row cells)) else (.lst .full len cells, H)
def acells (H : AH) (sz : Nat) (x : AV) : Option (Nat × List AV) :=
 match x with
 | .lst _ len cells => if cells.length = len * sz then some (len, cells) else none
 | .row id o len _ => match H.o id with | .row cs => if o + len * sz ≤ cs.length then some (len, (cs.drop o).take (len * sz)) else none | _ => none
 | _ => none
def aappend (H : AH) (mu : Bool) (sz bytes : Nat) (x y : AV) : Option (AV × AH) :=
 match acells H sz y with
 | none => none
 | some (m, news) =>
  if ¬ news.all AV.scalar then none else
  match x with
  | .lst tk len cells =>
   if m = 0 then some (.lst tk len cells, H)
   else if ¬ (cells.length = len * sz ∧ (len + m) * bytes ≤ 140737488355328 ∧ len + m ≤ 9223372036854775807) then none
   else match tk, mu with
   | .nil, true | .full, true => some (.row H.n 0 (len + m) sz, H.push (.row (cells ++ news)))
   | .nil, false | .full, false => some (.lst (.own H.n) (len + m) (cells ++ news), H.push (.tok ((len + m) * sz) sz))
   | .own t, _ => match H.o t with
    | .tok k sz' => if k = len * sz ∧ sz' = sz then some (.lst (.own H.n) (len + m) (cells ++ news), (H.set t .gone).push (.tok ((len + m) * sz) sz)) else none
    | _ => none
   | .dead, _ => none
  | .row id o len sz' =>
   match H.o id with
   | .row cs =>
    if m = 0 then some (.row id o len sz', H)
    else if ¬ (o = 0 ∧ sz' = sz ∧ (len + m) * bytes ≤ 140737488355328 ∧ len + m ≤ 9223372036854775807) then none
    else if (len + m) * sz ≤ cs.length then some (.row id 0 (len + m) sz, H.set id (.row (setCells cs (len * sz) news)))
    else if cs.length = len * sz then some (.row H.n 0 (len + m) sz, (H.set id .gone).push (.row (cs ++ news)))
    else none
   | _ => none
  | _ => none
def byteCells (s : List UInt8) : List AV := s.map fun b => .int .u8 b.toNat
def cellBytes : List AV → Option (List UInt8)
 | [] => some []
 | .int .u8 n :: r => (cellBytes r).map fun s => UInt8.ofNat n.toNat :: s
 | _ => none
def asbytes (x : AV) : Option AV :=
 match x with
 | .str s => some (.lst .dead s.length (byteCells s))
 | _ => none
def abstr (H : AH) (x : AV) : Option AV :=
 match acells H 1 x with
 | some (_, cells) => (cellBytes cells).map .str
 | none => none
def asrange (H : AH) (x : AV) : Option (AV × AH) :=
 match x with
 | .str s => some (.ptr H.n 0, H.push (.siter s 0))
 | _ => none
def asnext (H : AH) (x : AV) : Option (AV × AH) :=
 match x with
 | .ptr id 0 =>
  match H.o id with
  | .siter s pos =>
   if pos < s.length then
    let d := Utf8.decode ⟨s.toArray⟩ pos
    some (.tup [.bool true, .int .i64 pos, .int .i32 d.1], H.set id (.siter s (pos + d.2)))
   else some (.tup [.bool false], H)
  | _ => none
 | _ => none
def amake (H : AH) (mu : Bool) (sz bytes : Nat) (zero : List AV) (len cap : AV) : Option (AV × AH) :=
 match len, cap with
 | .int .i64 n, .int .i64 c =>
  if 0 ≤ n ∧ n ≤ c ∧ bytes * c ≤ 281474976710656 ∧ c ≤ 9223372036854775807 ∧ zero.length = sz then
   if mu then some (.row H.n 0 n.toNat sz, H.push (.row (List.replicate c.toNat zero).flatten))
   else if n = c then some (.lst .full n.toNat (List.replicate n.toNat zero).flatten, H) else none
  else none
 | _, _ => none
def acopy (H : AH) (sz : Nat) (x y : AV) : Option (AV × AH) :=
 match x, acells H sz y with
 | .row id o len _, some (m, news) =>
  match H.o id with
  | .row cs =>
   let n := min m len
   if news.all AV.scalar ∧ o + n * sz ≤ cs.length then some (.int .i64 n, H.set id (.row (setCells cs o (news.take (n * sz))))) else none
  | _ => none
 | _, _ => none
def keyEq (kk : FK) : AV → AV → Option Bool
 | .int k a, .int k' b => if kk = .n ∧ k = k' then some (a == b) else none
 | .str s, .str t => if kk = .t then some (s == t) else none
 | .bool a, .bool b => if kk = .b then some (a == b) else none
 | _, _ => none
def findA (kk : FK) (k : AV) : List (AV × AV) → Nat → Option (Option (Nat × AV))
 | [], _ => some none
 | e :: es, i =>
  match keyEq kk k e.1 with
  | some true => some (some (i, e.2))
  | some false => findA kk k es (i + 1)
  | none => none
def plainKey (kk : FK) : AV → Bool
 | .int _ _ => kk == .n
 | .str _ => kk == .t
 | .bool _ => kk == .b
 | _ => false
def lookRes (ok : Bool) (v : AV) (b : Bool) : AV := if ok then .tup [v, .bool b] else v
def alookup (H : AH) (kk : FK) (zero : AV) (ok : Bool) (m k : AV) : Option AV :=
 match m with
 | .nilmap => if plainKey kk k then some (lookRes ok zero false) else none
 | .map id =>
  match H.o id with
  | .map es => if plainKey kk k then (findA kk k es 0).map fun r => (match r with | some (_, v) => lookRes ok v true | none => lookRes ok zero false) else none
  | _ => none
 | _ => none
def amapup (H : AH) (kk : FK) (m k v : AV) : Option AH :=
 match m with
 | .map id =>
  match H.o id with
  | .map es => if plainKey kk k ∧ v.known then (findA kk k es 0).map fun r => (match r with
      | some (i, _) => H.set id (.map (es.set i (k, v)))
      | none => H.set id (.map (es ++ [(k, v)]))) else none
  | _ => none
 | _ => none
def adelete (H : AH) (kk : FK) (m k : AV) : Option AH :=
 match m with
 | .map id =>
  match H.o id with
  | .map es => if plainKey kk k then (findA kk k es 0).map fun r => (match r with
      | some (i, _) => H.set id (.map (es.eraseIdx i))
      | none => H) else none
  | _ => none
 | _ => none
def amaplen (H : AH) (m : AV) : Option AV :=
 match m with
 | .nilmap => some (.int .i64 0)
 | .map id => match H.o id with | .map es => some (.int .i64 es.length) | _ => none
 | _ => none
def frzA (o : Nat → AObj) : List AV → Option (List AV × Nat)
 | [] => none
 | .row id off len sz :: r => match o id with
  | .row cs => if off + len * sz ≤ cs.length then some (.lst .dead len ((cs.drop off).take (len * sz)) :: r, id) else none
  | _ => none
 | c :: r => (frzA o r).map fun q => (c :: q.1, q.2)
def afreeze (H : AH) (x : AV) : Option (AV × AH) :=
 match x with
 | .row id o len sz =>
  match H.o id with
  | .row cs => if o + len * sz ≤ cs.length then some (.lst .dead len ((cs.drop o).take (len * sz)), H.set id .gone) else none
  | _ => none
 | .ptr id o =>
  match H.o id with
  | .row cs => match frzA H.o cs with
   | some (l, id') => if id' = id then none else some (.ptr id o, (H.set id' .gone).set id (.row l))
   | none => some (.fptr (cs.drop o), H.set id .gone)
  | _ => none
 | .lst tk len cells => some (.lst tk len cells, H)
 | .fptr cs => some (.fptr cs, H)
 | .agg cells => match frzA H.o cells with
  | some (l, id) => some (.agg l, H.set id .gone)
  | none => some (.agg cells, H)
 | _ => none
inductive Opd where
 | t (n : Nat)
 | k (v : AV)
abbrev Env := List AV
def Opd.ev (env : Env) : Opd → AV
 | .t n => env.getD n .bot
 | .k v => v
def acap (x : AV) : Option AV :=
 match x with
 | .lst .nil 0 [] => some (.int .i64 0)
 | _ => none
inductive Ext where
 | tassert (t : TypeId)
 | ptreq (neg : Bool)
 | clear (sz : Nat) (zero : List AV)
 | grow (sz bytes : Nat) (zero : List AV)
 | bnew (T : TypeId)
 | stuck
def aext (H : AH) (e : Ext) (xs : List AV) : Option (AV × AH) :=
 match e, xs with
 | .tassert t, [.iface t' v] => if t' = t then some (v, H) else none
 | .ptreq neg, [.ptr i o, .ptr j p] =>
  match H.o i, H.o j with
  | .row _, .row _ => if i = j then some (.bool (if neg then !(o == p) else o == p), H) else some (.bool neg, H)
  | _, _ => none
 | .clear sz zero, [.row id o len z] =>
  if len = 0 then some (.tup [], H) else
  match H.o id with
  | .row cs => if zero.all AV.scalar ∧ zero.length = sz ∧ o + len * sz ≤ cs.length then some (.tup [], H.set id (.row (setCells cs o (List.replicate len zero).flatten))) else none
  | _ => none
 | .clear _ _, [.lst _ 0 _] => some (.tup [], H)
 | .grow sz bytes zero, [.lst .nil 0 [], .int .i64 n] =>
  if 0 < n ∧ n.toNat * bytes ≤ 281474976710656 ∧ n ≤ 9223372036854775807 ∧ zero.length = sz ∧ 0 < sz then some (.row H.n 0 n.toNat sz, H.push (.row (List.replicate n.toNat zero).flatten)) else none
 | .bnew T, [] => some (.ptr H.n 0, H.push (.bld T false none))
 | .bnew T, [.agg [.nilp, .lst .nil 0 []]] => some (.ptr H.n 0, H.push (.bld T false none))
 | _, _ => none
def findI : List (TypeId × Nat × Option (Nat × Bool)) → TypeId → Option (Nat × Option (Nat × Bool))
 | [], _ => none
 | (t', r) :: l, t => if t' = t then some r else findI l t
def invR (H : AH) (m : Option (Nat × Bool)) (v : AV) : Option AV :=
 match m with
 | none => some v
 | some (n, agg) => aload H n agg v
inductive AOp where
 | mv (x : Opd)
 | pick (c a b : Opd)
 | bin (op : BinOp) (x y : Opd)
 | beq (neg : Bool) (x y : Opd)
 | isnil (k : NK) (neg : Bool) (x : Opd)
 | eqagg (neg : Bool) (ks : List FK) (x y : Opd)
 | un (op : UnOp) (x : Opd)
 | conv (k : IntKind) (x : Opd)
 | same (x : Opd)
 | nilck (x : Opd)
 | field (off sz : Nat) (agg : Bool) (x : Opd)
 | idx (len sz : Nat) (agg : Bool) (x i : Opd)
 | idxs (x i : Opd)
 | faddr (off : Nat) (x : Opd)
 | iaddr (arr : Option Nat) (sz : Nat) (x i : Opd)
 | slice (sz : Nat) (x : Opd) (lo hi mx : Option Opd)
 | sslice (x : Opd) (lo hi : Option Opd)
 | mkif (t : TypeId) (x : Opd)
 | mkfn (key : Nat) (caps : List Opd)
 | extract (i : Nat) (x : Opd)
 | build (zero : List AV) (parts : List (Nat × Nat × Opd))
 | len (str : Bool) (x : Opd)
 | lenk (n : Nat)
 | minmax (mx : Bool) (xs : List Opd)
 | load (n : Nat) (agg : Bool) (x : Opd)
 | store (n : Nat) (x v : Opd)
 | box (mu : Bool) (n : Nat) (x : Opd)
 | alloc (mu : Bool) (zero : List AV)
 | bslice (mu : Bool) (sz len : Nat) (zero : List AV) (parts : List (Nat × Nat × Opd))
 | append (mu : Bool) (sz bytes : Nat) (x y : Opd)
 | make (mu : Bool) (sz bytes : Nat) (zero : List AV) (len cap : Opd)
 | copy (sz : Nat) (x y : Opd)
 | mkmap
 | lookup (kk : FK) (zero : AV) (ok : Bool) (m k : Opd)
 | mapup (kk : FK) (m k v : Opd)
 | delete (kk : FK) (m k : Opd)
 | maplen (m : Opd)
 | sbytes (x : Opd)
 | bstr (x : Opd)
 | srange (x : Opd)
 | snext (x : Opd)
 | call (key : Nat) (args : List Opd)
 | callv (f : Opd) (args : List Opd)
 | ext (e : Ext) (xs : List Opd)
 | cap (x : Opd)
 | inv (tbl : List (TypeId × Nat × Option (Nat × Bool))) (x : Opd) (args : List Opd)
structure AOper where
 dst : Option Nat
 op : AOp
 guard : Option (Nat × Bool)
def evs (env : Env) (xs : List Opd) : List AV := xs.map (Opd.ev env)
def evps (env : Env) (xs : List (Nat × Nat × Opd)) : List (Nat × Nat × AV) := xs.map fun p => (p.1, p.2.1, p.2.2.ev env)
abbrev Post := AV → AH → Prop
abbrev Calls' := Nat → List AV → AH → Post → Prop
def DoH (x : Option (AV × AH)) (K : Post) : Prop := ∃ v H, x = some (v, H) ∧ K v H
def fkey (key : Nat) : Nat := match bkey key with | some k => k | none => key
def fargs (key : Nat) (args caps : List AV) : List AV := match bkey key with | some _ => caps ++ args | none => args ++ caps
theorem fkey_none {key : Nat} (h : bkey key = none) : fkey key = key := by unfold fkey; rw [h]
theorem fkey_some {key k : Nat} (h : bkey key = some k) : fkey key = k := by unfold fkey; rw [h]
theorem fargs_none {key : Nat} (h : bkey key = none) (args caps : List AV) : fargs key args caps = args ++ caps := by unfold fargs; rw [h]
theorem fargs_some {key k : Nat} (h : bkey key = some k) (args caps : List AV) : fargs key args caps = caps ++ args := by unfold fargs; rw [h]
def opSem (Φ : Calls') (env : Env) (H : AH) (K : Post) : AOp → Prop
 | .mv x => K (x.ev env) H
 | .pick c a b => Gd (c.ev env) true (K (a.ev env) H) (K (b.ev env) H)
 | .bin op x y => Do (abin op (x.ev env) (y.ev env)) fun v => K v H
 | .beq neg x y => Do (abeq neg (x.ev env) (y.ev env)) fun v => K v H
 | .isnil k neg x => Do (anil k neg (x.ev env)) fun v => K v H
 | .eqagg neg ks x y => Do (aeqAgg neg ks (x.ev env) (y.ev env)) fun v => K v H
 | .un op x => Do (aun op (x.ev env)) fun v => K v H
 | .conv k x => Do (aconv k (x.ev env)) fun v => K v H
 | .same x => Do (asame (x.ev env)) fun v => K v H
 | .nilck x => Do (anilck (x.ev env)) fun v => K v H
 | .field off sz agg x => Do (afield off sz agg (x.ev env)) fun v => K v H
 | .idx len sz agg x i => Do (aidx len sz agg (x.ev env) (i.ev env)) fun v => K v H
 | .idxs x i => Do (aidxs (x.ev env) (i.ev env)) fun v => K v H
 | .faddr off x => Do (afaddr off (x.ev env)) fun v => K v H
 | .iaddr arr sz x i => Do (aiaddr arr sz (x.ev env) (i.ev env)) fun v => K v H
 | .slice sz x lo hi mx => Do (aslice sz (x.ev env) (lo.map (Opd.ev env)) (hi.map (Opd.ev env)) (mx.map (Opd.ev env))) fun v => K v H
 | .sslice x lo hi => Do (asslice (x.ev env) (lo.map (Opd.ev env)) (hi.map (Opd.ev env))) fun v => K v H
 | .mkif t x => K (.iface t (x.ev env)) H
 | .mkfn key caps => K (.fn key (evs env caps)) H
 | .extract i x => Do (aextract i (x.ev env)) fun v => K v H
 | .build zero parts => Do (abuild zero (evps env parts)) fun v => K v H
 | .len str x => Do (alen str (x.ev env)) fun v => K v H
 | .lenk n => K (.int .i64 n) H
 | .minmax mx xs => Do (aminmax mx (evs env xs)) fun v => K v H
 | .load n agg x => Do (aload H n agg (x.ev env)) fun v => K v H
 | .store n x v => Do (astore H n (x.ev env) (v.ev env)) fun H => K (.tup []) H
 | .box mu n x => DoH (aboxv H mu n (x.ev env)) K
 | .alloc mu zero => DoH (some (abox H mu zero)) K
 | .bslice mu sz len zero parts => DoH (abslice H mu sz len zero (evps env parts)) K
 | .append mu sz bytes x y => DoH (aappend H mu sz bytes (x.ev env) (y.ev env)) K
 | .make mu sz bytes zero len cap => DoH (amake H mu sz bytes zero (len.ev env) (cap.ev env)) K
 | .copy sz x y => DoH (acopy H sz (x.ev env) (y.ev env)) K
 | .mkmap => K (.map H.n) (H.push (.map []))
 | .lookup kk zero ok m k => Do (alookup H kk zero ok (m.ev env) (k.ev env)) fun v => K v H
 | .mapup kk m k v => Do (amapup H kk (m.ev env) (k.ev env) (v.ev env)) fun H => K (.tup []) H
 | .delete kk m k => Do (adelete H kk (m.ev env) (k.ev env)) fun H => K (.tup []) H
 | .maplen m => Do (amaplen H (m.ev env)) fun v => K v H
 | .sbytes x => Do (asbytes (x.ev env)) fun v => K v H
 | .bstr x => Do (abstr H (x.ev env)) fun v => K v H
 | .srange x => DoH (asrange H (x.ev env)) K
 | .snext x => DoH (asnext H (x.ev env)) K
 | .call key args => Φ key (evs env args) H K
 | .callv f args => ∃ key caps, f.ev env = .fn key caps ∧ Φ (fkey key) (fargs key (evs env args) caps) H K
 | .ext e xs => DoH (aext H e (evs env xs)) K
 | .cap x => Do (acap (x.ev env)) fun v => K v H
 | .inv tbl x args => ∃ t v r u, x.ev env = .iface t v ∧ findI tbl t = some r ∧ invR H r.2 v = some u ∧ Φ r.1 (u :: evs env args) H K
def setd (env : Env) (d : Option Nat) (v : AV) : Env :=
 match d with
 | some t => env.set t v
 | none => env
def regSem (Φ : Calls') : List AOper → Env → AH → (Env → AH → Prop) → Prop
 | [], env, H, K => K env H
 | o :: r, env, H, K =>
  match o.guard with
  | none => opSem Φ env H (fun v H' => regSem Φ r (setd env o.dst v) H' K) o.op
  | some (s, want) =>
   Gd3 (env.getD s .bot) want (opSem Φ (env.set s (.bool want)) H (fun v H' => regSem Φ r (setd (env.set s (.bool want)) o.dst v) H' K) o.op)
    (regSem Φ r (setd (env.set s (.bool !want)) o.dst (.tup [])) H K) (regSem Φ r (setd (env.set s (.tup [])) o.dst (.tup [])) H K)
def Same (env : Env) (H : AH) (o : AOper) : Prop :=
 match o.op with
 | .load n agg x => aload H n agg (x.ev env) = some (env.getD (o.dst.getD 0) .bot)
 | .lookup kk zero ok m k => alookup H kk zero ok (m.ev env) (k.ev env) = some (env.getD (o.dst.getD 0) .bot)
 | .maplen m => amaplen H (m.ev env) = some (env.getD (o.dst.getD 0) .bot)
 | .bstr x => abstr H (x.ev env) = some (env.getD (o.dst.getD 0) .bot)
 | _ => True
def SameG (env : Env) (H : AH) (o : AOper) : Prop :=
 match o.guard with
 | none => Same env H o
 | some (s, want) => env.getD s .bot = .bool want → Same env H o
def sames (ops : List AOper) (env : Env) (H : AH) (X : Prop) : List Nat → Prop
 | [] => X
 | l :: r => (match ops[l]? with | some o => SameG env H o | none => True) ∧ sames ops env H X r
def oneSem (Φ : Calls') (o : AOper) (env : Env) (H : AH) (K : Env → AH → Prop) : Prop :=
 match o.guard with
 | none => opSem Φ env H (fun v H' => K (setd env o.dst v) H') o.op
 | some (s, want) =>
  Gd3 (env.getD s .bot) want (opSem Φ (env.set s (.bool want)) H (fun v H' => K (setd (env.set s (.bool want)) o.dst v) H') o.op)
   (K (setd (env.set s (.bool !want)) o.dst (.tup [])) H) (K (setd (env.set s (.tup [])) o.dst (.tup [])) H)
def segSem (Φ : Calls') (ops : List AOper) : List Nat → Env → AH → (Env → AH → Prop) → Prop
 | [], env, H, K => K env H
 | i :: r, env, H, K => match ops[i]? with
  | some o => oneSem Φ o env H fun env' H' => segSem Φ ops r env' H' K
  | none => False
def drawSem (Φ : Calls') (ops : List AOper) (last : List Nat) : List (List Nat × Nat × List Nat) → Env → AH → (Env → AH → Prop) → Prop
 | [], env, H, K => segSem Φ ops last env H K
 | (seg, e, st) :: r, env, H, K => segSem Φ ops seg env H fun env1 H1 => match ops[e]? with
  | some o => oneSem Φ o env1 H1 fun env2 H2 => sames ops env1 H2 (drawSem Φ ops last r env2 H2 K) st
  | none => False
inductive ACode where
 | skip
 | region (ops : List AOper)
 | draw (ops : List AOper) (pr : List (List Nat)) (plan : List (List Nat × Nat × List Nat)) (last : List Nat)
 | seq (a b : ACode)
 | join (vs ks : List Nat) (a b : ACode)
 | cond (x : Opd) (a b : ACode)
 | block (id : Nat) (a : ACode)
 | loop (vs ks : List Nat) (a : ACode)
 | exit (id : Nat)
 | ret
 | freeze (t : Nat) (a : ACode)
 | rjoin (vs ks : List Nat) (ops : List AOper) (b : ACode)
inductive AExit where
 | normal
 | exit (id : Nat)
 | ret
def gets (env : Env) (vs : List Nat) : List AV := vs.map fun t => env.getD t .bot
def kills (env : Env) : List Nat → Env
 | [] => env
 | t :: r => kills (env.set t .bot) r
def puts (env : Env) : List Nat → List AV → Env
 | t :: r, s => puts (env.set t (s.headD .bot)) r s.tail
 | [], _ => env
def sl (s : List AV) : Nat → AV
 | 0 => s.headD .bot
 | i + 1 => sl s.tail i
def LoopP {σ : Type} (F : σ → (σ → Prop) → Prop) (s : σ) : Prop :=
 ∀ I : σ → Prop, (∀ s K, F s K → (∀ t, K t → I t) → I s) → I s
theorem LoopP.step {σ : Type} {F : σ → (σ → Prop) → Prop} {s : σ} (h : F s (LoopP F)) : LoopP F s :=
 fun I hI => hI s _ h fun _ ht => ht I hI
def JoinP (K : List AV → AH → Prop) (st : List AV) (H : AH) : Prop := K st H
def codeSem (Φ : Calls') : ACode → Env → AH → (AExit → Env → AH → Prop) → Prop
 | .skip, env, H, Q => Q .normal env H
 | .region ops, env, H, Q => regSem Φ ops env H (Q .normal)
 | .draw ops _ plan last, env, H, Q => drawSem Φ ops last plan env H (Q .normal)
 | .seq a b, env, H, Q => codeSem Φ a env H fun e env' H' => match e with
  | .normal => codeSem Φ b env' H' Q
  | e => Q e env' H'
 | .join vs ks a b, env, H, Q => codeSem Φ a env H fun e env' H' => match e with
  | .normal => JoinP (fun st H'' => codeSem Φ b (puts (kills env ks) vs st) H'' Q) (gets env' vs) H'
  | e => Q e env' H'
 | .cond x a b, env, H, Q => Gd (x.ev env) true (codeSem Φ a env H Q) (codeSem Φ b env H Q)
 | .block id a, env, H, Q => codeSem Φ a env H fun e env' H' => match e with
  | .exit id' => if id' = id then Q .normal env' H' else Q (.exit id') env' H'
  | e => Q e env' H'
 | .loop vs ks a, env, H, Q =>
  LoopP (fun (s : List AV × AH) (K : List AV × AH → Prop) =>
    codeSem Φ a (puts (kills env ks) vs s.1) s.2 fun e env' H' => match e with
     | .normal => K (gets env' vs, H')
     | e => Q e env' H') (gets env vs, H)
 | .exit id, env, H, Q => Q (.exit id) env H
 | .ret, env, H, Q => Q .ret env H
 | .freeze t a, env, H, Q => DoH (afreeze H (env.getD t .bot)) fun v H' => codeSem Φ a (env.set t v) H' Q
 | .rjoin vs ks ops b, env, H, Q => regSem Φ ops env H fun env' H' => JoinP (fun st H'' => codeSem Φ b (puts (kills env ks) vs st) H'' Q) (gets env' vs) H'
inductive ARes where
 | tmp (t : Nat)
 | cell (t n : Nat) (agg : Bool)
def resSem (env : Env) (H : AH) : List ARes → (List AV → Prop) → Prop
 | [], K => K []
 | .tmp t :: r, K => resSem env H r fun vs => K (env.getD t .bot :: vs)
 | .cell t n agg :: r, K => Do (aload H n agg (env.getD t .bot)) fun v => resSem env H r fun vs => K (v :: vs)
structure AFunc where
 ntmps : Nat
 results : List ARes
 body : ACode
def oneRes : List AV → AV
 | [v] => v
 | vs => .tup vs
def fnSem (Φ : Calls') (f : AFunc) (args : List AV) (H : AH) (Q : Post) : Prop :=
 codeSem Φ f.body (args ++ List.replicate (f.ntmps - args.length) .bot) H fun e env H' => match e with
  | .exit _ => False
  | _ => resSem env H' f.results fun vs => Q (oneRes vs) H'
end Rb

namespace Rb
open Go
def NonVac (Φ : Calls') : Prop := ∀ (key : Nat) (args : List AV) (H : AH) (Q : Post), Φ key args H Q → ∃ v H', Q v H'
theorem Do.nv {α : Type} {x : Option α} {K : α → Prop} (h : Do x K) : ∃ a, K a := by
 obtain ⟨a, _, h⟩ := h; exact ⟨a, h⟩
theorem DoH.nv {x : Option (AV × AH)} {K : Post} (h : DoH x K) : ∃ v H, K v H := by
 obtain ⟨a, H, _, h⟩ := h; exact ⟨a, H, h⟩
theorem Gd.nv {v : AV} {want : Bool} {A B X : Prop} (hA : A → X) (hB : B → X) (h : Gd v want A B) : X := by
 unfold Gd at h
 split at h
 · split at h
   · exact hA h
   · exact hB h
 · exact h.elim
theorem Gd3.nv {v : AV} {want : Bool} {A B D X : Prop} (hA : A → X) (hB : B → X) (hD : D → X) (h : Gd3 v want A B D) : X := by
 unfold Gd3 at h
 split at h
 · split at h
   · exact hA h
   · exact hB h
 · exact hD h
 · exact h.elim
section
variable {Φ : Calls'}
theorem opSem_nv (hΦ : NonVac Φ) {env : Env} {H : AH} {K : Post} {op : AOp} (h : opSem Φ env H K op) : ∃ v H', K v H' := by
 cases op with
 | mv x => exact ⟨_, _, h⟩
 | pick c x y => exact Gd.nv (fun h => ⟨_, _, h⟩) (fun h => ⟨_, _, h⟩) h
 | mkif t x => exact ⟨_, _, h⟩
 | mkfn key caps => exact ⟨_, _, h⟩
 | lenk n => exact ⟨_, _, h⟩
 | box mu n x => exact DoH.nv h
 | alloc mu zero => exact DoH.nv h
 | bslice => exact DoH.nv h
 | append => exact DoH.nv h
 | make => exact DoH.nv h
 | copy => exact DoH.nv h
 | mkmap => exact ⟨_, _, h⟩
 | srange => exact DoH.nv h
 | snext => exact DoH.nv h
 | call key args => exact hΦ _ _ _ _ h
 | callv f args => obtain ⟨key, caps, h1, h2⟩ := h; exact hΦ _ _ _ _ h2
 | ext => exact DoH.nv h
 | inv tbl x args => obtain ⟨t, v, r, u, h1, h2, h3, h4⟩ := h; exact hΦ _ _ _ _ h4
 | store => obtain ⟨H', h⟩ := Do.nv h; exact ⟨_, _, h⟩
 | mapup => obtain ⟨H', h⟩ := Do.nv h; exact ⟨_, _, h⟩
 | delete => obtain ⟨H', h⟩ := Do.nv h; exact ⟨_, _, h⟩
 | _ => obtain ⟨v, h⟩ := Do.nv h; exact ⟨_, _, h⟩
theorem oneSem_nv (hΦ : NonVac Φ) {o : AOper} {env : Env} {H : AH} {K : Env → AH → Prop} (h : oneSem Φ o env H K) : ∃ env' H', K env' H' := by
 unfold oneSem at h
 split at h
 · obtain ⟨v, H', h⟩ := opSem_nv hΦ h; exact ⟨_, _, h⟩
 · refine Gd3.nv (fun h => ?_) (fun h => ⟨_, _, h⟩) (fun h => ⟨_, _, h⟩) h
   obtain ⟨v, H', h⟩ := opSem_nv hΦ h; exact ⟨_, _, h⟩
theorem regSem_nv (hΦ : NonVac Φ) : ∀ (l : List AOper) {env : Env} {H : AH} {K : Env → AH → Prop}, regSem Φ l env H K → ∃ env' H', K env' H'
 | [], _, _, _, h => ⟨_, _, h⟩
 | o :: r, env, H, K, h => by
  unfold regSem at h
  split at h
  · obtain ⟨v, H', h⟩ := opSem_nv hΦ h; exact regSem_nv hΦ r h
  · refine Gd3.nv (fun h => ?_) (fun h => regSem_nv hΦ r h) (fun h => regSem_nv hΦ r h) h
    obtain ⟨v, H', h⟩ := opSem_nv hΦ h; exact regSem_nv hΦ r h
theorem segSem_nv (hΦ : NonVac Φ) {ops : List AOper} : ∀ (l : List Nat) {env : Env} {H : AH} {K : Env → AH → Prop}, segSem Φ ops l env H K → ∃ env' H', K env' H'
 | [], _, _, _, h => ⟨_, _, h⟩
 | i :: r, env, H, K, h => by
  unfold segSem at h
  split at h
  · obtain ⟨env', H', h⟩ := oneSem_nv hΦ h; exact segSem_nv hΦ r h
  · exact h.elim
theorem sames_nv {ops : List AOper} {env : Env} {H : AH} {X : Prop} : ∀ (l : List Nat), sames ops env H X l → X
 | [], h => h
 | _ :: r, h => sames_nv r h.2
theorem drawSem_nv (hΦ : NonVac Φ) {ops : List AOper} {last : List Nat} : ∀ (l : List (List Nat × Nat × List Nat)) {env : Env} {H : AH} {K : Env → AH → Prop}, drawSem Φ ops last l env H K → ∃ env' H', K env' H'
 | [], env, H, K, h => segSem_nv hΦ last h
 | (seg, e, st) :: r, env, H, K, h => by
  unfold drawSem at h
  obtain ⟨env1, H1, h⟩ := segSem_nv hΦ seg h
  split at h
  · obtain ⟨env2, H2, h⟩ := oneSem_nv hΦ h; exact drawSem_nv hΦ r (sames_nv st h)
  · exact h.elim
theorem codeSem_nv (hΦ : NonVac Φ) : ∀ (c : ACode) {env : Env} {H : AH} {Q : AExit → Env → AH → Prop}, codeSem Φ c env H Q → ∃ e env' H', Q e env' H' := by
 intro c
 induction c with
 | skip => intro env H Q h; exact ⟨_, _, _, h⟩
 | region ops => intro env H Q h; obtain ⟨e, H', h⟩ := regSem_nv hΦ ops h; exact ⟨_, _, _, h⟩
 | draw ops pr plan last => intro env H Q h; obtain ⟨e, H', h⟩ := drawSem_nv hΦ plan h; exact ⟨_, _, _, h⟩
 | seq a b iha ihb =>
  intro env H Q h
  obtain ⟨e, env', H', h⟩ := iha h
  cases e with
  | normal => exact ihb h
  | exit i => exact ⟨_, _, _, h⟩
  | ret => exact ⟨_, _, _, h⟩
 | join vs ks a b iha ihb =>
  intro env H Q h
  obtain ⟨e, env', H', h⟩ := iha h
  cases e with
  | normal => exact ihb h
  | exit i => exact ⟨_, _, _, h⟩
  | ret => exact ⟨_, _, _, h⟩
 | cond x a b iha ihb => intro env H Q h; exact Gd.nv (fun h => iha h) (fun h => ihb h) h
 | block id a ih =>
  intro env H Q h
  obtain ⟨e, env', H', h⟩ := ih h
  cases e with
  | normal => exact ⟨_, _, _, h⟩
  | exit i =>
   dsimp only at h
   split at h
   · exact ⟨_, _, _, h⟩
   · exact ⟨_, _, _, h⟩
  | ret => exact ⟨_, _, _, h⟩
 | loop vs ks a ih =>
  intro env H Q h
  refine h (fun _ => ∃ e env' H', Q e env' H') fun s K hs hK => ?_
  obtain ⟨e, env', H', h⟩ := ih hs
  cases e with
  | normal => exact hK _ h
  | exit i => exact ⟨_, _, _, h⟩
  | ret => exact ⟨_, _, _, h⟩
 | exit id => intro env H Q h; exact ⟨_, _, _, h⟩
 | ret => intro env H Q h; exact ⟨_, _, _, h⟩
 | freeze t a ih => intro env H Q h; obtain ⟨v, H', h⟩ := DoH.nv h; exact ih h
 | rjoin vs ks ops b ih => intro env H Q h; obtain ⟨e, H', h⟩ := regSem_nv hΦ ops h; exact ih h
theorem resSem_nv {env : Env} {H : AH} : ∀ (l : List ARes) {K : List AV → Prop}, resSem env H l K → ∃ vs, K vs
 | [], K, h => ⟨_, h⟩
 | .tmp t :: r, K, h => by obtain ⟨vs, h⟩ := resSem_nv r h; exact ⟨_, h⟩
 | .cell t n agg :: r, K, h => by
  obtain ⟨v, h⟩ := Do.nv h
  obtain ⟨vs, h⟩ := resSem_nv r h; exact ⟨_, h⟩
theorem fnSem_nv (hΦ : NonVac Φ) {f : AFunc} {args : List AV} {H : AH} {Q : Post} (h : fnSem Φ f args H Q) : ∃ v H', Q v H' := by
 obtain ⟨e, env', H', h⟩ := codeSem_nv hΦ _ h
 cases e with
 | normal => obtain ⟨vs, h⟩ := resSem_nv _ h; exact ⟨_, _, h⟩
 | exit i => exact h.elim
 | ret => obtain ⟨vs, h⟩ := resSem_nv _ h; exact ⟨_, _, h⟩
end
end Rb

namespace Rb
open Go
section
variable {P : Program} {F : FTab} {w : World} {G : Ghost}
@[simp] theorem Do_of_some {α : Type} (a : α) (K : α → Prop) : Do (some a) K = K a := by simp [Do]
@[simp] theorem Do_none {α : Type} (K : α → Prop) : Do none K = False := by simp [Do]
theorem VR.int_inv {k : IntKind} {n : Int} {V : Value} (h : VR F w G (.int k n) V) : V = .int k n := by cases h; rfl
theorem VR.bool_inv {b : Bool} {V : Value} (h : VR F w G (.bool b) V) : V = .bool b := by cases h; rfl
theorem VR.str_inv {s : List UInt8} {V : Value} (h : VR F w G (.str s) V) : V = .string ⟨s.toArray⟩ := by cases h; rfl
theorem VR.agg_inv {cs : List AV} {V : Value} (h : VR F w G (.agg cs) V) : ∃ Vs, V = .agg Vs ∧ VRs F w G cs Vs := by
 cases h with | agg cs Vs hl hv => exact ⟨Vs, rfl, hl, hv⟩
theorem VR.tup_inv {cs : List AV} {V : Value} (h : VR F w G (.tup cs) V) : ∃ Vs, V = .tuple Vs ∧ VRs F w G cs Vs := by
 cases h with | tup cs Vs hl hv => exact ⟨Vs, rfl, hl, hv⟩
theorem VR.tup0_inv {V : Value} (h : VR F w G (.tup []) V) : V = .tuple #[] := by
 obtain ⟨Vs, rfl, hs, _⟩ := h.tup_inv
 have : Vs.size = 0 := by simpa using hs.symm
 rw [Array.size_eq_zero_iff.1 this]
theorem VRs.agg {cs : List AV} {Vs : Array Value} (h : VRs F w G cs Vs) : VR F w G (.agg cs) (.agg Vs) := .agg cs Vs h.1 h.2
theorem VRs.tup {cs : List AV} {Vs : Array Value} (h : VRs F w G cs Vs) : VR F w G (.tup cs) (.tuple Vs) := .tup cs Vs h.1 h.2
theorem VRs.get {cs : List AV} {Vs : Array Value} (h : VRs F w G cs Vs) {j : Nat} {c : AV} (hc : cs[j]? = some c) : ∃ V, Vs[j]? = some V ∧ VR F w G c V := by
 have hj : j < cs.length := (List.getElem?_eq_some_iff.1 hc).1
 have hj' : j < Vs.size := h.1 ▸ hj
 exact ⟨Vs[j], Array.getElem?_eq_getElem hj', h.2 j c _ hc (Array.getElem?_eq_getElem hj')⟩
theorem VRs.of_list {cs : List AV} {Vs : List Value} (hl : cs.length = Vs.length) (h : ∀ (j : Nat) (c : AV) (V : Value), cs[j]? = some c → Vs[j]? = some V → VR F w G c V) : VRs F w G cs Vs.toArray :=
 ⟨by simpa using hl, fun j c V hc hV => h j c V hc (by simpa using hV)⟩
theorem VRs.cut {cs : List AV} {Vs : Array Value} (h : VRs F w G cs Vs) (o n : Nat) (hn : o + n ≤ cs.length) : VRs F w G ((cs.drop o).take n) (Vs.extract o (o + n)) := by
 have h1 := h.1
 refine ⟨by simp; omega, fun j c V hc hV => ?_⟩
 rw [List.getElem?_take] at hc
 split at hc
 · rename_i hj
   rw [List.getElem?_drop] at hc
   rw [Array.getElem?_extract] at hV
   split at hV
   · exact h.2 _ _ _ hc hV
   · cases hV
 · cases hc
def rowish : TypeDesc → Bool
 | .struct _ | .array _ _ => true
 | _ => false
theorem run_part_agg {t : TypeId} {cs : Array Value} {off : Nat} {d : TypeDesc} {i : TypeInfo} (hd : P.underlying t = some d) (ha : rowish d = true) (hi : P.info? t = some i) :
  (part t cs off).run P w = .ok (.agg (cs.extract off (off + i.size))) w := by
 cases d <;> simp [rowish] at ha <;> simp [part, isAgg, Go.sizeOf, typeInfo, run_underlying hd, hi]
theorem run_part_one {t : TypeId} {cs : Array Value} {off : Nat} {d : TypeDesc} {V : Value} (hd : P.underlying t = some d) (ha : rowish d = false) (hV : cs[off]? = some V) :
  (part t cs off).run P w = .ok V w := by
 cases d <;> simp [rowish] at ha <;> simp [part, isAgg, run_underlying hd, hV]
def tyOk (P : Program) (t : TypeId) (sz : Nat) (agg : Bool) : Bool :=
 match P.underlying t, P.info? t with
 | some d, some i => rowish d == agg && i.size == sz && (agg || sz == 1)
 | _, _ => false
theorem tyOk_inv {t : TypeId} {sz : Nat} {agg : Bool} (h : tyOk P t sz agg = true) : ∃ d i, P.underlying t = some d ∧ P.info? t = some i ∧ rowish d = agg ∧ i.size = sz ∧ (agg = true ∨ sz = 1) := by
 unfold tyOk at h
 split at h
 · rename_i d i hd hi
   simp only [Bool.and_eq_true, beq_iff_eq, Bool.or_eq_true] at h
   exact ⟨d, i, hd, hi, h.1.1, h.1.2, h.2⟩
 · cases h
theorem takeCells_sound {t : TypeId} {sz : Nat} {agg : Bool} (ht : tyOk P t sz agg = true) {cs : List AV} {Vs : Array Value} (h : VRs F w G cs Vs) {o : Nat} {v : AV} (hv : takeCells cs o sz agg = some v) :
  ∃ V, (part t Vs o).run P w = .ok V w ∧ VR F w G v V := by
 obtain ⟨d, i, hd, hi, ha, hs, hone⟩ := tyOk_inv ht
 unfold takeCells at hv
 split at hv
 · rename_i hle
   cases agg with
   | true =>
    simp at hv
    subst hv
    subst hs
    exact ⟨_, run_part_agg hd ha hi, (h.cut o _ hle).agg⟩
   | false =>
    simp at hv
    obtain ⟨V, hV, hr⟩ := h.get hv
    exact ⟨V, run_part_one hd ha hV, hr⟩
 · cases hv
theorem abin_sound {op : BinOp} {x y v : AV} {X Y : Value} {t : TypeId} (h : abin op x y = some v) (hx : VR F w G x X) (hy : VR F w G y Y) :
  ∃ V, (binOp op t X Y).run P w = .ok V w ∧ VR F w G v V := by
 unfold abin at h
 split at h
 · rename_i k a k' b
   obtain rfl := hx.int_inv
   obtain rfl := hy.int_inv
   unfold abinInt at h
   cases op <;> simp only [] at h
   case shl =>
    split at h
    · cases h
    · rename_i hb
      cases h
      refine ⟨.int k (k.wrap (a * 2 ^ (min b.toNat k.bits))), ?_, .int _ _⟩
      simp [binOp, Op.shift, hb]
   case shr =>
    split at h
    · cases h
    · rename_i hb
      cases h
      refine ⟨.int k (a.fdiv (2 ^ (min b.toNat k.bits))), ?_, .int _ _⟩
      simp [binOp, Op.shift, hb]
   case quo =>
    split at h
    · rename_i hb
      cases h
      obtain ⟨rfl, hb⟩ := hb
      refine ⟨.int k (k.wrap (a.tdiv b)), ?_, .int _ _⟩
      simp [binOp, Op.intDiv, hb]
    · cases h
   case rem =>
    split at h
    · rename_i hb
      cases h
      obtain ⟨rfl, hb⟩ := hb
      refine ⟨.int k (a.tmod b), ?_, .int _ _⟩
      simp [binOp, Op.intDiv, hb]
    · cases h
   all_goals
    split at h
    · rename_i hk
      subst hk
      first
       | (have h := show some (AV.int k _) = some v from h
          cases h
          refine ⟨_, ?_, .int _ _⟩
          simp only [binOp, ne_eq, not_true_eq_false, if_false]
          rfl)
       | (cases h
          refine ⟨_, ?_, .bool _⟩
          simp only [binOp, ne_eq, not_true_eq_false, if_false]
          rfl)
    · cases h
 · rename_i s u
   obtain rfl := hx.str_inv
   obtain rfl := hy.str_inv
   unfold abinStr at h
   cases op <;> simp only [] at h
   case add =>
    split at h
    · rename_i hl
      cases h
      refine ⟨_, ?_, .str _⟩
      have hl' : ¬ (9223372036854775807 < (s.length : Int) + (u.length : Int)) := by omega
      have hs : (ByteArray.mk s.toArray).size = s.length := by simp [ByteArray.size]
      have hu : (ByteArray.mk u.toArray).size = u.length := by simp [ByteArray.size]
      have he : (ByteArray.mk s.toArray ++ ByteArray.mk u.toArray) = ⟨(s ++ u).toArray⟩ := by
       apply ByteArray.ext
       simp
      simp [binOp, Op.stringOp, hs, hu, hl', IntKind.max, IntKind.signed, IntKind.bits, he]
    · cases h
   all_goals
    first
     | (cases h; exact ⟨_, by simp [binOp, Op.stringOp], .bool _⟩)
     | cases h
 · cases h
theorem run_eqGuard_other (op : BinOp) (t : TypeId) (x y : Operand) (X Y : Value) (h1 : ∀ cs, X ≠ .agg cs) (h2 : X ≠ .nilIface) : (eqGuard op t x y X Y).run P w = .ok () w := by
 unfold eqGuard
 cases op <;> simp
 all_goals (cases X <;> simp_all)
theorem abeq_sound {neg : Bool} {x y v : AV} {X Y : Value} {t : TypeId} (ht : P.underlying t = some .bool) (h : abeq neg x y = some v) (hx : VR F w G x X) (hy : VR F w G y Y) :
  ∃ V, (binOp (if neg then .neq else .eql) t X Y).run P w = .ok V w ∧ VR F w G v V := by
 unfold abeq at h
 split at h
 · rename_i a b
   obtain rfl := hx.bool_inv
   obtain rfl := hy.bool_inv
   cases h
   have he' : ∀ n, (Op.equalIn (n + 1) t (.bool a) (.bool b)).run P w = .ok (a == b) w := fun n => by
    unfold Op.equalIn
    simp [run_underlying ht]
   have he : (Op.equal t (.bool a) (.bool b)).run P w = .ok (a == b) w := he' 9999
   refine ⟨_, ?_, .bool _⟩
   cases neg
   · show (do pure (.bool (← Op.equal t (.bool a) (.bool b))) : Sem Value).run P w = _
     simp [he]
   · show (do pure (.bool (!(← Op.equal t (.bool a) (.bool b)))) : Sem Value).run P w = _
     simp [he]
 · cases h
def nilKind : TypeDesc → Option NK
 | .pointer _ => some .p
 | .slice _ => some .s
 | .map _ _ => some .m
 | .func _ _ _ => some .f
 | .interface _ => some .i
 | _ => none
def NK.nil : NK → Value
 | .p => .pointer none
 | .s => .slice none 0 0
 | .m => .map none
 | .f => .nilFunc
 | .i => .nilIface
theorem run_equal_nil {k : NK} {x : AV} {b : Bool} {X : Value} {t : TypeId} {d : TypeDesc} (hd : P.underlying t = some d) (hk : nilKind d = some k) (h : x.isNil k = some b) (hx : VR F w G x X) :
  (Op.equal t X k.nil).run P w = .ok b w := by
 have key : ∀ n, (Op.equalIn (n + 1) t X k.nil).run P w = .ok b w := by
  intro n
  unfold AV.isNil at h
  split at h <;> (try (cases h; done)) <;> cases h
  all_goals
   cases d <;> simp only [nilKind, Option.some.injEq, reduceCtorEq] at hk
   cases hx <;> first | (unfold Op.equalIn; simp [NK.nil, run_underlying hd]; done) | contradiction
 exact key 9999
theorem anil_sound {k : NK} {neg : Bool} {x v : AV} {X : Value} {t : TypeId} {d : TypeDesc} (hd : P.underlying t = some d) (hk : nilKind d = some k) (h : anil k neg x = some v) (hx : VR F w G x X) :
  ∃ V, (binOp (if neg then .neq else .eql) t X k.nil).run P w = .ok V w ∧ VR F w G v V := by
 unfold anil at h
 cases hb : x.isNil k with
 | none => simp [hb] at h
 | some b =>
  simp [hb] at h
  subst h
  have hr := run_equal_nil (P := P) hd hk hb hx
  have hbin : (neg = false → binOp .eql t X k.nil = (do pure (.bool (← Op.equal t X k.nil)))) ∧ (neg = true → binOp .neq t X k.nil = (do pure (.bool (!(← Op.equal t X k.nil))))) := by
   unfold AV.isNil at hb
   split at hb <;> (try (cases hb; done)) <;> cases hx <;> exact ⟨fun _ => rfl, fun _ => rfl⟩
  refine ⟨_, ?_, .bool _⟩
  cases neg
  · rw [if_neg (by simp), hbin.1 rfl]
    simp [hr]
  · rw [if_pos rfl, hbin.2 rfl]
    simp [hr]
theorem aun_sound {op : UnOp} {x v : AV} {X : Value} (h : aun op x = some v) (hx : VR F w G x X) : ∃ V, (Op.unary op X).run P w = .ok V w ∧ VR F w G v V := by
 unfold aun at h
 split at h
 · obtain rfl := hx.bool_inv
   cases h
   exact ⟨_, rfl, .bool _⟩
 · obtain rfl := hx.int_inv
   cases h
   exact ⟨_, rfl, .int _ _⟩
 · obtain rfl := hx.int_inv
   simp only [bitsOp, Option.map_some, Option.some.injEq] at h
   subst h
   exact ⟨_, rfl, .int _ _⟩
 · cases h
theorem aconv_sound {k : IntKind} {x v : AV} {X : Value} {s t : TypeId} {d : TypeDesc} (hs : P.underlying s = some d) (ht : P.underlying t = some (.int k)) (h : aconv k x = some v) (hx : VR F w G x X) :
  ∃ V, (convert s t X).run P w = .ok V w ∧ VR F w G v V := by
 unfold aconv at h
 split at h
 · obtain rfl := hx.int_inv
   cases h
   refine ⟨_, ?_, .int _ _⟩
   simp [convert, run_underlying hs, run_underlying ht, Conv.intToInt]
 · cases h
theorem asame_sound {x v : AV} {X : Value} {s t : TypeId} (hs : P.underlying s = some .string) (ht : P.underlying t = some .string) (h : asame x = some v) (hx : VR F w G x X) :
  ∃ V, (convert s t X).run P w = .ok V w ∧ VR F w G v V := by
 unfold asame at h
 split at h
 · obtain rfl := hx.str_inv
   cases h
   refine ⟨_, ?_, .str _⟩
   simp [convert, run_underlying hs, run_underlying ht]
 · cases h
theorem anilck_sound {x v : AV} {X : Value} (h : anilck x = some v) (hx : VR F w G x X) : (∃ a, X = .pointer (some a)) ∧ VR F w G v X ∨ (∃ f As Vs, X = .func (.func f) As Vs) ∧ VR F w G v X := by
 unfold anilck at h
 split at h
 · cases h; left; exact ⟨by cases hx; exact ⟨_, rfl⟩, hx⟩
 · cases h; left; exact ⟨by cases hx; exact ⟨_, rfl⟩, hx⟩
 · cases h; right; exact ⟨by cases hx <;> exact ⟨_, _, _, rfl⟩, hx⟩
 · cases h
theorem afield_sound {t : TypeId} {fields : Array Field} {n off sz : Nat} {agg : Bool} {f : Field} {x v : AV} {X : Value} (ht : P.underlying t = some (.struct fields)) (hf : fields[n]? = some f) (ho : f.offset = off)
  (hty : tyOk P f.type sz agg = true) (h : afield off sz agg x = some v) (hx : VR F w G x X) : ∃ V, (Instr.field t X n).run P w = .ok V w ∧ VR F w G v V := by
 unfold afield at h
 split at h
 · obtain ⟨Vs, rfl, hVs⟩ := hx.agg_inv
   subst ho
   obtain ⟨V, hr, hv⟩ := takeCells_sound (w := w) hty hVs h
   exact ⟨V, by simp [Instr.field, run_underlying ht, hf, asAgg, hr], hv⟩
 · cases h
theorem aidx_sound {t e : TypeId} {len sz : Nat} {agg : Bool} {x i v : AV} {X I : Value} (ht : P.underlying t = some (.array len e)) (hty : tyOk P e sz agg = true) (h : aidx len sz agg x i = some v)
  (hx : VR F w G x X) (hi : VR F w G i I) : ∃ V, (Instr.index t X I).run P w = .ok V w ∧ VR F w G v V := by
 unfold aidx at h
 split at h
 · obtain ⟨Vs, rfl, hVs⟩ := hx.agg_inv
   obtain rfl := hi.int_inv
   split at h
   · rename_i hb
     obtain ⟨V, hr, hv⟩ := takeCells_sound (w := w) hty hVs h
     obtain ⟨d, inf, hd, hinf, _, hs, _⟩ := tyOk_inv hty
     subst hs
     exact ⟨V, by simp [Instr.index, asIntOf, run_underlying ht, hb, Go.sizeOf, typeInfo, hinf, hr], hv⟩
   · cases h
 · cases h
theorem aidxs_sound {t : TypeId} {x i v : AV} {X I : Value} (ht : P.underlying t = some .string) (h : aidxs x i = some v)
  (hx : VR F w G x X) (hi : VR F w G i I) : ∃ V, (Instr.index t X I).run P w = .ok V w ∧ VR F w G v V := by
 unfold aidxs at h
 split at h
 · rename_i s k i
   obtain rfl := hx.str_inv
   obtain rfl := hi.int_inv
   split at h
   · rename_i hb
     cases hs : s[i.toNat]? with
     | none => simp [hs] at h
     | some b =>
      simp [hs] at h
      subst h
      have hg : (ByteArray.mk s.toArray)[i.toNat]? = some b := by
       have hlt := (List.getElem?_eq_some_iff.1 hs).1
       have he := (List.getElem?_eq_some_iff.1 hs).2
       have hsz : i.toNat < (ByteArray.mk s.toArray).size := by simpa [ByteArray.size] using hlt
       rw [getElem?_pos (ByteArray.mk s.toArray) i.toNat hsz]
       simp [ByteArray.getElem_eq_getElem_data, he]
      exact ⟨_, by simp [Instr.index, asIntOf, run_underlying ht, hb, hg], .int _ _⟩
   · cases h
 · cases h
theorem addr_add (b o n : Nat) : (⟨b, o, none⟩ : Addr).add n = ⟨b, o + n, none⟩ := by
 unfold Addr.add
 split
 · rename_i h; subst h; rfl
 · rfl
theorem fdrop {cs : List AV} {b o : Nat} (h : VR F w G (.fptr cs) (.pointer (some ⟨b, o, none⟩))) (n : Nat) : VR F w G (.fptr (cs.drop n)) (.pointer (some ⟨b, o + n, none⟩)) := by
 cases h with
 | fptr cs b o Vs h hv =>
  refine .fptr _ _ _ (fun j => Vs (n + j)) (fun j c hj => ?_) (fun j c hj => ?_)
  · rw [List.getElem?_drop] at hj
    have := h _ _ hj
    rw [← Nat.add_assoc] at this
    exact this
  · rw [List.getElem?_drop] at hj
    exact hv _ _ hj
theorem afaddr_sound {t : TypeId} {fields : Array Field} {n off : Nat} {f : Field} {fi : TypeInfo} {x v : AV} {X : Value} (ht : P.underlying t = some (.struct fields)) (hf : fields[n]? = some f) (ho : f.offset = off)
  (hfi : P.info? f.type = some fi) (hpos : fi.size ≠ 0) (h : afaddr off x = some v) (hx : VR F w G x X) : ∃ V, (Instr.fieldAt t X n).run P w = .ok V w ∧ VR F w G v V := by
 subst ho
 have key : ∀ b o, X = .pointer (some ⟨b, o, none⟩) → (Instr.fieldAt t X n).run P w = .ok (.pointer (some ⟨b, o + f.offset, none⟩)) w := by
  intro b o hX
  subst hX
  simp [Instr.fieldAt, run_underlying ht, hf, Instr.sureAddr, fieldPlace, Go.sizeOf, typeInfo, hfi, hpos, addr_add]
 unfold afaddr at h
 split at h
 · cases h
   cases hx with
   | ptr id off hid => exact ⟨_, key _ _ rfl, .ptr _ _ hid⟩
 · cases h
   cases hx with
   | fptr _ b o Vs h hv => exact ⟨_, key _ _ rfl, fdrop (.fptr _ b o Vs h hv) _⟩
 · cases h
theorem Gd_inv {v : AV} {want : Bool} {A B : Prop} (h : Gd v want A B) : ∃ b, v = .bool b ∧ if b = want then A else B := by
 unfold Gd at h
 split at h
 · rename_i b; exact ⟨b, rfl, h⟩
 · exact h.elim
@[simp] theorem Gd_bool (b want : Bool) (A B : Prop) : Gd (.bool b) want A B = if b = want then A else B := rfl
theorem aextract_sound {i : Nat} {x v : AV} {X : Value} (h : aextract i x = some v) (hx : VR F w G x X) : ∃ V, (Instr.extract X i).run P w = .ok V w ∧ VR F w G v V := by
 unfold aextract at h
 split at h
 · obtain ⟨Vs, rfl, hVs⟩ := hx.tup_inv
   obtain ⟨V, hV, hv⟩ := hVs.get h
   exact ⟨V, by simp [Instr.extract, hV], hv⟩
 · cases h
theorem VRs.app {cs cs' : List AV} {Vs Vs' : Array Value} (h : VRs F w G cs Vs) (h' : VRs F w G cs' Vs') : VRs F w G (cs ++ cs') (Vs ++ Vs') := by
 refine ⟨by simp [h.1, h'.1], fun j c V hc hV => ?_⟩
 rw [List.getElem?_append] at hc
 rw [Array.getElem?_append] at hV
 rw [h.1] at hc
 split at hc
 · rename_i hj
   rw [if_pos hj] at hV
   exact h.2 _ _ _ hc hV
 · rename_i hj
   rw [if_neg hj] at hV
   exact h'.2 _ _ _ hc hV
theorem VRs.set {cs : List AV} {Vs : Array Value} (h : VRs F w G cs Vs) (j : Nat) {c : AV} {V : Value} (hc : VR F w G c V) : VRs F w G (cs.set j c) (Vs.setIfInBounds j V) := by
 refine ⟨by simp [h.1], fun i d U hd hU => ?_⟩
 rw [List.getElem?_set] at hd
 rw [Array.getElem?_setIfInBounds] at hU
 by_cases hij : j = i
 · subst hij
   rw [if_pos rfl] at hd
   rw [if_pos rfl] at hU
   split at hd
   · rename_i hlt
     rw [if_pos (h.1 ▸ hlt)] at hU
     cases hd; cases hU
     exact hc
   · cases hd
 · rw [if_neg hij] at hd hU
   exact h.2 _ _ _ hd hU
theorem VRs.one {c : AV} {V : Value} (h : VR F w G c V) : VRs F w G [c] #[V] :=
 VRs.of_list (Vs := [V]) rfl fun j d U hd hU => by
  cases j with
  | zero => simp at hd hU; subst hd; subst hU; exact h
  | succ j => simp at hd
theorem VRs.nil : VRs F w G [] #[] := ⟨rfl, fun j c V hc _ => by simp at hc⟩
theorem VR.known_cells {v : AV} {V : Value} (hk : v.known = true) (h : VR F w G v V) : VRs F w G v.cells V.cells := by
 cases v with
 | agg cs =>
  obtain ⟨Vs, rfl, hVs⟩ := h.agg_inv
  exact hVs
 | tup _ => cases hk
 | bot => cases hk
 | _ =>
  have hV : V.cells = #[V] := by cases h <;> rfl
  rw [hV]
  exact VRs.one h
theorem VR.scalar_one {v : AV} {V : Value} (hk : v.scalar = true) (h : VR F w G v V) : V.oneCell' = true := by
 cases v <;> simp [AV.scalar] at hk <;> cases h <;> rfl
end
end Rb

namespace Rb
open Go
section
variable {P : Program} {F : FTab} {w : World} {G : Ghost}
theorem VR.lst_drop {cells : List AV} {b o : Nat} {Vs : Nat → Value}
  (h : ∀ (j : Nat) (c : AV), cells[j]? = some c → G.fz b (o + j) ∧ w.cell? ⟨b, o + j, none⟩ = some (Vs j))
  (hv : ∀ (j : Nat) (c : AV), cells[j]? = some c → VR F w G c (Vs j)) (n m : Nat) :
  (∀ (j : Nat) (c : AV), ((cells.take m).drop n)[j]? = some c → G.fz b (o + n + j) ∧ w.cell? ⟨b, o + n + j, none⟩ = some (Vs (n + j))) ∧
  (∀ (j : Nat) (c : AV), ((cells.take m).drop n)[j]? = some c → VR F w G c (Vs (n + j))) := by
 have key : ∀ (j : Nat) (c : AV), ((cells.take m).drop n)[j]? = some c → cells[n + j]? = some c := by
  intro j c hj
  rw [List.getElem?_drop, List.getElem?_take] at hj
  split at hj
  · exact hj
  · cases hj
 refine ⟨fun j c hj => ?_, fun j c hj => hv _ _ (key j c hj)⟩
 have := h _ _ (key j c hj)
 rw [← Nat.add_assoc] at this
 exact this
theorem aiaddr_sound {t e : TypeId} {arr : Option Nat} {sz : Nat} {inf : TypeInfo} {x i v : AV} {X I : Value}
  (ht : match arr with | none => P.underlying t = some (.slice e) | some n => P.underlying t = some (.array n e))
  (hi : P.info? e = some inf) (hs : inf.size = sz) (h : aiaddr arr sz x i = some v) (hx : VR F w G x X) (hi' : VR F w G i I) :
  ∃ V, (Instr.indexAt t X I).run P w = .ok V w ∧ VR F w G v V := by
 subst hs
 unfold aiaddr at h
 split at h
 · rename_i k i
   obtain rfl := hi'.int_inv
   split at h
   · rename_i tk len cells
     simp only at ht
     split at h
     · rename_i hb
       cases h
       cases hx with
       | lstnil => simp at hb; omega
       | lst0 => simp at hb; omega
       | lst _ _ _ b o cap Vs htk hle h hv =>
        refine ⟨.pointer (some ⟨b, o + i.toNat * inf.size, none⟩), ?_, fdrop (.fptr _ b o Vs h hv) _⟩
        simp [Instr.indexAt, asIntOf, run_underlying ht, hb, Go.sizeOf, typeInfo, hi, addr_add]
     · cases h
   · rename_i id o len
     simp only at ht
     split at h
     · rename_i hb
       cases h
       cases hx with
       | row _ _ _ _ cap hid hle hc =>
        refine ⟨_, ?_, .ptr _ _ hid⟩
        simp [Instr.indexAt, asIntOf, run_underlying ht, hb, Go.sizeOf, typeInfo, hi, addr_add]
     · cases h
   · rename_i n id o
     simp only at ht
     split at h
     · rename_i hb
       cases h
       cases hx with
       | ptr _ _ hid =>
        refine ⟨_, ?_, .ptr _ _ hid⟩
        simp [Instr.indexAt, asIntOf, run_underlying ht, hb, Go.sizeOf, typeInfo, hi, addr_add, Instr.sureAddr]
     · cases h
   · rename_i n cells
     simp only at ht
     split at h
     · rename_i hb
       cases h
       cases hx with
       | fptr _ b o Vs h hv =>
        refine ⟨.pointer (some ⟨b, o + i.toNat * inf.size, none⟩), ?_, fdrop (.fptr _ b o Vs h hv) _⟩
        simp [Instr.indexAt, asIntOf, run_underlying ht, hb, Go.sizeOf, typeInfo, hi, addr_add, Instr.sureAddr]
     · cases h
   · cases h
 · cases h
theorem abound_sound {x : AV} {X : Value} {n y : Nat} {code : BoundsCode} {d : Nat} (h : abound (some x) d = some n) (hx : VR F w G x X) (hn : n ≤ y) :
  (Instr.sliceBound X y code).run P w = .ok n w := by
 cases x with
 | int k i =>
  obtain rfl := hx.int_inv
  simp only [abound] at h
  split at h
  · rename_i hp
    cases h
    have hle : 0 ≤ i ∧ i ≤ (y : Int) := ⟨hp, by omega⟩
    simp [Instr.sliceBound, asIntOf, hle]
  · cases h
 | _ => simp [abound] at h
def VRo (F : FTab) (w : World) (G : Ghost) : Option AV → Option Value → Prop
 | none, none => True
 | some x, some X => VR F w G x X
 | _, _ => False
theorem bounds_sound {b : Bool} {lo hi : Option AV} {Lo Hi : Option Value} {len cap l h : Nat} (hh : abound hi len = some h) (hl : abound lo 0 = some l) (h1 : l ≤ h) (h2 : h ≤ len) (h3 : len ≤ cap)
  (rl : VRo F w G lo Lo) (rh : VRo F w G hi Hi) : (Instr.sliceBounds b len cap Lo Hi none).run P w = .ok (l, h, cap) w := by
 have eh : (match Hi with | some v => Instr.sliceBound v cap (if b then .sliceAcap else .sliceAlen) | none => pure len).run P w = .ok h w := by
  cases hi with
  | none =>
   cases Hi with
   | none => simp [abound] at hh; simp [hh]
   | some _ => exact rh.elim
  | some x =>
   cases Hi with
   | none => exact rh.elim
   | some X => exact abound_sound hh rh (Nat.le_trans h2 h3)
 have el : (match Lo with | some v => Instr.sliceBound v h .sliceB | none => pure 0).run P w = .ok l w := by
  cases lo with
  | none =>
   cases Lo with
   | none => simp [abound] at hl; simp [hl]
   | some _ => exact rl.elim
  | some x =>
   cases Lo with
   | none => exact rl.elim
   | some X => exact abound_sound hl rl h1
 unfold Instr.sliceBounds
 cases Hi <;> cases Lo <;> simp at eh el ⊢ <;> simp [eh, el]
theorem bounds3_sound {b : Bool} {lo hi : Option AV} {m : AV} {Lo Hi : Option Value} {M : Value} {len cap l h mm : Nat} (hm : abound (some m) 0 = some mm) (hh : abound hi len = some h) (hhi : hi ≠ none) (hl : abound lo 0 = some l) (h1 : l ≤ h) (h2 : h ≤ mm) (h3 : mm ≤ cap)
  (rl : VRo F w G lo Lo) (rh : VRo F w G hi Hi) (rm : VR F w G m M) : (Instr.sliceBounds b len cap Lo Hi (some M)).run P w = .ok (l, h, mm) w := by
 have em : ∀ c, (Instr.sliceBound M cap c).run P w = .ok mm w := fun c => abound_sound hm rm h3
 cases hi with
 | none => exact absurd rfl hhi
 | some x =>
  cases Hi with
  | none => exact rh.elim
  | some X =>
   have eh : ∀ c, (Instr.sliceBound X mm c).run P w = .ok h w := fun c => abound_sound hh rh h2
   have el : (match Lo with | some v => Instr.sliceBound v h .slice3C | none => pure 0).run P w = .ok l w := by
    cases lo with
    | none =>
     cases Lo with
     | none => simp [abound] at hl; simp [hl]
     | some _ => exact rl.elim
    | some x =>
     cases Lo with
     | none => exact rl.elim
     | some X => exact abound_sound hl rl h1
   unfold Instr.sliceBounds
   cases Lo <;> simp at el ⊢ <;> simp [em, eh, el]
theorem sz_mk (s : List UInt8) : (ByteArray.mk s.toArray).size = s.length := by simp [ByteArray.size]
theorem asslice_sound {t : TypeId} {x v : AV} {lo hi : Option AV} {X : Value} {Lo Hi : Option Value} (ht : P.underlying t = some .string) (h : asslice x lo hi = some v)
  (hx : VR F w G x X) (rl : VRo F w G lo Lo) (rh : VRo F w G hi Hi) : ∃ V, (Instr.sliceAt t X Lo Hi none).run P w = .ok V w ∧ VR F w G v V := by
 unfold asslice at h
 split at h
 · rename_i s
   obtain rfl := hx.str_inv
   split at h
   · rename_i hh l hhh hl
     split at h
     · rename_i hb
       cases h
       have hsb := bounds_sound (P := P) (b := false) hhh hl hb.1 hb.2 (Nat.le_refl _) rl rh
       have he : (ByteArray.mk s.toArray).extract l hh = ⟨((s.take hh).drop l).toArray⟩ := by
        rw [Lib.extract_eq]
        congr 1
        simp [List.drop_take]
       refine ⟨_, ?_, .str _⟩
       simp [Instr.sliceAt, Instr.slice, run_underlying ht, sz_mk, hsb, he]
     · cases h
   · cases h
 · cases h
theorem aslice_sound {t e : TypeId} {sz : Nat} {inf : TypeInfo} {x v : AV} {lo hi mx : Option AV} {X : Value} {Lo Hi Mx : Option Value} (ht : P.underlying t = some (.slice e)) (hi' : P.info? e = some inf) (hs : inf.size = sz)
  (hm : mx ≠ none → hi ≠ none) (h : aslice sz x lo hi mx = some v) (hx : VR F w G x X) (rl : VRo F w G lo Lo) (rh : VRo F w G hi Hi) (rm : VRo F w G mx Mx) :
  ∃ V, (Instr.sliceAt t X Lo Hi Mx).run P w = .ok V w ∧ VR F w G v V := by
 subst hs
 have run : ∀ (a : Option Addr) (len cap l h m : Nat), (Instr.sliceBounds true len cap Lo Hi Mx).run P w = .ok (l, h, m) w →
   (Instr.sliceAt t (.slice a len cap) Lo Hi Mx).run P w = .ok (.slice (if m = l then a else a.map (·.add (l * inf.size))) (h - l) (m - l)) w := by
  intro a len cap l h m hb
  simp [Instr.sliceAt, Instr.slice, run_underlying ht, hb, Go.sizeOf, typeInfo, hi']
 unfold aslice at h
 split at h
 · rename_i tk len cells
   split at h
   · rename_i hh l hhh hl hmx
     cases mx with
     | some m => simp at hmx
     | none =>
     cases Mx with
     | some _ => exact rm.elim
     | none =>
     split at h
     · rename_i hb
       have hsb : ∀ cap, len ≤ cap → _ := fun cap hc => bounds_sound (P := P) (b := true) hhh hl hb.1 hb.2.1 hc rl rh
       split at h
       · rename_i he
         cases h
         obtain ⟨rfl, rfl⟩ := he
         cases hx with
         | lstnil => exact ⟨_, run _ _ _ _ _ _ (hsb 0 (Nat.le_refl _)), by simpa using VR.lstnil⟩
         | lst0 a cap => exact ⟨_, run _ _ _ _ _ _ (hsb cap (Nat.zero_le _)), by simpa using VR.lst0 _ _⟩
         | lst _ _ _ b o cap Vs htk hle h hv =>
          refine ⟨_, run _ _ _ _ _ _ (hsb cap hle), ?_⟩
          have := VR.lst (F := F) tk hh cells b o cap Vs htk hle h hv
          split <;> simpa [addr_add] using this
       · rename_i hne
         cases h
         cases hx with
         | lstnil => exact absurd ⟨by omega, by omega⟩ hne
         | lst0 a cap => exact absurd ⟨by omega, by omega⟩ hne
         | lst _ _ _ b o cap Vs htk hle h hv =>
          refine ⟨_, run _ _ _ _ _ _ (hsb cap hle), ?_⟩
          by_cases hcl : cap = l
          · obtain rfl : hh = cap := by omega
            obtain rfl : hh = len := by omega
            obtain rfl : l = hh := by omega
            have hl0 : ¬ l = 0 := fun e => hne ⟨e, rfl⟩
            rw [if_neg hl0, if_pos rfl]
            have hnil : (cells.take (l * inf.size)).drop (l * inf.size) = [] := by simp
            rw [hnil]
            simpa using VR.lst0 (some ⟨b, o, none⟩) 0
          · rw [if_neg hcl]
            have hd := VR.lst_drop (F := F) h hv (l * inf.size) (hh * inf.size)
            simp only [Option.map_some, addr_add]
            refine .lst _ _ _ b (o + l * inf.size) (cap - l) (fun j => Vs (l * inf.size + j)) ?_ (by omega) hd.1 hd.2
            split
            · rename_i hl0
              subst hl0
              split
              · rename_i t
                obtain ⟨h1, h2, h3, h4⟩ := htk
                exact ⟨h1, h2, by omega, by omega⟩
              · trivial
            · trivial
     · cases h
   · rename_i hh l m hhh hl hmx
     cases mx with
     | none => simp at hmx
     | some mv =>
     cases Mx with
     | none => exact rm.elim
     | some Mv =>
     simp at hmx
     split at h
     · rename_i hb0
       obtain ⟨e1, e2, e3⟩ := hb0
       subst e1; subst e2
       cases hx with
       | lstnil =>
        have hsb := bounds3_sound (P := P) (b := true) (cap := 0) hmx hhh (hm (by simp)) hl (Nat.le_refl _) (Nat.le_refl _) (by omega) rl rh rm
        cases h
        exact ⟨_, run _ _ _ _ _ _ hsb, by simpa using VR.lstnil⟩
       | lst0 a cap =>
        have hsb := bounds3_sound (P := P) (b := true) (cap := cap) hmx hhh (hm (by simp)) hl (Nat.le_refl _) (Nat.le_refl _) (by omega) rl rh rm
        cases h
        exact ⟨_, run _ _ _ _ _ _ hsb, by simpa using VR.lst0 _ _⟩
       | lst _ _ _ b o cap Vs htk hle h' hv =>
        have hsb := bounds3_sound (P := P) (b := true) (cap := cap) hmx hhh (hm (by simp)) hl (Nat.le_refl _) (Nat.le_refl _) (by omega) rl rh rm
        refine ⟨_, run _ _ _ _ _ _ hsb, ?_⟩
        have hv0 : v = .lst .dead 0 [] := by
         cases tk with
         | nil => exact htk.elim
         | full => cases h; rfl
         | dead => cases h; rfl
         | own t => cases h; rfl
        subst hv0
        simpa using VR.lst0 _ _
     split at h
     · rename_i hb
       cases h
       cases hx with
       | lstnil => exact absurd rfl hb.2.2.2.2.1
       | lst0 a cap => have h1 := hb.2.2.2.2.2; have h2 := hb.2.2.1; omega
       | lst _ _ _ b o cap Vs htk hle h hv =>
        obtain ⟨hb1, hb2, hb3, hb4, hb5, hb6⟩ := hb
        have hsb := bounds3_sound (P := P) (b := true) (cap := cap) hmx hhh (hm (by simp)) hl hb1 hb2 (by omega) rl rh rm
        refine ⟨_, run _ _ _ _ _ _ hsb, ?_⟩
        rw [if_neg (show ¬ m = l by omega)]
        have hd := VR.lst_drop (F := F) h hv (l * inf.size) (hh * inf.size)
        simp only [Option.map_some, addr_add]
        refine .lst _ _ _ b (o + l * inf.size) (m - l) (fun j => Vs (l * inf.size + j)) ?_ (Nat.sub_le_sub_right hb2 l) hd.1 hd.2
        split
        · rename_i e
          show m - l = hh - l
          omega
        · trivial
     · cases h
   · cases h
 · rename_i id o len sz'
   split at h
   · rename_i hh l hhh hl
     cases Mx with
     | some _ => exact rm.elim
     | none =>
     split at h
     · rename_i hb
       obtain ⟨hb1, hb2, rfl⟩ := hb
       cases hx with
       | row _ _ _ _ cap hid hle hc =>
        have hsb := bounds_sound (P := P) (b := true) hhh hl hb1 hb2 hle rl rh
        split at h
        · rename_i hlh
          cases h
          refine ⟨_, run _ _ _ _ _ _ hsb, ?_⟩
          by_cases hcl : cap = l
          · have hl0 : l = 0 := by omega
            subst hl0
            rw [if_pos hcl]
            have := VR.row (F := F) (w := w) (G := G) id o (hh - 0) inf.size cap hid (by omega) hc
            simpa using this
          · rw [if_neg hcl]
            simp only [Option.map_some, addr_add]
            refine .row id _ _ _ _ hid (by omega) ?_
            have : cap * inf.size = l * inf.size + (cap - l) * inf.size := by rw [← Nat.add_mul]; congr 1; omega
            omega
        · rename_i hlh
          cases h
          refine ⟨_, run _ _ _ _ _ _ hsb, ?_⟩
          have : hh - l = 0 := by omega
          rw [this]
          exact .lst0 _ _
     · cases h
   · cases h
 · cases h
theorem foldl_set {cs : List AV} {Vs : Array Value} (h : VRs F w G cs Vs) (off : Nat) : ∀ (l : List AV) (L : List Value) (k : Nat), l.length = L.length →
  (∀ (j : Nat) (c : AV) (V : Value), l[j]? = some c → L[j]? = some V → VR F w G c V) →
  VRs F w G (setCells cs (off + k) l) ((L.zipIdx k).foldl (fun cs (x : Value × Nat) => cs.setIfInBounds (off + x.2) x.1) Vs) := by
 intro l
 induction l generalizing cs Vs with
 | nil =>
  intro L k hl _
  cases L with
  | nil => simpa [setCells] using h
  | cons _ _ => cases hl
 | cons c l ih =>
  intro L k hl hr
  cases L with
  | nil => cases hl
  | cons V L =>
   simp only [setCells, List.zipIdx_cons, List.foldl_cons]
   rw [Nat.add_assoc]
   exact ih (h.set _ (hr 0 c V rfl rfl)) L (k + 1) (by simpa using hl) fun j d U hd hU => hr (j + 1) d U (by simpa using hd) (by simpa using hU)
theorem length_setCells (l : List AV) : ∀ (cs : List AV) (o : Nat), (setCells cs o l).length = cs.length := by
 induction l with
 | nil => intro cs o; rfl
 | cons c l ih => intro cs o; simp [setCells, ih]
theorem fill_sound {place : Nat → Option (Nat × Nat)} : ∀ (aps : List (Nat × Nat × AV)) (ps : List (Nat × Value)) (cs cs' : List AV) (Vs : Array Value), VRs F w G cs Vs → aps.length = ps.length →
  (∀ (j : Nat) (a : Nat × Nat × AV) (p : Nat × Value), aps[j]? = some a → ps[j]? = some p → place p.1 = some (a.1, a.2.1) ∧ VR F w G a.2.2 p.2) → fillA cs aps = some cs' →
  ∃ Vs', Instr.fill place Vs ps = some Vs' ∧ VRs F w G cs' Vs' := by
 intro aps
 induction aps with
 | nil =>
  intro ps cs cs' Vs h hl _ hf
  cases ps with
  | nil => cases hf; exact ⟨Vs, rfl, h⟩
  | cons _ _ => cases hl
 | cons a aps ih =>
  intro ps cs cs' Vs h hl hr hf
  cases ps with
  | nil => cases hl
  | cons p ps =>
   obtain ⟨off, sz, v⟩ := a
   obtain ⟨i, V⟩ := p
   obtain ⟨hp, hv⟩ := hr 0 _ _ rfl rfl
   simp only [fillA] at hf
   split at hf
   · rename_i hk
     obtain ⟨hk1, hk2, hk3⟩ := hk
     have hc := hv.known_cells hk1
     have h' := foldl_set h off v.cells V.cells.toList 0 (by simpa using hc.1) fun j c U hd hU => hc.2 j c U hd (by simpa using hU)
     rw [Nat.add_zero] at h'
     obtain ⟨Vs', hVs', hr'⟩ := ih ps _ _ _ h' (by simpa using hl) (fun j a p ha hpp => hr (j + 1) a p (by simpa using ha) (by simpa using hpp)) hf
     refine ⟨Vs', ?_, hr'⟩
     have hsz : V.cells.size = sz := by rw [← hc.1]; exact hk2
     have hle : ¬ (V.cells.size ≠ sz ∨ off + V.cells.size > Vs.size) := by rw [hsz, ← h.1]; omega
     simp only [Instr.fill, hp]
     have hfold : V.cells.zipIdx.foldl (fun cs (x : Value × Nat) => cs.setIfInBounds (off + x.2) x.1) Vs = (V.cells.toList.zipIdx 0).foldl (fun cs (x : Value × Nat) => cs.setIfInBounds (off + x.2) x.1) Vs := by
      rw [← Array.foldl_toList, Array.toList_zipIdx]
     rw [if_neg (by simpa using hle)]
     rw [← hVs']
     congr 1
   · cases hf
theorem alen_sound {t : TypeId} {d : TypeDesc} {ty : TypeId} {str : Bool} {x v : AV} {X : Value} (hd : P.underlying t = some d)
  (hk : if str then d = .string else ∃ e, d = .slice e) (h : alen str x = some v) (hx : VR F w G x X) :
  ∃ V, (Builtin.len_ #[t] ty #[X]).run P w = .ok V w ∧ VR F w G v V := by
 unfold alen at h
 split at h
 · cases h
   simp at hk
   subst hk
   obtain rfl := hx.str_inv
   refine ⟨_, ?_, .int _ _⟩
   simp [Builtin.len_, run_underlying hd, goInt, sz_mk]
 · cases h
   simp at hk
   obtain ⟨e, rfl⟩ := hk
   cases hx <;> exact ⟨_, by simp [Builtin.len_, run_underlying hd, goInt], .int _ _⟩
 · cases h
   simp at hk
   obtain ⟨e, rfl⟩ := hk
   cases hx
   exact ⟨_, by simp [Builtin.len_, run_underlying hd, goInt], .int _ _⟩
 · cases h
theorem mmAll_sound {mx : Bool} : ∀ (xs : List AV) (Xs : List Value) (x v : AV) (X : Value), mmAll mx x xs = some v → VR F w G x X → xs.length = Xs.length →
  (∀ (j : Nat) (c : AV) (V : Value), xs[j]? = some c → Xs[j]? = some V → VR F w G c V) →
  ∃ V, (Xs.foldlM (if mx then Builtin.max2 else Builtin.min2) X).run P w = .ok V w ∧ VR F w G v V := by
 intro xs
 induction xs with
 | nil =>
  intro Xs x v X h hx hl _
  cases Xs with
  | nil => cases h; exact ⟨X, rfl, hx⟩
  | cons _ _ => cases hl
 | cons y xs ih =>
  intro Xs x v X h hx hl hr
  cases Xs with
  | nil => cases hl
  | cons Y Xs =>
   have hy := hr 0 y Y rfl rfl
   simp only [mmAll] at h
   split at h
   · rename_i z hz
     unfold mm2 at hz
     split at hz
     · rename_i k a k' b
       obtain rfl := hx.int_inv
       obtain rfl := hy.int_inv
       cases hz
       obtain ⟨V, hV, hv⟩ := ih Xs _ v _ h (.int _ _) (by simpa using hl) fun j c U hc hU => hr (j + 1) c U (by simpa using hc) (by simpa using hU)
       refine ⟨V, ?_, hv⟩
       cases mx <;> simp [List.foldlM_cons, Builtin.max2, Builtin.min2] at hV ⊢ <;> exact hV
     · cases hz
   · cases h
end
end Rb

namespace Rb
open Go
section
variable {P : Program} {F : FTab} {w w' : World} {G G' : Ghost} {H H' : AH}
structure Pushed (w w' : World) (o : Obj) : Prop where
 heap : w'.heap = w.heap.push o
 os : w'.os = w.os
 tape : w'.tape = w.tape
 output : w'.output = w.output
theorem Pushed.alloc (w : World) (o : Obj) : Pushed w (w.alloc o) o := ⟨rfl, rfl, rfl, rfl⟩
theorem Pushed.drew (w : World) (o : Obj) : Pushed w (w.drew.alloc o) o := ⟨rfl, rfl, rfl, rfl⟩
theorem Pushed.old {o : Obj} (h : Pushed w w' o) {k : Nat} (hk : k < w.heap.size) : w'.heap[k]? = w.heap[k]? := by
 rw [h.heap, Array.getElem?_push, if_neg (by omega)]
theorem Pushed.new {o : Obj} (h : Pushed w w' o) : w'.heap[w.heap.size]? = some o := by
 rw [h.heap]; simp
theorem Pushed.size {o : Obj} (h : Pushed w w' o) : w'.heap.size = w.heap.size + 1 := by rw [h.heap]; simp
theorem Pushed.cell {o : Obj} (h : Pushed w w' o) {a : Addr} {V : Value} (hc : w.cell? a = some V) : w'.cell? a = some V := by
 rw [World.cell?_of_block (w := w) (h.old (World.block_lt_of_cell? w a hc))]
 exact hc
theorem ObjR.lt {i : Nat} {x : AObj} (h : ObjR F w G i x) (hl : x.live = true) : G.loc i < w.heap.size := by
 cases x with
 | gone => cases hl
 | row cs => obtain ⟨C, e, hc, _⟩ := h; exact (Array.getElem?_eq_some_iff.1 hc).1
 | tok n sz => obtain ⟨C, e, hc, _⟩ := h; exact (Array.getElem?_eq_some_iff.1 hc).1
 | map es => obtain ⟨E, c, hc, _⟩ := h; exact (Array.getElem?_eq_some_iff.1 hc).1
 | siter s pos => exact (Array.getElem?_eq_some_iff.1 h.1).1
 | bld T u b => obtain ⟨v, hc, _⟩ := h; exact (Array.getElem?_eq_some_iff.1 hc).1
 | buf U bs => obtain ⟨C, z, hc, _⟩ := h; exact (Array.getElem?_eq_some_iff.1 hc).1
theorem Rel.idlt (h : Rel F w G H) {i : Nat} (hl : (H.o i).live = true) : i < G.n := by
 rw [h.n]
 rcases Nat.lt_or_ge i H.n with h' | h'
 · exact h'
 · rw [h.over i h'] at hl; cases hl
theorem ObjR.keep {i : Nat} {x : AObj} (h : ObjR F w G i x) (hg : GLe w G w' G') (hi : x.live = true → i < G.n) (hb : x.live = true → w'.heap[G.loc i]? = w.heap[G.loc i]?)
  (hf : x.live = true → ∀ j, G'.fz (G.loc i) j → G.fz (G.loc i) j) : ObjR F w' G' i x := by
 cases x with
 | gone => trivial
 | row cs =>
  obtain ⟨C, e, hc, hs, hz, hv⟩ := h
  refine ⟨C, e, ?_, ?_, ?_, fun j c hj => ?_⟩
  · rw [hg.loc i (hi rfl), hb rfl]; exact hc
  · rw [hg.cap i (hi rfl)]; exact hs
  · rw [hg.loc i (hi rfl)]; exact fun j hj => hz j (hf rfl j hj)
  · obtain ⟨V, hV, hr⟩ := hv j c hj; exact ⟨V, hV, hr.mono hg⟩
 | tok n sz =>
  obtain ⟨C, e, hc, hs, hk, hz⟩ := h
  refine ⟨C, e, ?_, ?_, hk, ?_⟩
  · rw [hg.loc i (hi rfl), hb rfl]; exact hc
  · rw [hg.cap i (hi rfl)]; exact hs
  · rw [hg.loc i (hi rfl)]; exact fun j hn hj => hz j hn (hf rfl j hj)
 | map es =>
  obtain ⟨E, cl, hc, hs, hz, hv⟩ := h
  refine ⟨E, cl, ?_, hs, ?_, fun j k v hj => ?_⟩
  · rw [hg.loc i (hi rfl), hb rfl]; exact hc
  · rw [hg.loc i (hi rfl)]; exact fun j hj => hz j (hf rfl j hj)
  · obtain ⟨e, he, h1, h2⟩ := hv j k v hj; exact ⟨e, he, h1.mono hg, h2.mono hg⟩
 | siter s pos =>
  obtain ⟨hc, hz⟩ := h
  refine ⟨?_, ?_⟩
  · rw [hg.loc i (hi rfl), hb rfl]; exact hc
  · rw [hg.loc i (hi rfl)]; exact fun j hj => hz j (hf rfl j hj)
 | bld T u b =>
  obtain ⟨v, hc, hz, hv⟩ := h
  refine ⟨v, ?_, ?_, ?_⟩
  · rw [hg.loc i (hi rfl), hb rfl]; exact hc
  · rw [hg.loc i (hi rfl)]; exact fun j hj => hz j (hf rfl j hj)
  · rcases hv with hv | ⟨j, n, h1, h2, h3⟩
    · exact .inl hv
    · exact .inr ⟨j, n, h1, Nat.lt_of_lt_of_le h2 hg.n, by rw [hg.loc j h2, hg.cap j h2]; exact h3⟩
 | buf U bs =>
  obtain ⟨C, z, hc, hs, h1, h2, h3, hz, h4⟩ := h
  refine ⟨C, z, ?_, ?_, h1, ?_, ?_, ?_, h4⟩
  · rw [hg.loc i (hi rfl), hb rfl]; exact hc
  · rw [hg.cap i (hi rfl)]; exact hs
  · rw [hg.cap i (hi rfl)]; exact h2
  · rw [hg.cap i (hi rfl)]; exact h3
  · rw [hg.loc i (hi rfl)]; exact fun j hj => hz j (hf rfl j hj)
theorem Rel.kill (h : Rel F w G H) (i : Nat) (hi : i < H.n) : Rel F w G (H.set i .gone) ∧ Step w G H w G (H.set i .gone) := by
 have ho : ∀ j, ((H.set i .gone).o j).live = true → (H.o j).live = true ∧ (H.set i .gone).o j = H.o j := by
  intro j hj
  simp only [AH.set] at hj ⊢
  split at hj
  · cases hj
  · rename_i hne; exact ⟨hj, if_neg hne⟩
 refine ⟨⟨h.n, fun j hj => ?_, fun j => ?_, fun j k hjk h1 h2 => h.dist j k hjk (ho j h1).1 (ho k h2).1, h.fzc⟩, ?_⟩
 · simp only [AH.set] at hj ⊢
   split
   · rfl
   · exact h.over j hj
 · simp only [AH.set]
   split
   · trivial
   · exact h.obj j
 · exact { GLe.refl w G with size := Nat.le_refl _, os := rfl, tape := rfl, output := rfl, old := fun _ _ _ => rfl, owned := fun j hj _ => ⟨j, (ho j hj).1, rfl⟩, fznew := fun _ _ h => .inl h }
def Ghost.ice (G : Ghost) (b lo hi : Nat) : Ghost := { G with fz := fun x y => G.fz x y ∨ (x = b ∧ lo ≤ y ∧ y < hi) }
def Ghost.more (G : Ghost) (b c : Nat) : Ghost := { G with n := G.n + 1, loc := fun i => if i = G.n then b else G.loc i, cap := fun i => if i = G.n then c else G.cap i }
theorem GLe.ice {o : Obj} (h : Pushed w w' o) (b lo hi : Nat) : GLe w G w' (G.ice b lo hi) :=
 ⟨Nat.le_refl _, fun _ _ => rfl, fun _ _ => rfl, fun _ _ hf => .inl hf, fun _ _ _ _ hc => h.cell hc⟩
theorem GLe.more {o : Obj} (h : Pushed w w' o) (b c : Nat) : GLe w G w' (G.more b c) :=
 ⟨Nat.le_succ _, fun i hi => if_neg (Nat.ne_of_lt hi), fun i hi => if_neg (Nat.ne_of_lt hi), fun _ _ hf => hf, fun _ _ _ _ hc => h.cell hc⟩
theorem GLe.iceMore {o : Obj} (h : Pushed w w' o) (b lo hi b' c : Nat) : GLe w G w' ((G.ice b lo hi).more b' c) :=
 ⟨Nat.le_succ _, fun i hi => if_neg (Nat.ne_of_lt hi), fun i hi => if_neg (Nat.ne_of_lt hi), fun _ _ hf => .inl hf, fun _ _ _ _ hc => h.cell hc⟩
theorem Rel.frozen (h : Rel F w G H) {C : Array Value} {e : TypeId} (hp : Pushed w w' (.cells C e)) :
  Rel F w' (G.ice w.heap.size 0 C.size) H ∧ Step w G H w' (G.ice w.heap.size 0 C.size) H := by
 have hg := GLe.ice (G := G) hp w.heap.size 0 C.size
 have hnew : ∀ i, (H.o i).live = true → G.loc i ≠ w.heap.size := fun i hl => Nat.ne_of_lt ((h.obj i).lt hl)
 refine ⟨⟨h.n, h.over, fun i => (h.obj i).keep hg (fun hl => h.idlt hl) (fun hl => hp.old ((h.obj i).lt hl)) fun hl j hj => ?_, h.dist, fun b o hb => ?_⟩, ?_⟩
 · rcases hj with hj | ⟨hj, _⟩
   · exact hj
   · exact absurd hj (hnew i hl)
 · rcases hb with hb | ⟨rfl, _, ho⟩
   · obtain ⟨V, hV⟩ := h.fzc b o hb; exact ⟨V, hp.cell hV⟩
   · exact ⟨C[o], by rw [cell_of_row w' _ o C e (0, 0) hp.new]; exact Array.getElem?_eq_getElem ho⟩
 · exact { hg with size := by rw [hp.size]; omega, os := hp.os, tape := hp.tape, output := hp.output, old := fun k hk _ => hp.old hk, owned := fun i hl _ => ⟨i, hl, rfl⟩, fznew := fun b o hf => hf.imp id fun hf => .inl (Nat.le_of_eq hf.1.symm) }
theorem Rel.frozenAt (h : Rel F w G H) {o : Obj} (hp : Pushed w w' o) (n : Nat) (hc : ∀ j, j < n → ∃ V, w'.cell? ⟨w.heap.size, j, none⟩ = some V) :
  Rel F w' (G.ice w.heap.size 0 n) H ∧ Step w G H w' (G.ice w.heap.size 0 n) H := by
 have hg := GLe.ice (G := G) hp w.heap.size 0 n
 have hnew : ∀ i, (H.o i).live = true → G.loc i ≠ w.heap.size := fun i hl => Nat.ne_of_lt ((h.obj i).lt hl)
 refine ⟨⟨h.n, h.over, fun i => (h.obj i).keep hg (fun hl => h.idlt hl) (fun hl => hp.old ((h.obj i).lt hl)) fun hl j hj => ?_, h.dist, fun b o hb => ?_⟩, ?_⟩
 · rcases hj with hj | ⟨hj, _⟩
   · exact hj
   · exact absurd hj (hnew i hl)
 · rcases hb with hb | ⟨rfl, _, ho⟩
   · obtain ⟨V, hV⟩ := h.fzc b o hb; exact ⟨V, hp.cell hV⟩
   · exact hc o ho
 · exact { hg with size := by rw [hp.size]; omega, os := hp.os, tape := hp.tape, output := hp.output, old := fun k hk _ => hp.old hk, owned := fun i hl _ => ⟨i, hl, rfl⟩, fznew := fun b o hf => hf.imp (fun h => h) fun hf => .inl (Nat.le_of_eq hf.1.symm) }
theorem frozen_cells {C : Array Value} {e : TypeId} (hp : Pushed w w' (.cells C e)) {cs : List AV} (hv : VRs F w G cs C) :
  (∀ (j : Nat) (c : AV), cs[j]? = some c → (G.ice w.heap.size 0 C.size).fz w.heap.size (0 + j) ∧ w'.cell? ⟨w.heap.size, 0 + j, none⟩ = some (C.getD j undef)) ∧
  (∀ (j : Nat) (c : AV), cs[j]? = some c → VR F w' (G.ice w.heap.size 0 C.size) c (C.getD j undef)) := by
 have hg := GLe.ice (G := G) hp w.heap.size 0 C.size
 have key : ∀ (j : Nat) (c : AV), cs[j]? = some c → C[j]? = some (C.getD j undef) ∧ j < C.size := by
  intro j c hj
  have hlt : j < C.size := hv.1 ▸ (List.getElem?_eq_some_iff.1 hj).1
  exact ⟨by simp [hlt], hlt⟩
 refine ⟨fun j c hj => ?_, fun j c hj => (hv.2 j c _ hj (key j c hj).1).mono hg⟩
 rw [Nat.zero_add]
 exact ⟨.inr ⟨rfl, Nat.zero_le _, (key j c hj).2⟩, by rw [cell_of_row w' _ j C e (0, 0) hp.new]; exact (key j c hj).1⟩
theorem Rel.push (h : Rel F w G H) {C : Array Value} {e : TypeId} (hp : Pushed w w' (.cells C e)) (hi c : Nat) (hhi : hi ≤ C.size) (x : AObj)
  (hx : ObjR F w' ((G.ice w.heap.size 0 hi).more w.heap.size c) H.n x) :
  Rel F w' ((G.ice w.heap.size 0 hi).more w.heap.size c) (H.push x) ∧ Step w G H w' ((G.ice w.heap.size 0 hi).more w.heap.size c) (H.push x) := by
 have hg := GLe.iceMore (G := G) hp w.heap.size 0 hi w.heap.size c
 have hn := h.n
 have hnew : ∀ i, (H.o i).live = true → G.loc i ≠ w.heap.size := fun i hl => Nat.ne_of_lt ((h.obj i).lt hl)
 have hloc : ∀ i, i ≠ H.n → ((G.ice w.heap.size 0 hi).more w.heap.size c).loc i = G.loc i := fun i hi => if_neg (show ¬ i = G.n by omega)
 have hlocn : ((G.ice w.heap.size 0 hi).more w.heap.size c).loc H.n = w.heap.size := if_pos hn.symm
 have ho : ∀ i, i ≠ H.n → (H.push x).o i = H.o i := fun i hi => if_neg hi
 refine ⟨⟨by show G.n + 1 = H.n + 1; omega, fun i hi' => ?_, fun i => ?_, fun i j hij h1 h2 => ?_, fun b o hb => ?_⟩, ?_⟩
 · have hlt : H.n + 1 ≤ i := hi'
   rw [ho i (by omega)]; exact h.over i (by omega)
 · by_cases hin : i = H.n
   · subst hin
     show ObjR F w' _ H.n (if H.n = H.n then x else H.o H.n)
     rw [if_pos rfl]
     exact hx
   · rw [ho i hin]
     refine (h.obj i).keep hg (fun hl => h.idlt hl) (fun hl => hp.old ((h.obj i).lt hl)) fun hl j hj => ?_
     rcases hj with hj | ⟨hj, _⟩
     · exact hj
     · exact absurd hj (hnew i hl)
 · by_cases hi' : i = H.n <;> by_cases hj' : j = H.n
   · omega
   · rw [hi', hlocn, hloc j hj']; rw [ho j hj'] at h2; exact (hnew j h2).symm
   · rw [hj', hlocn, hloc i hi']; rw [ho i hi'] at h1; exact hnew i h1
   · rw [hloc i hi', hloc j hj']; rw [ho i hi'] at h1; rw [ho j hj'] at h2; exact h.dist i j hij h1 h2
 · rcases hb with hb | ⟨rfl, _, ho'⟩
   · obtain ⟨V, hV⟩ := h.fzc b o hb; exact ⟨V, hp.cell hV⟩
   · exact ⟨C[o], by rw [cell_of_row w' _ o C e (0, 0) hp.new]; exact Array.getElem?_eq_getElem (by omega)⟩
 · refine { hg with size := by rw [hp.size]; omega, os := hp.os, tape := hp.tape, output := hp.output, old := fun k hk _ => hp.old hk, owned := fun i hl hlt => ?_, fznew := fun b o hf => hf.imp id fun hf => .inl (Nat.le_of_eq hf.1.symm) }
   by_cases hin : i = H.n
   · rw [hin, hlocn] at hlt; omega
   · rw [ho i hin] at hl
     exact ⟨i, hl, (hloc i hin).symm⟩
theorem Rel.pushObj (h : Rel F w G H) {o : Obj} (hp : Pushed w w' o) (c : Nat) (x : AObj) (hx : ObjR F w' (G.more w.heap.size c) H.n x) :
  Rel F w' (G.more w.heap.size c) (H.push x) ∧ Step w G H w' (G.more w.heap.size c) (H.push x) := by
 have hg := GLe.more (G := G) hp w.heap.size c
 have hn := h.n
 have hnew : ∀ i, (H.o i).live = true → G.loc i ≠ w.heap.size := fun i hl => Nat.ne_of_lt ((h.obj i).lt hl)
 have hloc : ∀ i, i ≠ H.n → (G.more w.heap.size c).loc i = G.loc i := fun i hi => if_neg (show ¬ i = G.n by omega)
 have hlocn : (G.more w.heap.size c).loc H.n = w.heap.size := if_pos hn.symm
 have ho : ∀ i, i ≠ H.n → (H.push x).o i = H.o i := fun i hi => if_neg hi
 refine ⟨⟨by show G.n + 1 = H.n + 1; omega, fun i hi' => ?_, fun i => ?_, fun i j hij h1 h2 => ?_, fun b o hb => ?_⟩, ?_⟩
 · have hlt : H.n + 1 ≤ i := hi'
   rw [ho i (by omega)]; exact h.over i (by omega)
 · by_cases hin : i = H.n
   · subst hin
     show ObjR F w' _ H.n (if H.n = H.n then x else H.o H.n)
     rw [if_pos rfl]
     exact hx
   · rw [ho i hin]
     exact (h.obj i).keep hg (fun hl => h.idlt hl) (fun hl => hp.old ((h.obj i).lt hl)) fun _ _ hj => hj
 · by_cases hi' : i = H.n <;> by_cases hj' : j = H.n
   · omega
   · rw [hi', hlocn, hloc j hj']; rw [ho j hj'] at h2; exact (hnew j h2).symm
   · rw [hj', hlocn, hloc i hi']; rw [ho i hi'] at h1; exact hnew i h1
   · rw [hloc i hi', hloc j hj']; rw [ho i hi'] at h1; rw [ho j hj'] at h2; exact h.dist i j hij h1 h2
 · obtain ⟨V, hV⟩ := h.fzc b o hb; exact ⟨V, hp.cell hV⟩
 · refine { hg with size := by rw [hp.size]; omega, os := hp.os, tape := hp.tape, output := hp.output, old := fun k hk _ => hp.old hk, owned := fun i hl hlt => ?_, fznew := fun _ _ h => .inl h }
   by_cases hin : i = H.n
   · rw [hin, hlocn] at hlt; omega
   · rw [ho i hin] at hl
     exact ⟨i, hl, (hloc i hin).symm⟩
theorem Rel.junk (h : Rel F w G H) {o : Obj} (hp : Pushed w w' o) : Rel F w' G H ∧ Step w G H w' G H := by
 have hg : GLe w G w' G := ⟨Nat.le_refl _, fun _ _ => rfl, fun _ _ => rfl, fun _ _ hf => hf, fun _ _ _ _ hc => hp.cell hc⟩
 refine ⟨⟨h.n, h.over, fun i => (h.obj i).keep hg (fun hl => h.idlt hl) (fun hl => hp.old ((h.obj i).lt hl)) fun _ _ hj => hj, h.dist, fun b o hb => ?_⟩, ?_⟩
 · obtain ⟨V, hV⟩ := h.fzc b o hb; exact ⟨V, hp.cell hV⟩
 · exact { hg with size := by rw [hp.size]; omega, os := hp.os, tape := hp.tape, output := hp.output, old := fun k hk _ => hp.old hk, owned := fun i hl _ => ⟨i, hl, rfl⟩, fznew := fun _ _ h => .inl h }
theorem Rel.adopt (h : Rel F w G H) {b c : Nat} (hb : ∀ i, (H.o i).live = true → G.loc i ≠ b) (x : AObj) (hx : GLe w G w (G.more b c) → ObjR F w (G.more b c) H.n x) :
  GLe w G w (G.more b c) ∧ Rel F w (G.more b c) (H.push x) := by
 have hg : GLe w G w (G.more b c) := ⟨Nat.le_succ _, fun i hi => if_neg (Nat.ne_of_lt hi), fun i hi => if_neg (Nat.ne_of_lt hi), fun _ _ hf => hf, fun _ _ _ _ hc => hc⟩
 have hn := h.n
 have hloc : ∀ i, i ≠ H.n → (G.more b c).loc i = G.loc i := fun i hi => if_neg (show ¬ i = G.n by omega)
 have hlocn : (G.more b c).loc H.n = b := if_pos hn.symm
 have ho : ∀ i, i ≠ H.n → (H.push x).o i = H.o i := fun i hi => if_neg hi
 refine ⟨hg, ⟨by show G.n + 1 = H.n + 1; omega, fun i hi' => ?_, fun i => ?_, fun i j hij h1 h2 => ?_, h.fzc⟩⟩
 · have hlt : H.n + 1 ≤ i := hi'
   rw [ho i (by omega)]; exact h.over i (by omega)
 · by_cases hin : i = H.n
   · subst hin
     show ObjR F w _ H.n (if H.n = H.n then x else H.o H.n)
     rw [if_pos rfl]
     exact hx hg
   · rw [ho i hin]
     exact (h.obj i).keep hg (fun hl => h.idlt hl) (fun _ => rfl) fun _ _ hj => hj
 · by_cases hi' : i = H.n <;> by_cases hj' : j = H.n
   · omega
   · rw [hi', hlocn, hloc j hj']; rw [ho j hj'] at h2; exact (hb j h2).symm
   · rw [hj', hlocn, hloc i hi']; rw [ho i hi'] at h1; exact hb i h1
   · rw [hloc i hi', hloc j hj']; rw [ho i hi'] at h1; rw [ho j hj'] at h2; exact h.dist i j hij h1 h2
structure Turned (w w' : World) (g : Nat) : Prop where
 size : w'.heap.size = w.heap.size
 other : ∀ k, k ≠ g → w'.heap[k]? = w.heap[k]?
 os : w'.os = w.os
 tape : w'.tape = w.tape
 output : w'.output = w.output
theorem Turned.setRow (w : World) (g : Nat) (C : Array Value) : Turned w (w.setRow g C) g :=
 ⟨by simp [World.setRow], fun k hk => by simp [World.setRow, Array.getElem?_modify, Ne.symm hk], rfl, rfl, rfl⟩
theorem Rel.write (h : Rel F w G H) {i : Nat} (hl : (H.o i).live = true) (hu : ∀ j, ¬ G.fz (G.loc i) j) (ht : Turned w w' (G.loc i)) (x : AObj) (hxl : x.live = true) (hx : GLe w G w' G → ObjR F w' G i x) :
  Rel F w' G (H.set i x) ∧ Step w G H w' G (H.set i x) := by
 have hg : GLe w G w' G := ⟨Nat.le_refl _, fun _ _ => rfl, fun _ _ => rfl, fun _ _ hf => hf, fun b o V hf hc => by
   have hb : b ≠ G.loc i := fun e => hu o (e ▸ hf)
   rw [World.cell?_of_block (w := w) (ht.other b hb)]; exact hc⟩
 have hin : i < H.n := h.n ▸ h.idlt hl
 have ho : ∀ j, j ≠ i → (H.set i x).o j = H.o j := fun j hj => if_neg hj
 have hoi : (H.set i x).o i = x := if_pos rfl
 refine ⟨⟨h.n, fun j hj => ?_, fun j => ?_, fun j k hjk h1 h2 => ?_, fun b o hb => ?_⟩, ?_⟩
 · have hlt : H.n ≤ j := hj
   rw [ho j (by omega)]; exact h.over j hlt
 · by_cases hji : j = i
   · subst hji; rw [hoi]; exact hx hg
   · rw [ho j hji]
     exact (h.obj j).keep hg (fun hl => h.idlt hl) (fun hlj => ht.other _ (h.dist j i hji hlj hl)) fun _ _ hf => hf
 · have key : ∀ j, ((H.set i x).o j).live = true → (H.o j).live = true := by
     intro j hj
     by_cases hji : j = i
     · subst hji; exact hl
     · rw [ho j hji] at hj; exact hj
   exact h.dist j k hjk (key j h1) (key k h2)
 · obtain ⟨V, hV⟩ := h.fzc b o hb
   exact ⟨V, hg.cell b o V hb hV⟩
 · refine { hg with size := by rw [ht.size]; exact Nat.le_refl _, os := ht.os, tape := ht.tape, output := ht.output, old := fun k _ hn => ht.other k (fun e => hn i hl e.symm), owned := fun j hlj _ => ?_, fznew := fun _ _ h => .inl h }
   by_cases hji : j = i
   · subst hji; exact ⟨j, hl, rfl⟩
   · rw [ho j hji] at hlj; exact ⟨j, hlj, rfl⟩
end
end Rb

namespace Rb
open Go
section
variable {P : Program} {F : FTab} {w : World} {G : Ghost} {H : AH}
def Gave (F : FTab) (w : World) (G : Ghost) (H : AH) (v : AV) (H' : AH) (r : Result Value) : Prop :=
 ∃ V w' G', r = .ok V w' ∧ VR F w' G' v V ∧ Rel F w' G' H' ∧ Step w G H w' G' H'
def CellsAt (F : FTab) (w : World) (G : Ghost) (b o : Nat) (cs : List AV) : Prop :=
 ∀ (j : Nat) (c : AV), cs[j]? = some c → ∃ V, w.cell? ⟨b, o + j, none⟩ = some V ∧ VR F w G c V
theorem CellsAt.vals {b o : Nat} {cs : List AV} (h : CellsAt F w G b o cs) : ∃ Vs : List Value, VRs F w G cs Vs.toArray ∧ ∀ (j : Nat) (V : Value), Vs[j]? = some V → w.cell? ((⟨b, o, none⟩ : Addr).add j) = some V := by
 refine ⟨(List.range cs.length).map fun j => (w.cell? ⟨b, o + j, none⟩).getD undef, VRs.of_list (by simp) fun j c V hc hV => ?_, fun j V hV => ?_⟩
 · obtain ⟨U, hU, hr⟩ := h j c hc
   have hlt := (List.getElem?_eq_some_iff.1 hc).1
   simp [hlt, hU] at hV
   subst hV; exact hr
 · rw [addr_add]
   simp only [List.getElem?_map] at hV
   cases hj : (List.range cs.length)[j]? with
   | none => simp [hj] at hV
   | some i =>
    have hlt : j < cs.length := by have := (List.getElem?_eq_some_iff.1 hj).1; simpa using this
    have : i = j := by simp [hlt] at hj; exact hj.symm
    subst this
    simp [hj] at hV
    obtain ⟨U, hU, hr⟩ := h i cs[i] (List.getElem?_eq_getElem hlt)
    rw [hU] at hV ⊢
    simpa using hV
theorem CellsAt.cut {b o : Nat} {cs : List AV} (h : CellsAt F w G b o cs) (n m : Nat) : CellsAt F w G b (o + n) ((cs.drop n).take m) := by
 intro j c hj
 rw [List.getElem?_take] at hj
 split at hj
 · rw [List.getElem?_drop] at hj
   obtain ⟨V, hV, hr⟩ := h _ _ hj
   exact ⟨V, by rw [Nat.add_assoc]; exact hV, hr⟩
 · cases hj
theorem loadVar_sound {t : TypeId} {n o b o' : Nat} {agg : Bool} {cs : List AV} {v : AV} (hty : tyOk P t n agg = true) (h : takeCells cs o n agg = some v) (hc : CellsAt F w G b o' cs) :
  ∃ V, (loadVar t ⟨b, o' + o, none⟩).run P w = .ok V w ∧ VR F w G v V := by
 obtain ⟨d, inf, hd, hi, ha, hs, hone⟩ := tyOk_inv hty
 unfold takeCells at h
 split at h
 · rename_i hle
   cases agg with
   | true =>
    simp at h
    subst h
    obtain ⟨Vs, hVs, hcell⟩ := (hc.cut o n).vals
    have hlen : Vs.length = n := by have := hVs.1; simp at this; omega
    have hrun := run_loadCells_list (P := P) w ⟨b, o' + o, none⟩ Vs hcell
    rw [hlen] at hrun
    refine ⟨_, ?_, hVs.agg⟩
    cases d <;> simp [rowish] at ha <;> simp [loadVar, isAgg, Go.sizeOf, typeInfo, run_underlying hd, hi, hs, hrun]
   | false =>
    simp at h
    obtain ⟨V, hV, hr⟩ := hc _ _ h
    refine ⟨V, ?_, hr⟩
    cases d <;> simp [rowish] at ha <;> simp [loadVar, isAgg, run_underlying hd, hV]
 · cases h
theorem ObjR.row_cells {i : Nat} {cs : List AV} (h : ObjR F w G i (.row cs)) : CellsAt F w G (G.loc i) 0 cs := by
 obtain ⟨C, e, hc, hs, hz, hv⟩ := h
 intro j c hj
 obtain ⟨V, hV, hr⟩ := hv j c hj
 exact ⟨V, by rw [Nat.zero_add, cell_of_row w _ j C e (0, 0) hc]; exact hV, hr⟩
theorem VR.fptr_cells {cs : List AV} {b o : Nat} (h : VR F w G (.fptr cs) (.pointer (some ⟨b, o, none⟩))) : CellsAt F w G b o cs := by
 cases h with
 | fptr _ b o Vs h hv => exact fun j c hj => ⟨Vs j, (h j c hj).2, hv j c hj⟩
theorem VR.fptr_inv {cs : List AV} {X : Value} (h : VR F w G (.fptr cs) X) : ∃ b o, X = .pointer (some ⟨b, o, none⟩) := by
 cases h with
 | fptr _ b o Vs h hv => exact ⟨b, o, rfl⟩
theorem aload_sound {t : TypeId} {n : Nat} {agg : Bool} {x v : AV} {X : Value} (hty : tyOk P t n agg = true) (hrel : Rel F w G H) (h : aload H n agg x = some v) (hx : VR F w G x X) :
  ∃ V, (Instr.loadAt t X).run P w = .ok V w ∧ VR F w G v V := by
 unfold aload at h
 split at h
 · rename_i id o
   split at h
   · rename_i cs ho
     have hobj := hrel.obj id
     rw [ho] at hobj
     obtain ⟨V, hV, hr⟩ := loadVar_sound hty h hobj.row_cells
     rw [Nat.zero_add] at hV
     cases hx with
     | ptr _ _ hid => exact ⟨V, by simp [Instr.loadAt, Instr.sureAddr, hV], hr⟩
   · cases h
 · rename_i cs
   obtain ⟨b, o, rfl⟩ := hx.fptr_inv
   obtain ⟨V, hV, hr⟩ := loadVar_sound hty h hx.fptr_cells
   exact ⟨V, by simp [Instr.loadAt, Instr.sureAddr]; simpa using hV, hr⟩
 · cases h
theorem setCells_get (l : List AV) : ∀ (cs : List AV) (o j : Nat), o + l.length ≤ cs.length → (setCells cs o l)[j]? = if o ≤ j ∧ j < o + l.length then l[j - o]? else cs[j]? := by
 induction l with
 | nil => intro cs o j _; simp [setCells]; intro h1 h2; omega
 | cons c l ih =>
  intro cs o j hl
  simp only [List.length_cons] at hl
  rw [setCells, ih _ _ _ (by simp; omega)]
  by_cases h1 : j = o
  · subst h1
    rw [if_neg (by omega), if_pos (by simp), List.getElem?_set_self (by omega)]
    simp
  · by_cases h2 : o + 1 ≤ j ∧ j < o + 1 + l.length
    · rw [if_pos h2, if_pos (by simp; omega)]
      have : j - o = (j - (o + 1)) + 1 := by omega
      rw [this]; simp
    · rw [if_neg h2, List.getElem?_set_ne (by omega)]
      rw [if_neg (by simp; omega)]
theorem over_get (C : Array Value) (L : List Value) (o j : Nat) (h : o + L.length ≤ C.size) :
  (C.toList.take o ++ L ++ C.toList.drop (o + L.length)).toArray[j]? = if o ≤ j ∧ j < o + L.length then L[j - o]? else C[j]? := by
 simp only [List.getElem?_toArray]
 rw [List.append_assoc, List.getElem?_append]
 have htl : (C.toList.take o).length = o := by simp; omega
 rw [htl]
 by_cases h1 : j < o
 · rw [if_pos h1, if_neg (by omega), List.getElem?_take, if_pos h1]; simp
 · rw [if_neg h1, List.getElem?_append]
   by_cases h2 : j < o + L.length
   · rw [if_pos (by omega), if_pos (by omega)]
   · rw [if_neg (by omega), if_neg (by omega), List.getElem?_drop]
     have : o + L.length + (j - o - L.length) = j := by omega
     rw [this]; simp
theorem row_write {id o : Nat} {cs l : List AV} {L : List Value} (hrel : Rel F w G H) (ho : H.o id = .row cs) (hl : VRs F w G l L.toArray) (hle : o + l.length ≤ cs.length) (hsc : l.all AV.scalar = true) :
  ∃ w', (storeCells ⟨G.loc id, o, none⟩ L).run P w = .ok () w' ∧ Rel F w' G (H.set id (.row (setCells cs o l))) ∧ Step w G H w' G (H.set id (.row (setCells cs o l))) := by
 have hobj := hrel.obj id
 rw [ho] at hobj
 obtain ⟨C, e, hc, hs, hz, hv⟩ := hobj
 have hcl : cs.length ≤ C.size := by
  rcases Nat.lt_or_ge C.size cs.length with hlt | hge
  · obtain ⟨V, hV, _⟩ := hv C.size cs[C.size] (List.getElem?_eq_getElem hlt)
    simp at hV
  · exact hge
 have hlL : l.length = L.length := by simpa using hl.1
 have hfit : o + 0 + L.length ≤ C.size := by omega
 have hrun := run_storeCells_at P (G.loc id) o e L 0 C w hc hfit (fun V hV => by
   obtain ⟨j, hj, rfl⟩ := List.mem_iff_getElem.1 hV
   have hj' : j < l.length := by omega
   have hr := hl.2 j l[j] L[j] (List.getElem?_eq_getElem hj') (by simp [hj])
   exact hr.scalar_one (List.all_eq_true.1 hsc _ (List.getElem_mem hj')))
 simp only [Nat.add_zero] at hrun
 refine ⟨_, hrun, ?_⟩
 have hlive : (H.o id).live = true := by rw [ho]; rfl
 refine hrel.write hlive hz (Turned.setRow w _ _) _ rfl fun hg => ⟨_, e, setRow_heap w (G.loc id) C _ e (0, 0) hc, ?_, hz, fun j c hj => ?_⟩
 · rw [← hs]; simp; omega
 · rw [setCells_get l cs o j hle] at hj
   rw [over_get C L o j (by omega)]
   split at hj
   · rename_i hin
     rw [if_pos (by omega)]
     have hlt : j - o < L.length := by omega
     exact ⟨L[j - o], List.getElem?_eq_getElem hlt, (hl.2 (j - o) c L[j - o] hj (by simp [hlt])).mono hg⟩
   · rename_i hin
     rw [if_neg (by omega)]
     obtain ⟨V, hV, hr⟩ := hv j c hj
     exact ⟨V, hV, hr.mono hg⟩
theorem astore_sound {t : TypeId} {n : Nat} {agg : Bool} {x v : AV} {X V : Value} {H' : AH} (hty : tyOk P t n agg = true) (hrel : Rel F w G H) (h : astore H n x v = some H') (hx : VR F w G x X) (hv : VR F w G v V) :
  ∃ w', (Instr.storeAt t X V).run P w = .ok () w' ∧ Rel F w' G H' ∧ Step w G H w' G H' := by
 obtain ⟨d, inf, hd, hi, ha, hs, hone⟩ := tyOk_inv hty
 unfold astore at h
 split at h
 · rename_i id o
   split at h
   · rename_i cs ho
     split at h
     · rename_i hk
       obtain ⟨hk1, hk2, hk3, hk4⟩ := hk
       cases h
       have hc := hv.known_cells hk1
       obtain ⟨w', hrun, hr⟩ := row_write (P := P) (o := o) (l := v.cells) (L := V.cells.toList) hrel ho (by simpa using hc) (by omega) hk3
       cases hx with
       | ptr _ _ hid =>
        refine ⟨w', ?_, hr⟩
        have hsz : V.cells.size = inf.size := by rw [← hc.1]; omega
        simp [Instr.storeAt, Instr.sureAddr, storeVar, Go.sizeOf, typeInfo, hi, hsz]
        exact hrun
     · cases h
   · cases h
 · cases h
end
end Rb

namespace Rb
open Go
section
variable {P : Program} {F : FTab} {w w' : World} {G : Ghost} {H : AH}
theorem Rel.nofz (h : Rel F w G H) (j : Nat) : ¬ G.fz w.heap.size j := fun hf => by
 obtain ⟨V, hV⟩ := h.fzc _ _ hf
 have := World.block_lt_of_cell? w _ hV
 simp at this
theorem new_row {C : Array Value} {e : TypeId} {cs : List AV} (hrel : Rel F w G H) (hp : Pushed w w' (.cells C e)) (hv : ∀ (j : Nat) (c : AV), cs[j]? = some c → ∃ V, C[j]? = some V ∧ VR F w G c V) :
  ∃ G', Rel F w' G' (H.push (.row cs)) ∧ Step w G H w' G' (H.push (.row cs)) ∧ H.n < G'.n ∧ G'.loc H.n = w.heap.size ∧ G'.cap H.n = C.size := by
 have hn := hrel.n
 have hloc : ((G.ice w.heap.size 0 0).more w.heap.size C.size).loc H.n = w.heap.size := if_pos hn.symm
 have hcap : ((G.ice w.heap.size 0 0).more w.heap.size C.size).cap H.n = C.size := if_pos hn.symm
 have hr := hrel.push hp 0 C.size (Nat.zero_le _) (.row cs) ⟨C, e, by rw [hloc]; exact hp.new, hcap.symm, fun j hj => by
   rw [hloc] at hj
   rcases hj with hj | ⟨_, _, hj⟩
   · exact hrel.nofz j hj
   · omega, fun j c hj => by
   obtain ⟨V, hV, hr⟩ := hv j c hj
   exact ⟨V, hV, hr.mono (GLe.iceMore hp _ _ _ _ _)⟩⟩
 exact ⟨_, hr.1, hr.2, by show H.n < G.n + 1; omega, hloc, hcap⟩
theorem VRs.part {cs : List AV} {C : Array Value} (h : VRs F w G cs C) : ∀ (j : Nat) (c : AV), cs[j]? = some c → ∃ V, C[j]? = some V ∧ VR F w G c V := fun j c hj => h.get hj
theorem new_frozen {C : Array Value} {e : TypeId} {cs : List AV} (hrel : Rel F w G H) (hp : Pushed w w' (.cells C e)) (hv : VRs F w G cs C) :
  ∃ G', Rel F w' G' H ∧ Step w G H w' G' H ∧ VR F w' G' (.fptr cs) (.pointer (some ⟨w.heap.size, 0, none⟩)) ∧ ∀ len, VR F w' G' (.lst .full len cs) (.slice (some ⟨w.heap.size, 0, none⟩) len len) := by
 have hr := hrel.frozen hp
 have hc := frozen_cells (G := G) hp hv
 exact ⟨_, hr.1, hr.2, .fptr _ _ _ _ hc.1 hc.2, fun len => .lst _ _ _ _ _ _ _ rfl (Nat.le_refl _) hc.1 hc.2⟩
theorem abox_gave {C : Array Value} {e : TypeId} {cs : List AV} {mu : Bool} (hrel : Rel F w G H) (hv : VRs F w G cs C) :
  Gave F w G H (abox H mu cs).1 (abox H mu cs).2 (.ok (.pointer (some ⟨w.heap.size, 0, none⟩)) (w.alloc (.cells C e))) := by
 unfold abox
 cases mu with
 | true =>
  obtain ⟨G', hr, hst, hn, hloc, hcap⟩ := new_row hrel (Pushed.alloc w (.cells C e)) hv.part
  exact ⟨_, _, G', rfl, by rw [← hloc]; exact .ptr _ _ hn, hr, hst⟩
 | false =>
  obtain ⟨G', hr, hst, hp, _⟩ := new_frozen hrel (Pushed.alloc w (.cells C e)) hv
  exact ⟨_, _, G', rfl, hp, hr, hst⟩
theorem aboxv_sound {t : TypeId} {mu : Bool} {n : Nat} {x v : AV} {X : Value} {H' : AH} (hrel : Rel F w G H) (h : aboxv H mu n x = some (v, H')) (hx : VR F w G x X) :
  Gave F w G H v H' ((Instr.box t X).run P w) := by
 unfold aboxv at h
 split at h
 · rename_i hk
   have hg := abox_gave (e := t) (mu := mu) hrel (hx.known_cells hk.1)
   have hr : (Instr.box t X).run P w = .ok (.pointer (some ⟨w.heap.size, 0, none⟩)) (w.alloc (.cells X.cells t)) := by
    simp [Instr.box, newVar, newRow]
   rw [hr]
   have e := Option.some.inj h
   rw [show v = (abox H mu x.cells).1 from (congrArg Prod.fst e).symm, show H' = (abox H mu x.cells).2 from (congrArg Prod.snd e).symm]
   exact hg
 · cases h
theorem range_zero : Array.range 0 = #[] := rfl
theorem aalloc_sound {t : TypeId} {mu : Bool} {zero : List AV} {inf : TypeInfo} {z : Value} (hrel : Rel F w G H) (hi : P.info? t = some inf) (hz : inf.zero = some z) (hv : VRs F w G zero z.cells) :
  Gave F w G H (abox H mu zero).1 (abox H mu zero).2 ((Instr.alloc t true (.tuple #[])).run P w) := by
 have hg := abox_gave (e := t) (mu := mu) hrel hv
 have hr : (Instr.alloc t true (.tuple #[])).run P w = .ok (.pointer (some ⟨w.heap.size, 0, none⟩)) (w.alloc (.cells z.cells t)) := by
  simp [Instr.alloc, zeroValue, typeInfo, hi, hz, newVar, newRow]
 rw [hr]
 exact hg
theorem abnew_sound {t : TypeId} {inf : TypeInfo} {z : Value} (hrel : Rel F w G H) (hi : P.info? t = some inf) (hz : inf.zero = some z) (hc : z.cells = #[.pointer none, .slice none 0 0]) :
  Gave F w G H (.ptr H.n 0) (H.push (.bld t false none)) ((Instr.alloc t true (.tuple #[])).run P w) := by
 have hr : (Instr.alloc t true (.tuple #[])).run P w = .ok (.pointer (some ⟨w.heap.size, 0, none⟩)) (w.alloc (.cells #[.pointer none, .slice none 0 0] t)) := by
  simp [Instr.alloc, zeroValue, typeInfo, hi, hz, newVar, newRow, hc]
 rw [hr]
 have hp := Pushed.alloc w (.cells #[.pointer none, .slice none 0 0] t)
 have hn := hrel.n
 have hloc : (G.more w.heap.size 0).loc H.n = w.heap.size := if_pos hn.symm
 obtain ⟨hr, hst⟩ := hrel.pushObj hp 0 (.bld t false none) ⟨.slice none 0 0, by rw [hloc]; exact hp.new, fun j hf => by
   rw [hloc] at hf
   exact hrel.nofz j hf, .inl ⟨rfl, rfl⟩⟩
 refine ⟨_, _, _, rfl, ?_, hr, hst⟩
 have := VR.ptr (F := F) (w := w.alloc (.cells #[.pointer none, .slice none 0 0] t)) (G := G.more w.heap.size 0) H.n 0 (show H.n < G.n + 1 by omega)
 rw [hloc] at this
 exact this
theorem VR.builder_inv {X : Value} (h : VR F w G (.agg [.nilp, .lst .nil 0 []]) X) : X = .agg #[.pointer none, .slice none 0 0] := by
 obtain ⟨Vs, rfl, hs⟩ := h.agg_inv
 obtain ⟨hl, hv⟩ := hs
 have h2 : Vs.size = 2 := hl.symm
 have e0 := hv 0 _ Vs[0] rfl (by simp)
 have e1 := hv 1 _ Vs[1] rfl (by simp)
 have a0 : Vs[0] = .pointer none := by
  generalize Vs[0] = V at e0
  cases e0; rfl
 have a1 : Vs[1] = .slice none 0 0 := by
  generalize Vs[1] = V at e1
  cases e1 with
  | lstnil => rfl
  | lst _ _ _ _ _ _ _ ht => exact absurd ht (by simp [TokOK])
 congr 1
 apply Array.ext
 · exact h2
 · intro i h1 h3
   have : i = 0 ∨ i = 1 := by omega
   rcases this with rfl | rfl
   · exact a0
   · exact a1
theorem abnewv_sound {t : TypeId} (hrel : Rel F w G H) {X : Value} (hx : VR F w G (.agg [.nilp, .lst .nil 0 []]) X) :
  Gave F w G H (.ptr H.n 0) (H.push (.bld t false none)) ((Instr.box t X).run P w) := by
 have hX := hx.builder_inv
 subst hX
 have hr : (Instr.box t (.agg #[.pointer none, .slice none 0 0])).run P w = .ok (.pointer (some ⟨w.heap.size, 0, none⟩)) (w.alloc (.cells #[.pointer none, .slice none 0 0] t)) := by
  simp [Instr.box, newVar, newRow, Value.cells]
 rw [hr]
 have hp := Pushed.alloc w (.cells #[.pointer none, .slice none 0 0] t)
 have hn := hrel.n
 have hloc : (G.more w.heap.size 0).loc H.n = w.heap.size := if_pos hn.symm
 obtain ⟨hr, hst⟩ := hrel.pushObj hp 0 (.bld t false none) ⟨.slice none 0 0, by rw [hloc]; exact hp.new, fun j hf => by
   rw [hloc] at hf
   exact hrel.nofz j hf, .inl ⟨rfl, rfl⟩⟩
 refine ⟨_, _, _, rfl, ?_, hr, hst⟩
 have := VR.ptr (F := F) (w := w.alloc (.cells #[.pointer none, .slice none 0 0] t)) (G := G.more w.heap.size 0) H.n 0 (show H.n < G.n + 1 by omega)
 rw [hloc] at this
 exact this
theorem flatten_get {α : Type} (l : List α) : ∀ (n i : Nat), ((List.replicate n l).flatten)[i]? = if i < n * l.length then l[i % l.length]? else none := by
 intro n
 induction n with
 | zero => intro i; simp
 | succ n ih =>
  intro i
  rw [List.replicate_succ, List.flatten_cons, List.getElem?_append]
  by_cases h : i < l.length
  · rw [if_pos h, if_pos (by rw [Nat.add_mul]; omega), Nat.mod_eq_of_lt h]
  · rw [if_neg h, ih]
    have e : i - l.length < n * l.length ↔ i < (n + 1) * l.length := by rw [Nat.add_mul]; omega
    by_cases h2 : i < (n + 1) * l.length
    · rw [if_pos h2, if_pos (e.2 h2)]
      congr 1
      rw [Nat.mod_eq_sub_mod (by omega : i ≥ l.length)]
    · rw [if_neg h2, if_neg (fun h3 => h2 (e.1 h3))]
theorem zeros_sound {zero : List AV} {Z : Array Value} (h : VRs F w G zero Z) (n : Nat) : VRs F w G (List.replicate n zero).flatten ((Array.range (n * zero.length)).map fun i => Z[i % Z.size]!) := by
 refine ⟨by simp, fun j c V hc hV => ?_⟩
 rw [flatten_get] at hc
 split at hc
 · rename_i hlt
   simp only [Array.getElem?_map, Array.getElem?_range, hlt, if_true, Option.map_some, Option.some.injEq] at hV
   obtain ⟨U, hU, hr⟩ := h.get hc
   rw [h.1] at hU
   have : Z[j % Z.size]! = U := by
    rw [getElem!_def, hU]
   rw [this] at hV
   subst hV
   exact hr
 · cases hc
theorem abslice_sound {t e : TypeId} {inf : TypeInfo} {mu : Bool} {sz len : Nat} {zero : List AV} {z : Value} {aps : List (Nat × Nat × AV)} {ps : List (Nat × Value)} {v : AV} {H' : AH} (hrel : Rel F w G H)
  (ht : P.underlying t = some (.slice e)) (hi : P.info? e = some inf) (hs : inf.size = sz) (hz : inf.zero = some z) (hzv : VRs F w G zero z.cells) (hzl : zero.length = sz) (hlim : len * sz ≤ 16777216)
  (hl : aps.length = ps.length) (hps : ∀ (j : Nat) (a : Nat × Nat × AV) (p : Nat × Value), aps[j]? = some a → ps[j]? = some p → (p.1 * sz, sz) = (a.1, a.2.1) ∧ VR F w G a.2.2 p.2)
  (h : abslice H mu sz len zero aps = some (v, H')) : Gave F w G H v H' ((Instr.buildSlice t len ps.toArray).run P w) := by
 unfold abslice at h
 cases hf : fillA (List.replicate len zero).flatten aps with
 | none => simp [hf] at h
 | some cells =>
  simp only [hf, Option.map_some, Option.some.injEq] at h
  have hz' := zeros_sound hzv len
  obtain ⟨C, hC, hr⟩ := fill_sound (place := fun i => some (i * sz, sz)) aps ps _ _ _ hz' hl (fun j a p ha hp => by
    obtain ⟨h1, h2⟩ := hps j a p ha hp
    exact ⟨by rw [h1], h2⟩) hf
  have hlim' : ¬ (16777216 < len * inf.size) := by rw [hs]; omega
  have hrun : (Instr.buildSlice t len ps.toArray).run P w = .ok (.slice (some ⟨w.heap.size, 0, none⟩) len len) (w.alloc (.cells C e)) := by
   rw [hzl] at hC
   subst hs
   by_cases h0 : len * inf.size = 0
   · have hC0 : Instr.fill (fun i => some (i * inf.size, inf.size)) #[] ps = some C := by
       rw [h0, range_zero] at hC
       simpa using hC
     simp [Instr.buildSlice, run_underlying ht, Go.sizeOf, typeInfo, hi, h0, range_zero, hC0, newRow]
   · simp [Instr.buildSlice, run_underlying ht, Go.sizeOf, typeInfo, zeroValue, hi, hz, h0, hlim', hC, newRow]
  rw [hrun]
  cases mu with
  | true =>
   simp at h
   obtain ⟨rfl, rfl⟩ := h
   obtain ⟨G', hr', hst, hn, hloc, hcap⟩ := new_row hrel (Pushed.alloc w (.cells C e)) hr.part
   refine ⟨_, _, G', rfl, ?_, hr', hst⟩
   rw [← hloc]
   refine .row _ _ _ _ _ hn (Nat.le_refl _) ?_
   have := zeros_sound hzv len
   rw [hcap, ← hr.1]
   have hlen : ∀ (aps : List (Nat × Nat × AV)) (cs cs' : List AV), fillA cs aps = some cs' → cs'.length = cs.length := by
    intro aps
    induction aps with
    | nil => intro cs cs' h; cases h; rfl
    | cons a aps ih =>
     intro cs cs' h
     simp only [fillA] at h
     split at h
     · rw [ih _ _ h, length_setCells]
     · cases h
   rw [hlen _ _ _ hf]
   simp [hzl]
  | false =>
   simp at h
   obtain ⟨rfl, rfl⟩ := h
   obtain ⟨G', hr', hst, _, hl'⟩ := new_frozen hrel (Pushed.alloc w (.cells C e)) hr
   exact ⟨_, _, G', rfl, hl' len, hr', hst⟩
theorem amake_sound {t e : TypeId} {inf : TypeInfo} {mu : Bool} {sz bytes : Nat} {zero : List AV} {z : Value} {len cap v : AV} {L Cp : Value} {H' : AH} (hrel : Rel F w G H)
  (ht : P.underlying t = some (.slice e)) (hi : P.info? e = some inf) (hs : inf.size = sz) (hb : inf.bytes = bytes) (hz : inf.zero = some z) (hzv : VRs F w G zero z.cells)
  (h : amake H mu sz bytes zero len cap = some (v, H')) (hl : VR F w G len L) (hc : VR F w G cap Cp) : Gave F w G H v H' ((Instr.makeSlice t L Cp).run P w) := by
 unfold amake at h
 split at h
 · rename_i n c
   obtain rfl := hl.int_inv
   obtain rfl := hc.int_inv
   split at h
   · rename_i hk
     obtain ⟨h0, hnc, h48, h63, hzl⟩ := hk
     obtain ⟨n', rfl⟩ := Int.eq_ofNat_of_zero_le h0
     obtain ⟨c', rfl⟩ := Int.eq_ofNat_of_zero_le (Int.le_trans h0 hnc)
     have hnc' : n' ≤ c' := by omega
     have w1 : IntKind.i64.wrap (n' : Int) = n' := by simp [IntKind.wrap, IntKind.bits, IntKind.signed]; omega
     have w2 : IntKind.i64.wrap (c' : Int) = c' := by simp [IntKind.wrap, IntKind.bits, IntKind.signed]; omega
     have hz' := zeros_sound hzv c'
     have hlarge : ¬ (281474976710656 < (inf.bytes : Int) * (c' : Int)) := by rw [hb]; omega
     have hn0 : ¬ ((n' : Int) < 0) := by omega
     have hc0 : ¬ ((c' : Int) < 0) := by omega
     have hcn : ¬ (c' < n') := by omega
     have hrun : (Instr.makeSlice t (.int .i64 n') (.int .i64 c')).run P w =
       .ok (.slice (some ⟨w.heap.size, 0, none⟩) n' c') (w.alloc (.cells ((Array.range (c' * zero.length)).map fun i => z.cells[i % z.cells.size]!) e)) := by
      rw [hzl]
      subst hs
      by_cases hz0 : c' * inf.size = 0
      · simp [Instr.makeSlice, run_underlying ht, asInt, asIntOf, typeInfo, Go.sizeOf, hi, w1, w2, hlarge, hn0, hc0, hcn, hz0, range_zero, newRow]
      · simp [Instr.makeSlice, run_underlying ht, asInt, asIntOf, typeInfo, Go.sizeOf, zeroValue, hi, hz, w1, w2, hlarge, hn0, hc0, hcn, hz0, newRow]
     rw [hrun]
     simp only [Int.toNat_natCast] at h
     cases mu with
     | true =>
      simp at h
      obtain ⟨rfl, rfl⟩ := h
      obtain ⟨G', hr', hst, hn, hloc, hcap⟩ := new_row hrel (Pushed.alloc w (.cells _ e)) hz'.part
      refine ⟨_, _, G', rfl, ?_, hr', hst⟩
      rw [← hloc]
      refine .row _ _ _ _ _ hn hnc' ?_
      rw [hcap]
      simp [hzl]
     | false =>
      simp at h
      obtain ⟨hnc2, rfl, rfl⟩ := h
      obtain rfl : n' = c' := by omega
      obtain ⟨G', hr', hst, _, hl'⟩ := new_frozen hrel (Pushed.alloc w (.cells _ e)) hz'
      exact ⟨_, _, G', rfl, hl' n', hr', hst⟩
   · cases h
 · cases h
end
end Rb

namespace Rb
open Go
section
variable {P : Program} {F : FTab} {w w' : World} {G : Ghost} {H : AH}
theorem Rel.pass (h : Rel F w G H) {i : Nat} (hl : (H.o i).live = true) (ht : Turned w w' (G.loc i)) (lo hi : Nat) (hg : GLe w G w' ((G.ice (G.loc i) lo hi).more (G.loc i) (G.cap i))) (x : AObj)
  (hx : ObjR F w' ((G.ice (G.loc i) lo hi).more (G.loc i) (G.cap i)) H.n x) (hf : ∀ o, lo ≤ o → o < hi → ∃ V, w'.cell? ⟨G.loc i, o, none⟩ = some V) :
  Rel F w' ((G.ice (G.loc i) lo hi).more (G.loc i) (G.cap i)) ((H.set i .gone).push x) ∧ Step w G H w' ((G.ice (G.loc i) lo hi).more (G.loc i) (G.cap i)) ((H.set i .gone).push x) := by
 have hn := h.n
 have hin : i < H.n := h.n ▸ h.idlt hl
 have hloc : ∀ j, j ≠ H.n → ((G.ice (G.loc i) lo hi).more (G.loc i) (G.cap i)).loc j = G.loc j := fun j hj => if_neg (show ¬ j = G.n by omega)
 have hlocn : ((G.ice (G.loc i) lo hi).more (G.loc i) (G.cap i)).loc H.n = G.loc i := if_pos hn.symm
 have hon : ((H.set i .gone).push x).o H.n = x := if_pos rfl
 have hoi : ((H.set i .gone).push x).o i = .gone := by
  show (if i = H.n then x else (if i = i then AObj.gone else H.o i)) = .gone
  rw [if_neg (by omega), if_pos rfl]
 have ho : ∀ j, j ≠ H.n → j ≠ i → ((H.set i .gone).push x).o j = H.o j := by
  intro j h1 h2
  show (if j = H.n then x else (if j = i then AObj.gone else H.o j)) = H.o j
  rw [if_neg h1, if_neg h2]
 have hlive : ∀ j, j ≠ H.n → (((H.set i .gone).push x).o j).live = true → (H.o j).live = true ∧ j ≠ i := by
  intro j h1 h2
  by_cases hji : j = i
  · rw [hji, hoi] at h2; cases h2
  · rw [ho j h1 hji] at h2; exact ⟨h2, hji⟩
 refine ⟨⟨by show G.n + 1 = H.n + 1; omega, fun j hj => ?_, fun j => ?_, fun j k hjk h1 h2 => ?_, fun b o hb => ?_⟩, ?_⟩
 · have hlt : H.n + 1 ≤ j := hj
   rw [ho j (by omega) (by omega)]; exact h.over j (by omega)
 · by_cases hjn : j = H.n
   · subst hjn; rw [hon]; exact hx
   · by_cases hji : j = i
     · rw [hji, hoi]; trivial
     · rw [ho j hjn hji]
       refine (h.obj j).keep hg (fun hlj => h.idlt hlj) (fun hlj => ht.other _ (h.dist j i hji hlj hl)) fun hlj k hk => ?_
       rcases hk with hk | ⟨hk, _⟩
       · exact hk
       · exact absurd hk (h.dist j i hji hlj hl)
 · by_cases hj' : j = H.n <;> by_cases hk' : k = H.n
   · omega
   · obtain ⟨hk1, hk2⟩ := hlive k hk' h2
     rw [hj', hlocn, hloc k hk']; exact (h.dist k i hk2 hk1 hl).symm
   · obtain ⟨hj1, hj2⟩ := hlive j hj' h1
     rw [hk', hlocn, hloc j hj']; exact h.dist j i hj2 hj1 hl
   · rw [hloc j hj', hloc k hk']; exact h.dist j k hjk (hlive j hj' h1).1 (hlive k hk' h2).1
 · rcases hb with hb | ⟨rfl, h1, h2⟩
   · obtain ⟨V, hV⟩ := h.fzc b o hb
     exact ⟨V, hg.cell b o V hb hV⟩
   · exact hf o h1 h2
 · refine { hg with size := by rw [ht.size]; exact Nat.le_refl _, os := ht.os, tape := ht.tape, output := ht.output, old := fun k _ hn => ht.other k (fun e => hn i hl e.symm), owned := fun j hlj _ => ?_, fznew := fun b o hf => hf.imp id fun hf => .inr ⟨i, hl, hf.1.symm⟩ }
   by_cases hjn : j = H.n
   · rw [hjn, hlocn]; exact ⟨i, hl, rfl⟩
   · exact ⟨j, (hlive j hjn hlj).1, (hloc j hjn).symm⟩
theorem run_append_room' (t ty e e' : TypeId) (i : TypeInfo) (ht : P.underlying t = some (.slice e)) (hi : P.info? e = some i)
  (g sLen sCap : Nat) (cur : Array Value) (hg : w.heap[g]? = some (.cells cur e' (0, 0)))
  (a : Addr) (m c : Nat) (news : List Value) (hl : news.length = m * i.size) (hnews : ∀ (j : Nat) (u : Value), news[j]? = some u → w.cell? (a.add j) = some u) (h1 : ∀ u ∈ news, u.oneCell' = true)
  (hroom : sLen + m ≤ sCap) (hfit : sLen * i.size + news.length ≤ cur.size) :
  (Builtin.append_ #[t, t] ty #[.slice (some ⟨g, 0, none⟩) sLen sCap, .slice (some a) m c]).run P w =
   .ok (.slice (some ⟨g, 0, none⟩) (sLen + m) sCap) (w.setRow g (cur.toList.take (sLen * i.size) ++ news ++ cur.toList.drop (sLen * i.size + news.length)).toArray) := by
 have hf := run_firstCells_some (P := P) w i.size m a m c news hl hnews
 have hst := run_storeCells_at P g (sLen * i.size) e' news 0 cur w hg (by simpa using hfit) h1
 simp only [Nat.add_zero] at hst
 simp [Builtin.append_, run_underlying ht, Go.sizeOf, typeInfo, hi, Builtin.lenOf, hroom, hf, Addr.add_lit, hst]
theorem run_append_room2 (t ty e : TypeId) (i : TypeInfo) (ht : P.underlying t = some (.slice e)) (hi : P.info? e = some i)
  (g sLen sCap : Nat) (a : Addr) (m c : Nat) (news : List Value) (hl : news.length = m * i.size) (hnews : ∀ (j : Nat) (u : Value), news[j]? = some u → w.cell? (a.add j) = some u)
  (hroom : sLen + m ≤ sCap) (hst : (storeCells ⟨g, sLen * i.size, none⟩ news).run P w = .ok () w') :
  (Builtin.append_ #[t, t] ty #[.slice (some ⟨g, 0, none⟩) sLen sCap, .slice (some a) m c]).run P w = .ok (.slice (some ⟨g, 0, none⟩) (sLen + m) sCap) w' := by
 have hf := run_firstCells_some (P := P) w i.size m a m c news hl hnews
 simp [Builtin.append_, run_underlying ht, Go.sizeOf, typeInfo, hi, Builtin.lenOf, hroom, hf, Addr.add_lit, hst]
theorem acells_sound {sz m : Nat} {y : AV} {news : List AV} {Y : Value} (hrel : Rel F w G H) (h : acells H sz y = some (m, news)) (hy : VR F w G y Y) :
  news.length = m * sz ∧ ∃ ad c, Y = .slice ad m c ∧ (0 < m → ∃ b o, ad = some ⟨b, o, none⟩ ∧ CellsAt F w G b o news) := by
 unfold acells at h
 split at h
 · rename_i tk len cells
   split at h
   · rename_i hlen
     cases h
     refine ⟨hlen, ?_⟩
     cases hy with
     | lstnil => exact ⟨_, _, rfl, fun h => absurd h (by omega)⟩
     | lst0 a cap => exact ⟨_, _, rfl, fun h => absurd h (by omega)⟩
     | lst _ _ _ b o cap Vs ht hle h hv => exact ⟨_, _, rfl, fun _ => ⟨b, o, rfl, fun j c hj => ⟨Vs j, (h j c hj).2, hv j c hj⟩⟩⟩
   · cases h
 · rename_i id o len sz'
   split at h
   · rename_i cs ho
     split at h
     · rename_i hle
       cases h
       refine ⟨by simp; omega, ?_⟩
       have hobj := hrel.obj id
       rw [ho] at hobj
       cases hy with
       | row _ _ _ _ cap hid hc1 hc2 =>
        refine ⟨_, _, rfl, fun _ => ⟨_, _, rfl, ?_⟩⟩
        have := hobj.row_cells.cut o (m * sz)
        rw [Nat.zero_add] at this
        exact this
     · cases h
   · cases h
 · cases h
theorem scalars_one {l : List AV} {L : List Value} (hl : VRs F w G l L.toArray) (hsc : l.all AV.scalar = true) : ∀ V ∈ L, V.oneCell' = true := by
 intro V hV
 obtain ⟨j, hj, rfl⟩ := List.mem_iff_getElem.1 hV
 have hj' : j < l.length := by have := hl.1; simp at this; omega
 exact (hl.2 j l[j] L[j] (List.getElem?_eq_getElem hj') (by simp [hj])).scalar_one (List.all_eq_true.1 hsc _ (List.getElem_mem hj'))
theorem grown_tok {C : Array Value} {e : TypeId} {cs : List AV} {cap sz : Nat} (hrel : Rel F w G H) (hp : Pushed w w' (.cells C e)) (hv : ∀ (j : Nat) (c : AV), cs[j]? = some c → ∃ V, C[j]? = some V ∧ VR F w G c V)
  (hC : C.size = cap * sz) (len : Nat) (hlen : cs.length = len * sz) (hle : len ≤ cap) :
  ∃ G', Rel F w' G' (H.push (.tok (len * sz) sz)) ∧ Step w G H w' G' (H.push (.tok (len * sz) sz)) ∧ VR F w' G' (.lst (.own H.n) len cs) (.slice (some ⟨w.heap.size, 0, none⟩) len cap) := by
 have hn := hrel.n
 have hloc : ((G.ice w.heap.size 0 (len * sz)).more w.heap.size cap).loc H.n = w.heap.size := if_pos hn.symm
 have hcap : ((G.ice w.heap.size 0 (len * sz)).more w.heap.size cap).cap H.n = cap := if_pos hn.symm
 have hlC : len * sz ≤ C.size := by rw [hC]; exact Nat.mul_le_mul_right _ hle
 have hg := GLe.iceMore (G := G) hp w.heap.size 0 (len * sz) w.heap.size cap
 have hr := hrel.push hp (len * sz) cap hlC (.tok (len * sz) sz) ⟨C, e, by rw [hloc]; exact hp.new, by rw [hcap]; exact hC, hlC, fun j hj hf => by
   rw [hloc] at hf
   rcases hf with hf | ⟨_, _, hf⟩
   · exact hrel.nofz j hf
   · omega⟩
 have key : ∀ (j : Nat) (c : AV), cs[j]? = some c → C[j]? = some (C.getD j undef) ∧ j < len * sz ∧ VR F w G c (C.getD j undef) := by
  intro j c hj
  obtain ⟨V, hV, hr⟩ := hv j c hj
  have hlt : j < cs.length := (List.getElem?_eq_some_iff.1 hj).1
  have hCj : C.getD j undef = V := by simp [Array.getD_eq_getD_getElem?, hV]
  rw [hCj]
  exact ⟨hV, by omega, hr⟩
 refine ⟨_, hr.1, hr.2, .lst _ _ _ _ _ _ (fun j => C.getD j undef) ⟨by show H.n < G.n + 1; omega, hloc, rfl, hcap⟩ hle (fun j c hj => ?_) fun j c hj => (key j c hj).2.2.mono hg⟩
 rw [Nat.zero_add]
 exact ⟨.inr ⟨rfl, Nat.zero_le _, (key j c hj).2.1⟩, by rw [cell_of_row w' _ j C e (0, 0) hp.new]; exact (key j c hj).1⟩
theorem grown_row {C : Array Value} {e : TypeId} {cs : List AV} {cap sz : Nat} (hrel : Rel F w G H) (hp : Pushed w w' (.cells C e)) (hv : ∀ (j : Nat) (c : AV), cs[j]? = some c → ∃ V, C[j]? = some V ∧ VR F w G c V)
  (hC : C.size = cap * sz) (len : Nat) (hle : len ≤ cap) :
  ∃ G', Rel F w' G' (H.push (.row cs)) ∧ Step w G H w' G' (H.push (.row cs)) ∧ VR F w' G' (.row H.n 0 len sz) (.slice (some ⟨w.heap.size, 0, none⟩) len cap) := by
 obtain ⟨G', hr, hst, hn, hloc, hcap⟩ := new_row hrel hp hv
 refine ⟨G', hr, hst, ?_⟩
 rw [← hloc]
 exact .row _ _ _ _ _ hn hle (by rw [hcap, hC]; omega)
theorem app_get {cs news : List AV} {L M : List Value} {Z : Array Value} (h : VRs F w G cs L.toArray) (k : VRs F w G news M.toArray) :
  ∀ (j : Nat) (c : AV), (cs ++ news)[j]? = some c → ∃ V, (L.toArray ++ M.toArray ++ Z)[j]? = some V ∧ VR F w G c V := by
 intro j c hj
 obtain ⟨V, hV, hr⟩ := (h.app k).get hj
 refine ⟨V, ?_, hr⟩
 rw [Array.getElem?_append, if_pos (Array.getElem?_eq_some_iff.1 hV).1]
 exact hV
theorem grown_size {L M : List Value} {z : Value} {sz n m cap : Nat} (hL : L.length = n * sz) (hM : M.length = m * sz) (hz : z.cells.size = sz) (hcap : n + m ≤ cap) :
  (L.toArray ++ M.toArray ++ Builtin.zeroCells z.cells (cap - (n + m))).size = cap * sz := by
 simp only [Array.size_append, List.size_toArray, size_zeroCells, hz, hL, hM, ← Nat.add_mul]
 congr 1
 omega
theorem aappend_sound {t e ty : TypeId} {inf : TypeInfo} {mu : Bool} {sz bytes : Nat} {z : Value} {x y v : AV} {X Y : Value} {H' : AH} (hrel : Rel F w G H)
  (ht : P.underlying t = some (.slice e)) (hi : P.info? e = some inf) (hs : inf.size = sz) (hb : inf.bytes = bytes) (hz : inf.zero = some z) (hzs : z.cells.size = sz) (hsz : 0 < sz)
  (h : aappend H mu sz bytes x y = some (v, H')) (hx : VR F w G x X) (hy : VR F w G y Y) : Gave F w G H v H' ((Builtin.append_ #[t, t] ty #[X, Y]).run P w) := by
 subst hs
 subst hb
 unfold aappend at h
 split at h
 · cases h
 · rename_i m news hac
   obtain ⟨hnl, ad, c, rfl, hsrc⟩ := acells_sound hrel hac hy
   split at h
   · cases h
   · rename_i hsc
     simp only [Bool.not_eq_true, Bool.not_eq_false] at hsc
     have hsc : news.all AV.scalar = true := by simpa using hsc
     have zero : ∀ (a : Option Addr) (len cap : Nat), len ≤ cap → m = 0 → (∀ u, a = some u → u.spot = none ∨ True) → (Builtin.append_ #[t, t] ty #[.slice a len cap, .slice ad m c]).run P w = .ok (.slice a len cap) w := by
      intro a len cap hle hm _
      subst hm
      cases a <;> cases ad <;> simp [Builtin.append_, run_underlying ht, Go.sizeOf, typeInfo, hi, Builtin.lenOf, Builtin.firstCells, loadCells, loadCellsFrom, storeCells, hle]
     split at h
     · rename_i tk len cells
       split at h
       · rename_i hm
         cases h
         cases hx with
         | lstnil => rw [zero _ _ _ (Nat.le_refl _) hm (fun _ _ => .inr trivial)]; exact ⟨_, _, G, rfl, .lstnil, hrel, Step.refl _ _ _⟩
         | lst0 a cap => rw [zero _ _ _ (Nat.zero_le _) hm (fun _ _ => .inr trivial)]; exact ⟨_, _, G, rfl, .lst0 _ _, hrel, Step.refl _ _ _⟩
         | lst _ _ _ b o cap Vs htk hle h hv => rw [zero _ _ _ hle hm (fun _ _ => .inr trivial)]; exact ⟨_, _, G, rfl, .lst _ _ _ _ _ _ Vs htk hle h hv, hrel, Step.refl _ _ _⟩
       · rename_i hm
         obtain ⟨bs, os, rfl, hcs⟩ := hsrc (by omega)
         obtain ⟨M, hM, hMc⟩ := hcs.vals
         have hMl : M.length = m * inf.size := by have := hM.1; simp at this; omega
         split at h
         · cases h
         · rename_i hk
           simp only [Classical.not_not] at hk
           obtain ⟨hcl, hby, h63⟩ := hk
           have growNil : ∀ (hlen : len = 0) , (Builtin.append_ #[t, t] ty #[.slice none 0 0, .slice (some ⟨bs, os, none⟩) m c]).run P w =
             .ok (.slice (some ⟨w.heap.size, 0, none⟩) (len + m) (grownCap w (len + m) 0 e)) (w.drew.alloc (.cells (([] : List Value).toArray ++ M.toArray ++ Builtin.zeroCells z.cells (grownCap w (len + m) 0 e - (len + m))) e)) := by
            intro hlen
            subst hlen
            have := run_append_nil (P := P) w t ty e inf z ht hi hz ⟨bs, os, none⟩ m c M hMl hMc (by omega) (by omega) (by simp only [Nat.zero_add] at hby; omega)
            simpa using this
           have growOld : ∀ (b o cap : Nat) (L : List Value), L.length = len * inf.size → (∀ (j : Nat) (V : Value), L[j]? = some V → w.cell? ((⟨b, o, none⟩ : Addr).add j) = some V) → cap < len + m →
             (Builtin.append_ #[t, t] ty #[.slice (some ⟨b, o, none⟩) len cap, .slice (some ⟨bs, os, none⟩) m c]).run P w =
             .ok (.slice (some ⟨w.heap.size, 0, none⟩) (len + m) (grownCap w (len + m) cap e)) (w.drew.alloc (.cells (L.toArray ++ M.toArray ++ Builtin.zeroCells z.cells (grownCap w (len + m) cap e - (len + m))) e)) := by
            intro b o cap L hL hLc hcap
            exact run_append_grow (P := P) w t ty e inf z ht hi hz ⟨b, o, none⟩ len cap L hL hLc ⟨bs, os, none⟩ m c M hMl hMc hcap (by omega) (growslice_fits hcap hby)
           have htot : (cells ++ news).length = (len + m) * inf.size := by rw [List.length_append, hcl, hnl, Nat.add_mul]
           have olds : ∀ {b o : Nat} {Vs : Nat → Value}, (∀ (j : Nat) (c : AV), cells[j]? = some c → G.fz b (o + j) ∧ w.cell? ⟨b, o + j, none⟩ = some (Vs j)) → (∀ (j : Nat) (c : AV), cells[j]? = some c → VR F w G c (Vs j)) →
             ∃ L : List Value, VRs F w G cells L.toArray ∧ L.length = len * inf.size ∧ ∀ (j : Nat) (V : Value), L[j]? = some V → w.cell? ((⟨b, o, none⟩ : Addr).add j) = some V := by
            intro b o Vs h1 h2
            obtain ⟨L, hL, hLc⟩ := (show CellsAt F w G b o cells from fun j c hj => ⟨Vs j, (h1 j c hj).2, h2 j c hj⟩).vals
            exact ⟨L, hL, by have := hL.1; simp at this; omega, hLc⟩
           split at h
           ·
             cases h
             cases hx with
             | lstnil =>
              rw [growNil rfl]
              obtain ⟨G', hr, hst, hv⟩ := grown_row hrel (Pushed.drew w _) (app_get VRs.nil hM) (grown_size (n := 0) (by simp) hMl hzs (grownCap_ge w _ _ _)) (0 + m) (grownCap_ge w _ _ _)
              exact ⟨_, _, G', rfl, hv, hr, hst⟩
             | lst _ _ _ b o cap Vs htk hle h hv => exact htk.elim
           ·
             cases h
             cases hx with
             | lst _ _ _ b o cap Vs htk hle h hv =>
              obtain ⟨L, hL, hLl, hLc⟩ := olds h hv
              rw [growOld b o cap L hLl hLc (by have : cap = len := htk; omega)]
              obtain ⟨G', hr, hst, hv⟩ := grown_row hrel (Pushed.drew w _) (app_get hL hM) (grown_size hLl hMl hzs (grownCap_ge w _ _ _)) (len + m) (grownCap_ge w _ _ _)
              exact ⟨_, _, G', rfl, hv, hr, hst⟩
           ·
             cases h
             cases hx with
             | lstnil =>
              rw [growNil rfl]
              obtain ⟨G', hr, hst, hv⟩ := grown_tok hrel (Pushed.drew w _) (app_get VRs.nil hM) (grown_size (n := 0) (by simp) hMl hzs (grownCap_ge w _ _ _)) (0 + m) (by simpa using htot) (grownCap_ge w _ _ _)
              exact ⟨_, _, G', rfl, hv, hr, hst⟩
             | lst _ _ _ b o cap Vs htk hle h hv => exact htk.elim
           ·
             cases h
             cases hx with
             | lst _ _ _ b o cap Vs htk hle h hv =>
              obtain ⟨L, hL, hLl, hLc⟩ := olds h hv
              rw [growOld b o cap L hLl hLc (by have : cap = len := htk; omega)]
              obtain ⟨G', hr, hst, hv⟩ := grown_tok hrel (Pushed.drew w _) (app_get hL hM) (grown_size hLl hMl hzs (grownCap_ge w _ _ _)) (len + m) htot (grownCap_ge w _ _ _)
              exact ⟨_, _, G', rfl, hv, hr, hst⟩
           ·
             rename_i tid
             split at h
             · rename_i k sz' htok
               split at h
               · rename_i hk
                 obtain ⟨rfl, rfl⟩ := hk
                 cases h
                 have hlive : (H.o tid).live = true := by rw [htok]; rfl
                 have hobj := hrel.obj tid
                 rw [htok] at hobj
                 obtain ⟨C, e', hC, hCs, hkC, hkz⟩ := hobj
                 cases hx with
                 | lst _ _ _ b o cap Vs htk hle h hv =>
                  obtain ⟨ht1, rfl, rfl, rfl⟩ := htk
                  obtain ⟨L, hL, hLl, hLc⟩ := olds h hv
                  by_cases hroom : len + m ≤ G.cap tid
                  · have hfit : len * inf.size + M.length ≤ C.size := by rw [hMl, hCs, ← Nat.add_mul]; exact Nat.mul_le_mul_right _ hroom
                    rw [run_append_room' t ty e e' inf ht hi (G.loc tid) len (G.cap tid) C hC ⟨bs, os, none⟩ m c M hMl hMc (scalars_one hM hsc) hroom hfit]
                    have hn := hrel.n
                    have hget := over_get C M (len * inf.size)
                    have hnew := setRow_heap w (G.loc tid) C (C.toList.take (len * inf.size) ++ M ++ C.toList.drop (len * inf.size + M.length)).toArray e' (0, 0) hC
                    have hcell : ∀ j, (w.setRow (G.loc tid) (C.toList.take (len * inf.size) ++ M ++ C.toList.drop (len * inf.size + M.length)).toArray).cell? ⟨G.loc tid, j, none⟩ = if len * inf.size ≤ j ∧ j < len * inf.size + M.length then M[j - len * inf.size]? else C[j]? := by
                     intro j
                     rw [cell_of_row _ _ j _ e' (0, 0) hnew]
                     exact hget j hfit
                    have hloc : ((G.ice (G.loc tid) (len * inf.size) ((len + m) * inf.size)).more (G.loc tid) (G.cap tid)).loc H.n = G.loc tid := if_pos hn.symm
                    have hcap : ((G.ice (G.loc tid) (len * inf.size) ((len + m) * inf.size)).more (G.loc tid) (G.cap tid)).cap H.n = G.cap tid := if_pos hn.symm
                    have hsum : (len + m) * inf.size = len * inf.size + M.length := by rw [hMl, Nat.add_mul]
                    have hg : GLe w G (w.setRow (G.loc tid) (C.toList.take (len * inf.size) ++ M ++ C.toList.drop (len * inf.size + M.length)).toArray) ((G.ice (G.loc tid) (len * inf.size) ((len + m) * inf.size)).more (G.loc tid) (G.cap tid)) :=
                     ⟨Nat.le_succ _, fun i hi => if_neg (Nat.ne_of_lt hi), fun i hi => if_neg (Nat.ne_of_lt hi), fun _ _ hf => .inl hf, fun b o V hf hc => by
                       by_cases hb : b = G.loc tid
                       · subst hb
                         have ho : o < len * inf.size := by
                          rcases Nat.lt_or_ge o (len * inf.size) with h' | h'
                          · exact h'
                          · exact absurd hf (hkz o h')
                         rw [hcell, if_neg (by omega)]
                         rw [cell_of_row w _ o C e' (0, 0) hC] at hc
                         exact hc
                       · rw [World.cell?_of_block (w := w) ((Turned.setRow w _ _).other b hb)]; exact hc⟩
                    have hpass := hrel.pass hlive (Turned.setRow w _ _) (len * inf.size) ((len + m) * inf.size) hg (.tok ((len + m) * inf.size) inf.size)
                     ⟨_, e', by rw [hloc]; exact hnew, by rw [hcap, ← hCs]; simp; omega, by simp; omega, fun j hj hf => by
                       rw [hloc] at hf
                       rcases hf with hf | ⟨_, _, hf⟩
                       · exact hkz j (by omega) hf
                       · omega⟩
                     (fun o h1 h2 => ⟨M[o - len * inf.size], by rw [hcell, if_pos (by omega)]; exact List.getElem?_eq_getElem (by omega)⟩)
                    refine ⟨_, _, _, rfl, ?_, hpass.1, hpass.2⟩
                    have key : ∀ (j : Nat) (c : AV), (cells ++ news)[j]? = some c → ((G.ice (G.loc tid) (len * inf.size) ((len + m) * inf.size)).more (G.loc tid) (G.cap tid)).fz (G.loc tid) (0 + j) ∧
                      ∃ V, (w.setRow (G.loc tid) (C.toList.take (len * inf.size) ++ M ++ C.toList.drop (len * inf.size + M.length)).toArray).cell? ⟨G.loc tid, 0 + j, none⟩ = some V ∧ VR F w G c V := by
                     intro j c hj
                     rw [List.getElem?_append] at hj
                     rw [Nat.zero_add]
                     split at hj
                     · rename_i hlt
                       have h1 := h j c hj
                       rw [Nat.zero_add] at h1
                       refine ⟨.inl h1.1, Vs j, ?_, hv j c hj⟩
                       rw [hcell, if_neg (by omega)]
                       rw [cell_of_row w _ j C e' (0, 0) hC] at h1
                       exact h1.2
                     · rename_i hge
                       obtain ⟨V, hV, hr⟩ := hM.get hj
                       have hlt := (List.getElem?_eq_some_iff.1 hj).1
                       refine ⟨.inr ⟨rfl, by omega, by omega⟩, V, ?_, hr⟩
                       rw [hcell, if_pos (by omega), ← hcl]
                       simpa using hV
                    refine .lst _ _ _ (G.loc tid) 0 (G.cap tid) (fun j => ((w.setRow (G.loc tid) (C.toList.take (len * inf.size) ++ M ++ C.toList.drop (len * inf.size + M.length)).toArray).cell? ⟨G.loc tid, 0 + j, none⟩).getD undef) ⟨by show H.n < G.n + 1; omega, hloc, rfl, hcap⟩ hroom (fun j c hj => ?_) fun j c hj => ?_
                    · obtain ⟨h1, V, hV, _⟩ := key j c hj
                      exact ⟨h1, by rw [hV]; rfl⟩
                    · obtain ⟨h1, V, hV, hr⟩ := key j c hj
                      rw [hV]
                      exact hr.mono hg
                  · rw [growOld (G.loc tid) 0 (G.cap tid) L hLl hLc (by omega)]
                    have hk := hrel.kill tid (hrel.n ▸ ht1)
                    obtain ⟨G', hr, hst, hv⟩ := grown_tok hk.1 (Pushed.drew w _) (app_get hL hM) (grown_size hLl hMl hzs (grownCap_ge w _ _ _)) (len + m) htot (grownCap_ge w _ _ _)
                    exact ⟨_, _, G', rfl, hv, hr, hk.2.trans hst⟩
               · cases h
             · cases h
           · cases h
     · rename_i id o len sz'
       split at h
       · rename_i cs ho
         split at h
         · rename_i hm
           cases h
           cases hx with
           | row _ _ _ _ cap hid hle hc => rw [zero _ _ _ hle hm (fun _ _ => .inr trivial)]; exact ⟨_, _, G, rfl, .row _ _ _ _ _ hid hle hc, hrel, Step.refl _ _ _⟩
         · rename_i hm
           obtain ⟨bs, os, rfl, hcs⟩ := hsrc (by omega)
           obtain ⟨M, hM, hMc⟩ := hcs.vals
           have hMl : M.length = m * inf.size := by have := hM.1; simp at this; omega
           split at h
           · cases h
           · rename_i hk
             simp only [Classical.not_not] at hk
             obtain ⟨rfl, rfl, hby, h63⟩ := hk
             have hlive : (H.o id).live = true := by rw [ho]; rfl
             have hobj := hrel.obj id
             rw [ho] at hobj
             obtain ⟨C, e', hC, hCs, hz0, hvC⟩ := hobj
             have hcl : cs.length ≤ C.size := by
              rcases Nat.lt_or_ge C.size cs.length with hlt | hge
              · obtain ⟨V, hV, _⟩ := hvC C.size cs[C.size] (List.getElem?_eq_getElem hlt)
                simp at hV
              · exact hge
             cases hx with
             | row _ _ _ _ cap hid hle hc =>
              rw [Nat.zero_add] at hc
              split at h
              · rename_i hin
                cases h
                have hroom : len + m ≤ cap := by
                 have : (len + m) * inf.size ≤ cap * inf.size := by rw [hc, ← hCs]; omega
                 exact Nat.le_of_mul_le_mul_right this hsz
                obtain ⟨w1, hst1, hr1⟩ := row_write (P := P) (o := len * inf.size) (l := news) (L := M) hrel ho hM (by rw [hnl, ← Nat.add_mul]; exact hin) hsc
                rw [run_append_room2 t ty e inf ht hi (G.loc id) len cap ⟨bs, os, none⟩ m c M hMl hMc hroom hst1]
                exact ⟨_, _, G, rfl, .row _ _ _ _ _ hid hroom (by rw [Nat.zero_add]; exact hc), hr1.1, hr1.2⟩
              · split at h
                · rename_i hnin hend
                  cases h
                  by_cases hroom : len + m ≤ cap
                  · have hfit : len * inf.size + M.length ≤ C.size := by rw [hMl, hCs, ← hc, ← Nat.add_mul]; exact Nat.mul_le_mul_right _ hroom
                    rw [run_append_room' t ty e e' inf ht hi (G.loc id) len cap C hC ⟨bs, os, none⟩ m c M hMl hMc (scalars_one hM hsc) hroom hfit]
                    have hn := hrel.n
                    have hnew := setRow_heap w (G.loc id) C (C.toList.take (len * inf.size) ++ M ++ C.toList.drop (len * inf.size + M.length)).toArray e' (0, 0) hC
                    have hloc : ((G.ice (G.loc id) 0 0).more (G.loc id) (G.cap id)).loc H.n = G.loc id := if_pos hn.symm
                    have hcap : ((G.ice (G.loc id) 0 0).more (G.loc id) (G.cap id)).cap H.n = G.cap id := if_pos hn.symm
                    have hg : GLe w G (w.setRow (G.loc id) (C.toList.take (len * inf.size) ++ M ++ C.toList.drop (len * inf.size + M.length)).toArray) ((G.ice (G.loc id) 0 0).more (G.loc id) (G.cap id)) :=
                     ⟨Nat.le_succ _, fun i hi => if_neg (Nat.ne_of_lt hi), fun i hi => if_neg (Nat.ne_of_lt hi), fun _ _ hf => .inl hf, fun b o V hf hc => by
                       have hb : b ≠ G.loc id := fun e => hz0 o (e ▸ hf)
                       rw [World.cell?_of_block (w := w) ((Turned.setRow w _ _).other b hb)]; exact hc⟩
                    have hpass := hrel.pass hlive (Turned.setRow w _ _) 0 0 hg (.row (cs ++ news))
                     ⟨_, e', by rw [hloc]; exact hnew, by rw [hcap, ← hCs]; simp; omega, fun j hf => by
                       rw [hloc] at hf
                       rcases hf with hf | ⟨_, _, hf⟩
                       · exact hz0 j hf
                       · omega, fun j c hj => by
                       rw [over_get C M (len * inf.size) j hfit]
                       rw [List.getElem?_append] at hj
                       split at hj
                       · rename_i hlt
                         rw [if_neg (by omega)]
                         obtain ⟨V, hV, hr⟩ := hvC j c hj
                         exact ⟨V, hV, hr.mono hg⟩
                       · rename_i hge
                         have hlt := (List.getElem?_eq_some_iff.1 hj).1
                         rw [if_pos (by omega), show j - len * inf.size = j - cs.length by omega]
                         obtain ⟨V, hV, hr⟩ := hM.get hj
                         exact ⟨V, by simpa using hV, hr.mono hg⟩⟩
                     (fun o h1 h2 => by omega)
                    refine ⟨_, _, _, rfl, ?_, hpass.1, hpass.2⟩
                    have := VR.row (F := F) (w := w.setRow (G.loc id) (C.toList.take (len * inf.size) ++ M ++ C.toList.drop (len * inf.size + M.length)).toArray) (G := (G.ice (G.loc id) 0 0).more (G.loc id) (G.cap id)) H.n 0 (len + m) inf.size cap (by show H.n < G.n + 1; omega) hroom (by rw [hcap, Nat.zero_add]; exact hc)
                    rw [hloc] at this
                    exact this
                  · have hcs2 := (show ObjR F w G id (.row cs) by have := hrel.obj id; rw [ho] at this; exact this).row_cells
                    obtain ⟨L, hL, hLc⟩ := hcs2.vals
                    have hLl : L.length = len * inf.size := by have := hL.1; simp at this; omega
                    rw [run_append_grow (P := P) w t ty e inf z ht hi hz ⟨G.loc id, 0, none⟩ len cap L hLl hLc ⟨bs, os, none⟩ m c M hMl hMc (by omega) (by omega) (growslice_fits (by omega) hby)]
                    have hk := hrel.kill id (hrel.n ▸ hid)
                    obtain ⟨G', hr, hst, hv⟩ := grown_row hk.1 (Pushed.drew w _) (app_get hL hM) (grown_size hLl hMl hzs (grownCap_ge w _ _ _)) (len + m) (grownCap_ge w _ _ _)
                    exact ⟨_, _, G', rfl, hv, hr, hk.2.trans hst⟩
                · cases h
       · cases h
     · cases h
end
end Rb

namespace Rb
open Go
section
variable {P : Program} {F : FTab} {w : World} {G : Ghost} {H : AH}
theorem Pushed.mark (w : World) (o : Obj) : Pushed w (w.drew.alloc o) o := ⟨rfl, rfl, rfl, rfl⟩
theorem asbytes_sound {src dst e : TypeId} {x v : AV} {X : Value} (hrel : Rel F w G H) (hs : P.underlying src = some .string) (hd : P.underlying dst = some (.slice e)) (he : P.underlying e = some (.int .u8))
  (h : asbytes x = some v) (hx : VR F w G x X) : Gave F w G H v H ((convert src dst X).run P w) := by
 unfold asbytes at h
 split at h
 · rename_i s
   cases h
   obtain rfl := hx.str_inv
   have hrun := run_bytes_of_string (P := P) w src dst e ⟨s.toArray⟩ hs hd he
   generalize hcap : grownCap w (ByteArray.size ⟨s.toArray⟩) 0 e = cap at hrun
   have hsz : (ByteArray.mk s.toArray).size = s.length := by simp [ByteArray.size]
   rw [hrun, hsz]
   have hle : s.length ≤ cap := by rw [← hcap, ← hsz]; exact grownCap_ge w _ 0 e
   have hp := Pushed.mark w (.cells (bytesRow ⟨s.toArray⟩ cap) e ((bytesRow ⟨s.toArray⟩ cap).size, (bytesRow ⟨s.toArray⟩ cap).size + 1))
   have hcell : ∀ j, j < s.length → (w.drew.alloc (.cells (bytesRow ⟨s.toArray⟩ cap) e ((bytesRow ⟨s.toArray⟩ cap).size, (bytesRow ⟨s.toArray⟩ cap).size + 1))).cell? ⟨w.heap.size, j, none⟩ = some (.int .u8 ((s.getD j 0).toNat : Nat)) := by
    intro j hj
    rw [cell_of_row _ _ j _ e _ hp.new]
    simp [bytesRow, Array.getElem?_append, hj, List.getD]
   obtain ⟨hr, hst⟩ := hrel.frozenAt hp s.length fun j hj => ⟨_, hcell j hj⟩
   refine ⟨_, _, _, rfl, ?_, hr, hst⟩
   refine .lst .dead s.length (byteCells s) w.heap.size 0 cap (fun j => .int .u8 ((s.getD j 0).toNat : Nat)) trivial hle (fun j c hj => ?_) fun j c hj => ?_
   · have hlt : j < s.length := by have := (List.getElem?_eq_some_iff.1 hj).1; simpa [byteCells] using this
     rw [Nat.zero_add]
     exact ⟨.inr ⟨rfl, Nat.zero_le _, hlt⟩, hcell j hlt⟩
   · have hlt : j < s.length := by have := (List.getElem?_eq_some_iff.1 hj).1; simpa [byteCells] using this
     simp [byteCells, hlt] at hj
     subst hj
     simp only [List.getD_eq_getElem?_getD, List.getElem?_eq_getElem hlt, Option.getD_some]
     exact .int _ _
 · cases h
theorem cellBytes_vals : ∀ {cells : List AV} {s : List UInt8} {Vs : List Value}, cellBytes cells = some s → VRs F w G cells Vs.toArray → ∃ ns : List Int, Vs = ns.map (Value.int .u8) ∧ s = ns.map fun n => UInt8.ofNat n.toNat := by
 intro cells
 induction cells with
 | nil =>
  intro s Vs h hv
  cases h
  have := hv.1
  simp at this
  have : Vs = [] := List.length_eq_zero_iff.1 (by omega)
  subst this
  exact ⟨[], rfl, rfl⟩
 | cons c cells ih =>
  intro s Vs h hv
  cases Vs with
  | nil => have := hv.1; simp at this
  | cons V Vs =>
   have h0 : VR F w G c V := hv.2 0 c V rfl rfl
   have hr : VRs F w G cells Vs.toArray := VRs.of_list (by have := hv.1; simp at this ⊢; exact this) fun j d U hd hU => hv.2 (j + 1) d U (by simpa using hd) (by simpa using hU)
   unfold cellBytes at h
   split at h
   · rename_i heq; cases heq
   · rename_i n r heq
     cases heq
     cases hc : cellBytes cells with
     | none => simp [hc] at h
     | some s' =>
      simp only [hc, Option.map_some, Option.some.injEq] at h
      obtain ⟨ns, h1, h2⟩ := ih hc hr
      obtain rfl := h0.int_inv
      exact ⟨n :: ns, by rw [h1]; rfl, by rw [← h, h2]; rfl⟩
   · cases h
theorem foldl_push : ∀ (ns : List Int) (r : ByteArray), ns.foldl (fun r n => r.push (UInt8.ofNat n.toNat)) r = ⟨r.data ++ (ns.map fun n => UInt8.ofNat n.toNat).toArray⟩
 | [], r => by simp
 | n :: ns, r => by
  simp only [List.foldl_cons, List.map_cons]
  rw [foldl_push ns]
  simp [ByteArray.push]
theorem abstr_sound {src dst e : TypeId} {x v : AV} {X : Value} (hrel : Rel F w G H) (hs : P.underlying src = some (.slice e)) (he : P.underlying e = some (.int .u8)) (hd : P.underlying dst = some .string)
  (h : abstr H x = some v) (hx : VR F w G x X) : ∃ V, (convert src dst X).run P w = .ok V w ∧ VR F w G v V := by
 unfold abstr at h
 split at h
 · rename_i m cells hc
   cases hb : cellBytes cells with
   | none => simp [hb] at h
   | some s =>
    simp only [hb, Option.map_some, Option.some.injEq] at h
    subst h
    obtain ⟨hlen, ad, c, rfl, hcells⟩ := acells_sound hrel hc hx
    rw [Nat.mul_one] at hlen
    refine ⟨_, ?_, .str s⟩
    rw [run_convert_bytes_string w src dst e ad m c hs he hd]
    by_cases hm : 0 < m
    · obtain ⟨b, o, rfl, hat⟩ := hcells hm
      obtain ⟨Vs, hVs, hcell⟩ := hat.vals
      obtain ⟨ns, rfl, rfl⟩ := cellBytes_vals hb hVs
      have hl : ns.length = m := by have := hVs.1; simp at this; omega
      have hload := run_loadCells_list (P := P) w ⟨b, o, none⟩ _ hcell
      rw [List.length_map, hl] at hload
      rw [run_bytesToString w ⟨b, o, none⟩ m c ns hload, foldl_push]
      simp [ByteArray.empty, ByteArray.emptyWithCapacity]
      rfl
    · have hm0 : m = 0 := by omega
      subst hm0
      have hcn : cells = [] := List.length_eq_zero_iff.1 hlen
      subst hcn
      cases hb
      cases ad with
      | none => rfl
      | some ad =>
       have hload := run_loadCells_list (P := P) w ad [] (fun j V hV => by simp at hV)
       simp only [List.length_nil] at hload
       rw [run_bytesToString w ad 0 c [] hload]
       rfl
 · cases h
theorem asrange_sound {t : TypeId} {x v : AV} {X : Value} {H' : AH} (hrel : Rel F w G H) (ht : P.underlying t = some .string) (h : asrange H x = some (v, H')) (hx : VR F w G x X) :
  Gave F w G H v H' ((Instr.range t X).run P w) := by
 unfold asrange at h
 split at h
 · rename_i s
   cases h
   obtain rfl := hx.str_inv
   have hrun : (Instr.range t (.string ⟨s.toArray⟩)).run P w = .ok (.pointer (some ⟨w.heap.size, 0, none⟩)) (w.alloc (.stringIter ⟨s.toArray⟩ 0)) := by
    simp [Instr.range, run_underlying ht]
   rw [hrun]
   have hp := Pushed.alloc w (.stringIter ⟨s.toArray⟩ 0)
   have hn := hrel.n
   have hloc : (G.more w.heap.size 0).loc H.n = w.heap.size := if_pos hn.symm
   obtain ⟨hr, hst⟩ := hrel.pushObj hp 0 (.siter s 0) ⟨by rw [hloc]; exact hp.new, fun j hf => by
     rw [hloc] at hf
     exact hrel.nofz j hf⟩
   refine ⟨_, _, _, rfl, ?_, hr, hst⟩
   have := VR.ptr (F := F) (w := w.alloc (.stringIter ⟨s.toArray⟩ 0)) (G := G.more w.heap.size 0) H.n 0 (show H.n < G.n + 1 by omega)
   rw [hloc] at this
   exact this
 · cases h
theorem asnext_sound {t : TypeId} {x v : AV} {X : Value} {H' : AH} (hrel : Rel F w G H) (h : asnext H x = some (v, H')) (hx : VR F w G x X) :
  Gave F w G H v H' ((Instr.next X true t).run P w) := by
 unfold asnext at h
 split at h
 · rename_i id
   split at h
   · rename_i s pos ho
     cases hx with
     | ptr _ _ hid =>
      have hobj := hrel.obj id
      rw [ho] at hobj
      obtain ⟨hb, hz⟩ := hobj
      have hsz : (ByteArray.mk s.toArray).size = s.length := by simp [ByteArray.size]
      have hg : (getObj (G.loc id)).run P w = .ok (.stringIter ⟨s.toArray⟩ pos) w := by simp [getObj, Sem.run, hb]
      split at h
      · rename_i hlt
        cases h
        have hset : (setObj (G.loc id) (.stringIter ⟨s.toArray⟩ (pos + (Utf8.decode ⟨s.toArray⟩ pos).2))).run P w = .ok () { w with heap := w.heap.setIfInBounds (G.loc id) (.stringIter ⟨s.toArray⟩ (pos + (Utf8.decode ⟨s.toArray⟩ pos).2)) } := by
         simp [setObj, Sem.run, hb]
        have hrun : (Instr.next (.pointer (some ⟨G.loc id, 0, none⟩)) true t).run P w = .ok (.tuple #[.bool true, .int .i64 pos, .int .i32 (Utf8.decode ⟨s.toArray⟩ pos).1]) { w with heap := w.heap.setIfInBounds (G.loc id) (.stringIter ⟨s.toArray⟩ (pos + (Utf8.decode ⟨s.toArray⟩ pos).2)) } := by
         simp [Instr.next, hg, hsz, hlt, hset, goInt]
        rw [hrun]
        have ht : Turned w { w with heap := w.heap.setIfInBounds (G.loc id) (.stringIter ⟨s.toArray⟩ (pos + (Utf8.decode ⟨s.toArray⟩ pos).2)) } (G.loc id) :=
         ⟨by simp, fun k hk => by simp [Array.getElem?_setIfInBounds, Ne.symm hk], rfl, rfl, rfl⟩
        have hl : (H.o id).live = true := by rw [ho]; rfl
        have hblt : G.loc id < w.heap.size := (Array.getElem?_eq_some_iff.1 hb).1
        obtain ⟨hr, hst⟩ := hrel.write hl hz ht (.siter s (pos + (Utf8.decode ⟨s.toArray⟩ pos).2)) rfl fun _ => ⟨by simp [hblt], hz⟩
        refine ⟨_, _, _, rfl, ?_, hr, hst⟩
        refine .tup _ _ rfl fun j c V hc hV => ?_
        match j with
        | 0 => simp at hc hV; subst hc; subst hV; exact .bool _
        | 1 => simp at hc hV; subst hc; subst hV; exact .int _ _
        | 2 => simp at hc hV; subst hc; subst hV; exact .int _ _
        | j + 3 => simp at hc
      · rename_i hge
        cases h
        have hrun : (Instr.next (.pointer (some ⟨G.loc id, 0, none⟩)) true t).run P w = .ok (.tuple #[.bool false]) w := by
         simp [Instr.next, hg, hsz, hge]
        rw [hrun]
        refine ⟨_, _, _, rfl, ?_, hrel, Step.refl _ _ _⟩
        refine .tup _ _ rfl fun j c V hc hV => ?_
        match j with
        | 0 => simp at hc hV; subst hc; subst hV; exact .bool _
        | j + 1 => simp at hc
   · cases h
 · cases h
end
end Rb

namespace Rb
open Go
def keyKind (P : Program) (kt : TypeId) (kk : FK) : Bool :=
 match P.underlying kt, kk with
 | some (.int _), .n | some .bool, .b | some .string, .t => true
 | _, _ => false
section
variable {P : Program} {F : FTab} {w : World} {G : Ghost} {H : AH}
theorem keyKind_inv {kt : TypeId} {kk : FK} (h : keyKind P kt kk = true) : ∃ d, P.underlying kt = some d ∧ ((kk = .n ∧ ∃ q, d = .int q) ∨ (kk = .b ∧ d = .bool) ∨ (kk = .t ∧ d = .string)) := by
 unfold keyKind at h
 split at h
 · rename_i q hd; exact ⟨_, hd, .inl ⟨rfl, q, rfl⟩⟩
 · rename_i hd; exact ⟨_, hd, .inr (.inl ⟨rfl, rfl⟩)⟩
 · rename_i hd; exact ⟨_, hd, .inr (.inr ⟨rfl, rfl⟩)⟩
 · cases h
theorem checkKey_plain {kt : TypeId} {kk : FK} (h : keyKind P kt kk = true) (e : Bool) (K : Value) (n : Nat) : (Instr.checkKey e (n + 1) kt K).run P w = .ok () w := by
 obtain ⟨d, hd, hk⟩ := keyKind_inv h
 rcases hk with ⟨_, q, rfl⟩ | ⟨_, rfl⟩ | ⟨_, rfl⟩ <;> simp [Instr.checkKey, run_underlying hd]
theorem byteArray_beq (s t : Array UInt8) : ((⟨s⟩ : ByteArray) == ⟨t⟩) = (s == t) := rfl
theorem sameNow_sound {d : TypeDesc} {kk : FK} (hk : (kk = .n ∧ ∃ q, d = .int q) ∨ (kk = .b ∧ d = .bool) ∨ (kk = .t ∧ d = .string)) {x y : AV} {X Y : Value} {b : Bool} (h : keyEq kk x y = some b) (hx : VR F w G x X) (hy : VR F w G y Y) :
  Instr.sameNow d X Y = some b := by
 unfold keyEq at h
 split at h
 · split at h
   · rename_i hc
     obtain ⟨rfl, rfl⟩ := hc
     obtain rfl := hx.int_inv
     obtain rfl := hy.int_inv
     rcases hk with ⟨_, q, rfl⟩ | ⟨h', _⟩ | ⟨h', _⟩
     · simpa [Instr.sameNow] using h
     · cases h'
     · cases h'
   · cases h
 · split at h
   · rename_i hc
     subst hc
     obtain rfl := hx.str_inv
     obtain rfl := hy.str_inv
     rcases hk with ⟨h', _⟩ | ⟨h', _⟩ | ⟨_, rfl⟩
     · cases h'
     · cases h'
     · rename_i s t
       simp only [Instr.sameNow]
       rw [← h]
       congr 1
       rw [byteArray_beq]
       simp
   · cases h
 · split at h
   · rename_i hc
     subst hc
     obtain rfl := hx.bool_inv
     obtain rfl := hy.bool_inv
     rcases hk with ⟨h', _⟩ | ⟨_, rfl⟩ | ⟨h', _⟩
     · cases h'
     · simpa [Instr.sameNow] using h
     · cases h'
   · cases h
 · cases h
theorem findNow_sound {d : TypeDesc} {kk : FK} (hk : (kk = .n ∧ ∃ q, d = .int q) ∨ (kk = .b ∧ d = .bool) ∨ (kk = .t ∧ d = .string)) {x : AV} {X : Value} (hx : VR F w G x X) :
  ∀ (es : List (AV × AV)) (E : List MapEntry) (i : Nat) (r : Option (Nat × AV)), es.length = E.length → (∀ (j : Nat) (k v : AV), es[j]? = some (k, v) → ∃ e, E[j]? = some e ∧ VR F w G k e.key ∧ VR F w G v e.val) →
   findA kk x es i = some r → (r = none ∧ Instr.findNow d X E i = some none) ∨ ∃ j v V, r = some (i + j, v) ∧ Instr.findNow d X E i = some (some (i + j, V)) ∧ VR F w G v V ∧ j < es.length ∧ ∃ k e, es[j]? = some (k, v) ∧ E[j]? = some e ∧ keyEq kk x k = some true ∧ VR F w G k e.key := by
 intro es
 induction es with
 | nil =>
  intro E i r hl _ h
  have : E = [] := List.length_eq_zero_iff.1 hl.symm
  subst this
  cases h
  exact .inl ⟨rfl, rfl⟩
 | cons p es ih =>
  intro E i r hl hE h
  obtain ⟨k, v⟩ := p
  obtain ⟨e, he, h1, h2⟩ := hE 0 k v rfl
  cases E with
  | nil => simp at he
  | cons e' E =>
   simp at he
   subst he
   simp only [findA] at h
   split at h
   · rename_i heq
     cases h
     refine .inr ⟨0, v, e'.val, rfl, ?_, h2, by simp, k, e', rfl, rfl, heq, h1⟩
     simp only [Instr.findNow, sameNow_sound hk heq hx h1]
     rfl
   · rename_i heq
     have := ih E (i + 1) r (by simpa using hl) (fun j k v hj => by
       obtain ⟨e, he, h⟩ := hE (j + 1) k v (by simpa using hj)
       exact ⟨e, by simpa using he, h⟩) h
     rcases this with ⟨rfl, hf⟩ | ⟨j, v', V, rfl, hf, hv, hj, k', e2, g1, g2, g3, g4⟩
     · left
       refine ⟨rfl, ?_⟩
       simp only [Instr.findNow, sameNow_sound hk heq hx h1]
       exact hf
     · right
       refine ⟨j + 1, v', V, by simp; omega, ?_, hv, by simp; omega, k', e2, by simpa using g1, by simpa using g2, g3, g4⟩
       simp only [Instr.findNow, sameNow_sound hk heq hx h1]
       rw [hf]
       simp; omega
   · cases h
theorem amkmap_sound {t : TypeId} (hrel : Rel F w G H) : Gave F w G H (.map H.n) (H.push (.map [])) ((Instr.makeMap t none).run P w) := by
 have hrun : (Instr.makeMap t none).run P w = .ok (.map (some w.heap.size)) (w.alloc (.map #[] 0)) := rfl
 rw [hrun]
 have hp := Pushed.alloc w (.map #[] 0)
 have hn := hrel.n
 have hloc : (G.more w.heap.size 0).loc H.n = w.heap.size := if_pos hn.symm
 obtain ⟨hr, hst⟩ := hrel.pushObj hp 0 (.map []) ⟨#[], 0, by rw [hloc]; exact hp.new, rfl, fun j hf => by
   rw [hloc] at hf
   exact hrel.nofz j hf, fun j k v hj => by simp at hj⟩
 refine ⟨_, _, _, rfl, ?_, hr, hst⟩
 have := VR.map (F := F) (w := w.alloc (.map #[] 0)) (G := G.more w.heap.size 0) H.n (show H.n < G.n + 1 by omega)
 rw [hloc] at this
 exact this
theorem lookRes_sound {ok b : Bool} {v : AV} {V : Value} (hv : VR F w G v V) : VR F w G (lookRes ok v b) (if ok then .tuple #[V, .bool b] else V) := by
 unfold lookRes
 cases ok with
 | false => simpa using hv
 | true =>
  simp only [if_true]
  refine .tup _ _ rfl fun j c U hc hU => ?_
  match j with
  | 0 => simp at hc hU; subst hc; subst hU; exact hv
  | 1 => simp at hc hU; subst hc; subst hU; exact .bool _
  | j + 2 => simp at hc
theorem alookup_sound {t kt et : TypeId} {inf : TypeInfo} {z : Value} {kk : FK} {zero m k v : AV} {ok : Bool} {M K : Value} (hrel : Rel F w G H) (ht : P.underlying t = some (.map kt et)) (hk : keyKind P kt kk = true) (hi : P.info? et = some inf) (hz : inf.zero = some z)
  (hzv : VR F w G zero z) (h : alookup H kk zero ok m k = some v) (hm : VR F w G m M) (hK : VR F w G k K) : ∃ V, (Instr.lookup t M K ok).run P w = .ok V w ∧ VR F w G v V := by
 obtain ⟨d, hd, hkd⟩ := keyKind_inv hk
 have hzr : (zeroValue et).run P w = .ok z w := by simp [zeroValue, typeInfo, hi, hz]
 unfold alookup at h
 split at h
 · split at h
   · cases h
     obtain rfl : M = .map none := by cases hm; rfl
     refine ⟨_, ?_, lookRes_sound hzv⟩
     simp [Instr.lookup, run_underlying ht, run_underlying hd, checkKey_plain hk, Instr.findKey, Instr.findNow, hzr]
   · cases h
 · rename_i id
   split at h
   · rename_i es ho
     split at h
     · have hobj := hrel.obj id
       rw [ho] at hobj
       obtain ⟨E, clock, hb, hs, hz', hv⟩ := hobj
       cases hm with
       | map _ hid =>
        have hg := run_getObj_map (P := P) w (G.loc id) E clock hb
        cases hf : findA kk k es 0 with
        | none => simp [hf] at h
        | some r =>
         simp only [hf, Option.map_some, Option.some.injEq] at h
         rcases findNow_sound hkd hK es E.toList 0 r (by simp [hs]) (fun j k v hj => by
           obtain ⟨e, he, h⟩ := hv j k v hj; exact ⟨e, by simpa using he, h⟩) hf with ⟨rfl, hn⟩ | ⟨j, u, V, rfl, hn, hu, _⟩
         · subst h
           refine ⟨_, ?_, lookRes_sound hzv⟩
           simp [Instr.lookup, run_underlying ht, run_underlying hd, checkKey_plain hk, Instr.findKey, hn, hzr, hg]
         · subst h
           refine ⟨_, ?_, lookRes_sound hu⟩
           simp [Instr.lookup, run_underlying ht, run_underlying hd, checkKey_plain hk, Instr.findKey, hn, hzr, hg]
     · cases h
   · cases h
 · cases h
theorem AH.set_same {H : AH} {i : Nat} {x : AObj} (h : H.o i = x) : H.set i x = H := by
 cases H with
 | mk n o =>
  simp only [AH.set] at h ⊢
  congr 1
  funext j
  split
  · rename_i hj; rw [hj, ← h]
  · rfl
theorem turned_setObj (w : World) (b : Nat) (o : Obj) : Turned w { w with heap := w.heap.setIfInBounds b o } b :=
 ⟨by simp, fun k hk => by simp [Array.getElem?_setIfInBounds, Ne.symm hk], rfl, rfl, rfl⟩
theorem sameBits_key {kk : FK} {x y : AV} {X Y : Value} (h : keyEq kk x y = some true) (hx : VR F w G x X) (hy : VR F w G y Y) : Instr.sameBits 10000 Y X = true := by
 unfold keyEq at h
 split at h
 · split at h
   · rename_i hc
     obtain ⟨rfl, rfl⟩ := hc
     obtain rfl := hx.int_inv
     obtain rfl := hy.int_inv
     simp at h
     simp [Instr.sameBits, h]
   · cases h
 · split at h
   · obtain rfl := hx.str_inv
     obtain rfl := hy.str_inv
     simp at h
     simp [Instr.sameBits, h, byteArray_beq]
   · cases h
 · split at h
   · obtain rfl := hx.bool_inv
     obtain rfl := hy.bool_inv
     simp at h
     simp [Instr.sameBits, h]
   · cases h
 · cases h
theorem amapup_sound {t kt et : TypeId} {kk : FK} {m k v : AV} {M K V : Value} {H' : AH} (hrel : Rel F w G H) (ht : P.underlying t = some (.map kt et)) (hk : keyKind P kt kk = true)
  (h : amapup H kk m k v = some H') (hm : VR F w G m M) (hK : VR F w G k K) (hV : VR F w G v V) : ∃ w', (Instr.mapUpdate t M K V).run P w = .ok () w' ∧ Rel F w' G H' ∧ Step w G H w' G H' := by
 obtain ⟨d, hd, hkd⟩ := keyKind_inv hk
 unfold amapup at h
 split at h
 · rename_i id
   split at h
   · rename_i es ho
     split at h
     · have hobj := hrel.obj id
       rw [ho] at hobj
       obtain ⟨E, clock, hb, hs, hz', hv⟩ := hobj
       have hl : (H.o id).live = true := by rw [ho]; rfl
       have hblt : G.loc id < w.heap.size := (Array.getElem?_eq_some_iff.1 hb).1
       cases hm with
       | map _ hid =>
        have hg := run_getObj_map (P := P) w (G.loc id) E clock hb
        have hset : ∀ o, (setObj (G.loc id) o).run P w = .ok () { w with heap := w.heap.setIfInBounds (G.loc id) o } := fun o => by simp [setObj, Sem.run, hb]
        cases hf : findA kk k es 0 with
        | none => simp [hf] at h
        | some r =>
         simp only [hf, Option.map_some, Option.some.injEq] at h
         rcases findNow_sound hkd hK es E.toList 0 r (by simp [hs]) (fun j k v hj => by
           obtain ⟨e, he, h⟩ := hv j k v hj; exact ⟨e, by simpa using he, h⟩) hf with ⟨rfl, hn⟩ | ⟨j, u, U, rfl, hn, hu, hj, k0, e0, g1, g2, g3, g4⟩
         · subst h
           refine ⟨_, ?_, hrel.write hl hz' (turned_setObj w _ (.map (E.push { key := K, val := V, born := clock }) (clock + 1))) _ rfl fun hgle => ?_⟩
           · simp [Instr.mapUpdate, run_underlying ht, run_underlying hd, checkKey_plain hk, Instr.findKey, hn, hg, hset]
           · refine ⟨E.push { key := K, val := V, born := clock }, clock + 1, by simp [hblt], by simp [hs], hz', fun i k' v' hi => ?_⟩
             by_cases hi' : i < es.length
             · rw [List.getElem?_append_left hi'] at hi
               obtain ⟨e, he, q1, q2⟩ := hv i k' v' hi
               refine ⟨e, ?_, q1.mono hgle, q2.mono hgle⟩
               rw [Array.getElem?_push, if_neg (by omega)]; exact he
             · rw [List.getElem?_append_right (by omega)] at hi
               have hi0 : i = es.length := by
                have := (List.getElem?_eq_some_iff.1 hi).1
                simp at this; omega
               subst hi0
               simp at hi
               obtain ⟨rfl, rfl⟩ := hi
               exact ⟨{ key := K, val := V, born := clock }, by rw [← hs]; simp, hK.mono hgle, hV.mono hgle⟩
         · simp only [Nat.zero_add] at h hn
           subst h
           have g2' : E[j]? = some e0 := by simpa using g2
           refine ⟨_, ?_, hrel.write hl hz' (turned_setObj w _ (.map (E.modify j fun e => { e with key := K, val := V }) clock)) _ rfl fun hgle => ?_⟩
           · have hkey : (Instr.keyThatStays e0.key K).run P w = .ok K w := by
               simp [Instr.keyThatStays, sameBits_key g3 hK g4]
             simp [Instr.mapUpdate, run_underlying ht, run_underlying hd, checkKey_plain hk, Instr.findKey, hn, hg, g2', hkey, hset]
           · refine ⟨E.modify j fun e => { e with key := K, val := V }, clock, by simp [hblt], by simp [hs], hz', fun i k' v' hi => ?_⟩
             rw [List.getElem?_set] at hi
             by_cases hij : j = i
             · subst hij
               simp only [if_true, hj] at hi
               cases hi
               refine ⟨{ e0 with key := K, val := V }, ?_, hK.mono hgle, hV.mono hgle⟩
               rw [Array.getElem?_modify, if_pos rfl, g2']; rfl
             · rw [if_neg hij] at hi
               obtain ⟨e, he, q1, q2⟩ := hv i k' v' hi
               refine ⟨e, ?_, q1.mono hgle, q2.mono hgle⟩
               rw [Array.getElem?_modify, if_neg hij]; exact he
     · cases h
   · cases h
 · cases h
theorem adelete_sound {t kt et t' ty : TypeId} {kk : FK} {m k : AV} {M K : Value} {H' : AH} (hrel : Rel F w G H) (ht : P.underlying t = some (.map kt et)) (hk : keyKind P kt kk = true)
  (h : adelete H kk m k = some H') (hm : VR F w G m M) (hK : VR F w G k K) : ∃ w', (Builtin.delete_ #[t, t'] ty #[M, K]).run P w = .ok (.tuple #[]) w' ∧ Rel F w' G H' ∧ Step w G H w' G H' := by
 obtain ⟨d, hd, hkd⟩ := keyKind_inv hk
 unfold adelete at h
 split at h
 · rename_i id
   split at h
   · rename_i es ho
     split at h
     · have hobj := hrel.obj id
       rw [ho] at hobj
       obtain ⟨E, clock, hb, hs, hz', hv⟩ := hobj
       have hl : (H.o id).live = true := by rw [ho]; rfl
       have hblt : G.loc id < w.heap.size := (Array.getElem?_eq_some_iff.1 hb).1
       cases hm with
       | map _ hid =>
        have hg := run_getObj_map (P := P) w (G.loc id) E clock hb
        have hset : ∀ o, (setObj (G.loc id) o).run P w = .ok () { w with heap := w.heap.setIfInBounds (G.loc id) o } := fun o => by simp [setObj, Sem.run, hb]
        cases hf : findA kk k es 0 with
        | none => simp [hf] at h
        | some r =>
         simp only [hf, Option.map_some, Option.some.injEq] at h
         rcases findNow_sound hkd hK es E.toList 0 r (by simp [hs]) (fun j k v hj => by
           obtain ⟨e, he, h⟩ := hv j k v hj; exact ⟨e, by simpa using he, h⟩) hf with ⟨rfl, hn⟩ | ⟨j, u, U, rfl, hn, hu, hj, k0, e0, g1, g2, g3, g4⟩
         · subst h
           have hw := hrel.write hl hz' (turned_setObj w _ (.map E clock)) (.map es) rfl fun hgle => ⟨E, clock, by simp [hblt], hs, hz', fun i k' v' hi => by
             obtain ⟨e, he, q1, q2⟩ := hv i k' v' hi; exact ⟨e, he, q1.mono hgle, q2.mono hgle⟩⟩
           rw [AH.set_same ho] at hw
           refine ⟨_, ?_, hw⟩
           simp [Builtin.delete_, run_underlying ht, run_underlying hd, checkKey_plain hk, Instr.findKey, hn, hg, hset]
         · simp only [Nat.zero_add] at h hn
           subst h
           have hjE : j < E.size := by rw [hs]; exact hj
           refine ⟨_, ?_, hrel.write hl hz' (turned_setObj w _ (.map (E.eraseIdxIfInBounds j) clock)) _ rfl fun hgle => ?_⟩
           · simp [Builtin.delete_, run_underlying ht, run_underlying hd, checkKey_plain hk, Instr.findKey, hn, hg, hset]
           · have he : (E.eraseIdxIfInBounds j).toList = E.toList.eraseIdx j := by simp [Array.eraseIdxIfInBounds, hjE]
             refine ⟨E.eraseIdxIfInBounds j, clock, by simp [hblt], ?_, hz', fun i k' v' hi => ?_⟩
             · rw [← Array.length_toList, he, List.length_eraseIdx, List.length_eraseIdx]
               simp [hs]
             · have hi2 : ∃ i2 : Nat, es[i2]? = some (k', v') ∧ (E.eraseIdxIfInBounds j)[i]? = E[i2]? := by
                 rw [List.getElem?_eraseIdx] at hi
                 have h2 : (E.eraseIdxIfInBounds j)[i]? = (E.toList.eraseIdx j)[i]? := by rw [← he, Array.getElem?_toList]
                 rw [h2, List.getElem?_eraseIdx]
                 split at hi
                 · rename_i hlt; exact ⟨i, hi, by simp [hlt]⟩
                 · rename_i hlt; exact ⟨i + 1, hi, by simp [hlt]⟩
               obtain ⟨i2, h1, h2⟩ := hi2
               obtain ⟨e, he', q1, q2⟩ := hv i2 k' v' h1
               exact ⟨e, by rw [h2]; exact he', q1.mono hgle, q2.mono hgle⟩
     · cases h
   · cases h
 · cases h
theorem amaplen_sound {t kt et ty : TypeId} {m v : AV} {M : Value} (hrel : Rel F w G H) (ht : P.underlying t = some (.map kt et)) (h : amaplen H m = some v) (hm : VR F w G m M) : ∃ V, (Builtin.len_ #[t] ty #[M]).run P w = .ok V w ∧ VR F w G v V := by
 unfold amaplen at h
 split at h
 · cases h
   obtain rfl : M = .map none := by cases hm; rfl
   exact ⟨goInt 0, by simp [Builtin.len_, run_underlying ht], .int _ _⟩
 · rename_i id
   split at h
   · rename_i es ho
     cases h
     have hobj := hrel.obj id
     rw [ho] at hobj
     obtain ⟨E, clock, hb, hs, hz', hv⟩ := hobj
     cases hm with
     | map _ hid =>
      have hg := run_getObj_map (P := P) w (G.loc id) E clock hb
      refine ⟨goInt E.size, by simp [Builtin.len_, run_underlying ht, hg], ?_⟩
      rw [hs]
      exact .int _ _
   · cases h
 · cases h
end
end Rb

namespace Rb
open Go
structure Ctx where
 P : Program
 F : FTab
 GT : Nat → Option (List AV)
def constOk1 : Value → AV → Bool
 | .bool b, .bool b' => b == b'
 | .int k n, .int k' n' => k == k' && n == n'
 | .string s, .str l => s.data.toList == l
 | .pointer none, .nilp | .map none, .nilmap | .nilFunc, .nilfn | .nilIface, .nilif => true
 | .slice none 0 0, .lst .nil 0 [] => true
 | _, _ => false
def constsOk : List Value → List AV → Bool
 | [], [] => true
 | V :: Vs, c :: cs => constOk1 V c && constsOk Vs cs
 | _, _ => false
theorem builder_cells {z : Value} (h : constsOk z.cells.toList [.nilp, .lst .nil 0 []] = true) : z.cells = #[.pointer none, .slice none 0 0] := by
 generalize hl : z.cells.toList = l at h
 have key : l = [.pointer none, .slice none 0 0] := by
  match l, h with
  | [], h => simp [constsOk] at h
  | [a], h => simp [constsOk] at h
  | a :: b :: c :: r, h => simp [constsOk] at h
  | [a, b], h =>
   simp only [constsOk, Bool.and_eq_true] at h
   obtain ⟨h1, h2, _⟩ := h
   have ea : a = .pointer none := by
    unfold constOk1 at h1
    split at h1 <;> simp_all
   have eb : b = .slice none 0 0 := by
    unfold constOk1 at h2
    split at h2 <;> simp_all
   rw [ea, eb]
 apply Array.ext'
 rw [hl, key]
def constOk (V : Value) (c : AV) : Bool :=
 match V, c with
 | .agg Vs, .agg cs => constsOk Vs.toList cs
 | .tuple Vs, .tup cs => constsOk Vs.toList cs
 | V, c => constOk1 V c
def flatEq : List AV → List AV → Bool
 | [], [] => true
 | .int k a :: r, .int k' b :: t => k == k' && a == b && flatEq r t
 | .bool a :: r, .bool b :: t => a == b && flatEq r t
 | .str a :: r, .str b :: t => a == b && flatEq r t
 | _, _ => false
def chkO0 (C : Ctx) (x : Operand) (y : Opd) : Bool :=
 match x, y with
 | .tmp t, .t t' => t == t'
 | .const v, .k c => constOk v c
 | .global g, .k c => match C.GT g, c with | some l, .fptr l' => flatEq l l' | _, _ => false
 | .func f, .k c => match c with | .fn key [] => (bkey key).isNone && C.F key == some f | _ => false
 | _, _ => false
def isBotO : Opd → Bool
 | .k .bot => true
 | _ => false
def chkO (C : Ctx) (x : Operand) (y : Opd) : Bool := isBotO y || chkO0 C x y
def chkOo (C : Ctx) (x : Option Operand) (y : Option Opd) : Bool :=
 match x, y with
 | none, none => true
 | some x, some y => chkO C x y
 | _, _ => false
def chkOs (C : Ctx) : List Operand → List Opd → Bool
 | [], [] => true
 | x :: xs, y :: ys => chkO C x y && chkOs C xs ys
 | _, _ => false
def fieldOf (P : Program) (t : TypeId) (n : Nat) : Option Field :=
 match P.underlying t with
 | some (.struct fs) => fs[n]?
 | _ => none
def elemOfSlice (P : Program) (t : TypeId) : Option TypeId :=
 match P.underlying t with
 | some (.slice e) => some e
 | _ => none
def elemOfArray (P : Program) (t : TypeId) : Option (Nat × TypeId) :=
 match P.underlying t with
 | some (.array n e) => some (n, e)
 | _ => none
def sizeIs (P : Program) (t : TypeId) (sz : Nat) : Bool :=
 match P.info? t with
 | some i => i.size == sz
 | none => false
def zeroIs (P : Program) (t : TypeId) (sz bytes : Nat) (zero : List AV) : Bool :=
 match P.info? t with
 | some i => i.size == sz && i.bytes == bytes && (match i.zero with | some z => z.cells.size == sz && constsOk z.cells.toList zero | none => false)
 | none => false
def chkParts (C : Ctx) (place : Nat → Option (Nat × Nat)) : List (Nat × Operand) → List (Nat × Nat × Opd) → Bool
 | [], [] => true
 | (i, x) :: r, (off, sz, y) :: t => place i == some (off, sz) && chkO C x y && chkParts C place r t
 | _, _ => false
def placeOf (P : Program) (t : TypeId) (i : Nat) : Option (Nat × Nat) :=
 match P.underlying t with
 | some (.struct fs) => match fs[i]? with | some f => (P.info? f.type).map fun inf => (f.offset, inf.size) | none => none
 | some (.array _ e) => (P.info? e).map fun inf => (i * inf.size, inf.size)
 | _ => none
def fieldsKnown (P : Program) (t : TypeId) : Bool :=
 match P.underlying t with
 | some (.struct fs) => fs.all fun f => (P.info? f.type).isSome
 | some (.array _ e) => (P.info? e).isSome
 | _ => false
def goodFn (P : Program) (f : FuncId) : Bool :=
 match P.funcs[f]? with
 | some fn => !(fn.name == "runtime.NumGoroutine") && fn.body.isSome
 | none => false
def deepFs (rec : TypeId → Option (List FK)) : List Field → Nat → Option (List FK)
 | [], _ => some []
 | f :: r, k => if f.offset = k ∧ f.name ≠ "_" then (match rec f.type with | some l => (deepFs rec r (k + l.length)).map (l ++ ·) | none => none) else none
def deepK (P : Program) : Nat → TypeId → Option (List FK)
 | 0, _ => none
 | d + 1, t => match P.underlying t, P.info? t with
  | some (.int _), _ => some [.n]
  | some .bool, _ => some [.b]
  | some .string, _ => some [.t]
  | some (.struct fs), some i => if P.stoodInHeld t = true then none else (match deepFs (deepK P d) fs.toList 0 with | some l => if i.size = l.length then some l else none | none => none)
  | some (.array n e), some i => (match deepK P d e, P.info? e with | some l, some j => if i.size = (List.replicate n l).flatten.length ∧ j.size = l.length then some (List.replicate n l).flatten else none | _, _ => none)
  | _, _ => none
def noIface : TypeDesc → Bool
 | .interface _ => false
 | _ => true
def chkExt (C : Ctx) (o : Op) (e : Ext) (xs : List Opd) : Bool :=
 match e with
 | .stuck => true
 | .bnew T => match o, xs with
  | .alloc t, [] => t == T && (match C.P.info? t with | some inf => (match inf.zero with | some z => constsOk z.cells.toList [.nilp, .lst .nil 0 []] | none => false) | none => false)
  | .box t x', [x] => t == T && chkO C x' x
  | _, _ => false
 | .tassert t => match o, xs with
  | .typeAssert x' _ t' ok, [x] => t == t' && !ok && (match C.P.underlying t with | some d => noIface d | none => false) && chkO C x' x
  | _, _ => false
 | .ptreq neg => match o, xs with
  | .binOp op t x' y' _, [x, y] => op == (if neg then .neq else .eql) && (match C.P.underlying t with | some (.pointer e) => (match C.P.info? e with | some j => j.size != 0 | none => false) | _ => false) && chkO C x' x && chkO C y' y
  | _, _ => false
 | .grow sz bytes zero => match o, xs with
  | .call { callee := .builtin .append, args, argTypes }, [x, y] => (match args.toList, argTypes.toList with
    | [x', y'], [t, it] => chkO C x' x && chkO C y' y && (match C.P.underlying it with | some (.int _) => true | _ => false) && (match elemOfSlice C.P t with | some e => (match C.P.info? e with | some inf => inf.size == sz && inf.bytes == bytes && (match inf.zero with | some z => constsOk z.cells.toList zero | none => false) | none => false) | none => false)
    | _, _ => false)
  | _, _ => false
 | .clear sz zero => match o, xs with
  | .call { callee := .builtin .clear, args, argTypes }, [x] => (match args.toList, argTypes.toList with
    | [x'], [t] => chkO C x' x && (match elemOfSlice C.P t with | some e => (match C.P.info? e with | some inf => (match inf.zero with | some z => z.cells.size == sz && constsOk z.cells.toList zero | none => false) | none => false) | none => false)
    | _, _ => false)
  | _, _ => false
def chkInv1 (C : Ctx) (name : String) (t : TypeId) (key : Nat) (m : Option (Nat × Bool)) : Bool :=
 match C.P.info? t with
 | some i => (match i.methods.find? (·.name == name) with
   | some mt => mt.path.toList.isEmpty && (match mt.func, m, C.P.underlying t with
     | some (f, true), none, some (.pointer _) => C.F key == some f && goodFn C.P f
     | some (f, false), some (n, agg), some (.pointer e) => C.F key == some f && goodFn C.P f && tyOk C.P e n agg
     | _, _, _ => false)
   | none => false)
 | none => false
def chkInv (C : Ctx) (name : String) : List (TypeId × Nat × Option (Nat × Bool)) → Bool
 | [] => true
 | (t, key, m) :: r => chkInv1 C name t key m && chkInv C name r
def chkOp (C : Ctx) (o : Op) (a : AOp) : Bool :=
 match a with
 | .mv x => match o with | .move y | .assign y => chkO C y x | _ => false
 | .pick c x y => match o with | .pick c' x' y' => chkO C c' c && chkO C x' x && chkO C y' y | _ => false
 | .bin op x y => match o with | .binOp op' _ x' y' _ => op == op' && chkO C x' x && chkO C y' y | _ => false
 | .beq neg x y => match o with
  | .binOp op t x' y' _ => op == (if neg then .neq else .eql) && (match C.P.underlying t with | some .bool => true | _ => false) && chkO C x' x && chkO C y' y
  | _ => false
 | .isnil k neg x => match o with
  | .binOp op t x' y' _ => op == (if neg then .neq else .eql) && (match C.P.underlying t with | some d => nilKind d == some k | none => false) && chkO C x' x &&
    (match y' with | .const v => (match k, v with | .p, .pointer none | .s, .slice none 0 0 | .m, .map none | .f, .nilFunc | .i, .nilIface => true | _, _ => false) | _ => false)
  | _ => false
 | .eqagg neg ks x y => match o with
  | .binOp op t x' y' _ => op == (if neg then .neq else .eql) && (match C.P.underlying t with | some d => rowish d | none => false) && deepK C.P 9 t == some ks && !C.P.eqGuardType C.P.depth t && chkO C x' x && chkO C y' y
  | _ => false
 | .un op x => match o with | .unOp op' _ x' => op == op' && chkO C x' x | _ => false
 | .conv k x => match o with
  | .convert s d x' => (match C.P.underlying s, C.P.underlying d with | some _, some (.int k') => k == k' | _, _ => false) && chkO C x' x
  | _ => false
 | .same x => match o with
  | .convert s d x' => (match C.P.underlying s, C.P.underlying d with | some .string, some .string => true | _, _ => false) && chkO C x' x
  | _ => false
 | .nilck x => match o with | .nilCheck x' => chkO C x' x | _ => false
 | .field off sz agg x => match o with
  | .field t x' n => (match fieldOf C.P t n with | some f => f.offset == off && tyOk C.P f.type sz agg | none => false) && chkO C x' x
  | _ => false
 | .idx len sz agg x i => match o with
  | .index t x' i' => (match elemOfArray C.P t with | some (n, e) => n == len && tyOk C.P e sz agg | none => false) && chkO C x' x && chkO C i' i
  | _ => false
 | .idxs x i => match o with
  | .index t x' i' => (match C.P.underlying t with | some .string => true | _ => false) && chkO C x' x && chkO C i' i
  | _ => false
 | .faddr off x => match o with
  | .fieldAddr t x' n => (match fieldOf C.P t n with | some f => f.offset == off && (match C.P.info? f.type with | some fi => fi.size != 0 | none => false) | none => false) && chkO C x' x
  | _ => false
 | .iaddr arr sz x i => match o with
  | .indexAddr t x' i' => (match arr with
      | none => (match elemOfSlice C.P t with | some e => sizeIs C.P e sz | none => false)
      | some n => (match elemOfArray C.P t with | some (n', e) => n == n' && sizeIs C.P e sz | none => false)) && chkO C x' x && chkO C i' i
  | _ => false
 | .slice sz x lo hi mx => match o with
  | .slice t x' lo' hi' mx' => (match elemOfSlice C.P t with | some e => sizeIs C.P e sz | none => false) && chkO C x' x && chkOo C lo' lo && chkOo C hi' hi && chkOo C mx' mx && (mx.isNone || hi.isSome)
  | _ => false
 | .sslice x lo hi => match o with
  | .slice t x' lo' hi' mx' => (match C.P.underlying t with | some .string => true | _ => false) && chkO C x' x && chkOo C lo' lo && chkOo C hi' hi && mx'.isNone
  | _ => false
 | .mkif t x => match o with
  | .makeInterface t' x' => t == t' && (match C.P.underlying t with | some (.interface _) => false | some _ => true | none => false) && chkO C x' x
  | _ => false
 | .mkfn key caps => match o with
  | .makeFunc (.func f) first caps' => match bkey key with
   | none => C.F key == some f && first.size == 0 && chkOs C caps'.toList caps
   | some k => C.F k == some f && caps'.size == 0 && chkOs C first.toList caps
  | _ => false
 | .extract i x => match o with | .extract x' i' => i == i' && chkO C x' x | _ => false
 | .build zero parts => match o with
  | .build t ps => (match C.P.info? t with | some inf => (match inf.zero with | some z => constsOk z.cells.toList zero | none => false) | none => false) && fieldsKnown C.P t && chkParts C (placeOf C.P t) ps.toList parts
  | _ => false
 | .len str x => match o with
  | .call { callee := .builtin .len, args, argTypes } => (match args.toList, argTypes.toList with
      | [x'], [t] => chkO C x' x && (match C.P.underlying t with | some .string => str | some (.slice _) => !str | _ => false)
      | _, _ => false)
  | _ => false
 | .cap x => match o with
  | .call { callee := .builtin .cap, args, argTypes } => (match args.toList, argTypes.toList with
      | [x'], [t] => chkO C x' x && (match C.P.underlying t with | some (.slice _) => true | _ => false)
      | _, _ => false)
  | _ => false
 | .lenk n => match o with
  | .call { callee := .builtin .len, args, argTypes } => (match args.toList, argTypes.toList with
      | [_], [t] => (match C.P.underlying t with | some (.array n' _) => n == n' | _ => false)
      | _, _ => false)
  | _ => false
 | .minmax mx xs => match o with
  | .call { callee := .builtin b, args, .. } => (match b with | .max => mx | .min => !mx | _ => false) && chkOs C args.toList xs
  | _ => false
 | .load n agg x => match o with | .load t x' => tyOk C.P t n agg && chkO C x' x | _ => false
 | .store n x v => match o with | .store t x' v' => (tyOk C.P t n true || tyOk C.P t n false) && chkO C x' x && chkO C v' v | _ => false
 | .box _ _ x => match o with | .box _ x' => chkO C x' x | _ => false
 | .alloc _ zero => match o with
  | .alloc t => (match C.P.info? t with | some inf => (match inf.zero with | some z => constsOk z.cells.toList zero | none => false) | none => false)
  | _ => false
 | .bslice _ sz len zero parts => match o with
  | .buildSlice t len' ps => (match elemOfSlice C.P t with
      | some e => (match C.P.info? e with | some inf => zeroIs C.P e sz inf.bytes zero | none => false) && zero.length == sz && len == len' && decide (len * sz ≤ 16777216) && chkParts C (fun i => some (i * sz, sz)) ps.toList parts
      | none => false)
  | _ => false
 | .append _ sz bytes x y => match o with
  | .call { callee := .builtin .append, args, argTypes } => (match args.toList, argTypes.toList with
      | [x', y'], [t, t'] => t == t' && chkO C x' x && chkO C y' y && (match elemOfSlice C.P t with
          | some e => (match C.P.info? e with | some inf => inf.size == sz && inf.bytes == bytes && (match inf.zero with | some z => z.cells.size == sz | none => false) && decide (0 < sz) | none => false)
          | none => false)
      | _, _ => false)
  | _ => false
 | .make _ sz bytes zero len cap => match o with
  | .makeSlice t l c => chkO C l len && chkO C c cap && (match elemOfSlice C.P t with | some e => zeroIs C.P e sz bytes zero | none => false)
  | _ => false
 | .call key args => match o with
  | .call { callee := .value (.func f), args := args', .. } => C.F key == some f && goodFn C.P f && chkOs C args'.toList args
  | _ => false
 | .callv f args => match o with
  | .call { callee := .value f', args := args', .. } => chkO C f' f && chkOs C args'.toList args
  | _ => false
 | .sbytes x => match o with
  | .convert s d x' => (match C.P.underlying s, C.P.underlying d with | some .string, some (.slice e) => (match C.P.underlying e with | some (.int .u8) => true | _ => false) | _, _ => false) && chkO C x' x
  | _ => false
 | .bstr x => match o with
  | .convert s d x' => (match C.P.underlying s, C.P.underlying d with | some (.slice e), some .string => (match C.P.underlying e with | some (.int .u8) => true | _ => false) | _, _ => false) && chkO C x' x
  | _ => false
 | .srange x => match o with | .range t x' => (match C.P.underlying t with | some .string => true | _ => false) && chkO C x' x | _ => false
 | .snext x => match o with | .next x' true => chkO C x' x | _ => false
 | .mkmap => match o with | .makeMap _ r => r.isNone | _ => false
 | .lookup kk zero ok m k => match o with
  | .lookup t m' k' ok' => ok == ok' && (match C.P.underlying t with | some (.map kt et) => keyKind C.P kt kk && (match C.P.info? et with | some inf => (match inf.zero with | some z => constOk z zero | none => false) | none => false) | _ => false) && chkO C m' m && chkO C k' k
  | _ => false
 | .mapup kk m k v => match o with
  | .mapUpdate t m' k' v' | .insert t m' k' v' => (match C.P.underlying t with | some (.map kt _) => keyKind C.P kt kk | _ => false) && chkO C m' m && chkO C k' k && chkO C v' v
  | _ => false
 | .delete kk m k => match o with
  | .call { callee := .builtin .delete, args, argTypes } => (match args.toList, argTypes.toList with
      | [m', k'], [t, _] => chkO C m' m && chkO C k' k && (match C.P.underlying t with | some (.map kt _) => keyKind C.P kt kk | _ => false)
      | _, _ => false)
  | _ => false
 | .maplen m => match o with
  | .call { callee := .builtin .len, args, argTypes } => (match args.toList, argTypes.toList with
      | [m'], [t] => chkO C m' m && (match C.P.underlying t with | some (.map _ _) => true | _ => false)
      | _, _ => false)
  | _ => false
 | .ext e xs => chkExt C o e xs
 | .inv tbl x args => match o with
  | .call { callee := .invoke x' name, args := args', .. } => chkO C x' x && chkOs C args'.toList args && chkInv C name tbl
  | _ => false
 | .copy sz x y => match o with
  | .call { callee := .builtin .copy, args, argTypes } => (match args.toList, argTypes.toList with
      | [x', y'], [t, _] => chkO C x' x && chkO C y' y && (match elemOfSlice C.P t with | some e => sizeIs C.P e sz | none => false)
      | _, _ => false)
  | _ => false
def GOK (C : Ctx) (w : World) (G : Ghost) : Prop := ∀ g l, C.GT g = some l → VR C.F w G (.fptr l) (.pointer (some ⟨g, 0, none⟩))
theorem GOK.mono {C : Ctx} {w w' : World} {G G' : Ghost} (hg : GLe w G w' G') (h : GOK C w G) : GOK C w' G' := fun g l hl => (h g l hl).mono hg
def GOX (C : Ctx) (w : World) (G : Ghost) (H : AH) : Prop := GOK C w G ∧ ∀ g l, C.GT g = some l → l ≠ [] → (∃ cs t fr, w.heap[g]? = some (.cells cs t fr) ∧ cs.size = l.length) ∧ ∀ i, (H.o i).live = true → G.loc i ≠ g
theorem GOX.step {C : Ctx} {w w' : World} {G G' : Ghost} {H H' : AH} (h : GOX C w G H) (hst : Step w G H w' G' H') : GOX C w' G' H' := by
 refine ⟨h.1.mono hst.toGLe, fun g l hl hne => ?_⟩
 obtain ⟨⟨cs, t, fr, hh, hs⟩, hno⟩ := h.2 g l hl hne
 have hlt : g < w.heap.size := (Array.getElem?_eq_some_iff.1 hh).1
 refine ⟨⟨cs, t, fr, (hst.old g hlt hno).trans hh, hs⟩, fun i hi e => ?_⟩
 obtain ⟨j, hj, ej⟩ := hst.owned i hi (by rw [e]; exact hlt)
 exact hno j hj (ej.trans e)
theorem GOX.adopt {C : Ctx} {w : World} {G : Ghost} {H : AH} {x : AObj} (h : GOX C w G H) {b c : Nat} (hgle : GLe w G w (G.more b c)) (hn : G.n = H.n) (hnf : ∀ j, ¬ G.fz b j) : GOX C w (G.more b c) (H.push x) := by
 refine ⟨h.1.mono hgle, fun g l hl hne => ⟨(h.2 g l hl hne).1, fun i hi e => ?_⟩⟩
 by_cases hin : i = H.n
 · have hb : (G.more b c).loc i = b := if_pos (hin.trans hn.symm)
   have hv := h.1 g l hl
   generalize hX : (Value.pointer (some ⟨g, 0, none⟩)) = X at hv
   generalize hY : AV.fptr l = Y at hv
   cases hv with
   | fptr cells b' o Vs hc hv =>
    cases hX
    cases hY
    cases hcs : l with
    | nil => exact hne hcs
    | cons c0 r =>
     refine hnf 0 ?_
     rw [← hb, e]
     simpa using (hc 0 c0 (by rw [hcs]; rfl)).1
   | bot => cases hY
   | _ => cases hY
 · have h1 : (H.push x).o i = H.o i := if_neg hin
   have h2 : (G.more b c).loc i = G.loc i := if_neg (fun e' => hin (e'.trans hn))
   rw [h1] at hi
   rw [h2] at e
   exact (h.2 g l hl hne).2 i hi e
theorem GOX.mt {C : Ctx} {w : World} {G G' : Ghost} {H H' : AH} (h : GOX C w G H) (h' : GOK C w G') (hH : ∀ i, (H'.o i).live = true → False) : GOX C w G' H' :=
 ⟨h', fun g l hl hne => ⟨(h.2 g l hl hne).1, fun i hi => (hH i hi).elim⟩⟩
def ACall (C : Ctx) : Calls' := fun key args H Q =>
 (∃ v H', Q v H') ∧ ∀ f, C.F key = some f → ∀ (G : Ghost) (w : World) (Vs : Array Value), GOX C w G H → Rel C.F w G H → VRs C.F w G args Vs →
  Calls C.P f Vs w fun e w' => ∃ V v H' G', e = .returned V ∧ Q v H' ∧ VR C.F w' G' v V ∧ Rel C.F w' G' H' ∧ Step w G H w' G' H'
theorem ACall_nv (C : Ctx) : NonVac (ACall C) := fun _ _ _ _ h => h.1
section
variable {C : Ctx} {w : World} {G : Ghost} {H : AH} {env : Env} {a : Act}
theorem constOk1_sound {V : Value} {c : AV} (h : constOk1 V c = true) : VR C.F w G c V := by
 unfold constOk1 at h
 split at h
 · simp at h; subst h; exact .bool _
 · simp at h; obtain ⟨rfl, rfl⟩ := h; exact .int _ _
 · rename_i s l
   simp at h
   subst h
   have : s = ⟨s.data.toList.toArray⟩ := (Lib.mk_data s).symm
   rw [this]
   simpa using VR.str (F := C.F) (w := w) (G := G) s.data.toList
 · exact .nilp
 · exact .nilmap
 · exact .nilfn
 · exact .nilif
 · exact .lstnil
 · cases h
theorem constsOk_sound : ∀ {Vs : List Value} {cs : List AV}, constsOk Vs cs = true → VRs C.F w G cs Vs.toArray := by
 intro Vs
 induction Vs with
 | nil => intro cs h; cases cs <;> simp [constsOk] at h; exact VRs.nil
 | cons V Vs ih =>
  intro cs h
  cases cs with
  | nil => simp [constsOk] at h
  | cons c cs =>
   simp [constsOk] at h
   have h2 := ih h.2
   refine VRs.of_list (by have := h2.1; simp at this ⊢; exact this) fun j d U hd hU => ?_
   cases j with
   | zero => simp at hd hU; subst hd; subst hU; exact constOk1_sound h.1
   | succ j => exact h2.2 j d U (by simpa using hd) (by simpa using hU)
theorem constOk_sound {V : Value} {c : AV} (h : constOk V c = true) : VR C.F w G c V := by
 unfold constOk at h
 split at h
 · rename_i Vs cs
   have := (constsOk_sound (C := C) (w := w) (G := G) h).agg
   simpa using this
 · rename_i Vs cs
   have := (constsOk_sound (C := C) (w := w) (G := G) h).tup
   simpa using this
 · exact constOk1_sound h
theorem flatEq_sound : ∀ {l l' : List AV}, flatEq l l' = true → l = l' := by
 intro l
 induction l with
 | nil => intro l' h; cases l' <;> simp [flatEq] at h; rfl
 | cons c l ih =>
  intro l' h
  cases l' with
  | nil => cases c <;> simp [flatEq] at h
  | cons d l' =>
   cases c <;> cases d <;> simp [flatEq] at h
   · rw [h.1, ih h.2]
   · rw [h.1.1, h.1.2, ih h.2]
   · rw [h.1, ih h.2]
theorem env_get {t : Nat} (he : VRs C.F w G env a.tmps) : VR C.F w G (env.getD t .bot) (a.tmps.getD t undef) := by
 rw [List.getD_eq_getElem?_getD, Array.getD_eq_getD_getElem?]
 cases hc : env[t]? with
 | none => exact .bot _
 | some c =>
  obtain ⟨V, hV, hr⟩ := he.get hc
  rw [hV]
  exact hr
theorem chkO_sound {x : Operand} {y : Opd} (hG : GOK C w G) (he : VRs C.F w G env a.tmps) (h : chkO C x y = true) : VR C.F w G (y.ev env) (a.eval x) := by
 unfold chkO at h
 rw [Bool.or_eq_true] at h
 rcases h with h | h
 · unfold isBotO at h
   split at h
   · exact .bot _
   · cases h
 unfold chkO0 at h
 split at h
 · simp at h; subst h; exact env_get he
 · exact constOk_sound h
 · split at h
   · rename_i l l' hl
     rw [← flatEq_sound h]
     exact hG _ _ hl
   · cases h
 · split at h
   · rename_i key
     simp only [Bool.and_eq_true, Option.isNone_iff_eq_none, beq_iff_eq] at h
     exact .fn key [] _ #[] h.1 h.2 rfl (fun j c V hc _ => by simp at hc)
   · cases h
 · cases h
theorem chkOo_sound {x : Option Operand} {y : Option Opd} (hG : GOK C w G) (he : VRs C.F w G env a.tmps) (h : chkOo C x y = true) : VRo C.F w G (y.map (Opd.ev env)) (x.map a.eval) := by
 unfold chkOo at h
 split at h
 · trivial
 · exact chkO_sound hG he h
 · cases h
theorem chkOs_sound (hG : GOK C w G) (he : VRs C.F w G env a.tmps) : ∀ {xs : List Operand} {ys : List Opd}, chkOs C xs ys = true → VRs C.F w G (evs env ys) (xs.map a.eval).toArray := by
 intro xs
 induction xs with
 | nil => intro ys h; cases ys <;> simp [chkOs] at h; exact VRs.nil
 | cons x xs ih =>
  intro ys h
  cases ys with
  | nil => simp [chkOs] at h
  | cons y ys =>
   simp [chkOs] at h
   have h2 := ih h.2
   refine VRs.of_list (by have := h2.1; simp [evs] at this ⊢; exact this) fun j d U hd hU => ?_
   cases j with
   | zero => simp [evs] at hd hU; subst hd; subst hU; exact chkO_sound hG he h.1
   | succ j => exact h2.2 j d U (by simpa [evs] using hd) (by simpa using hU)
theorem chkParts_sound (hG : GOK C w G) (he : VRs C.F w G env a.tmps) {place : Nat → Option (Nat × Nat)} : ∀ {xs : List (Nat × Operand)} {ys : List (Nat × Nat × Opd)}, chkParts C place xs ys = true →
  (evps env ys).length = (xs.map fun p => (p.1, a.eval p.2)).length ∧
  ∀ (j : Nat) (q : Nat × Nat × AV) (p : Nat × Value), (evps env ys)[j]? = some q → (xs.map fun p => (p.1, a.eval p.2))[j]? = some p → place p.1 = some (q.1, q.2.1) ∧ VR C.F w G q.2.2 p.2 := by
 intro xs
 induction xs with
 | nil => intro ys h; cases ys <;> simp [chkParts] at h; exact ⟨rfl, fun j q p hq => by simp [evps] at hq⟩
 | cons x xs ih =>
  intro ys h
  obtain ⟨i, x⟩ := x
  cases ys with
  | nil => simp [chkParts] at h
  | cons y ys =>
   obtain ⟨off, sz, y⟩ := y
   simp [chkParts] at h
   obtain ⟨h1, h2⟩ := ih h.2
   refine ⟨by simp [evps] at h1 ⊢; exact h1, fun j q p hq hp => ?_⟩
   cases j with
   | zero => simp [evps] at hq hp; subst hq; subst hp; exact ⟨h.1.1, chkO_sound hG he h.1.2⟩
   | succ j => exact h2 j q p (by simpa [evps] using hq) (by simpa using hp)
end
end Rb

namespace Rb
open Go
def Op.eqElems (m : Nat) (xs ys : Array Value) (e : TypeId) (n : Nat) : List Nat → Sem Bool
 | [] => pure true
 | i :: r => do
  let a ← part e xs (i * n)
  let b ← part e ys (i * n)
  let x ← Op.equalIn m e a b
  if (!x) = true then pure false else Op.eqElems m xs ys e n r
theorem run_equalIn_array {P : Program} (w : World) (m : Nat) (t e : TypeId) (len : Nat) (i : TypeInfo) (xs ys : Array Value) (ht : P.underlying t = some (.array len e)) (hi : P.info? e = some i) :
  (Op.equalIn (m + 1) t (.agg xs) (.agg ys)).run P w = (Op.eqElems m xs ys e i.size (List.range len)).run P w := by
 have hs : (Go.sizeOf e).run P w = .ok i.size w := by simp [Go.sizeOf, typeInfo, hi]
 simp only [Op.equalIn, Sem.run_bind, run_underlying ht, Result.andThen_ok, hs]
 rw [Std.Legacy.Range.forIn_eq_forIn_range']
 have hr : List.range' (Std.Legacy.Range.start [:len]) (Std.Legacy.Range.size [:len]) (Std.Legacy.Range.step [:len]) = List.range len := by
  simp [Std.Legacy.Range.size, List.range_eq_range']
 rw [hr]
 clear hs hr
 generalize List.range len = l
 induction l generalizing w with
 | nil => simp [Op.eqElems]
 | cons j r ih =>
  simp only [List.forIn_cons, Op.eqElems, Sem.run_bind, Sem.run_ite]
  generalize (part e xs (j * i.size)).run P w = r1
  cases r1 with
  | ok a w1 =>
   simp only [Result.andThen_ok]
   generalize (part e ys (j * i.size)).run P w1 = r2
   cases r2 with
   | ok b w2 =>
    simp only [Result.andThen_ok]
    generalize (Op.equalIn m e a b).run P w2 = r3
    cases r3 with
    | ok x w3 =>
     cases x
     · simp only [Result.andThen_ok, Bool.not_false, if_true, Sem.run_pure]
     · simp only [Result.andThen_ok, Bool.not_true, Bool.false_eq_true, if_false, Sem.run_pure]
       exact ih w3
    | halt x w3 => simp [Result.andThen]
   | halt x w2 => simp [Result.andThen]
  | halt x w1 => simp [Result.andThen]
theorem eqCells_app : ∀ (k1 k2 : List FK) (xs ys : List AV) (b : Bool), eqCells (k1 ++ k2) xs ys = some b →
  ∃ x1 x2 y1 y2 b1 b2, xs = x1 ++ x2 ∧ ys = y1 ++ y2 ∧ x1.length = k1.length ∧ y1.length = k1.length ∧ eqCells k1 x1 y1 = some b1 ∧ eqCells k2 x2 y2 = some b2 ∧ b = (b1 && b2) := by
 intro k1
 induction k1 with
 | nil => intro k2 xs ys b h; exact ⟨[], xs, [], ys, true, b, rfl, rfl, rfl, rfl, rfl, h, by simp⟩
 | cons k k1 ih =>
  intro k2 xs ys b h
  have step : ∀ (x y : AV) (r t : List AV) (b' q : Bool), eqCells (k1 ++ k2) r t = some b' → (∀ (z : Bool) , eqCells k1 (r.take k1.length) (t.take k1.length) = some z → eqCells (k :: k1) (x :: r.take k1.length) (y :: t.take k1.length) = some (q && z)) → b = (q && b') →
    ∃ x1 x2 y1 y2 b1 b2, x :: r = x1 ++ x2 ∧ y :: t = y1 ++ y2 ∧ x1.length = (k :: k1).length ∧ y1.length = (k :: k1).length ∧ eqCells (k :: k1) x1 y1 = some b1 ∧ eqCells k2 x2 y2 = some b2 ∧ b = (b1 && b2) := by
   intro x y r t b' q hb' hq hb
   obtain ⟨x1, x2, y1, y2, b1, b2, rfl, rfl, hx, hy, h1, h2, h3⟩ := ih k2 r t b' hb'
   rw [← hx, List.take_left, hx, ← hy, List.take_left] at hq
   exact ⟨x :: x1, x2, y :: y1, y2, q && b1, b2, rfl, rfl, by simp [hx], by simp [hy], hq _ h1, h2, by rw [hb, h3, Bool.and_assoc]⟩
  cases k <;> cases xs <;> (try (simp [eqCells] at h; done)) <;> cases ys <;> (try (simp [eqCells] at h; done)) <;> rename_i x r y t <;> cases x <;> (try (simp [eqCells] at h; done)) <;> cases y <;> (try (simp [eqCells] at h; done))
  · simp only [List.cons_append, eqCells] at h
    split at h
    · rename_i hk
      subst hk
      cases hb : eqCells (k1 ++ k2) r t with
      | none => simp [hb] at h
      | some b' =>
       simp [hb] at h
       exact step _ _ r t b' _ hb (fun z hz => by simp only [eqCells, if_true, hz, Option.map_some]) h.symm
    · cases h
  · simp only [List.cons_append, eqCells] at h
    cases hb : eqCells (k1 ++ k2) r t with
    | none => simp [hb] at h
    | some b' =>
     simp [hb] at h
     exact step _ _ r t b' _ hb (fun z hz => by simp only [eqCells, hz, Option.map_some]) h.symm
  · simp only [List.cons_append, eqCells] at h
    cases hb : eqCells (k1 ++ k2) r t with
    | none => simp [hb] at h
    | some b' =>
     simp [hb] at h
     exact step _ _ r t b' _ hb (fun z hz => by simp only [eqCells, hz, Option.map_some]) h.symm
theorem eqCells_len : ∀ (ks : List FK) (xs ys : List AV) (b : Bool), eqCells ks xs ys = some b → xs.length = ks.length ∧ ys.length = ks.length := by
 intro ks xs ys b h
 obtain ⟨x1, x2, y1, y2, b1, b2, rfl, rfl, h1, h2, _, h3, _⟩ := eqCells_app ks [] xs ys b (by simpa using h)
 cases x2 <;> cases y2 <;> simp [eqCells] at h3
 simp [h1, h2]
section
variable {P : Program} {F : FTab} {w : World} {G : Ghost}
def HoldsAt (F : FTab) (w : World) (G : Ghost) (Xs : Array Value) (o : Nat) (xs : List AV) : Prop := ∀ (j : Nat) (c : AV), xs[j]? = some c → ∃ V, Xs[o + j]? = some V ∧ VR F w G c V
theorem HoldsAt.left {Xs : Array Value} {o : Nat} {x y : List AV} (h : HoldsAt F w G Xs o (x ++ y)) : HoldsAt F w G Xs o x := fun j c hj => h j c (by
  rw [List.getElem?_append_left (List.getElem?_eq_some_iff.1 hj).1]; exact hj)
theorem HoldsAt.right {Xs : Array Value} {o : Nat} {x y : List AV} (h : HoldsAt F w G Xs o (x ++ y)) : HoldsAt F w G Xs (o + x.length) y := fun j c hj => by
 have := h (x.length + j) c (by rw [List.getElem?_append_right (by omega)]; simpa using hj)
 rwa [← Nat.add_assoc] at this
theorem HoldsAt.cut {Xs : Array Value} {o n : Nat} {x : List AV} (h : HoldsAt F w G Xs o x) (hn : n = x.length) : HoldsAt F w G (Xs.extract o (o + n)) 0 x := fun j c hj => by
 obtain ⟨V, hV, hv⟩ := h j c hj
 have hjl := (List.getElem?_eq_some_iff.1 hj).1
 have hlt := (Array.getElem?_eq_some_iff.1 hV).1
 refine ⟨V, ?_, hv⟩
 rw [Nat.zero_add, Array.getElem?_extract, if_pos (by omega)]
 exact hV
def PartEq (P : Program) (F : FTab) (w : World) (G : Ghost) (m : Nat) (t : TypeId) (ks : List FK) : Prop :=
 ∀ (Xs Ys : Array Value) (ox oy : Nat) (xs ys : List AV) (b : Bool), eqCells ks xs ys = some b → HoldsAt F w G Xs ox xs → HoldsAt F w G Ys oy ys →
  ∃ a c, (part t Xs ox).run P w = .ok a w ∧ (part t Ys oy).run P w = .ok c w ∧ (Op.equalIn m t a c).run P w = .ok b w
def AggEq (P : Program) (F : FTab) (w : World) (G : Ghost) (m : Nat) (t : TypeId) (ks : List FK) : Prop :=
 ∀ (Xs Ys : Array Value) (xs ys : List AV) (b : Bool), eqCells ks xs ys = some b → HoldsAt F w G Xs 0 xs → HoldsAt F w G Ys 0 ys → (Op.equalIn m t (.agg Xs) (.agg Ys)).run P w = .ok b w
theorem deep_fields {m : Nat} {rec : TypeId → Option (List FK)} (hrec : ∀ t l, rec t = some l → PartEq P F w G m t l) {Xs Ys : Array Value} : ∀ (fs : List Field) (k : Nat) (ks : List FK) (xs ys : List AV) (b : Bool), deepFs rec fs k = some ks → eqCells ks xs ys = some b →
  HoldsAt F w G Xs k xs → HoldsAt F w G Ys k ys → (Op.eqFields m Xs Ys fs).run P w = .ok b w := by
 intro fs
 induction fs with
 | nil =>
  intro k ks xs ys b hd he _ _
  simp only [deepFs, Option.some.injEq] at hd
  subst hd
  cases xs <;> cases ys <;> simp [eqCells] at he
  subst he; rfl
 | cons f fs ih =>
  intro k ks xs ys b hd he hX hY
  simp only [deepFs] at hd
  split at hd
  · rename_i hok
    obtain ⟨hoff, hname⟩ := hok
    split at hd
    · rename_i l hl
      cases hr : deepFs rec fs (k + l.length) with
      | none => simp [hr] at hd
      | some ks' =>
       simp only [hr, Option.map_some, Option.some.injEq] at hd
       subst hd
       obtain ⟨x1, x2, y1, y2, b1, b2, rfl, rfl, hx, hy, h1, h2, rfl⟩ := eqCells_app l ks' xs ys b he
       obtain ⟨a, c, ha, hc, hab⟩ := hrec _ _ hl Xs Ys k k x1 y1 b1 h1 hX.left hY.left
       rw [← hoff] at ha hc
       have hX2 := hX.right
       have hY2 := hY.right
       rw [hx] at hX2
       rw [hy] at hY2
       simp only [Op.eqFields, hname, ne_eq, not_false_eq_true, if_true, Sem.run_bind, ha, hc, hab, Result.andThen_ok]
       cases b1 with
       | false => simp
       | true => simp; exact ih (k + l.length) ks' x2 y2 b2 hr h2 hX2 hY2
    · cases hd
  · cases hd
theorem deep_elems {m : Nat} {e : TypeId} {l : List FK} (hp : PartEq P F w G m e l) {Xs Ys : Array Value} : ∀ (n s : Nat) (xs ys : List AV) (b : Bool), eqCells (List.replicate n l).flatten xs ys = some b →
  HoldsAt F w G Xs (s * l.length) xs → HoldsAt F w G Ys (s * l.length) ys → (Op.eqElems m Xs Ys e l.length (List.range' s n)).run P w = .ok b w := by
 intro n
 induction n with
 | zero =>
  intro s xs ys b he _ _
  cases xs <;> cases ys <;> simp [eqCells] at he
  subst he; rfl
 | succ n ih =>
  intro s xs ys b he hX hY
  rw [List.replicate_succ, List.flatten_cons] at he
  obtain ⟨x1, x2, y1, y2, b1, b2, rfl, rfl, hx, hy, h1, h2, rfl⟩ := eqCells_app l _ xs ys b he
  obtain ⟨a, c, ha, hc, hab⟩ := hp Xs Ys _ _ x1 y1 b1 h1 hX.left hY.left
  have hX2 := hX.right
  have hY2 := hY.right
  rw [hx, ← Nat.succ_mul] at hX2
  rw [hy, ← Nat.succ_mul] at hY2
  rw [List.range'_succ]
  simp only [Op.eqElems, Sem.run_bind, ha, hc, hab, Result.andThen_ok]
  cases b1 with
  | false => simp
  | true => simp; exact ih (s + 1) x2 y2 b2 h2 hX2 hY2
theorem deep_sound : ∀ (d : Nat) (t : TypeId) (ks : List FK), deepK P d t = some ks → ∀ m, d ≤ m → PartEq P F w G m t ks ∧ (∀ D, P.underlying t = some D → rowish D = true → AggEq P F w G m t ks) := by
 intro d
 induction d with
 | zero => intro t ks h; cases h
 | succ d ih =>
  intro t ks h m hm
  obtain ⟨m, rfl⟩ : ∃ m', m = m' + 1 := ⟨m - 1, by omega⟩
  have hdm : d ≤ m := by omega
  have wrap : ∀ D (i : TypeInfo), P.underlying t = some D → rowish D = true → P.info? t = some i → i.size = ks.length → AggEq P F w G (m + 1) t ks → PartEq P F w G (m + 1) t ks ∧ (∀ D, P.underlying t = some D → rowish D = true → AggEq P F w G (m + 1) t ks) := by
   intro D i hD hrow hi hsz ha
   refine ⟨fun Xs Ys ox oy xs ys b he hX hY => ?_, fun _ _ _ => ha⟩
   obtain ⟨hlx, hly⟩ := eqCells_len ks xs ys b he
   exact ⟨_, _, run_part_agg hD hrow hi, run_part_agg hD hrow hi, ha _ _ xs ys b he (hX.cut (by omega)) (hY.cut (by omega))⟩
  have scal : ∀ D, P.underlying t = some D → rowish D = false → ∀ k, ks = [k] → (∀ x y b V U, eqCells [k] [x] [y] = some b → VR F w G x V → VR F w G y U → (Op.equalIn (m + 1) t V U).run P w = .ok b w) → PartEq P F w G (m + 1) t ks ∧ (∀ D, P.underlying t = some D → rowish D = true → AggEq P F w G (m + 1) t ks) := by
   intro D hD hrow k hk hs
   subst hk
   refine ⟨fun Xs Ys ox oy xs ys b he hX hY => ?_, fun D' hD' hr' => ?_⟩
   · obtain ⟨hlx, hly⟩ := eqCells_len _ xs ys b he
     match xs, ys, hlx, hly with
     | [x], [y], _, _ =>
      obtain ⟨V, hV, hv⟩ := hX 0 x rfl
      obtain ⟨U, hU, hu⟩ := hY 0 y rfl
      rw [Nat.add_zero] at hV hU
      exact ⟨V, U, run_part_one hD hrow hV, run_part_one hD hrow hU, hs x y b V U he hv hu⟩
   · rw [hD] at hD'; cases hD'; rw [hrow] at hr'; cases hr'
  simp only [deepK] at h
  split at h
  · rename_i k0 hd
    cases h
    refine scal _ hd rfl _ rfl fun x y b V U he hx hy => ?_
    cases x <;> cases y <;> simp only [eqCells] at he <;> try (cases he; done)
    split at he
    · rename_i hkk
      subst hkk
      obtain rfl := hx.int_inv
      obtain rfl := hy.int_inv
      simp at he
      rw [run_equalIn_int w m t _ _ _ _ hd, he]
    · cases he
  · rename_i hd
    cases h
    refine scal _ hd rfl _ rfl fun x y b V U he hx hy => ?_
    cases x <;> cases y <;> simp only [eqCells] at he <;> try (cases he; done)
    obtain rfl := hx.bool_inv
    obtain rfl := hy.bool_inv
    simp at he
    rw [run_equalIn_bool' w m t _ _ hd, he]
  · rename_i hd
    cases h
    refine scal _ hd rfl _ rfl fun x y b V U he hx hy => ?_
    cases x <;> cases y <;> simp only [eqCells] at he <;> try (cases he; done)
    obtain rfl := hx.str_inv
    obtain rfl := hy.str_inv
    simp at he
    rw [run_equalIn_string w m t _ _ hd]
    simp [he]
  · rename_i fs i hd hi
    split at h
    · cases h
    · rename_i hst
      split at h
      · rename_i l hl
        split at h
        · rename_i hsz
          cases h
          refine wrap _ i hd rfl hi hsz fun Xs Ys xs ys b he hX hY => ?_
          have hfs : P.fieldsOf t = fs := by simp [Program.fieldsOf, hd]
          have h1 := run_equalIn_struct (P := P) w m t Xs Ys (by rw [hfs]; exact hd) (by simpa using hst)
          rw [hfs] at h1
          rw [h1]
          exact deep_fields (fun t l hl => (ih t l hl m hdm).1) fs.toList 0 _ xs ys b hl he hX hY
        · cases h
      · cases h
  · rename_i n e i hd hi
    split at h
    · rename_i l j hl hj
      split at h
      · rename_i hsz
        cases h
        refine wrap _ i hd rfl hi hsz.1 fun Xs Ys xs ys b he hX hY => ?_
        rw [run_equalIn_array w m t e n j Xs Ys hd hj, hsz.2, List.range_eq_range']
        exact deep_elems (ih e l hl m hdm).1 n 0 xs ys b he (by simpa using hX) (by simpa using hY)
      · cases h
    · cases h
  · cases h
end
section
variable {P : Program} {F : FTab} {w : World} {G : Ghost} {H : AH}
theorem VRs.take {cs : List AV} {L : List Value} (h : VRs F w G cs L.toArray) (k : Nat) : VRs F w G (cs.take k) (L.take k).toArray := by
 refine VRs.of_list (by have := h.1; simp at this; simp [this]) fun j c V hc hV => ?_
 have hj : j < k := by
  have := (List.getElem?_eq_some_iff.1 hc).1
  simp at this; omega
 rw [List.getElem?_take_of_lt hj] at hc hV
 exact h.2 j c V hc (by simpa using hV)
theorem acopy_sound {t t2 e ty : TypeId} {inf : TypeInfo} {sz : Nat} {x y v : AV} {X Y : Value} {H' : AH} (hrel : Rel F w G H) (ht : P.underlying t = some (.slice e)) (hi : P.info? e = some inf) (hs : inf.size = sz)
  (h : acopy H sz x y = some (v, H')) (hx : VR F w G x X) (hy : VR F w G y Y) : Gave F w G H v H' ((Builtin.copy_ #[t, t2] ty #[X, Y]).run P w) := by
 subst hs
 unfold acopy at h
 split at h
 · rename_i id o len s' m news hac
   obtain ⟨hnl, ad, c, rfl, hsrc⟩ := acells_sound hrel hac hy
   split at h
   · rename_i cs ho
     dsimp only at h
     split at h
     · rename_i hk
       cases h
       have hL : ∃ L : List Value, VRs F w G (news.take (min m len * inf.size)) L.toArray ∧ (Builtin.firstCells inf.size (min m len) (.slice ad m c)).run P w = .ok L.toArray w := by
        rcases Nat.eq_zero_or_pos m with hm | hm
        · subst hm
          have : news = [] := by simpa using hnl
          subst this
          refine ⟨[], by simpa using VRs.nil, ?_⟩
          cases ad <;> simp [Builtin.firstCells, loadCells, loadCellsFrom]
        · obtain ⟨bs, os, rfl, hcs⟩ := hsrc hm
          obtain ⟨M, hM, hMc⟩ := hcs.vals
          have hMl : M.length = m * inf.size := by have := hM.1; simp at this; omega
          refine ⟨M.take (min m len * inf.size), hM.take _, ?_⟩
          have hle : min m len * inf.size ≤ m * inf.size := Nat.mul_le_mul_right _ (Nat.min_le_left _ _)
          exact run_firstCells_some (P := P) w inf.size (min m len) ⟨bs, os, none⟩ m c (M.take (min m len * inf.size)) (by rw [List.length_take, hMl]; omega) fun j u hj => by
           have hlt : j < min m len * inf.size := by
            have := (List.getElem?_eq_some_iff.1 hj).1
            simp at this; omega
           rw [List.getElem?_take_of_lt hlt] at hj
           exact hMc j u hj
       obtain ⟨L, hLv, hf⟩ := hL
       have hln : (news.take (min m len * inf.size)).length ≤ min m len * inf.size := by simp; omega
       obtain ⟨w', hrun, hr, hst⟩ := row_write (P := P) (o := o) hrel ho hLv (by omega) (by
         rw [List.all_eq_true]; intro z hz
         exact (List.all_eq_true.1 hk.1) z (List.mem_of_mem_take hz))
       cases hx with
       | row _ _ _ _ cap hid hle hc =>
        refine ⟨.int .i64 ((min m len : Nat) : Int), w', G, ?_, .int _ _, hr, hst⟩
        have hmin : Nat.min m len = min m len := rfl
        simp [Builtin.copy_, run_underlying ht, Go.sizeOf, typeInfo, hi, Builtin.lenOf, hmin, hf, hrun, goInt]
     · cases h
   · cases h
 · cases h
end
section
variable {P : Program} {F : FTab} {w : World} {G : Ghost} {H : AH}
theorem run_tassert {t xT : TypeId} {D : TypeDesc} {V : Value} (ht : P.underlying t = some D) (hD : noIface D = true) : (Instr.typeAssert (.iface t V) xT t false).run P w = .ok V w := by
 cases D <;> first | (simp [noIface] at hD; done) | simp [Instr.typeAssert, run_underlying ht]
theorem run_ptreq {tp te : TypeId} {j : TypeInfo} {neg r : Bool} {a b : Addr} {p q : Operand} (hp : P.underlying tp = some (.pointer te)) (hte : P.info? te = some j) (hsz : j.size ≠ 0) (hs : (sameAddr a b).run P w = .ok r w) :
  (do eqGuard (if neg then .neq else .eql) tp p q (.pointer (some a)) (.pointer (some b)); binOp (if neg then .neq else .eql) tp (.pointer (some a)) (.pointer (some b)) : Sem Value).run P w = .ok (.bool (if neg then !r else r)) w := by
 have h : ∀ d : Nat, (Op.equalIn (d + 1) tp (.pointer (some a)) (.pointer (some b))).run P w = .ok r w := fun d => by
  simp [Op.equalIn, run_underlying hp, Go.sizeOf, typeInfo, hte, hsz, hs]
 cases neg
 · have hbin : binOp .eql tp (.pointer (some a)) (.pointer (some b)) = (do pure (.bool (← Op.equal tp (.pointer (some a)) (.pointer (some b))))) := rfl
   simp [eqGuard, hbin, Op.equal, Op.maxDepth, h 9999]
 · have hbin : binOp .neq tp (.pointer (some a)) (.pointer (some b)) = (do pure (.bool (!(← Op.equal tp (.pointer (some a)) (.pointer (some b)))))) := rfl
   simp [eqGuard, hbin, Op.equal, Op.maxDepth, h 9999]
theorem aext_ptreq {neg : Bool} {x y v : AV} {X Y : Value} {H' : AH} {tp te : TypeId} {j : TypeInfo} {p q : Operand} (hrel : Rel F w G H) (hp : P.underlying tp = some (.pointer te)) (hte : P.info? te = some j) (hsz : j.size ≠ 0)
  (h : aext H (.ptreq neg) [x, y] = some (v, H')) (hx : VR F w G x X) (hy : VR F w G y Y) :
  ∃ V, (do eqGuard (if neg then .neq else .eql) tp p q X Y; binOp (if neg then .neq else .eql) tp X Y : Sem Value).run P w = .ok V w ∧ VR F w G v V ∧ H' = H := by
 cases x <;> cases y <;> try (simp [aext] at h; done)
 rename_i i o j' p'
 simp only [aext] at h
 split at h
 · rename_i cs ds hi hj
   have oi := hrel.obj i
   have oj := hrel.obj j'
   rw [hi] at oi
   rw [hj] at oj
   obtain ⟨C, e, hc, _⟩ := oi
   obtain ⟨D, e', hd, _⟩ := oj
   cases hx with
   | ptr _ _ hid =>
    cases hy with
    | ptr _ _ hjd =>
     split at h
     · rename_i hij
       subst hij
       simp only [Option.some.injEq, Prod.mk.injEq] at h
       obtain ⟨rfl, rfl⟩ := h
       by_cases hop : o = p'
       · subst hop
         refine ⟨_, run_ptreq hp hte hsz (run_sameAddr_same (P := P) w _), ?_, rfl⟩
         rw [beq_self_eq_true]
         cases neg <;> exact VR.bool _
       · have hne : (⟨G.loc i, o, none⟩ : Addr) ≠ ⟨G.loc i, p', none⟩ := fun e => hop (by injection e)
         have hb : (o == p') = false := by simpa using hop
         rw [hb]
         refine ⟨_, run_ptreq hp hte hsz (run_sameAddr_other w hne hc hd), ?_, rfl⟩
         cases neg <;> exact VR.bool _
     · rename_i hij
       simp only [Option.some.injEq, Prod.mk.injEq] at h
       obtain ⟨rfl, rfl⟩ := h
       have hne : (⟨G.loc i, o, none⟩ : Addr) ≠ ⟨G.loc j', p', none⟩ := fun e => hrel.dist i j' hij (by rw [hi]; rfl) (by rw [hj]; rfl) (by injection e)
       refine ⟨_, run_ptreq hp hte hsz (run_sameAddr_other w hne hc hd), ?_, rfl⟩
       cases neg <;> exact VR.bool _
 · cases h
theorem run_append_zeros (w : World) {t it ty e : TypeId} {k : IntKind} {i : TypeInfo} {z : Value} (ht : P.underlying t = some (.slice e)) (hit : P.underlying it = some (.int k)) (hi : P.info? e = some i) (hz : i.zero = some z) (hs : i.size ≠ 0)
  (n : Nat) (h0 : 0 < n) (h63 : (n : Int) ≤ 9223372036854775807) (h48 : n * i.bytes ≤ 281474976710656) :
  (Builtin.append_ #[t, it] ty #[.slice none 0 0, .int .i64 n]).run P w =
   .ok (.slice (some ⟨w.heap.size, 0, none⟩) n (grownCap w n 0 e)) (w.drew.alloc (.cells (#[] ++ Builtin.zeroCells z.cells n ++ Builtin.zeroCells z.cells (grownCap w n 0 e - n)) e)) := by
 have hn : n ≠ 0 := by omega
 have h63' : ¬ (9223372036854775807 < (n : Int)) := by omega
 have h48' : ¬ (281474976710656 < Builtin.nextslicecap n 0 * i.bytes) := by rw [nextslicecap_zero h0]; omega
 have hw : IntKind.i64.wrap (n : Int) = n := by simp [IntKind.wrap, IntKind.bits, IntKind.signed]; omega
 have hneg : ¬ ((n : Int) < 0) := by omega
 have h48'' : ¬ (281474976710656 < (n : Int) * (i.bytes : Int)) := by
  have : ((n * i.bytes : Nat) : Int) ≤ 281474976710656 := by omega
  rw [Int.natCast_mul] at this
  omega
 have hns : n * i.size ≠ 0 := Nat.mul_ne_zero hn hs
 have hb : IntKind.i64.max = 9223372036854775807 := rfl
 simp [Builtin.append_, run_underlying ht, run_underlying hit, Go.sizeOf, typeInfo, zeroValue, hi, hz, asInt, asIntOf, hw, hneg, h48'', hn, hs, h63', h48', hb, Question.forced, Builtin.firstCells, newRow, grownCap]
 intro h
 exact absurd h hns
theorem aext_grow {t it e ty : TypeId} {k : IntKind} {inf : TypeInfo} {sz bytes : Nat} {zero : List AV} {z : Value} {x y v : AV} {X Y : Value} {H' : AH} (hrel : Rel F w G H) (ht : P.underlying t = some (.slice e)) (hit : P.underlying it = some (.int k)) (hi : P.info? e = some inf) (hs : inf.size = sz) (hb : inf.bytes = bytes) (hz : inf.zero = some z) (hzv : VRs F w G zero z.cells)
  (h : aext H (.grow sz bytes zero) [x, y] = some (v, H')) (hx : VR F w G x X) (hy : VR F w G y Y) : Gave F w G H v H' ((Builtin.append_ #[t, it] ty #[X, Y]).run P w) := by
 subst hs hb
 cases x <;> try (simp [aext] at h; done)
 rename_i tk len cells
 cases tk <;> cases len <;> cases cells <;> try (simp [aext] at h; done)
 cases y <;> try (simp [aext] at h; done)
 rename_i k' n
 cases k' <;> try (simp [aext] at h; done)
 simp only [aext] at h
 split at h
 · rename_i hk
   obtain ⟨h0, h48, h63, hzl, hsz⟩ := hk
   simp only [Option.some.injEq, Prod.mk.injEq] at h
   obtain ⟨rfl, rfl⟩ := h
   obtain rfl := hy.int_inv
   obtain ⟨m, rfl⟩ := Int.eq_ofNat_of_zero_le (Int.le_of_lt h0)
   simp only [Int.toNat_natCast] at h48 ⊢
   have hzs : zero.length = z.cells.size := hzv.1
   cases hx with
   | lstnil =>
    rw [run_append_zeros w ht hit hi hz (by omega) m (by omega) h63 h48]
    have hz' := zeros_sound hzv m
    have hpre : ∀ (j : Nat) (c : AV), (List.replicate m zero).flatten[j]? = some c → ∃ V, (#[] ++ Builtin.zeroCells z.cells m ++ Builtin.zeroCells z.cells (grownCap w m 0 e - m))[j]? = some V ∧ VR F w G c V := by
     intro j c hj
     obtain ⟨V, hV, hr⟩ := hz'.get hj
     rw [hzs] at hV
     refine ⟨V, ?_, hr⟩
     have hV2 : (Builtin.zeroCells z.cells m)[j]? = some V := hV
     rw [Array.empty_append, Array.getElem?_append, if_pos (Array.getElem?_eq_some_iff.1 hV2).1]
     exact hV2
    have hge := grownCap_ge w m 0 e
    have hsize : (#[] ++ Builtin.zeroCells z.cells m ++ Builtin.zeroCells z.cells (grownCap w m 0 e - m)).size = grownCap w m 0 e * inf.size := by
     simp only [Array.size_append, Array.size_empty, size_zeroCells, Nat.zero_add, ← Nat.add_mul, ← hzs, hzl]
     congr 1
     omega
    obtain ⟨G', hr, hst, hv⟩ := grown_row hrel (Pushed.drew w _) hpre hsize m hge
    exact ⟨_, _, G', rfl, hv, hr, hst⟩
   | lst _ _ _ b o cap Vs htk hle h hv => exact htk.elim
 · cases h
theorem aext_clear {t e ty : TypeId} {inf : TypeInfo} {sz : Nat} {zero : List AV} {z : Value} {x v : AV} {X : Value} {H' : AH} (hrel : Rel F w G H) (ht : P.underlying t = some (.slice e)) (hi : P.info? e = some inf) (hz : inf.zero = some z) (hzv : VRs F w G zero z.cells)
  (h : aext H (.clear sz zero) [x] = some (v, H')) (hx : VR F w G x X) : Gave F w G H v H' ((Builtin.clear_ #[t] ty #[X]).run P w) := by
 have nothing : ∀ (a : Option Addr) (cap : Nat), Gave F w G H (.tup []) H ((Builtin.clear_ #[t] ty #[.slice a 0 cap]).run P w) := by
  intro a cap
  refine ⟨.tuple #[], w, G, ?_, .tup [] #[] rfl (fun j c V hc _ => by simp at hc), hrel, Step.refl _ _ _⟩
  cases a <;> simp [Builtin.clear_, run_underlying ht]
 cases x <;> try (simp [aext] at h; done)
 · rename_i tk len cells
   cases len with
   | succ n => simp [aext] at h
   | zero =>
    simp only [aext, Option.some.injEq, Prod.mk.injEq] at h
    obtain ⟨rfl, rfl⟩ := h
    cases hx with
    | lstnil => exact nothing _ _
    | lst0 a cap => exact nothing _ _
    | lst _ _ _ b o cap Vs htk hle h hv => exact nothing _ _
 · rename_i id o len zz
   simp only [aext] at h
   cases hx with
   | row _ _ _ _ cap hid hle hc =>
    split at h
    · rename_i hl
      subst hl
      simp only [Option.some.injEq, Prod.mk.injEq] at h
      obtain ⟨rfl, rfl⟩ := h
      exact nothing _ _
    · rename_i hl
      split at h
      · rename_i cs ho
        split at h
        · rename_i hk
          obtain ⟨hsc, hzl, hfit⟩ := hk
          simp only [Option.some.injEq, Prod.mk.injEq] at h
          obtain ⟨rfl, rfl⟩ := h
          have hzs : zero.length = z.cells.size := hzv.1
          have hz' : VRs F w G (List.replicate len zero).flatten (Builtin.zeroCells z.cells len).toList.toArray := by
           have := zeros_sound hzv len
           rw [hzs] at this
           rw [Array.toArray_toList]
           exact this
          have hfl : (List.replicate len zero).flatten.length = len * zero.length := by simp
          have hsc' : (List.replicate len zero).flatten.all AV.scalar = true := by
           rw [List.all_eq_true]
           intro c hc
           rw [List.mem_flatten] at hc
           obtain ⟨l, hl, hcl⟩ := hc
           rw [(List.mem_replicate.1 hl).2] at hcl
           exact (List.all_eq_true.1 hsc) c hcl
          obtain ⟨w', hrun, hr, hst⟩ := row_write (P := P) (o := o) hrel ho hz' (by rw [hfl, hzl]; exact hfit) hsc'
          refine ⟨.tuple #[], w', G, ?_, .tup [] #[] rfl (fun j c V hc _ => by simp at hc), hr, hst⟩
          obtain ⟨n, rfl⟩ : ∃ n, len = n + 1 := ⟨len - 1, by omega⟩
          simp [Builtin.clear_, run_underlying ht, zeroValue, typeInfo, hi, hz, hrun]
        · cases h
      · cases h
end
theorem method_run {P : Program} {w : World} {n : Nat} {t f : Nat} {V U : Value} {name : String} {i : TypeInfo} {mt : Method} {pr : Bool} (hi : P.info? t = some i) (hm : i.methods.find? (·.name == name) = some mt) (hp : mt.path.toList = []) (hf : mt.func = some (f, pr))
  (hr : ∀ wr, (receiverAt t (.val V) pr wr).run P w = .ok U w) : (method (n + 1) t V name).run P w = .ok (f, U) w := by
 have hti : (typeInfo t).run P w = .ok i w := by simp [typeInfo, hi]
 unfold method
 simp only [Sem.run_bind, hti, Result.andThen_ok, hm, hp, follow, Sem.run_pure, hf, hr]
theorem inv_sound {C : Ctx} {w : World} {G : Ghost} {H : AH} {name : String} {t : TypeId} {key : Nat} {m : Option (Nat × Bool)} {v u : AV} {V : Value} (hrel : Rel C.F w G H) (h : chkInv1 C name t key m = true) (hV : VR C.F w G v V) (hu : invR H m v = some u) :
  ∃ f U, C.F key = some f ∧ goodFn C.P f = true ∧ (method (C.P.types.size + Made.depth) t V name).run C.P w = .ok (f, U) w ∧ VR C.F w G u U := by
 have hfuel : C.P.types.size + Made.depth = (C.P.types.size + 99) + 1 := rfl
 rw [hfuel]
 unfold chkInv1 at h
 cases hi : C.P.info? t with
 | none => rw [hi] at h; cases h
 | some i =>
  rw [hi] at h
  dsimp only at h
  cases hm : i.methods.find? (·.name == name) with
  | none => rw [hm] at h; cases h
  | some mt =>
   rw [hm] at h
   dsimp only at h
   rw [Bool.and_eq_true] at h
   obtain ⟨hp, h⟩ := h
   have hp' : mt.path.toList = [] := by simpa using hp
   cases hmf : mt.func with
   | none => rw [hmf] at h; cases h
   | some fp =>
    obtain ⟨f, pr⟩ := fp
    rw [hmf] at h
    cases ht : C.P.underlying t with
    | none => rw [ht] at h; cases pr <;> cases m <;> cases h
    | some D =>
     rw [ht] at h
     cases D <;> try (cases pr <;> cases m <;> cases h; done)
     rename_i e
     have hue : (underlying t).run C.P w = .ok (.pointer e) w := run_underlying ht w
     cases pr with
     | true =>
      cases m with
      | some _ => cases h
      | none =>
       simp only [Bool.and_eq_true, beq_iff_eq] at h
       simp only [invR, Option.some.injEq] at hu
       subst hu
       refine ⟨f, V, h.1, h.2, method_run hi hm hp' hmf fun wr => ?_, hV⟩
       unfold receiverAt
       simp only [Sem.run_bind, hue, Result.andThen_ok]
       rfl
     | false =>
      cases m with
      | none => cases h
      | some na =>
       obtain ⟨n, agg⟩ := na
       simp only [Bool.and_eq_true, beq_iff_eq] at h
       obtain ⟨⟨h1, h2⟩, h3⟩ := h
       simp only [invR] at hu
       obtain ⟨U, hrun, hU⟩ := aload_sound (P := C.P) h3 hrel hu hV
       have hVp : ∃ a, V = .pointer (some a) := by
        unfold aload at hu
        cases hV <;> first | (simp at hu; done) | exact ⟨_, rfl⟩
       obtain ⟨a, rfl⟩ := hVp
       simp only [Instr.loadAt, Instr.sureAddr, Sem.run_bind, Sem.run_pure, Result.andThen_ok] at hrun
       refine ⟨f, U, h1, h2, method_run hi hm hp' hmf fun wr => ?_, hU⟩
       unfold receiverAt
       simp only [Sem.run_bind, hue, Result.andThen_ok, Place.get, Sem.run_pure]
       cases wr with
       | none => simp only [Sem.run_bind, Sem.run_pure, Result.andThen_ok, asAddr, hrun]
       | some nm =>
        have hs : (Builtin.ssaWrapNilChk_ #[t] t #[.pointer (some a), strVal "", strVal nm]).run C.P w = .ok (.pointer (some a)) w := rfl
        simp only [Sem.run_bind, hs, Sem.run_pure, Result.andThen_ok, asAddr, hrun]
theorem chkInv_mem {C : Ctx} {name : String} : ∀ {l : List (TypeId × Nat × Option (Nat × Bool))} {t : TypeId} {r : Nat × Option (Nat × Bool)}, chkInv C name l = true → findI l t = some r → chkInv1 C name t r.1 r.2 = true
 | [], _, _, _, h => by cases h
 | (t', r') :: l, t, r, hc, h => by
  simp only [chkInv, Bool.and_eq_true] at hc
  simp only [findI] at h
  split at h
  · rename_i e
    cases h
    rw [← e]
    exact hc.1
  · exact chkInv_mem hc.2 h
def FOK (C : Ctx) : Prop := ∀ key f, C.F key = some f → goodFn C.P f = true
def OpPost (C : Ctx) (w : World) (G : Ghost) (H : AH) (K : Post) (a : Act) (dst : Option Tmp) : Act → World → Prop :=
 fun a' w' => ∃ v H' G' V, a' = a.put dst V ∧ K v H' ∧ VR C.F w' G' v V ∧ Rel C.F w' G' H' ∧ Step w G H w' G' H'
section
variable {C : Ctx} {w : World} {G : Ghost} {H : AH} {env : Env} {a : Act} {o : Oper} {K : Post} {Q : Exit → Act → World → Prop}
theorem wp_value {V : Value} {w' : World} {next : Act → World → Prop} (h : (execOp a.eval o).run C.P w = .ok (.value V) w') (hn : next (a.put o.dst V) w') : o.wp C.P a w next Q := by
 unfold Oper.wp
 rw [h]
 exact hn
theorem wp_skip' {w' : World} {next : Act → World → Prop} (h : (execOp a.eval o).run C.P w = .ok .skip w') (hn : next (a.put o.dst undef) w') : o.wp C.P a w next Q := by
 unfold Oper.wp
 rw [h]
 exact hn
theorem undef_vr : VR C.F w G (.tup []) undef := .tup [] #[] rfl fun j c V hc _ => by simp at hc
theorem wp_pure {V : Value} {v : AV} (hrel : Rel C.F w G H) (h : (execOp a.eval o).run C.P w = .ok (.value V) w) (hv : VR C.F w G v V) (hK : K v H) : o.wp C.P a w (OpPost C w G H K a o.dst) Q :=
 wp_value h ⟨v, H, G, V, rfl, hK, hv, hrel, Step.refl _ _ _⟩
theorem wp_gave {v : AV} {H' : AH} {r : Result Value} (h : Gave C.F w G H v H' r) (hr : (execOp a.eval o).run C.P w = r.andThen fun V w' => .ok (.value V) w') (hK : K v H') : o.wp C.P a w (OpPost C w G H K a o.dst) Q := by
 obtain ⟨V, w', G', rfl, hv, hrel, hst⟩ := h
 exact wp_value hr ⟨v, H', G', V, rfl, hK, hv, hrel, hst⟩
theorem callFunc_good {f : FuncId} {args : Array Value} (h : goodFn C.P f = true) : (callFunc f args).run C.P w = .ok (.enter f args) w := by
 unfold goodFn at h
 split at h
 · rename_i fn hf
   simp at h
   obtain ⟨h1, h2⟩ := h
   cases hb : fn.body with
   | none => simp [hb] at h2
   | some c => simp [callFunc, hf, h1, hb]
 · cases h
theorem eqagg_run {P : Program} {F : FTab} {t : TypeId} {D : TypeDesc} {neg : Bool} {ks : List FK} {x y v : AV} {X Y : Value} {p q : Operand} (ht : P.underlying t = some D) (hrow : rowish D = true) (hp : deepK P 9 t = some ks)
  (hq : P.eqGuardType P.depth t = false) (h : aeqAgg neg ks x y = some v) (hx : VR F w G x X) (hy : VR F w G y Y) :
  ∃ V, (do eqGuard (if neg then .neq else .eql) t p q X Y; binOp (if neg then .neq else .eql) t X Y : Sem Value).run P w = .ok V w ∧ VR F w G v V := by
 unfold aeqAgg at h
 split at h
 · rename_i xs ys
   obtain ⟨Xs, rfl, hXs⟩ := hx.agg_inv
   obtain ⟨Ys, rfl, hYs⟩ := hy.agg_inv
   cases hb : eqCells ks xs ys with
   | none => simp [hb] at h
   | some b =>
    simp only [hb, Option.map_some, Option.some.injEq] at h
    subst h
    have hr : (Op.equal t (.agg Xs) (.agg Ys)).run P w = .ok b w :=
     (deep_sound (F := F) (G := G) 9 t ks hp 10000 (by omega)).2 D ht hrow Xs Ys xs ys b hb (fun j c hj => by rw [Nat.zero_add]; exact hXs.get hj) (fun j c hj => by rw [Nat.zero_add]; exact hYs.get hj)
    refine ⟨_, ?_, .bool _⟩
    cases neg
    · have hbin : binOp .eql t (.agg Xs) (.agg Ys) = (do pure (.bool (← Op.equal t (.agg Xs) (.agg Ys)))) := rfl
      simp [eqGuard, hq, hbin, hr]
    · have hbin : binOp .neq t (.agg Xs) (.agg Ys) = (do pure (.bool (!(← Op.equal t (.agg Xs) (.agg Ys))))) := rfl
      simp [eqGuard, hq, hbin, hr]
 · cases h
end
end Rb

namespace Rb
open Go
section
variable {C : Ctx} {w : World} {G : Ghost} {H : AH} {env : Env} {a : Act} {o : Oper} {K : Post} {Q : Exit → Act → World → Prop}
theorem elemOfSlice_inv {P : Program} {t e : TypeId} (h : elemOfSlice P t = some e) : P.underlying t = some (.slice e) := by
 unfold elemOfSlice at h
 split at h
 · rename_i e' ht; cases h; exact ht
 · cases h
theorem elemOfArray_inv {P : Program} {t e : TypeId} {n : Nat} (h : elemOfArray P t = some (n, e)) : P.underlying t = some (.array n e) := by
 unfold elemOfArray at h
 split at h
 · rename_i e' ht; cases h; exact ht
 · cases h
theorem fieldOf_inv {P : Program} {t : TypeId} {n : Nat} {f : Field} (h : fieldOf P t n = some f) : ∃ fs, P.underlying t = some (.struct fs) ∧ fs[n]? = some f := by
 unfold fieldOf at h
 split at h
 · rename_i fs ht; exact ⟨fs, ht, h⟩
 · cases h
theorem sizeIs_inv {P : Program} {t : TypeId} {sz : Nat} (h : sizeIs P t sz = true) : ∃ i, P.info? t = some i ∧ i.size = sz := by
 unfold sizeIs at h
 split at h
 · rename_i i hi; simp at h; exact ⟨i, hi, h⟩
 · cases h
theorem zeroIs_inv {P : Program} {F : FTab} {t : TypeId} {sz bytes : Nat} {zero : List AV} (h : zeroIs P t sz bytes zero = true) :
  ∃ i z, P.info? t = some i ∧ i.size = sz ∧ i.bytes = bytes ∧ i.zero = some z ∧ z.cells.size = sz ∧ constsOk z.cells.toList zero = true := by
 unfold zeroIs at h
 split at h
 · rename_i i hi
   simp only [Bool.and_eq_true, beq_iff_eq] at h
   obtain ⟨⟨h1, h2⟩, h3⟩ := h
   split at h3
   · rename_i z hz
     simp only [Bool.and_eq_true, beq_iff_eq] at h3
     exact ⟨i, z, hi, h1, h2, hz, h3.1, h3.2⟩
   · cases h3
 · cases h
theorem list_toArray_eq {α : Type} {l : Array α} {xs : List α} (h : l.toList = xs) : l = xs.toArray := by
 subst h; simp
theorem mapM_run {α β : Type} {P : Program} {g : α → Sem β} {h : α → β} : ∀ (l : List α), (∀ x ∈ l, (g x).run P w = .ok (h x) w) → (l.mapM g).run P w = .ok (l.map h) w := by
 intro l
 induction l with
 | nil => intro _; rfl
 | cons x l ih =>
  intro hl
  have h1 := hl x (by simp)
  have h2 := ih (fun y hy => hl y (by simp [hy]))
  rw [List.mapM_cons]
  simp only [Sem.run_bind, h1, h2, Result.andThen_ok, Sem.run_pure, List.map_cons]
theorem build_run {t : TypeId} {zero : List AV} {inf : TypeInfo} {z : Value} {aps : List (Nat × Nat × AV)} {ps : List (Nat × Value)} {v : AV} (hi : C.P.info? t = some inf) (hz : inf.zero = some z) (hzc : constsOk z.cells.toList zero = true)
  (hk : fieldsKnown C.P t = true) (hl : aps.length = ps.length) (hps : ∀ (j : Nat) (q : Nat × Nat × AV) (p : Nat × Value), aps[j]? = some q → ps[j]? = some p → placeOf C.P t p.1 = some (q.1, q.2.1) ∧ VR C.F w G q.2.2 p.2)
  (h : abuild zero aps = some v) : ∃ V, (Instr.build t ps.toArray).run C.P w = .ok V w ∧ VR C.F w G v V := by
 unfold abuild at h
 cases hf : fillA zero aps with
 | none => simp [hf] at h
 | some cells =>
  simp [hf] at h
  subst h
  have hz0 := constsOk_sound (C := C) (w := w) (G := G) hzc
  have hz0' : VRs C.F w G zero z.cells := by simpa using hz0
  obtain ⟨Cs, hCs, hr⟩ := fill_sound (place := placeOf C.P t) aps ps _ _ _ hz0' hl hps hf
  refine ⟨.agg Cs, ?_, hr.agg⟩
  unfold fieldsKnown at hk
  split at hk
  · rename_i fs ht
    have hmap : ∀ (l : List Field), (∀ f ∈ l, (C.P.info? f.type).isSome = true) → (l.mapM fun f => (do pure (f.offset, ← Go.sizeOf f.type) : Sem (Nat × Nat))).run C.P w = .ok (l.map fun f => (f.offset, ((C.P.info? f.type).map (·.size)).getD 0)) w := by
     intro l hl
     refine mapM_run l fun f hf => ?_
     have hf0 := hl f hf
     cases hfi : C.P.info? f.type with
     | none => simp [hfi] at hf0
     | some fi => simp [Go.sizeOf, typeInfo, hfi]
    have hall : ∀ f ∈ fs.toList, (C.P.info? f.type).isSome = true := fun f hf => by
     rw [Array.all_eq_true_iff_forall_mem] at hk
     exact hk f (by simpa using hf)
    have hm := hmap fs.toList hall
    have hplace : ∀ i, ((fs.toList.map fun f => (f.offset, ((C.P.info? f.type).map (·.size)).getD 0)).toArray)[i]? = placeOf C.P t i := by
     intro i
     unfold placeOf
     rw [ht]
     simp only [List.getElem?_toArray, List.getElem?_map, Array.getElem?_toList]
     cases hfi : fs[i]? with
     | none => rfl
     | some f =>
      have := hall f (by simpa using Array.mem_of_getElem? hfi)
      cases hinf : C.P.info? f.type with
      | none => simp [hinf] at this
      | some x => simp [hinf]
    have hCs' : Instr.fill (fun i => ((fs.toList.map fun f => (f.offset, ((C.P.info? f.type).map (·.size)).getD 0)).toArray)[i]?) z.cells ps = some Cs := by
     rw [show (fun i => ((fs.toList.map fun f => (f.offset, ((C.P.info? f.type).map (·.size)).getD 0)).toArray)[i]?) = placeOf C.P t from funext hplace]
     exact hCs
    have harr : (fs.mapM fun f => (do pure (f.offset, ← Go.sizeOf f.type) : Sem (Nat × Nat))).run C.P w = .ok (fs.toList.map fun f => (f.offset, ((C.P.info? f.type).map (·.size)).getD 0)).toArray w := by
     have he : fs = fs.toList.toArray := by simp
     rw [he, List.mapM_toArray]
     simp only [Sem.run_map, hm, Result.andThen_ok]
    simp only [Instr.build, zeroValue, typeInfo, Sem.run_bind, run_program, Result.andThen_ok, hi, hz, run_underlying ht, harr, Sem.run_pure]
    simp at hCs'
    simp [hCs']
  · rename_i n e ht
    cases hei : C.P.info? e with
    | none => simp [hei] at hk
    | some ei =>
     have hplace : (fun i => some (i * ei.size, ei.size)) = placeOf C.P t := by
      funext i
      unfold placeOf
      rw [ht]
      simp [hei]
     have hCs' : Instr.fill (fun i => some (i * ei.size, ei.size)) z.cells ps = some Cs := by rw [hplace]; exact hCs
     simp [Instr.build, zeroValue, typeInfo, Go.sizeOf, hi, hz, run_underlying ht, hei, hCs']
  · cases hk
theorem op_sound (hF : FOK C) {ao : AOp} (hchk : chkOp C o.op ao = true) (hGX : GOX C w G H) (hrel : Rel C.F w G H) (he : VRs C.F w G env a.tmps) (h : opSem (ACall C) env H K ao) :
  o.wp C.P a w (OpPost C w G H K a o.dst) Q := by
 have hG := hGX.1
 cases ao with
 | mv x =>
  simp only [chkOp] at hchk
  split at hchk
  · rename_i y ho
    exact wp_pure hrel (by simp [execOp, ho]) (chkO_sound hG he hchk) h
  · rename_i y ho
    exact wp_pure hrel (by simp [execOp, ho]) (chkO_sound hG he hchk) h
  · cases hchk
 | pick c x y =>
  simp only [chkOp] at hchk
  split at hchk
  · rename_i c' x' y' ho
    simp only [Bool.and_eq_true] at hchk
    obtain ⟨⟨h1, h2⟩, h3⟩ := hchk
    obtain ⟨t, ht, h⟩ := Gd_inv h
    have hc := chkO_sound hG he h1
    rw [ht] at hc
    have hcb := hc.bool_inv
    cases t with
    | true => exact wp_pure hrel (V := a.eval x') (by simp [execOp, ho, hcb, asBool]) (chkO_sound hG he h2) (by simpa using h)
    | false => exact wp_pure hrel (V := a.eval y') (by simp [execOp, ho, hcb, asBool]) (chkO_sound hG he h3) (by simpa using h)
  · cases hchk
 | bin op x y =>
  simp only [chkOp] at hchk
  split at hchk
  · rename_i op' t x' y' yt ho
    simp only [Bool.and_eq_true, beq_iff_eq] at hchk
    obtain ⟨⟨rfl, h2⟩, h3⟩ := hchk
    obtain ⟨v, hv, hK⟩ := h
    have hx := chkO_sound hG he h2
    have hy := chkO_sound hG he h3
    obtain ⟨V, hrun, hr⟩ := abin_sound (P := C.P) (t := t) hv hx hy
    have hg := run_eqGuard_other (P := C.P) (w := w) op t x' y' (a.eval x') (a.eval y')
     (fun cs e => by rw [e] at hx; generalize x.ev env = xv at hx hv; cases hx <;> simp [abin] at hv)
     (fun e => by rw [e] at hx; generalize x.ev env = xv at hx hv; cases hx <;> simp [abin] at hv)
    exact wp_pure hrel (by simp [execOp, ho, hg, hrun]) hr hK
  · cases hchk
 | beq neg x y =>
  simp only [chkOp] at hchk
  split at hchk
  · rename_i op' t x' y' yt ho
    simp only [Bool.and_eq_true, beq_iff_eq] at hchk
    obtain ⟨⟨⟨rfl, h1⟩, h2⟩, h3⟩ := hchk
    obtain ⟨v, hv, hK⟩ := h
    have hx := chkO_sound hG he h2
    have hy := chkO_sound hG he h3
    split at h1
    · rename_i ht
      obtain ⟨V, hrun, hr⟩ := abeq_sound (P := C.P) (t := t) ht hv hx hy
      have hg := run_eqGuard_other (P := C.P) (w := w) (if neg then .neq else .eql) t x' y' (a.eval x') (a.eval y')
       (fun cs e => by rw [e] at hx; generalize x.ev env = xv at hx hv; cases hx <;> simp [abeq] at hv)
       (fun e => by rw [e] at hx; generalize x.ev env = xv at hx hv; cases hx <;> simp [abeq] at hv)
      exact wp_pure hrel (by simp [execOp, ho, hg, hrun]) hr hK
    · cases h1
  · cases hchk
 | isnil k neg x =>
  simp only [chkOp] at hchk
  split at hchk
  · rename_i op' t x' y' yt ho
    simp only [Bool.and_eq_true, beq_iff_eq] at hchk
    obtain ⟨⟨⟨rfl, h1⟩, h2⟩, h3⟩ := hchk
    obtain ⟨v, hv, hK⟩ := h
    have hx := chkO_sound hG he h2
    split at h1
    · rename_i d hd
      simp only [beq_iff_eq] at h1
      split at h3
      · rename_i V0
        have hV0 : V0 = k.nil := by
         split at h3 <;> first | rfl | cases h3
        subst hV0
        obtain ⟨V, hrun, hr⟩ := anil_sound (P := C.P) hd h1 hv hx
        have hg : (eqGuard (if neg then .neq else .eql) t x' (.const k.nil) (a.eval x') k.nil).run C.P w = .ok () w := by
         unfold eqGuard
         cases neg <;> cases k <;> cases hxx : a.eval x' <;> simp [NK.nil]
        have hev : a.eval (.const k.nil) = k.nil := rfl
        exact wp_pure hrel (by simp [execOp, ho, hev, hg, hrun]) hr hK
      · cases h3
    · cases h1
  · cases hchk
 | eqagg neg ks x y =>
  simp only [chkOp] at hchk
  split at hchk
  · rename_i op' t x' y' yt ho
    simp only [Bool.and_eq_true, beq_iff_eq, Bool.not_eq_true'] at hchk
    obtain ⟨⟨⟨⟨⟨rfl, h1⟩, h2⟩, h3⟩, h4⟩, h5⟩ := hchk
    obtain ⟨v, hv, hK⟩ := h
    split at h1
    · rename_i D ht
      obtain ⟨V, hrun, hr⟩ := eqagg_run (P := C.P) (p := x') (q := y') ht h1 h2 h3 hv (chkO_sound hG he h4) (chkO_sound hG he h5)
      exact wp_pure hrel (by simp only [execOp, ho, Sem.run_bind] at hrun ⊢; rw [hrun]; rfl) hr hK
    · cases h1
  · cases hchk
 | un op x =>
  simp only [chkOp] at hchk
  split at hchk
  · rename_i op' t x' ho
    simp only [Bool.and_eq_true, beq_iff_eq] at hchk
    obtain ⟨rfl, h2⟩ := hchk
    obtain ⟨v, hv, hK⟩ := h
    obtain ⟨V, hrun, hr⟩ := aun_sound (P := C.P) hv (chkO_sound hG he h2)
    exact wp_pure hrel (by simp [execOp, ho, hrun]) hr hK
  · cases hchk
 | conv k x =>
  simp only [chkOp] at hchk
  split at hchk
  · rename_i s d x' ho
    simp only [Bool.and_eq_true] at hchk
    obtain ⟨h1, h2⟩ := hchk
    obtain ⟨v, hv, hK⟩ := h
    split at h1
    · rename_i d1 k' hs hd
      simp at h1
      subst h1
      obtain ⟨V, hrun, hr⟩ := aconv_sound (P := C.P) hs hd hv (chkO_sound hG he h2)
      exact wp_pure hrel (by simp [execOp, ho, hrun]) hr hK
    · cases h1
  · cases hchk
 | same x =>
  simp only [chkOp] at hchk
  split at hchk
  · rename_i s d x' ho
    simp only [Bool.and_eq_true] at hchk
    obtain ⟨h1, h2⟩ := hchk
    obtain ⟨v, hv, hK⟩ := h
    split at h1
    · rename_i hs hd
      obtain ⟨V, hrun, hr⟩ := asame_sound (P := C.P) hs hd hv (chkO_sound hG he h2)
      exact wp_pure hrel (by simp [execOp, ho, hrun]) hr hK
    · cases h1
  · cases hchk
 | nilck x =>
  simp only [chkOp] at hchk
  split at hchk
  · rename_i x' ho
    obtain ⟨v, hv, hK⟩ := h
    rcases anilck_sound hv (chkO_sound hG he hchk) with ⟨⟨ad, hX⟩, hr⟩ | ⟨⟨f, As, Vs, hX⟩, hr⟩
    · exact wp_pure hrel (by simp [execOp, ho, hX]) hr hK
    · exact wp_pure hrel (by simp [execOp, ho, hX]) hr hK
  · cases hchk
 | field off sz agg x =>
  simp only [chkOp] at hchk
  split at hchk
  · rename_i t x' n ho
    simp only [Bool.and_eq_true] at hchk
    obtain ⟨h1, h2⟩ := hchk
    obtain ⟨v, hv, hK⟩ := h
    split at h1
    · rename_i f hf
      simp only [Bool.and_eq_true, beq_iff_eq] at h1
      obtain ⟨fs, ht, hfs⟩ := fieldOf_inv hf
      obtain ⟨V, hrun, hr⟩ := afield_sound (P := C.P) ht hfs h1.1 h1.2 hv (chkO_sound hG he h2)
      exact wp_pure hrel (by simp [execOp, ho, hrun]) hr hK
    · cases h1
  · cases hchk
 | idx len sz agg x i =>
  simp only [chkOp] at hchk
  split at hchk
  · rename_i t x' i' ho
    simp only [Bool.and_eq_true] at hchk
    obtain ⟨⟨h1, h2⟩, h3⟩ := hchk
    obtain ⟨v, hv, hK⟩ := h
    split at h1
    · rename_i n e hn
      simp only [Bool.and_eq_true, beq_iff_eq] at h1
      obtain ⟨rfl, hty⟩ := h1
      obtain ⟨V, hrun, hr⟩ := aidx_sound (P := C.P) (elemOfArray_inv hn) hty hv (chkO_sound hG he h2) (chkO_sound hG he h3)
      exact wp_pure hrel (by simp [execOp, ho, hrun]) hr hK
    · cases h1
  · cases hchk
 | idxs x i =>
  simp only [chkOp] at hchk
  split at hchk
  · rename_i t x' i' ho
    simp only [Bool.and_eq_true] at hchk
    obtain ⟨⟨h1, h2⟩, h3⟩ := hchk
    obtain ⟨v, hv, hK⟩ := h
    split at h1
    · rename_i ht
      obtain ⟨V, hrun, hr⟩ := aidxs_sound (P := C.P) ht hv (chkO_sound hG he h2) (chkO_sound hG he h3)
      exact wp_pure hrel (by simp [execOp, ho, hrun]) hr hK
    · cases h1
  · cases hchk
 | faddr off x =>
  simp only [chkOp] at hchk
  split at hchk
  · rename_i t x' n ho
    simp only [Bool.and_eq_true] at hchk
    obtain ⟨h1, h2⟩ := hchk
    obtain ⟨v, hv, hK⟩ := h
    split at h1
    · rename_i f hf
      simp only [Bool.and_eq_true, beq_iff_eq] at h1
      obtain ⟨rfl, h1⟩ := h1
      obtain ⟨fs, ht, hfs⟩ := fieldOf_inv hf
      split at h1
      · rename_i fi hfi
        obtain ⟨V, hrun, hr⟩ := afaddr_sound (P := C.P) ht hfs rfl hfi (by simpa using h1) hv (chkO_sound hG he h2)
        exact wp_pure hrel (by simp [execOp, ho, hrun]) hr hK
      · cases h1
    · cases h1
  · cases hchk
 | iaddr arr sz x i =>
  simp only [chkOp] at hchk
  split at hchk
  · rename_i t x' i' ho
    simp only [Bool.and_eq_true] at hchk
    obtain ⟨⟨h1, h2⟩, h3⟩ := hchk
    obtain ⟨v, hv, hK⟩ := h
    have key : ∃ e inf, (match arr with | none => C.P.underlying t = some (.slice e) | some n => C.P.underlying t = some (.array n e)) ∧ C.P.info? e = some inf ∧ inf.size = sz := by
     split at h1
     · split at h1
       · rename_i e hel
         obtain ⟨inf, hi, hs⟩ := sizeIs_inv h1
         exact ⟨e, inf, elemOfSlice_inv hel, hi, hs⟩
       · cases h1
     · split at h1
       · rename_i n' e hel
         simp only [Bool.and_eq_true, beq_iff_eq] at h1
         obtain ⟨rfl, h1⟩ := h1
         obtain ⟨inf, hi, hs⟩ := sizeIs_inv h1
         exact ⟨e, inf, elemOfArray_inv hel, hi, hs⟩
       · cases h1
    obtain ⟨e, inf, ht, hi, hs⟩ := key
    obtain ⟨V, hrun, hr⟩ := aiaddr_sound (P := C.P) ht hi hs hv (chkO_sound hG he h2) (chkO_sound hG he h3)
    exact wp_pure hrel (by simp [execOp, ho, hrun]) hr hK
  · cases hchk
 | slice sz x lo hi mx =>
  simp only [chkOp] at hchk
  split at hchk
  · rename_i t x' lo' hi' mx' ho
    simp only [Bool.and_eq_true] at hchk
    obtain ⟨⟨⟨⟨⟨h1, h2⟩, h3⟩, h4⟩, h5⟩, h6⟩ := hchk
    obtain ⟨v, hv, hK⟩ := h
    split at h1
    · rename_i e hel
      obtain ⟨inf, hinf, hs⟩ := sizeIs_inv h1
      obtain ⟨V, hrun, hr⟩ := aslice_sound (P := C.P) (elemOfSlice_inv hel) hinf hs (fun hm => by cases mx <;> cases hi <;> simp at h6 hm ⊢) hv (chkO_sound hG he h2) (chkOo_sound hG he h3) (chkOo_sound hG he h4) (chkOo_sound hG he h5)
      exact wp_pure hrel (by simp [execOp, ho, hrun]) hr hK
    · cases h1
  · cases hchk
 | sslice x lo hi =>
  simp only [chkOp] at hchk
  split at hchk
  · rename_i t x' lo' hi' mx' ho
    simp only [Bool.and_eq_true] at hchk
    obtain ⟨⟨⟨⟨h1, h2⟩, h3⟩, h4⟩, h5⟩ := hchk
    obtain ⟨v, hv, hK⟩ := h
    cases mx' with
    | some _ => simp at h5
    | none =>
    split at h1
    · rename_i ht
      obtain ⟨V, hrun, hr⟩ := asslice_sound (P := C.P) ht hv (chkO_sound hG he h2) (chkOo_sound hG he h3) (chkOo_sound hG he h4)
      exact wp_pure hrel (by simp [execOp, ho, hrun]) hr hK
    · cases h1
  · cases hchk
 | mkif t x =>
  simp only [chkOp] at hchk
  split at hchk
  · rename_i t' x' ho
    simp only [Bool.and_eq_true, beq_iff_eq] at hchk
    obtain ⟨⟨rfl, h1⟩, h2⟩ := hchk
    refine wp_pure hrel (V := .iface t (a.eval x')) ?_ (.iface _ _ _ (chkO_sound hG he h2)) h
    split at h1
    · cases h1
    · rename_i d hne hd
      have : (Instr.makeInterface t (a.eval x')).run C.P w = .ok (.iface t (a.eval x')) w := by
       simp only [Instr.makeInterface, Sem.run_bind, run_underlying hd, Result.andThen_ok]
       cases d <;> first | rfl | (exact absurd rfl (hne _))
      simp [execOp, ho, this]
    · cases h1
  · cases hchk
 | mkfn key caps =>
  simp only [chkOp] at hchk
  split at hchk
  · rename_i f first caps' ho
    cases hb : bkey key with
    | none =>
     simp only [hb, Bool.and_eq_true, beq_iff_eq] at hchk
     obtain ⟨⟨h1, h2⟩, h3⟩ := hchk
     have hz : first = #[] := by simpa using h2
     subst hz
     have hc := chkOs_sound hG he h3
     refine wp_pure hrel (V := .func (.func f) #[] (caps'.map a.eval)) (by simp [execOp, ho, Instr.makeFunc]) ?_ h
     have hm : (List.map a.eval caps'.toList).toArray = caps'.map a.eval := by apply Array.ext'; simp
     rw [hm] at hc
     exact .fn key _ f _ hb h1 hc.1 hc.2
    | some k =>
     simp only [hb, Bool.and_eq_true, beq_iff_eq] at hchk
     obtain ⟨⟨h1, h2⟩, h3⟩ := hchk
     have hz : caps' = #[] := by simpa using h2
     subst hz
     have hc := chkOs_sound hG he h3
     refine wp_pure hrel (V := .func (.func f) (first.map a.eval) #[]) (by simp [execOp, ho, Instr.makeFunc]) ?_ h
     have hm : (List.map a.eval first.toList).toArray = first.map a.eval := by apply Array.ext'; simp
     rw [hm] at hc
     exact .bfn key k _ f _ hb h1 hc.1 hc.2
  · cases hchk
 | extract i x =>
  simp only [chkOp] at hchk
  split at hchk
  · rename_i x' i' ho
    simp only [Bool.and_eq_true, beq_iff_eq] at hchk
    obtain ⟨rfl, h2⟩ := hchk
    obtain ⟨v, hv, hK⟩ := h
    obtain ⟨V, hrun, hr⟩ := aextract_sound (P := C.P) hv (chkO_sound hG he h2)
    exact wp_pure hrel (by simp [execOp, ho, hrun]) hr hK
  · cases hchk
 | build zero parts =>
  simp only [chkOp] at hchk
  split at hchk
  · rename_i t ps ho
    simp only [Bool.and_eq_true] at hchk
    obtain ⟨⟨h1, h2⟩, h3⟩ := hchk
    obtain ⟨v, hv, hK⟩ := h
    split at h1
    · rename_i inf hinf
      split at h1
      · rename_i z hz
        obtain ⟨hl, hps⟩ := chkParts_sound hG he h3
        obtain ⟨V, hrun, hr⟩ := build_run hinf hz h1 h2 hl hps hv
        refine wp_pure hrel (V := V) ?_ hr hK
        have hm : (ps.map fun (x : Nat × Operand) => (x.1, a.eval x.2)) = (ps.toList.map fun x => (x.1, a.eval x.2)).toArray := by apply Array.ext'; simp
        simp only [execOp, ho, hm, Sem.run_bind, hrun, Result.andThen_ok, Sem.run_pure]
      · cases h1
    · cases h1
  · cases hchk
 | len str x =>
  simp only [chkOp] at hchk
  split at hchk
  · rename_i args argTypes ho
    split at hchk
    · rename_i x' t hargs htys
      simp only [Bool.and_eq_true] at hchk
      obtain ⟨h1, h2⟩ := hchk
      obtain ⟨v, hv, hK⟩ := h
      obtain rfl := list_toArray_eq hargs
      obtain rfl := list_toArray_eq htys
      have key : ∃ d, C.P.underlying t = some d ∧ (if str then d = .string else ∃ e, d = .slice e) := by
       split at h2
       · rename_i ht; exact ⟨_, ht, by simp [h2]⟩
       · rename_i e ht; exact ⟨_, ht, by simp at h2; simp [h2]⟩
       · cases h2
      obtain ⟨d, hd, hk⟩ := key
      obtain ⟨V, hrun, hr⟩ := alen_sound (P := C.P) (ty := o.type) hd hk hv (chkO_sound hG he h1)
      exact wp_pure hrel (by simp [execOp, ho, resolve, invoke, builtin, hrun]) hr hK
    · cases hchk
  · cases hchk
 | cap x =>
  simp only [chkOp] at hchk
  split at hchk
  · rename_i args argTypes ho
    split at hchk
    · rename_i x' t hargs htys
      simp only [Bool.and_eq_true] at hchk
      obtain ⟨h1, h2⟩ := hchk
      obtain ⟨v, hv, hK⟩ := h
      obtain rfl := list_toArray_eq hargs
      obtain rfl := list_toArray_eq htys
      split at h2
      · rename_i e ht
        have hxv := chkO_sound hG he h1
        generalize x.ev env = y at hv hxv
        generalize hX : a.eval x' = X at hxv
        unfold acap at hv
        split at hv
        · cases hv
          cases hxv with
          | lstnil => exact wp_pure hrel (by simp [execOp, ho, resolve, invoke, builtin, hX, Builtin.cap_, run_underlying ht, goInt]) (.int _ _) hK
          | lst _ _ _ b o' cap Vs htk hle h hv => exact htk.elim
        · cases hv
      · cases h2
    · cases hchk
  · cases hchk
 | lenk n =>
  simp only [chkOp] at hchk
  split at hchk
  · rename_i args argTypes ho
    split at hchk
    · rename_i x' t hargs htys
      obtain rfl := list_toArray_eq hargs
      obtain rfl := list_toArray_eq htys
      split at hchk
      · rename_i n' e ht
        simp at hchk
        subst hchk
        refine wp_pure hrel (V := .int .i64 n) ?_ (.int _ _) h
        simp [execOp, ho, resolve, invoke, builtin, Builtin.len_, run_underlying ht, goInt]
      · cases hchk
    · cases hchk
  · cases hchk
 | minmax mx xs =>
  simp only [chkOp] at hchk
  split at hchk
  · rename_i b args tys ho
    simp only [Bool.and_eq_true] at hchk
    obtain ⟨h1, h2⟩ := hchk
    obtain ⟨v, hv, hK⟩ := h
    have hc := chkOs_sound hG he h2
    unfold aminmax at hv
    split at hv
    · rename_i k n r hxs
      rw [hxs] at hc
      have hne : ∃ X Xs, args.toList.map a.eval = X :: Xs := by
       cases hl : args.toList.map a.eval with
       | nil => rw [hl] at hc; have := hc.1; simp at this
       | cons X Xs => exact ⟨X, Xs, rfl⟩
      obtain ⟨X, Xs, hXs⟩ := hne
      rw [hXs] at hc
      have hX := hc.2 0 _ X rfl (by simp)
      obtain ⟨V, hrun, hr⟩ := mmAll_sound (P := C.P) r Xs _ v X hv hX (by have := hc.1; simp at this; omega) fun j c U hj hU => hc.2 (j + 1) c U (by simpa using hj) (by simpa using hU)
      refine wp_pure hrel (V := V) ?_ hr hK
      have hm : (args.map a.eval).toList = X :: Xs := by simpa using hXs
      split at h1
      · subst h1
        simp only [if_true] at hrun
        simp [execOp, ho, resolve, invoke, builtin, Builtin.max_, hXs, hrun]
      · simp at h1
        subst h1
        simp only [Bool.false_eq_true, if_false] at hrun
        simp [execOp, ho, resolve, invoke, builtin, Builtin.min_, hXs, hrun]
      · cases h1
    · cases hv
  · cases hchk
 | load n agg x =>
  simp only [chkOp] at hchk
  split at hchk
  · rename_i t x' ho
    simp only [Bool.and_eq_true] at hchk
    obtain ⟨v, hv, hK⟩ := h
    obtain ⟨V, hrun, hr⟩ := aload_sound (P := C.P) hchk.1 hrel hv (chkO_sound hG he hchk.2)
    exact wp_pure hrel (by simp [execOp, ho, hrun]) hr hK
  · cases hchk
 | store n x v =>
  simp only [chkOp] at hchk
  split at hchk
  · rename_i t x' v' ho
    simp only [Bool.and_eq_true, Bool.or_eq_true] at hchk
    obtain ⟨⟨h1, h2⟩, h3⟩ := hchk
    obtain ⟨H', hv, hK⟩ := h
    have key : ∃ agg, tyOk C.P t n agg = true := by rcases h1 with h1 | h1 <;> exact ⟨_, h1⟩
    obtain ⟨agg, hty⟩ := key
    obtain ⟨w', hrun, hr, hst⟩ := astore_sound (P := C.P) hty hrel hv (chkO_sound hG he h2) (chkO_sound hG he h3)
    exact wp_skip' (by simp [execOp, ho, hrun]) ⟨_, H', G, undef, rfl, hK, undef_vr, hr, hst⟩
  · cases hchk
 | box mu n x =>
  simp only [chkOp] at hchk
  split at hchk
  · rename_i t x' ho
    obtain ⟨v, H', hv, hK⟩ := h
    have hg := aboxv_sound (P := C.P) (t := t) hrel hv (chkO_sound hG he hchk)
    exact wp_gave hg (by simp [execOp, ho]) hK
  · cases hchk
 | alloc mu zero =>
  simp only [chkOp] at hchk
  split at hchk
  · rename_i t ho
    obtain ⟨v, H', hv, hK⟩ := h
    split at hchk
    · rename_i inf hinf
      split at hchk
      · rename_i z hz
        have hz0 := constsOk_sound (C := C) (w := w) (G := G) hchk
        have hg := aalloc_sound (P := C.P) (t := t) (mu := mu) hrel hinf hz (by simpa using hz0)
        have e := Option.some.inj hv
        rw [e] at hg
        exact wp_gave hg (by simp [execOp, ho]) hK
      · cases hchk
    · cases hchk
  · cases hchk
 | bslice mu sz len zero parts =>
  simp only [chkOp] at hchk
  split at hchk
  · rename_i t len' ps ho
    obtain ⟨v, H', hv, hK⟩ := h
    split at hchk
    · rename_i e hel
      simp only [Bool.and_eq_true, beq_iff_eq, decide_eq_true_eq] at hchk
      obtain ⟨⟨⟨⟨h1, h2⟩, rfl⟩, h4⟩, h5⟩ := hchk
      split at h1
      · rename_i inf0 hinf0
        obtain ⟨inf, z, hinf, hs, hb, hz, hzs, hzc⟩ := zeroIs_inv (F := C.F) h1
        have hz0 := constsOk_sound (C := C) (w := w) (G := G) hzc
        obtain ⟨hl, hps⟩ := chkParts_sound hG he h5
        have hg := abslice_sound (P := C.P) hrel (elemOfSlice_inv hel) hinf hs hz (by simpa using hz0) h2 h4 hl (fun j q p hq hp => by
          obtain ⟨e1, e2⟩ := hps j q p hq hp
          exact ⟨Option.some.inj e1, e2⟩) hv
        have hm : (ps.map fun (x : Nat × Operand) => (x.1, a.eval x.2)) = (ps.toList.map fun x => (x.1, a.eval x.2)).toArray := by apply Array.ext'; simp
        exact wp_gave hg (by simp only [execOp, ho, hm, Sem.run_bind, Sem.run_pure]) hK
      · cases h1
    · cases hchk
  · cases hchk
 | append mu sz bytes x y =>
  simp only [chkOp] at hchk
  split at hchk
  · rename_i args argTypes ho
    split at hchk
    · rename_i x' y' t t' hargs htys
      simp only [Bool.and_eq_true, beq_iff_eq] at hchk
      obtain ⟨⟨⟨rfl, h1⟩, h2⟩, h3⟩ := hchk
      obtain ⟨v, H', hv, hK⟩ := h
      obtain rfl := list_toArray_eq hargs
      obtain rfl := list_toArray_eq htys
      split at h3
      · rename_i e hel
        split at h3
        · rename_i inf hinf
          simp only [Bool.and_eq_true, beq_iff_eq, decide_eq_true_eq] at h3
          obtain ⟨⟨⟨hs, hb⟩, hz⟩, hsz⟩ := h3
          split at hz
          · rename_i z hz'
            have hg := aappend_sound (P := C.P) (ty := o.type) hrel (elemOfSlice_inv hel) hinf hs hb hz' (by simpa using hz) hsz hv (chkO_sound hG he h1) (chkO_sound hG he h2)
            exact wp_gave hg (by simp [execOp, ho, resolve, invoke, builtin]) hK
          · cases hz
        · cases h3
      · cases h3
    · cases hchk
  · cases hchk
 | make mu sz bytes zero len cap =>
  simp only [chkOp] at hchk
  split at hchk
  · rename_i t l c ho
    simp only [Bool.and_eq_true] at hchk
    obtain ⟨⟨h1, h2⟩, h3⟩ := hchk
    obtain ⟨v, H', hv, hK⟩ := h
    split at h3
    · rename_i e hel
      obtain ⟨inf, z, hinf, hs, hb, hz, hzs, hzc⟩ := zeroIs_inv (F := C.F) h3
      have hz0 := constsOk_sound (C := C) (w := w) (G := G) hzc
      have hg := amake_sound (P := C.P) hrel (elemOfSlice_inv hel) hinf hs hb hz (by simpa using hz0) hv (chkO_sound hG he h1) (chkO_sound hG he h2)
      exact wp_gave hg (by simp [execOp, ho]) hK
    · cases h3
  · cases hchk
 | call key args =>
  simp only [chkOp] at hchk
  split at hchk
  · rename_i f args' tys ho
    simp only [Bool.and_eq_true, beq_iff_eq] at hchk
    obtain ⟨⟨h1, h2⟩, h3⟩ := hchk
    have hc := h.2 f h1 G w _ hGX hrel (chkOs_sound hG he h3)
    have hm : (args'.toList.map a.eval).toArray = args'.map a.eval := by apply Array.ext'; simp
    rw [hm] at hc
    have hrun : (execOp a.eval o).run C.P w = .ok (.enter f (args'.map a.eval)) w := by
     simp [execOp, ho, resolve, Act.eval, Deferred.ofValue, invoke, callFunc_good h2]
    unfold Oper.wp
    rw [hrun]
    refine Calls.mono hc fun e w' he' => ?_
    obtain ⟨V, v, H', G', rfl, hQ, hv, hr, hst⟩ := he'
    exact ⟨v, H', G', V, rfl, hQ, hv, hr, hst⟩
  · cases hchk
 | callv f args =>
  simp only [chkOp] at hchk
  split at hchk
  · rename_i f' args' tys ho
    simp only [Bool.and_eq_true] at hchk
    obtain ⟨h1, h3⟩ := hchk
    obtain ⟨key, caps, hf, h⟩ := h
    have hfv := chkO_sound hG he h1
    rw [hf] at hfv
    have key2 : (∃ fid Vs, a.eval f' = .func (.func fid) #[] Vs ∧ bkey key = none ∧ C.F key = some fid ∧ VRs C.F w G caps Vs) ∨ ∃ k fid Vs, a.eval f' = .func (.func fid) Vs #[] ∧ bkey key = some k ∧ C.F k = some fid ∧ VRs C.F w G caps Vs := by
     generalize a.eval f' = X at hfv
     cases hfv with
     | fn _ _ fid Vs hk hF' hl hv => exact .inl ⟨fid, Vs, rfl, hk, hF', hl, hv⟩
     | bfn _ k _ fid Vs hk hF' hl hv => exact .inr ⟨k, fid, Vs, rfl, hk, hF', hl, hv⟩
    have hm : (args'.toList.map a.eval).toArray = args'.map a.eval := by apply Array.ext'; simp
    obtain ⟨fid, As, hkey, hargs, hrun⟩ : ∃ fid As, C.F (fkey key) = some fid ∧ VRs C.F w G (fargs key (evs env args) caps) As ∧ (execOp a.eval o).run C.P w = .ok (.enter fid As) w := by
     rcases key2 with ⟨fid, Vs, hX, hk, hkey, hVs⟩ | ⟨k, fid, Vs, hX, hk, hkey, hVs⟩
     · rw [fkey_none hk, fargs_none hk]
       have hargs := (chkOs_sound hG he h3).app hVs
       rw [hm] at hargs
       refine ⟨fid, args'.map a.eval ++ Vs, hkey, hargs, ?_⟩
       simp [execOp, ho, resolve, hX, Deferred.ofValue, invoke, callFunc_good (hF key fid hkey)]
     · rw [fkey_some hk, fargs_some hk]
       have hargs := hVs.app (chkOs_sound hG he h3)
       rw [hm] at hargs
       refine ⟨fid, Vs ++ args'.map a.eval, hkey, hargs, ?_⟩
       simp [execOp, ho, resolve, hX, Deferred.ofValue, invoke, callFunc_good (hF _ fid hkey)]
    have hc := h.2 fid hkey G w _ hGX hrel hargs
    unfold Oper.wp
    rw [hrun]
    refine Calls.mono hc fun e w' he' => ?_
    obtain ⟨V, v, H', G', rfl, hQ, hv, hr, hst⟩ := he'
    exact ⟨v, H', G', V, rfl, hQ, hv, hr, hst⟩
  · cases hchk
 | ext e xs =>
  simp only [chkOp] at hchk
  obtain ⟨v, H', hv, hK⟩ := h
  cases e with
  | stuck => simp [aext] at hv
  | tassert t =>
   simp only [chkExt] at hchk
   split at hchk
   · rename_i x' xT t' ok x ho
     simp only [Bool.and_eq_true, beq_iff_eq, Bool.not_eq_true'] at hchk
     obtain ⟨⟨⟨rfl, rfl⟩, hD⟩, hx⟩ := hchk
     have hxv := chkO_sound hG he hx
     simp only [evs, List.map_cons, List.map_nil] at hv
     generalize x.ev env = y at hv hxv
     cases y <;> try (simp [aext] at hv; done)
     rename_i t'' u
     simp only [aext] at hv
     split at hv
     · rename_i ht
       subst ht
       simp only [Option.some.injEq, Prod.mk.injEq] at hv
       obtain ⟨rfl, rfl⟩ := hv
       generalize hX : a.eval x' = X at hxv
       cases hxv with
       | iface _ _ V h1 =>
        split at hD
        · rename_i d hd
          exact wp_pure hrel (by simp [execOp, ho, hX, run_tassert hd hD]) h1 hK
        · cases hD
     · cases hv
   · cases hchk
  | bnew t0 =>
   simp only [chkExt] at hchk
   split at hchk
   · rename_i t ho
     simp only [Bool.and_eq_true, beq_iff_eq] at hchk
     obtain ⟨rfl, hD⟩ := hchk
     split at hD
     · rename_i inf hinf
       split at hD
       · rename_i z hz
         simp only [evs, List.map_nil] at hv
         simp only [aext, Option.some.injEq, Prod.mk.injEq] at hv
         obtain ⟨rfl, rfl⟩ := hv
         have hc : z.cells = #[.pointer none, .slice none 0 0] := builder_cells hD
         have hg := abnew_sound (P := C.P) (t := t) hrel hinf hz hc
         exact wp_gave hg (by simp [execOp, ho]) hK
       · cases hD
     · cases hD
   · rename_i t x' x ho
     simp only [Bool.and_eq_true, beq_iff_eq] at hchk
     obtain ⟨rfl, hx⟩ := hchk
     have hxv := chkO_sound hG he hx
     simp only [evs, List.map_cons, List.map_nil] at hv
     generalize x.ev env = y at hv hxv
     have hy : y = .agg [.nilp, .lst .nil 0 []] ∧ v = .ptr H.n 0 ∧ H' = H.push (.bld t false none) := by
      unfold aext at hv
      split at hv <;> simp_all
     obtain ⟨rfl, rfl, rfl⟩ := hy
     have hg := abnewv_sound (P := C.P) (t := t) hrel hxv
     exact wp_gave hg (by simp [execOp, ho]) hK
   · cases hchk
  | ptreq neg =>
   simp only [chkExt] at hchk
   split at hchk
   · rename_i op' t x' y' yt x y ho
     simp only [Bool.and_eq_true, beq_iff_eq] at hchk
     obtain ⟨⟨⟨rfl, hD⟩, h1⟩, h2⟩ := hchk
     split at hD
     · rename_i e ht
       split at hD
       · rename_i j hj
         simp only [evs, List.map_cons, List.map_nil] at hv
         obtain ⟨V, hrun, hr, rfl⟩ := aext_ptreq (P := C.P) (p := x') (q := y') hrel ht hj (by simpa using hD) hv (chkO_sound hG he h1) (chkO_sound hG he h2)
         exact wp_pure hrel (by simp only [execOp, ho, Sem.run_bind] at hrun ⊢; rw [hrun]; rfl) hr hK
       · cases hD
     · cases hD
   · cases hchk
  | grow sz bytes zero =>
   simp only [chkExt] at hchk
   split at hchk
   · rename_i args argTypes x y ho
     split at hchk
     · rename_i x' y' t it hargs htys
       simp only [Bool.and_eq_true] at hchk
       obtain ⟨⟨⟨h1, h2⟩, hk⟩, h3⟩ := hchk
       obtain rfl := list_toArray_eq hargs
       obtain rfl := list_toArray_eq htys
       split at hk
       · rename_i k hit
         split at h3
         · rename_i e hel
           split at h3
           · rename_i inf hinf
             simp only [Bool.and_eq_true, beq_iff_eq] at h3
             obtain ⟨⟨hs, hb⟩, h3⟩ := h3
             split at h3
             · rename_i z hz
               simp only [evs, List.map_cons, List.map_nil] at hv
               have hg := aext_grow (P := C.P) (ty := o.type) hrel (elemOfSlice_inv hel) hit hinf hs hb hz (by simpa using constsOk_sound (C := C) (w := w) (G := G) h3) hv (chkO_sound hG he h1) (chkO_sound hG he h2)
               exact wp_gave hg (by simp [execOp, ho, resolve, invoke, builtin]) hK
             · cases h3
           · cases h3
         · cases h3
       · cases hk
     · cases hchk
   · cases hchk
  | clear sz zero =>
   simp only [chkExt] at hchk
   split at hchk
   · rename_i args argTypes x ho
     split at hchk
     · rename_i x' t hargs htys
       simp only [Bool.and_eq_true] at hchk
       obtain ⟨h1, h3⟩ := hchk
       obtain rfl := list_toArray_eq hargs
       obtain rfl := list_toArray_eq htys
       split at h3
       · rename_i e hel
         split at h3
         · rename_i inf hinf
           split at h3
           · rename_i z hz
             simp only [Bool.and_eq_true, beq_iff_eq] at h3
             simp only [evs, List.map_cons, List.map_nil] at hv
             have hg := aext_clear (P := C.P) (ty := o.type) hrel (elemOfSlice_inv hel) hinf hz (by simpa using constsOk_sound (C := C) (w := w) (G := G) h3.2) hv (chkO_sound hG he h1)
             exact wp_gave hg (by simp [execOp, ho, resolve, invoke, builtin]) hK
           · cases h3
         · cases h3
       · cases h3
     · cases hchk
   · cases hchk
 | inv tbl x args =>
  simp only [chkOp] at hchk
  split at hchk
  · rename_i x' name args' tys ho
    simp only [Bool.and_eq_true] at hchk
    obtain ⟨⟨h1, h2⟩, h3⟩ := hchk
    obtain ⟨t, v, r, u, hx, hr, hu, h⟩ := h
    have hxv := chkO_sound hG he h1
    rw [hx] at hxv
    obtain ⟨V, hX, hV⟩ : ∃ V, a.eval x' = .iface t V ∧ VR C.F w G v V := by
     generalize a.eval x' = X at hxv
     cases hxv with
     | iface _ _ V h => exact ⟨V, rfl, h⟩
    obtain ⟨f, U, hkey, hgood, hrun, hU⟩ := inv_sound hrel (chkInv_mem h3 hr) hV hu
    have hargs := (VRs.one hU).app (chkOs_sound hG he h2)
    have hm : (args'.toList.map a.eval).toArray = args'.map a.eval := by apply Array.ext'; simp
    rw [hm] at hargs
    have hc := h.2 f hkey G w _ hGX hrel hargs
    have hrun2 : (execOp a.eval o).run C.P w = .ok (.enter f (#[U] ++ args'.map a.eval)) w := by
     have h0 : (#[Value.iface t V] ++ args'.map a.eval)[0]? = some (.iface t V) := by simp [Array.getElem?_append]
     have hx0 : (args'.map a.eval).extract 0 args'.size = args'.map a.eval := by
      have := Array.extract_size (xs := args'.map a.eval)
      rwa [Array.size_map] at this
     simp [execOp, ho, resolve, hX, invoke, callMethod, h0, hx0, hrun, callFunc_good hgood]
    unfold Oper.wp
    rw [hrun2]
    refine Calls.mono hc fun e w' he' => ?_
    obtain ⟨V, v, H', G', rfl, hQ, hv, hr, hst⟩ := he'
    exact ⟨v, H', G', V, rfl, hQ, hv, hr, hst⟩
  · cases hchk
 | sbytes x =>
  simp only [chkOp] at hchk
  split at hchk
  · rename_i s d x' ho
    simp only [Bool.and_eq_true] at hchk
    obtain ⟨h1, h2⟩ := hchk
    obtain ⟨v, hv, hK⟩ := h
    split at h1
    · rename_i e hs hd
      split at h1
      · rename_i he8
        have hg := asbytes_sound (P := C.P) hrel hs hd he8 hv (chkO_sound hG he h2)
        exact wp_gave hg (by simp [execOp, ho]) hK
      · cases h1
    · cases h1
  · cases hchk
 | bstr x =>
  simp only [chkOp] at hchk
  split at hchk
  · rename_i s d x' ho
    simp only [Bool.and_eq_true] at hchk
    obtain ⟨h1, h2⟩ := hchk
    obtain ⟨v, hv, hK⟩ := h
    split at h1
    · rename_i e hs hd
      split at h1
      · rename_i he8
        obtain ⟨V, hr, hV⟩ := abstr_sound (P := C.P) hrel hs he8 hd hv (chkO_sound hG he h2)
        exact wp_pure hrel (by simp [execOp, ho, hr]) hV hK
      · cases h1
    · cases h1
  · cases hchk
 | srange x =>
  simp only [chkOp] at hchk
  split at hchk
  · rename_i t x' ho
    simp only [Bool.and_eq_true] at hchk
    obtain ⟨h1, h2⟩ := hchk
    obtain ⟨v, H', hv, hK⟩ := h
    split at h1
    · rename_i ht
      have hg := asrange_sound (P := C.P) hrel ht hv (chkO_sound hG he h2)
      exact wp_gave hg (by simp [execOp, ho]) hK
    · cases h1
  · cases hchk
 | snext x =>
  simp only [chkOp] at hchk
  split at hchk
  · rename_i x' ho
    obtain ⟨v, H', hv, hK⟩ := h
    have hg := asnext_sound (P := C.P) (t := o.type) hrel hv (chkO_sound hG he hchk)
    exact wp_gave hg (by simp [execOp, ho]) hK
  · cases hchk
 | copy sz x y =>
  simp only [chkOp] at hchk
  split at hchk
  · rename_i args argTypes ho
    split at hchk
    · rename_i x' y' t t' hargs htys
      simp only [Bool.and_eq_true] at hchk
      obtain ⟨⟨h1, h2⟩, h3⟩ := hchk
      obtain ⟨v, H', hv, hK⟩ := h
      obtain rfl := list_toArray_eq hargs
      obtain rfl := list_toArray_eq htys
      split at h3
      · rename_i e hel
        unfold sizeIs at h3
        split at h3
        · rename_i inf hinf
          have hg := acopy_sound (P := C.P) (ty := o.type) (t2 := t') hrel (elemOfSlice_inv hel) hinf (by simpa using h3) hv (chkO_sound hG he h1) (chkO_sound hG he h2)
          exact wp_gave hg (by simp [execOp, ho, resolve, invoke, builtin]) hK
        · cases h3
      · cases h3
    · cases hchk
  · cases hchk
 | mkmap =>
  simp only [chkOp] at hchk
  split at hchk
  · rename_i t r ho
    have hr : r = none := by simpa using hchk
    subst hr
    have hg := amkmap_sound (P := C.P) (t := t) hrel
    exact wp_gave hg (by simp [execOp, ho]) h
  · cases hchk
 | lookup kk zero ok m k =>
  simp only [chkOp] at hchk
  split at hchk
  · rename_i t m' k' ok' ho
    simp only [Bool.and_eq_true, beq_iff_eq] at hchk
    obtain ⟨⟨⟨rfl, h1⟩, h2⟩, h3⟩ := hchk
    obtain ⟨v, hv, hK⟩ := h
    split at h1
    · rename_i kt et ht
      simp only [Bool.and_eq_true] at h1
      obtain ⟨hk, hz⟩ := h1
      split at hz
      · rename_i inf hinf
        split at hz
        · rename_i z hzz
          obtain ⟨V, hr, hV⟩ := alookup_sound (P := C.P) hrel ht hk hinf hzz (constOk_sound hz) hv (chkO_sound hG he h2) (chkO_sound hG he h3)
          exact wp_pure hrel (by simp [execOp, ho, hr]) hV hK
        · cases hz
      · cases hz
    · cases h1
  · cases hchk
 | mapup kk m k v =>
  simp only [chkOp] at hchk
  obtain ⟨H', hv, hK⟩ := h
  have fin : ∀ (t : TypeId) (m' k' v' : Operand), (execOp a.eval o = (do Instr.mapUpdate t (a.eval m') (a.eval k') (a.eval v'); pure Next.skip)) → (match C.P.underlying t with | some (.map kt _) => keyKind C.P kt kk | _ => false) && chkO C m' m && chkO C k' k && chkO C v' v → o.wp C.P a w (OpPost C w G H K a o.dst) Q := by
   intro t m' k' v' hex hc
   simp only [Bool.and_eq_true] at hc
   obtain ⟨⟨⟨h1, h2⟩, h3⟩, h4⟩ := hc
   split at h1
   · rename_i kt et ht
     obtain ⟨w', hrun, hr, hst⟩ := amapup_sound (P := C.P) hrel ht h1 hv (chkO_sound hG he h2) (chkO_sound hG he h3) (chkO_sound hG he h4)
     exact wp_skip' (by rw [hex]; simp [hrun]) ⟨_, H', G, undef, rfl, hK, undef_vr, hr, hst⟩
   · cases h1
  split at hchk
  · rename_i t m' k' v' ho
    exact fin t m' k' v' (by simp only [execOp, ho]) hchk
  · rename_i t m' k' v' ho
    exact fin t m' k' v' (by simp only [execOp, ho]) hchk
  · cases hchk
 | delete kk m k =>
  simp only [chkOp] at hchk
  split at hchk
  · rename_i args argTypes ho
    split at hchk
    · rename_i m' k' t t' hargs htys
      simp only [Bool.and_eq_true] at hchk
      obtain ⟨⟨h1, h2⟩, h3⟩ := hchk
      obtain ⟨H', hv, hK⟩ := h
      obtain rfl := list_toArray_eq hargs
      obtain rfl := list_toArray_eq htys
      split at h3
      · rename_i kt et ht
        obtain ⟨w', hrun, hr, hst⟩ := adelete_sound (P := C.P) (t' := t') (ty := o.type) hrel ht h3 hv (chkO_sound hG he h1) (chkO_sound hG he h2)
        refine wp_value (V := .tuple #[]) (by simp [execOp, ho, resolve, invoke, builtin, hrun]) ⟨_, H', G, _, rfl, hK, undef_vr, hr, hst⟩
      · cases h3
    · cases hchk
  · cases hchk
 | maplen m =>
  simp only [chkOp] at hchk
  split at hchk
  · rename_i args argTypes ho
    split at hchk
    · rename_i m' t hargs htys
      simp only [Bool.and_eq_true] at hchk
      obtain ⟨h1, h2⟩ := hchk
      obtain ⟨v, hv, hK⟩ := h
      obtain rfl := list_toArray_eq hargs
      obtain rfl := list_toArray_eq htys
      split at h2
      · rename_i kt et ht
        obtain ⟨V, hrun, hV⟩ := amaplen_sound (P := C.P) (ty := o.type) hrel ht hv (chkO_sound hG he h1)
        exact wp_pure hrel (by simp [execOp, ho, resolve, invoke, builtin, hrun]) hV hK
      · cases h2
    · cases hchk
  · cases hchk
end
end Rb
