/- A part of the proof (part 3): see the last text. -/
import Derived.Test.YtbkkoplgicffgaaGreatDoorRb2
import Derived.Below
import Derived.Lib.FrozenHead
import Derived.Deep.DeepAppendWide
import Derived.WalkKit
import Derived.Test.YtbkkoplgicffgaaGreatDoorRb1
import Derived.Test.YtbkkoplgicffgaaGreatDoorRows
import Derived.KernelRfl
import Derived.ProofKit
import Derived.Lib.Bytealg
import Derived.Laws.Externs
import Derived.Lib.UnsafeStr
import Derived.Lib.FrozenHead2
import Derived.BigRegionIn
import Derived.Stop.LaidErr
import Derived.ChangeBears2
import Derived.Test.YtbkkoplgicffgaaGreatDoorTie
import Derived.Test.YtbkkoplgicffgaaGreatDoorCards
import Derived.Shelf.Strconv.Itoa3
import Derived.Lib.ItoaMem
set_option linter.unusedVariables false
set_option linter.unusedSimpArgs false
namespace Rb
open Go
def AH.Ext (H H' : AH) : Prop := H.n ≤ H'.n ∧ ∀ i, i < H.n → H'.o i = H.o i
theorem AH.Ext.refl (H : AH) : AH.Ext H H := ⟨Nat.le_refl _, fun _ _ => rfl⟩
theorem AH.Ext.trans {a b c : AH} (h : AH.Ext a b) (k : AH.Ext b c) : AH.Ext a c := ⟨Nat.le_trans h.1 k.1, fun i hi => (k.2 i (Nat.lt_of_lt_of_le hi h.1)).trans (h.2 i hi)⟩
theorem AH.Ext.push (H : AH) (x : AObj) : AH.Ext H (H.push x) := ⟨Nat.le_succ _, fun i hi => if_neg (Nat.ne_of_lt hi)⟩
theorem AH.Ext.set {H H' : AH} (h : AH.Ext H H') {i : Nat} (hi : H.n ≤ i) (x : AObj) : AH.Ext H (H'.set i x) := ⟨h.1, fun j hj => by
  simp only [AH.set]; rw [if_neg (by omega)]; exact h.2 j hj⟩
@[simp] theorem AH.push_n (H : AH) (x : AObj) : (H.push x).n = H.n + 1 := rfl
@[simp] theorem AH.set_n (H : AH) (i : Nat) (x : AObj) : (H.set i x).n = H.n := rfl
theorem AH.push_self (H : AH) (x : AObj) : (H.push x).o H.n = x := if_pos rfl
theorem AH.push_ne (H : AH) (x : AObj) {i : Nat} (h : i ≠ H.n) : (H.push x).o i = H.o i := if_neg h
theorem AH.set_self (H : AH) (i : Nat) (x : AObj) : (H.set i x).o i = x := if_pos rfl
theorem AH.set_ne (H : AH) {i j : Nat} (x : AObj) (h : j ≠ i) : (H.set i x).o j = H.o j := if_neg h
theorem wrap_i64 {n : Int} (h1 : -9223372036854775808 ≤ n) (h2 : n ≤ 9223372036854775807) : IntKind.wrap .i64 n = n := by
 simp [IntKind.wrap, IntKind.signed, IntKind.bits]; omega
def Lst (H0 H : AH) (sz : Nat) (x : AV) (len : Nat) (cells : List AV) : Prop :=
 AH.Ext H0 H ∧ ∃ tk, x = .lst tk len cells ∧ cells.length = len * sz ∧ ((tk = .nil ∧ len = 0) ∨ ∃ t, tk = .own t ∧ H0.n ≤ t ∧ t < H.n ∧ H.o t = .tok (len * sz) sz)
theorem Lst.nil (H : AH) (sz : Nat) : Lst H H sz (.lst .nil 0 []) 0 [] := ⟨AH.Ext.refl H, .nil, rfl, by simp, .inl ⟨rfl, rfl⟩⟩
theorem Lst.append {H0 H : AH} {sz bytes len m : Nat} {x y : AV} {cells news : List AV} {K : Post} (h : Lst H0 H sz x len cells) (hy : acells H sz y = some (m, news)) (hn : news.length = m * sz) (hs : news.all AV.scalar = true) (hm : m ≠ 0)
  (hb : (len + m) * bytes ≤ 140737488355328) (hl : len + m ≤ 9223372036854775807) (hK : ∀ x' H', Lst H0 H' sz x' (len + m) (cells ++ news) → K x' H') : DoH (aappend H false sz bytes x y) K := by
 obtain ⟨hx, tk, rfl, hc, htk⟩ := h
 have hlen : (cells ++ news).length = (len + m) * sz := by simp [hc, hn, Nat.add_mul]
 rcases htk with ⟨rfl, rfl⟩ | ⟨t, rfl, h1, h2, h3⟩
 · refine ⟨.lst (.own H.n) (0 + m) (cells ++ news), H.push (.tok ((0 + m) * sz) sz), ?_, hK _ _ ⟨hx.trans (AH.Ext.push _ _), _, rfl, hlen, .inr ⟨H.n, rfl, hx.1, Nat.lt_succ_self _, AH.push_self _ _⟩⟩⟩
   simp only [aappend, hy, hs, not_true_eq_false, if_false, if_neg hm]
   rw [if_neg (by simp only [Decidable.not_not]; exact ⟨hc, hb, hl⟩)]
 · refine ⟨.lst (.own H.n) (len + m) (cells ++ news), (H.set t .gone).push (.tok ((len + m) * sz) sz), ?_, hK _ _ ⟨(hx.set h1 _).trans (AH.Ext.push _ _), _, rfl, hlen, .inr ⟨H.n, rfl, hx.1, Nat.lt_succ_self _, AH.push_self _ _⟩⟩⟩
   simp only [aappend, hy, hs, not_true_eq_false, if_false, if_neg hm]
   rw [if_neg (by simp only [Decidable.not_not]; exact ⟨hc, hb, hl⟩)]
   simp [h3]
def At (H : AH) (id : Nat) (x : AObj) : Prop := id < H.n ∧ H.o id = x
theorem At.new (H : AH) (x : AObj) : At (H.push x) H.n x := ⟨Nat.lt_succ_self _, AH.push_self H x⟩
theorem At.ext {H H' : AH} {id : Nat} {x : AObj} (h : At H id x) (hE : AH.Ext H H') : At H' id x := ⟨Nat.lt_of_lt_of_le h.1 hE.1, (hE.2 id h.1).trans h.2⟩
theorem At.push {H : AH} {id : Nat} {x : AObj} (h : At H id x) (y : AObj) : At (H.push y) id x := h.ext (AH.Ext.push H y)
theorem At.set_ne {H : AH} {id i : Nat} {x : AObj} (h : At H id x) (hne : id ≠ i) (y : AObj) : At (H.set i y) id x := ⟨h.1, (AH.set_ne H y hne).trans h.2⟩
theorem At.set {H : AH} {id : Nat} {x : AObj} (h : At H id x) (y : AObj) : At (H.set id y) id y := ⟨h.1, AH.set_self H id y⟩
theorem At.ne {H : AH} {id i : Nat} {x y : AObj} (h : At H id x) (k : At H i y) (hxy : x ≠ y) : id ≠ i := fun e => hxy (by rw [← h.2, ← k.2, e])
theorem At.load {H : AH} {id : Nat} {cs : List AV} (h : At H id (.row cs)) (n o : Nat) (agg : Bool) : aload H n agg (.ptr id o) = takeCells cs o n agg := by simp [aload, h.2]
theorem At.store {H : AH} {id : Nat} {cs : List AV} (h : At H id (.row cs)) (n o : Nat) (v : AV) : astore H n (.ptr id o) v = if v.known ∧ v.cells.length = n ∧ v.cells.all AV.scalar ∧ o + n ≤ cs.length then some (H.set id (.row (setCells cs o v.cells))) else none := by simp [astore, h.2]
end Rb

namespace Rb
open Go
@[simp] theorem Gd3_true (b : Bool) (A B C : Prop) : Gd3 (.bool b) true A B C ↔ if b = true then A else B := Iff.rfl
@[simp] theorem Gd3_false (b : Bool) (A B C : Prop) : Gd3 (.bool b) false A B C ↔ if b = false then A else B := Iff.rfl
@[simp] theorem Gd3_tup (want : Bool) (A B C : Prop) : Gd3 (.tup []) want A B C ↔ C := Iff.rfl
theorem ite_both {c : Prop} [Decidable c] {A B : Prop} (h1 : c → A) (h2 : ¬ c → B) : if c then A else B := by
 split
 · exact h1 ‹_›
 · exact h2 ‹_›
theorem drop_nil_le {α : Type} {xs : List α} {i : Nat} (h : xs.drop i = []) : xs.length ≤ i := by simpa using h
theorem drop_cons_lt {α : Type} {xs ys : List α} {i : Nat} {y : α} (h : xs.drop i = y :: ys) : i < xs.length ∧ xs[i]? = some y ∧ xs.drop (i + 1) = ys := by
 have hlt : i < xs.length := by
  rcases Nat.lt_or_ge i xs.length with h' | h'
  · exact h'
  · rw [List.drop_eq_nil_of_le h'] at h; cases h
 refine ⟨hlt, ?_, ?_⟩
 · have := congrArg (fun l => l[0]?) h
   simpa using this
 · have := congrArg List.tail h
   simpa using this
end Rb

namespace Rb
open Go
section
variable {α : Type} {cells : α → List AV} {sz : Nat}
theorem flatMap_drop (hc : ∀ x, (cells x).length = sz) : ∀ (xs : List α) (i : Nat), (xs.flatMap cells).drop (i * sz) = (xs.drop i).flatMap cells := by
 intro xs i
 induction i generalizing xs with
 | zero => simp
 | succ i ih =>
  cases xs with
  | nil => simp
  | cons x xs =>
   rw [List.flatMap_cons, List.drop_succ_cons, ← ih]
   rw [show (i + 1) * sz = (cells x).length + i * sz by rw [hc, Nat.add_mul, Nat.one_mul, Nat.add_comm], ← List.drop_drop, List.drop_left]
theorem flatMap_len (hc : ∀ x, (cells x).length = sz) (xs : List α) : (xs.flatMap cells).length = xs.length * sz := by
 induction xs with
 | nil => simp
 | cons x xs ih => rw [List.flatMap_cons, List.length_append, ih, hc, List.length_cons, Nat.add_mul]; omega
def elA (cells : α → List AV) (sz : Nat) (xs : List α) (i : Nat) : AV := .fptr ((xs.flatMap cells).drop (i * sz))
theorem lstA_addr {xs : List α} {i : Nat} (hi : i < xs.length) : aiaddr none sz (lstA cells xs) (.int .i64 i) = some (elA cells sz xs i) := by
 simp only [lstA, aiaddr]
 rw [if_pos ⟨by omega, by omega⟩]; rfl
theorem elA_load (hc : ∀ x, (cells x).length = sz) (hz : 0 < sz) (H : AH) {xs : List α} {i : Nat} {x : α} (hx : xs[i]? = some x) : aload H sz true (elA cells sz xs i) = some (.agg (cells x)) := by
 have hlt := (List.getElem?_eq_some_iff.1 hx).1
 have hd : xs.drop i = x :: xs.drop (i + 1) := by
  rw [List.drop_eq_getElem_cons hlt]
  rw [List.getElem?_eq_getElem hlt] at hx
  simp at hx
  rw [hx]
 show takeCells ((xs.flatMap cells).drop (i * sz)) 0 sz true = _
 rw [flatMap_drop hc, hd, List.flatMap_cons]
 unfold takeCells
 rw [if_pos (by rw [List.length_append, hc]; omega)]
 simp only [if_true, List.drop_zero]
 rw [List.take_append_of_le_length (by rw [hc]; omega), List.take_of_length_le (by rw [hc]; omega)]
def idxI : Option Nat → Int
 | some i => i
 | none => -1
end
end Rb

namespace Rb
open Go
theorem frozs_app (a b : List AV) : AV.frozs (a ++ b) = (AV.frozs a && AV.frozs b) := by
 rw [frozs_all, frozs_all, frozs_all, List.all_append]
mutual
theorem GType.froz : ∀ x : GType, AV.frozs x.cells = true
 | .mk kind size packed fields count elem => by
  simp only [GType.cells, AV.frozs, AV.froz, Tok.free, GField.allFroz fields, GType.allFroz elem, Bool.and_self]
theorem GType.allFroz : ∀ xs : List GType, AV.frozs (GType.all xs) = true
 | [] => rfl
 | x :: r => by rw [GType.all, frozs_app, GType.froz x, GType.allFroz r]; rfl
theorem GField.froz : ∀ x : GField, AV.frozs x.cells = true
 | .mk name type bits width => by
  simp only [GField.cells, AV.frozs, AV.froz, frozs_app, GType.froz type, Bool.and_self]
theorem GField.allFroz : ∀ xs : List GField, AV.frozs (GField.all xs) = true
 | [] => rfl
 | x :: r => by rw [GField.all, frozs_app, GField.froz x, GField.allFroz r]; rfl
end
mutual
theorem GExpr.froz : ∀ x : GExpr, AV.frozs x.cells = true
 | .mk kind n name op order place kids => by
  simp only [GExpr.cells, AV.frozs, AV.froz, frozs_app, Tok.free, GPlace.froz place, GExpr.allFroz kids, Bool.and_self]
theorem GExpr.allFroz : ∀ xs : List GExpr, AV.frozs (GExpr.all xs) = true
 | [] => rfl
 | x :: r => by rw [GExpr.all, frozs_app, GExpr.froz x, GExpr.allFroz r]; rfl
theorem GPlace.froz : ∀ x : GPlace, AV.frozs x.cells = true
 | .mk var parts => by simp only [GPlace.cells, AV.frozs, AV.froz, Tok.free, GPart.allFroz parts, Bool.and_self]
theorem GPart.froz : ∀ x : GPart, AV.frozs x.cells = true
 | .mk field index => by simp only [GPart.cells, AV.frozs, AV.froz, Tok.free, GExpr.allFroz index, Bool.and_self]
theorem GPart.allFroz : ∀ xs : List GPart, AV.frozs (GPart.all xs) = true
 | [] => rfl
 | x :: r => by rw [GPart.all, frozs_app, GPart.froz x, GPart.allFroz r]; rfl
end
theorem lstA_froz {α : Type} {cells : α → List AV} (h : ∀ x, AV.frozs (cells x) = true) (xs : List α) : (lstA cells xs).froz = true := by
 have : AV.frozs (xs.flatMap cells) = true := by
  induction xs with
  | nil => rfl
  | cons x xs ih => rw [List.flatMap_cons, frozs_app, h, ih]; rfl
 simp only [lstA, AV.froz, Tok.free, this, Bool.and_self]
theorem GVar.froz (x : GVar) : AV.frozs x.cells = true := by simp only [GVar.cells, AV.frozs, AV.froz, GType.froz, Bool.and_self]
mutual
theorem GStmt.froz : ∀ x : GStmt, AV.frozs x.cells = true
 | .mk kind line name name2 order place exprs thn els => by
  simp only [GStmt.cells, AV.frozs, AV.froz, frozs_app, Tok.free, GPlace.froz place, lstA_froz GExpr.froz exprs, GStmt.allFroz thn, GStmt.allFroz els, Bool.and_self]
theorem GStmt.allFroz : ∀ xs : List GStmt, AV.frozs (GStmt.all xs) = true
 | [] => rfl
 | x :: r => by rw [GStmt.all, frozs_app, GStmt.froz x, GStmt.allFroz r]; rfl
end
theorem thr_froz (l : List GStmt) : AV.frozs (thrCells l) = true := by simp only [thrCells, AV.frozs, lstA_froz GStmt.froz, Bool.and_self]
theorem GProg.froz (x : GProg) : AV.frozs x.cells = true := by simp only [GProg.cells, AV.frozs, lstA_froz GVar.froz, lstA_froz thr_froz, Bool.and_self]
end Rb

namespace Rb
open Go
mutual
def AV.weak : AV → AV
 | .fptr cs => .fptr (AV.weaks cs)
 | .lst _ len cs => .lst .dead len (AV.weaks cs)
 | .fn k cs => .fn k (AV.weaks cs)
 | .iface t v => .iface t (AV.weak v)
 | .agg cs => .agg (AV.weaks cs)
 | .tup cs => .tup (AV.weaks cs)
 | v => v
def AV.weaks : List AV → List AV
 | [] => []
 | c :: r => AV.weak c :: AV.weaks r
end
theorem weaks_map : ∀ cs : List AV, AV.weaks cs = cs.map AV.weak
 | [] => rfl
 | c :: r => by rw [AV.weaks, weaks_map r]; rfl
theorem weaks_get {cs : List AV} {j : Nat} {c : AV} (h : (AV.weaks cs)[j]? = some c) : ∃ d, cs[j]? = some d ∧ c = d.weak := by
 rw [weaks_map, List.getElem?_map] at h
 cases hc : cs[j]? with
 | none => rw [hc] at h; cases h
 | some d => rw [hc] at h; simp at h; exact ⟨d, rfl, h.symm⟩
theorem weaks_len (cs : List AV) : (AV.weaks cs).length = cs.length := by rw [weaks_map, List.length_map]
theorem VR.weak {F : FTab} {w : World} {G : Ghost} {c : AV} {V : Value} (h : VR F w G c V) : VR F w G c.weak V := by
 induction h with
 | bot V => exact .bot V
 | bool b => exact .bool b
 | int k n => exact .int k n
 | str s => exact .str s
 | nilp => exact .nilp
 | ptr id off h => exact .ptr id off h
 | fptr cells b o Vs h _ ih =>
  refine .fptr _ b o Vs (fun j c hj => ?_) fun j c hj => ?_
  · obtain ⟨d, hd, rfl⟩ := weaks_get hj; exact h j d hd
  · obtain ⟨d, hd, rfl⟩ := weaks_get hj; exact ih j d hd
 | lstnil => exact .lst0 none 0
 | lst0 a cap => exact .lst0 a cap
 | lst tk len cells b o cap Vs ht hle h _ ih =>
  refine .lst .dead len _ b o cap Vs trivial hle (fun j c hj => ?_) fun j c hj => ?_
  · obtain ⟨d, hd, rfl⟩ := weaks_get hj; exact h j d hd
  · obtain ⟨d, hd, rfl⟩ := weaks_get hj; exact ih j d hd
 | row id off len sz cap h hle hc => exact .row id off len sz cap h hle hc
 | map id h => exact .map id h
 | nilmap => exact .nilmap
 | fn key caps f Vs hk hf hl _ ih =>
  refine .fn key _ f Vs hk hf (by rw [weaks_len]; exact hl) fun j c V hc hV => ?_
  obtain ⟨d, hd, rfl⟩ := weaks_get hc; exact ih j d V hd hV
 | bfn key k caps f Vs hk hf hl _ ih =>
  refine .bfn key k _ f Vs hk hf (by rw [weaks_len]; exact hl) fun j c V hc hV => ?_
  obtain ⟨d, hd, rfl⟩ := weaks_get hc; exact ih j d V hd hV
 | nilfn => exact .nilfn
 | iface t v V _ ih => exact .iface t _ V ih
 | nilif => exact .nilif
 | agg cs Vs hl _ ih =>
  refine .agg _ Vs (by rw [weaks_len]; exact hl) fun j c V hc hV => ?_
  obtain ⟨d, hd, rfl⟩ := weaks_get hc; exact ih j d V hd hV
 | tup cs Vs hl _ ih =>
  refine .tup _ Vs (by rw [weaks_len]; exact hl) fun j c V hc hV => ?_
  obtain ⟨d, hd, rfl⟩ := weaks_get hc; exact ih j d V hd hV
theorem ACall.weak {C : Ctx} {key : Nat} {args : List AV} {H : AH} {Q : Post} (h : ACall C key args H (fun v H' => Q v.weak H')) : ACall C key args H Q := by
 refine ⟨by obtain ⟨v, H', hq⟩ := h.1; exact ⟨_, _, hq⟩, fun f hf G w Vs hG hrel hargs => ?_⟩
 refine Calls.mono (h.2 f hf G w Vs hG hrel hargs) fun e w' he => ?_
 obtain ⟨V, v, H', G', e1, hQ, hv, r⟩ := he
 exact ⟨V, v.weak, H', G', e1, hQ, hv.weak, r⟩
theorem ACall.weak_args {C : Ctx} {key : Nat} {args : List AV} {H : AH} {Q : Post} (h : ACall C key (AV.weaks args) H Q) : ACall C key args H Q := by
 refine ⟨h.1, fun f hf G w Vs hG hrel hargs => ?_⟩
 refine h.2 f hf G w Vs hG hrel ⟨by rw [weaks_len]; exact hargs.1, fun j c V hc hV => ?_⟩
 obtain ⟨d, hd, rfl⟩ := weaks_get hc
 exact (hargs.2 j d V hd hV).weak
end Rb

namespace Rb
open Go
@[simp] theorem AH.push_set (H : AH) (x y : AObj) : (H.push x).set H.n y = H.push y := by
 simp only [AH.push, AH.set]
 congr 1
 funext j
 split <;> rfl
@[simp] theorem load_push (H : AH) (cs : List AV) (n o : Nat) (agg : Bool) : aload (H.push (.row cs)) n agg (.ptr H.n o) = takeCells cs o n agg := by
 simp [aload, AH.push_self]
theorem store_push (H : AH) (cs : List AV) (n o : Nat) (v : AV) (h1 : v.known = true) (h2 : v.cells.length = n) (h3 : v.cells.all AV.scalar = true) (h4 : o + n ≤ cs.length) : astore (H.push (.row cs)) n (.ptr H.n o) v = some (H.push (.row (setCells cs o v.cells))) := by
 rw [(At.new H (.row cs)).store, if_pos ⟨h1, h2, h3, h4⟩, AH.push_set]
theorem setCells_all {xs ys : List AV} : ∀ {k : Nat}, k + ys.length = xs.length → setCells xs k ys = xs.take k ++ ys := by
 induction ys generalizing xs with
 | nil => intro k h; simp only [setCells]; rw [List.append_nil, List.take_of_length_le (by simp at h; omega)]
 | cons y ys ih =>
  intro k h
  simp only [setCells]
  rw [ih (by simp at h ⊢; omega)]
  have hk : k < xs.length := by simp at h; omega
  rw [List.take_add_one, List.getElem?_set_self hk, List.take_set_of_le (by omega)]
  simp
theorem store_new (H : AH) (zs cs : List AV) (n : Nat) (h2 : cs.length = n) (h3 : cs.all AV.scalar = true) (h4 : zs.length = n) : astore (H.push (.row zs)) n (.ptr H.n 0) (.agg cs) = some (H.push (.row cs)) := by
 rw [store_push H zs n 0 (.agg cs) rfl h2 h3 (by omega)]
 congr 3
 show setCells zs 0 cs = cs
 rw [setCells_all (by omega)]; rfl
theorem takeCells_app {a b : List AV} {n : Nat} (h : a.length = n) : takeCells (a ++ b) 0 n true = some (.agg a) := by
 unfold takeCells
 rw [if_pos (by rw [List.length_append]; omega)]
 simp only [if_true, List.drop_zero]
 rw [List.take_append_of_le_length (by omega), List.take_of_length_le (by omega)]
theorem takeCells_whole {a : List AV} {n : Nat} (h : a.length = n) : takeCells a 0 n true = some (.agg a) := by
 have := takeCells_app (a := a) (b := []) h
 rwa [List.append_nil] at this
mutual
theorem GType.scalar : ∀ x : GType, x.cells.all AV.scalar = true
 | .mk kind size packed fields count elem => by simp [GType.cells, AV.scalar]
theorem GField.scalar : ∀ x : GField, x.cells.all AV.scalar = true
 | .mk name type bits width => by simp only [GField.cells, List.all_cons, List.all_append, GType.scalar type]; rfl
end
theorem GPlace.scalar (x : GPlace) : x.cells.all AV.scalar = true := by rw [GPlace.cells_eq]; rfl
theorem GPart.scalar (x : GPart) : x.cells.all AV.scalar = true := by rw [GPart.cells_eq]; rfl
theorem GExpr.scalar (x : GExpr) : x.cells.all AV.scalar = true := by rw [GExpr.cells_eq]; simp only [List.all_cons, List.all_append, GPlace.scalar]; rfl
theorem GStmt.scalar (x : GStmt) : x.cells.all AV.scalar = true := by rw [GStmt.cells_eq]; simp only [List.all_cons, List.all_append, GPlace.scalar]; rfl
theorem GVar.scalar (x : GVar) : x.cells.all AV.scalar = true := by simp only [GVar.cells, List.all_cons, GType.scalar]; rfl
end Rb

namespace Rb
open Go
def i1 (k : IntKind) (z : Int) : List AV := [.int k z]
section
variable {α : Type} {c : α → AV}
end
theorem lstA_len' {α : Type} (cells : α → List AV) (xs : List α) : alen false (lstA cells xs) = some (.int .i64 xs.length) := rfl
end Rb

namespace Rb
open Go Go.RowKit
theorem cell_lt {w : World} {b o : Nat} {V : Value} (h : w.cell? ⟨b, o, none⟩ = some V) : b < w.heap.size := by
 unfold World.cell? at h
 split at h
 · rename_i hb
   exact (Array.getElem?_eq_some_iff.1 hb).1
 · cases h
theorem gle_below {w w' : World} {G : Ghost} (hb : Below w.heap.size w w') : GLe w G w' G :=
 ⟨Nat.le_refl _, fun _ _ => rfl, fun _ _ => rfl, fun _ _ h => h, fun b o V _ hc => by rw [hb.cell (p := ⟨b, o, none⟩) (cell_lt hc)]; exact hc⟩
theorem obj_below {F : FTab} {w w' : World} {G : Ghost} (hb : Below w.heap.size w w') {i : Nat} {x : AObj} (h : ObjR F w G i x) : ObjR F w' G i x := by
 have hg := gle_below (G := G) hb
 cases x with
 | row cs =>
  obtain ⟨c, e, h1, h2, h3, h4⟩ := h
  refine ⟨c, e, by rw [hb.block _ (Array.getElem?_eq_some_iff.1 h1).1]; exact h1, h2, h3, fun j c hj => ?_⟩
  obtain ⟨V, h5, h6⟩ := h4 j c hj
  exact ⟨V, h5, h6.mono hg⟩
 | tok k sz =>
  obtain ⟨c, e, h1, h2, h3, h4⟩ := h
  exact ⟨c, e, by rw [hb.block _ (Array.getElem?_eq_some_iff.1 h1).1]; exact h1, h2, h3, h4⟩
 | map es =>
  obtain ⟨c, e, h1, h2, h3, h4⟩ := h
  refine ⟨c, e, by rw [hb.block _ (Array.getElem?_eq_some_iff.1 h1).1]; exact h1, h2, h3, fun j k v hj => ?_⟩
  obtain ⟨m, h5, h6, h7⟩ := h4 j k v hj
  exact ⟨m, h5, h6.mono hg, h7.mono hg⟩
 | siter s pos =>
  obtain ⟨h1, h2⟩ := h
  exact ⟨by rw [hb.block _ (Array.getElem?_eq_some_iff.1 h1).1]; exact h1, h2⟩
 | bld T u b =>
  obtain ⟨v, h1, h2⟩ := h
  exact ⟨v, by rw [hb.block _ (Array.getElem?_eq_some_iff.1 h1).1]; exact h1, h2⟩
 | buf U bs =>
  obtain ⟨c, z, h1, h2⟩ := h
  exact ⟨c, z, by rw [hb.block _ (Array.getElem?_eq_some_iff.1 h1).1]; exact h1, h2⟩
 | gone => trivial
theorem obj_lt {F : FTab} {w : World} {G : Ghost} {i : Nat} {x : AObj} (h : ObjR F w G i x) (hl : x.live = true) : G.loc i < w.heap.size := by
 cases x with
 | row cs => obtain ⟨c, e, h1, _⟩ := h; exact (Array.getElem?_eq_some_iff.1 h1).1
 | tok k sz => obtain ⟨c, e, h1, _⟩ := h; exact (Array.getElem?_eq_some_iff.1 h1).1
 | map es => obtain ⟨c, e, h1, _⟩ := h; exact (Array.getElem?_eq_some_iff.1 h1).1
 | siter s pos => exact (Array.getElem?_eq_some_iff.1 h.1).1
 | bld T u b => obtain ⟨v, h1, _⟩ := h; exact (Array.getElem?_eq_some_iff.1 h1).1
 | buf U bs => obtain ⟨c, z, h1, _⟩ := h; exact (Array.getElem?_eq_some_iff.1 h1).1
 | gone => cases hl
theorem rel_below {F : FTab} {w w' : World} {G : Ghost} {H : AH} (hb : Below w.heap.size w w') (h : Rel F w G H) : Rel F w' G H :=
 ⟨h.n, h.over, fun i => obj_below hb (h.obj i), h.dist, fun b o hf => by
   obtain ⟨V, hV⟩ := h.fzc b o hf
   exact ⟨V, by rw [hb.cell (p := ⟨b, o, none⟩) (cell_lt hV)]; exact hV⟩⟩
theorem step_below {F : FTab} {w w' : World} {G : Ghost} {H : AH} (hb : Below w.heap.size w w') (h : Rel F w G H) : Step w G H w' G H :=
 { gle_below hb with
   size := hb.size
   os := hb.os
   tape := hb.tape
   output := hb.output
   old := fun k hk _ => hb.block k hk
   owned := fun i hl _ => ⟨i, hl, rfl⟩
   fznew := fun _ _ hf => .inl hf }
end Rb

namespace Rb
open Go Go.RowKit
def AH.setO (H : AH) : Option Nat → AH
 | none => H
 | some j => H.set j .gone
def bytesV (bs : List UInt8) : List Value := bs.map fun b => Value.int .u8 b.toNat
theorem bytesV_len (bs : List UInt8) : (bytesV bs).length = bs.length := List.length_map ..
def BldAt (T U : TypeId) (H : AH) (id : Nat) (bs : List UInt8) : Prop :=
 id < H.n ∧ ((∃ u, H.o id = .bld T u none ∧ bs = []) ∨ ∃ j, H.o id = .bld T true (some (j, bs.length)) ∧ H.o j = .buf U bs ∧ j < H.n ∧ bs ≠ [])
def bufOf (H : AH) (id : Nat) : Option Nat := match H.o id with | .bld _ _ (some (j, _)) => some j | _ => none
def notbuf (x : AObj) : Prop := ∀ U bs, x ≠ .buf U bs
def KeepB (H : AH) (id : Nat) (H' : AH) : Prop := H.n ≤ H'.n ∧ ∀ i, i < H.n → i ≠ id → notbuf (H.o i) → H'.o i = H.o i
theorem KeepB.refl (H : AH) (id : Nat) : KeepB H id H := ⟨Nat.le_refl _, fun _ _ _ _ => rfl⟩
theorem KeepB.trans {H1 H2 H3 : AH} {id : Nat} (h : KeepB H1 id H2) (k : KeepB H2 id H3) : KeepB H1 id H3 :=
 ⟨Nat.le_trans h.1 k.1, fun i hi hne hb => by rw [k.2 i (Nat.lt_of_lt_of_le hi h.1) hne (by rw [h.2 i hi hne hb]; exact hb), h.2 i hi hne hb]⟩
structure Wrote (w w' : World) (T U : TypeId) (b : Nat) (old : Option Nat) (bs : List UInt8) : Prop where
 size : w.heap.size ≤ w'.heap.size
 os : w'.os = w.os
 tape : w'.tape = w.tape
 output : w'.output = w.output
 cell : ∃ v, w'.heap[b]? = some (.cells #[.pointer (some ⟨b, 0, none⟩), v] T (0, 0)) ∧ w'.ownsRowF 0 U 1 v bs.length (bytesV bs) ∧ (∀ g, v.ownBlock = some g → old = some g ∨ w.heap.size ≤ g) ∧ (bs = [] → v.ownBlock = none)
 kept : ∀ k, k < w.heap.size → k ≠ b → old ≠ some k → w'.heap[k]? = w.heap[k]?
section
variable {F : FTab} {w w' : World} {G : Ghost} {H : AH} {T U : TypeId} {id : Nat} {bs bs' : List UInt8}
theorem BldAt.rel (hrel : Rel F w G H) (hb : BldAt T U H id bs) : ∃ p v, (p = .pointer none ∨ p = .pointer (some ⟨G.loc id, 0, none⟩)) ∧ (bs ≠ [] → p = .pointer (some ⟨G.loc id, 0, none⟩)) ∧ w.heap[G.loc id]? = some (.cells #[p, v] T (0, 0)) ∧ w.ownsRowF 0 U 1 v bs.length (bytesV bs) ∧
  v.ownBlock ≠ some (G.loc id) ∧ v.ownBlock = (bufOf H id).map G.loc := by
 obtain ⟨hid, hb⟩ := hb
 have ho := hrel.obj id
 rcases hb with ⟨u, h1, rfl⟩ | ⟨j, h1, h2, hj, hne0⟩
 · rw [h1] at ho
   obtain ⟨v, hc, hz, hv⟩ := ho
   rcases hv with ⟨_, rfl⟩ | ⟨j, n, h, _⟩
   · refine ⟨_, _, ?_, fun h => absurd rfl h, hc, World.ownsRowF_nil _ _ _ _, by simp [Value.ownBlock], by simp [Value.ownBlock, bufOf, h1]⟩
     cases u
     · left; rfl
     · right; rfl
   · cases h
 · rw [h1] at ho
   obtain ⟨v, hc, hz, hv⟩ := ho
   rcases hv with ⟨h, _⟩ | ⟨j', n, h, hj', rfl⟩
   · cases h
   · cases h
     have hq := hrel.obj j
     rw [h2] at hq
     obtain ⟨C, z, q1, q2, q3, q4, q5, q6, q7⟩ := hq
     have hne : j ≠ id := by intro e; subst e; rw [h1] at h2; cases h2
     have hd := hrel.dist j id hne (by rw [h2]; rfl) (by rw [h1]; rfl)
     refine ⟨_, _, .inr rfl, fun _ => rfl, hc, ⟨by rw [bytesV_len, Nat.mul_one], .inr ⟨G.loc j, G.cap j, C, z, rfl, Nat.zero_le _, q1, by omega, q4, q5, by omega, by rw [Nat.mul_one]; exact q7⟩⟩, by simp only [Value.ownBlock]; intro e; exact hd (Option.some.inj e), by simp [Value.ownBlock, bufOf, h1]⟩
def wroteH (H : AH) (id : Nat) (T U : TypeId) (bs : List UInt8) : AH := ((H.setO (bufOf H id)).set id (.bld T true (some (H.n, bs.length)))).push (.buf U bs)
def wroteN (H : AH) (id : Nat) (T : TypeId) : AH := (H.setO (bufOf H id)).set id (.bld T true none)
theorem setO_n (H : AH) (o : Option Nat) : (H.setO o).n = H.n := by cases o <;> rfl
theorem buf_live (hb : BldAt T U H id bs) {j : Nat} (hj : bufOf H id = some j) : j < H.n ∧ j ≠ id ∧ ∃ bs, H.o j = .buf U bs := by
 obtain ⟨hid, hb⟩ := hb
 rcases hb with ⟨u, h1, rfl⟩ | ⟨j', h1, h2, hj', _⟩
 · simp [bufOf, h1] at hj
 · simp [bufOf, h1] at hj
   subst hj
   refine ⟨hj', ?_, bs, h2⟩
   intro e; subst e; rw [h1] at h2; cases h2
theorem setO_other (H : AH) (id : Nat) {i : Nat} (hi : i ≠ id) (hj : bufOf H id ≠ some i) (x : AObj) : ((H.setO (bufOf H id)).set id x).o i = H.o i := by
 show (if i = id then x else (H.setO (bufOf H id)).o i) = _
 rw [if_neg hi]
 cases hb : bufOf H id with
 | none => rfl
 | some j =>
  show (if i = j then .gone else H.o i) = _
  rw [if_neg (by intro e; subst e; exact hj hb)]
theorem wroteH_bld (hb : BldAt T U H id bs) (bs' : List UInt8) (hne0 : bs' ≠ []) : BldAt T U (wroteH H id T U bs') id bs' ∧ KeepB H id (wroteH H id T U bs') := by
 have hn : (wroteH H id T U bs').n = H.n + 1 := by show (H.setO _).n + 1 = _; rw [setO_n]
 have hm : ((H.setO (bufOf H id)).set id (.bld T true (some (H.n, bs'.length)))).n = H.n := setO_n _ _
 refine ⟨⟨by rw [hn]; have := hb.1; omega, .inr ⟨H.n, ?_, ?_, by rw [hn]; omega, hne0⟩⟩, by rw [hn]; omega, fun i hi hne hnb => ?_⟩
 · show (if id = _ then _ else _) = _
   rw [hm, if_neg (by have := hb.1; omega)]
   show (if id = id then _ else _) = _
   rw [if_pos rfl]
 · show (if H.n = _ then _ else _) = _
   rw [hm, if_pos rfl]
 · show (if i = _ then _ else _) = _
   rw [hm, if_neg (by omega)]
   refine setO_other H id hne (fun e => ?_) _
   obtain ⟨_, _, bs0, h⟩ := buf_live hb e
   exact hnb _ _ h
theorem wroteN_bld (hb : BldAt T U H id bs) : BldAt T U (wroteN H id T) id [] ∧ KeepB H id (wroteN H id T) := by
 have hn : (wroteN H id T).n = H.n := setO_n _ _
 refine ⟨⟨by rw [hn]; exact hb.1, .inl ⟨true, ?_, rfl⟩⟩, by rw [hn]; omega, fun i hi hne hnb => ?_⟩
 · show (if id = id then _ else _) = _
   rw [if_pos rfl]
 · refine setO_other H id hne (fun e => ?_) _
   obtain ⟨_, _, bs0, h⟩ := buf_live hb e
   exact hnb _ _ h
def wroteX (H : AH) (id : Nat) (T U : TypeId) (bs : List UInt8) : AH := if bs = [] then wroteN H id T else wroteH H id T U bs
theorem wroteX_bld (hb : BldAt T U H id bs) (bs' : List UInt8) : BldAt T U (wroteX H id T U bs') id bs' ∧ KeepB H id (wroteX H id T U bs') := by
 unfold wroteX
 split
 · rename_i h; subst h; exact wroteN_bld hb
 · rename_i h; exact wroteH_bld hb bs' h
theorem wrote_relX (hrel : Rel F w G H) (hb : BldAt T U H id bs) (hw : Wrote w w' T U (G.loc id) ((bufOf H id).map G.loc) bs') :
  ∃ G', Rel F w' G' (wroteX H id T U bs') ∧ Step w G H w' G' (wroteX H id T U bs') := by
 have hn := hrel.n
 have hidn := hb.1
 have hidl : (H.o id).live = true := by rcases hb.2 with ⟨u, h1, _⟩ | ⟨j, h1, _⟩ <;> rw [h1] <;> rfl
 have hidz : ∀ j, ¬ G.fz (G.loc id) j := by
  have ho := hrel.obj id
  rcases hb.2 with ⟨u, h1, _⟩ | ⟨j, h1, _⟩ <;> (rw [h1] at ho; obtain ⟨_, _, hz, _⟩ := ho; exact hz)
 have hbz : ∀ j, bufOf H id = some j → ∀ k, ¬ G.fz (G.loc j) k := by
  intro j hj
  obtain ⟨_, _, bs0, h⟩ := buf_live hb hj
  have ho := hrel.obj j
  rw [h] at ho
  obtain ⟨_, _, _, _, _, _, _, hz, _⟩ := ho
  exact hz
 have hcell : ∀ b o V, G.fz b o → w.cell? ⟨b, o, none⟩ = some V → w'.cell? ⟨b, o, none⟩ = some V := by
  intro b o V hf hc
  have hlt := cell_lt hc
  have h1 : w'.heap[b]? = w.heap[b]? := hw.kept b hlt (fun e => by subst e; exact hidz o hf) (fun e => by
    obtain ⟨j, hj, rfl⟩ := Option.map_eq_some_iff.1 e
    exact hbz j hj o hf)
  unfold World.cell? at hc ⊢
  simp only [h1]
  exact hc
 have hkeep : ∀ i, (H.o i).live = true → i ≠ id → bufOf H id ≠ some i → w'.heap[G.loc i]? = w.heap[G.loc i]? := by
  intro i hl hne hnb
  refine hw.kept _ (obj_lt (hrel.obj i) hl) (hrel.dist i id hne hl hidl) (fun e => ?_)
  obtain ⟨j, hj, he⟩ := Option.map_eq_some_iff.1 e
  obtain ⟨_, _, bs0, h⟩ := buf_live hb hj
  exact hrel.dist j i (fun e => hnb (by rw [← e]; exact hj)) (by rw [h]; rfl) hl he
 obtain ⟨v, hcv, hown, hfrom, hnil⟩ := hw.cell
 rcases hown.2 with ⟨rfl, h0⟩ | ⟨g, cap, C, z, rfl, _, hg, hz, hnc, hcm, hcs, htake⟩
 ·
   have h0' : bs' = [] := List.eq_nil_of_length_eq_zero h0
   subst h0'
   have hg : GLe w G w' G := ⟨Nat.le_refl _, fun _ _ => rfl, fun _ _ => rfl, fun _ _ h => h, fun b o V hf hc => hcell b o V hf hc⟩
   have hNn : (wroteN H id T).n = H.n := setO_n _ _
   have hoid : (wroteN H id T).o id = .bld T true none := by show (if id = id then _ else _) = _; rw [if_pos rfl]
   have hobuf : ∀ j, bufOf H id = some j → (wroteN H id T).o j = .gone := by
    intro j hj
    obtain ⟨_, hne, _⟩ := buf_live hb hj
    show (if j = id then _ else _) = _
    rw [if_neg hne, hj]
    show (if j = j then _ else _) = _
    rw [if_pos rfl]
   have hoth : ∀ i, i ≠ id → bufOf H id ≠ some i → (wroteN H id T).o i = H.o i := fun i h1 h2 => setO_other H id h1 h2 _
   have hlive : ∀ i, ((wroteN H id T).o i).live = true → (H.o i).live = true ∧ bufOf H id ≠ some i := by
    intro i hl
    by_cases hi : i = id
    · subst hi
      exact ⟨hidl, fun e => (buf_live hb e).2.1 rfl⟩
    · by_cases hj : bufOf H id = some i
      · rw [hobuf i hj] at hl; cases hl
      · rw [hoth i hi hj] at hl; exact ⟨hl, hj⟩
   rw [show wroteX H id T U [] = wroteN H id T from if_pos rfl]
   refine ⟨G, ⟨by rw [hNn]; exact hn, fun i hi => ?_, fun i => ?_, fun i k hik h1 h2 => hrel.dist i k hik (hlive i h1).1 (hlive k h2).1, fun b o hf => ?_⟩, ?_⟩
   · rw [hNn] at hi
     rw [hoth i (by omega) (fun e => by have := (buf_live hb e).1; omega)]
     exact hrel.over i hi
   · by_cases hi : i = id
     · subst hi
       rw [hoid]
       exact ⟨_, hcv, hidz, .inl ⟨rfl, rfl⟩⟩
     · by_cases hj : bufOf H id = some i
       · rw [hobuf i hj]; trivial
       · rw [hoth i hi hj]
         exact (hrel.obj i).keep hg (fun hl => hrel.idlt hl) (fun hl => hkeep i hl hi hj) (fun _ _ h => h)
   · obtain ⟨V, hV⟩ := hrel.fzc b o hf
     exact ⟨V, hcell b o V hf hV⟩
   · exact { hg with
       size := hw.size, os := hw.os, tape := hw.tape, output := hw.output
       old := fun k hk hk2 => hw.kept k hk (fun e => hk2 id hidl e.symm) (fun e => by
         obtain ⟨j, hj, he⟩ := Option.map_eq_some_iff.1 e
         obtain ⟨_, _, bs0, h⟩ := buf_live hb hj
         exact hk2 j (by rw [h]; rfl) he)
       owned := fun i hl _ => ⟨i, (hlive i hl).1, rfl⟩
       fznew := fun _ _ hf => .inl hf }
 ·
   have hfr := hfrom g rfl
   have hne0 : bs' ≠ [] := fun e => by have := hnil e; simp [Value.ownBlock] at this
   have hglt : g < w'.heap.size := (Array.getElem?_eq_some_iff.1 hg).1
   have hgz : ∀ k, ¬ G.fz g k := by
    intro k hf
    rcases hfr with e | hge
    · obtain ⟨j, hj, he⟩ := Option.map_eq_some_iff.1 e
      rw [← he] at hf
      exact hbz j hj k hf
    · obtain ⟨V, hV⟩ := hrel.fzc g k hf
      have := cell_lt hV
      omega
   have hGn : (G.more g cap).n = G.n + 1 := rfl
   have hloc : ∀ i, i ≠ H.n → (G.more g cap).loc i = G.loc i := fun i hi => if_neg (show ¬ i = G.n by omega)
   have hcap : ∀ i, i ≠ H.n → (G.more g cap).cap i = G.cap i := fun i hi => if_neg (show ¬ i = G.n by omega)
   have hlocn : (G.more g cap).loc H.n = g := if_pos hn.symm
   have hcapn : (G.more g cap).cap H.n = cap := if_pos hn.symm
   have hle : GLe w G w' (G.more g cap) := ⟨Nat.le_succ _, fun i hi => if_neg (Nat.ne_of_lt hi), fun i hi => if_neg (Nat.ne_of_lt hi), fun _ _ h => h, fun b o V hf hc => hcell b o V hf hc⟩
   have hm : ((H.setO (bufOf H id)).set id (.bld T true (some (H.n, bs'.length)))).n = H.n := setO_n _ _
   have hNn : (wroteH H id T U bs').n = H.n + 1 := by show (H.setO _).n + 1 = _; rw [setO_n]
   have hon : (wroteH H id T U bs').o H.n = .buf U bs' := by show (if H.n = _ then _ else _) = _; rw [hm, if_pos rfl]
   have hoid : (wroteH H id T U bs').o id = .bld T true (some (H.n, bs'.length)) := by
    show (if id = _ then _ else _) = _
    rw [hm, if_neg (by omega)]
    show (if id = id then _ else _) = _
    rw [if_pos rfl]
   have hobuf : ∀ j, bufOf H id = some j → (wroteH H id T U bs').o j = .gone := by
    intro j hj
    obtain ⟨hlt, hne, _⟩ := buf_live hb hj
    show (if j = _ then _ else _) = _
    rw [hm, if_neg (by omega)]
    show (if j = id then _ else _) = _
    rw [if_neg hne, hj]
    show (if j = j then _ else _) = _
    rw [if_pos rfl]
   have hoth : ∀ i, i ≠ id → i ≠ H.n → bufOf H id ≠ some i → (wroteH H id T U bs').o i = H.o i := fun i h1 h2 h3 => by
    show (if i = _ then _ else _) = _
    rw [hm, if_neg h2]
    exact setO_other H id h1 h3 _
   have hlive : ∀ i, i ≠ H.n → ((wroteH H id T U bs').o i).live = true → (H.o i).live = true ∧ bufOf H id ≠ some i := by
    intro i hin hl
    by_cases hi : i = id
    · subst hi
      exact ⟨hidl, fun e => (buf_live hb e).2.1 rfl⟩
    · by_cases hj : bufOf H id = some i
      · rw [hobuf i hj] at hl; cases hl
      · rw [hoth i hi hin hj] at hl; exact ⟨hl, hj⟩
   have hgd : ∀ i, i ≠ H.n → ((wroteH H id T U bs').o i).live = true → G.loc i ≠ g := by
    intro i hin hl e
    obtain ⟨h1, h2⟩ := hlive i hin hl
    rcases hfr with e' | hge
    · obtain ⟨j, hj, he⟩ := Option.map_eq_some_iff.1 e'
      obtain ⟨_, _, bs0, h⟩ := buf_live hb hj
      exact hrel.dist j i (fun e => h2 (by rw [← e]; exact hj)) (by rw [h]; rfl) h1 (he.trans e.symm)
    · have := obj_lt (hrel.obj i) h1
      omega
   rw [show wroteX H id T U bs' = wroteH H id T U bs' from if_neg hne0]
   refine ⟨G.more g cap, ⟨by rw [hNn, hGn, hn], fun i hi => ?_, fun i => ?_, fun i k hik h1 h2 => ?_, fun b o hf => ?_⟩, ?_⟩
   · rw [hNn] at hi
     rw [hoth i (by omega) (by omega) (fun e => by have := (buf_live hb e).1; omega)]
     exact hrel.over i (by omega)
   · by_cases hin : i = H.n
     · subst hin
       rw [hon]
       refine ⟨C, z, by rw [hlocn]; exact hg, by rw [hcapn, hcs, Nat.mul_one], by omega, by rw [hcapn]; exact hnc, by rw [hcapn]; exact hcm, by rw [hlocn]; exact hgz, ?_⟩
       rw [Nat.mul_one] at htake
       exact htake
     · by_cases hi : i = id
       · subst hi
         rw [hoid]
         refine ⟨_, by rw [hloc i hin]; exact hcv, by rw [hloc i hin]; exact hidz, .inr ⟨H.n, bs'.length, rfl, by rw [hGn]; omega, by rw [hlocn, hcapn]⟩⟩
       · by_cases hj : bufOf H id = some i
         · rw [hobuf i hj]; trivial
         · rw [hoth i hi hin hj]
           exact (hrel.obj i).keep hle (fun hl => hrel.idlt hl) (fun hl => hkeep i hl hi hj) (fun _ _ h => h)
   · by_cases hin : i = H.n
     · subst hin
       rw [hlocn, hloc k (by omega)]
       exact (hgd k (by omega) h2).symm
     · by_cases hkn : k = H.n
       · subst hkn
         rw [hlocn, hloc i hin]
         exact hgd i hin h1
       · rw [hloc i hin, hloc k hkn]
         exact hrel.dist i k hik (hlive i hin h1).1 (hlive k hkn h2).1
   · obtain ⟨V, hV⟩ := hrel.fzc b o hf
     exact ⟨V, hcell b o V hf hV⟩
   · exact { hle with
       size := hw.size, os := hw.os, tape := hw.tape, output := hw.output
       old := fun k hk hk2 => hw.kept k hk (fun e => hk2 id hidl e.symm) (fun e => by
         obtain ⟨j, hj, he⟩ := Option.map_eq_some_iff.1 e
         obtain ⟨_, _, bs0, h⟩ := buf_live hb hj
         exact hk2 j (by rw [h]; rfl) he)
       owned := fun i hl hlt => by
        by_cases hin : i = H.n
        · subst hin
          rw [hlocn] at hlt ⊢
          rcases hfr with e | hge
          · obtain ⟨j, hj, he⟩ := Option.map_eq_some_iff.1 e
            obtain ⟨_, _, bs0, h⟩ := buf_live hb hj
            exact ⟨j, by rw [h]; rfl, he⟩
          · omega
        · rw [hloc i hin]
          exact ⟨i, (hlive i hin hl).1, rfl⟩
       fznew := fun _ _ hf => .inl hf }
end
end Rb

namespace Rb
open Go Go.RowKit Go.Lib
section
variable {P : Program} (w : World)
theorem run_append_strO (t u ty e : TypeId) (i : TypeInfo) (ht : P.underlying t = some (.slice e)) (hu : P.underlying u = some .string) (hi : P.info? e = some i) (hz : i.zero = some (.int .u8 0))
  (hsize : i.size = 1) (hby : i.bytes = 1) (v : Value) (n : Nat) (xs : List Value) (hown : w.ownsRowF 0 e 1 v n xs) (s : ByteArray) (h47 : s.size ≤ 140737488351232) (hn : n ≤ 8796093022208 ∨ s.size ≤ 8796093022208 ∧ n ≤ 149533581377536) :
  ∃ v' w', (Builtin.append_ #[t, u] ty #[v, .string s]).run P w = .ok v' w' ∧ w'.ownsRowF 0 e 1 v' (n + s.size) (xs ++ strCells s) ∧ w.grownBy w' v.ownBlock ∧ (∀ g, v'.ownBlock = some g → v.ownBlock = some g ∨ w.heap.size ≤ g) ∧ (v.ownBlock = none → s.size = 0 → v'.ownBlock = none) := by
 have htot : n + s.size ≤ 158329674399744 := by omega
 have hwide : ((n + s.size) + (n + s.size) / 4 + 192) * 1 ≤ 281474976710656 := by omega
 rcases hown.2 with ⟨rfl, rfl⟩ | ⟨g, cap, cur, fz, rfl, hbg, hg, hfz, hnc, hcm, hcs, htake⟩
 · obtain ⟨v', w', h1, h2, h3, h4⟩ := run_append_own_string (P := P) w w.heap.size t u ty e i ht hu hi hz hsize hby (.slice none 0 0) 0 xs ⟨hown.1, .inl ⟨rfl, rfl⟩⟩ s (by unfold maxLen; omega) (by omega) (Nat.le_refl _)
   refine ⟨v', w', h1, ?_, h3, fun g hg => .inr (h2.lt g hg).1, fun _ h0 => by rw [h4.2 ⟨rfl, h0⟩]; rfl⟩
   have h5 := World.ownsRowF_of h2
   refine ⟨h5.1, ?_⟩
   rcases h5.2 with hv | ⟨g, cap, cur, fz, hv, _, r⟩
   · exact .inl hv
   · exact .inr ⟨g, cap, cur, fz, hv, Nat.zero_le _, r⟩
 · have hxl : xs.length = n := by simpa using hown.1
   have hlen : (xs ++ strCells s).length = (n + s.size) * 1 := by rw [List.length_append, hxl, strCells_length, Nat.mul_one]
   by_cases hroom : n + s.size ≤ cap
   · have hcs' : cur.size = cap := by simpa using hcs
     have hr := run_append_room_stringF (P := P) w t u ty e i ht hu hi hsize g n cap cur fz hg (by simpa using hfz) s hroom (by omega)
     refine ⟨_, _, hr, ⟨hlen, .inr ⟨g, cap, _, fz, rfl, hbg, setRow_heap w g cur _ e _ hg, by omega, hroom, hcm, ?_, ?_⟩⟩, ⟨rfl, rfl, rfl, by simp, fun k _ hk => setRow_other w g k _ (fun e => hk (by simp [Value.ownBlock, e]))⟩, fun k hk => .inl (by simpa [Value.ownBlock] using hk), fun h => by simp [Value.ownBlock] at h⟩
     · simp only [List.size_toArray, List.length_append, List.length_take, List.length_drop, Array.length_toList, strCells_length]
       omega
     · have ht' : cur.toList.take n = xs := by simpa using htake
       rw [ht', ← hlen]
       exact List.take_left
   · have holds : ∀ j u, xs[j]? = some u → w.cell? ((⟨g, 0, none⟩ : Addr).add j) = some u := hown.cells (g := g) rfl
     have hr := run_append_grow_string (P := P) w t u ty e i (.int .u8 0) ht hu hi hz ⟨g, 0, none⟩ n cap xs (by rw [hsize]; simpa using hxl) holds s (by omega) (by omega) (by rw [hby]; exact growslice_fits_wide (by omega) hwide)
     have hge := grownCap_ge w (n + s.size) cap e
     have hcm2 : grownCap w (n + s.size) cap e ≤ maxLen := grownCap_le_maxLen w (n + s.size) cap e (by unfold maxLen; omega)
     refine ⟨_, _, hr, ⟨hlen, .inr ⟨w.heap.size, _, _, (0, 0), rfl, Nat.zero_le _, heap_alloc_new w.drew _, Nat.zero_le _, hge, hcm2, ?_, ?_⟩⟩, ⟨rfl, rfl, rfl, by simp, fun k hk _ => Go.Lib.alloc_old w.drew _ k hk⟩, fun k hk => .inr (by simp [Value.ownBlock] at hk; omega), fun h => by simp [Value.ownBlock] at h⟩
     · have hz1 : (Value.int IntKind.u8 0).cells.size = 1 := rfl
       simp only [Array.size_append, List.size_toArray, size_zeroCells, hz1, hxl, strCells_length]
       omega
     · simp only [Array.toList_append, List.append_assoc]
       rw [← List.append_assoc, ← hlen]
       exact List.take_left
theorem wpList_append_strO {ops : Array Oper} {rest : List Oper} {o : Oper} {a : Act} {Q : Exit → Act → World → Prop} (hgd : o.guard = none) (sl x : Operand) (t u : TypeId)
  (ho : o.op = .call { callee := .builtin .append, args := #[sl, x], argTypes := #[t, u] })
  (e : TypeId) (i : TypeInfo) (ht : P.underlying t = some (.slice e)) (hu : P.underlying u = some .string) (hi : P.info? e = some i) (hz : i.zero = some (.int .u8 0))
  (hsize : i.size = 1) (hby : i.bytes = 1)
  (v : Value) (n : Nat) (xs : List Value) (hs : a.eval sl = v) (hown : w.ownsRowF 0 e 1 v n xs) (s : ByteArray) (hx : a.eval x = .string s)
  (h47 : s.size ≤ 140737488351232) (hn : n ≤ 8796093022208 ∨ s.size ≤ 8796093022208 ∧ n ≤ 149533581377536)
  (h : ∀ v' w', w'.ownsRowF 0 e 1 v' (n + s.size) (xs ++ strCells s) → w.grownBy w' v.ownBlock → (∀ g, v'.ownBlock = some g → v.ownBlock = some g ∨ w.heap.size ≤ g) → (v.ownBlock = none → s.size = 0 → v'.ownBlock = none) → wpList P ops Q rest (a.put o.dst v') w') : wpList P ops Q (o :: rest) a w := by
 refine wpList_plain hgd fun K hK => ?_
 obtain ⟨v', w', hr, h2, h3, h4, h5⟩ := run_append_strO (P := P) w t u o.type e i ht hu hi hz hsize hby v n xs hown s h47 hn
 unfold Oper.wp execOp
 simp only [ho, resolve, invoke, builtin, Sem.run_bind, Sem.run_pure, Result.andThen_ok, List.map_toArray, List.map_cons, List.map_nil, hs, hx, hr]
 exact hK _ _ (h v' w' h2 h3 h4 h5)
theorem strCells_bytes (s : List UInt8) : strCells ⟨s.toArray⟩ = bytesV s := by
 unfold strCells bytesV
 simp
theorem bytesV_app (a b : List UInt8) : bytesV (a ++ b) = bytesV a ++ bytesV b := List.map_append ..
end
end Rb

namespace Rb
open Go
structure Hint where
 fid : Nat
 mus : List Nat
 loops : List (List Nat)
 fz : Option Nat
 tys : List TypeId := []
 fzo : List (Nat × List Nat) := []
def memN (t : Nat) : List Nat → Bool
 | [] => false
 | s :: r => cond (Nat.beq t s) true (memN t r)
def subN : List Nat → List Nat → Bool
 | [], _ => true
 | t :: r, l => cond (memN t l) (subN r l) false
def addN (t : Nat) (l : List Nat) : List Nat := cond (memN t l) l (t :: l)
def uniN : List Nat → List Nat → List Nat
 | [], l => l
 | t :: r, l => uniN r (addN t l)
def lessN : List Nat → List Nat → List Nat
 | [], _ => []
 | t :: r, l => cond (memN t l) (lessN r l) (addN t (lessN r l))
def decK1 : Value → AV
 | .bool b => .bool b
 | .int k n => .int k n
 | .string s => .str s.data.toList
 | .pointer none => .nilp
 | .map none => .nilmap
 | .nilFunc => .nilfn
 | .nilIface => .nilif
 | .slice none _ _ => .lst .nil 0 []
 | _ => .bot
def decK : Value → AV
 | .agg Vs => .agg (Vs.toList.map decK1)
 | .tuple Vs => .tup (Vs.toList.map decK1)
 | V => decK1 V
def badO : Opd := .k .bot
def badOp : AOp := .ext .stuck []
def decO (C : Ctx) : Operand → Opd
 | .tmp t => .t t
 | .const v => .k (decK v)
 | .global g => match C.GT g with | some l => .k (.fptr l) | none => badO
 | .func f => cond (goodFn C.P f) (.k (.fn f [])) badO
def isBldF (fs : List Field) : Bool := match fs with | [a, b] => a.name == "addr" && b.name == "buf" | _ => false
def isBld (P : Program) (t : TypeId) : Bool :=
 match P.underlying t with
 | some (.struct fs) => isBldF fs.toList || (match fs.toList with | [f] => (match P.underlying f.type with | some (.struct gs) => isBldF gs.toList | _ => false) | _ => false)
 | _ => false
def isNilO : Operand → Bool
 | .const v => (match v with | .pointer none | .slice none 0 0 | .map none | .nilFunc | .nilIface => true | _ => false)
 | _ => false
def szOf (P : Program) (t : TypeId) : Nat := match P.info? t with | some i => i.size | none => 0
def byOf (P : Program) (t : TypeId) : Nat := match P.info? t with | some i => i.bytes | none => 0
def zvOf (P : Program) (t : TypeId) : Value := match P.info? t with | some i => (match i.zero with | some z => z | none => .nilIface) | none => .nilIface
def zcOf (P : Program) (t : TypeId) : List AV := (zvOf P t).cells.toList.map decK1
def agOf (P : Program) (t : TypeId) : Bool := match P.underlying t with | some d => rowish d | none => false
def elOf (P : Program) (t : TypeId) : TypeId := match P.underlying t with | some (.slice e) => e | some (.array _ e) => e | some (.map _ e) => e | _ => 0
def kkOf (P : Program) (t : TypeId) : FK := match P.underlying t with
 | some (.map kt _) => (match P.underlying kt with | some .bool => .b | some .string => .t | _ => .n)
 | _ => .n
def invOf (C : Ctx) (name : String) : List TypeId → List (TypeId × Nat × Option (Nat × Bool))
 | [] => []
 | t :: r => (match C.P.info? t with
   | some i => (match i.methods.find? (·.name == name) with
     | some mt => (match mt.func, C.P.underlying t with
       | some (f, true), some (.pointer _) => (t, f, none) :: invOf C name r
       | some (f, false), some (.pointer e) => (t, f, some (szOf C.P e, agOf C.P e)) :: invOf C name r
       | _, _ => invOf C name r)
     | none => invOf C name r)
   | none => invOf C name r)
def isIntT (P : Program) (t : TypeId) : Bool := match P.underlying t with | some (.int _) => true | _ => false
def decCall (C : Ctx) (tys : List TypeId) (mu : Bool) (c : Call) : AOp :=
 match c.callee with
 | .value (.func f) => cond (goodFn C.P f) (.call f (c.args.toList.map (decO C))) badOp
 | .value f => .callv (decO C f) (c.args.toList.map (decO C))
 | .builtin b =>
  match c.args.toList.map (decO C), c.argTypes.toList with
  | [x], [t] => (match b with
    | .len => (match C.P.underlying t with | some .string => .len true x | some (.slice _) => .len false x | some (.array n _) => .lenk n | some (.map _ _) => .maplen x | _ => badOp)
    | .cap => .cap x
    | .max => .minmax true [x]
    | .min => .minmax false [x]
    | .clear => .ext (.clear (szOf C.P (elOf C.P t)) (zcOf C.P (elOf C.P t))) [x]
    | _ => badOp)
  | [x, y], t :: _ => (match b with
    | .append => cond (isIntT C.P (c.argTypes.toList.tail.headD 0)) (.ext (.grow (szOf C.P (elOf C.P t)) (byOf C.P (elOf C.P t)) (zcOf C.P (elOf C.P t))) [x, y]) <| .append mu (szOf C.P (elOf C.P t)) (byOf C.P (elOf C.P t)) x y
    | .delete => .delete (kkOf C.P t) x y
    | .copy => .copy (szOf C.P (elOf C.P t)) x y
    | .max => .minmax true [x, y]
    | .min => .minmax false [x, y]
    | _ => badOp)
  | xs, _ => (match b with
    | .max => .minmax true xs
    | .min => .minmax false xs
    | _ => badOp)
 | .invoke x name => .inv (invOf C name tys) (decO C x) (c.args.toList.map (decO C))
def decOp (C : Ctx) (tys : List TypeId) (mu : Bool) : Op → AOp
 | .move x => .mv (decO C x)
 | .assign x => .mv (decO C x)
 | .pick c a b => .pick (decO C c) (decO C a) (decO C b)
 | .binOp op t x y _ =>
  match op, C.P.underlying t with
  | .eql, some d => (match nilKind d, d with
    | some k, _ => cond (isNilO y) (.isnil k false (decO C x)) (match k with | .p => .ext (.ptreq false) [decO C x, decO C y] | _ => badOp)
    | none, .bool => .beq false (decO C x) (decO C y)
    | none, .array _ _ => (match deepK C.P 9 t with | some l => .eqagg false l (decO C x) (decO C y) | none => badOp)
    | none, .struct _ => (match deepK C.P 9 t with | some l => .eqagg false l (decO C x) (decO C y) | none => badOp)
    | none, _ => .bin op (decO C x) (decO C y))
  | .neq, some d => (match nilKind d, d with
    | some k, _ => cond (isNilO y) (.isnil k true (decO C x)) (match k with | .p => .ext (.ptreq true) [decO C x, decO C y] | _ => badOp)
    | none, .bool => .beq true (decO C x) (decO C y)
    | none, .array _ _ => (match deepK C.P 9 t with | some l => .eqagg true l (decO C x) (decO C y) | none => badOp)
    | none, .struct _ => (match deepK C.P 9 t with | some l => .eqagg true l (decO C x) (decO C y) | none => badOp)
    | none, _ => .bin op (decO C x) (decO C y))
  | op, _ => .bin op (decO C x) (decO C y)
 | .unOp op _ x => .un op (decO C x)
 | .convert s d x =>
  match C.P.underlying s, C.P.underlying d with
  | some .string, some .string => .same (decO C x)
  | some .string, some (.slice _) => .sbytes (decO C x)
  | some (.slice _), some .string => .bstr (decO C x)
  | _, some (.int k) => .conv k (decO C x)
  | _, _ => badOp
 | .nilCheck x => .nilck (decO C x)
 | .field t x n => (match fieldOf C.P t n with | some f => .field f.offset (szOf C.P f.type) (agOf C.P f.type) (decO C x) | none => badOp)
 | .fieldAddr t x n => (match fieldOf C.P t n with | some f => .faddr f.offset (decO C x) | none => badOp)
 | .index t x i => (match C.P.underlying t with
   | some .string => .idxs (decO C x) (decO C i)
   | some (.array n e) => .idx n (szOf C.P e) (agOf C.P e) (decO C x) (decO C i)
   | _ => badOp)
 | .indexAddr t x i => (match C.P.underlying t with
   | some (.slice e) => .iaddr none (szOf C.P e) (decO C x) (decO C i)
   | some (.array n e) => .iaddr (some n) (szOf C.P e) (decO C x) (decO C i)
   | _ => badOp)
 | .slice t x lo hi mx => (match C.P.underlying t with
   | some .string => .sslice (decO C x) (lo.map (decO C)) (hi.map (decO C))
   | some (.slice e) => .slice (szOf C.P e) (decO C x) (lo.map (decO C)) (hi.map (decO C)) (mx.map (decO C))
   | _ => badOp)
 | .makeInterface t x => .mkif t (decO C x)
 | .makeFunc (.func f) first caps => cond (goodFn C.P f) (match first.toList with
   | [] => .mkfn f (caps.toList.map (decO C))
   | l => .mkfn (f + 1048576) (l.map (decO C))) badOp
 | .extract x i => .extract i (decO C x)
 | .build t ps => .build (zcOf C.P t) (ps.toList.map fun p => match placeOf C.P t p.1 with | some (o, s) => (o, s, decO C p.2) | none => (0, 0, badO))
 | .buildSlice t len ps => .bslice mu (szOf C.P (elOf C.P t)) len (zcOf C.P (elOf C.P t)) (ps.toList.map fun p => (p.1 * szOf C.P (elOf C.P t), szOf C.P (elOf C.P t), decO C p.2))
 | .load t x => .load (szOf C.P t) (agOf C.P t) (decO C x)
 | .store t x v => .store (szOf C.P t) (decO C x) (decO C v)
 | .box t x => cond (isBld C.P t) (.ext (.bnew t) [decO C x]) (.box mu (szOf C.P t) (decO C x))
 | .alloc t => cond (isBld C.P t) (.ext (.bnew t) []) (.alloc mu (zcOf C.P t))
 | .makeSlice t l c => .make mu (szOf C.P (elOf C.P t)) (byOf C.P (elOf C.P t)) (zcOf C.P (elOf C.P t)) (decO C l) (decO C c)
 | .range _ x => .srange (decO C x)
 | .next x true => .snext (decO C x)
 | .makeMap _ _ => .mkmap
 | .lookup t m k ok => .lookup (kkOf C.P t) (decK (zvOf C.P (elOf C.P t))) ok (decO C m) (decO C k)
 | .mapUpdate t m k v => .mapup (kkOf C.P t) (decO C m) (decO C k) (decO C v)
 | .insert t m k v => .mapup (kkOf C.P t) (decO C m) (decO C k) (decO C v)
 | .typeAssert x _ t ok => cond ok badOp (.ext (.tassert t) [decO C x])
 | .call c => decCall C tys mu c
 | _ => badOp
def dstN : List Oper → Nat → Option Nat
 | [], _ => none
 | o :: r, i => match i with | 0 => o.dst | i + 1 => dstN r i
def decReg (C : Ctx) (tys : List TypeId) (mus : List Nat) (all : List Oper) : List Oper → List AOper
 | [] => []
 | o :: r => ⟨o.dst, decOp C tys (match o.dst with | some d => memN d mus | none => false) o.op, match o.guard with | some (j, want) => (match dstN all j with | some s => some (s, want) | none => none) | none => none⟩ :: decReg C tys mus all r
def onOf : List Edge → List Nat
 | [] => []
 | e :: r => cond (Region.binds .any e) (addN e.on (onOf r)) (onOf r)
def nthN : List (List Nat) → Nat → List Nat
 | [], _ => []
 | l :: r, i => match i with | 0 => l | i + 1 => nthN r i
def prGo : List (List Nat) → List Nat → List Nat → List Nat
 | pr, acc, [] => acc
 | pr, acc, e :: r => prGo pr (uniN (nthN pr e) acc) r
def prOf : List (List Nat) → List Oper → List (List Nat)
 | pr, [] => pr
 | pr, o :: r => let es := onOf o.after.toList; prOf (pr ++ [prGo pr es es]) r
structure DR where
 i : Nat
 pr : List Nat
 k : Nat
 al : Bool
def drs (ops : List AOper) (pr : List (List Nat)) : Nat → List AOper → List (List Nat) → List DR
 | i, o :: r, p :: q => ⟨i, p, cond (isP o.op) 2 (cond (isR o.op) 1 0), isAl ops pr i⟩ :: drs ops pr (i + 1) r q
 | _, _, _ => []
def segD : List DR → List Nat → List Nat → List Nat × List Nat
 | [], done, out => (done, out.reverse)
 | d :: r, done, out => cond (Nat.beq d.k 0) (segD r done out) (cond (memN d.i done) (segD r done out) (cond (subN d.pr done) (segD r (d.i :: done) (d.i :: out)) (segD r done out)))
def alsD : List DR → List Nat → List Nat → List DR
 | [], _, _ => []
 | d :: r, pr, seq => cond d.al (cond (memN d.i pr) (cond (memN d.i seq) (alsD r pr seq) (d :: alsD r pr seq)) (alsD r pr seq)) (alsD r pr seq)
def effD (all : List DR) : List DR → List Nat → List DR
 | [], seq => all.filter fun d => d.al && !memN d.i seq
 | d :: r, seq => cond (Nat.beq d.k 0) (cond d.al (effD all r seq) (let a := alsD all d.pr seq; a ++ d :: effD all r (d.i :: (a.map DR.i ++ seq)))) (effD all r seq)
def stD : List DR → List Nat → List Nat → List Nat
 | [], _, _ => []
 | d :: r, done, pr => cond (Nat.beq d.k 1) (cond (memN d.i done) (cond (memN d.i pr) (stD r done pr) (d.i :: stD r done pr)) (stD r done pr)) (stD r done pr)
def planD (all : List DR) : List DR → List Nat → List (List Nat × Nat × List Nat) × List Nat
 | [], done => ([], (segD all done []).2)
 | e :: r, done => let s := segD all done []; let q := planD all r (e.i :: s.1); ((s.2, e.i, stD all s.1 e.pr) :: q.1, q.2)
def decDraw (ops : List Oper) (al : List AOper) : ACode :=
 let pr := prOf [] ops
 let ds := drs al pr 0 al pr
 let p := planD ds (effD ds ds []) []
 .draw al pr p.1 p.2
def isMv (t : Nat) (o : AOper) : Bool := match o.op with | .mv (.t s) => Nat.beq s t | _ => false
def isDst (l : List Nat) (o : AOper) : Bool := match o.dst with | some d => memN d l | none => false
def fzoN : List (Nat × List Nat) → Nat → List Nat
 | [], _ => []
 | (i, l) :: r, id => cond (Nat.beq i id) l (fzoN r id)
def frzC : List Nat → ACode → ACode
 | [], c => c
 | t :: r, c => .freeze t (frzC r c)
def decC (C : Ctx) (tys : List TypeId) (mus : List Nat) (fz : Option Nat) (fzo : List (Nat × List Nat)) (res : List Nat) : Code → List (List Nat) → ACode × List (List Nat)
 | .skip, h => (.skip, h)
 | .region id ops false, h =>
  let al := decReg C tys mus ops.toList ops.toList
  (frzC (fzoN fzo id) (match fz with
    | none => .region al
    | some t => cond (al.any (isMv t) && al.any (isDst res)) (.freeze t (.region al)) (.region al)), h)
 | .region id ops true, h => (frzC (fzoN fzo id) (decDraw ops.toList (decReg C tys mus ops.toList ops.toList)), h)
 | .seq a b, h => let p := decC C tys mus fz fzo res a h; let q := decC C tys mus fz fzo res b p.2; (.seq p.1 q.1, q.2)
 | .cond c a b, h => let p := decC C tys mus fz fzo res a h; let q := decC C tys mus fz fzo res b p.2; (.cond (decO C c) p.1 q.1, q.2)
 | .block id a, h => let p := decC C tys mus fz fzo res a h; (.block id p.1, p.2)
 | .loop a, h => let p := decC C tys mus fz fzo res a h.tail; (.loop (h.headD []) (lessN (asg p.1) (h.headD [])) p.1, p.2)
 | .exit id, h => (.exit id, h)
 | .ret, h => (.ret, h)
 | _, h => (.exit 0, h)
def resN : List ResultVar → List Nat
 | [] => []
 | .tmp t :: r => t :: resN r
 | .cell t _ :: r => t :: resN r
def decRes (P : Program) : List ResultVar → List ARes
 | [] => []
 | .tmp t :: r => .tmp t :: decRes P r
 | .cell t ty :: r => .cell t (szOf P ty) (agOf P ty) :: decRes P r
def decF (C : Ctx) (h : Hint) : AFunc :=
 match C.P.funcs[h.fid]? with
 | some fn => ⟨fn.ntmps, decRes C.P fn.results.toList, match fn.body with | some c => (decC C h.tys h.mus h.fz h.fzo (resN fn.results.toList) c h.loops).1 | none => .skip⟩
 | none => ⟨0, [], .exit 0⟩
def idC (P : Program) (GT : Nat → Option (List AV)) : Ctx := ⟨P, fun k => cond (goodFn P k) (some k) none, GT⟩
theorem idC_fok (P : Program) (GT : Nat → Option (List AV)) : FOK (idC P GT) := by
 intro key f hf
 simp only [idC] at hf
 cases hg : goodFn P key with
 | true => rw [hg] at hf; simp only [cond_true, Option.some.injEq] at hf; subst hf; exact hg
 | false => rw [hg] at hf; cases hf
def chkH (C : Ctx) : List Hint → Bool
 | [] => true
 | h :: r => and (chkF C h.fid (decF C h)) (chkH C r)
theorem chkH_mem {C : Ctx} : ∀ {L : List Hint}, chkH C L = true → ∀ h, h ∈ L → chkF C h.fid (decF C h) = true
 | [], _, h, hm => by cases hm
 | p :: r, hc, h, hm => by
  simp only [chkH, Bool.and_eq_true] at hc
  rcases List.mem_cons.1 hm with rfl | hm
  · exact hc.1
  · exact chkH_mem hc.2 h hm
theorem chkH_app {C : Ctx} : ∀ {L M : List Hint}, chkH C L = true → chkH C M = true → chkH C (L ++ M) = true
 | [], _, _, h => h
 | p :: r, M, hc, h => by
  simp only [chkH, Bool.and_eq_true] at hc
  simp only [List.cons_append, chkH, Bool.and_eq_true]
  exact ⟨hc.1, chkH_app hc.2 h⟩
end Rb

namespace Rb
open Go
noncomputable section
abbrev FnC := AFunc
def natV (m : Nat) (K : Nat → Bool) : Bool := K m
theorem natV_eq (m : Nat) (K : Nat → Bool) : natV m K = K m := rfl
def spineK {α : Type} (l : List α) (K : List α → Bool) : Bool := K l
theorem spineK_eq {α : Type} (l : List α) (K : List α → Bool) : spineK l K = K l := rfl
def THset (T : TH) (i : Nat) (x : AObj) (K : TH → Bool) : Bool := K (T.set i x)
theorem THset_eq (T : TH) (i : Nat) (x : AObj) (K : TH → Bool) : THset T i x K = K (T.set i x) := rfl
def THpush (T : TH) (x : AObj) (K : TH → Bool) : Bool := K (T.push x)
theorem THpush_eq (T : TH) (x : AObj) (K : TH → Bool) : THpush T x K = K (T.push x) := rfl
def dispI (tab : Nat → Option FnC) (B : CallsB) : CallsB := fun k args T Q => match tab k with
 | some c => fnB B 4096 c args T Q
 | none => false
def tabH (C : Ctx) (fuel : Nat) : List Hint → Nat → Option FnC
 | [], _ => none
 | h :: r, k => cond (Nat.beq h.fid k) (some (decF C h)) (tabH C fuel r k)
theorem tabH_mem {C : Ctx} {fuel : Nat} : ∀ {L : List Hint} {k : Nat} {c : FnC}, tabH C fuel L k = some c → ∃ h, h ∈ L ∧ h.fid = k ∧ c = decF C h
 | [], _, _, h => by cases h
 | p :: r, k, c, h => by
  unfold tabH at h
  cases hb : Nat.beq p.fid k with
  | true =>
   rw [hb] at h
   simp only [cond_true, Option.some.injEq] at h
   exact ⟨p, List.mem_cons_self, Nat.eq_of_beq_eq_true hb, h.symm⟩
  | false =>
   rw [hb] at h
   obtain ⟨f, hf, hc⟩ := tabH_mem (L := r) h
   exact ⟨f, List.mem_cons_of_mem _ hf, hc⟩
theorem dispI_ok {P : Program} {GT : Nat → Option (List AV)} {L : List Hint} (hL : chkH (idC P GT) L = true) (fuel : Nat) : DispOK (ACall (idC P GT)) (dispI (tabH (idC P GT) fuel L)) := by
 intro B hB k args T K h Q hQ
 unfold dispI at h
 split at h
 · rename_i c hc
   obtain ⟨hi, hm, hk, rfl⟩ := tabH_mem hc
   have hs : fnSem (ACall (idC P GT)) (decF (idC P GT) hi) args T.ah Q := fnE_sound (ACall_mono _) (fnB_sound hB h hQ)
   refine ⟨fnSem_nv (ACall_nv _) hs, fun f hf G w Vs hG hrel hargs => ?_⟩
   have hfk : f = k := by
    simp only [idC] at hf
    cases hg : goodFn P k with
    | true => rw [hg] at hf; simpa using hf.symm
    | false => rw [hg] at hf; cases hf
   subst hfk
   exact fn_sound (idC_fok P GT) (by rw [← hk]; exact chkH_mem hL _ hm) hs hG hrel hargs
 · cases h
end
end Rb

namespace Rb
open Go
noncomputable section
def forced (b : Bool) : Bool := Bool.rec (motive := fun _ => Bool) false true b
theorem forced_eq (b : Bool) : forced b = b := by cases b <;> rfl
theorem of_forced {b : Bool} (h : forced b = true) : b = true := by rwa [forced_eq] at h
def memL : List (Nat × List AV × AV) → Memo
 | [], _, _ => none
 | e :: r, k, args => cond (Nat.beq e.1 k) (cond (AV.sames e.2.1 args) (some e.2.2) (memL r k args)) (memL r k args)
theorem memL_nil {Φ : Calls'} : MemoOK Φ (memL []) := fun _ _ _ h => by cases h
end
end Rb

namespace Rb
open Go
noncomputable section
def lookA : List (List AV × AV) → List AV → Option AV
 | [], _ => none
 | e :: r, a => cond (AV.sames e.1 a) (some e.2) (lookA r a)
def grp (k : Nat) : List (Nat × List AV × AV) → List (List AV × AV)
 | [] => []
 | e :: r => cond (Nat.beq e.1 k) ((e.2.1, e.2.2) :: grp k r) (grp k r)
theorem look_grp (k : Nat) (args : List AV) : ∀ L : List (Nat × List AV × AV), lookA (grp k L) args = memL L k args
 | [] => rfl
 | e :: r => by
  have ih := look_grp k args r
  unfold grp memL
  cases Nat.beq e.1 k with
  | false => exact ih
  | true =>
   simp only [cond_true, lookA]
   cases AV.sames e.2.1 args with
   | false => exact ih
   | true => rfl
def memG (L : List (Nat × List AV × AV)) : Memo := fun k args => match grp k L with
 | [] => none
 | l => lookA l (AV.weaks args)
theorem memG_ok {C : Ctx} {L : List (Nat × List AV × AV)} (h : MemoOK (ACall C) (memL L)) : MemoOK (ACall C) (memG L) := by
 intro k args v hm H Q hQ
 have : lookA (grp k L) (AV.weaks args) = some v := by
  unfold memG at hm
  split at hm
  · cases hm
  · exact hm
 rw [look_grp] at this
 exact ACall.weak_args (h k _ v this H Q hQ)
theorem run_anyW {C : Ctx} (hGT : GTok C) {B : CallsB} (hB : SoundB (ACall C) B) {k : Nat} {args : List AV} {v : AV} (ha : AV.frozs args = true) (hv : v.froz = true) (h : B k args TH.mt (fun u _ => u.weak.same v) = true) (H : AH) (Q : Post) (hQ : Q v H) : ACall C k args H Q :=
 ACall.frame2 hGT (ACall.weak (Q := fun u _ => u.same v = true) (run_closed hB (K := fun u => u.weak.same v) h)) ha H Q fun u _ hu => by rw [AV.same_sound _ _ hu]; exact ⟨hv, hQ⟩
def entryW (B : CallsB) (e : Nat × List AV × AV) : Bool := and (AV.frozs e.2.1) (and e.2.2.froz (B e.1 e.2.1 TH.mt (fun u _ => u.weak.same e.2.2)))
def allW (B : CallsB) : List (Nat × List AV × AV) → Bool
 | [] => true
 | e :: r => and (entryW B e) (allW B r)
theorem memL_consW {C : Ctx} (hGT : GTok C) {B : CallsB} (hB : SoundB (ACall C) B) {e : Nat × List AV × AV} {L : List (Nat × List AV × AV)} (h : entryW B e = true) (hL : MemoOK (ACall C) (memL L)) : MemoOK (ACall C) (memL (e :: L)) := by
 obtain ⟨k0, a0, v0⟩ := e
 simp only [entryW, Bool.and_eq_true] at h
 obtain ⟨h1, h2, h3⟩ := h
 intro k args v hm H Q hQ
 unfold memL at hm
 dsimp only at hm
 cases hb : Nat.beq k0 k with
 | false => rw [hb] at hm; exact hL k args v hm H Q hQ
 | true =>
  rw [hb] at hm
  obtain rfl := Nat.eq_of_beq_eq_true hb
  cases hs : AV.sames a0 args with
  | false => rw [hs] at hm; exact hL k0 args v hm H Q hQ
  | true =>
   rw [hs] at hm
   simp only [cond_true, Option.some.injEq] at hm
   subst hm
   obtain rfl := AV.sames_sound _ _ hs
   exact run_anyW hGT hB h1 h2 h3 H Q hQ
theorem memL_appW {C : Ctx} (hGT : GTok C) {B : CallsB} (hB : SoundB (ACall C) B) {L : List (Nat × List AV × AV)} (hL : MemoOK (ACall C) (memL L)) : ∀ {N : List (Nat × List AV × AV)}, allW B N = true → MemoOK (ACall C) (memL (N ++ L))
 | [], _ => hL
 | e :: N, h => by
  simp only [allW, Bool.and_eq_true] at h
  exact memL_consW hGT hB h.1 (memL_appW hGT hB hL h.2)
end
end Rb

namespace Rb
open Go
def tenTab : List Int := [1, 10, 100, 1000, 10000, 100000, 1000000, 10000000, 100000000, 1000000000, 10000000000, 100000000000, 1000000000000, 10000000000000, 100000000000000, 1000000000000000, 10000000000000000, 100000000000000000, 1000000000000000000, 10000000000000000000]
def pow10tab : List AV := tenTab.map (AV.int .u64)
end Rb

namespace Go.Proofs.YtbkkoplgicffgaaGreatDoor.rb
open Rb
noncomputable def gt (g : Nat) : Option (List AV) := if g = 0 then some asciiSpace else if g = 4 then some pow10tab else if g = 9 then some deBruijn64tab else if g = 2 then some [.iface 222 (.fptr [])] else if g = 3 then some [.iface 222 (.fptr [])] else none
noncomputable def C : Ctx := idC Tryz.prog gt
noncomputable def hs0 : List Hint := [
  ⟨3,[3,4,7,8,12,14],[],none,[],[]⟩,
  ⟨4,[5,6],[],none,[],[]⟩,
  ⟨5,[11,52],[[12],[14]],none,[],[(14,[13])]⟩,
  ⟨6,[2,3,5,6,7],[[],[]],none,[],[]⟩,
  ⟨7,[5],[],none,[],[]⟩,
  ⟨8,[6,10,11,13],[[17],[37]],none,[],[]⟩,
  ⟨9,[3],[[4,5,6]],none,[],[]⟩,
  ⟨10,[],[],none,[],[]⟩,
  ⟨11,[],[[1,5],[1,6]],none,[],[]⟩,
  ⟨12,[6,7,9],[],none,[],[]⟩,
  ⟨13,[],[],none,[],[]⟩,
  ⟨14,[],[[3,4],[3,5]],none,[],[]⟩,
  ⟨15,[2,3,5,6,7],[],none,[],[]⟩,
  ⟨16,[7,8],[[5],[6]],none,[],[]⟩,
  ⟨17,[],[[3,4]],none,[],[]⟩,
  ⟨18,[3,5,37],[],none,[],[]⟩,
  ⟨19,[],[],none,[],[]⟩,
  ⟨20,[],[],none,[],[]⟩,
  ⟨21,[4,5,7],[[]],none,[],[]⟩,
  ⟨22,[],[],none,[],[]⟩,
  ⟨23,[],[[5]],none,[],[]⟩,
  ⟨24,[2],[],none,[],[]⟩,
  ⟨25,[6,7,9],[],none,[],[]⟩,
  ⟨26,[],[[8]],none,[],[]⟩,
  ⟨27,[],[],none,[],[]⟩,
  ⟨28,[],[],none,[],[]⟩,
  ⟨30,[],[[6],[6]],none,[],[]⟩,
  ⟨31,[8,9],[[17]],none,[],[]⟩,
  ⟨32,[],[],none,[],[]⟩,
  ⟨33,[],[],none,[],[]⟩,
  ⟨34,[],[[17]],none,[],[]⟩,
  ⟨35,[],[],none,[],[]⟩,
  ⟨36,[8,9],[[17]],none,[],[]⟩,
  ⟨37,[],[],none,[],[]⟩,
  ⟨38,[5],[],none,[],[]⟩,
  ⟨39,[],[[5,6],[5,8]],none,[],[]⟩,
  ⟨40,[4],[[3],[5]],none,[],[]⟩,
  ⟨41,[],[[4]],none,[],[]⟩,
  ⟨42,[3,11],[[]],none,[],[]⟩,
  ⟨43,[],[],none,[],[]⟩]
theorem ok0 : chkH C hs0 = true := by kernel_rfl
noncomputable def hs1 : List Hint := [
  ⟨44,[],[],none,[],[]⟩,
  ⟨45,[],[],none,[],[]⟩,
  ⟨46,[],[],none,[],[]⟩,
  ⟨47,[],[],none,[],[]⟩,
  ⟨48,[],[],none,[],[]⟩,
  ⟨49,[],[],none,[],[]⟩,
  ⟨50,[2],[[11],[17]],none,[],[]⟩,
  ⟨51,[],[],none,[],[]⟩,
  ⟨52,[],[],none,[],[]⟩,
  ⟨53,[4,5],[],none,[],[]⟩,
  ⟨54,[4,5],[],none,[],[]⟩,
  ⟨55,[5],[[54]],none,[],[]⟩,
  ⟨56,[],[],none,[],[]⟩,
  ⟨59,[],[],none,[],[]⟩,
  ⟨60,[],[],none,[],[]⟩,
  ⟨61,[],[],none,[],[]⟩,
  ⟨62,[5],[[8]],none,[],[]⟩,
  ⟨63,[],[],none,[],[]⟩,
  ⟨64,[5],[[8]],none,[],[]⟩,
  ⟨65,[],[],none,[],[]⟩,
  ⟨66,[],[[4]],none,[],[]⟩,
  ⟨67,[],[],none,[],[]⟩,
  ⟨68,[8,9],[[17]],none,[],[]⟩,
  ⟨69,[8,9],[[17]],none,[],[]⟩,
  ⟨70,[],[],none,[],[]⟩,
  ⟨71,[],[],none,[],[]⟩,
  ⟨72,[8,9],[[17]],none,[],[]⟩,
  ⟨73,[],[[0]],none,[],[]⟩,
  ⟨74,[2],[[4]],none,[],[]⟩,
  ⟨75,[],[[0]],none,[],[]⟩,
  ⟨76,[],[[0]],none,[],[]⟩,
  ⟨77,[],[[5]],none,[],[]⟩,
  ⟨78,[],[[3]],none,[],[]⟩,
  ⟨79,[],[],none,[],[]⟩,
  ⟨80,[],[],none,[],[]⟩,
  ⟨81,[],[],none,[],[]⟩,
  ⟨82,[41],[[3,4,5,6],[12],[10,11,12],[12]],some 9,[],[]⟩,
  ⟨83,[],[],none,[],[]⟩,
  ⟨84,[],[],none,[],[]⟩,
  ⟨85,[],[],none,[],[]⟩]
theorem ok1 : chkH C hs1 = true := by kernel_rfl
noncomputable def hs2 : List Hint := [
  ⟨86,[4,5],[[]],none,[],[]⟩,
  ⟨87,[],[[6]],none,[],[]⟩,
  ⟨88,[4],[],none,[],[]⟩,
  ⟨89,[4,6],[],none,[],[]⟩,
  ⟨90,[],[],none,[],[]⟩,
  ⟨91,[5],[[14]],none,[],[]⟩,
  ⟨92,[],[],none,[],[]⟩,
  ⟨93,[5],[[8]],none,[],[]⟩,
  ⟨95,[],[],none,[],[]⟩,
  ⟨96,[5],[[8]],none,[],[]⟩,
  ⟨97,[8,9],[[17]],none,[],[]⟩,
  ⟨98,[],[],none,[],[]⟩,
  ⟨99,[],[],none,[],[]⟩,
  ⟨100,[],[[5]],none,[],[]⟩,
  ⟨101,[],[],none,[],[]⟩,
  ⟨102,[],[],none,[],[]⟩,
  ⟨103,[],[],none,[],[]⟩,
  ⟨104,[],[],none,[],[]⟩,
  ⟨105,[],[],none,[],[]⟩,
  ⟨106,[],[[6]],none,[],[]⟩,
  ⟨107,[],[[8]],none,[],[]⟩,
  ⟨108,[11,12,46],[[5,6],[49]],none,[],[]⟩,
  ⟨109,[],[],none,[],[]⟩,
  ⟨110,[],[[12,13,101]],none,[],[]⟩,
  ⟨111,[],[],none,[],[]⟩,
  ⟨112,[4,5,7],[],none,[],[]⟩,
  ⟨113,[8,9],[[22]],none,[],[]⟩,
  ⟨114,[5],[],none,[],[]⟩,
  ⟨116,[],[],none,[],[]⟩,
  ⟨117,[],[],none,[],[]⟩,
  ⟨118,[],[],none,[],[]⟩,
  ⟨120,[],[[5]],none,[],[]⟩,
  ⟨121,[],[],none,[],[]⟩,
  ⟨122,[],[],none,[],[]⟩,
  ⟨123,[],[],none,[],[]⟩,
  ⟨124,[],[],none,[],[]⟩,
  ⟨125,[],[],none,[],[]⟩,
  ⟨126,[],[],none,[],[]⟩,
  ⟨127,[],[[3,4]],none,[],[]⟩,
  ⟨130,[15],[],none,[],[]⟩]
theorem ok2 : chkH C hs2 = true := by kernel_rfl
noncomputable def hs3 : List Hint := [
  ⟨131,[15],[],none,[],[]⟩,
  ⟨132,[],[[6]],none,[],[]⟩,
  ⟨133,[],[],none,[],[]⟩,
  ⟨134,[],[],none,[],[]⟩,
  ⟨135,[],[[1,4]],none,[],[]⟩,
  ⟨136,[12],[[1,13],[1,13]],none,[],[]⟩,
  ⟨137,[5],[],none,[],[]⟩,
  ⟨138,[9],[],none,[],[]⟩,
  ⟨142,[],[],none,[],[]⟩,
  ⟨143,[],[],none,[],[]⟩,
  ⟨144,[],[[20],[7,8]],none,[],[]⟩,
  ⟨145,[10],[[16],[7,8]],none,[],[]⟩,
  ⟨146,[9],[],none,[],[]⟩,
  ⟨147,[5],[],none,[],[]⟩,
  ⟨148,[],[],none,[],[]⟩,
  ⟨149,[],[],none,[],[]⟩,
  ⟨150,[],[],none,[],[]⟩,
  ⟨151,[],[],none,[],[]⟩,
  ⟨152,[],[],none,[],[]⟩,
  ⟨154,[],[],none,[],[]⟩,
  ⟨155,[],[],none,[],[]⟩]
theorem ok3 : chkH C hs3 = true := by kernel_rfl
noncomputable def hs : List Hint := hs0 ++ (hs1 ++ (hs2 ++ (hs3)))
theorem okAll : chkH C hs = true := chkH_app ok0 (chkH_app ok1 (chkH_app ok2 (ok3)))
end Go.Proofs.YtbkkoplgicffgaaGreatDoor.rb

namespace Go.Proofs.YtbkkoplgicffgaaGreatDoor.rb
open Rb
theorem gtok : ∀ g l, gt g = some l → AV.frozs l = true := by
 intro g l h
 unfold gt at h
 split at h
 · cases h; kernel_rfl
 split at h
 · cases h; kernel_rfl
 split at h
 · cases h; kernel_rfl
 split at h
 · cases h; kernel_rfl
 split at h
 · cases h; kernel_rfl
 cases h
theorem gtC : GTok C := gtok
noncomputable def fn : Nat → Option FnC := tabH C 4096 hs
theorem dispOK : DispOK (ACall C) (dispI fn) := dispI_ok okAll 4096
end Go.Proofs.YtbkkoplgicffgaaGreatDoor.rb

namespace Go.Proofs.YtbkkoplgicffgaaGreatDoor.rb
open Rb Go.RowKit
set_option maxRecDepth 100000 in
theorem indexByte_calls (s : ByteArray) (c : Int) (w : World) : Calls Tryz.prog 143 #[.string s, .int .u8 c] w fun e w' => e = .returned (.int .i64 (Go.Lib.indexByte s.data.toList c.toNat.toUInt8)) ∧ w' = w := by
 go_enter Tryz.func143, Tryz.ntmps143
 go_wp2
 rw [run_callFunc_extern Tryz.func153 (by kernel_rfl) (by kernel_rfl) (by kernel_rfl) (e := Extern.BytealgIndexByte.indexByte) (by kernel_rfl), Go.Lib.run_indexByteString]
 simp only [Result.andThen]
 rw [Oper.upon_value]
 go_wp2
 go_ret
 exact ⟨rfl, rfl⟩
theorem indexByte (s : List UInt8) (c : Int) (H : AH) (Q : Post) (hQ : Q (.int .i64 (Go.Lib.indexByte s c.toNat.toUInt8)) H) : ACall C 143 [.str s, .int .u8 c] H Q := by
 refine ⟨⟨_, _, hQ⟩, fun f hf G w Vs hG hrel hargs => ?_⟩
 obtain rfl : f = 143 := by
  have : C.F 143 = some 143 := by kernel_rfl
  rw [this] at hf; exact (Option.some.inj hf).symm
 obtain ⟨hl, hv⟩ := hargs
 obtain ⟨Vl⟩ := Vs
 match Vl, hl with
 | [V0, V1], _ =>
  have h0 := (hv 0 _ V0 rfl rfl).str_inv
  have h1 := (hv 1 _ V1 rfl rfl).int_inv
  subst h0 h1
  refine (indexByte_calls ⟨s.toArray⟩ c w).mono fun e w' ⟨he, hw⟩ => ?_
  subst hw
  exact ⟨_, _, H, G, he, hQ, .int _ _, hrel, Step.refl _ _ _⟩
noncomputable def MxG (L : List (Nat × List AV × AV)) : Memo := fun k a => cond (Nat.beq k 143) (match a with | [.str s, .int .u8 c] => some (.int .i64 (Go.Lib.indexByte s c.toNat.toUInt8)) | _ => none) (memG L k a)
theorem MxG_ok {L : List (Nat × List AV × AV)} (hL : MemoOK (ACall C) (memL L)) : MemoOK (ACall C) (MxG L) := by
 intro k a v h H Q hQ
 unfold MxG at h
 cases hb : Nat.beq k 143 with
 | false => rw [hb] at h; exact memG_ok hL k a v h H Q hQ
 | true =>
  rw [hb] at h
  obtain rfl := Nat.eq_of_beq_eq_true hb
  simp only [cond_true] at h
  split at h
  · cases h; exact indexByte _ _ H Q hQ
  · cases h
end Go.Proofs.YtbkkoplgicffgaaGreatDoor.rb

namespace Go.Proofs.YtbkkoplgicffgaaGreatDoor.rb
open Rb Go.RowKit
theorem lies79 : liesAt Tryz.prog Tryz.prog.depth 79 (2 / Tryz.prog.cellsOf 79) 0 77 1 = true := by kernel_rfl
theorem sizeB : (Tryz.prog.info? 77).map (·.size) = some 2 := by kernel_rfl
theorem infoU : (Tryz.prog.info? 5).map (fun i => (i.zero, i.size, i.bytes)) = some (some (.int .u8 0), 1, 1) := by kernel_rfl
theorem cellsU1 : Tryz.prog.cellsOf 5 = 1 := by kernel_rfl
set_option maxRecDepth 100000 in
theorem copyCheck_used (b : Nat) (w : World) (h0 : w.cell? ⟨b, 0, none⟩ = some (.pointer (some ⟨b, 0, none⟩))) :
  Calls Tryz.prog 94 #[.pointer (some ⟨b, 0, none⟩)] w fun e w' => e = .returned (.tuple #[]) ∧ w' = w := by
 obtain ⟨j, hj, _⟩ := Option.map_eq_some_iff.1 sizeB
 go_enter Tryz.func94, Tryz.ntmps94
 go_wp2
 rw [Lib.run_neq_ptr_same w _ Tryz.underlying74 hj]
 go_wp2
 go_end0
 exact ⟨rfl, rfl⟩
set_option maxRecDepth 100000 in
theorem copyCheck_fresh (b : Nat) (w : World) (h0 : w.cell? ⟨b, 0, none⟩ = some (.pointer none)) (hsh : w.shape? b = some (79, 2)) (hfz : w.frozen? ⟨b, 0, none⟩ = false) :
  Calls Tryz.prog 94 #[.pointer (some ⟨b, 0, none⟩)] w fun e w' => e = .returned (.tuple #[]) ∧ w' = w.setCell ⟨b, 0, none⟩ (.pointer (some ⟨b, 0, none⟩)) := by
 obtain ⟨j, hj, hjs⟩ := Option.map_eq_some_iff.1 sizeB
 go_enter Tryz.func94, Tryz.ntmps94
 go_wp2
 rw [Lib.run_to_unsafe w ⟨b, 0, none⟩ Tryz.underlying74 Tryz.underlying171 hj (by rw [hjs]; decide) hsh (Nat.zero_lt_succ 1)]
 simp only [Result.andThen]
 rw [Oper.upon_value]
 go_wp2
 rw [run_callFunc_extern Tryz.func115 (by kernel_rfl) (by kernel_rfl) (by kernel_rfl) (e := Extern.AbiNoEscape.same) (by kernel_rfl)]
 rw [Lib.run_noEscape]
 simp only [Result.andThen]
 rw [Oper.upon_value]
 go_wp2
 rw [Lib.run_from_unsafe w ⟨b, 0, none⟩ Tryz.underlying171 Tryz.underlying74 hj hsh lies79]
 simp only [Result.andThen]
 rw [Oper.upon_value]
 go_wp2
 go_end0
 exact ⟨rfl, rfl⟩
theorem copyCheck_calls (b : Nat) (p v : Value) (w : World) (hp : p = .pointer none ∨ p = .pointer (some ⟨b, 0, none⟩)) (hb : w.heap[b]? = some (.cells #[p, v] 79 (0, 0))) :
  Calls Tryz.prog 94 #[.pointer (some ⟨b, 0, none⟩)] w fun e w' => e = .returned (.tuple #[]) ∧ w'.heap[b]? = some (.cells #[.pointer (some ⟨b, 0, none⟩), v] 79 (0, 0)) ∧ w'.os = w.os ∧ w'.tape = w.tape ∧ w'.output = w.output ∧ w'.heap.size = w.heap.size ∧ ∀ k, k ≠ b → w'.heap[k]? = w.heap[k]? := by
 rcases hp with rfl | rfl
 · refine (copyCheck_fresh b w (by rw [Lib.cell_of_heap hb]; rfl) (by simp [World.shape?, hb]) (Lib.frozen_of_heap hb 0)).mono fun e w' ⟨he, hw⟩ => ?_
   subst hw
   refine ⟨he, by simp [World.setCell, Array.getElem?_modify, hb], rfl, rfl, rfl, by simp [World.setCell], fun k hk => Below.heap_setCell _ _ _ _ (fun e => hk e)⟩
 · refine (copyCheck_used b w (by rw [Lib.cell_of_heap hb]; rfl)).mono fun e w' ⟨he, hw⟩ => ?_
   subst hw
   exact ⟨he, hb, rfl, rfl, rfl, rfl, fun _ _ => rfl⟩
set_option maxHeartbeats 2000000 in
set_option maxRecDepth 100000 in
theorem writeString_calls (b : Nat) (p v : Value) (bs : List Value) (s : ByteArray) (w : World) (hp : p = .pointer none ∨ p = .pointer (some ⟨b, 0, none⟩)) (hb : w.heap[b]? = some (.cells #[p, v] 79 (0, 0))) (hown : w.ownsRowF 0 5 1 v bs.length bs) (hne : v.ownBlock ≠ some b)
  (h47 : s.size ≤ 140737488351232) (hn : bs.length ≤ 8796093022208 ∨ s.size ≤ 8796093022208 ∧ bs.length ≤ 149533581377536) :
  Calls Tryz.prog 58 #[.pointer (some ⟨b, 0, none⟩), .string s] w fun e w' => e = .returned (.tuple #[.int .i64 s.size, .nilIface]) ∧
   w.heap.size ≤ w'.heap.size ∧ w'.os = w.os ∧ w'.tape = w.tape ∧ w'.output = w.output ∧
   (∃ v', w'.heap[b]? = some (.cells #[.pointer (some ⟨b, 0, none⟩), v'] 79 (0, 0)) ∧ w'.ownsRowF 0 5 1 v' (bs.length + s.size) (bs ++ Lib.strCells s) ∧ (∀ g, v'.ownBlock = some g → v.ownBlock = some g ∨ w.heap.size ≤ g) ∧ (v.ownBlock = none → s.size = 0 → v'.ownBlock = none)) ∧
   ∀ k, k < w.heap.size → k ≠ b → v.ownBlock ≠ some k → w'.heap[k]? = w.heap[k]? := by
 obtain ⟨i0, hi, hz0, hz1, hz2⟩ := info_parts infoU
 go_enter Tryz.func58, Tryz.ntmps58
 go_wp2_with (refine (copyCheck_calls b p v _ hp hb).mono ?_)
 rintro e w1 ⟨rfl, hbk, ho1, ht1, hu1, hs1, hk1⟩
 have hown1 : w1.ownsRowF 0 5 1 v bs.length bs := by
  refine ⟨hown.1, ?_⟩
  rcases hown.2 with h | ⟨g, cap, cur, fz, hv, h1, h2, h3⟩
  · exact .inl h
  · refine .inr ⟨g, cap, cur, fz, hv, h1, ?_, h3⟩
    rw [hk1 g (fun e => hne (by rw [hv, e]; rfl))]; exact h2
 have c0 : w1.cell? ⟨b, 0, none⟩ = some (.pointer (some ⟨b, 0, none⟩)) := by rw [Lib.cell_of_heap hbk]; rfl
 have c1 : w1.cell? ⟨b, 1, none⟩ = some v := by rw [Lib.cell_of_heap hbk]; rfl
 go_wp2_with (at_builtin; refine Rb.wpList_append_strO _ rfl _ _ 75 9 rfl 5 i0 Tryz.underlying75 Tryz.underlying9 hi hz0 hz1 hz2 _ _ _ rfl hown1 s rfl h47 hn ?_)
 intro v' w2 hown' hgrow hfrom hnil
 have hlt : b < w1.heap.size := (Array.getElem?_eq_some_iff.1 hbk).1
 have hb2 : w2.heap[b]? = some (.cells #[.pointer (some ⟨b, 0, none⟩), v] 79 (0, 0)) := by
  rw [hgrow.block b hlt (fun e => hne e.symm)]
  exact hbk
 have d0 : w2.cell? ⟨b, 0, none⟩ = some (.pointer (some ⟨b, 0, none⟩)) := by rw [Lib.cell_of_heap hb2]; rfl
 have d1 : w2.cell? ⟨b, 1, none⟩ = some v := by rw [Lib.cell_of_heap hb2]; rfl
 have f1 : w2.frozen? ⟨b, 1, none⟩ = false := Lib.frozen_of_heap hb2 1
 have hne' : v'.ownBlock ≠ some b := by
  intro e
  rcases hfrom b e with h | h
  · exact hne h
  · omega
 obtain ⟨ao, n', cap, rfl⟩ : ∃ ao n' cap, v' = .slice ao n' cap := by
  rcases hown'.2 with ⟨hv, _⟩ | ⟨g, cap, cur, fz, hv, _⟩
  · exact ⟨_, _, _, hv⟩
  · exact ⟨_, _, _, hv⟩
 go_wp2
 go_ret2
 refine ⟨rfl, ?_, ?_, ?_, ?_, ⟨_, ?_, ?_, fun g hg => by have := hfrom g hg; first | exact this | (rw [hs1] at this; exact this), fun h1 h2 => hnil h1 (by first | exact h2 | (apply ByteArray.ext; exact Array.eq_empty_of_size_eq_zero h2))⟩, fun k hk hkb hko => ?_⟩
 · have := hgrow.size; simp only [World.setCell, Array.size_modify]; omega
 · exact hgrow.os.trans ho1
 · exact hgrow.tape.trans ht1
 · exact hgrow.output.trans hu1
 · simp [World.setCell, Array.getElem?_modify, hb2]
 · refine hown'.kept (row := some b) ⟨rfl, rfl, rfl, by simp [World.setCell], fun k _ hk => Below.heap_setCell _ _ _ _ (fun e => hk (by simp [e]))⟩ (Or.inr hne')
 · rw [Below.heap_setCell _ _ _ _ (fun e => hkb e), hgrow.block k (by omega) (fun e => hko e.symm), hk1 k hkb]
set_option maxRecDepth 100000 in
theorem len_calls (b : Nat) (p v : Value) (bs : List Value) (w : World) (hb : w.heap[b]? = some (.cells #[p, v] 79 (0, 0))) (hown : w.ownsRowF 0 5 1 v bs.length bs) :
  Calls Tryz.prog 57 #[.pointer (some ⟨b, 0, none⟩)] w fun e w' => e = .returned (.int .i64 bs.length) ∧ w' = w := by
 obtain ⟨ao, cap, rfl⟩ : ∃ ao cap, v = .slice ao bs.length cap := by
  rcases hown.2 with ⟨hv, h0⟩ | ⟨g, cap, cur, fz, hv, _⟩
  · exact ⟨none, 0, by rw [hv, h0]⟩
  · exact ⟨_, _, hv⟩
 have c1 : w.cell? ⟨b, 1, none⟩ = some (.slice ao bs.length cap) := by rw [Lib.cell_of_heap hb]; rfl
 go_enter Tryz.func57, Tryz.ntmps57
 go_wp2
 go_ret
 exact ⟨rfl, rfl⟩
set_option maxHeartbeats 2000000 in
set_option maxRecDepth 100000 in
theorem string_calls (b g cap : Nat) (p : Value) (l : List UInt8) (cur : Array Value) (fz : Nat × Nat) (w : World) (h0 : l ≠ []) (hb : w.heap[b]? = some (.cells #[p, .slice (some ⟨g, 0, none⟩) l.length cap] 79 (0, 0)))
  (hg : w.heap[g]? = some (.cells cur 5 fz)) (hnc : l.length ≤ cap) (hcm : cap ≤ maxLen) (hcs : cur.size = cap) (htake : cur.toList.take l.length = bytesV l) :
  Calls Tryz.prog 29 #[.pointer (some ⟨b, 0, none⟩)] w fun e w' => e = .returned (.string ⟨l.toArray⟩) ∧ w' = w.drew.freeze ⟨g, 0, none⟩ l.length := by
 have hl0 : l.length ≠ 0 := by simpa using h0
 have c1 : w.drew.cell? ⟨b, 1, none⟩ = some (.slice (some ⟨g, 0, none⟩) l.length cap) := by
  have : w.drew.heap[b]? = some (.cells #[p, .slice (some ⟨g, 0, none⟩) l.length cap] 79 (0, 0)) := hb
  rw [Lib.cell_of_heap this]; rfl
 have hSD : (Builtin.unsafeSliceData_ #[75] 123 #[.slice (some ⟨g, 0, none⟩) l.length cap]).run Tryz.prog w.drew = .ok (.pointer (some ⟨g, 0, none⟩)) w.drew :=
  Lib.run_unsafeSliceData_row _ _ _ _ _ _ (by omega)
 have hUS : (Builtin.unsafeString_ #[123, 3] 9 #[.pointer (some ⟨g, 0, none⟩), .int .i64 l.length]).run Tryz.prog w.drew = .ok (.string ⟨l.toArray⟩) (w.drew.freeze ⟨g, 0, none⟩ l.length) := by
  refine Lib.run_unsafeString_row w.drew 123 3 9 5 Tryz.underlying123 cellsU1 g cur.size (by have hg' : w.drew.heap[g]? = some (.cells cur 5 fz) := hg; simp [World.shape?, hg']) l h0 (by omega) (by unfold maxLen at hcm; omega) ?_
  intro j x hx
  have hadd : (⟨g, 0, none⟩ : Addr).add j = ⟨g, j, none⟩ := by unfold Addr.add; split <;> simp_all
  have hg' : w.drew.heap[g]? = some (.cells cur 5 fz) := hg
  rw [hadd, cell_of_row w.drew g j cur 5 fz hg']
  have hj : j < l.length := by
   rcases Nat.lt_or_ge j l.length with h | h
   · exact h
   · rw [List.getElem?_eq_none h] at hx; cases hx
  have h1 : (cur.toList.take l.length)[j]? = cur[j]? := by rw [List.getElem?_take, if_pos hj]; simp
  rw [← h1, htake]
  simp [bytesV, hx]
 go_enter Tryz.func29, Tryz.ntmps29
 go_wp2
 go_region
 all_goals (go_wp2; go_ret; exact ⟨rfl, rfl⟩)
set_option maxHeartbeats 2000000 in
set_option maxRecDepth 100000 in
theorem stringN_calls (b : Nat) (p : Value) (w : World) (hb : w.heap[b]? = some (.cells #[p, .slice none 0 0] 79 (0, 0))) :
  Calls Tryz.prog 29 #[.pointer (some ⟨b, 0, none⟩)] w fun e w' => e = .returned (.string ⟨#[]⟩) ∧ w' = w.drew := by
 have c1 : w.drew.cell? ⟨b, 1, none⟩ = some (.slice none 0 0) := by
  have : w.drew.heap[b]? = some (.cells #[p, .slice none 0 0] 79 (0, 0)) := hb
  rw [Lib.cell_of_heap this]; rfl
 have hSD : (Builtin.unsafeSliceData_ #[75] 123 #[.slice none 0 0]).run Tryz.prog w.drew = .ok (.pointer none) w.drew := rfl
 have hUS : (Builtin.unsafeString_ #[123, 3] 9 #[.pointer none, .int .i64 0]).run Tryz.prog w.drew = .ok (.string .empty) w.drew := Lib.run_unsafeString_none w.drew _ _ _ none
 go_enter Tryz.func29, Tryz.ntmps29
 go_wp2
 go_region
 all_goals (go_wp2; go_ret; exact ⟨rfl, rfl⟩)
end Go.Proofs.YtbkkoplgicffgaaGreatDoor.rb

namespace Go.Proofs.YtbkkoplgicffgaaGreatDoor.rb
open Rb Go.RowKit
abbrev BAt (H : AH) (id : Nat) (bs : List UInt8) : Prop := BldAt 79 5 H id bs
theorem writeOKx {H : AH} {id : Nat} {bs : List UInt8} (hb : BAt H id bs) (s : List UInt8) (h47 : s.length ≤ 140737488351232) (hn : bs.length ≤ 8796093022208 ∨ s.length ≤ 8796093022208 ∧ bs.length ≤ 149533581377536) {Q : Post}
  (hQ : Q (.tup [.int .i64 s.length, .nilif]) (wroteX H id 79 5 (bs ++ s))) : ACall C 58 [.ptr id 0, .str s] H Q := by
 refine ⟨⟨_, _, hQ⟩, fun f hf G W Vs hG hrel hargs => ?_⟩
 obtain rfl : f = 58 := by
  have : C.F 58 = some 58 := by kernel_rfl
  rw [this] at hf; exact (Option.some.inj hf).symm
 obtain ⟨hl, hv⟩ := hargs
 obtain ⟨Vl⟩ := Vs
 match Vl, hl with
 | [V0, V1], _ =>
  have e0 := hv 0 _ V0 rfl rfl
  have e1 := (hv 1 _ V1 rfl rfl).str_inv
  subst e1
  generalize hz : AV.ptr id 0 = z at e0
  cases e0 <;> try (cases hz; done)
  cases hz
  obtain ⟨p, v, hp, hp2, hc, hown, hne, hbuf⟩ := hb.rel hrel
  have hsz : (⟨s.toArray⟩ : ByteArray).size = s.length := by show s.toArray.size = _; simp
  have hlen := bytesV_len bs
  refine (writeString_calls (G.loc id) p v (bytesV bs) ⟨s.toArray⟩ W hp hc (by rw [hlen]; exact hown) hne (by rw [hsz]; exact h47) (by rw [hsz, hlen]; exact hn)).mono fun e w' ⟨he, k1, k2, k3, k4, ⟨v', k5, k6, k7, k8⟩, k9⟩ => ?_
  have hw : Wrote W w' 79 5 (G.loc id) ((bufOf H id).map G.loc) (bs ++ s) := by
   refine ⟨k1, k2, k3, k4, ⟨v', k5, ?_, fun g hg => ?_, fun hnil => ?_⟩, fun k h1 h2 h3 => k9 k h1 h2 (by rw [hbuf]; exact h3)⟩
   · rw [hlen, hsz, strCells_bytes, ← bytesV_app] at k6
     rw [List.length_append]
     exact k6
   · rw [← hbuf]; exact k7 g hg
   · have hbs : bs = [] := (List.append_eq_nil_iff.1 hnil).1
     have hs : s = [] := (List.append_eq_nil_iff.1 hnil).2
     refine k8 ?_ (by rw [hsz, hs]; rfl)
     rw [hbuf]
     rcases hb.2 with ⟨u, h1, _⟩ | ⟨j, _, _, _, h4⟩
     · simp [bufOf, h1]
     · exact absurd hbs h4
  obtain ⟨G', r1, r2⟩ := wrote_relX hrel hb hw
  exact ⟨_, _, _, G', he, hQ, .tup _ _ rfl (fun j c V hc hV => by
    rcases j with _ | _ | j
    · simp at hc hV; subst hc hV; rw [hsz]; exact .int _ _
    · simp at hc hV; subst hc hV; exact .nilif
    · simp at hc), r1, r2⟩
theorem writeOK {H : AH} {id : Nat} {bs : List UInt8} (hb : BAt H id bs) (s : List UInt8) (h47 : s.length ≤ 140737488351232) (hn : bs.length ≤ 8796093022208 ∨ s.length ≤ 8796093022208 ∧ bs.length ≤ 149533581377536) {Q : Post}
  (hQ : ∀ H', BAt H' id (bs ++ s) → KeepB H id H' → Q (.tup [.int .i64 s.length, .nilif]) H') : ACall C 58 [.ptr id 0, .str s] H Q :=
 writeOKx hb s h47 hn (hQ _ (wroteX_bld hb _).1 (wroteX_bld hb _).2)
theorem lenOK {H : AH} {id : Nat} {bs : List UInt8} (hb : BAt H id bs) {Q : Post} (hQ : Q (.int .i64 bs.length) H) : ACall C 57 [.ptr id 0] H Q := by
 refine ⟨⟨_, _, hQ⟩, fun f hf G W Vs hG hrel hargs => ?_⟩
 obtain rfl : f = 57 := by
  have : C.F 57 = some 57 := by kernel_rfl
  rw [this] at hf; exact (Option.some.inj hf).symm
 obtain ⟨hl, hv⟩ := hargs
 obtain ⟨Vl⟩ := Vs
 match Vl, hl with
 | [V0], _ =>
  have e0 := hv 0 _ V0 rfl rfl
  generalize hz : AV.ptr id 0 = z at e0
  cases e0 <;> try (cases hz; done)
  cases hz
  obtain ⟨p, v, hp, hp2, hc, hown, hne, hbuf⟩ := hb.rel hrel
  have hlen := bytesV_len bs
  refine (len_calls (G.loc id) p v (bytesV bs) W hc (by rw [hlen]; exact hown)).mono fun e w' ⟨he, hw⟩ => ?_
  subst hw
  rw [hlen] at he
  exact ⟨_, _, H, G, he, hQ, .int _ _, hrel, Step.refl _ _ _⟩
theorem textOKx {H : AH} {id : Nat} {bs : List UInt8} (hb : BAt H id bs) {Q : Post} (hQ : Q (.str bs) (if bs = [] then H else wroteX H id 79 5 bs)) : ACall C 29 [.ptr id 0] H Q := by
 refine ⟨⟨_, _, hQ⟩, fun f hf G W Vs hG hrel hargs => ?_⟩
 obtain rfl : f = 29 := by
  have : C.F 29 = some 29 := by kernel_rfl
  rw [this] at hf; exact (Option.some.inj hf).symm
 obtain ⟨hl, hv⟩ := hargs
 obtain ⟨Vl⟩ := Vs
 match Vl, hl with
 | [V0], _ =>
  have e0 := hv 0 _ V0 rfl rfl
  generalize hz : AV.ptr id 0 = z at e0
  cases e0 <;> try (cases hz; done)
  cases hz
  obtain ⟨p, v, hp, hp2, hc, hown, hne, hbuf⟩ := hb.rel hrel
  by_cases h0 : bs = []
  · subst h0
    have hvn : v = .slice none 0 0 := by
     rcases hown.2 with ⟨h, _⟩ | ⟨g, cap, cur, fz, h, _⟩
     · exact h
     · rcases hb.2 with ⟨u, h1, _⟩ | ⟨j, _, _, _, h4⟩
       · rw [h] at hbuf; simp [bufOf, h1, Value.ownBlock] at hbuf
       · exact absurd rfl h4
    subst hvn
    refine (stringN_calls (G.loc id) p W hc).mono fun e w' ⟨he, hw⟩ => ?_
    subst hw
    have hbel : Below W.heap.size W W.drew := Below.drew (Below.refl _ _)
    rw [if_pos rfl] at hQ
    exact ⟨_, _, H, G, he, hQ, .str _, rel_below hbel hrel, step_below hbel hrel⟩
  · rw [if_neg h0] at hQ
    rcases hown.2 with ⟨_, hz⟩ | ⟨g, cap, cur, fz, hvv, hbg, hg, hfz, hnc, hcm, hcs, htake⟩
    · exact absurd (List.eq_nil_of_length_eq_zero hz) h0
    · subst hvv
      have hself := hp2 h0
      subst hself
      have hgb : g ≠ G.loc id := fun e => hne (by simp [Value.ownBlock, e])
      refine (string_calls (G.loc id) g cap _ bs cur fz W h0 hc hg hnc hcm (by omega) (by rw [Nat.mul_one] at htake; exact htake)).mono fun e w' ⟨he, hw⟩ => ?_
      have hA : Lib.BuilderAtF 79 5 0 (G.loc id) (.pointer (some ⟨G.loc id, 0, none⟩)) (bytesV bs) W.drew := ⟨Nat.zero_le _, _, hc, by rw [bytesV_len]; exact hown, hne⟩
      have hF := hA.froze (g := g) (cap := cap) (by
        have : W.drew.heap[G.loc id]? = some (.cells #[.pointer (some ⟨G.loc id, 0, none⟩), .slice (some ⟨g, 0, none⟩) bs.length cap] 79 (0, 0)) := hc
        rw [Lib.cell_of_heap this, bytesV_len]; rfl)
      rw [bytesV_len, ← hw] at hF
      obtain ⟨_, v2, hb2, hown2, hne2⟩ := hF
      have hkept : ∀ k, k ≠ g → w'.heap[k]? = W.heap[k]? := by
       intro k hk
       rw [hw]
       unfold World.freeze
       split
       · rfl
       · show (Array.modify _ _ _)[k]? = _
         rw [Array.getElem?_modify, if_neg (fun e => hk e.symm)]; rfl
      have hv2 : v2 = .slice (some ⟨g, 0, none⟩) bs.length cap := by
       rw [hkept _ hgb.symm, hc] at hb2
       simp at hb2
       exact hb2.symm
      have hWr : Wrote W w' 79 5 (G.loc id) ((bufOf H id).map G.loc) bs := by
       refine ⟨?_, ?_, ?_, ?_, ⟨v2, hb2, by rw [bytesV_len] at hown2; exact hown2, fun g' hg' => .inl ?_, fun h => absurd h h0⟩, fun k h1 h2 h3 => hkept k (fun e => h3 ?_)⟩
       · rw [hw]; unfold World.freeze; split
         · exact Nat.le_refl _
         · show W.heap.size ≤ (Array.modify _ _ _).size
           rw [Array.size_modify]; exact Nat.le_refl _
       · rw [hw]; unfold World.freeze; split <;> rfl
       · rw [hw]; unfold World.freeze; split <;> rfl
       · rw [hw]; unfold World.freeze; split <;> rfl
       · first | (rw [← hbuf, ← hg', hv2]; done) | (rw [← hbuf, ← hg', hv2]; rfl)
       · first | (rw [← hbuf, e]; done) | (rw [← hbuf, e]; rfl)
      obtain ⟨G', r1, r2⟩ := wrote_relX hrel hb hWr
      exact ⟨_, _, _, G', he, hQ, .str _, r1, r2⟩
theorem textOK {H : AH} {id : Nat} {bs : List UInt8} (hb : BAt H id bs) {Q : Post} (hQ : ∀ H', BAt H' id bs → KeepB H id H' → Q (.str bs) H') : ACall C 29 [.ptr id 0] H Q := by
 refine textOKx hb ?_
 split
 · exact hQ _ hb (KeepB.refl _ _)
 · exact hQ _ (wroteX_bld hb _).1 (wroteX_bld hb _).2
end Go.Proofs.YtbkkoplgicffgaaGreatDoor.rb

namespace Rb
open Go Go.RowKit
theorem gle_more {w w' : World} {G : Ghost} (hb : Below w.heap.size w w') (b c : Nat) : GLe w G w' (G.more b c) :=
 ⟨Nat.le_succ _, fun i hi => if_neg (Nat.ne_of_lt hi), fun i hi => if_neg (Nat.ne_of_lt hi), fun _ _ hf => hf, (gle_below (G := G) hb).cell⟩
theorem obj_more {F : FTab} {w w' : World} {G : Ghost} (hb : Below w.heap.size w w') (b c : Nat) {i : Nat} {x : AObj} (h : ObjR F w G i x) (hi : x.live = true → i < G.n) : ObjR F w' (G.more b c) i x :=
 h.keep (gle_more hb b c) hi (fun hl => hb.block _ (h.lt hl)) fun _ _ hj => hj
theorem adopt {F : FTab} {w w' : World} {G : Ghost} {H : AH} (hb : Below w.heap.size w w') (h : Rel F w G H) {b : Nat} {C : Array Value} {e : TypeId} (hB : w.heap.size ≤ b) (hC : w'.heap[b]? = some (.cells C e (0, 0)))
  {cs : List AV} (hv : ∀ (j : Nat) (c : AV), cs[j]? = some c → ∃ V, C[j]? = some V ∧ VR F w' (G.more b C.size) c V) :
  Rel F w' (G.more b C.size) (H.push (.row cs)) ∧ Step w G H w' (G.more b C.size) (H.push (.row cs)) ∧ ∀ n cap sz, n ≤ cap → C.size = cap * sz → VR F w' (G.more b C.size) (.row H.n 0 n sz) (.slice (some ⟨b, 0, none⟩) n cap) := by
 have hn := h.n
 have hg := gle_more (G := G) hb b C.size
 have hloc : ∀ i, i ≠ H.n → (G.more b C.size).loc i = G.loc i := fun i hi => if_neg (show ¬ i = G.n by omega)
 have hlocn : (G.more b C.size).loc H.n = b := if_pos hn.symm
 have hcapn : (G.more b C.size).cap H.n = C.size := if_pos hn.symm
 have ho : ∀ i, i ≠ H.n → (H.push (.row cs)).o i = H.o i := fun i hi => if_neg hi
 have hnew : ∀ i, (H.o i).live = true → G.loc i ≠ b := fun i hl => Nat.ne_of_lt (Nat.lt_of_lt_of_le ((h.obj i).lt hl) hB)
 have hnf : ∀ j, ¬ G.fz b j := fun j hj => by
  obtain ⟨V, hV⟩ := h.fzc b j hj
  have := cell_lt hV
  omega
 refine ⟨⟨by show G.n + 1 = H.n + 1; omega, fun i hi' => ?_, fun i => ?_, fun i j hij h1 h2 => ?_, fun b' o hf => ?_⟩, ?_, fun n cap sz hle hsz => ?_⟩
 · have hlt : H.n + 1 ≤ i := hi'
   rw [ho i (by omega)]; exact h.over i (by omega)
 · by_cases hin : i = H.n
   · subst hin
     show ObjR F w' _ H.n (if H.n = H.n then .row cs else H.o H.n)
     rw [if_pos rfl]
     exact ⟨C, e, by rw [hlocn]; exact hC, hcapn.symm, by rw [hlocn]; exact hnf, hv⟩
   · rw [ho i hin]
     exact obj_more hb b C.size (h.obj i) fun hl => h.idlt hl
 · by_cases hi' : i = H.n <;> by_cases hj' : j = H.n
   · omega
   · rw [hi', hlocn, hloc j hj']; rw [ho j hj'] at h2; exact (hnew j h2).symm
   · rw [hj', hlocn, hloc i hi']; rw [ho i hi'] at h1; exact hnew i h1
   · rw [hloc i hi', hloc j hj']; rw [ho i hi'] at h1; rw [ho j hj'] at h2; exact h.dist i j hij h1 h2
 · obtain ⟨V, hV⟩ := h.fzc b' o hf
   exact ⟨V, by rw [hb.cell (p := ⟨b', o, none⟩) (cell_lt hV)]; exact hV⟩
 · refine { hg with size := hb.size, os := hb.os, tape := hb.tape, output := hb.output, old := fun k hk _ => hb.block k hk, owned := fun i hl hlt => ?_, fznew := fun _ _ hf => .inl hf }
   by_cases hin : i = H.n
   · rw [hin, hlocn] at hlt; omega
   · rw [ho i hin] at hl
     exact ⟨i, hl, (hloc i hin).symm⟩
 · have := VR.row (F := F) (w := w') (G := G.more b C.size) H.n 0 n sz cap (by show H.n < G.n + 1; omega) hle (by rw [hcapn, hsz]; omega)
   rw [hlocn] at this
   exact this
end Rb

namespace Rb
open Go Go.RowKit
end Rb

namespace Rb
open Go Go.RowKit
theorem err_ptr {F : FTab} {W : World} {g : Nat} {tp : TypeId} {a : Addr} {x : Value} (hc : W.cell? ⟨g, 0, none⟩ = some (.iface tp (.pointer (some a)))) (ha : W.cell? a = some x) :
  VR F W (Ghost.mt (allFz W)) (.fptr [.iface tp (.fptr [])]) (.pointer (some ⟨g, 0, none⟩)) := by
 have hsp : a.spot = none := by
  unfold World.cell? at ha
  split at ha
  · split at ha
    · cases ha
    · rename_i hn
      cases h : a.spot with
      | none => rfl
      | some _ => rw [h] at hn; simp at hn
  · cases ha
 obtain ⟨b, o, sp⟩ := a
 simp only at hsp
 subst hsp
 refine .fptr _ g 0 (fun _ => .iface tp (.pointer (some ⟨b, o, none⟩))) (fun j c hj => ?_) fun j c hj => ?_
 · cases j with
   | zero => exact ⟨⟨_, hc⟩, hc⟩
   | succ j => simp at hj
 · cases j with
   | zero =>
    simp at hj
    subst hj
    exact .iface _ _ _ (.fptr [] b o (fun _ => x) (fun j c h => by simp at h) fun j c h => by simp at h)
   | succ j => simp at hj
end Rb

namespace Go.Proofs.YtbkkoplgicffgaaGreatDoor.rb
open Rb Go.ChangeShapes Go.WideShapes Go.ChangeAt Go.RowKit
theorem own : ownKnob Tryz.prog.godebug = none := by kernel_rfl
theorem laidOut : laidOutB Tryz.prog = true := by kernel_rfl
theorem cellsU : Tryz.prog.cellsOf 5 = 1 := by kernel_rfl
def laidVars : List (String × DataW Unit) := Rows.printReadsRow.laid
theorem gT0 : Tryz.prog.globalNamed "strings.asciiSpace" = some 0 := by kernel_rfl
theorem gTType0 : (Tryz.prog.globals[0]?).map (·.type) = some 165 := by kernel_rfl
theorem cellsT0 : Tryz.prog.cellsOf 165 = 256 := by kernel_rfl
theorem tab_eq0 : (Rows.laid_strings_asciiSpace : DataW Unit) = Go.Lib.tabData .u8 Go.Lib.asciiSpaceTab := by kernel_rfl
theorem tab_mem0 : (("strings.asciiSpace", Go.Lib.tabData .u8 Go.Lib.asciiSpaceTab) : String × DataW Unit) ∈ laidVars := by
 rw [← tab_eq0]; exact .tail _ (.tail _ (.tail _ (.tail _ (.tail _ (.tail _ (.tail _ (.head _)))))))
set_option maxRecDepth 100000 in
theorem tab_of0 {W : World} (h : laidMet Tryz.prog laidVars W) : Go.Lib.TabIs Tryz.prog W "strings.asciiSpace" .u8 Go.Lib.asciiSpaceTab := by
 obtain ⟨g', t', cs, fuel, p, hg', ht', hvar, hd⟩ := Go.Lib.laidMet.reads h tab_mem0
 obtain rfl := Option.some.inj (gT0.symm.trans hg')
 obtain rfl := Option.some.inj (gTType0.symm.trans ht')
 unfold Go.Lib.TabIs
 rw [hvar, ← Go.Lib.cells_of_tab Tryz.underlying165 Tryz.underlying5 cellsU cellsT0 hd]
theorem gT1 : Tryz.prog.globalNamed "internal/strconv.uint64pow10" = some 4 := by kernel_rfl
theorem gTType1 : (Tryz.prog.globals[4]?).map (·.type) = some 214 := by kernel_rfl
theorem cellsT1 : Tryz.prog.cellsOf 214 = 20 := by kernel_rfl
theorem tab_eq1 : (Rows.laid_internal_strconv_uint64pow10 : DataW Unit) = Go.Lib.tabData .u64 tenTab := by kernel_rfl
theorem tab_mem1 : (("internal/strconv.uint64pow10", Go.Lib.tabData .u64 tenTab) : String × DataW Unit) ∈ laidVars := by
 rw [← tab_eq1]; exact .tail _ (.tail _ (.head _))
set_option maxRecDepth 100000 in
theorem tab_of1 {W : World} (h : laidMet Tryz.prog laidVars W) : Go.Lib.TabIs Tryz.prog W "internal/strconv.uint64pow10" .u64 tenTab := by
 obtain ⟨g', t', cs, fuel, p, hg', ht', hvar, hd⟩ := Go.Lib.laidMet.reads h tab_mem1
 obtain rfl := Option.some.inj (gT1.symm.trans hg')
 obtain rfl := Option.some.inj (gTType1.symm.trans ht')
 unfold Go.Lib.TabIs
 rw [hvar, ← Go.Lib.cells_of_tab Tryz.underlying214 Tryz.underlying12 (by kernel_rfl) cellsT1 hd]
theorem gT2 : Tryz.prog.globalNamed "math/bits.deBruijn64tab" = some 9 := by kernel_rfl
theorem gTType2 : (Tryz.prog.globals[9]?).map (·.type) = some 227 := by kernel_rfl
theorem cellsT2 : Tryz.prog.cellsOf 227 = 64 := by kernel_rfl
theorem tab_eq2 : (Rows.laid_math_bits_deBruijn64tab : DataW Unit) = Go.Lib.tabData .u8 deB64 := by kernel_rfl
theorem tab_mem2 : (("math/bits.deBruijn64tab", Go.Lib.tabData .u8 deB64) : String × DataW Unit) ∈ laidVars := by
 rw [← tab_eq2]; exact .tail _ (.head _)
set_option maxRecDepth 100000 in
theorem tab_of2 {W : World} (h : laidMet Tryz.prog laidVars W) : Go.Lib.TabIs Tryz.prog W "math/bits.deBruijn64tab" .u8 deB64 := by
 obtain ⟨g', t', cs, fuel, p, hg', ht', hvar, hd⟩ := Go.Lib.laidMet.reads h tab_mem2
 obtain rfl := Option.some.inj (gT2.symm.trans hg')
 obtain rfl := Option.some.inj (gTType2.symm.trans ht')
 unfold Go.Lib.TabIs
 rw [hvar, ← Go.Lib.cells_of_tab Tryz.underlying227 Tryz.underlying5 cellsU cellsT2 hd]
theorem cellsE : Tryz.prog.cellsOf 224 = 1 := by kernel_rfl
theorem cellsS : Tryz.prog.cellsOf 9 = 1 := by kernel_rfl
theorem rowE (nm : String) (hn : ("*" ++ "errors.errorString" : String) = nm) (u : TypeId) (h : Tryz.prog.typeName? 3 u = some nm) : u = 222 :=
 typeName_ptr_named (nm := "errors.errorString") (by kernel_rfl) (by kernel_rfl) (by decide) u (by rw [hn]; exact h)
theorem gErrSyntax : Tryz.prog.globalNamed "strconv.ErrSyntax" = some 2 := by kernel_rfl
theorem tErrSyntax : (Tryz.prog.globals[2]?).map (·.type) = some 114 := by kernel_rfl
theorem atErrSyntax {W : World} (h : laidMet Tryz.prog laidVars W) : VR C.F W (Ghost.mt (allFz W)) (.fptr [.iface 222 (.fptr [])]) (.pointer (some ⟨2, 0, none⟩)) := by
 obtain ⟨a, s, hv, hc, -, -⟩ := laid_sentinel (show laidMet Tryz.prog (("strconv.ErrSyntax", Rows.laid_strconv_ErrSyntax) :: _) W from h.tail.tail.tail.tail.tail) gErrSyntax tErrSyntax Tryz.underlying114 (rowE _ (by decide)) Tryz.underlying222 Tryz.underlying224 rfl rfl Tryz.underlying9 cellsE cellsS
 exact err_ptr (by have h0 := World.var?_cell gErrSyntax hv 0; simpa using h0) hc
theorem szErrSyntax {W : World} (h : laidMet Tryz.prog laidVars W) : ∃ cs t fr, W.heap[(2 : Nat)]? = some (.cells cs t fr) ∧ cs.size = 1 := by
 obtain ⟨a, s, hv, hc, -, -⟩ := laid_sentinel (show laidMet Tryz.prog (("strconv.ErrSyntax", Rows.laid_strconv_ErrSyntax) :: _) W from h.tail.tail.tail.tail.tail) gErrSyntax tErrSyntax Tryz.underlying114 (rowE _ (by decide)) Tryz.underlying222 Tryz.underlying224 rfl rfl Tryz.underlying9 cellsE cellsS
 obtain ⟨cs, t, fr, h1, h2⟩ := size_of_var gErrSyntax hv
 exact ⟨cs, t, fr, h1, h2⟩
theorem gErrRange : Tryz.prog.globalNamed "strconv.ErrRange" = some 3 := by kernel_rfl
theorem tErrRange : (Tryz.prog.globals[3]?).map (·.type) = some 114 := by kernel_rfl
theorem atErrRange {W : World} (h : laidMet Tryz.prog laidVars W) : VR C.F W (Ghost.mt (allFz W)) (.fptr [.iface 222 (.fptr [])]) (.pointer (some ⟨3, 0, none⟩)) := by
 obtain ⟨a, s, hv, hc, -, -⟩ := laid_sentinel (show laidMet Tryz.prog (("strconv.ErrRange", Rows.laid_strconv_ErrRange) :: _) W from h.tail.tail.tail.tail) gErrRange tErrRange Tryz.underlying114 (rowE _ (by decide)) Tryz.underlying222 Tryz.underlying224 rfl rfl Tryz.underlying9 cellsE cellsS
 exact err_ptr (by have h0 := World.var?_cell gErrRange hv 0; simpa using h0) hc
theorem szErrRange {W : World} (h : laidMet Tryz.prog laidVars W) : ∃ cs t fr, W.heap[(3 : Nat)]? = some (.cells cs t fr) ∧ cs.size = 1 := by
 obtain ⟨a, s, hv, hc, -, -⟩ := laid_sentinel (show laidMet Tryz.prog (("strconv.ErrRange", Rows.laid_strconv_ErrRange) :: _) W from h.tail.tail.tail.tail) gErrRange tErrRange Tryz.underlying114 (rowE _ (by decide)) Tryz.underlying222 Tryz.underlying224 rfl rfl Tryz.underlying9 cellsE cellsS
 obtain ⟨cs, t, fr, h1, h2⟩ := size_of_var gErrRange hv
 exact ⟨cs, t, fr, h1, h2⟩
theorem gok0 {W : World} (h : laidMet Tryz.prog laidVars W) : GOK C W (Ghost.mt (allFz W)) := by
 intro g l hg
 change gt g = some l at hg
 unfold gt at hg
 split at hg
 · rename_i e
   subst e
   cases hg
   rw [asciiSpace_eq]
   exact fptr_of_tab fun i hi => (tab_of0 h).cell gT0 i hi
 · split at hg
   · rename_i e
     subst e
     cases hg
     rw [(show pow10tab = tenTab.map (AV.int .u64) from rfl)]
     exact fptr_of_tab fun i hi => (tab_of1 h).cell gT1 i hi
   · split at hg
     · rename_i e
       subst e
       cases hg
       rw [(show deBruijn64tab = deB64.map (AV.int .u8) from rfl)]
       exact fptr_of_tab fun i hi => (tab_of2 h).cell gT2 i hi
     · split at hg
       · rename_i e
         subst e
         cases hg
         exact atErrSyntax h
       · split at hg
         · rename_i e
           subst e
           cases hg
           exact atErrRange h
         · cases hg
theorem gok {W : World} (h : laidMet Tryz.prog laidVars W) : GOX C W (Ghost.mt (allFz W)) AH.mt := by
 refine ⟨gok0 h, fun g l hg _ => ⟨?_, fun i hi => by cases hi⟩⟩
 change gt g = some l at hg
 unfold gt at hg
 split at hg
 · rename_i e
   subst e
   cases hg
   obtain ⟨cs, t, fr, h1, h2⟩ := size_of_var gT0 (tab_of0 h)
   exact ⟨cs, t, fr, h1, h2.trans (by kernel_rfl)⟩
 · split at hg
   · rename_i e
     subst e
     cases hg
     obtain ⟨cs, t, fr, h1, h2⟩ := size_of_var gT1 (tab_of1 h)
     exact ⟨cs, t, fr, h1, h2.trans (by kernel_rfl)⟩
   · split at hg
     · rename_i e
       subst e
       cases hg
       obtain ⟨cs, t, fr, h1, h2⟩ := size_of_var gT2 (tab_of2 h)
       exact ⟨cs, t, fr, h1, h2.trans (by kernel_rfl)⟩
     · split at hg
       · rename_i e
         subst e
         cases hg
         exact szErrSyntax h
       · split at hg
         · rename_i e
           subst e
           cases hg
           exact szErrRange h
         · cases hg
noncomputable def laidWorld (os : Os) : World :=
 let N := (World.settled Tryz.prog os).heap.size
 let w0 := World.holding Tryz.prog os ⟨#[.cells #[.string ⟨#[118, 97, 108, 117, 101, 32, 111, 117, 116, 32, 111, 102, 32, 114, 97, 110, 103, 101]⟩] 224, .cells #[.string ⟨#[105, 110, 118, 97, 108, 105, 100, 32, 115, 121, 110, 116, 97, 120]⟩] 224, .cells #[.int .u16 9, .int .u16 13, .int .u16 1, .int .u16 32, .int .u16 133, .int .u16 101, .int .u16 160, .int .u16 5760, .int .u16 5600, .int .u16 8192, .int .u16 8202, .int .u16 1, .int .u16 8232, .int .u16 8233, .int .u16 1, .int .u16 8239, .int .u16 8287, .int .u16 48, .int .u16 12288, .int .u16 12288, .int .u16 1] 203, .cells #[.slice (some ⟨N + 2, 0, none⟩) 7 7, .slice none 0 0, .int .i64 2] 200], #[], []⟩
 let put (h : Array Obj) (g : Nat) (cs : Array Value) : Array Obj := h.modify g fun
  | .cells _ t frozen => .cells cs t frozen
  | o => o
 { w0 with heap := put (put (put (put (put (put (put (put (put (w0.heap) 8 #[.int .u8 0, .int .u8 1, .int .u8 28, .int .u8 2, .int .u8 29, .int .u8 14, .int .u8 24, .int .u8 3, .int .u8 30, .int .u8 22, .int .u8 20, .int .u8 15, .int .u8 25, .int .u8 17, .int .u8 4, .int .u8 8, .int .u8 31, .int .u8 27, .int .u8 13, .int .u8 23, .int .u8 21, .int .u8 19, .int .u8 16, .int .u8 7, .int .u8 26, .int .u8 12, .int .u8 18, .int .u8 6, .int .u8 11, .int .u8 5, .int .u8 10, .int .u8 9]) 9 #[.int .u8 0, .int .u8 1, .int .u8 56, .int .u8 2, .int .u8 57, .int .u8 49, .int .u8 28, .int .u8 3, .int .u8 61, .int .u8 58, .int .u8 42, .int .u8 50, .int .u8 38, .int .u8 29, .int .u8 17, .int .u8 4, .int .u8 62, .int .u8 47, .int .u8 59, .int .u8 36, .int .u8 45, .int .u8 43, .int .u8 51, .int .u8 22, .int .u8 53, .int .u8 39, .int .u8 33, .int .u8 30, .int .u8 24, .int .u8 18, .int .u8 12, .int .u8 5, .int .u8 63, .int .u8 55, .int .u8 48, .int .u8 27, .int .u8 60, .int .u8 41, .int .u8 37, .int .u8 16, .int .u8 46, .int .u8 35, .int .u8 44, .int .u8 21, .int .u8 52, .int .u8 32, .int .u8 23, .int .u8 11, .int .u8 54, .int .u8 26, .int .u8 40, .int .u8 15, .int .u8 34, .int .u8 20, .int .u8 31, .int .u8 10, .int .u8 25, .int .u8 14, .int .u8 19, .int .u8 9, .int .u8 13, .int .u8 8, .int .u8 7, .int .u8 6]) 4 #[.int .u64 1, .int .u64 10, .int .u64 100, .int .u64 1000, .int .u64 10000, .int .u64 100000, .int .u64 1000000, .int .u64 10000000, .int .u64 100000000, .int .u64 1000000000, .int .u64 10000000000, .int .u64 100000000000, .int .u64 1000000000000, .int .u64 10000000000000, .int .u64 100000000000000, .int .u64 1000000000000000, .int .u64 10000000000000000, .int .u64 100000000000000000, .int .u64 1000000000000000000, .int .u64 10000000000000000000]) 6 #[.int .u8 128, .int .u8 191, .int .u8 160, .int .u8 191, .int .u8 128, .int .u8 159, .int .u8 144, .int .u8 191, .int .u8 128, .int .u8 143, .int .u8 0, .int .u8 0, .int .u8 0, .int .u8 0, .int .u8 0, .int .u8 0, .int .u8 0, .int .u8 0, .int .u8 0, .int .u8 0, .int .u8 0, .int .u8 0, .int .u8 0, .int .u8 0, .int .u8 0, .int .u8 0, .int .u8 0, .int .u8 0, .int .u8 0, .int .u8 0, .int .u8 0, .int .u8 0]) 3 #[.iface 222 (.pointer (some ⟨N + 0, 0, none⟩))]) 2 #[.iface 222 (.pointer (some ⟨N + 1, 0, none⟩))]) 1 #[.pointer (some ⟨N + 3, 0, none⟩)]) 0 #[.int .u8 0, .int .u8 0, .int .u8 0, .int .u8 0, .int .u8 0, .int .u8 0, .int .u8 0, .int .u8 0, .int .u8 0, .int .u8 1, .int .u8 1, .int .u8 1, .int .u8 1, .int .u8 1, .int .u8 0, .int .u8 0, .int .u8 0, .int .u8 0, .int .u8 0, .int .u8 0, .int .u8 0, .int .u8 0, .int .u8 0, .int .u8 0, .int .u8 0, .int .u8 0, .int .u8 0, .int .u8 0, .int .u8 0, .int .u8 0, .int .u8 0, .int .u8 0, .int .u8 1, .int .u8 0, .int .u8 0, .int .u8 0, .int .u8 0, .int .u8 0, .int .u8 0, .int .u8 0, .int .u8 0, .int .u8 0, .int .u8 0, .int .u8 0, .int .u8 0, .int .u8 0, .int .u8 0, .int .u8 0, .int .u8 0, .int .u8 0, .int .u8 0, .int .u8 0, .int .u8 0, .int .u8 0, .int .u8 0, .int .u8 0, .int .u8 0, .int .u8 0, .int .u8 0, .int .u8 0, .int .u8 0, .int .u8 0, .int .u8 0, .int .u8 0, .int .u8 0, .int .u8 0, .int .u8 0, .int .u8 0, .int .u8 0, .int .u8 0, .int .u8 0, .int .u8 0, .int .u8 0, .int .u8 0, .int .u8 0, .int .u8 0, .int .u8 0, .int .u8 0, .int .u8 0, .int .u8 0, .int .u8 0, .int .u8 0, .int .u8 0, .int .u8 0, .int .u8 0, .int .u8 0, .int .u8 0, .int .u8 0, .int .u8 0, .int .u8 0, .int .u8 0, .int .u8 0, .int .u8 0, .int .u8 0, .int .u8 0, .int .u8 0, .int .u8 0, .int .u8 0, .int .u8 0, .int .u8 0, .int .u8 0, .int .u8 0, .int .u8 0, .int .u8 0, .int .u8 0, .int .u8 0, .int .u8 0, .int .u8 0, .int .u8 0, .int .u8 0, .int .u8 0, .int .u8 0, .int .u8 0, .int .u8 0, .int .u8 0, .int .u8 0, .int .u8 0, .int .u8 0, .int .u8 0, .int .u8 0, .int .u8 0, .int .u8 0, .int .u8 0, .int .u8 0, .int .u8 0, .int .u8 0, .int .u8 0, .int .u8 0, .int .u8 0, .int .u8 0, .int .u8 0, .int .u8 0, .int .u8 0, .int .u8 0, .int .u8 0, .int .u8 0, .int .u8 0, .int .u8 0, .int .u8 0, .int .u8 0, .int .u8 0, .int .u8 0, .int .u8 0, .int .u8 0, .int .u8 0, .int .u8 0, .int .u8 0, .int .u8 0, .int .u8 0, .int .u8 0, .int .u8 0, .int .u8 0, .int .u8 0, .int .u8 0, .int .u8 0, .int .u8 0, .int .u8 0, .int .u8 0, .int .u8 0, .int .u8 0, .int .u8 0, .int .u8 0, .int .u8 0, .int .u8 0, .int .u8 0, .int .u8 0, .int .u8 0, .int .u8 0, .int .u8 0, .int .u8 0, .int .u8 0, .int .u8 0, .int .u8 0, .int .u8 0, .int .u8 0, .int .u8 0, .int .u8 0, .int .u8 0, .int .u8 0, .int .u8 0, .int .u8 0, .int .u8 0, .int .u8 0, .int .u8 0, .int .u8 0, .int .u8 0, .int .u8 0, .int .u8 0, .int .u8 0, .int .u8 0, .int .u8 0, .int .u8 0, .int .u8 0, .int .u8 0, .int .u8 0, .int .u8 0, .int .u8 0, .int .u8 0, .int .u8 0, .int .u8 0, .int .u8 0, .int .u8 0, .int .u8 0, .int .u8 0, .int .u8 0, .int .u8 0, .int .u8 0, .int .u8 0, .int .u8 0, .int .u8 0, .int .u8 0, .int .u8 0, .int .u8 0, .int .u8 0, .int .u8 0, .int .u8 0, .int .u8 0, .int .u8 0, .int .u8 0, .int .u8 0, .int .u8 0, .int .u8 0, .int .u8 0, .int .u8 0, .int .u8 0, .int .u8 0, .int .u8 0, .int .u8 0, .int .u8 0, .int .u8 0, .int .u8 0, .int .u8 0, .int .u8 0, .int .u8 0, .int .u8 0, .int .u8 0, .int .u8 0, .int .u8 0, .int .u8 0, .int .u8 0, .int .u8 0, .int .u8 0, .int .u8 0, .int .u8 0, .int .u8 0, .int .u8 0, .int .u8 0, .int .u8 0, .int .u8 0, .int .u8 0, .int .u8 0, .int .u8 0, .int .u8 0, .int .u8 0, .int .u8 0, .int .u8 0]) 5 #[.int .u8 240, .int .u8 240, .int .u8 240, .int .u8 240, .int .u8 240, .int .u8 240, .int .u8 240, .int .u8 240, .int .u8 240, .int .u8 240, .int .u8 240, .int .u8 240, .int .u8 240, .int .u8 240, .int .u8 240, .int .u8 240, .int .u8 240, .int .u8 240, .int .u8 240, .int .u8 240, .int .u8 240, .int .u8 240, .int .u8 240, .int .u8 240, .int .u8 240, .int .u8 240, .int .u8 240, .int .u8 240, .int .u8 240, .int .u8 240, .int .u8 240, .int .u8 240, .int .u8 240, .int .u8 240, .int .u8 240, .int .u8 240, .int .u8 240, .int .u8 240, .int .u8 240, .int .u8 240, .int .u8 240, .int .u8 240, .int .u8 240, .int .u8 240, .int .u8 240, .int .u8 240, .int .u8 240, .int .u8 240, .int .u8 240, .int .u8 240, .int .u8 240, .int .u8 240, .int .u8 240, .int .u8 240, .int .u8 240, .int .u8 240, .int .u8 240, .int .u8 240, .int .u8 240, .int .u8 240, .int .u8 240, .int .u8 240, .int .u8 240, .int .u8 240, .int .u8 240, .int .u8 240, .int .u8 240, .int .u8 240, .int .u8 240, .int .u8 240, .int .u8 240, .int .u8 240, .int .u8 240, .int .u8 240, .int .u8 240, .int .u8 240, .int .u8 240, .int .u8 240, .int .u8 240, .int .u8 240, .int .u8 240, .int .u8 240, .int .u8 240, .int .u8 240, .int .u8 240, .int .u8 240, .int .u8 240, .int .u8 240, .int .u8 240, .int .u8 240, .int .u8 240, .int .u8 240, .int .u8 240, .int .u8 240, .int .u8 240, .int .u8 240, .int .u8 240, .int .u8 240, .int .u8 240, .int .u8 240, .int .u8 240, .int .u8 240, .int .u8 240, .int .u8 240, .int .u8 240, .int .u8 240, .int .u8 240, .int .u8 240, .int .u8 240, .int .u8 240, .int .u8 240, .int .u8 240, .int .u8 240, .int .u8 240, .int .u8 240, .int .u8 240, .int .u8 240, .int .u8 240, .int .u8 240, .int .u8 240, .int .u8 240, .int .u8 240, .int .u8 240, .int .u8 240, .int .u8 240, .int .u8 240, .int .u8 240, .int .u8 240, .int .u8 241, .int .u8 241, .int .u8 241, .int .u8 241, .int .u8 241, .int .u8 241, .int .u8 241, .int .u8 241, .int .u8 241, .int .u8 241, .int .u8 241, .int .u8 241, .int .u8 241, .int .u8 241, .int .u8 241, .int .u8 241, .int .u8 241, .int .u8 241, .int .u8 241, .int .u8 241, .int .u8 241, .int .u8 241, .int .u8 241, .int .u8 241, .int .u8 241, .int .u8 241, .int .u8 241, .int .u8 241, .int .u8 241, .int .u8 241, .int .u8 241, .int .u8 241, .int .u8 241, .int .u8 241, .int .u8 241, .int .u8 241, .int .u8 241, .int .u8 241, .int .u8 241, .int .u8 241, .int .u8 241, .int .u8 241, .int .u8 241, .int .u8 241, .int .u8 241, .int .u8 241, .int .u8 241, .int .u8 241, .int .u8 241, .int .u8 241, .int .u8 241, .int .u8 241, .int .u8 241, .int .u8 241, .int .u8 241, .int .u8 241, .int .u8 241, .int .u8 241, .int .u8 241, .int .u8 241, .int .u8 241, .int .u8 241, .int .u8 241, .int .u8 241, .int .u8 241, .int .u8 241, .int .u8 2, .int .u8 2, .int .u8 2, .int .u8 2, .int .u8 2, .int .u8 2, .int .u8 2, .int .u8 2, .int .u8 2, .int .u8 2, .int .u8 2, .int .u8 2, .int .u8 2, .int .u8 2, .int .u8 2, .int .u8 2, .int .u8 2, .int .u8 2, .int .u8 2, .int .u8 2, .int .u8 2, .int .u8 2, .int .u8 2, .int .u8 2, .int .u8 2, .int .u8 2, .int .u8 2, .int .u8 2, .int .u8 2, .int .u8 2, .int .u8 19, .int .u8 3, .int .u8 3, .int .u8 3, .int .u8 3, .int .u8 3, .int .u8 3, .int .u8 3, .int .u8 3, .int .u8 3, .int .u8 3, .int .u8 3, .int .u8 3, .int .u8 35, .int .u8 3, .int .u8 3, .int .u8 52, .int .u8 4, .int .u8 4, .int .u8 4, .int .u8 68, .int .u8 241, .int .u8 241, .int .u8 241, .int .u8 241, .int .u8 241, .int .u8 241, .int .u8 241, .int .u8 241, .int .u8 241, .int .u8 241, .int .u8 241] }
theorem laid_met (os : Os) (args : Array Value) : laidMet Tryz.prog laidVars ((laidWorld os).forCall (fun _ _ => 0) ⟨#[], args, []⟩).memory :=
 laidMet_of_run3 10 (by kernel_rfl) (by kernel_rfl) (by kernel_rfl)
theorem laid_shaped (os : Os) (args : Array Value) : ((laidWorld os).forCall (fun _ _ => 0) ⟨#[], args, []⟩).Shaped Tryz.prog := World.shaped_of_RefB (by kernel_rfl) (by kernel_rfl)
end Go.Proofs.YtbkkoplgicffgaaGreatDoor.rb

namespace Go.Proofs.YtbkkoplgicffgaaGreatDoor.rb
open Rb Go.Shelf Go.RowKit
def laysM171_ren : Go.Shelf.Ren := ⟨fun | 171 => 95 | 243 => 116 | 246 => 137 | 283 => 133 | 284 => 134 | 285 => 135 | 286 => 136 | 129 => 149 | 317 => 148 | 318 => 150 | 319 => 151 | 320 => 152 | 337 => 154 | 338 => 155 | n => n, fun | 3 => 3 | 9 => 9 | 2 => 2 | 4 => 4 | 171 => 189 | 0 => 0 | 53 => 70 | 37 => 75 | 5 => 5 | 173 => 192 | 212 => 214 | 51 => 180 | 20 => 20 | 213 => 215 | 46 => 185 | 232 => 226 | 233 => 227 | n => n, fun | 17 => 4 | 18 => 8 | 19 => 9 | n => n⟩
theorem laysM171 : Go.Proofs.LaysM.n171 Tryz.prog laysM171_ren := {
  mixed := by kernel_rfl
  f129 := Tryz.func149.trans (congrArg some (by kernel_rfl))
  f171 := Tryz.func95.trans (congrArg some (by kernel_rfl))
  f243 := Tryz.func116.trans (congrArg some (by kernel_rfl))
  f246 := Tryz.func137.trans (congrArg some (by kernel_rfl))
  f283 := Tryz.func133.trans (congrArg some (by kernel_rfl))
  f284 := Tryz.func134.trans (congrArg some (by kernel_rfl))
  f285 := Tryz.func135.trans (congrArg some (by kernel_rfl))
  f286 := Tryz.func136.trans (congrArg some (by kernel_rfl))
  f317 := Tryz.func148.trans (congrArg some (by kernel_rfl))
  f318 := Tryz.func150.trans (congrArg some (by kernel_rfl))
  f319 := Tryz.func151.trans (congrArg some (by kernel_rfl))
  f320 := Tryz.func152.trans (congrArg some (by kernel_rfl))
  f337 := Tryz.func154.trans (congrArg some (by kernel_rfl))
  f338 := Tryz.func155.trans (congrArg some (by kernel_rfl))
  t0 := Tryz.underlying0
  a0 := Tryz.isAgg0
  z0 := Tryz.sizeOf0
  v0 := Tryz.zeroValue0
  t2 := Tryz.underlying2
  a2 := Tryz.isAgg2
  z2 := Tryz.sizeOf2
  v2 := Tryz.zeroValue2
  t3 := Tryz.underlying3
  a3 := Tryz.isAgg3
  z3 := Tryz.sizeOf3
  v3 := Tryz.zeroValue3
  t4 := Tryz.underlying4
  a4 := Tryz.isAgg4
  z4 := Tryz.sizeOf4
  v4 := Tryz.zeroValue4
  t5 := Tryz.underlying5
  a5 := Tryz.isAgg5
  z5 := Tryz.sizeOf5
  v5 := Tryz.zeroValue5
  t9 := Tryz.underlying9
  a9 := Tryz.isAgg9
  z9 := Tryz.sizeOf9
  v9 := Tryz.zeroValue9
  t20 := Tryz.underlying20
  a20 := Tryz.isAgg20
  z20 := Tryz.sizeOf20
  v20 := Tryz.zeroValue20
  t37 := Tryz.underlying75
  a37 := Tryz.isAgg75
  z37 := Tryz.sizeOf75
  v37 := Tryz.zeroValue75
  t46 := Tryz.underlying185
  a46 := Tryz.isAgg185
  z46 := Tryz.sizeOf185
  v46 := Tryz.zeroValue185
  t51 := Tryz.underlying180
  a51 := Tryz.isAgg180
  z51 := Tryz.sizeOf180
  v51 := Tryz.zeroValue180
  t53 := Tryz.underlying70
  a53 := Tryz.isAgg70
  z53 := Tryz.sizeOf70
  v53 := Tryz.zeroValue70
  t171 := Tryz.underlying189
  a171 := Tryz.isAgg189
  z171 := Tryz.sizeOf189
  v171 := Tryz.zeroValue189
  t173 := Tryz.underlying192
  a173 := Tryz.isAgg192
  z173 := Tryz.sizeOf192
  v173 := Tryz.zeroValue192
  t212 := Tryz.underlying214
  a212 := Tryz.isAgg214
  z212 := Tryz.sizeOf214
  v212 := Tryz.zeroValue214
  t213 := Tryz.underlying215
  a213 := Tryz.isAgg215
  z213 := Tryz.sizeOf215
  t232 := Tryz.underlying226
  a232 := Tryz.isAgg226
  z232 := Tryz.sizeOf226
  v232 := Tryz.zeroValue226
  t233 := Tryz.underlying227
  a233 := Tryz.isAgg227
  z233 := Tryz.sizeOf227
  v233 := Tryz.zeroValue227
  g17 := by kernel_rfl
  g18 := by kernel_rfl
  g19 := by kernel_rfl
  i0 := by kernel_rfl
  i2 := by kernel_rfl
  i3 := by kernel_rfl
  i4 := by kernel_rfl
  i5 := by kernel_rfl
  i9 := by kernel_rfl
  i20 := by kernel_rfl
  i37 := by kernel_rfl
  i46 := by kernel_rfl
  i51 := by kernel_rfl
  i53 := by kernel_rfl
  i171 := by kernel_rfl
  i173 := by kernel_rfl
  i212 := by kernel_rfl
  i232 := by kernel_rfl
  i233 := by kernel_rfl
  m17 := by kernel_rfl
  m18 := by kernel_rfl
  m19 := by kernel_rfl }
theorem ten_eq : tenTab = Go.Lib.pow10Tab := by kernel_rfl
theorem tab10 {W : World} {G : Ghost} {H : AH} (hG : GOX C W G H) : Go.Lib.TabIs Tryz.prog W "internal/strconv.uint64pow10" .u64 Go.Lib.pow10Tab := by
 obtain ⟨⟨cs, t, fr, h1, h2⟩, -⟩ := hG.2 4 pow10tab rfl (by unfold pow10tab tenTab; simp)
 have hv := hG.1 4 pow10tab rfl
 have key : ∀ j, j < tenTab.length → cs[j]? = some (.int .u64 (tenTab[j]?.getD 0)) := by
  intro j hj
  generalize hX : (Value.pointer (some ⟨4, 0, none⟩)) = X at hv
  generalize hY : AV.fptr pow10tab = Y at hv
  cases hv with
  | fptr cells b o Vs hc hv =>
   cases hX
   cases hY
   have hcj : pow10tab[j]? = some (.int .u64 (tenTab[j]?.getD 0)) := by
    unfold pow10tab
    rw [List.getElem?_map, List.getElem?_eq_getElem hj]
    rfl
   have e1 := (hc j _ hcj).2
   have e2 := hv j _ hcj
   rw [Nat.zero_add] at e1
   generalize Vs j = U at e1 e2
   cases e2
   simpa [World.cell?, h1] using e1
  | bot => cases hY
  | _ => cases hY
 unfold Go.Lib.TabIs World.var?
 rw [gT1]
 simp only [Option.bind_some, h1, Option.some.injEq]
 rw [← ten_eq]
 have hl : pow10tab.length = tenTab.length := by simp [pow10tab]
 apply Array.ext
 · simp [h2, hl]
 · intro i i1 i2
   have hi : i < tenTab.length := by simpa using i2
   have := key i hi
   rw [Array.getElem?_eq_getElem i1] at this
   rw [Option.some.inj this]
   simp [List.getElem?_eq_getElem hi]
theorem below_grow (w : World) (k : Nat) (os : Array Obj) : Below w.heap.size w (Go.Sort.grow (w.drewN k) os) :=
 ⟨rfl, rfl, rfl, by simp [Go.Sort.grow], fun i hi => by
   show (w.heap ++ os)[i]? = w.heap[i]?
   rw [Array.getElem?_append_left hi]⟩
theorem itoaOK (n : Int) (h0 : -9223372036854775808 ≤ n) (h1 : n ≤ 9223372036854775807) (H : AH) (Q : Post) (hQ : Q (.str (Go.Lib.itoa n)) H) : ACall C 95 [.int .i64 n] H Q := by
 refine ⟨⟨_, _, hQ⟩, fun f hf G W Vs hG hrel hargs => ?_⟩
 obtain rfl : f = 95 := by
  have : C.F 95 = some 95 := by kernel_rfl
  rw [this] at hf; exact (Option.some.inj hf).symm
 obtain ⟨hl, hv⟩ := hargs
 obtain ⟨Vl⟩ := Vs
 match Vl, hl with
 | [V0], _ =>
  have e0 := (hv 0 _ V0 rfl rfl).int_inv
  subst e0
  refine (Any.strconv_Itoa laysM171 n h0 h1 W (tab10 hG)).mono fun e w' ⟨he, k, os, hw⟩ => ?_
  subst hw
  have hbel := below_grow W k os
  exact ⟨_, _, H, G, he, hQ, .str _, rel_below hbel hrel, step_below hbel hrel⟩
open Go.Lib in
theorem holds_zero0 (w : World) (T : TypeId) (nd : Nat) (hs : nd ≤ 24) : Go.Sort.Holds (fun (b : UInt8) => Value.int .u8 (b.toNat : Int)) (w.alloc (.cells zeros24 T)) w.heap.size 0 (Array.replicate nd (0 : UInt8)) := fun j hj => by
 have hj' : j < nd := by simpa using hj
 refine ⟨?_, World.frozen?_alloc_new _ _ _ _⟩
 rw [World.cell?_alloc_new, zeros24_at _ (by omega), getElem!_pos _ j hj]
 simp
theorem fin_pos0 (w : World) (o : Obj) (dk : Array UInt8) (k : Nat) : ∃ os, (Go.Sort.putRow (fun (b : UInt8) => Value.int .u8 (b.toNat : Int)) (w.alloc o) w.heap.size 0 dk).drewN k = Go.Sort.grow (w.drewN k) os := by
 rw [Go.Sort.alloc_eq_grow]
 obtain ⟨os', _, e⟩ := Go.Sort.putRow_grow_new (fun (b : UInt8) => Value.int .u8 (b.toNat : Int)) w #[o] w.heap.size 0 dk (Nat.le_refl _)
 exact ⟨os', by rw [e]; rfl⟩
set_option maxHeartbeats 2000000 in
set_option maxRecDepth 100000 in
theorem formatUint_calls (u : Nat) (hu64 : u < 18446744073709551616) (w : World) (htab : Lib.TabIs Tryz.prog w "internal/strconv.uint64pow10" .u64 Lib.pow10Tab) :
  Calls Tryz.prog 114 #[.int .u64 u, .int .i64 10] w fun e w' => e = .returned (.string ⟨(Lib.decDigits u).toArray⟩) ∧ ∃ k os, w' = Go.Sort.grow (w.drewN k) os := by
 by_cases hs : u < 100
 · go_enter Tryz.func114, Tryz.ntmps114
   go_wp2_with (refine (Any.internal_strconv_small { laysM171 with } u hs _).mono ?_; rintro e w' ⟨rfl, rfl⟩)
   go_ret
   exact ⟨rfl, 0, #[], by simp [World.drewN_zero]⟩
 · have hu1 : 1 ≤ u := by omega
   have hnd20 : Lib.nDigits u ≤ 20 := by have := Lib.numDigits_eq u hu1 hu64; split at this <;> omega
   have hb3 : Lib.nDigits u ≤ 24 := by omega
   have hal : Tryz.prog.arrayLen 189 = 24 := by simp [Program.arrayLen, Tryz.underlying189]
   have hsl1 : ∀ W, (Instr.sliceAt 189 (.pointer (some ⟨w.heap.size, 0, none⟩)) none (some (.int .i64 (Lib.nDigits u : Int))) none).run Tryz.prog W = .ok (.slice (some ⟨w.heap.size, 0, none⟩) (Lib.nDigits u) 24) W := fun W => by
    rw [run_sliceAt_array_h W 189 ⟨w.heap.size, 0, none⟩ (by simp [Program.arrayLen, Program.elem, Tryz.underlying189]) .i64 (Lib.nDigits u : Int) (by omega) (by rw [hal]; omega)]
    all_goals (try (go_simp; done))
    all_goals (try (go_simp; omega))
   have hH0 := holds_zero0 w 189 (Lib.nDigits u) (by omega)
   have hfmt := Any.internal_strconv_formatBase10 { laysM171 with } w.heap.size 0 24 u (Array.replicate (Lib.nDigits u) 0) (w.alloc (.cells Lib.zeros24 189)) hH0 (by rw [Array.size_replicate]; exact Lib.lt_pow_nDigits u) hu64 (by rw [Array.size_replicate]; omega)
   rw [Array.size_replicate] at hfmt
   have HH0 := Lib.hid hH0
   clear hH0 hal
   go_enter Tryz.func114, Tryz.ntmps114
   go_wp2_with (refine (Any.internal_strconv_numDigits { laysM171 with } u hu1 hu64 _ (Lib.tabIs_alloc htab _)).mono ?_; rintro e w' ⟨rfl, rfl⟩)
   refine hfmt.mono ?_
   rintro e w' ⟨rfl, k, v', dk, rfl, hF⟩
   have hcv : (convert 75 9 (.slice (some ⟨w.heap.size, 0, none⟩) (Lib.nDigits u) 24)).run Tryz.prog ((Go.Sort.putRow (fun (b : UInt8) => Value.int .u8 (b.toNat : Int)) (w.alloc (.cells Lib.zeros24 189)) w.heap.size 0 dk).drewN k) = .ok (.string ⟨(Lib.decDigits u).toArray⟩) ((Go.Sort.putRow (fun (b : UInt8) => Value.int .u8 (b.toNat : Int)) (w.alloc (.cells Lib.zeros24 189)) w.heap.size 0 dk).drewN k) := by
    have h := run_convert_bytes_back (P := Tryz.prog) ((Go.Sort.putRow (fun (b : UInt8) => Value.int .u8 (b.toNat : Int)) (w.alloc (.cells Lib.zeros24 189)) w.heap.size 0 dk).drewN k) 75 9 5 ⟨w.heap.size, 0, none⟩ 24 (Lib.decDigits u) Tryz.underlying75 Tryz.underlying5 Tryz.underlying9 (fun j hj => by
      rw [Lib.row_is_numeral hF j hj, Lib.add_plain, World.cell?_drewN]
      exact Go.Sort.cell?_putRow (fun (b : UInt8) => Value.int .u8 (b.toNat : Int)) _ w.heap.size 0 _ dk HH0.out (by rw [hF.size, Array.size_replicate]) j (by rw [hF.size]; rw [Lib.decDigits_length] at hj; exact hj))
    rw [Lib.decDigits_length] at h
    exact h
   go_wp2
   go_ret
   obtain ⟨os, eo⟩ := fin_pos0 w (.cells Lib.zeros24 189) dk k
   exact ⟨rfl, k, os, eo⟩
theorem fmtOK (u : Nat) (hu64 : u < 18446744073709551616) (H : AH) (Q : Post) (hQ : Q (.str (Go.Lib.decDigits u)) H) : ACall C 114 [.int .u64 u, .int .i64 10] H Q := by
 refine ⟨⟨_, _, hQ⟩, fun f hf G W Vs hG hrel hargs => ?_⟩
 obtain rfl : f = 114 := by
  have : C.F 114 = some 114 := by kernel_rfl
  rw [this] at hf; exact (Option.some.inj hf).symm
 obtain ⟨hl, hv⟩ := hargs
 obtain ⟨Vl⟩ := Vs
 match Vl, hl with
 | [V0, V1], _ =>
  have e0 := (hv 0 _ V0 rfl rfl).int_inv
  have e1 := (hv 1 _ V1 rfl rfl).int_inv
  subst e0 e1
  refine (formatUint_calls u hu64 W (tab10 hG)).mono fun e w' ⟨he, k, os, hw⟩ => ?_
  subst hw
  have hbel := below_grow W k os
  exact ⟨_, _, H, G, he, hQ, .str _, rel_below hbel hrel, step_below hbel hrel⟩
end Go.Proofs.YtbkkoplgicffgaaGreatDoor.rb

namespace Go.Proofs.YtbkkoplgicffgaaGreatDoor.rb
open Rb
noncomputable def goneK (T : TH) (old : Option Nat) (K : TH → Bool) : Bool := match old with
 | none => K T
 | some j => THset T j .gone K
noncomputable def wrK (T : TH) (id : Nat) (old : Option Nat) (bs : List UInt8) (K : TH → Bool) : Bool := match bs with
 | [] => goneK T old fun T => THset T id (.bld 79 true none) K
 | b :: r => goneK T old fun T1 => natV T.n fun n => natV (b :: r).length fun l => THset T1 id (.bld 79 true (some (n, l))) fun T2 => spineK (b :: r) fun bs => THpush T2 (.buf 5 bs) K
theorem wrK_ok {T : TH} {id : Nat} {old : Option Nat} {bs : List UInt8} {K : TH → Bool} (ho : bufOf T.ah id = old) (h : wrK T id old bs K = true) : ∃ T', K T' = true ∧ T'.ah = wroteX T.ah id 79 5 bs := by
 have hg : ∀ K : TH → Bool, goneK T old K = true → ∃ T1, K T1 = true ∧ T1.ah = T.ah.setO old := by
  intro K hK
  unfold goneK at hK
  cases old with
  | none => exact ⟨T, hK, rfl⟩
  | some j => simp only [THset_eq] at hK; exact ⟨_, hK, by rw [TH.ah_set]; rfl⟩
 cases bs with
 | nil =>
  unfold wrK at h
  dsimp only at h
  obtain ⟨T1, h1, h2⟩ := hg _ h
  simp only [THset_eq] at h1
  refine ⟨_, h1, ?_⟩
  rw [TH.ah_set, h2, ← ho]
  rfl
 | cons b r =>
  unfold wrK at h
  dsimp only at h
  obtain ⟨T1, h1, h2⟩ := hg _ h
  simp only [THset_eq, THpush_eq, natV_eq, spineK_eq] at h1
  refine ⟨_, h1, ?_⟩
  rw [TH.ah_push, TH.ah_set, h2, ← ho]
  rw [show wroteX T.ah id 79 5 (b :: r) = wroteH T.ah id 79 5 (b :: r) from if_neg (by simp)]
  rfl
noncomputable def bldB (T : TH) (id : Nat) : Option (List UInt8 × Option Nat) := match T.t.get id with
 | .bld t u none => cond (Nat.beq t 79) (cond (Nat.blt id T.n) (some ([], none)) none) none
 | .bld t u (some (j, l)) => match T.t.get j with
  | .buf v bs => cond (and (and (and (Nat.beq t 79) u) (and (Nat.beq v 5) (Nat.blt id T.n))) (and (Nat.blt j T.n) (and (Nat.beq l bs.length) (Nat.blt 0 bs.length)))) (some (bs, some j)) none
  | _ => none
 | _ => none
theorem bldB_ok {T : TH} {id : Nat} {bs : List UInt8} {o : Option Nat} (h : bldB T id = some (bs, o)) : BAt T.ah id bs ∧ bufOf T.ah id = o := by
 have ht : ∀ i, T.ah.o i = T.t.get i := fun _ => rfl
 unfold bldB at h
 split at h
 · rename_i t u hb
   cases hc : Nat.beq t 79 with
   | false => rw [hc] at h; cases h
   | true =>
    rw [hc] at h
    cases hd : Nat.blt id T.n with
    | false => rw [hd] at h; cases h
    | true =>
     rw [hd] at h
     cases h
     obtain rfl := Nat.eq_of_beq_eq_true hc
     have hlt : id < T.n := Nat.le_of_ble_eq_true hd
     refine ⟨⟨hlt, .inl ⟨u, ?_, rfl⟩⟩, ?_⟩
     · rw [ht]; exact hb
     · unfold bufOf; rw [ht, hb]
 · rename_i t u j l hb
   split at h
   · rename_i v bs' hv
     cases hc : (and (and (and (Nat.beq t 79) u) (and (Nat.beq v 5) (Nat.blt id T.n))) (and (Nat.blt j T.n) (and (Nat.beq l bs'.length) (Nat.blt 0 bs'.length)))) with
     | false => rw [hc] at h; cases h
     | true =>
      rw [hc] at h
      cases h
      simp only [Bool.and_eq_true] at hc
      obtain ⟨⟨⟨h1, h2⟩, h3, h4⟩, h5, h6, h7⟩ := hc
      obtain rfl := Nat.eq_of_beq_eq_true h1
      obtain rfl := Nat.eq_of_beq_eq_true h3
      obtain rfl := Nat.eq_of_beq_eq_true h6
      subst h2
      have hid : id < T.n := Nat.le_of_ble_eq_true h4
      have hj : j < T.n := Nat.le_of_ble_eq_true h5
      have h0 : 0 < bs.length := Nat.le_of_ble_eq_true h7
      refine ⟨⟨hid, .inr ⟨j, ?_, ?_, hj, ?_⟩⟩, ?_⟩
      · rw [ht]; exact hb
      · rw [ht]; exact hv
      · intro e; rw [e] at h0; simp at h0
      · unfold bufOf; rw [ht, hb]
   · cases h
 · cases h
def decF : Nat → Nat → List UInt8 → List UInt8
 | 0, _, l => l
 | n + 1, u, l => cond (Nat.blt u 10) (UInt8.ofNat (48 + u) :: l) (decF n (u / 10) (UInt8.ofNat (48 + u % 10) :: l))
theorem decF_eq : ∀ (n u : Nat) (l : List UInt8), u < 10 ^ n → 1 ≤ n → decF n u l = Go.Lib.decDigits u ++ l
 | 0, u, l, _, h => absurd h (by omega)
 | n + 1, u, l, hu, _ => by
  unfold decF
  by_cases h : u < 10
  · rw [show Nat.blt u 10 = true from Nat.ble_eq_true_of_le h, Go.Lib.decDigits, dif_pos h]
    rfl
  · have hb : Nat.blt u 10 = false := by
      cases hc : Nat.blt u 10 with
      | false => rfl
      | true => exact absurd (Nat.le_of_ble_eq_true hc) h
    have hn : 1 ≤ n := by
     rcases n with _ | n
     · simp at hu; omega
     · omega
    rw [hb, Go.Lib.decDigits, dif_neg h]
    have hu' : u / 10 < 10 ^ n := by rw [Nat.pow_succ] at hu; omega
    simp only [cond_false]
    rw [decF_eq n (u / 10) _ hu' hn, List.append_assoc]
    rfl
noncomputable def wsK (args : List AV) (T : TH) (Q : PostB) : Bool := match args with
 | [.ptr id 0, .str s] => (match bldB T id with
   | some (bs, o) => and (Nat.ble s.length 1000000) (and (Nat.ble bs.length 1000000) (wrK T id o (bs ++ s) fun T' => Q (.tup [.int .i64 s.length, .nilif]) T'))
   | none => false)
 | _ => false
noncomputable def lnK (args : List AV) (T : TH) (Q : PostB) : Bool := match args with
 | [.ptr id 0] => (match bldB T id with
   | some (bs, _) => Q (.int .i64 bs.length) T
   | none => false)
 | _ => false
noncomputable def txK (args : List AV) (T : TH) (Q : PostB) : Bool := match args with
 | [.ptr id 0] => (match bldB T id with
   | some ([], _) => Q (.str []) T
   | some (b :: r, o) => wrK T id o (b :: r) fun T' => Q (.str (b :: r)) T'
   | none => false)
 | _ => false
noncomputable def itK (args : List AV) (T : TH) (Q : PostB) : Bool := match args with
 | [.int .i64 (.ofNat n)] => and (Nat.ble n 1000000) (Q (.str (decF 8 n [])) T)
 | _ => false
noncomputable def fuK (args : List AV) (T : TH) (Q : PostB) : Bool := match args with
 | [.int .u64 (.ofNat n), .int .i64 (.ofNat m)] => and (Nat.beq m 10) (and (Nat.ble n 1000000) (Q (.str (decF 8 n [])) T))
 | _ => false
noncomputable def libK (k : Nat) (args : List AV) (T : TH) (Q : PostB) : Bool :=
 cond (Nat.beq k 58) (wsK args T Q) (cond (Nat.beq k 57) (lnK args T Q) (cond (Nat.beq k 29) (txK args T Q) (cond (Nat.beq k 95) (itK args T Q) (fuK args T Q))))
theorem libK_ok {k : Nat} {args : List AV} {T : TH} {K : PostB} (hk : (k = 58 ∨ k = 57) ∨ k = 29 ∨ k = 95 ∨ k = 114) (h : libK k args T K = true) {Q : Post} (hQ : ∀ v T', K v T' = true → Q v T'.ah) : ACall C k args T.ah Q := by
 have dec8 : ∀ n : Nat, n ≤ 1000000 → decF 8 n [] = Go.Lib.decDigits n := fun n hn => by rw [decF_eq 8 n [] (by omega) (by decide), List.append_nil]
 rcases hk with (rfl | rfl) | rfl | rfl | rfl
 · have g : wsK args T K = true := h
   clear h
   unfold wsK at g
   split at g
   · split at g
     · rename_i hb
       simp only [Bool.and_eq_true] at g
       obtain ⟨h1, h2, h3⟩ := g
       obtain ⟨b1, b2⟩ := bldB_ok hb
       have h1 := Nat.le_of_ble_eq_true h1
       have h2 := Nat.le_of_ble_eq_true h2
       obtain ⟨T', h4, h5⟩ := wrK_ok b2 h3
       refine writeOKx b1 _ (by omega) (by omega) ?_
       rw [← h5]
       exact hQ _ _ h4
     · cases g
   · cases g
 · have g : lnK args T K = true := h
   clear h
   unfold lnK at g
   split at g
   · split at g
     · rename_i hb
       exact lenOK (bldB_ok hb).1 (hQ _ _ g)
     · cases g
   · cases g
 · have g : txK args T K = true := h
   clear h
   unfold txK at g
   split at g
   · split at g
     · rename_i hb
       refine textOKx (bldB_ok hb).1 ?_
       rw [if_pos rfl]
       exact hQ _ _ g
     · rename_i hb
       obtain ⟨b1, b2⟩ := bldB_ok hb
       obtain ⟨T', h4, h5⟩ := wrK_ok b2 g
       refine textOKx b1 ?_
       rw [if_neg (by simp), ← h5]
       exact hQ _ _ h4
     · cases g
   · cases g
 · have g : itK args T K = true := h
   clear h
   unfold itK at g
   split at g
   · rename_i n
     simp only [Bool.and_eq_true] at g
     have h1 := Nat.le_of_ble_eq_true g.1
     refine itoaOK _ (by show (-9223372036854775808 : Int) ≤ (n : Int); omega) (by show (n : Int) ≤ 9223372036854775807; omega) _ _ ?_
     have e : Go.Lib.itoa (Int.ofNat n) = decF 8 n [] := by rw [dec8 n h1]; unfold Go.Lib.itoa; rw [if_neg (by simp)]; rfl
     rw [e]
     exact hQ _ _ g.2
   · cases g
 · have g : fuK args T K = true := h
   clear h
   unfold fuK at g
   split at g
   · rename_i n m
     simp only [Bool.and_eq_true] at g
     obtain ⟨h0, h1, h2⟩ := g
     obtain rfl := Nat.eq_of_beq_eq_true h0
     have h1 := Nat.le_of_ble_eq_true h1
     refine fmtOK n (by omega) _ _ ?_
     rw [← dec8 n h1]
     exact hQ _ _ h2
   · cases g
noncomputable def isLib (k : Nat) : Bool := or (or (Nat.beq k 58) (Nat.beq k 57)) (or (Nat.beq k 29) (or (Nat.beq k 95) (Nat.beq k 114)))
noncomputable def dispL (B : CallsB) : CallsB := fun k args T Q => cond (isLib k) (libK k args T Q) (dispI fn B k args T Q)
theorem dispL_ok : DispOK (ACall C) dispL := by
 intro B hB k args T K h Q hQ
 unfold dispL at h
 cases hb : isLib k with
 | true =>
  rw [hb] at h
  unfold isLib at hb
  simp only [Bool.or_eq_true] at hb
  exact libK_ok (hb.imp (fun e => e.imp Nat.eq_of_beq_eq_true Nat.eq_of_beq_eq_true) fun e => e.imp Nat.eq_of_beq_eq_true fun e => e.imp Nat.eq_of_beq_eq_true Nat.eq_of_beq_eq_true) h hQ
 | false =>
  rw [hb] at h
  exact dispOK B hB k args T K h Q hQ
noncomputable def runL (L : List (Nat × List AV × AV)) : CallsB := runM (MxG L) dispL 100
theorem runL_ok {L : List (Nat × List AV × AV)} (hL : MemoOK (ACall C) (memL L)) : SoundB (ACall C) (runL L) := runM_sound (MxG_ok hL) dispL_ok 100
end Go.Proofs.YtbkkoplgicffgaaGreatDoor.rb

namespace Go.Proofs.YtbkkoplgicffgaaGreatDoor.rb
open Rb
noncomputable section
def RbM100 : List (Nat × List AV × AV) := [
  (82, [.str [118,97,114,32,116,104,114,101,97,100,32,115,116,114,117,99,116,32,117,110,105,111,110,32,112,97,99,107,101,100,32,117,56,32,117,49,54,32,117,51,50,32,117,54,52,32,97,56,32,97,49,54,32,97,51,50,32,97,54,52,32,97,49,50,56,32,108,101,116,32,115,101,116,32,119,114,105,116,101,32,115,116,111,114,101,32,108,111,97,100,50,32,115,116,111,114,101,50,32,102,101,110,99,101,32,105,102,32,101,108,115,101,32,119,104,105,108,101,32,112,114,105,110,116,32,114,101,97,100,32,108,111,97,100,32,97,100,100,32,115,119,97,112,32,99,97,115,32,114,108,120,32,97,99,113,32,114,101,108,32,115,99]], .lst .dead 34 [.str [118,97,114],.str [116,104,114,101,97,100],.str [115,116,114,117,99,116],.str [117,110,105,111,110],.str [112,97,99,107,101,100],.str [117,56],.str [117,49,54],.str [117,51,50],.str [117,54,52],.str [97,56],.str [97,49,54],.str [97,51,50],.str [97,54,52],.str [97,49,50,56],.str [108,101,116],.str [115,101,116],.str [119,114,105,116,101],.str [115,116,111,114,101],.str [108,111,97,100,50],.str [115,116,111,114,101,50],.str [102,101,110,99,101],.str [105,102],.str [101,108,115,101],.str [119,104,105,108,101],.str [112,114,105,110,116],.str [114,101,97,100],.str [108,111,97,100],.str [97,100,100],.str [115,119,97,112],.str [99,97,115],.str [114,108,120],.str [97,99,113],.str [114,101,108],.str [115,99]])]
def RbM101 : List (Nat × List AV × AV) := [
  (7, [], .bool true)]
theorem RbM100_run : forced (allW (runL []) RbM100) = true := by kernel_rfl
theorem RbM100_ok : MemoOK (ACall C) (memL (RbM100 ++ [])) := memL_appW gtC (runL_ok memL_nil) memL_nil (of_forced RbM100_run)
theorem RbM101_run : forced (allW (runL (RbM100 ++ [])) RbM101) = true := by kernel_rfl
theorem RbM101_ok : MemoOK (ACall C) (memL (RbM101 ++ (RbM100 ++ []))) := memL_appW gtC (runL_ok RbM100_ok) RbM100_ok (of_forced RbM101_run)
theorem RbM10_root0 : forced (allW (runL (RbM101 ++ (RbM100 ++ []))) [(7, [], .bool true)]) = true := by kernel_rfl
theorem RbM10_rootok0 : MemoOK (ACall C) (memL [(7, [], .bool true)]) := memL_appW gtC (runL_ok RbM101_ok) memL_nil (N := [(7, [], .bool true)]) (of_forced RbM10_root0)
end
end Go.Proofs.YtbkkoplgicffgaaGreatDoor.rb

namespace Rb.K
abbrev f4 : Nat := 4
abbrev f6 : Nat := 6
abbrev f7 : Nat := 7
abbrev f8 : Nat := 8
abbrev f9 : Nat := 9
abbrev f10 : Nat := 10
abbrev f11 : Nat := 11
abbrev f12 : Nat := 12
abbrev f13 : Nat := 13
abbrev f14 : Nat := 14
abbrev f15 : Nat := 15
abbrev f16 : Nat := 16
abbrev f18 : Nat := 18
abbrev f19 : Nat := 19
abbrev f20 : Nat := 20
abbrev f21 : Nat := 21
abbrev f22 : Nat := 22
abbrev f23 : Nat := 23
abbrev f24 : Nat := 24
abbrev f26 : Nat := 26
abbrev f27 : Nat := 27
abbrev f28 : Nat := 28
abbrev f29 : Nat := 29
abbrev f30 : Nat := 30
abbrev f31 : Nat := 31
abbrev f32 : Nat := 32
abbrev f33 : Nat := 33
abbrev f34 : Nat := 34
abbrev f35 : Nat := 35
abbrev f36 : Nat := 36
abbrev f37 : Nat := 37
abbrev f38 : Nat := 38
abbrev f39 : Nat := 39
abbrev f40 : Nat := 40
abbrev f41 : Nat := 41
abbrev f42 : Nat := 42
abbrev f43 : Nat := 43
abbrev f44 : Nat := 44
abbrev f45 : Nat := 45
abbrev f46 : Nat := 46
abbrev f47 : Nat := 47
abbrev f48 : Nat := 48
abbrev f49 : Nat := 49
abbrev f50 : Nat := 50
abbrev f51 : Nat := 51
abbrev f52 : Nat := 52
abbrev f53 : Nat := 53
abbrev f54 : Nat := 54
abbrev f55 : Nat := 55
abbrev f56 : Nat := 56
abbrev f57 : Nat := 57
abbrev f58 : Nat := 58
abbrev f59 : Nat := 59
abbrev f60 : Nat := 60
abbrev f61 : Nat := 61
abbrev f62 : Nat := 62
abbrev f63 : Nat := 63
abbrev f64 : Nat := 64
abbrev f65 : Nat := 65
abbrev f66 : Nat := 66
abbrev f67 : Nat := 67
abbrev f68 : Nat := 68
abbrev f69 : Nat := 69
abbrev f70 : Nat := 70
abbrev f71 : Nat := 71
abbrev f72 : Nat := 72
abbrev f73 : Nat := 73
abbrev f74 : Nat := 74
abbrev f75 : Nat := 75
abbrev f76 : Nat := 76
abbrev f77 : Nat := 77
abbrev f78 : Nat := 78
abbrev f79 : Nat := 79
abbrev f80 : Nat := 80
abbrev f81 : Nat := 81
abbrev f82 : Nat := 82
abbrev f83 : Nat := 83
abbrev f84 : Nat := 84
abbrev f85 : Nat := 85
abbrev f86 : Nat := 86
abbrev f87 : Nat := 87
abbrev f88 : Nat := 88
abbrev f89 : Nat := 89
abbrev f90 : Nat := 90
abbrev f91 : Nat := 91
abbrev f92 : Nat := 92
abbrev f93 : Nat := 93
abbrev f95 : Nat := 95
abbrev f96 : Nat := 96
abbrev f97 : Nat := 97
abbrev f98 : Nat := 98
abbrev f99 : Nat := 99
abbrev f102 : Nat := 102
abbrev f103 : Nat := 103
abbrev f104 : Nat := 104
abbrev f105 : Nat := 105
abbrev f106 : Nat := 106
abbrev f107 : Nat := 107
abbrev f112 : Nat := 112
abbrev f113 : Nat := 113
abbrev f114 : Nat := 114
abbrev f116 : Nat := 116
abbrev f120 : Nat := 120
abbrev f121 : Nat := 121
abbrev f122 : Nat := 122
abbrev f123 : Nat := 123
abbrev f124 : Nat := 124
abbrev f132 : Nat := 132
abbrev f142 : Nat := 142
abbrev f143 : Nat := 143
end Rb.K

namespace Rb.S
open Go
def f4_k1 (Φ : Calls') (x1 : AV) (Q : Post) : List AV → AH → Prop := fun j20 H21 =>
 Gd3 (sl j20 0) true (
 Do (aload H21 6 true x1) fun x23 =>
Φ K.f13 [x23] H21 fun x24 H25 =>
 Do (abin .neq x24 (.int .i64 0)) fun x26 =>
 Gd3 x26 false (
 Do (aload H25 6 true x1) fun x27 =>
Φ K.f14 [x27] H25 fun x28 H29 =>
 Q x28 H29) (
 Q (.bool true) H25) (
 False)) (
 Q (.bool false) H21) (
 False)
def f4_k2 (Φ : Calls') (x1 x12 : AV) (Q : Post) : List AV → AH → Prop := fun j15 H16 =>
 Gd3 (sl j15 0) true (
 Do (abin .eql x12 (.str [])) fun x22 =>
 JoinP (f4_k1 Φ x1 Q) [x22] H16) (
 JoinP (f4_k1 Φ x1 Q) [(.bool false)] H16) (
 False)
def f4_k3 (Φ : Calls') (x1 x34 : AV) (Q : Post) : List AV → AH → Prop := fun j40 H41 =>
 Gd3 (sl j40 0) true (
 Do (aload H41 6 true x1) fun x47 =>
 Do (aload H41 6 true x34) fun x48 =>
Φ K.f16 [x47, x48] H41 fun x49 H50 =>
 Q x49 H50) (
 Q (.bool false) H41) (
 False)
def f4 (Φ : Calls') (a0 : AV) (H : AH) (Q : Post) : Prop :=
 DoH (aboxv H false 6 a0) fun x1 H2 =>
 Do (aload H2 6 true x1) fun x3 =>
Φ K.f11 [x3, (.int .i64 20000)] H2 fun x4 H5 =>
 Do (abin .leq x4 (.int .i64 0)) fun x6 =>
 Gd x6 true (
Φ K.f7 [] H5 fun x7 H8 =>
 Q x7 H8) (
 Do (aload H5 6 true x1) fun x9 =>
Φ K.f12 [x9] H5 fun x10 H11 =>
 Do (aextract 0 x10) fun x12 =>
 Do (aextract 1 x10) fun x13 =>
 Do (abin .neq x13 (.int .i64 0)) fun x14 =>
 Gd x14 true (
Φ K.f7 [] H11 fun x17 H18 =>
 Gd3 x17 true (
 Do (abin .eql x13 (.int .i64 4)) fun x19 =>
 JoinP (f4_k2 Φ x1 x12 Q) [x19] H18) (
 JoinP (f4_k2 Φ x1 x12 Q) [(.bool false)] H18) (
 False)) (
Φ K.f15 [x12] H11 fun x30 H31 =>
 Do (aextract 0 x30) fun x32 =>
 Do (aextract 1 x30) fun x33 =>
 DoH (some (abox H31 true [.int .i64 0, .int .i64 0, .bool false, .lst .nil 0 [], .int .i64 0, .lst .nil 0 []])) fun x34 H35 =>
 DoH (some (abox H35 true [.int .i64 0, .int .i64 0])) fun x36 H37 =>
 Do (astore H37 6 x34 x32) fun H38 =>
 Do (astore H38 2 x36 x33) fun H39 =>
Φ K.f7 [] H39 fun x42 H43 =>
 Gd3 x42 true (
 Do (afaddr 1 x36) fun x44 =>
 Do (aload H43 1 false x44) fun x45 =>
 Do (abin .eql x45 (.int .i64 0)) fun x46 =>
 JoinP (f4_k3 Φ x1 x34 Q) [x46] H43) (
 JoinP (f4_k3 Φ x1 x34 Q) [(.bool false)] H43) (
 False)))
noncomputable def ir_f4 : AFunc := decF Go.Proofs.YtbkkoplgicffgaaGreatDoor.rb.C ⟨4,[5,6],[],none,[],[]⟩
theorem eq_f4 (Φ : Calls') (a0 : AV) (H : AH) (Q : Post) : fnE1 Φ ir_f4 [a0] H Q = f4 Φ a0 H Q := by kernel_rfl
def f6_k1 (Φ : Calls') (x1 x3 x7 x21 : AV) (Q : Post) : List AV → AH → Prop := fun j44 H45 =>
Φ K.f24 [x7] H45 fun x60 H61 =>
 DoH (some (abox H61 true [.int .i64 0, .int .i64 0])) fun x62 H63 =>
 Do (astore H63 2 x62 x60) fun H64 =>
 Do (afaddr 1 x62) fun x65 =>
 Do (aload H64 1 false x65) fun x66 =>
 Do (abin .neq x66 (.int .i64 0)) fun x67 =>
 Gd x67 true (
 Do (abuild [.lst .nil 0 [], .lst .nil 0 []] []) fun x68 =>
 Do (aload H64 2 true x62) fun x69 =>
 Do (astore H64 2 x1 x68) fun H70 =>
(aload H70 2 true x62 = some x69) ∧
(Do (astore H70 2 x3 x69) fun H71 =>
 Do (aload H71 2 true x1) fun x72 =>
 Do (aload H71 2 true x3) fun x73 =>
 Q (.tup [x72, x73]) H71)) (
 Do (aload H64 2 true x21) fun x74 =>
 Do (abuild [.int .i64 0, .int .i64 0] []) fun x75 =>
 Do (astore H64 2 x1 x74) fun H76 =>
 Do (astore H76 2 x3 x75) fun H77 =>
 Do (aload H77 2 true x1) fun x78 =>
 Do (aload H77 2 true x3) fun x79 =>
 Q (.tup [x78, x79]) H77)
def f6_l2 (Φ : Calls') (x1 x3 x7 x21 : AV) (Q : Post) : (List AV × AH) → ((List AV × AH) → Prop) → Prop := fun s46 L47 =>
Φ K.f19 [x7, (.str [116, 104, 114, 101, 97, 100])] s46.2 fun x48 H49 =>
 Gd x48 true (
 Do (afaddr 1 x21) fun x50 =>
 Do (aload H49 1 false x50) fun x51 =>
Φ K.f23 [x7, (.int .i64 1)] H49 fun x52 H53 =>
(aload H53 1 false x50 = some x51) ∧
(DoH (abslice H53 false 1 1 [.lst .nil 0 []] [(0, 1, x52)]) fun x54 H55 =>
 DoH (aappend H55 false 1 24 x51 x54) fun x56 H57 =>
 Do (afaddr 1 x21) fun x58 =>
 Do (astore H57 1 x58 x56) fun H59 =>
 L47 ([], H59))) (
 JoinP (f6_k1 Φ x1 x3 x7 x21 Q) [] H49)
def f6_k3 (Φ : Calls') (x1 x3 x7 x21 : AV) (Q : Post) : List AV → AH → Prop := fun j23 H24 =>
 LoopP (f6_l2 Φ x1 x3 x7 x21 Q) ([], H24)
def f6_l4 (Φ : Calls') (x1 x3 x7 x21 : AV) (Q : Post) : (List AV × AH) → ((List AV × AH) → Prop) → Prop := fun s25 L26 =>
Φ K.f19 [x7, (.str [118, 97, 114])] s25.2 fun x27 H28 =>
 Gd x27 true (
 Do (afaddr 0 x21) fun x29 =>
 Do (aload H28 1 false x29) fun x30 =>
Φ K.f20 [x7] H28 fun x31 H32 =>
(aload H32 1 false x29 = some x30) ∧
(Φ K.f21 [x7, (.int .i64 1)] H32 fun x33 H34 =>
(aload H34 1 false x29 = some x30) ∧
(Do (abuild [.str [], .int .i64 0, .int .i64 0, .bool false, .lst .nil 0 [], .int .i64 0, .lst .nil 0 []] [(0, 1, x31), (1, 6, x33)]) fun x35 =>
 DoH (abslice H34 false 7 1 [.str [], .int .i64 0, .int .i64 0, .bool false, .lst .nil 0 [], .int .i64 0, .lst .nil 0 []] [(0, 7, x35)]) fun x36 H37 =>
 DoH (aappend H37 false 7 96 x30 x36) fun x38 H39 =>
 Do (afaddr 0 x21) fun x40 =>
 Do (astore H39 1 x40 x38) fun H41 =>
Φ K.f22 [x7, (.str [59])] H41 fun x42 H43 =>
 L26 ([], H43)))) (
 JoinP (f6_k3 Φ x1 x3 x7 x21 Q) [] H28)
def f6 (Φ : Calls') (a0 : AV) (H : AH) (Q : Post) : Prop :=
 DoH (some (abox H true [.lst .nil 0 [], .lst .nil 0 []])) fun x1 H2 =>
 DoH (some (abox H2 true [.int .i64 0, .int .i64 0])) fun x3 H4 =>
Φ K.f18 [a0] H4 fun x5 H6 =>
 Do (aextract 0 x5) fun x7 =>
 Do (aextract 1 x5) fun x8 =>
 DoH (some (abox H6 true [.int .i64 0, .int .i64 0])) fun x9 H10 =>
 Do (astore H10 2 x9 x8) fun H11 =>
 Do (afaddr 1 x9) fun x12 =>
 Do (aload H11 1 false x12) fun x13 =>
 Do (abin .neq x13 (.int .i64 0)) fun x14 =>
 Gd x14 true (
 Do (abuild [.lst .nil 0 [], .lst .nil 0 []] []) fun x15 =>
 Do (aload H11 2 true x9) fun x16 =>
 Do (astore H11 2 x1 x15) fun H17 =>
(aload H17 2 true x9 = some x16) ∧
(Do (astore H17 2 x3 x16) fun H18 =>
 Do (aload H18 2 true x1) fun x19 =>
 Do (aload H18 2 true x3) fun x20 =>
 Q (.tup [x19, x20]) H18)) (
 DoH (some (abox H11 true [.lst .nil 0 [], .lst .nil 0 []])) fun x21 H22 =>
 LoopP (f6_l4 Φ x1 x3 x7 x21 Q) ([], H22))
noncomputable def ir_f6 : AFunc := decF Go.Proofs.YtbkkoplgicffgaaGreatDoor.rb.C ⟨6,[2,3,5,6,7],[[],[]],none,[],[]⟩
def f8_k1 (Φ : Calls') (x53 : AV) (Q : Post) : List AV → AH → Prop := fun j65 H66 =>
 Q (.tup [x53, (.int .i64 0)]) H66
def f8_k2 (Φ : Calls') (x53 : AV) (Q : Post) : List AV → AH → Prop := fun j67 H68 =>
 Gd (sl j67 0) true (
 Q (.tup [(.str []), (.int .i64 4)]) H68) (
 JoinP (f8_k1 Φ x53 Q) [] H68)
def f8_k3 (Φ : Calls') (x1 x4 : AV) (Q : Post) : List AV → AH → Prop := fun j34 H35 =>
 Do (anilck x4) fun x51 =>
 Do (afaddr 0 x51) fun x52 =>
Φ K.f29 [x52] H35 fun x53 H54 =>
Φ K.f6 [x53] H54 fun x55 H56 =>
 Do (aextract 0 x55) fun x57 =>
 Do (aextract 1 x55) fun x58 =>
 DoH (some (abox H56 true [.lst .nil 0 [], .lst .nil 0 []])) fun x59 H60 =>
 DoH (some (abox H60 true [.int .i64 0, .int .i64 0])) fun x61 H62 =>
 Do (astore H62 2 x59 x57) fun H63 =>
 Do (astore H63 2 x61 x58) fun H64 =>
 Do (afaddr 1 x61) fun x69 =>
 Do (aload H64 1 false x69) fun x70 =>
 Do (abin .neq x70 (.int .i64 0)) fun x71 =>
 Gd3 x71 false (
 Do (aload H64 2 true x1) fun x72 =>
 Do (aload H64 2 true x59) fun x73 =>
Φ K.f10 [x72, x73] H64 fun x74 H75 =>
 Do (aun .not x74) fun x76 =>
 JoinP (f8_k2 Φ x53 Q) [x76] H75) (
 JoinP (f8_k2 Φ x53 Q) [(.bool true)] H64) (
 False)
def f8_l4 (Φ : Calls') (x1 x4 x37 x38 : AV) (Q : Post) : (List AV × AH) → ((List AV × AH) → Prop) → Prop := fun s39 L40 =>
 Do (abin .lss (sl s39.1 0) x38) fun x41 =>
 Gd x41 true (
 Do (aiaddr none 1 x37 (sl s39.1 0)) fun x42 =>
 Do (aload s39.2 1 false x42) fun x43 =>
 DoH (abslice s39.2 false 1 1 [.str []] [(0, 1, (.str [116, 104, 114, 101, 97, 100]))]) fun x44 H45 =>
Φ K.f26 [x4, x44] H45 fun x46 H47 =>
Φ K.f28 [x4, x43] H47 fun x48 H49 =>
 Do (abin .add (sl s39.1 0) (.int .i64 1)) fun x50 =>
 L40 ([x50], H49)) (
 JoinP (f8_k3 Φ x1 x4 Q) [] s39.2)
def f8_k5 (Φ : Calls') (x1 x4 : AV) (Q : Post) : List AV → AH → Prop := fun j6 H7 =>
 Do (afaddr 1 x1) fun x36 =>
 Do (aload H7 1 false x36) fun x37 =>
 Do (alen false x37) fun x38 =>
 LoopP (f8_l4 Φ x1 x4 x37 x38 Q) ([(.int .i64 0)], H7)
def f8_l6 (Φ : Calls') (x1 x4 x9 x10 : AV) (Q : Post) : (List AV × AH) → ((List AV × AH) → Prop) → Prop := fun s11 L12 =>
 Do (abin .lss (sl s11.1 0) x10) fun x13 =>
 Gd x13 true (
 Do (aiaddr none 7 x9 (sl s11.1 0)) fun x14 =>
 Do (aload s11.2 7 true x14) fun x15 =>
 DoH (some (abox s11.2 true [.str [], .int .i64 0, .int .i64 0, .bool false, .lst .nil 0 [], .int .i64 0, .lst .nil 0 []])) fun x16 H17 =>
 Do (astore H17 7 x16 x15) fun H18 =>
 Do (afaddr 0 x16) fun x19 =>
 Do (aload H18 1 false x19) fun x20 =>
 DoH (abslice H18 false 1 2 [.str []] [(0, 1, (.str [118, 97, 114])), (1, 1, x20)]) fun x21 H22 =>
Φ K.f26 [x4, x21] H22 fun x23 H24 =>
 Do (afaddr 1 x16) fun x25 =>
 Do (aload H24 6 true x25) fun x26 =>
Φ K.f27 [x4, x26] H24 fun x27 H28 =>
 DoH (abslice H28 false 1 1 [.str []] [(0, 1, (.str [59]))]) fun x29 H30 =>
Φ K.f26 [x4, x29] H30 fun x31 H32 =>
 Do (abin .add (sl s11.1 0) (.int .i64 1)) fun x33 =>
 L12 ([x33], H32)) (
 JoinP (f8_k5 Φ x1 x4 Q) [] s11.2)
def f8 (Φ : Calls') (a0 : AV) (H : AH) (Q : Post) : Prop :=
 DoH (aboxv H false 2 a0) fun x1 H2 =>
 Do (abuild [.nilp, .lst .nil 0 []] []) fun x3 =>
 DoH (aext H2 (.bnew 79) [x3]) fun x4 H5 =>
 Do (afaddr 0 x1) fun x8 =>
 Do (aload H5 1 false x8) fun x9 =>
 Do (alen false x9) fun x10 =>
 LoopP (f8_l6 Φ x1 x4 x9 x10 Q) ([(.int .i64 0)], H5)
noncomputable def ir_f8 : AFunc := decF Go.Proofs.YtbkkoplgicffgaaGreatDoor.rb.C ⟨8,[6,10,11,13],[[17],[37]],none,[],[]⟩
def f9_k1 (Φ : Calls') (a0 x1 : AV) (s10 : List AV × AH) (L11 : (List AV × AH) → Prop) (j14 : List AV) (Q : Post) : List AV → AH → Prop := fun j19 H20 =>
Φ K.f30 [a0, (sl j19 0)] H20 fun x28 H29 =>
 Do (abin .eql x28 (.int .i64 0)) fun x30 =>
 Gd x30 true (
 Do (abuild [.int .i64 0, .int .i64 0] [(0, 1, (sl j14 0)), (1, 1, (.int .i64 3))]) fun x31 =>
 Do (astore H29 2 x1 x31) fun H32 =>
 Do (aload H32 2 true x1) fun x33 =>
 Q (.tup [(.lst .nil 0 []), x33]) H32) (
 Do (abin .add (sl j19 0) x28) fun x34 =>
 Do (asslice a0 (some (sl j19 0)) (some x34)) fun x35 =>
 Do (abuild [.str [], .int .i64 0] [(0, 1, x35), (1, 1, (sl j14 0))]) fun x36 =>
 DoH (abslice H29 false 2 1 [.str [], .int .i64 0] [(0, 2, x36)]) fun x37 H38 =>
 DoH (aappend H38 false 2 24 (sl s10.1 0) x37) fun x39 H40 =>
 Do (abin .add (sl j19 0) x28) fun x41 =>
 L11 ([x39, (sl j14 0), x41], H40))
def f9_k2 (Φ : Calls') (a0 x1 : AV) (s10 : List AV × AH) (L11 : (List AV × AH) → Prop) (j14 : List AV) (Q : Post) : List AV → AH → Prop := fun j21 H22 =>
 Gd (sl j21 0) true (
 Do (abin .add (sl s10.1 2) (.int .i64 1)) fun x27 =>
 L11 ([(sl s10.1 0), (sl j14 0), x27], H22)) (
 JoinP (f9_k1 Φ a0 x1 s10 L11 j14 Q) [(sl s10.1 2)] H22)
def f9_k3 (Φ : Calls') (a0 x1 : AV) (s10 : List AV × AH) (L11 : (List AV × AH) → Prop) (Q : Post) : List AV → AH → Prop := fun j14 H15 =>
 Do (aidxs a0 (sl s10.1 2)) fun x23 =>
 Do (abin .eql x23 (.int .u8 10)) fun x24 =>
 Gd3 x24 false (
 Do (aidxs a0 (sl s10.1 2)) fun x25 =>
 Do (abin .eql x25 (.int .u8 32)) fun x26 =>
 JoinP (f9_k2 Φ a0 x1 s10 L11 j14 Q) [x26] H15) (
 JoinP (f9_k2 Φ a0 x1 s10 L11 j14 Q) [(.bool true)] H15) (
 False)
def f9_k4 (Φ : Calls') (x1 : AV) (Q : Post) : List AV → AH → Prop := fun j8 H9 =>
 Do (abuild [.int .i64 0, .int .i64 0] []) fun x42 =>
 Do (astore H9 2 x1 x42) fun H43 =>
 Do (aload H43 2 true x1) fun x44 =>
 Q (.tup [(sl j8 0), x44]) H43
def f9_l5 (Φ : Calls') (a0 x1 : AV) (Q : Post) : (List AV × AH) → ((List AV × AH) → Prop) → Prop := fun s10 L11 =>
 Do (alen true a0) fun x12 =>
 Do (abin .lss (sl s10.1 2) x12) fun x13 =>
 Gd x13 true (
 Do (aidxs a0 (sl s10.1 2)) fun x16 =>
 Do (abin .eql x16 (.int .u8 10)) fun x17 =>
 Gd x17 true (
 Do (abin .add (sl s10.1 1) (.int .i64 1)) fun x18 =>
 JoinP (f9_k3 Φ a0 x1 s10 L11 Q) [x18] s10.2) (
 JoinP (f9_k3 Φ a0 x1 s10 L11 Q) [(sl s10.1 1)] s10.2)) (
 JoinP (f9_k4 Φ x1 Q) [(sl s10.1 0)] s10.2)
def f9 (Φ : Calls') (a0 : AV) (H : AH) (Q : Post) : Prop :=
 DoH (some (abox H true [.int .i64 0, .int .i64 0])) fun x1 H2 =>
 Do (alen true a0) fun x3 =>
 Do (abin .gtr x3 (.int .i64 1048576)) fun x4 =>
 Gd x4 true (
 Do (abuild [.int .i64 0, .int .i64 0] [(1, 1, (.int .i64 12))]) fun x5 =>
 Do (astore H2 2 x1 x5) fun H6 =>
 Do (aload H6 2 true x1) fun x7 =>
 Q (.tup [(.lst .nil 0 []), x7]) H6) (
 LoopP (f9_l5 Φ a0 x1 Q) ([(.lst .nil 0 []), (.int .i64 1), (.int .i64 0)], H2))
noncomputable def ir_f9 : AFunc := decF Go.Proofs.YtbkkoplgicffgaaGreatDoor.rb.C ⟨9,[3],[[4,5,6]],none,[],[]⟩
def f10 (Φ : Calls') (a0 a1 : AV) (H : AH) (Q : Post) : Prop :=
 DoH (aboxv H false 2 a0) fun x1 H2 =>
 DoH (aboxv H2 false 2 a1) fun x3 H4 =>
 Do (afaddr 0 x1) fun x5 =>
 Do (aload H4 1 false x5) fun x6 =>
 Do (afaddr 0 x3) fun x7 =>
 Do (aload H4 1 false x7) fun x8 =>
Φ K.f31 [x6, x8, (.fn K.f32 [])] H4 fun x9 H10 =>
 Gd3 x9 true (
 Do (afaddr 1 x1) fun x11 =>
 Do (aload H10 1 false x11) fun x12 =>
 Do (afaddr 1 x3) fun x13 =>
 Do (aload H10 1 false x13) fun x14 =>
Φ K.f34 [x12, x14, (.fn K.f35 [])] H10 fun x15 H16 =>
 Q x15 H16) (
 Q (.bool false) H10) (
 False)
noncomputable def ir_f10 : AFunc := decF Go.Proofs.YtbkkoplgicffgaaGreatDoor.rb.C ⟨10,[],[],none,[],[]⟩
def f11_k1 (Φ : Calls') (x1 : AV) (s6 : List AV × AH) (L7 : (List AV × AH) → Prop) (Q : Post) : List AV → AH → Prop := fun j8 H9 =>
 Do (afaddr 5 x1) fun x17 =>
 Do (aload H9 1 false x17) fun x18 =>
 Do (aiaddr none 6 x18 (sl s6.1 1)) fun x19 =>
 Do (aload H9 6 true x19) fun x20 =>
Φ K.f11 [x20, (sl s6.1 0)] H9 fun x21 H22 =>
 Do (abin .add (sl s6.1 1) (.int .i64 1)) fun x23 =>
 L7 ([x21, x23], H22)
def f11_k2 (Φ : Calls') (x1 : AV) (s24 : List AV × AH) (L25 : (List AV × AH) → Prop) (Q : Post) : List AV → AH → Prop := fun j26 H27 =>
 Do (afaddr 3 x1) fun x35 =>
 Do (aload H27 1 false x35) fun x36 =>
 Do (aiaddr none 9 x36 (sl s24.1 1)) fun x37 =>
 Do (afaddr 1 x37) fun x38 =>
 Do (aload H27 6 true x38) fun x39 =>
 Do (afaddr 3 x1) fun x40 =>
 Do (aload H27 1 false x40) fun x41 =>
 Do (aiaddr none 9 x41 (sl s24.1 1)) fun x42 =>
 Do (afaddr 0 x42) fun x43 =>
 Do (aload H27 1 false x43) fun x44 =>
 Do (alen true x44) fun x45 =>
 Do (abin .sub (sl s24.1 0) x45) fun x46 =>
Φ K.f11 [x39, x46] H27 fun x47 H48 =>
 Do (abin .add (sl s24.1 1) (.int .i64 1)) fun x49 =>
 L25 ([x47, x49], H48)
def f11_k3 (Φ : Calls') (x1 : AV) (s24 : List AV × AH) (L25 : (List AV × AH) → Prop) (Q : Post) : List AV → AH → Prop := fun j28 H29 =>
 Gd (sl j28 0) true (
 JoinP (f11_k2 Φ x1 s24 L25 Q) [] H29) (
 Q (sl s24.1 0) H29)
def f11_l4 (Φ : Calls') (x1 : AV) (Q : Post) : (List AV × AH) → ((List AV × AH) → Prop) → Prop := fun s24 L25 =>
 Do (afaddr 3 x1) fun x30 =>
 Do (aload s24.2 1 false x30) fun x31 =>
 Do (alen false x31) fun x32 =>
 Do (abin .lss (sl s24.1 1) x32) fun x33 =>
 Gd3 x33 true (
 Do (abin .gtr (sl s24.1 0) (.int .i64 0)) fun x34 =>
 JoinP (f11_k3 Φ x1 s24 L25 Q) [x34] s24.2) (
 JoinP (f11_k3 Φ x1 s24 L25 Q) [(.bool false)] s24.2) (
 False)
def f11_k5 (Φ : Calls') (x1 : AV) (Q : Post) : List AV → AH → Prop := fun j4 H5 =>
 LoopP (f11_l4 Φ x1 Q) ([(sl j4 0), (.int .i64 0)], H5)
def f11_k6 (Φ : Calls') (x1 : AV) (s6 : List AV × AH) (L7 : (List AV × AH) → Prop) (Q : Post) : List AV → AH → Prop := fun j10 H11 =>
 Gd (sl j10 0) true (
 JoinP (f11_k1 Φ x1 s6 L7 Q) [] H11) (
 JoinP (f11_k5 Φ x1 Q) [(sl s6.1 0)] H11)
def f11_l7 (Φ : Calls') (x1 : AV) (Q : Post) : (List AV × AH) → ((List AV × AH) → Prop) → Prop := fun s6 L7 =>
 Do (afaddr 5 x1) fun x12 =>
 Do (aload s6.2 1 false x12) fun x13 =>
 Do (alen false x13) fun x14 =>
 Do (abin .lss (sl s6.1 1) x14) fun x15 =>
 Gd3 x15 true (
 Do (abin .gtr (sl s6.1 0) (.int .i64 0)) fun x16 =>
 JoinP (f11_k6 Φ x1 s6 L7 Q) [x16] s6.2) (
 JoinP (f11_k6 Φ x1 s6 L7 Q) [(.bool false)] s6.2) (
 False)
def f11 (Φ : Calls') (a0 a1 : AV) (H : AH) (Q : Post) : Prop :=
 DoH (aboxv H false 6 a0) fun x1 H2 =>
 Do (abin .sub a1 (.int .i64 1)) fun x3 =>
 LoopP (f11_l7 Φ x1 Q) ([x3, (.int .i64 0)], H2)
noncomputable def ir_f11 : AFunc := decF Go.Proofs.YtbkkoplgicffgaaGreatDoor.rb.C ⟨11,[],[[1,5],[1,6]],none,[],[]⟩
theorem eq_f11 (Φ : Calls') (a0 a1 : AV) (H : AH) (Q : Post) : fnE1 Φ ir_f11 [a0, a1] H Q = f11 Φ a0 a1 H Q := by kernel_rfl
def f12_k1 (Φ : Calls') (x13 : AV) (Q : Post) : List AV → AH → Prop := fun j25 H26 =>
 Q (.tup [x13, (.int .i64 0)]) H26
def f12_k2 (Φ : Calls') (x13 : AV) (Q : Post) : List AV → AH → Prop := fun j27 H28 =>
 Gd (sl j27 0) true (
 Q (.tup [(.str []), (.int .i64 4)]) H28) (
 JoinP (f12_k1 Φ x13 Q) [] H28)
def f12 (Φ : Calls') (a0 : AV) (H : AH) (Q : Post) : Prop :=
 DoH (aboxv H false 6 a0) fun x1 H2 =>
 Do (abuild [.nilp, .lst .nil 0 []] []) fun x3 =>
 DoH (aext H2 (.bnew 79) [x3]) fun x4 H5 =>
 Do (aload H5 6 true x1) fun x6 =>
Φ K.f27 [x4, x6] H5 fun x7 H8 =>
 Do (anilck x4) fun x9 =>
 Do (afaddr 0 x9) fun x10 =>
Φ K.f29 [x10] H8 fun x11 H12 =>
Φ K.f38 [x11, (.str [32, 10])] H12 fun x13 H14 =>
Φ K.f15 [x13] H14 fun x15 H16 =>
 Do (aextract 0 x15) fun x17 =>
 Do (aextract 1 x15) fun x18 =>
 DoH (some (abox H16 true [.int .i64 0, .int .i64 0, .bool false, .lst .nil 0 [], .int .i64 0, .lst .nil 0 []])) fun x19 H20 =>
 DoH (some (abox H20 true [.int .i64 0, .int .i64 0])) fun x21 H22 =>
 Do (astore H22 6 x19 x17) fun H23 =>
 Do (astore H23 2 x21 x18) fun H24 =>
 Do (afaddr 1 x21) fun x29 =>
 Do (aload H24 1 false x29) fun x30 =>
 Do (abin .neq x30 (.int .i64 0)) fun x31 =>
 Gd3 x31 false (
 Do (aload H24 6 true x1) fun x32 =>
 Do (aload H24 6 true x19) fun x33 =>
Φ K.f33 [x32, x33] H24 fun x34 H35 =>
 Do (aun .not x34) fun x36 =>
 JoinP (f12_k2 Φ x13 Q) [x36] H35) (
 JoinP (f12_k2 Φ x13 Q) [(.bool true)] H24) (
 False)
noncomputable def ir_f12 : AFunc := decF Go.Proofs.YtbkkoplgicffgaaGreatDoor.rb.C ⟨12,[6,7,9],[],none,[],[]⟩
theorem eq_f12 (Φ : Calls') (a0 : AV) (H : AH) (Q : Post) : fnE1 Φ ir_f12 [a0] H Q = f12 Φ a0 H Q := by kernel_rfl
def f13 (Φ : Calls') (a0 : AV) (H : AH) (Q : Post) : Prop :=
 DoH (aboxv H false 6 a0) fun x1 H2 =>
 Do (aload H2 6 true x1) fun x3 =>
Φ K.f39 [x3, (.int .i64 65)] H2 fun x4 H5 =>
 Do (abin .gtr x4 (.int .i64 64)) fun x6 =>
 Gd x6 true (
 Q (.int .i64 5) H5) (
 Do (aload H5 6 true x1) fun x7 =>
Φ K.f40 [x7] H5 fun x8 H9 =>
 Q x8 H9)
noncomputable def ir_f13 : AFunc := decF Go.Proofs.YtbkkoplgicffgaaGreatDoor.rb.C ⟨13,[],[],none,[],[]⟩
theorem eq_f13 (Φ : Calls') (a0 : AV) (H : AH) (Q : Post) : fnE1 Φ ir_f13 [a0] H Q = f13 Φ a0 H Q := by kernel_rfl
def f14_k1 (Φ : Calls') (s5 : List AV × AH) (L6 : (List AV × AH) → Prop) (Q : Post) : List AV → AH → Prop := fun j11 H12 =>
 Do (abin .add (sl s5.1 1) (.int .i64 1)) fun x19 =>
 L6 ([(sl j11 0), x19], H12)
def f14_k2 (Φ : Calls') (s20 : List AV × AH) (L21 : (List AV × AH) → Prop) (Q : Post) : List AV → AH → Prop := fun j26 H27 =>
 Do (abin .add (sl s20.1 1) (.int .i64 1)) fun x44 =>
 L21 ([(sl j26 0), x44], H27)
def f14_k3 (Φ : Calls') (x1 : AV) (s20 : List AV × AH) (L21 : (List AV × AH) → Prop) (Q : Post) : List AV → AH → Prop := fun j28 H29 =>
 Gd3 (sl j28 0) false (
 Do (afaddr 3 x1) fun x37 =>
 Do (aload H29 1 false x37) fun x38 =>
 Do (aiaddr none 9 x38 (sl s20.1 1)) fun x39 =>
 Do (afaddr 1 x39) fun x40 =>
 Do (aload H29 6 true x40) fun x41 =>
Φ K.f14 [x41] H29 fun x42 H43 =>
 JoinP (f14_k2 Φ s20 L21 Q) [x42] H43) (
 JoinP (f14_k2 Φ s20 L21 Q) [(.bool true)] H29) (
 False)
def f14_l4 (Φ : Calls') (x1 : AV) (Q : Post) : (List AV × AH) → ((List AV × AH) → Prop) → Prop := fun s20 L21 =>
 Do (afaddr 3 x1) fun x22 =>
 Do (aload s20.2 1 false x22) fun x23 =>
 Do (alen false x23) fun x24 =>
 Do (abin .lss (sl s20.1 1) x24) fun x25 =>
 Gd x25 true (
 Gd3 (sl s20.1 0) false (
 Do (afaddr 3 x1) fun x30 =>
 Do (aload s20.2 1 false x30) fun x31 =>
 Do (aiaddr none 9 x31 (sl s20.1 1)) fun x32 =>
 Do (afaddr 0 x32) fun x33 =>
 Do (aload s20.2 1 false x33) fun x34 =>
Φ K.f41 [x34] s20.2 fun x35 H36 =>
 JoinP (f14_k3 Φ x1 s20 L21 Q) [x35] H36) (
 JoinP (f14_k3 Φ x1 s20 L21 Q) [(.bool true)] s20.2) (
 False)) (
 Q (sl s20.1 0) s20.2)
def f14_k5 (Φ : Calls') (x1 : AV) (Q : Post) : List AV → AH → Prop := fun j3 H4 =>
 LoopP (f14_l4 Φ x1 Q) ([(sl j3 0), (.int .i64 0)], H4)
def f14_l6 (Φ : Calls') (x1 : AV) (Q : Post) : (List AV × AH) → ((List AV × AH) → Prop) → Prop := fun s5 L6 =>
 Do (afaddr 5 x1) fun x7 =>
 Do (aload s5.2 1 false x7) fun x8 =>
 Do (alen false x8) fun x9 =>
 Do (abin .lss (sl s5.1 1) x9) fun x10 =>
 Gd x10 true (
 Gd3 (sl s5.1 0) false (
 Do (afaddr 5 x1) fun x13 =>
 Do (aload s5.2 1 false x13) fun x14 =>
 Do (aiaddr none 6 x14 (sl s5.1 1)) fun x15 =>
 Do (aload s5.2 6 true x15) fun x16 =>
Φ K.f14 [x16] s5.2 fun x17 H18 =>
 JoinP (f14_k1 Φ s5 L6 Q) [x17] H18) (
 JoinP (f14_k1 Φ s5 L6 Q) [(.bool true)] s5.2) (
 False)) (
 JoinP (f14_k5 Φ x1 Q) [(sl s5.1 0)] s5.2)
def f14 (Φ : Calls') (a0 : AV) (H : AH) (Q : Post) : Prop :=
 DoH (aboxv H false 6 a0) fun x1 H2 =>
 LoopP (f14_l6 Φ x1 Q) ([(.bool false), (.int .i64 0)], H2)
noncomputable def ir_f14 : AFunc := decF Go.Proofs.YtbkkoplgicffgaaGreatDoor.rb.C ⟨14,[],[[3,4],[3,5]],none,[],[]⟩
theorem eq_f14 (Φ : Calls') (a0 : AV) (H : AH) (Q : Post) : fnE1 Φ ir_f14 [a0] H Q = f14 Φ a0 H Q := by kernel_rfl
def f15 (Φ : Calls') (a0 : AV) (H : AH) (Q : Post) : Prop :=
 DoH (some (abox H true [.int .i64 0, .int .i64 0, .bool false, .lst .nil 0 [], .int .i64 0, .lst .nil 0 []])) fun x1 H2 =>
 DoH (some (abox H2 true [.int .i64 0, .int .i64 0])) fun x3 H4 =>
Φ K.f18 [a0] H4 fun x5 H6 =>
 Do (aextract 0 x5) fun x7 =>
 Do (aextract 1 x5) fun x8 =>
 DoH (some (abox H6 true [.int .i64 0, .int .i64 0])) fun x9 H10 =>
 Do (astore H10 2 x9 x8) fun H11 =>
 Do (afaddr 1 x9) fun x12 =>
 Do (aload H11 1 false x12) fun x13 =>
 Do (abin .neq x13 (.int .i64 0)) fun x14 =>
 Gd x14 true (
 Do (abuild [.int .i64 0, .int .i64 0, .bool false, .lst .nil 0 [], .int .i64 0, .lst .nil 0 []] []) fun x15 =>
 Do (aload H11 2 true x9) fun x16 =>
 Do (astore H11 6 x1 x15) fun H17 =>
(aload H17 2 true x9 = some x16) ∧
(Do (astore H17 2 x3 x16) fun H18 =>
 Do (aload H18 6 true x1) fun x19 =>
 Do (aload H18 2 true x3) fun x20 =>
 Q (.tup [x19, x20]) H18)) (
Φ K.f21 [x7, (.int .i64 1)] H11 fun x21 H22 =>
 DoH (some (abox H22 true [.int .i64 0, .int .i64 0, .bool false, .lst .nil 0 [], .int .i64 0, .lst .nil 0 []])) fun x23 H24 =>
 Do (astore H24 6 x23 x21) fun H25 =>
Φ K.f24 [x7] H25 fun x26 H27 =>
 DoH (some (abox H27 true [.int .i64 0, .int .i64 0])) fun x28 H29 =>
 Do (astore H29 2 x28 x26) fun H30 =>
 Do (afaddr 1 x28) fun x31 =>
 Do (aload H30 1 false x31) fun x32 =>
 Do (abin .neq x32 (.int .i64 0)) fun x33 =>
 Gd x33 true (
 Do (abuild [.int .i64 0, .int .i64 0, .bool false, .lst .nil 0 [], .int .i64 0, .lst .nil 0 []] []) fun x34 =>
 Do (aload H30 2 true x28) fun x35 =>
 Do (astore H30 6 x1 x34) fun H36 =>
(aload H36 2 true x28 = some x35) ∧
(Do (astore H36 2 x3 x35) fun H37 =>
 Do (aload H37 6 true x1) fun x38 =>
 Do (aload H37 2 true x3) fun x39 =>
 Q (.tup [x38, x39]) H37)) (
 Do (aload H30 6 true x23) fun x40 =>
 Do (abuild [.int .i64 0, .int .i64 0] []) fun x41 =>
 Do (astore H30 6 x1 x40) fun H42 =>
 Do (astore H42 2 x3 x41) fun H43 =>
 Do (aload H43 6 true x1) fun x44 =>
 Do (aload H43 2 true x3) fun x45 =>
 Q (.tup [x44, x45]) H43))
noncomputable def ir_f15 : AFunc := decF Go.Proofs.YtbkkoplgicffgaaGreatDoor.rb.C ⟨15,[2,3,5,6,7],[],none,[],[]⟩
theorem eq_f15 (Φ : Calls') (a0 : AV) (H : AH) (Q : Post) : fnE1 Φ ir_f15 [a0] H Q = f15 Φ a0 H Q := by kernel_rfl
def f16_k1 (Φ : Calls') (s71 : List AV × AH) (L72 : (List AV × AH) → Prop) (Q : Post) : List AV → AH → Prop := fun j77 H78 =>
 Do (abin .add (sl s71.1 0) (.int .i64 1)) fun x121 =>
 L72 ([x121], H78)
def f16_k2 (Φ : Calls') (s71 : List AV × AH) (L72 : (List AV × AH) → Prop) (Q : Post) : List AV → AH → Prop := fun j93 H94 =>
 Gd (sl j93 0) true (
 Q (.bool false) H94) (
 JoinP (f16_k1 Φ s71 L72 Q) [] H94)
def f16_k3 (Φ : Calls') (x87 x89 : AV) (s71 : List AV × AH) (L72 : (List AV × AH) → Prop) (Q : Post) : List AV → AH → Prop := fun j107 H108 =>
 Gd3 (sl j107 0) false (
 Do (afaddr 1 x87) fun x114 =>
 Do (aload H108 6 true x114) fun x115 =>
 Do (afaddr 1 x89) fun x116 =>
 Do (aload H108 6 true x116) fun x117 =>
Φ K.f16 [x115, x117] H108 fun x118 H119 =>
 Do (aun .not x118) fun x120 =>
 JoinP (f16_k2 Φ s71 L72 Q) [x120] H119) (
 JoinP (f16_k2 Φ s71 L72 Q) [(.bool true)] H108) (
 False)
def f16_k4 (Φ : Calls') (x87 x89 : AV) (s71 : List AV × AH) (L72 : (List AV × AH) → Prop) (Q : Post) : List AV → AH → Prop := fun j95 H96 =>
 Gd3 (sl j95 0) false (
 Do (afaddr 8 x87) fun x109 =>
 Do (aload H96 1 false x109) fun x110 =>
 Do (afaddr 8 x89) fun x111 =>
 Do (aload H96 1 false x111) fun x112 =>
 Do (abin .neq x110 x112) fun x113 =>
 JoinP (f16_k3 Φ x87 x89 s71 L72 Q) [x113] H96) (
 JoinP (f16_k3 Φ x87 x89 s71 L72 Q) [(.bool true)] H96) (
 False)
def f16_l5 (Φ : Calls') (x1 x3 : AV) (Q : Post) : (List AV × AH) → ((List AV × AH) → Prop) → Prop := fun s71 L72 =>
 Do (afaddr 3 x1) fun x73 =>
 Do (aload s71.2 1 false x73) fun x74 =>
 Do (alen false x74) fun x75 =>
 Do (abin .lss (sl s71.1 0) x75) fun x76 =>
 Gd x76 true (
 Do (afaddr 3 x1) fun x79 =>
 Do (aload s71.2 1 false x79) fun x80 =>
 Do (aiaddr none 9 x80 (sl s71.1 0)) fun x81 =>
 Do (aload s71.2 9 true x81) fun x82 =>
 Do (afaddr 3 x3) fun x83 =>
 Do (aload s71.2 1 false x83) fun x84 =>
 Do (aiaddr none 9 x84 (sl s71.1 0)) fun x85 =>
 Do (aload s71.2 9 true x85) fun x86 =>
 DoH (some (abox s71.2 true [.str [], .int .i64 0, .int .i64 0, .bool false, .lst .nil 0 [], .int .i64 0, .lst .nil 0 [], .bool false, .int .i64 0])) fun x87 H88 =>
(aload H88 1 false x79 = some x80) ∧
(aload H88 9 true x81 = some x82) ∧
(aload H88 1 false x83 = some x84) ∧
(aload H88 9 true x85 = some x86) ∧
(DoH (some (abox H88 true [.str [], .int .i64 0, .int .i64 0, .bool false, .lst .nil 0 [], .int .i64 0, .lst .nil 0 [], .bool false, .int .i64 0])) fun x89 H90 =>
(aload H90 1 false x79 = some x80) ∧
(aload H90 9 true x81 = some x82) ∧
(aload H90 1 false x83 = some x84) ∧
(aload H90 9 true x85 = some x86) ∧
(Do (astore H90 9 x87 x82) fun H91 =>
(aload H91 1 false x83 = some x84) ∧
(aload H91 9 true x85 = some x86) ∧
(Do (astore H91 9 x89 x86) fun H92 =>
 Do (afaddr 0 x87) fun x97 =>
 Do (aload H92 1 false x97) fun x98 =>
 Do (afaddr 0 x89) fun x99 =>
 Do (aload H92 1 false x99) fun x100 =>
 Do (abin .neq x98 x100) fun x101 =>
 Gd3 x101 false (
 Do (afaddr 7 x87) fun x102 =>
 Do (aload H92 1 false x102) fun x103 =>
 Do (afaddr 7 x89) fun x104 =>
 Do (aload H92 1 false x104) fun x105 =>
 Do (abeq true x103 x105) fun x106 =>
 JoinP (f16_k4 Φ x87 x89 s71 L72 Q) [x106] H92) (
 JoinP (f16_k4 Φ x87 x89 s71 L72 Q) [(.bool true)] H92) (
 False))))) (
 Q (.bool true) s71.2)
def f16_k6 (Φ : Calls') (x1 x3 : AV) (Q : Post) : List AV → AH → Prop := fun j51 H52 =>
 LoopP (f16_l5 Φ x1 x3 Q) ([(.int .i64 0)], H52)
def f16_l7 (Φ : Calls') (x1 x3 : AV) (Q : Post) : (List AV × AH) → ((List AV × AH) → Prop) → Prop := fun s53 L54 =>
 Do (afaddr 5 x1) fun x55 =>
 Do (aload s53.2 1 false x55) fun x56 =>
 Do (alen false x56) fun x57 =>
 Do (abin .lss (sl s53.1 0) x57) fun x58 =>
 Gd x58 true (
 Do (afaddr 5 x1) fun x59 =>
 Do (aload s53.2 1 false x59) fun x60 =>
 Do (aiaddr none 6 x60 (sl s53.1 0)) fun x61 =>
 Do (aload s53.2 6 true x61) fun x62 =>
 Do (afaddr 5 x3) fun x63 =>
 Do (aload s53.2 1 false x63) fun x64 =>
 Do (aiaddr none 6 x64 (sl s53.1 0)) fun x65 =>
 Do (aload s53.2 6 true x65) fun x66 =>
Φ K.f16 [x62, x66] s53.2 fun x67 H68 =>
 Do (aun .not x67) fun x69 =>
 Gd x69 true (
 Q (.bool false) H68) (
 Do (abin .add (sl s53.1 0) (.int .i64 1)) fun x70 =>
 L54 ([x70], H68))) (
 JoinP (f16_k6 Φ x1 x3 Q) [] s53.2)
def f16_k8 (Φ : Calls') (x1 x3 : AV) (Q : Post) : List AV → AH → Prop := fun j5 H6 =>
 LoopP (f16_l7 Φ x1 x3 Q) ([(.int .i64 0)], H6)
def f16_k9 (Φ : Calls') (x1 x3 : AV) (Q : Post) : List AV → AH → Prop := fun j7 H8 =>
 Gd (sl j7 0) true (
 Q (.bool false) H8) (
 JoinP (f16_k8 Φ x1 x3 Q) [] H8)
def f16_k10 (Φ : Calls') (x1 x3 : AV) (Q : Post) : List AV → AH → Prop := fun j35 H36 =>
 Gd3 (sl j35 0) false (
 Do (afaddr 5 x1) fun x44 =>
 Do (aload H36 1 false x44) fun x45 =>
 Do (alen false x45) fun x46 =>
 Do (afaddr 5 x3) fun x47 =>
 Do (aload H36 1 false x47) fun x48 =>
 Do (alen false x48) fun x49 =>
 Do (abin .neq x46 x49) fun x50 =>
 JoinP (f16_k9 Φ x1 x3 Q) [x50] H36) (
 JoinP (f16_k9 Φ x1 x3 Q) [(.bool true)] H36) (
 False)
def f16_k11 (Φ : Calls') (x1 x3 : AV) (Q : Post) : List AV → AH → Prop := fun j28 H29 =>
 Gd3 (sl j28 0) false (
 Do (afaddr 3 x1) fun x37 =>
 Do (aload H29 1 false x37) fun x38 =>
 Do (alen false x38) fun x39 =>
 Do (afaddr 3 x3) fun x40 =>
 Do (aload H29 1 false x40) fun x41 =>
 Do (alen false x41) fun x42 =>
 Do (abin .neq x39 x42) fun x43 =>
 JoinP (f16_k10 Φ x1 x3 Q) [x43] H29) (
 JoinP (f16_k10 Φ x1 x3 Q) [(.bool true)] H29) (
 False)
def f16_k12 (Φ : Calls') (x1 x3 : AV) (Q : Post) : List AV → AH → Prop := fun j21 H22 =>
 Gd3 (sl j21 0) false (
 Do (afaddr 4 x1) fun x30 =>
 Do (aload H22 1 false x30) fun x31 =>
 Do (afaddr 4 x3) fun x32 =>
 Do (aload H22 1 false x32) fun x33 =>
 Do (abin .neq x31 x33) fun x34 =>
 JoinP (f16_k11 Φ x1 x3 Q) [x34] H22) (
 JoinP (f16_k11 Φ x1 x3 Q) [(.bool true)] H22) (
 False)
def f16_k13 (Φ : Calls') (x1 x3 : AV) (Q : Post) : List AV → AH → Prop := fun j9 H10 =>
 Gd3 (sl j9 0) false (
 Do (afaddr 2 x1) fun x23 =>
 Do (aload H10 1 false x23) fun x24 =>
 Do (afaddr 2 x3) fun x25 =>
 Do (aload H10 1 false x25) fun x26 =>
 Do (abeq true x24 x26) fun x27 =>
 JoinP (f16_k12 Φ x1 x3 Q) [x27] H10) (
 JoinP (f16_k12 Φ x1 x3 Q) [(.bool true)] H10) (
 False)
def f16 (Φ : Calls') (a0 a1 : AV) (H : AH) (Q : Post) : Prop :=
 DoH (aboxv H false 6 a0) fun x1 H2 =>
 DoH (aboxv H2 false 6 a1) fun x3 H4 =>
 Do (afaddr 0 x1) fun x11 =>
 Do (aload H4 1 false x11) fun x12 =>
 Do (afaddr 0 x3) fun x13 =>
 Do (aload H4 1 false x13) fun x14 =>
 Do (abin .neq x12 x14) fun x15 =>
 Gd3 x15 false (
 Do (afaddr 1 x1) fun x16 =>
 Do (aload H4 1 false x16) fun x17 =>
 Do (afaddr 1 x3) fun x18 =>
 Do (aload H4 1 false x18) fun x19 =>
 Do (abin .neq x17 x19) fun x20 =>
 JoinP (f16_k13 Φ x1 x3 Q) [x20] H4) (
 JoinP (f16_k13 Φ x1 x3 Q) [(.bool true)] H4) (
 False)
noncomputable def ir_f16 : AFunc := decF Go.Proofs.YtbkkoplgicffgaaGreatDoor.rb.C ⟨16,[7,8],[[5],[6]],none,[],[]⟩
theorem eq_f16 (Φ : Calls') (a0 a1 : AV) (H : AH) (Q : Post) : fnE1 Φ ir_f16 [a0, a1] H Q = f16 Φ a0 a1 H Q := by kernel_rfl
def f18_k1 (Φ : Calls') (x1 x5 : AV) (Q : Post) : List AV → AH → Prop := fun j16 H17 =>
 Do (alen false x5) fun x25 =>
 Do (alen false x5) fun x26 =>
 Do (aslice 2 x5 none (some x25) (some x26)) fun x27 =>
 Do (abuild [.str [], .int .i64 0] [(1, 1, (sl j16 0))]) fun x28 =>
 DoH (abslice H17 false 2 1 [.str [], .int .i64 0] [(0, 2, x28)]) fun x29 H30 =>
 DoH (aappend H30 false 2 24 x27 x29) fun x31 H32 =>
 Do (abuild [.lst .nil 0 [], .int .i64 0, .int .i64 0] [(0, 1, x31)]) fun x33 =>
 DoH (aboxv H32 true 3 x33) fun x34 H35 =>
 Do (abuild [.int .i64 0, .int .i64 0] []) fun x36 =>
 Do (astore H35 2 x1 x36) fun H37 =>
 Do (aload H37 2 true x1) fun x38 =>
 Q (.tup [x34, x38]) H37
def f18 (Φ : Calls') (a0 : AV) (H : AH) (Q : Post) : Prop :=
 DoH (some (abox H true [.int .i64 0, .int .i64 0])) fun x1 H2 =>
Φ K.f42 [a0] H2 fun x3 H4 =>
 Do (aextract 0 x3) fun x5 =>
 Do (aextract 1 x3) fun x6 =>
 DoH (some (abox H4 true [.int .i64 0, .int .i64 0])) fun x7 H8 =>
 Do (astore H8 2 x7 x6) fun H9 =>
 Do (afaddr 1 x7) fun x10 =>
 Do (aload H9 1 false x10) fun x11 =>
 Do (abin .neq x11 (.int .i64 0)) fun x12 =>
 Gd x12 true (
 Do (aload H9 2 true x7) fun x13 =>
 Do (astore H9 2 x1 x13) fun H14 =>
 Do (aload H14 2 true x1) fun x15 =>
 Q (.tup [(.nilp), x15]) H14) (
 Do (alen false x5) fun x18 =>
 Do (abin .gtr x18 (.int .i64 0)) fun x19 =>
 Gd x19 true (
 Do (alen false x5) fun x20 =>
 Do (abin .sub x20 (.int .i64 1)) fun x21 =>
 Do (aiaddr none 2 x5 x21) fun x22 =>
 Do (afaddr 1 x22) fun x23 =>
 Do (aload H9 1 false x23) fun x24 =>
 JoinP (f18_k1 Φ x1 x5 Q) [x24] H9) (
 JoinP (f18_k1 Φ x1 x5 Q) [(.int .i64 0)] H9))
noncomputable def ir_f18 : AFunc := decF Go.Proofs.YtbkkoplgicffgaaGreatDoor.rb.C ⟨18,[3,5,37],[],none,[],[]⟩
theorem eq_f18 (Φ : Calls') (a0 : AV) (H : AH) (Q : Post) : fnE1 Φ ir_f18 [a0] H Q = f18 Φ a0 H Q := by kernel_rfl
def f19_k1 (Φ : Calls') (a0 : AV) (Q : Post) : List AV → AH → Prop := fun j1 H2 =>
Φ K.f45 [a0] H2 fun x10 H11 =>
 Q (.bool true) H11
def f19_k2 (Φ : Calls') (a0 : AV) (Q : Post) : List AV → AH → Prop := fun j3 H4 =>
 Gd (sl j3 0) true (
 Q (.bool false) H4) (
 JoinP (f19_k1 Φ a0 Q) [] H4)
def f19 (Φ : Calls') (a0 a1 : AV) (H : AH) (Q : Post) : Prop :=
Φ K.f43 [a0] H fun x5 H6 =>
 Gd3 x5 false (
Φ K.f44 [a0] H6 fun x7 H8 =>
 Do (abin .neq x7 a1) fun x9 =>
 JoinP (f19_k2 Φ a0 Q) [x9] H8) (
 JoinP (f19_k2 Φ a0 Q) [(.bool true)] H6) (
 False)
noncomputable def ir_f19 : AFunc := decF Go.Proofs.YtbkkoplgicffgaaGreatDoor.rb.C ⟨19,[],[],none,[],[]⟩
theorem eq_f19 (Φ : Calls') (a0 a1 : AV) (H : AH) (Q : Post) : fnE1 Φ ir_f19 [a0, a1] H Q = f19 Φ a0 a1 H Q := by kernel_rfl
def f20_k1 (Φ : Calls') (a0 : AV) (Q : Post) : List AV → AH → Prop := fun j1 H2 =>
Φ K.f45 [a0] H2 fun x20 H21 =>
 Q x20 H21
def f20_k2 (Φ : Calls') (a0 : AV) (Q : Post) : List AV → AH → Prop := fun j3 H4 =>
 Gd (sl j3 0) true (
Φ K.f48 [a0, (.int .i64 4)] H4 fun x18 H19 =>
 Q (.str []) H19) (
 JoinP (f20_k1 Φ a0 Q) [] H4)
def f20_k3 (Φ : Calls') (a0 : AV) (Q : Post) : List AV → AH → Prop := fun j5 H6 =>
 Gd3 (sl j5 0) false (
Φ K.f44 [a0] H6 fun x14 H15 =>
Φ K.f47 [x14] H15 fun x16 H17 =>
 JoinP (f20_k2 Φ a0 Q) [x16] H17) (
 JoinP (f20_k2 Φ a0 Q) [(.bool true)] H6) (
 False)
def f20 (Φ : Calls') (a0 : AV) (H : AH) (Q : Post) : Prop :=
Φ K.f43 [a0] H fun x7 H8 =>
 Gd3 x7 false (
Φ K.f44 [a0] H8 fun x9 H10 =>
Φ K.f46 [x9] H10 fun x11 H12 =>
 Do (aun .not x11) fun x13 =>
 JoinP (f20_k3 Φ a0 Q) [x13] H12) (
 JoinP (f20_k3 Φ a0 Q) [(.bool true)] H8) (
 False)
noncomputable def ir_f20 : AFunc := decF Go.Proofs.YtbkkoplgicffgaaGreatDoor.rb.C ⟨20,[],[],none,[],[]⟩
theorem eq_f20 (Φ : Calls') (a0 : AV) (H : AH) (Q : Post) : fnE1 Φ ir_f20 [a0] H Q = f20 Φ a0 H Q := by kernel_rfl
def f21_k1 (Φ : Calls') (a0 a1 x28 : AV) (L70 : (List AV × AH) → Prop) (Q : Post) : List AV → AH → Prop := fun j71 H72 =>
 Do (afaddr 3 x28) fun x81 =>
 Do (aload H72 1 false x81) fun x82 =>
Φ K.f53 [a0, a1] H72 fun x83 H84 =>
(aload H84 1 false x81 = some x82) ∧
(DoH (abslice H84 false 9 1 [.str [], .int .i64 0, .int .i64 0, .bool false, .lst .nil 0 [], .int .i64 0, .lst .nil 0 [], .bool false, .int .i64 0] [(0, 9, x83)]) fun x85 H86 =>
 DoH (aappend H86 false 9 112 x82 x85) fun x87 H88 =>
 Do (afaddr 3 x28) fun x89 =>
 Do (astore H88 1 x89 x87) fun H90 =>
 L70 ([], H90))
def f21_k2 (Φ : Calls') (x1 x28 : AV) (Q : Post) : List AV → AH → Prop := fun j65 H66 =>
 Do (aload H66 6 true x28) fun x91 =>
 Do (astore H66 6 x1 x91) fun H92 =>
 Do (aload H92 6 true x1) fun x93 =>
 Q x93 H92
def f21_k3 (Φ : Calls') (a0 a1 x1 x28 : AV) (L70 : (List AV × AH) → Prop) (Q : Post) : List AV → AH → Prop := fun j73 H74 =>
 Gd (sl j73 0) true (
 JoinP (f21_k1 Φ a0 a1 x28 L70 Q) [] H74) (
 JoinP (f21_k2 Φ x1 x28 Q) [] H74)
def f21_l4 (Φ : Calls') (a0 a1 x1 x28 : AV) (Q : Post) : (List AV × AH) → ((List AV × AH) → Prop) → Prop := fun s69 L70 =>
Φ K.f43 [a0] s69.2 fun x75 H76 =>
 Do (aun .not x75) fun x77 =>
 Gd3 x77 true (
Φ K.f19 [a0, (.str [125])] H76 fun x78 H79 =>
 Do (aun .not x78) fun x80 =>
 JoinP (f21_k3 Φ a0 a1 x1 x28 L70 Q) [x80] H79) (
 JoinP (f21_k3 Φ a0 a1 x1 x28 L70 Q) [(.bool false)] H76) (
 False)
def f21 (Φ : Calls') (a0 a1 : AV) (H : AH) (Q : Post) : Prop :=
 DoH (some (abox H true [.int .i64 0, .int .i64 0, .bool false, .lst .nil 0 [], .int .i64 0, .lst .nil 0 []])) fun x1 H2 =>
Φ K.f49 [a0, a1] H2 fun x3 H4 =>
 Do (aun .not x3) fun x5 =>
 Gd x5 true (
 Do (abuild [.int .i64 0, .int .i64 0, .bool false, .lst .nil 0 [], .int .i64 0, .lst .nil 0 []] []) fun x6 =>
 Do (astore H4 6 x1 x6) fun H7 =>
 Do (aload H7 6 true x1) fun x8 =>
 Q x8 H7) (
Φ K.f44 [a0] H4 fun x9 H10 =>
Φ K.f50 [x9] H10 fun x11 H12 =>
 Do (aextract 0 x11) fun x13 =>
 Do (aextract 1 x11) fun x14 =>
 DoH (some (abox H12 true [.int .i64 0, .int .i64 0, .bool false, .lst .nil 0 [], .int .i64 0, .lst .nil 0 []])) fun x15 H16 =>
 Do (astore H16 6 x15 x13) fun H17 =>
 Gd x14 true (
Φ K.f45 [a0] H17 fun x18 H19 =>
 Do (aload H19 6 true x15) fun x20 =>
 Do (astore H19 6 x1 x20) fun H21 =>
 Do (aload H21 6 true x1) fun x22 =>
 Q x22 H21) (
Φ K.f44 [a0] H17 fun x23 H24 =>
Φ K.f51 [x23] H24 fun x25 H26 =>
 Do (abuild [.int .i64 0, .int .i64 0, .bool false, .lst .nil 0 [], .int .i64 0, .lst .nil 0 []] [(0, 1, x25)]) fun x27 =>
 DoH (some (abox H26 true [.int .i64 0, .int .i64 0, .bool false, .lst .nil 0 [], .int .i64 0, .lst .nil 0 []])) fun x28 H29 =>
 Do (astore H29 6 x28 x27) fun H30 =>
 Do (afaddr 0 x28) fun x31 =>
 Do (aload H30 1 false x31) fun x32 =>
 Do (abin .eql x32 (.int .i64 0)) fun x33 =>
 Gd x33 true (
Φ K.f48 [a0, (.int .i64 4)] H30 fun x34 H35 =>
 Do (abuild [.int .i64 0, .int .i64 0, .bool false, .lst .nil 0 [], .int .i64 0, .lst .nil 0 []] []) fun x36 =>
 Do (astore H35 6 x1 x36) fun H37 =>
 Do (aload H37 6 true x1) fun x38 =>
 Q x38 H37) (
 Do (abin .eql x32 (.int .i64 5)) fun x39 =>
 Gd x39 true (
Φ K.f45 [a0] H30 fun x40 H41 =>
Φ K.f52 [a0, (.int .u64 1073741824)] H41 fun x42 H43 =>
 Do (aconv .i64 x42) fun x44 =>
 Do (afaddr 4 x28) fun x45 =>
 Do (astore H43 1 x45 x44) fun H46 =>
Φ K.f22 [a0, (.str [93])] H46 fun x47 H48 =>
 Do (abin .add a1 (.int .i64 1)) fun x49 =>
Φ K.f21 [a0, x49] H48 fun x50 H51 =>
 DoH (abslice H51 false 6 1 [.int .i64 0, .int .i64 0, .bool false, .lst .nil 0 [], .int .i64 0, .lst .nil 0 []] [(0, 6, x50)]) fun x52 H53 =>
 Do (afaddr 5 x28) fun x54 =>
 Do (astore H53 1 x54 x52) fun H55 =>
 Do (aload H55 6 true x28) fun x56 =>
 Do (astore H55 6 x1 x56) fun H57 =>
 Do (aload H57 6 true x1) fun x58 =>
 Q x58 H57) (
Φ K.f45 [a0] H30 fun x59 H60 =>
Φ K.f19 [a0, (.str [112, 97, 99, 107, 101, 100])] H60 fun x61 H62 =>
 Do (afaddr 2 x28) fun x63 =>
 Do (astore H62 1 x63 x61) fun H64 =>
Φ K.f22 [a0, (.str [123])] H64 fun x67 H68 =>
 LoopP (f21_l4 Φ a0 a1 x1 x28 Q) ([], H68)))))
noncomputable def ir_f21 : AFunc := decF Go.Proofs.YtbkkoplgicffgaaGreatDoor.rb.C ⟨21,[4,5,7],[[]],none,[],[]⟩
theorem eq_f21 (Φ : Calls') (a0 a1 : AV) (H : AH) (Q : Post) : fnE1 Φ ir_f21 [a0, a1] H Q = f21 Φ a0 a1 H Q := by kernel_rfl
def f22_k1 (Φ : Calls') (a0 : AV) (Q : Post) : List AV → AH → Prop := fun j1 H2 =>
 Gd (sl j1 0) true (
Φ K.f48 [a0, (.int .i64 4)] H2 fun x9 H10 =>
 Q (.tup []) H10) (
 Q (.tup []) H2)
def f22 (Φ : Calls') (a0 a1 : AV) (H : AH) (Q : Post) : Prop :=
Φ K.f43 [a0] H fun x3 H4 =>
 Do (aun .not x3) fun x5 =>
 Gd3 x5 true (
Φ K.f19 [a0, a1] H4 fun x6 H7 =>
 Do (aun .not x6) fun x8 =>
 JoinP (f22_k1 Φ a0 Q) [x8] H7) (
 JoinP (f22_k1 Φ a0 Q) [(.bool false)] H4) (
 False)
noncomputable def ir_f22 : AFunc := decF Go.Proofs.YtbkkoplgicffgaaGreatDoor.rb.C ⟨22,[],[],none,[],[]⟩
theorem eq_f22 (Φ : Calls') (a0 a1 : AV) (H : AH) (Q : Post) : fnE1 Φ ir_f22 [a0, a1] H Q = f22 Φ a0 a1 H Q := by kernel_rfl
def f23_k1 (Φ : Calls') (a0 a1 : AV) (s6 : List AV × AH) (L7 : (List AV × AH) → Prop) (Q : Post) : List AV → AH → Prop := fun j8 H9 =>
Φ K.f54 [a0, a1] H9 fun x18 H19 =>
 DoH (abslice H19 false 10 1 [.int .i64 0, .int .i64 0, .str [], .str [], .int .i64 0, .str [], .lst .nil 0 [], .lst .nil 0 [], .lst .nil 0 [], .lst .nil 0 []] [(0, 10, x18)]) fun x20 H21 =>
 DoH (aappend H21 false 10 168 (sl s6.1 0) x20) fun x22 H23 =>
 L7 ([x22], H23)
def f23_k2 (Φ : Calls') (a0 a1 : AV) (s6 : List AV × AH) (L7 : (List AV × AH) → Prop) (Q : Post) : List AV → AH → Prop := fun j10 H11 =>
 Gd (sl j10 0) true (
 JoinP (f23_k1 Φ a0 a1 s6 L7 Q) [] H11) (
 Q (sl s6.1 0) H11)
def f23_l3 (Φ : Calls') (a0 a1 : AV) (Q : Post) : (List AV × AH) → ((List AV × AH) → Prop) → Prop := fun s6 L7 =>
Φ K.f43 [a0] s6.2 fun x12 H13 =>
 Do (aun .not x12) fun x14 =>
 Gd3 x14 true (
Φ K.f19 [a0, (.str [125])] H13 fun x15 H16 =>
 Do (aun .not x15) fun x17 =>
 JoinP (f23_k2 Φ a0 a1 s6 L7 Q) [x17] H16) (
 JoinP (f23_k2 Φ a0 a1 s6 L7 Q) [(.bool false)] H13) (
 False)
def f23 (Φ : Calls') (a0 a1 : AV) (H : AH) (Q : Post) : Prop :=
Φ K.f49 [a0, a1] H fun x1 H2 =>
 Do (aun .not x1) fun x3 =>
 Gd x3 true (
 Q (.lst .nil 0 []) H2) (
Φ K.f22 [a0, (.str [123])] H2 fun x4 H5 =>
 LoopP (f23_l3 Φ a0 a1 Q) ([(.lst .nil 0 [])], H5))
noncomputable def ir_f23 : AFunc := decF Go.Proofs.YtbkkoplgicffgaaGreatDoor.rb.C ⟨23,[],[[5]],none,[],[]⟩
def f24_k1 (Φ : Calls') (a0 x1 : AV) (Q : Post) : List AV → AH → Prop := fun j3 H4 =>
 Do (anilck a0) fun x17 =>
 Do (afaddr 1 x17) fun x18 =>
 Do (aload H4 2 true x18) fun x19 =>
 Do (astore H4 2 x1 x19) fun H20 =>
 Do (aload H20 2 true x1) fun x21 =>
 Q x21 H20
def f24_k2 (Φ : Calls') (a0 x1 : AV) (Q : Post) : List AV → AH → Prop := fun j5 H6 =>
 Gd (sl j5 0) true (
Φ K.f48 [a0, (.int .i64 4)] H6 fun x15 H16 =>
 JoinP (f24_k1 Φ a0 x1 Q) [] H16) (
 JoinP (f24_k1 Φ a0 x1 Q) [] H6)
def f24 (Φ : Calls') (a0 : AV) (H : AH) (Q : Post) : Prop :=
 DoH (some (abox H true [.int .i64 0, .int .i64 0])) fun x1 H2 =>
Φ K.f43 [a0] H2 fun x7 H8 =>
 Do (aun .not x7) fun x9 =>
 Gd3 x9 true (
 Do (anilck a0) fun x10 =>
 Do (afaddr 0 x10) fun x11 =>
 Do (aload H8 1 false x11) fun x12 =>
 Do (alen false x12) fun x13 =>
 Do (abin .gtr x13 (.int .i64 1)) fun x14 =>
 JoinP (f24_k2 Φ a0 x1 Q) [x14] H8) (
 JoinP (f24_k2 Φ a0 x1 Q) [(.bool false)] H8) (
 False)
noncomputable def ir_f24 : AFunc := decF Go.Proofs.YtbkkoplgicffgaaGreatDoor.rb.C ⟨24,[2],[],none,[],[]⟩
theorem eq_f24 (Φ : Calls') (a0 : AV) (H : AH) (Q : Post) : fnE1 Φ ir_f24 [a0] H Q = f24 Φ a0 H Q := by kernel_rfl
def f26_k1 (Φ : Calls') (s2 : List AV × AH) (L3 : (List AV × AH) → Prop) (Q : Post) : List AV → AH → Prop := fun j5 H6 =>
 Do (abin .add (sl s2.1 0) (.int .i64 1)) fun x29 =>
 L3 ([x29], H6)
def f26_k2 (Φ : Calls') (a0 : AV) (s2 : List AV × AH) (L3 : (List AV × AH) → Prop) (Q : Post) : List AV → AH → Prop := fun j18 H19 =>
 Gd (sl j18 0) true (
 Do (anilck a0) fun x25 =>
 Do (afaddr 0 x25) fun x26 =>
Φ K.f58 [x26, (.str [10])] H19 fun x27 H28 =>
 JoinP (f26_k1 Φ s2 L3 Q) [] H28) (
 Do (anilck a0) fun x30 =>
 Do (afaddr 0 x30) fun x31 =>
Φ K.f58 [x31, (.str [32])] H19 fun x32 H33 =>
 JoinP (f26_k1 Φ s2 L3 Q) [] H33)
def f26_k3 (Φ : Calls') (a0 x8 : AV) (s2 : List AV × AH) (L3 : (List AV × AH) → Prop) (Q : Post) : List AV → AH → Prop := fun j20 H21 =>
 Gd3 (sl j20 0) false (
 Do (abin .eql x8 (.str [125])) fun x24 =>
 JoinP (f26_k2 Φ a0 s2 L3 Q) [x24] H21) (
 JoinP (f26_k2 Φ a0 s2 L3 Q) [(.bool true)] H21) (
 False)
def f26_l4 (Φ : Calls') (a0 a1 x1 : AV) (Q : Post) : (List AV × AH) → ((List AV × AH) → Prop) → Prop := fun s2 L3 =>
 Do (abin .lss (sl s2.1 0) x1) fun x4 =>
 Gd x4 true (
 Do (aiaddr none 1 a1 (sl s2.1 0)) fun x7 =>
 Do (aload s2.2 1 false x7) fun x8 =>
 Do (anilck a0) fun x9 =>
 Do (afaddr 0 x9) fun x10 =>
Φ K.f57 [x10] s2.2 fun x11 H12 =>
 Do (abin .gtr x11 (.int .i64 4194304)) fun x13 =>
 Gd x13 true (
 Q (.tup []) H12) (
 Do (anilck a0) fun x14 =>
 Do (afaddr 0 x14) fun x15 =>
Φ K.f58 [x15, x8] H12 fun x16 H17 =>
 Do (abin .eql x8 (.str [59])) fun x22 =>
 Gd3 x22 false (
 Do (abin .eql x8 (.str [123])) fun x23 =>
 JoinP (f26_k3 Φ a0 x8 s2 L3 Q) [x23] H17) (
 JoinP (f26_k3 Φ a0 x8 s2 L3 Q) [(.bool true)] H17) (
 False))) (
 Q (.tup []) s2.2)
def f26 (Φ : Calls') (a0 a1 : AV) (H : AH) (Q : Post) : Prop :=
 Do (alen false a1) fun x1 =>
 LoopP (f26_l4 Φ a0 a1 x1 Q) ([(.int .i64 0)], H)
noncomputable def ir_f26 : AFunc := decF Go.Proofs.YtbkkoplgicffgaaGreatDoor.rb.C ⟨26,[],[[8]],none,[],[]⟩
theorem eq_f26 (Φ : Calls') (a0 a1 : AV) (H : AH) (Q : Post) : fnE1 Φ ir_f26 [a0, a1] H Q = f26 Φ a0 a1 H Q := by kernel_rfl
def f27_k1 (Φ : Calls') (a0 x1 : AV) (Q : Post) : List AV → AH → Prop := fun j73 H74 =>
 DoH (abslice H74 false 1 1 [.str []] [(0, 1, (.str [123]))]) fun x81 H82 =>
Φ K.f26 [a0, x81] H82 fun x83 H84 =>
 Do (afaddr 3 x1) fun x85 =>
 Do (aload H84 1 false x85) fun x86 =>
Φ K.f62 [x86, (.fn (K.f63 + 1048576) [a0])] H84 fun x87 H88 =>
 DoH (abslice H88 false 1 1 [.str []] [(0, 1, (.str [125]))]) fun x89 H90 =>
Φ K.f26 [a0, x89] H90 fun x91 H92 =>
 Q (.tup []) H92
def f27_k2 (Φ : Calls') (a0 x1 : AV) (Q : Post) : List AV → AH → Prop := fun j54 H55 =>
 Gd (sl j54 0) true (
 Do (afaddr 0 x1) fun x62 =>
 Do (aload H55 1 false x62) fun x63 =>
 Do (abin .sub x63 (.int .i64 3)) fun x64 =>
 DoH (abslice H55 false 1 2 [.str []] [(0, 1, (.str [115, 116, 114, 117, 99, 116])), (1, 1, (.str [117, 110, 105, 111, 110]))]) fun x65 H66 =>
Φ K.f61 [x64, x65] H66 fun x67 H68 =>
 DoH (abslice H68 false 1 1 [.str []] [(0, 1, x67)]) fun x69 H70 =>
Φ K.f26 [a0, x69] H70 fun x71 H72 =>
 Do (afaddr 2 x1) fun x75 =>
 Do (aload H72 1 false x75) fun x76 =>
 Gd x76 true (
 DoH (abslice H72 false 1 1 [.str []] [(0, 1, (.str [112, 97, 99, 107, 101, 100]))]) fun x77 H78 =>
Φ K.f26 [a0, x77] H78 fun x79 H80 =>
 JoinP (f27_k1 Φ a0 x1 Q) [] H80) (
 JoinP (f27_k1 Φ a0 x1 Q) [] H72)) (
 Q (.tup []) H55)
def f27_k3 (Φ : Calls') (a0 x1 : AV) (Q : Post) : List AV → AH → Prop := fun j31 H32 =>
 Gd (sl j31 0) true (
 Do (afaddr 4 x1) fun x40 =>
 Do (aload H32 1 false x40) fun x41 =>
Φ K.f60 [x41] H32 fun x42 H43 =>
 DoH (abslice H43 false 1 3 [.str []] [(0, 1, (.str [91])), (1, 1, x42), (2, 1, (.str [93]))]) fun x44 H45 =>
Φ K.f26 [a0, x44] H45 fun x46 H47 =>
 Do (afaddr 5 x1) fun x48 =>
 Do (aload H47 1 false x48) fun x49 =>
 Do (aiaddr none 6 x49 (.int .i64 0)) fun x50 =>
 Do (aload H47 6 true x50) fun x51 =>
Φ K.f27 [a0, x51] H47 fun x52 H53 =>
 Q (.tup []) H53) (
 Do (afaddr 0 x1) fun x56 =>
 Do (aload H32 1 false x56) fun x57 =>
 Do (abin .eql x57 (.int .i64 3)) fun x58 =>
 Gd3 x58 false (
 Do (afaddr 0 x1) fun x59 =>
 Do (aload H32 1 false x59) fun x60 =>
 Do (abin .eql x60 (.int .i64 4)) fun x61 =>
 JoinP (f27_k2 Φ a0 x1 Q) [x61] H32) (
 JoinP (f27_k2 Φ a0 x1 Q) [(.bool true)] H32) (
 False))
def f27 (Φ : Calls') (a0 a1 : AV) (H : AH) (Q : Post) : Prop :=
 DoH (aboxv H false 6 a1) fun x1 H2 =>
Φ K.f59 [a0] H2 fun x3 H4 =>
 Gd x3 true (
 Q (.tup []) H4) (
 Do (afaddr 0 x1) fun x5 =>
 Do (aload H4 1 false x5) fun x6 =>
 Do (abin .eql x6 (.int .i64 1)) fun x7 =>
 Gd x7 true (
 Do (afaddr 1 x1) fun x8 =>
 Do (aload H4 1 false x8) fun x9 =>
 Do (abin .mul (.int .i64 8) x9) fun x10 =>
Φ K.f60 [x10] H4 fun x11 H12 =>
 Do (abin .add (.str [117]) x11) fun x13 =>
 DoH (abslice H12 false 1 1 [.str []] [(0, 1, x13)]) fun x14 H15 =>
Φ K.f26 [a0, x14] H15 fun x16 H17 =>
 Q (.tup []) H17) (
 Do (afaddr 0 x1) fun x18 =>
 Do (aload H4 1 false x18) fun x19 =>
 Do (abin .eql x19 (.int .i64 2)) fun x20 =>
 Gd x20 true (
 Do (afaddr 1 x1) fun x21 =>
 Do (aload H4 1 false x21) fun x22 =>
 Do (abin .mul (.int .i64 8) x22) fun x23 =>
Φ K.f60 [x23] H4 fun x24 H25 =>
 Do (abin .add (.str [97]) x24) fun x26 =>
 DoH (abslice H25 false 1 1 [.str []] [(0, 1, x26)]) fun x27 H28 =>
Φ K.f26 [a0, x27] H28 fun x29 H30 =>
 Q (.tup []) H30) (
 Do (afaddr 0 x1) fun x33 =>
 Do (aload H4 1 false x33) fun x34 =>
 Do (abin .eql x34 (.int .i64 5)) fun x35 =>
 Gd3 x35 true (
 Do (afaddr 5 x1) fun x36 =>
 Do (aload H4 1 false x36) fun x37 =>
 Do (alen false x37) fun x38 =>
 Do (abin .eql x38 (.int .i64 1)) fun x39 =>
 JoinP (f27_k3 Φ a0 x1 Q) [x39] H4) (
 JoinP (f27_k3 Φ a0 x1 Q) [(.bool false)] H4) (
 False))))
noncomputable def ir_f27 : AFunc := decF Go.Proofs.YtbkkoplgicffgaaGreatDoor.rb.C ⟨27,[],[],none,[],[]⟩
theorem eq_f27 (Φ : Calls') (a0 a1 : AV) (H : AH) (Q : Post) : fnE1 Φ ir_f27 [a0, a1] H Q = f27 Φ a0 a1 H Q := by kernel_rfl
def f28 (Φ : Calls') (a0 a1 : AV) (H : AH) (Q : Post) : Prop :=
 DoH (abslice H false 1 1 [.str []] [(0, 1, (.str [123]))]) fun x1 H2 =>
Φ K.f26 [a0, x1] H2 fun x3 H4 =>
Φ K.f64 [a1, (.fn (K.f65 + 1048576) [a0])] H4 fun x5 H6 =>
 DoH (abslice H6 false 1 1 [.str []] [(0, 1, (.str [125]))]) fun x7 H8 =>
Φ K.f26 [a0, x7] H8 fun x9 H10 =>
 Q (.tup []) H10
noncomputable def ir_f28 : AFunc := decF Go.Proofs.YtbkkoplgicffgaaGreatDoor.rb.C ⟨28,[],[],none,[],[]⟩
def f30_k1 (Φ : Calls') (s7 : List AV × AH) (L8 : (List AV × AH) → Prop) (Q : Post) : List AV → AH → Prop := fun j9 H10 =>
 Do (abin .add (sl s7.1 0) (.int .i64 1)) fun x28 =>
 L8 ([x28], H10)
def f30_k2 (Φ : Calls') (Q : Post) : List AV → AH → Prop := fun j5 H6 =>
 Do (abin .gtr (sl j5 0) (.int .i64 16)) fun x29 =>
 Gd x29 true (
 Q (.int .i64 0) H6) (
 Q (sl j5 0) H6)
def f30_k3 (Φ : Calls') (s7 : List AV × AH) (L8 : (List AV × AH) → Prop) (Q : Post) : List AV → AH → Prop := fun j11 H12 =>
 Gd (sl j11 0) true (
 JoinP (f30_k1 Φ s7 L8 Q) [] H12) (
 JoinP (f30_k2 Φ Q) [(sl s7.1 0)] H12)
def f30_k4 (Φ : Calls') (a0 a1 : AV) (s7 : List AV × AH) (L8 : (List AV × AH) → Prop) (Q : Post) : List AV → AH → Prop := fun j13 H14 =>
 Gd3 (sl j13 0) true (
 Do (abin .add a1 (sl s7.1 0)) fun x23 =>
 Do (aidxs a0 x23) fun x24 =>
Φ K.f66 [x24] H14 fun x25 H26 =>
 Do (abin .leq x25 (.int .i64 3)) fun x27 =>
 JoinP (f30_k3 Φ s7 L8 Q) [x27] H26) (
 JoinP (f30_k3 Φ s7 L8 Q) [(.bool false)] H14) (
 False)
def f30_l5 (Φ : Calls') (a0 a1 : AV) (Q : Post) : (List AV × AH) → ((List AV × AH) → Prop) → Prop := fun s7 L8 =>
 Do (abin .add a1 (sl s7.1 0)) fun x15 =>
 Do (alen true a0) fun x16 =>
 Do (abin .lss x15 x16) fun x17 =>
 Gd3 x17 true (
 Do (abin .add a1 (sl s7.1 0)) fun x18 =>
 Do (aidxs a0 x18) fun x19 =>
Φ K.f66 [x19] s7.2 fun x20 H21 =>
 Do (abin .geq x20 (.int .i64 1)) fun x22 =>
 JoinP (f30_k4 Φ a0 a1 s7 L8 Q) [x22] H21) (
 JoinP (f30_k4 Φ a0 a1 s7 L8 Q) [(.bool false)] s7.2) (
 False)
def f30_k6 (Φ : Calls') (s33 : List AV × AH) (L34 : (List AV × AH) → Prop) (Q : Post) : List AV → AH → Prop := fun j35 H36 =>
 Do (abin .add (sl s33.1 0) (.int .i64 1)) fun x47 =>
 L34 ([x47], H36)
def f30_k7 (Φ : Calls') (j31 : List AV) (Q : Post) : List AV → AH → Prop := fun j48 H49 =>
 Gd (sl j48 0) true (
 Q (.int .i64 0) H49) (
 Q (sl j31 0) H49)
def f30_k8 (Φ : Calls') (a0 a1 : AV) (j31 : List AV) (Q : Post) : List AV → AH → Prop := fun j54 H55 =>
 Gd3 (sl j54 0) false (
 Do (abin .add a1 (sl j31 0)) fun x60 =>
 Do (alen true a0) fun x61 =>
 Do (abin .lss x60 x61) fun x62 =>
 Gd3 x62 true (
 Do (abin .add a1 (sl j31 0)) fun x63 =>
 Do (aidxs a0 x63) fun x64 =>
Φ K.f66 [x64] H55 fun x65 H66 =>
 Do (abin .eql x65 (.int .i64 1)) fun x67 =>
 Gd3 x67 false (
 Do (abin .add a1 (sl j31 0)) fun x68 =>
 Do (aidxs a0 x68) fun x69 =>
Φ K.f66 [x69] H66 fun x70 H71 =>
 Do (abin .eql x70 (.int .i64 3)) fun x72 =>
 JoinP (f30_k7 Φ j31 Q) [x72] H71) (
 JoinP (f30_k7 Φ j31 Q) [(.bool true)] H66) (
 False)) (
 JoinP (f30_k7 Φ j31 Q) [(.bool false)] H55) (
 False)) (
 JoinP (f30_k7 Φ j31 Q) [(.bool true)] H55) (
 False)
def f30_k9 (Φ : Calls') (a0 a1 : AV) (j31 : List AV) (Q : Post) : List AV → AH → Prop := fun j50 H51 =>
 Gd3 (sl j50 0) false (
 Do (abin .add a1 (sl j31 0)) fun x56 =>
 Do (asslice a0 (some a1) (some x56)) fun x57 =>
Φ K.f67 [x57] H51 fun x58 H59 =>
 JoinP (f30_k8 Φ a0 a1 j31 Q) [x58] H59) (
 JoinP (f30_k8 Φ a0 a1 j31 Q) [(.bool true)] H51) (
 False)
def f30_k10 (Φ : Calls') (a0 a1 x1 : AV) (Q : Post) : List AV → AH → Prop := fun j31 H32 =>
 Do (abin .gtr (sl j31 0) (.int .i64 1)) fun x52 =>
 Gd3 x52 true (
 Do (abin .eql x1 (.int .u8 48)) fun x53 =>
 JoinP (f30_k9 Φ a0 a1 j31 Q) [x53] H32) (
 JoinP (f30_k9 Φ a0 a1 j31 Q) [(.bool false)] H32) (
 False)
def f30_k11 (Φ : Calls') (a0 a1 x1 : AV) (s33 : List AV × AH) (L34 : (List AV × AH) → Prop) (Q : Post) : List AV → AH → Prop := fun j37 H38 =>
 Gd (sl j37 0) true (
 JoinP (f30_k6 Φ s33 L34 Q) [] H38) (
 JoinP (f30_k10 Φ a0 a1 x1 Q) [(sl s33.1 0)] H38)
def f30_l12 (Φ : Calls') (a0 a1 x1 : AV) (Q : Post) : (List AV × AH) → ((List AV × AH) → Prop) → Prop := fun s33 L34 =>
 Do (abin .add a1 (sl s33.1 0)) fun x39 =>
 Do (alen true a0) fun x40 =>
 Do (abin .lss x39 x40) fun x41 =>
 Gd3 x41 true (
 Do (abin .add a1 (sl s33.1 0)) fun x42 =>
 Do (aidxs a0 x42) fun x43 =>
Φ K.f66 [x43] s33.2 fun x44 H45 =>
 Do (abin .eql x44 (.int .i64 2)) fun x46 =>
 JoinP (f30_k11 Φ a0 a1 x1 s33 L34 Q) [x46] H45) (
 JoinP (f30_k11 Φ a0 a1 x1 s33 L34 Q) [(.bool false)] s33.2) (
 False)
def f30_k13 (Φ : Calls') (x1 : AV) (Q : Post) : List AV → AH → Prop := fun j74 H75 =>
 Do (abin .eql x1 (.int .u8 33)) fun x84 =>
 Gd x84 true (
 Q (.int .i64 0) H75) (
 Q (.int .i64 1) H75)
def f30_k14 (Φ : Calls') (x1 : AV) (Q : Post) : List AV → AH → Prop := fun j76 H77 =>
 Gd (sl j76 0) true (
 Q (.int .i64 2) H77) (
 JoinP (f30_k13 Φ x1 Q) [] H77)
def f30_k15 (Φ : Calls') (x1 : AV) (Q : Post) : List AV → AH → Prop := fun j86 H87 =>
 Do (abin .eql x1 (.int .u8 62)) fun x96 =>
 Gd x96 true (
 Q (.int .i64 0) H87) (
 Q (.int .i64 1) H87)
def f30_k16 (Φ : Calls') (x1 : AV) (Q : Post) : List AV → AH → Prop := fun j88 H89 =>
 Gd (sl j88 0) true (
 Q (.int .i64 2) H89) (
 JoinP (f30_k15 Φ x1 Q) [] H89)
def f30 (Φ : Calls') (a0 a1 : AV) (H : AH) (Q : Post) : Prop :=
 Do (aidxs a0 a1) fun x1 =>
Φ K.f66 [x1] H fun x2 H3 =>
 Do (abin .eql x2 (.int .i64 1)) fun x4 =>
 Gd x4 true (
 LoopP (f30_l5 Φ a0 a1 Q) ([(.int .i64 1)], H3)) (
 Do (abin .eql x2 (.int .i64 2)) fun x30 =>
 Gd x30 true (
 LoopP (f30_l12 Φ a0 a1 x1 Q) ([(.int .i64 1)], H3)) (
 Do (abin .eql x2 (.int .i64 5)) fun x73 =>
 Gd x73 true (
 Do (abin .add a1 (.int .i64 1)) fun x78 =>
 Do (alen true a0) fun x79 =>
 Do (abin .lss x78 x79) fun x80 =>
 Gd3 x80 true (
 Do (abin .add a1 (.int .i64 1)) fun x81 =>
 Do (aidxs a0 x81) fun x82 =>
 Do (abin .eql x82 (.int .u8 61)) fun x83 =>
 JoinP (f30_k14 Φ x1 Q) [x83] H3) (
 JoinP (f30_k14 Φ x1 Q) [(.bool false)] H3) (
 False)) (
 Do (abin .eql x2 (.int .i64 6)) fun x85 =>
 Gd x85 true (
 Do (abin .add a1 (.int .i64 1)) fun x90 =>
 Do (alen true a0) fun x91 =>
 Do (abin .lss x90 x91) fun x92 =>
 Gd3 x92 true (
 Do (abin .add a1 (.int .i64 1)) fun x93 =>
 Do (aidxs a0 x93) fun x94 =>
 Do (abin .eql x94 x1) fun x95 =>
 JoinP (f30_k16 Φ x1 Q) [x95] H3) (
 JoinP (f30_k16 Φ x1 Q) [(.bool false)] H3) (
 False)) (
 Do (abin .eql x2 (.int .i64 0)) fun x97 =>
 Gd x97 true (
 Q (.int .i64 0) H3) (
 Q (.int .i64 1) H3)))))
noncomputable def ir_f30 : AFunc := decF Go.Proofs.YtbkkoplgicffgaaGreatDoor.rb.C ⟨30,[],[[6],[6]],none,[],[]⟩
def f31_l1 (Φ : Calls') (a0 a1 a2 x4 : AV) (Q : Post) : (List AV × AH) → ((List AV × AH) → Prop) → Prop := fun s5 L6 =>
 Do (abin .lss (sl s5.1 0) x4) fun x7 =>
 Gd x7 true (
 Do (aiaddr none 7 a0 (sl s5.1 0)) fun x8 =>
 Do (aload s5.2 7 true x8) fun x9 =>
 DoH (some (abox s5.2 true [.str [], .int .i64 0, .int .i64 0, .bool false, .lst .nil 0 [], .int .i64 0, .lst .nil 0 []])) fun x10 H11 =>
 Do (astore H11 7 x10 x9) fun H12 =>
 Do (aiaddr none 7 a1 (sl s5.1 0)) fun x13 =>
 Do (aload H12 7 true x13) fun x14 =>
 DoH (some (abox H12 true [.str [], .int .i64 0, .int .i64 0, .bool false, .lst .nil 0 [], .int .i64 0, .lst .nil 0 []])) fun x15 H16 =>
 Do (astore H16 7 x15 x14) fun H17 =>
 Do (aload H17 7 true x10) fun x18 =>
 Do (aload H17 7 true x15) fun x19 =>
∃ k22 c23, a2 = .fn k22 c23 ∧ Φ (fkey k22) (fargs k22 [x18, x19] c23) H17 fun x20 H21 =>
 Do (aun .not x20) fun x24 =>
 Gd x24 true (
 Q (.bool false) H21) (
 Do (abin .add (sl s5.1 0) (.int .i64 1)) fun x25 =>
 L6 ([x25], H21))) (
 Q (.bool true) s5.2)
def f31 (Φ : Calls') (a0 a1 a2 : AV) (H : AH) (Q : Post) : Prop :=
 Do (alen false a0) fun x1 =>
 Do (alen false a1) fun x2 =>
 Do (abin .neq x1 x2) fun x3 =>
 Gd x3 true (
 Q (.bool false) H) (
 Do (alen false a0) fun x4 =>
 LoopP (f31_l1 Φ a0 a1 a2 x4 Q) ([(.int .i64 0)], H))
noncomputable def ir_f31 : AFunc := decF Go.Proofs.YtbkkoplgicffgaaGreatDoor.rb.C ⟨31,[8,9],[[17]],none,[],[]⟩
def f32 (Φ : Calls') (a0 a1 : AV) (H : AH) (Q : Post) : Prop :=
 DoH (aboxv H false 7 a0) fun x1 H2 =>
 DoH (aboxv H2 false 7 a1) fun x3 H4 =>
 Do (afaddr 0 x1) fun x5 =>
 Do (aload H4 1 false x5) fun x6 =>
 Do (afaddr 0 x3) fun x7 =>
 Do (aload H4 1 false x7) fun x8 =>
 Do (abin .eql x6 x8) fun x9 =>
 Gd3 x9 true (
 Do (afaddr 1 x1) fun x10 =>
 Do (aload H4 6 true x10) fun x11 =>
 Do (afaddr 1 x3) fun x12 =>
 Do (aload H4 6 true x12) fun x13 =>
Φ K.f33 [x11, x13] H4 fun x14 H15 =>
 Q x14 H15) (
 Q (.bool false) H4) (
 False)
noncomputable def ir_f32 : AFunc := decF Go.Proofs.YtbkkoplgicffgaaGreatDoor.rb.C ⟨32,[],[],none,[],[]⟩
def f33_k1 (Φ : Calls') (x1 x3 : AV) (Q : Post) : List AV → AH → Prop := fun j31 H32 =>
 Gd3 (sl j31 0) true (
 Do (afaddr 3 x1) fun x39 =>
 Do (aload H32 1 false x39) fun x40 =>
 Do (afaddr 3 x3) fun x41 =>
 Do (aload H32 1 false x41) fun x42 =>
Φ K.f69 [x40, x42, (.fn K.f70 [])] H32 fun x43 H44 =>
 Q x43 H44) (
 Q (.bool false) H32) (
 False)
def f33_k2 (Φ : Calls') (x1 x3 : AV) (Q : Post) : List AV → AH → Prop := fun j24 H25 =>
 Gd3 (sl j24 0) true (
 Do (afaddr 5 x1) fun x33 =>
 Do (aload H25 1 false x33) fun x34 =>
 Do (afaddr 5 x3) fun x35 =>
 Do (aload H25 1 false x35) fun x36 =>
Φ K.f68 [x34, x36, (.fn K.f33 [])] H25 fun x37 H38 =>
 JoinP (f33_k1 Φ x1 x3 Q) [x37] H38) (
 JoinP (f33_k1 Φ x1 x3 Q) [(.bool false)] H25) (
 False)
def f33_k3 (Φ : Calls') (x1 x3 : AV) (Q : Post) : List AV → AH → Prop := fun j17 H18 =>
 Gd3 (sl j17 0) true (
 Do (afaddr 4 x1) fun x26 =>
 Do (aload H18 1 false x26) fun x27 =>
 Do (afaddr 4 x3) fun x28 =>
 Do (aload H18 1 false x28) fun x29 =>
 Do (abin .eql x27 x29) fun x30 =>
 JoinP (f33_k2 Φ x1 x3 Q) [x30] H18) (
 JoinP (f33_k2 Φ x1 x3 Q) [(.bool false)] H18) (
 False)
def f33_k4 (Φ : Calls') (x1 x3 : AV) (Q : Post) : List AV → AH → Prop := fun j5 H6 =>
 Gd3 (sl j5 0) true (
 Do (afaddr 2 x1) fun x19 =>
 Do (aload H6 1 false x19) fun x20 =>
 Do (afaddr 2 x3) fun x21 =>
 Do (aload H6 1 false x21) fun x22 =>
 Do (abeq false x20 x22) fun x23 =>
 JoinP (f33_k3 Φ x1 x3 Q) [x23] H6) (
 JoinP (f33_k3 Φ x1 x3 Q) [(.bool false)] H6) (
 False)
def f33 (Φ : Calls') (a0 a1 : AV) (H : AH) (Q : Post) : Prop :=
 DoH (aboxv H false 6 a0) fun x1 H2 =>
 DoH (aboxv H2 false 6 a1) fun x3 H4 =>
 Do (afaddr 0 x1) fun x7 =>
 Do (aload H4 1 false x7) fun x8 =>
 Do (afaddr 0 x3) fun x9 =>
 Do (aload H4 1 false x9) fun x10 =>
 Do (abin .eql x8 x10) fun x11 =>
 Gd3 x11 true (
 Do (afaddr 1 x1) fun x12 =>
 Do (aload H4 1 false x12) fun x13 =>
 Do (afaddr 1 x3) fun x14 =>
 Do (aload H4 1 false x14) fun x15 =>
 Do (abin .eql x13 x15) fun x16 =>
 JoinP (f33_k4 Φ x1 x3 Q) [x16] H4) (
 JoinP (f33_k4 Φ x1 x3 Q) [(.bool false)] H4) (
 False)
noncomputable def ir_f33 : AFunc := decF Go.Proofs.YtbkkoplgicffgaaGreatDoor.rb.C ⟨33,[],[],none,[],[]⟩
theorem eq_f33 (Φ : Calls') (a0 a1 : AV) (H : AH) (Q : Post) : fnE1 Φ ir_f33 [a0, a1] H Q = f33 Φ a0 a1 H Q := by kernel_rfl
def f34_l1 (Φ : Calls') (a0 a1 a2 x4 : AV) (Q : Post) : (List AV × AH) → ((List AV × AH) → Prop) → Prop := fun s5 L6 =>
 Do (abin .lss (sl s5.1 0) x4) fun x7 =>
 Gd x7 true (
 Do (aiaddr none 1 a0 (sl s5.1 0)) fun x8 =>
 Do (aload s5.2 1 false x8) fun x9 =>
 Do (aiaddr none 1 a1 (sl s5.1 0)) fun x10 =>
 Do (aload s5.2 1 false x10) fun x11 =>
∃ k14 c15, a2 = .fn k14 c15 ∧ Φ (fkey k14) (fargs k14 [x9, x11] c15) s5.2 fun x12 H13 =>
 Do (aun .not x12) fun x16 =>
 Gd x16 true (
 Q (.bool false) H13) (
 Do (abin .add (sl s5.1 0) (.int .i64 1)) fun x17 =>
 L6 ([x17], H13))) (
 Q (.bool true) s5.2)
def f34 (Φ : Calls') (a0 a1 a2 : AV) (H : AH) (Q : Post) : Prop :=
 Do (alen false a0) fun x1 =>
 Do (alen false a1) fun x2 =>
 Do (abin .neq x1 x2) fun x3 =>
 Gd x3 true (
 Q (.bool false) H) (
 Do (alen false a0) fun x4 =>
 LoopP (f34_l1 Φ a0 a1 a2 x4 Q) ([(.int .i64 0)], H))
noncomputable def ir_f34 : AFunc := decF Go.Proofs.YtbkkoplgicffgaaGreatDoor.rb.C ⟨34,[],[[17]],none,[],[]⟩
def f35 (Φ : Calls') (a0 a1 : AV) (H : AH) (Q : Post) : Prop :=
Φ K.f36 [a0, a1, (.fn K.f37 [])] H fun x1 H2 =>
 Q x1 H2
noncomputable def ir_f35 : AFunc := decF Go.Proofs.YtbkkoplgicffgaaGreatDoor.rb.C ⟨35,[],[],none,[],[]⟩
def f36_l1 (Φ : Calls') (a0 a1 a2 x4 : AV) (Q : Post) : (List AV × AH) → ((List AV × AH) → Prop) → Prop := fun s5 L6 =>
 Do (abin .lss (sl s5.1 0) x4) fun x7 =>
 Gd x7 true (
 Do (aiaddr none 10 a0 (sl s5.1 0)) fun x8 =>
 Do (aload s5.2 10 true x8) fun x9 =>
 DoH (some (abox s5.2 true [.int .i64 0, .int .i64 0, .str [], .str [], .int .i64 0, .str [], .lst .nil 0 [], .lst .nil 0 [], .lst .nil 0 [], .lst .nil 0 []])) fun x10 H11 =>
 Do (astore H11 10 x10 x9) fun H12 =>
 Do (aiaddr none 10 a1 (sl s5.1 0)) fun x13 =>
 Do (aload H12 10 true x13) fun x14 =>
 DoH (some (abox H12 true [.int .i64 0, .int .i64 0, .str [], .str [], .int .i64 0, .str [], .lst .nil 0 [], .lst .nil 0 [], .lst .nil 0 [], .lst .nil 0 []])) fun x15 H16 =>
 Do (astore H16 10 x15 x14) fun H17 =>
 Do (aload H17 10 true x10) fun x18 =>
 Do (aload H17 10 true x15) fun x19 =>
∃ k22 c23, a2 = .fn k22 c23 ∧ Φ (fkey k22) (fargs k22 [x18, x19] c23) H17 fun x20 H21 =>
 Do (aun .not x20) fun x24 =>
 Gd x24 true (
 Q (.bool false) H21) (
 Do (abin .add (sl s5.1 0) (.int .i64 1)) fun x25 =>
 L6 ([x25], H21))) (
 Q (.bool true) s5.2)
def f36 (Φ : Calls') (a0 a1 a2 : AV) (H : AH) (Q : Post) : Prop :=
 Do (alen false a0) fun x1 =>
 Do (alen false a1) fun x2 =>
 Do (abin .neq x1 x2) fun x3 =>
 Gd x3 true (
 Q (.bool false) H) (
 Do (alen false a0) fun x4 =>
 LoopP (f36_l1 Φ a0 a1 a2 x4 Q) ([(.int .i64 0)], H))
noncomputable def ir_f36 : AFunc := decF Go.Proofs.YtbkkoplgicffgaaGreatDoor.rb.C ⟨36,[8,9],[[17]],none,[],[]⟩
def f37_k1 (Φ : Calls') (x1 x3 : AV) (Q : Post) : List AV → AH → Prop := fun j47 H48 =>
 Gd3 (sl j47 0) true (
 Do (afaddr 9 x1) fun x55 =>
 Do (aload H48 1 false x55) fun x56 =>
 Do (afaddr 9 x3) fun x57 =>
 Do (aload H48 1 false x57) fun x58 =>
Φ K.f36 [x56, x58, (.fn K.f37 [])] H48 fun x59 H60 =>
 Q x59 H60) (
 Q (.bool false) H48) (
 False)
def f37_k2 (Φ : Calls') (x1 x3 : AV) (Q : Post) : List AV → AH → Prop := fun j39 H40 =>
 Gd3 (sl j39 0) true (
 Do (afaddr 8 x1) fun x49 =>
 Do (aload H40 1 false x49) fun x50 =>
 Do (afaddr 8 x3) fun x51 =>
 Do (aload H40 1 false x51) fun x52 =>
Φ K.f36 [x50, x52, (.fn K.f37 [])] H40 fun x53 H54 =>
 JoinP (f37_k1 Φ x1 x3 Q) [x53] H54) (
 JoinP (f37_k1 Φ x1 x3 Q) [(.bool false)] H40) (
 False)
def f37_k3 (Φ : Calls') (x1 x3 : AV) (Q : Post) : List AV → AH → Prop := fun j31 H32 =>
 Gd3 (sl j31 0) true (
 Do (afaddr 7 x1) fun x41 =>
 Do (aload H32 1 false x41) fun x42 =>
 Do (afaddr 7 x3) fun x43 =>
 Do (aload H32 1 false x43) fun x44 =>
Φ K.f72 [x42, x44, (.fn K.f56 [])] H32 fun x45 H46 =>
 JoinP (f37_k2 Φ x1 x3 Q) [x45] H46) (
 JoinP (f37_k2 Φ x1 x3 Q) [(.bool false)] H32) (
 False)
def f37_k4 (Φ : Calls') (x1 x3 : AV) (Q : Post) : List AV → AH → Prop := fun j24 H25 =>
 Gd3 (sl j24 0) true (
 Do (afaddr 5 x1) fun x33 =>
 Do (aload H25 2 true x33) fun x34 =>
 Do (afaddr 5 x3) fun x35 =>
 Do (aload H25 2 true x35) fun x36 =>
Φ K.f71 [x34, x36] H25 fun x37 H38 =>
 JoinP (f37_k3 Φ x1 x3 Q) [x37] H38) (
 JoinP (f37_k3 Φ x1 x3 Q) [(.bool false)] H25) (
 False)
def f37_k5 (Φ : Calls') (x1 x3 : AV) (Q : Post) : List AV → AH → Prop := fun j17 H18 =>
 Gd3 (sl j17 0) true (
 Do (afaddr 4 x1) fun x26 =>
 Do (aload H18 1 false x26) fun x27 =>
 Do (afaddr 4 x3) fun x28 =>
 Do (aload H18 1 false x28) fun x29 =>
 Do (abin .eql x27 x29) fun x30 =>
 JoinP (f37_k4 Φ x1 x3 Q) [x30] H18) (
 JoinP (f37_k4 Φ x1 x3 Q) [(.bool false)] H18) (
 False)
def f37_k6 (Φ : Calls') (x1 x3 : AV) (Q : Post) : List AV → AH → Prop := fun j5 H6 =>
 Gd3 (sl j5 0) true (
 Do (afaddr 3 x1) fun x19 =>
 Do (aload H6 1 false x19) fun x20 =>
 Do (afaddr 3 x3) fun x21 =>
 Do (aload H6 1 false x21) fun x22 =>
 Do (abin .eql x20 x22) fun x23 =>
 JoinP (f37_k5 Φ x1 x3 Q) [x23] H6) (
 JoinP (f37_k5 Φ x1 x3 Q) [(.bool false)] H6) (
 False)
def f37 (Φ : Calls') (a0 a1 : AV) (H : AH) (Q : Post) : Prop :=
 DoH (aboxv H false 10 a0) fun x1 H2 =>
 DoH (aboxv H2 false 10 a1) fun x3 H4 =>
 Do (afaddr 0 x1) fun x7 =>
 Do (aload H4 1 false x7) fun x8 =>
 Do (afaddr 0 x3) fun x9 =>
 Do (aload H4 1 false x9) fun x10 =>
 Do (abin .eql x8 x10) fun x11 =>
 Gd3 x11 true (
 Do (afaddr 2 x1) fun x12 =>
 Do (aload H4 1 false x12) fun x13 =>
 Do (afaddr 2 x3) fun x14 =>
 Do (aload H4 1 false x14) fun x15 =>
 Do (abin .eql x13 x15) fun x16 =>
 JoinP (f37_k6 Φ x1 x3 Q) [x16] H4) (
 JoinP (f37_k6 Φ x1 x3 Q) [(.bool false)] H4) (
 False)
noncomputable def ir_f37 : AFunc := decF Go.Proofs.YtbkkoplgicffgaaGreatDoor.rb.C ⟨37,[],[],none,[],[]⟩
def f38_k1 (Φ : Calls') (a0 a1 : AV) (Q : Post) : List AV → AH → Prop := fun j7 H8 =>
Φ K.f74 [a1] H8 fun x18 H19 =>
 Do (aextract 0 x18) fun x20 =>
 Do (aextract 1 x18) fun x21 =>
 DoH (some (abox H19 true [.bool false, .bool false, .bool false, .bool false, .bool false, .bool false, .bool false, .bool false, .bool false, .bool false, .bool false, .bool false, .bool false, .bool false, .bool false, .bool false, .bool false, .bool false, .bool false, .bool false, .bool false, .bool false, .bool false, .bool false, .bool false, .bool false, .bool false, .bool false, .bool false, .bool false, .bool false, .bool false, .bool false, .bool false, .bool false, .bool false, .bool false, .bool false, .bool false, .bool false, .bool false, .bool false, .bool false, .bool false, .bool false, .bool false, .bool false, .bool false, .bool false, .bool false, .bool false, .bool false, .bool false, .bool false, .bool false, .bool false, .bool false, .bool false, .bool false, .bool false, .bool false, .bool false, .bool false, .bool false, .bool false, .bool false, .bool false, .bool false, .bool false, .bool false, .bool false, .bool false, .bool false, .bool false, .bool false, .bool false, .bool false, .bool false, .bool false, .bool false, .bool false, .bool false, .bool false, .bool false, .bool false, .bool false, .bool false, .bool false, .bool false, .bool false, .bool false, .bool false, .bool false, .bool false, .bool false, .bool false, .bool false, .bool false, .bool false, .bool false, .bool false, .bool false, .bool false, .bool false, .bool false, .bool false, .bool false, .bool false, .bool false, .bool false, .bool false, .bool false, .bool false, .bool false, .bool false, .bool false, .bool false, .bool false, .bool false, .bool false, .bool false, .bool false, .bool false, .bool false, .bool false, .bool false, .bool false, .bool false, .bool false, .bool false, .bool false, .bool false, .bool false, .bool false, .bool false, .bool false, .bool false, .bool false, .bool false, .bool false, .bool false, .bool false, .bool false, .bool false, .bool false, .bool false, .bool false, .bool false, .bool false, .bool false, .bool false, .bool false, .bool false, .bool false, .bool false, .bool false, .bool false, .bool false, .bool false, .bool false, .bool false, .bool false, .bool false, .bool false, .bool false, .bool false, .bool false, .bool false, .bool false, .bool false, .bool false, .bool false, .bool false, .bool false, .bool false, .bool false, .bool false, .bool false, .bool false, .bool false, .bool false, .bool false, .bool false, .bool false, .bool false, .bool false, .bool false, .bool false, .bool false, .bool false, .bool false, .bool false, .bool false, .bool false, .bool false, .bool false, .bool false, .bool false, .bool false, .bool false, .bool false, .bool false, .bool false, .bool false, .bool false, .bool false, .bool false, .bool false, .bool false, .bool false, .bool false, .bool false, .bool false, .bool false, .bool false, .bool false, .bool false, .bool false, .bool false, .bool false, .bool false, .bool false, .bool false, .bool false, .bool false, .bool false, .bool false, .bool false, .bool false, .bool false, .bool false, .bool false, .bool false, .bool false, .bool false, .bool false, .bool false, .bool false, .bool false, .bool false, .bool false, .bool false, .bool false, .bool false, .bool false, .bool false, .bool false, .bool false, .bool false, .bool false, .bool false, .bool false, .bool false, .bool false, .bool false, .bool false])) fun x22 H23 =>
 Do (astore H23 256 x22 x20) fun H24 =>
 Gd x21 true (
Φ K.f75 [a0, x22] H24 fun x25 H26 =>
 Q x25 H26) (
Φ K.f76 [a0, a1] H24 fun x27 H28 =>
 Q x27 H28)
def f38_k2 (Φ : Calls') (a0 a1 : AV) (Q : Post) : List AV → AH → Prop := fun j9 H10 =>
 Gd (sl j9 0) true (
 Do (aidxs a1 (.int .i64 0)) fun x15 =>
Φ K.f73 [a0, x15] H10 fun x16 H17 =>
 Q x16 H17) (
 JoinP (f38_k1 Φ a0 a1 Q) [] H10)
def f38_k3 (Φ : Calls') (a0 a1 : AV) (Q : Post) : List AV → AH → Prop := fun j1 H2 =>
 Do (alen true a1) fun x11 =>
 Do (abin .eql x11 (.int .i64 1)) fun x12 =>
 Gd3 x12 true (
 Do (aidxs a1 (.int .i64 0)) fun x13 =>
 Do (abin .lss x13 (.int .u8 128)) fun x14 =>
 JoinP (f38_k2 Φ a0 a1 Q) [x14] H2) (
 JoinP (f38_k2 Φ a0 a1 Q) [(.bool false)] H2) (
 False)
def f38_k4 (Φ : Calls') (a0 a1 : AV) (Q : Post) : List AV → AH → Prop := fun j3 H4 =>
 Gd (sl j3 0) true (
 Q a0 H4) (
 JoinP (f38_k3 Φ a0 a1 Q) [] H4)
def f38 (Φ : Calls') (a0 a1 : AV) (H : AH) (Q : Post) : Prop :=
 Do (abin .eql a0 (.str [])) fun x5 =>
 Gd3 x5 false (
 Do (abin .eql a1 (.str [])) fun x6 =>
 JoinP (f38_k4 Φ a0 a1 Q) [x6] H) (
 JoinP (f38_k4 Φ a0 a1 Q) [(.bool true)] H) (
 False)
noncomputable def ir_f38 : AFunc := decF Go.Proofs.YtbkkoplgicffgaaGreatDoor.rb.C ⟨38,[5],[],none,[],[]⟩
theorem eq_f38 (Φ : Calls') (a0 a1 : AV) (H : AH) (Q : Post) : fnE1 Φ ir_f38 [a0, a1] H Q = f38 Φ a0 a1 H Q := by kernel_rfl
def f39_k1 (Φ : Calls') (s5 : List AV × AH) (L6 : (List AV × AH) → Prop) (Q : Post) : List AV → AH → Prop := fun j16 H17 =>
 Do (abin .add (sl s5.1 1) (.int .i64 1)) fun x27 =>
 L6 ([(sl j16 0), x27], H17)
def f39_k2 (Φ : Calls') (a1 x1 : AV) (s5 : List AV × AH) (L6 : (List AV × AH) → Prop) (Q : Post) : List AV → AH → Prop := fun j7 H8 =>
 Do (afaddr 3 x1) fun x18 =>
 Do (aload H8 1 false x18) fun x19 =>
 Do (aiaddr none 9 x19 (sl s5.1 1)) fun x20 =>
 Do (afaddr 1 x20) fun x21 =>
 Do (aload H8 6 true x21) fun x22 =>
 Do (abin .sub a1 (.int .i64 1)) fun x23 =>
Φ K.f39 [x22, x23] H8 fun x24 H25 =>
 Do (abin .gtr x24 (sl s5.1 0)) fun x26 =>
 Gd x26 true (
 JoinP (f39_k1 Φ s5 L6 Q) [x24] H25) (
 JoinP (f39_k1 Φ s5 L6 Q) [(sl s5.1 0)] H25)
def f39_k3 (Φ : Calls') (s30 : List AV × AH) (L31 : (List AV × AH) → Prop) (Q : Post) : List AV → AH → Prop := fun j41 H42 =>
 Do (abin .add (sl s30.1 1) (.int .i64 1)) fun x51 =>
 L31 ([(sl j41 0), x51], H42)
def f39_k4 (Φ : Calls') (a1 x1 : AV) (s30 : List AV × AH) (L31 : (List AV × AH) → Prop) (Q : Post) : List AV → AH → Prop := fun j32 H33 =>
 Do (afaddr 5 x1) fun x43 =>
 Do (aload H33 1 false x43) fun x44 =>
 Do (aiaddr none 6 x44 (sl s30.1 1)) fun x45 =>
 Do (aload H33 6 true x45) fun x46 =>
 Do (abin .sub a1 (.int .i64 1)) fun x47 =>
Φ K.f39 [x46, x47] H33 fun x48 H49 =>
 Do (abin .gtr x48 (sl s30.1 0)) fun x50 =>
 Gd x50 true (
 JoinP (f39_k3 Φ s30 L31 Q) [x48] H49) (
 JoinP (f39_k3 Φ s30 L31 Q) [(sl s30.1 0)] H49)
def f39_k5 (Φ : Calls') (Q : Post) : List AV → AH → Prop := fun j28 H29 =>
 Do (abin .add (sl j28 0) (.int .i64 1)) fun x52 =>
 Q x52 H29
def f39_k6 (Φ : Calls') (a1 x1 : AV) (s30 : List AV × AH) (L31 : (List AV × AH) → Prop) (Q : Post) : List AV → AH → Prop := fun j34 H35 =>
 Gd (sl j34 0) true (
 JoinP (f39_k4 Φ a1 x1 s30 L31 Q) [] H35) (
 JoinP (f39_k5 Φ Q) [(sl s30.1 0)] H35)
def f39_l7 (Φ : Calls') (a1 x1 : AV) (Q : Post) : (List AV × AH) → ((List AV × AH) → Prop) → Prop := fun s30 L31 =>
 Do (afaddr 5 x1) fun x36 =>
 Do (aload s30.2 1 false x36) fun x37 =>
 Do (alen false x37) fun x38 =>
 Do (abin .lss (sl s30.1 1) x38) fun x39 =>
 Gd3 x39 true (
 Do (abin .gtr a1 (.int .i64 1)) fun x40 =>
 JoinP (f39_k6 Φ a1 x1 s30 L31 Q) [x40] s30.2) (
 JoinP (f39_k6 Φ a1 x1 s30 L31 Q) [(.bool false)] s30.2) (
 False)
def f39_k8 (Φ : Calls') (a1 x1 : AV) (Q : Post) : List AV → AH → Prop := fun j3 H4 =>
 LoopP (f39_l7 Φ a1 x1 Q) ([(sl j3 0), (.int .i64 0)], H4)
def f39_k9 (Φ : Calls') (a1 x1 : AV) (s5 : List AV × AH) (L6 : (List AV × AH) → Prop) (Q : Post) : List AV → AH → Prop := fun j9 H10 =>
 Gd (sl j9 0) true (
 JoinP (f39_k2 Φ a1 x1 s5 L6 Q) [] H10) (
 JoinP (f39_k8 Φ a1 x1 Q) [(sl s5.1 0)] H10)
def f39_l10 (Φ : Calls') (a1 x1 : AV) (Q : Post) : (List AV × AH) → ((List AV × AH) → Prop) → Prop := fun s5 L6 =>
 Do (afaddr 3 x1) fun x11 =>
 Do (aload s5.2 1 false x11) fun x12 =>
 Do (alen false x12) fun x13 =>
 Do (abin .lss (sl s5.1 1) x13) fun x14 =>
 Gd3 x14 true (
 Do (abin .gtr a1 (.int .i64 1)) fun x15 =>
 JoinP (f39_k9 Φ a1 x1 s5 L6 Q) [x15] s5.2) (
 JoinP (f39_k9 Φ a1 x1 s5 L6 Q) [(.bool false)] s5.2) (
 False)
def f39 (Φ : Calls') (a0 a1 : AV) (H : AH) (Q : Post) : Prop :=
 DoH (aboxv H false 6 a0) fun x1 H2 =>
 LoopP (f39_l10 Φ a1 x1 Q) ([(.int .i64 0), (.int .i64 0)], H2)
noncomputable def ir_f39 : AFunc := decF Go.Proofs.YtbkkoplgicffgaaGreatDoor.rb.C ⟨39,[],[[5,6],[5,8]],none,[],[]⟩
theorem eq_f39 (Φ : Calls') (a0 a1 : AV) (H : AH) (Q : Post) : fnE1 Φ ir_f39 [a0, a1] H Q = f39 Φ a0 a1 H Q := by kernel_rfl
def f40_k1 (Φ : Calls') (Q : Post) : List AV → AH → Prop := fun j29 H30 =>
 Gd (sl j29 0) true (
 Q (.int .i64 9) H30) (
 Q (.int .i64 0) H30)
def f40_k2 (Φ : Calls') (x1 : AV) (Q : Post) : List AV → AH → Prop := fun j31 H32 =>
 Gd3 (sl j31 0) false (
 Do (afaddr 0 x1) fun x41 =>
 Do (aload H32 1 false x41) fun x42 =>
 Do (abin .eql x42 (.int .i64 2)) fun x43 =>
 Gd3 x43 true (
 Do (afaddr 1 x1) fun x44 =>
 Do (aload H32 1 false x44) fun x45 =>
Φ K.f77 [x45, (.int .i64 16)] H32 fun x46 H47 =>
 Do (aun .not x46) fun x48 =>
 JoinP (f40_k1 Φ Q) [x48] H47) (
 JoinP (f40_k1 Φ Q) [(.bool false)] H32) (
 False)) (
 JoinP (f40_k1 Φ Q) [(.bool true)] H32) (
 False)
def f40_k3 (Φ : Calls') (x1 : AV) (Q : Post) : List AV → AH → Prop := fun j8 H9 =>
 Do (afaddr 0 x1) fun x33 =>
 Do (aload H9 1 false x33) fun x34 =>
 Do (abin .eql x34 (.int .i64 1)) fun x35 =>
 Gd3 x35 true (
 Do (afaddr 1 x1) fun x36 =>
 Do (aload H9 1 false x36) fun x37 =>
Φ K.f77 [x37, (.int .i64 8)] H9 fun x38 H39 =>
 Do (aun .not x38) fun x40 =>
 JoinP (f40_k2 Φ x1 Q) [x40] H39) (
 JoinP (f40_k2 Φ x1 Q) [(.bool false)] H9) (
 False)
def f40_k4 (Φ : Calls') (x1 : AV) (Q : Post) : List AV → AH → Prop := fun j10 H11 =>
 Gd (sl j10 0) true (
 Q (.int .i64 8) H11) (
 JoinP (f40_k3 Φ x1 Q) [] H11)
def f40_k5 (Φ : Calls') (x1 : AV) (Q : Post) : List AV → AH → Prop := fun j20 H21 =>
 Gd3 (sl j20 0) false (
 Do (afaddr 5 x1) fun x25 =>
 Do (aload H21 1 false x25) fun x26 =>
 Do (alen false x26) fun x27 =>
 Do (abin .gtr x27 (.int .i64 0)) fun x28 =>
 JoinP (f40_k4 Φ x1 Q) [x28] H21) (
 JoinP (f40_k4 Φ x1 Q) [(.bool true)] H21) (
 False)
def f40_k6 (Φ : Calls') (x1 : AV) (Q : Post) : List AV → AH → Prop := fun j12 H13 =>
 Gd3 (sl j12 0) false (
 Do (afaddr 4 x1) fun x22 =>
 Do (aload H13 1 false x22) fun x23 =>
 Do (abin .neq x23 (.int .i64 0)) fun x24 =>
 JoinP (f40_k5 Φ x1 Q) [x24] H13) (
 JoinP (f40_k5 Φ x1 Q) [(.bool true)] H13) (
 False)
def f40_k7 (Φ : Calls') (x1 : AV) (Q : Post) : List AV → AH → Prop := fun j71 H72 =>
 Do (afaddr 5 x1) fun x81 =>
 Do (aload H72 1 false x81) fun x82 =>
 Do (aiaddr none 6 x82 (.int .i64 0)) fun x83 =>
 Do (aload H72 6 true x83) fun x84 =>
Φ K.f40 [x84] H72 fun x85 H86 =>
 Q x85 H86
def f40_k8 (Φ : Calls') (x1 : AV) (Q : Post) : List AV → AH → Prop := fun j73 H74 =>
 Gd (sl j73 0) true (
 Q (.int .i64 9) H74) (
 JoinP (f40_k7 Φ x1 Q) [] H74)
def f40_k9 (Φ : Calls') (x1 : AV) (Q : Post) : List AV → AH → Prop := fun j50 H51 =>
 Do (afaddr 4 x1) fun x75 =>
 Do (aload H51 1 false x75) fun x76 =>
 Do (abin .lss x76 (.int .i64 1)) fun x77 =>
 Gd3 x77 false (
 Do (afaddr 4 x1) fun x78 =>
 Do (aload H51 1 false x78) fun x79 =>
 Do (abin .gtr x79 (.int .i64 65536)) fun x80 =>
 JoinP (f40_k8 Φ x1 Q) [x80] H51) (
 JoinP (f40_k8 Φ x1 Q) [(.bool true)] H51) (
 False)
def f40_k10 (Φ : Calls') (x1 : AV) (Q : Post) : List AV → AH → Prop := fun j52 H53 =>
 Gd (sl j52 0) true (
 Q (.int .i64 8) H53) (
 JoinP (f40_k9 Φ x1 Q) [] H53)
def f40_k11 (Φ : Calls') (x1 : AV) (Q : Post) : List AV → AH → Prop := fun j62 H63 =>
 Gd3 (sl j62 0) false (
 Do (afaddr 5 x1) fun x67 =>
 Do (aload H63 1 false x67) fun x68 =>
 Do (alen false x68) fun x69 =>
 Do (abin .neq x69 (.int .i64 1)) fun x70 =>
 JoinP (f40_k10 Φ x1 Q) [x70] H63) (
 JoinP (f40_k10 Φ x1 Q) [(.bool true)] H63) (
 False)
def f40_k12 (Φ : Calls') (x1 : AV) (Q : Post) : List AV → AH → Prop := fun j54 H55 =>
 Gd3 (sl j54 0) false (
 Do (afaddr 1 x1) fun x64 =>
 Do (aload H55 1 false x64) fun x65 =>
 Do (abin .neq x65 (.int .i64 0)) fun x66 =>
 JoinP (f40_k11 Φ x1 Q) [x66] H55) (
 JoinP (f40_k11 Φ x1 Q) [(.bool true)] H55) (
 False)
def f40_k13 (Φ : Calls') (s150 : List AV × AH) (L151 : (List AV × AH) → Prop) (Q : Post) : List AV → AH → Prop := fun j153 H154 =>
 Do (abin .add (sl s150.1 0) (.int .i64 1)) fun x168 =>
 L151 ([x168], H154)
def f40_k14 (Φ : Calls') (s150 : List AV × AH) (L151 : (List AV × AH) → Prop) (Q : Post) : List AV → AH → Prop := fun j155 H156 =>
 Gd (sl j155 0) true (
 Q (.int .i64 7) H156) (
 JoinP (f40_k13 Φ s150 L151 Q) [] H156)
def f40_k15 (Φ : Calls') (s118 : List AV × AH) (L119 : (List AV × AH) → Prop) (Q : Post) : List AV → AH → Prop := fun j124 H125 =>
 Do (abin .add (sl s118.1 0) (.int .i64 1)) fun x214 =>
 L119 ([x214], H125)
def f40_k16 (Φ : Calls') (s118 : List AV × AH) (L119 : (List AV × AH) → Prop) (Q : Post) : List AV → AH → Prop := fun j194 H195 =>
 Gd (sl j194 0) true (
 Q (.int .i64 9) H195) (
 JoinP (f40_k15 Φ s118 L119 Q) [] H195)
def f40_k17 (Φ : Calls') (x130 : AV) (s118 : List AV × AH) (L119 : (List AV × AH) → Prop) (Q : Post) : List AV → AH → Prop := fun j174 H175 =>
 Do (afaddr 7 x130) fun x196 =>
 Do (aload H175 1 false x196) fun x197 =>
 Gd3 x197 true (
 Do (afaddr 8 x130) fun x198 =>
 Do (aload H175 1 false x198) fun x199 =>
 Do (abin .lss x199 (.int .i64 0)) fun x200 =>
 Gd3 x200 false (
 Do (afaddr 8 x130) fun x201 =>
 Do (aload H175 1 false x201) fun x202 =>
 Do (afaddr 1 x130) fun x203 =>
 Do (afaddr 1 x203) fun x204 =>
 Do (aload H175 1 false x204) fun x205 =>
 Do (abin .mul (.int .i64 8) x205) fun x206 =>
 Do (abin .gtr x202 x206) fun x207 =>
 Gd3 x207 false (
 Do (afaddr 8 x130) fun x208 =>
 Do (aload H175 1 false x208) fun x209 =>
 Do (abin .eql x209 (.int .i64 0)) fun x210 =>
 Gd3 x210 true (
 Do (afaddr 0 x130) fun x211 =>
 Do (aload H175 1 false x211) fun x212 =>
 Do (abin .neq x212 (.str [])) fun x213 =>
 JoinP (f40_k16 Φ s118 L119 Q) [x213] H175) (
 JoinP (f40_k16 Φ s118 L119 Q) [(.bool false)] H175) (
 False)) (
 JoinP (f40_k16 Φ s118 L119 Q) [(.bool true)] H175) (
 False)) (
 JoinP (f40_k16 Φ s118 L119 Q) [(.bool true)] H175) (
 False)) (
 JoinP (f40_k16 Φ s118 L119 Q) [(.bool false)] H175) (
 False)
def f40_k18 (Φ : Calls') (x130 : AV) (s118 : List AV × AH) (L119 : (List AV × AH) → Prop) (Q : Post) : List AV → AH → Prop := fun j176 H177 =>
 Gd (sl j176 0) true (
 Q (.int .i64 8) H177) (
 JoinP (f40_k17 Φ x130 s118 L119 Q) [] H177)
def f40_k19 (Φ : Calls') (x1 x130 : AV) (s118 : List AV × AH) (L119 : (List AV × AH) → Prop) (Q : Post) : List AV → AH → Prop := fun j178 H179 =>
 Gd3 (sl j178 0) false (
 Do (afaddr 7 x130) fun x186 =>
 Do (aload H179 1 false x186) fun x187 =>
 Gd3 x187 true (
 Do (afaddr 2 x1) fun x188 =>
 Do (aload H179 1 false x188) fun x189 =>
 Gd3 x189 false (
 Do (afaddr 1 x130) fun x190 =>
 Do (afaddr 0 x190) fun x191 =>
 Do (aload H179 1 false x191) fun x192 =>
 Do (abin .neq x192 (.int .i64 1)) fun x193 =>
 JoinP (f40_k18 Φ x130 s118 L119 Q) [x193] H179) (
 JoinP (f40_k18 Φ x130 s118 L119 Q) [(.bool true)] H179) (
 False)) (
 JoinP (f40_k18 Φ x130 s118 L119 Q) [(.bool false)] H179) (
 False)) (
 JoinP (f40_k18 Φ x130 s118 L119 Q) [(.bool true)] H179) (
 False)
def f40_k20 (Φ : Calls') (x1 x130 : AV) (s118 : List AV × AH) (L119 : (List AV × AH) → Prop) (Q : Post) : List AV → AH → Prop := fun j148 H149 =>
 Do (afaddr 1 x130) fun x169 =>
 Do (aload H149 6 true x169) fun x170 =>
Φ K.f40 [x170] H149 fun x171 H172 =>
 Do (abin .neq x171 (.int .i64 0)) fun x173 =>
 Gd x173 true (
 Q x171 H172) (
 Do (afaddr 7 x130) fun x180 =>
 Do (aload H172 1 false x180) fun x181 =>
 Do (aun .not x181) fun x182 =>
 Gd3 x182 true (
 Do (afaddr 8 x130) fun x183 =>
 Do (aload H172 1 false x183) fun x184 =>
 Do (abin .neq x184 (.int .i64 0)) fun x185 =>
 JoinP (f40_k19 Φ x1 x130 s118 L119 Q) [x185] H172) (
 JoinP (f40_k19 Φ x1 x130 s118 L119 Q) [(.bool false)] H172) (
 False))
def f40_l21 (Φ : Calls') (x1 x130 : AV) (s118 : List AV × AH) (L119 : (List AV × AH) → Prop) (Q : Post) : (List AV × AH) → ((List AV × AH) → Prop) → Prop := fun s150 L151 =>
 Do (abin .lss (sl s150.1 0) (sl s118.1 0)) fun x152 =>
 Gd x152 true (
 Do (afaddr 0 x130) fun x157 =>
 Do (aload s150.2 1 false x157) fun x158 =>
 Do (abin .neq x158 (.str [])) fun x159 =>
 Gd3 x159 true (
 Do (afaddr 3 x1) fun x160 =>
 Do (aload s150.2 1 false x160) fun x161 =>
 Do (aiaddr none 9 x161 (sl s150.1 0)) fun x162 =>
 Do (afaddr 0 x162) fun x163 =>
 Do (aload s150.2 1 false x163) fun x164 =>
 Do (afaddr 0 x130) fun x165 =>
 Do (aload s150.2 1 false x165) fun x166 =>
 Do (abin .eql x164 x166) fun x167 =>
 JoinP (f40_k14 Φ s150 L151 Q) [x167] s150.2) (
 JoinP (f40_k14 Φ s150 L151 Q) [(.bool false)] s150.2) (
 False)) (
 JoinP (f40_k20 Φ x1 x130 s118 L119 Q) [] s150.2)
def f40_k22 (Φ : Calls') (x1 x130 : AV) (s118 : List AV × AH) (L119 : (List AV × AH) → Prop) (Q : Post) : List AV → AH → Prop := fun j133 H134 =>
 LoopP (f40_l21 Φ x1 x130 s118 L119 Q) ([(.int .i64 0)], H134)
def f40_k23 (Φ : Calls') (x1 x130 : AV) (s118 : List AV × AH) (L119 : (List AV × AH) → Prop) (Q : Post) : List AV → AH → Prop := fun j135 H136 =>
 Gd (sl j135 0) true (
 Q (.int .i64 6) H136) (
 JoinP (f40_k22 Φ x1 x130 s118 L119 Q) [] H136)
def f40_l24 (Φ : Calls') (x1 : AV) (Q : Post) : (List AV × AH) → ((List AV × AH) → Prop) → Prop := fun s118 L119 =>
 Do (afaddr 3 x1) fun x120 =>
 Do (aload s118.2 1 false x120) fun x121 =>
 Do (alen false x121) fun x122 =>
 Do (abin .lss (sl s118.1 0) x122) fun x123 =>
 Gd x123 true (
 Do (afaddr 3 x1) fun x126 =>
 Do (aload s118.2 1 false x126) fun x127 =>
 Do (aiaddr none 9 x127 (sl s118.1 0)) fun x128 =>
 Do (aload s118.2 9 true x128) fun x129 =>
 DoH (some (abox s118.2 true [.str [], .int .i64 0, .int .i64 0, .bool false, .lst .nil 0 [], .int .i64 0, .lst .nil 0 [], .bool false, .int .i64 0])) fun x130 H131 =>
 Do (astore H131 9 x130 x129) fun H132 =>
 Do (afaddr 0 x130) fun x137 =>
 Do (aload H132 1 false x137) fun x138 =>
Φ K.f78 [x138] H132 fun x139 H140 =>
 Do (aun .not x139) fun x141 =>
 Gd3 x141 true (
 Do (afaddr 0 x130) fun x142 =>
 Do (aload H140 1 false x142) fun x143 =>
 Do (abin .eql x143 (.str [])) fun x144 =>
 Gd3 x144 true (
 Do (afaddr 7 x130) fun x145 =>
 Do (aload H140 1 false x145) fun x146 =>
 Do (aun .not x146) fun x147 =>
 JoinP (f40_k23 Φ x1 x130 s118 L119 Q) [x147] H140) (
 Do (aun .not (.bool false)) fun x215 =>
 JoinP (f40_k23 Φ x1 x130 s118 L119 Q) [x215] H140) (
 False)) (
 JoinP (f40_k23 Φ x1 x130 s118 L119 Q) [(.bool false)] H140) (
 False)) (
 Q (.int .i64 0) s118.2)
def f40_k25 (Φ : Calls') (x1 : AV) (Q : Post) : List AV → AH → Prop := fun j106 H107 =>
 LoopP (f40_l24 Φ x1 Q) ([(.int .i64 0)], H107)
def f40_k26 (Φ : Calls') (x1 : AV) (Q : Post) : List AV → AH → Prop := fun j108 H109 =>
 Gd (sl j108 0) true (
 Q (.int .i64 12) H109) (
 JoinP (f40_k25 Φ x1 Q) [] H109)
def f40_k27 (Φ : Calls') (x1 : AV) (Q : Post) : List AV → AH → Prop := fun j90 H91 =>
 Do (afaddr 3 x1) fun x110 =>
 Do (aload H91 1 false x110) fun x111 =>
 Do (alen false x111) fun x112 =>
 Do (abin .eql x112 (.int .i64 0)) fun x113 =>
 Gd3 x113 false (
 Do (afaddr 3 x1) fun x114 =>
 Do (aload H91 1 false x114) fun x115 =>
 Do (alen false x115) fun x116 =>
 Do (abin .gtr x116 (.int .i64 32)) fun x117 =>
 JoinP (f40_k26 Φ x1 Q) [x117] H91) (
 JoinP (f40_k26 Φ x1 Q) [(.bool true)] H91) (
 False)
def f40_k28 (Φ : Calls') (x1 : AV) (Q : Post) : List AV → AH → Prop := fun j92 H93 =>
 Gd (sl j92 0) true (
 Q (.int .i64 8) H93) (
 JoinP (f40_k27 Φ x1 Q) [] H93)
def f40_k29 (Φ : Calls') (x1 : AV) (Q : Post) : List AV → AH → Prop := fun j94 H95 =>
 Gd3 (sl j94 0) false (
 Do (afaddr 5 x1) fun x102 =>
 Do (aload H95 1 false x102) fun x103 =>
 Do (alen false x103) fun x104 =>
 Do (abin .gtr x104 (.int .i64 0)) fun x105 =>
 JoinP (f40_k28 Φ x1 Q) [x105] H95) (
 JoinP (f40_k28 Φ x1 Q) [(.bool true)] H95) (
 False)
def f40_k30 (Φ : Calls') (x1 : AV) (Q : Post) : List AV → AH → Prop := fun j87 H88 =>
 Gd (sl j87 0) true (
 Do (afaddr 1 x1) fun x96 =>
 Do (aload H88 1 false x96) fun x97 =>
 Do (abin .neq x97 (.int .i64 0)) fun x98 =>
 Gd3 x98 false (
 Do (afaddr 4 x1) fun x99 =>
 Do (aload H88 1 false x99) fun x100 =>
 Do (abin .neq x100 (.int .i64 0)) fun x101 =>
 JoinP (f40_k29 Φ x1 Q) [x101] H88) (
 JoinP (f40_k29 Φ x1 Q) [(.bool true)] H88) (
 False)) (
 Q (.int .i64 8) H88)
def f40_k31 (Φ : Calls') (x1 x4 : AV) (Q : Post) : List AV → AH → Prop := fun j5 H6 =>
 Gd (sl j5 0) true (
 Do (afaddr 2 x1) fun x14 =>
 Do (aload H6 1 false x14) fun x15 =>
 Gd3 x15 false (
 Do (afaddr 3 x1) fun x16 =>
 Do (aload H6 1 false x16) fun x17 =>
 Do (alen false x17) fun x18 =>
 Do (abin .gtr x18 (.int .i64 0)) fun x19 =>
 JoinP (f40_k6 Φ x1 Q) [x19] H6) (
 JoinP (f40_k6 Φ x1 Q) [(.bool true)] H6) (
 False)) (
 Do (abin .eql x4 (.int .i64 5)) fun x49 =>
 Gd x49 true (
 Do (afaddr 2 x1) fun x56 =>
 Do (aload H6 1 false x56) fun x57 =>
 Gd3 x57 false (
 Do (afaddr 3 x1) fun x58 =>
 Do (aload H6 1 false x58) fun x59 =>
 Do (alen false x59) fun x60 =>
 Do (abin .gtr x60 (.int .i64 0)) fun x61 =>
 JoinP (f40_k12 Φ x1 Q) [x61] H6) (
 JoinP (f40_k12 Φ x1 Q) [(.bool true)] H6) (
 False)) (
 Do (abin .eql x4 (.int .i64 3)) fun x89 =>
 Gd x89 true (
 JoinP (f40_k30 Φ x1 Q) [x89] H6) (
 Do (abin .eql x4 (.int .i64 4)) fun x216 =>
 JoinP (f40_k30 Φ x1 Q) [x216] H6)))
def f40 (Φ : Calls') (a0 : AV) (H : AH) (Q : Post) : Prop :=
 DoH (aboxv H false 6 a0) fun x1 H2 =>
 Do (afaddr 0 x1) fun x3 =>
 Do (aload H2 1 false x3) fun x4 =>
 Do (abin .eql x4 (.int .i64 1)) fun x7 =>
 Gd x7 true (
 JoinP (f40_k31 Φ x1 x4 Q) [x7] H2) (
 Do (abin .eql x4 (.int .i64 2)) fun x217 =>
 JoinP (f40_k31 Φ x1 x4 Q) [x217] H2)
noncomputable def ir_f40 : AFunc := decF Go.Proofs.YtbkkoplgicffgaaGreatDoor.rb.C ⟨40,[4],[[3],[5]],none,[],[]⟩
theorem eq_f40 (Φ : Calls') (a0 : AV) (H : AH) (Q : Post) : fnE1 Φ ir_f40 [a0] H Q = f40 Φ a0 H Q := by kernel_rfl
def f41_l1 (Φ : Calls') (a0 x1 : AV) (Q : Post) : (List AV × AH) → ((List AV × AH) → Prop) → Prop := fun s3 L4 =>
 Do (alen false x1) fun x5 =>
 Do (abin .lss (sl s3.1 0) x5) fun x6 =>
 Gd x6 true (
 Do (aiaddr none 1 x1 (sl s3.1 0)) fun x7 =>
 Do (aload s3.2 1 false x7) fun x8 =>
 Do (abin .eql x8 a0) fun x9 =>
 Gd x9 true (
 Q (.bool true) s3.2) (
 Do (abin .add (sl s3.1 0) (.int .i64 1)) fun x10 =>
 L4 ([x10], s3.2))) (
 Q (.bool false) s3.2)
def f41 (Φ : Calls') (a0 : AV) (H : AH) (Q : Post) : Prop :=
Φ K.f79 [] H fun x1 H2 =>
 LoopP (f41_l1 Φ a0 x1 Q) ([(.int .i64 0)], H2)
noncomputable def ir_f41 : AFunc := decF Go.Proofs.YtbkkoplgicffgaaGreatDoor.rb.C ⟨41,[],[[4]],none,[],[]⟩
theorem eq_f41 (Φ : Calls') (a0 : AV) (H : AH) (Q : Post) : fnE1 Φ ir_f41 [a0] H Q = f41 Φ a0 H Q := by kernel_rfl
def f42_k1 (Φ : Calls') (x1 x9 : AV) (Q : Post) : List AV → AH → Prop := fun j11 H12 =>
 Do (anilck x9) fun x29 =>
 Do (afaddr 3 x29) fun x30 =>
 Do (aload H12 1 false x30) fun x31 =>
 Do (abuild [.int .i64 0, .int .i64 0] []) fun x32 =>
 Do (astore H12 2 x1 x32) fun H33 =>
 Do (aload H33 2 true x1) fun x34 =>
 Q (.tup [x31, x34]) H33
def f42_l2 (Φ : Calls') (a0 x1 x9 : AV) (Q : Post) : (List AV × AH) → ((List AV × AH) → Prop) → Prop := fun s13 L14 =>
 Do (anilck x9) fun x15 =>
 Do (afaddr 1 x15) fun x16 =>
 Do (aload s13.2 1 false x16) fun x17 =>
 Do (alen true a0) fun x18 =>
 Do (abin .lss x17 x18) fun x19 =>
 Gd x19 true (
Φ K.f80 [x9] s13.2 fun x20 H21 =>
 Do (aun .not x20) fun x22 =>
 Gd x22 true (
 Do (anilck x9) fun x23 =>
 Do (afaddr 2 x23) fun x24 =>
 Do (aload H21 1 false x24) fun x25 =>
 Do (abuild [.int .i64 0, .int .i64 0] [(0, 1, x25), (1, 1, (.int .i64 3))]) fun x26 =>
 Do (astore H21 2 x1 x26) fun H27 =>
 Do (aload H27 2 true x1) fun x28 =>
 Q (.tup [(.lst .nil 0 []), x28]) H27) (
 L14 ([], H21))) (
 JoinP (f42_k1 Φ x1 x9 Q) [] s13.2)
def f42 (Φ : Calls') (a0 : AV) (H : AH) (Q : Post) : Prop :=
 DoH (some (abox H true [.int .i64 0, .int .i64 0])) fun x1 H2 =>
 Do (alen true a0) fun x3 =>
 Do (abin .gtr x3 (.int .i64 1048576)) fun x4 =>
 Gd x4 true (
 Do (abuild [.int .i64 0, .int .i64 0] [(1, 1, (.int .i64 12))]) fun x5 =>
 Do (astore H2 2 x1 x5) fun H6 =>
 Do (aload H6 2 true x1) fun x7 =>
 Q (.tup [(.lst .nil 0 []), x7]) H6) (
 Do (abuild [.str [], .int .i64 0, .int .i64 0, .lst .nil 0 []] [(0, 1, a0), (2, 1, (.int .i64 1))]) fun x8 =>
 DoH (aboxv H2 true 4 x8) fun x9 H10 =>
 LoopP (f42_l2 Φ a0 x1 x9 Q) ([], H10))
noncomputable def ir_f42 : AFunc := decF Go.Proofs.YtbkkoplgicffgaaGreatDoor.rb.C ⟨42,[3,11],[[]],none,[],[]⟩
theorem eq_f42 (Φ : Calls') (a0 : AV) (H : AH) (Q : Post) : fnE1 Φ ir_f42 [a0] H Q = f42 Φ a0 H Q := by kernel_rfl
def f43 (Φ : Calls') (a0 : AV) (H : AH) (Q : Post) : Prop :=
 Do (anilck a0) fun x1 =>
 Do (afaddr 1 x1) fun x2 =>
 Do (afaddr 1 x2) fun x3 =>
 Do (aload H 1 false x3) fun x4 =>
 Do (abin .neq x4 (.int .i64 0)) fun x5 =>
 Q x5 H
noncomputable def ir_f43 : AFunc := decF Go.Proofs.YtbkkoplgicffgaaGreatDoor.rb.C ⟨43,[],[],none,[],[]⟩
theorem eq_f43 (Φ : Calls') (a0 : AV) (H : AH) (Q : Post) : fnE1 Φ ir_f43 [a0] H Q = f43 Φ a0 H Q := by kernel_rfl
def f44 (Φ : Calls') (a0 : AV) (H : AH) (Q : Post) : Prop :=
 Do (anilck a0) fun x1 =>
 Do (afaddr 0 x1) fun x2 =>
 Do (aload H 1 false x2) fun x3 =>
 Do (aiaddr none 2 x3 (.int .i64 0)) fun x4 =>
 Do (afaddr 0 x4) fun x5 =>
 Do (aload H 1 false x5) fun x6 =>
 Q x6 H
noncomputable def ir_f44 : AFunc := decF Go.Proofs.YtbkkoplgicffgaaGreatDoor.rb.C ⟨44,[],[],none,[],[]⟩
theorem eq_f44 (Φ : Calls') (a0 : AV) (H : AH) (Q : Post) : fnE1 Φ ir_f44 [a0] H Q = f44 Φ a0 H Q := by kernel_rfl
def f45 (Φ : Calls') (a0 : AV) (H : AH) (Q : Post) : Prop :=
Φ K.f44 [a0] H fun x1 H2 =>
 Do (anilck a0) fun x3 =>
 Do (afaddr 0 x3) fun x4 =>
 Do (aload H2 1 false x4) fun x5 =>
 Do (alen false x5) fun x6 =>
 Do (abin .gtr x6 (.int .i64 1)) fun x7 =>
 Gd x7 true (
 Do (anilck a0) fun x8 =>
 Do (afaddr 0 x8) fun x9 =>
 Do (aload H2 1 false x9) fun x10 =>
 Do (aslice 2 x10 (some (.int .i64 1)) none none) fun x11 =>
 Do (anilck a0) fun x12 =>
 Do (afaddr 0 x12) fun x13 =>
 Do (astore H2 1 x13 x11) fun H14 =>
 Q x1 H14) (
 Q x1 H2)
noncomputable def ir_f45 : AFunc := decF Go.Proofs.YtbkkoplgicffgaaGreatDoor.rb.C ⟨45,[],[],none,[],[]⟩
theorem eq_f45 (Φ : Calls') (a0 : AV) (H : AH) (Q : Post) : fnE1 Φ ir_f45 [a0] H Q = f45 Φ a0 H Q := by kernel_rfl
def f46_k1 (Φ : Calls') (a0 : AV) (Q : Post) : List AV → AH → Prop := fun j1 H2 =>
 Gd3 (sl j1 0) true (
 Do (aidxs a0 (.int .i64 0)) fun x6 =>
 Do (abin .leq x6 (.int .u8 122)) fun x7 =>
 Q x7 H2) (
 Q (.bool false) H2) (
 False)
def f46 (Φ : Calls') (a0 : AV) (H : AH) (Q : Post) : Prop :=
 Do (abin .neq a0 (.str [])) fun x3 =>
 Gd3 x3 true (
 Do (aidxs a0 (.int .i64 0)) fun x4 =>
 Do (abin .geq x4 (.int .u8 97)) fun x5 =>
 JoinP (f46_k1 Φ a0 Q) [x5] H) (
 JoinP (f46_k1 Φ a0 Q) [(.bool false)] H) (
 False)
noncomputable def ir_f46 : AFunc := decF Go.Proofs.YtbkkoplgicffgaaGreatDoor.rb.C ⟨46,[],[],none,[],[]⟩
theorem eq_f46 (Φ : Calls') (a0 : AV) (H : AH) (Q : Post) : fnE1 Φ ir_f46 [a0] H Q = f46 Φ a0 H Q := by kernel_rfl
def f47 (Φ : Calls') (a0 : AV) (H : AH) (Q : Post) : Prop :=
Φ K.f82 [(.str [118, 97, 114, 32, 116, 104, 114, 101, 97, 100, 32, 115, 116, 114, 117, 99, 116, 32, 117, 110, 105, 111, 110, 32, 112, 97, 99, 107, 101, 100, 32, 117, 56, 32, 117, 49, 54, 32, 117, 51, 50, 32, 117, 54, 52, 32, 97, 56, 32, 97, 49, 54, 32, 97, 51, 50, 32, 97, 54, 52, 32, 97, 49, 50, 56, 32, 108, 101, 116, 32, 115, 101, 116, 32, 119, 114, 105, 116, 101, 32, 115, 116, 111, 114, 101, 32, 108, 111, 97, 100, 50, 32, 115, 116, 111, 114, 101, 50, 32, 102, 101, 110, 99, 101, 32, 105, 102, 32, 101, 108, 115, 101, 32, 119, 104, 105, 108, 101, 32, 112, 114, 105, 110, 116, 32, 114, 101, 97, 100, 32, 108, 111, 97, 100, 32, 97, 100, 100, 32, 115, 119, 97, 112, 32, 99, 97, 115, 32, 114, 108, 120, 32, 97, 99, 113, 32, 114, 101, 108, 32, 115, 99])] H fun x1 H2 =>
Φ K.f81 [x1, a0] H2 fun x3 H4 =>
 Q x3 H4
noncomputable def ir_f47 : AFunc := decF Go.Proofs.YtbkkoplgicffgaaGreatDoor.rb.C ⟨47,[],[],none,[],[]⟩
theorem eq_f47 (Φ : Calls') (a0 : AV) (H : AH) (Q : Post) : fnE1 Φ ir_f47 [a0] H Q = f47 Φ a0 H Q := by kernel_rfl
def f48 (Φ : Calls') (a0 a1 : AV) (H : AH) (Q : Post) : Prop :=
Φ K.f43 [a0] H fun x1 H2 =>
 Do (aun .not x1) fun x3 =>
 Gd x3 true (
 Do (anilck a0) fun x4 =>
 Do (afaddr 0 x4) fun x5 =>
 Do (aload H2 1 false x5) fun x6 =>
 Do (aiaddr none 2 x6 (.int .i64 0)) fun x7 =>
 Do (afaddr 1 x7) fun x8 =>
 Do (aload H2 1 false x8) fun x9 =>
 Do (abuild [.int .i64 0, .int .i64 0] [(0, 1, x9), (1, 1, a1)]) fun x10 =>
 Do (anilck a0) fun x11 =>
 Do (afaddr 1 x11) fun x12 =>
 Do (astore H2 2 x12 x10) fun H13 =>
 Q (.tup []) H13) (
 Q (.tup []) H2)
noncomputable def ir_f48 : AFunc := decF Go.Proofs.YtbkkoplgicffgaaGreatDoor.rb.C ⟨48,[],[],none,[],[]⟩
theorem eq_f48 (Φ : Calls') (a0 a1 : AV) (H : AH) (Q : Post) : fnE1 Φ ir_f48 [a0, a1] H Q = f48 Φ a0 a1 H Q := by kernel_rfl
def f49_k1 (Φ : Calls') (a0 : AV) (Q : Post) : List AV → AH → Prop := fun j1 H2 =>
Φ K.f43 [a0] H2 fun x6 H7 =>
 Do (aun .not x6) fun x8 =>
 Q x8 H7
def f49 (Φ : Calls') (a0 a1 : AV) (H : AH) (Q : Post) : Prop :=
 Do (abin .gtr a1 (.int .i64 64)) fun x3 =>
 Gd x3 true (
Φ K.f48 [a0, (.int .i64 5)] H fun x4 H5 =>
 JoinP (f49_k1 Φ a0 Q) [] H5) (
 JoinP (f49_k1 Φ a0 Q) [] H)
noncomputable def ir_f49 : AFunc := decF Go.Proofs.YtbkkoplgicffgaaGreatDoor.rb.C ⟨49,[],[],none,[],[]⟩
theorem eq_f49 (Φ : Calls') (a0 a1 : AV) (H : AH) (Q : Post) : fnE1 Φ ir_f49 [a0, a1] H Q = f49 Φ a0 a1 H Q := by kernel_rfl
def f50_k1 (Φ : Calls') (s10 : List AV × AH) (L11 : (List AV × AH) → Prop) (Q : Post) : List AV → AH → Prop := fun j13 H14 =>
 Do (abin .add (sl s10.1 0) (.int .i64 1)) fun x29 =>
 L11 ([x29], H14)
def f50_l2 (Φ : Calls') (a0 x1 x15 x16 : AV) (s10 : List AV × AH) (L11 : (List AV × AH) → Prop) (Q : Post) : (List AV × AH) → ((List AV × AH) → Prop) → Prop := fun s17 L18 =>
 Do (abin .lss (sl s17.1 0) x16) fun x19 =>
 Gd x19 true (
 Do (aiaddr none 1 x15 (sl s17.1 0)) fun x20 =>
 Do (aload s17.2 1 false x20) fun x21 =>
 Do (abin .eql x21 a0) fun x22 =>
 Gd x22 true (
 Do (abin .add (sl s10.1 0) (.int .i64 1)) fun x23 =>
 Do (abin .shl (.int .i64 1) (sl s17.1 0)) fun x24 =>
 Do (abuild [.int .i64 0, .int .i64 0, .bool false, .lst .nil 0 [], .int .i64 0, .lst .nil 0 []] [(0, 1, x23), (1, 1, x24)]) fun x25 =>
 Do (astore s17.2 6 x1 x25) fun H26 =>
 Do (aload H26 6 true x1) fun x27 =>
 Q (.tup [x27, (.bool true)]) H26) (
 Do (abin .add (sl s17.1 0) (.int .i64 1)) fun x28 =>
 L18 ([x28], s17.2))) (
 JoinP (f50_k1 Φ s10 L11 Q) [] s17.2)
def f50_k3 (Φ : Calls') (x1 : AV) (Q : Post) : List AV → AH → Prop := fun j3 H4 =>
 Do (abuild [.int .i64 0, .int .i64 0, .bool false, .lst .nil 0 [], .int .i64 0, .lst .nil 0 []] []) fun x30 =>
 Do (astore H4 6 x1 x30) fun H31 =>
 Do (aload H31 6 true x1) fun x32 =>
 Q (.tup [x32, (.bool false)]) H31
def f50_l4 (Φ : Calls') (a0 x1 x9 : AV) (Q : Post) : (List AV × AH) → ((List AV × AH) → Prop) → Prop := fun s10 L11 =>
 Do (abin .lss (sl s10.1 0) (.int .i64 2)) fun x12 =>
 Gd x12 true (
 Do (aidx 2 1 false x9 (sl s10.1 0)) fun x15 =>
 Do (alen false x15) fun x16 =>
 LoopP (f50_l2 Φ a0 x1 x15 x16 s10 L11 Q) ([(.int .i64 0)], s10.2)) (
 JoinP (f50_k3 Φ x1 Q) [] s10.2)
def f50 (Φ : Calls') (a0 : AV) (H : AH) (Q : Post) : Prop :=
 DoH (some (abox H true [.int .i64 0, .int .i64 0, .bool false, .lst .nil 0 [], .int .i64 0, .lst .nil 0 []])) fun x1 H2 =>
 DoH (abslice H2 false 1 4 [.str []] [(0, 1, (.str [117, 56])), (1, 1, (.str [117, 49, 54])), (2, 1, (.str [117, 51, 50])), (3, 1, (.str [117, 54, 52]))]) fun x5 H6 =>
 DoH (abslice H6 false 1 5 [.str []] [(0, 1, (.str [97, 56])), (1, 1, (.str [97, 49, 54])), (2, 1, (.str [97, 51, 50])), (3, 1, (.str [97, 54, 52])), (4, 1, (.str [97, 49, 50, 56]))]) fun x7 H8 =>
 Do (abuild [.lst .nil 0 [], .lst .nil 0 []] [(0, 1, x5), (1, 1, x7)]) fun x9 =>
 LoopP (f50_l4 Φ a0 x1 x9 Q) ([(.int .i64 0)], H8)
noncomputable def ir_f50 : AFunc := decF Go.Proofs.YtbkkoplgicffgaaGreatDoor.rb.C ⟨50,[2],[[11],[17]],none,[],[]⟩
theorem eq_f50 (Φ : Calls') (a0 : AV) (H : AH) (Q : Post) : fnE1 Φ ir_f50 [a0] H Q = f50 Φ a0 H Q := by kernel_rfl
def f51 (Φ : Calls') (a0 : AV) (H : AH) (Q : Post) : Prop :=
 Do (abin .eql a0 (.str [115, 116, 114, 117, 99, 116])) fun x1 =>
 Gd x1 true (
 Q (.int .i64 3) H) (
 Do (abin .eql a0 (.str [117, 110, 105, 111, 110])) fun x2 =>
 Gd x2 true (
 Q (.int .i64 4) H) (
 Do (abin .eql a0 (.str [91])) fun x3 =>
 Gd x3 true (
 Q (.int .i64 5) H) (
 Q (.int .i64 0) H)))
noncomputable def ir_f51 : AFunc := decF Go.Proofs.YtbkkoplgicffgaaGreatDoor.rb.C ⟨51,[],[],none,[],[]⟩
theorem eq_f51 (Φ : Calls') (a0 : AV) (H : AH) (Q : Post) : fnE1 Φ ir_f51 [a0] H Q = f51 Φ a0 H Q := by kernel_rfl
def f52_k1 (Φ : Calls') (a0 a1 : AV) (Q : Post) : List AV → AH → Prop := fun j1 H2 =>
Φ K.f44 [a0] H2 fun x14 H15 =>
Φ K.f84 [x14, (.int .i64 10), (.int .i64 64)] H15 fun x16 H17 =>
 Do (aextract 0 x16) fun x18 =>
 Do (aextract 1 x16) fun x19 =>
 Do (abin .gtr x18 a1) fun x20 =>
 Gd x20 true (
Φ K.f48 [a0, (.int .i64 9)] H17 fun x21 H22 =>
 Q (.int .u64 0) H22) (
Φ K.f45 [a0] H17 fun x23 H24 =>
 Q x18 H24)
def f52_k2 (Φ : Calls') (a0 a1 : AV) (Q : Post) : List AV → AH → Prop := fun j3 H4 =>
 Gd (sl j3 0) true (
Φ K.f48 [a0, (.int .i64 4)] H4 fun x12 H13 =>
 Q (.int .u64 0) H13) (
 JoinP (f52_k1 Φ a0 a1 Q) [] H4)
def f52 (Φ : Calls') (a0 a1 : AV) (H : AH) (Q : Post) : Prop :=
Φ K.f43 [a0] H fun x5 H6 =>
 Gd3 x5 false (
Φ K.f44 [a0] H6 fun x7 H8 =>
Φ K.f83 [x7] H8 fun x9 H10 =>
 Do (aun .not x9) fun x11 =>
 JoinP (f52_k2 Φ a0 a1 Q) [x11] H10) (
 JoinP (f52_k2 Φ a0 a1 Q) [(.bool true)] H6) (
 False)
noncomputable def ir_f52 : AFunc := decF Go.Proofs.YtbkkoplgicffgaaGreatDoor.rb.C ⟨52,[],[],none,[],[]⟩
theorem eq_f52 (Φ : Calls') (a0 a1 : AV) (H : AH) (Q : Post) : fnE1 Φ ir_f52 [a0, a1] H Q = f52 Φ a0 a1 H Q := by kernel_rfl
def f53_k1 (Φ : Calls') (a0 x1 x3 : AV) (Q : Post) : List AV → AH → Prop := fun j19 H20 =>
Φ K.f22 [a0, (.str [59])] H20 fun x35 H36 =>
 Do (aload H36 9 true x3) fun x37 =>
 Do (astore H36 9 x1 x37) fun H38 =>
 Do (aload H38 9 true x1) fun x39 =>
 Q x39 H38
def f53_k2 (Φ : Calls') (a0 x1 x3 : AV) (Q : Post) : List AV → AH → Prop := fun j21 H22 =>
 Gd (sl j21 0) true (
Φ K.f22 [a0, (.str [58])] H22 fun x26 H27 =>
 Do (afaddr 7 x3) fun x28 =>
 Do (astore H27 1 x28 (.bool true)) fun H29 =>
Φ K.f52 [a0, (.int .u64 1073741824)] H29 fun x30 H31 =>
 Do (aconv .i64 x30) fun x32 =>
 Do (afaddr 8 x3) fun x33 =>
 Do (astore H31 1 x33 x32) fun H34 =>
 JoinP (f53_k1 Φ a0 x1 x3 Q) [] H34) (
 JoinP (f53_k1 Φ a0 x1 x3 Q) [] H22)
def f53_k3 (Φ : Calls') (a0 a1 x1 x3 x5 : AV) (Q : Post) : List AV → AH → Prop := fun j7 H8 =>
 Do (abin .add a1 (.int .i64 1)) fun x14 =>
Φ K.f21 [a0, x14] H8 fun x15 H16 =>
 Do (afaddr 1 x3) fun x17 =>
 Do (astore H16 6 x17 x15) fun H18 =>
 Gd3 x5 false (
Φ K.f44 [a0] H18 fun x23 H24 =>
 Do (abin .eql x23 (.str [58])) fun x25 =>
 JoinP (f53_k2 Φ a0 x1 x3 Q) [x25] H24) (
 JoinP (f53_k2 Φ a0 x1 x3 Q) [(.bool true)] H18) (
 False)
def f53 (Φ : Calls') (a0 a1 : AV) (H : AH) (Q : Post) : Prop :=
 DoH (some (abox H true [.str [], .int .i64 0, .int .i64 0, .bool false, .lst .nil 0 [], .int .i64 0, .lst .nil 0 [], .bool false, .int .i64 0])) fun x1 H2 =>
 DoH (some (abox H2 true [.str [], .int .i64 0, .int .i64 0, .bool false, .lst .nil 0 [], .int .i64 0, .lst .nil 0 [], .bool false, .int .i64 0])) fun x3 H4 =>
Φ K.f19 [a0, (.str [95])] H4 fun x5 H6 =>
 Do (aun .not x5) fun x9 =>
 Gd x9 true (
Φ K.f20 [a0] H6 fun x10 H11 =>
 Do (afaddr 0 x3) fun x12 =>
 Do (astore H11 1 x12 x10) fun H13 =>
 JoinP (f53_k3 Φ a0 a1 x1 x3 x5 Q) [] H13) (
 JoinP (f53_k3 Φ a0 a1 x1 x3 x5 Q) [] H6)
noncomputable def ir_f53 : AFunc := decF Go.Proofs.YtbkkoplgicffgaaGreatDoor.rb.C ⟨53,[4,5],[],none,[],[]⟩
theorem eq_f53 (Φ : Calls') (a0 a1 : AV) (H : AH) (Q : Post) : fnE1 Φ ir_f53 [a0, a1] H Q = f53 Φ a0 a1 H Q := by kernel_rfl
def f54_k1 (Φ : Calls') (a0 x1 x10 : AV) (Q : Post) : List AV → AH → Prop := fun j13 H14 =>
Φ K.f22 [a0, (.str [59])] H14 fun x27 H28 =>
 Do (aload H28 10 true x10) fun x29 =>
 Do (astore H28 10 x1 x29) fun H30 =>
 Do (aload H30 10 true x1) fun x31 =>
 Q x31 H30
def f54 (Φ : Calls') (a0 a1 : AV) (H : AH) (Q : Post) : Prop :=
 DoH (some (abox H true [.int .i64 0, .int .i64 0, .str [], .str [], .int .i64 0, .str [], .lst .nil 0 [], .lst .nil 0 [], .lst .nil 0 [], .lst .nil 0 []])) fun x1 H2 =>
 Do (anilck a0) fun x3 =>
 Do (afaddr 0 x3) fun x4 =>
 Do (aload H2 1 false x4) fun x5 =>
 Do (aiaddr none 2 x5 (.int .i64 0)) fun x6 =>
 Do (afaddr 1 x6) fun x7 =>
 Do (aload H2 1 false x7) fun x8 =>
 Do (abuild [.int .i64 0, .int .i64 0, .str [], .str [], .int .i64 0, .str [], .lst .nil 0 [], .lst .nil 0 [], .lst .nil 0 [], .lst .nil 0 []] [(1, 1, x8)]) fun x9 =>
 DoH (some (abox H2 true [.int .i64 0, .int .i64 0, .str [], .str [], .int .i64 0, .str [], .lst .nil 0 [], .lst .nil 0 [], .lst .nil 0 [], .lst .nil 0 []])) fun x10 H11 =>
 Do (astore H11 10 x10 x9) fun H12 =>
Φ K.f19 [a0, (.str [108, 101, 116])] H12 fun x15 H16 =>
 Gd x15 true (
Φ K.f20 [a0] H16 fun x17 H18 =>
Φ K.f85 [a0, a1] H18 fun x19 H20 =>
 Do (afaddr 0 x10) fun x21 =>
 Do (astore H20 1 x21 (.int .i64 1)) fun H22 =>
 Do (afaddr 2 x10) fun x23 =>
 Do (astore H22 1 x23 x17) fun H24 =>
 Do (afaddr 7 x10) fun x25 =>
 Do (astore H24 1 x25 x19) fun H26 =>
 JoinP (f54_k1 Φ a0 x1 x10 Q) [] H26) (
Φ K.f19 [a0, (.str [115, 101, 116])] H16 fun x32 H33 =>
 Gd x32 true (
Φ K.f20 [a0] H33 fun x34 H35 =>
Φ K.f85 [a0, a1] H35 fun x36 H37 =>
 Do (afaddr 0 x10) fun x38 =>
 Do (astore H37 1 x38 (.int .i64 2)) fun H39 =>
 Do (afaddr 2 x10) fun x40 =>
 Do (astore H39 1 x40 x34) fun H41 =>
 Do (afaddr 7 x10) fun x42 =>
 Do (astore H41 1 x42 x36) fun H43 =>
 JoinP (f54_k1 Φ a0 x1 x10 Q) [] H43) (
Φ K.f19 [a0, (.str [119, 114, 105, 116, 101])] H33 fun x44 H45 =>
 Gd x44 true (
Φ K.f86 [a0, a1] H45 fun x46 H47 =>
Φ K.f85 [a0, a1] H47 fun x48 H49 =>
 Do (afaddr 0 x10) fun x50 =>
 Do (astore H49 1 x50 (.int .i64 3)) fun H51 =>
 Do (afaddr 5 x10) fun x52 =>
 Do (astore H51 2 x52 x46) fun H53 =>
 Do (afaddr 7 x10) fun x54 =>
 Do (astore H53 1 x54 x48) fun H55 =>
 JoinP (f54_k1 Φ a0 x1 x10 Q) [] H55) (
Φ K.f19 [a0, (.str [115, 116, 111, 114, 101])] H45 fun x56 H57 =>
 Gd x56 true (
Φ K.f87 [a0] H57 fun x58 H59 =>
Φ K.f86 [a0, a1] H59 fun x60 H61 =>
Φ K.f85 [a0, a1] H61 fun x62 H63 =>
 Do (afaddr 0 x10) fun x64 =>
 Do (astore H63 1 x64 (.int .i64 4)) fun H65 =>
 Do (afaddr 4 x10) fun x66 =>
 Do (astore H65 1 x66 x58) fun H67 =>
 Do (afaddr 5 x10) fun x68 =>
 Do (astore H67 2 x68 x60) fun H69 =>
 Do (afaddr 7 x10) fun x70 =>
 Do (astore H69 1 x70 x62) fun H71 =>
 JoinP (f54_k1 Φ a0 x1 x10 Q) [] H71) (
Φ K.f19 [a0, (.str [108, 111, 97, 100, 50])] H57 fun x72 H73 =>
 Gd x72 true (
Φ K.f87 [a0] H73 fun x74 H75 =>
Φ K.f86 [a0, a1] H75 fun x76 H77 =>
Φ K.f20 [a0] H77 fun x78 H79 =>
Φ K.f20 [a0] H79 fun x80 H81 =>
 Do (afaddr 0 x10) fun x82 =>
 Do (astore H81 1 x82 (.int .i64 5)) fun H83 =>
 Do (afaddr 4 x10) fun x84 =>
 Do (astore H83 1 x84 x74) fun H85 =>
 Do (afaddr 5 x10) fun x86 =>
 Do (astore H85 2 x86 x76) fun H87 =>
 Do (afaddr 2 x10) fun x88 =>
 Do (astore H87 1 x88 x78) fun H89 =>
 Do (afaddr 3 x10) fun x90 =>
 Do (astore H89 1 x90 x80) fun H91 =>
 JoinP (f54_k1 Φ a0 x1 x10 Q) [] H91) (
Φ K.f19 [a0, (.str [115, 116, 111, 114, 101, 50])] H73 fun x92 H93 =>
 Gd x92 true (
Φ K.f87 [a0] H93 fun x94 H95 =>
Φ K.f86 [a0, a1] H95 fun x96 H97 =>
Φ K.f85 [a0, a1] H97 fun x98 H99 =>
 Do (afaddr 0 x10) fun x100 =>
 Do (astore H99 1 x100 (.int .i64 6)) fun H101 =>
 Do (afaddr 4 x10) fun x102 =>
 Do (astore H101 1 x102 x94) fun H103 =>
 Do (afaddr 5 x10) fun x104 =>
 Do (astore H103 2 x104 x96) fun H105 =>
 Do (afaddr 7 x10) fun x106 =>
 Do (astore H105 1 x106 x98) fun H107 =>
Φ K.f22 [a0, (.str [44])] H107 fun x108 H109 =>
 Do (afaddr 7 x10) fun x110 =>
 Do (aload H109 1 false x110) fun x111 =>
 Do (abin .add a1 (.int .i64 1)) fun x112 =>
Φ K.f88 [a0, x112] H109 fun x113 H114 =>
(aload H114 1 false x110 = some x111) ∧
(DoH (abslice H114 false 8 1 [.int .i64 0, .int .u64 0, .str [], .int .i64 0, .int .i64 0, .str [], .lst .nil 0 [], .lst .nil 0 []] [(0, 8, x113)]) fun x115 H116 =>
 DoH (aappend H116 false 8 112 x111 x115) fun x117 H118 =>
 Do (afaddr 7 x10) fun x119 =>
 Do (astore H118 1 x119 x117) fun H120 =>
 JoinP (f54_k1 Φ a0 x1 x10 Q) [] H120)) (
Φ K.f19 [a0, (.str [102, 101, 110, 99, 101])] H93 fun x121 H122 =>
 Gd x121 true (
Φ K.f87 [a0] H122 fun x123 H124 =>
 Do (afaddr 0 x10) fun x125 =>
 Do (astore H124 1 x125 (.int .i64 7)) fun H126 =>
 Do (afaddr 4 x10) fun x127 =>
 Do (astore H126 1 x127 x123) fun H128 =>
 JoinP (f54_k1 Φ a0 x1 x10 Q) [] H128) (
Φ K.f19 [a0, (.str [112, 114, 105, 110, 116])] H122 fun x129 H130 =>
 Gd x129 true (
 Do (abin .add a1 (.int .i64 1)) fun x131 =>
Φ K.f88 [a0, x131] H130 fun x132 H133 =>
 DoH (abslice H133 false 8 1 [.int .i64 0, .int .u64 0, .str [], .int .i64 0, .int .i64 0, .str [], .lst .nil 0 [], .lst .nil 0 []] [(0, 8, x132)]) fun x134 H135 =>
 Do (afaddr 0 x10) fun x136 =>
 Do (astore H135 1 x136 (.int .i64 10)) fun H137 =>
 Do (afaddr 7 x10) fun x138 =>
 Do (astore H137 1 x138 x134) fun H139 =>
 JoinP (f54_k1 Φ a0 x1 x10 Q) [] H139) (
 Do (aload H130 10 true x10) fun x140 =>
Φ K.f89 [a0, x140, a1] H130 fun x141 H142 =>
 Do (astore H142 10 x1 x141) fun H143 =>
 Do (aload H143 10 true x1) fun x144 =>
 Q x144 H143))))))))
noncomputable def ir_f54 : AFunc := decF Go.Proofs.YtbkkoplgicffgaaGreatDoor.rb.C ⟨54,[4,5],[],none,[],[]⟩
def f55_k1 (Φ : Calls') (s33 : List AV × AH) (L34 : (List AV × AH) → Prop) (Q : Post) : List AV → AH → Prop := fun j36 H37 =>
 Do (abin .add (sl s33.1 0) (.int .i64 1)) fun x60 =>
 L34 ([x60], H37)
def f55_k2 (Φ : Calls') (a0 x40 : AV) (s33 : List AV × AH) (L34 : (List AV × AH) → Prop) (Q : Post) : List AV → AH → Prop := fun j43 H44 =>
 Do (aload H44 8 true x40) fun x57 =>
Φ K.f55 [a0, x57] H44 fun x58 H59 =>
 JoinP (f55_k1 Φ s33 L34 Q) [] H59
def f55_k3 (Φ : Calls') (a0 : AV) (Q : Post) : List AV → AH → Prop := fun j28 H29 =>
 DoH (abslice H29 false 1 1 [.str []] [(0, 1, (.str [41]))]) fun x61 H62 =>
Φ K.f26 [a0, x61] H62 fun x63 H64 =>
 Q (.tup []) H64
def f55_l4 (Φ : Calls') (a0 x1 x31 x32 : AV) (Q : Post) : (List AV × AH) → ((List AV × AH) → Prop) → Prop := fun s33 L34 =>
 Do (abin .lss (sl s33.1 0) x32) fun x35 =>
 Gd x35 true (
 Do (aiaddr none 8 x31 (sl s33.1 0)) fun x38 =>
 Do (aload s33.2 8 true x38) fun x39 =>
 DoH (some (abox s33.2 true [.int .i64 0, .int .u64 0, .str [], .int .i64 0, .int .i64 0, .str [], .lst .nil 0 [], .lst .nil 0 []])) fun x40 H41 =>
 Do (astore H41 8 x40 x39) fun H42 =>
 Do (abin .eql (sl s33.1 0) (.int .i64 1)) fun x45 =>
 Gd x45 true (
 Do (afaddr 3 x1) fun x46 =>
 Do (aload H42 1 false x46) fun x47 =>
 Do (abin .sub x47 (.int .i64 1)) fun x48 =>
 DoH (abslice H42 false 1 11 [.str []] [(0, 1, (.str [43])), (1, 1, (.str [45])), (2, 1, (.str [42])), (3, 1, (.str [38])), (4, 1, (.str [124])), (5, 1, (.str [94])), (6, 1, (.str [60, 60])), (7, 1, (.str [62, 62])), (8, 1, (.str [61, 61])), (9, 1, (.str [33, 61])), (10, 1, (.str [60]))]) fun x49 H50 =>
Φ K.f61 [x48, x49] H50 fun x51 H52 =>
 DoH (abslice H52 false 1 1 [.str []] [(0, 1, x51)]) fun x53 H54 =>
Φ K.f26 [a0, x53] H54 fun x55 H56 =>
 JoinP (f55_k2 Φ a0 x40 s33 L34 Q) [] H56) (
 JoinP (f55_k2 Φ a0 x40 s33 L34 Q) [] H42)) (
 JoinP (f55_k3 Φ a0 Q) [] s33.2)
def f55 (Φ : Calls') (a0 a1 : AV) (H : AH) (Q : Post) : Prop :=
 DoH (aboxv H false 8 a1) fun x1 H2 =>
Φ K.f59 [a0] H2 fun x3 H4 =>
 Gd x3 true (
 Q (.tup []) H4) (
 Do (afaddr 0 x1) fun x5 =>
 Do (aload H4 1 false x5) fun x6 =>
 Do (abin .eql x6 (.int .i64 1)) fun x7 =>
 Gd x7 true (
 Do (afaddr 1 x1) fun x8 =>
 Do (aload H4 1 false x8) fun x9 =>
Φ K.f90 [x9, (.int .i64 10)] H4 fun x10 H11 =>
 DoH (abslice H11 false 1 1 [.str []] [(0, 1, x10)]) fun x12 H13 =>
Φ K.f26 [a0, x12] H13 fun x14 H15 =>
 Q (.tup []) H15) (
 Do (abin .eql x6 (.int .i64 2)) fun x16 =>
 Gd x16 true (
 Do (afaddr 2 x1) fun x17 =>
 Do (aload H4 1 false x17) fun x18 =>
 DoH (abslice H4 false 1 1 [.str []] [(0, 1, x18)]) fun x19 H20 =>
Φ K.f26 [a0, x19] H20 fun x21 H22 =>
 Q (.tup []) H22) (
 Do (abin .eql x6 (.int .i64 3)) fun x23 =>
 Gd x23 true (
 DoH (abslice H4 false 1 1 [.str []] [(0, 1, (.str [40]))]) fun x24 H25 =>
Φ K.f26 [a0, x24] H25 fun x26 H27 =>
 Do (afaddr 7 x1) fun x30 =>
 Do (aload H27 1 false x30) fun x31 =>
 Do (alen false x31) fun x32 =>
 LoopP (f55_l4 Φ a0 x1 x31 x32 Q) ([(.int .i64 0)], H27)) (
 Do (abin .eql x6 (.int .i64 4)) fun x65 =>
 Gd x65 true (
 DoH (abslice H4 false 1 1 [.str []] [(0, 1, (.str [114, 101, 97, 100]))]) fun x66 H67 =>
Φ K.f26 [a0, x66] H67 fun x68 H69 =>
 Do (afaddr 5 x1) fun x70 =>
 Do (aload H69 2 true x70) fun x71 =>
Φ K.f91 [a0, x71] H69 fun x72 H73 =>
 Q (.tup []) H73) (
 Do (afaddr 0 x1) fun x74 =>
 Do (aload H4 1 false x74) fun x75 =>
 Do (abin .sub x75 (.int .i64 5)) fun x76 =>
 DoH (abslice H4 false 1 4 [.str []] [(0, 1, (.str [108, 111, 97, 100])), (1, 1, (.str [97, 100, 100])), (2, 1, (.str [115, 119, 97, 112])), (3, 1, (.str [99, 97, 115]))]) fun x77 H78 =>
Φ K.f61 [x76, x77] H78 fun x79 H80 =>
 DoH (abslice H80 false 1 1 [.str []] [(0, 1, x79)]) fun x81 H82 =>
Φ K.f26 [a0, x81] H82 fun x83 H84 =>
 Do (afaddr 4 x1) fun x85 =>
 Do (aload H84 1 false x85) fun x86 =>
Φ K.f92 [a0, x86] H84 fun x87 H88 =>
 Do (afaddr 5 x1) fun x89 =>
 Do (aload H88 2 true x89) fun x90 =>
Φ K.f91 [a0, x90] H88 fun x91 H92 =>
 Do (afaddr 7 x1) fun x93 =>
 Do (aload H92 1 false x93) fun x94 =>
Φ K.f93 [x94, (.fn (K.f55 + 1048576) [a0])] H92 fun x95 H96 =>
 Q (.tup []) H96)))))
noncomputable def ir_f55 : AFunc := decF Go.Proofs.YtbkkoplgicffgaaGreatDoor.rb.C ⟨55,[5],[[54]],none,[],[]⟩
def f56_k1 (Φ : Calls') (x1 x3 : AV) (Q : Post) : List AV → AH → Prop := fun j38 H39 =>
 Gd3 (sl j38 0) true (
 Do (afaddr 7 x1) fun x46 =>
 Do (aload H39 1 false x46) fun x47 =>
 Do (afaddr 7 x3) fun x48 =>
 Do (aload H39 1 false x48) fun x49 =>
Φ K.f72 [x47, x49, (.fn K.f56 [])] H39 fun x50 H51 =>
 Q x50 H51) (
 Q (.bool false) H39) (
 False)
def f56_k2 (Φ : Calls') (x1 x3 : AV) (Q : Post) : List AV → AH → Prop := fun j31 H32 =>
 Gd3 (sl j31 0) true (
 Do (afaddr 5 x1) fun x40 =>
 Do (aload H32 2 true x40) fun x41 =>
 Do (afaddr 5 x3) fun x42 =>
 Do (aload H32 2 true x42) fun x43 =>
Φ K.f71 [x41, x43] H32 fun x44 H45 =>
 JoinP (f56_k1 Φ x1 x3 Q) [x44] H45) (
 JoinP (f56_k1 Φ x1 x3 Q) [(.bool false)] H32) (
 False)
def f56_k3 (Φ : Calls') (x1 x3 : AV) (Q : Post) : List AV → AH → Prop := fun j24 H25 =>
 Gd3 (sl j24 0) true (
 Do (afaddr 4 x1) fun x33 =>
 Do (aload H25 1 false x33) fun x34 =>
 Do (afaddr 4 x3) fun x35 =>
 Do (aload H25 1 false x35) fun x36 =>
 Do (abin .eql x34 x36) fun x37 =>
 JoinP (f56_k2 Φ x1 x3 Q) [x37] H25) (
 JoinP (f56_k2 Φ x1 x3 Q) [(.bool false)] H25) (
 False)
def f56_k4 (Φ : Calls') (x1 x3 : AV) (Q : Post) : List AV → AH → Prop := fun j17 H18 =>
 Gd3 (sl j17 0) true (
 Do (afaddr 3 x1) fun x26 =>
 Do (aload H18 1 false x26) fun x27 =>
 Do (afaddr 3 x3) fun x28 =>
 Do (aload H18 1 false x28) fun x29 =>
 Do (abin .eql x27 x29) fun x30 =>
 JoinP (f56_k3 Φ x1 x3 Q) [x30] H18) (
 JoinP (f56_k3 Φ x1 x3 Q) [(.bool false)] H18) (
 False)
def f56_k5 (Φ : Calls') (x1 x3 : AV) (Q : Post) : List AV → AH → Prop := fun j5 H6 =>
 Gd3 (sl j5 0) true (
 Do (afaddr 2 x1) fun x19 =>
 Do (aload H6 1 false x19) fun x20 =>
 Do (afaddr 2 x3) fun x21 =>
 Do (aload H6 1 false x21) fun x22 =>
 Do (abin .eql x20 x22) fun x23 =>
 JoinP (f56_k4 Φ x1 x3 Q) [x23] H6) (
 JoinP (f56_k4 Φ x1 x3 Q) [(.bool false)] H6) (
 False)
def f56 (Φ : Calls') (a0 a1 : AV) (H : AH) (Q : Post) : Prop :=
 DoH (aboxv H false 8 a0) fun x1 H2 =>
 DoH (aboxv H2 false 8 a1) fun x3 H4 =>
 Do (afaddr 0 x1) fun x7 =>
 Do (aload H4 1 false x7) fun x8 =>
 Do (afaddr 0 x3) fun x9 =>
 Do (aload H4 1 false x9) fun x10 =>
 Do (abin .eql x8 x10) fun x11 =>
 Gd3 x11 true (
 Do (afaddr 1 x1) fun x12 =>
 Do (aload H4 1 false x12) fun x13 =>
 Do (afaddr 1 x3) fun x14 =>
 Do (aload H4 1 false x14) fun x15 =>
 Do (abin .eql x13 x15) fun x16 =>
 JoinP (f56_k5 Φ x1 x3 Q) [x16] H4) (
 JoinP (f56_k5 Φ x1 x3 Q) [(.bool false)] H4) (
 False)
noncomputable def ir_f56 : AFunc := decF Go.Proofs.YtbkkoplgicffgaaGreatDoor.rb.C ⟨56,[],[],none,[],[]⟩
def f59 (Φ : Calls') (a0 : AV) (H : AH) (Q : Post) : Prop :=
 Do (anilck a0) fun x1 =>
 Do (afaddr 0 x1) fun x2 =>
Φ K.f57 [x2] H fun x3 H4 =>
 Do (abin .gtr x3 (.int .i64 4194304)) fun x5 =>
 Q x5 H4
noncomputable def ir_f59 : AFunc := decF Go.Proofs.YtbkkoplgicffgaaGreatDoor.rb.C ⟨59,[],[],none,[],[]⟩
theorem eq_f59 (Φ : Calls') (a0 : AV) (H : AH) (Q : Post) : fnE1 Φ ir_f59 [a0] H Q = f59 Φ a0 H Q := by kernel_rfl
def f60 (Φ : Calls') (a0 : AV) (H : AH) (Q : Post) : Prop :=
Φ K.f95 [a0] H fun x1 H2 =>
 Q x1 H2
noncomputable def ir_f60 : AFunc := decF Go.Proofs.YtbkkoplgicffgaaGreatDoor.rb.C ⟨60,[],[],none,[],[]⟩
theorem eq_f60 (Φ : Calls') (a0 : AV) (H : AH) (Q : Post) : fnE1 Φ ir_f60 [a0] H Q = f60 Φ a0 H Q := by kernel_rfl
def f61_k1 (Φ : Calls') (a0 a1 : AV) (Q : Post) : List AV → AH → Prop := fun j1 H2 =>
 Do (aiaddr none 1 a1 a0) fun x8 =>
 Do (aload H2 1 false x8) fun x9 =>
 Q x9 H2
def f61_k2 (Φ : Calls') (a0 a1 : AV) (Q : Post) : List AV → AH → Prop := fun j3 H4 =>
 Gd (sl j3 0) true (
 Q (.str []) H4) (
 JoinP (f61_k1 Φ a0 a1 Q) [] H4)
def f61 (Φ : Calls') (a0 a1 : AV) (H : AH) (Q : Post) : Prop :=
 Do (abin .lss a0 (.int .i64 0)) fun x5 =>
 Gd3 x5 false (
 Do (alen false a1) fun x6 =>
 Do (abin .geq a0 x6) fun x7 =>
 JoinP (f61_k2 Φ a0 a1 Q) [x7] H) (
 JoinP (f61_k2 Φ a0 a1 Q) [(.bool true)] H) (
 False)
noncomputable def ir_f61 : AFunc := decF Go.Proofs.YtbkkoplgicffgaaGreatDoor.rb.C ⟨61,[],[],none,[],[]⟩
theorem eq_f61 (Φ : Calls') (a0 a1 : AV) (H : AH) (Q : Post) : fnE1 Φ ir_f61 [a0, a1] H Q = f61 Φ a0 a1 H Q := by kernel_rfl
def f62_l1 (Φ : Calls') (a0 a1 x1 : AV) (Q : Post) : (List AV × AH) → ((List AV × AH) → Prop) → Prop := fun s2 L3 =>
 Do (abin .lss (sl s2.1 0) x1) fun x4 =>
 Gd x4 true (
 Do (aiaddr none 9 a0 (sl s2.1 0)) fun x5 =>
 Do (aload s2.2 9 true x5) fun x6 =>
 DoH (some (abox s2.2 true [.str [], .int .i64 0, .int .i64 0, .bool false, .lst .nil 0 [], .int .i64 0, .lst .nil 0 [], .bool false, .int .i64 0])) fun x7 H8 =>
 Do (astore H8 9 x7 x6) fun H9 =>
 Do (aload H9 9 true x7) fun x10 =>
∃ k13 c14, a1 = .fn k13 c14 ∧ Φ (fkey k13) (fargs k13 [x10] c14) H9 fun x11 H12 =>
 Do (abin .add (sl s2.1 0) (.int .i64 1)) fun x15 =>
 L3 ([x15], H12)) (
 Q (.tup []) s2.2)
def f62 (Φ : Calls') (a0 a1 : AV) (H : AH) (Q : Post) : Prop :=
 Do (alen false a0) fun x1 =>
 LoopP (f62_l1 Φ a0 a1 x1 Q) ([(.int .i64 0)], H)
noncomputable def ir_f62 : AFunc := decF Go.Proofs.YtbkkoplgicffgaaGreatDoor.rb.C ⟨62,[5],[[8]],none,[],[]⟩
theorem eq_f62 (Φ : Calls') (a0 a1 : AV) (H : AH) (Q : Post) : fnE1 Φ ir_f62 [a0, a1] H Q = f62 Φ a0 a1 H Q := by kernel_rfl
def f63_k1 (Φ : Calls') (a0 : AV) (Q : Post) : List AV → AH → Prop := fun j16 H17 =>
 DoH (abslice H17 false 1 1 [.str []] [(0, 1, (.str [59]))]) fun x28 H29 =>
Φ K.f26 [a0, x28] H29 fun x30 H31 =>
 Q (.tup []) H31
def f63_k2 (Φ : Calls') (a0 x1 : AV) (Q : Post) : List AV → AH → Prop := fun j3 H4 =>
 Do (afaddr 1 x1) fun x12 =>
 Do (aload H4 6 true x12) fun x13 =>
Φ K.f27 [a0, x13] H4 fun x14 H15 =>
 Do (afaddr 7 x1) fun x18 =>
 Do (aload H15 1 false x18) fun x19 =>
 Gd x19 true (
 Do (afaddr 8 x1) fun x20 =>
 Do (aload H15 1 false x20) fun x21 =>
Φ K.f60 [x21] H15 fun x22 H23 =>
 DoH (abslice H23 false 1 2 [.str []] [(0, 1, (.str [58])), (1, 1, x22)]) fun x24 H25 =>
Φ K.f26 [a0, x24] H25 fun x26 H27 =>
 JoinP (f63_k1 Φ a0 Q) [] H27) (
 JoinP (f63_k1 Φ a0 Q) [] H15)
def f63 (Φ : Calls') (a0 a1 : AV) (H : AH) (Q : Post) : Prop :=
 DoH (aboxv H false 9 a1) fun x1 H2 =>
 Do (afaddr 0 x1) fun x5 =>
 Do (aload H2 1 false x5) fun x6 =>
 Do (abin .eql x6 (.str [])) fun x7 =>
 Gd x7 true (
 DoH (abslice H2 false 1 1 [.str []] [(0, 1, (.str [95]))]) fun x8 H9 =>
Φ K.f26 [a0, x8] H9 fun x10 H11 =>
 JoinP (f63_k2 Φ a0 x1 Q) [] H11) (
 Do (afaddr 0 x1) fun x32 =>
 Do (aload H2 1 false x32) fun x33 =>
 DoH (abslice H2 false 1 1 [.str []] [(0, 1, x33)]) fun x34 H35 =>
Φ K.f26 [a0, x34] H35 fun x36 H37 =>
 JoinP (f63_k2 Φ a0 x1 Q) [] H37)
noncomputable def ir_f63 : AFunc := decF Go.Proofs.YtbkkoplgicffgaaGreatDoor.rb.C ⟨63,[],[],none,[],[]⟩
theorem eq_f63 (Φ : Calls') (a0 a1 : AV) (H : AH) (Q : Post) : fnE1 Φ ir_f63 [a0, a1] H Q = f63 Φ a0 a1 H Q := by kernel_rfl
def f64_l1 (Φ : Calls') (a0 a1 x1 : AV) (Q : Post) : (List AV × AH) → ((List AV × AH) → Prop) → Prop := fun s2 L3 =>
 Do (abin .lss (sl s2.1 0) x1) fun x4 =>
 Gd x4 true (
 Do (aiaddr none 10 a0 (sl s2.1 0)) fun x5 =>
 Do (aload s2.2 10 true x5) fun x6 =>
 DoH (some (abox s2.2 true [.int .i64 0, .int .i64 0, .str [], .str [], .int .i64 0, .str [], .lst .nil 0 [], .lst .nil 0 [], .lst .nil 0 [], .lst .nil 0 []])) fun x7 H8 =>
 Do (astore H8 10 x7 x6) fun H9 =>
 Do (aload H9 10 true x7) fun x10 =>
∃ k13 c14, a1 = .fn k13 c14 ∧ Φ (fkey k13) (fargs k13 [x10] c14) H9 fun x11 H12 =>
 Do (abin .add (sl s2.1 0) (.int .i64 1)) fun x15 =>
 L3 ([x15], H12)) (
 Q (.tup []) s2.2)
def f64 (Φ : Calls') (a0 a1 : AV) (H : AH) (Q : Post) : Prop :=
 Do (alen false a0) fun x1 =>
 LoopP (f64_l1 Φ a0 a1 x1 Q) ([(.int .i64 0)], H)
noncomputable def ir_f64 : AFunc := decF Go.Proofs.YtbkkoplgicffgaaGreatDoor.rb.C ⟨64,[5],[[8]],none,[],[]⟩
def f65_k1 (Φ : Calls') (a0 x1 : AV) (Q : Post) : List AV → AH → Prop := fun j33 H34 =>
 Do (afaddr 8 x1) fun x47 =>
 Do (aload H34 1 false x47) fun x48 =>
Φ K.f28 [a0, x48] H34 fun x49 H50 =>
 Do (afaddr 9 x1) fun x51 =>
 Do (aload H50 1 false x51) fun x52 =>
 Do (alen false x52) fun x53 =>
 Do (abin .gtr x53 (.int .i64 0)) fun x54 =>
 Gd x54 true (
 DoH (abslice H50 false 1 1 [.str []] [(0, 1, (.str [101, 108, 115, 101]))]) fun x55 H56 =>
Φ K.f26 [a0, x55] H56 fun x57 H58 =>
 Do (afaddr 9 x1) fun x59 =>
 Do (aload H58 1 false x59) fun x60 =>
Φ K.f28 [a0, x60] H58 fun x61 H62 =>
 Q (.tup []) H62) (
 Q (.tup []) H50)
def f65_k2 (Φ : Calls') (a0 x1 : AV) (Q : Post) : List AV → AH → Prop := fun j35 H36 =>
 Gd (sl j35 0) true (
 DoH (abslice H36 false 1 1 [.str []] [(0, 1, (.str [59]))]) fun x43 H44 =>
Φ K.f26 [a0, x43] H44 fun x45 H46 =>
 Q (.tup []) H46) (
 JoinP (f65_k1 Φ a0 x1 Q) [] H36)
def f65_k3 (Φ : Calls') (a0 x1 : AV) (Q : Post) : List AV → AH → Prop := fun j16 H17 =>
 Do (afaddr 7 x1) fun x29 =>
 Do (aload H17 1 false x29) fun x30 =>
Φ K.f96 [a0, x30] H17 fun x31 H32 =>
 Do (afaddr 0 x1) fun x37 =>
 Do (aload H32 1 false x37) fun x38 =>
 Do (abin .neq x38 (.int .i64 8)) fun x39 =>
 Gd3 x39 true (
 Do (afaddr 0 x1) fun x40 =>
 Do (aload H32 1 false x40) fun x41 =>
 Do (abin .neq x41 (.int .i64 9)) fun x42 =>
 JoinP (f65_k2 Φ a0 x1 Q) [x42] H32) (
 JoinP (f65_k2 Φ a0 x1 Q) [(.bool false)] H32) (
 False)
def f65_k4 (Φ : Calls') (a0 x1 x19 : AV) (Q : Post) : List AV → AH → Prop := fun j72 H73 =>
 Gd (sl j72 0) true (
 Do (afaddr 4 x1) fun x75 =>
 Do (aload H73 1 false x75) fun x76 =>
Φ K.f92 [a0, x76] H73 fun x77 H78 =>
 Do (afaddr 5 x1) fun x79 =>
 Do (aload H78 2 true x79) fun x80 =>
Φ K.f91 [a0, x80] H78 fun x81 H82 =>
 DoH (abslice H82 false 1 1 [.str []] [(0, 1, (.str [61]))]) fun x83 H84 =>
Φ K.f26 [a0, x83] H84 fun x85 H86 =>
 JoinP (f65_k3 Φ a0 x1 Q) [] H86) (
 Do (abin .eql x19 (.int .i64 5)) fun x87 =>
 Gd x87 true (
 Do (afaddr 4 x1) fun x88 =>
 Do (aload H73 1 false x88) fun x89 =>
Φ K.f92 [a0, x89] H73 fun x90 H91 =>
 Do (afaddr 5 x1) fun x92 =>
 Do (aload H91 2 true x92) fun x93 =>
Φ K.f91 [a0, x93] H91 fun x94 H95 =>
 Do (afaddr 2 x1) fun x96 =>
 Do (aload H95 1 false x96) fun x97 =>
 Do (afaddr 3 x1) fun x98 =>
 Do (aload H95 1 false x98) fun x99 =>
 DoH (abslice H95 false 1 2 [.str []] [(0, 1, x97), (1, 1, x99)]) fun x100 H101 =>
Φ K.f26 [a0, x100] H101 fun x102 H103 =>
 JoinP (f65_k3 Φ a0 x1 Q) [] H103) (
 Do (abin .eql x19 (.int .i64 7)) fun x104 =>
 Gd x104 true (
 Do (afaddr 4 x1) fun x105 =>
 Do (aload H73 1 false x105) fun x106 =>
Φ K.f92 [a0, x106] H73 fun x107 H108 =>
 JoinP (f65_k3 Φ a0 x1 Q) [] H108) (
 JoinP (f65_k3 Φ a0 x1 Q) [] H73)))
def f65_k5 (Φ : Calls') (a0 x1 x19 : AV) (Q : Post) : List AV → AH → Prop := fun j20 H21 =>
 Gd (sl j20 0) true (
 Do (afaddr 2 x1) fun x23 =>
 Do (aload H21 1 false x23) fun x24 =>
 DoH (abslice H21 false 1 2 [.str []] [(0, 1, x24), (1, 1, (.str [61]))]) fun x25 H26 =>
Φ K.f26 [a0, x25] H26 fun x27 H28 =>
 JoinP (f65_k3 Φ a0 x1 Q) [] H28) (
 Do (abin .eql x19 (.int .i64 3)) fun x63 =>
 Gd x63 true (
 Do (afaddr 5 x1) fun x64 =>
 Do (aload H21 2 true x64) fun x65 =>
Φ K.f91 [a0, x65] H21 fun x66 H67 =>
 DoH (abslice H67 false 1 1 [.str []] [(0, 1, (.str [61]))]) fun x68 H69 =>
Φ K.f26 [a0, x68] H69 fun x70 H71 =>
 JoinP (f65_k3 Φ a0 x1 Q) [] H71) (
 Do (abin .eql x19 (.int .i64 4)) fun x74 =>
 Gd x74 true (
 JoinP (f65_k4 Φ a0 x1 x19 Q) [x74] H21) (
 Do (abin .eql x19 (.int .i64 6)) fun x109 =>
 JoinP (f65_k4 Φ a0 x1 x19 Q) [x109] H21)))
def f65 (Φ : Calls') (a0 a1 : AV) (H : AH) (Q : Post) : Prop :=
 DoH (aboxv H false 10 a1) fun x1 H2 =>
Φ K.f59 [a0] H2 fun x3 H4 =>
 Gd x3 true (
 Q (.tup []) H4) (
 Do (afaddr 0 x1) fun x5 =>
 Do (aload H4 1 false x5) fun x6 =>
 Do (abin .sub x6 (.int .i64 1)) fun x7 =>
 DoH (abslice H4 false 1 10 [.str []] [(0, 1, (.str [108, 101, 116])), (1, 1, (.str [115, 101, 116])), (2, 1, (.str [119, 114, 105, 116, 101])), (3, 1, (.str [115, 116, 111, 114, 101])), (4, 1, (.str [108, 111, 97, 100, 50])), (5, 1, (.str [115, 116, 111, 114, 101, 50])), (6, 1, (.str [102, 101, 110, 99, 101])), (7, 1, (.str [105, 102])), (8, 1, (.str [119, 104, 105, 108, 101])), (9, 1, (.str [112, 114, 105, 110, 116]))]) fun x8 H9 =>
Φ K.f61 [x7, x8] H9 fun x10 H11 =>
 DoH (abslice H11 false 1 1 [.str []] [(0, 1, x10)]) fun x12 H13 =>
Φ K.f26 [a0, x12] H13 fun x14 H15 =>
 Do (afaddr 0 x1) fun x18 =>
 Do (aload H15 1 false x18) fun x19 =>
 Do (abin .eql x19 (.int .i64 1)) fun x22 =>
 Gd x22 true (
 JoinP (f65_k5 Φ a0 x1 x19 Q) [x22] H15) (
 Do (abin .eql x19 (.int .i64 2)) fun x110 =>
 JoinP (f65_k5 Φ a0 x1 x19 Q) [x110] H15))
noncomputable def ir_f65 : AFunc := decF Go.Proofs.YtbkkoplgicffgaaGreatDoor.rb.C ⟨65,[],[],none,[],[]⟩
def f66_l1 (Φ : Calls') (a0 : AV) (Q : Post) : (List AV × AH) → ((List AV × AH) → Prop) → Prop := fun s20 L21 =>
 Do (alen true (.str [123, 125, 91, 93, 40, 41, 59, 58, 44, 46, 43, 45, 42, 38, 124, 94])) fun x22 =>
 Do (abin .lss (sl s20.1 0) x22) fun x23 =>
 Gd x23 true (
 Do (aidxs (.str [123, 125, 91, 93, 40, 41, 59, 58, 44, 46, 43, 45, 42, 38, 124, 94]) (sl s20.1 0)) fun x24 =>
 Do (abin .eql x24 a0) fun x25 =>
 Gd x25 true (
 Q (.int .i64 4) s20.2) (
 Do (abin .add (sl s20.1 0) (.int .i64 1)) fun x26 =>
 L21 ([x26], s20.2))) (
 Q (.int .i64 0) s20.2)
def f66_k2 (Φ : Calls') (a0 : AV) (Q : Post) : List AV → AH → Prop := fun j1 H2 =>
 LoopP (f66_l1 Φ a0 Q) ([(.int .i64 0)], H2)
def f66_k3 (Φ : Calls') (a0 : AV) (Q : Post) : List AV → AH → Prop := fun j16 H17 =>
 Gd (sl j16 0) true (
 Q (.int .i64 6) H17) (
 JoinP (f66_k2 Φ a0 Q) [] H17)
def f66_k4 (Φ : Calls') (a0 : AV) (Q : Post) : List AV → AH → Prop := fun j12 H13 =>
 Gd (sl j12 0) true (
 Q (.int .i64 5) H13) (
 Do (abin .eql a0 (.int .u8 60)) fun x18 =>
 Gd3 x18 false (
 Do (abin .eql a0 (.int .u8 62)) fun x19 =>
 JoinP (f66_k3 Φ a0 Q) [x19] H13) (
 JoinP (f66_k3 Φ a0 Q) [(.bool true)] H13) (
 False))
def f66_k5 (Φ : Calls') (a0 : AV) (Q : Post) : List AV → AH → Prop := fun j7 H8 =>
 Gd (sl j7 0) true (
 Q (.int .i64 2) H8) (
 Do (abin .eql a0 (.int .u8 95)) fun x11 =>
 Gd x11 true (
 Q (.int .i64 3) H8) (
 Do (abin .eql a0 (.int .u8 61)) fun x14 =>
 Gd3 x14 false (
 Do (abin .eql a0 (.int .u8 33)) fun x15 =>
 JoinP (f66_k4 Φ a0 Q) [x15] H8) (
 JoinP (f66_k4 Φ a0 Q) [(.bool true)] H8) (
 False)))
def f66_k6 (Φ : Calls') (a0 : AV) (Q : Post) : List AV → AH → Prop := fun j3 H4 =>
 Gd (sl j3 0) true (
 Q (.int .i64 1) H4) (
 Do (abin .geq a0 (.int .u8 48)) fun x9 =>
 Gd3 x9 true (
 Do (abin .leq a0 (.int .u8 57)) fun x10 =>
 JoinP (f66_k5 Φ a0 Q) [x10] H4) (
 JoinP (f66_k5 Φ a0 Q) [(.bool false)] H4) (
 False))
def f66 (Φ : Calls') (a0 : AV) (H : AH) (Q : Post) : Prop :=
 Do (abin .geq a0 (.int .u8 97)) fun x5 =>
 Gd3 x5 true (
 Do (abin .leq a0 (.int .u8 122)) fun x6 =>
 JoinP (f66_k6 Φ a0 Q) [x6] H) (
 JoinP (f66_k6 Φ a0 Q) [(.bool false)] H) (
 False)
noncomputable def ir_f66 : AFunc := decF Go.Proofs.YtbkkoplgicffgaaGreatDoor.rb.C ⟨66,[],[[4]],none,[],[]⟩
def f67 (Φ : Calls') (a0 : AV) (H : AH) (Q : Post) : Prop :=
 Do (alen true a0) fun x1 =>
 Do (alen true (.str [49, 56, 52, 52, 54, 55, 52, 52, 48, 55, 51, 55, 48, 57, 53, 53, 49, 54, 49, 53])) fun x2 =>
 Do (abin .gtr x1 x2) fun x3 =>
 Gd3 x3 false (
 Do (alen true a0) fun x4 =>
 Do (alen true (.str [49, 56, 52, 52, 54, 55, 52, 52, 48, 55, 51, 55, 48, 57, 53, 53, 49, 54, 49, 53])) fun x5 =>
 Do (abin .eql x4 x5) fun x6 =>
 Gd3 x6 true (
 Do (abin .gtr a0 (.str [49, 56, 52, 52, 54, 55, 52, 52, 48, 55, 51, 55, 48, 57, 53, 53, 49, 54, 49, 53])) fun x7 =>
 Q x7 H) (
 Q (.bool false) H) (
 False)) (
 Q (.bool true) H) (
 False)
noncomputable def ir_f67 : AFunc := decF Go.Proofs.YtbkkoplgicffgaaGreatDoor.rb.C ⟨67,[],[],none,[],[]⟩
def f68_l1 (Φ : Calls') (a0 a1 a2 x4 : AV) (Q : Post) : (List AV × AH) → ((List AV × AH) → Prop) → Prop := fun s5 L6 =>
 Do (abin .lss (sl s5.1 0) x4) fun x7 =>
 Gd x7 true (
 Do (aiaddr none 6 a0 (sl s5.1 0)) fun x8 =>
 Do (aload s5.2 6 true x8) fun x9 =>
 DoH (some (abox s5.2 true [.int .i64 0, .int .i64 0, .bool false, .lst .nil 0 [], .int .i64 0, .lst .nil 0 []])) fun x10 H11 =>
 Do (astore H11 6 x10 x9) fun H12 =>
 Do (aiaddr none 6 a1 (sl s5.1 0)) fun x13 =>
 Do (aload H12 6 true x13) fun x14 =>
 DoH (some (abox H12 true [.int .i64 0, .int .i64 0, .bool false, .lst .nil 0 [], .int .i64 0, .lst .nil 0 []])) fun x15 H16 =>
 Do (astore H16 6 x15 x14) fun H17 =>
 Do (aload H17 6 true x10) fun x18 =>
 Do (aload H17 6 true x15) fun x19 =>
∃ k22 c23, a2 = .fn k22 c23 ∧ Φ (fkey k22) (fargs k22 [x18, x19] c23) H17 fun x20 H21 =>
 Do (aun .not x20) fun x24 =>
 Gd x24 true (
 Q (.bool false) H21) (
 Do (abin .add (sl s5.1 0) (.int .i64 1)) fun x25 =>
 L6 ([x25], H21))) (
 Q (.bool true) s5.2)
def f68 (Φ : Calls') (a0 a1 a2 : AV) (H : AH) (Q : Post) : Prop :=
 Do (alen false a0) fun x1 =>
 Do (alen false a1) fun x2 =>
 Do (abin .neq x1 x2) fun x3 =>
 Gd x3 true (
 Q (.bool false) H) (
 Do (alen false a0) fun x4 =>
 LoopP (f68_l1 Φ a0 a1 a2 x4 Q) ([(.int .i64 0)], H))
noncomputable def ir_f68 : AFunc := decF Go.Proofs.YtbkkoplgicffgaaGreatDoor.rb.C ⟨68,[8,9],[[17]],none,[],[]⟩
theorem eq_f68 (Φ : Calls') (a0 a1 a2 : AV) (H : AH) (Q : Post) : fnE1 Φ ir_f68 [a0, a1, a2] H Q = f68 Φ a0 a1 a2 H Q := by kernel_rfl
def f69_l1 (Φ : Calls') (a0 a1 a2 x4 : AV) (Q : Post) : (List AV × AH) → ((List AV × AH) → Prop) → Prop := fun s5 L6 =>
 Do (abin .lss (sl s5.1 0) x4) fun x7 =>
 Gd x7 true (
 Do (aiaddr none 9 a0 (sl s5.1 0)) fun x8 =>
 Do (aload s5.2 9 true x8) fun x9 =>
 DoH (some (abox s5.2 true [.str [], .int .i64 0, .int .i64 0, .bool false, .lst .nil 0 [], .int .i64 0, .lst .nil 0 [], .bool false, .int .i64 0])) fun x10 H11 =>
 Do (astore H11 9 x10 x9) fun H12 =>
 Do (aiaddr none 9 a1 (sl s5.1 0)) fun x13 =>
 Do (aload H12 9 true x13) fun x14 =>
 DoH (some (abox H12 true [.str [], .int .i64 0, .int .i64 0, .bool false, .lst .nil 0 [], .int .i64 0, .lst .nil 0 [], .bool false, .int .i64 0])) fun x15 H16 =>
 Do (astore H16 9 x15 x14) fun H17 =>
 Do (aload H17 9 true x10) fun x18 =>
 Do (aload H17 9 true x15) fun x19 =>
∃ k22 c23, a2 = .fn k22 c23 ∧ Φ (fkey k22) (fargs k22 [x18, x19] c23) H17 fun x20 H21 =>
 Do (aun .not x20) fun x24 =>
 Gd x24 true (
 Q (.bool false) H21) (
 Do (abin .add (sl s5.1 0) (.int .i64 1)) fun x25 =>
 L6 ([x25], H21))) (
 Q (.bool true) s5.2)
def f69 (Φ : Calls') (a0 a1 a2 : AV) (H : AH) (Q : Post) : Prop :=
 Do (alen false a0) fun x1 =>
 Do (alen false a1) fun x2 =>
 Do (abin .neq x1 x2) fun x3 =>
 Gd x3 true (
 Q (.bool false) H) (
 Do (alen false a0) fun x4 =>
 LoopP (f69_l1 Φ a0 a1 a2 x4 Q) ([(.int .i64 0)], H))
noncomputable def ir_f69 : AFunc := decF Go.Proofs.YtbkkoplgicffgaaGreatDoor.rb.C ⟨69,[8,9],[[17]],none,[],[]⟩
theorem eq_f69 (Φ : Calls') (a0 a1 a2 : AV) (H : AH) (Q : Post) : fnE1 Φ ir_f69 [a0, a1, a2] H Q = f69 Φ a0 a1 a2 H Q := by kernel_rfl
def f70_k1 (Φ : Calls') (x1 x3 : AV) (Q : Post) : List AV → AH → Prop := fun j17 H18 =>
 Gd3 (sl j17 0) true (
 Do (afaddr 1 x1) fun x24 =>
 Do (aload H18 6 true x24) fun x25 =>
 Do (afaddr 1 x3) fun x26 =>
 Do (aload H18 6 true x26) fun x27 =>
Φ K.f33 [x25, x27] H18 fun x28 H29 =>
 Q x28 H29) (
 Q (.bool false) H18) (
 False)
def f70_k2 (Φ : Calls') (x1 x3 : AV) (Q : Post) : List AV → AH → Prop := fun j5 H6 =>
 Gd3 (sl j5 0) true (
 Do (afaddr 8 x1) fun x19 =>
 Do (aload H6 1 false x19) fun x20 =>
 Do (afaddr 8 x3) fun x21 =>
 Do (aload H6 1 false x21) fun x22 =>
 Do (abin .eql x20 x22) fun x23 =>
 JoinP (f70_k1 Φ x1 x3 Q) [x23] H6) (
 JoinP (f70_k1 Φ x1 x3 Q) [(.bool false)] H6) (
 False)
def f70 (Φ : Calls') (a0 a1 : AV) (H : AH) (Q : Post) : Prop :=
 DoH (aboxv H false 9 a0) fun x1 H2 =>
 DoH (aboxv H2 false 9 a1) fun x3 H4 =>
 Do (afaddr 0 x1) fun x7 =>
 Do (aload H4 1 false x7) fun x8 =>
 Do (afaddr 0 x3) fun x9 =>
 Do (aload H4 1 false x9) fun x10 =>
 Do (abin .eql x8 x10) fun x11 =>
 Gd3 x11 true (
 Do (afaddr 7 x1) fun x12 =>
 Do (aload H4 1 false x12) fun x13 =>
 Do (afaddr 7 x3) fun x14 =>
 Do (aload H4 1 false x14) fun x15 =>
 Do (abeq false x13 x15) fun x16 =>
 JoinP (f70_k2 Φ x1 x3 Q) [x16] H4) (
 JoinP (f70_k2 Φ x1 x3 Q) [(.bool false)] H4) (
 False)
noncomputable def ir_f70 : AFunc := decF Go.Proofs.YtbkkoplgicffgaaGreatDoor.rb.C ⟨70,[],[],none,[],[]⟩
theorem eq_f70 (Φ : Calls') (a0 a1 : AV) (H : AH) (Q : Post) : fnE1 Φ ir_f70 [a0, a1] H Q = f70 Φ a0 a1 H Q := by kernel_rfl
def f71 (Φ : Calls') (a0 a1 : AV) (H : AH) (Q : Post) : Prop :=
 DoH (aboxv H false 2 a0) fun x1 H2 =>
 DoH (aboxv H2 false 2 a1) fun x3 H4 =>
 Do (afaddr 0 x1) fun x5 =>
 Do (aload H4 1 false x5) fun x6 =>
 Do (afaddr 0 x3) fun x7 =>
 Do (aload H4 1 false x7) fun x8 =>
 Do (abin .eql x6 x8) fun x9 =>
 Gd3 x9 true (
 Do (afaddr 1 x1) fun x10 =>
 Do (aload H4 1 false x10) fun x11 =>
 Do (afaddr 1 x3) fun x12 =>
 Do (aload H4 1 false x12) fun x13 =>
Φ K.f97 [x11, x13, (.fn K.f98 [])] H4 fun x14 H15 =>
 Q x14 H15) (
 Q (.bool false) H4) (
 False)
noncomputable def ir_f71 : AFunc := decF Go.Proofs.YtbkkoplgicffgaaGreatDoor.rb.C ⟨71,[],[],none,[],[]⟩
end Rb.S
