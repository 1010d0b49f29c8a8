/- A part of the proof (part 5): see the last text. -/
import Derived.Test.YtbdhmikigkgoiaaDoorRb4
import Derived.Test.YtbdhmikigkgoiaaDoorRb3
import Derived.Lib.DecodeN
/- New variables, and what is read of them. -/
set_option linter.unusedVariables false
set_option linter.unusedSimpArgs false
namespace Rb
open Go

@[simp] theorem AH.push_set (H : AH) (x y : AObj) : (H.push x).set H.n y = H.push y := by
  simp only [AH.push, AH.set]
  congr 1
  funext j
  split <;> rfl
@[simp] theorem load_push (H : AH) (cs : List AV) (n o : Nat) (agg : Bool) : aload (H.push (.row cs)) n agg (.ptr H.n o) = takeCells cs o n agg := by
  simp [aload, AH.push_self]
theorem store_push (H : AH) (cs : List AV) (n o : Nat) (v : AV) (h1 : v.known = true) (h2 : v.cells.length = n) (h3 : v.cells.all AV.scalar = true) (h4 : o + n ≤ cs.length) : astore (H.push (.row cs)) n (.ptr H.n o) v = some (H.push (.row (setCells cs o v.cells))) := by
  rw [(At.new H (.row cs)).store, if_pos ⟨h1, h2, h3, h4⟩, AH.push_set]
theorem setCells_all {xs ys : List AV} : ∀ {k : Nat}, k + ys.length = xs.length → setCells xs k ys = xs.take k ++ ys := by
  induction ys generalizing xs with
  | nil => intro k h; simp only [setCells]; rw [List.append_nil, List.take_of_length_le (by simp at h; omega)]
  | cons y ys ih =>
    intro k h
    simp only [setCells]
    rw [ih (by simp at h ⊢; omega)]
    have hk : k < xs.length := by simp at h; omega
    rw [List.take_add_one, List.getElem?_set_self hk, List.take_set_of_le (by omega)]
    simp
/-- A new variable gets a struct. -/
theorem store_new (H : AH) (zs cs : List AV) (n : Nat) (h2 : cs.length = n) (h3 : cs.all AV.scalar = true) (h4 : zs.length = n) : astore (H.push (.row zs)) n (.ptr H.n 0) (.agg cs) = some (H.push (.row cs)) := by
  rw [store_push H zs n 0 (.agg cs) rfl h2 h3 (by omega)]
  congr 3
  show setCells zs 0 cs = cs
  rw [setCells_all (by omega)]; rfl

theorem takeCells_app {a b : List AV} {n : Nat} (h : a.length = n) : takeCells (a ++ b) 0 n true = some (.agg a) := by
  unfold takeCells
  rw [if_pos (by rw [List.length_append]; omega)]
  simp only [if_true, List.drop_zero]
  rw [List.take_append_of_le_length (by omega), List.take_of_length_le (by omega)]
theorem takeCells_whole {a : List AV} {n : Nat} (h : a.length = n) : takeCells a 0 n true = some (.agg a) := by
  have := takeCells_app (a := a) (b := []) h
  rwa [List.append_nil] at this
theorem takeCells_drop {cs : List AV} {o n : Nat} {agg : Bool} (h : o ≤ cs.length) : takeCells cs o n agg = takeCells (cs.drop o) 0 n agg := by
  by_cases hl : o + n ≤ cs.length
  · have hl' : 0 + n ≤ (cs.drop o).length := by rw [List.length_drop]; omega
    unfold takeCells
    simp only [hl, hl', if_true]
    cases agg <;> simp
  · have hl' : ¬ 0 + n ≤ (cs.drop o).length := by rw [List.length_drop]; omega
    unfold takeCells
    simp only [hl, hl', if_false]

/-- Frozen values may lie in a cell. -/
theorem froz_scalar : ∀ {cs : List AV}, (∀ c ∈ cs, c.scalar = true) → cs.all AV.scalar = true := fun h => List.all_eq_true.2 h
mutual
theorem GType.scalar : ∀ x : GType, x.cells.all AV.scalar = true
  | .mk kind size packed fields count elem => by simp [GType.cells, AV.scalar]
theorem GField.scalar : ∀ x : GField, x.cells.all AV.scalar = true
  | .mk name type bits width => by simp only [GField.cells, List.all_cons, List.all_append, GType.scalar type]; rfl
end
theorem GPlace.scalar (x : GPlace) : x.cells.all AV.scalar = true := by rw [GPlace.cells_eq]; rfl
theorem GPart.scalar (x : GPart) : x.cells.all AV.scalar = true := by rw [GPart.cells_eq]; rfl
theorem GExpr.scalar (x : GExpr) : x.cells.all AV.scalar = true := by rw [GExpr.cells_eq]; simp only [List.all_cons, List.all_append, GPlace.scalar]; rfl
theorem GStmt.scalar (x : GStmt) : x.cells.all AV.scalar = true := by rw [GStmt.cells_eq]; simp only [List.all_cons, List.all_append, GPlace.scalar]; rfl
theorem GVar.scalar (x : GVar) : x.cells.all AV.scalar = true := by simp only [GVar.cells, List.all_cons, GType.scalar]; rfl
end Rb

/- Slices of numbers held against one another. -/
set_option linter.unusedVariables false
set_option linter.unusedSimpArgs false
namespace Rb
open Go

/-- A number's cell. -/
def i1 (k : IntKind) (z : Int) : List AV := [.int k z]
theorem i1_len (k : IntKind) (z : Int) : (i1 k z).length = 1 := rfl

section
variable {α : Type} {c : α → AV}
theorem one_load (H : AH) {xs : List α} {i : Nat} {x : α} (hx : xs[i]? = some x) : aload H 1 false (elA (fun x => [c x]) 1 xs i) = some (c x) := by
  have hlt := (List.getElem?_eq_some_iff.1 hx).1
  have hd : xs.drop i = x :: xs.drop (i + 1) := by
    rw [List.drop_eq_getElem_cons hlt]
    rw [List.getElem?_eq_getElem hlt] at hx
    simp at hx
    rw [hx]
  show takeCells ((xs.flatMap fun x => [c x]).drop (i * 1)) 0 1 false = _
  rw [flatMap_drop (sz := 1) (fun _ => rfl), hd, List.flatMap_cons]
  rfl
end
theorem num_load {k : IntKind} (H : AH) {xs : List Int} {i : Nat} {x : Int} (hx : xs[i]? = some x) : aload H 1 false (elA (i1 k) 1 xs i) = some (.int k x) := one_load H hx

def EqualL (a0 : AV) (a1 : AV) (x4 : AV) (Q : Post) : (List AV × AH) → ((List AV × AH) → Prop) → Prop := fun s5 L6 =>
 Do (abin .lss (sl s5.1 0) x4) fun x7 =>
 Gd x7 true (
 Do (aiaddr none 1 a0 (sl s5.1 0)) fun x8 =>
 Do (aload s5.2 1 false x8) fun x9 =>
 Do (aiaddr none 1 a1 (sl s5.1 0)) fun x10 =>
 Do (aload s5.2 1 false x10) fun x11 =>
 Do (abin .neq x9 x11) fun x12 =>
 Gd x12 true (
 Q (.bool false) s5.2) (
 Do (abin .add (sl s5.1 0) (.int .i64 1)) fun x13 =>
 L6 ([x13], s5.2))) (
 Q (.bool true) s5.2)
/-- slices.Equal of numbers. -/
def Equal (a0 : AV) (a1 : AV) (H : AH) (Q : Post) : Prop :=
 Do (alen false a0) fun x1 =>
 Do (alen false a1) fun x2 =>
 Do (abin .neq x1 x2) fun x3 =>
 Gd x3 true (
 Q (.bool false) H) (
 Do (alen false a0) fun x4 =>
 LoopP (EqualL a0 a1 x4 Q) ([(.int .i64 0)], H))

theorem lstA_len' {α : Type} (cells : α → List AV) (xs : List α) : alen false (lstA cells xs) = some (.int .i64 xs.length) := rfl
theorem ne_len {α : Type} {xs ys : List α} [BEq α] [LawfulBEq α] (h : xs.length ≠ ys.length) : (xs == ys) = false := by
  rw [beq_eq_false_iff_ne]; intro e; exact h (by rw [e])

theorem Equal_spec {k : IntKind} {xs ys : List Int} {H : AH} {Q : Post} (hl : xs.length ≤ 9223372036854775807) (hQ : Q (.bool (xs == ys)) H) : Equal (lstA (i1 k) xs) (lstA (i1 k) ys) H Q := by
  unfold Equal
  simp only [lstA_len', Do_of, abin_neq, Gd_true]
  by_cases he : xs.length = ys.length
  · rw [if_neg (by simp [he])]
    have main : ∀ (us vs : List Int) (i : Nat), xs.drop i = us → ys.drop i = vs → us.length = vs.length → Q (.bool (us == vs)) H → LoopP (EqualL (lstA (i1 k) xs) (lstA (i1 k) ys) (.int .i64 xs.length) Q) ([.int .i64 i], H) := by
      intro us
      induction us with
      | nil =>
        intro vs i hu hv hlen hq
        have hle := drop_nil_le hu
        obtain rfl : vs = [] := by cases vs with | nil => rfl | cons _ _ => cases hlen
        refine LoopP.step ?_
        simp only [EqualL, sl_zero, abin_lss, Do_of, Gd_true]
        rw [if_neg (by simp only [decide_eq_true_eq]; omega)]
        exact hq
      | cons u us ih =>
        intro vs i hu hv hlen hq
        cases vs with
        | nil => cases hlen
        | cons v vs =>
          obtain ⟨hlt, hu1, hu2⟩ := drop_cons_lt hu
          obtain ⟨hlt', hv1, hv2⟩ := drop_cons_lt hv
          refine LoopP.step ?_
          simp only [EqualL, sl_zero, abin_lss, Do_of, Gd_true]
          rw [if_pos (by simp only [decide_eq_true_eq]; omega), lstA_addr hlt, lstA_addr hlt']
          simp only [Do_of]
          rw [num_load H hu1, num_load H hv1]
          simp only [Do_of, abin_neq, Gd_true]
          by_cases hx : u = v
          · subst hx
            rw [if_neg (by simp)]
            simp only [abin_add, Do_of]
            rw [wrap_i64 (by omega) (by omega), show ((i : Int) + 1) = ((i + 1 : Nat) : Int) by simp]
            refine ih vs (i + 1) hu2 hv2 (by simpa using hlen) ?_
            simpa using hq
          · rw [if_pos (by simpa using hx)]
            have : (u :: us == v :: vs) = false := by rw [beq_eq_false_iff_ne]; intro e; cases e; exact hx rfl
            rw [this] at hq; exact hq
    exact main xs ys 0 rfl rfl he hQ
  · rw [if_pos (by simpa using fun e => he (by omega))]
    rw [ne_len he] at hQ; exact hQ

def SameL (a0 : AV) (a1 : AV) (Q : Post) : (List AV × AH) → ((List AV × AH) → Prop) → Prop := fun s4 L5 =>
 Do (alen false a0) fun x6 =>
 Do (abin .lss (sl s4.1 0) x6) fun x7 =>
 Gd x7 true (
 Do (aiaddr none 1 a0 (sl s4.1 0)) fun x8 =>
 Do (aload s4.2 1 false x8) fun x9 =>
 Do (aiaddr none 1 a1 (sl s4.1 0)) fun x10 =>
 Do (aload s4.2 1 false x10) fun x11 =>
 Do (abin .neq x9 x11) fun x12 =>
 Gd x12 true (
 Q (.bool false) s4.2) (
 Do (abin .add (sl s4.1 0) (.int .i64 1)) fun x13 =>
 L5 ([x13], s4.2))) (
 Q (.bool true) s4.2)
def SameD (a0 : AV) (a1 : AV) (H : AH) (Q : Post) : Prop :=
 Do (alen false a0) fun x1 =>
 Do (alen false a1) fun x2 =>
 Do (abin .neq x1 x2) fun x3 =>
 Gd x3 true (
 Q (.bool false) H) (
 LoopP (SameL a0 a1 Q) ([(.int .i64 0)], H))
theorem SameD_spec {k : IntKind} {xs ys : List Int} {H : AH} {Q : Post} (hl : xs.length ≤ 9223372036854775807) (hQ : Q (.bool (xs == ys)) H) : SameD (lstA (i1 k) xs) (lstA (i1 k) ys) H Q := by
  have e : SameL (lstA (i1 k) xs) (lstA (i1 k) ys) Q = EqualL (lstA (i1 k) xs) (lstA (i1 k) ys) (.int .i64 xs.length) Q := by
    funext s L
    unfold SameL EqualL
    rw [lstA_len']
    simp only [Do_of]
  have := Equal_spec (k := k) (ys := ys) hl hQ
  unfold Equal at this
  unfold SameD
  rw [e]
  simp only [lstA_len', Do_of] at this ⊢
  exact this

/-- Bytes as a text. -/
theorem bytes_str {H : AH} : ∀ {xs : List Int}, (∀ x ∈ xs, 0 ≤ x ∧ x ≤ 255) → abstr H (lstA (i1 .u8) xs) = some (.str (xs.map fun x => UInt8.ofNat x.toNat)) := by
  intro xs hx
  have h1 : ∀ ys : List Int, cellBytes (ys.flatMap (i1 .u8)) = some (ys.map fun x => UInt8.ofNat x.toNat) := by
    intro ys
    induction ys with
    | nil => rfl
    | cons y ys ih =>
      rw [List.flatMap_cons]
      show cellBytes (.int .u8 y :: ys.flatMap (i1 .u8)) = _
      unfold cellBytes
      rw [ih]; rfl
  simp only [abstr, lstA, acells]
  rw [if_pos (by rw [flatMap_len (i1_len _)])]
  simp only [h1, Option.map_some]
theorem bytes_eq {xs ys : List Int} (hx : ∀ x ∈ xs, 0 ≤ x ∧ x ≤ 255) (hy : ∀ x ∈ ys, 0 ≤ x ∧ x ≤ 255) : ((xs.map fun x => UInt8.ofNat x.toNat) == ys.map fun x => UInt8.ofNat x.toNat) = (xs == ys) := by
  rw [Bool.eq_iff_iff]
  simp only [beq_iff_eq]
  constructor
  · intro h
    induction xs generalizing ys with
    | nil => cases ys with | nil => rfl | cons _ _ => cases h
    | cons x xs ih =>
      cases ys with
      | nil => cases h
      | cons y ys =>
        simp only [List.map_cons, List.cons.injEq] at h
        obtain ⟨h1, h2⟩ := h
        have h3 := hx x (by simp)
        have h4 := hy y (by simp)
        have h5 := congrArg UInt8.toNat h1
        simp only [UInt8.toNat_ofNat'] at h5
        rw [ih (fun z hz => hx z (by simp [hz])) (fun z hz => hy z (by simp [hz])) h2]
        congr 1
        omega
  · intro h; rw [h]
end Rb

/- Types: what the program's package kind, and the document, say of them: models. -/
set_option linter.unusedVariables false
set_option linter.unusedSimpArgs false
namespace Rb
open Go

/-- A call that gives a value, and leaves the memory as it is. -/
def Val (Φ : Calls') (k : Nat) (args : List AV) (v : AV) : Prop := ∀ (H : AH) (Q : Post), Q v H → Φ k args H Q
theorem Val.of {C : Ctx} (hGT : GTok C) {k : Nat} {args : List AV} {v : AV} (ha : AV.frozs args = true) (hv : v.froz = true) (h : ∀ Q : Post, (∀ H', Q v H') → ACall C k args AH.mt Q) : Val (ACall C) k args v :=
  fun H Q hQ => ACall.frame2 (Q := fun u _ => u = v) hGT (h _ fun _ => rfl) ha H Q fun u _ hu => by subst hu; exact ⟨hv, hQ⟩

/-! Names -/
def isLet (c : UInt8) : Bool := decide (97 ≤ c.toNat) && decide (c.toNat ≤ 122)
def isDig (c : UInt8) : Bool := decide (48 ≤ c.toNat) && decide (c.toNat ≤ 57)
def isPart (c : UInt8) : Bool := isLet c || isDig c || decide (c.toNat = 95)
def nameOk : List UInt8 → Bool
  | [] => false
  | c :: r => decide (r.length < 16) && isLet c && r.all isPart

theorem decodeN_lo {n b0 b1 b2 b3 : Nat} (h : b0 < 128) : Go.Lib.decodeN n b0 b1 b2 b3 = (b0, 1) := by unfold Go.Lib.decodeN; rw [if_pos h]
theorem decodeN_hi {n b0 b1 b2 b3 : Nat} (h : ¬ b0 < 128) : 128 ≤ (Go.Lib.decodeN n b0 b1 b2 b3).1 := by
  unfold Go.Lib.decodeN
  rw [if_neg h]
  repeat' split
  all_goals (dsimp only; omega)
theorem decode_lo {s : List UInt8} {i : Nat} {c : UInt8} (hc : s[i]? = some c) (h : c.toNat < 128) : Utf8.decode ⟨s.toArray⟩ i = (c.toNat, 1) := by
  have e : (ByteArray.mk s.toArray).get! i = c := by
    show s.toArray[i]! = c
    have hi := (List.getElem?_eq_some_iff.1 hc).1
    rw [getElem!_pos s.toArray i (by simpa using hi)]
    simp [List.getElem?_eq_getElem hi] at hc
    simpa using hc
  rw [Go.Lib.decode_at, e, decodeN_lo h]
theorem decode_hi {s : List UInt8} {i : Nat} {c : UInt8} (hc : s[i]? = some c) (h : ¬ c.toNat < 128) : 128 ≤ (Utf8.decode ⟨s.toArray⟩ i).1 := by
  have e : (ByteArray.mk s.toArray).get! i = c := by
    show s.toArray[i]! = c
    have hi := (List.getElem?_eq_some_iff.1 hc).1
    rw [getElem!_pos s.toArray i (by simpa using hi)]
    simp [List.getElem?_eq_getElem hi] at hc
    simpa using hc
  rw [Go.Lib.decode_at, e]
  exact decodeN_hi h

/-! Types -/
def pow2 (n most : Int) : Bool := (n == 1 || n == 2 || n == 4 || n == 8 || n == 16) && decide (n ≤ most)
def onlyM (kind size : Int) (packed : Bool) (nf : Nat) (count : Int) (ne : Nat) : Bool :=
  if kind = 1 ∨ kind = 2 then !packed && nf == 0 && count == 0 && ne == 0
  else if kind = 3 ∨ kind = 4 then size == 0 && count == 0 && ne == 0
  else if kind = 5 then size == 0 && !packed && nf == 0 && ne == 1
  else false

mutual
def sndT : GType → Int
  | .mk kind size packed fields count elem =>
    if onlyM kind size packed fields.length count elem.length = false then 8
    else if kind = 1 then (if pow2 size 8 then 0 else 9)
    else if kind = 2 then (if pow2 size 16 then 0 else 9)
    else if kind = 5 then (if count < 1 ∨ 65536 < count then 9 else sndE elem)
    else if fields.length < 1 ∨ 32 < fields.length then 12
    else sndFs packed [] fields
def sndE : List GType → Int
  | [] => 0
  | t :: _ => sndT t
def sndF (packed : Bool) (seen : List (List UInt8)) : GField → Int
  | .mk name type bits width =>
    if nameOk name = false ∧ (name ≠ [] ∨ bits = false) then 6
    else if name ≠ [] ∧ seen.contains name = true then 7
    else if sndT type ≠ 0 then sndT type
    else if (bits = false ∧ width ≠ 0) ∨ (bits = true ∧ (type.kind ≠ 1 ∨ packed = true)) then 8
    else if bits = true ∧ (width < 0 ∨ 8 * type.size < width ∨ (width = 0 ∧ name ≠ [])) then 9
    else 0
def sndFs (packed : Bool) (seen : List (List UInt8)) : List GField → Int
  | [] => 0
  | f :: r => if sndF packed seen f ≠ 0 then sndF packed seen f else sndFs packed (seen ++ [f.name]) r
end

mutual
def depT (most : Nat) : GType → Int
  | .mk kind size packed fields count elem => if 1 < most then max (depFs (most - 1) fields) (depEs (most - 1) elem) + 1 else 1
def depF (most : Nat) : GField → Int
  | .mk name type bits width => depT most type
def depFs (most : Nat) : List GField → Int
  | [] => 0
  | f :: r => max (depF most f) (depFs most r)
def depEs (most : Nat) : List GType → Int
  | [] => 0
  | t :: r => max (depT most t) (depEs most r)
end
def soundM (t : GType) : Int := if 64 < depT 65 t then 5 else sndT t

theorem GType.ind {P : GType → Prop} (h : ∀ t : GType, (∀ f ∈ t.fields, P f.type) → (∀ e ∈ t.elem, P e) → P t) : ∀ t, P t := by
  have main : ∀ (n : Nat) (t : GType), sizeOf t < n → P t := by
    intro n
    induction n with
    | zero => intro t ht; omega
    | succ n ih =>
      intro t ht
      refine h t (fun f hf => ih _ ?_) fun e he => ih _ ?_
      · cases t with
        | mk kind size packed fields count elem =>
          have := List.sizeOf_lt_of_mem hf
          cases f with
          | mk name type bits width => simp at this ht ⊢; omega
      · cases t with
        | mk kind size packed fields count elem =>
          have := List.sizeOf_lt_of_mem he
          simp at this ht ⊢; omega
  exact fun t => main _ t (Nat.lt_succ_self _)
end Rb

/- What the functions of package kind give. -/
set_option linter.unusedVariables false
set_option linter.unusedSimpArgs false
namespace Rb
open Go

/-! Reading a type, a field -/
theorem ty_box (t : GType) (H : AH) : aboxv H false 6 (.agg t.cells) = some (.fptr t.cells, H) := by unfold aboxv; rw [if_pos ⟨rfl, t.len⟩]; rfl
theorem ty_addr (t : GType) (i : Nat) : afaddr i (.fptr t.cells) = some (.fptr (t.cells.drop i)) := rfl
theorem ty_l0 (t : GType) (H : AH) : aload H 1 false (.fptr (t.cells.drop 0)) = some (.int .i64 t.kind) := by rw [GType.cells_eq]; rfl
theorem ty_l1 (t : GType) (H : AH) : aload H 1 false (.fptr (t.cells.drop 1)) = some (.int .i64 t.size) := by rw [GType.cells_eq]; rfl
theorem ty_l2 (t : GType) (H : AH) : aload H 1 false (.fptr (t.cells.drop 2)) = some (.bool t.packed) := by rw [GType.cells_eq]; rfl
theorem ty_l3 (t : GType) (H : AH) : aload H 1 false (.fptr (t.cells.drop 3)) = some (lstA GField.cells t.fields) := by rw [GType.cells_eq]; rfl
theorem ty_l4 (t : GType) (H : AH) : aload H 1 false (.fptr (t.cells.drop 4)) = some (.int .i64 t.count) := by rw [GType.cells_eq]; rfl
theorem ty_l5 (t : GType) (H : AH) : aload H 1 false (.fptr (t.cells.drop 5)) = some (lstA GType.cells t.elem) := by rw [GType.cells_eq]; rfl
theorem ty_all (t : GType) (H : AH) : aload H 6 true (.fptr t.cells) = some (.agg t.cells) := takeCells_whole t.len
theorem fd_t0 (f : GField) : takeCells f.cells 0 1 false = some (.str f.name) := by cases f with | mk n t b w => cases t; rfl
theorem fd_t7 (f : GField) : takeCells f.cells 7 1 false = some (.bool f.bits) := by cases f with | mk n t b w => cases t; rfl
theorem fd_t8 (f : GField) : takeCells f.cells 8 1 false = some (.int .i64 f.width) := by cases f with | mk n t b w => cases t; rfl
theorem fd_t1 (f : GField) : takeCells f.cells 1 6 true = some (.agg f.type.cells) := by cases f with | mk n t b w => cases t; rfl
theorem fd_k (f : GField) : takeCells f.cells 1 1 false = some (.int .i64 f.type.kind) := by cases f with | mk n t b w => cases t; rfl
theorem fd_s (f : GField) : takeCells f.cells 2 1 false = some (.int .i64 f.type.size) := by cases f with | mk n t b w => cases t; rfl
theorem fd_all (f : GField) : takeCells f.cells 0 9 true = some (.agg f.cells) := takeCells_whole f.len
theorem wrap_i32 {n : Int} (h1 : -2147483648 ≤ n) (h2 : n ≤ 2147483647) : IntKind.wrap .i32 n = n := by
  simp [IntKind.wrap, IntKind.signed, IntKind.bits]; omega
theorem abin_streq' (s t : List UInt8) : abin .eql (.str s) (.str t) = some (.bool (s == t)) := rfl
theorem abin_strne (s t : List UInt8) : abin .neq (.str s) (.str t) = some (.bool (!(s == t))) := rfl
theorem max_int (a b : Int) : aminmax true [.int .i64 a, .int .i64 b] = some (.int .i64 (max a b)) := by
  simp only [aminmax, mmAll, mm2, if_true]
  congr 2
  show (if a < b then b else a) = max a b
  omega

/-! Names -/
def partI (n : Int) : Bool := (decide (97 ≤ n) && decide (n ≤ 122)) || (decide (48 ≤ n) && decide (n ≤ 57)) || decide (n = 95)
theorem partI_lo (c : UInt8) : partI (c.toNat : Int) = isPart c := by
  rw [Bool.eq_iff_iff]; simp [partI, isPart, isLet, isDig]; omega
theorem partI_hi {n : Int} (h : 128 ≤ n) : partI n = false := by
  rw [Bool.eq_false_iff]; simp [partI]; omega
theorem isPart_hi {c : UInt8} (h : ¬ c.toNat < 128) : isPart c = false := by
  rw [Bool.eq_false_iff]; simp [isPart, isLet, isDig]; omega
theorem letI_eq (c : UInt8) : (decide (97 ≤ (c.toNat : Int)) && decide ((c.toNat : Int) ≤ 122)) = isLet c := by
  rw [Bool.eq_iff_iff]; simp [isLet]; omega

section
variable {Φ : Calls'} {H : AH} {Q : Post}

theorem kind_letter_spec {n : Int} (hQ : Q (.bool (decide (97 ≤ n) && decide (n ≤ 122))) H) : S.kind_letter Φ (.int .i32 n) H Q := by
  simp only [S.kind_letter, abin_geq, abin_leq, Do_of, Gd3_true]
  refine ite_both (fun h => ?_) (fun h => ?_)
  · simp only [ge_iff_le, decide_eq_true_eq] at h
    simpa [h] using hQ
  · simp only [ge_iff_le, decide_eq_true_eq] at h
    simpa [h] using hQ

theorem asnext_some {id pos : Nat} {s : List UInt8} (h : At H id (.siter s pos)) (hp : pos < s.length) : asnext H (.ptr id 0) = some (.tup [.bool true, .int .i64 pos, .int .i32 (Utf8.decode ⟨s.toArray⟩ pos).1], H.set id (.siter s (pos + (Utf8.decode ⟨s.toArray⟩ pos).2))) := by
  simp [asnext, h.2, hp]
theorem asnext_none {id pos : Nat} {s : List UInt8} (h : At H id (.siter s pos)) (hp : s.length ≤ pos) : asnext H (.ptr id 0) = some (.tup [.bool false], H) := by
  simp [asnext, h.2, Nat.not_lt.2 hp]

theorem name_body {n : Int} {L : (List AV × AH) → Prop} (hT : Cl Φ S.tab_Chk) (hbad : partI n = false → Q (.bool false) H) (hgood : partI n = true → L ([], H)) :
    Φ K.kind_letter [.int .i32 n] H fun x28 H29 =>
      Do (aun .not x28) fun x30 =>
      Gd3 x30 true (
      Do (abin .neq (.int .i32 n) (.int .i32 95)) fun x31 =>
      JoinP (S.kind_Name_k2 Φ (.int .i32 n) L Q) [x31] H29) (
      JoinP (S.kind_Name_k2 Φ (.int .i32 n) L Q) [(.bool false)] H29) (
      False) := by
  refine S.cl_kind_letter hT (kind_letter_spec ?_)
  have k1 : ∀ b : Bool, b = !partI n → JoinP (S.kind_Name_k1 Φ L Q) [.bool b] H := by
    intro b hb
    simp only [JoinP_def, S.kind_Name_k1, sl_zero, Gd_true]
    refine ite_both (fun h => ?_) (fun h => ?_)
    · exact hbad (by rw [h] at hb; simpa using hb.symm)
    · exact hgood (by simp only [Bool.not_eq_true] at h; rw [h] at hb; simpa using hb.symm)
  simp only [aun_not, Do_of, Gd3_true, abin_neq, JoinP_def, S.kind_Name_k2, sl_zero, abin_lss, abin_gtr, Gd3_false, Bool.false_eq_true, if_false] at k1 ⊢
  generalize S.kind_Name_k1 Φ L Q = KK at k1 ⊢
  repeat' (refine ite_both (fun h => ?_) (fun h => ?_))
  all_goals (refine k1 _ ?_; simp only [Bool.not_eq_true', Bool.and_eq_false_imp, decide_eq_true_eq, decide_eq_false_iff_not, bne_iff_ne, ne_eq, Bool.not_eq_true, Bool.not_eq_false] at *; rw [Bool.eq_iff_iff]; simp [partI]; omega)

theorem kind_Name_spec (hT : Cl Φ S.tab_Chk) {s : List UInt8} (hQ : ∀ H', Q (.bool (nameOk s)) H') : S.kind_Name Φ (.str s) H Q := by
  have main : ∀ (ys : List UInt8) (pos id : Nat) (H : AH), s.drop pos = ys → At H id (.siter s pos) → (∀ H', Q (.bool (ys.all isPart)) H') → LoopP (S.kind_Name_l3 Φ (.ptr id 0) Q) ([], H) := by
    intro ys
    induction ys with
    | nil =>
      intro pos id H hd hat hq
      have hle := drop_nil_le hd
      refine LoopP.step ?_
      simp only [S.kind_Name_l3]
      rw [asnext_none hat hle]
      simp only [DoH_some, aextract, List.getElem?_cons_zero, Do_of, Gd_true, Bool.false_eq_true, if_false]
      simpa using hq H
    | cons y ys ih =>
      intro pos id H hd hat hq
      obtain ⟨hlt, hy, hd'⟩ := drop_cons_lt hd
      refine LoopP.step ?_
      simp only [S.kind_Name_l3]
      rw [asnext_some hat hlt]
      simp only [DoH_some, aextract, List.getElem?_cons_zero, List.getElem?_cons_succ, Do_of, Gd_true, if_true]
      refine name_body hT (fun hb => ?_) (fun hg => ?_)
      · by_cases hlo : y.toNat < 128
        · rw [decode_lo hy hlo] at hb
          simp only [partI_lo] at hb
          have := hq (H.set id (.siter s (pos + (Utf8.decode ⟨s.toArray⟩ pos).2)))
          simpa [hb] using this
        · have := hq (H.set id (.siter s (pos + (Utf8.decode ⟨s.toArray⟩ pos).2)))
          simpa [isPart_hi hlo] using this
      · by_cases hlo : y.toNat < 128
        · rw [decode_lo hy hlo] at hg ⊢
          simp only [partI_lo] at hg
          exact ih (pos + 1) id _ hd' (hat.set _) fun H' => by simpa [hg] using hq H'
        · rw [partI_hi (by have := decode_hi hy hlo; omega)] at hg
          cases hg
  unfold S.kind_Name
  simp only [alen_str, abin_lss, abin_gtr, Do_of, Gd3_false, JoinP_def]
  cases s with
  | nil =>
    simp [S.kind_Name_k6, S.kind_Name_k5, JoinP_def, sl_zero, Gd3_false, Gd_true]
    simpa [nameOk] using hQ H
  | cons c r =>
    rw [if_pos (by simp; omega)]
    have k5 : ∀ b : Bool, (b = false → nameOk (c :: r) = r.all isPart ∧ isPart c = true) → (b = true → nameOk (c :: r) = false) → ∀ H, S.kind_Name_k5 Φ (.str (c :: r)) Q [.bool b] H := by
      intro b h1 h2 H
      simp only [S.kind_Name_k5, sl_zero, Gd_true]
      refine ite_both (fun h => ?_) (fun h => ?_)
      · have := hQ H; rw [h2 h] at this; exact this
      · simp only [Bool.not_eq_true] at h
        obtain ⟨g1, g2⟩ := h1 h
        simp only [JoinP_def, S.kind_Name_k4, asrange, DoH_some]
        refine main (c :: r) 0 H.n _ rfl (At.new H _) fun H' => ?_
        have := hQ H'
        rw [g1] at this
        simpa [g2] using this
    simp only [S.kind_Name_k6, sl_zero, Gd3_false, JoinP_def]
    refine ite_both (fun h => ?_) (fun h => ?_)
    · have hx : aidxs (.str (c :: r)) (.int .i64 0) = some (.int .u8 c.toNat) := by simp [aidxs]
      have hc := c.toNat_lt
      rw [hx]
      simp only [Do_of, aconv_int]
      rw [wrap_i32 (by omega) (by omega)]
      refine S.cl_kind_letter hT (kind_letter_spec ?_)
      rw [letI_eq]
      simp only [aun_not, Do_of]
      have hl : r.length < 16 := by simp at h; omega
      refine k5 _ (fun hb => ?_) (fun hb => ?_) _
      · have : isLet c = true := by simpa using hb
        exact ⟨by simp [nameOk, hl, this], by simp [isPart, this]⟩
      · have : isLet c = false := by simpa using hb
        simp [nameOk, this]
    · refine k5 _ (fun hb => by cases hb) (fun _ => ?_) _
      have hl : ¬ r.length < 16 := by simp at h; omega
      simp [nameOk, hl]
end
end Rb

/- What the functions of package kind give: depth, soundness. -/
set_option linter.unusedVariables false
set_option linter.unusedSimpArgs false
namespace Rb
open Go

mutual
theorem dep_le : ∀ (t : GType) (m : Nat), 1 ≤ m → 1 ≤ depT m t ∧ depT m t ≤ m
  | .mk kind size packed fields count elem, m, hm => by
    simp only [depT]
    split
    · rename_i h
      have h1 := depFs_le fields (m - 1) (by omega)
      have h2 := depEs_le elem (m - 1) (by omega)
      omega
    · omega
theorem depF_le : ∀ (f : GField) (m : Nat), 1 ≤ m → 0 ≤ depF m f ∧ depF m f ≤ m
  | .mk name type bits width, m, hm => by
    have := dep_le type m hm
    simp only [depF]; omega
theorem depFs_le : ∀ (l : List GField) (m : Nat), 1 ≤ m → 0 ≤ depFs m l ∧ depFs m l ≤ m
  | [], m, hm => by simp only [depFs]; omega
  | f :: r, m, hm => by
    have h1 := depF_le f m hm
    have h2 := depFs_le r m hm
    simp only [depFs]; omega
theorem depEs_le : ∀ (l : List GType) (m : Nat), 1 ≤ m → 0 ≤ depEs m l ∧ depEs m l ≤ m
  | [], m, hm => by simp only [depEs]; omega
  | t :: r, m, hm => by
    have h1 := dep_le t m hm
    have h2 := depEs_le r m hm
    simp only [depEs]; omega
end
theorem depF_eq (f : GField) (m : Nat) : depF m f = depT m f.type := by cases f; rfl
theorem depT_eq (t : GType) (m : Nat) : depT m t = if 1 < m then max (depFs (m - 1) t.fields) (depEs (m - 1) t.elem) + 1 else 1 := by cases t; rfl
theorem sndT_eq (t : GType) : sndT t = if onlyM t.kind t.size t.packed t.fields.length t.count t.elem.length = false then 8
    else if t.kind = 1 then (if pow2 t.size 8 then 0 else 9)
    else if t.kind = 2 then (if pow2 t.size 16 then 0 else 9)
    else if t.kind = 5 then (if t.count < 1 ∨ 65536 < t.count then 9 else sndE t.elem)
    else if t.fields.length < 1 ∨ 32 < t.fields.length then 12
    else sndFs t.packed [] t.fields := by cases t; rfl
theorem sndF_eq (packed : Bool) (seen : List (List UInt8)) (f : GField) : sndF packed seen f = if nameOk f.name = false ∧ (f.name ≠ [] ∨ f.bits = false) then 6
    else if f.name ≠ [] ∧ seen.contains f.name = true then 7
    else if sndT f.type ≠ 0 then sndT f.type
    else if (f.bits = false ∧ f.width ≠ 0) ∨ (f.bits = true ∧ (f.type.kind ≠ 1 ∨ packed = true)) then 8
    else if f.bits = true ∧ (f.width < 0 ∨ 8 * f.type.size < f.width ∨ (f.width = 0 ∧ f.name ≠ [])) then 9
    else 0 := by cases f; rfl

section
variable {Φ : Calls'} {H : AH} {Q : Post}

theorem kind_power_spec {n most : Int} (hm : most = 8 ∨ most = 16) (hQ : Q (.bool (pow2 n most)) H) : S.kind_power Φ (.int .i64 n) (.int .i64 most) H Q := by
  have e : ∀ b : Bool, b = pow2 n most → Q (.bool b) H := fun b h => by rw [h]; exact hQ
  simp only [S.kind_power, S.kind_power_k1, JoinP_def, sl_zero, abin_geq, abin_leq, Do_of, Gd3_true, Bool.false_eq_true, if_false]
  refine ite_both (fun h1 => ?_) (fun h1 => ?_)
  · refine ite_both (fun h2 => ?_) (fun h2 => ?_)
    · simp only [ge_iff_le, decide_eq_true_eq] at h1 h2
      have : n = 1 ∨ n = 2 ∨ n = 3 ∨ n = 4 ∨ n = 5 ∨ n = 6 ∨ n = 7 ∨ n = 8 ∨ n = 9 ∨ n = 10 ∨ n = 11 ∨ n = 12 ∨ n = 13 ∨ n = 14 ∨ n = 15 ∨ n = 16 := by omega
      have hle : decide (n ≤ most) = true := by simpa using h2
      simp only [abin_sub, Do_of, abin_and, abin_eql]
      refine e _ ?_
      unfold pow2
      rw [hle, Bool.and_true]
      clear hle h2 h1 hQ e
      rcases this with rfl | rfl | rfl | rfl | rfl | rfl | rfl | rfl | rfl | rfl | rfl | rfl | rfl | rfl | rfl | rfl <;> decide
    · refine e _ ?_
      simp only [decide_eq_true_eq] at h2
      simp [pow2, h2]
  · refine e _ ?_
    simp only [ge_iff_le, decide_eq_true_eq] at h1
    have : n ≠ 1 ∧ n ≠ 2 ∧ n ≠ 4 ∧ n ≠ 8 ∧ n ≠ 16 := by omega
    simp [pow2, this]

theorem kind_only_spec {t : GType} (hQ : Q (.bool (onlyM t.kind t.size t.packed t.fields.length t.count t.elem.length)) H) : S.kind_only Φ (.agg t.cells) H Q := by
  have e : ∀ b : Bool, b = onlyM t.kind t.size t.packed t.fields.length t.count t.elem.length → Q (.bool b) H := fun b h => by rw [h]; exact hQ
  clear hQ
  simp only [S.kind_only, S.kind_only_k1, S.kind_only_k2, S.kind_only_k3, S.kind_only_k4, S.kind_only_k5, S.kind_only_k6, S.kind_only_k7, ty_box, DoH_some, ty_addr, ty_l0, ty_l1, ty_l2, ty_l3, ty_l4, ty_l5, lstA_len', JoinP_def, sl_zero, abin_eql, aun_not, Do_of, Gd3_true, Gd3_false]
  generalize t.kind = k at *
  generalize t.size = sz at *
  generalize t.packed = pk at *
  generalize t.fields.length = nf at *
  generalize t.count = ct at *
  generalize t.elem.length = ne at *
  by_cases h1 : k = 1
  · subst h1
    simp only [BEq.rfl, Int.reduceBEq, Bool.true_eq_false, Bool.false_eq_true, if_true, if_false, Bool.not_false, Bool.not_true]
    repeat' (refine ite_both (fun h => ?_) (fun h => ?_))
    all_goals (refine e _ ?_; simp_all [onlyM])
  by_cases h2 : k = 2
  · subst h2
    simp only [BEq.rfl, Int.reduceBEq, Bool.true_eq_false, Bool.false_eq_true, if_true, if_false, Bool.not_false, Bool.not_true]
    repeat' (refine ite_both (fun h => ?_) (fun h => ?_))
    all_goals (refine e _ ?_; simp_all [onlyM])
  by_cases h3 : k = 3
  · subst h3
    simp only [BEq.rfl, Int.reduceBEq, Bool.true_eq_false, Bool.false_eq_true, if_true, if_false, Bool.not_false, Bool.not_true]
    repeat' (refine ite_both (fun h => ?_) (fun h => ?_))
    all_goals (refine e _ ?_; simp_all [onlyM])
  by_cases h4 : k = 4
  · subst h4
    simp only [BEq.rfl, Int.reduceBEq, Bool.true_eq_false, Bool.false_eq_true, if_true, if_false, Bool.not_false, Bool.not_true]
    repeat' (refine ite_both (fun h => ?_) (fun h => ?_))
    all_goals (refine e _ ?_; simp_all [onlyM])
  by_cases h5 : k = 5
  · subst h5
    simp only [BEq.rfl, Int.reduceBEq, Bool.true_eq_false, Bool.false_eq_true, if_true, if_false, Bool.not_false, Bool.not_true]
    repeat' (refine ite_both (fun h => ?_) (fun h => ?_))
    all_goals (refine e _ ?_; simp_all [onlyM]) <;> (rw [Bool.eq_iff_iff]; simp; try omega)
  · have g1 : (k == 1) = false := by simpa using h1
    have g2 : (k == 2) = false := by simpa using h2
    have g3 : (k == 3) = false := by simpa using h3
    have g4 : (k == 4) = false := by simpa using h4
    have g5 : (k == 5) = false := by simpa using h5
    simp only [g1, g2, g3, g4, g5, Bool.true_eq_false, Bool.false_eq_true, if_true, if_false, Bool.not_false, Bool.not_true]
    repeat' (refine ite_both (fun h => ?_) (fun h => ?_))
    all_goals (refine e _ ?_; simp_all [onlyM])

theorem kind_depth_spec {t : GType} {m : Nat} (h1 : 1 ≤ m) (h2 : m ≤ 65) (hlf : t.fields.length ≤ maxLen) (hle : t.elem.length ≤ maxLen)
    (hf : 1 < m → ∀ f ∈ t.fields, Val Φ K.kind_depth [.agg f.type.cells, .int .i64 ((m - 1 : Nat) : Int)] (.int .i64 (depT (m - 1) f.type)))
    (he : 1 < m → ∀ x ∈ t.elem, Val Φ K.kind_depth [.agg x.cells, .int .i64 ((m - 1 : Nat) : Int)] (.int .i64 (depT (m - 1) x)))
    (hQ : ∀ H', Q (.int .i64 (depT m t)) H') : S.kind_depth Φ (.agg t.cells) (.int .i64 m) H Q := by
  have hm : maxLen = 9223372036854775807 := by decide
  rw [hm] at hlf hle
  have k1 : ∀ (v : Int) (H : AH), 0 ≤ v → v ≤ 64 → v + 1 = depT m t → JoinP (S.kind_depth_k1 Φ Q) [.int .i64 v] H := by
    intro v H hv0 hv1 hv
    simp only [JoinP_def, S.kind_depth_k1, sl_zero, abin_add, Do_of]
    rw [wrap_i64 (by omega) (by omega), hv]
    exact hQ H
  unfold S.kind_depth
  simp only [ty_box, DoH_some, abin_gtr, Do_of, Gd_true]
  refine ite_both (fun h => ?_) (fun h => ?_)
  · have hm1 : 1 < m := by simp at h; omega
    have hsub : IntKind.wrap .i64 ((m : Int) - 1) = ((m - 1 : Nat) : Int) := by rw [wrap_i64 (by omega) (by omega)]; omega
    have dE := depEs_le t.elem (m - 1) (by omega)
    have dF := depFs_le t.fields (m - 1) (by omega)
    have hfin : depT m t = max (depFs (m - 1) t.fields) (depEs (m - 1) t.elem) + 1 := by rw [depT_eq, if_pos hm1]
    have loopE : ∀ (xs : List GType) (i : Nat) (acc : Int) (H : AH), t.elem.drop i = xs → 0 ≤ acc → acc ≤ 64 → max acc (depEs (m - 1) xs) + 1 = depT m t →
        LoopP (S.kind_depth_l2 Φ (.int .i64 m) (lstA GType.cells t.elem) (.int .i64 t.elem.length) Q) ([.int .i64 acc, .int .i64 i], H) := by
      intro xs
      induction xs with
      | nil =>
        intro i acc H hd ha0 ha1 ha
        have hle' := drop_nil_le hd
        refine LoopP.step ?_
        simp only [S.kind_depth_l2, sl_zero, sl_succ, abin_lss, Do_of, Gd_true]
        rw [if_neg (by simp only [decide_eq_true_eq]; omega)]
        refine k1 _ _ ha0 ha1 ?_
        simp only [depEs] at ha
        omega
      | cons x xs ih =>
        intro i acc H hd ha0 ha1 ha
        obtain ⟨hlt, hx, hd'⟩ := drop_cons_lt hd
        have hmem := List.mem_of_getElem? hx
        refine LoopP.step ?_
        simp only [S.kind_depth_l2, sl_zero, sl_succ, abin_lss, Do_of, Gd_true]
        rw [if_pos (by simp only [decide_eq_true_eq]; omega), lstA_addr hlt]
        simp only [Do_of]
        rw [elA_load GType.len (by decide) _ hx]
        simp only [Do_of, DoH_some, abox, if_true]
        rw [store_new _ _ _ 6 x.len x.scalar rfl]
        simp only [Do_of]
        rw [load_push, takeCells_whole x.len]
        simp only [Do_of, abin_sub, hsub]
        refine he hm1 x hmem _ _ ?_
        have hb := dep_le x (m - 1) (by omega)
        rw [max_int]
        simp only [Do_of, abin_add]
        rw [wrap_i64 (by omega) (by omega), show ((i : Int) + 1) = ((i + 1 : Nat) : Int) by simp]
        refine ih (i + 1) _ _ hd' (by omega) (by omega) ?_
        simp only [depEs] at ha
        omega
    have k3 : ∀ (acc : Int) (H : AH), 0 ≤ acc → acc ≤ 64 → max acc (depEs (m - 1) t.elem) + 1 = depT m t → JoinP (S.kind_depth_k3 Φ (.int .i64 m) (.fptr t.cells) Q) [.int .i64 acc] H := by
      intro acc H ha0 ha1 ha
      simp only [JoinP_def, S.kind_depth_k3, sl_zero, ty_addr, ty_l5, lstA_len', Do_of]
      exact loopE t.elem 0 acc H rfl ha0 ha1 ha
    have loopF : ∀ (xs : List GField) (i : Nat) (acc : Int) (H : AH), t.fields.drop i = xs → 0 ≤ acc → acc ≤ 64 → max (max acc (depFs (m - 1) xs)) (depEs (m - 1) t.elem) + 1 = depT m t →
        LoopP (S.kind_depth_l4 Φ (.int .i64 m) (.fptr t.cells) (lstA GField.cells t.fields) (.int .i64 t.fields.length) Q) ([.int .i64 acc, .int .i64 i], H) := by
      intro xs
      induction xs with
      | nil =>
        intro i acc H hd ha0 ha1 ha
        have hle' := drop_nil_le hd
        refine LoopP.step ?_
        simp only [S.kind_depth_l4, sl_zero, sl_succ, abin_lss, Do_of, Gd_true]
        rw [if_neg (by simp only [decide_eq_true_eq]; omega)]
        refine k3 _ _ ha0 ha1 ?_
        simp only [depFs] at ha
        omega
      | cons x xs ih =>
        intro i acc H hd ha0 ha1 ha
        obtain ⟨hlt, hx, hd'⟩ := drop_cons_lt hd
        have hmem := List.mem_of_getElem? hx
        refine LoopP.step ?_
        simp only [S.kind_depth_l4, sl_zero, sl_succ, abin_lss, Do_of, Gd_true]
        rw [if_pos (by simp only [decide_eq_true_eq]; omega), lstA_addr hlt]
        simp only [Do_of]
        rw [elA_load GField.len (by decide) _ hx]
        simp only [Do_of, DoH_some, abox, if_true]
        rw [store_new _ _ _ 9 x.len x.scalar rfl]
        simp only [Do_of, afaddr, Nat.zero_add]
        rw [load_push, fd_t1]
        simp only [Do_of, abin_sub, hsub]
        refine hf hm1 x hmem _ _ ?_
        have hb := dep_le x.type (m - 1) (by omega)
        rw [max_int]
        simp only [Do_of, abin_add]
        rw [wrap_i64 (by omega) (by omega), show ((i : Int) + 1) = ((i + 1 : Nat) : Int) by simp]
        refine ih (i + 1) _ _ hd' (by omega) (by omega) ?_
        simp only [depFs, depF_eq] at ha
        omega
    simp only [ty_addr, ty_l3, lstA_len', Do_of]
    refine loopF t.fields 0 0 H rfl (by omega) (by omega) ?_
    omega
  · have hm1 : m = 1 := by simp at h; omega
    subst hm1
    refine k1 0 H (by omega) (by omega) ?_
    rw [depT_eq]; rfl
end
end Rb

/- What the functions of package kind give: fields, groups, soundness. -/
set_option linter.unusedVariables false
set_option linter.unusedSimpArgs false
namespace Rb
open Go

section
variable {α : Type} {cells : α → List AV} {sz : Nat}
theorem flatMap_take (hc : ∀ x, (cells x).length = sz) : ∀ (xs : List α) (i : Nat), (xs.flatMap cells).take (i * sz) = (xs.take i).flatMap cells := by
  intro xs i
  induction i generalizing xs with
  | zero => simp
  | succ i ih =>
    cases xs with
    | nil => simp
    | cons x xs =>
      rw [List.flatMap_cons, List.take_succ_cons, List.flatMap_cons, ← ih]
      rw [show (i + 1) * sz = (cells x).length + i * sz by rw [hc, Nat.add_mul, Nat.one_mul, Nat.add_comm], List.take_length_add_append]
theorem slice_take (hc : ∀ x, (cells x).length = sz) {xs : List α} {n : Nat} (hn : n ≤ xs.length) : aslice sz (lstA cells xs) none (some (.int .i64 n)) none = some (lstA cells (xs.take n)) := by
  simp only [lstA, aslice, abound, Option.map_none]
  rw [if_pos (by omega)]
  simp only
  rw [if_pos ⟨Nat.zero_le _, by omega, flatMap_len hc xs⟩]
  by_cases h : n = xs.length
  · rw [if_pos (by simp; omega), h, List.take_length]
  · rw [if_neg (by omega)]
    have : ((n : Int)).toNat = n := by omega
    simp only [this, if_true, Nat.sub_zero, Nat.zero_mul, List.drop_zero, flatMap_take hc]
    rw [List.length_take, Nat.min_eq_left hn]
end
theorem idxI_any {α : Type} (p : α → Bool) (xs : List α) : decide (idxI (xs.findIdx? p) ≥ 0) = xs.any p := by
  cases hf : xs.findIdx? p with
  | none =>
    rw [List.findIdx?_eq_none_iff] at hf
    have : xs.any p = false := by simpa using hf
    rw [this]; rfl
  | some i =>
    obtain ⟨hi, h1, _⟩ := List.findIdx?_eq_some_iff_getElem.1 hf
    have : xs.any p = true := by rw [List.any_eq_true]; exact ⟨xs[i], List.getElem_mem hi, h1⟩
    rw [this]; simp [idxI]

section
variable {Φ : Calls'} {H : AH} {Q : Post}

theorem fieldIndex {p : GField → Bool} {key : Nat} {caps : List AV} {xs : List GField} (hf : ∀ x ∈ xs, ∀ (R : Post), R (.bool (p x)) H → Φ key ([.agg x.cells] ++ caps) H R) (hl : xs.length ≤ 9223372036854775807)
    (hQ : Q (.int .i64 (idxI (xs.findIdx? p))) H) : S.slices_IndexFunc___api_Field_api_Field_ Φ (lstA GField.cells xs) (.fn key caps) H Q := by
  have h : IndexFunc 9 Φ (lstA GField.cells xs) (.fn key caps) H Q := IndexFunc_spec GField.len (by decide) hf hl hQ
  exact h
theorem fields_contains (hT : Cl Φ S.tab_Chk) {p : GField → Bool} {key : Nat} {caps : List AV} {xs : List GField} (hf : ∀ x ∈ xs, ∀ (R : Post), R (.bool (p x)) H → Φ key ([.agg x.cells] ++ caps) H R) (hl : xs.length ≤ 9223372036854775807)
    (hQ : Q (.bool (xs.any p)) H) : Φ K.slices_ContainsFunc___api_Field_api_Field_ [lstA GField.cells xs, .fn key caps] H Q := by
  refine S.cl_slices_ContainsFunc___api_Field_api_Field_ hT ?_
  unfold S.slices_ContainsFunc___api_Field_api_Field_
  refine S.cl_slices_IndexFunc___api_Field_api_Field_ hT (fieldIndex hf hl ?_)
  simp only [abin_geq, Do_of, idxI_any]
  exact hQ

theorem field_c1 {g : GField} {cs : List AV} {id : Nat} {s : List UInt8} (hat : At H id (.row cs)) (ht : takeCells cs 0 1 false = some (.str s)) (hQ : Q (.bool (g.name == s)) H) : S.kind_field_c1 Φ (.agg g.cells) (.ptr id 0) H Q := by
  unfold S.kind_field_c1
  have hb : aboxv H false 9 (.agg g.cells) = some (.fptr g.cells, H) := by unfold aboxv; rw [if_pos ⟨rfl, g.len⟩]; rfl
  rw [hb]
  have l0 : aload H 1 false (.fptr (g.cells.drop 0)) = some (.str g.name) := fd_t0 g
  have l1 : aload H 1 false (.ptr id 0) = some (.str s) := by rw [hat.load]; exact ht
  simp only [DoH_some, afaddr, Do_of, l0, Nat.add_zero, l1, abin_streq']
  exact hQ

theorem kind_field_spec (hT : Cl Φ S.tab_Chk) {t : GType} {i : Nat} {f : GField} (hi : t.fields[i]? = some f) (hl : t.fields.length ≤ 32) (hs : Val Φ K.kind_sound [.agg f.type.cells] (.int .i64 (sndT f.type))) (hname : ∀ s, Val Φ K.kind_Name [.str s] (.bool (nameOk s)))
    (hQ : ∀ H', Q (.int .i64 (sndF t.packed ((t.fields.take i).map GField.name) f)) H') : S.kind_field Φ (.agg t.cells) (.int .i64 i) H Q := by
  have hlt := (List.getElem?_eq_some_iff.1 hi).1
  unfold S.kind_field
  simp only [ty_box, DoH_some, ty_addr, ty_l3, Do_of]
  rw [lstA_addr hlt]
  simp only [Do_of]
  rw [elA_load GField.len (by decide) _ hi]
  simp only [Do_of, DoH_some, abox, if_true]
  rw [store_new _ _ _ 9 f.len f.scalar rfl]
  simp only [Do_of, afaddr, Nat.add_zero, Nat.zero_add]
  have r0 : aload (H.push (.row f.cells)) 1 false (.ptr H.n 0) = some (.str f.name) := by rw [load_push, fd_t0]
  have r7 : aload (H.push (.row f.cells)) 1 false (.ptr H.n 7) = some (.bool f.bits) := by rw [load_push, fd_t7]
  have r8 : aload (H.push (.row f.cells)) 1 false (.ptr H.n 8) = some (.int .i64 f.width) := by rw [load_push, fd_t8]
  have r1 : aload (H.push (.row f.cells)) 6 true (.ptr H.n 1) = some (.agg f.type.cells) := by rw [load_push, fd_t1]
  have rk : aload (H.push (.row f.cells)) 1 false (.ptr H.n 1) = some (.int .i64 f.type.kind) := by rw [load_push, fd_k]
  have rs : aload (H.push (.row f.cells)) 1 false (.ptr H.n 2) = some (.int .i64 f.type.size) := by rw [load_push, fd_s]
  have hat := At.new H (.row f.cells)
  generalize hH1 : H.push (.row f.cells) = H1 at *
  have fin : ∀ v, v = sndF t.packed ((t.fields.take i).map GField.name) f → Q (.int .i64 v) H1 := fun v h => by rw [h]; exact hQ H1
  rw [r0]
  simp only [Do_of]
  refine hname _ _ _ ?_
  have k4 : ¬ (nameOk f.name = false ∧ (f.name ≠ [] ∨ f.bits = false)) → ¬ (f.name ≠ [] ∧ ((t.fields.take i).map GField.name).contains f.name = true) → S.kind_field_k4 Φ (.fptr t.cells) (.ptr H.n 0) Q [] H1 := by
    intro n1 n2
    have e1 : sndF t.packed ((t.fields.take i).map GField.name) f = if sndT f.type ≠ 0 then sndT f.type
        else if (f.bits = false ∧ f.width ≠ 0) ∨ (f.bits = true ∧ (f.type.kind ≠ 1 ∨ t.packed = true)) then 8
        else if f.bits = true ∧ (f.width < 0 ∨ 8 * f.type.size < f.width ∨ (f.width = 0 ∧ f.name ≠ [])) then 9
        else 0 := by rw [sndF_eq, if_neg n1, if_neg n2]
    rw [e1] at fin
    clear e1
    simp only [S.kind_field_k4, afaddr, Nat.zero_add, Do_of, r1]
    refine hs _ _ ?_
    simp only [abin_neq, Do_of, Gd_true]
    refine ite_both (fun h => ?_) (fun h => ?_)
    · exact fin _ (by rw [if_pos (by simpa using h)])
    · have h0 : sndT f.type = 0 := by simpa using h
      rw [if_neg (by simpa using h0)] at fin
      have k2 : ∀ b : Bool, (b = true ↔ ((f.bits = false ∧ f.width ≠ 0) ∨ (f.bits = true ∧ (f.type.kind ≠ 1 ∨ t.packed = true)))) → JoinP (S.kind_field_k2 Φ (.ptr H.n 0) Q) [.bool b] H1 := by
        intro b hb
        simp only [JoinP_def, S.kind_field_k2, sl_zero, Gd_true, afaddr, Nat.zero_add, Do_of, r7]
        refine ite_both (fun h => ?_) (fun h => ?_)
        · exact fin _ (by rw [if_pos (hb.1 h)])
        · have hn : ¬ ((f.bits = false ∧ f.width ≠ 0) ∨ (f.bits = true ∧ (f.type.kind ≠ 1 ∨ t.packed = true))) := fun x => h (hb.2 x)
          rw [if_neg hn] at fin
          have k1 : ∀ b : Bool, (b = true ↔ (f.bits = true ∧ (f.width < 0 ∨ 8 * f.type.size < f.width ∨ (f.width = 0 ∧ f.name ≠ [])))) → JoinP (S.kind_field_k1 Φ Q) [.bool b] H1 := by
            intro b hb
            simp only [JoinP_def, S.kind_field_k1, sl_zero, Gd_true]
            refine ite_both (fun h => ?_) (fun h => ?_)
            · exact fin _ (by rw [if_pos (hb.1 h)])
            · exact fin _ (by rw [if_neg fun x => h (hb.2 x)])
          simp only [Gd3_true]
          refine ite_both (fun hbits => ?_) (fun hbits => ?_)
          · have hk1 : f.type.kind = 1 := by
              by_cases hk : f.type.kind = 1
              · exact hk
              · exact absurd (.inr ⟨hbits, .inl hk⟩) hn
            have hsz : 1 ≤ f.type.size ∧ f.type.size ≤ 8 := by
              rw [sndT_eq, hk1] at h0
              split at h0
              · cases h0
              · simp only [if_true] at h0
                split at h0
                · rename_i hp
                  simp [pow2] at hp
                  omega
                · cases h0
            simp only [r8, abin_lss, Do_of, Gd3_false]
            refine ite_both (fun hw => ?_) (fun hw => ?_)
            · simp only [rs, Do_of, abin_mul]
              rw [wrap_i64 (by omega) (by omega)]
              simp only [abin_gtr, Do_of, Gd3_false]
              refine ite_both (fun hw2 => ?_) (fun hw2 => ?_)
              · simp only [abin_eql, Do_of, Gd3_true]
                refine ite_both (fun hw3 => ?_) (fun hw3 => ?_)
                · simp only [r0, Do_of, abin_strne]
                  refine k1 _ ?_
                  simp only [decide_eq_false_iff_not, gt_iff_lt, beq_iff_eq] at hw hw2 hw3
                  simp [hbits, hw3]; omega
                · refine k1 _ ?_
                  simp only [decide_eq_false_iff_not, gt_iff_lt, beq_iff_eq] at hw hw2 hw3
                  simp [hbits, hw3]; omega
              · refine k1 _ ?_
                simp only [decide_eq_false_iff_not, Decidable.not_not, gt_iff_lt] at hw2
                simp [hbits, hw2]
            · refine k1 _ ?_
              simp only [decide_eq_false_iff_not, Decidable.not_not] at hw
              simp [hbits, hw]
          · refine k1 _ ?_
            simp [hbits]
      have k3 : ∀ b : Bool, (b = true ↔ (f.bits = false ∧ f.width ≠ 0)) → JoinP (S.kind_field_k3 Φ (.fptr t.cells) (.ptr H.n 0) Q) [.bool b] H1 := by
        intro b hb
        simp only [JoinP_def, S.kind_field_k3, sl_zero, Gd3_false, afaddr, Nat.zero_add, Do_of, r7]
        refine ite_both (fun h => ?_) (fun h => ?_)
        · have hn : ¬ (f.bits = false ∧ f.width ≠ 0) := fun x => by rw [hb.2 x] at h; cases h
          simp only [Gd3_true]
          refine ite_both (fun hbits => ?_) (fun hbits => ?_)
          · simp only [rk, abin_neq, Do_of, Gd3_false]
            refine ite_both (fun hk => ?_) (fun hk => ?_)
            · have hl2 : aload H1 1 false (.fptr (t.cells.drop 2)) = some (.bool t.packed) := ty_l2 t H1
              simp only [hl2, Do_of]
              refine k2 _ ?_
              simp only [bne_eq_false_iff_eq] at hk
              simp [hbits, hk]
            · refine k2 _ ?_
              simp only [Bool.not_eq_false, bne_iff_ne, ne_eq] at hk
              simp [hbits, hk]
          · refine k2 _ ?_
            simp only [Bool.not_eq_true] at hbits
            simp only [hbits] at hn ⊢
            simp at hn
            simp [hn]
        · refine k2 _ ?_
          have := hb.1 (by simpa using h)
          simp [this]
      simp only [afaddr, Nat.zero_add, Do_of, r7, aun_not, Gd3_true, r8, abin_neq]
      refine ite_both (fun hbits => ?_) (fun hbits => ?_)
      · refine k3 _ ?_
        simp only [Bool.not_eq_true'] at hbits
        simp [hbits]
      · refine k3 _ ?_
        simp only [Bool.not_eq_true', Bool.not_eq_false] at hbits
        simp [hbits]
  have k5 : ∀ b : Bool, ¬ (nameOk f.name = false ∧ (f.name ≠ [] ∨ f.bits = false)) → (b = true ↔ (f.name ≠ [] ∧ ((t.fields.take i).map GField.name).contains f.name = true)) → JoinP (S.kind_field_k5 Φ (.fptr t.cells) (.ptr H.n 0) Q) [.bool b] H1 := by
    intro b n1 hb
    simp only [JoinP_def, S.kind_field_k5, sl_zero, Gd_true]
    refine ite_both (fun h => ?_) (fun h => ?_)
    · exact fin _ (by rw [sndF_eq, if_neg n1, if_pos (hb.1 h)])
    · exact k4 n1 fun x => h (hb.2 x)
  have k6 : ∀ b : Bool, (b = true ↔ (nameOk f.name = false ∧ (f.name ≠ [] ∨ f.bits = false))) → JoinP (S.kind_field_k6 Φ (.int .i64 i) (.fptr t.cells) (.ptr H.n 0) Q) [.bool b] H1 := by
    intro b hb
    simp only [JoinP_def, S.kind_field_k6, sl_zero, Gd_true, afaddr, Nat.zero_add, Nat.add_zero, Do_of, r0, abin_strne, Gd3_true]
    refine ite_both (fun h => ?_) (fun h => ?_)
    · exact fin _ (by rw [sndF_eq, if_pos (hb.1 h)])
    · have n1 : ¬ (nameOk f.name = false ∧ (f.name ≠ [] ∨ f.bits = false)) := fun x => h (hb.2 x)
      refine ite_both (fun hne => ?_) (fun hne => ?_)
      · have hl3 : aload H1 1 false (.fptr (t.cells.drop 3)) = some (lstA GField.cells t.fields) := ty_l3 t H1
        simp only [hl3, Do_of]
        rw [slice_take GField.len (Nat.le_of_lt hlt)]
        simp only [Do_of]
        refine fields_contains hT (p := fun g => g.name == f.name) (fun x hx R hR => ?_) (by rw [List.length_take]; omega) ?_
        · exact S.cl_kind_field_c1 hT (field_c1 hat (fd_t0 f) hR)
        · refine k5 _ n1 ?_
          simp only [Bool.not_eq_true', beq_eq_false_iff_ne, ne_eq] at hne
          rw [List.any_eq_true, List.contains_iff_mem, List.mem_map]
          simp only [beq_iff_eq, ne_eq, hne, not_false_eq_true, true_and]
      · refine k5 _ n1 ?_
        simp only [Bool.not_eq_true', beq_eq_false_iff_ne, ne_eq, Decidable.not_not] at hne
        simp [hne]
  simp only [aun_not, Do_of, Gd3_true, r0, abin_strne, Gd3_false, r7]
  refine ite_both (fun h1 => ?_) (fun h1 => ?_)
  · simp only [Bool.not_eq_true'] at h1
    refine ite_both (fun h2 => ?_) (fun h2 => ?_)
    · refine k6 _ ?_
      simp only [Bool.not_eq_false', beq_iff_eq] at h2
      simp [h1, h2, nameOk]
    · refine k6 _ ?_
      simp only [Bool.not_eq_false', beq_iff_eq] at h2
      simp [h1, h2]
  · refine k6 _ ?_
    simp only [Bool.not_eq_true', Bool.not_eq_false] at h1
    simp [h1]

theorem kind_group_spec {t : GType} (hl : t.fields.length ≤ maxLen)
    (hfield : t.fields.length ≤ 32 → ∀ (i : Nat) (f : GField), t.fields[i]? = some f → Val Φ K.kind_field [.agg t.cells, .int .i64 i] (.int .i64 (sndF t.packed ((t.fields.take i).map GField.name) f)))
    (hQ : Q (.int .i64 (if t.fields.length < 1 ∨ 32 < t.fields.length then 12 else sndFs t.packed [] t.fields)) H) : S.kind_group Φ (.agg t.cells) H Q := by
  have fin : ∀ v, v = (if t.fields.length < 1 ∨ 32 < t.fields.length then 12 else sndFs t.packed [] t.fields) → Q (.int .i64 v) H := fun v h => by rw [h]; exact hQ
  clear hQ
  unfold S.kind_group
  simp only [ty_box, DoH_some, ty_addr, ty_l3, lstA_len', abin_lss, abin_gtr, Do_of, Gd3_false]
  have k3 : ∀ b : Bool, (b = true ↔ (t.fields.length < 1 ∨ 32 < t.fields.length)) → JoinP (S.kind_group_k3 Φ (.fptr t.cells) Q) [.bool b] H := by
    intro b hb
    simp only [JoinP_def, S.kind_group_k3, sl_zero, Gd_true]
    refine ite_both (fun h => ?_) (fun h => ?_)
    · exact fin _ (by rw [if_pos (hb.1 h)])
    · have hn : ¬ (t.fields.length < 1 ∨ 32 < t.fields.length) := fun x => h (hb.2 x)
      rw [if_neg hn] at fin
      simp only [S.kind_group_k2, ty_addr, ty_l3, lstA_len', Do_of]
      have main : ∀ (rest : List GField) (i : Nat), t.fields.drop i = rest → sndFs t.packed ((t.fields.take i).map GField.name) rest = sndFs t.packed [] t.fields → LoopP (S.kind_group_l1 Φ (.fptr t.cells) (.int .i64 t.fields.length) Q) ([.int .i64 i], H) := by
        intro rest
        induction rest with
        | nil =>
          intro i hd hs
          have hle := drop_nil_le hd
          refine LoopP.step ?_
          simp only [S.kind_group_l1, sl_zero, abin_lss, Do_of, Gd_true]
          rw [if_neg (by simp only [decide_eq_true_eq]; omega)]
          exact fin _ (by rw [← hs]; rfl)
        | cons f rest ih =>
          intro i hd hs
          obtain ⟨hlt, hf, hd'⟩ := drop_cons_lt hd
          refine LoopP.step ?_
          simp only [S.kind_group_l1, sl_zero, abin_lss, Do_of, Gd_true]
          rw [if_pos (by simp only [decide_eq_true_eq]; omega)]
          simp only [ty_all, Do_of]
          refine hfield (by omega) i f hf _ _ ?_
          simp only [abin_neq, Do_of, Gd_true]
          simp only [sndFs] at hs
          refine ite_both (fun h => ?_) (fun h => ?_)
          · have h' : sndF t.packed ((t.fields.take i).map GField.name) f ≠ 0 := by simpa using h
            rw [if_pos h'] at hs
            exact fin _ hs
          · have h' : ¬ sndF t.packed ((t.fields.take i).map GField.name) f ≠ 0 := by simpa using h
            rw [if_neg h'] at hs
            simp only [abin_add, Do_of]
            rw [wrap_i64 (by omega) (by omega), show ((i : Int) + 1) = ((i + 1 : Nat) : Int) by simp]
            refine ih (i + 1) hd' ?_
            rw [List.take_add_one, hf]
            simpa using hs
      exact main t.fields 0 rfl rfl
  refine ite_both (fun h => ?_) (fun h => ?_)
  · refine k3 _ ?_
    simp only [decide_eq_false_iff_not] at h
    simp only [decide_eq_true_eq, gt_iff_lt]; omega
  · refine k3 _ ?_
    simp only [decide_eq_false_iff_not, Decidable.not_not] at h
    simp only [true_iff]; omega

theorem kind_sound_spec (hT : Cl Φ S.tab_Chk) {t : GType} (hgroup : Val Φ K.kind_group [.agg t.cells] (.int .i64 (if t.fields.length < 1 ∨ 32 < t.fields.length then 12 else sndFs t.packed [] t.fields)))
    (helem : ∀ e ∈ t.elem, Val Φ K.kind_sound [.agg e.cells] (.int .i64 (sndT e))) (hQ : Q (.int .i64 (sndT t)) H) : S.kind_sound Φ (.agg t.cells) H Q := by
  have fin : ∀ v, v = sndT t → Q (.int .i64 v) H := fun v h => by rw [h]; exact hQ
  clear hQ
  rw [sndT_eq] at fin
  unfold S.kind_sound
  simp only [ty_box, DoH_some, ty_all, Do_of]
  refine S.cl_kind_only hT (kind_only_spec ?_)
  simp only [aun_not, Do_of, Gd_true]
  refine ite_both (fun h => ?_) (fun h => ?_)
  · exact fin _ (by rw [if_pos (by simpa using h)])
  · have ho : onlyM t.kind t.size t.packed t.fields.length t.count t.elem.length = true := by simpa using h
    rw [ho] at fin
    simp only [Bool.true_eq_false, if_false] at fin
    simp only [ty_addr, ty_l0, ty_l1, ty_l4, ty_l5, abin_eql, abin_lss, abin_gtr, Do_of, Gd_true, Gd3_false, beq_iff_eq]
    refine ite_both (fun h1 => ?_) (fun h1 => ?_)
    · rw [if_pos h1] at fin
      refine S.cl_kind_power hT (kind_power_spec (.inl rfl) ?_)
      simp only [aun_not, Do_of, Gd_true]
      refine ite_both (fun h2 => ?_) (fun h2 => ?_)
      · exact fin _ (by rw [if_neg (by simpa using h2)])
      · exact fin _ (by rw [if_pos (by simpa using h2)])
    · rw [if_neg h1] at fin
      refine ite_both (fun h2 => ?_) (fun h2 => ?_)
      · rw [if_pos h2] at fin
        refine S.cl_kind_power hT (kind_power_spec (.inr rfl) ?_)
        simp only [aun_not, Do_of, Gd_true]
        refine ite_both (fun h2 => ?_) (fun h2 => ?_)
        · exact fin _ (by rw [if_neg (by simpa using h2)])
        · exact fin _ (by rw [if_pos (by simpa using h2)])
      · rw [if_neg h2] at fin
        refine ite_both (fun h5 => ?_) (fun h5 => ?_)
        · rw [if_pos h5] at fin
          obtain ⟨e, he⟩ : ∃ e, t.elem = [e] := by
            have : t.elem.length = 1 := by
              simp only [onlyM, h5] at ho
              simp at ho
              exact ho.2
            exact List.length_eq_one_iff.1 this
          have k2 : ∀ b : Bool, (b = true ↔ (t.count < 1 ∨ 65536 < t.count)) → JoinP (S.kind_sound_k2 Φ (.fptr t.cells) Q) [.bool b] H := by
            intro b hb
            simp only [JoinP_def, S.kind_sound_k2, sl_zero, Gd_true]
            refine ite_both (fun h => ?_) (fun h => ?_)
            · exact fin _ (by rw [if_pos (hb.1 h)])
            · rw [if_neg fun x => h (hb.2 x)] at fin
              simp only [S.kind_sound_k1, ty_addr, ty_l5, Do_of]
              have ha : aiaddr none 6 (lstA GType.cells t.elem) (.int .i64 0) = some (elA GType.cells 6 t.elem 0) := lstA_addr (by rw [he]; simp)
              rw [ha]
              simp only [Do_of]
              rw [elA_load GType.len (by decide) _ (show t.elem[0]? = some e by rw [he]; rfl)]
              simp only [Do_of]
              refine helem e (by rw [he]; simp) _ _ ?_
              exact fin _ (by rw [he]; rfl)
          refine ite_both (fun h => ?_) (fun h => ?_)
          · refine k2 _ ?_
            have h' : ¬ t.count < 1 := by simpa using h
            simp only [decide_eq_true_eq, gt_iff_lt]; omega
          · refine k2 _ ?_
            have h' : t.count < 1 := by simpa using h
            simp only [true_iff]; omega
        · rw [if_neg h5] at fin
          refine hgroup _ _ ?_
          exact fin _ rfl
end

section
variable {C : Ctx} (hGT : GTok C) (hT : Cl (ACall C) S.tab_Chk)
include hGT hT
theorem kindName_val (s : List UInt8) : Val (ACall C) K.kind_Name [.str s] (.bool (nameOk s)) := Val.of hGT rfl rfl fun Q hQ => S.cl_kind_Name hT (kind_Name_spec hT hQ)
theorem kindDepth_val : ∀ (m : Nat), 1 ≤ m → m ≤ 65 → ∀ t : GType, t.ok → Val (ACall C) K.kind_depth [.agg t.cells, .int .i64 m] (.int .i64 (depT m t)) := by
  intro m
  induction m with
  | zero => intro h; omega
  | succ m ih =>
    intro _ hm t ht
    have hok : t.fields.length ≤ maxLen ∧ (∀ f ∈ t.fields, f.ok) ∧ t.elem.length ≤ maxLen ∧ ∀ e ∈ t.elem, e.ok := by
      cases t with
      | mk kind size packed fields count elem =>
        obtain ⟨_, _, h1, h2, _, h3, h4⟩ := ht
        exact ⟨h1, GField.oks_iff.1 h2, h3, GType.oks_iff.1 h4⟩
    refine Val.of hGT (by simp [AV.frozs, AV.froz, GType.froz]) rfl fun Q hQ => S.cl_kind_depth hT (kind_depth_spec (by omega) hm hok.1 hok.2.2.1 (fun h1 f hf => ?_) (fun h1 e he => ?_) hQ)
    · have := ih (by omega) (by omega) f.type (by have := hok.2.1 f hf; cases f; exact this.2.1)
      exact this
    · exact ih (by omega) (by omega) e (hok.2.2.2 e he)
theorem kindSound_val : ∀ t : GType, t.ok → Val (ACall C) K.kind_sound [.agg t.cells] (.int .i64 (sndT t)) := by
  refine GType.ind fun t ihf ihe ht => ?_
  have hok : t.fields.length ≤ maxLen ∧ (∀ f ∈ t.fields, f.ok) ∧ t.elem.length ≤ maxLen ∧ ∀ e ∈ t.elem, e.ok := by
    cases t with
    | mk kind size packed fields count elem =>
      obtain ⟨_, _, h1, h2, _, h3, h4⟩ := ht
      exact ⟨h1, GField.oks_iff.1 h2, h3, GType.oks_iff.1 h4⟩
  have hfield : t.fields.length ≤ 32 → ∀ (i : Nat) (f : GField), t.fields[i]? = some f → Val (ACall C) K.kind_field [.agg t.cells, .int .i64 i] (.int .i64 (sndF t.packed ((t.fields.take i).map GField.name) f)) := by
    intro hl i f hf
    have hmem := List.mem_of_getElem? hf
    exact Val.of hGT (by simp [AV.frozs, AV.froz, GType.froz]) rfl fun Q hQ => S.cl_kind_field hT (kind_field_spec hT hf hl (ihf f hmem (by have := hok.2.1 f hmem; cases f; exact this.2.1)) (kindName_val hGT hT) hQ)
  have hgroup : Val (ACall C) K.kind_group [.agg t.cells] (.int .i64 (if t.fields.length < 1 ∨ 32 < t.fields.length then 12 else sndFs t.packed [] t.fields)) :=
    fun H Q hQ => S.cl_kind_group hT (kind_group_spec hok.1 hfield hQ)
  exact fun H Q hQ => S.cl_kind_sound hT (kind_sound_spec hT hgroup (fun e he => ihe e he (hok.2.2.2 e he)) hQ)
theorem kindSoundM_val (t : GType) (ht : t.ok) : Val (ACall C) K.kind_Sound [.agg t.cells] (.int .i64 (soundM t)) := by
  intro H Q hQ
  refine S.cl_kind_Sound hT ?_
  unfold S.kind_Sound
  simp only [ty_box, DoH_some, ty_all, Do_of]
  refine S.cl_kind_Depth hT ?_
  unfold S.kind_Depth
  simp only [ty_box, DoH_some, ty_all, Do_of]
  refine kindDepth_val hGT hT 65 (by omega) (by omega) t ht _ _ ?_
  simp only [abin_gtr, Do_of, Gd_true]
  unfold soundM at hQ
  refine ite_both (fun h => ?_) (fun h => ?_)
  · rw [if_pos (by simpa using h)] at hQ; exact hQ
  · rw [if_neg (by simpa using h)] at hQ
    exact kindSound_val hGT hT t ht _ _ hQ
end
end Rb

/- The type of what lies at a place: the program's answer. -/
set_option linter.unusedVariables false
set_option linter.unusedSimpArgs false
namespace Rb
open Go

def zeroC : List AV := [.int .i64 0, .int .i64 0, .bool false, .lst .nil 0 [], .int .i64 0, .lst .nil 0 []]
/-- A type, or an error. -/
def resV (r : Int × GType) : AV := if r.1 = 0 then .tup [.agg r.2.cells, .int .i64 0] else .tup [.agg zeroC, .int .i64 r.1]
def partM (t : GType) (x : GPart) : Int × GType :=
  if 1 < x.index.length ∨ (x.index.length = 1 ↔ x.field ≠ []) then (8, t)
  else if x.index.length = 1 ∧ t.kind = 5 then (match t.elem with | e :: _ => (0, e) | [] => (8, t))
  else if x.index.length = 1 ∨ ¬ (t.kind = 3 ∨ t.kind = 4) then (8, t)
  else match t.fields.find? (fun f => f.name == x.field) with | some f => (0, f.type) | none => (6, t)
def partsM : GType → List GPart → Int × GType
  | t, [] => (0, t)
  | t, p :: r => if (partM t p).1 ≠ 0 then partM t p else partsM (partM t p).2 r
def placeM (vars : List GVar) (x : GPlace) : Int × GType :=
  match vars.find? (fun v => v.name == x.var) with
  | none => (6, ⟨0, 0, false, [], 0, []⟩)
  | some v => if soundM v.type ≠ 0 then (soundM v.type, v.type) else partsM v.type x.parts

/-! Parts of a sound type are sound -/
theorem sndFs_mem {packed : Bool} : ∀ {l : List GField} {seen : List (List UInt8)}, sndFs packed seen l = 0 → ∀ f ∈ l, sndT f.type = 0
  | [], _, _, f, hf => by cases hf
  | g :: r, seen, h, f, hf => by
    simp only [sndFs] at h
    have h0 : sndF packed seen g = 0 := by
      by_cases hz : sndF packed seen g = 0
      · exact hz
      · rw [if_pos hz] at h; exact absurd h hz
    rw [if_neg (by simpa using h0)] at h
    rcases List.mem_cons.1 hf with rfl | hf
    · rw [sndF_eq] at h0
      split at h0
      · cases h0
      · split at h0
        · cases h0
        · split at h0
          · rename_i hz; exact absurd h0 hz
          · rename_i hz; simpa using hz
    · exact sndFs_mem h f hf
theorem snd_arr {t : GType} (h : sndT t = 0) (hk : t.kind = 5) : ∃ e, t.elem = [e] ∧ sndT e = 0 := by
  rw [sndT_eq, hk] at h
  split at h
  · cases h
  · rename_i ho
    simp only [Bool.not_eq_false] at ho
    obtain ⟨e, he⟩ : ∃ e, t.elem = [e] := by
      have : t.elem.length = 1 := by
        simp [onlyM] at ho
        exact ho.2
      exact List.length_eq_one_iff.1 this
    refine ⟨e, he, ?_⟩
    simp at h
    split at h
    · cases h
    · rw [he] at h; exact h
theorem snd_grp {t : GType} (h : sndT t = 0) (hk : t.kind = 3 ∨ t.kind = 4) : (∀ f ∈ t.fields, sndT f.type = 0) ∧ t.fields.length ≤ 32 := by
  rw [sndT_eq] at h
  have k1 : t.kind ≠ 1 := by omega
  have k2 : t.kind ≠ 2 := by omega
  have k5 : t.kind ≠ 5 := by omega
  rw [if_neg k1, if_neg k2, if_neg k5] at h
  split at h
  · cases h
  · split at h
    · cases h
    · exact ⟨fun f hf => sndFs_mem h f hf, by omega⟩
theorem partM_snd {t : GType} {x : GPart} (h : sndT t = 0) (h0 : (partM t x).1 = 0) : sndT (partM t x).2 = 0 := by
  unfold partM at h0 ⊢
  split
  · rename_i hc; rw [if_pos hc] at h0; cases h0
  · rename_i hc; rw [if_neg hc] at h0
    split
    · rename_i hc; obtain ⟨e, he, hs⟩ := snd_arr h hc.2; rw [he]; exact hs
    · rename_i hc; rw [if_neg hc] at h0
      split
      · rename_i hc; rw [if_pos hc] at h0; cases h0
      · rename_i hc; rw [if_neg hc] at h0
        split
        · rename_i f hf
          exact (snd_grp h (by omega)).1 f (List.mem_of_find?_eq_some hf)
        · rename_i hf; rw [hf] at h0; cases h0
theorem partM_ok {t : GType} {x : GPart} (h : t.ok) : (partM t x).2.ok := by
  have hok : (∀ f ∈ t.fields, f.ok) ∧ ∀ e ∈ t.elem, e.ok := by
    cases t with
    | mk kind size packed fields count elem =>
      obtain ⟨_, _, h1, h2, _, h3, h4⟩ := h
      exact ⟨GField.oks_iff.1 h2, GType.oks_iff.1 h4⟩
  unfold partM
  split
  · exact h
  · split
    · split
      · rename_i e r he; exact hok.2 e (by rw [he]; simp)
      · exact h
    · split
      · exact h
      · split
        · rename_i f hf
          have := hok.1 f (List.mem_of_find?_eq_some hf)
          cases f; exact this.2.1
        · exact h

theorem find_idx {α : Type} (p : α → Bool) (xs : List α) : (∃ i x, xs.findIdx? p = some i ∧ xs.find? p = some x ∧ xs[i]? = some x) ∨ (xs.findIdx? p = none ∧ xs.find? p = none) := by
  induction xs with
  | nil => right; simp
  | cons y ys ih =>
    rw [List.findIdx?_cons, List.find?_cons]
    by_cases h : p y = true
    · left; exact ⟨0, y, by simp [h], by simp [h], rfl⟩
    · simp only [h, if_false, Bool.false_eq_true]
      rcases ih with ⟨i, x, h1, h2, h3⟩ | ⟨h1, h2⟩
      · left; exact ⟨i + 1, x, by simp [h1], by simp [h2], by simpa using h3⟩
      · right; simp [h1, h2]

section
variable {Φ : Calls'} {H : AH} {Q : Post}

theorem At.put {H : AH} {id n : Nat} {cs ds : List AV} (h : At H id (.row cs)) (hc : cs.length = n) (hd : ds.length = n) (hs : ds.all AV.scalar = true) : astore H n (.ptr id 0) (.agg ds) = some (H.set id (.row ds)) := by
  rw [h.store, if_pos ⟨rfl, hd, hs, by omega⟩]
  congr 3
  show setCells cs 0 ds = ds
  rw [setCells_all (by omega)]; rfl
theorem At.all {H : AH} {id n : Nat} {cs : List AV} (h : At H id (.row cs)) (hc : cs.length = n) : aload H n true (.ptr id 0) = some (.agg cs) := by
  rw [h.load, takeCells_whole hc]

theorem pl_box (x : GPart) (H : AH) : aboxv H false 2 (.agg x.cells) = some (.fptr x.cells, H) := by unfold aboxv; rw [if_pos ⟨rfl, x.len⟩]; rfl
theorem pl_addr (x : GPart) (i : Nat) : afaddr i (.fptr x.cells) = some (.fptr (x.cells.drop i)) := rfl
theorem pl_l0 (x : GPart) (H : AH) : aload H 1 false (.fptr (x.cells.drop 0)) = some (.str x.field) := by rw [GPart.cells_eq]; rfl
theorem pl_l1 (x : GPart) (H : AH) : aload H 1 false (.fptr (x.cells.drop 1)) = some (lstA GExpr.cells x.index) := by rw [GPart.cells_eq]; rfl
theorem zero_build : abuild [.int .i64 0, .int .i64 0, .bool false, .lst .nil 0 [], .int .i64 0, .lst .nil 0 []] [] = some (.agg zeroC) := rfl

theorem part_c1 {g : GField} {x : GPart} (hQ : Q (.bool (g.name == x.field)) H) : S.check_part_c1 Φ (.agg g.cells) (.fptr x.cells) H Q := by
  unfold S.check_part_c1
  have hb : aboxv H false 9 (.agg g.cells) = some (.fptr g.cells, H) := by unfold aboxv; rw [if_pos ⟨rfl, g.len⟩]; rfl
  have l0 : aload H 1 false (.fptr (g.cells.drop 0)) = some (.str g.name) := fd_t0 g
  have l1 : aload H 1 false (.fptr (x.cells.drop 0)) = some (.str x.field) := pl_l0 x H
  rw [hb]
  simp only [DoH_some, afaddr, Do_of, l0, l1, abin_streq']
  exact hQ

theorem check_part_spec (hT : Cl Φ S.tab_Chk) {t : GType} {x : GPart} (hs : sndT t = 0) (hl : x.index.length ≤ maxLen) (hQ : ∀ H', Q (resV (partM t x)) H') : S.check_part Φ (.agg t.cells) (.agg x.cells) H Q := by
  have fin : ∀ v H', v = resV (partM t x) → Q v H' := fun v H' h => by rw [h]; exact hQ H'
  clear hQ
  unfold S.check_part
  simp only [ty_box, pl_box, DoH_some, ty_addr, ty_l0, abin_eql, Do_of, Gd3_false, JoinP_def, abox, if_true]
  have hat := At.new H (.row zeroC)
  change At (H.push (.row [.int .i64 0, .int .i64 0, .bool false, .lst .nil 0 [], .int .i64 0, .lst .nil 0 []])) H.n _ at hat
  generalize (H.push (.row [.int .i64 0, .int .i64 0, .bool false, .lst .nil 0 [], .int .i64 0, .lst .nil 0 []])) = H1 at *
  generalize H.n = id at *
  have bad : ∀ e : Int, e ≠ 0 → (partM t x).1 = e → Do (abuild [.int .i64 0, .int .i64 0, .bool false, .lst .nil 0 [], .int .i64 0, .lst .nil 0 []] []) fun x31 =>
      Do (astore H1 6 (.ptr id 0) x31) fun H32 =>
      Do (aload H32 6 true (.ptr id 0)) fun x33 =>
      Q (.tup [x33, (.int .i64 e)]) H32 := by
    intro e he h
    rw [zero_build]
    simp only [Do_of]
    rw [hat.put (n := 6) rfl rfl rfl]
    simp only [Do_of]
    rw [(hat.set _).all (n := 6) rfl]
    simp only [Do_of]
    refine fin _ _ ?_
    unfold resV
    rw [h, if_neg he]
  have good : ∀ u : GType, partM t x = (0, u) → ∀ H1, At H1 id (.row zeroC) → Do (astore H1 6 (.ptr id 0) (.agg u.cells)) fun H72 =>
      Do (aload H72 6 true (.ptr id 0)) fun x73 =>
      Q (.tup [x73, (.int .i64 0)]) H72 := by
    intro u hu H1 hat
    rw [hat.put (n := 6) rfl u.len u.scalar]
    simp only [Do_of]
    rw [(hat.set _).all u.len]
    simp only [Do_of]
    refine fin _ _ ?_
    unfold resV
    rw [hu]; rfl
  have k5 : ∀ b : Bool, (b = true ↔ (t.kind = 3 ∨ t.kind = 4)) → S.check_part_k5 Φ (.fptr t.cells) (.fptr x.cells) (.ptr id 0) Q [.bool b] H1 := by
    intro b hb
    have k4 : ∀ c : Bool, (c = true ↔ (1 < x.index.length ∨ (x.index.length = 1 ↔ x.field ≠ []))) → S.check_part_k4 Φ (.fptr t.cells) (.fptr x.cells) (.ptr id 0) [.bool b] Q [.bool c] H1 := by
      intro c hc
      simp only [S.check_part_k4, sl_zero, Gd_true]
      refine ite_both (fun h => ?_) (fun h => ?_)
      · exact bad 8 (by decide) (by unfold partM; rw [if_pos (hc.1 h)])
      · have n1 : ¬ (1 < x.index.length ∨ (x.index.length = 1 ↔ x.field ≠ [])) := fun y => h (hc.2 y)
        have k3 : ∀ d : Bool, (d = true ↔ (x.index.length = 1 ∧ t.kind = 5)) → S.check_part_k3 Φ (.fptr t.cells) (.fptr x.cells) (.ptr id 0) [.bool b] Q [.bool d] H1 := by
          intro d hd
          simp only [S.check_part_k3, sl_zero, Gd_true]
          refine ite_both (fun h => ?_) (fun h => ?_)
          · obtain ⟨h1, h5⟩ := hd.1 h
            obtain ⟨e, he, _⟩ := snd_arr hs h5
            simp only [ty_addr, ty_l5, Do_of]
            have ha : aiaddr none 6 (lstA GType.cells t.elem) (.int .i64 0) = some (elA GType.cells 6 t.elem 0) := lstA_addr (by rw [he]; simp)
            rw [ha]
            simp only [Do_of]
            rw [elA_load GType.len (by decide) _ (show t.elem[0]? = some e by rw [he]; rfl)]
            simp only [Do_of]
            exact good e (by unfold partM; rw [if_neg n1, if_pos ⟨h1, h5⟩, he]) _ hat
          · have n2 : ¬ (x.index.length = 1 ∧ t.kind = 5) := fun y => h (hd.2 y)
            have k2 : ∀ g : Bool, (g = true ↔ (x.index.length = 1 ∨ ¬ (t.kind = 3 ∨ t.kind = 4))) → S.check_part_k2 Φ (.fptr t.cells) (.fptr x.cells) (.ptr id 0) Q [.bool g] H1 := by
              intro g hg
              simp only [S.check_part_k2, sl_zero, Gd_true]
              refine ite_both (fun h => ?_) (fun h => ?_)
              · exact bad 8 (by decide) (by unfold partM; rw [if_neg n1, if_neg n2, if_pos (hg.1 h)])
              · have n3 : ¬ (x.index.length = 1 ∨ ¬ (t.kind = 3 ∨ t.kind = 4)) := fun y => h (hg.2 y)
                have hgrp : t.kind = 3 ∨ t.kind = 4 := by omega
                obtain ⟨_, hlen⟩ := snd_grp hs hgrp
                simp only [JoinP_def, S.check_part_k1, ty_addr, ty_l3, Do_of]
                refine S.cl_slices_IndexFunc___api_Field_api_Field_ hT ?_
                refine fieldIndex (p := fun f => f.name == x.field) (fun f _ R hR => S.cl_check_part_c1 hT (part_c1 hR)) (by omega) ?_
                simp only [abin_lss, Do_of, Gd_true]
                rcases find_idx (fun f : GField => f.name == x.field) t.fields with ⟨i, f, h1, h2, h3⟩ | ⟨h1, h2⟩
                · rw [h1]
                  have hlt := (List.getElem?_eq_some_iff.1 h3).1
                  rw [if_neg (by show ¬ (decide ((i : Int) < 0) = true); rw [decide_eq_true_eq]; omega)]
                  simp only [idxI]
                  rw [lstA_addr hlt]
                  have hl6 : aload H1 6 true (.fptr (((t.fields.flatMap GField.cells).drop (i * 9)).drop 1)) = some (.agg f.type.cells) := by
                    show takeCells _ 0 6 true = _
                    rw [flatMap_drop GField.len]
                    have hd : t.fields.drop i = f :: t.fields.drop (i + 1) := by
                      rw [List.drop_eq_getElem_cons hlt]
                      rw [List.getElem?_eq_getElem hlt] at h3
                      simp at h3
                      rw [h3]
                    rw [hd, List.flatMap_cons, GField.cells_eq, List.cons_append, List.drop_succ_cons, List.drop_zero, List.append_assoc]
                    exact takeCells_app f.type.len
                  simp only [Do_of, elA, afaddr, hl6]
                  exact good f.type (by unfold partM; rw [if_neg n1, if_neg n2, if_neg n3, h2]) _ hat
                · rw [h1]
                  rw [if_pos (by simp [idxI])]
                  exact bad 6 (by decide) (by unfold partM; rw [if_neg n1, if_neg n2, if_neg n3, h2])
            simp only [pl_addr, pl_l1, lstA_len', abin_eql, Do_of, Gd3_false, JoinP_def, aun_not]
            refine ite_both (fun h => ?_) (fun h => ?_)
            · refine k2 _ ?_
              simp only [beq_eq_false_iff_ne, ne_eq] at h
              have : ¬ x.index.length = 1 := by omega
              rw [← hb]
              simp [this]
            · refine k2 _ ?_
              simp only [Bool.not_eq_false, beq_iff_eq] at h
              have : x.index.length = 1 := by omega
              simp [this]
        simp only [pl_addr, pl_l1, lstA_len', abin_eql, Do_of, Gd3_true, JoinP_def, ty_addr, ty_l0]
        refine ite_both (fun h => ?_) (fun h => ?_)
        · refine k3 _ ?_
          simp only [beq_iff_eq] at h
          have : x.index.length = 1 := by omega
          simp [this]
        · refine k3 _ ?_
          simp only [beq_iff_eq] at h
          have : ¬ x.index.length = 1 := by omega
          simp [this]
    simp only [S.check_part_k5, pl_addr, pl_l0, pl_l1, lstA_len', abin_gtr, abin_eql, abin_strne, abeq_def, Bool.false_eq_true, if_false, Do_of, Gd3_false, JoinP_def]
    refine ite_both (fun h => ?_) (fun h => ?_)
    · refine k4 _ ?_
      simp only [decide_eq_false_iff_not, gt_iff_lt] at h
      have h' : ¬ 1 < x.index.length := by omega
      simp only [h', false_or]
      by_cases hf : x.field = []
      · by_cases h1 : x.index.length = 1
        · simp [hf, h1]
        · have : ¬ ((x.index.length : Int) = 1) := by omega
          simp [hf, h1, this]
      · by_cases h1 : x.index.length = 1
        · simp [hf, h1]
        · have e1 : ((x.index.length : Int) == 1) = false := by rw [beq_eq_false_iff_ne]; omega
          have e2 : x.field.isEmpty = false := by simpa using hf
          simp [hf, h1, e1, e2]
    · refine k4 _ ?_
      simp only [decide_eq_false_iff_not, gt_iff_lt, Decidable.not_not] at h
      have h' : 1 < x.index.length := by omega
      simp [h']
  refine ite_both (fun h => ?_) (fun h => ?_)
  · refine k5 _ ?_
    simp only [beq_eq_false_iff_ne, ne_eq] at h
    simp [h]
  · refine k5 _ ?_
    simp only [Bool.not_eq_false, beq_iff_eq] at h
    simp [h]
end
end Rb

/- The type of what lies at a place: the program's answer, whole. -/
set_option linter.unusedVariables false
set_option linter.unusedSimpArgs false
namespace Rb
open Go

theorem zeroC_froz : AV.frozs zeroC = true := rfl
theorem resV_froz (r : Int × GType) : (resV r).froz = true := by
  unfold resV
  split
  · simp [AV.froz, AV.frozs, GType.froz]
  · simp [AV.froz, AV.frozs, zeroC_froz]
theorem partsM_snd : ∀ (ps : List GPart) {t : GType}, sndT t = 0 → (partsM t ps).1 = 0 → sndT (partsM t ps).2 = 0
  | [], t, h, _ => h
  | p :: r, t, h, h0 => by
    simp only [partsM] at h0 ⊢
    by_cases hp : (partM t p).1 ≠ 0
    · rw [if_pos hp] at h0; exact absurd h0 hp
    · rw [if_neg hp] at h0 ⊢
      exact partsM_snd r (partM_snd h (by simpa using hp)) h0

theorem vr_t0 (v : GVar) : takeCells v.cells 0 1 false = some (.str v.name) := by unfold takeCells; rw [if_pos (by rw [v.len]; omega)]; rfl
theorem vr_type (v : GVar) (H : AH) {vars : List GVar} {i : Nat} (h : vars[i]? = some v) : aload H 6 true (.fptr (((vars.flatMap GVar.cells).drop (i * 7)).drop 1)) = some (.agg v.type.cells) := by
  have hlt := (List.getElem?_eq_some_iff.1 h).1
  show takeCells _ 0 6 true = _
  rw [flatMap_drop GVar.len]
  have hd : vars.drop i = v :: vars.drop (i + 1) := by
    rw [List.drop_eq_getElem_cons hlt]
    rw [List.getElem?_eq_getElem hlt] at h
    simp at h
    rw [h]
  rw [hd, List.flatMap_cons, GVar.cells, List.cons_append, List.drop_succ_cons, List.drop_zero]
  exact takeCells_app v.type.len
theorem pc_box (x : GPlace) (H : AH) : aboxv H false 2 (.agg x.cells) = some (.fptr x.cells, H) := by unfold aboxv; rw [if_pos ⟨rfl, x.len⟩]; rfl
theorem pc_addr (x : GPlace) (i : Nat) : afaddr i (.fptr x.cells) = some (.fptr (x.cells.drop i)) := rfl
theorem pc_l0 (x : GPlace) (H : AH) : aload H 1 false (.fptr (x.cells.drop 0)) = some (.str x.var) := by rw [GPlace.cells_eq]; rfl
theorem pc_l1 (x : GPlace) (H : AH) : aload H 1 false (.fptr (x.cells.drop 1)) = some (lstA GPart.cells x.parts) := by rw [GPlace.cells_eq]; rfl

section
variable {Φ : Calls'} {H : AH} {Q : Post}
theorem place_c1 {v : GVar} {x : GPlace} (hQ : Q (.bool (v.name == x.var)) H) : S.check_Place_c1 Φ (.agg v.cells) (.fptr x.cells) H Q := by
  unfold S.check_Place_c1
  have hb : aboxv H false 7 (.agg v.cells) = some (.fptr v.cells, H) := by unfold aboxv; rw [if_pos ⟨rfl, v.len⟩]; rfl
  have l0 : aload H 1 false (.fptr (v.cells.drop 0)) = some (.str v.name) := vr_t0 v
  have l1 : aload H 1 false (.fptr (x.cells.drop 0)) = some (.str x.var) := pc_l0 x H
  rw [hb]
  simp only [DoH_some, afaddr, Do_of, l0, l1, abin_streq']
  exact hQ

theorem varIndex {p : GVar → Bool} {key : Nat} {caps : List AV} {xs : List GVar} (hf : ∀ x ∈ xs, ∀ (R : Post), R (.bool (p x)) H → Φ key ([.agg x.cells] ++ caps) H R) (hl : xs.length ≤ 9223372036854775807)
    (hQ : Q (.int .i64 (idxI (xs.findIdx? p))) H) : S.slices_IndexFunc___api_Var_api_Var_ Φ (lstA GVar.cells xs) (.fn key caps) H Q := by
  have h : IndexFunc 7 Φ (lstA GVar.cells xs) (.fn key caps) H Q := IndexFunc_spec GVar.len (by decide) hf hl hQ
  exact h

theorem check_Place_spec (hT : Cl Φ S.tab_Chk) {vars : List GVar} {x : GPlace} (hlv : vars.length ≤ maxLen) (hlp : x.parts.length ≤ maxLen)
    (hsound : ∀ v ∈ vars, Val Φ K.kind_Sound [.agg v.type.cells] (.int .i64 (soundM v.type)))
    (hpart : ∀ (t : GType) (p : GPart), sndT t = 0 → p ∈ x.parts → Val Φ K.check_part [.agg t.cells, .agg p.cells] (resV (partM t p)))
    (hQ : ∀ H', Q (resV (placeM vars x)) H') : S.check_Place Φ (lstA GVar.cells vars) (.agg x.cells) H Q := by
  have hm : maxLen = 9223372036854775807 := by decide
  rw [hm] at hlv hlp
  have fin : ∀ v H', v = resV (placeM vars x) → Q v H' := fun v H' h => by rw [h]; exact hQ H'
  clear hQ
  unfold S.check_Place
  simp only [pc_box, DoH_some, abox, if_true]
  have hat3 : At (H.push (.row zeroC)) H.n (.row zeroC) := At.new H _
  change At (H.push (.row [.int .i64 0, .int .i64 0, .bool false, .lst .nil 0 [], .int .i64 0, .lst .nil 0 []])) H.n _ at hat3
  generalize (H.push (.row [.int .i64 0, .int .i64 0, .bool false, .lst .nil 0 [], .int .i64 0, .lst .nil 0 []])) = H4 at *
  generalize H.n = id3 at *
  have bad : ∀ (e : Int) (H1 : AH), At H1 id3 (.row zeroC) → e ≠ 0 → (placeM vars x).1 = e → Do (abuild [.int .i64 0, .int .i64 0, .bool false, .lst .nil 0 [], .int .i64 0, .lst .nil 0 []] []) fun x31 =>
      Do (astore H1 6 (.ptr id3 0) x31) fun H32 =>
      Do (aload H32 6 true (.ptr id3 0)) fun x33 =>
      Q (.tup [x33, (.int .i64 e)]) H32 := by
    intro e H1 hat he h
    rw [zero_build]
    simp only [Do_of]
    rw [hat.put (n := 6) rfl rfl rfl]
    simp only [Do_of]
    rw [(hat.set _).all (n := 6) rfl]
    simp only [Do_of]
    refine fin _ _ ?_
    unfold resV
    rw [h, if_neg he]
  refine S.cl_slices_IndexFunc___api_Var_api_Var_ hT ?_
  refine varIndex (p := fun v => v.name == x.var) (fun v _ R hR => S.cl_check_Place_c1 hT (place_c1 hR)) hlv ?_
  simp only [abin_lss, Do_of, Gd_true]
  rcases find_idx (fun v : GVar => v.name == x.var) vars with ⟨i, v, h1, h2, h3⟩ | ⟨h1, h2⟩
  · have hlt := (List.getElem?_eq_some_iff.1 h3).1
    have hmem := List.mem_of_getElem? h3
    have hpm : placeM vars x = if soundM v.type ≠ 0 then (soundM v.type, v.type) else partsM v.type x.parts := by unfold placeM; rw [h2]
    rw [h1, if_neg (by show ¬ (decide ((i : Int) < 0) = true); rw [decide_eq_true_eq]; omega)]
    simp only [idxI]
    rw [lstA_addr hlt]
    simp only [Do_of, elA, afaddr, vr_type v H4 h3, DoH_some, abox, if_true]
    rw [store_new _ _ _ 6 v.type.len v.type.scalar rfl]
    simp only [Do_of]
    rw [load_push, takeCells_whole v.type.len]
    simp only [Do_of]
    have hat14 : At (H4.push (.row v.type.cells)) H4.n (.row v.type.cells) := At.new H4 _
    have hne : id3 ≠ H4.n := hat3.lt_new
    have hat3' : At (H4.push (.row v.type.cells)) id3 (.row zeroC) := hat3.push _
    generalize (H4.push (.row v.type.cells)) = H5 at *
    generalize H4.n = id14 at *
    refine hsound v hmem _ _ ?_
    simp only [abin_neq, Do_of, Gd_true]
    refine ite_both (fun h => ?_) (fun h => ?_)
    · have h' : soundM v.type ≠ 0 := by simpa using h
      exact bad _ _ hat3' h' (by rw [hpm, if_pos h'])
    · have h' : soundM v.type = 0 := by simpa using h
      rw [if_neg (by simpa using h')] at hpm
      have hsn : sndT v.type = 0 := by
        unfold soundM at h'
        split at h'
        · cases h'
        · exact h'
      have main : ∀ (ps : List GPart) (i : Nat) (t : GType) (H1 : AH), x.parts.drop i = ps → At H1 id3 (.row zeroC) → At H1 id14 (.row t.cells) → sndT t = 0 → partsM t ps = placeM vars x →
          LoopP (S.check_Place_l2 Φ (.ptr id3 0) (.ptr id14 0) (lstA GPart.cells x.parts) (.int .i64 x.parts.length) Q) ([.int .i64 i], H1) := by
        intro ps
        induction ps with
        | nil =>
          intro i t H1 hd a3 a14 hst hfin
          have hle := drop_nil_le hd
          refine LoopP.step ?_
          simp only [S.check_Place_l2, sl_zero, abin_lss, Do_of, Gd_true]
          rw [if_neg (by simp only [decide_eq_true_eq]; omega)]
          simp only [JoinP_def, S.check_Place_k1]
          rw [a14.all t.len]
          simp only [Do_of]
          rw [a3.put (n := 6) rfl t.len t.scalar]
          simp only [Do_of]
          rw [(a3.set _).all t.len]
          simp only [Do_of]
          refine fin _ _ ?_
          rw [← hfin]; rfl
        | cons p ps ih =>
          intro i t H1 hd a3 a14 hst hfin
          obtain ⟨hlt, hp, hd'⟩ := drop_cons_lt hd
          refine LoopP.step ?_
          simp only [S.check_Place_l2, sl_zero, abin_lss, Do_of, Gd_true]
          rw [if_pos (by simp only [decide_eq_true_eq]; omega), lstA_addr hlt]
          simp only [Do_of]
          rw [elA_load GPart.len (by decide) _ hp]
          simp only [Do_of, DoH_some, abox, if_true]
          rw [store_new _ _ _ 2 p.len p.scalar rfl]
          simp only [Do_of]
          rw [(a14.push _).all t.len, load_push, takeCells_whole p.len]
          simp only [Do_of]
          refine hpart t p hst (List.mem_of_getElem? hp) _ _ ?_
          simp only [partsM] at hfin
          have b3 := a3.push (.row p.cells)
          have b14 := a14.push (.row p.cells)
          generalize H1.push (.row p.cells) = H2 at *
          by_cases he : (partM t p).1 = 0
          · rw [if_neg (by simpa using he)] at hfin
            have hr : resV (partM t p) = .tup [.agg (partM t p).2.cells, .int .i64 0] := by unfold resV; rw [if_pos he]
            rw [hr]
            simp only [aextract, List.getElem?_cons_zero, List.getElem?_cons_succ, Do_of]
            rw [store_new _ _ _ 6 (partM t p).2.len (partM t p).2.scalar rfl]
            simp only [Do_of, abin_neq, Gd_true]
            rw [if_neg (by decide), load_push, takeCells_whole (partM t p).2.len]
            simp only [Do_of]
            rw [(b14.push _).put t.len (partM t p).2.len (partM t p).2.scalar]
            simp only [Do_of, abin_add]
            rw [wrap_i64 (by omega) (by omega), show ((i : Int) + 1) = ((i + 1 : Nat) : Int) by simp]
            exact ih (i + 1) _ _ hd' ((b3.push _).set_ne hne _) ((b14.push _).set _) (partM_snd hst he) hfin
          · rw [if_pos he] at hfin
            have hr : resV (partM t p) = .tup [.agg zeroC, .int .i64 (partM t p).1] := by unfold resV; rw [if_neg he]
            rw [hr]
            simp only [aextract, List.getElem?_cons_zero, List.getElem?_cons_succ, Do_of]
            rw [store_new _ _ _ 6 rfl rfl rfl]
            simp only [Do_of, abin_neq, Gd_true]
            rw [if_pos (by simpa using he)]
            exact bad _ _ (b3.push _) he (by rw [← hfin])
      simp only [pc_addr, pc_l1, lstA_len', Do_of]
      exact main x.parts 0 v.type H5 rfl hat3' hat14 hsn hpm.symm
  · rw [h1, if_pos (by simp [idxI])]
    exact bad 6 _ hat3 (by decide) (by unfold placeM; rw [h2])
end
end Rb

/- Package layout: whether an Atom lies in a type, or in a packed one; up. -/
set_option linter.unusedVariables false
set_option linter.unusedSimpArgs false
namespace Rb
open Go

mutual
def looseT : GType → Bool
  | .mk kind size packed fields count elem => ((kind == 2 && decide (size > 1)) || looseEs elem) || looseFs fields
def looseF : GField → Bool
  | .mk name type bits width => looseT type
def looseEs : List GType → Bool
  | [] => false
  | t :: r => looseT t || looseEs r
def looseFs : List GField → Bool
  | [] => false
  | f :: r => looseF f || looseFs r
end
mutual
def tornT : GType → Bool
  | .mk kind size packed fields count elem => ((packed && looseT (.mk kind size packed fields count elem)) || tornEs elem) || tornFs fields
def tornF : GField → Bool
  | .mk name type bits width => tornT type
def tornEs : List GType → Bool
  | [] => false
  | t :: r => tornT t || tornEs r
def tornFs : List GField → Bool
  | [] => false
  | f :: r => tornF f || tornFs r
end
theorem looseEs_any : ∀ l : List GType, looseEs l = l.any looseT
  | [] => rfl
  | t :: r => by rw [looseEs, looseEs_any r, List.any_cons]
theorem looseFs_any : ∀ l : List GField, looseFs l = l.any fun f => looseT f.type
  | [] => rfl
  | f :: r => by rw [looseFs, looseFs_any r, List.any_cons]; cases f; rfl
theorem tornEs_any : ∀ l : List GType, tornEs l = l.any tornT
  | [] => rfl
  | t :: r => by rw [tornEs, tornEs_any r, List.any_cons]
theorem tornFs_any : ∀ l : List GField, tornFs l = l.any fun f => tornT f.type
  | [] => rfl
  | f :: r => by rw [tornFs, tornFs_any r, List.any_cons]; cases f; rfl
theorem looseT_eq (t : GType) : looseT t = (((t.kind == 2 && decide (t.size > 1)) || t.elem.any looseT) || t.fields.any fun f => looseT f.type) := by
  cases t; rw [looseT, looseEs_any, looseFs_any]
theorem tornT_eq (t : GType) : tornT t = (((t.packed && looseT t) || t.elem.any tornT) || t.fields.any fun f => tornT f.type) := by
  cases t; rw [tornT, tornEs_any, tornFs_any]

theorem ok_parts {t : GType} (ht : t.ok) : t.fields.length ≤ 9223372036854775807 ∧ (∀ f ∈ t.fields, f.type.ok) ∧ t.elem.length ≤ 9223372036854775807 ∧ ∀ e ∈ t.elem, e.ok := by
  have hm : maxLen = 9223372036854775807 := by decide
  cases t with
  | mk kind size packed fields count elem =>
    obtain ⟨_, _, h1, h2, _, h3, h4⟩ := ht
    rw [hm] at h1 h3
    exact ⟨h1, fun f hf => by have := GField.oks_iff.1 h2 f hf; cases f; exact this.2.1, h3, GType.oks_iff.1 h4⟩

section
variable {Φ : Calls'} {H : AH} {Q : Post}
theorem typeIndex {p : GType → Bool} {key : Nat} {caps : List AV} {xs : List GType} (hf : ∀ x ∈ xs, ∀ (R : Post), R (.bool (p x)) H → Φ key ([.agg x.cells] ++ caps) H R) (hl : xs.length ≤ 9223372036854775807)
    (hQ : Q (.int .i64 (idxI (xs.findIdx? p))) H) : S.slices_IndexFunc___api_Type_api_Type_ Φ (lstA GType.cells xs) (.fn key caps) H Q := by
  have h : IndexFunc 6 Φ (lstA GType.cells xs) (.fn key caps) H Q := IndexFunc_spec GType.len (by decide) hf hl hQ
  exact h
theorem types_contains (hT : Cl Φ S.tab_Chk) {p : GType → Bool} {key : Nat} {caps : List AV} {xs : List GType} (hf : ∀ x ∈ xs, ∀ (R : Post), R (.bool (p x)) H → Φ key ([.agg x.cells] ++ caps) H R) (hl : xs.length ≤ 9223372036854775807)
    (hQ : Q (.bool (xs.any p)) H) : Φ K.slices_ContainsFunc___api_Type_api_Type_ [lstA GType.cells xs, .fn key caps] H Q := by
  refine S.cl_slices_ContainsFunc___api_Type_api_Type_ hT ?_
  unfold S.slices_ContainsFunc___api_Type_api_Type_
  refine S.cl_slices_IndexFunc___api_Type_api_Type_ hT (typeIndex hf hl ?_)
  simp only [abin_geq, Do_of, idxI_any]
  exact hQ

theorem fd_box (f : GField) (H : AH) : aboxv H false 9 (.agg f.cells) = some (.fptr f.cells, H) := by unfold aboxv; rw [if_pos ⟨rfl, f.len⟩]; rfl
theorem fd_type (f : GField) (H : AH) : aload H 6 true (.fptr (f.cells.drop 1)) = some (.agg f.type.cells) := by
  show takeCells _ 0 6 true = _
  rw [GField.cells_eq, List.drop_succ_cons, List.drop_zero]
  exact takeCells_app f.type.len

theorem loose_spec (hT : Cl Φ S.tab_Chk) {t : GType} (hlf : t.fields.length ≤ 9223372036854775807) (hle : t.elem.length ≤ 9223372036854775807) (hf : ∀ f ∈ t.fields, Val Φ K.layout_loose [.agg f.type.cells] (.bool (looseT f.type)))
    (he : ∀ e ∈ t.elem, Val Φ K.layout_loose [.agg e.cells] (.bool (looseT e))) (hQ : Q (.bool (looseT t)) H) : S.layout_loose Φ (.agg t.cells) H Q := by
  have fin : ∀ b, b = looseT t → Q (.bool b) H := fun b h => by rw [h]; exact hQ
  clear hQ
  rw [looseT_eq] at fin
  unfold S.layout_loose
  simp only [ty_box, DoH_some, ty_addr, ty_l0, ty_l1, abin_eql, abin_gtr, Do_of, Gd3_true]
  have k1 : ∀ b : Bool, b = ((t.kind == 2 && decide (t.size > 1)) || t.elem.any looseT) → JoinP (S.layout_loose_k1 Φ (.fptr t.cells) Q) [.bool b] H := by
    intro b hb
    rw [← hb] at fin
    simp only [JoinP_def, S.layout_loose_k1, sl_zero, Gd3_false, ty_addr, ty_l3, Do_of]
    refine ite_both (fun h => ?_) (fun h => ?_)
    · refine fields_contains hT (p := fun f => looseT f.type) (fun f hfm R hR => ?_) hlf (fin _ (by rw [h]; rfl))
      refine S.cl_layout_loose_c1 hT ?_
      unfold S.layout_loose_c1
      simp only [fd_box, DoH_some, afaddr, Do_of, fd_type]
      exact hf f hfm _ _ hR
    · simp only [Bool.not_eq_false] at h
      exact fin _ (by rw [h]; rfl)
  have k2 : ∀ b : Bool, b = (t.kind == 2 && decide (t.size > 1)) → JoinP (S.layout_loose_k2 Φ (.fptr t.cells) Q) [.bool b] H := by
    intro b hb
    rw [← hb] at k1
    simp only [JoinP_def, S.layout_loose_k2, sl_zero, Gd3_false, ty_addr, ty_l5, Do_of]
    refine ite_both (fun h => ?_) (fun h => ?_)
    · refine types_contains hT (p := looseT) (fun e hem R hR => he e hem _ _ hR) hle (k1 _ (by rw [h]; rfl))
    · simp only [Bool.not_eq_false] at h
      exact k1 _ (by rw [h]; rfl)
  refine ite_both (fun h => ?_) (fun h => ?_)
  · exact k2 _ (by rw [h]; rfl)
  · simp only [Bool.not_eq_true] at h
    exact k2 _ (by rw [h]; rfl)

theorem torn_spec (hT : Cl Φ S.tab_Chk) {t : GType} (hlf : t.fields.length ≤ 9223372036854775807) (hle : t.elem.length ≤ 9223372036854775807) (hloose : Val Φ K.layout_loose [.agg t.cells] (.bool (looseT t))) (hf : ∀ f ∈ t.fields, Val Φ K.layout_torn [.agg f.type.cells] (.bool (tornT f.type)))
    (he : ∀ e ∈ t.elem, Val Φ K.layout_torn [.agg e.cells] (.bool (tornT e))) (hQ : Q (.bool (tornT t)) H) : S.layout_torn Φ (.agg t.cells) H Q := by
  have fin : ∀ b, b = tornT t → Q (.bool b) H := fun b h => by rw [h]; exact hQ
  clear hQ
  rw [tornT_eq] at fin
  unfold S.layout_torn
  simp only [ty_box, DoH_some, ty_addr, ty_l2, ty_all, Do_of, Gd3_true]
  have k1 : ∀ b : Bool, b = ((t.packed && looseT t) || t.elem.any tornT) → JoinP (S.layout_torn_k1 Φ (.fptr t.cells) Q) [.bool b] H := by
    intro b hb
    rw [← hb] at fin
    simp only [JoinP_def, S.layout_torn_k1, sl_zero, Gd3_false, ty_addr, ty_l3, Do_of]
    refine ite_both (fun h => ?_) (fun h => ?_)
    · refine fields_contains hT (p := fun f => tornT f.type) (fun f hfm R hR => ?_) hlf (fin _ (by rw [h]; rfl))
      refine S.cl_layout_torn_c1 hT ?_
      unfold S.layout_torn_c1
      simp only [fd_box, DoH_some, afaddr, Do_of, fd_type]
      exact hf f hfm _ _ hR
    · simp only [Bool.not_eq_false] at h
      exact fin _ (by rw [h]; rfl)
  have k2 : ∀ b : Bool, b = (t.packed && looseT t) → JoinP (S.layout_torn_k2 Φ (.fptr t.cells) Q) [.bool b] H := by
    intro b hb
    rw [← hb] at k1
    simp only [JoinP_def, S.layout_torn_k2, sl_zero, Gd3_false, ty_addr, ty_l5, Do_of]
    refine ite_both (fun h => ?_) (fun h => ?_)
    · refine types_contains hT (p := tornT) (fun e hem R hR => he e hem _ _ hR) hle (k1 _ (by rw [h]; rfl))
    · simp only [Bool.not_eq_false] at h
      exact k1 _ (by rw [h]; rfl)
  refine ite_both (fun h => ?_) (fun h => ?_)
  · exact hloose _ _ (k2 _ (by rw [h]; rfl))
  · simp only [Bool.not_eq_true] at h
    exact k2 _ (by rw [h]; rfl)

/-- To a multiple. -/
def upW (n step : Int) : Int := IntKind.wrap .i64 (IntKind.wrap .i64 ((IntKind.wrap .i64 (IntKind.wrap .i64 (n + step) - 1)).tdiv step) * step)
theorem up_spec {n step : Int} (h : step ≠ 0) (hQ : Q (.int .i64 (upW n step)) H) : S.layout_up Φ (.int .i64 n) (.int .i64 step) H Q := by
  unfold S.layout_up
  simp only [abin_add, abin_sub, Do_of]
  rw [abin_quo _ _ _ h]
  simp only [Do_of, abin_mul]
  exact hQ
theorem upW_eq {n step : Int} (h1 : 0 ≤ n) (h2 : n ≤ 1000000000) (h3 : 1 ≤ step) (h4 : step ≤ 1000000) : upW n step = (n + step - 1) / step * step := by
  unfold upW
  have hs : step ≠ 0 := by omega
  have e1 := Int.ediv_mul_le (n + step - 1) hs
  have e2 : 0 ≤ (n + step - 1) / step := Int.ediv_nonneg (by omega) (by omega)
  have e3 : (n + step - 1) / step ≤ n + step - 1 := Int.ediv_le_self _ (by omega)
  have e4 : 0 ≤ (n + step - 1) / step * step := Int.mul_nonneg e2 (by omega)
  rw [wrap_i64 (n := n + step) (by omega) (by omega), wrap_i64 (n := n + step - 1) (by omega) (by omega), Int.tdiv_eq_ediv_of_nonneg (by omega), wrap_i64 (n := (n + step - 1) / step) (by omega) (by omega), wrap_i64 (by omega) (by omega)]
end

section
variable {C : Ctx} (hT : Cl (ACall C) S.tab_Chk)
include hT
theorem loose_val : ∀ t : GType, t.ok → Val (ACall C) K.layout_loose [.agg t.cells] (.bool (looseT t)) := by
  refine GType.ind fun t ihf ihe ht => ?_
  obtain ⟨h1, h2, h3, h4⟩ := ok_parts ht
  exact fun H Q hQ => S.cl_layout_loose hT (loose_spec hT h1 h3 (fun f hf => ihf f hf (h2 f hf)) (fun e he => ihe e he (h4 e he)) hQ)
theorem torn_val : ∀ t : GType, t.ok → Val (ACall C) K.layout_torn [.agg t.cells] (.bool (tornT t)) := by
  refine GType.ind fun t ihf ihe ht => ?_
  obtain ⟨h1, h2, h3, h4⟩ := ok_parts ht
  exact fun H Q hQ => S.cl_layout_torn hT (torn_spec hT h1 h3 (loose_val hT t ht) (fun f hf => ihf f hf (h2 f hf)) (fun e he => ihe e he (h4 e he)) hQ)
end
end Rb

/- Package layout: models of of and place; bitfields. -/
set_option linter.unusedVariables false
set_option linter.unusedSimpArgs false
namespace Rb
open Go

/-- Where a field lies. -/
structure GSpot where
  at_ : Int
  len : Int
  kind : Int
  bits : Bool
  bit : Int
  width : Int
def GSpot.cells (s : GSpot) : List AV := [.int .i64 s.at_, .int .i64 s.len, .int .i64 s.kind, .bool s.bits, .int .i64 s.bit, .int .i64 s.width]
/-- What has been laid. -/
structure PL where
  size : Int
  align : Int
  spots : List GSpot
  bit : Int
abbrev w64 (n : Int) : Int := IntKind.wrap .i64 n
def bitOf (p : PL) (f : GField) : Int :=
  if w64 (p.bit.tdiv (w64 (8 * f.type.size))) ≠ w64 ((w64 (w64 (p.bit + f.width) - 1)).tdiv (w64 (8 * f.type.size))) then upW p.bit (w64 (8 * f.type.size)) else p.bit
def bitsM (p : PL) (f : GField) : PL :=
  if f.width = 0 then
    { p with bit := upW p.bit (w64 (8 * f.type.size)), spots := p.spots ++ [⟨w64 ((upW p.bit (w64 (8 * f.type.size))).tdiv 8), 0, 1, true, (upW p.bit (w64 (8 * f.type.size))).tmod 8, 0⟩] }
  else
    { p with bit := w64 (bitOf p f + f.width), spots := p.spots ++ [⟨w64 ((bitOf p f).tdiv 8), w64 (w64 (w64 ((w64 (w64 (bitOf p f + f.width) - 1)).tdiv 8) - w64 ((bitOf p f).tdiv 8)) + 1), 1, true, (bitOf p f).tmod 8, f.width⟩] }
def wideM (packed : Bool) (f : GField) (align : Int) : Int := if packed = true ∨ (f.bits = true ∧ f.width = 0) then 1 else if f.bits = true then f.type.size else align
def plainM (p : PL) (f : GField) (size align : Int) : PL :=
  { p with bit := w64 (8 * w64 (upW (w64 ((upW p.bit 8).tdiv 8)) align + size)), spots := p.spots ++ [⟨upW (w64 ((upW p.bit 8).tdiv 8)) align, size, f.type.kind, false, 0, 0⟩] }
def sizeM (p : PL) : PL := { p with size := max p.size (w64 ((upW p.bit 8).tdiv 8)) }
def fieldM (packed : Bool) (kind : Int) (p : PL) (f : GField) (g : Int × Int) : PL :=
  let p1 : PL := { p with align := max p.align (wideM packed f g.2), bit := if kind = 4 then 0 else p.bit }
  sizeM (if f.bits = true then bitsM p1 f else plainM p1 f g.1 (wideM packed f g.2))

mutual
def ofT : GType → (Int × Int) × Bool
  | .mk kind size packed fields count elem =>
    if kind = 1 ∨ kind = 2 then ((size, size), true)
    else if kind = 5 then ((w64 ((ofE elem).1.1 * count), (ofE elem).1.2), (ofE elem).2 && decide (w64 ((ofE elem).1.1 * count) ≤ 65536))
    else match placeFs packed kind ⟨0, 1, [], 0⟩ fields with
      | none => ((0, 0), false)
      | some p => ((upW p.size p.align, p.align), decide (upW p.size p.align ≤ 65536))
def ofE : List GType → (Int × Int) × Bool
  | [] => ((0, 0), false)
  | t :: _ => ofT t
def ofF : GField → (Int × Int) × Bool
  | .mk name type bits width => ofT type
def placeFs (packed : Bool) (kind : Int) (p : PL) : List GField → Option PL
  | [] => some p
  | f :: r => if (ofF f).2 = true then placeFs packed kind (fieldM packed kind p f (ofF f).1) r else none
end
theorem ofF_eq (f : GField) : ofF f = ofT f.type := by cases f; rfl
theorem ofT_eq (t : GType) : ofT t = if t.kind = 1 ∨ t.kind = 2 then ((t.size, t.size), true)
    else if t.kind = 5 then ((w64 ((ofE t.elem).1.1 * t.count), (ofE t.elem).1.2), (ofE t.elem).2 && decide (w64 ((ofE t.elem).1.1 * t.count) ≤ 65536))
    else match placeFs t.packed t.kind ⟨0, 1, [], 0⟩ t.fields with
      | none => ((0, 0), false)
      | some p => ((upW p.size p.align, p.align), decide (upW p.size p.align ≤ 65536)) := by cases t; rfl

/-! Lists that grow beside other objects -/
theorem Lst.append2 {H0 H : AH} {sz bytes len m : Nat} {x y : AV} {cells news : List AV} {K : Post} (h : Lst H0 H sz x len cells) (hy : acells H sz y = some (m, news)) (hn : news.length = m * sz) (hs : news.all AV.scalar = true) (hm : m ≠ 0)
    (hb : (len + m) * bytes ≤ 140737488355328) (hl : len + m ≤ 9223372036854775807) (hK : ∀ x' H', Lst H0 H' sz x' (len + m) (cells ++ news) → (∀ i o, At H i o → (∀ a b, o ≠ .tok a b) → At H' i o) → K x' H') : DoH (aappend H false sz bytes x y) K := by
  obtain ⟨hx, tk, rfl, hc, htk⟩ := h
  have hlen : (cells ++ news).length = (len + m) * sz := by simp [hc, hn, Nat.add_mul]
  rcases htk with ⟨rfl, rfl⟩ | ⟨t, rfl, h1, h2, h3⟩
  · refine ⟨.lst (.own H.n) (0 + m) (cells ++ news), H.push (.tok ((0 + m) * sz) sz), ?_, hK _ _ ⟨hx.trans (AH.Ext.push _ _), _, rfl, hlen, .inr ⟨H.n, rfl, hx.1, Nat.lt_succ_self _, AH.push_self _ _⟩⟩ fun i o ho _ => ho.push _⟩
    simp only [aappend, hy, hs, not_true_eq_false, if_false, if_neg hm]
    rw [if_neg (by simp only [Decidable.not_not]; exact ⟨hc, hb, hl⟩)]
  · refine ⟨.lst (.own H.n) (len + m) (cells ++ news), (H.set t .gone).push (.tok ((len + m) * sz) sz), ?_, hK _ _ ⟨(hx.set h1 _).trans (AH.Ext.push _ _), _, rfl, hlen, .inr ⟨H.n, rfl, hx.1, Nat.lt_succ_self _, AH.push_self _ _⟩⟩ fun i o ho hno => ?_⟩
    · simp only [aappend, hy, hs, not_true_eq_false, if_false, if_neg hm]
      rw [if_neg (by simp only [Decidable.not_not]; exact ⟨hc, hb, hl⟩)]
      simp [h3]
    · exact (ho.set_ne (fun e => by subst e; rw [ho.2] at h3; exact hno _ _ h3) _).push _
theorem Lst.other {H0 H : AH} {sz len : Nat} {x : AV} {cells : List AV} (h : Lst H0 H sz x len cells) {id : Nat} {cs : List AV} (ha : At H id (.row cs)) (hid : H0.n ≤ id) (y : AObj) : Lst H0 (H.set id y) sz x len cells := by
  obtain ⟨hx, tk, rfl, hc, htk⟩ := h
  refine ⟨hx.set hid y, tk, rfl, hc, ?_⟩
  rcases htk with h | ⟨t, rfl, h1, h2, h3⟩
  · exact .inl h
  · exact .inr ⟨t, rfl, h1, h2, by rw [AH.set_ne _ _ (fun e => by subst e; rw [ha.2] at h3; cases h3)]; exact h3⟩
theorem Lst.push {H0 H : AH} {sz len : Nat} {x : AV} {cells : List AV} (h : Lst H0 H sz x len cells) (y : AObj) : Lst H0 (H.push y) sz x len cells := by
  obtain ⟨hx, tk, rfl, hc, htk⟩ := h
  refine ⟨hx.trans (AH.Ext.push _ _), tk, rfl, hc, ?_⟩
  rcases htk with h | ⟨t, rfl, h1, h2, h3⟩
  · exact .inl h
  · exact .inr ⟨t, rfl, h1, Nat.lt_succ_of_lt h2, by rw [AH.push_ne _ _ (by omega)]; exact h3⟩

/-- What has been laid, in memory. -/
def PAt (H0 H : AH) (id : Nat) (p : PL) : Prop := ∃ x, At H id (.row [.int .i64 p.size, .int .i64 p.align, x, .int .i64 p.bit]) ∧ Lst H0 H 6 x p.spots.length (p.spots.flatMap GSpot.cells) ∧ H0.n ≤ id
theorem PAt.push {H0 H : AH} {id : Nat} {p : PL} (h : PAt H0 H id p) (y : AObj) : PAt H0 (H.push y) id p := by
  obtain ⟨x, h1, h2, h3⟩ := h; exact ⟨x, h1.push y, h2.push y, h3⟩
theorem PAt.other {H0 H : AH} {id i : Nat} {p : PL} {cs : List AV} (h : PAt H0 H id p) (ha : At H i (.row cs)) (hi : H0.n ≤ i) (hne : id ≠ i) (y : AObj) : PAt H0 (H.set i y) id p := by
  obtain ⟨x, h1, h2, h3⟩ := h; exact ⟨x, h1.set_ne hne y, h2.other ha hi y, h3⟩

/-- The memory behind a step: what was at other places is there. -/
def Keeps (H H' : AH) (id : Nat) : Prop := ∀ i cs, i ≠ id → At H i (.row cs) → At H' i (.row cs)
theorem Keeps.refl (H : AH) (id : Nat) : Keeps H H id := fun _ _ _ h => h
theorem Keeps.trans {H H' H'' : AH} {id : Nat} (h : Keeps H H' id) (k : Keeps H' H'' id) : Keeps H H'' id := fun i cs hi ha => k i cs hi (h i cs hi ha)

section
variable {H0 H : AH} {id : Nat} {p : PL} {K : AH → Prop}
theorem PAt.load0 (h : PAt H0 H id p) : aload H 1 false (.ptr id 0) = some (.int .i64 p.size) := by obtain ⟨x, h1, _⟩ := h; rw [h1.load]; rfl
theorem PAt.load1 (h : PAt H0 H id p) : aload H 1 false (.ptr id 1) = some (.int .i64 p.align) := by obtain ⟨x, h1, _⟩ := h; rw [h1.load]; rfl
theorem PAt.load3 (h : PAt H0 H id p) : aload H 1 false (.ptr id 3) = some (.int .i64 p.bit) := by obtain ⟨x, h1, _⟩ := h; rw [h1.load]; rfl
theorem PAt.store0 (h : PAt H0 H id p) (v : Int) (hK : ∀ H', PAt H0 H' id { p with size := v } → Keeps H H' id → K H') : Do (astore H 1 (.ptr id 0) (.int .i64 v)) K := by
  obtain ⟨x, h1, h2, h3⟩ := h
  refine ⟨_, by rw [h1.store, if_pos ⟨rfl, rfl, rfl, by simp⟩]; rfl, hK _ ⟨x, h1.set _, h2.other h1 h3 _, h3⟩ fun i cs hi ha => ha.set_ne hi _⟩
theorem PAt.store1 (h : PAt H0 H id p) (v : Int) (hK : ∀ H', PAt H0 H' id { p with align := v } → Keeps H H' id → K H') : Do (astore H 1 (.ptr id 1) (.int .i64 v)) K := by
  obtain ⟨x, h1, h2, h3⟩ := h
  refine ⟨_, by rw [h1.store, if_pos ⟨rfl, rfl, rfl, by simp⟩]; rfl, hK _ ⟨x, h1.set _, h2.other h1 h3 _, h3⟩ fun i cs hi ha => ha.set_ne hi _⟩
theorem PAt.store3 (h : PAt H0 H id p) (v : Int) (hK : ∀ H', PAt H0 H' id { p with bit := v } → Keeps H H' id → K H') : Do (astore H 1 (.ptr id 3) (.int .i64 v)) K := by
  obtain ⟨x, h1, h2, h3⟩ := h
  refine ⟨_, by rw [h1.store, if_pos ⟨rfl, rfl, rfl, by simp⟩]; rfl, hK _ ⟨x, h1.set _, h2.other h1 h3 _, h3⟩ fun i cs hi ha => ha.set_ne hi _⟩
/-- A spot more: read, appended, stored. -/
theorem PAt.app (h : PAt H0 H id p) (hl : p.spots.length < 1000) (s : GSpot) (hK : ∀ H', PAt H0 H' id { p with spots := p.spots ++ [s] } → Keeps H H' id → K H') :
    Do (aload H 1 false (.ptr id 2)) fun x20 =>
    DoH (abslice H false 6 1 [.int .i64 0, .int .i64 0, .int .i64 0, .bool false, .int .i64 0, .int .i64 0] [(0, 6, .agg s.cells)]) fun x31 H32 =>
    DoH (aappend H32 false 6 48 x20 x31) fun x33 H34 =>
    Do (astore H34 1 (.ptr id 2) x33) K := by
  obtain ⟨x, h1, h2, h3⟩ := h
  have e1 : aload H 1 false (.ptr id 2) = some x := by rw [h1.load]; rfl
  have e2 : abslice H false 6 1 [.int .i64 0, .int .i64 0, .int .i64 0, .bool false, .int .i64 0, .int .i64 0] [(0, 6, .agg s.cells)] = some (.lst .full 1 s.cells, H) := rfl
  rw [e1, e2]
  simp only [Do_of, DoH_some]
  refine h2.append2 (m := 1) (news := s.cells) rfl rfl rfl (by decide) (by omega) (by omega) fun x' H' h2' hk => ?_
  have a1 := hk id _ h1 (by intro a b h; cases h)
  have hsc : x'.scalar = true ∧ x'.known = true ∧ x'.cells = [x'] := by obtain ⟨_, tk, rfl, _⟩ := h2'; exact ⟨rfl, rfl, rfl⟩
  refine ⟨_, by rw [a1.store, if_pos ⟨hsc.2.1, by rw [hsc.2.2]; rfl, by rw [hsc.2.2]; simp [hsc.1], by simp⟩, hsc.2.2]; rfl, hK _ ⟨x', a1.set _, ?_, h3⟩ fun i cs hi ha => (hk i _ ha (by intro a b h; cases h)).set_ne hi _⟩
  have := h2'.other a1 h3 (.row [.int .i64 p.size, .int .i64 p.align, x', .int .i64 p.bit])
  simpa using this
end
end Rb

/- Package layout: bits, wide. -/
set_option linter.unusedVariables false
set_option linter.unusedSimpArgs false
namespace Rb
open Go

theorem span2 (a b : Int) : abuild [.int .i64 0, .int .i64 0] [(0, 1, .int .i64 a), (1, 1, .int .i64 b)] = some (.agg [.int .i64 a, .int .i64 b]) := rfl
theorem span1 (a : Int) : abuild [.int .i64 0, .int .i64 0] [(0, 1, .int .i64 a)] = some (.agg [.int .i64 a, .int .i64 0]) := rfl
theorem spotB0 (a l k b : Int) : abuild [.int .i64 0, .int .i64 0, .int .i64 0, .bool false, .int .i64 0, .int .i64 0] [(0, 2, .agg [.int .i64 a, .int .i64 l]), (2, 1, .int .i64 k), (3, 1, .bool true), (4, 1, .int .i64 b)] = some (.agg [.int .i64 a, .int .i64 l, .int .i64 k, .bool true, .int .i64 b, .int .i64 0]) := rfl
theorem spotB1 (a l k b w : Int) : abuild [.int .i64 0, .int .i64 0, .int .i64 0, .bool false, .int .i64 0, .int .i64 0] [(0, 2, .agg [.int .i64 a, .int .i64 l]), (2, 1, .int .i64 k), (3, 1, .bool true), (4, 1, .int .i64 b), (5, 1, .int .i64 w)] = some (.agg [.int .i64 a, .int .i64 l, .int .i64 k, .bool true, .int .i64 b, .int .i64 w]) := rfl
theorem spotB2 (a l k : Int) : abuild [.int .i64 0, .int .i64 0, .int .i64 0, .bool false, .int .i64 0, .int .i64 0] [(0, 2, .agg [.int .i64 a, .int .i64 l]), (2, 1, .int .i64 k)] = some (.agg [.int .i64 a, .int .i64 l, .int .i64 k, .bool false, .int .i64 0, .int .i64 0]) := rfl
theorem fd_a (f : GField) (i j : Nat) : afaddr i (.fptr (f.cells.drop j)) = some (.fptr ((f.cells.drop j).drop i)) := rfl
theorem fd_addr (f : GField) (i : Nat) : afaddr i (.fptr f.cells) = some (.fptr (f.cells.drop i)) := rfl
theorem fd_l7 (f : GField) (H : AH) : aload H 1 false (.fptr (f.cells.drop 7)) = some (.bool f.bits) := by cases f with | mk n t b w => cases t; rfl
theorem fd_l8 (f : GField) (H : AH) : aload H 1 false (.fptr (f.cells.drop 8)) = some (.int .i64 f.width) := by cases f with | mk n t b w => cases t; rfl
theorem fd_lsize (f : GField) (H : AH) : aload H 1 false (.fptr ((f.cells.drop 1).drop 1)) = some (.int .i64 f.type.size) := by cases f with | mk n t b w => cases t; rfl
theorem nilck_ptr (i o : Nat) : anilck (.ptr i o) = some (.ptr i o) := rfl

section
variable {Φ : Calls'} {H0 H : AH} {Q : Post}

theorem bits_spec (hT : Cl Φ S.tab_Chk) {f : GField} {p : PL} {id : Nat} (hp : PAt H0 H id p) (hl : p.spots.length < 1000) (hu : w64 (8 * f.type.size) ≠ 0) (hQ : ∀ H', PAt H0 H' id (bitsM p f) → Keeps H H' id → Q (.tup []) H') : S.layout_placed_bits Φ (.ptr id 0) (.agg f.cells) H Q := by
  unfold S.layout_placed_bits
  simp only [fd_box, DoH_some, fd_addr, fd_a, fd_lsize, fd_l8, abin_mul, abin_eql, Do_of, Gd_true, nilck_ptr, afaddr, Nat.zero_add]
  refine ite_both (fun h => ?_) (fun h => ?_)
  · have hw : f.width = 0 := by simpa using h
    simp only [hp.load3, Do_of]
    refine S.cl_layout_up hT (up_spec hu ?_)
    refine hp.store3 _ fun H1 hp1 hk1 => ?_
    have e3 := hp1.load3
    simp only [e3, Do_of, abin_quo _ _ _ (show (8 : Int) ≠ 0 by decide), abin_rem _ _ _ (show (8 : Int) ≠ 0 by decide), span1, spotB0]
    refine hp1.app hl ⟨w64 ((upW p.bit (w64 (8 * f.type.size))).tdiv 8), 0, 1, true, (upW p.bit (w64 (8 * f.type.size))).tmod 8, 0⟩ fun H2 hp2 hk2 => hQ H2 ?_ (hk1.trans hk2)
    unfold bitsM
    rw [if_pos hw]; exact hp2
  · have hw : ¬ f.width = 0 := by simpa using h
    simp only [hp.load3, Do_of, abin_quo _ _ _ hu, abin_add, abin_sub, abin_neq, Gd_true]
    have k1 : ∀ (b : Int) (H1 : AH), b = bitOf p f → PAt H0 H1 id { p with bit := b } → Keeps H H1 id → JoinP (S.layout_placed_bits_k1 Φ (.ptr id 0) (.fptr f.cells) Q) [] H1 := by
      intro b H1 hb hp1 hk1
      have e3 := hp1.load3
      simp only [JoinP_def, S.layout_placed_bits_k1, nilck_ptr, afaddr, Nat.zero_add, Do_of, e3, abin_quo _ _ _ (show (8 : Int) ≠ 0 by decide), abin_rem _ _ _ (show (8 : Int) ≠ 0 by decide), fd_l8, abin_add, abin_sub, span2, spotB1]
      refine hp1.app hl ⟨w64 (b.tdiv 8), w64 (w64 (w64 ((w64 (w64 (b + f.width) - 1)).tdiv 8) - w64 (b.tdiv 8)) + 1), 1, true, b.tmod 8, f.width⟩ fun H2 hp2 hk2 => ?_
      have e4 := hp2.load3
      simp only [e4, Do_of, abin_add]
      refine hp2.store3 _ fun H3 hp3 hk3 => hQ H3 ?_ ((hk1.trans hk2).trans hk3)
      unfold bitsM
      rw [if_neg hw, ← hb]; exact hp3
    refine ite_both (fun h => ?_) (fun h => ?_)
    · refine S.cl_layout_up hT (up_spec hu ?_)
      refine hp.store3 _ fun H1 hp1 hk1 => k1 _ H1 ?_ hp1 hk1
      unfold bitOf
      rw [if_pos (by simpa using h)]
    · refine k1 p.bit H ?_ hp (Keeps.refl _ _)
      unfold bitOf
      rw [if_neg (by simpa using h)]

theorem wide_spec {t : GType} {f : GField} {align : Int} (hQ : Q (.int .i64 (wideM t.packed f align)) H) : S.layout_wide Φ (.agg t.cells) (.agg f.cells) (.int .i64 align) H Q := by
  have fin : ∀ v, v = wideM t.packed f align → Q (.int .i64 v) H := fun v h => by rw [h]; exact hQ
  clear hQ
  unfold S.layout_wide
  simp only [ty_box, fd_box, DoH_some, ty_addr, ty_l2, fd_addr, fd_l7, fd_l8, abin_eql, Do_of, Gd3_false, Gd3_true, JoinP_def, S.layout_wide_k1, sl_zero, Gd_true, fd_a, fd_lsize, Bool.false_eq_true, if_false, if_true]
  unfold wideM at fin
  repeat' (refine ite_both (fun h => ?_) (fun h => ?_))
  all_goals (refine fin _ ?_; simp_all)
end
end Rb

/- Package layout: place. -/
set_option linter.unusedVariables false
set_option linter.unusedSimpArgs false
namespace Rb
open Go

def ofV (r : (Int × Int) × Bool) : AV := .tup [.agg [.int .i64 r.1.1, .int .i64 r.1.2], .bool r.2]
theorem sndFs_bits {packed : Bool} : ∀ {l : List GField} {seen : List (List UInt8)}, sndFs packed seen l = 0 → ∀ f ∈ l, f.bits = true → f.type.kind = 1 ∧ 1 ≤ f.type.size ∧ f.type.size ≤ 8
  | [], _, _, f, hf => by cases hf
  | g :: r, seen, h, f, hf => by
    intro hb
    have hs := sndFs_mem h f hf
    simp only [sndFs] at h
    have h0 : sndF packed seen g = 0 := by
      by_cases hz : sndF packed seen g = 0
      · exact hz
      · rw [if_pos hz] at h; exact absurd h hz
    rw [if_neg (by simpa using h0)] at h
    rcases List.mem_cons.1 hf with rfl | hf
    · have hk : f.type.kind = 1 := by
        by_cases hk : f.type.kind = 1
        · exact hk
        · exfalso
          rw [sndF_eq] at h0
          split at h0
          · cases h0
          · split at h0
            · cases h0
            · split at h0
              · rename_i hz; exact hz h0
              · rw [if_pos (.inr ⟨hb, .inl hk⟩)] at h0; cases h0
      refine ⟨hk, ?_⟩
      rw [sndT_eq, hk] at hs
      split at hs
      · cases hs
      · simp only [if_true] at hs
        split at hs
        · rename_i hp
          simp [pow2] at hp
          omega
        · cases hs
    · exact sndFs_bits h f hf hb
theorem snd_fields {t : GType} (h : sndT t = 0) (hk : t.kind = 3 ∨ t.kind = 4) : sndFs t.packed [] t.fields = 0 := by
  rw [sndT_eq] at h
  have k1 : t.kind ≠ 1 := by omega
  have k2 : t.kind ≠ 2 := by omega
  have k5 : t.kind ≠ 5 := by omega
  rw [if_neg k1, if_neg k2, if_neg k5] at h
  split at h
  · cases h
  · split at h
    · cases h
    · exact h
theorem max_int' (a b : Int) : aminmax true [.int .i64 a, .int .i64 b] = some (.int .i64 (max a b)) := max_int a b

section
variable {Φ : Calls'} {H : AH} {Q : Post}
def zero4 : List AV := [.int .i64 0, .int .i64 0, .lst .nil 0 [], .int .i64 0]

theorem place_spec (hT : Cl Φ S.tab_Chk) {t : GType} (hs : sndT t = 0) (hk : t.kind = 3 ∨ t.kind = 4)
    (hof : ∀ f ∈ t.fields, Val Φ K.layout_of [.agg f.type.cells] (ofV (ofT f.type))) (hal : ∀ f ∈ t.fields, (ofT f.type).2 = true → 1 ≤ (ofT f.type).1.2)
    (hnone : placeFs t.packed t.kind ⟨0, 1, [], 0⟩ t.fields = none → ∀ H', AH.Ext H H' → Q (.tup [.agg zero4, .bool false]) H')
    (hsome : ∀ p, placeFs t.packed t.kind ⟨0, 1, [], 0⟩ t.fields = some p → ∀ x H', Lst H H' 6 x p.spots.length (p.spots.flatMap GSpot.cells) →
      Q (.tup [.agg [.int .i64 (upW p.size p.align), .int .i64 p.align, x, .int .i64 p.bit], .bool (decide (upW p.size p.align ≤ 65536))]) H') : S.layout_place Φ (.agg t.cells) H Q := by
  obtain ⟨hfs, hlen⟩ := snd_grp hs hk
  have hfb := snd_fields hs hk
  unfold S.layout_place
  have z6 : abuild [.int .i64 0, .int .i64 0, .lst .nil 0 [], .int .i64 0] [(0, 2, .agg [.int .i64 0, .int .i64 1])] = some (.agg [.int .i64 0, .int .i64 1, .lst .nil 0 [], .int .i64 0]) := rfl
  simp only [ty_box, DoH_some, abox, if_true, span2, z6, Do_of]
  rw [store_new _ _ _ 4 rfl rfl rfl]
  simp only [Do_of, ty_addr, ty_l3, lstA_len']
  have a3 : At ((H.push (.row zero4)).push (.row [.int .i64 0, .int .i64 1, .lst .nil 0 [], .int .i64 0])) H.n (.row zero4) := (At.new H _).push _
  have p7 : PAt H ((H.push (.row zero4)).push (.row [.int .i64 0, .int .i64 1, .lst .nil 0 [], .int .i64 0])) (H.push (.row zero4)).n ⟨0, 1, [], 0⟩ := ⟨_, At.new _ _, ((Lst.nil H 6).push _).push _, Nat.le_succ _⟩
  have hne : H.n ≠ (H.push (.row zero4)).n := by simp
  have hge : H.n ≤ H.n := Nat.le_refl _
  change LoopP (S.layout_place_l5 Φ (.fptr t.cells) (.ptr H.n 0) (.ptr (H.push (.row zero4)).n 0) (lstA GField.cells t.fields) (.int .i64 t.fields.length) Q) ([.int .i64 0], (H.push (.row zero4)).push (.row [.int .i64 0, .int .i64 1, .lst .nil 0 [], .int .i64 0]))
  generalize ((H.push (.row zero4)).push (.row [.int .i64 0, .int .i64 1, .lst .nil 0 [], .int .i64 0])) = H9 at *
  generalize (H.push (.row zero4)).n = id7 at *
  have main : ∀ (fs : List GField) (i : Nat) (p : PL) (H1 : AH), t.fields.drop i = fs → At H1 H.n (.row zero4) → PAt H H1 id7 p → p.spots.length ≤ i → 1 ≤ p.align → placeFs t.packed t.kind p fs = placeFs t.packed t.kind ⟨0, 1, [], 0⟩ t.fields →
      LoopP (S.layout_place_l5 Φ (.fptr t.cells) (.ptr H.n 0) (.ptr id7 0) (lstA GField.cells t.fields) (.int .i64 t.fields.length) Q) ([.int .i64 i], H1) := by
    intro fs
    induction fs with
    | nil =>
      intro i p H1 hd b3 b7 hsl hpa hfin
      have hle := drop_nil_le hd
      simp only [placeFs] at hfin
      refine LoopP.step ?_
      simp only [S.layout_place_l5, sl_zero, abin_lss, Do_of, Gd_true]
      rw [if_neg (by simp only [decide_eq_true_eq]; omega)]
      simp only [JoinP_def, S.layout_place_k4, afaddr, Nat.zero_add, Do_of, b7.load0, b7.load1]
      refine S.cl_layout_up hT (up_spec (by omega) ?_)
      refine b7.store0 _ fun H2 c7 hk => ?_
      have c3 := hk H.n _ hne b3
      obtain ⟨x, d1, d2, d3⟩ := c7
      have hx : x.scalar = true := by obtain ⟨_, tk, rfl, _⟩ := d2; rfl
      rw [d1.all (n := 4) rfl]
      simp only [Do_of]
      have l0 : aload H2 1 false (.ptr id7 0) = some (.int .i64 (upW p.size p.align)) := by rw [d1.load]; rfl
      rw [l0]
      simp only [Do_of, abin_leq]
      rw [c3.put (n := 4) rfl rfl (by simp only [List.all_cons, hx]; rfl)]
      simp only [Do_of]
      refine ⟨by rw [(d1.set_ne (fun e => hne e.symm) _).load]; rfl, ?_⟩
      rw [(c3.set _).all (n := 4) rfl]
      simp only [Do_of]
      exact hsome p hfin.symm x _ (d2.other c3 hge _)
    | cons f fs ih =>
      intro i p H1 hd b3 b7 hsl hpa hfin
      obtain ⟨hlt, hf, hd'⟩ := drop_cons_lt hd
      have hmem := List.mem_of_getElem? hf
      simp only [placeFs, ofF_eq] at hfin
      refine LoopP.step ?_
      simp only [S.layout_place_l5, sl_zero, abin_lss, Do_of, Gd_true]
      rw [if_pos (by simp only [decide_eq_true_eq]; omega), lstA_addr hlt]
      simp only [Do_of]
      rw [elA_load GField.len (by decide) _ hf]
      simp only [Do_of, DoH_some, abox, if_true]
      rw [store_new _ _ _ 9 f.len f.scalar rfl]
      simp only [Do_of, afaddr, Nat.zero_add]
      rw [load_push, fd_t1]
      simp only [Do_of]
      have n7 : id7 ≠ H1.n := by obtain ⟨x, d1, _⟩ := b7; exact d1.lt_new
      have c22 := At.new H1 (.row f.cells)
      have c3 := b3.push (.row f.cells)
      have c7 := b7.push (.row f.cells)
      generalize H1.push (.row f.cells) = H2 at *
      generalize H1.n = id22 at *
      refine hof f hmem _ _ ?_
      simp only [ofV, aextract, List.getElem?_cons_zero, List.getElem?_cons_succ, Do_of, DoH_some]
      rw [store_new _ _ _ 2 rfl rfl rfl]
      simp only [Do_of, aun_not, Gd_true]
      have n31 : id7 ≠ H2.n := by obtain ⟨x, d1, _⟩ := c7; exact d1.lt_new
      have d31 := At.new H2 (.row [.int .i64 (ofT f.type).1.1, .int .i64 (ofT f.type).1.2])
      have d22 := c22.push (.row [.int .i64 (ofT f.type).1.1, .int .i64 (ofT f.type).1.2])
      have d3 := c3.push (.row [.int .i64 (ofT f.type).1.1, .int .i64 (ofT f.type).1.2])
      have d7 := c7.push (.row [.int .i64 (ofT f.type).1.1, .int .i64 (ofT f.type).1.2])
      generalize H2.push (.row [.int .i64 (ofT f.type).1.1, .int .i64 (ofT f.type).1.2]) = H3 at *
      generalize H2.n = id31 at *
      refine ite_both (fun h => ?_) (fun h => ?_)
      · have hno : (ofT f.type).2 = false := by simpa using h
        rw [if_neg (by simp [hno])] at hfin
        have zb : abuild [.int .i64 0, .int .i64 0, .lst .nil 0 [], .int .i64 0] [] = some (.agg zero4) := rfl
        rw [zb]
        simp only [Do_of]
        rw [d3.put (n := 4) rfl rfl rfl]
        simp only [Do_of]
        rw [(d3.set _).all (n := 4) rfl]
        simp only [Do_of]
        obtain ⟨xx, _, ⟨hx, _⟩, _⟩ := d7
        exact hnone hfin.symm _ (hx.set hge _)
      · have hyes : (ofT f.type).2 = true := by simpa using h
        rw [if_pos hyes] at hfin
        have hga := hal f hmem hyes
        have l31a : aload H3 1 false (.ptr id31 1) = some (.int .i64 (ofT f.type).1.2) := by rw [d31.load]; rfl
        simp only [ty_all, d22.all f.len, l31a, Do_of]
        have hwide : 1 ≤ wideM t.packed f (ofT f.type).1.2 := by
          unfold wideM
          split
          · omega
          · split
            · rename_i hb; exact (sndFs_bits hfb f hmem hb).2.1
            · exact hga
        refine S.cl_layout_wide hT (wide_spec ?_)
        simp only [d7.load1, Do_of, max_int']
        refine d7.store1 _ fun H4 e7 hk4 => ?_
        have e3 := hk4 H.n _ hne d3
        have e22 := hk4 id22 _ (fun e => n7 e.symm) d22
        have e31 := hk4 id31 _ (fun e => n31 e.symm) d31
        clear hk4 d7 d3 d22 d31
        have k3 : ∀ (b : Int) (H5 : AH), b = (if t.kind = 4 then 0 else p.bit) → PAt H H5 id7 { p with align := max p.align (wideM t.packed f (ofT f.type).1.2), bit := b } → At H5 H.n (.row zero4) → At H5 id22 (.row f.cells) → At H5 id31 (.row [.int .i64 (ofT f.type).1.1, .int .i64 (ofT f.type).1.2]) →
            S.layout_place_k3 Φ (.ptr id7 0) (.ptr id22 0) (.ptr id31 0) (.int .i64 (wideM t.packed f (ofT f.type).1.2)) ([.int .i64 i], H1) (LoopP (S.layout_place_l5 Φ (.fptr t.cells) (.ptr H.n 0) (.ptr id7 0) (lstA GField.cells t.fields) (.int .i64 t.fields.length) Q)) Q [] H5 := by
          intro b H5 hb g7 g3 g22 g31
          have k2 : ∀ (p2 : PL) (H6 : AH), sizeM p2 = fieldM t.packed t.kind p f (ofT f.type).1 → PAt H H6 id7 p2 → At H6 H.n (.row zero4) → p2.spots.length ≤ i + 1 → 1 ≤ p2.align →
              S.layout_place_k2 Φ (.ptr id7 0) ([.int .i64 i], H1) (LoopP (S.layout_place_l5 Φ (.fptr t.cells) (.ptr H.n 0) (.ptr id7 0) (lstA GField.cells t.fields) (.int .i64 t.fields.length) Q)) Q [] H6 := by
            intro p2 H6 hp2 q7 q3 hsl2 hpa2
            simp only [S.layout_place_k2, afaddr, Nat.zero_add, Do_of, q7.load0, q7.load3]
            refine S.cl_layout_up hT (up_spec (by decide) ?_)
            refine ⟨q7.load0, ?_⟩
            simp only [abin_quo _ _ _ (show (8 : Int) ≠ 0 by decide), Do_of, max_int']
            refine q7.store0 _ fun H7 r7 hk7 => ?_
            simp only [JoinP_def, S.layout_place_k1, sl_zero, abin_add, Do_of]
            rw [wrap_i64 (by omega) (by omega), show ((i : Int) + 1) = ((i + 1 : Nat) : Int) by simp]
            refine ih (i + 1) (sizeM p2) H7 hd' (hk7 H.n _ hne q3) r7 hsl2 hpa2 ?_
            rw [hp2]; exact hfin
          have hmax : 1 ≤ max p.align (wideM t.packed f (ofT f.type).1.2) := by omega
          have l7 : aload H5 1 false (.ptr id22 7) = some (.bool f.bits) := by rw [g22.load, fd_t7]
          simp only [S.layout_place_k3, afaddr, Nat.zero_add, Do_of, l7, Gd_true]
          refine ite_both (fun hbits => ?_) (fun hbits => ?_)
          · obtain ⟨hk1, hz1, hz2⟩ := sndFs_bits hfb f hmem hbits
            have hu : w64 (8 * f.type.size) ≠ 0 := by
              show IntKind.wrap .i64 (8 * f.type.size) ≠ 0
              rw [wrap_i64 (by omega) (by omega)]; omega
            rw [g22.all f.len]
            simp only [Do_of]
            refine S.cl_layout_placed_bits hT (bits_spec hT g7 (by show p.spots.length < 1000; omega) hu fun H6 q7 hk6 => ?_)
            simp only [JoinP_def]
            refine k2 _ H6 ?_ q7 (hk6 H.n _ hne g3) ?_ ?_
            · unfold fieldM
              simp only [hbits, if_true, hb]
            · unfold bitsM
              split <;> (simp only [List.length_append, List.length_cons, List.length_nil]; omega)
            · unfold bitsM
              split <;> exact hmax
          · simp only [Bool.not_eq_true] at hbits
            have ls : aload H5 1 false (.ptr id31 0) = some (.int .i64 (ofT f.type).1.1) := by rw [g31.load]; rfl
            have lk : aload H5 1 false (.ptr id22 1) = some (.int .i64 f.type.kind) := by rw [g22.load, fd_k]
            simp only [g7.load3, Do_of]
            refine S.cl_layout_up hT (up_spec (by decide) ?_)
            simp only [abin_quo _ _ _ (show (8 : Int) ≠ 0 by decide), Do_of]
            refine S.cl_layout_up hT (up_spec (by omega) ?_)
            simp only [ls, lk, Do_of, span2, spotB2]
            refine g7.app (by show p.spots.length < 1000; omega) ⟨upW (w64 ((upW b 8).tdiv 8)) (wideM t.packed f (ofT f.type).1.2), (ofT f.type).1.1, f.type.kind, false, 0, 0⟩ fun H6 q7 hk6 => ?_
            have q31 := hk6 id31 _ (fun e => n31 e.symm) g31
            have ls2 : aload H6 1 false (.ptr id31 0) = some (.int .i64 (ofT f.type).1.1) := by rw [q31.load]; rfl
            simp only [ls2, Do_of, abin_add, abin_mul]
            refine q7.store3 _ fun H7 r7 hk7 => ?_
            simp only [JoinP_def]
            refine k2 _ H7 ?_ r7 (hk7 H.n _ hne (hk6 H.n _ hne g3)) ?_ hmax
            · unfold fieldM
              simp only [hbits, Bool.false_eq_true, if_false, hb]
              rfl
            · show (p.spots ++ [_]).length ≤ i + 1
              simp only [List.length_append, List.length_cons, List.length_nil]; omega
        simp only [ty_addr, ty_l0, abin_eql, Do_of, Gd_true, JoinP_def]
        refine ite_both (fun h4 => ?_) (fun h4 => ?_)
        · refine e7.store3 _ fun H5 g7 hk5 => k3 _ H5 ?_ g7 (hk5 H.n _ hne e3) (hk5 id22 _ (fun e => n7 e.symm) e22) (hk5 id31 _ (fun e => n31 e.symm) e31)
          rw [if_pos (by simpa using h4)]
        · refine k3 p.bit H4 ?_ e7 e3 e22 e31
          rw [if_neg (by simpa using h4)]
  exact main t.fields 0 _ H9 rfl a3 p7 (Nat.le_refl _) (by decide) rfl
end
end Rb

/- Package layout: of, check, Of. -/
set_option linter.unusedVariables false
set_option linter.unusedSimpArgs false
namespace Rb
open Go

theorem snd_kind {t : GType} (h : sndT t = 0) : t.kind = 1 ∨ t.kind = 2 ∨ t.kind = 5 ∨ t.kind = 3 ∨ t.kind = 4 := by
  rw [sndT_eq] at h
  split at h
  · cases h
  · rename_i ho
    simp only [Bool.not_eq_false] at ho
    unfold onlyM at ho
    by_cases h1 : t.kind = 1
    · exact .inl h1
    by_cases h2 : t.kind = 2
    · exact .inr (.inl h2)
    by_cases h3 : t.kind = 3
    · exact .inr (.inr (.inr (.inl h3)))
    by_cases h4 : t.kind = 4
    · exact .inr (.inr (.inr (.inr h4)))
    by_cases h5 : t.kind = 5
    · exact .inr (.inr (.inl h5))
    simp [h1, h2, h3, h4, h5] at ho

section
variable {Φ : Calls'} {H : AH} {Q : Post}
theorem span0 : abuild [.int .i64 0, .int .i64 0] [] = some (.agg [.int .i64 0, .int .i64 0]) := rfl

theorem of_spec (hT : Cl Φ S.tab_Chk) {t : GType} (hs : sndT t = 0)
    (hof : ∀ f ∈ t.fields, Val Φ K.layout_of [.agg f.type.cells] (ofV (ofT f.type))) (hal : ∀ f ∈ t.fields, (ofT f.type).2 = true → 1 ≤ (ofT f.type).1.2)
    (hoe : ∀ e ∈ t.elem, Val Φ K.layout_of [.agg e.cells] (ofV (ofT e))) (hQ : ∀ H', Q (ofV (ofT t)) H') : S.layout_of Φ (.agg t.cells) H Q := by
  have fin : ∀ r, r = ofT t → ∀ H', Q (ofV r) H' := fun r h => by rw [h]; exact hQ
  clear hQ
  rw [ofT_eq] at fin
  unfold S.layout_of
  simp only [ty_box, DoH_some, abox, if_true, ty_addr, ty_l0, abin_eql, Do_of, Gd_true]
  have a3 := At.new H (.row [.int .i64 0, .int .i64 0])
  generalize H.push (.row [.int .i64 0, .int .i64 0]) = H4 at *
  generalize H.n = id3 at *
  have k2 : ∀ b : Bool, (b = true ↔ (t.kind = 1 ∨ t.kind = 2)) → JoinP (S.layout_of_k2 Φ (.fptr t.cells) (.ptr id3 0) (.int .i64 t.kind) Q) [.bool b] H4 := by
    intro b hb
    simp only [JoinP_def, S.layout_of_k2, sl_zero, Gd_true]
    refine ite_both (fun h => ?_) (fun h => ?_)
    · have h12 := hb.1 h
      rw [if_pos h12] at fin
      simp only [ty_addr, ty_l1, Do_of, span2]
      rw [a3.put (n := 2) rfl rfl rfl]
      simp only [Do_of]
      rw [(a3.set _).all (n := 2) rfl]
      simp only [Do_of]
      exact fin _ rfl _
    · have h12 : ¬ (t.kind = 1 ∨ t.kind = 2) := fun y => h (hb.2 y)
      rw [if_neg h12] at fin
      simp only [abin_eql, Do_of, Gd_true]
      refine ite_both (fun h => ?_) (fun h => ?_)
      · have h5 : t.kind = 5 := by simpa using h
        rw [if_pos h5] at fin
        obtain ⟨e, he, _⟩ := snd_arr hs h5
        simp only [ty_addr, ty_l5, Do_of]
        have ha : aiaddr none 6 (lstA GType.cells t.elem) (.int .i64 0) = some (elA GType.cells 6 t.elem 0) := lstA_addr (by rw [he]; simp)
        rw [ha]
        simp only [Do_of]
        rw [elA_load GType.len (by decide) _ (show t.elem[0]? = some e by rw [he]; rfl)]
        simp only [Do_of]
        refine hoe e (by rw [he]; simp) _ _ ?_
        rw [he] at fin
        simp only [ofE] at fin
        simp only [ofV, aextract, List.getElem?_cons_zero, List.getElem?_cons_succ, Do_of, DoH_some, abox, if_true]
        rw [store_new _ _ _ 2 rfl rfl rfl]
        simp only [Do_of, afaddr, Nat.zero_add, ty_addr, ty_l4]
        have n28 : id3 ≠ H4.n := a3.lt_new
        have b28 := At.new H4 (.row [.int .i64 (ofT e).1.1, .int .i64 (ofT e).1.2])
        have b3 := a3.push (.row [.int .i64 (ofT e).1.1, .int .i64 (ofT e).1.2])
        generalize H4.push (.row [.int .i64 (ofT e).1.1, .int .i64 (ofT e).1.2]) = H5 at *
        generalize H4.n = id28 at *
        have l1 : aload H5 1 false (.ptr id28 0) = some (.int .i64 (ofT e).1.1) := by rw [b28.load]; rfl
        simp only [l1, Do_of, abin_mul]
        have s1 : astore H5 1 (.ptr id28 0) (.int .i64 (w64 ((ofT e).1.1 * t.count))) = some (H5.set id28 (.row [.int .i64 (w64 ((ofT e).1.1 * t.count)), .int .i64 (ofT e).1.2])) := by
          rw [b28.store, if_pos ⟨rfl, rfl, rfl, by simp⟩]; rfl
        rw [s1]
        simp only [Do_of]
        have c28 := b28.set (.row [.int .i64 (w64 ((ofT e).1.1 * t.count)), .int .i64 (ofT e).1.2])
        have c3 := b3.set_ne n28 (.row [.int .i64 (w64 ((ofT e).1.1 * t.count)), .int .i64 (ofT e).1.2])
        generalize H5.set id28 (.row [.int .i64 (w64 ((ofT e).1.1 * t.count)), .int .i64 (ofT e).1.2]) = H6 at *
        rw [c28.all (n := 2) rfl]
        have l2 : aload H6 1 false (.ptr id28 0) = some (.int .i64 (w64 ((ofT e).1.1 * t.count))) := by rw [c28.load]; rfl
        simp only [Do_of, Gd3_true]
        refine ite_both (fun h => ?_) (fun h => ?_)
        · simp only [l2, Do_of, abin_leq]
          rw [c3.put (n := 2) rfl rfl rfl]
          simp only [Do_of]
          refine ⟨fun _ => ?_, ?_⟩
          · rw [(c28.set_ne n28.symm _).load]; rfl
          · rw [(c3.set _).all (n := 2) rfl]
            simp only [Do_of]
            exact fin ((w64 ((ofT e).1.1 * t.count), (ofT e).1.2), decide (w64 ((ofT e).1.1 * t.count) ≤ 65536)) (by rw [h, Bool.true_and]; rfl) _
        · simp only [Bool.not_eq_true] at h
          rw [c3.put (n := 2) rfl rfl rfl]
          simp only [Do_of]
          refine And.intro (fun y => nomatch y) ?_
          rw [(c3.set _).all (n := 2) rfl]
          simp only [Do_of]
          exact fin ((w64 ((ofT e).1.1 * t.count), (ofT e).1.2), false) (by rw [h, Bool.false_and]) _
      · have h5 : ¬ t.kind = 5 := by simpa using h
        rw [if_neg h5] at fin
        have hk : t.kind = 3 ∨ t.kind = 4 := by
          rcases snd_kind hs with h | h | h | h
          · exact absurd (.inl h) h12
          · exact absurd (.inr h) h12
          · exact absurd h h5
          · exact h
        simp only [JoinP_def, S.layout_of_k1, ty_all, Do_of]
        refine S.cl_layout_place hT (place_spec hT hs hk hof hal ?_ ?_)
        · intro hn H' hx
          rw [hn] at fin
          simp only [aextract, List.getElem?_cons_zero, List.getElem?_cons_succ, Do_of, DoH_some, abox, if_true]
          rw [store_new _ _ _ 4 rfl rfl rfl]
          simp only [Do_of, afaddr, Nat.zero_add]
          rw [load_push]
          have tk : takeCells zero4 0 2 true = some (.agg [.int .i64 0, .int .i64 0]) := rfl
          rw [tk]
          simp only [Do_of]
          have e3 := (a3.ext hx).push (.row zero4)
          rw [e3.put (n := 2) rfl rfl rfl]
          simp only [Do_of]
          rw [(e3.set _).all (n := 2) rfl]
          simp only [Do_of]
          exact fin ((0, 0), false) rfl _
        · intro p hp x H' hL
          rw [hp] at fin
          have hx := hL.1
          have hsc : x.scalar = true := by obtain ⟨_, tk, rfl, _⟩ := hL; rfl
          simp only [aextract, List.getElem?_cons_zero, List.getElem?_cons_succ, Do_of, DoH_some, abox, if_true]
          rw [store_new _ _ _ 4 rfl (by simp only [List.all_cons, hsc]; rfl) rfl]
          simp only [Do_of, afaddr, Nat.zero_add]
          rw [load_push]
          have tk : takeCells [.int .i64 (upW p.size p.align), .int .i64 p.align, x, .int .i64 p.bit] 0 2 true = some (.agg [.int .i64 (upW p.size p.align), .int .i64 p.align]) := rfl
          rw [tk]
          simp only [Do_of]
          have e3 := (a3.ext hx).push (.row [.int .i64 (upW p.size p.align), .int .i64 p.align, x, .int .i64 p.bit])
          rw [e3.put (n := 2) rfl rfl rfl]
          simp only [Do_of]
          rw [(e3.set _).all (n := 2) rfl]
          simp only [Do_of]
          exact fin ((upW p.size p.align, p.align), decide (upW p.size p.align ≤ 65536)) rfl _
  refine ite_both (fun h => ?_) (fun h => ?_)
  · exact k2 _ ⟨fun _ => .inl (by simpa using h), fun _ => h⟩
  · refine k2 _ ⟨fun h2 => .inr (by simpa using h2), fun h2 => ?_⟩
    rcases h2 with h2 | h2
    · exact absurd (by simpa using h2) h
    · simpa using h2
end
end Rb

/- Package layout: of, at every sound type; check, Of. -/
set_option linter.unusedVariables false
set_option linter.unusedSimpArgs false
namespace Rb
open Go

theorem fieldM_align (packed : Bool) (kind : Int) (p : PL) (f : GField) (g : Int × Int) : p.align ≤ (fieldM packed kind p f g).align := by
  have h : (fieldM packed kind p f g).align = max p.align (wideM packed f g.2) := by
    unfold fieldM
    simp only
    split
    · unfold sizeM bitsM
      split <;> rfl
    · rfl
  rw [h]; omega
theorem placeFs_align {packed : Bool} {kind : Int} : ∀ {l : List GField} {p q : PL}, placeFs packed kind p l = some q → p.align ≤ q.align
  | [], p, q, h => by simp only [placeFs, Option.some.injEq] at h; rw [h]; exact Int.le_refl _
  | f :: r, p, q, h => by
    simp only [placeFs] at h
    split at h
    · exact Int.le_trans (fieldM_align packed kind p f _) (placeFs_align h)
    · cases h
theorem ofT_align : ∀ t : GType, sndT t = 0 → (ofT t).2 = true → 1 ≤ (ofT t).1.2 := by
  refine GType.ind fun t ihf ihe hs h => ?_
  rw [ofT_eq] at h ⊢
  split at h
  · rename_i h12
    rw [if_pos h12]
    rw [sndT_eq] at hs
    split at hs
    · cases hs
    · have hp : pow2 t.size 8 = true ∨ pow2 t.size 16 = true := by
        rcases h12 with h1 | h1
        · rw [if_pos h1] at hs
          split at hs
          · exact .inl ‹_›
          · cases hs
        · rw [if_neg (by omega), if_pos h1] at hs
          split at hs
          · exact .inr ‹_›
          · cases hs
      show 1 ≤ t.size
      rcases hp with hp | hp <;> (simp [pow2] at hp; omega)
  · rename_i h12
    rw [if_neg h12]
    split at h
    · rename_i h5
      rw [if_pos h5]
      obtain ⟨e, he, hse⟩ := snd_arr hs h5
      rw [he] at h ⊢
      simp only [ofE, Bool.and_eq_true] at h ⊢
      exact ihe e (by rw [he]; simp) hse h.1
    · rename_i h5
      rw [if_neg h5]
      cases hp : placeFs t.packed t.kind ⟨0, 1, [], 0⟩ t.fields with
      | none => rw [hp] at h; cases h
      | some p => exact placeFs_align hp

section
variable {C : Ctx} (hGT : GTok C) (hT : Cl (ACall C) S.tab_Chk)
include hGT hT
theorem of_val : ∀ t : GType, sndT t = 0 → Val (ACall C) K.layout_of [.agg t.cells] (ofV (ofT t)) := by
  refine GType.ind fun t ihf ihe hs => ?_
  refine Val.of hGT (by simp [AV.frozs, AV.froz, GType.froz]) rfl fun Q hQ => S.cl_layout_of hT ?_
  have ho : onlyM t.kind t.size t.packed t.fields.length t.count t.elem.length = true := by
    rw [sndT_eq] at hs
    split at hs
    · cases hs
    · rename_i h; simpa using h
  unfold onlyM at ho
  have hfs : ∀ f ∈ t.fields, sndT f.type = 0 := by
    intro f hf
    rcases snd_kind hs with h | h | h | h
    · simp only [h, true_or, if_true, Bool.and_eq_true, beq_iff_eq, List.length_eq_zero_iff] at ho
      rw [ho.1.1.2] at hf; cases hf
    · simp only [h, or_true, if_true, Bool.and_eq_true, beq_iff_eq, List.length_eq_zero_iff] at ho
      rw [ho.1.1.2] at hf; cases hf
    · rw [if_neg (by omega), if_neg (by omega), if_pos h] at ho
      simp only [Bool.and_eq_true, beq_iff_eq, List.length_eq_zero_iff] at ho
      rw [ho.1.2] at hf; cases hf
    · exact (snd_grp hs h).1 f hf
  have hes : ∀ e ∈ t.elem, sndT e = 0 := by
    intro e he
    rcases snd_kind hs with h | h | h | h
    · simp only [h, true_or, if_true, Bool.and_eq_true, beq_iff_eq, List.length_eq_zero_iff] at ho
      rw [ho.2] at he; cases he
    · simp only [h, or_true, if_true, Bool.and_eq_true, beq_iff_eq, List.length_eq_zero_iff] at ho
      rw [ho.2] at he; cases he
    · obtain ⟨e', he', hs'⟩ := snd_arr hs h
      rw [he'] at he
      rcases List.mem_cons.1 he with rfl | he
      · exact hs'
      · cases he
    · rw [if_neg (by omega), if_pos h] at ho
      simp only [Bool.and_eq_true, beq_iff_eq, List.length_eq_zero_iff] at ho
      rw [ho.2] at he; cases he
  exact of_spec hT hs (fun f hf => ihf f hf (hfs f hf)) (fun f hf => ofT_align f.type (hfs f hf)) (fun e he => ihe e he (hes e he)) hQ
end
end Rb

/- Package layout: check, Of. -/
set_option linter.unusedVariables false
set_option linter.unusedSimpArgs false
namespace Rb
open Go

def layM (t : GType) : (Int × Int) × Int :=
  if soundM t ≠ 0 then ((0, 0), soundM t) else if tornT t = true then ((0, 0), 10) else if (ofT t).2 = false then ((0, 0), 9) else ((ofT t).1, 0)
theorem soundM_snd {t : GType} (h : soundM t = 0) : sndT t = 0 := by
  unfold soundM at h
  split at h
  · cases h
  · exact h

section
variable {C : Ctx} (hGT : GTok C) (hT : Cl (ACall C) S.tab_Chk)
include hGT hT
theorem layout_check_spec (t : GType) (ht : t.ok) {H : AH} {Q : Post} (hQ : ∀ H', Q (.tup [.agg [.int .i64 (layM t).1.1, .int .i64 (layM t).1.2], .int .i64 (layM t).2]) H') : S.layout_check (ACall C) (.agg t.cells) H Q := by
  have fin : ∀ r, r = layM t → ∀ H', Q (.tup [.agg [.int .i64 r.1.1, .int .i64 r.1.2], .int .i64 r.2]) H' := fun r h => by rw [h]; exact hQ
  clear hQ
  unfold layM at fin
  unfold S.layout_check
  simp only [ty_box, DoH_some, abox, if_true, ty_all, Do_of]
  have a3 := At.new H (.row [.int .i64 0, .int .i64 0])
  generalize H.push (.row [.int .i64 0, .int .i64 0]) = H4 at *
  generalize H.n = id3 at *
  refine kindSoundM_val hGT hT t ht _ _ ?_
  simp only [abin_neq, Do_of, Gd_true]
  refine ite_both (fun h => ?_) (fun h => ?_)
  · have hs : soundM t ≠ 0 := by simpa using h
    rw [if_pos hs] at fin
    simp only [span0, Do_of]
    rw [a3.put (n := 2) rfl rfl rfl]
    simp only [Do_of]
    rw [(a3.set _).all (n := 2) rfl]
    simp only [Do_of]
    exact fin _ rfl _
  · have hs : soundM t = 0 := by simpa using h
    rw [if_neg (by simpa using hs)] at fin
    refine torn_val hT t ht _ _ ?_
    simp only [Gd_true]
    refine ite_both (fun h => ?_) (fun h => ?_)
    · rw [if_pos h] at fin
      simp only [span0, Do_of]
      rw [a3.put (n := 2) rfl rfl rfl]
      simp only [Do_of]
      rw [(a3.set _).all (n := 2) rfl]
      simp only [Do_of]
      exact fin _ rfl _
    · rw [if_neg h] at fin
      refine of_val hGT hT t (soundM_snd hs) _ _ ?_
      simp only [ofV, aextract, List.getElem?_cons_zero, List.getElem?_cons_succ, Do_of, DoH_some, abox, if_true]
      rw [store_new _ _ _ 2 rfl rfl rfl]
      simp only [Do_of, aun_not, Gd_true]
      have b23 := At.new H4 (.row [.int .i64 (ofT t).1.1, .int .i64 (ofT t).1.2])
      have b3 := a3.push (.row [.int .i64 (ofT t).1.1, .int .i64 (ofT t).1.2])
      generalize H4.push (.row [.int .i64 (ofT t).1.1, .int .i64 (ofT t).1.2]) = H5 at *
      generalize H4.n = id23 at *
      refine ite_both (fun h => ?_) (fun h => ?_)
      · rw [if_pos (by simpa using h)] at fin
        simp only [span0, Do_of]
        rw [b3.put (n := 2) rfl rfl rfl]
        simp only [Do_of]
        rw [(b3.set _).all (n := 2) rfl]
        simp only [Do_of]
        exact fin _ rfl _
      · rw [if_neg (by simpa using h)] at fin
        rw [b23.all (n := 2) rfl]
        simp only [Do_of]
        rw [b3.put (n := 2) rfl rfl rfl]
        simp only [Do_of]
        rw [(b3.set _).all (n := 2) rfl]
        simp only [Do_of]
        exact fin _ rfl _
theorem layout_Of_val (t : GType) (ht : t.ok) : Val (ACall C) K.layout_Of [.agg t.cells] (.tup [.int .i64 (layM t).1.1, .int .i64 (layM t).1.2, .int .i64 (layM t).2]) := by
  refine Val.of hGT (by simp [AV.frozs, AV.froz, GType.froz]) rfl fun Q hQ => S.cl_layout_Of hT ?_
  unfold S.layout_Of
  simp only [ty_box, DoH_some, ty_all, Do_of]
  refine S.cl_layout_check hT (layout_check_spec hGT hT t ht fun H' => ?_)
  simp only [aextract, List.getElem?_cons_zero, List.getElem?_cons_succ, Do_of, DoH_some, abox, if_true]
  rw [store_new _ _ _ 2 rfl rfl rfl]
  simp only [Do_of, afaddr, Nat.zero_add, load_push]
  exact ⟨_, rfl, _, rfl, hQ _⟩
end
end Rb

/- Package check: a model of the checker; what the laws ask of it. -/
set_option linter.unusedVariables false
set_option linter.unusedSimpArgs false
namespace Rb
open Go

/-- What the checker keeps. -/
structure CSt where
  locals : List (List UInt8)
  lets : Int
  line : Int
  fline : Int
  fkind : Int
def CSt.need (s : CSt) (ok : Bool) (e : Int) : CSt := if ok = false ∧ s.fkind = 0 then { s with fline := s.line, fkind := e } else s
def CSt.back (s : CSt) (n : Nat) : CSt := { s with locals := s.locals.take n }
def CSt.at (s : CSt) (l : Int) : CSt := { s with line := l }
def CSt.letIn (s : CSt) (x : List UInt8) : CSt := { s with locals := s.locals ++ [x], lets := w64 (s.lets + 1) }
def CSt.has (s : CSt) (x : List UInt8) : Bool := s.locals.any fun y => x == y

def orderM (k o : Int) : Bool :=
  if k = 4 ∨ k = 6 then o == 1 || o == 3 || o == 4
  else if k = 5 ∨ k = 15 then o == 1 || o == 2 || o == 4
  else if k = 16 ∨ k = 17 ∨ k = 18 then decide (1 ≤ o) && decide (o ≤ 4)
  else if k = 7 then decide (2 ≤ o) && decide (o ≤ 4)
  else o == 0
def emptyM (x : GPlace) : Bool := x.var == [] && x.parts.length == 0
/-- What a statement of a kind has: a name, a second one, a place, so many expressions, blocks. -/
def hasM (k : Int) : Bool × Bool × Bool × Int × Bool × Bool :=
  if k = 1 ∨ k = 2 then (true, false, false, 1, false, false)
  else if k = 3 ∨ k = 4 then (false, false, true, 1, false, false)
  else if k = 5 then (true, true, true, 0, false, false)
  else if k = 6 then (false, false, true, 2, false, false)
  else if k = 7 then (false, false, false, 0, false, false)
  else if k = 8 then (false, false, false, 1, true, true)
  else if k = 9 then (false, false, false, 1, true, false)
  else (false, false, false, 1, false, false)
def formM (x : GStmt) : Bool :=
  decide (1 ≤ x.kind) && decide (x.kind ≤ 10) && ((hasM x.kind).1 || x.name == []) && ((hasM x.kind).2.1 || x.name2 == []) && ((hasM x.kind).2.2.1 || emptyM x.place) && ((x.exprs.length : Int) == (hasM x.kind).2.2.2.1) && ((hasM x.kind).2.2.2.2.1 || x.thn.length == 0) && ((hasM x.kind).2.2.2.2.2 || x.els.length == 0)
def kidsM (k : Int) : Int × Bool :=
  if k = 3 then (2, false) else if k = 4 ∨ k = 5 then (0, true) else if k = 6 ∨ k = 7 then (1, true) else if k = 8 then (2, true) else (0, false)
def formedM (e : GExpr) : Bool :=
  decide (1 ≤ e.kind) && decide (e.kind ≤ 8) && (e.kind == 1 || e.n == 0) && (e.kind == 2 || e.name == []) && (if e.kind = 3 then decide (1 ≤ e.op) && decide (e.op ≤ 11) else e.op == 0) && ((kidsM e.kind).2 || emptyM e.place) && ((e.kids.length : Int) == (kidsM e.kind).1)
def fitsM (k : Int) (t : GType) : Bool :=
  if k = 3 ∨ k = 14 then t.kind == 1 else if k = 5 ∨ k = 6 then t.kind == 2 && t.size == 16 else t.kind == 2 && decide (t.size ≤ 8)

section
variable (vars : List GVar)
def placeS (s : CSt) (k : Int) (x : GPlace) : CSt :=
  let s1 := s.need ((placeM vars x).1 == 0) (placeM vars x).1
  s1.need (s1.fkind != 0 || fitsM k (placeM vars x).2) 8
def headE (s : CSt) (d : Int) (e : GExpr) : CSt := ((s.need (decide (d ≤ 64)) 5).need (formedM e) 4).need (orderM (w64 (10 + e.kind)) e.order) 11
mutual
def exM (s : CSt) (d : Int) : GExpr → CSt
  | .mk kind n name op order place kids =>
    if (headE s d (.mk kind n name op order place kids)).fkind ≠ 0 then headE s d (.mk kind n name op order place kids)
    else exsM (if kind ≥ 4 then plM (if kind = 2 then (headE s d (.mk kind n name op order place kids)).need ((headE s d (.mk kind n name op order place kids)).has name) 6 else headE s d (.mk kind n name op order place kids)) (w64 (10 + kind)) d place
      else (if kind = 2 then (headE s d (.mk kind n name op order place kids)).need ((headE s d (.mk kind n name op order place kids)).has name) 6 else headE s d (.mk kind n name op order place kids))) d kids
def exsM (s : CSt) (d : Int) : List GExpr → CSt
  | [] => s
  | e :: r => exsM (if s.fkind ≠ 0 then s else exM s (w64 (d + 1)) e) d r
def plM (s : CSt) (k : Int) (d : Int) : GPlace → CSt
  | .mk var parts => if s.fkind ≠ 0 then s else ptsM (placeS vars s k (.mk var parts)) d parts
def ptsM (s : CSt) (d : Int) : List GPart → CSt
  | [] => s
  | p :: r => ptsM (ptM s d p) d r
def ptM (s : CSt) (d : Int) : GPart → CSt
  | .mk field index => idxM s d index
def idxM (s : CSt) (d : Int) : List GExpr → CSt
  | [] => s
  | e :: r => idxM (exM s (w64 (d + 1)) e) d r
end
variable (kw : List UInt8 → Bool)
def headS (s : CSt) (d : Int) (x : GStmt) : CSt := ((s.need (decide (d ≤ 64)) 5).need (formM x) 4).need (orderM x.kind x.order) 11
/-- What a statement asks ahead of its expressions. -/
def frontS (s : CSt) (d : Int) (x : GStmt) : CSt :=
  if x.kind = 1 then ((s.need (nameOk x.name && !kw x.name) 6).need (!s.has x.name) 7).need (decide (s.lets < 40)) 12
  else if x.kind = 2 then s.need (s.has x.name) 6
  else if x.kind = 3 ∨ x.kind = 4 ∨ x.kind = 5 ∨ x.kind = 6 then plM vars s x.kind d x.place
  else s
def rearS (s : CSt) (x : GStmt) : CSt :=
  if x.kind = 1 then s.letIn x.name
  else if x.kind = 5 then ((s.need (s.has x.name) 6).need (s.has x.name2) 6).need (!(x.name == x.name2)) 7
  else s
def bodyS (s : CSt) (d : Int) (x : GStmt) : CSt := rearS (exsM vars (frontS vars kw (headS s d x) d x) d x.exprs) x
mutual
def stM (s : CSt) (d : Int) : GStmt → CSt
  | .mk kind line name name2 order place exprs thn els =>
    blM ((blM (bodyS vars kw s d (.mk kind line name name2 order place exprs thn els)) (bodyS vars kw s d (.mk kind line name name2 order place exprs thn els)).locals.length (w64 (d + 1)) thn).at line)
      (((blM (bodyS vars kw s d (.mk kind line name name2 order place exprs thn els)) (bodyS vars kw s d (.mk kind line name name2 order place exprs thn els)).locals.length (w64 (d + 1)) thn).at line).locals.length) (w64 (d + 1)) els
/-- A block; at its end so many locals are left. -/
def blM (s : CSt) (n : Nat) (d : Int) : List GStmt → CSt
  | [] => s.back n
  | x :: r => blM (if s.fkind ≠ 0 then s else stM (s.at x.line) d x) n d r
end
def blockM (s : CSt) (d : Int) (l : List GStmt) : CSt := blM vars kw s s.locals.length d l

def varsL (seen : List (List UInt8)) (at_ : Int) : List GVar → Int
  | [] => if at_ > 65536 then 9 else 0
  | v :: r => if nameOk v.name = false ∨ kw v.name = true then 6 else if seen.contains v.name = true then 7
    else if (layM v.type).2 ≠ 0 then (layM v.type).2 else varsL (seen ++ [v.name]) (w64 (upW at_ (layM v.type).1.2 + (layM v.type).1.1)) r
end
section
variable (kw : List UInt8 → Bool)
def varsM (list : List GVar) : Int := if 32 < list.length then 12 else varsL kw [] 0 list
def s0 : CSt := ⟨[], 0, 0, 0, 0⟩
def thrsM (vars : List GVar) : List (List GStmt) → Int × Int
  | [] => (0, 0)
  | t :: r => if (blockM vars kw s0 1 t).fkind ≠ 0 then ((blockM vars kw s0 1 t).fline, (blockM vars kw s0 1 t).fkind) else thrsM vars r
def progM (p : GProg) : Int × Int :=
  if 32 < p.vars.length ∨ p.threads.length < 1 ∨ 8 < p.threads.length then (0, 12)
  else if varsM kw p.vars ≠ 0 then (0, varsM kw p.vars) else thrsM kw p.vars p.threads
end

theorem exM_eq (vars : List GVar) (s : CSt) (d : Int) (e : GExpr) : exM vars s d e = if (headE s d e).fkind ≠ 0 then headE s d e
    else exsM vars (if e.kind ≥ 4 then plM vars (if e.kind = 2 then (headE s d e).need ((headE s d e).has e.name) 6 else headE s d e) (w64 (10 + e.kind)) d e.place else (if e.kind = 2 then (headE s d e).need ((headE s d e).has e.name) 6 else headE s d e)) d e.kids := by
  cases e; rw [exM]
theorem plM_eq (vars : List GVar) (s : CSt) (k d : Int) (x : GPlace) : plM vars s k d x = if s.fkind ≠ 0 then s else ptsM vars (placeS vars s k x) d x.parts := by cases x; rw [plM]
theorem ptM_eq (vars : List GVar) (s : CSt) (d : Int) (p : GPart) : ptM vars s d p = idxM vars s d p.index := by cases p; rw [ptM]
theorem stM_eq (vars : List GVar) (kw : List UInt8 → Bool) (s : CSt) (d : Int) (x : GStmt) : stM vars kw s d x = blockM vars kw ((blockM vars kw (bodyS vars kw s d x) (w64 (d + 1)) x.thn).at x.line) (w64 (d + 1)) x.els := by
  cases x; rw [stM]; rfl

/-! Once there is a fault, it stays -/
theorem need_bad {s : CSt} (h : s.fkind ≠ 0) (ok : Bool) (e : Int) : s.need ok e = s := by unfold CSt.need; rw [if_neg fun x => h x.2]
theorem headE_bad {s : CSt} (h : s.fkind ≠ 0) (d : Int) (e : GExpr) : headE s d e = s := by unfold headE; rw [need_bad h, need_bad h, need_bad h]
theorem headS_bad {s : CSt} (h : s.fkind ≠ 0) (d : Int) (x : GStmt) : headS s d x = s := by unfold headS; rw [need_bad h, need_bad h, need_bad h]
section
variable (vars : List GVar) (kw : List UInt8 → Bool)
theorem exM_bad {s : CSt} (h : s.fkind ≠ 0) (d : Int) (e : GExpr) : exM vars s d e = s := by rw [exM_eq, headE_bad h, if_pos h]
theorem exsM_bad {s : CSt} (h : s.fkind ≠ 0) (d : Int) : ∀ l, exsM vars s d l = s
  | [] => by rw [exsM]
  | e :: r => by rw [exsM, if_pos h, exsM_bad h d r]
theorem idxM_bad {s : CSt} (h : s.fkind ≠ 0) (d : Int) : ∀ l, idxM vars s d l = s
  | [] => by rw [idxM]
  | e :: r => by rw [idxM, exM_bad vars h, idxM_bad h d r]
theorem ptsM_bad {s : CSt} (h : s.fkind ≠ 0) (d : Int) : ∀ l, ptsM vars s d l = s
  | [] => by rw [ptsM]
  | p :: r => by rw [ptsM, ptM_eq, idxM_bad vars h, ptsM_bad h d r]
theorem plM_bad {s : CSt} (h : s.fkind ≠ 0) (k d : Int) (x : GPlace) : plM vars s k d x = s := by rw [plM_eq, if_pos h]
theorem frontS_bad {s : CSt} (h : s.fkind ≠ 0) (d : Int) (x : GStmt) : (frontS vars kw s d x).fkind = s.fkind := by
  unfold frontS
  split
  · rw [need_bad h, need_bad h, need_bad h]
  · split
    · rw [need_bad h]
    · split
      · rw [plM_bad vars h]
      · rfl
theorem rearS_bad {s : CSt} (h : s.fkind ≠ 0) (x : GStmt) : (rearS s x).fkind = s.fkind := by
  unfold rearS
  split
  · rfl
  · split
    · rw [need_bad h, need_bad h, need_bad h]
    · rfl
theorem bodyS_bad {s : CSt} (h : s.fkind ≠ 0) (d : Int) (x : GStmt) : (bodyS vars kw s d x).fkind = s.fkind := by
  unfold bodyS
  have h1 := frontS_bad vars kw h d x
  rw [headS_bad h, exsM_bad vars (by rw [h1]; exact h), rearS_bad (by rw [h1]; exact h), h1]
theorem blM_bad {s : CSt} (h : s.fkind ≠ 0) (n : Nat) (d : Int) : ∀ l, blM vars kw s n d l = s.back n
  | [] => by rw [blM]
  | x :: r => by rw [blM, if_pos h, blM_bad h n d r]
theorem stM_bad {s : CSt} (h : s.fkind ≠ 0) (d : Int) (x : GStmt) : (stM vars kw s d x).fkind = s.fkind := by
  have h1 := bodyS_bad vars kw h d x
  rw [stM_eq]
  unfold blockM
  have h2 : (bodyS vars kw s d x).fkind ≠ 0 := by rw [h1]; exact h
  rw [blM_bad vars kw h2, blM_bad vars kw (s := (((bodyS vars kw s d x).back _).at x.line)) h2]
  exact h1

theorem blM_app (s : CSt) (n : Nat) (d : Int) (b : List GStmt) : ∀ (a : List GStmt) (s : CSt), (blM vars kw s n d (a ++ b)).fkind = 0 → (blM vars kw s n d a).fkind = 0
  | [], s, h => by
    rw [blM]
    show s.fkind = 0
    by_cases h0 : s.fkind = 0
    · exact h0
    · rw [List.nil_append, blM_bad vars kw h0] at h; exact absurd h h0
  | x :: r, s, h => by
    rw [List.cons_append, blM] at h
    rw [blM]
    exact blM_app s n d b r _ h
theorem block_take {s : CSt} {d : Int} {l : List GStmt} (h : (blockM vars kw s d l).fkind = 0) (n : Nat) : (blockM vars kw s d (l.take n)).fkind = 0 := by
  unfold blockM at h ⊢
  have : l = l.take n ++ l.drop n := (List.take_append_drop n l).symm
  rw [this] at h
  exact blM_app vars kw s _ d _ _ _ h

theorem thrsM_zero : ∀ {l : List (List GStmt)}, (thrsM kw vars l).2 = 0 ↔ ∀ t ∈ l, (blockM vars kw s0 1 t).fkind = 0
  | [] => by simp [thrsM]
  | t :: r => by
    rw [thrsM]
    by_cases h : (blockM vars kw s0 1 t).fkind = 0
    · rw [if_neg (by simpa using h), thrsM_zero (l := r)]
      simp [h]
    · rw [if_pos h]
      simp [h]
end

/-! Law 11, CheckParts -/
section
variable (kw : List UInt8 → Bool) (p : GProg)
theorem parts_cap (h : p.threads.length = 0 ∨ 8 < p.threads.length) : (progM kw p).2 = 12 := by
  unfold progM
  rw [if_pos (by omega)]
theorem parts_all (h : ¬ (p.threads.length = 0 ∨ 8 < p.threads.length)) : (∀ t ∈ p.threads, (progM kw ⟨p.vars, [t]⟩).2 = 0) ↔ (progM kw p).2 = 0 := by
  have hne : ∃ t, t ∈ p.threads := by
    cases ht : p.threads with
    | nil => rw [ht] at h; simp at h
    | cons t r => exact ⟨t, by simp⟩
  obtain ⟨t0, ht0⟩ := hne
  unfold progM
  simp only [List.length_singleton]
  by_cases h1 : 32 < p.vars.length
  · simp only [h1, true_or, if_true]
    constructor
    · intro k; exact absurd (k t0 ht0) (by decide)
    · intro k; exact absurd k (by decide)
  · rw [if_neg (by omega)]
    have h2 : ¬ (32 < p.vars.length ∨ 1 < 1 ∨ 8 < 1) := by omega
    simp only [h2, if_false]
    by_cases h3 : varsM kw p.vars = 0
    · simp only [h3, ne_eq, not_true_eq_false, if_false]
      rw [thrsM_zero]
      constructor
      · intro k t ht
        exact (thrsM_zero p.vars kw).1 (k t ht) t (by simp)
      · intro k t ht
        rw [thrsM_zero]
        intro t' ht'
        simp at ht'
        rw [ht']; exact k t ht
    · simp only [ne_eq, h3, not_false_eq_true, if_true]
      constructor
      · intro k; exact (k t0 ht0).elim
      · intro k; exact k.elim
theorem parts_short {t : List GStmt} {r : List (List GStmt)} (ht : p.threads = t :: r) (h : (progM kw p).2 = 0) (n : Nat) : (progM kw ⟨p.vars, [t.take n]⟩).2 = 0 := by
  unfold progM at h ⊢
  simp only [List.length_singleton]
  split at h
  · cases h
  · rename_i h1
    rw [if_neg (by omega)]
    split at h
    · rename_i h2; exact absurd h h2
    · rename_i h2
      rw [if_neg h2]
      rw [thrsM_zero] at h
      rw [thrsM_zero]
      intro t' ht'
      simp at ht'
      rw [ht']
      exact block_take p.vars kw (h t (by rw [ht]; simp)) n
end
end Rb

/- Package check: the checker's small functions. -/
set_option linter.unusedVariables false
set_option linter.unusedSimpArgs false
namespace Rb
open Go

/-- The checker as it lies in memory. -/
def ckC (vars : List GVar) (s : CSt) (loc : AV) : List AV := [lstA GVar.cells vars, loc, .int .i64 s.lets, .int .i64 s.line, .int .i64 s.fline, .int .i64 s.fkind]
/-- All but one object are as they were. -/
def KeepC (id : Nat) (H H' : AH) : Prop := H.n ≤ H'.n ∧ ∀ i o, i ≠ id → At H i o → At H' i o
theorem KeepC.refl (id : Nat) (H : AH) : KeepC id H H := ⟨Nat.le_refl _, fun _ _ _ h => h⟩
theorem KeepC.trans {id : Nat} {a b c : AH} (h : KeepC id a b) (k : KeepC id b c) : KeepC id a c := ⟨Nat.le_trans h.1 k.1, fun i o hi ho => k.2 i o hi (h.2 i o hi ho)⟩
theorem KeepC.push (id : Nat) (H : AH) (x : AObj) : KeepC id H (H.push x) := ⟨Nat.le_succ _, fun i o _ h => h.push x⟩
theorem KeepC.set (id : Nat) (H : AH) (x : AObj) : KeepC id H (H.set id x) := ⟨Nat.le_refl _, fun i o hi h => h.set_ne hi x⟩

/-- Names of locals, as the checker holds them. -/
def LocR (H : AH) (id : Nat) (loc : AV) (l : List (List UInt8)) : Prop :=
  (loc = .lst .nil 0 [] ∧ l = []) ∨ ∃ j cs, loc = .row j 0 l.length 1 ∧ j ≠ id ∧ At H j (.row cs) ∧ l.length ≤ cs.length ∧ cs.take l.length = l.map .str
theorem LocR.keep {H H' : AH} {id : Nat} {loc : AV} {l : List (List UInt8)} (h : LocR H id loc l) (k : KeepC id H H') : LocR H' id loc l := by
  rcases h with h | ⟨j, cs, h1, h2, h3, h4, h5⟩
  · exact .inl h
  · exact .inr ⟨j, cs, h1, h2, k.2 j _ h2 h3, h4, h5⟩

/-! What expressions leave as it was -/
def Still (a b : CSt) : Prop := b.locals = a.locals ∧ b.lets = a.lets
theorem Still.refl (a : CSt) : Still a a := ⟨rfl, rfl⟩
theorem Still.trans {a b c : CSt} (h : Still a b) (k : Still b c) : Still a c := ⟨k.1.trans h.1, k.2.trans h.2⟩
theorem still_need (s : CSt) (ok : Bool) (e : Int) : Still s (s.need ok e) := by
  unfold CSt.need
  split
  · exact ⟨rfl, rfl⟩
  · exact Still.refl s
theorem still_headE (s : CSt) (d : Int) (e : GExpr) : Still s (headE s d e) := (still_need _ _ _).trans ((still_need _ _ _).trans (still_need _ _ _))
theorem still_headS (s : CSt) (d : Int) (x : GStmt) : Still s (headS s d x) := (still_need _ _ _).trans ((still_need _ _ _).trans (still_need _ _ _))
section
variable (vars : List GVar)
theorem still_placeS (s : CSt) (k : Int) (x : GPlace) : Still s (placeS vars s k x) := (still_need _ _ _).trans (still_need _ _ _)
mutual
theorem still_exM : ∀ (e : GExpr) (s : CSt) (d : Int), Still s (exM vars s d e)
  | .mk kind n name op order place kids, s, d => by
    have h0 := still_headE s d (.mk kind n name op order place kids)
    rw [exM]
    split
    · exact h0
    · have h1 : Still s (if kind = 2 then (headE s d (.mk kind n name op order place kids)).need ((headE s d (.mk kind n name op order place kids)).has name) 6 else headE s d (.mk kind n name op order place kids)) := by
        split
        · exact h0.trans (still_need _ _ _)
        · exact h0
      refine Still.trans ?_ (still_exsM kids _ d)
      split
      · exact h1.trans (still_plM place _ _ d)
      · exact h1
theorem still_exsM : ∀ (l : List GExpr) (s : CSt) (d : Int), Still s (exsM vars s d l)
  | [], s, d => by rw [exsM]; exact Still.refl s
  | e :: r, s, d => by
    rw [exsM]
    refine Still.trans ?_ (still_exsM r _ d)
    split
    · exact Still.refl s
    · exact still_exM e s _
theorem still_plM : ∀ (x : GPlace) (s : CSt) (k d : Int), Still s (plM vars s k d x)
  | .mk var parts, s, k, d => by
    rw [plM]
    split
    · exact Still.refl s
    · exact (still_placeS vars s k _).trans (still_ptsM parts _ d)
theorem still_ptsM : ∀ (l : List GPart) (s : CSt) (d : Int), Still s (ptsM vars s d l)
  | [], s, d => by rw [ptsM]; exact Still.refl s
  | p :: r, s, d => by rw [ptsM]; exact (still_ptM p s d).trans (still_ptsM r _ d)
theorem still_ptM : ∀ (p : GPart) (s : CSt) (d : Int), Still s (ptM vars s d p)
  | .mk field index, s, d => by rw [ptM]; exact still_idxM index s d
theorem still_idxM : ∀ (l : List GExpr) (s : CSt) (d : Int), Still s (idxM vars s d l)
  | [], s, d => by rw [idxM]; exact Still.refl s
  | e :: r, s, d => by rw [idxM]; exact (still_exM e s _).trans (still_idxM r _ d)
end
end
theorem LocR.still {H : AH} {id : Nat} {loc : AV} {a b : CSt} (h : LocR H id loc a.locals) (k : Still a b) : LocR H id loc b.locals := by rw [k.1]; exact h

section
variable {Φ : Calls'} {H : AH} {Q : Post} {id : Nat} {vars : List GVar} {s : CSt} {loc : AV}
theorem ck_bad (hat : At H id (.row (ckC vars s loc))) (hQ : Q (.bool (s.fkind != 0)) H) : S.check_checker_bad Φ (.ptr id 0) H Q := by
  unfold S.check_checker_bad
  simp only [anilck, afaddr, Do_of, Nat.zero_add]
  rw [hat.load, show takeCells (ckC vars s loc) (4 + 1) 1 false = some (.int .i64 s.fkind) from rfl]
  simp only [Do_of, abin_neq]
  exact hQ
theorem ck_need (hT : Cl Φ S.tab_Chk) {ok : Bool} {e : Int} (hat : At H id (.row (ckC vars s loc))) (hQ : ∀ H', KeepC id H H' → At H' id (.row (ckC vars (s.need ok e) loc)) → Q (.tup []) H') :
    Φ K.check_checker_need [.ptr id 0, .bool ok, .int .i64 e] H Q := by
  refine S.cl_check_checker_need hT ?_
  unfold S.check_checker_need
  have k1 : ∀ b : Bool, (b = true ↔ ok = false ∧ s.fkind = 0) → JoinP (S.check_checker_need_k1 Φ (.ptr id 0) (.int .i64 e) Q) [.bool b] H := by
    intro b hb
    simp only [JoinP_def, S.check_checker_need_k1, sl_zero, Gd_true, anilck, afaddr, Nat.zero_add, Do_of]
    refine ite_both (fun h => ?_) (fun h => ?_)
    · rw [hat.load, show takeCells (ckC vars s loc) 3 1 false = some (.int .i64 s.line) from rfl]
      simp only [Do_of]
      rw [show abuild [.int .i64 0, .int .i64 0] [(0, 1, .int .i64 s.line), (1, 1, .int .i64 e)] = some (.agg [.int .i64 s.line, .int .i64 e]) from rfl]
      simp only [Do_of]
      rw [hat.store, if_pos ⟨rfl, rfl, rfl, by simp [ckC]⟩]
      simp only [Do_of]
      refine hQ _ (KeepC.set id H _) ?_
      have : s.need ok e = { s with fline := s.line, fkind := e } := by unfold CSt.need; rw [if_pos (hb.1 h)]
      rw [this]
      exact hat.set _
    · refine hQ H (KeepC.refl _ _) ?_
      have : s.need ok e = s := by unfold CSt.need; rw [if_neg fun x => h (hb.2 x)]
      rw [this]; exact hat
  simp only [aun_not, Do_of, Gd3_true]
  refine ite_both (fun h => ?_) (fun h => ?_)
  · refine S.cl_check_checker_bad hT (ck_bad hat ?_)
    simp only [aun_not, Do_of]
    refine k1 _ ?_
    simp only [Bool.not_eq_true'] at h
    simp [h]
  · refine k1 _ ?_
    simp only [Bool.not_eq_true', Bool.not_eq_false] at h
    simp [h]

/-- slices.Index of texts, however they lie. -/
theorem Index_gen {a : AV} {xs : List (List UInt8)} {t : List UInt8} (hlen : alen false a = some (.int .i64 xs.length)) (hr : ∀ (i : Nat) x, xs[i]? = some x → ∃ p, aiaddr none 1 a (.int .i64 i) = some p ∧ aload H 1 false p = some (.str x)) (hb : xs.length ≤ 9223372036854775807)
    (hQ : Q (.int .i64 (idxI (xs.findIdx? fun x => t == x))) H) : S.slices_Index___string_string_ Φ a (.str t) H Q := by
  unfold S.slices_Index___string_string_
  rw [hlen]
  simp only [Do_of]
  have main : ∀ (ys : List (List UInt8)) (i : Nat), xs.drop i = ys → Q (.int .i64 (idxI ((ys.findIdx? fun x => t == x).map (· + i)))) H → LoopP (S.slices_Index___string_string__l1 Φ a (.str t) (.int .i64 xs.length) Q) ([.int .i64 i], H) := by
    intro ys
    induction ys with
    | nil =>
      intro i hi hq
      have hle := drop_nil_le hi
      refine LoopP.step ?_
      simp only [S.slices_Index___string_string__l1, sl_zero, abin_lss, Do_of, Gd_true]
      rw [if_neg (by simp only [decide_eq_true_eq]; omega)]
      simpa [idxI] using hq
    | cons y ys ih =>
      intro i hi hq
      obtain ⟨hlt, hy, hd⟩ := drop_cons_lt hi
      obtain ⟨p, h1, h2⟩ := hr i y hy
      refine LoopP.step ?_
      simp only [S.slices_Index___string_string__l1, sl_zero, abin_lss, Do_of, Gd_true]
      rw [if_pos (by simp only [decide_eq_true_eq]; omega), h1]
      simp only [Do_of]
      rw [h2]
      simp only [Do_of, abin_streq', Gd_true]
      rw [List.findIdx?_cons] at hq
      by_cases he : (t == y) = true
      · rw [if_pos he]
        rw [if_pos he] at hq
        simpa [idxI] using hq
      · rw [if_neg he]
        rw [if_neg he] at hq
        simp only [abin_add, Do_of]
        rw [wrap_i64 (by omega) (by omega), show ((i : Int) + 1) = ((i + 1 : Nat) : Int) by simp]
        refine ih (i + 1) hd ?_
        have : (List.findIdx? (fun x => t == x) ys).map (· + (i + 1)) = ((List.findIdx? (fun x => t == x) ys).map (· + 1)).map (· + i) := by
          rw [Option.map_map]; congr 1; funext k; simp only [Function.comp]; omega
        rw [this]; exact hq
  refine main xs 0 rfl ?_
  simpa using hQ
theorem Contains_gen (hT : Cl Φ S.tab_Chk) {a : AV} {xs : List (List UInt8)} {t : List UInt8} (hlen : alen false a = some (.int .i64 xs.length)) (hr : ∀ (i : Nat) x, xs[i]? = some x → ∃ p, aiaddr none 1 a (.int .i64 i) = some p ∧ aload H 1 false p = some (.str x)) (hb : xs.length ≤ 9223372036854775807)
    (hQ : Q (.bool (xs.any fun x => t == x)) H) : Φ K.slices_Contains___string_string_ [a, .str t] H Q := by
  refine S.cl_slices_Contains___string_string_ hT ?_
  unfold S.slices_Contains___string_string_
  refine S.cl_slices_Index___string_string_ hT (Index_gen hlen hr hb ?_)
  simp only [abin_geq, Do_of, idxI_any]
  exact hQ
theorem ck_there (hT : Cl Φ S.tab_Chk) {x : List UInt8} (hat : At H id (.row (ckC vars s loc))) (hloc : LocR H id loc s.locals) (hb : s.locals.length ≤ 1000) (hQ : Q (.bool (s.has x)) H) : Φ K.check_checker_there [.ptr id 0, .str x] H Q := by
  refine S.cl_check_checker_there hT ?_
  unfold S.check_checker_there
  simp only [anilck, afaddr, Do_of, Nat.zero_add]
  rw [hat.load, show takeCells (ckC vars s loc) 1 1 false = some loc from rfl]
  simp only [Do_of]
  rcases hloc with ⟨rfl, h⟩ | ⟨j, cs, rfl, h2, h3, h4, h5⟩
  · unfold CSt.has at hQ
    rw [h] at hQ
    exact Contains_gen hT (xs := []) rfl (fun i x hx => by cases hx) (by simp) hQ
  · refine Contains_gen hT (xs := s.locals) rfl (fun i y hy => ?_) (by omega) hQ
    have hlt := (List.getElem?_eq_some_iff.1 hy).1
    refine ⟨.ptr j i, ?_, ?_⟩
    · simp only [aiaddr]
      rw [if_pos ⟨by omega, by omega⟩]
      simp
    · rw [h3.load]
      unfold takeCells
      rw [if_pos (by omega)]
      have e : cs[i]? = some (.str y) := by
        have := congrArg (fun l => l[i]?) h5
        simp only [List.getElem?_take, List.getElem?_map, hy, if_pos hlt, Option.map_some] at this
        exact this
      simp [e]
end
end Rb

/- Package check: what statements and expressions have; orders; keywords. -/
set_option linter.unusedVariables false
set_option linter.unusedSimpArgs false
namespace Rb
open Go

section
variable {Φ : Calls'} {H : AH} {Q : Post}
theorem check_Order_specM {k o : Int} (hQ : Q (.bool (orderM k o)) H) : S.check_Order Φ (.int .i64 k) (.int .i64 o) H Q := by
  have e : ∀ b : Bool, b = orderM k o → Q (.bool b) H := fun b h => by rw [h]; exact hQ
  simp only [S.check_Order, S.check_Order_k1, S.check_Order_k2, S.check_Order_k3, S.check_Order_k4, S.check_Order_k5, S.check_Order_k6, JoinP_def, sl_zero, abin_eql, abin_geq, abin_leq, Do_of, Gd_true, Gd3_true, Gd3_false, Bool.false_eq_true, if_false, if_true]
  repeat' (refine ite_both (fun h => ?_) (fun h => ?_))
  all_goals (refine e _ ?_; simp only [beq_iff_eq, decide_eq_true_eq, ge_iff_le, beq_eq_false_iff_ne, ne_eq] at *; first | (subst_vars; simp [orderM]; done) | (simp_all [orderM]; done) | (simp_all [orderM]; omega) | skip)
theorem check_empty_spec {x : GPlace} (hQ : Q (.bool (emptyM x)) H) : S.check_empty Φ (.agg x.cells) H Q := by
  unfold S.check_empty
  simp only [pc_box, DoH_some, pc_addr, Do_of, pc_l0, pc_l1, lstA_len', abin_streq', abin_eql, Gd3_true]
  unfold emptyM at hQ
  refine ite_both (fun h => ?_) (fun h => ?_)
  · rw [h] at hQ
    have e : ((x.parts.length : Int) == 0) = (x.parts.length == 0) := by rw [Bool.eq_iff_iff]; simp
    rw [e]; simpa using hQ
  · simp only [Bool.not_eq_true] at h
    rw [h] at hQ; exact hQ
theorem check_fits_spec {k : Int} {t : GType} (hQ : Q (.bool (fitsM k t)) H) : S.check_fits Φ (.int .i64 k) (.agg t.cells) H Q := by
  have e : ∀ b : Bool, b = fitsM k t → Q (.bool b) H := fun b h => by rw [h]; exact hQ
  simp only [S.check_fits, S.check_fits_k1, S.check_fits_k2, S.check_fits_k3, ty_box, DoH_some, ty_addr, Do_of, ty_l0, ty_l1, JoinP_def, sl_zero, abin_eql, abin_leq, Gd_true, Gd3_true]
  repeat' (refine ite_both (fun h => ?_) (fun h => ?_))
  all_goals (refine e _ ?_; unfold fitsM; simp only [beq_iff_eq] at *; first | (exfalso; omega) | (subst_vars; simp [*]; done) | (simp [*]; done) | (subst_vars; simp_all; done) | skip)

def boolC (b : Bool) : AV := .bool b
/-- What a statement has, as it lies in memory. -/
def hasC (k : Int) : List AV := if 1 ≤ k ∧ k ≤ 10 then [.bool (hasM k).1, .bool (hasM k).2.1, .bool (hasM k).2.2.1, .int .i64 (hasM k).2.2.2.1, .bool (hasM k).2.2.2.2.1, .bool (hasM k).2.2.2.2.2] else [.bool false, .bool false, .bool false, .int .i64 0, .bool false, .bool false]
theorem hasC_froz (k : Int) : AV.frozs (hasC k) = true := by unfold hasC; split <;> rfl
theorem hasC_len (k : Int) : (hasC k).length = 6 := by unfold hasC; split <;> rfl
theorem hasC_scalar (k : Int) : (hasC k).all AV.scalar = true := by unfold hasC; split <;> rfl
theorem check_of_spec {k : Int} (hQ : ∀ H', Q (.tup [.agg (hasC k), .bool (decide (1 ≤ k) && decide (k ≤ 10))]) H') : S.check_of Φ (.int .i64 k) H Q := by
  have fin : ∀ (cs : List AV) (b : Bool) H', hasC k = cs → (decide (1 ≤ k) && decide (k ≤ 10)) = b → Q (.tup [.agg cs, .bool b]) H' := fun cs b H' h1 h2 => by rw [← h1, ← h2]; exact hQ H'
  clear hQ
  simp only [S.check_of, S.check_of_k1, S.check_of_k2, S.check_of_k3, DoH_some, abox, if_true, Do_of, JoinP_def, sl_zero, abin_eql, Gd_true]
  repeat' (refine ite_both (fun h => ?_) (fun h => ?_))
  all_goals (refine ⟨_, rfl, _, store_new _ _ _ 6 rfl rfl rfl, _, by rw [load_push]; exact takeCells_whole rfl, fin _ _ _ ?_ ?_⟩)
  all_goals (simp only [beq_iff_eq] at *; first | (exfalso; omega) | (subst_vars; rfl) | skip)
  · unfold hasC; rw [if_neg (by omega)]
  · rw [Bool.and_eq_false_iff, decide_eq_false_iff_not, decide_eq_false_iff_not]; omega

/-! Reading an expression, a statement -/
theorem ex_box (e : GExpr) (H : AH) : aboxv H false 8 (.agg e.cells) = some (.fptr e.cells, H) := by unfold aboxv; rw [if_pos ⟨rfl, e.len⟩]; rfl
theorem ex_addr (e : GExpr) (i : Nat) : afaddr i (.fptr e.cells) = some (.fptr (e.cells.drop i)) := rfl
theorem ex_l0 (e : GExpr) (H : AH) : aload H 1 false (.fptr (e.cells.drop 0)) = some (.int .i64 e.kind) := by rw [GExpr.cells_eq, GPlace.cells_eq]; rfl
theorem ex_l1 (e : GExpr) (H : AH) : aload H 1 false (.fptr (e.cells.drop 1)) = some (.int .u64 e.n) := by rw [GExpr.cells_eq, GPlace.cells_eq]; rfl
theorem ex_l2 (e : GExpr) (H : AH) : aload H 1 false (.fptr (e.cells.drop 2)) = some (.str e.name) := by rw [GExpr.cells_eq, GPlace.cells_eq]; rfl
theorem ex_l3 (e : GExpr) (H : AH) : aload H 1 false (.fptr (e.cells.drop 3)) = some (.int .i64 e.op) := by rw [GExpr.cells_eq, GPlace.cells_eq]; rfl
theorem ex_l4 (e : GExpr) (H : AH) : aload H 1 false (.fptr (e.cells.drop 4)) = some (.int .i64 e.order) := by rw [GExpr.cells_eq, GPlace.cells_eq]; rfl
theorem ex_l5 (e : GExpr) (H : AH) : aload H 2 true (.fptr (e.cells.drop 5)) = some (.agg e.place.cells) := by rw [GExpr.cells_eq, GPlace.cells_eq]; rfl
theorem ex_l7 (e : GExpr) (H : AH) : aload H 1 false (.fptr (e.cells.drop 7)) = some (lstA GExpr.cells e.kids) := by rw [GExpr.cells_eq, GPlace.cells_eq]; rfl
theorem ex_all (e : GExpr) (H : AH) : aload H 8 true (.fptr e.cells) = some (.agg e.cells) := takeCells_whole e.len
theorem st_box (e : GStmt) (H : AH) : aboxv H false 10 (.agg e.cells) = some (.fptr e.cells, H) := by unfold aboxv; rw [if_pos ⟨rfl, e.len⟩]; rfl
theorem st_addr (e : GStmt) (i : Nat) : afaddr i (.fptr e.cells) = some (.fptr (e.cells.drop i)) := rfl
theorem st_l0 (e : GStmt) (H : AH) : aload H 1 false (.fptr (e.cells.drop 0)) = some (.int .i64 e.kind) := by rw [GStmt.cells_eq, GPlace.cells_eq]; rfl
theorem st_l1 (e : GStmt) (H : AH) : aload H 1 false (.fptr (e.cells.drop 1)) = some (.int .i64 e.line) := by rw [GStmt.cells_eq, GPlace.cells_eq]; rfl
theorem st_l2 (e : GStmt) (H : AH) : aload H 1 false (.fptr (e.cells.drop 2)) = some (.str e.name) := by rw [GStmt.cells_eq, GPlace.cells_eq]; rfl
theorem st_l3 (e : GStmt) (H : AH) : aload H 1 false (.fptr (e.cells.drop 3)) = some (.str e.name2) := by rw [GStmt.cells_eq, GPlace.cells_eq]; rfl
theorem st_l4 (e : GStmt) (H : AH) : aload H 1 false (.fptr (e.cells.drop 4)) = some (.int .i64 e.order) := by rw [GStmt.cells_eq, GPlace.cells_eq]; rfl
theorem st_l5 (e : GStmt) (H : AH) : aload H 2 true (.fptr (e.cells.drop 5)) = some (.agg e.place.cells) := by rw [GStmt.cells_eq, GPlace.cells_eq]; rfl
theorem st_l7 (e : GStmt) (H : AH) : aload H 1 false (.fptr (e.cells.drop 7)) = some (lstA GExpr.cells e.exprs) := by rw [GStmt.cells_eq, GPlace.cells_eq]; rfl
theorem st_l8 (e : GStmt) (H : AH) : aload H 1 false (.fptr (e.cells.drop 8)) = some (lstA GStmt.cells e.thn) := by rw [GStmt.cells_eq, GPlace.cells_eq]; rfl
theorem st_l9 (e : GStmt) (H : AH) : aload H 1 false (.fptr (e.cells.drop 9)) = some (lstA GStmt.cells e.els) := by rw [GStmt.cells_eq, GPlace.cells_eq]; rfl
theorem st_all (e : GStmt) (H : AH) : aload H 10 true (.fptr e.cells) = some (.agg e.cells) := takeCells_whole e.len
theorem len_eq0 {α : Type} (l : List α) : ((l.length : Int) == 0) = (l.length == 0) := by rw [Bool.eq_iff_iff]; simp
theorem ite_bool {b : Bool} {A B : Prop} (h1 : b = true → A) (h2 : b = false → B) : if b = true then A else B := ite_both h1 fun h => h2 (by simpa using h)
theorem ite_boolf {b : Bool} {A B : Prop} (h1 : b = false → A) (h2 : b = true → B) : if b = false then A else B := ite_both h1 fun h => h2 (by simpa using h)

theorem check_formed_spec (hT : Cl Φ S.tab_Chk) {e : GExpr} (hQ : Q (.bool (formedM e)) H) : S.check_formed Φ (.agg e.cells) H Q := by
  have fin : ∀ b : Bool, b = formedM e → Q (.bool b) H := fun b h => by rw [h]; exact hQ
  clear hQ
  have k5 : (decide (1 ≤ e.kind) && decide (e.kind ≤ 8)) = true → S.check_formed_k5 Φ (.fptr e.cells) Q [.int .i64 (kidsM e.kind).1, .bool (kidsM e.kind).2] H := by
    intro hk
    unfold formedM at fin
    rw [hk] at fin
    simp only [Bool.true_and] at fin
    generalize hK : kidsM e.kind = KK at fin ⊢
    have k1 : ∀ b : Bool, (∀ c, c = (b && ((e.kids.length : Int) == KK.1)) → Q (.bool c) H) → JoinP (S.check_formed_k1 Φ (.fptr e.cells) [.int .i64 KK.1, .bool KK.2] Q) [.bool b] H := by
      intro b hb
      simp only [JoinP_def, S.check_formed_k1, sl_zero, sl_succ, Gd3_true, ex_addr, ex_l7, lstA_len', abin_eql, Do_of]
      cases b
      · exact hb _ rfl
      · exact hb _ rfl
    have k2 : ∀ b : Bool, (∀ c, c = ((b && (KK.2 || emptyM e.place)) && ((e.kids.length : Int) == KK.1)) → Q (.bool c) H) → JoinP (S.check_formed_k2 Φ (.fptr e.cells) [.int .i64 KK.1, .bool KK.2] Q) [.bool b] H := by
      intro b hb
      simp only [JoinP_def, S.check_formed_k2, sl_zero, sl_succ, Gd3_true, Gd3_false, ex_addr, ex_l5, Do_of]
      cases b
      · exact k1 _ fun c hc => hb c (by rw [hc]; rfl)
      · rw [if_pos rfl]
        refine ite_boolf (fun h => ?_) (fun h => ?_)
        · refine S.cl_check_empty hT (check_empty_spec ?_)
          exact k1 _ fun c hc => hb c (by rw [hc, h]; rfl)
        · exact k1 _ fun c hc => hb c (by rw [hc, h]; rfl)
    have k3 : ∀ b : Bool, (∀ c, c = (((b && (if e.kind = 3 then decide (1 ≤ e.op) && decide (e.op ≤ 11) else e.op == 0)) && (KK.2 || emptyM e.place)) && ((e.kids.length : Int) == KK.1)) → Q (.bool c) H) →
        JoinP (S.check_formed_k3 Φ (.fptr e.cells) (.bool (e.kind == 3)) [.int .i64 KK.1, .bool KK.2] Q) [.bool b] H := by
      intro b hb
      simp only [JoinP_def, S.check_formed_k3, sl_zero, sl_succ, Gd3_true, Gd3_false, ex_addr, ex_l3, Do_of, abin_geq, abin_leq, abin_eql, aun_not]
      cases b
      · exact k2 _ fun c hc => hb c (by rw [hc]; rfl)
      · rw [if_pos rfl]
        refine ite_bool (fun h => ?_) (fun h => ?_)
        · rw [if_pos (by simpa using h)] at hb
          refine ite_bool (fun h1 => ?_) (fun h1 => ?_)
          · refine ite_boolf (fun h2 => ?_) (fun h2 => ?_)
            · rw [h, if_neg (by decide)]
              exact k2 _ fun c hc => hb c (by rw [hc]; simp only [ge_iff_le] at h1; rw [h1, h2]; rfl)
            · exact k2 _ fun c hc => hb c (by rw [hc]; simp only [ge_iff_le] at h1; rw [h1, h2]; rfl)
          · rw [h, if_neg (by decide)]
            exact k2 _ fun c hc => hb c (by rw [hc]; simp only [ge_iff_le] at h1; rw [h1]; rfl)
        · rw [if_neg (by simpa using h)] at hb
          rw [h, if_pos (by decide)]
          exact k2 _ fun c hc => hb c (by rw [hc]; rfl)
    have k4 : ∀ b : Bool, (∀ c, c = ((((b && (e.kind == 2 || e.name == [])) && (if e.kind = 3 then decide (1 ≤ e.op) && decide (e.op ≤ 11) else e.op == 0)) && (KK.2 || emptyM e.place)) && ((e.kids.length : Int) == KK.1)) → Q (.bool c) H) →
        JoinP (S.check_formed_k4 Φ (.fptr e.cells) (.bool (e.kind == 3)) [.int .i64 KK.1, .bool KK.2] Q) [.bool b] H := by
      intro b hb
      simp only [JoinP_def, S.check_formed_k4, sl_zero, sl_succ, Gd3_true, Gd3_false, ex_addr, ex_l0, ex_l2, Do_of, abin_eql, abin_streq']
      cases b
      · exact k3 _ fun c hc => hb c (by rw [hc]; rfl)
      · rw [if_pos rfl]
        refine ite_boolf (fun h => ?_) (fun h => ?_)
        · exact k3 _ fun c hc => hb c (by rw [hc, h]; rfl)
        · exact k3 _ fun c hc => hb c (by rw [hc, h]; rfl)
    simp only [S.check_formed_k5, ex_addr, ex_l0, ex_l1, Do_of, abin_eql, Gd3_false]
    refine ite_boolf (fun h => ?_) (fun h => ?_)
    · exact k4 _ fun c hc => fin c (by rw [hc, h]; rfl)
    · exact k4 _ fun c hc => fin c (by rw [hc, h]; rfl)
  simp only [S.check_formed, S.check_formed_k6, S.check_formed_k7, S.check_formed_k8, ex_box, DoH_some, ex_addr, ex_l0, Do_of, JoinP_def, sl_zero, abin_eql, Gd_true, beq_iff_eq]
  have g : ∀ n b, kidsM e.kind = (n, b) → (decide (1 ≤ e.kind) && decide (e.kind ≤ 8)) = true → S.check_formed_k5 Φ (.fptr e.cells) Q [.int .i64 n, .bool b] H := fun n b h hk => by have := k5 hk; rw [h] at this; exact this
  repeat' (refine ite_both (fun h => ?_) (fun h => ?_))
  all_goals first
    | (exfalso; omega)
    | (refine g _ _ ?_ ?_
       · unfold kidsM
         simp [*]
       · simp [*])
    | skip
  refine fin _ ?_
  have : (decide (1 ≤ e.kind) && decide (e.kind ≤ 8)) = false := by rw [Bool.and_eq_false_iff, decide_eq_false_iff_not, decide_eq_false_iff_not]; omega
  unfold formedM
  rw [this]; rfl
end
end Rb

/- Package check: expressions. -/
set_option linter.unusedVariables false
set_option linter.unusedSimpArgs false
set_option linter.unusedSectionVars false
namespace Rb
open Go

theorem i64max : maxLen = 9223372036854775807 := by decide
theorem GExpr.ok_parts {e : GExpr} (h : e.ok) : (e.kids.length ≤ 9223372036854775807 ∧ ∀ k ∈ e.kids, k.ok) ∧ e.place.ok := by
  rw [← i64max]
  cases e with
  | mk kind n name op order place kids =>
    obtain ⟨_, _, _, _, _, h6, h7, h8⟩ := h
    exact ⟨⟨h7, GExpr.oks_iff.1 h8⟩, h6⟩
theorem GPlace.ok_parts {x : GPlace} (h : x.ok) : x.parts.length ≤ 9223372036854775807 ∧ ∀ p ∈ x.parts, p.index.length ≤ 9223372036854775807 ∧ ∀ i ∈ p.index, i.ok := by
  rw [← i64max]
  cases x with
  | mk var parts =>
    obtain ⟨_, h2, h3⟩ := h
    refine ⟨h2, fun p hp => ?_⟩
    have := GPart.oks_iff.1 h3 p hp
    cases p with
    | mk field index =>
      obtain ⟨_, h5, h6⟩ := this
      exact ⟨h5, GExpr.oks_iff.1 h6⟩
theorem GExpr.ind {P : GExpr → Prop} (h : ∀ e : GExpr, (∀ k ∈ e.kids, P k) → (∀ p ∈ e.place.parts, ∀ i ∈ p.index, P i) → P e) : ∀ e, P e := by
  have main : ∀ (n : Nat) (e : GExpr), sizeOf e < n → P e := by
    intro n
    induction n with
    | zero => intro e he; omega
    | succ n ih =>
      intro e he
      refine h e (fun k hk => ih _ ?_) fun p hp i hi => ih _ ?_
      · cases e with
        | mk kind n name op order place kids =>
          have := List.sizeOf_lt_of_mem hk
          simp at this he ⊢; omega
      · cases e with
        | mk kind n name op order place kids =>
          cases place with
          | mk var parts =>
            have h1 := List.sizeOf_lt_of_mem hp
            cases p with
            | mk field index =>
              have h2 := List.sizeOf_lt_of_mem hi
              simp at h1 h2 he ⊢; omega
  exact fun e => main _ e (Nat.lt_succ_self _)

section
variable {C : Ctx} (hGT : GTok C) (hT : Cl (ACall C) S.tab_Chk)
include hGT hT
theorem order_val (k o : Int) : Val (ACall C) K.check_Order [.int .i64 k, .int .i64 o] (.bool (orderM k o)) := fun H Q hQ => S.cl_check_Order hT (check_Order_specM hQ)
theorem formed_val (e : GExpr) : Val (ACall C) K.check_formed [.agg e.cells] (.bool (formedM e)) := fun H Q hQ => S.cl_check_formed hT (check_formed_spec hT hQ)
theorem fits_val (k : Int) (t : GType) : Val (ACall C) K.check_fits [.int .i64 k, .agg t.cells] (.bool (fitsM k t)) := fun H Q hQ => S.cl_check_fits hT (check_fits_spec hQ)
theorem part_val (t : GType) (p : GPart) (hs : sndT t = 0) (hl : p.index.length ≤ maxLen) : Val (ACall C) K.check_part [.agg t.cells, .agg p.cells] (resV (partM t p)) :=
  Val.of hGT (by simp [AV.frozs, AV.froz, GType.froz, GPart.froz]) (resV_froz _) fun Q hQ => S.cl_check_part hT (check_part_spec hT hs hl hQ)
theorem place_val (vars : List GVar) (x : GPlace) (hl : vars.length ≤ maxLen) (hv : ∀ v ∈ vars, v.ok) (hx : x.ok) : Val (ACall C) K.check_Place [lstA GVar.cells vars, .agg x.cells] (resV (placeM vars x)) := by
  have hp := GPlace.ok_parts hx
  rw [← i64max] at hp
  exact Val.of hGT (by simp [AV.frozs, AV.froz, GPlace.froz, lstA_froz GVar.froz]) (resV_froz _) fun Q hQ =>
    S.cl_check_Place hT (check_Place_spec hT hl hp.1 (fun v hv' => kindSoundM_val hGT hT v.type (hv v hv').2) (fun t p hs hp' => part_val hGT hT t p hs (hp.2 p hp').1) hQ)
end

/-- What the checker does with an expression. -/
def ExprS (C : Ctx) (id : Nat) (vars : List GVar) (e : GExpr) : Prop :=
  ∀ (s : CSt) (d : Int) (loc : AV) (H : AH) (Q : Post), At H id (.row (ckC vars s loc)) → LocR H id loc s.locals → s.locals.length ≤ 1000 →
    (∀ H', KeepC id H H' → At H' id (.row (ckC vars (exM vars s d e) loc)) → Q (.tup []) H') → ACall C K.check_checker_expr [.ptr id 0, .agg e.cells, .int .i64 d] H Q

/-- The cells of a result's type: of a place, or none. -/
def resTC (r : Int × GType) : List AV := if r.1 = 0 then r.2.cells else zeroC
theorem resTC_len (r : Int × GType) : (resTC r).length = 6 := by unfold resTC; split; exact r.2.len; rfl
theorem resTC_scalar (r : Int × GType) : (resTC r).all AV.scalar = true := by unfold resTC; split; exact r.2.scalar; rfl
theorem resV_eq (r : Int × GType) : resV r = .tup [.agg (resTC r), .int .i64 r.1] := by unfold resV resTC; split; rename_i h; rw [h]; rfl
section
variable {C : Ctx} (hGT : GTok C) (hT : Cl (ACall C) S.tab_Chk) {id : Nat} {vars : List GVar}
include hGT hT
theorem exprs_spec {l : List GExpr} (hl : l.length ≤ 9223372036854775807) (hE : ∀ e ∈ l, ExprS C id vars e) {s : CSt} {d : Int} {loc : AV} {H : AH} {Q : Post} (hat : At H id (.row (ckC vars s loc))) (hloc : LocR H id loc s.locals) (hb : s.locals.length ≤ 1000)
    (hQ : ∀ H', KeepC id H H' → At H' id (.row (ckC vars (exsM vars s d l) loc)) → Q (.tup []) H') : ACall C K.check_checker_exprs [.ptr id 0, lstA GExpr.cells l, .int .i64 d] H Q := by
  refine S.cl_check_checker_exprs hT ?_
  unfold S.check_checker_exprs
  simp only [lstA_len', Do_of]
  have main : ∀ (r : List GExpr) (i : Nat) (s' : CSt) (H1 : AH), l.drop i = r → Still s s' → KeepC id H H1 → At H1 id (.row (ckC vars s' loc)) → exsM vars s' d r = exsM vars s d l →
      LoopP (S.check_checker_exprs_l2 (ACall C) (.ptr id 0) (lstA GExpr.cells l) (.int .i64 d) (.int .i64 l.length) Q) ([.int .i64 i], H1) := by
    intro r
    induction r with
    | nil =>
      intro i s' H1 hd hst hk ha he
      have hle := drop_nil_le hd
      refine LoopP.step ?_
      simp only [S.check_checker_exprs_l2, sl_zero, abin_lss, Do_of, Gd_true]
      rw [if_neg (by simp only [decide_eq_true_eq]; omega)]
      rw [exsM] at he
      exact hQ H1 hk (by rw [← he]; exact ha)
    | cons e r ih =>
      intro i s' H1 hd hst hk ha he
      obtain ⟨hlt, hx, hd'⟩ := drop_cons_lt hd
      refine LoopP.step ?_
      simp only [S.check_checker_exprs_l2, sl_zero, abin_lss, Do_of, Gd_true]
      rw [if_pos (by simp only [decide_eq_true_eq]; omega), lstA_addr hlt]
      simp only [Do_of]
      rw [elA_load GExpr.len (by decide) _ hx]
      simp only [Do_of, DoH_some, abox, if_true]
      rw [store_new _ _ _ 8 e.len e.scalar rfl]
      simp only [Do_of]
      have ha2 := ha.push (.row e.cells)
      have hk2 := hk.trans (KeepC.push id H1 (.row e.cells))
      have hld : aload (H1.push (.row e.cells)) 8 true (.ptr H1.n 0) = some (.agg e.cells) := by rw [load_push, takeCells_whole e.len]
      have next : ∀ (s2 : CSt) (H3 : AH), KeepC id H H3 → At H3 id (.row (ckC vars s2 loc)) → Still s s2 → exsM vars s2 d r = exsM vars s d l →
          JoinP (S.check_checker_exprs_k1 (ACall C) ([.int .i64 i], H1) (LoopP (S.check_checker_exprs_l2 (ACall C) (.ptr id 0) (lstA GExpr.cells l) (.int .i64 d) (.int .i64 l.length) Q)) Q) [] H3 := by
        intro s2 H3 k3 a3 h3 e3
        simp only [JoinP_def, S.check_checker_exprs_k1, sl_zero, abin_add, Do_of]
        rw [wrap_i64 (by omega) (by omega), show ((i : Int) + 1) = ((i + 1 : Nat) : Int) by simp]
        exact ih (i + 1) s2 H3 hd' h3 k3 a3 e3
      rw [exsM] at he
      generalize H1.push (.row e.cells) = H2 at *
      refine S.cl_check_checker_bad hT (ck_bad ha2 ?_)
      simp only [aun_not, Do_of, Gd_true]
      refine ite_both (fun h => ?_) (fun h => ?_)
      · have h0 : s'.fkind = 0 := by simpa using h
        rw [if_neg (by simpa using h0)] at he
        simp only [hld, Do_of, abin_add]
        refine hE e (List.mem_of_getElem? hx) s' _ loc H2 _ ha2 ((hloc.keep hk2).still hst) (by rw [hst.1]; exact hb) fun H3 k3 a3 => ?_
        exact next _ H3 (hk2.trans k3) a3 (hst.trans (still_exM vars e s' _)) he
      · have h0 : s'.fkind ≠ 0 := by simpa using h
        rw [if_pos h0] at he
        exact next s' H2 hk2 ha2 hst he
  exact main l 0 s H rfl (Still.refl s) (KeepC.refl id H) hat rfl

theorem ckplace_spec (hlv : vars.length ≤ maxLen) (hv : ∀ v ∈ vars, v.ok) {x : GPlace} (hx : x.ok) (hE : ∀ p ∈ x.parts, ∀ i ∈ p.index, ExprS C id vars i) {s : CSt} {k d : Int} {loc : AV} {H : AH} {Q : Post} (hat : At H id (.row (ckC vars s loc))) (hloc : LocR H id loc s.locals) (hb : s.locals.length ≤ 1000)
    (hQ : ∀ H', KeepC id H H' → At H' id (.row (ckC vars (plM vars s k d x) loc)) → Q (.tup []) H') : ACall C K.check_checker_place [.ptr id 0, .int .i64 k, .agg x.cells, .int .i64 d] H Q := by
  obtain ⟨hlp, hpi⟩ := GPlace.ok_parts hx
  refine S.cl_check_checker_place hT ?_
  unfold S.check_checker_place
  simp only [pc_box, DoH_some]
  refine S.cl_check_checker_bad hT (ck_bad hat ?_)
  simp only [Gd_true]
  rw [plM_eq] at hQ
  refine ite_both (fun h => ?_) (fun h => ?_)
  · rw [if_pos (by simpa using h)] at hQ
    exact hQ H (KeepC.refl _ _) hat
  · have h0 : s.fkind = 0 := by simpa using h
    rw [if_neg (by simpa using h0)] at hQ
    simp only [anilck, afaddr, Do_of, Nat.zero_add, Nat.add_zero]
    have l0 : aload H 1 false (.ptr id 0) = some (lstA GVar.cells vars) := by rw [hat.load]; rfl
    have l8 : aload H 2 true (.fptr x.cells) = some (.agg x.cells) := takeCells_whole x.len
    simp only [l0, l8, Do_of]
    refine place_val hGT hT vars x hlv hv hx _ _ ?_
    rw [resV_eq]
    simp only [aextract, List.getElem?_cons_zero, List.getElem?_cons_succ, Do_of, DoH_some, abox, if_true]
    have a2 := hat.push (.row zeroC)
    refine ⟨(a2.load 1 0 false).trans rfl, takeCells_whole x.len, ?_⟩
    change Do (astore (H.push (.row zeroC)) 6 (.ptr H.n 0) (.agg (resTC (placeM vars x)))) _
    rw [store_new _ _ _ 6 (resTC_len _) (resTC_scalar _) rfl]
    simp only [Do_of, abin_eql]
    have a3 := hat.push (.row (resTC (placeM vars x)))
    have k3 := KeepC.push id H (.row (resTC (placeM vars x)))
    have at13 := At.new H (.row (resTC (placeM vars x)))
    have hne : H.n ≠ id := Ne.symm hat.lt_new
    generalize H.push (.row (resTC (placeM vars x))) = H2 at *
    generalize H.n = id13 at *
    refine ck_need hT a3 fun H4 k4 a4 => ?_
    have at13b := k4.2 _ _ hne at13
    have k4' := k3.trans k4
    -- the parts
    have parts : ∀ (s1 : CSt) (H5 : AH), Still s s1 → KeepC id H H5 → At H5 id (.row (ckC vars s1 loc)) → ptsM vars s1 d x.parts = ptsM vars (placeS vars s k x) d x.parts → JoinP (S.check_checker_place_k4 (ACall C) (.ptr id 0) (.int .i64 d) (.fptr x.cells) Q) [] H5 := by
      intro s1 H5 hst hk ha he
      simp only [JoinP_def, S.check_checker_place_k4, pc_addr, pc_l1, lstA_len', Do_of]
      have main : ∀ (r : List GPart) (i : Nat) (s' : CSt) (H1 : AH), x.parts.drop i = r → Still s s' → KeepC id H H1 → At H1 id (.row (ckC vars s' loc)) → ptsM vars s' d r = ptsM vars (placeS vars s k x) d x.parts →
          LoopP (S.check_checker_place_l3 (ACall C) (.ptr id 0) (.int .i64 d) (lstA GPart.cells x.parts) (.int .i64 x.parts.length) Q) ([.int .i64 i], H1) := by
        intro r
        induction r with
        | nil =>
          intro i s' H1 hd hst hk ha he
          have hle := drop_nil_le hd
          refine LoopP.step ?_
          simp only [S.check_checker_place_l3, sl_zero, abin_lss, Do_of, Gd_true]
          rw [if_neg (by simp only [decide_eq_true_eq]; omega)]
          rw [ptsM] at he
          exact hQ H1 hk (by rw [← he]; exact ha)
        | cons p r ih =>
          intro i s' H1 hd hst hk ha he
          obtain ⟨hlt, hp, hd'⟩ := drop_cons_lt hd
          have hpm := List.mem_of_getElem? hp
          refine LoopP.step ?_
          simp only [S.check_checker_place_l3, sl_zero, abin_lss, Do_of, Gd_true]
          rw [if_pos (by simp only [decide_eq_true_eq]; omega), lstA_addr hlt]
          simp only [Do_of]
          rw [elA_load GPart.len (by decide) _ hp]
          simp only [Do_of, DoH_some, abox, if_true]
          rw [store_new _ _ _ 2 p.len p.scalar rfl]
          simp only [Do_of, afaddr, Nat.zero_add]
          have ha2 := ha.push (.row p.cells)
          have hk2 := hk.trans (KeepC.push id H1 (.row p.cells))
          have hld : aload (H1.push (.row p.cells)) 1 false (.ptr H1.n 1) = some (lstA GExpr.cells p.index) := by rw [load_push, GPart.cells_eq]; rfl
          simp only [hld, Do_of, lstA_len']
          rw [ptsM, ptM_eq] at he
          have inner : ∀ (q : List GExpr) (j : Nat) (s2 : CSt) (H3 : AH), p.index.drop j = q → Still s s2 → KeepC id H H3 → At H3 id (.row (ckC vars s2 loc)) → ptsM vars (idxM vars s2 d q) d r = ptsM vars (placeS vars s k x) d x.parts →
              LoopP (S.check_checker_place_l2 (ACall C) (.ptr id 0) (.int .i64 d) (lstA GExpr.cells p.index) (.int .i64 p.index.length) ([.int .i64 i], H1) (LoopP (S.check_checker_place_l3 (ACall C) (.ptr id 0) (.int .i64 d) (lstA GPart.cells x.parts) (.int .i64 x.parts.length) Q)) Q) ([.int .i64 j], H3) := by
            intro q
            induction q with
            | nil =>
              intro j s2 H3 hd3 hst3 hk3 ha3 he3
              have hle := drop_nil_le hd3
              refine LoopP.step ?_
              simp only [S.check_checker_place_l2, sl_zero, abin_lss, Do_of, Gd_true]
              rw [if_neg (by simp only [decide_eq_true_eq]; omega)]
              simp only [JoinP_def, S.check_checker_place_k1, sl_zero, abin_add, Do_of]
              rw [wrap_i64 (by omega) (by omega), show ((i : Int) + 1) = ((i + 1 : Nat) : Int) by simp]
              rw [idxM] at he3
              exact ih (i + 1) s2 H3 hd' hst3 hk3 ha3 he3
            | cons e q ih2 =>
              intro j s2 H3 hd3 hst3 hk3 ha3 he3
              obtain ⟨hlt3, hx3, hd3'⟩ := drop_cons_lt hd3
              have hpl := (hpi p hpm).1
              refine LoopP.step ?_
              simp only [S.check_checker_place_l2, sl_zero, abin_lss, Do_of, Gd_true]
              rw [if_pos (by simp only [decide_eq_true_eq]; omega), lstA_addr hlt3]
              simp only [Do_of]
              rw [elA_load GExpr.len (by decide) _ hx3]
              simp only [Do_of, DoH_some, abox, if_true]
              rw [store_new _ _ _ 8 e.len e.scalar rfl]
              simp only [Do_of]
              have ha4 := ha3.push (.row e.cells)
              have hk4 := hk3.trans (KeepC.push id H3 (.row e.cells))
              have hld4 : aload (H3.push (.row e.cells)) 8 true (.ptr H3.n 0) = some (.agg e.cells) := by rw [load_push, takeCells_whole e.len]
              simp only [hld4, Do_of, abin_add]
              rw [idxM] at he3
              refine hE p hpm e (List.mem_of_getElem? hx3) s2 _ loc _ _ ha4 ((hloc.keep hk4).still hst3) (by rw [hst3.1]; exact hb) fun H5 k5 a5 => ?_
              rw [wrap_i64 (by omega) (by omega), show ((j : Int) + 1) = ((j + 1 : Nat) : Int) by simp]
              exact ih2 (j + 1) _ H5 hd3' (hst3.trans (still_exM vars e s2 _)) (hk4.trans k5) a5 he3
          exact inner p.index 0 s' _ rfl hst hk2 ha2 he
      exact main x.parts 0 s1 H5 rfl hst hk ha he
    refine S.cl_check_checker_bad hT (ck_bad a4 ?_)
    simp only [Gd3_false]
    refine ite_boolf (fun h => ?_) (fun h => ?_)
    · rw [at13b.load, takeCells_whole (resTC_len _)]
      simp only [Do_of]
      have hr : (placeM vars x).1 = 0 := by
        by_cases hr : (placeM vars x).1 = 0
        · exact hr
        · have : (s.need ((placeM vars x).1 == 0) (placeM vars x).1).fkind = (placeM vars x).1 := by
            unfold CSt.need
            rw [if_pos ⟨by simpa using hr, h0⟩]
          rw [this] at h
          simp at h
          exact absurd h hr
      have hc : resTC (placeM vars x) = (placeM vars x).2.cells := by unfold resTC; rw [if_pos hr]
      rw [hc]
      refine fits_val hGT hT _ _ _ _ ?_
      refine ck_need hT a4 fun H6 k6 a6 => ?_
      refine parts _ H6 ((still_need _ _ _).trans (still_need _ _ _)) (k4'.trans k6) a6 ?_
      unfold placeS
      simp only [h, Bool.false_or]
    · refine ck_need hT a4 fun H6 k6 a6 => ?_
      refine parts _ H6 ((still_need _ _ _).trans (still_need _ _ _)) (k4'.trans k6) a6 ?_
      unfold placeS
      simp only [h, Bool.true_or]

theorem expr_spec (hlv : vars.length ≤ maxLen) (hv : ∀ v ∈ vars, v.ok) : ∀ e : GExpr, e.ok → ExprS C id vars e := by
  refine GExpr.ind fun e ihk ihp he => ?_
  obtain ⟨⟨hkl, hkk⟩, hpl⟩ := GExpr.ok_parts he
  have hpp := GPlace.ok_parts hpl
  intro s d loc H Q hat hloc hb hQ
  refine S.cl_check_checker_expr hT ?_
  unfold S.check_checker_expr
  simp only [ex_box, DoH_some, abin_leq, Do_of]
  refine ck_need hT hat fun H1 k1 a1 => ?_
  simp only [ex_all, Do_of]
  refine formed_val hGT hT e _ _ ?_
  refine ck_need hT a1 fun H2 k2 a2 => ?_
  simp only [ex_addr, ex_l0, ex_l4, Do_of, abin_add]
  refine order_val hGT hT _ _ _ _ ?_
  refine ck_need hT a2 fun H3 k3 a3 => ?_
  have kk := k1.trans (k2.trans k3)
  rw [exM_eq] at hQ
  change At H3 id (.row (ckC vars (headE s d e) loc)) at a3
  have st1 := still_headE s d e
  generalize headE s d e = s1 at *
  refine S.cl_check_checker_bad hT (ck_bad a3 ?_)
  simp only [Gd_true]
  refine ite_both (fun h => ?_) (fun h => ?_)
  · rw [if_pos (by simpa using h)] at hQ
    exact hQ H3 kk a3
  · rw [if_neg (by simpa using h)] at hQ
    simp only [abin_eql, Do_of, Gd_true]
    -- the children
    have kids : ∀ (s3 : CSt) (H4 : AH), Still s s3 → KeepC id H H4 → At H4 id (.row (ckC vars s3 loc)) → (∀ H', KeepC id H H' → At H' id (.row (ckC vars (exsM vars s3 d e.kids) loc)) → Q (.tup []) H') → JoinP (S.check_checker_expr_k1 (ACall C) (.ptr id 0) (.int .i64 d) (.fptr e.cells) Q) [] H4 := by
      intro s3 H4 hst hk ha hq
      simp only [JoinP_def, S.check_checker_expr_k1, ex_addr, ex_l7, Do_of]
      exact exprs_spec hGT hT hkl (fun k hk' => ihk k hk' (hkk k hk')) ha ((hloc.keep hk).still hst) (by rw [hst.1]; exact hb) fun H' k' a' => hq H' (hk.trans k') a'
    have mid : ∀ (s2 : CSt) (H4 : AH), Still s s2 → KeepC id H H4 → At H4 id (.row (ckC vars s2 loc)) → (∀ H', KeepC id H H' → At H' id (.row (ckC vars (exsM vars (if e.kind ≥ 4 then plM vars s2 (w64 (10 + e.kind)) d e.place else s2) d e.kids) loc)) → Q (.tup []) H') →
        JoinP (S.check_checker_expr_k2 (ACall C) (.ptr id 0) (.int .i64 d) (.fptr e.cells) Q) [] H4 := by
      intro s2 H4 hst hk ha hq
      simp only [JoinP_def, S.check_checker_expr_k2, ex_addr, ex_l0, ex_l5, Do_of, abin_geq, Gd_true, abin_add]
      refine ite_both (fun h => ?_) (fun h => ?_)
      · rw [if_pos (by simpa using h)] at hq
        refine ckplace_spec hGT hT hlv hv hpl (fun p hp i hi => ihp p hp i hi ((hpp.2 p hp).2 i hi)) ha ((hloc.keep hk).still hst) (by rw [hst.1]; exact hb) fun H' k' a' => ?_
        exact kids _ H' (hst.trans (still_plM vars _ _ _ _)) (hk.trans k') a' hq
      · rw [if_neg (by simpa using h)] at hq
        exact kids _ H4 hst hk ha hq
    refine ite_both (fun h => ?_) (fun h => ?_)
    · rw [show (if e.kind = 2 then s1.need (s1.has e.name) 6 else s1) = s1.need (s1.has e.name) 6 from if_pos (by simpa using h)] at hQ
      simp only [ex_l2, Do_of]
      refine ck_there hT a3 ((hloc.keep kk).still st1) (by rw [st1.1]; exact hb) ?_
      refine ck_need hT a3 fun H4 k4 a4 => ?_
      exact mid _ H4 (st1.trans (still_need _ _ _)) (kk.trans k4) a4 hQ
    · rw [show (if e.kind = 2 then s1.need (s1.has e.name) 6 else s1) = s1 from if_neg (by simpa using h)] at hQ
      exact mid _ H3 st1 kk a3 hQ
end
end Rb

/- Package check: the form of a statement; what statements leave as it was; locals. -/
set_option linter.unusedVariables false
set_option linter.unusedSimpArgs false
set_option linter.unusedSectionVars false
namespace Rb
open Go

section
variable {Φ : Calls'} {H : AH} {Q : Post}
theorem check_form_spec (hT : Cl Φ S.tab_Chk) {x : GStmt} (hQ : ∀ H', Q (.bool (formM x)) H') : S.check_form Φ (.agg x.cells) H Q := by
  have fin : ∀ (b : Bool) H', b = formM x → Q (.bool b) H' := fun b H' h => by rw [h]; exact hQ H'
  clear hQ
  unfold S.check_form
  simp only [st_box, DoH_some, st_addr, st_l0, Do_of]
  refine S.cl_check_of hT (check_of_spec fun H1 => ?_)
  simp only [aextract, List.getElem?_cons_zero, List.getElem?_cons_succ, Do_of, DoH_some, abox, if_true]
  rw [store_new _ _ _ 6 (hasC_len _) (hasC_scalar _) rfl]
  simp only [Do_of]
  have at9 := At.new H1 (.row (hasC x.kind))
  generalize H1.push (.row (hasC x.kind)) = H2 at *
  generalize H1.n = id9 at *
  by_cases hk : (decide (1 ≤ x.kind) && decide (x.kind ≤ 10)) = true
  · have hc : hasC x.kind = [.bool (hasM x.kind).1, .bool (hasM x.kind).2.1, .bool (hasM x.kind).2.2.1, .int .i64 (hasM x.kind).2.2.2.1, .bool (hasM x.kind).2.2.2.2.1, .bool (hasM x.kind).2.2.2.2.2] := by
      unfold hasC; rw [if_pos (by simpa using hk)]
    rw [hc] at at9
    unfold formM at fin
    rw [hk] at fin ⊢
    simp only [Bool.true_and] at fin
    generalize hasM x.kind = h at *
    obtain ⟨h0, h1, h2, h3, h4, h5⟩ := h
    simp only at at9 fin
    have k1 : ∀ (b : Bool) (H' : AH), At H' id9 (.row [.bool h0, .bool h1, .bool h2, .int .i64 h3, .bool h4, .bool h5]) → (∀ c H'', c = (b && (h5 || x.els.length == 0)) → Q (.bool c) H'') → JoinP (S.check_form_k1 Φ (.fptr x.cells) (.ptr id9 0) Q) [.bool b] H' := by
      intro b H' ha hb
      have l : aload H' 1 false (.ptr id9 5) = some (.bool h5) := by rw [ha.load]; rfl
      simp only [JoinP_def, S.check_form_k1, sl_zero, Gd3_true, Gd3_false, afaddr, Nat.zero_add, st_l9, Do_of, lstA_len', abin_eql, l, len_eq0]
      cases b
      · exact hb _ _ rfl
      · rw [if_pos rfl]
        refine ite_boolf (fun h => ?_) (fun h => ?_)
        · exact hb _ _ (by rw [h]; rfl)
        · exact hb _ _ (by rw [h]; rfl)
    have k2 : ∀ (b : Bool) (H' : AH), At H' id9 (.row [.bool h0, .bool h1, .bool h2, .int .i64 h3, .bool h4, .bool h5]) → (∀ c H'', c = (b && (h4 || x.thn.length == 0) && (h5 || x.els.length == 0)) → Q (.bool c) H'') → JoinP (S.check_form_k2 Φ (.fptr x.cells) (.ptr id9 0) Q) [.bool b] H' := by
      intro b H' ha hb
      have l : aload H' 1 false (.ptr id9 4) = some (.bool h4) := by rw [ha.load]; rfl
      simp only [JoinP_def, S.check_form_k2, sl_zero, Gd3_true, Gd3_false, afaddr, Nat.zero_add, st_l8, Do_of, lstA_len', abin_eql, l, len_eq0]
      cases b
      · exact k1 _ _ ha fun c H'' hc => hb c H'' (by rw [hc]; rfl)
      · rw [if_pos rfl]
        refine ite_boolf (fun h => ?_) (fun h => ?_)
        · exact k1 _ _ ha fun c H'' hc => hb c H'' (by rw [hc, h]; rfl)
        · exact k1 _ _ ha fun c H'' hc => hb c H'' (by rw [hc, h]; rfl)
    have k3 : ∀ (b : Bool) (H' : AH), At H' id9 (.row [.bool h0, .bool h1, .bool h2, .int .i64 h3, .bool h4, .bool h5]) → (∀ c H'', c = (b && ((x.exprs.length : Int) == h3) && (h4 || x.thn.length == 0) && (h5 || x.els.length == 0)) → Q (.bool c) H'') →
        JoinP (S.check_form_k3 Φ (.fptr x.cells) (.ptr id9 0) Q) [.bool b] H' := by
      intro b H' ha hb
      have l : aload H' 1 false (.ptr id9 3) = some (.int .i64 h3) := by rw [ha.load]; rfl
      simp only [JoinP_def, S.check_form_k3, sl_zero, Gd3_true, Gd3_false, afaddr, Nat.zero_add, st_l7, Do_of, lstA_len', abin_eql, l]
      cases b
      · exact k2 _ _ ha fun c H'' hc => hb c H'' (by rw [hc]; rfl)
      · rw [if_pos rfl]
        exact k2 _ _ ha fun c H'' hc => hb c H'' (by rw [hc]; rfl)
    have k4 : ∀ (b : Bool) (H' : AH), At H' id9 (.row [.bool h0, .bool h1, .bool h2, .int .i64 h3, .bool h4, .bool h5]) → (∀ c H'', c = (b && (h2 || emptyM x.place) && ((x.exprs.length : Int) == h3) && (h4 || x.thn.length == 0) && (h5 || x.els.length == 0)) → Q (.bool c) H'') →
        JoinP (S.check_form_k4 Φ (.fptr x.cells) (.ptr id9 0) Q) [.bool b] H' := by
      intro b H' ha hb
      have l : aload H' 1 false (.ptr id9 2) = some (.bool h2) := by rw [ha.load]; rfl
      simp only [JoinP_def, S.check_form_k4, sl_zero, Gd3_true, Gd3_false, afaddr, Nat.zero_add, st_l5, Do_of, l]
      cases b
      · exact k3 _ _ ha fun c H'' hc => hb c H'' (by rw [hc]; rfl)
      · rw [if_pos rfl]
        refine ite_boolf (fun h => ?_) (fun h => ?_)
        · refine S.cl_check_empty hT (check_empty_spec ?_)
          exact k3 _ _ ha fun c H'' hc => hb c H'' (by rw [hc, h]; rfl)
        · exact k3 _ _ ha fun c H'' hc => hb c H'' (by rw [hc, h]; rfl)
    have k5 : ∀ (b : Bool) (H' : AH), At H' id9 (.row [.bool h0, .bool h1, .bool h2, .int .i64 h3, .bool h4, .bool h5]) → (∀ c H'', c = (b && (h1 || x.name2 == []) && (h2 || emptyM x.place) && ((x.exprs.length : Int) == h3) && (h4 || x.thn.length == 0) && (h5 || x.els.length == 0)) → Q (.bool c) H'') →
        JoinP (S.check_form_k5 Φ (.fptr x.cells) (.ptr id9 0) Q) [.bool b] H' := by
      intro b H' ha hb
      have l : aload H' 1 false (.ptr id9 1) = some (.bool h1) := by rw [ha.load]; rfl
      simp only [JoinP_def, S.check_form_k5, sl_zero, Gd3_true, Gd3_false, afaddr, Nat.zero_add, st_l3, Do_of, l, abin_streq']
      cases b
      · exact k4 _ _ ha fun c H'' hc => hb c H'' (by rw [hc]; rfl)
      · rw [if_pos rfl]
        refine ite_boolf (fun h => ?_) (fun h => ?_)
        · exact k4 _ _ ha fun c H'' hc => hb c H'' (by rw [hc, h]; rfl)
        · exact k4 _ _ ha fun c H'' hc => hb c H'' (by rw [hc, h]; rfl)
    have l : aload H2 1 false (.ptr id9 0) = some (.bool h0) := by rw [at9.load]; rfl
    simp only [Gd3_true, Gd3_false, afaddr, Nat.zero_add, Nat.add_zero, l, Do_of, st_l2, abin_streq', if_true]
    refine ite_boolf (fun h => ?_) (fun h => ?_)
    · exact k5 _ _ at9 fun c H'' hc => fin c H'' (by rw [hc, h]; rfl)
    · exact k5 _ _ at9 fun c H'' hc => fin c H'' (by rw [hc, h]; rfl)
  · simp only [Bool.not_eq_true] at hk
    rw [hk]
    simp only [Gd3_true, S.check_form_k1, S.check_form_k2, S.check_form_k3, S.check_form_k4, S.check_form_k5, JoinP_def, sl_zero, Bool.false_eq_true, if_false]
    refine fin _ _ ?_
    unfold formM
    rw [hk]; rfl
end

/-! Locals -/
def CInv (s : CSt) : Prop := (s.locals.length : Int) ≤ s.lets ∧ s.lets ≤ 41 ∧ (s.fkind = 0 → s.lets ≤ 40)
theorem need_zero {s : CSt} {ok : Bool} {e : Int} (he : e ≠ 0) (h : (s.need ok e).fkind = 0) : s.fkind = 0 ∧ ok = true := by
  unfold CSt.need at h
  split at h
  · exact absurd h he
  · rename_i hn
    refine ⟨h, ?_⟩
    cases ok with
    | true => rfl
    | false => exact absurd ⟨rfl, h⟩ hn
theorem still_inv {a b : CSt} (h : Still a b) (hi : CInv a) (hz : b.fkind = 0 → a.fkind = 0) : CInv b := by
  obtain ⟨h1, h2⟩ := h
  obtain ⟨i1, i2, i3⟩ := hi
  exact ⟨by rw [h1, h2]; exact i1, by rw [h2]; exact i2, fun k => by rw [h2]; exact i3 (hz k)⟩
section
variable (vars : List GVar) (kw : List UInt8 → Bool)
theorem still_frontS (s : CSt) (d : Int) (x : GStmt) : Still s (frontS vars kw s d x) := by
  unfold frontS
  split
  · exact (still_need _ _ _).trans ((still_need _ _ _).trans (still_need _ _ _))
  · split
    · exact still_need _ _ _
    · split
      · exact still_plM vars _ _ _ _
      · exact Still.refl s
theorem frontS_let {s : CSt} {d : Int} {x : GStmt} (hk : x.kind = 1) (h : (frontS vars kw s d x).fkind = 0) : s.lets < 40 := by
  unfold frontS at h
  rw [if_pos hk] at h
  have := (need_zero (by decide) h).2
  exact of_decide_eq_true this
theorem exsM_zero {s : CSt} {d : Int} {l : List GExpr} (h : (exsM vars s d l).fkind = 0) : s.fkind = 0 := by
  by_cases h0 : s.fkind = 0
  · exact h0
  · rw [exsM_bad vars h0] at h; exact absurd h h0
theorem still_rear {s : CSt} {x : GStmt} (hk : x.kind ≠ 1) : Still s (rearS s x) := by
  unfold rearS
  rw [if_neg hk]
  split
  · exact (still_need _ _ _).trans ((still_need _ _ _).trans (still_need _ _ _))
  · exact Still.refl s
theorem bodyS_inv {s : CSt} {d : Int} {x : GStmt} (h0 : s.fkind = 0) (hi : CInv s) : CInv (bodyS vars kw s d x) ∧ s.lets ≤ (bodyS vars kw s d x).lets ∧ s.locals.length ≤ (bodyS vars kw s d x).locals.length := by
  obtain ⟨i1, i2, i3⟩ := hi
  have i4 := i3 h0
  have s1 : Still s (exsM vars (frontS vars kw (headS s d x) d x) d x.exprs) := (still_headS s d x).trans ((still_frontS vars kw _ d x).trans (still_exsM vars _ _ _))
  unfold bodyS
  by_cases hk : x.kind = 1
  · have hl : (exsM vars (frontS vars kw (headS s d x) d x) d x.exprs).fkind = 0 → s.lets < 40 := by
      intro h
      have := frontS_let vars kw hk (exsM_zero vars h)
      rw [(still_headS s d x).2] at this
      exact this
    generalize exsM vars (frontS vars kw (headS s d x) d x) d x.exprs = t at *
    unfold rearS
    rw [if_pos hk]
    unfold CSt.letIn CInv
    simp only [List.length_append, List.length_singleton]
    obtain ⟨s2, s3⟩ := s1
    rw [s2, s3]
    have e : w64 (s.lets + 1) = s.lets + 1 := wrap_i64 (by omega) (by omega)
    rw [e]
    refine ⟨⟨by omega, by omega, fun k => ?_⟩, by omega, by omega⟩
    have := hl k
    omega
  · have s2 := s1.trans (still_rear (s := exsM vars (frontS vars kw (headS s d x) d x) d x.exprs) hk)
    refine ⟨⟨by rw [s2.1, s2.2]; exact i1, by rw [s2.2]; exact i2, fun _ => by rw [s2.2]; exact i4⟩, by rw [s2.2]; exact Int.le_refl _, by rw [s2.1]; exact Nat.le_refl _⟩
mutual
theorem stM_inv : ∀ (x : GStmt) (s : CSt) (d : Int), s.fkind = 0 → CInv s → CInv (stM vars kw s d x) ∧ s.lets ≤ (stM vars kw s d x).lets ∧ s.locals.length ≤ (stM vars kw s d x).locals.length
  | .mk kind line name name2 order place exprs thn els, s, d, h0, hi => by
    rw [stM]
    have h1 := bodyS_inv vars kw (d := d) (x := .mk kind line name name2 order place exprs thn els) h0 hi
    generalize bodyS vars kw s d (.mk kind line name name2 order place exprs thn els) = s1 at *
    have h2 := blM_inv thn s1 s1.locals.length (w64 (d + 1)) h1.1 (Nat.le_refl _)
    generalize blM vars kw s1 s1.locals.length (w64 (d + 1)) thn = s2 at *
    have e1 : (s2.at line).lets = s2.lets := rfl
    have e2 : (s2.at line).locals.length = s2.locals.length := rfl
    have hi2 : CInv (s2.at line) := h2.1
    generalize s2.at line = t at *
    have h3 := blM_inv els t t.locals.length (w64 (d + 1)) hi2 (Nat.le_refl _)
    exact ⟨h3.1, by omega, by omega⟩
theorem blM_inv : ∀ (l : List GStmt) (s : CSt) (n : Nat) (d : Int), CInv s → n ≤ s.locals.length → CInv (blM vars kw s n d l) ∧ s.lets ≤ (blM vars kw s n d l).lets ∧ (blM vars kw s n d l).locals.length = n
  | [], s, n, d, hi, hn => by
    rw [blM]
    obtain ⟨i1, i2, i3⟩ := hi
    have e : (s.back n).locals.length = n := by show (s.locals.take n).length = n; rw [List.length_take]; omega
    exact ⟨⟨by rw [e]; show (n : Int) ≤ s.lets; omega, i2, i3⟩, Int.le_refl _, e⟩
  | x :: r, s, n, d, hi, hn => by
    rw [blM]
    by_cases h0 : s.fkind = 0
    · rw [if_neg (by simpa using h0)]
      have h1 := stM_inv x (s.at x.line) d h0 hi
      have e1 : (s.at x.line).lets = s.lets := rfl
      have e2 : (s.at x.line).locals = s.locals := rfl
      rw [e1, e2] at h1
      have h2 := blM_inv r (stM vars kw (s.at x.line) d x) n d h1.1 (by omega)
      exact ⟨h2.1, by omega, h2.2.2⟩
    · rw [if_pos h0]
      exact blM_inv r s n d hi hn
end
theorem blockM_inv {s : CSt} {d : Int} {l : List GStmt} (hi : CInv s) : CInv (blockM vars kw s d l) ∧ s.lets ≤ (blockM vars kw s d l).lets ∧ (blockM vars kw s d l).locals.length = s.locals.length := blM_inv vars kw l s _ d hi (Nat.le_refl _)
end

/-- What a block leaves: the checker and its row of locals apart. -/
def Frame (id : Nat) (loc : AV) (H : AH) (loc' : AV) (H' : AH) : Prop :=
  H.n ≤ H'.n ∧ (∀ i o, i ≠ id → (∀ n, loc ≠ .row i 0 n 1) → At H i o → At H' i o) ∧ ∀ j n, loc' = .row j 0 n 1 → (∃ m, loc = .row j 0 m 1) ∨ H.n ≤ j
theorem Frame.of {id : Nat} {loc : AV} {H H' : AH} (h : KeepC id H H') : Frame id loc H loc H' := ⟨h.1, fun i o hi _ ho => h.2 i o hi ho, fun j n e => .inl ⟨n, e⟩⟩
theorem Frame.trans {id : Nat} {l0 l1 l2 : AV} {a b c : AH} (h : Frame id l0 a l1 b) (k : Frame id l1 b l2 c) : Frame id l0 a l2 c := by
  refine ⟨Nat.le_trans h.1 k.1, fun i o hi hn ho => k.2.1 i o hi (fun n e => ?_) (h.2.1 i o hi hn ho), fun j n e => ?_⟩
  · rcases h.2.2 i n e with ⟨m, e'⟩ | hge
    · exact hn m e'
    · exact absurd ho.1 (by omega)
  · rcases k.2.2 j n e with ⟨m, e'⟩ | hge
    · exact h.2.2 j m e'
    · right; have := h.1; omega
end Rb

/- Package check: statements, blocks. -/
set_option linter.unusedVariables false
set_option linter.unusedSimpArgs false
set_option linter.unusedSectionVars false
namespace Rb
open Go

theorem GStmt.ok_parts {x : GStmt} (h : x.ok) : x.place.ok ∧ (x.exprs.length ≤ 9223372036854775807 ∧ ∀ e ∈ x.exprs, e.ok) ∧ (x.thn.length ≤ 9223372036854775807 ∧ ∀ y ∈ x.thn, y.ok) ∧ (x.els.length ≤ 9223372036854775807 ∧ ∀ y ∈ x.els, y.ok) := by
  rw [← i64max]
  cases x with
  | mk kind line name name2 order place exprs thn els =>
    obtain ⟨_, _, _, _, _, h6, h7, h8, h9, h10, h11, h12⟩ := h
    exact ⟨h6, ⟨h7, GExpr.oks_iff.1 h8⟩, ⟨h9, GStmt.oks_iff.1 h10⟩, h11, GStmt.oks_iff.1 h12⟩
theorem GStmt.ind {P : GStmt → Prop} (h : ∀ x : GStmt, (∀ y ∈ x.thn, P y) → (∀ y ∈ x.els, P y) → P x) : ∀ x, P x := by
  have main : ∀ (n : Nat) (x : GStmt), sizeOf x < n → P x := by
    intro n
    induction n with
    | zero => intro x hx; omega
    | succ n ih =>
      intro x hx
      refine h x (fun y hy => ih _ ?_) fun y hy => ih _ ?_
      · cases x with
        | mk kind line name name2 order place exprs thn els =>
          have := List.sizeOf_lt_of_mem hy
          simp at this hx ⊢; omega
      · cases x with
        | mk kind line name name2 order place exprs thn els =>
          have := List.sizeOf_lt_of_mem hy
          simp at this hx ⊢; omega
  exact fun x => main _ x (Nat.lt_succ_self _)

theorem setCells_one (cs : List AV) (n : Nat) (v : AV) : setCells cs n [v] = cs.set n v := rfl

/-- A local more. -/
theorem loc_append {H : AH} {id : Nat} {loc : AV} {l : List (List UInt8)} {x : List UInt8} {cs0 : List AV} (hat : At H id (.row cs0)) (hloc : LocR H id loc l) (hb : l.length ≤ 1000) {K : Post}
    (hK : ∀ loc' H', Frame id loc H loc' H' → At H' id (.row cs0) → LocR H' id loc' (l ++ [x]) → K loc' H') : DoH (aappend H true 1 16 loc (.lst .full 1 [.str x])) K := by
  have hy : acells H 1 (.lst .full 1 [.str x]) = some (1, [.str x]) := rfl
  rcases hloc with ⟨rfl, rfl⟩ | ⟨j, cs, rfl, h2, h3, h4, h5⟩
  · refine ⟨.row H.n 0 1 1, H.push (.row [.str x]), rfl, ?_⟩
    refine hK _ _ ⟨Nat.le_succ _, fun i o _ _ h => h.push _, fun j n e => ?_⟩ (hat.push _) (.inr ⟨H.n, [.str x], rfl, Ne.symm hat.lt_new, At.new H _, Nat.le_refl _, rfl⟩)
    cases e
    right; exact Nat.le_refl _
  · by_cases hc : l.length + 1 ≤ cs.length
    · refine ⟨.row j 0 (l.length + 1) 1, H.set j (.row (setCells cs (l.length * 1) [.str x])), ?_, ?_⟩
      · simp only [aappend, hy, h3.2]
        simp only [List.all_cons, List.all_nil, AV.scalar, Bool.and_true, not_true_eq_false, if_false]
        rw [if_neg (by decide), if_neg (by simp only [Decidable.not_not]; exact ⟨trivial, trivial, by omega, by omega⟩), if_pos (by omega)]
      · rw [Nat.mul_one, setCells_one]
        refine hK _ _ ⟨Nat.le_refl _, fun i o hi hn h => h.set_ne (fun e => hn l.length (by rw [e])) _, fun i n e => ?_⟩ (hat.set_ne (Ne.symm h2) _) (.inr ⟨j, cs.set l.length (.str x), by simp, h2, h3.set _, by simpa using hc, ?_⟩)
        · cases e
          left; exact ⟨_, rfl⟩
        · rw [List.length_append, List.length_singleton, List.take_add_one, List.getElem?_set_self (by omega), List.take_set_of_le (by omega), h5]
          simp
    · have hce : cs.length = l.length := by omega
      refine ⟨.row H.n 0 (l.length + 1) 1, (H.set j .gone).push (.row (cs ++ [.str x])), ?_, ?_⟩
      · simp only [aappend, hy, h3.2]
        simp only [List.all_cons, List.all_nil, AV.scalar, Bool.and_true, not_true_eq_false, if_false]
        rw [if_neg (by decide), if_neg (by simp only [Decidable.not_not]; exact ⟨trivial, trivial, by omega, by omega⟩), if_neg (by omega), if_pos (by omega)]
      · refine hK _ _ ⟨by simp, fun i o hi hn h => (h.set_ne (fun e => hn l.length (by rw [e])) _).push _, fun i n e => ?_⟩ ((hat.set_ne (Ne.symm h2) _).push _) (.inr ⟨H.n, cs ++ [.str x], by simp, Ne.symm hat.lt_new, ?_, by simp; omega, ?_⟩)
        · cases e
          right; exact Nat.le_refl _
        · exact At.new (H.set j .gone) _
        · rw [List.length_append, List.length_singleton, List.take_of_length_le (by simp; omega)]
          rw [← hce, List.take_length] at h5
          rw [h5]; simp

/-- What the checker does with a statement. -/
def StmtS (C : Ctx) (id : Nat) (vars : List GVar) (kw : List UInt8 → Bool) (x : GStmt) : Prop :=
  ∀ (s : CSt) (d : Int) (loc : AV) (H : AH) (Q : Post), s.fkind = 0 → CInv s → At H id (.row (ckC vars s loc)) → LocR H id loc s.locals →
    (∀ H' loc', Frame id loc H loc' H' → At H' id (.row (ckC vars (stM vars kw s d x) loc')) → LocR H' id loc' (stM vars kw s d x).locals → Q (.tup []) H') → ACall C K.check_checker_stmt [.ptr id 0, .agg x.cells, .int .i64 d] H Q

section
variable {C : Ctx} (hGT : GTok C) (hT : Cl (ACall C) S.tab_Chk) {id : Nat} {vars : List GVar} {kw : List UInt8 → Bool}
include hGT hT
theorem form_val (x : GStmt) : Val (ACall C) K.check_form [.agg x.cells] (.bool (formM x)) :=
  Val.of hGT (by simp [AV.frozs, AV.froz, GStmt.froz]) rfl fun Q hQ => S.cl_check_form hT (check_form_spec hT hQ)

theorem block_spec {l : List GStmt} (hl : l.length ≤ 9223372036854775807) (hS : ∀ x ∈ l, StmtS C id vars kw x) {s : CSt} {d : Int} {loc : AV} {H : AH} {Q : Post} (hi : CInv s) (hat : At H id (.row (ckC vars s loc))) (hloc : LocR H id loc s.locals)
    (hQ : ∀ H' loc', Frame id loc H loc' H' → At H' id (.row (ckC vars (blockM vars kw s d l) loc')) → LocR H' id loc' (blockM vars kw s d l).locals → Q (.tup []) H') : ACall C K.check_checker_block [.ptr id 0, lstA GStmt.cells l, .int .i64 d] H Q := by
  refine S.cl_check_checker_block hT ?_
  unfold S.check_checker_block
  simp only [anilck, afaddr, Do_of, Nat.zero_add]
  rw [hat.load, show takeCells (ckC vars s loc) 1 1 false = some loc from rfl]
  simp only [Do_of]
  have hlen : ∀ {H : AH} {lc : AV} {xs : List (List UInt8)}, LocR H id lc xs → alen false lc = some (.int .i64 xs.length) := by
    intro H lc xs h
    rcases h with ⟨rfl, rfl⟩ | ⟨j, cs, rfl, _⟩
    · rfl
    · rfl
  rw [hlen hloc]
  simp only [Do_of, lstA_len']
  have main : ∀ (r : List GStmt) (i : Nat) (s' : CSt) (loc1 : AV) (H1 : AH), l.drop i = r → CInv s' → s.locals.length ≤ s'.locals.length → Frame id loc H loc1 H1 → At H1 id (.row (ckC vars s' loc1)) → LocR H1 id loc1 s'.locals → blM vars kw s' s.locals.length d r = blockM vars kw s d l →
      LoopP (S.check_checker_block_l3 (ACall C) (.ptr id 0) (lstA GStmt.cells l) (.int .i64 d) (.int .i64 s.locals.length) (.int .i64 l.length) Q) ([.int .i64 i], H1) := by
    intro r
    induction r with
    | nil =>
      intro i s' loc1 H1 hd hi1 hle1 hf ha hlo he
      have hle := drop_nil_le hd
      refine LoopP.step ?_
      simp only [S.check_checker_block_l3, sl_zero, abin_lss, Do_of, Gd_true]
      rw [if_neg (by simp only [decide_eq_true_eq]; omega)]
      simp only [JoinP_def, S.check_checker_block_k2, anilck, afaddr, Do_of, Nat.zero_add]
      rw [ha.load, show takeCells (ckC vars s' loc1) 1 1 false = some loc1 from rfl]
      simp only [Do_of]
      rw [blM] at he
      -- the locals that were there
      have cut : ∃ loc2, aslice 1 loc1 none (some (.int .i64 s.locals.length)) none = some loc2 ∧ Frame id loc1 H1 loc2 H1 ∧ (∀ cs, At (H1.set id (.row cs)) id (.row cs) → LocR (H1.set id (.row cs)) id loc2 (s'.locals.take s.locals.length)) ∧ loc2.known = true ∧ loc2.cells = [loc2] ∧ loc2.scalar = true := by
        rcases hlo with ⟨rfl, h⟩ | ⟨j, cs, rfl, h2, h3, h4, h5⟩
        · have h0 : s.locals.length = 0 := by rw [h] at hle1; simpa using hle1
          refine ⟨.lst .nil 0 [], ?_, ⟨Nat.le_refl _, fun _ _ _ _ h => h, fun _ _ e => by cases e⟩, fun _ _ => .inl ⟨rfl, by rw [h]; simp⟩, rfl, rfl, rfl⟩
          rw [h0]; rfl
        · refine ⟨.row j 0 s.locals.length 1, ?_, ⟨Nat.le_refl _, fun _ _ _ _ h => h, fun i n e => by cases e; exact .inl ⟨_, rfl⟩⟩, fun cs' _ => .inr ⟨j, cs, ?_, h2, h3.set_ne h2 _, ?_, ?_⟩, rfl, rfl, rfl⟩
          · simp only [aslice, abound]
            rw [if_pos (by omega)]
            simp only [Option.map_none]
            rw [if_pos ⟨Nat.zero_le _, by omega, trivial⟩, if_pos (.inl trivial)]
            simp
          · rw [List.length_take, Nat.min_eq_left hle1]
          · rw [List.length_take]; omega
          · rw [List.length_take, Nat.min_eq_left hle1, List.map_take, ← h5, List.take_take, Nat.min_eq_left hle1]
      obtain ⟨loc2, e1, f2, l2, g1, g2, g3⟩ := cut
      rw [e1]
      simp only [Do_of]
      rw [ha.store, if_pos ⟨g1, by rw [g2]; rfl, by rw [g2]; simp [g3], by simp [ckC]⟩, g2]
      simp only [Do_of]
      have e2 : setCells (ckC vars s' loc1) 1 [loc2] = ckC vars (s'.back s.locals.length) loc2 := rfl
      rw [e2]
      refine hQ _ loc2 ((hf.trans f2).trans (Frame.of (KeepC.set id H1 _))) (by rw [← he]; exact ha.set _) ?_
      rw [← he]
      exact l2 _ (ha.set _)
    | cons x r ih =>
      intro i s' loc1 H1 hd hi1 hle1 hf ha hlo he
      obtain ⟨hlt, hx, hd'⟩ := drop_cons_lt hd
      have hxm := List.mem_of_getElem? hx
      refine LoopP.step ?_
      simp only [S.check_checker_block_l3, sl_zero, abin_lss, Do_of, Gd_true]
      rw [if_pos (by simp only [decide_eq_true_eq]; omega), lstA_addr hlt]
      simp only [Do_of]
      rw [elA_load GStmt.len (by decide) _ hx]
      simp only [Do_of, DoH_some, abox, if_true]
      rw [store_new _ _ _ 10 x.len x.scalar rfl]
      simp only [Do_of, afaddr, Nat.zero_add]
      have ha2 := ha.push (.row x.cells)
      have hk2 : KeepC id H1 (H1.push (.row x.cells)) := KeepC.push id H1 (.row x.cells)
      have hat15 := At.new H1 (.row x.cells)
      have hne : H1.n ≠ id := Ne.symm ha.lt_new
      have next : ∀ (s2 : CSt) (loc3 : AV) (H3 : AH), CInv s2 → s.locals.length ≤ s2.locals.length → Frame id loc H loc3 H3 → At H3 id (.row (ckC vars s2 loc3)) → LocR H3 id loc3 s2.locals → blM vars kw s2 s.locals.length d r = blockM vars kw s d l →
          JoinP (S.check_checker_block_k1 (ACall C) ([.int .i64 i], H1) (LoopP (S.check_checker_block_l3 (ACall C) (.ptr id 0) (lstA GStmt.cells l) (.int .i64 d) (.int .i64 s.locals.length) (.int .i64 l.length) Q)) Q) [] H3 := by
        intro s2 loc3 H3 i3 hl3 f3 a3 l3 e3
        simp only [JoinP_def, S.check_checker_block_k1, sl_zero, abin_add, Do_of]
        rw [wrap_i64 (by omega) (by omega), show ((i : Int) + 1) = ((i + 1 : Nat) : Int) by simp]
        exact ih (i + 1) s2 loc3 H3 hd' i3 hl3 f3 a3 l3 e3
      rw [blM] at he
      generalize H1.push (.row x.cells) = H2 at *
      generalize H1.n = id15 at *
      refine S.cl_check_checker_bad hT (ck_bad ha2 ?_)
      simp only [aun_not, Do_of, Gd_true]
      refine ite_both (fun h => ?_) (fun h => ?_)
      · have h0 : s'.fkind = 0 := by simpa using h
        rw [if_neg (by simpa using h0)] at he
        have ll : aload H2 1 false (.ptr id15 1) = some (.int .i64 x.line) := by rw [hat15.load, GStmt.cells_eq, GPlace.cells_eq]; rfl
        simp only [ll, Do_of, anilck]
        rw [ha2.store, if_pos ⟨rfl, rfl, rfl, by simp [ckC]⟩]
        simp only [Do_of]
        have e4 : setCells (ckC vars s' loc1) 3 (AV.int .i64 x.line).cells = ckC vars (s'.at x.line) loc1 := rfl
        rw [e4]
        have a4 : At (H2.set id (.row (ckC vars (s'.at x.line) loc1))) id (.row (ckC vars (s'.at x.line) loc1)) := ha2.set _
        have k4 : KeepC id H1 (H2.set id (.row (ckC vars (s'.at x.line) loc1))) := hk2.trans (KeepC.set id H2 _)
        have at15 : At (H2.set id (.row (ckC vars (s'.at x.line) loc1))) id15 (.row x.cells) := hat15.set_ne hne _
        generalize H2.set id (.row (ckC vars (s'.at x.line) loc1)) = H3 at *
        rw [at15.load, takeCells_whole x.len]
        simp only [Do_of]
        have inv := stM_inv vars kw x (s'.at x.line) d h0 hi1
        refine hS x hxm (s'.at x.line) d loc1 H3 _ h0 hi1 a4 (hlo.keep k4) fun H5 loc5 f5 a5 l5 => ?_
        exact next _ loc5 H5 inv.1 (Nat.le_trans hle1 inv.2.2) ((hf.trans (Frame.of k4)).trans f5) a5 l5 he
      · have h0 : s'.fkind ≠ 0 := by simpa using h
        rw [if_pos h0] at he
        exact next s' loc1 H2 hi1 hle1 (hf.trans (Frame.of hk2)) ha2 (hlo.keep hk2) he
  exact main l 0 s loc H rfl hi (Nat.le_refl _) (Frame.of (KeepC.refl id H)) hat hloc rfl

theorem stmt_spec (hlv : vars.length ≤ maxLen) (hv : ∀ v ∈ vars, v.ok) (hkw : ∀ x, Val (ACall C) K.lex_Keyword [.str x] (.bool (kw x))) : ∀ x : GStmt, x.ok → StmtS C id vars kw x := by
  refine GStmt.ind fun x ihT ihE hx => ?_
  obtain ⟨hpl, ⟨hel, hee⟩, ⟨htl, htt⟩, hsl, hss⟩ := GStmt.ok_parts hx
  have hpp := GPlace.ok_parts hpl
  have hexpr : ∀ e : GExpr, e.ok → ExprS C id vars e := expr_spec hGT hT hlv hv
  intro s d loc H Q h0 hi hat hloc hQ
  have hb : s.locals.length ≤ 1000 := by have := hi.1; have := hi.2.1; omega
  have binv := bodyS_inv vars kw (d := d) (x := x) h0 hi
  rw [stM_eq] at hQ
  refine S.cl_check_checker_stmt hT ?_
  unfold S.check_checker_stmt
  simp only [st_box, DoH_some, abin_leq, Do_of]
  refine ck_need hT hat fun H1 k1 a1 => ?_
  simp only [st_all, Do_of]
  refine form_val hGT hT x _ _ ?_
  refine ck_need hT a1 fun H2 k2 a2 => ?_
  simp only [st_addr, st_l0, st_l4, Do_of]
  refine order_val hGT hT _ _ _ _ ?_
  refine ck_need hT a2 fun H3 k3 a3 => ?_
  have kk := k1.trans (k2.trans k3)
  change At H3 id (.row (ckC vars (headS s d x) loc)) at a3
  have st1 := still_headS s d x
  -- the blocks
  have tail : ∀ (loc3 : AV) (H4 : AH), Frame id loc H loc3 H4 → At H4 id (.row (ckC vars (bodyS vars kw s d x) loc3)) → LocR H4 id loc3 (bodyS vars kw s d x).locals → JoinP (S.check_checker_stmt_k1 (ACall C) (.ptr id 0) (.int .i64 d) (.fptr x.cells) Q) [] H4 := by
    intro loc3 H4 f4 a4 l4
    generalize bodyS vars kw s d x = s3 at *
    simp only [JoinP_def, S.check_checker_stmt_k1, st_addr, st_l8, Do_of, abin_add]
    have b1 := blockM_inv vars kw (d := w64 (d + 1)) (l := x.thn) binv.1
    refine block_spec hGT hT htl (fun y hy => ihT y hy (htt y hy)) binv.1 a4 l4 fun H5 loc5 f5 a5 l5 => ?_
    simp only [st_l1, Do_of, anilck, afaddr, Nat.zero_add]
    change At H5 id (.row (ckC vars (blockM vars kw s3 (w64 (d + 1)) x.thn) loc5)) at a5
    generalize blockM vars kw s3 (w64 (d + 1)) x.thn = s4 at *
    rw [a5.store, if_pos ⟨rfl, rfl, rfl, by simp [ckC]⟩]
    simp only [Do_of]
    have e4 : setCells (ckC vars s4 loc5) 3 (AV.int .i64 x.line).cells = ckC vars (s4.at x.line) loc5 := rfl
    rw [e4]
    simp only [Do_of, st_addr, st_l9]
    refine block_spec hGT hT hsl (fun y hy => ihE y hy (hss y hy)) (s := s4.at x.line) b1.1 (a5.set _) (l5.keep (KeepC.set id H5 _)) fun H6 loc6 f6 a6 l6 => ?_
    exact hQ H6 loc6 (((f4.trans f5).trans (Frame.of (KeepC.set id H5 _))).trans f6) a6 l6
  -- the expressions, and what is asked behind them
  have mid : ∀ (H4 : AH), KeepC id H H4 → At H4 id (.row (ckC vars (frontS vars kw (headS s d x) d x) loc)) → JoinP (S.check_checker_stmt_k2 (ACall C) (.ptr id 0) (.int .i64 d) (.fptr x.cells) Q) [] H4 := by
    intro H4 k4 a4
    have st2 := st1.trans (still_frontS vars kw (headS s d x) d x)
    simp only [JoinP_def, S.check_checker_stmt_k2, st_addr, st_l7, Do_of]
    refine exprs_spec hGT hT hel (fun e he => hexpr e (hee e he)) a4 ((hloc.keep k4).still st2) (by rw [st2.1]; exact hb) fun H5 k5 a5 => ?_
    have st3 := st2.trans (still_exsM vars x.exprs (frontS vars kw (headS s d x) d x) d)
    have kk5 := k4.trans k5
    have hbody : bodyS vars kw s d x = rearS (exsM vars (frontS vars kw (headS s d x) d x) d x.exprs) x := rfl
    rw [hbody] at tail
    generalize exsM vars (frontS vars kw (headS s d x) d x) d x.exprs = s4 at *
    simp only [st_l0, Do_of, abin_eql, Gd_true]
    refine ite_both (fun h => ?_) (fun h => ?_)
    · have hk1 : x.kind = 1 := by simpa using h
      have er : rearS s4 x = s4.letIn x.name := by unfold rearS; rw [if_pos hk1]
      rw [er] at tail
      simp only [anilck, afaddr, Do_of, Nat.zero_add]
      rw [a5.load, show takeCells (ckC vars s4 loc) 1 1 false = some loc from rfl]
      simp only [Do_of, st_addr, st_l2]
      rw [show abslice H5 false 1 1 [.str []] [(0, 1, .str x.name)] = some (.lst .full 1 [.str x.name], H5) from rfl]
      simp only [DoH_some]
      refine loc_append a5 ((hloc.keep kk5).still st3) (by rw [st3.1]; exact hb) fun loc6 H6 f6 a6 l6 => ?_
      have kn : loc6.known = true ∧ loc6.cells = [loc6] ∧ loc6.scalar = true := by
        rcases l6 with ⟨rfl, _⟩ | ⟨j, cs, rfl, _⟩
        · exact ⟨rfl, rfl, rfl⟩
        · exact ⟨rfl, rfl, rfl⟩
      rw [a6.store, if_pos ⟨kn.1, by rw [kn.2.1]; rfl, by rw [kn.2.1]; simp [kn.2.2], by simp [ckC]⟩, kn.2.1]
      simp only [Do_of]
      have e7 : setCells (ckC vars s4 loc) 1 [loc6] = ckC vars s4 loc6 := rfl
      rw [e7]
      have a7 : At (H6.set id (.row (ckC vars s4 loc6))) id (.row (ckC vars s4 loc6)) := a6.set _
      have k7 : KeepC id H6 (H6.set id (.row (ckC vars s4 loc6))) := KeepC.set id H6 _
      generalize H6.set id (.row (ckC vars s4 loc6)) = H7 at *
      rw [a7.load, show takeCells (ckC vars s4 loc6) 2 1 false = some (.int .i64 s4.lets) from rfl]
      simp only [Do_of, abin_add]
      rw [a7.store, if_pos ⟨rfl, rfl, rfl, by simp [ckC]⟩]
      simp only [Do_of]
      have k8 := k7.trans (KeepC.set id H7 (.row (setCells (ckC vars s4 loc6) 2 (AV.int .i64 (IntKind.wrap .i64 (s4.lets + 1))).cells)))
      exact tail loc6 _ (((Frame.of kk5).trans f6).trans (Frame.of k8)) (a7.set _) (l6.keep k8)
    · have hk1 : x.kind ≠ 1 := by simpa using h
      refine ite_both (fun h5 => ?_) (fun h5 => ?_)
      · have hk5 : x.kind = 5 := by simpa using h5
        have er : rearS s4 x = ((s4.need (s4.has x.name) 6).need ((s4.need (s4.has x.name) 6).has x.name2) 6).need (!(x.name == x.name2)) 7 := by
          unfold rearS
          rw [if_neg hk1, if_pos hk5]
          have : (s4.need (s4.has x.name) 6).has x.name2 = s4.has x.name2 := by unfold CSt.has; rw [(still_need s4 _ _).1]
          rw [this]
        rw [er] at tail
        simp only [st_l2, st_l3, Do_of]
        refine ck_there hT a5 ((hloc.keep kk5).still st3) (by rw [st3.1]; exact hb) ?_
        refine ck_need hT a5 fun H6 k6 a6 => ?_
        have st4 := st3.trans (still_need s4 (s4.has x.name) 6)
        refine ck_there hT a6 ((hloc.keep (kk5.trans k6)).still st4) (by rw [st4.1]; exact hb) ?_
        refine ck_need hT a6 fun H7 k7 a7 => ?_
        simp only [abin_strne, Do_of]
        refine ck_need hT a7 fun H8 k8 a8 => ?_
        have k9 := kk5.trans (k6.trans (k7.trans k8))
        refine tail loc H8 (Frame.of k9) a8 ((hloc.keep k9).still (st4.trans ((still_need _ _ _).trans (still_need _ _ _))))
      · have hk5 : x.kind ≠ 5 := by simpa using h5
        have er : rearS s4 x = s4 := by unfold rearS; rw [if_neg hk1, if_neg hk5]
        rw [er] at tail
        exact tail loc H5 (Frame.of kk5) a5 ((hloc.keep kk5).still st3)
  have hfr : frontS vars kw (headS s d x) d x = frontS vars kw (headS s d x) d x := rfl
  conv at hfr => rhs; unfold frontS
  rw [hfr] at mid
  clear hfr
  generalize headS s d x = s1 at *
  simp only [st_l0, Do_of, abin_eql, Gd_true]
  refine ite_both (fun h => ?_) (fun h => ?_)
  · rw [if_pos (by simpa using h)] at mid
    -- let
    have k3' : ∀ (b : Bool) (H4 : AH), b = (nameOk x.name && !kw x.name) → KeepC id H H4 → At H4 id (.row (ckC vars (s1.need b 6) loc)) → JoinP (S.check_checker_stmt_k3 (ACall C) (.ptr id 0) (.int .i64 d) (.fptr x.cells) Q) [] H4 := by
      intro b H4 hb4 k4 a4
      rw [← hb4] at mid
      have st2 := st1.trans (still_need s1 b 6)
      have ehas : (s1.need b 6).has x.name = s1.has x.name := by unfold CSt.has; rw [(still_need s1 b 6).1]
      have elets : ((s1.need b 6).need (!s1.has x.name) 7).lets = s1.lets := ((still_need s1 b 6).trans (still_need _ _ _)).2
      simp only [JoinP_def, S.check_checker_stmt_k3, st_addr, st_l2, Do_of]
      refine ck_there hT a4 ((hloc.keep k4).still st2) (by rw [st2.1]; exact hb) ?_
      rw [ehas]
      simp only [aun_not, Do_of]
      refine ck_need hT a4 fun H5 k5 a5 => ?_
      simp only [anilck, afaddr, Do_of, Nat.zero_add]
      rw [a5.load, show takeCells (ckC vars ((s1.need b 6).need (!s1.has x.name) 7) loc) 2 1 false = some (.int .i64 ((s1.need b 6).need (!s1.has x.name) 7).lets) from rfl, elets]
      simp only [Do_of, abin_lss]
      refine ck_need hT a5 fun H6 k6 a6 => ?_
      exact mid H6 (k4.trans (k5.trans k6)) a6
    simp only [st_l2, Do_of]
    refine kindName_val hGT hT x.name _ _ ?_
    simp only [Gd3_true]
    refine ite_bool (fun hn => ?_) (fun hn => ?_)
    · refine hkw x.name _ _ ?_
      simp only [aun_not, Do_of]
      refine ck_need hT a3 fun H4 k4 a4 => ?_
      exact k3' _ H4 (by rw [hn]; rfl) (kk.trans k4) a4
    · refine ck_need hT a3 fun H4 k4 a4 => ?_
      exact k3' _ H4 (by rw [hn]; rfl) (kk.trans k4) a4
  · rw [if_neg (by simpa using h)] at mid
    refine ite_both (fun h2 => ?_) (fun h2 => ?_)
    · rw [if_pos (by simpa using h2)] at mid
      simp only [st_l2, Do_of]
      refine ck_there hT a3 ((hloc.keep kk).still st1) (by rw [st1.1]; exact hb) ?_
      refine ck_need hT a3 fun H4 k4 a4 => ?_
      exact mid H4 (kk.trans k4) a4
    · rw [if_neg (by simpa using h2)] at mid
      have k4' : ∀ b : Bool, (b = true ↔ (x.kind = 3 ∨ x.kind = 4 ∨ x.kind = 5 ∨ x.kind = 6)) → JoinP (S.check_checker_stmt_k4 (ACall C) (.ptr id 0) (.int .i64 d) (.fptr x.cells) Q) [.bool b] H3 := by
        intro b hb4
        simp only [JoinP_def, S.check_checker_stmt_k4, sl_zero, Gd_true, st_addr, st_l0, st_l5, Do_of]
        refine ite_both (fun h => ?_) (fun h => ?_)
        · rw [if_pos (hb4.1 h)] at mid
          refine ckplace_spec hGT hT hlv hv hpl (fun p hp i hi => hexpr i ((hpp.2 p hp).2 i hi)) a3 ((hloc.keep kk).still st1) (by rw [st1.1]; exact hb) fun H' k' a' => ?_
          exact mid H' (kk.trans k') a'
        · rw [if_neg fun y => h (hb4.2 y)] at mid
          exact mid H3 kk a3
      refine ite_both (fun h3 => ?_) (fun h3 => ?_)
      · refine k4' _ ?_
        simp only [beq_iff_eq] at h3
        simp [h3]
      · refine ite_both (fun h4 => ?_) (fun h4 => ?_)
        · refine k4' _ ?_
          simp only [beq_iff_eq] at h4
          simp [h4]
        · refine ite_both (fun h5 => ?_) (fun h5 => ?_)
          · refine k4' _ ?_
            simp only [beq_iff_eq] at h5
            simp [h5]
          · refine k4' _ ?_
            simp only [beq_iff_eq] at h3 h4 h5
            simp [h3, h4, h5]
end
end Rb

/- Package layout: how great sizes are. Law 11, CheckNames, of the models. -/
set_option linter.unusedVariables false
set_option linter.unusedSimpArgs false
namespace Rb
open Go

theorem upW_bnd {n step : Int} (h1 : 0 ≤ n) (h2 : n ≤ 1000000000) (h3 : 1 ≤ step) (h4 : step ≤ 1000000) : n ≤ upW n step ∧ upW n step ≤ n + step - 1 := by
  rw [upW_eq h1 h2 h3 h4]
  have h5 := Int.mul_ediv_add_emod (n + step - 1) step
  have h6 := Int.emod_lt_of_pos (n + step - 1) (show 0 < step by omega)
  have h7 := Int.emod_nonneg (n + step - 1) (show step ≠ 0 by omega)
  rw [Int.mul_comm] at h5
  omega

def PInv (k : Int) (p : PL) : Prop := 0 ≤ p.bit ∧ p.bit ≤ k * 1000000 ∧ 0 ≤ p.size ∧ p.size ≤ k * 1000000 ∧ 1 ≤ p.align ∧ p.align ≤ 16

theorem tdiv8 {n : Int} (h1 : 0 ≤ n) (h2 : n ≤ 1000000000) : w64 (n.tdiv 8) = n / 8 := by
  rw [Int.tdiv_eq_ediv_of_nonneg h1]
  exact wrap_i64 (by omega) (by omega)

theorem sizeM_inv {k : Int} {p : PL} (h1 : 0 ≤ p.bit) (h2 : p.bit ≤ (k + 1) * 1000000) (h3 : 0 ≤ p.size) (h4 : p.size ≤ k * 1000000) (h5 : 1 ≤ p.align) (h6 : p.align ≤ 16) (hk : 0 ≤ k) (hk2 : k ≤ 40) : PInv (k + 1) (sizeM p) := by
  obtain ⟨a, b⟩ := upW_bnd (n := p.bit) (step := 8) h1 (by omega) (by omega) (by omega)
  have e : w64 ((upW p.bit 8).tdiv 8) = upW p.bit 8 / 8 := tdiv8 (by omega) (by omega)
  refine ⟨h1, h2, ?_, ?_, h5, h6⟩
  · show 0 ≤ max p.size _
    omega
  · show max p.size (w64 ((upW p.bit 8).tdiv 8)) ≤ _
    rw [e]
    omega

theorem fieldM_inv {k : Int} {packed : Bool} {kind : Int} {seen : List (List UInt8)} {p : PL} {f : GField} {g : Int × Int} (hp : PInv k p) (hk : 0 ≤ k) (hk2 : k ≤ 40) (hs : sndF packed seen f = 0) (h1 : 0 ≤ g.1) (h2 : g.1 ≤ 65536) (h3 : 1 ≤ g.2) (h4 : g.2 ≤ 16) : PInv (k + 1) (fieldM packed kind p f g) := by
  obtain ⟨b1, b2, s1, s2, a1, a2⟩ := hp
  have hb : f.bits = true → (f.type.size = 1 ∨ f.type.size = 2 ∨ f.type.size = 4 ∨ f.type.size = 8) ∧ 0 ≤ f.width ∧ f.width ≤ 64 := by
    intro hbits
    rw [sndF_eq] at hs
    split at hs
    · cases hs
    split at hs
    · cases hs
    split at hs
    · rename_i hz; exact absurd hs hz
    rename_i hz
    split at hs
    · cases hs
    rename_i hn
    split at hs
    · cases hs
    rename_i hw
    have hk1 : f.type.kind = 1 := by
      by_cases hk : f.type.kind = 1
      · exact hk
      · exact absurd (.inr ⟨hbits, .inl hk⟩) hn
    have h0 : sndT f.type = 0 := by simpa using hz
    have hsz : f.type.size = 1 ∨ f.type.size = 2 ∨ f.type.size = 4 ∨ f.type.size = 8 := by
      rw [sndT_eq, hk1] at h0
      split at h0
      · cases h0
      · simp only [if_true] at h0
        split at h0
        · rename_i hp
          simp [pow2] at hp
          omega
        · cases h0
    have hw' : ¬ f.width < 0 ∧ ¬ 8 * f.type.size < f.width := ⟨fun h => hw ⟨hbits, .inl h⟩, fun h => hw ⟨hbits, .inr (.inl h)⟩⟩
    exact ⟨hsz, by omega, by omega⟩
  have hwide : 1 ≤ wideM packed f g.2 ∧ wideM packed f g.2 ≤ 16 := by
    unfold wideM
    split
    · omega
    · split
      · rename_i hbits
        have := hb hbits
        omega
      · omega
  unfold fieldM
  simp only
  generalize hp1 : ({ p with align := max p.align (wideM packed f g.2), bit := if kind = 4 then 0 else p.bit } : PL) = p1
  have c1 : 0 ≤ p1.bit := by rw [← hp1]; show 0 ≤ (if kind = 4 then 0 else p.bit); split <;> omega
  have c2 : p1.bit ≤ k * 1000000 := by rw [← hp1]; show (if kind = 4 then 0 else p.bit) ≤ _; split <;> omega
  have c3 : p1.size = p.size := by rw [← hp1]
  have c4 : 1 ≤ p1.align ∧ p1.align ≤ 16 := by rw [← hp1]; show 1 ≤ max p.align _ ∧ max p.align _ ≤ 16; omega
  by_cases hbits : f.bits = true
  · rw [if_pos hbits]
    obtain ⟨hsz, w1, w2⟩ := hb hbits
    have e8 : w64 (8 * f.type.size) = 8 * f.type.size := wrap_i64 (by omega) (by omega)
    obtain ⟨u1, u2⟩ := upW_bnd (n := p1.bit) (step := 8 * f.type.size) c1 (by omega) (by omega) (by omega)
    unfold bitsM
    split
    · refine sizeM_inv ?_ ?_ ?_ ?_ ?_ ?_ hk hk2
      · show 0 ≤ upW p1.bit (w64 (8 * f.type.size)); rw [e8]; omega
      · show upW p1.bit (w64 (8 * f.type.size)) ≤ _; rw [e8]; omega
      · show 0 ≤ p1.size; omega
      · show p1.size ≤ _; omega
      · exact c4.1
      · exact c4.2
    · have o1 : p1.bit ≤ bitOf p1 f ∧ bitOf p1 f ≤ p1.bit + 63 := by
        unfold bitOf
        rw [e8]
        split <;> omega
      have e9 : w64 (bitOf p1 f + f.width) = bitOf p1 f + f.width := wrap_i64 (by omega) (by omega)
      refine sizeM_inv ?_ ?_ ?_ ?_ ?_ ?_ hk hk2
      · show 0 ≤ w64 (bitOf p1 f + f.width); rw [e9]; omega
      · show w64 (bitOf p1 f + f.width) ≤ _; rw [e9]; omega
      · show 0 ≤ p1.size; omega
      · show p1.size ≤ _; omega
      · exact c4.1
      · exact c4.2
  · rw [if_neg hbits]
    unfold plainM
    obtain ⟨u1, u2⟩ := upW_bnd (n := p1.bit) (step := 8) c1 (by omega) (by omega) (by omega)
    have e1 : w64 ((upW p1.bit 8).tdiv 8) = upW p1.bit 8 / 8 := tdiv8 (by omega) (by omega)
    obtain ⟨v1, v2⟩ := upW_bnd (n := upW p1.bit 8 / 8) (step := wideM packed f g.2) (by omega) (by omega) hwide.1 (by omega)
    have e2 : w64 (upW (upW p1.bit 8 / 8) (wideM packed f g.2) + g.1) = upW (upW p1.bit 8 / 8) (wideM packed f g.2) + g.1 := wrap_i64 (by omega) (by omega)
    have e3 : w64 (8 * (upW (upW p1.bit 8 / 8) (wideM packed f g.2) + g.1)) = 8 * (upW (upW p1.bit 8 / 8) (wideM packed f g.2) + g.1) := wrap_i64 (by omega) (by omega)
    rw [e1, e2, e3]
    refine sizeM_inv ?_ ?_ ?_ ?_ ?_ ?_ hk hk2
    · show 0 ≤ 8 * (upW (upW p1.bit 8 / 8) (wideM packed f g.2) + g.1); omega
    · show 8 * (upW (upW p1.bit 8 / 8) (wideM packed f g.2) + g.1) ≤ _; omega
    · show 0 ≤ p1.size; omega
    · show p1.size ≤ _; omega
    · exact c4.1
    · exact c4.2

theorem placeFs_inv {packed : Bool} {kind : Int} : ∀ {l : List GField} {seen : List (List UInt8)} {k : Int} {p q : PL}, PInv k p → 0 ≤ k → k + l.length ≤ 40 → sndFs packed seen l = 0 →
    (∀ f ∈ l, sndT f.type = 0 → (ofT f.type).2 = true → 0 ≤ (ofT f.type).1.1 ∧ (ofT f.type).1.1 ≤ 65536 ∧ 1 ≤ (ofT f.type).1.2 ∧ (ofT f.type).1.2 ≤ 16) → placeFs packed kind p l = some q → PInv 40 q
  | [], seen, k, p, q, hp, hk, hk2, _, _, h => by
    simp only [placeFs, Option.some.injEq] at h
    subst h
    obtain ⟨b1, b2, s1, s2, a1, a2⟩ := hp
    simp at hk2
    exact ⟨b1, by omega, s1, by omega, a1, a2⟩
  | f :: r, seen, k, p, q, hp, hk, hk2, hs, hf, h => by
    simp only [placeFs] at h
    split at h
    · rename_i hok
      rw [ofF_eq] at hok h
      have hs' : sndF packed seen f = 0 ∧ sndFs packed (seen ++ [f.name]) r = 0 := by
        simp only [sndFs] at hs
        by_cases hz : sndF packed seen f = 0
        · rw [if_neg (by simpa using hz)] at hs; exact ⟨hz, hs⟩
        · rw [if_pos hz] at hs; exact absurd hs hz
      have hst : sndT f.type = 0 := sndFs_mem hs f (by simp)
      obtain ⟨g1, g2, g3, g4⟩ := hf f (by simp) hst hok
      simp only [List.length_cons] at hk2
      exact placeFs_inv (k := k + 1) (fieldM_inv hp hk (by omega) hs'.1 g1 g2 g3 g4) (by omega) (by omega) hs'.2 (fun f' hf' => hf f' (by simp [hf'])) h
    · cases h

theorem ofT_bnd : ∀ t : GType, sndT t = 0 → (ofT t).2 = true → 0 ≤ (ofT t).1.1 ∧ (ofT t).1.1 ≤ 65536 ∧ 1 ≤ (ofT t).1.2 ∧ (ofT t).1.2 ≤ 16 := by
  refine GType.ind fun t ihf ihe hs h => ?_
  rw [ofT_eq] at h ⊢
  split at h
  · rename_i h12
    rw [if_pos h12]
    rw [sndT_eq] at hs
    split at hs
    · cases hs
    · have hp : pow2 t.size 8 = true ∨ pow2 t.size 16 = true := by
        rcases h12 with h1 | h1
        · rw [if_pos h1] at hs
          split at hs
          · exact .inl ‹_›
          · cases hs
        · rw [if_neg (by omega), if_pos h1] at hs
          split at hs
          · exact .inr ‹_›
          · cases hs
      show 0 ≤ t.size ∧ t.size ≤ 65536 ∧ 1 ≤ t.size ∧ t.size ≤ 16
      rcases hp with hp | hp <;> (simp [pow2] at hp; omega)
  · rename_i h12
    rw [if_neg h12]
    split at h
    · rename_i h5
      rw [if_pos h5]
      obtain ⟨e, he, hse⟩ := snd_arr hs h5
      have hc : 1 ≤ t.count ∧ t.count ≤ 65536 := by
        rw [sndT_eq, h5] at hs
        split at hs
        · cases hs
        · simp at hs
          split at hs
          · cases hs
          · omega
      rw [he] at h ⊢
      simp only [ofE, Bool.and_eq_true] at h ⊢
      obtain ⟨h, hle⟩ := h
      have hle := of_decide_eq_true hle
      obtain ⟨g1, g2, g3, g4⟩ := ihe e (by rw [he]; simp) hse h
      have hm : 0 ≤ (ofT e).1.1 * t.count := Int.mul_nonneg g1 (by omega)
      have hm2 : (ofT e).1.1 * t.count ≤ 65536 * 65536 := Int.mul_le_mul g2 hc.2 (by omega) (by omega)
      have e1 : w64 ((ofT e).1.1 * t.count) = (ofT e).1.1 * t.count := wrap_i64 (by omega) (by omega)
      rw [e1] at hle ⊢
      exact ⟨hm, hle, g3, g4⟩
    · rename_i h5
      rw [if_neg h5]
      cases hp : placeFs t.packed t.kind ⟨0, 1, [], 0⟩ t.fields with
      | none => rw [hp] at h; cases h
      | some p =>
        rw [hp] at h
        simp only [decide_eq_true_eq] at h ⊢
        have hg : t.kind = 3 ∨ t.kind = 4 := by
          rcases snd_kind hs with h | h | h | h | h <;> omega
        have hfs : sndFs t.packed [] t.fields = 0 := by
          rw [sndT_eq] at hs
          split at hs
          · cases hs
          · rw [if_neg (by omega), if_neg (by omega), if_neg (by omega)] at hs
            first
              | exact hs
              | (split at hs
                 · cases hs
                 · exact hs)
        obtain ⟨b1, b2, s1, s2, a1, a2⟩ := placeFs_inv (k := 0) (p := ⟨0, 1, [], 0⟩) ⟨by decide, by decide, by decide, by decide, by decide, by decide⟩ (by omega) (by have := (snd_grp hs hg).2; omega) hfs (fun f hf => ihf f hf) hp
        obtain ⟨u1, u2⟩ := upW_bnd (n := p.size) (step := p.align) s1 (by omega) a1 (by omega)
        exact ⟨by omega, h, a1, a2⟩

theorem layM_bnd {t : GType} (h : (layM t).2 = 0) : 0 ≤ (layM t).1.1 ∧ (layM t).1.1 ≤ 65536 ∧ 1 ≤ (layM t).1.2 ∧ (layM t).1.2 ≤ 16 := by
  unfold layM at h ⊢
  split at h
  · rename_i hs; exact absurd h hs
  · rename_i hs
    split at h
    · cases h
    · rename_i ht
      split at h
      · cases h
      · rename_i ho
        rw [if_neg hs, if_neg ht, if_neg ho]
        exact ofT_bnd t (soundM_snd (by simpa using hs)) (by simpa using ho)

/-! One variable more -/
def z5 : List UInt8 := [122, 122, 122, 122, 122]
def zVar : GVar := ⟨z5, ⟨1, 1, false, [], 0, []⟩⟩
theorem zVar_lay : layM zVar.type = ((1, 1), 0) := by rfl
theorem z5_ok : nameOk z5 = true := by rfl

theorem placeM_more (vars : List GVar) (z : GVar) (x : GPlace) : placeM (vars ++ [z]) x = placeM vars x ∨ (placeM vars x).1 = 6 := by
  unfold placeM
  rw [List.find?_append]
  cases h : vars.find? (fun v => v.name == x.var) with
  | none => right; rfl
  | some v => left; rfl

/-- As before, or a name is wrong. -/
def Sim (a b : CSt) : Prop := a = b ∨ a.fkind = 6
theorem Sim.refl (a : CSt) : Sim a a := .inl rfl
theorem Sim.bad {a b : CSt} (h : a.fkind = 6) : Sim a b := .inr h
theorem ne6 {s : CSt} (h : s.fkind = 6) : s.fkind ≠ 0 := by rw [h]; decide

section
variable (vars : List GVar) (z : GVar)
theorem placeS_more {s : CSt} (h0 : s.fkind = 0) (k : Int) (x : GPlace) : Sim (placeS vars s k x) (placeS (vars ++ [z]) s k x) := by
  unfold placeS
  rcases placeM_more vars z x with h | h
  · rw [h]; exact Sim.refl _
  · refine Sim.bad ?_
    have e : s.need ((placeM vars x).1 == 0) (placeM vars x).1 = { s with fline := s.line, fkind := 6 } := by
      rw [h]; unfold CSt.need; rw [if_pos ⟨rfl, h0⟩]
    simp only [e]
    rw [need_bad (show ({ s with fline := s.line, fkind := 6 } : CSt).fkind ≠ 0 from (by decide : (6 : Int) ≠ 0))]
mutual
theorem exM_more : ∀ (e : GExpr) (s : CSt) (d : Int), Sim (exM vars s d e) (exM (vars ++ [z]) s d e)
  | .mk kind n name op order place kids, s, d => by
    rw [exM, exM]
    generalize headE s d (.mk kind n name op order place kids) = s1
    split
    · exact Sim.refl _
    · generalize (if kind = 2 then s1.need (s1.has name) 6 else s1) = s2
      split
      · rcases plM_more place s2 (w64 (10 + kind)) d with h | h
        · rw [h]; exact exsM_more kids _ d
        · refine Sim.bad ?_
          rw [exsM_bad vars (ne6 h)]; exact h
      · exact exsM_more kids s2 d
theorem exsM_more : ∀ (l : List GExpr) (s : CSt) (d : Int), Sim (exsM vars s d l) (exsM (vars ++ [z]) s d l)
  | [], s, d => by rw [exsM, exsM]; exact Sim.refl _
  | e :: r, s, d => by
    rw [exsM, exsM]
    by_cases h0 : s.fkind = 0
    · rw [if_neg (by simpa using h0), if_neg (by simpa using h0)]
      rcases exM_more e s (w64 (d + 1)) with h | h
      · rw [h]; exact exsM_more r _ d
      · refine Sim.bad ?_
        rw [exsM_bad vars (ne6 h)]; exact h
    · rw [if_pos h0, if_pos h0]; exact exsM_more r _ d
theorem plM_more : ∀ (x : GPlace) (s : CSt) (k d : Int), Sim (plM vars s k d x) (plM (vars ++ [z]) s k d x)
  | .mk var parts, s, k, d => by
    rw [plM, plM]
    by_cases h0 : s.fkind = 0
    · rw [if_neg (by simpa using h0), if_neg (by simpa using h0)]
      rcases placeS_more vars z h0 k (.mk var parts) with h | h
      · rw [h]; exact ptsM_more parts _ d
      · refine Sim.bad ?_
        rw [ptsM_bad vars (ne6 h)]; exact h
    · rw [if_pos h0, if_pos h0]; exact Sim.refl _
theorem ptsM_more : ∀ (l : List GPart) (s : CSt) (d : Int), Sim (ptsM vars s d l) (ptsM (vars ++ [z]) s d l)
  | [], s, d => by rw [ptsM, ptsM]; exact Sim.refl _
  | p :: r, s, d => by
    rw [ptsM, ptsM]
    rcases ptM_more p s d with h | h
    · rw [h]; exact ptsM_more r _ d
    · refine Sim.bad ?_
      rw [ptsM_bad vars (ne6 h)]; exact h
theorem ptM_more : ∀ (p : GPart) (s : CSt) (d : Int), Sim (ptM vars s d p) (ptM (vars ++ [z]) s d p)
  | .mk field index, s, d => by rw [ptM, ptM]; exact idxM_more index s d
theorem idxM_more : ∀ (l : List GExpr) (s : CSt) (d : Int), Sim (idxM vars s d l) (idxM (vars ++ [z]) s d l)
  | [], s, d => by rw [idxM, idxM]; exact Sim.refl _
  | e :: r, s, d => by
    rw [idxM, idxM]
    rcases exM_more e s (w64 (d + 1)) with h | h
    · rw [h]; exact idxM_more r _ d
    · refine Sim.bad ?_
      rw [idxM_bad vars (ne6 h)]; exact h
end
variable (kw : List UInt8 → Bool)
theorem bodyS_more (s : CSt) (d : Int) (x : GStmt) : Sim (bodyS vars kw s d x) (bodyS (vars ++ [z]) kw s d x) := by
  unfold bodyS
  generalize headS s d x = s1
  have h1 : Sim (frontS vars kw s1 d x) (frontS (vars ++ [z]) kw s1 d x) := by
    unfold frontS
    split
    · exact Sim.refl _
    · split
      · exact Sim.refl _
      · split
        · exact plM_more vars z x.place s1 x.kind d
        · exact Sim.refl _
  have h2 : Sim (exsM vars (frontS vars kw s1 d x) d x.exprs) (exsM (vars ++ [z]) (frontS (vars ++ [z]) kw s1 d x) d x.exprs) := by
    rcases h1 with h | h
    · rw [h]; exact exsM_more vars z x.exprs _ d
    · refine Sim.bad ?_
      rw [exsM_bad vars (ne6 h)]; exact h
  rcases h2 with h | h
  · rw [h]; exact Sim.refl _
  · refine Sim.bad ?_
    rw [rearS_bad (ne6 h)]; exact h
mutual
theorem stM_more : ∀ (x : GStmt) (s : CSt) (d : Int), Sim (stM vars kw s d x) (stM (vars ++ [z]) kw s d x)
  | .mk kind line name name2 order place exprs thn els, s, d => by
    rw [stM, stM]
    have h1 := bodyS_more vars z kw s d (.mk kind line name name2 order place exprs thn els)
    generalize bodyS vars kw s d (.mk kind line name name2 order place exprs thn els) = s1 at *
    generalize bodyS (vars ++ [z]) kw s d (.mk kind line name name2 order place exprs thn els) = s2 at *
    have h2 : Sim (blM vars kw s1 s1.locals.length (w64 (d + 1)) thn) (blM (vars ++ [z]) kw s2 s2.locals.length (w64 (d + 1)) thn) := by
      rcases h1 with h | h
      · rw [h]; exact blM_more thn s2 _ _
      · refine Sim.bad ?_
        rw [blM_bad vars kw (ne6 h)]; exact h
    generalize blM vars kw s1 s1.locals.length (w64 (d + 1)) thn = s3 at *
    generalize blM (vars ++ [z]) kw s2 s2.locals.length (w64 (d + 1)) thn = s4 at *
    rcases h2 with h | h
    · rw [h]; exact blM_more els _ _ _
    · refine Sim.bad ?_
      rw [blM_bad vars kw (s := s3.at line) (ne6 h)]; exact h
theorem blM_more : ∀ (l : List GStmt) (s : CSt) (n : Nat) (d : Int), Sim (blM vars kw s n d l) (blM (vars ++ [z]) kw s n d l)
  | [], s, n, d => by rw [blM, blM]; exact Sim.refl _
  | x :: r, s, n, d => by
    rw [blM, blM]
    by_cases h0 : s.fkind = 0
    · rw [if_neg (by simpa using h0), if_neg (by simpa using h0)]
      rcases stM_more x (s.at x.line) d with h | h
      · rw [h]; exact blM_more r _ n d
      · refine Sim.bad ?_
        rw [blM_bad vars kw (ne6 h)]; exact h
    · rw [if_pos h0, if_pos h0]; exact blM_more r _ n d
end
theorem thrsM_more : ∀ l : List (List GStmt), thrsM kw vars l = thrsM kw (vars ++ [z]) l ∨ ((thrsM kw vars l).2 = 6 ∧ ∃ t ∈ l, t ≠ [])
  | [] => .inl rfl
  | t :: r => by
    rw [thrsM, thrsM]
    have h : Sim (blockM vars kw s0 1 t) (blockM (vars ++ [z]) kw s0 1 t) := blM_more vars z kw t s0 _ 1
    rcases h with h | h
    · rw [h]
      split
      · exact .inl rfl
      · rcases thrsM_more r with h1 | ⟨h1, t', ht', hn⟩
        · exact .inl h1
        · exact .inr ⟨h1, t', by simp [ht'], hn⟩
    · right
      rw [if_pos (ne6 h)]
      refine ⟨h, t, by simp, fun e => ?_⟩
      subst e
      have : (blockM vars kw s0 1 []).fkind = 0 := by unfold blockM; rw [blM]; rfl
      rw [this] at h; cases h
end

theorem varsL_more (kw : List UInt8 → Bool) (hz : kw z5 = false) : ∀ (l : List GVar) (seen : List (List UInt8)) (at_ : Int) (k : Int), (∀ v ∈ l, v.name ≠ z5) → seen.contains z5 = false → 0 ≤ at_ → at_ ≤ k * 100000 → 0 ≤ k → k + l.length ≤ 40 →
    varsL kw seen at_ (l ++ [zVar]) = varsL kw seen at_ l ∨ varsL kw seen at_ (l ++ [zVar]) = 9
  | [], seen, a, k, _, hs, h1, h2, h3, h4 => by
    simp only [List.length_nil] at h4
    have e0 : varsL kw seen a [zVar] = (if w64 (upW a 1 + 1) > 65536 then 9 else 0) := by
      rw [varsL, if_neg (by rw [show zVar.name = z5 from rfl, z5_ok, hz]; simp), if_neg (by rw [show zVar.name = z5 from rfl, hs]; simp), zVar_lay, if_neg (by simp), varsL]
    obtain ⟨u1, u2⟩ := upW_bnd (n := a) (step := 1) h1 (by omega) (by omega) (by omega)
    have e1 : w64 (upW a 1 + 1) = a + 1 := by rw [show upW a 1 = a by omega]; exact wrap_i64 (by omega) (by omega)
    rw [List.nil_append, e0, e1, varsL]
    by_cases h : a + 1 > 65536
    · right; rw [if_pos h]
    · left; rw [if_neg h, if_neg (by omega)]
  | v :: r, seen, a, k, hv, hs, h1, h2, h3, h4 => by
    simp only [List.length_cons] at h4
    rw [List.cons_append, varsL, varsL]
    split
    · exact .inl rfl
    · split
      · exact .inl rfl
      · split
        · exact .inl rfl
        · rename_i hl
          obtain ⟨g1, g2, g3, g4⟩ := layM_bnd (t := v.type) (by simpa using hl)
          obtain ⟨u1, u2⟩ := upW_bnd (n := a) (step := (layM v.type).1.2) h1 (by omega) g3 (by omega)
          have e1 : w64 (upW a (layM v.type).1.2 + (layM v.type).1.1) = upW a (layM v.type).1.2 + (layM v.type).1.1 := wrap_i64 (by omega) (by omega)
          rw [e1]
          refine varsL_more kw hz r _ _ (k + 1) (fun x hx => hv x (by simp [hx])) ?_ (by omega) (by omega) (by omega) (by omega)
          rw [Bool.eq_false_iff, ne_eq, List.contains_iff_mem, List.mem_append, not_or, List.mem_singleton]
          refine ⟨?_, fun e => hv v (by simp) e.symm⟩
          rw [← List.contains_iff_mem, hs]; simp

theorem names_law (kw : List UInt8 → Bool) (hz : kw z5 = false) (p : GProg) (hv : ∀ v ∈ p.vars, v.name ≠ z5) :
    ((progM kw ⟨p.vars ++ [zVar], p.threads⟩).2 = 12 ∧ 32 < p.vars.length + 1) ∨ ((progM kw ⟨p.vars ++ [zVar], p.threads⟩).2 = 9 ∧ (progM kw ⟨p.vars ++ [zVar], p.threads⟩).1 = 0)
    ∨ progM kw p = progM kw ⟨p.vars ++ [zVar], p.threads⟩ ∨ ((progM kw p).2 = 6 ∧ ∃ t ∈ p.threads, t ≠ []) := by
  unfold progM
  simp only [List.length_append, List.length_singleton]
  by_cases h1 : 32 < p.vars.length + 1
  · left; rw [if_pos (by omega)]; exact ⟨rfl, h1⟩
  by_cases h2 : p.threads.length < 1 ∨ 8 < p.threads.length
  · right; right; left; rw [if_pos (by omega), if_pos (by omega)]
  have c1 : ¬ (32 < p.vars.length + 1 ∨ p.threads.length < 1 ∨ 8 < p.threads.length) := by omega
  have c2 : ¬ (32 < p.vars.length ∨ p.threads.length < 1 ∨ 8 < p.threads.length) := by omega
  rw [if_neg c1, if_neg c2]
  have e1 : varsM kw p.vars = varsL kw [] 0 p.vars := by unfold varsM; rw [if_neg (by omega)]
  have e2 : varsM kw (p.vars ++ [zVar]) = varsL kw [] 0 (p.vars ++ [zVar]) := by unfold varsM; rw [if_neg (by simp; omega)]
  rw [e1, e2]
  rcases varsL_more kw hz p.vars [] 0 0 hv rfl (by omega) (by omega) (by omega) (by omega) with h | h
  · rw [h]
    split
    · right; right; left; rfl
    · rcases thrsM_more p.vars zVar kw p.threads with h | h
      · right; right; left; exact h
      · right; right; right; exact h
  · right; left
    rw [h, if_pos (by decide)]
    exact ⟨rfl, rfl⟩
end Rb

/- Package check: variables, programs. -/
set_option linter.unusedVariables false
set_option linter.unusedSimpArgs false
set_option linter.unusedSectionVars false
namespace Rb
open Go

/-! Typed values, told weakly, are as they were -/
theorem weaks_app (a b : List AV) : AV.weaks (a ++ b) = AV.weaks a ++ AV.weaks b := by rw [weaks_map, weaks_map, weaks_map, List.map_append]
mutual
theorem GType.weakC : ∀ x : GType, AV.weaks x.cells = x.cells
  | .mk kind size packed fields count elem => by simp only [GType.cells, AV.weaks, AV.weak, GField.allWeak fields, GType.allWeak elem]
theorem GType.allWeak : ∀ xs : List GType, AV.weaks (GType.all xs) = GType.all xs
  | [] => rfl
  | x :: r => by rw [GType.all, weaks_app, GType.weakC x, GType.allWeak r]
theorem GField.weakC : ∀ x : GField, AV.weaks x.cells = x.cells
  | .mk name type bits width => by simp only [GField.cells, AV.weaks, AV.weak, weaks_app, GType.weakC type]
theorem GField.allWeak : ∀ xs : List GField, AV.weaks (GField.all xs) = GField.all xs
  | [] => rfl
  | x :: r => by rw [GField.all, weaks_app, GField.weakC x, GField.allWeak r]
end
mutual
theorem GExpr.weakC : ∀ x : GExpr, AV.weaks x.cells = x.cells
  | .mk kind n name op order place kids => by simp only [GExpr.cells, AV.weaks, AV.weak, weaks_app, GPlace.weakC place, GExpr.allWeak kids]
theorem GExpr.allWeak : ∀ xs : List GExpr, AV.weaks (GExpr.all xs) = GExpr.all xs
  | [] => rfl
  | x :: r => by rw [GExpr.all, weaks_app, GExpr.weakC x, GExpr.allWeak r]
theorem GPlace.weakC : ∀ x : GPlace, AV.weaks x.cells = x.cells
  | .mk var parts => by simp only [GPlace.cells, AV.weaks, AV.weak, GPart.allWeak parts]
theorem GPart.weakC : ∀ x : GPart, AV.weaks x.cells = x.cells
  | .mk field index => by simp only [GPart.cells, AV.weaks, AV.weak, GExpr.allWeak index]
theorem GPart.allWeak : ∀ xs : List GPart, AV.weaks (GPart.all xs) = GPart.all xs
  | [] => rfl
  | x :: r => by rw [GPart.all, weaks_app, GPart.weakC x, GPart.allWeak r]
end
theorem lstA_weak {α : Type} {cells : α → List AV} (h : ∀ x, AV.weaks (cells x) = cells x) (xs : List α) : (lstA cells xs).weak = lstA cells xs := by
  have : AV.weaks (xs.flatMap cells) = xs.flatMap cells := by
    induction xs with
    | nil => rfl
    | cons x xs ih => rw [List.flatMap_cons, weaks_app, h, ih]
  simp only [lstA, AV.weak, this]
theorem GVar.weakC (x : GVar) : AV.weaks x.cells = x.cells := by simp only [GVar.cells, AV.weaks, AV.weak, GType.weakC]
mutual
theorem GStmt.weakC : ∀ x : GStmt, AV.weaks x.cells = x.cells
  | .mk kind line name name2 order place exprs thn els => by
    simp only [GStmt.cells, AV.weaks, AV.weak, weaks_app, GPlace.weakC place, lstA_weak GExpr.weakC exprs, GStmt.allWeak thn, GStmt.allWeak els]
theorem GStmt.allWeak : ∀ xs : List GStmt, AV.weaks (GStmt.all xs) = GStmt.all xs
  | [] => rfl
  | x :: r => by rw [GStmt.all, weaks_app, GStmt.weakC x, GStmt.allWeak r]
end
theorem thr_weak (l : List GStmt) : AV.weaks (thrCells l) = thrCells l := by simp only [thrCells, AV.weaks, lstA_weak GStmt.weakC]
theorem GProg.weakC (x : GProg) : AV.weaks x.cells = x.cells := by simp only [GProg.cells, AV.weaks, lstA_weak GVar.weakC, lstA_weak thr_weak]

section
variable {Φ : Calls'} {H : AH} {Q : Post}
theorem vars_contains (hT : Cl Φ S.tab_Chk) {p : GVar → Bool} {key : Nat} {caps : List AV} {xs : List GVar} (hf : ∀ x ∈ xs, ∀ (R : Post), R (.bool (p x)) H → Φ key ([.agg x.cells] ++ caps) H R) (hl : xs.length ≤ 9223372036854775807)
    (hQ : Q (.bool (xs.any p)) H) : Φ K.slices_ContainsFunc___api_Var_api_Var_ [lstA GVar.cells xs, .fn key caps] H Q := by
  refine S.cl_slices_ContainsFunc___api_Var_api_Var_ hT ?_
  unfold S.slices_ContainsFunc___api_Var_api_Var_
  refine S.cl_slices_IndexFunc___api_Var_api_Var_ hT (varIndex hf hl ?_)
  simp only [abin_geq, Do_of, idxI_any]
  exact hQ
theorem vars_c1 {w : GVar} {id : Nat} {v : GVar} (hat : At H id (.row v.cells)) (hQ : Q (.bool (w.name == v.name)) H) : S.check_vars_c1 Φ (.agg w.cells) (.ptr id 0) H Q := by
  unfold S.check_vars_c1
  have hb : aboxv H false 7 (.agg w.cells) = some (.fptr w.cells, H) := by unfold aboxv; rw [if_pos ⟨rfl, w.len⟩]; rfl
  have l0 : aload H 1 false (.fptr (w.cells.drop 0)) = some (.str w.name) := vr_t0 w
  have l1 : aload H 1 false (.ptr id 0) = some (.str v.name) := by rw [hat.load]; exact vr_t0 v
  rw [hb]
  simp only [DoH_some, afaddr, Do_of, l0, Nat.add_zero, l1, abin_streq']
  exact hQ
end

section
variable {C : Ctx} (hGT : GTok C) (hT : Cl (ACall C) S.tab_Chk) {kw : List UInt8 → Bool} (hkw : ∀ x, Val (ACall C) K.lex_Keyword [.str x] (.bool (kw x)))
include hGT hT hkw
theorem vars_spec {vars : List GVar} (hv : ∀ v ∈ vars, v.ok) {H : AH} {Q : Post} (hQ : ∀ H', Q (.int .i64 (varsM kw vars)) H') : S.check_vars (ACall C) (lstA GVar.cells vars) H Q := by
  have fin : ∀ z H', z = varsM kw vars → Q (.int .i64 z) H' := fun z H' h => by rw [h]; exact hQ H'
  clear hQ
  unfold S.check_vars
  simp only [lstA_len', Do_of, abin_gtr, Gd_true]
  unfold varsM at fin
  refine ite_both (fun h => ?_) (fun h => ?_)
  · exact fin _ _ (by rw [if_pos (by simp only [decide_eq_true_eq, gt_iff_lt] at h; omega)])
  · have hl : vars.length ≤ 32 := by simp only [decide_eq_true_eq, gt_iff_lt] at h; omega
    rw [if_neg (by omega)] at fin
    have main : ∀ (r : List GVar) (i : Nat) (a : Int) (H1 : AH), vars.drop i = r → varsL kw ((vars.take i).map GVar.name) a r = varsL kw [] 0 vars →
        LoopP (S.check_vars_l5 (ACall C) (lstA GVar.cells vars) (.int .i64 vars.length) Q) ([.int .i64 a, .int .i64 i], H1) := by
      intro r
      induction r with
      | nil =>
        intro i a H1 hd he
        have hle := drop_nil_le hd
        refine LoopP.step ?_
        simp only [S.check_vars_l5, sl_zero, sl_succ, abin_lss, Do_of, Gd_true]
        rw [if_neg (by simp only [decide_eq_true_eq]; omega)]
        simp only [JoinP_def, S.check_vars_k4, sl_zero, abin_gtr, Do_of, Gd_true]
        rw [varsL] at he
        refine ite_both (fun h => ?_) (fun h => ?_)
        · exact fin _ _ (by rw [← he, if_pos (by simpa using h)])
        · exact fin _ _ (by rw [← he, if_neg (by simpa using h)])
      | cons v r ih =>
        intro i a H1 hd he
        obtain ⟨hlt, hx, hd'⟩ := drop_cons_lt hd
        have hvm := List.mem_of_getElem? hx
        refine LoopP.step ?_
        simp only [S.check_vars_l5, sl_zero, sl_succ, abin_lss, Do_of, Gd_true]
        rw [if_pos (by simp only [decide_eq_true_eq]; omega), lstA_addr hlt]
        simp only [Do_of]
        rw [elA_load GVar.len (by decide) _ hx]
        simp only [Do_of, DoH_some, abox, if_true]
        rw [store_new _ _ _ 7 v.len v.scalar rfl]
        simp only [Do_of, afaddr, Nat.zero_add, Nat.add_zero]
        have at13 := At.new H1 (.row v.cells)
        generalize H1.push (.row v.cells) = H2 at *
        generalize H1.n = id13 at *
        have l0 : aload H2 1 false (.ptr id13 0) = some (.str v.name) := by rw [at13.load]; exact vr_t0 v
        have l1 : aload H2 6 true (.ptr id13 1) = some (.agg v.type.cells) := by
          rw [at13.load, takeCells_drop (by rw [v.len]; omega)]
          show takeCells (v.cells.drop 1) 0 6 true = _
          exact takeCells_whole v.type.len
        simp only [l0, Do_of]
        rw [varsL] at he
        have k2 : ¬ (nameOk v.name = false ∨ kw v.name = true) → ¬ ((vars.take i).map GVar.name).contains v.name = true →
            JoinP (S.check_vars_k2 (ACall C) (.ptr id13 0) ([.int .i64 a, .int .i64 i], H1) (LoopP (S.check_vars_l5 (ACall C) (lstA GVar.cells vars) (.int .i64 vars.length) Q)) Q) [] H2 := by
          intro n1 n2
          rw [if_neg n1, if_neg n2] at he
          simp only [JoinP_def, S.check_vars_k2, afaddr, Nat.zero_add, Do_of, l1]
          refine layout_Of_val hGT hT v.type (hv v hvm).2 _ _ ?_
          simp only [aextract, List.getElem?_cons_zero, List.getElem?_cons_succ, Do_of, abin_neq, Gd_true]
          refine ite_both (fun h => ?_) (fun h => ?_)
          · rw [if_pos (by simpa using h)] at he
            exact fin _ _ he
          · have h0 : (layM v.type).2 = 0 := by simpa using h
            rw [if_neg (by simpa using h0)] at he
            have hb := layM_bnd h0
            simp only [sl_zero, abin_add, abin_sub, abin_mul, Do_of]
            rw [abin_quo _ _ _ (by omega)]
            simp only [Do_of, abin_mul, abin_add, JoinP_def, S.check_vars_k1, sl_zero, sl_succ]
            rw [wrap_i64 (n := (i : Int) + 1) (by omega) (by omega), show ((i : Int) + 1) = ((i + 1 : Nat) : Int) by simp]
            refine ih (i + 1) _ H2 hd' ?_
            rw [← he, List.take_add_one, hx]
            simp [upW]
        have k3 : ∀ b : Bool, (b = true ↔ (nameOk v.name = false ∨ kw v.name = true)) → JoinP (S.check_vars_k3 (ACall C) (lstA GVar.cells vars) (.ptr id13 0) ([.int .i64 a, .int .i64 i], H1) (LoopP (S.check_vars_l5 (ACall C) (lstA GVar.cells vars) (.int .i64 vars.length) Q)) Q) [.bool b] H2 := by
          intro b hb
          simp only [JoinP_def, S.check_vars_k3, sl_zero, sl_succ, Gd_true]
          refine ite_both (fun h => ?_) (fun h => ?_)
          · rw [if_pos (hb.1 h)] at he
            exact fin _ _ he
          · have n1 : ¬ (nameOk v.name = false ∨ kw v.name = true) := fun y => h (hb.2 y)
            rw [slice_take GVar.len (Nat.le_of_lt hlt)]
            simp only [Do_of]
            refine vars_contains hT (p := fun w => w.name == v.name) (fun w _ R hR => S.cl_check_vars_c1 hT (vars_c1 at13 hR)) (by rw [List.length_take]; omega) ?_
            simp only [Gd_true]
            have hc : ((vars.take i).any fun w => w.name == v.name) = true ↔ ((vars.take i).map GVar.name).contains v.name = true := by
              rw [List.any_eq_true, List.contains_iff_mem, List.mem_map]
              simp only [beq_iff_eq]
            refine ite_both (fun h => ?_) (fun h => ?_)
            · rw [if_neg n1, if_pos (hc.1 h)] at he
              exact fin _ _ he
            · exact k2 n1 fun y => h (hc.2 y)
        refine kindName_val hGT hT v.name _ _ ?_
        simp only [aun_not, Do_of, Gd3_false]
        refine ite_boolf (fun h => ?_) (fun h => ?_)
        · simp only [l0, Do_of]
          refine hkw v.name _ _ ?_
          refine k3 _ ?_
          simp only [Bool.not_eq_false'] at h
          simp [h]
        · refine k3 _ ?_
          simp only [Bool.not_eq_true'] at h
          simp [h]
    exact main vars 0 0 H rfl rfl

def progV (r : Int × Int) : AV := .agg [.int .i64 r.1, .int .i64 r.2]
theorem prog_val (p : GProg) (hp : p.ok) : Val (ACall C) K.check_Prog [.agg p.cells] (progV (progM kw p)) := by
  obtain ⟨⟨hvl, hv⟩, htl, ht⟩ := hp
  refine Val.of hGT (by simp [AV.frozs, AV.froz, GProg.froz]) rfl fun Q hQ => S.cl_check_Prog hT ?_
  have fin : ∀ (a b : Int) H', (a, b) = progM kw p → Q (.agg [.int .i64 a, .int .i64 b]) H' := fun a b H' h => by have := hQ H'; rw [← h] at this; exact this
  clear hQ
  have hbox : aboxv AH.mt false 2 (.agg p.cells) = some (.fptr p.cells, AH.mt) := by unfold aboxv; rw [if_pos ⟨rfl, rfl⟩]; rfl
  have pl0 : ∀ H, aload H 1 false (.fptr (p.cells.drop 0)) = some (lstA GVar.cells p.vars) := fun _ => rfl
  have pl1 : ∀ H, aload H 1 false (.fptr (p.cells.drop 1)) = some (lstA thrCells p.threads) := fun _ => rfl
  unfold S.check_Prog
  simp only [hbox, DoH_some, abox, if_true, afaddr, Do_of, pl0, lstA_len', abin_gtr, Gd3_false]
  generalize hH0 : AH.mt = H0
  have at3 := At.new H0 (.row [.int .i64 0, .int .i64 0])
  generalize H0.push (.row [.int .i64 0, .int .i64 0]) = H4 at *
  generalize H0.n = id3 at *
  -- the end
  have out : ∀ (a b : Int) (H1 : AH), At H1 id3 (.row [.int .i64 0, .int .i64 0]) → (a, b) = progM kw p → Do (astore H1 2 (.ptr id3 0) (.agg [.int .i64 a, .int .i64 b])) fun H2 => Do (aload H2 2 true (.ptr id3 0)) fun x => Q x H2 := by
    intro a b H1 ha he
    rw [ha.put (n := 2) rfl rfl rfl]
    simp only [Do_of]
    rw [(ha.set _).all (n := 2) rfl]
    simp only [Do_of]
    exact fin a b _ he
  unfold progM at out
  have k3 : ¬ (32 < p.vars.length ∨ p.threads.length < 1 ∨ 8 < p.threads.length) → JoinP (S.check_Prog_k3 (ACall C) (.fptr p.cells) (.ptr id3 0) Q) [] H4 := by
    intro hn
    rw [if_neg hn] at out
    simp only [JoinP_def, S.check_Prog_k3, afaddr, Do_of, pl0]
    refine Val.of hGT (by simp [AV.frozs, lstA_froz GVar.froz]) rfl (fun Q' hQ' => S.cl_check_vars hT (vars_spec hGT hT hkw hv hQ')) _ _ ?_
    simp only [abin_neq, Do_of, Gd_true]
    refine ite_both (fun h => ?_) (fun h => ?_)
    · rw [if_pos (by simpa using h)] at out
      rw [show abuild [.int .i64 0, .int .i64 0] [(1, 1, .int .i64 (varsM kw p.vars))] = some (.agg [.int .i64 0, .int .i64 (varsM kw p.vars)]) from rfl]
      simp only [Do_of]
      exact out 0 _ H4 at3 rfl
    · rw [if_neg (by simpa using h)] at out
      simp only [pl1, Do_of, lstA_len']
      have main : ∀ (r : List (List GStmt)) (i : Nat) (H1 : AH), p.threads.drop i = r → At H1 id3 (.row [.int .i64 0, .int .i64 0]) → thrsM kw p.vars r = thrsM kw p.vars p.threads →
          LoopP (S.check_Prog_l2 (ACall C) (.fptr p.cells) (.ptr id3 0) (lstA thrCells p.threads) (.int .i64 p.threads.length) Q) ([.int .i64 i], H1) := by
        intro r
        induction r with
        | nil =>
          intro i H1 hd ha he
          have hle := drop_nil_le hd
          refine LoopP.step ?_
          simp only [S.check_Prog_l2, sl_zero, abin_lss, Do_of, Gd_true]
          rw [if_neg (by simp only [decide_eq_true_eq]; omega)]
          simp only [JoinP_def, S.check_Prog_k1]
          rw [show abuild [.int .i64 0, .int .i64 0] [] = some (.agg [.int .i64 0, .int .i64 0]) from rfl]
          simp only [Do_of]
          exact out 0 0 H1 ha he
        | cons t r ih =>
          intro i H1 hd ha he
          obtain ⟨hlt, hx, hd'⟩ := drop_cons_lt hd
          obtain ⟨htl', hts⟩ := ht t (List.mem_of_getElem? hx)
          refine LoopP.step ?_
          simp only [S.check_Prog_l2, sl_zero, abin_lss, Do_of, Gd_true]
          rw [if_pos (by simp only [decide_eq_true_eq]; omega), lstA_addr hlt]
          simp only [Do_of]
          have hld : aload H1 1 false (elA thrCells 1 p.threads i) = some (lstA GStmt.cells t) := one_load (c := fun l => lstA GStmt.cells l) H1 hx
          rw [hld]
          simp only [Do_of, afaddr, pl0]
          rw [show abuild [.lst .nil 0 [], .lst .nil 0 [], .int .i64 0, .int .i64 0, .int .i64 0, .int .i64 0] [(0, 1, lstA GVar.cells p.vars)] = some (.agg (ckC p.vars s0 (.lst .nil 0 []))) from rfl]
          simp only [Do_of]
          have hb : aboxv H1 true 6 (.agg (ckC p.vars s0 (.lst .nil 0 []))) = some (.ptr H1.n 0, H1.push (.row (ckC p.vars s0 (.lst .nil 0 [])))) := by unfold aboxv; rw [if_pos ⟨rfl, rfl⟩]; rfl
          rw [hb]
          simp only [DoH_some]
          have a47 := At.new H1 (.row (ckC p.vars s0 (.lst .nil 0 [])))
          have hne : id3 ≠ H1.n := ha.lt_new
          have a3 := ha.push (.row (ckC p.vars s0 (.lst .nil 0 [])))
          generalize H1.push (.row (ckC p.vars s0 (.lst .nil 0 []))) = H2 at *
          generalize H1.n = id at *
          have hm := i64max
          refine block_spec hGT hT (kw := kw) (by omega) (fun x hx' => stmt_spec hGT hT hvl hv hkw x (hts x hx')) (s := s0) ⟨by decide, by decide, by decide⟩ a47 (.inl ⟨rfl, rfl⟩) fun H5 loc5 f5 a5 l5 => ?_
          have a3' := f5.2.1 id3 _ hne (fun n e => by cases e) a3
          rw [thrsM] at he
          generalize blockM p.vars kw s0 1 t = s5 at *
          refine S.cl_check_checker_bad hT (ck_bad a5 ?_)
          simp only [Gd_true]
          refine ite_both (fun h => ?_) (fun h => ?_)
          · rw [if_pos (by simpa using h)] at he
            simp only [anilck, afaddr, Do_of, Nat.zero_add]
            rw [a5.load, show takeCells (ckC p.vars s5 loc5) 4 2 true = some (.agg [.int .i64 s5.fline, .int .i64 s5.fkind]) from rfl]
            simp only [Do_of]
            exact out _ _ H5 a3' he
          · rw [if_neg (by simpa using h)] at he
            simp only [abin_add, Do_of]
            rw [wrap_i64 (by omega) (by omega), show ((i : Int) + 1) = ((i + 1 : Nat) : Int) by simp]
            exact ih (i + 1) H5 hd' a3' he
      exact main p.threads 0 H4 rfl at3 rfl
  have k4 : ∀ b : Bool, (b = true ↔ (32 < p.vars.length ∨ p.threads.length < 1 ∨ 8 < p.threads.length)) → JoinP (S.check_Prog_k4 (ACall C) (.fptr p.cells) (.ptr id3 0) Q) [.bool b] H4 := by
    intro b hb
    simp only [JoinP_def, S.check_Prog_k4, sl_zero, Gd_true]
    refine ite_both (fun h => ?_) (fun h => ?_)
    · rw [if_pos (hb.1 h)] at out
      rw [show abuild [.int .i64 0, .int .i64 0] [(1, 1, .int .i64 12)] = some (.agg [.int .i64 0, .int .i64 12]) from rfl]
      simp only [Do_of]
      exact out 0 12 H4 at3 rfl
    · exact k3 fun y => h (hb.2 y)
  have k5 : ∀ b : Bool, (b = true ↔ (32 < p.vars.length ∨ p.threads.length < 1)) → JoinP (S.check_Prog_k5 (ACall C) (.fptr p.cells) (.ptr id3 0) Q) [.bool b] H4 := by
    intro b hb
    simp only [JoinP_def, S.check_Prog_k5, sl_zero, Gd3_false, afaddr, Do_of, pl1, lstA_len', abin_gtr]
    refine ite_boolf (fun h => ?_) (fun h => ?_)
    · refine k4 _ ?_
      have hn : ¬ (32 < p.vars.length ∨ p.threads.length < 1) := fun y => by have := hb.2 y; rw [h] at this; cases this
      simp only [decide_eq_true_eq, gt_iff_lt]; omega
    · refine k4 _ ?_
      have := hb.1 h
      simp only [true_iff]; omega
  refine ite_boolf (fun h => ?_) (fun h => ?_)
  · simp only [pl1, Do_of, lstA_len', abin_lss]
    refine k5 _ ?_
    simp only [decide_eq_false_iff_not, gt_iff_lt] at h
    simp only [decide_eq_true_eq]; omega
  · refine k5 _ ?_
    simp only [decide_eq_true_eq, gt_iff_lt] at h
    simp only [true_iff]; omega
end
end Rb
