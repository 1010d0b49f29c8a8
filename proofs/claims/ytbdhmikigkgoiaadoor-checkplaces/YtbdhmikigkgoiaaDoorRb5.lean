/- For every list of variables and every place: the type of what lies there, or why there is none, is the document's (law CheckPlaces of chapter 11 returns true and leaves its arguments). No condition beyond the card's own. -/
import Derived.Test.YtbdhmikigkgoiaaDoorRb4
import Derived.Test.YtbdhmikigkgoiaaDoorRb3
import Derived.Lib.DecodeN
import Derived.Test.YtbdhmikigkgoiaaDoorRb2
import Derived.Test.YtbdhmikigkgoiaaDoorTie
import Derived.Test.YtbdhmikigkgoiaaDoorCards
/- New variables, and what is read of them. -/
set_option linter.unusedVariables false
set_option linter.unusedSimpArgs false
namespace Rb
open Go

@[simp] theorem AH.push_set (H : AH) (x y : AObj) : (H.push x).set H.n y = H.push y := by
  simp only [AH.push, AH.set]
  congr 1
  funext j
  split <;> rfl
@[simp] theorem load_push (H : AH) (cs : List AV) (n o : Nat) (agg : Bool) : aload (H.push (.row cs)) n agg (.ptr H.n o) = takeCells cs o n agg := by
  simp [aload, AH.push_self]
theorem store_push (H : AH) (cs : List AV) (n o : Nat) (v : AV) (h1 : v.known = true) (h2 : v.cells.length = n) (h3 : v.cells.all AV.scalar = true) (h4 : o + n ≤ cs.length) : astore (H.push (.row cs)) n (.ptr H.n o) v = some (H.push (.row (setCells cs o v.cells))) := by
  rw [(At.new H (.row cs)).store, if_pos ⟨h1, h2, h3, h4⟩, AH.push_set]
theorem setCells_all {xs ys : List AV} : ∀ {k : Nat}, k + ys.length = xs.length → setCells xs k ys = xs.take k ++ ys := by
  induction ys generalizing xs with
  | nil => intro k h; simp only [setCells]; rw [List.append_nil, List.take_of_length_le (by simp at h; omega)]
  | cons y ys ih =>
    intro k h
    simp only [setCells]
    rw [ih (by simp at h ⊢; omega)]
    have hk : k < xs.length := by simp at h; omega
    rw [List.take_add_one, List.getElem?_set_self hk, List.take_set_of_le (by omega)]
    simp
/-- A new variable gets a struct. -/
theorem store_new (H : AH) (zs cs : List AV) (n : Nat) (h2 : cs.length = n) (h3 : cs.all AV.scalar = true) (h4 : zs.length = n) : astore (H.push (.row zs)) n (.ptr H.n 0) (.agg cs) = some (H.push (.row cs)) := by
  rw [store_push H zs n 0 (.agg cs) rfl h2 h3 (by omega)]
  congr 3
  show setCells zs 0 cs = cs
  rw [setCells_all (by omega)]; rfl

theorem takeCells_app {a b : List AV} {n : Nat} (h : a.length = n) : takeCells (a ++ b) 0 n true = some (.agg a) := by
  unfold takeCells
  rw [if_pos (by rw [List.length_append]; omega)]
  simp only [if_true, List.drop_zero]
  rw [List.take_append_of_le_length (by omega), List.take_of_length_le (by omega)]
theorem takeCells_whole {a : List AV} {n : Nat} (h : a.length = n) : takeCells a 0 n true = some (.agg a) := by
  have := takeCells_app (a := a) (b := []) h
  rwa [List.append_nil] at this
theorem takeCells_drop {cs : List AV} {o n : Nat} {agg : Bool} (h : o ≤ cs.length) : takeCells cs o n agg = takeCells (cs.drop o) 0 n agg := by
  by_cases hl : o + n ≤ cs.length
  · have hl' : 0 + n ≤ (cs.drop o).length := by rw [List.length_drop]; omega
    unfold takeCells
    simp only [hl, hl', if_true]
    cases agg <;> simp
  · have hl' : ¬ 0 + n ≤ (cs.drop o).length := by rw [List.length_drop]; omega
    unfold takeCells
    simp only [hl, hl', if_false]

/-- Frozen values may lie in a cell. -/
theorem froz_scalar : ∀ {cs : List AV}, (∀ c ∈ cs, c.scalar = true) → cs.all AV.scalar = true := fun h => List.all_eq_true.2 h
mutual
theorem GType.scalar : ∀ x : GType, x.cells.all AV.scalar = true
  | .mk kind size packed fields count elem => by simp [GType.cells, AV.scalar]
theorem GField.scalar : ∀ x : GField, x.cells.all AV.scalar = true
  | .mk name type bits width => by simp only [GField.cells, List.all_cons, List.all_append, GType.scalar type]; rfl
end
theorem GPlace.scalar (x : GPlace) : x.cells.all AV.scalar = true := by rw [GPlace.cells_eq]; rfl
theorem GPart.scalar (x : GPart) : x.cells.all AV.scalar = true := by rw [GPart.cells_eq]; rfl
theorem GExpr.scalar (x : GExpr) : x.cells.all AV.scalar = true := by rw [GExpr.cells_eq]; simp only [List.all_cons, List.all_append, GPlace.scalar]; rfl
theorem GStmt.scalar (x : GStmt) : x.cells.all AV.scalar = true := by rw [GStmt.cells_eq]; simp only [List.all_cons, List.all_append, GPlace.scalar]; rfl
theorem GVar.scalar (x : GVar) : x.cells.all AV.scalar = true := by simp only [GVar.cells, List.all_cons, GType.scalar]; rfl
end Rb

/- Slices of numbers held against one another. -/
set_option linter.unusedVariables false
set_option linter.unusedSimpArgs false
namespace Rb
open Go

/-- A number's cell. -/
def i1 (k : IntKind) (z : Int) : List AV := [.int k z]
theorem i1_len (k : IntKind) (z : Int) : (i1 k z).length = 1 := rfl

section
variable {α : Type} {c : α → AV}
theorem one_load (H : AH) {xs : List α} {i : Nat} {x : α} (hx : xs[i]? = some x) : aload H 1 false (elA (fun x => [c x]) 1 xs i) = some (c x) := by
  have hlt := (List.getElem?_eq_some_iff.1 hx).1
  have hd : xs.drop i = x :: xs.drop (i + 1) := by
    rw [List.drop_eq_getElem_cons hlt]
    rw [List.getElem?_eq_getElem hlt] at hx
    simp at hx
    rw [hx]
  show takeCells ((xs.flatMap fun x => [c x]).drop (i * 1)) 0 1 false = _
  rw [flatMap_drop (sz := 1) (fun _ => rfl), hd, List.flatMap_cons]
  rfl
end
theorem num_load {k : IntKind} (H : AH) {xs : List Int} {i : Nat} {x : Int} (hx : xs[i]? = some x) : aload H 1 false (elA (i1 k) 1 xs i) = some (.int k x) := one_load H hx

def EqualL (a0 : AV) (a1 : AV) (x4 : AV) (Q : Post) : (List AV × AH) → ((List AV × AH) → Prop) → Prop := fun s5 L6 =>
 Do (abin .lss (sl s5.1 0) x4) fun x7 =>
 Gd x7 true (
 Do (aiaddr none 1 a0 (sl s5.1 0)) fun x8 =>
 Do (aload s5.2 1 false x8) fun x9 =>
 Do (aiaddr none 1 a1 (sl s5.1 0)) fun x10 =>
 Do (aload s5.2 1 false x10) fun x11 =>
 Do (abin .neq x9 x11) fun x12 =>
 Gd x12 true (
 Q (.bool false) s5.2) (
 Do (abin .add (sl s5.1 0) (.int .i64 1)) fun x13 =>
 L6 ([x13], s5.2))) (
 Q (.bool true) s5.2)
/-- slices.Equal of numbers. -/
def Equal (a0 : AV) (a1 : AV) (H : AH) (Q : Post) : Prop :=
 Do (alen false a0) fun x1 =>
 Do (alen false a1) fun x2 =>
 Do (abin .neq x1 x2) fun x3 =>
 Gd x3 true (
 Q (.bool false) H) (
 Do (alen false a0) fun x4 =>
 LoopP (EqualL a0 a1 x4 Q) ([(.int .i64 0)], H))

theorem lstA_len' {α : Type} (cells : α → List AV) (xs : List α) : alen false (lstA cells xs) = some (.int .i64 xs.length) := rfl
theorem ne_len {α : Type} {xs ys : List α} [BEq α] [LawfulBEq α] (h : xs.length ≠ ys.length) : (xs == ys) = false := by
  rw [beq_eq_false_iff_ne]; intro e; exact h (by rw [e])

theorem Equal_spec {k : IntKind} {xs ys : List Int} {H : AH} {Q : Post} (hl : xs.length ≤ 9223372036854775807) (hQ : Q (.bool (xs == ys)) H) : Equal (lstA (i1 k) xs) (lstA (i1 k) ys) H Q := by
  unfold Equal
  simp only [lstA_len', Do_of, abin_neq, Gd_true]
  by_cases he : xs.length = ys.length
  · rw [if_neg (by simp [he])]
    have main : ∀ (us vs : List Int) (i : Nat), xs.drop i = us → ys.drop i = vs → us.length = vs.length → Q (.bool (us == vs)) H → LoopP (EqualL (lstA (i1 k) xs) (lstA (i1 k) ys) (.int .i64 xs.length) Q) ([.int .i64 i], H) := by
      intro us
      induction us with
      | nil =>
        intro vs i hu hv hlen hq
        have hle := drop_nil_le hu
        obtain rfl : vs = [] := by cases vs with | nil => rfl | cons _ _ => cases hlen
        refine LoopP.step ?_
        simp only [EqualL, sl_zero, abin_lss, Do_of, Gd_true]
        rw [if_neg (by simp only [decide_eq_true_eq]; omega)]
        exact hq
      | cons u us ih =>
        intro vs i hu hv hlen hq
        cases vs with
        | nil => cases hlen
        | cons v vs =>
          obtain ⟨hlt, hu1, hu2⟩ := drop_cons_lt hu
          obtain ⟨hlt', hv1, hv2⟩ := drop_cons_lt hv
          refine LoopP.step ?_
          simp only [EqualL, sl_zero, abin_lss, Do_of, Gd_true]
          rw [if_pos (by simp only [decide_eq_true_eq]; omega), lstA_addr hlt, lstA_addr hlt']
          simp only [Do_of]
          rw [num_load H hu1, num_load H hv1]
          simp only [Do_of, abin_neq, Gd_true]
          by_cases hx : u = v
          · subst hx
            rw [if_neg (by simp)]
            simp only [abin_add, Do_of]
            rw [wrap_i64 (by omega) (by omega), show ((i : Int) + 1) = ((i + 1 : Nat) : Int) by simp]
            refine ih vs (i + 1) hu2 hv2 (by simpa using hlen) ?_
            simpa using hq
          · rw [if_pos (by simpa using hx)]
            have : (u :: us == v :: vs) = false := by rw [beq_eq_false_iff_ne]; intro e; cases e; exact hx rfl
            rw [this] at hq; exact hq
    exact main xs ys 0 rfl rfl he hQ
  · rw [if_pos (by simpa using fun e => he (by omega))]
    rw [ne_len he] at hQ; exact hQ

def SameL (a0 : AV) (a1 : AV) (Q : Post) : (List AV × AH) → ((List AV × AH) → Prop) → Prop := fun s4 L5 =>
 Do (alen false a0) fun x6 =>
 Do (abin .lss (sl s4.1 0) x6) fun x7 =>
 Gd x7 true (
 Do (aiaddr none 1 a0 (sl s4.1 0)) fun x8 =>
 Do (aload s4.2 1 false x8) fun x9 =>
 Do (aiaddr none 1 a1 (sl s4.1 0)) fun x10 =>
 Do (aload s4.2 1 false x10) fun x11 =>
 Do (abin .neq x9 x11) fun x12 =>
 Gd x12 true (
 Q (.bool false) s4.2) (
 Do (abin .add (sl s4.1 0) (.int .i64 1)) fun x13 =>
 L5 ([x13], s4.2))) (
 Q (.bool true) s4.2)
def SameD (a0 : AV) (a1 : AV) (H : AH) (Q : Post) : Prop :=
 Do (alen false a0) fun x1 =>
 Do (alen false a1) fun x2 =>
 Do (abin .neq x1 x2) fun x3 =>
 Gd x3 true (
 Q (.bool false) H) (
 LoopP (SameL a0 a1 Q) ([(.int .i64 0)], H))
theorem SameD_spec {k : IntKind} {xs ys : List Int} {H : AH} {Q : Post} (hl : xs.length ≤ 9223372036854775807) (hQ : Q (.bool (xs == ys)) H) : SameD (lstA (i1 k) xs) (lstA (i1 k) ys) H Q := by
  have e : SameL (lstA (i1 k) xs) (lstA (i1 k) ys) Q = EqualL (lstA (i1 k) xs) (lstA (i1 k) ys) (.int .i64 xs.length) Q := by
    funext s L
    unfold SameL EqualL
    rw [lstA_len']
    simp only [Do_of]
  have := Equal_spec (k := k) (ys := ys) hl hQ
  unfold Equal at this
  unfold SameD
  rw [e]
  simp only [lstA_len', Do_of] at this ⊢
  exact this

/-- Bytes as a text. -/
theorem bytes_str {H : AH} : ∀ {xs : List Int}, (∀ x ∈ xs, 0 ≤ x ∧ x ≤ 255) → abstr H (lstA (i1 .u8) xs) = some (.str (xs.map fun x => UInt8.ofNat x.toNat)) := by
  intro xs hx
  have h1 : ∀ ys : List Int, cellBytes (ys.flatMap (i1 .u8)) = some (ys.map fun x => UInt8.ofNat x.toNat) := by
    intro ys
    induction ys with
    | nil => rfl
    | cons y ys ih =>
      rw [List.flatMap_cons]
      show cellBytes (.int .u8 y :: ys.flatMap (i1 .u8)) = _
      unfold cellBytes
      rw [ih]; rfl
  simp only [abstr, lstA, acells]
  rw [if_pos (by rw [flatMap_len (i1_len _)])]
  simp only [h1, Option.map_some]
theorem bytes_eq {xs ys : List Int} (hx : ∀ x ∈ xs, 0 ≤ x ∧ x ≤ 255) (hy : ∀ x ∈ ys, 0 ≤ x ∧ x ≤ 255) : ((xs.map fun x => UInt8.ofNat x.toNat) == ys.map fun x => UInt8.ofNat x.toNat) = (xs == ys) := by
  rw [Bool.eq_iff_iff]
  simp only [beq_iff_eq]
  constructor
  · intro h
    induction xs generalizing ys with
    | nil => cases ys with | nil => rfl | cons _ _ => cases h
    | cons x xs ih =>
      cases ys with
      | nil => cases h
      | cons y ys =>
        simp only [List.map_cons, List.cons.injEq] at h
        obtain ⟨h1, h2⟩ := h
        have h3 := hx x (by simp)
        have h4 := hy y (by simp)
        have h5 := congrArg UInt8.toNat h1
        simp only [UInt8.toNat_ofNat'] at h5
        rw [ih (fun z hz => hx z (by simp [hz])) (fun z hz => hy z (by simp [hz])) h2]
        congr 1
        omega
  · intro h; rw [h]
end Rb

/- Types: what the program's package kind, and the document, say of them: models. -/
set_option linter.unusedVariables false
set_option linter.unusedSimpArgs false
namespace Rb
open Go

/-- A call that gives a value, and leaves the memory as it is. -/
def Val (Φ : Calls') (k : Nat) (args : List AV) (v : AV) : Prop := ∀ (H : AH) (Q : Post), Q v H → Φ k args H Q
theorem Val.of {C : Ctx} (hGT : GTok C) {k : Nat} {args : List AV} {v : AV} (ha : AV.frozs args = true) (hv : v.froz = true) (h : ∀ Q : Post, (∀ H', Q v H') → ACall C k args AH.mt Q) : Val (ACall C) k args v :=
  fun H Q hQ => ACall.frame2 (Q := fun u _ => u = v) hGT (h _ fun _ => rfl) ha H Q fun u _ hu => by subst hu; exact ⟨hv, hQ⟩

/-! Names -/
def isLet (c : UInt8) : Bool := decide (97 ≤ c.toNat) && decide (c.toNat ≤ 122)
def isDig (c : UInt8) : Bool := decide (48 ≤ c.toNat) && decide (c.toNat ≤ 57)
def isPart (c : UInt8) : Bool := isLet c || isDig c || decide (c.toNat = 95)
def nameOk : List UInt8 → Bool
  | [] => false
  | c :: r => decide (r.length < 16) && isLet c && r.all isPart

theorem decodeN_lo {n b0 b1 b2 b3 : Nat} (h : b0 < 128) : Go.Lib.decodeN n b0 b1 b2 b3 = (b0, 1) := by unfold Go.Lib.decodeN; rw [if_pos h]
theorem decodeN_hi {n b0 b1 b2 b3 : Nat} (h : ¬ b0 < 128) : 128 ≤ (Go.Lib.decodeN n b0 b1 b2 b3).1 := by
  unfold Go.Lib.decodeN
  rw [if_neg h]
  repeat' split
  all_goals (dsimp only; omega)
theorem decode_lo {s : List UInt8} {i : Nat} {c : UInt8} (hc : s[i]? = some c) (h : c.toNat < 128) : Utf8.decode ⟨s.toArray⟩ i = (c.toNat, 1) := by
  have e : (ByteArray.mk s.toArray).get! i = c := by
    show s.toArray[i]! = c
    have hi := (List.getElem?_eq_some_iff.1 hc).1
    rw [getElem!_pos s.toArray i (by simpa using hi)]
    simp [List.getElem?_eq_getElem hi] at hc
    simpa using hc
  rw [Go.Lib.decode_at, e, decodeN_lo h]
theorem decode_hi {s : List UInt8} {i : Nat} {c : UInt8} (hc : s[i]? = some c) (h : ¬ c.toNat < 128) : 128 ≤ (Utf8.decode ⟨s.toArray⟩ i).1 := by
  have e : (ByteArray.mk s.toArray).get! i = c := by
    show s.toArray[i]! = c
    have hi := (List.getElem?_eq_some_iff.1 hc).1
    rw [getElem!_pos s.toArray i (by simpa using hi)]
    simp [List.getElem?_eq_getElem hi] at hc
    simpa using hc
  rw [Go.Lib.decode_at, e]
  exact decodeN_hi h

/-! Types -/
def pow2 (n most : Int) : Bool := (n == 1 || n == 2 || n == 4 || n == 8 || n == 16) && decide (n ≤ most)
def onlyM (kind size : Int) (packed : Bool) (nf : Nat) (count : Int) (ne : Nat) : Bool :=
  if kind = 1 ∨ kind = 2 then !packed && nf == 0 && count == 0 && ne == 0
  else if kind = 3 ∨ kind = 4 then size == 0 && count == 0 && ne == 0
  else if kind = 5 then size == 0 && !packed && nf == 0 && ne == 1
  else false

mutual
def sndT : GType → Int
  | .mk kind size packed fields count elem =>
    if onlyM kind size packed fields.length count elem.length = false then 8
    else if kind = 1 then (if pow2 size 8 then 0 else 9)
    else if kind = 2 then (if pow2 size 16 then 0 else 9)
    else if kind = 5 then (if count < 1 ∨ 65536 < count then 9 else sndE elem)
    else if fields.length < 1 ∨ 32 < fields.length then 12
    else sndFs packed [] fields
def sndE : List GType → Int
  | [] => 0
  | t :: _ => sndT t
def sndF (packed : Bool) (seen : List (List UInt8)) : GField → Int
  | .mk name type bits width =>
    if nameOk name = false ∧ (name ≠ [] ∨ bits = false) then 6
    else if name ≠ [] ∧ seen.contains name = true then 7
    else if sndT type ≠ 0 then sndT type
    else if (bits = false ∧ width ≠ 0) ∨ (bits = true ∧ (type.kind ≠ 1 ∨ packed = true)) then 8
    else if bits = true ∧ (width < 0 ∨ 8 * type.size < width ∨ (width = 0 ∧ name ≠ [])) then 9
    else 0
def sndFs (packed : Bool) (seen : List (List UInt8)) : List GField → Int
  | [] => 0
  | f :: r => if sndF packed seen f ≠ 0 then sndF packed seen f else sndFs packed (seen ++ [f.name]) r
end

mutual
def depT (most : Nat) : GType → Int
  | .mk kind size packed fields count elem => if 1 < most then max (depFs (most - 1) fields) (depEs (most - 1) elem) + 1 else 1
def depF (most : Nat) : GField → Int
  | .mk name type bits width => depT most type
def depFs (most : Nat) : List GField → Int
  | [] => 0
  | f :: r => max (depF most f) (depFs most r)
def depEs (most : Nat) : List GType → Int
  | [] => 0
  | t :: r => max (depT most t) (depEs most r)
end
def soundM (t : GType) : Int := if 64 < depT 65 t then 5 else sndT t

theorem GType.ind {P : GType → Prop} (h : ∀ t : GType, (∀ f ∈ t.fields, P f.type) → (∀ e ∈ t.elem, P e) → P t) : ∀ t, P t := by
  have main : ∀ (n : Nat) (t : GType), sizeOf t < n → P t := by
    intro n
    induction n with
    | zero => intro t ht; omega
    | succ n ih =>
      intro t ht
      refine h t (fun f hf => ih _ ?_) fun e he => ih _ ?_
      · cases t with
        | mk kind size packed fields count elem =>
          have := List.sizeOf_lt_of_mem hf
          cases f with
          | mk name type bits width => simp at this ht ⊢; omega
      · cases t with
        | mk kind size packed fields count elem =>
          have := List.sizeOf_lt_of_mem he
          simp at this ht ⊢; omega
  exact fun t => main _ t (Nat.lt_succ_self _)
end Rb

/- What the functions of package kind give. -/
set_option linter.unusedVariables false
set_option linter.unusedSimpArgs false
namespace Rb
open Go

/-! Reading a type, a field -/
theorem ty_box (t : GType) (H : AH) : aboxv H false 6 (.agg t.cells) = some (.fptr t.cells, H) := by unfold aboxv; rw [if_pos ⟨rfl, t.len⟩]; rfl
theorem ty_addr (t : GType) (i : Nat) : afaddr i (.fptr t.cells) = some (.fptr (t.cells.drop i)) := rfl
theorem ty_l0 (t : GType) (H : AH) : aload H 1 false (.fptr (t.cells.drop 0)) = some (.int .i64 t.kind) := by rw [GType.cells_eq]; rfl
theorem ty_l1 (t : GType) (H : AH) : aload H 1 false (.fptr (t.cells.drop 1)) = some (.int .i64 t.size) := by rw [GType.cells_eq]; rfl
theorem ty_l2 (t : GType) (H : AH) : aload H 1 false (.fptr (t.cells.drop 2)) = some (.bool t.packed) := by rw [GType.cells_eq]; rfl
theorem ty_l3 (t : GType) (H : AH) : aload H 1 false (.fptr (t.cells.drop 3)) = some (lstA GField.cells t.fields) := by rw [GType.cells_eq]; rfl
theorem ty_l4 (t : GType) (H : AH) : aload H 1 false (.fptr (t.cells.drop 4)) = some (.int .i64 t.count) := by rw [GType.cells_eq]; rfl
theorem ty_l5 (t : GType) (H : AH) : aload H 1 false (.fptr (t.cells.drop 5)) = some (lstA GType.cells t.elem) := by rw [GType.cells_eq]; rfl
theorem ty_all (t : GType) (H : AH) : aload H 6 true (.fptr t.cells) = some (.agg t.cells) := takeCells_whole t.len
theorem fd_t0 (f : GField) : takeCells f.cells 0 1 false = some (.str f.name) := by cases f with | mk n t b w => cases t; rfl
theorem fd_t7 (f : GField) : takeCells f.cells 7 1 false = some (.bool f.bits) := by cases f with | mk n t b w => cases t; rfl
theorem fd_t8 (f : GField) : takeCells f.cells 8 1 false = some (.int .i64 f.width) := by cases f with | mk n t b w => cases t; rfl
theorem fd_t1 (f : GField) : takeCells f.cells 1 6 true = some (.agg f.type.cells) := by cases f with | mk n t b w => cases t; rfl
theorem fd_k (f : GField) : takeCells f.cells 1 1 false = some (.int .i64 f.type.kind) := by cases f with | mk n t b w => cases t; rfl
theorem fd_s (f : GField) : takeCells f.cells 2 1 false = some (.int .i64 f.type.size) := by cases f with | mk n t b w => cases t; rfl
theorem fd_all (f : GField) : takeCells f.cells 0 9 true = some (.agg f.cells) := takeCells_whole f.len
theorem wrap_i32 {n : Int} (h1 : -2147483648 ≤ n) (h2 : n ≤ 2147483647) : IntKind.wrap .i32 n = n := by
  simp [IntKind.wrap, IntKind.signed, IntKind.bits]; omega
theorem abin_streq' (s t : List UInt8) : abin .eql (.str s) (.str t) = some (.bool (s == t)) := rfl
theorem abin_strne (s t : List UInt8) : abin .neq (.str s) (.str t) = some (.bool (!(s == t))) := rfl
theorem max_int (a b : Int) : aminmax true [.int .i64 a, .int .i64 b] = some (.int .i64 (max a b)) := by
  simp only [aminmax, mmAll, mm2, if_true]
  congr 2
  show (if a < b then b else a) = max a b
  omega

/-! Names -/
def partI (n : Int) : Bool := (decide (97 ≤ n) && decide (n ≤ 122)) || (decide (48 ≤ n) && decide (n ≤ 57)) || decide (n = 95)
theorem partI_lo (c : UInt8) : partI (c.toNat : Int) = isPart c := by
  rw [Bool.eq_iff_iff]; simp [partI, isPart, isLet, isDig]; omega
theorem partI_hi {n : Int} (h : 128 ≤ n) : partI n = false := by
  rw [Bool.eq_false_iff]; simp [partI]; omega
theorem isPart_hi {c : UInt8} (h : ¬ c.toNat < 128) : isPart c = false := by
  rw [Bool.eq_false_iff]; simp [isPart, isLet, isDig]; omega
theorem letI_eq (c : UInt8) : (decide (97 ≤ (c.toNat : Int)) && decide ((c.toNat : Int) ≤ 122)) = isLet c := by
  rw [Bool.eq_iff_iff]; simp [isLet]; omega

section
variable {Φ : Calls'} {H : AH} {Q : Post}

theorem kind_letter_spec {n : Int} (hQ : Q (.bool (decide (97 ≤ n) && decide (n ≤ 122))) H) : S.kind_letter Φ (.int .i32 n) H Q := by
  simp only [S.kind_letter, abin_geq, abin_leq, Do_of, Gd3_true]
  refine ite_both (fun h => ?_) (fun h => ?_)
  · simp only [ge_iff_le, decide_eq_true_eq] at h
    simpa [h] using hQ
  · simp only [ge_iff_le, decide_eq_true_eq] at h
    simpa [h] using hQ

theorem asnext_some {id pos : Nat} {s : List UInt8} (h : At H id (.siter s pos)) (hp : pos < s.length) : asnext H (.ptr id 0) = some (.tup [.bool true, .int .i64 pos, .int .i32 (Utf8.decode ⟨s.toArray⟩ pos).1], H.set id (.siter s (pos + (Utf8.decode ⟨s.toArray⟩ pos).2))) := by
  simp [asnext, h.2, hp]
theorem asnext_none {id pos : Nat} {s : List UInt8} (h : At H id (.siter s pos)) (hp : s.length ≤ pos) : asnext H (.ptr id 0) = some (.tup [.bool false], H) := by
  simp [asnext, h.2, Nat.not_lt.2 hp]

theorem name_body {n : Int} {L : (List AV × AH) → Prop} (hT : Cl Φ S.tab_Chk) (hbad : partI n = false → Q (.bool false) H) (hgood : partI n = true → L ([], H)) :
    Φ K.kind_letter [.int .i32 n] H fun x28 H29 =>
      Do (aun .not x28) fun x30 =>
      Gd3 x30 true (
      Do (abin .neq (.int .i32 n) (.int .i32 95)) fun x31 =>
      JoinP (S.kind_Name_k2 Φ (.int .i32 n) L Q) [x31] H29) (
      JoinP (S.kind_Name_k2 Φ (.int .i32 n) L Q) [(.bool false)] H29) (
      False) := by
  refine S.cl_kind_letter hT (kind_letter_spec ?_)
  have k1 : ∀ b : Bool, b = !partI n → JoinP (S.kind_Name_k1 Φ L Q) [.bool b] H := by
    intro b hb
    simp only [JoinP_def, S.kind_Name_k1, sl_zero, Gd_true]
    refine ite_both (fun h => ?_) (fun h => ?_)
    · exact hbad (by rw [h] at hb; simpa using hb.symm)
    · exact hgood (by simp only [Bool.not_eq_true] at h; rw [h] at hb; simpa using hb.symm)
  simp only [aun_not, Do_of, Gd3_true, abin_neq, JoinP_def, S.kind_Name_k2, sl_zero, abin_lss, abin_gtr, Gd3_false, Bool.false_eq_true, if_false] at k1 ⊢
  generalize S.kind_Name_k1 Φ L Q = KK at k1 ⊢
  repeat' (refine ite_both (fun h => ?_) (fun h => ?_))
  all_goals (refine k1 _ ?_; simp only [Bool.not_eq_true', Bool.and_eq_false_imp, decide_eq_true_eq, decide_eq_false_iff_not, bne_iff_ne, ne_eq, Bool.not_eq_true, Bool.not_eq_false] at *; rw [Bool.eq_iff_iff]; simp [partI]; omega)

theorem kind_Name_spec (hT : Cl Φ S.tab_Chk) {s : List UInt8} (hQ : ∀ H', Q (.bool (nameOk s)) H') : S.kind_Name Φ (.str s) H Q := by
  have main : ∀ (ys : List UInt8) (pos id : Nat) (H : AH), s.drop pos = ys → At H id (.siter s pos) → (∀ H', Q (.bool (ys.all isPart)) H') → LoopP (S.kind_Name_l3 Φ (.ptr id 0) Q) ([], H) := by
    intro ys
    induction ys with
    | nil =>
      intro pos id H hd hat hq
      have hle := drop_nil_le hd
      refine LoopP.step ?_
      simp only [S.kind_Name_l3]
      rw [asnext_none hat hle]
      simp only [DoH_some, aextract, List.getElem?_cons_zero, Do_of, Gd_true, Bool.false_eq_true, if_false]
      simpa using hq H
    | cons y ys ih =>
      intro pos id H hd hat hq
      obtain ⟨hlt, hy, hd'⟩ := drop_cons_lt hd
      refine LoopP.step ?_
      simp only [S.kind_Name_l3]
      rw [asnext_some hat hlt]
      simp only [DoH_some, aextract, List.getElem?_cons_zero, List.getElem?_cons_succ, Do_of, Gd_true, if_true]
      refine name_body hT (fun hb => ?_) (fun hg => ?_)
      · by_cases hlo : y.toNat < 128
        · rw [decode_lo hy hlo] at hb
          simp only [partI_lo] at hb
          have := hq (H.set id (.siter s (pos + (Utf8.decode ⟨s.toArray⟩ pos).2)))
          simpa [hb] using this
        · have := hq (H.set id (.siter s (pos + (Utf8.decode ⟨s.toArray⟩ pos).2)))
          simpa [isPart_hi hlo] using this
      · by_cases hlo : y.toNat < 128
        · rw [decode_lo hy hlo] at hg ⊢
          simp only [partI_lo] at hg
          exact ih (pos + 1) id _ hd' (hat.set _) fun H' => by simpa [hg] using hq H'
        · rw [partI_hi (by have := decode_hi hy hlo; omega)] at hg
          cases hg
  unfold S.kind_Name
  simp only [alen_str, abin_lss, abin_gtr, Do_of, Gd3_false, JoinP_def]
  cases s with
  | nil =>
    simp [S.kind_Name_k6, S.kind_Name_k5, JoinP_def, sl_zero, Gd3_false, Gd_true]
    simpa [nameOk] using hQ H
  | cons c r =>
    rw [if_pos (by simp; omega)]
    have k5 : ∀ b : Bool, (b = false → nameOk (c :: r) = r.all isPart ∧ isPart c = true) → (b = true → nameOk (c :: r) = false) → ∀ H, S.kind_Name_k5 Φ (.str (c :: r)) Q [.bool b] H := by
      intro b h1 h2 H
      simp only [S.kind_Name_k5, sl_zero, Gd_true]
      refine ite_both (fun h => ?_) (fun h => ?_)
      · have := hQ H; rw [h2 h] at this; exact this
      · simp only [Bool.not_eq_true] at h
        obtain ⟨g1, g2⟩ := h1 h
        simp only [JoinP_def, S.kind_Name_k4, asrange, DoH_some]
        refine main (c :: r) 0 H.n _ rfl (At.new H _) fun H' => ?_
        have := hQ H'
        rw [g1] at this
        simpa [g2] using this
    simp only [S.kind_Name_k6, sl_zero, Gd3_false, JoinP_def]
    refine ite_both (fun h => ?_) (fun h => ?_)
    · have hx : aidxs (.str (c :: r)) (.int .i64 0) = some (.int .u8 c.toNat) := by simp [aidxs]
      have hc := c.toNat_lt
      rw [hx]
      simp only [Do_of, aconv_int]
      rw [wrap_i32 (by omega) (by omega)]
      refine S.cl_kind_letter hT (kind_letter_spec ?_)
      rw [letI_eq]
      simp only [aun_not, Do_of]
      have hl : r.length < 16 := by simp at h; omega
      refine k5 _ (fun hb => ?_) (fun hb => ?_) _
      · have : isLet c = true := by simpa using hb
        exact ⟨by simp [nameOk, hl, this], by simp [isPart, this]⟩
      · have : isLet c = false := by simpa using hb
        simp [nameOk, this]
    · refine k5 _ (fun hb => by cases hb) (fun _ => ?_) _
      have hl : ¬ r.length < 16 := by simp at h; omega
      simp [nameOk, hl]
end
end Rb

/- What the functions of package kind give: depth, soundness. -/
set_option linter.unusedVariables false
set_option linter.unusedSimpArgs false
namespace Rb
open Go

mutual
theorem dep_le : ∀ (t : GType) (m : Nat), 1 ≤ m → 1 ≤ depT m t ∧ depT m t ≤ m
  | .mk kind size packed fields count elem, m, hm => by
    simp only [depT]
    split
    · rename_i h
      have h1 := depFs_le fields (m - 1) (by omega)
      have h2 := depEs_le elem (m - 1) (by omega)
      omega
    · omega
theorem depF_le : ∀ (f : GField) (m : Nat), 1 ≤ m → 0 ≤ depF m f ∧ depF m f ≤ m
  | .mk name type bits width, m, hm => by
    have := dep_le type m hm
    simp only [depF]; omega
theorem depFs_le : ∀ (l : List GField) (m : Nat), 1 ≤ m → 0 ≤ depFs m l ∧ depFs m l ≤ m
  | [], m, hm => by simp only [depFs]; omega
  | f :: r, m, hm => by
    have h1 := depF_le f m hm
    have h2 := depFs_le r m hm
    simp only [depFs]; omega
theorem depEs_le : ∀ (l : List GType) (m : Nat), 1 ≤ m → 0 ≤ depEs m l ∧ depEs m l ≤ m
  | [], m, hm => by simp only [depEs]; omega
  | t :: r, m, hm => by
    have h1 := dep_le t m hm
    have h2 := depEs_le r m hm
    simp only [depEs]; omega
end
theorem depF_eq (f : GField) (m : Nat) : depF m f = depT m f.type := by cases f; rfl
theorem depT_eq (t : GType) (m : Nat) : depT m t = if 1 < m then max (depFs (m - 1) t.fields) (depEs (m - 1) t.elem) + 1 else 1 := by cases t; rfl
theorem sndT_eq (t : GType) : sndT t = if onlyM t.kind t.size t.packed t.fields.length t.count t.elem.length = false then 8
    else if t.kind = 1 then (if pow2 t.size 8 then 0 else 9)
    else if t.kind = 2 then (if pow2 t.size 16 then 0 else 9)
    else if t.kind = 5 then (if t.count < 1 ∨ 65536 < t.count then 9 else sndE t.elem)
    else if t.fields.length < 1 ∨ 32 < t.fields.length then 12
    else sndFs t.packed [] t.fields := by cases t; rfl
theorem sndF_eq (packed : Bool) (seen : List (List UInt8)) (f : GField) : sndF packed seen f = if nameOk f.name = false ∧ (f.name ≠ [] ∨ f.bits = false) then 6
    else if f.name ≠ [] ∧ seen.contains f.name = true then 7
    else if sndT f.type ≠ 0 then sndT f.type
    else if (f.bits = false ∧ f.width ≠ 0) ∨ (f.bits = true ∧ (f.type.kind ≠ 1 ∨ packed = true)) then 8
    else if f.bits = true ∧ (f.width < 0 ∨ 8 * f.type.size < f.width ∨ (f.width = 0 ∧ f.name ≠ [])) then 9
    else 0 := by cases f; rfl

section
variable {Φ : Calls'} {H : AH} {Q : Post}

theorem kind_power_spec {n most : Int} (hm : most = 8 ∨ most = 16) (hQ : Q (.bool (pow2 n most)) H) : S.kind_power Φ (.int .i64 n) (.int .i64 most) H Q := by
  have e : ∀ b : Bool, b = pow2 n most → Q (.bool b) H := fun b h => by rw [h]; exact hQ
  simp only [S.kind_power, S.kind_power_k1, JoinP_def, sl_zero, abin_geq, abin_leq, Do_of, Gd3_true, Bool.false_eq_true, if_false]
  refine ite_both (fun h1 => ?_) (fun h1 => ?_)
  · refine ite_both (fun h2 => ?_) (fun h2 => ?_)
    · simp only [ge_iff_le, decide_eq_true_eq] at h1 h2
      have : n = 1 ∨ n = 2 ∨ n = 3 ∨ n = 4 ∨ n = 5 ∨ n = 6 ∨ n = 7 ∨ n = 8 ∨ n = 9 ∨ n = 10 ∨ n = 11 ∨ n = 12 ∨ n = 13 ∨ n = 14 ∨ n = 15 ∨ n = 16 := by omega
      have hle : decide (n ≤ most) = true := by simpa using h2
      simp only [abin_sub, Do_of, abin_and, abin_eql]
      refine e _ ?_
      unfold pow2
      rw [hle, Bool.and_true]
      clear hle h2 h1 hQ e
      rcases this with rfl | rfl | rfl | rfl | rfl | rfl | rfl | rfl | rfl | rfl | rfl | rfl | rfl | rfl | rfl | rfl <;> decide
    · refine e _ ?_
      simp only [decide_eq_true_eq] at h2
      simp [pow2, h2]
  · refine e _ ?_
    simp only [ge_iff_le, decide_eq_true_eq] at h1
    have : n ≠ 1 ∧ n ≠ 2 ∧ n ≠ 4 ∧ n ≠ 8 ∧ n ≠ 16 := by omega
    simp [pow2, this]

theorem kind_only_spec {t : GType} (hQ : Q (.bool (onlyM t.kind t.size t.packed t.fields.length t.count t.elem.length)) H) : S.kind_only Φ (.agg t.cells) H Q := by
  have e : ∀ b : Bool, b = onlyM t.kind t.size t.packed t.fields.length t.count t.elem.length → Q (.bool b) H := fun b h => by rw [h]; exact hQ
  clear hQ
  simp only [S.kind_only, S.kind_only_k1, S.kind_only_k2, S.kind_only_k3, S.kind_only_k4, S.kind_only_k5, S.kind_only_k6, S.kind_only_k7, ty_box, DoH_some, ty_addr, ty_l0, ty_l1, ty_l2, ty_l3, ty_l4, ty_l5, lstA_len', JoinP_def, sl_zero, abin_eql, aun_not, Do_of, Gd3_true, Gd3_false]
  generalize t.kind = k at *
  generalize t.size = sz at *
  generalize t.packed = pk at *
  generalize t.fields.length = nf at *
  generalize t.count = ct at *
  generalize t.elem.length = ne at *
  by_cases h1 : k = 1
  · subst h1
    simp only [BEq.rfl, Int.reduceBEq, Bool.true_eq_false, Bool.false_eq_true, if_true, if_false, Bool.not_false, Bool.not_true]
    repeat' (refine ite_both (fun h => ?_) (fun h => ?_))
    all_goals (refine e _ ?_; simp_all [onlyM])
  by_cases h2 : k = 2
  · subst h2
    simp only [BEq.rfl, Int.reduceBEq, Bool.true_eq_false, Bool.false_eq_true, if_true, if_false, Bool.not_false, Bool.not_true]
    repeat' (refine ite_both (fun h => ?_) (fun h => ?_))
    all_goals (refine e _ ?_; simp_all [onlyM])
  by_cases h3 : k = 3
  · subst h3
    simp only [BEq.rfl, Int.reduceBEq, Bool.true_eq_false, Bool.false_eq_true, if_true, if_false, Bool.not_false, Bool.not_true]
    repeat' (refine ite_both (fun h => ?_) (fun h => ?_))
    all_goals (refine e _ ?_; simp_all [onlyM])
  by_cases h4 : k = 4
  · subst h4
    simp only [BEq.rfl, Int.reduceBEq, Bool.true_eq_false, Bool.false_eq_true, if_true, if_false, Bool.not_false, Bool.not_true]
    repeat' (refine ite_both (fun h => ?_) (fun h => ?_))
    all_goals (refine e _ ?_; simp_all [onlyM])
  by_cases h5 : k = 5
  · subst h5
    simp only [BEq.rfl, Int.reduceBEq, Bool.true_eq_false, Bool.false_eq_true, if_true, if_false, Bool.not_false, Bool.not_true]
    repeat' (refine ite_both (fun h => ?_) (fun h => ?_))
    all_goals (refine e _ ?_; simp_all [onlyM]) <;> (rw [Bool.eq_iff_iff]; simp; try omega)
  · have g1 : (k == 1) = false := by simpa using h1
    have g2 : (k == 2) = false := by simpa using h2
    have g3 : (k == 3) = false := by simpa using h3
    have g4 : (k == 4) = false := by simpa using h4
    have g5 : (k == 5) = false := by simpa using h5
    simp only [g1, g2, g3, g4, g5, Bool.true_eq_false, Bool.false_eq_true, if_true, if_false, Bool.not_false, Bool.not_true]
    repeat' (refine ite_both (fun h => ?_) (fun h => ?_))
    all_goals (refine e _ ?_; simp_all [onlyM])

theorem kind_depth_spec {t : GType} {m : Nat} (h1 : 1 ≤ m) (h2 : m ≤ 65) (hlf : t.fields.length ≤ maxLen) (hle : t.elem.length ≤ maxLen)
    (hf : 1 < m → ∀ f ∈ t.fields, Val Φ K.kind_depth [.agg f.type.cells, .int .i64 ((m - 1 : Nat) : Int)] (.int .i64 (depT (m - 1) f.type)))
    (he : 1 < m → ∀ x ∈ t.elem, Val Φ K.kind_depth [.agg x.cells, .int .i64 ((m - 1 : Nat) : Int)] (.int .i64 (depT (m - 1) x)))
    (hQ : ∀ H', Q (.int .i64 (depT m t)) H') : S.kind_depth Φ (.agg t.cells) (.int .i64 m) H Q := by
  have hm : maxLen = 9223372036854775807 := by decide
  rw [hm] at hlf hle
  have k1 : ∀ (v : Int) (H : AH), 0 ≤ v → v ≤ 64 → v + 1 = depT m t → JoinP (S.kind_depth_k1 Φ Q) [.int .i64 v] H := by
    intro v H hv0 hv1 hv
    simp only [JoinP_def, S.kind_depth_k1, sl_zero, abin_add, Do_of]
    rw [wrap_i64 (by omega) (by omega), hv]
    exact hQ H
  unfold S.kind_depth
  simp only [ty_box, DoH_some, abin_gtr, Do_of, Gd_true]
  refine ite_both (fun h => ?_) (fun h => ?_)
  · have hm1 : 1 < m := by simp at h; omega
    have hsub : IntKind.wrap .i64 ((m : Int) - 1) = ((m - 1 : Nat) : Int) := by rw [wrap_i64 (by omega) (by omega)]; omega
    have dE := depEs_le t.elem (m - 1) (by omega)
    have dF := depFs_le t.fields (m - 1) (by omega)
    have hfin : depT m t = max (depFs (m - 1) t.fields) (depEs (m - 1) t.elem) + 1 := by rw [depT_eq, if_pos hm1]
    have loopE : ∀ (xs : List GType) (i : Nat) (acc : Int) (H : AH), t.elem.drop i = xs → 0 ≤ acc → acc ≤ 64 → max acc (depEs (m - 1) xs) + 1 = depT m t →
        LoopP (S.kind_depth_l2 Φ (.int .i64 m) (lstA GType.cells t.elem) (.int .i64 t.elem.length) Q) ([.int .i64 acc, .int .i64 i], H) := by
      intro xs
      induction xs with
      | nil =>
        intro i acc H hd ha0 ha1 ha
        have hle' := drop_nil_le hd
        refine LoopP.step ?_
        simp only [S.kind_depth_l2, sl_zero, sl_succ, abin_lss, Do_of, Gd_true]
        rw [if_neg (by simp only [decide_eq_true_eq]; omega)]
        refine k1 _ _ ha0 ha1 ?_
        simp only [depEs] at ha
        omega
      | cons x xs ih =>
        intro i acc H hd ha0 ha1 ha
        obtain ⟨hlt, hx, hd'⟩ := drop_cons_lt hd
        have hmem := List.mem_of_getElem? hx
        refine LoopP.step ?_
        simp only [S.kind_depth_l2, sl_zero, sl_succ, abin_lss, Do_of, Gd_true]
        rw [if_pos (by simp only [decide_eq_true_eq]; omega), lstA_addr hlt]
        simp only [Do_of]
        rw [elA_load GType.len (by decide) _ hx]
        simp only [Do_of, DoH_some, abox, if_true]
        rw [store_new _ _ _ 6 x.len x.scalar rfl]
        simp only [Do_of]
        rw [load_push, takeCells_whole x.len]
        simp only [Do_of, abin_sub, hsub]
        refine he hm1 x hmem _ _ ?_
        have hb := dep_le x (m - 1) (by omega)
        rw [max_int]
        simp only [Do_of, abin_add]
        rw [wrap_i64 (by omega) (by omega), show ((i : Int) + 1) = ((i + 1 : Nat) : Int) by simp]
        refine ih (i + 1) _ _ hd' (by omega) (by omega) ?_
        simp only [depEs] at ha
        omega
    have k3 : ∀ (acc : Int) (H : AH), 0 ≤ acc → acc ≤ 64 → max acc (depEs (m - 1) t.elem) + 1 = depT m t → JoinP (S.kind_depth_k3 Φ (.int .i64 m) (.fptr t.cells) Q) [.int .i64 acc] H := by
      intro acc H ha0 ha1 ha
      simp only [JoinP_def, S.kind_depth_k3, sl_zero, ty_addr, ty_l5, lstA_len', Do_of]
      exact loopE t.elem 0 acc H rfl ha0 ha1 ha
    have loopF : ∀ (xs : List GField) (i : Nat) (acc : Int) (H : AH), t.fields.drop i = xs → 0 ≤ acc → acc ≤ 64 → max (max acc (depFs (m - 1) xs)) (depEs (m - 1) t.elem) + 1 = depT m t →
        LoopP (S.kind_depth_l4 Φ (.int .i64 m) (.fptr t.cells) (lstA GField.cells t.fields) (.int .i64 t.fields.length) Q) ([.int .i64 acc, .int .i64 i], H) := by
      intro xs
      induction xs with
      | nil =>
        intro i acc H hd ha0 ha1 ha
        have hle' := drop_nil_le hd
        refine LoopP.step ?_
        simp only [S.kind_depth_l4, sl_zero, sl_succ, abin_lss, Do_of, Gd_true]
        rw [if_neg (by simp only [decide_eq_true_eq]; omega)]
        refine k3 _ _ ha0 ha1 ?_
        simp only [depFs] at ha
        omega
      | cons x xs ih =>
        intro i acc H hd ha0 ha1 ha
        obtain ⟨hlt, hx, hd'⟩ := drop_cons_lt hd
        have hmem := List.mem_of_getElem? hx
        refine LoopP.step ?_
        simp only [S.kind_depth_l4, sl_zero, sl_succ, abin_lss, Do_of, Gd_true]
        rw [if_pos (by simp only [decide_eq_true_eq]; omega), lstA_addr hlt]
        simp only [Do_of]
        rw [elA_load GField.len (by decide) _ hx]
        simp only [Do_of, DoH_some, abox, if_true]
        rw [store_new _ _ _ 9 x.len x.scalar rfl]
        simp only [Do_of, afaddr, Nat.zero_add]
        rw [load_push, fd_t1]
        simp only [Do_of, abin_sub, hsub]
        refine hf hm1 x hmem _ _ ?_
        have hb := dep_le x.type (m - 1) (by omega)
        rw [max_int]
        simp only [Do_of, abin_add]
        rw [wrap_i64 (by omega) (by omega), show ((i : Int) + 1) = ((i + 1 : Nat) : Int) by simp]
        refine ih (i + 1) _ _ hd' (by omega) (by omega) ?_
        simp only [depFs, depF_eq] at ha
        omega
    simp only [ty_addr, ty_l3, lstA_len', Do_of]
    refine loopF t.fields 0 0 H rfl (by omega) (by omega) ?_
    omega
  · have hm1 : m = 1 := by simp at h; omega
    subst hm1
    refine k1 0 H (by omega) (by omega) ?_
    rw [depT_eq]; rfl
end
end Rb

/- What the functions of package kind give: fields, groups, soundness. -/
set_option linter.unusedVariables false
set_option linter.unusedSimpArgs false
namespace Rb
open Go

section
variable {α : Type} {cells : α → List AV} {sz : Nat}
theorem flatMap_take (hc : ∀ x, (cells x).length = sz) : ∀ (xs : List α) (i : Nat), (xs.flatMap cells).take (i * sz) = (xs.take i).flatMap cells := by
  intro xs i
  induction i generalizing xs with
  | zero => simp
  | succ i ih =>
    cases xs with
    | nil => simp
    | cons x xs =>
      rw [List.flatMap_cons, List.take_succ_cons, List.flatMap_cons, ← ih]
      rw [show (i + 1) * sz = (cells x).length + i * sz by rw [hc, Nat.add_mul, Nat.one_mul, Nat.add_comm], List.take_length_add_append]
theorem slice_take (hc : ∀ x, (cells x).length = sz) {xs : List α} {n : Nat} (hn : n ≤ xs.length) : aslice sz (lstA cells xs) none (some (.int .i64 n)) none = some (lstA cells (xs.take n)) := by
  simp only [lstA, aslice, abound, Option.map_none]
  rw [if_pos (by omega)]
  simp only
  rw [if_pos ⟨Nat.zero_le _, by omega, flatMap_len hc xs⟩]
  by_cases h : n = xs.length
  · rw [if_pos (by simp; omega), h, List.take_length]
  · rw [if_neg (by omega)]
    have : ((n : Int)).toNat = n := by omega
    simp only [this, if_true, Nat.sub_zero, Nat.zero_mul, List.drop_zero, flatMap_take hc]
    rw [List.length_take, Nat.min_eq_left hn]
end
theorem idxI_any {α : Type} (p : α → Bool) (xs : List α) : decide (idxI (xs.findIdx? p) ≥ 0) = xs.any p := by
  cases hf : xs.findIdx? p with
  | none =>
    rw [List.findIdx?_eq_none_iff] at hf
    have : xs.any p = false := by simpa using hf
    rw [this]; rfl
  | some i =>
    obtain ⟨hi, h1, _⟩ := List.findIdx?_eq_some_iff_getElem.1 hf
    have : xs.any p = true := by rw [List.any_eq_true]; exact ⟨xs[i], List.getElem_mem hi, h1⟩
    rw [this]; simp [idxI]

section
variable {Φ : Calls'} {H : AH} {Q : Post}

theorem fieldIndex {p : GField → Bool} {key : Nat} {caps : List AV} {xs : List GField} (hf : ∀ x ∈ xs, ∀ (R : Post), R (.bool (p x)) H → Φ key ([.agg x.cells] ++ caps) H R) (hl : xs.length ≤ 9223372036854775807)
    (hQ : Q (.int .i64 (idxI (xs.findIdx? p))) H) : S.slices_IndexFunc___api_Field_api_Field_ Φ (lstA GField.cells xs) (.fn key caps) H Q := by
  have h : IndexFunc 9 Φ (lstA GField.cells xs) (.fn key caps) H Q := IndexFunc_spec GField.len (by decide) hf hl hQ
  exact h
theorem fields_contains (hT : Cl Φ S.tab_Chk) {p : GField → Bool} {key : Nat} {caps : List AV} {xs : List GField} (hf : ∀ x ∈ xs, ∀ (R : Post), R (.bool (p x)) H → Φ key ([.agg x.cells] ++ caps) H R) (hl : xs.length ≤ 9223372036854775807)
    (hQ : Q (.bool (xs.any p)) H) : Φ K.slices_ContainsFunc___api_Field_api_Field_ [lstA GField.cells xs, .fn key caps] H Q := by
  refine S.cl_slices_ContainsFunc___api_Field_api_Field_ hT ?_
  unfold S.slices_ContainsFunc___api_Field_api_Field_
  refine S.cl_slices_IndexFunc___api_Field_api_Field_ hT (fieldIndex hf hl ?_)
  simp only [abin_geq, Do_of, idxI_any]
  exact hQ

theorem field_c1 {g : GField} {cs : List AV} {id : Nat} {s : List UInt8} (hat : At H id (.row cs)) (ht : takeCells cs 0 1 false = some (.str s)) (hQ : Q (.bool (g.name == s)) H) : S.kind_field_c1 Φ (.agg g.cells) (.ptr id 0) H Q := by
  unfold S.kind_field_c1
  have hb : aboxv H false 9 (.agg g.cells) = some (.fptr g.cells, H) := by unfold aboxv; rw [if_pos ⟨rfl, g.len⟩]; rfl
  rw [hb]
  have l0 : aload H 1 false (.fptr (g.cells.drop 0)) = some (.str g.name) := fd_t0 g
  have l1 : aload H 1 false (.ptr id 0) = some (.str s) := by rw [hat.load]; exact ht
  simp only [DoH_some, afaddr, Do_of, l0, Nat.add_zero, l1, abin_streq']
  exact hQ

theorem kind_field_spec (hT : Cl Φ S.tab_Chk) {t : GType} {i : Nat} {f : GField} (hi : t.fields[i]? = some f) (hl : t.fields.length ≤ 32) (hs : Val Φ K.kind_sound [.agg f.type.cells] (.int .i64 (sndT f.type))) (hname : ∀ s, Val Φ K.kind_Name [.str s] (.bool (nameOk s)))
    (hQ : ∀ H', Q (.int .i64 (sndF t.packed ((t.fields.take i).map GField.name) f)) H') : S.kind_field Φ (.agg t.cells) (.int .i64 i) H Q := by
  have hlt := (List.getElem?_eq_some_iff.1 hi).1
  unfold S.kind_field
  simp only [ty_box, DoH_some, ty_addr, ty_l3, Do_of]
  rw [lstA_addr hlt]
  simp only [Do_of]
  rw [elA_load GField.len (by decide) _ hi]
  simp only [Do_of, DoH_some, abox, if_true]
  rw [store_new _ _ _ 9 f.len f.scalar rfl]
  simp only [Do_of, afaddr, Nat.add_zero, Nat.zero_add]
  have r0 : aload (H.push (.row f.cells)) 1 false (.ptr H.n 0) = some (.str f.name) := by rw [load_push, fd_t0]
  have r7 : aload (H.push (.row f.cells)) 1 false (.ptr H.n 7) = some (.bool f.bits) := by rw [load_push, fd_t7]
  have r8 : aload (H.push (.row f.cells)) 1 false (.ptr H.n 8) = some (.int .i64 f.width) := by rw [load_push, fd_t8]
  have r1 : aload (H.push (.row f.cells)) 6 true (.ptr H.n 1) = some (.agg f.type.cells) := by rw [load_push, fd_t1]
  have rk : aload (H.push (.row f.cells)) 1 false (.ptr H.n 1) = some (.int .i64 f.type.kind) := by rw [load_push, fd_k]
  have rs : aload (H.push (.row f.cells)) 1 false (.ptr H.n 2) = some (.int .i64 f.type.size) := by rw [load_push, fd_s]
  have hat := At.new H (.row f.cells)
  generalize hH1 : H.push (.row f.cells) = H1 at *
  have fin : ∀ v, v = sndF t.packed ((t.fields.take i).map GField.name) f → Q (.int .i64 v) H1 := fun v h => by rw [h]; exact hQ H1
  rw [r0]
  simp only [Do_of]
  refine hname _ _ _ ?_
  have k4 : ¬ (nameOk f.name = false ∧ (f.name ≠ [] ∨ f.bits = false)) → ¬ (f.name ≠ [] ∧ ((t.fields.take i).map GField.name).contains f.name = true) → S.kind_field_k4 Φ (.fptr t.cells) (.ptr H.n 0) Q [] H1 := by
    intro n1 n2
    have e1 : sndF t.packed ((t.fields.take i).map GField.name) f = if sndT f.type ≠ 0 then sndT f.type
        else if (f.bits = false ∧ f.width ≠ 0) ∨ (f.bits = true ∧ (f.type.kind ≠ 1 ∨ t.packed = true)) then 8
        else if f.bits = true ∧ (f.width < 0 ∨ 8 * f.type.size < f.width ∨ (f.width = 0 ∧ f.name ≠ [])) then 9
        else 0 := by rw [sndF_eq, if_neg n1, if_neg n2]
    rw [e1] at fin
    clear e1
    simp only [S.kind_field_k4, afaddr, Nat.zero_add, Do_of, r1]
    refine hs _ _ ?_
    simp only [abin_neq, Do_of, Gd_true]
    refine ite_both (fun h => ?_) (fun h => ?_)
    · exact fin _ (by rw [if_pos (by simpa using h)])
    · have h0 : sndT f.type = 0 := by simpa using h
      rw [if_neg (by simpa using h0)] at fin
      have k2 : ∀ b : Bool, (b = true ↔ ((f.bits = false ∧ f.width ≠ 0) ∨ (f.bits = true ∧ (f.type.kind ≠ 1 ∨ t.packed = true)))) → JoinP (S.kind_field_k2 Φ (.ptr H.n 0) Q) [.bool b] H1 := by
        intro b hb
        simp only [JoinP_def, S.kind_field_k2, sl_zero, Gd_true, afaddr, Nat.zero_add, Do_of, r7]
        refine ite_both (fun h => ?_) (fun h => ?_)
        · exact fin _ (by rw [if_pos (hb.1 h)])
        · have hn : ¬ ((f.bits = false ∧ f.width ≠ 0) ∨ (f.bits = true ∧ (f.type.kind ≠ 1 ∨ t.packed = true))) := fun x => h (hb.2 x)
          rw [if_neg hn] at fin
          have k1 : ∀ b : Bool, (b = true ↔ (f.bits = true ∧ (f.width < 0 ∨ 8 * f.type.size < f.width ∨ (f.width = 0 ∧ f.name ≠ [])))) → JoinP (S.kind_field_k1 Φ Q) [.bool b] H1 := by
            intro b hb
            simp only [JoinP_def, S.kind_field_k1, sl_zero, Gd_true]
            refine ite_both (fun h => ?_) (fun h => ?_)
            · exact fin _ (by rw [if_pos (hb.1 h)])
            · exact fin _ (by rw [if_neg fun x => h (hb.2 x)])
          simp only [Gd3_true]
          refine ite_both (fun hbits => ?_) (fun hbits => ?_)
          · have hk1 : f.type.kind = 1 := by
              by_cases hk : f.type.kind = 1
              · exact hk
              · exact absurd (.inr ⟨hbits, .inl hk⟩) hn
            have hsz : 1 ≤ f.type.size ∧ f.type.size ≤ 8 := by
              rw [sndT_eq, hk1] at h0
              split at h0
              · cases h0
              · simp only [if_true] at h0
                split at h0
                · rename_i hp
                  simp [pow2] at hp
                  omega
                · cases h0
            simp only [r8, abin_lss, Do_of, Gd3_false]
            refine ite_both (fun hw => ?_) (fun hw => ?_)
            · simp only [rs, Do_of, abin_mul]
              rw [wrap_i64 (by omega) (by omega)]
              simp only [abin_gtr, Do_of, Gd3_false]
              refine ite_both (fun hw2 => ?_) (fun hw2 => ?_)
              · simp only [abin_eql, Do_of, Gd3_true]
                refine ite_both (fun hw3 => ?_) (fun hw3 => ?_)
                · simp only [r0, Do_of, abin_strne]
                  refine k1 _ ?_
                  simp only [decide_eq_false_iff_not, gt_iff_lt, beq_iff_eq] at hw hw2 hw3
                  simp [hbits, hw3]; omega
                · refine k1 _ ?_
                  simp only [decide_eq_false_iff_not, gt_iff_lt, beq_iff_eq] at hw hw2 hw3
                  simp [hbits, hw3]; omega
              · refine k1 _ ?_
                simp only [decide_eq_false_iff_not, Decidable.not_not, gt_iff_lt] at hw2
                simp [hbits, hw2]
            · refine k1 _ ?_
              simp only [decide_eq_false_iff_not, Decidable.not_not] at hw
              simp [hbits, hw]
          · refine k1 _ ?_
            simp [hbits]
      have k3 : ∀ b : Bool, (b = true ↔ (f.bits = false ∧ f.width ≠ 0)) → JoinP (S.kind_field_k3 Φ (.fptr t.cells) (.ptr H.n 0) Q) [.bool b] H1 := by
        intro b hb
        simp only [JoinP_def, S.kind_field_k3, sl_zero, Gd3_false, afaddr, Nat.zero_add, Do_of, r7]
        refine ite_both (fun h => ?_) (fun h => ?_)
        · have hn : ¬ (f.bits = false ∧ f.width ≠ 0) := fun x => by rw [hb.2 x] at h; cases h
          simp only [Gd3_true]
          refine ite_both (fun hbits => ?_) (fun hbits => ?_)
          · simp only [rk, abin_neq, Do_of, Gd3_false]
            refine ite_both (fun hk => ?_) (fun hk => ?_)
            · have hl2 : aload H1 1 false (.fptr (t.cells.drop 2)) = some (.bool t.packed) := ty_l2 t H1
              simp only [hl2, Do_of]
              refine k2 _ ?_
              simp only [bne_eq_false_iff_eq] at hk
              simp [hbits, hk]
            · refine k2 _ ?_
              simp only [Bool.not_eq_false, bne_iff_ne, ne_eq] at hk
              simp [hbits, hk]
          · refine k2 _ ?_
            simp only [Bool.not_eq_true] at hbits
            simp only [hbits] at hn ⊢
            simp at hn
            simp [hn]
        · refine k2 _ ?_
          have := hb.1 (by simpa using h)
          simp [this]
      simp only [afaddr, Nat.zero_add, Do_of, r7, aun_not, Gd3_true, r8, abin_neq]
      refine ite_both (fun hbits => ?_) (fun hbits => ?_)
      · refine k3 _ ?_
        simp only [Bool.not_eq_true'] at hbits
        simp [hbits]
      · refine k3 _ ?_
        simp only [Bool.not_eq_true', Bool.not_eq_false] at hbits
        simp [hbits]
  have k5 : ∀ b : Bool, ¬ (nameOk f.name = false ∧ (f.name ≠ [] ∨ f.bits = false)) → (b = true ↔ (f.name ≠ [] ∧ ((t.fields.take i).map GField.name).contains f.name = true)) → JoinP (S.kind_field_k5 Φ (.fptr t.cells) (.ptr H.n 0) Q) [.bool b] H1 := by
    intro b n1 hb
    simp only [JoinP_def, S.kind_field_k5, sl_zero, Gd_true]
    refine ite_both (fun h => ?_) (fun h => ?_)
    · exact fin _ (by rw [sndF_eq, if_neg n1, if_pos (hb.1 h)])
    · exact k4 n1 fun x => h (hb.2 x)
  have k6 : ∀ b : Bool, (b = true ↔ (nameOk f.name = false ∧ (f.name ≠ [] ∨ f.bits = false))) → JoinP (S.kind_field_k6 Φ (.int .i64 i) (.fptr t.cells) (.ptr H.n 0) Q) [.bool b] H1 := by
    intro b hb
    simp only [JoinP_def, S.kind_field_k6, sl_zero, Gd_true, afaddr, Nat.zero_add, Nat.add_zero, Do_of, r0, abin_strne, Gd3_true]
    refine ite_both (fun h => ?_) (fun h => ?_)
    · exact fin _ (by rw [sndF_eq, if_pos (hb.1 h)])
    · have n1 : ¬ (nameOk f.name = false ∧ (f.name ≠ [] ∨ f.bits = false)) := fun x => h (hb.2 x)
      refine ite_both (fun hne => ?_) (fun hne => ?_)
      · have hl3 : aload H1 1 false (.fptr (t.cells.drop 3)) = some (lstA GField.cells t.fields) := ty_l3 t H1
        simp only [hl3, Do_of]
        rw [slice_take GField.len (Nat.le_of_lt hlt)]
        simp only [Do_of]
        refine fields_contains hT (p := fun g => g.name == f.name) (fun x hx R hR => ?_) (by rw [List.length_take]; omega) ?_
        · exact S.cl_kind_field_c1 hT (field_c1 hat (fd_t0 f) hR)
        · refine k5 _ n1 ?_
          simp only [Bool.not_eq_true', beq_eq_false_iff_ne, ne_eq] at hne
          rw [List.any_eq_true, List.contains_iff_mem, List.mem_map]
          simp only [beq_iff_eq, ne_eq, hne, not_false_eq_true, true_and]
      · refine k5 _ n1 ?_
        simp only [Bool.not_eq_true', beq_eq_false_iff_ne, ne_eq, Decidable.not_not] at hne
        simp [hne]
  simp only [aun_not, Do_of, Gd3_true, r0, abin_strne, Gd3_false, r7]
  refine ite_both (fun h1 => ?_) (fun h1 => ?_)
  · simp only [Bool.not_eq_true'] at h1
    refine ite_both (fun h2 => ?_) (fun h2 => ?_)
    · refine k6 _ ?_
      simp only [Bool.not_eq_false', beq_iff_eq] at h2
      simp [h1, h2, nameOk]
    · refine k6 _ ?_
      simp only [Bool.not_eq_false', beq_iff_eq] at h2
      simp [h1, h2]
  · refine k6 _ ?_
    simp only [Bool.not_eq_true', Bool.not_eq_false] at h1
    simp [h1]

theorem kind_group_spec {t : GType} (hl : t.fields.length ≤ maxLen)
    (hfield : t.fields.length ≤ 32 → ∀ (i : Nat) (f : GField), t.fields[i]? = some f → Val Φ K.kind_field [.agg t.cells, .int .i64 i] (.int .i64 (sndF t.packed ((t.fields.take i).map GField.name) f)))
    (hQ : Q (.int .i64 (if t.fields.length < 1 ∨ 32 < t.fields.length then 12 else sndFs t.packed [] t.fields)) H) : S.kind_group Φ (.agg t.cells) H Q := by
  have fin : ∀ v, v = (if t.fields.length < 1 ∨ 32 < t.fields.length then 12 else sndFs t.packed [] t.fields) → Q (.int .i64 v) H := fun v h => by rw [h]; exact hQ
  clear hQ
  unfold S.kind_group
  simp only [ty_box, DoH_some, ty_addr, ty_l3, lstA_len', abin_lss, abin_gtr, Do_of, Gd3_false]
  have k3 : ∀ b : Bool, (b = true ↔ (t.fields.length < 1 ∨ 32 < t.fields.length)) → JoinP (S.kind_group_k3 Φ (.fptr t.cells) Q) [.bool b] H := by
    intro b hb
    simp only [JoinP_def, S.kind_group_k3, sl_zero, Gd_true]
    refine ite_both (fun h => ?_) (fun h => ?_)
    · exact fin _ (by rw [if_pos (hb.1 h)])
    · have hn : ¬ (t.fields.length < 1 ∨ 32 < t.fields.length) := fun x => h (hb.2 x)
      rw [if_neg hn] at fin
      simp only [S.kind_group_k2, ty_addr, ty_l3, lstA_len', Do_of]
      have main : ∀ (rest : List GField) (i : Nat), t.fields.drop i = rest → sndFs t.packed ((t.fields.take i).map GField.name) rest = sndFs t.packed [] t.fields → LoopP (S.kind_group_l1 Φ (.fptr t.cells) (.int .i64 t.fields.length) Q) ([.int .i64 i], H) := by
        intro rest
        induction rest with
        | nil =>
          intro i hd hs
          have hle := drop_nil_le hd
          refine LoopP.step ?_
          simp only [S.kind_group_l1, sl_zero, abin_lss, Do_of, Gd_true]
          rw [if_neg (by simp only [decide_eq_true_eq]; omega)]
          exact fin _ (by rw [← hs]; rfl)
        | cons f rest ih =>
          intro i hd hs
          obtain ⟨hlt, hf, hd'⟩ := drop_cons_lt hd
          refine LoopP.step ?_
          simp only [S.kind_group_l1, sl_zero, abin_lss, Do_of, Gd_true]
          rw [if_pos (by simp only [decide_eq_true_eq]; omega)]
          simp only [ty_all, Do_of]
          refine hfield (by omega) i f hf _ _ ?_
          simp only [abin_neq, Do_of, Gd_true]
          simp only [sndFs] at hs
          refine ite_both (fun h => ?_) (fun h => ?_)
          · have h' : sndF t.packed ((t.fields.take i).map GField.name) f ≠ 0 := by simpa using h
            rw [if_pos h'] at hs
            exact fin _ hs
          · have h' : ¬ sndF t.packed ((t.fields.take i).map GField.name) f ≠ 0 := by simpa using h
            rw [if_neg h'] at hs
            simp only [abin_add, Do_of]
            rw [wrap_i64 (by omega) (by omega), show ((i : Int) + 1) = ((i + 1 : Nat) : Int) by simp]
            refine ih (i + 1) hd' ?_
            rw [List.take_add_one, hf]
            simpa using hs
      exact main t.fields 0 rfl rfl
  refine ite_both (fun h => ?_) (fun h => ?_)
  · refine k3 _ ?_
    simp only [decide_eq_false_iff_not] at h
    simp only [decide_eq_true_eq, gt_iff_lt]; omega
  · refine k3 _ ?_
    simp only [decide_eq_false_iff_not, Decidable.not_not] at h
    simp only [true_iff]; omega

theorem kind_sound_spec (hT : Cl Φ S.tab_Chk) {t : GType} (hgroup : Val Φ K.kind_group [.agg t.cells] (.int .i64 (if t.fields.length < 1 ∨ 32 < t.fields.length then 12 else sndFs t.packed [] t.fields)))
    (helem : ∀ e ∈ t.elem, Val Φ K.kind_sound [.agg e.cells] (.int .i64 (sndT e))) (hQ : Q (.int .i64 (sndT t)) H) : S.kind_sound Φ (.agg t.cells) H Q := by
  have fin : ∀ v, v = sndT t → Q (.int .i64 v) H := fun v h => by rw [h]; exact hQ
  clear hQ
  rw [sndT_eq] at fin
  unfold S.kind_sound
  simp only [ty_box, DoH_some, ty_all, Do_of]
  refine S.cl_kind_only hT (kind_only_spec ?_)
  simp only [aun_not, Do_of, Gd_true]
  refine ite_both (fun h => ?_) (fun h => ?_)
  · exact fin _ (by rw [if_pos (by simpa using h)])
  · have ho : onlyM t.kind t.size t.packed t.fields.length t.count t.elem.length = true := by simpa using h
    rw [ho] at fin
    simp only [Bool.true_eq_false, if_false] at fin
    simp only [ty_addr, ty_l0, ty_l1, ty_l4, ty_l5, abin_eql, abin_lss, abin_gtr, Do_of, Gd_true, Gd3_false, beq_iff_eq]
    refine ite_both (fun h1 => ?_) (fun h1 => ?_)
    · rw [if_pos h1] at fin
      refine S.cl_kind_power hT (kind_power_spec (.inl rfl) ?_)
      simp only [aun_not, Do_of, Gd_true]
      refine ite_both (fun h2 => ?_) (fun h2 => ?_)
      · exact fin _ (by rw [if_neg (by simpa using h2)])
      · exact fin _ (by rw [if_pos (by simpa using h2)])
    · rw [if_neg h1] at fin
      refine ite_both (fun h2 => ?_) (fun h2 => ?_)
      · rw [if_pos h2] at fin
        refine S.cl_kind_power hT (kind_power_spec (.inr rfl) ?_)
        simp only [aun_not, Do_of, Gd_true]
        refine ite_both (fun h2 => ?_) (fun h2 => ?_)
        · exact fin _ (by rw [if_neg (by simpa using h2)])
        · exact fin _ (by rw [if_pos (by simpa using h2)])
      · rw [if_neg h2] at fin
        refine ite_both (fun h5 => ?_) (fun h5 => ?_)
        · rw [if_pos h5] at fin
          obtain ⟨e, he⟩ : ∃ e, t.elem = [e] := by
            have : t.elem.length = 1 := by
              simp only [onlyM, h5] at ho
              simp at ho
              exact ho.2
            exact List.length_eq_one_iff.1 this
          have k2 : ∀ b : Bool, (b = true ↔ (t.count < 1 ∨ 65536 < t.count)) → JoinP (S.kind_sound_k2 Φ (.fptr t.cells) Q) [.bool b] H := by
            intro b hb
            simp only [JoinP_def, S.kind_sound_k2, sl_zero, Gd_true]
            refine ite_both (fun h => ?_) (fun h => ?_)
            · exact fin _ (by rw [if_pos (hb.1 h)])
            · rw [if_neg fun x => h (hb.2 x)] at fin
              simp only [S.kind_sound_k1, ty_addr, ty_l5, Do_of]
              have ha : aiaddr none 6 (lstA GType.cells t.elem) (.int .i64 0) = some (elA GType.cells 6 t.elem 0) := lstA_addr (by rw [he]; simp)
              rw [ha]
              simp only [Do_of]
              rw [elA_load GType.len (by decide) _ (show t.elem[0]? = some e by rw [he]; rfl)]
              simp only [Do_of]
              refine helem e (by rw [he]; simp) _ _ ?_
              exact fin _ (by rw [he]; rfl)
          refine ite_both (fun h => ?_) (fun h => ?_)
          · refine k2 _ ?_
            have h' : ¬ t.count < 1 := by simpa using h
            simp only [decide_eq_true_eq, gt_iff_lt]; omega
          · refine k2 _ ?_
            have h' : t.count < 1 := by simpa using h
            simp only [true_iff]; omega
        · rw [if_neg h5] at fin
          refine hgroup _ _ ?_
          exact fin _ rfl
end

section
variable {C : Ctx} (hGT : GTok C) (hT : Cl (ACall C) S.tab_Chk)
include hGT hT
theorem kindName_val (s : List UInt8) : Val (ACall C) K.kind_Name [.str s] (.bool (nameOk s)) := Val.of hGT rfl rfl fun Q hQ => S.cl_kind_Name hT (kind_Name_spec hT hQ)
theorem kindDepth_val : ∀ (m : Nat), 1 ≤ m → m ≤ 65 → ∀ t : GType, t.ok → Val (ACall C) K.kind_depth [.agg t.cells, .int .i64 m] (.int .i64 (depT m t)) := by
  intro m
  induction m with
  | zero => intro h; omega
  | succ m ih =>
    intro _ hm t ht
    have hok : t.fields.length ≤ maxLen ∧ (∀ f ∈ t.fields, f.ok) ∧ t.elem.length ≤ maxLen ∧ ∀ e ∈ t.elem, e.ok := by
      cases t with
      | mk kind size packed fields count elem =>
        obtain ⟨_, _, h1, h2, _, h3, h4⟩ := ht
        exact ⟨h1, GField.oks_iff.1 h2, h3, GType.oks_iff.1 h4⟩
    refine Val.of hGT (by simp [AV.frozs, AV.froz, GType.froz]) rfl fun Q hQ => S.cl_kind_depth hT (kind_depth_spec (by omega) hm hok.1 hok.2.2.1 (fun h1 f hf => ?_) (fun h1 e he => ?_) hQ)
    · have := ih (by omega) (by omega) f.type (by have := hok.2.1 f hf; cases f; exact this.2.1)
      exact this
    · exact ih (by omega) (by omega) e (hok.2.2.2 e he)
theorem kindSound_val : ∀ t : GType, t.ok → Val (ACall C) K.kind_sound [.agg t.cells] (.int .i64 (sndT t)) := by
  refine GType.ind fun t ihf ihe ht => ?_
  have hok : t.fields.length ≤ maxLen ∧ (∀ f ∈ t.fields, f.ok) ∧ t.elem.length ≤ maxLen ∧ ∀ e ∈ t.elem, e.ok := by
    cases t with
    | mk kind size packed fields count elem =>
      obtain ⟨_, _, h1, h2, _, h3, h4⟩ := ht
      exact ⟨h1, GField.oks_iff.1 h2, h3, GType.oks_iff.1 h4⟩
  have hfield : t.fields.length ≤ 32 → ∀ (i : Nat) (f : GField), t.fields[i]? = some f → Val (ACall C) K.kind_field [.agg t.cells, .int .i64 i] (.int .i64 (sndF t.packed ((t.fields.take i).map GField.name) f)) := by
    intro hl i f hf
    have hmem := List.mem_of_getElem? hf
    exact Val.of hGT (by simp [AV.frozs, AV.froz, GType.froz]) rfl fun Q hQ => S.cl_kind_field hT (kind_field_spec hT hf hl (ihf f hmem (by have := hok.2.1 f hmem; cases f; exact this.2.1)) (kindName_val hGT hT) hQ)
  have hgroup : Val (ACall C) K.kind_group [.agg t.cells] (.int .i64 (if t.fields.length < 1 ∨ 32 < t.fields.length then 12 else sndFs t.packed [] t.fields)) :=
    fun H Q hQ => S.cl_kind_group hT (kind_group_spec hok.1 hfield hQ)
  exact fun H Q hQ => S.cl_kind_sound hT (kind_sound_spec hT hgroup (fun e he => ihe e he (hok.2.2.2 e he)) hQ)
theorem kindSoundM_val (t : GType) (ht : t.ok) : Val (ACall C) K.kind_Sound [.agg t.cells] (.int .i64 (soundM t)) := by
  intro H Q hQ
  refine S.cl_kind_Sound hT ?_
  unfold S.kind_Sound
  simp only [ty_box, DoH_some, ty_all, Do_of]
  refine S.cl_kind_Depth hT ?_
  unfold S.kind_Depth
  simp only [ty_box, DoH_some, ty_all, Do_of]
  refine kindDepth_val hGT hT 65 (by omega) (by omega) t ht _ _ ?_
  simp only [abin_gtr, Do_of, Gd_true]
  unfold soundM at hQ
  refine ite_both (fun h => ?_) (fun h => ?_)
  · rw [if_pos (by simpa using h)] at hQ; exact hQ
  · rw [if_neg (by simpa using h)] at hQ
    exact kindSound_val hGT hT t ht _ _ hQ
end
end Rb

/- The type of what lies at a place: the program's answer. -/
set_option linter.unusedVariables false
set_option linter.unusedSimpArgs false
namespace Rb
open Go

def zeroC : List AV := [.int .i64 0, .int .i64 0, .bool false, .lst .nil 0 [], .int .i64 0, .lst .nil 0 []]
/-- A type, or an error. -/
def resV (r : Int × GType) : AV := if r.1 = 0 then .tup [.agg r.2.cells, .int .i64 0] else .tup [.agg zeroC, .int .i64 r.1]
def partM (t : GType) (x : GPart) : Int × GType :=
  if 1 < x.index.length ∨ (x.index.length = 1 ↔ x.field ≠ []) then (8, t)
  else if x.index.length = 1 ∧ t.kind = 5 then (match t.elem with | e :: _ => (0, e) | [] => (8, t))
  else if x.index.length = 1 ∨ ¬ (t.kind = 3 ∨ t.kind = 4) then (8, t)
  else match t.fields.find? (fun f => f.name == x.field) with | some f => (0, f.type) | none => (6, t)
def partsM : GType → List GPart → Int × GType
  | t, [] => (0, t)
  | t, p :: r => if (partM t p).1 ≠ 0 then partM t p else partsM (partM t p).2 r
def placeM (vars : List GVar) (x : GPlace) : Int × GType :=
  match vars.find? (fun v => v.name == x.var) with
  | none => (6, ⟨0, 0, false, [], 0, []⟩)
  | some v => if soundM v.type ≠ 0 then (soundM v.type, v.type) else partsM v.type x.parts

/-! Parts of a sound type are sound -/
theorem sndFs_mem {packed : Bool} : ∀ {l : List GField} {seen : List (List UInt8)}, sndFs packed seen l = 0 → ∀ f ∈ l, sndT f.type = 0
  | [], _, _, f, hf => by cases hf
  | g :: r, seen, h, f, hf => by
    simp only [sndFs] at h
    have h0 : sndF packed seen g = 0 := by
      by_cases hz : sndF packed seen g = 0
      · exact hz
      · rw [if_pos hz] at h; exact absurd h hz
    rw [if_neg (by simpa using h0)] at h
    rcases List.mem_cons.1 hf with rfl | hf
    · rw [sndF_eq] at h0
      split at h0
      · cases h0
      · split at h0
        · cases h0
        · split at h0
          · rename_i hz; exact absurd h0 hz
          · rename_i hz; simpa using hz
    · exact sndFs_mem h f hf
theorem snd_arr {t : GType} (h : sndT t = 0) (hk : t.kind = 5) : ∃ e, t.elem = [e] ∧ sndT e = 0 := by
  rw [sndT_eq, hk] at h
  split at h
  · cases h
  · rename_i ho
    simp only [Bool.not_eq_false] at ho
    obtain ⟨e, he⟩ : ∃ e, t.elem = [e] := by
      have : t.elem.length = 1 := by
        simp [onlyM] at ho
        exact ho.2
      exact List.length_eq_one_iff.1 this
    refine ⟨e, he, ?_⟩
    simp at h
    split at h
    · cases h
    · rw [he] at h; exact h
theorem snd_grp {t : GType} (h : sndT t = 0) (hk : t.kind = 3 ∨ t.kind = 4) : (∀ f ∈ t.fields, sndT f.type = 0) ∧ t.fields.length ≤ 32 := by
  rw [sndT_eq] at h
  have k1 : t.kind ≠ 1 := by omega
  have k2 : t.kind ≠ 2 := by omega
  have k5 : t.kind ≠ 5 := by omega
  rw [if_neg k1, if_neg k2, if_neg k5] at h
  split at h
  · cases h
  · split at h
    · cases h
    · exact ⟨fun f hf => sndFs_mem h f hf, by omega⟩
theorem partM_snd {t : GType} {x : GPart} (h : sndT t = 0) (h0 : (partM t x).1 = 0) : sndT (partM t x).2 = 0 := by
  unfold partM at h0 ⊢
  split
  · rename_i hc; rw [if_pos hc] at h0; cases h0
  · rename_i hc; rw [if_neg hc] at h0
    split
    · rename_i hc; obtain ⟨e, he, hs⟩ := snd_arr h hc.2; rw [he]; exact hs
    · rename_i hc; rw [if_neg hc] at h0
      split
      · rename_i hc; rw [if_pos hc] at h0; cases h0
      · rename_i hc; rw [if_neg hc] at h0
        split
        · rename_i f hf
          exact (snd_grp h (by omega)).1 f (List.mem_of_find?_eq_some hf)
        · rename_i hf; rw [hf] at h0; cases h0
theorem partM_ok {t : GType} {x : GPart} (h : t.ok) : (partM t x).2.ok := by
  have hok : (∀ f ∈ t.fields, f.ok) ∧ ∀ e ∈ t.elem, e.ok := by
    cases t with
    | mk kind size packed fields count elem =>
      obtain ⟨_, _, h1, h2, _, h3, h4⟩ := h
      exact ⟨GField.oks_iff.1 h2, GType.oks_iff.1 h4⟩
  unfold partM
  split
  · exact h
  · split
    · split
      · rename_i e r he; exact hok.2 e (by rw [he]; simp)
      · exact h
    · split
      · exact h
      · split
        · rename_i f hf
          have := hok.1 f (List.mem_of_find?_eq_some hf)
          cases f; exact this.2.1
        · exact h

theorem find_idx {α : Type} (p : α → Bool) (xs : List α) : (∃ i x, xs.findIdx? p = some i ∧ xs.find? p = some x ∧ xs[i]? = some x) ∨ (xs.findIdx? p = none ∧ xs.find? p = none) := by
  induction xs with
  | nil => right; simp
  | cons y ys ih =>
    rw [List.findIdx?_cons, List.find?_cons]
    by_cases h : p y = true
    · left; exact ⟨0, y, by simp [h], by simp [h], rfl⟩
    · simp only [h, if_false, Bool.false_eq_true]
      rcases ih with ⟨i, x, h1, h2, h3⟩ | ⟨h1, h2⟩
      · left; exact ⟨i + 1, x, by simp [h1], by simp [h2], by simpa using h3⟩
      · right; simp [h1, h2]

section
variable {Φ : Calls'} {H : AH} {Q : Post}

theorem At.put {H : AH} {id n : Nat} {cs ds : List AV} (h : At H id (.row cs)) (hc : cs.length = n) (hd : ds.length = n) (hs : ds.all AV.scalar = true) : astore H n (.ptr id 0) (.agg ds) = some (H.set id (.row ds)) := by
  rw [h.store, if_pos ⟨rfl, hd, hs, by omega⟩]
  congr 3
  show setCells cs 0 ds = ds
  rw [setCells_all (by omega)]; rfl
theorem At.all {H : AH} {id n : Nat} {cs : List AV} (h : At H id (.row cs)) (hc : cs.length = n) : aload H n true (.ptr id 0) = some (.agg cs) := by
  rw [h.load, takeCells_whole hc]

theorem pl_box (x : GPart) (H : AH) : aboxv H false 2 (.agg x.cells) = some (.fptr x.cells, H) := by unfold aboxv; rw [if_pos ⟨rfl, x.len⟩]; rfl
theorem pl_addr (x : GPart) (i : Nat) : afaddr i (.fptr x.cells) = some (.fptr (x.cells.drop i)) := rfl
theorem pl_l0 (x : GPart) (H : AH) : aload H 1 false (.fptr (x.cells.drop 0)) = some (.str x.field) := by rw [GPart.cells_eq]; rfl
theorem pl_l1 (x : GPart) (H : AH) : aload H 1 false (.fptr (x.cells.drop 1)) = some (lstA GExpr.cells x.index) := by rw [GPart.cells_eq]; rfl
theorem zero_build : abuild [.int .i64 0, .int .i64 0, .bool false, .lst .nil 0 [], .int .i64 0, .lst .nil 0 []] [] = some (.agg zeroC) := rfl

theorem part_c1 {g : GField} {x : GPart} (hQ : Q (.bool (g.name == x.field)) H) : S.check_part_c1 Φ (.agg g.cells) (.fptr x.cells) H Q := by
  unfold S.check_part_c1
  have hb : aboxv H false 9 (.agg g.cells) = some (.fptr g.cells, H) := by unfold aboxv; rw [if_pos ⟨rfl, g.len⟩]; rfl
  have l0 : aload H 1 false (.fptr (g.cells.drop 0)) = some (.str g.name) := fd_t0 g
  have l1 : aload H 1 false (.fptr (x.cells.drop 0)) = some (.str x.field) := pl_l0 x H
  rw [hb]
  simp only [DoH_some, afaddr, Do_of, l0, l1, abin_streq']
  exact hQ

theorem check_part_spec (hT : Cl Φ S.tab_Chk) {t : GType} {x : GPart} (hs : sndT t = 0) (hl : x.index.length ≤ maxLen) (hQ : ∀ H', Q (resV (partM t x)) H') : S.check_part Φ (.agg t.cells) (.agg x.cells) H Q := by
  have fin : ∀ v H', v = resV (partM t x) → Q v H' := fun v H' h => by rw [h]; exact hQ H'
  clear hQ
  unfold S.check_part
  simp only [ty_box, pl_box, DoH_some, ty_addr, ty_l0, abin_eql, Do_of, Gd3_false, JoinP_def, abox, if_true]
  have hat := At.new H (.row zeroC)
  change At (H.push (.row [.int .i64 0, .int .i64 0, .bool false, .lst .nil 0 [], .int .i64 0, .lst .nil 0 []])) H.n _ at hat
  generalize (H.push (.row [.int .i64 0, .int .i64 0, .bool false, .lst .nil 0 [], .int .i64 0, .lst .nil 0 []])) = H1 at *
  generalize H.n = id at *
  have bad : ∀ e : Int, e ≠ 0 → (partM t x).1 = e → Do (abuild [.int .i64 0, .int .i64 0, .bool false, .lst .nil 0 [], .int .i64 0, .lst .nil 0 []] []) fun x31 =>
      Do (astore H1 6 (.ptr id 0) x31) fun H32 =>
      Do (aload H32 6 true (.ptr id 0)) fun x33 =>
      Q (.tup [x33, (.int .i64 e)]) H32 := by
    intro e he h
    rw [zero_build]
    simp only [Do_of]
    rw [hat.put (n := 6) rfl rfl rfl]
    simp only [Do_of]
    rw [(hat.set _).all (n := 6) rfl]
    simp only [Do_of]
    refine fin _ _ ?_
    unfold resV
    rw [h, if_neg he]
  have good : ∀ u : GType, partM t x = (0, u) → ∀ H1, At H1 id (.row zeroC) → Do (astore H1 6 (.ptr id 0) (.agg u.cells)) fun H72 =>
      Do (aload H72 6 true (.ptr id 0)) fun x73 =>
      Q (.tup [x73, (.int .i64 0)]) H72 := by
    intro u hu H1 hat
    rw [hat.put (n := 6) rfl u.len u.scalar]
    simp only [Do_of]
    rw [(hat.set _).all u.len]
    simp only [Do_of]
    refine fin _ _ ?_
    unfold resV
    rw [hu]; rfl
  have k5 : ∀ b : Bool, (b = true ↔ (t.kind = 3 ∨ t.kind = 4)) → S.check_part_k5 Φ (.fptr t.cells) (.fptr x.cells) (.ptr id 0) Q [.bool b] H1 := by
    intro b hb
    have k4 : ∀ c : Bool, (c = true ↔ (1 < x.index.length ∨ (x.index.length = 1 ↔ x.field ≠ []))) → S.check_part_k4 Φ (.fptr t.cells) (.fptr x.cells) (.ptr id 0) [.bool b] Q [.bool c] H1 := by
      intro c hc
      simp only [S.check_part_k4, sl_zero, Gd_true]
      refine ite_both (fun h => ?_) (fun h => ?_)
      · exact bad 8 (by decide) (by unfold partM; rw [if_pos (hc.1 h)])
      · have n1 : ¬ (1 < x.index.length ∨ (x.index.length = 1 ↔ x.field ≠ [])) := fun y => h (hc.2 y)
        have k3 : ∀ d : Bool, (d = true ↔ (x.index.length = 1 ∧ t.kind = 5)) → S.check_part_k3 Φ (.fptr t.cells) (.fptr x.cells) (.ptr id 0) [.bool b] Q [.bool d] H1 := by
          intro d hd
          simp only [S.check_part_k3, sl_zero, Gd_true]
          refine ite_both (fun h => ?_) (fun h => ?_)
          · obtain ⟨h1, h5⟩ := hd.1 h
            obtain ⟨e, he, _⟩ := snd_arr hs h5
            simp only [ty_addr, ty_l5, Do_of]
            have ha : aiaddr none 6 (lstA GType.cells t.elem) (.int .i64 0) = some (elA GType.cells 6 t.elem 0) := lstA_addr (by rw [he]; simp)
            rw [ha]
            simp only [Do_of]
            rw [elA_load GType.len (by decide) _ (show t.elem[0]? = some e by rw [he]; rfl)]
            simp only [Do_of]
            exact good e (by unfold partM; rw [if_neg n1, if_pos ⟨h1, h5⟩, he]) _ hat
          · have n2 : ¬ (x.index.length = 1 ∧ t.kind = 5) := fun y => h (hd.2 y)
            have k2 : ∀ g : Bool, (g = true ↔ (x.index.length = 1 ∨ ¬ (t.kind = 3 ∨ t.kind = 4))) → S.check_part_k2 Φ (.fptr t.cells) (.fptr x.cells) (.ptr id 0) Q [.bool g] H1 := by
              intro g hg
              simp only [S.check_part_k2, sl_zero, Gd_true]
              refine ite_both (fun h => ?_) (fun h => ?_)
              · exact bad 8 (by decide) (by unfold partM; rw [if_neg n1, if_neg n2, if_pos (hg.1 h)])
              · have n3 : ¬ (x.index.length = 1 ∨ ¬ (t.kind = 3 ∨ t.kind = 4)) := fun y => h (hg.2 y)
                have hgrp : t.kind = 3 ∨ t.kind = 4 := by omega
                obtain ⟨_, hlen⟩ := snd_grp hs hgrp
                simp only [JoinP_def, S.check_part_k1, ty_addr, ty_l3, Do_of]
                refine S.cl_slices_IndexFunc___api_Field_api_Field_ hT ?_
                refine fieldIndex (p := fun f => f.name == x.field) (fun f _ R hR => S.cl_check_part_c1 hT (part_c1 hR)) (by omega) ?_
                simp only [abin_lss, Do_of, Gd_true]
                rcases find_idx (fun f : GField => f.name == x.field) t.fields with ⟨i, f, h1, h2, h3⟩ | ⟨h1, h2⟩
                · rw [h1]
                  have hlt := (List.getElem?_eq_some_iff.1 h3).1
                  rw [if_neg (by show ¬ (decide ((i : Int) < 0) = true); rw [decide_eq_true_eq]; omega)]
                  simp only [idxI]
                  rw [lstA_addr hlt]
                  have hl6 : aload H1 6 true (.fptr (((t.fields.flatMap GField.cells).drop (i * 9)).drop 1)) = some (.agg f.type.cells) := by
                    show takeCells _ 0 6 true = _
                    rw [flatMap_drop GField.len]
                    have hd : t.fields.drop i = f :: t.fields.drop (i + 1) := by
                      rw [List.drop_eq_getElem_cons hlt]
                      rw [List.getElem?_eq_getElem hlt] at h3
                      simp at h3
                      rw [h3]
                    rw [hd, List.flatMap_cons, GField.cells_eq, List.cons_append, List.drop_succ_cons, List.drop_zero, List.append_assoc]
                    exact takeCells_app f.type.len
                  simp only [Do_of, elA, afaddr, hl6]
                  exact good f.type (by unfold partM; rw [if_neg n1, if_neg n2, if_neg n3, h2]) _ hat
                · rw [h1]
                  rw [if_pos (by simp [idxI])]
                  exact bad 6 (by decide) (by unfold partM; rw [if_neg n1, if_neg n2, if_neg n3, h2])
            simp only [pl_addr, pl_l1, lstA_len', abin_eql, Do_of, Gd3_false, JoinP_def, aun_not]
            refine ite_both (fun h => ?_) (fun h => ?_)
            · refine k2 _ ?_
              simp only [beq_eq_false_iff_ne, ne_eq] at h
              have : ¬ x.index.length = 1 := by omega
              rw [← hb]
              simp [this]
            · refine k2 _ ?_
              simp only [Bool.not_eq_false, beq_iff_eq] at h
              have : x.index.length = 1 := by omega
              simp [this]
        simp only [pl_addr, pl_l1, lstA_len', abin_eql, Do_of, Gd3_true, JoinP_def, ty_addr, ty_l0]
        refine ite_both (fun h => ?_) (fun h => ?_)
        · refine k3 _ ?_
          simp only [beq_iff_eq] at h
          have : x.index.length = 1 := by omega
          simp [this]
        · refine k3 _ ?_
          simp only [beq_iff_eq] at h
          have : ¬ x.index.length = 1 := by omega
          simp [this]
    simp only [S.check_part_k5, pl_addr, pl_l0, pl_l1, lstA_len', abin_gtr, abin_eql, abin_strne, abeq_def, Bool.false_eq_true, if_false, Do_of, Gd3_false, JoinP_def]
    refine ite_both (fun h => ?_) (fun h => ?_)
    · refine k4 _ ?_
      simp only [decide_eq_false_iff_not, gt_iff_lt] at h
      have h' : ¬ 1 < x.index.length := by omega
      simp only [h', false_or]
      by_cases hf : x.field = []
      · by_cases h1 : x.index.length = 1
        · simp [hf, h1]
        · have : ¬ ((x.index.length : Int) = 1) := by omega
          simp [hf, h1, this]
      · by_cases h1 : x.index.length = 1
        · simp [hf, h1]
        · have e1 : ((x.index.length : Int) == 1) = false := by rw [beq_eq_false_iff_ne]; omega
          have e2 : x.field.isEmpty = false := by simpa using hf
          simp [hf, h1, e1, e2]
    · refine k4 _ ?_
      simp only [decide_eq_false_iff_not, gt_iff_lt, Decidable.not_not] at h
      have h' : 1 < x.index.length := by omega
      simp [h']
  refine ite_both (fun h => ?_) (fun h => ?_)
  · refine k5 _ ?_
    simp only [beq_eq_false_iff_ne, ne_eq] at h
    simp [h]
  · refine k5 _ ?_
    simp only [Bool.not_eq_false, beq_iff_eq] at h
    simp [h]
end
end Rb

/- The type of what lies at a place: the program's answer, whole. -/
set_option linter.unusedVariables false
set_option linter.unusedSimpArgs false
namespace Rb
open Go

theorem zeroC_froz : AV.frozs zeroC = true := rfl
theorem resV_froz (r : Int × GType) : (resV r).froz = true := by
  unfold resV
  split
  · simp [AV.froz, AV.frozs, GType.froz]
  · simp [AV.froz, AV.frozs, zeroC_froz]
theorem partsM_snd : ∀ (ps : List GPart) {t : GType}, sndT t = 0 → (partsM t ps).1 = 0 → sndT (partsM t ps).2 = 0
  | [], t, h, _ => h
  | p :: r, t, h, h0 => by
    simp only [partsM] at h0 ⊢
    by_cases hp : (partM t p).1 ≠ 0
    · rw [if_pos hp] at h0; exact absurd h0 hp
    · rw [if_neg hp] at h0 ⊢
      exact partsM_snd r (partM_snd h (by simpa using hp)) h0

theorem vr_t0 (v : GVar) : takeCells v.cells 0 1 false = some (.str v.name) := by unfold takeCells; rw [if_pos (by rw [v.len]; omega)]; rfl
theorem vr_type (v : GVar) (H : AH) {vars : List GVar} {i : Nat} (h : vars[i]? = some v) : aload H 6 true (.fptr (((vars.flatMap GVar.cells).drop (i * 7)).drop 1)) = some (.agg v.type.cells) := by
  have hlt := (List.getElem?_eq_some_iff.1 h).1
  show takeCells _ 0 6 true = _
  rw [flatMap_drop GVar.len]
  have hd : vars.drop i = v :: vars.drop (i + 1) := by
    rw [List.drop_eq_getElem_cons hlt]
    rw [List.getElem?_eq_getElem hlt] at h
    simp at h
    rw [h]
  rw [hd, List.flatMap_cons, GVar.cells, List.cons_append, List.drop_succ_cons, List.drop_zero]
  exact takeCells_app v.type.len
theorem pc_box (x : GPlace) (H : AH) : aboxv H false 2 (.agg x.cells) = some (.fptr x.cells, H) := by unfold aboxv; rw [if_pos ⟨rfl, x.len⟩]; rfl
theorem pc_addr (x : GPlace) (i : Nat) : afaddr i (.fptr x.cells) = some (.fptr (x.cells.drop i)) := rfl
theorem pc_l0 (x : GPlace) (H : AH) : aload H 1 false (.fptr (x.cells.drop 0)) = some (.str x.var) := by rw [GPlace.cells_eq]; rfl
theorem pc_l1 (x : GPlace) (H : AH) : aload H 1 false (.fptr (x.cells.drop 1)) = some (lstA GPart.cells x.parts) := by rw [GPlace.cells_eq]; rfl

section
variable {Φ : Calls'} {H : AH} {Q : Post}
theorem place_c1 {v : GVar} {x : GPlace} (hQ : Q (.bool (v.name == x.var)) H) : S.check_Place_c1 Φ (.agg v.cells) (.fptr x.cells) H Q := by
  unfold S.check_Place_c1
  have hb : aboxv H false 7 (.agg v.cells) = some (.fptr v.cells, H) := by unfold aboxv; rw [if_pos ⟨rfl, v.len⟩]; rfl
  have l0 : aload H 1 false (.fptr (v.cells.drop 0)) = some (.str v.name) := vr_t0 v
  have l1 : aload H 1 false (.fptr (x.cells.drop 0)) = some (.str x.var) := pc_l0 x H
  rw [hb]
  simp only [DoH_some, afaddr, Do_of, l0, l1, abin_streq']
  exact hQ

theorem varIndex {p : GVar → Bool} {key : Nat} {caps : List AV} {xs : List GVar} (hf : ∀ x ∈ xs, ∀ (R : Post), R (.bool (p x)) H → Φ key ([.agg x.cells] ++ caps) H R) (hl : xs.length ≤ 9223372036854775807)
    (hQ : Q (.int .i64 (idxI (xs.findIdx? p))) H) : S.slices_IndexFunc___api_Var_api_Var_ Φ (lstA GVar.cells xs) (.fn key caps) H Q := by
  have h : IndexFunc 7 Φ (lstA GVar.cells xs) (.fn key caps) H Q := IndexFunc_spec GVar.len (by decide) hf hl hQ
  exact h

theorem check_Place_spec (hT : Cl Φ S.tab_Chk) {vars : List GVar} {x : GPlace} (hlv : vars.length ≤ maxLen) (hlp : x.parts.length ≤ maxLen)
    (hsound : ∀ v ∈ vars, Val Φ K.kind_Sound [.agg v.type.cells] (.int .i64 (soundM v.type)))
    (hpart : ∀ (t : GType) (p : GPart), sndT t = 0 → p ∈ x.parts → Val Φ K.check_part [.agg t.cells, .agg p.cells] (resV (partM t p)))
    (hQ : ∀ H', Q (resV (placeM vars x)) H') : S.check_Place Φ (lstA GVar.cells vars) (.agg x.cells) H Q := by
  have hm : maxLen = 9223372036854775807 := by decide
  rw [hm] at hlv hlp
  have fin : ∀ v H', v = resV (placeM vars x) → Q v H' := fun v H' h => by rw [h]; exact hQ H'
  clear hQ
  unfold S.check_Place
  simp only [pc_box, DoH_some, abox, if_true]
  have hat3 : At (H.push (.row zeroC)) H.n (.row zeroC) := At.new H _
  change At (H.push (.row [.int .i64 0, .int .i64 0, .bool false, .lst .nil 0 [], .int .i64 0, .lst .nil 0 []])) H.n _ at hat3
  generalize (H.push (.row [.int .i64 0, .int .i64 0, .bool false, .lst .nil 0 [], .int .i64 0, .lst .nil 0 []])) = H4 at *
  generalize H.n = id3 at *
  have bad : ∀ (e : Int) (H1 : AH), At H1 id3 (.row zeroC) → e ≠ 0 → (placeM vars x).1 = e → Do (abuild [.int .i64 0, .int .i64 0, .bool false, .lst .nil 0 [], .int .i64 0, .lst .nil 0 []] []) fun x31 =>
      Do (astore H1 6 (.ptr id3 0) x31) fun H32 =>
      Do (aload H32 6 true (.ptr id3 0)) fun x33 =>
      Q (.tup [x33, (.int .i64 e)]) H32 := by
    intro e H1 hat he h
    rw [zero_build]
    simp only [Do_of]
    rw [hat.put (n := 6) rfl rfl rfl]
    simp only [Do_of]
    rw [(hat.set _).all (n := 6) rfl]
    simp only [Do_of]
    refine fin _ _ ?_
    unfold resV
    rw [h, if_neg he]
  refine S.cl_slices_IndexFunc___api_Var_api_Var_ hT ?_
  refine varIndex (p := fun v => v.name == x.var) (fun v _ R hR => S.cl_check_Place_c1 hT (place_c1 hR)) hlv ?_
  simp only [abin_lss, Do_of, Gd_true]
  rcases find_idx (fun v : GVar => v.name == x.var) vars with ⟨i, v, h1, h2, h3⟩ | ⟨h1, h2⟩
  · have hlt := (List.getElem?_eq_some_iff.1 h3).1
    have hmem := List.mem_of_getElem? h3
    have hpm : placeM vars x = if soundM v.type ≠ 0 then (soundM v.type, v.type) else partsM v.type x.parts := by unfold placeM; rw [h2]
    rw [h1, if_neg (by show ¬ (decide ((i : Int) < 0) = true); rw [decide_eq_true_eq]; omega)]
    simp only [idxI]
    rw [lstA_addr hlt]
    simp only [Do_of, elA, afaddr, vr_type v H4 h3, DoH_some, abox, if_true]
    rw [store_new _ _ _ 6 v.type.len v.type.scalar rfl]
    simp only [Do_of]
    rw [load_push, takeCells_whole v.type.len]
    simp only [Do_of]
    have hat14 : At (H4.push (.row v.type.cells)) H4.n (.row v.type.cells) := At.new H4 _
    have hne : id3 ≠ H4.n := hat3.lt_new
    have hat3' : At (H4.push (.row v.type.cells)) id3 (.row zeroC) := hat3.push _
    generalize (H4.push (.row v.type.cells)) = H5 at *
    generalize H4.n = id14 at *
    refine hsound v hmem _ _ ?_
    simp only [abin_neq, Do_of, Gd_true]
    refine ite_both (fun h => ?_) (fun h => ?_)
    · have h' : soundM v.type ≠ 0 := by simpa using h
      exact bad _ _ hat3' h' (by rw [hpm, if_pos h'])
    · have h' : soundM v.type = 0 := by simpa using h
      rw [if_neg (by simpa using h')] at hpm
      have hsn : sndT v.type = 0 := by
        unfold soundM at h'
        split at h'
        · cases h'
        · exact h'
      have main : ∀ (ps : List GPart) (i : Nat) (t : GType) (H1 : AH), x.parts.drop i = ps → At H1 id3 (.row zeroC) → At H1 id14 (.row t.cells) → sndT t = 0 → partsM t ps = placeM vars x →
          LoopP (S.check_Place_l2 Φ (.ptr id3 0) (.ptr id14 0) (lstA GPart.cells x.parts) (.int .i64 x.parts.length) Q) ([.int .i64 i], H1) := by
        intro ps
        induction ps with
        | nil =>
          intro i t H1 hd a3 a14 hst hfin
          have hle := drop_nil_le hd
          refine LoopP.step ?_
          simp only [S.check_Place_l2, sl_zero, abin_lss, Do_of, Gd_true]
          rw [if_neg (by simp only [decide_eq_true_eq]; omega)]
          simp only [JoinP_def, S.check_Place_k1]
          rw [a14.all t.len]
          simp only [Do_of]
          rw [a3.put (n := 6) rfl t.len t.scalar]
          simp only [Do_of]
          rw [(a3.set _).all t.len]
          simp only [Do_of]
          refine fin _ _ ?_
          rw [← hfin]; rfl
        | cons p ps ih =>
          intro i t H1 hd a3 a14 hst hfin
          obtain ⟨hlt, hp, hd'⟩ := drop_cons_lt hd
          refine LoopP.step ?_
          simp only [S.check_Place_l2, sl_zero, abin_lss, Do_of, Gd_true]
          rw [if_pos (by simp only [decide_eq_true_eq]; omega), lstA_addr hlt]
          simp only [Do_of]
          rw [elA_load GPart.len (by decide) _ hp]
          simp only [Do_of, DoH_some, abox, if_true]
          rw [store_new _ _ _ 2 p.len p.scalar rfl]
          simp only [Do_of]
          rw [(a14.push _).all t.len, load_push, takeCells_whole p.len]
          simp only [Do_of]
          refine hpart t p hst (List.mem_of_getElem? hp) _ _ ?_
          simp only [partsM] at hfin
          have b3 := a3.push (.row p.cells)
          have b14 := a14.push (.row p.cells)
          generalize H1.push (.row p.cells) = H2 at *
          by_cases he : (partM t p).1 = 0
          · rw [if_neg (by simpa using he)] at hfin
            have hr : resV (partM t p) = .tup [.agg (partM t p).2.cells, .int .i64 0] := by unfold resV; rw [if_pos he]
            rw [hr]
            simp only [aextract, List.getElem?_cons_zero, List.getElem?_cons_succ, Do_of]
            rw [store_new _ _ _ 6 (partM t p).2.len (partM t p).2.scalar rfl]
            simp only [Do_of, abin_neq, Gd_true]
            rw [if_neg (by decide), load_push, takeCells_whole (partM t p).2.len]
            simp only [Do_of]
            rw [(b14.push _).put t.len (partM t p).2.len (partM t p).2.scalar]
            simp only [Do_of, abin_add]
            rw [wrap_i64 (by omega) (by omega), show ((i : Int) + 1) = ((i + 1 : Nat) : Int) by simp]
            exact ih (i + 1) _ _ hd' ((b3.push _).set_ne hne _) ((b14.push _).set _) (partM_snd hst he) hfin
          · rw [if_pos he] at hfin
            have hr : resV (partM t p) = .tup [.agg zeroC, .int .i64 (partM t p).1] := by unfold resV; rw [if_neg he]
            rw [hr]
            simp only [aextract, List.getElem?_cons_zero, List.getElem?_cons_succ, Do_of]
            rw [store_new _ _ _ 6 rfl rfl rfl]
            simp only [Do_of, abin_neq, Gd_true]
            rw [if_pos (by simpa using he)]
            exact bad _ _ (b3.push _) he (by rw [← hfin])
      simp only [pc_addr, pc_l1, lstA_len', Do_of]
      exact main x.parts 0 v.type H5 rfl hat3' hat14 hsn hpm.symm
  · rw [h1, if_pos (by simp [idxI])]
    exact bad 6 _ hat3 (by decide) (by unfold placeM; rw [h2])
end
end Rb

/- Package layout: whether an Atom lies in a type, or in a packed one; up. -/
set_option linter.unusedVariables false
set_option linter.unusedSimpArgs false
namespace Rb
open Go

mutual
def looseT : GType → Bool
  | .mk kind size packed fields count elem => ((kind == 2 && decide (size > 1)) || looseEs elem) || looseFs fields
def looseF : GField → Bool
  | .mk name type bits width => looseT type
def looseEs : List GType → Bool
  | [] => false
  | t :: r => looseT t || looseEs r
def looseFs : List GField → Bool
  | [] => false
  | f :: r => looseF f || looseFs r
end
mutual
def tornT : GType → Bool
  | .mk kind size packed fields count elem => ((packed && looseT (.mk kind size packed fields count elem)) || tornEs elem) || tornFs fields
def tornF : GField → Bool
  | .mk name type bits width => tornT type
def tornEs : List GType → Bool
  | [] => false
  | t :: r => tornT t || tornEs r
def tornFs : List GField → Bool
  | [] => false
  | f :: r => tornF f || tornFs r
end
theorem looseEs_any : ∀ l : List GType, looseEs l = l.any looseT
  | [] => rfl
  | t :: r => by rw [looseEs, looseEs_any r, List.any_cons]
theorem looseFs_any : ∀ l : List GField, looseFs l = l.any fun f => looseT f.type
  | [] => rfl
  | f :: r => by rw [looseFs, looseFs_any r, List.any_cons]; cases f; rfl
theorem tornEs_any : ∀ l : List GType, tornEs l = l.any tornT
  | [] => rfl
  | t :: r => by rw [tornEs, tornEs_any r, List.any_cons]
theorem tornFs_any : ∀ l : List GField, tornFs l = l.any fun f => tornT f.type
  | [] => rfl
  | f :: r => by rw [tornFs, tornFs_any r, List.any_cons]; cases f; rfl
theorem looseT_eq (t : GType) : looseT t = (((t.kind == 2 && decide (t.size > 1)) || t.elem.any looseT) || t.fields.any fun f => looseT f.type) := by
  cases t; rw [looseT, looseEs_any, looseFs_any]
theorem tornT_eq (t : GType) : tornT t = (((t.packed && looseT t) || t.elem.any tornT) || t.fields.any fun f => tornT f.type) := by
  cases t; rw [tornT, tornEs_any, tornFs_any]

theorem ok_parts {t : GType} (ht : t.ok) : t.fields.length ≤ 9223372036854775807 ∧ (∀ f ∈ t.fields, f.type.ok) ∧ t.elem.length ≤ 9223372036854775807 ∧ ∀ e ∈ t.elem, e.ok := by
  have hm : maxLen = 9223372036854775807 := by decide
  cases t with
  | mk kind size packed fields count elem =>
    obtain ⟨_, _, h1, h2, _, h3, h4⟩ := ht
    rw [hm] at h1 h3
    exact ⟨h1, fun f hf => by have := GField.oks_iff.1 h2 f hf; cases f; exact this.2.1, h3, GType.oks_iff.1 h4⟩

section
variable {Φ : Calls'} {H : AH} {Q : Post}
theorem typeIndex {p : GType → Bool} {key : Nat} {caps : List AV} {xs : List GType} (hf : ∀ x ∈ xs, ∀ (R : Post), R (.bool (p x)) H → Φ key ([.agg x.cells] ++ caps) H R) (hl : xs.length ≤ 9223372036854775807)
    (hQ : Q (.int .i64 (idxI (xs.findIdx? p))) H) : S.slices_IndexFunc___api_Type_api_Type_ Φ (lstA GType.cells xs) (.fn key caps) H Q := by
  have h : IndexFunc 6 Φ (lstA GType.cells xs) (.fn key caps) H Q := IndexFunc_spec GType.len (by decide) hf hl hQ
  exact h
theorem types_contains (hT : Cl Φ S.tab_Chk) {p : GType → Bool} {key : Nat} {caps : List AV} {xs : List GType} (hf : ∀ x ∈ xs, ∀ (R : Post), R (.bool (p x)) H → Φ key ([.agg x.cells] ++ caps) H R) (hl : xs.length ≤ 9223372036854775807)
    (hQ : Q (.bool (xs.any p)) H) : Φ K.slices_ContainsFunc___api_Type_api_Type_ [lstA GType.cells xs, .fn key caps] H Q := by
  refine S.cl_slices_ContainsFunc___api_Type_api_Type_ hT ?_
  unfold S.slices_ContainsFunc___api_Type_api_Type_
  refine S.cl_slices_IndexFunc___api_Type_api_Type_ hT (typeIndex hf hl ?_)
  simp only [abin_geq, Do_of, idxI_any]
  exact hQ

theorem fd_box (f : GField) (H : AH) : aboxv H false 9 (.agg f.cells) = some (.fptr f.cells, H) := by unfold aboxv; rw [if_pos ⟨rfl, f.len⟩]; rfl
theorem fd_type (f : GField) (H : AH) : aload H 6 true (.fptr (f.cells.drop 1)) = some (.agg f.type.cells) := by
  show takeCells _ 0 6 true = _
  rw [GField.cells_eq, List.drop_succ_cons, List.drop_zero]
  exact takeCells_app f.type.len

theorem loose_spec (hT : Cl Φ S.tab_Chk) {t : GType} (hlf : t.fields.length ≤ 9223372036854775807) (hle : t.elem.length ≤ 9223372036854775807) (hf : ∀ f ∈ t.fields, Val Φ K.layout_loose [.agg f.type.cells] (.bool (looseT f.type)))
    (he : ∀ e ∈ t.elem, Val Φ K.layout_loose [.agg e.cells] (.bool (looseT e))) (hQ : Q (.bool (looseT t)) H) : S.layout_loose Φ (.agg t.cells) H Q := by
  have fin : ∀ b, b = looseT t → Q (.bool b) H := fun b h => by rw [h]; exact hQ
  clear hQ
  rw [looseT_eq] at fin
  unfold S.layout_loose
  simp only [ty_box, DoH_some, ty_addr, ty_l0, ty_l1, abin_eql, abin_gtr, Do_of, Gd3_true]
  have k1 : ∀ b : Bool, b = ((t.kind == 2 && decide (t.size > 1)) || t.elem.any looseT) → JoinP (S.layout_loose_k1 Φ (.fptr t.cells) Q) [.bool b] H := by
    intro b hb
    rw [← hb] at fin
    simp only [JoinP_def, S.layout_loose_k1, sl_zero, Gd3_false, ty_addr, ty_l3, Do_of]
    refine ite_both (fun h => ?_) (fun h => ?_)
    · refine fields_contains hT (p := fun f => looseT f.type) (fun f hfm R hR => ?_) hlf (fin _ (by rw [h]; rfl))
      refine S.cl_layout_loose_c1 hT ?_
      unfold S.layout_loose_c1
      simp only [fd_box, DoH_some, afaddr, Do_of, fd_type]
      exact hf f hfm _ _ hR
    · simp only [Bool.not_eq_false] at h
      exact fin _ (by rw [h]; rfl)
  have k2 : ∀ b : Bool, b = (t.kind == 2 && decide (t.size > 1)) → JoinP (S.layout_loose_k2 Φ (.fptr t.cells) Q) [.bool b] H := by
    intro b hb
    rw [← hb] at k1
    simp only [JoinP_def, S.layout_loose_k2, sl_zero, Gd3_false, ty_addr, ty_l5, Do_of]
    refine ite_both (fun h => ?_) (fun h => ?_)
    · refine types_contains hT (p := looseT) (fun e hem R hR => he e hem _ _ hR) hle (k1 _ (by rw [h]; rfl))
    · simp only [Bool.not_eq_false] at h
      exact k1 _ (by rw [h]; rfl)
  refine ite_both (fun h => ?_) (fun h => ?_)
  · exact k2 _ (by rw [h]; rfl)
  · simp only [Bool.not_eq_true] at h
    exact k2 _ (by rw [h]; rfl)

theorem torn_spec (hT : Cl Φ S.tab_Chk) {t : GType} (hlf : t.fields.length ≤ 9223372036854775807) (hle : t.elem.length ≤ 9223372036854775807) (hloose : Val Φ K.layout_loose [.agg t.cells] (.bool (looseT t))) (hf : ∀ f ∈ t.fields, Val Φ K.layout_torn [.agg f.type.cells] (.bool (tornT f.type)))
    (he : ∀ e ∈ t.elem, Val Φ K.layout_torn [.agg e.cells] (.bool (tornT e))) (hQ : Q (.bool (tornT t)) H) : S.layout_torn Φ (.agg t.cells) H Q := by
  have fin : ∀ b, b = tornT t → Q (.bool b) H := fun b h => by rw [h]; exact hQ
  clear hQ
  rw [tornT_eq] at fin
  unfold S.layout_torn
  simp only [ty_box, DoH_some, ty_addr, ty_l2, ty_all, Do_of, Gd3_true]
  have k1 : ∀ b : Bool, b = ((t.packed && looseT t) || t.elem.any tornT) → JoinP (S.layout_torn_k1 Φ (.fptr t.cells) Q) [.bool b] H := by
    intro b hb
    rw [← hb] at fin
    simp only [JoinP_def, S.layout_torn_k1, sl_zero, Gd3_false, ty_addr, ty_l3, Do_of]
    refine ite_both (fun h => ?_) (fun h => ?_)
    · refine fields_contains hT (p := fun f => tornT f.type) (fun f hfm R hR => ?_) hlf (fin _ (by rw [h]; rfl))
      refine S.cl_layout_torn_c1 hT ?_
      unfold S.layout_torn_c1
      simp only [fd_box, DoH_some, afaddr, Do_of, fd_type]
      exact hf f hfm _ _ hR
    · simp only [Bool.not_eq_false] at h
      exact fin _ (by rw [h]; rfl)
  have k2 : ∀ b : Bool, b = (t.packed && looseT t) → JoinP (S.layout_torn_k2 Φ (.fptr t.cells) Q) [.bool b] H := by
    intro b hb
    rw [← hb] at k1
    simp only [JoinP_def, S.layout_torn_k2, sl_zero, Gd3_false, ty_addr, ty_l5, Do_of]
    refine ite_both (fun h => ?_) (fun h => ?_)
    · refine types_contains hT (p := tornT) (fun e hem R hR => he e hem _ _ hR) hle (k1 _ (by rw [h]; rfl))
    · simp only [Bool.not_eq_false] at h
      exact k1 _ (by rw [h]; rfl)
  refine ite_both (fun h => ?_) (fun h => ?_)
  · exact hloose _ _ (k2 _ (by rw [h]; rfl))
  · simp only [Bool.not_eq_true] at h
    exact k2 _ (by rw [h]; rfl)

/-- To a multiple. -/
def upW (n step : Int) : Int := IntKind.wrap .i64 (IntKind.wrap .i64 ((IntKind.wrap .i64 (IntKind.wrap .i64 (n + step) - 1)).tdiv step) * step)
theorem up_spec {n step : Int} (h : step ≠ 0) (hQ : Q (.int .i64 (upW n step)) H) : S.layout_up Φ (.int .i64 n) (.int .i64 step) H Q := by
  unfold S.layout_up
  simp only [abin_add, abin_sub, Do_of]
  rw [abin_quo _ _ _ h]
  simp only [Do_of, abin_mul]
  exact hQ
theorem upW_eq {n step : Int} (h1 : 0 ≤ n) (h2 : n ≤ 1000000000) (h3 : 1 ≤ step) (h4 : step ≤ 1000000) : upW n step = (n + step - 1) / step * step := by
  unfold upW
  have hs : step ≠ 0 := by omega
  have e1 := Int.ediv_mul_le (n + step - 1) hs
  have e2 : 0 ≤ (n + step - 1) / step := Int.ediv_nonneg (by omega) (by omega)
  have e3 : (n + step - 1) / step ≤ n + step - 1 := Int.ediv_le_self _ (by omega)
  have e4 : 0 ≤ (n + step - 1) / step * step := Int.mul_nonneg e2 (by omega)
  rw [wrap_i64 (n := n + step) (by omega) (by omega), wrap_i64 (n := n + step - 1) (by omega) (by omega), Int.tdiv_eq_ediv_of_nonneg (by omega), wrap_i64 (n := (n + step - 1) / step) (by omega) (by omega), wrap_i64 (by omega) (by omega)]
end

section
variable {C : Ctx} (hT : Cl (ACall C) S.tab_Chk)
include hT
theorem loose_val : ∀ t : GType, t.ok → Val (ACall C) K.layout_loose [.agg t.cells] (.bool (looseT t)) := by
  refine GType.ind fun t ihf ihe ht => ?_
  obtain ⟨h1, h2, h3, h4⟩ := ok_parts ht
  exact fun H Q hQ => S.cl_layout_loose hT (loose_spec hT h1 h3 (fun f hf => ihf f hf (h2 f hf)) (fun e he => ihe e he (h4 e he)) hQ)
theorem torn_val : ∀ t : GType, t.ok → Val (ACall C) K.layout_torn [.agg t.cells] (.bool (tornT t)) := by
  refine GType.ind fun t ihf ihe ht => ?_
  obtain ⟨h1, h2, h3, h4⟩ := ok_parts ht
  exact fun H Q hQ => S.cl_layout_torn hT (torn_spec hT h1 h3 (loose_val hT t ht) (fun f hf => ihf f hf (h2 f hf)) (fun e he => ihe e he (h4 e he)) hQ)
end
end Rb

/- Types, by the document: names, depth, sizes. -/
set_option linter.unusedVariables false
set_option linter.unusedSimpArgs false
set_option linter.unusedSectionVars false
namespace Rb
open Go

theorem bool_ite {b : Bool} {A B : Prop} (h1 : b = true → A) (h2 : b = false → B) : if b = true then A else B := ite_both h1 fun h => h2 (by simpa using h)
theorem bool_itef {b : Bool} {A B : Prop} (h1 : b = false → A) (h2 : b = true → B) : if b = false then A else B := ite_both h1 fun h => h2 (by simpa using h)

/-- A name from its first letter on. -/
def nmRest : List UInt8 → Bool
  | [] => true
  | c :: r => isLet c && r.all isPart

section
variable {Φ : Calls'} {H : AH} {Q : Post}
theorem refName_spec {s : List UInt8} (hQ : Q (.bool (nameOk s)) H) : S.rabbetref06_Name Φ (.str s) H Q := by
  have fin : ∀ b : Bool, b = nameOk s → Q (.bool b) H := fun b h => by rw [h]; exact hQ
  clear hQ
  unfold S.rabbetref06_Name
  simp only [alen_str, Do_of, abin_eql, Gd3_false]
  have k5 : s ≠ [] → s.length ≤ 16 → JoinP (S.rabbetref06_Name_k5 Φ (.str s) Q) [] H := by
    intro hne hl
    simp only [JoinP_def, S.rabbetref06_Name_k5]
    have hno : nmRest s = nameOk s := by
      clear fin
      cases s with
      | nil => exact absurd rfl hne
      | cons c r =>
        simp only [List.length_cons] at hl
        have : r.length < 16 := by omega
        simp [nameOk, nmRest, this]
    have main : ∀ (ys : List UInt8) (i : Nat), s.drop i = ys → (if i = 0 then nmRest ys else ys.all isPart) = nameOk s →
        LoopP (S.rabbetref06_Name_l4 Φ (.str s) Q) ([.int .i64 i], H) := by
      intro ys
      induction ys with
      | nil =>
        intro i hi hq
        have hle := drop_nil_le hi
        refine LoopP.step ?_
        simp only [S.rabbetref06_Name_l4, sl_zero, alen_str, abin_lss, Do_of, Gd_true]
        rw [if_neg (by simp only [decide_eq_true_eq]; omega)]
        exact fin _ (by rw [← hq]; split <;> rfl)
      | cons y ys ih =>
        intro i hi hq
        obtain ⟨hlt, hy, hd⟩ := drop_cons_lt hi
        refine LoopP.step ?_
        simp only [S.rabbetref06_Name_l4, sl_zero, alen_str, abin_lss, Do_of, Gd_true]
        rw [if_pos (by simp only [decide_eq_true_eq]; omega)]
        have hx : aidxs (.str s) (.int .i64 i) = some (.int .u8 y.toNat) := by
          simp only [aidxs]; rw [if_pos (by omega)]; simp [hy]
        rw [hx]
        have k2 : ∀ b : Bool, b = !(if i = 0 then isLet y else isPart y) → JoinP (S.rabbetref06_Name_k2 Φ ([.int .i64 i], H) (LoopP (S.rabbetref06_Name_l4 Φ (.str s) Q)) Q) [.bool b] H := by
          intro b hb
          simp only [JoinP_def, S.rabbetref06_Name_k2, sl_zero, Gd_true]
          refine bool_ite (fun h => ?_) (fun h => ?_)
          · refine fin _ ?_
            rw [← hq]
            rw [h] at hb
            by_cases hi0 : i = 0
            · rw [if_pos hi0] at hb ⊢
              simp at hb
              simp [hb, nmRest]
            · rw [if_neg hi0] at hb ⊢
              simp at hb
              simp [hb]
          · simp only [S.rabbetref06_Name_k1, sl_zero, abin_add, Do_of]
            rw [wrap_i64 (by omega) (by omega), show ((i : Int) + 1) = ((i + 1 : Nat) : Int) by simp]
            refine ih (i + 1) hd ?_
            rw [← hq]
            rw [h] at hb
            by_cases hi0 : i = 0
            · rw [if_pos hi0] at hb ⊢
              simp at hb
              simp [hb, nmRest]
            · rw [if_neg hi0] at hb ⊢
              simp at hb
              simp [hb]
        have k3 : ∀ b : Bool, b = isLet y → JoinP (S.rabbetref06_Name_k3 Φ (.int .u8 y.toNat) ([.int .i64 i], H) (LoopP (S.rabbetref06_Name_l4 Φ (.str s) Q)) Q) [.bool b] H := by
          intro b hb
          simp only [JoinP_def, S.rabbetref06_Name_k3, sl_zero, aun_not, Do_of, Gd3_true]
          refine bool_ite (fun h => ?_) (fun h => ?_)
          · have hl : isLet y = false := by rw [← hb]; simpa using h
            simp only [abin_eql, Do_of, Gd3_false]
            refine bool_itef (fun h1 => ?_) (fun h1 => ?_)
            · have hi0 : i ≠ 0 := by simp only [beq_eq_false_iff_ne, ne_eq] at h1; omega
              simp only [abin_neq, Do_of, Gd3_true]
              refine bool_ite (fun h2 => ?_) (fun h2 => ?_)
              · have h2' : y.toNat ≠ 95 := by simp only [bne_iff_ne, ne_eq] at h2; omega
                simp only [abin_lss, Do_of, Gd3_false]
                refine bool_itef (fun h3 => ?_) (fun h3 => ?_)
                · have h3' : ¬ y.toNat < 48 := by simp only [decide_eq_false_iff_not] at h3; omega
                  simp only [abin_gtr, Do_of]
                  refine k2 _ ?_
                  rw [if_neg hi0]
                  unfold isPart
                  rw [hl]
                  rw [Bool.eq_iff_iff]
                  simp [isDig, h2']
                  omega
                · have h3' : y.toNat < 48 := by simp only [decide_eq_true_eq] at h3; omega
                  refine k2 _ ?_
                  rw [if_neg hi0]
                  unfold isPart
                  rw [hl]
                  rw [Bool.eq_iff_iff]
                  simp [isDig, h2']
                  omega
              · have h2' : y.toNat = 95 := by simp only [bne_eq_false_iff_eq] at h2; omega
                refine k2 _ ?_
                rw [if_neg hi0]
                simp [isPart, h2']
            · have hi0 : i = 0 := by simp only [beq_iff_eq] at h1; omega
              refine k2 _ ?_
              rw [if_pos hi0, hl]; rfl
          · have hl : isLet y = true := by rw [← hb]; simpa using h
            refine k2 _ ?_
            have : isPart y = true := by simp [isPart, hl]
            rw [hl, this]; simp
        simp only [Do_of, abin_geq, abin_leq, Gd3_true]
        refine bool_ite (fun h => k3 _ ?_) (fun h => k3 _ ?_)
        · have h' : 97 ≤ y.toNat := by simp only [ge_iff_le, decide_eq_true_eq] at h; omega
          rw [Bool.eq_iff_iff]; simp [isLet, h']; omega
        · have h' : ¬ 97 ≤ y.toNat := by simp only [ge_iff_le, decide_eq_false_iff_not] at h; omega
          simp [isLet, h']
    exact main s 0 rfl hno
  have k6 : ∀ b : Bool, (b = true ↔ (s = [] ∨ 16 < s.length)) → JoinP (S.rabbetref06_Name_k6 Φ (.str s) Q) [.bool b] H := by
    intro b hb
    simp only [JoinP_def, S.rabbetref06_Name_k6, sl_zero, Gd_true]
    refine ite_both (fun h => ?_) (fun h => ?_)
    · refine fin _ ?_
      rcases hb.1 h with rfl | h
      · rfl
      · cases s with
        | nil => rfl
        | cons c r =>
          simp at h
          have : ¬ r.length < 16 := by omega
          simp [nameOk, this]
    · have hn : ¬ (s = [] ∨ 16 < s.length) := fun y => h (hb.2 y)
      exact k5 (fun e => hn (.inl e)) (by omega)
  refine bool_itef (fun h => ?_) (fun h => ?_)
  · simp only [abin_gtr, Do_of]
    refine k6 _ ?_
    have hne : s ≠ [] := by rintro rfl; simp at h
    simp only [decide_eq_true_eq, gt_iff_lt, hne, false_or]; omega
  · refine k6 _ ?_
    have he : s = [] := by simpa using h
    simp [he]

theorem refsize_spec {n most : Int} (hm : most = 8 ∨ most = 16) (hQ : Q (.bool (pow2 n most)) H) : S.rabbetref06_size Φ (.int .i64 n) (.int .i64 most) H Q := by
  have e : ∀ b : Bool, b = pow2 n most → Q (.bool b) H := fun b h => by rw [h]; exact hQ
  clear hQ
  unfold S.rabbetref06_size
  have step : ∀ k : Int, 1 ≤ k → k ≤ most → (n = k → pow2 n most = true) → (n ≠ k → LoopP (S.rabbetref06_size_l1 Φ (.int .i64 n) (.int .i64 most) Q) ([.int .i64 (2 * k)], H)) → LoopP (S.rabbetref06_size_l1 Φ (.int .i64 n) (.int .i64 most) Q) ([.int .i64 k], H) := by
    intro k h1 h2 h3 h4
    refine LoopP.step ?_
    simp only [S.rabbetref06_size_l1, sl_zero, abin_leq, abin_eql, abin_mul, Do_of, Gd_true]
    rw [if_pos (by simpa using h2)]
    refine bool_ite (fun h => ?_) (fun h => ?_)
    · exact e _ (h3 (by simpa using h)).symm
    · rw [wrap_i64 (by omega) (by omega)]
      exact h4 (by simpa using h)
  have stop : ∀ k : Int, most < k → pow2 n most = false → LoopP (S.rabbetref06_size_l1 Φ (.int .i64 n) (.int .i64 most) Q) ([.int .i64 k], H) := by
    intro k h1 h2
    refine LoopP.step ?_
    simp only [S.rabbetref06_size_l1, sl_zero, abin_leq, abin_eql, abin_mul, Do_of, Gd_true]
    rw [if_neg (by simp only [decide_eq_true_eq]; omega)]
    exact e _ h2.symm
  refine step 1 (by omega) (by omega) (fun h => by subst h; simp [pow2]; omega) fun n1 => ?_
  refine step (2 * 1) (by omega) (by omega) (fun h => by subst h; simp [pow2]; omega) fun n2 => ?_
  refine step (2 * (2 * 1)) (by omega) (by omega) (fun h => by subst h; simp [pow2]; omega) fun n4 => ?_
  refine step (2 * (2 * (2 * 1))) (by omega) (by omega) (fun h => by subst h; simp [pow2]; omega) fun n8 => ?_
  rcases hm with rfl | rfl
  · refine stop _ (by omega) ?_
    by_cases h : n ≤ 8
    · have : n ≠ 1 ∧ n ≠ 2 ∧ n ≠ 4 ∧ n ≠ 8 ∧ n ≠ 16 := by omega
      simp [pow2, this]
    · simp [pow2, h]
  · refine step (2 * (2 * (2 * (2 * 1)))) (by omega) (by omega) (fun h => by subst h; simp [pow2]) fun n16 => ?_
    refine stop _ (by omega) ?_
    have : n ≠ 1 ∧ n ≠ 2 ∧ n ≠ 4 ∧ n ≠ 8 ∧ n ≠ 16 := by omega
    simp [pow2, this]

theorem field_type {t : GType} {i : Nat} {f : GField} (H : AH) (hi : t.fields[i]? = some f) : aload H 6 true (.fptr (((t.fields.flatMap GField.cells).drop (i * 9)).drop 1)) = some (.agg f.type.cells) := by
  have hlt := (List.getElem?_eq_some_iff.1 hi).1
  show takeCells _ 0 6 true = _
  rw [flatMap_drop GField.len]
  have hd : t.fields.drop i = f :: t.fields.drop (i + 1) := by
    rw [List.drop_eq_getElem_cons hlt]
    rw [List.getElem?_eq_getElem hlt] at hi
    simp at hi
    rw [hi]
  rw [hd, List.flatMap_cons, GField.cells_eq, List.cons_append, List.drop_succ_cons, List.drop_zero, List.append_assoc]
  exact takeCells_app f.type.len
theorem field_name {t : GType} {i : Nat} {f : GField} (H : AH) (hi : t.fields[i]? = some f) : aload H 1 false (.fptr (((t.fields.flatMap GField.cells).drop (i * 9)).drop 0)) = some (.str f.name) := by
  have hlt := (List.getElem?_eq_some_iff.1 hi).1
  show takeCells _ 0 1 false = _
  rw [List.drop_zero, flatMap_drop GField.len]
  have hd : t.fields.drop i = f :: t.fields.drop (i + 1) := by
    rw [List.drop_eq_getElem_cons hlt]
    rw [List.getElem?_eq_getElem hlt] at hi
    simp at hi
    rw [hi]
  rw [hd, List.flatMap_cons, GField.cells_eq]
  rfl

theorem refDepth_spec {t : GType} {m : Nat} (h1 : 1 ≤ m) (h2 : m ≤ 65) (hlf : t.fields.length ≤ 9223372036854775807) (hle : t.elem.length ≤ 9223372036854775807)
    (hf : 1 < m → ∀ f ∈ t.fields, Val Φ K.rabbetref06_Depth [.agg f.type.cells, .int .i64 ((m - 1 : Nat) : Int)] (.int .i64 (depT (m - 1) f.type)))
    (he : 1 < m → ∀ x ∈ t.elem, Val Φ K.rabbetref06_Depth [.agg x.cells, .int .i64 ((m - 1 : Nat) : Int)] (.int .i64 (depT (m - 1) x)))
    (hQ : Q (.int .i64 (depT m t)) H) : S.rabbetref06_Depth Φ (.agg t.cells) (.int .i64 m) H Q := by
  have hsub : 1 < m → IntKind.wrap .i64 ((m : Int) - 1) = ((m - 1 : Nat) : Int) := fun h => by rw [wrap_i64 (by omega) (by omega)]; omega
  have k5 : ∀ v : Int, 0 ≤ v → v ≤ 64 → v + 1 = depT m t → JoinP (S.rabbetref06_Depth_k5 Φ Q) [.int .i64 v] H := by
    intro v hv0 hv1 hv
    simp only [JoinP_def, S.rabbetref06_Depth_k5, sl_zero, abin_add, Do_of]
    rw [wrap_i64 (by omega) (by omega), hv]
    exact hQ
  have hdep : depT m t = (if 1 < m then max (depFs (m - 1) t.fields) (depEs (m - 1) t.elem) else 0) + 1 := by rw [depT_eq]; split <;> rfl
  rw [hdep] at k5
  have loopE : ∀ (xs : List GType) (i : Nat) (acc : Int), t.elem.drop i = xs → 0 ≤ acc → acc ≤ 64 → max acc (if 1 < m then depEs (m - 1) xs else 0) = (if 1 < m then max (depFs (m - 1) t.fields) (depEs (m - 1) t.elem) else 0) →
      LoopP (S.rabbetref06_Depth_l7 Φ (.int .i64 m) (.fptr t.cells) Q) ([.int .i64 acc, .int .i64 i], H) := by
    intro xs
    induction xs with
    | nil =>
      intro i acc hd a0 a1 ha
      have hle' := drop_nil_le hd
      refine LoopP.step ?_
      simp only [S.rabbetref06_Depth_l7, sl_zero, sl_succ, ty_addr, ty_l5, lstA_len', Do_of, abin_lss, Gd3_true]
      rw [if_neg (by simp only [decide_eq_true_eq]; omega)]
      simp only [JoinP_def, S.rabbetref06_Depth_k6, sl_zero, Gd_true, Bool.false_eq_true, if_false]
      refine k5 acc a0 a1 ?_
      have : (if 1 < m then depEs (m - 1) ([] : List GType) else 0) = 0 := by split <;> rfl
      rw [this] at ha
      omega
    | cons x xs ih =>
      intro i acc hd a0 a1 ha
      obtain ⟨hlt, hx, hd'⟩ := drop_cons_lt hd
      refine LoopP.step ?_
      simp only [S.rabbetref06_Depth_l7, sl_zero, sl_succ, ty_addr, ty_l5, lstA_len', Do_of, abin_lss, Gd3_true]
      rw [if_pos (by simp only [decide_eq_true_eq]; omega)]
      simp only [abin_gtr, Do_of, JoinP_def, S.rabbetref06_Depth_k6, sl_zero, Gd_true]
      refine bool_ite (fun h => ?_) (fun h => ?_)
      · have hm1 : 1 < m := by simp only [decide_eq_true_eq, gt_iff_lt] at h; omega
        rw [if_pos hm1] at ha
        simp only [depEs] at ha
        have hb := dep_le x (m - 1) (by omega)
        simp only [S.rabbetref06_Depth_k4, sl_zero, sl_succ, ty_addr, ty_l5, Do_of]
        rw [lstA_addr hlt]
        simp only [Do_of]
        rw [elA_load GType.len (by decide) _ hx]
        simp only [Do_of, abin_sub]
        rw [hsub hm1]
        refine he hm1 x (List.mem_of_getElem? hx) _ _ ?_
        simp only [abin_gtr, Do_of, Gd_true]
        have next : ∀ v : Int, v = max acc (depT (m - 1) x) → JoinP (S.rabbetref06_Depth_k3 Φ ([.int .i64 acc, .int .i64 i], H) (LoopP (S.rabbetref06_Depth_l7 Φ (.int .i64 m) (.fptr t.cells) Q)) Q) [.int .i64 v] H := by
          intro v hv
          simp only [JoinP_def, S.rabbetref06_Depth_k3, sl_zero, sl_succ, abin_add, Do_of]
          rw [wrap_i64 (by omega) (by omega), show ((i : Int) + 1) = ((i + 1 : Nat) : Int) by simp]
          exact ih (i + 1) v hd' (by omega) (by omega) (by rw [if_pos hm1, hv]; omega)
        refine bool_ite (fun h => next _ ?_) (fun h => next _ ?_)
        · simp only [decide_eq_true_eq, gt_iff_lt] at h; omega
        · simp only [decide_eq_false_iff_not, gt_iff_lt] at h; omega
      · have hm1 : ¬ 1 < m := by simp only [decide_eq_false_iff_not, gt_iff_lt] at h; omega
        refine k5 acc a0 a1 ?_
        rw [if_neg hm1] at ha ⊢
        omega
  have k8 : ∀ acc : Int, 0 ≤ acc → acc ≤ 64 → max acc (if 1 < m then depEs (m - 1) t.elem else 0) = (if 1 < m then max (depFs (m - 1) t.fields) (depEs (m - 1) t.elem) else 0) → JoinP (S.rabbetref06_Depth_k8 Φ (.int .i64 m) (.fptr t.cells) Q) [.int .i64 acc] H := by
    intro acc a0 a1 ha
    simp only [JoinP_def, S.rabbetref06_Depth_k8, sl_zero]
    exact loopE t.elem 0 acc rfl a0 a1 ha
  have loopF : ∀ (xs : List GField) (i : Nat) (acc : Int), t.fields.drop i = xs → 0 ≤ acc → acc ≤ 64 → max (max acc (if 1 < m then depFs (m - 1) xs else 0)) (if 1 < m then depEs (m - 1) t.elem else 0) = (if 1 < m then max (depFs (m - 1) t.fields) (depEs (m - 1) t.elem) else 0) →
      LoopP (S.rabbetref06_Depth_l10 Φ (.int .i64 m) (.fptr t.cells) Q) ([.int .i64 acc, .int .i64 i], H) := by
    intro xs
    induction xs with
    | nil =>
      intro i acc hd a0 a1 ha
      have hle' := drop_nil_le hd
      refine LoopP.step ?_
      simp only [S.rabbetref06_Depth_l10, sl_zero, sl_succ, ty_addr, ty_l3, lstA_len', Do_of, abin_lss, Gd3_true]
      rw [if_neg (by simp only [decide_eq_true_eq]; omega)]
      simp only [JoinP_def, S.rabbetref06_Depth_k9, sl_zero, Gd_true, Bool.false_eq_true, if_false]
      refine k8 acc a0 a1 ?_
      have : (if 1 < m then depFs (m - 1) ([] : List GField) else 0) = 0 := by split <;> rfl
      rw [this] at ha
      omega
    | cons x xs ih =>
      intro i acc hd a0 a1 ha
      obtain ⟨hlt, hx, hd'⟩ := drop_cons_lt hd
      refine LoopP.step ?_
      simp only [S.rabbetref06_Depth_l10, sl_zero, sl_succ, ty_addr, ty_l3, lstA_len', Do_of, abin_lss, Gd3_true]
      rw [if_pos (by simp only [decide_eq_true_eq]; omega)]
      simp only [abin_gtr, Do_of, JoinP_def, S.rabbetref06_Depth_k9, sl_zero, Gd_true]
      refine bool_ite (fun h => ?_) (fun h => ?_)
      · have hm1 : 1 < m := by simp only [decide_eq_true_eq, gt_iff_lt] at h; omega
        rw [if_pos hm1] at ha
        simp only [depFs, depF_eq] at ha
        have hb := dep_le x.type (m - 1) (by omega)
        simp only [S.rabbetref06_Depth_k2, sl_zero, sl_succ, ty_addr, ty_l3, Do_of]
        rw [lstA_addr hlt]
        simp only [Do_of, elA, afaddr, field_type H hx, abin_sub]
        rw [hsub hm1]
        refine hf hm1 x (List.mem_of_getElem? hx) _ _ ?_
        simp only [abin_gtr, Do_of, Gd_true]
        have next : ∀ v : Int, v = max acc (depT (m - 1) x.type) → JoinP (S.rabbetref06_Depth_k1 Φ ([.int .i64 acc, .int .i64 i], H) (LoopP (S.rabbetref06_Depth_l10 Φ (.int .i64 m) (.fptr t.cells) Q)) Q) [.int .i64 v] H := by
          intro v hv
          simp only [JoinP_def, S.rabbetref06_Depth_k1, sl_zero, sl_succ, abin_add, Do_of]
          rw [wrap_i64 (by omega) (by omega), show ((i : Int) + 1) = ((i + 1 : Nat) : Int) by simp]
          refine ih (i + 1) v hd' (by omega) (by omega) ?_
          rw [if_pos hm1] at ha ⊢
          rw [hv, ← ha]
          omega
        refine bool_ite (fun h => next _ ?_) (fun h => next _ ?_)
        · simp only [decide_eq_true_eq, gt_iff_lt] at h; omega
        · simp only [decide_eq_false_iff_not, gt_iff_lt] at h; omega
      · have hm1 : ¬ 1 < m := by simp only [decide_eq_false_iff_not, gt_iff_lt] at h; omega
        refine k8 acc a0 a1 ?_
        simp only [if_neg hm1] at ha ⊢
        omega
  unfold S.rabbetref06_Depth
  simp only [ty_box, DoH_some]
  refine loopF t.fields 0 0 rfl (by omega) (by omega) ?_
  split
  · have := depFs_le t.fields (m - 1) (by omega)
    omega
  · omega
end
end Rb

/- Types, by the document: soundness. -/
set_option linter.unusedVariables false
set_option linter.unusedSimpArgs false
set_option linter.unusedSectionVars false
namespace Rb
open Go

theorem tnot {x : Bool} (h : true = !x) : x = false := by cases x; rfl; cases h
theorem fnot {x : Bool} (h : false = !x) : x = true := by cases x; cases h; rfl

section
variable {Φ : Calls'} {H : AH} {Q : Post}
theorem refinner_spec (hT : Cl Φ S.tab_Chk) {t : GType} (hlf : t.fields.length ≤ 9223372036854775807) (hf : ∀ f ∈ t.fields, Val Φ K.rabbetref06_inner [.agg f.type.cells] (.int .i64 (sndT f.type)))
    (he : ∀ e ∈ t.elem, Val Φ K.rabbetref06_inner [.agg e.cells] (.int .i64 (sndT e))) (hQ : ∀ H', Q (.int .i64 (sndT t)) H') : S.rabbetref06_inner Φ (.agg t.cells) H Q := by
  have fin : ∀ v H', v = sndT t → Q (.int .i64 v) H' := fun v H' h => by rw [h]; exact hQ H'
  clear hQ
  rw [sndT_eq] at fin
  unfold S.rabbetref06_inner
  simp only [ty_box, DoH_some, ty_addr, ty_l0, Do_of, abin_eql, Gd_true]
  have hlen0 : ∀ n : Nat, decide ((n : Int) > 0) = !(n == 0) := fun n => by rw [Bool.eq_iff_iff]; simp; omega
  -- numbers
  have num : (t.kind = 1 ∨ t.kind = 2) → JoinP (S.rabbetref06_inner_k31 Φ (.fptr t.cells) (.int .i64 t.kind) Q) [.bool true] H := by
    intro hk
    have ho : onlyM t.kind t.size t.packed t.fields.length t.count t.elem.length = (!t.packed && t.fields.length == 0 && t.count == 0 && t.elem.length == 0) := by unfold onlyM; rw [if_pos hk]
    rw [ho] at fin
    clear ho
    have k1 : ∀ b : Bool, (∀ H', Q (.int .i64 (if b = true then 9 else 0)) H') → JoinP (S.rabbetref06_inner_k1 Φ Q) [.bool b] H := by
      intro b hb
      simp only [JoinP_def, S.rabbetref06_inner_k1, sl_zero, Gd_true]
      cases b
      · exact hb H
      · exact hb H
    have k3 : (!t.packed && t.fields.length == 0 && t.count == 0 && t.elem.length == 0) = true → JoinP (S.rabbetref06_inner_k3 Φ (.fptr t.cells) Q) [] H := by
      intro hc
      rw [hc] at fin
      simp only [Bool.true_eq_false, if_false] at fin
      simp only [JoinP_def, S.rabbetref06_inner_k3, ty_addr, ty_l0, ty_l1, Do_of, abin_eql, Gd3_true]
      refine bool_ite (fun h => ?_) (fun h => ?_)
      · have hk1 : t.kind = 1 := by simpa using h
        rw [if_pos hk1] at fin
        refine S.cl_rabbetref06_size hT (refsize_spec (.inl rfl) ?_)
        simp only [aun_not, Do_of, S.rabbetref06_inner_k2, sl_zero, Gd3_false, ty_addr, ty_l0, abin_eql, Gd3_true, hk1]
        refine bool_itef (fun h => ?_) (fun h => ?_)
        · rw [if_neg (by decide)]
          refine k1 _ fun H' => fin _ _ ?_
          have : pow2 t.size 8 = true := by simpa using h
          rw [if_pos this]; rfl
        · refine k1 _ fun H' => fin _ _ ?_
          have : pow2 t.size 8 = false := by simpa using h
          rw [this]; rfl
      · have hk1 : t.kind ≠ 1 := by simpa using h
        have hk2 : t.kind = 2 := by omega
        rw [if_neg hk1, if_pos hk2] at fin
        simp only [S.rabbetref06_inner_k2, sl_zero, Gd3_false, ty_addr, ty_l0, ty_l1, abin_eql, Gd3_true, hk2, Do_of, if_true, BEq.rfl]
        refine S.cl_rabbetref06_size hT (refsize_spec (.inr rfl) ?_)
        simp only [aun_not, Do_of]
        refine k1 _ fun H' => fin _ _ ?_
        cases pow2 t.size 16 <;> rfl
    have k4 : ∀ b : Bool, b = !(!t.packed && t.fields.length == 0 && t.count == 0 && t.elem.length == 0) → JoinP (S.rabbetref06_inner_k4 Φ (.fptr t.cells) Q) [.bool b] H := by
      intro b hb
      simp only [JoinP_def, S.rabbetref06_inner_k4, sl_zero, Gd_true]
      refine bool_ite (fun h => ?_) (fun h => ?_)
      · refine fin _ _ ?_
        rw [h] at hb
        rw [if_pos (by first | exact tnot hb | exact fnot hb)]
      · rw [h] at hb
        exact k3 (by first | exact tnot hb | exact fnot hb)
    have k5 : ∀ b : Bool, b = !(!t.packed && t.fields.length == 0 && t.count == 0) → JoinP (S.rabbetref06_inner_k5 Φ (.fptr t.cells) Q) [.bool b] H := by
      intro b hb
      simp only [JoinP_def, S.rabbetref06_inner_k5, sl_zero, Gd3_false, ty_addr, ty_l5, lstA_len', abin_gtr, Do_of, hlen0]
      refine bool_itef (fun h => ?_) (fun h => ?_)
      · refine k4 _ ?_
        rw [h] at hb
        have : (!t.packed && t.fields.length == 0 && t.count == 0) = true := by first | exact tnot hb | exact fnot hb
        rw [this]; rfl
      · refine k4 _ ?_
        rw [h] at hb
        have : (!t.packed && t.fields.length == 0 && t.count == 0) = false := by first | exact tnot hb | exact fnot hb
        rw [this]; rfl
    have k6 : ∀ b : Bool, b = !(!t.packed && t.fields.length == 0) → JoinP (S.rabbetref06_inner_k6 Φ (.fptr t.cells) Q) [.bool b] H := by
      intro b hb
      simp only [JoinP_def, S.rabbetref06_inner_k6, sl_zero, Gd3_false, ty_addr, ty_l4, abin_neq, Do_of]
      refine bool_itef (fun h => ?_) (fun h => ?_)
      · refine k5 _ ?_
        rw [h] at hb
        have : (!t.packed && t.fields.length == 0) = true := by first | exact tnot hb | exact fnot hb
        rw [this]; rfl
      · refine k5 _ ?_
        rw [h] at hb
        have : (!t.packed && t.fields.length == 0) = false := by first | exact tnot hb | exact fnot hb
        rw [this]; rfl
    simp only [JoinP_def, S.rabbetref06_inner_k31, sl_zero, Gd_true, if_true, ty_addr, ty_l2, ty_l3, Do_of, Gd3_false, lstA_len', abin_gtr, hlen0]
    refine bool_itef (fun h => ?_) (fun h => ?_)
    · exact k6 _ (by rw [h]; rfl)
    · exact k6 _ (by rw [h]; rfl)
  refine bool_ite (fun h1 => ?_) (fun h1 => ?_)
  · rw [h1]; exact num (.inl (by simpa using h1))
  have hk1 : t.kind ≠ 1 := by simpa using h1
  refine (fun (x : ∀ b : Bool, b = (t.kind == 2) → JoinP (S.rabbetref06_inner_k31 Φ (.fptr t.cells) (.int .i64 t.kind) Q) [.bool b] H) => x _ rfl) fun b hb => ?_
  by_cases hk2 : t.kind = 2
  · rw [hb, show (t.kind == 2) = true by simpa using hk2]; exact num (.inr hk2)
  have hb' : b = false := by rw [hb]; simpa using hk2
  subst hb'
  simp only [JoinP_def, S.rabbetref06_inner_k31, sl_zero, Gd_true, Bool.false_eq_true, if_false, abin_eql, Do_of]
  refine bool_ite (fun h5 => ?_) (fun h5 => ?_)
  · -- arrays
    have hk5 : t.kind = 5 := by simpa using h5
    have ho : onlyM t.kind t.size t.packed t.fields.length t.count t.elem.length = (t.size == 0 && !t.packed && t.fields.length == 0 && t.elem.length == 1) := by
      unfold onlyM; rw [if_neg (by omega), if_neg (by omega), if_pos hk5]
    rw [ho, if_neg hk1, if_neg hk2, if_pos hk5] at fin
    clear ho
    have k9 : (t.size == 0 && !t.packed && t.fields.length == 0 && t.elem.length == 1) = true → JoinP (S.rabbetref06_inner_k9 Φ (.fptr t.cells) Q) [] H := by
      intro hc
      rw [hc] at fin
      simp only [Bool.true_eq_false, if_false] at fin
      obtain ⟨e, hel⟩ : ∃ e, t.elem = [e] := by
        simp only [Bool.and_eq_true, beq_iff_eq] at hc
        exact List.length_eq_one_iff.1 hc.2
      have k8 : ∀ b : Bool, (b = true ↔ (t.count < 1 ∨ 65536 < t.count)) → JoinP (S.rabbetref06_inner_k8 Φ (.fptr t.cells) Q) [.bool b] H := by
        intro b hb
        simp only [JoinP_def, S.rabbetref06_inner_k8, sl_zero, Gd_true]
        refine ite_both (fun h => ?_) (fun h => ?_)
        · exact fin _ _ (by rw [if_pos (hb.1 h)])
        · rw [if_neg fun x => h (hb.2 x)] at fin
          simp only [S.rabbetref06_inner_k7, ty_addr, ty_l5, Do_of]
          have ha : aiaddr none 6 (lstA GType.cells t.elem) (.int .i64 0) = some (elA GType.cells 6 t.elem 0) := lstA_addr (by rw [hel]; simp)
          rw [ha]
          simp only [Do_of]
          rw [elA_load GType.len (by decide) _ (show t.elem[0]? = some e by rw [hel]; rfl)]
          simp only [Do_of]
          refine he e (by rw [hel]; simp) _ _ ?_
          exact fin _ _ (by rw [hel]; rfl)
      simp only [JoinP_def, S.rabbetref06_inner_k9, ty_addr, ty_l4, Do_of, abin_lss, Gd3_false, abin_gtr]
      refine bool_itef (fun h => ?_) (fun h => ?_)
      · refine k8 _ ?_
        have h' : ¬ t.count < 1 := by simpa using h
        simp only [decide_eq_true_eq, gt_iff_lt]; omega
      · refine k8 _ ?_
        have h' : t.count < 1 := by simpa using h
        simp only [true_iff]; omega
    have k10 : ∀ b : Bool, b = !(t.size == 0 && !t.packed && t.fields.length == 0 && t.elem.length == 1) → JoinP (S.rabbetref06_inner_k10 Φ (.fptr t.cells) Q) [.bool b] H := by
      intro b hb
      simp only [JoinP_def, S.rabbetref06_inner_k10, sl_zero, Gd_true]
      refine bool_ite (fun h => ?_) (fun h => ?_)
      · refine fin _ _ ?_
        rw [h] at hb
        rw [if_pos (by first | exact tnot hb | exact fnot hb)]
      · rw [h] at hb
        exact k9 (by first | exact tnot hb | exact fnot hb)
    have hlen1 : ((t.elem.length : Int) != 1) = !(t.elem.length == 1) := by rw [Bool.eq_iff_iff]; simp; omega
    have k11 : ∀ b : Bool, b = !(t.size == 0 && !t.packed && t.fields.length == 0) → JoinP (S.rabbetref06_inner_k11 Φ (.fptr t.cells) Q) [.bool b] H := by
      intro b hb
      simp only [JoinP_def, S.rabbetref06_inner_k11, sl_zero, Gd3_false, ty_addr, ty_l5, lstA_len', abin_neq, Do_of, hlen1]
      refine bool_itef (fun h => ?_) (fun h => ?_)
      · refine k10 _ ?_
        rw [h] at hb
        have : (t.size == 0 && !t.packed && t.fields.length == 0) = true := by first | exact tnot hb | exact fnot hb
        rw [this]; rfl
      · refine k10 _ ?_
        rw [h] at hb
        have : (t.size == 0 && !t.packed && t.fields.length == 0) = false := by first | exact tnot hb | exact fnot hb
        rw [this]; rfl
    have k12 : ∀ b : Bool, b = !(!t.packed && t.fields.length == 0) → JoinP (S.rabbetref06_inner_k12 Φ (.fptr t.cells) Q) [.bool b] H := by
      intro b hb
      simp only [JoinP_def, S.rabbetref06_inner_k12, sl_zero, Gd3_false, ty_addr, ty_l1, abin_neq, Do_of]
      refine bool_itef (fun h => ?_) (fun h => ?_)
      · refine k11 _ ?_
        rw [h] at hb
        have : (!t.packed && t.fields.length == 0) = true := by first | exact tnot hb | exact fnot hb
        rw [Bool.and_assoc, this, Bool.and_true]; rfl
      · refine k11 _ ?_
        rw [h] at hb
        have : (!t.packed && t.fields.length == 0) = false := by first | exact tnot hb | exact fnot hb
        rw [Bool.and_assoc, this, Bool.and_false]; rfl
    simp only [ty_addr, ty_l2, ty_l3, Do_of, Gd3_false, lstA_len', abin_gtr, hlen0]
    refine bool_itef (fun h => ?_) (fun h => ?_)
    · exact k12 _ (by rw [h]; rfl)
    · exact k12 _ (by rw [h]; rfl)
  have hk5 : t.kind ≠ 5 := by simpa using h5
  rw [if_neg hk1, if_neg hk2, if_neg hk5] at fin
  -- groups
  have k30 : ∀ b : Bool, (b = true ↔ (t.kind = 3 ∨ t.kind = 4)) → JoinP (S.rabbetref06_inner_k30 Φ (.fptr t.cells) Q) [.bool b] H := by
    intro b hb
    simp only [JoinP_def, S.rabbetref06_inner_k30, sl_zero, Gd_true]
    refine ite_both (fun hg => ?_) (fun hg => ?_)
    · have hk := hb.1 hg
      have ho : onlyM t.kind t.size t.packed t.fields.length t.count t.elem.length = (t.size == 0 && t.count == 0 && t.elem.length == 0) := by
        unfold onlyM; rw [if_neg (by omega), if_pos hk]
      rw [ho] at fin
      clear ho
      have k27 : (t.size == 0 && t.count == 0 && t.elem.length == 0) = true → JoinP (S.rabbetref06_inner_k27 Φ (.fptr t.cells) Q) [] H := by
        intro hc
        rw [hc] at fin
        simp only [Bool.true_eq_false, if_false] at fin
        have k26 : ∀ b : Bool, (b = true ↔ (t.fields.length < 1 ∨ 32 < t.fields.length)) → JoinP (S.rabbetref06_inner_k26 Φ (.fptr t.cells) Q) [.bool b] H := by
          intro b hb
          simp only [JoinP_def, S.rabbetref06_inner_k26, sl_zero, Gd_true]
          refine ite_both (fun h => ?_) (fun h => ?_)
          · exact fin _ _ (by rw [if_pos (hb.1 h)])
          · have hn : ¬ (t.fields.length < 1 ∨ 32 < t.fields.length) := fun x => h (hb.2 x)
            rw [if_neg hn] at fin
            simp only [S.rabbetref06_inner_k25]
            have main : ∀ (r : List GField) (i : Nat) (H1 : AH), t.fields.drop i = r → sndFs t.packed ((t.fields.take i).map GField.name) r = sndFs t.packed [] t.fields → LoopP (S.rabbetref06_inner_l24 Φ (.fptr t.cells) Q) ([.int .i64 i], H1) := by
              intro r
              induction r with
              | nil =>
                intro i H1 hd hs
                have hle := drop_nil_le hd
                refine LoopP.step ?_
                simp only [S.rabbetref06_inner_l24, sl_zero, ty_addr, ty_l3, lstA_len', Do_of, abin_lss, Gd_true]
                rw [if_neg (by simp only [decide_eq_true_eq]; omega)]
                exact fin _ _ (by rw [← hs]; rfl)
              | cons f r ih =>
                intro i H1 hd hs
                obtain ⟨hlt, hi, hd'⟩ := drop_cons_lt hd
                refine LoopP.step ?_
                simp only [S.rabbetref06_inner_l24, sl_zero, ty_addr, ty_l3, lstA_len', Do_of, abin_lss, Gd_true]
                rw [if_pos (by simp only [decide_eq_true_eq]; omega), lstA_addr hlt]
                simp only [Do_of]
                rw [elA_load GField.len (by decide) _ hi]
                simp only [Do_of, DoH_some, abox, if_true]
                rw [store_new _ _ _ 9 f.len f.scalar rfl]
                simp only [Do_of, afaddr, Nat.add_zero, Nat.zero_add]
                have r0 : aload (H1.push (.row f.cells)) 1 false (.ptr H1.n 0) = some (.str f.name) := by rw [load_push, fd_t0]
                have r7 : aload (H1.push (.row f.cells)) 1 false (.ptr H1.n 7) = some (.bool f.bits) := by rw [load_push, fd_t7]
                have r8 : aload (H1.push (.row f.cells)) 1 false (.ptr H1.n 8) = some (.int .i64 f.width) := by rw [load_push, fd_t8]
                have r1 : aload (H1.push (.row f.cells)) 6 true (.ptr H1.n 1) = some (.agg f.type.cells) := by rw [load_push, fd_t1]
                have rk : aload (H1.push (.row f.cells)) 1 false (.ptr H1.n 1) = some (.int .i64 f.type.kind) := by rw [load_push, fd_k]
                have rs : aload (H1.push (.row f.cells)) 1 false (.ptr H1.n 2) = some (.int .i64 f.type.size) := by rw [load_push, fd_s]
                generalize H1.push (.row f.cells) = H2 at *
                generalize H1.n = id at *
                simp only [sndFs] at hs
                have bad : ∀ v H', v = sndF t.packed ((t.fields.take i).map GField.name) f → v ≠ 0 → Q (.int .i64 v) H' := fun v H' hv hv0 => by
                  refine fin _ _ ?_
                  rw [← hs, if_pos (by rw [← hv]; exact hv0), hv]
                have good : sndF t.packed ((t.fields.take i).map GField.name) f = 0 → JoinP (S.rabbetref06_inner_k15 Φ ([.int .i64 i], H1) (LoopP (S.rabbetref06_inner_l24 Φ (.fptr t.cells) Q)) Q) [] H2 := by
                  intro hz
                  rw [if_neg (by simpa using hz)] at hs
                  simp only [JoinP_def, S.rabbetref06_inner_k15, sl_zero, abin_add, Do_of]
                  rw [wrap_i64 (by omega) (by omega), show ((i : Int) + 1) = ((i + 1 : Nat) : Int) by simp]
                  refine ih (i + 1) H2 hd' ?_
                  rw [List.take_add_one, hi]
                  simpa using hs
                generalize hL : (LoopP (S.rabbetref06_inner_l24 Φ (.fptr t.cells) Q)) = L at *
                -- the type, and what bits ask
                have k20 : ¬ (nameOk f.name = false ∧ (f.name ≠ [] ∨ f.bits = false)) → ¬ (f.name ≠ [] ∧ ((t.fields.take i).map GField.name).contains f.name = true) → JoinP (S.rabbetref06_inner_k20 Φ (.fptr t.cells) (.ptr id 0) ([.int .i64 i], H1) L Q) [] H2 := by
                  intro n1 n2
                  rw [sndF_eq, if_neg n1, if_neg n2] at bad good
                  simp only [JoinP_def, S.rabbetref06_inner_k20, afaddr, Nat.zero_add, Do_of, r1]
                  refine hf f (List.mem_of_getElem? hi) _ _ ?_
                  simp only [abin_neq, Do_of, Gd_true]
                  refine ite_both (fun h => ?_) (fun h => ?_)
                  · have h' : sndT f.type ≠ 0 := by simpa using h
                    exact bad _ _ (by rw [if_pos h']) h'
                  · have h0 : sndT f.type = 0 := by simpa using h
                    rw [if_neg (by simpa using h0)] at bad good
                    have k18 : ∀ b : Bool, (b = true ↔ ((f.bits = false ∧ f.width ≠ 0) ∨ (f.bits = true ∧ (f.type.kind ≠ 1 ∨ t.packed = true)))) → JoinP (S.rabbetref06_inner_k18 Φ (.ptr id 0) ([.int .i64 i], H1) L Q) [.bool b] H2 := by
                      intro b hb
                      simp only [JoinP_def, S.rabbetref06_inner_k18, sl_zero, Gd_true]
                      refine ite_both (fun h => ?_) (fun h => ?_)
                      · exact bad _ _ (by rw [if_pos (hb.1 h)]) (by decide)
                      · have hn8 : ¬ ((f.bits = false ∧ f.width ≠ 0) ∨ (f.bits = true ∧ (f.type.kind ≠ 1 ∨ t.packed = true))) := fun x => h (hb.2 x)
                        rw [if_neg hn8] at bad good
                        have k16 : ∀ b : Bool, (b = true ↔ (f.bits = true ∧ (f.width < 0 ∨ 8 * f.type.size < f.width ∨ (f.width = 0 ∧ f.name ≠ [])))) → JoinP (S.rabbetref06_inner_k16 Φ ([.int .i64 i], H1) L Q) [.bool b] H2 := by
                          intro b hb
                          simp only [JoinP_def, S.rabbetref06_inner_k16, sl_zero, Gd_true]
                          refine ite_both (fun h => ?_) (fun h => ?_)
                          · exact bad _ _ (by rw [if_pos (hb.1 h)]) (by decide)
                          · exact good (by rw [if_neg fun x => h (hb.2 x)])
                        simp only [S.rabbetref06_inner_k17, afaddr, Nat.zero_add, Do_of, r7, Gd3_true]
                        refine ite_both (fun hbits => ?_) (fun hbits => ?_)
                        · have hk1 : f.type.kind = 1 := by
                            by_cases hk : f.type.kind = 1
                            · exact hk
                            · exact absurd (.inr ⟨hbits, .inl hk⟩) hn8
                          have hsz : 1 ≤ f.type.size ∧ f.type.size ≤ 8 := by
                            rw [sndT_eq, hk1] at h0
                            split at h0
                            · cases h0
                            · simp only [if_true] at h0
                              split at h0
                              · rename_i hp
                                simp [pow2] at hp
                                omega
                              · cases h0
                          simp only [r8, abin_lss, Do_of, Gd3_false]
                          refine ite_both (fun hw => ?_) (fun hw => ?_)
                          · simp only [rs, Do_of, abin_mul]
                            rw [wrap_i64 (by omega) (by omega)]
                            simp only [abin_gtr, Do_of, Gd3_false]
                            refine ite_both (fun hw2 => ?_) (fun hw2 => ?_)
                            · simp only [abin_eql, Do_of, Gd3_true]
                              refine ite_both (fun hw3 => ?_) (fun hw3 => ?_)
                              · simp only [Nat.add_zero, r0, Do_of, abin_strne]
                                refine k16 _ ?_
                                simp only [decide_eq_false_iff_not, gt_iff_lt, beq_iff_eq] at hw hw2 hw3
                                simp [hbits, hw3]; omega
                              · refine k16 _ ?_
                                simp only [decide_eq_false_iff_not, gt_iff_lt, beq_iff_eq] at hw hw2 hw3
                                simp [hbits, hw3]; omega
                            · refine k16 _ ?_
                              simp only [decide_eq_false_iff_not, Decidable.not_not, gt_iff_lt] at hw2
                              simp [hbits, hw2]
                          · refine k16 _ ?_
                            simp only [decide_eq_false_iff_not, Decidable.not_not] at hw
                            simp [hbits, hw]
                        · refine k16 _ ?_
                          simp [hbits]
                    have k19 : ∀ b : Bool, (b = true ↔ (f.bits = false ∧ f.width ≠ 0)) → JoinP (S.rabbetref06_inner_k19 Φ (.fptr t.cells) (.ptr id 0) ([.int .i64 i], H1) L Q) [.bool b] H2 := by
                      intro b hb
                      simp only [JoinP_def, S.rabbetref06_inner_k19, sl_zero, Gd3_false, afaddr, Nat.zero_add, Do_of, r7]
                      refine ite_both (fun h => ?_) (fun h => ?_)
                      · have hn : ¬ (f.bits = false ∧ f.width ≠ 0) := fun x => by rw [hb.2 x] at h; cases h
                        simp only [Gd3_true]
                        refine ite_both (fun hbits => ?_) (fun hbits => ?_)
                        · have hl2 : aload H2 1 false (.fptr (t.cells.drop 2)) = some (.bool t.packed) := ty_l2 t H2
                          simp only [hl2, Do_of]
                          refine ite_both (fun hp => ?_) (fun hp => ?_)
                          · simp only [Nat.add_zero, rk, Do_of, abin_neq]
                            refine k18 _ ?_
                            simp [hbits, hp]
                          · refine k18 _ ?_
                            simp only [Bool.not_eq_false] at hp
                            simp [hbits, hp]
                        · refine k18 _ ?_
                          simp only [Bool.not_eq_true] at hbits
                          simp only [hbits] at hn ⊢
                          simp at hn
                          simp [hn]
                      · refine k18 _ ?_
                        have := hb.1 (by simpa using h)
                        simp [this]
                    simp only [r7, aun_not, Do_of, Gd3_true, r8, abin_neq]
                    refine ite_both (fun hbits => ?_) (fun hbits => ?_)
                    · refine k19 _ ?_
                      simp only [Bool.not_eq_true'] at hbits
                      simp [hbits]
                    · refine k19 _ ?_
                      simp only [Bool.not_eq_true', Bool.not_eq_false] at hbits
                      simp [hbits]
                -- no name twice
                have k23 : ∀ b : Bool, (b = true ↔ (nameOk f.name = false ∧ (f.name ≠ [] ∨ f.bits = false))) → JoinP (S.rabbetref06_inner_k23 Φ (.fptr t.cells) (.ptr id 0) ([.int .i64 i], H1) L Q) [.bool b] H2 := by
                  intro b hb
                  simp only [JoinP_def, S.rabbetref06_inner_k23, sl_zero, Gd_true]
                  refine ite_both (fun h => ?_) (fun h => ?_)
                  · exact bad _ _ (by rw [sndF_eq, if_pos (hb.1 h)]) (by decide)
                  · have n1 : ¬ (nameOk f.name = false ∧ (f.name ≠ [] ∨ f.bits = false)) := fun x => h (hb.2 x)
                    simp only [S.rabbetref06_inner_k22]
                    have inner : ∀ (d k : Nat), k + d = i → (∀ w ∈ t.fields.take k, ¬ (f.name ≠ [] ∧ w.name = f.name)) → LoopP (S.rabbetref06_inner_l21 Φ (.fptr t.cells) (.ptr id 0) ([.int .i64 i], H1) L Q) ([.int .i64 k], H2) := by
                      intro d
                      induction d with
                      | zero =>
                        intro k hk hw
                        refine LoopP.step ?_
                        simp only [S.rabbetref06_inner_l21, sl_zero, abin_lss, Do_of, Gd_true]
                        rw [if_neg (by simp only [decide_eq_true_eq]; omega)]
                        refine k20 n1 fun x => ?_
                        obtain ⟨x1, x2⟩ := x
                        rw [List.contains_iff_mem, List.mem_map] at x2
                        obtain ⟨w, hwm, hwn⟩ := x2
                        have hki : k = i := by omega
                        rw [hki] at hw
                        exact hw w hwm ⟨x1, hwn⟩
                      | succ d ih2 =>
                        intro k hk hw
                        have hklt : k < t.fields.length := by omega
                        obtain ⟨w, hwk⟩ : ∃ w, t.fields[k]? = some w := ⟨_, List.getElem?_eq_getElem hklt⟩
                        refine LoopP.step ?_
                        simp only [S.rabbetref06_inner_l21, sl_zero, abin_lss, Do_of, Gd_true]
                        rw [if_pos (by simp only [decide_eq_true_eq]; omega)]
                        simp only [afaddr, Nat.add_zero, r0, Do_of, abin_strne, Gd3_true]
                        have k14 : ∀ b : Bool, (b = true ↔ (f.name ≠ [] ∧ w.name = f.name)) → JoinP (S.rabbetref06_inner_k14 Φ ([.int .i64 k], H2) (LoopP (S.rabbetref06_inner_l21 Φ (.fptr t.cells) (.ptr id 0) ([.int .i64 i], H1) L Q)) Q) [.bool b] H2 := by
                          intro b hb
                          simp only [JoinP_def, S.rabbetref06_inner_k14, sl_zero, Gd_true]
                          refine ite_both (fun h => ?_) (fun h => ?_)
                          · obtain ⟨x1, x2⟩ := hb.1 h
                            refine bad _ _ ?_ (by decide)
                            have hc : ((t.fields.take i).map GField.name).contains f.name = true := by
                              rw [List.contains_iff_mem, List.mem_map]
                              refine ⟨w, ?_, x2⟩
                              have : (t.fields.take i)[k]? = some w := by rw [List.getElem?_take, if_pos (by omega)]; exact hwk
                              exact List.mem_of_getElem? this
                            rw [sndF_eq, if_neg n1, if_pos ⟨x1, hc⟩]
                          · simp only [S.rabbetref06_inner_k13, sl_zero, abin_add, Do_of]
                            rw [wrap_i64 (by omega) (by omega), show ((k : Int) + 1) = ((k + 1 : Nat) : Int) by simp]
                            refine ih2 (k + 1) (by omega) fun w' hw' => ?_
                            rw [List.take_add_one, hwk] at hw'
                            rcases List.mem_append.1 hw' with hw' | hw'
                            · exact hw w' hw'
                            · simp at hw'
                              subst hw'
                              exact fun x => h (hb.2 x)
                        refine bool_ite (fun hne => ?_) (fun hne => ?_)
                        · have hl3 : aload H2 1 false (.fptr (t.cells.drop 3)) = some (lstA GField.cells t.fields) := ty_l3 t H2
                          simp only [hl3, Do_of]
                          rw [lstA_addr hklt]
                          simp only [Do_of, elA, afaddr, field_name H2 hwk, Nat.add_zero, r0, abin_streq']
                          refine k14 _ ?_
                          have : f.name ≠ [] := by simpa using hne
                          simp [this]
                        · refine k14 _ ?_
                          have : f.name = [] := by simpa using hne
                          simp [this]
                    exact inner i 0 (by omega) fun w hw => by simp at hw
                simp only [r0, Do_of]
                refine S.cl_rabbetref06_Name hT (refName_spec ?_)
                simp only [aun_not, Do_of, Gd3_true]
                refine bool_ite (fun hn => ?_) (fun hn => ?_)
                · have hn' : nameOk f.name = false := by simpa using hn
                  simp only [r0, Do_of, abin_streq', Gd3_true]
                  refine bool_ite (fun he => ?_) (fun he => ?_)
                  · simp only [r7, Do_of, aun_not]
                    refine k23 _ ?_
                    have : f.name = [] := by simpa using he
                    have h0 : nameOk [] = false := rfl
                    simp [this, h0]
                  · refine k23 _ ?_
                    have : f.name ≠ [] := by simpa using he
                    simp [hn', this]
                · refine k23 _ ?_
                  have hn' : nameOk f.name = true := by simpa using hn
                  simp [hn']
            exact main t.fields 0 H rfl rfl
        simp only [JoinP_def, S.rabbetref06_inner_k27, ty_addr, ty_l3, lstA_len', Do_of, abin_eql, Gd3_false, abin_gtr]
        refine bool_itef (fun h => ?_) (fun h => ?_)
        · refine k26 _ ?_
          simp only [beq_eq_false_iff_ne, ne_eq] at h
          simp only [decide_eq_true_eq, gt_iff_lt]; omega
        · refine k26 _ ?_
          simp only [beq_iff_eq] at h
          simp only [true_iff]; omega
      have k28 : ∀ b : Bool, b = !(t.size == 0 && t.count == 0 && t.elem.length == 0) → JoinP (S.rabbetref06_inner_k28 Φ (.fptr t.cells) Q) [.bool b] H := by
        intro b hb
        simp only [JoinP_def, S.rabbetref06_inner_k28, sl_zero, Gd_true]
        refine bool_ite (fun h => ?_) (fun h => ?_)
        · refine fin _ _ ?_
          rw [h] at hb
          rw [if_pos (by first | exact tnot hb | exact fnot hb)]
        · rw [h] at hb
          exact k27 (by first | exact tnot hb | exact fnot hb)
      have k29 : ∀ b : Bool, b = !(t.size == 0 && t.count == 0) → JoinP (S.rabbetref06_inner_k29 Φ (.fptr t.cells) Q) [.bool b] H := by
        intro b hb
        simp only [JoinP_def, S.rabbetref06_inner_k29, sl_zero, Gd3_false, ty_addr, ty_l5, lstA_len', abin_gtr, Do_of, hlen0]
        refine bool_itef (fun h => ?_) (fun h => ?_)
        · refine k28 _ ?_
          rw [h] at hb
          have : (t.size == 0 && t.count == 0) = true := by first | exact tnot hb | exact fnot hb
          rw [this]; rfl
        · refine k28 _ ?_
          rw [h] at hb
          have : (t.size == 0 && t.count == 0) = false := by first | exact tnot hb | exact fnot hb
          rw [this]; rfl
      simp only [ty_addr, ty_l1, ty_l4, Do_of, abin_neq, Gd3_false]
      refine bool_itef (fun h => ?_) (fun h => ?_)
      · refine k29 _ ?_
        have : (t.size == 0) = true := by simpa using h
        rw [this]; rfl
      · refine k29 _ ?_
        have : (t.size == 0) = false := by simpa using h
        rw [this]; rfl
    · have hk : ¬ (t.kind = 3 ∨ t.kind = 4) := fun x => hg (hb.2 x)
      refine fin _ _ ?_
      have : onlyM t.kind t.size t.packed t.fields.length t.count t.elem.length = false := by unfold onlyM; rw [if_neg (by omega), if_neg hk, if_neg hk5]
      rw [if_pos this]
  refine bool_ite (fun h3 => ?_) (fun h3 => ?_)
  · refine k30 _ ?_
    rw [h3]
    simp only [beq_iff_eq] at h3
    simp [h3]
  · refine k30 _ ?_
    simp only [beq_eq_false_iff_ne, ne_eq] at h3
    simp [h3]
end

section
variable {C : Ctx} (hGT : GTok C) (hT : Cl (ACall C) S.tab_Chk)
include hGT hT
theorem refDepth_val : ∀ (m : Nat), 1 ≤ m → m ≤ 65 → ∀ t : GType, t.ok → Val (ACall C) K.rabbetref06_Depth [.agg t.cells, .int .i64 m] (.int .i64 (depT m t)) := by
  intro m
  induction m with
  | zero => intro h; omega
  | succ m ih =>
    intro _ hm t ht
    obtain ⟨h1, h2, h3, h4⟩ := Rb.ok_parts ht
    exact fun H Q hQ => S.cl_rabbetref06_Depth hT (refDepth_spec (by omega) hm h1 h3 (fun h f hf => ih (by omega) (by omega) f.type (h2 f hf)) (fun h e he => ih (by omega) (by omega) e (h4 e he)) hQ)
theorem refinner_val : ∀ t : GType, t.ok → Val (ACall C) K.rabbetref06_inner [.agg t.cells] (.int .i64 (sndT t)) := by
  refine GType.ind fun t ihf ihe ht => ?_
  obtain ⟨h1, h2, h3, h4⟩ := Rb.ok_parts ht
  exact Val.of hGT (by simp [AV.frozs, AV.froz, GType.froz]) rfl fun Q hQ => S.cl_rabbetref06_inner hT (refinner_spec hT h1 (fun f hf => ihf f hf (h2 f hf)) (fun e he => ihe e he (h4 e he)) hQ)
theorem refSound_val (t : GType) (ht : t.ok) : Val (ACall C) K.rabbetref06_Sound [.agg t.cells] (.int .i64 (soundM t)) := by
  intro H Q hQ
  refine S.cl_rabbetref06_Sound hT ?_
  unfold S.rabbetref06_Sound
  simp only [ty_box, DoH_some, ty_all, Do_of]
  refine refDepth_val hGT hT 65 (by omega) (by omega) t ht _ _ ?_
  simp only [abin_gtr, Do_of, Gd_true]
  unfold soundM at hQ
  refine ite_both (fun h => ?_) (fun h => ?_)
  · rw [if_pos (by simpa using h)] at hQ; exact hQ
  · rw [if_neg (by simpa using h)] at hQ
    exact refinner_val hGT hT t ht _ _ hQ
end
end Rb

/- Law 11, CheckPlaces: the document's answer; whether two types are one. -/
set_option linter.unusedVariables false
set_option linter.unusedSimpArgs false
set_option linter.unusedSectionVars false
namespace Rb
open Go

theorem tc0 (t : GType) : takeCells t.cells 0 1 false = some (.int .i64 t.kind) := by rw [GType.cells_eq]; rfl
theorem tc3 (t : GType) : takeCells t.cells 3 1 false = some (lstA GField.cells t.fields) := by rw [GType.cells_eq]; rfl
theorem tc5 (t : GType) : takeCells t.cells 5 1 false = some (lstA GType.cells t.elem) := by rw [GType.cells_eq]; rfl
theorem pc0 (p : GPart) : takeCells p.cells 0 1 false = some (.str p.field) := by rw [GPart.cells_eq]; rfl
theorem pc1 (p : GPart) : takeCells p.cells 1 1 false = some (lstA GExpr.cells p.index) := by rw [GPart.cells_eq]; rfl
theorem soundM_zero {t : GType} (h : soundM t = 0) : sndT t = 0 := by
  unfold soundM at h
  split at h
  · cases h
  · exact h
/-- The cells of a result's type: of a place, or none. -/
def resPC (r : Int × GType) : List AV := if r.1 = 0 then r.2.cells else zeroC
theorem resPC_len (r : Int × GType) : (resPC r).length = 6 := by unfold resPC; split; exact r.2.len; rfl
theorem resPC_scalar (r : Int × GType) : (resPC r).all AV.scalar = true := by unfold resPC; split; exact r.2.scalar; rfl
theorem resPV_eq (r : Int × GType) : resV r = .tup [.agg (resPC r), .int .i64 r.1] := by unfold resV resPC; split; rename_i h; rw [h]; rfl

section
variable {Φ : Calls'} {H : AH} {Q : Post}
theorem refPlace_spec (hT : Cl Φ S.tab_Chk) {vars : List GVar} {x : GPlace} (hlv : vars.length ≤ 9223372036854775807) (hlp : x.parts.length ≤ 9223372036854775807)
    (hsound : ∀ v ∈ vars, Val Φ K.rabbetref06_Sound [.agg v.type.cells] (.int .i64 (soundM v.type)))
    (hQ : ∀ H', Q (resV (placeM vars x)) H') : S.rabbetref11_Place Φ (lstA GVar.cells vars) (.agg x.cells) H Q := by
  have fin : ∀ v H', v = resV (placeM vars x) → Q v H' := fun v H' h => by rw [h]; exact hQ H'
  clear hQ
  unfold S.rabbetref11_Place
  simp only [pc_box, DoH_some, abox, if_true, lstA_len', Do_of, abin_sub]
  have at3 : At (H.push (.row zeroC)) H.n (.row zeroC) := At.new H _
  change At (H.push (.row [.int .i64 0, .int .i64 0, .bool false, .lst .nil 0 [], .int .i64 0, .lst .nil 0 []])) H.n _ at at3
  generalize (H.push (.row [.int .i64 0, .int .i64 0, .bool false, .lst .nil 0 [], .int .i64 0, .lst .nil 0 []])) = H4 at *
  generalize H.n = id3 at *
  -- the end
  have bad : ∀ (e : Int) (H1 : AH), At H1 id3 (.row zeroC) → e ≠ 0 → (placeM vars x).1 = e → Do (abuild [.int .i64 0, .int .i64 0, .bool false, .lst .nil 0 [], .int .i64 0, .lst .nil 0 []] []) fun x31 =>
      Do (astore H1 6 (.ptr id3 0) x31) fun H32 =>
      Do (aload H32 6 true (.ptr id3 0)) fun x33 =>
      Q (.tup [x33, (.int .i64 e)]) H32 := by
    intro e H1 hat he h
    rw [zero_build]
    simp only [Do_of]
    rw [hat.put (n := 6) rfl rfl rfl]
    simp only [Do_of]
    rw [(hat.set _).all (n := 6) rfl]
    simp only [Do_of]
    refine fin _ _ ?_
    unfold resV
    rw [h, if_neg he]
  have k16 : JoinP (S.rabbetref11_Place_k16 Φ (lstA GVar.cells vars) (.fptr x.cells) (.ptr id3 0) Q) [.int .i64 (idxI (vars.findIdx? fun v => v.name == x.var))] H4 := by
    simp only [JoinP_def, S.rabbetref11_Place_k16, sl_zero, abin_lss, Do_of, Gd_true]
    rcases find_idx (fun v : GVar => v.name == x.var) vars with ⟨i, v, h1, h2, h3⟩ | ⟨h1, h2⟩
    · have hlt := (List.getElem?_eq_some_iff.1 h3).1
      have hmem := List.mem_of_getElem? h3
      have hpm : placeM vars x = if soundM v.type ≠ 0 then (soundM v.type, v.type) else partsM v.type x.parts := by unfold placeM; rw [h2]
      rw [h1, if_neg (by show ¬ (decide ((i : Int) < 0) = true); rw [decide_eq_true_eq]; omega)]
      simp only [idxI]
      rw [lstA_addr hlt]
      simp only [Do_of, elA, afaddr, vr_type v H4 h3, DoH_some, abox, if_true]
      rw [store_new _ _ _ 6 v.type.len v.type.scalar rfl]
      simp only [Do_of]
      rw [load_push, takeCells_whole v.type.len]
      simp only [Do_of]
      have at28 : At (H4.push (.row v.type.cells)) H4.n (.row v.type.cells) := At.new H4 _
      have hne : id3 ≠ H4.n := at3.lt_new
      have at3' : At (H4.push (.row v.type.cells)) id3 (.row zeroC) := at3.push _
      generalize (H4.push (.row v.type.cells)) = H5 at *
      generalize H4.n = id28 at *
      refine hsound v hmem _ _ ?_
      have k13e : ∀ (e : Int) (H1 : AH), At H1 id3 (.row zeroC) → e ≠ 0 → (placeM vars x).1 = e → JoinP (S.rabbetref11_Place_k13 Φ (.ptr id3 0) (.ptr id28 0) Q) [.int .i64 e] H1 := by
        intro e H1 a3 he hp
        simp only [JoinP_def, S.rabbetref11_Place_k13, sl_zero, abin_neq, Do_of, Gd_true]
        rw [if_pos (by simpa using he)]
        exact bad e H1 a3 he hp
      have k13z : ∀ (t : GType) (H1 : AH), At H1 id3 (.row zeroC) → At H1 id28 (.row t.cells) → placeM vars x = (0, t) → JoinP (S.rabbetref11_Place_k13 Φ (.ptr id3 0) (.ptr id28 0) Q) [.int .i64 0] H1 := by
        intro t H1 a3 a28 hp
        simp only [JoinP_def, S.rabbetref11_Place_k13, sl_zero, abin_neq, Do_of, Gd_true]
        rw [if_neg (by decide), a28.all t.len]
        simp only [Do_of]
        rw [a3.put (n := 6) rfl t.len t.scalar]
        simp only [Do_of]
        rw [(a3.set _).all t.len]
        simp only [Do_of]
        refine fin _ _ ?_
        rw [hp]; rfl
      -- with an error the loop ends
      have stop : ∀ (e : Int) (k : Nat) (H1 : AH), At H1 id3 (.row zeroC) → e ≠ 0 → (placeM vars x).1 = e → LoopP (S.rabbetref11_Place_l15 Φ (.fptr x.cells) (.ptr id3 0) (.ptr id28 0) Q) ([.int .i64 e, .int .i64 k], H1) := by
        intro e k H1 a3 he hp
        refine LoopP.step ?_
        simp only [S.rabbetref11_Place_l15, sl_zero, sl_succ, pc_addr, pc_l1, lstA_len', Do_of, abin_lss, Gd3_true, abin_eql]
        have he' : (e == 0) = false := by simpa using he
        refine ite_both (fun _ => ?_) (fun _ => ?_)
        · simp only [JoinP_def, S.rabbetref11_Place_k14, sl_zero, Gd_true, he', Bool.false_eq_true, if_false]
          exact k13e e H1 a3 he hp
        · simp only [JoinP_def, S.rabbetref11_Place_k14, sl_zero, Gd_true, Bool.false_eq_true, if_false]
          exact k13e e H1 a3 he hp
      by_cases hs0 : soundM v.type = 0
      · rw [if_neg (by simpa using hs0)] at hpm
        rw [hs0]
        have main : ∀ (ps : List GPart) (i : Nat) (t : GType) (H1 : AH), x.parts.drop i = ps → At H1 id3 (.row zeroC) → At H1 id28 (.row t.cells) → sndT t = 0 → partsM t ps = placeM vars x →
            LoopP (S.rabbetref11_Place_l15 Φ (.fptr x.cells) (.ptr id3 0) (.ptr id28 0) Q) ([.int .i64 0, .int .i64 i], H1) := by
          intro ps
          induction ps with
          | nil =>
            intro i t H1 hd a3 a28 hst hfin
            have hle := drop_nil_le hd
            refine LoopP.step ?_
            simp only [S.rabbetref11_Place_l15, sl_zero, sl_succ, pc_addr, pc_l1, lstA_len', Do_of, abin_lss, Gd3_true]
            rw [if_neg (by simp only [decide_eq_true_eq]; omega)]
            simp only [JoinP_def, S.rabbetref11_Place_k14, sl_zero, Gd_true, Bool.false_eq_true, if_false]
            exact k13z t H1 a3 a28 (by rw [← hfin]; rfl)
          | cons p ps ih =>
            intro i t H1 hd a3 a28 hst hfin
            obtain ⟨hlt, hp, hd'⟩ := drop_cons_lt hd
            refine LoopP.step ?_
            simp only [S.rabbetref11_Place_l15, sl_zero, sl_succ, pc_addr, pc_l1, lstA_len', Do_of, abin_lss, Gd3_true]
            rw [if_pos (by simp only [decide_eq_true_eq]; omega)]
            simp only [abin_eql, Do_of, JoinP_def, S.rabbetref11_Place_k14, sl_zero, Gd_true, BEq.rfl, if_true, S.rabbetref11_Place_k12, sl_succ, pc_addr, pc_l1]
            rw [lstA_addr hlt]
            simp only [Do_of]
            rw [elA_load GPart.len (by decide) _ hp]
            simp only [Do_of, DoH_some, abox, if_true]
            rw [store_new _ _ _ 2 p.len p.scalar rfl]
            simp only [Do_of, afaddr, Nat.zero_add, Nat.add_zero]
            have b3 := a3.push (.row p.cells)
            have b28 := a28.push (.row p.cells)
            have at53 := At.new H1 (.row p.cells)
            have hne28 : id28 ≠ H1.n := a28.lt_new
            generalize H1.push (.row p.cells) = H2 at *
            generalize H1.n = id53 at *
            have m1 : ∀ {H'}, At H' id53 (.row p.cells) → aload H' 1 false (.ptr id53 1) = some (lstA GExpr.cells p.index) := fun h => by rw [h.load]; exact pc1 p
            have m0 : ∀ {H'}, At H' id53 (.row p.cells) → aload H' 1 false (.ptr id53 0) = some (.str p.field) := fun h => by rw [h.load]; exact pc0 p
            have t0 : ∀ {H'}, At H' id28 (.row t.cells) → aload H' 1 false (.ptr id28 0) = some (.int .i64 t.kind) := fun h => by rw [h.load]; exact tc0 t
            have t3 : ∀ {H'}, At H' id28 (.row t.cells) → aload H' 1 false (.ptr id28 3) = some (lstA GField.cells t.fields) := fun h => by rw [h.load]; exact tc3 t
            have t5 : ∀ {H'}, At H' id28 (.row t.cells) → aload H' 1 false (.ptr id28 5) = some (lstA GType.cells t.elem) := fun h => by rw [h.load]; exact tc5 t
            simp only [m1 at53, Do_of, lstA_len', abin_eql]
            simp only [partsM] at hfin
            generalize hL : LoopP (S.rabbetref11_Place_l15 Φ (.fptr x.cells) (.ptr id3 0) (.ptr id28 0) Q) = L at *
            have next0 : ∀ (u : GType) (H3 : AH), At H3 id3 (.row zeroC) → At H3 id28 (.row u.cells) → partM t p = (0, u) → JoinP (S.rabbetref11_Place_k2 Φ ([.int .i64 0, .int .i64 i], H1) L Q) [.int .i64 0] H3 := by
              intro u H3 c3 c28 hu
              simp only [JoinP_def, S.rabbetref11_Place_k2, sl_zero, sl_succ, abin_add, Do_of]
              rw [wrap_i64 (by omega) (by omega), show ((i : Int) + 1) = ((i + 1 : Nat) : Int) by simp]
              rw [hu, if_neg (by simp)] at hfin
              have hsu : sndT u = 0 := by have := partM_snd (x := p) hst (by rw [hu]); rw [hu] at this; exact this
              exact ih (i + 1) u H3 hd' c3 c28 hsu hfin
            have nextE : ∀ (e : Int) (H3 : AH), At H3 id3 (.row zeroC) → e ≠ 0 → (partM t p).1 = e → JoinP (S.rabbetref11_Place_k2 Φ ([.int .i64 0, .int .i64 i], H1) L Q) [.int .i64 e] H3 := by
              intro e H3 c3 he hu
              simp only [JoinP_def, S.rabbetref11_Place_k2, sl_zero, sl_succ, abin_add, Do_of]
              rw [wrap_i64 (by omega) (by omega), show ((i : Int) + 1) = ((i + 1 : Nat) : Int) by simp]
              rw [if_pos (by rw [hu]; exact he)] at hfin
              exact stop e (i + 1) H3 c3 he (by rw [← hfin, hu])
            -- fields
            have k8 : ∀ b : Bool, (b = true ↔ (p.index.length = 0 ∧ p.field ≠ [] ∧ (t.kind = 3 ∨ t.kind = 4))) → ¬ (p.index.length = 1 ∧ p.field = [] ∧ t.kind = 5) → JoinP (S.rabbetref11_Place_k8 Φ (.ptr id28 0) (.ptr id53 0) ([.int .i64 0, .int .i64 i], H1) L Q) [.bool b] H2 := by
              intro b hb hn5
              simp only [JoinP_def, S.rabbetref11_Place_k8, sl_zero, Gd_true]
              refine ite_both (fun h => ?_) (fun h => ?_)
              · obtain ⟨g1, g2, g3⟩ := hb.1 h
                have hpart : partM t p = match t.fields.find? (fun f => f.name == p.field) with | some f => (0, f.type) | none => (6, t) := by
                  unfold partM
                  rw [if_neg (by rw [g1]; simp [g2]), if_neg (by rw [g1]; simp), if_neg (by rw [g1]; simp [g3])]
                  all_goals (cases t.fields.find? (fun f => f.name == p.field) <;> rfl)
                rw [zero_build]
                simp only [Do_of, DoH_some, abox, if_true]
                have c3 := b3.push (.row zeroC)
                have c28 := b28.push (.row zeroC)
                have c53 := at53.push (.row zeroC)
                have at94 := At.new H2 (.row zeroC)
                have n3 : id3 ≠ H2.n := b3.lt_new
                have n28 : id28 ≠ H2.n := b28.lt_new
                have n53 : id53 ≠ H2.n := at53.lt_new
                change Do (astore (H2.push (.row zeroC)) 6 (.ptr H2.n 0) (.agg zeroC)) _
                generalize H2.push (.row zeroC) = H6 at *
                generalize H2.n = id94 at *
                rw [at94.put (n := 6) rfl rfl rfl]
                simp only [Do_of]
                have d3 := c3.set_ne n3 (.row zeroC)
                have d28 := c28.set_ne n28 (.row zeroC)
                have d53 := c53.set_ne n53 (.row zeroC)
                have d94 := at94.set (.row zeroC)
                generalize H6.set id94 (.row zeroC) = H7 at *
                -- what was found
                have k5 : ∀ (e : Int) (cs : List AV) (H8 : AH), At H8 id3 (.row zeroC) → At H8 id28 (.row t.cells) → At H8 id94 (.row cs) → cs.length = 6 → cs.all AV.scalar = true → ((e = 0 ∧ ∃ u : GType, cs = u.cells ∧ partM t p = (0, u)) ∨ (e ≠ 0 ∧ (partM t p).1 = e)) →
                    JoinP (S.rabbetref11_Place_k5 Φ (.ptr id28 0) (.ptr id94 0) ([.int .i64 0, .int .i64 i], H1) L Q) [.int .i64 e] H8 := by
                  intro e cs H8 e3 e28 e94 hcl hcs hc
                  simp only [JoinP_def, S.rabbetref11_Place_k5, sl_zero]
                  rw [e94.all hcl]
                  simp only [Do_of]
                  rw [e28.put t.len hcl hcs]
                  simp only [Do_of]
                  rcases hc with ⟨rfl, u, rfl, hu⟩ | ⟨he, hu⟩
                  · exact next0 u _ (e3.set_ne hne _) (e28.set _) hu
                  · exact nextE e _ (e3.set_ne hne _) he hu
                have floop : ∀ (r : List GField) (j : Nat), t.fields.drop j = r → t.fields.find? (fun f => f.name == p.field) = r.find? (fun f => f.name == p.field) →
                    LoopP (S.rabbetref11_Place_l7 Φ (.ptr id28 0) (.ptr id53 0) (.ptr id94 0) ([.int .i64 0, .int .i64 i], H1) L Q) ([.int .i64 6, .int .i64 j], H7) := by
                  intro r
                  induction r with
                  | nil =>
                    intro j hd7 hf7
                    have hle := drop_nil_le hd7
                    refine LoopP.step ?_
                    simp only [S.rabbetref11_Place_l7, sl_zero, sl_succ, afaddr, Nat.zero_add, t3 d28, lstA_len', Do_of, abin_lss, Gd3_true]
                    rw [if_neg (by simp only [decide_eq_true_eq]; omega)]
                    simp only [JoinP_def, S.rabbetref11_Place_k6, sl_zero, Gd_true, Bool.false_eq_true, if_false]
                    refine k5 6 zeroC H7 d3 d28 d94 rfl rfl (.inr ⟨by decide, ?_⟩)
                    rw [hpart, hf7]; rfl
                  | cons f r ih7 =>
                    intro j hd7 hf7
                    obtain ⟨hlt7, hx7, hd7'⟩ := drop_cons_lt hd7
                    have hfl : t.fields.length ≤ 32 := (snd_grp hst g3).2
                    refine LoopP.step ?_
                    simp only [S.rabbetref11_Place_l7, sl_zero, sl_succ, afaddr, Nat.zero_add, t3 d28, lstA_len', Do_of, abin_lss, Gd3_true]
                    rw [if_pos (by simp only [decide_eq_true_eq]; omega)]
                    simp only [abin_neq, Do_of, JoinP_def, S.rabbetref11_Place_k6, sl_zero, Gd_true]
                    rw [if_pos (by decide)]
                    simp only [S.rabbetref11_Place_k4, sl_zero, sl_succ, afaddr, Nat.zero_add, Nat.add_zero, t3 d28, Do_of]
                    rw [lstA_addr hlt7]
                    simp only [Do_of, elA, afaddr, field_name H7 hx7, m0 d53, abin_streq', Gd_true, field_type H7 hx7]
                    rw [List.find?_cons] at hf7
                    refine bool_ite (fun h => ?_) (fun h => ?_)
                    · rw [h] at hf7
                      simp only at hf7
                      rw [d94.put (n := 6) rfl f.type.len f.type.scalar]
                      simp only [Do_of, JoinP_def, S.rabbetref11_Place_k3, sl_zero, sl_succ, abin_add]
                      rw [wrap_i64 (by omega) (by omega), show ((j : Int) + 1) = ((j + 1 : Nat) : Int) by simp]
                      have e3 := d3.set_ne n3 (.row f.type.cells)
                      have e28 := d28.set_ne n28 (.row f.type.cells)
                      have e94 := d94.set (.row f.type.cells)
                      generalize H7.set id94 (.row f.type.cells) = H8 at *
                      have hend : JoinP (S.rabbetref11_Place_k5 Φ (.ptr id28 0) (.ptr id94 0) ([.int .i64 0, .int .i64 i], H1) L Q) [.int .i64 0] H8 :=
                        k5 0 f.type.cells H8 e3 e28 e94 f.type.len f.type.scalar (.inl ⟨rfl, f.type, rfl, by rw [hpart, hf7]⟩)
                      refine LoopP.step ?_
                      simp only [S.rabbetref11_Place_l7, sl_zero, sl_succ, afaddr, Nat.zero_add, t3 e28, lstA_len', Do_of, abin_lss, Gd3_true]
                      refine ite_both (fun _ => ?_) (fun _ => ?_)
                      · simp only [abin_neq, Do_of, JoinP_def, S.rabbetref11_Place_k6, sl_zero, Gd_true]
                        rw [if_neg (by decide)]
                        exact hend
                      · simp only [JoinP_def, S.rabbetref11_Place_k6, sl_zero, Gd_true, Bool.false_eq_true, if_false]
                        exact hend
                    · rw [h] at hf7
                      simp only at hf7
                      simp only [JoinP_def, S.rabbetref11_Place_k3, sl_zero, sl_succ, abin_add, Do_of]
                      rw [wrap_i64 (by omega) (by omega), show ((j : Int) + 1) = ((j + 1 : Nat) : Int) by simp]
                      exact ih7 (j + 1) hd7' hf7
                exact floop t.fields 0 rfl rfl
              · have hn : ¬ (p.index.length = 0 ∧ p.field ≠ [] ∧ (t.kind = 3 ∨ t.kind = 4)) := fun y => h (hb.2 y)
                refine nextE 8 H2 b3 (by decide) ?_
                unfold partM
                by_cases c1 : 1 < p.index.length ∨ (p.index.length = 1 ↔ p.field ≠ [])
                · rw [if_pos c1]
                · rw [if_neg c1]
                  by_cases c2 : p.index.length = 1 ∧ t.kind = 5
                  · exfalso
                    refine hn5 ⟨c2.1, ?_, c2.2⟩
                    by_cases hfe : p.field = []
                    · exact hfe
                    · exact absurd (.inr ⟨fun _ => hfe, fun _ => c2.1⟩) c1
                  · rw [if_neg c2]
                    by_cases c3 : p.index.length = 1 ∨ ¬ (t.kind = 3 ∨ t.kind = 4)
                    · rw [if_pos c3]
                    · exfalso
                      have hi0 : p.index.length = 0 := by omega
                      refine hn ⟨hi0, ?_, by omega⟩
                      intro hfe
                      exact c1 (.inr ⟨fun y => by omega, fun y => absurd hfe y⟩)
            have k9 : ∀ b : Bool, (b = true ↔ (p.index.length = 0 ∧ p.field ≠ [])) → ¬ (p.index.length = 1 ∧ p.field = [] ∧ t.kind = 5) → JoinP (S.rabbetref11_Place_k9 Φ (.ptr id28 0) (.ptr id53 0) ([.int .i64 0, .int .i64 i], H1) L Q) [.bool b] H2 := by
              intro b hb hn5
              simp only [JoinP_def, S.rabbetref11_Place_k9, sl_zero, Gd3_true, afaddr, Nat.add_zero, t0 b28, Do_of, abin_eql, Gd3_false]
              refine bool_ite (fun h => ?_) (fun h => ?_)
              · obtain ⟨g1, g2⟩ := hb.1 h
                refine bool_itef (fun h3 => ?_) (fun h3 => ?_)
                · refine k8 _ ?_ hn5
                  have h3' : t.kind ≠ 3 := by simpa using h3
                  simp [g1, g2, h3']
                · refine k8 _ ?_ hn5
                  have h3' : t.kind = 3 := by simpa using h3
                  simp [g1, g2, h3']
              · refine k8 _ ?_ hn5
                have : ¬ (p.index.length = 0 ∧ p.field ≠ []) := fun y => by have := hb.2 y; rw [h] at this; cases this
                constructor
                · intro y; cases y
                · intro y; exact absurd ⟨y.1, y.2.1⟩ this
            have k10 : ∀ b : Bool, (b = true ↔ (p.index.length = 1 ∧ p.field = [] ∧ t.kind = 5)) → JoinP (S.rabbetref11_Place_k10 Φ (.ptr id28 0) (.ptr id53 0) ([.int .i64 0, .int .i64 i], H1) L Q) [.bool b] H2 := by
              intro b hb
              simp only [JoinP_def, S.rabbetref11_Place_k10, sl_zero, Gd_true]
              refine ite_both (fun h => ?_) (fun h => ?_)
              · obtain ⟨g1, g2, g3⟩ := hb.1 h
                obtain ⟨e, hel, hse⟩ := snd_arr hst g3
                simp only [afaddr, Nat.zero_add, t5 b28, Do_of]
                have ha : aiaddr none 6 (lstA GType.cells t.elem) (.int .i64 0) = some (elA GType.cells 6 t.elem 0) := lstA_addr (by rw [hel]; simp)
                rw [ha]
                simp only [Do_of]
                rw [elA_load GType.len (by decide) _ (show t.elem[0]? = some e by rw [hel]; rfl)]
                simp only [Do_of]
                rw [b28.put t.len e.len e.scalar]
                simp only [Do_of, sl_zero]
                refine next0 e _ (b3.set_ne hne _) (b28.set _) ?_
                unfold partM
                rw [if_neg (by rw [g1, g2]; simp), if_pos ⟨g1, g3⟩, hel]
              · have hn5 : ¬ (p.index.length = 1 ∧ p.field = [] ∧ t.kind = 5) := fun y => h (hb.2 y)
                simp only [afaddr, Nat.zero_add, Nat.add_zero, m1 at53, m0 at53, Do_of, lstA_len', abin_eql, abin_strne, Gd3_true]
                refine bool_ite (fun h0 => ?_) (fun h0 => ?_)
                · refine k9 _ ?_ hn5
                  have h0' : p.index.length = 0 := by simp only [beq_iff_eq] at h0; omega
                  simp [h0']
                · refine k9 _ ?_ hn5
                  have h0' : p.index.length ≠ 0 := by simp only [beq_eq_false_iff_ne, ne_eq] at h0; omega
                  simp [h0']
            have k11 : ∀ b : Bool, (b = true ↔ (p.index.length = 1 ∧ p.field = [])) → JoinP (S.rabbetref11_Place_k11 Φ (.ptr id28 0) (.ptr id53 0) ([.int .i64 0, .int .i64 i], H1) L Q) [.bool b] H2 := by
              intro b hb
              simp only [JoinP_def, S.rabbetref11_Place_k11, sl_zero, Gd3_true, afaddr, Nat.add_zero, t0 b28, Do_of, abin_eql]
              refine bool_ite (fun h => ?_) (fun h => ?_)
              · obtain ⟨g1, g2⟩ := hb.1 h
                refine k10 _ ?_
                simp [g1, g2]
              · refine k10 _ ?_
                have : ¬ (p.index.length = 1 ∧ p.field = []) := fun y => by have := hb.2 y; rw [h] at this; cases this
                constructor
                · intro y; cases y
                · intro y; exact absurd ⟨y.1, y.2.1⟩ this
            simp only [Gd3_true, m0 at53, Do_of, abin_streq']
            refine bool_ite (fun h => ?_) (fun h => ?_)
            · refine k11 _ ?_
              have h' : p.index.length = 1 := by simp only [beq_iff_eq] at h; omega
              simp [h']
            · refine k11 _ ?_
              have h' : p.index.length ≠ 1 := by simp only [beq_eq_false_iff_ne, ne_eq] at h; omega
              simp [h']
        exact main x.parts 0 v.type H5 rfl at3' at28 (soundM_zero hs0) hpm.symm
      · rw [if_pos hs0] at hpm
        exact stop _ 0 H5 at3' hs0 (by rw [hpm])
    · rw [h1, if_pos (by simp [idxI])]
      exact bad 6 _ at3 (by decide) (by unfold placeM; rw [h2])
  -- which variable
  have main : ∀ (k : Nat), k ≤ vars.length → LoopP (S.rabbetref11_Place_l17 Φ (lstA GVar.cells vars) (.fptr x.cells) (.ptr id3 0) Q) ([.int .i64 (idxI (((vars.drop k).findIdx? fun v => v.name == x.var).map (· + k))), .int .i64 ((k : Int) - 1)], H4) := by
    intro k
    induction k with
    | zero =>
      intro _
      refine LoopP.step ?_
      simp only [S.rabbetref11_Place_l17, sl_zero, sl_succ, abin_geq, Do_of, Gd_true]
      rw [if_neg (by decide)]
      have : ((vars.drop 0).findIdx? fun v => v.name == x.var).map (· + 0) = vars.findIdx? fun v => v.name == x.var := by
        rw [List.drop_zero]; cases (vars.findIdx? fun v => v.name == x.var) <;> rfl
      rw [this]
      exact k16
    | succ k ih =>
      intro hk
      have hlt : k < vars.length := by omega
      obtain ⟨v, hv⟩ : ∃ v, vars[k]? = some v := ⟨_, List.getElem?_eq_getElem hlt⟩
      have hdk : vars.drop k = v :: vars.drop (k + 1) := by
        rw [List.drop_eq_getElem_cons hlt]
        rw [List.getElem?_eq_getElem hlt] at hv
        simp at hv
        rw [hv]
      have ih' := ih (by omega)
      rw [hdk, List.findIdx?_cons] at ih'
      have ek : (((k + 1 : Nat) : Int) - 1) = (k : Int) := by omega
      rw [ek]
      refine LoopP.step ?_
      simp only [S.rabbetref11_Place_l17, sl_zero, sl_succ, abin_geq, Do_of, Gd_true]
      rw [if_pos (by simp only [decide_eq_true_eq]; omega), lstA_addr hlt]
      have hname : aload H4 1 false (.fptr (((vars.flatMap GVar.cells).drop (k * 7)).drop 0)) = some (.str v.name) := by
        show takeCells _ 0 1 false = _
        rw [List.drop_zero, flatMap_drop GVar.len, hdk, List.flatMap_cons, GVar.cells]
        rfl
      simp only [Do_of, elA, afaddr, hname, pc_l0, abin_streq', Gd_true]
      have next : ∀ z : Int, z = idxI ((if (v.name == x.var) = true then some 0 else ((vars.drop (k + 1)).findIdx? fun v => v.name == x.var).map (· + 1)).map (· + k)) →
          JoinP (S.rabbetref11_Place_k1 Φ ([.int .i64 (idxI (((vars.drop (k + 1)).findIdx? fun v => v.name == x.var).map (· + (k + 1)))), .int .i64 k], H4) (LoopP (S.rabbetref11_Place_l17 Φ (lstA GVar.cells vars) (.fptr x.cells) (.ptr id3 0) Q)) Q) [.int .i64 z] H4 := by
        intro z hz
        simp only [JoinP_def, S.rabbetref11_Place_k1, sl_zero, sl_succ, abin_sub, Do_of]
        rw [wrap_i64 (by omega) (by omega), hz]
        exact ih'
      refine bool_ite (fun h => next _ ?_) (fun h => next _ ?_)
      · rw [if_pos h]; simp [idxI]
      · rw [h, if_neg (by decide)]
        cases (vars.drop (k + 1)).findIdx? fun v => v.name == x.var with
        | none => rfl
        | some j => simp [idxI]; omega
  have := main vars.length (Nat.le_refl _)
  rw [List.drop_length] at this
  rw [wrap_i64 (by omega) (by omega)]
  exact this

/-- A type is the same as itself. -/
theorem refSame_spec {t : GType} (hlf : t.fields.length ≤ 9223372036854775807) (hle : t.elem.length ≤ 9223372036854775807) (hf : ∀ f ∈ t.fields, Val Φ K.rabbetref06_Same [.agg f.type.cells, .agg f.type.cells] (.bool true))
    (he : ∀ e ∈ t.elem, Val Φ K.rabbetref06_Same [.agg e.cells, .agg e.cells] (.bool true)) (hQ : ∀ H', Q (.bool true) H') : S.rabbetref06_Same Φ (.agg t.cells) (.agg t.cells) H Q := by
  unfold S.rabbetref06_Same
  simp only [ty_box, DoH_some, ty_addr, ty_l0, ty_l1, ty_l2, ty_l3, ty_l4, ty_l5, lstA_len', Do_of, abin_neq, abeq_def, bne_self_eq_false, beq_self_eq_true, Bool.not_true, Gd3_false, JoinP_def, S.rabbetref06_Same_k13, S.rabbetref06_Same_k12, S.rabbetref06_Same_k11, S.rabbetref06_Same_k10, S.rabbetref06_Same_k9, sl_zero, Gd_true, if_true, Bool.false_eq_true, if_false, S.rabbetref06_Same_k8]
  have k6 : ∀ H1, JoinP (S.rabbetref06_Same_k6 Φ (.fptr t.cells) (.fptr t.cells) Q) [] H1 := by
    intro H1
    simp only [JoinP_def, S.rabbetref06_Same_k6]
    have main : ∀ (r : List GField) (i : Nat) (H1 : AH), t.fields.drop i = r → LoopP (S.rabbetref06_Same_l5 Φ (.fptr t.cells) (.fptr t.cells) Q) ([.int .i64 i], H1) := by
      intro r
      induction r with
      | nil =>
        intro i H1 hd
        have hle := drop_nil_le hd
        refine LoopP.step ?_
        simp only [S.rabbetref06_Same_l5, sl_zero, ty_addr, ty_l3, lstA_len', Do_of, abin_lss, Gd_true]
        rw [if_neg (by simp only [decide_eq_true_eq]; omega)]
        exact hQ H1
      | cons f r ih =>
        intro i H1 hd
        obtain ⟨hlt, hx, hd'⟩ := drop_cons_lt hd
        refine LoopP.step ?_
        simp only [S.rabbetref06_Same_l5, sl_zero, ty_addr, ty_l3, lstA_len', Do_of, abin_lss, Gd_true]
        rw [if_pos (by simp only [decide_eq_true_eq]; omega), lstA_addr hlt]
        have hl : ∀ H, aload H 9 true (elA GField.cells 9 t.fields i) = some (.agg f.cells) := fun H => elA_load GField.len (by decide) H hx
        simp only [Do_of, hl, DoH_some, abox, if_true, true_and]
        have hzl : ([.str [], .int .i64 0, .int .i64 0, .bool false, .lst .nil 0 [], .int .i64 0, .lst .nil 0 [], .bool false, .int .i64 0] : List AV).length = 9 := rfl
        generalize ([.str [], .int .i64 0, .int .i64 0, .bool false, .lst .nil 0 [], .int .i64 0, .lst .nil 0 [], .bool false, .int .i64 0] : List AV) = zs at *
        have a1 := (At.new H1 (.row zs)).push (.row zs)
        have a2 := At.new (H1.push (.row zs)) (.row zs)
        have hne : H1.n ≠ (H1.push (.row zs)).n := by simp
        generalize (H1.push (.row zs)).n = id2 at *
        generalize (H1.push (.row zs)).push (.row zs) = H2 at *
        generalize H1.n = id1 at *
        rw [a1.put (n := 9) hzl f.len f.scalar]
        simp only [Do_of]
        have b1 := a1.set (.row f.cells)
        have b2 := a2.set_ne (Ne.symm hne) (.row f.cells)
        generalize H2.set id1 (.row f.cells) = H3 at *
        rw [b2.put (n := 9) hzl f.len f.scalar]
        have c1 := b1.set_ne hne (.row f.cells)
        have c2 := b2.set (.row f.cells)
        generalize H3.set id2 (.row f.cells) = H4 at *
        have g : ∀ {id : Nat}, At H4 id (.row f.cells) → aload H4 1 false (.ptr id 0) = some (.str f.name) ∧ aload H4 1 false (.ptr id 7) = some (.bool f.bits) ∧ aload H4 1 false (.ptr id 8) = some (.int .i64 f.width) ∧ aload H4 6 true (.ptr id 1) = some (.agg f.type.cells) :=
          fun h => ⟨by rw [h.load, fd_t0], by rw [h.load, fd_t7], by rw [h.load, fd_t8], by rw [h.load, fd_t1]⟩
        obtain ⟨p0, p7, p8, p1⟩ := g c1
        obtain ⟨q0, q7, q8, q1⟩ := g c2
        simp only [Do_of, afaddr, Nat.zero_add, Nat.add_zero, p0, q0, abin_strne, beq_self_eq_true, Bool.not_true, Gd3_false, if_true, p7, q7, abeq_def, JoinP_def, S.rabbetref06_Same_k4, sl_zero, p8, q8, abin_neq, bne_self_eq_false, S.rabbetref06_Same_k3, p1, q1]
        refine hf f (List.mem_of_getElem? hx) _ _ ?_
        simp only [aun_not, Do_of, Bool.not_true, S.rabbetref06_Same_k2, sl_zero, Gd_true, Bool.false_eq_true, if_false, JoinP_def, S.rabbetref06_Same_k1, abin_add]
        rw [wrap_i64 (by omega) (by omega), show ((i : Int) + 1) = ((i + 1 : Nat) : Int) by simp]
        exact ih (i + 1) H4 hd'
    exact main t.fields 0 H1 rfl
  have main : ∀ (r : List GType) (i : Nat) (H1 : AH), t.elem.drop i = r → LoopP (S.rabbetref06_Same_l7 Φ (.fptr t.cells) (.fptr t.cells) Q) ([.int .i64 i], H1) := by
    intro r
    induction r with
    | nil =>
      intro i H1 hd
      have hle := drop_nil_le hd
      refine LoopP.step ?_
      simp only [S.rabbetref06_Same_l7, sl_zero, ty_addr, ty_l5, lstA_len', Do_of, abin_lss, Gd_true]
      rw [if_neg (by simp only [decide_eq_true_eq]; omega)]
      exact k6 H1
    | cons e r ih =>
      intro i H1 hd
      obtain ⟨hlt, hx, hd'⟩ := drop_cons_lt hd
      refine LoopP.step ?_
      simp only [S.rabbetref06_Same_l7, sl_zero, ty_addr, ty_l5, lstA_len', Do_of, abin_lss, Gd_true]
      rw [if_pos (by simp only [decide_eq_true_eq]; omega), lstA_addr hlt]
      have hl : ∀ H, aload H 6 true (elA GType.cells 6 t.elem i) = some (.agg e.cells) := fun H => elA_load GType.len (by decide) H hx
      simp only [Do_of, hl]
      refine he e (List.mem_of_getElem? hx) _ _ ?_
      simp only [aun_not, Do_of, Bool.not_true, Gd_true, Bool.false_eq_true, if_false, abin_add]
      rw [wrap_i64 (by omega) (by omega), show ((i : Int) + 1) = ((i + 1 : Nat) : Int) by simp]
      exact ih (i + 1) H1 hd'
  exact main t.elem 0 H rfl
end
end Rb

/- Law 11: CheckPlaces. -/
set_option linter.unusedVariables false
set_option linter.unusedSimpArgs false
set_option linter.unusedSectionVars false
namespace Rb
open Go

theorem place_parts {x : GPlace} (h : x.ok) : x.parts.length ≤ maxLen ∧ ∀ p ∈ x.parts, p.index.length ≤ maxLen := by
  cases x with
  | mk var parts =>
    obtain ⟨_, h2, h3⟩ := h
    refine ⟨h2, fun p hp => ?_⟩
    have := GPart.oks_iff.1 h3 p hp
    cases p with
    | mk field index => exact this.2.1
def zeroT : GType := ⟨0, 0, false, [], 0, []⟩
theorem zeroT_ok : zeroT.ok := ⟨⟨by decide, by decide⟩, ⟨by decide, by decide⟩, Nat.zero_le _, trivial, ⟨by decide, by decide⟩, Nat.zero_le _, trivial⟩
theorem partsM_ok : ∀ (ps : List GPart) {t : GType}, t.ok → (partsM t ps).2.ok
  | [], t, h => h
  | p :: r, t, h => by
    simp only [partsM]
    split
    · exact partM_ok h
    · exact partsM_ok r (partM_ok h)
theorem placeM_ok {vars : List GVar} {x : GPlace} (hv : ∀ v ∈ vars, v.ok) : (placeM vars x).2.ok := by
  unfold placeM
  split
  · exact zeroT_ok
  · rename_i v h
    have hm := hv v (List.mem_of_find?_eq_some h)
    split
    · exact hm.2
    · exact partsM_ok _ hm.2

section
variable {C : Ctx} (hGT : GTok C) (hT : Cl (ACall C) S.tab_Chk)
include hGT hT
theorem refSame_val : ∀ t : GType, t.ok → Val (ACall C) K.rabbetref06_Same [.agg t.cells, .agg t.cells] (.bool true) := by
  refine GType.ind fun t ihf ihe ht => ?_
  obtain ⟨h1, h2, h3, h4⟩ := Rb.ok_parts ht
  exact Val.of hGT (by simp [AV.frozs, AV.froz, GType.froz]) rfl fun Q hQ => S.cl_rabbetref06_Same hT (refSame_spec h1 h3 (fun f hf => ihf f hf (h2 f hf)) (fun e he => ihe e he (h4 e he)) hQ)
theorem checkPlace_val2 (vars : List GVar) (x : GPlace) (hl : vars.length ≤ maxLen) (hv : ∀ v ∈ vars, v.ok) (hx : x.ok) : Val (ACall C) K.check_Place [lstA GVar.cells vars, .agg x.cells] (resV (placeM vars x)) := by
  have hp := place_parts hx
  exact Val.of hGT (by simp [AV.frozs, AV.froz, GPlace.froz, lstA_froz GVar.froz]) (resV_froz _) fun Q hQ =>
    S.cl_check_Place hT (check_Place_spec hT hl hp.1 (fun v hv' => kindSoundM_val hGT hT v.type (hv v hv').2) (fun t p hs hp' => Val.of hGT (by simp [AV.frozs, AV.froz, GType.froz, GPart.froz]) (resV_froz _) fun Q hQ => S.cl_check_part hT (check_part_spec hT hs (hp.2 p hp') hQ)) hQ)
theorem refPlace_val (vars : List GVar) (x : GPlace) (hl : vars.length ≤ maxLen) (hv : ∀ v ∈ vars, v.ok) (hx : x.ok) : Val (ACall C) K.rabbetref11_Place [lstA GVar.cells vars, .agg x.cells] (resV (placeM vars x)) := by
  have hp := place_parts hx
  have hm : maxLen = 9223372036854775807 := by decide
  rw [hm] at hp hl
  exact Val.of hGT (by simp [AV.frozs, AV.froz, GPlace.froz, lstA_froz GVar.froz]) (resV_froz _) fun Q hQ =>
    S.cl_rabbetref11_Place hT (refPlace_spec hT hl hp.1 (fun v hv' => refSound_val hGT hT v.type (hv v hv').2) hQ)

theorem CheckPlaces_spec (haw : Val (ACall C) K.rabbetlaw11_awake [] (.bool true)) {vars : List GVar} {x : GPlace} (hl : vars.length ≤ maxLen) (hv : ∀ v ∈ vars, v.ok) (hx : x.ok) {H : AH} {Q : Post} (hQ : ∀ H', Q (.bool true) H') :
    S.rabbetlaw11_CheckPlaces (ACall C) (lstA GVar.cells vars) (.agg x.cells) H Q := by
  have hall : ∀ H, aload H 2 true (.fptr x.cells) = some (.agg x.cells) := fun _ => takeCells_whole x.len
  unfold S.rabbetlaw11_CheckPlaces
  simp only [pc_box, DoH_some, hall, Do_of]
  refine checkPlace_val2 hGT hT vars x hl hv hx _ _ ?_
  rw [resPV_eq]
  simp only [aextract, List.getElem?_cons_zero, List.getElem?_cons_succ, Do_of, DoH_some, abox, if_true]
  rw [store_new _ _ _ 6 (resPC_len _) (resPC_scalar _) rfl]
  simp only [Do_of]
  have at8 := At.new H (.row (resPC (placeM vars x)))
  generalize H.push (.row (resPC (placeM vars x))) = H10 at *
  generalize H.n = id8 at *
  refine refPlace_val hGT hT vars x hl hv hx _ _ ?_
  rw [resPV_eq]
  simp only [aextract, List.getElem?_cons_zero, List.getElem?_cons_succ, Do_of, DoH_some]
  rw [store_new _ _ _ 6 (resPC_len _) (resPC_scalar _) rfl]
  simp only [Do_of]
  have at16 := At.new H10 (.row (resPC (placeM vars x)))
  have at8' := at8.push (.row (resPC (placeM vars x)))
  generalize H10.push (.row (resPC (placeM vars x))) = H18 at *
  generalize H10.n = id16 at *
  refine haw _ _ ?_
  simp only [Gd3_true, if_true, abin_eql, BEq.rfl, Do_of, JoinP_def, S.rabbetlaw11_CheckPlaces_k1, sl_zero]
  rw [at8'.all (resPC_len _), at16.all (resPC_len _)]
  simp only [Do_of]
  unfold resPC
  split
  · exact refSame_val hGT hT _ (placeM_ok hv) _ _ (hQ _)
  · refine ACall.weak_args ?_
    exact refSame_val hGT hT zeroT zeroT_ok _ _ (hQ _)
end
end Rb

/- Law 11: CheckPlaces. -/
set_option linter.unusedVariables false
namespace Go.Proofs.YtbdhmikigkgoiaaDoor.rb
open Rb
theorem awake11 : Val (ACall C) K.rabbetlaw11_awake [] (.bool true) := fun H Q hQ => RbM11_rootok0 K.rabbetlaw11_awake [] (.bool true) rfl H Q hQ
theorem checkPlaces.any (vars : List GVar) (hl : vars.length ≤ maxLen) (hv : ∀ v ∈ vars, v.ok) (x : GPlace) (hx : x.ok) : ACall C K.rabbetlaw11_CheckPlaces [lstA GVar.cells vars, .agg x.cells] AH.mt (fun v _ => v = .bool true) :=
  S.cl_rabbetlaw11_CheckPlaces cl_Chk (CheckPlaces_spec gtC cl_Chk awake11 hl hv hx fun _ => rfl)
end Go.Proofs.YtbdhmikigkgoiaaDoor.rb

/- What all laws of the seat share: the variables that the text of the program lays. By wrap.py. -/
set_option linter.unusedVariables false
namespace Go.Proofs.YtbdhmikigkgoiaaDoor.rb
open Rb Go.ChangeShapes Go.WideShapes Go.ChangeAt Go.RowKit

theorem own : ownKnob Tryd.prog.godebug = none := by kernel_rfl
theorem laidOut : laidOutB Tryd.prog = true := by kernel_rfl
theorem gT : Tryd.prog.globalNamed "strings.asciiSpace" = some 0 := by kernel_rfl
theorem gTType : (Tryd.prog.globals[0]?).map (·.type) = some 92 := by kernel_rfl
theorem cellsU : Tryd.prog.cellsOf 5 = 1 := by kernel_rfl
theorem cellsT : Tryd.prog.cellsOf 92 = 256 := by kernel_rfl
def laidVars : List (String × DataW Unit) := Rows.checkPlacesRow.laid

theorem tab_eq : (Rows.laid_strings_asciiSpace : DataW Unit) = Go.Lib.tabData .u8 Go.Lib.asciiSpaceTab := by kernel_rfl
theorem tab_mem : (("strings.asciiSpace", Go.Lib.tabData .u8 Go.Lib.asciiSpaceTab) : String × DataW Unit) ∈ laidVars := by
  rw [← tab_eq]; exact .tail _ (.head _)
theorem tab_of {W : World} (h : laidMet Tryd.prog laidVars W) : Go.Lib.TabIs Tryd.prog W "strings.asciiSpace" .u8 Go.Lib.asciiSpaceTab := by
  obtain ⟨g', t', cs, fuel, p, hg', ht', hvar, hd⟩ := Go.Lib.laidMet.reads h tab_mem
  obtain rfl := Option.some.inj (gT.symm.trans hg')
  obtain rfl := Option.some.inj (gTType.symm.trans ht')
  unfold Go.Lib.TabIs
  rw [hvar, ← Go.Lib.cells_of_tab Tryd.underlying92 Tryd.underlying5 cellsU cellsT hd]

theorem gok {W : World} (h : laidMet Tryd.prog laidVars W) : GOK C W (Ghost.mt (allFz W)) := by
  intro g l hg
  have ht := tab_of h
  change gt g = some l at hg
  unfold gt at hg
  split at hg
  · rename_i e
    subst e
    cases hg
    rw [asciiSpace_eq]
    exact fptr_of_tab fun i hi => ht.cell gT i hi
  · cases hg

/-- A world in which the variables hold what their initialisers lay. -/
noncomputable def laidWorld (os : Os) : World :=
  let N := (World.settled Tryd.prog os).heap.size
  let w0 := World.holding Tryd.prog os ⟨#[.cells #[.int .u16 9, .int .u16 13, .int .u16 1, .int .u16 32, .int .u16 133, .int .u16 101, .int .u16 160, .int .u16 5760, .int .u16 5600, .int .u16 8192, .int .u16 8202, .int .u16 1, .int .u16 8232, .int .u16 8233, .int .u16 1, .int .u16 8239, .int .u16 8287, .int .u16 48, .int .u16 12288, .int .u16 12288, .int .u16 1] 123, .cells #[.slice (some ⟨N + 0, 0, none⟩) 7 7, .slice none 0 0, .int .i64 2] 120], #[], []⟩
  let put (h : Array Obj) (g : Nat) (cs : Array Value) : Array Obj := h.modify g fun
    | .cells _ t frozen => .cells cs t frozen
    | o => o
  { w0 with heap := put (put (w0.heap) 1 #[.pointer (some ⟨N + 1, 0, none⟩)]) 0 #[.int .u8 0, .int .u8 0, .int .u8 0, .int .u8 0, .int .u8 0, .int .u8 0, .int .u8 0, .int .u8 0, .int .u8 0, .int .u8 1, .int .u8 1, .int .u8 1, .int .u8 1, .int .u8 1, .int .u8 0, .int .u8 0, .int .u8 0, .int .u8 0, .int .u8 0, .int .u8 0, .int .u8 0, .int .u8 0, .int .u8 0, .int .u8 0, .int .u8 0, .int .u8 0, .int .u8 0, .int .u8 0, .int .u8 0, .int .u8 0, .int .u8 0, .int .u8 0, .int .u8 1, .int .u8 0, .int .u8 0, .int .u8 0, .int .u8 0, .int .u8 0, .int .u8 0, .int .u8 0, .int .u8 0, .int .u8 0, .int .u8 0, .int .u8 0, .int .u8 0, .int .u8 0, .int .u8 0, .int .u8 0, .int .u8 0, .int .u8 0, .int .u8 0, .int .u8 0, .int .u8 0, .int .u8 0, .int .u8 0, .int .u8 0, .int .u8 0, .int .u8 0, .int .u8 0, .int .u8 0, .int .u8 0, .int .u8 0, .int .u8 0, .int .u8 0, .int .u8 0, .int .u8 0, .int .u8 0, .int .u8 0, .int .u8 0, .int .u8 0, .int .u8 0, .int .u8 0, .int .u8 0, .int .u8 0, .int .u8 0, .int .u8 0, .int .u8 0, .int .u8 0, .int .u8 0, .int .u8 0, .int .u8 0, .int .u8 0, .int .u8 0, .int .u8 0, .int .u8 0, .int .u8 0, .int .u8 0, .int .u8 0, .int .u8 0, .int .u8 0, .int .u8 0, .int .u8 0, .int .u8 0, .int .u8 0, .int .u8 0, .int .u8 0, .int .u8 0, .int .u8 0, .int .u8 0, .int .u8 0, .int .u8 0, .int .u8 0, .int .u8 0, .int .u8 0, .int .u8 0, .int .u8 0, .int .u8 0, .int .u8 0, .int .u8 0, .int .u8 0, .int .u8 0, .int .u8 0, .int .u8 0, .int .u8 0, .int .u8 0, .int .u8 0, .int .u8 0, .int .u8 0, .int .u8 0, .int .u8 0, .int .u8 0, .int .u8 0, .int .u8 0, .int .u8 0, .int .u8 0, .int .u8 0, .int .u8 0, .int .u8 0, .int .u8 0, .int .u8 0, .int .u8 0, .int .u8 0, .int .u8 0, .int .u8 0, .int .u8 0, .int .u8 0, .int .u8 0, .int .u8 0, .int .u8 0, .int .u8 0, .int .u8 0, .int .u8 0, .int .u8 0, .int .u8 0, .int .u8 0, .int .u8 0, .int .u8 0, .int .u8 0, .int .u8 0, .int .u8 0, .int .u8 0, .int .u8 0, .int .u8 0, .int .u8 0, .int .u8 0, .int .u8 0, .int .u8 0, .int .u8 0, .int .u8 0, .int .u8 0, .int .u8 0, .int .u8 0, .int .u8 0, .int .u8 0, .int .u8 0, .int .u8 0, .int .u8 0, .int .u8 0, .int .u8 0, .int .u8 0, .int .u8 0, .int .u8 0, .int .u8 0, .int .u8 0, .int .u8 0, .int .u8 0, .int .u8 0, .int .u8 0, .int .u8 0, .int .u8 0, .int .u8 0, .int .u8 0, .int .u8 0, .int .u8 0, .int .u8 0, .int .u8 0, .int .u8 0, .int .u8 0, .int .u8 0, .int .u8 0, .int .u8 0, .int .u8 0, .int .u8 0, .int .u8 0, .int .u8 0, .int .u8 0, .int .u8 0, .int .u8 0, .int .u8 0, .int .u8 0, .int .u8 0, .int .u8 0, .int .u8 0, .int .u8 0, .int .u8 0, .int .u8 0, .int .u8 0, .int .u8 0, .int .u8 0, .int .u8 0, .int .u8 0, .int .u8 0, .int .u8 0, .int .u8 0, .int .u8 0, .int .u8 0, .int .u8 0, .int .u8 0, .int .u8 0, .int .u8 0, .int .u8 0, .int .u8 0, .int .u8 0, .int .u8 0, .int .u8 0, .int .u8 0, .int .u8 0, .int .u8 0, .int .u8 0, .int .u8 0, .int .u8 0, .int .u8 0, .int .u8 0, .int .u8 0, .int .u8 0, .int .u8 0, .int .u8 0, .int .u8 0, .int .u8 0, .int .u8 0, .int .u8 0, .int .u8 0, .int .u8 0, .int .u8 0, .int .u8 0, .int .u8 0, .int .u8 0, .int .u8 0, .int .u8 0, .int .u8 0, .int .u8 0, .int .u8 0, .int .u8 0, .int .u8 0, .int .u8 0, .int .u8 0] }
theorem laid_met (os : Os) (args : Array Value) : laidMet Tryd.prog laidVars ((laidWorld os).forCall (fun _ _ => 0) ⟨#[], args, []⟩).memory :=
  laidMet_of_run3 10 (by kernel_rfl) (by kernel_rfl) (by kernel_rfl)
theorem laid_shaped (os : Os) (args : Array Value) : ((laidWorld os).forCall (fun _ _ => 0) ⟨#[], args, []⟩).Shaped Tryd.prog := World.shaped_of_RefB (by kernel_rfl) (by kernel_rfl)
end Go.Proofs.YtbdhmikigkgoiaaDoor.rb

/- The api's types at the seat's numbers. By wrap.py. -/
set_option linter.unusedVariables false
namespace Go.Proofs.YtbdhmikigkgoiaaDoor.rb
open Rb
variable {H : Type} {enc : TypeId × Value → H} {w : World} {sp : Nat → Bool} {held : Bool} {F : FTab}
theorem tyOK : ∃ fT fF, TyOK Tryd.prog 3 4 9 29 57 27 26 fT fF := ⟨_, _, Tryd.underlying3, Tryd.underlying4, Tryd.underlying9, Tryd.underlying29, Tryd.underlying57, Tryd.underlying27, Tryd.underlying26, rfl, rfl, by kernel_rfl, by kernel_rfl, fun t ht => by
  simp only [List.mem_cons, List.not_mem_nil, or_false] at ht
  rcases ht with rfl | rfl | rfl | rfl | rfl <;> kernel_rfl⟩
theorem decType (n : Nat) : Dec F enc Tryd.prog w sp held n 29 GType.cells GType.ok := let ⟨_, _, h⟩ := tyOK; Dec_type h n
theorem exOK : ∃ fE fL fR, ExOK Tryd.prog 3 58 9 60 25 54 52 23 fE fL fR := ⟨_, _, _, Tryd.underlying3, Tryd.underlying58, Tryd.underlying9, Tryd.underlying60, Tryd.underlying25, Tryd.underlying54, Tryd.underlying52, Tryd.underlying23, rfl, rfl, rfl, by kernel_rfl, by kernel_rfl, by kernel_rfl, fun t ht => by
  simp only [List.mem_cons, List.not_mem_nil, or_false] at ht
  rcases ht with rfl | rfl | rfl | rfl | rfl <;> kernel_rfl⟩
theorem decPlace (n : Nat) : Dec F enc Tryd.prog w sp held n 25 GPlace.cells GPlace.ok := let ⟨_, _, _, h⟩ := exOK; (Dec_exprs h n).2.1
theorem decVar (n : Nat) : Dec F enc Tryd.prog w sp held n 46 GVar.cells GVar.ok := Dec_var Tryd.underlying9 (by kernel_rfl) (by kernel_rfl) decType Tryd.underlying46 rfl (by kernel_rfl) n
theorem decVars (n : Nat) : Dec F enc Tryd.prog w sp held n 22 (fun xs : List GVar => [lstA GVar.cells xs]) (fun xs => xs.length ≤ maxLen ∧ ∀ x ∈ xs, x.ok) := Dec.mono (Dec.slice Tryd.underlying22 (by kernel_rfl) (by decide) GVar.len (decVar n)) (Nat.le_succ n)
theorem decStmt (n : Nat) : Dec F enc Tryd.prog w sp held n 62 GStmt.cells GStmt.ok := let ⟨_, _, _, h⟩ := exOK; Dec_stmt h Tryd.underlying62 Tryd.underlying43 rfl (by kernel_rfl) (by kernel_rfl) n
theorem decProg (n : Nat) : Dec F enc Tryd.prog w sp held n 39 GProg.cells GProg.ok := Dec_prog decVar decStmt Tryd.underlying22 Tryd.underlying43 Tryd.underlying37 (by kernel_rfl) (by kernel_rfl) (by kernel_rfl) (by kernel_rfl) (by kernel_rfl) Tryd.underlying39 rfl (by kernel_rfl) n
end Go.Proofs.YtbdhmikigkgoiaaDoor.rb

set_option linter.unusedVariables false
set_option linter.unusedSimpArgs false
namespace Go.Proofs.YtbdhmikigkgoiaaDoor.rb.checkPlaces
open Rb Go.ChangeShapes Go.WideShapes Go.ChangeAt Go.RowKit

set_option maxRecDepth 100000 in
theorem lifted (os : Os) (started : os.Started) (H : Type) (enc : TypeId × Value → H) :
    ReturnsInHanded {} Tryd.checked os 3 .any (fun w args => (Rows.checkPlacesSpec.pre enc Tryd.prog Tryd.f3 [] false w args ∧ laidMet Tryd.prog laidVars w) ∧ sizedMet enc Tryd.prog Tryd.f3 (OpenSpec.ofChange Rows.checkPlacesSpec) false w args)
      (Rows.checkPlacesSpec.post enc Tryd.prog Tryd.f3 false true false false) := by
  refine returnsInHanded_of_change_and (C := Tryd.checked) (X := fun w _ => laidMet Tryd.prog laidVars w) (fun _ _ _ hh h => h.of_heap hh) own started (by kernel_rfl) Tryd.func3
    (ChangeSpec.witness_shaped (enc := enc) (C := Tryd.checked) (os := os) (X := fun w _ => laidMet Tryd.prog laidVars w) false (laidWorld os) #[.slice none 0 0, .agg #[.string ⟨#[]⟩, .slice none 0 0]] 8 rfl (laid_shaped os _) (by kernel_rfl) (by kernel_rfl) (by kernel_rfl) (laid_met os _)) ?_
  intro W base args ds gs before hval0 hW _ hsz hL _
  have hval : ∀ (j : Nat) t v, Tryd.f3.params[j]? = some t → args[j]? = some v → Value.okWide Tryd.prog W .any base t v := hval0
  have hW' := hW
  obtain ⟨p, q, hA0, hV0, rfl, hfz, hnd⟩ := hW
  have hA : DataW.TrodAll enc Tryd.prog W 0 (fun _ => true) true Tryd.f3.params.toList args.toList ds p := hA0
  have hV : DataW.TrodVars enc Tryd.prog W (fun _ => true) [] gs q := hV0
  rw [Tryd.params3] at hA hval
  obtain ⟨v0, v1, d0, d1, p0, p1, rfl, rfl, rfl, h0, h1⟩ := trodAll_two hA
  obtain ⟨rfl, rfl⟩ : gs = [] ∧ q = [] := by
    cases gs with
    | nil => exact ⟨rfl, hV⟩
    | cons g r => exact absurd hV (by intro h; cases h)
  obtain ⟨c0, l0, m0, rfl⟩ := okWide_slice Tryd.underlying22 (hval 0 22 v0 rfl rfl)
  obtain ⟨x0, o0, k0⟩ := Dec.arg (F := C.F) decVars h0
  obtain ⟨c1, rfl, _⟩ := okWide_struct Tryd.underlying25 (hval 1 25 v1 rfl rfl)
  obtain ⟨x1, o1, k1⟩ := Dec.arg (F := C.F) decPlace h1
  refine (law_calls (C := C) (f := 3) (by kernel_rfl) (any x0 o0.1 o0.2 x1 o1) (gok hL) (VRs.two (k0.2 0 _ _ rfl rfl) k1.agg)).mono fun e W' ⟨he, hbel⟩ => ?_
  subst he
  exact ⟨_, rfl, post_true (bt := 4) hW' laidOut (by kernel_rfl) (by kernel_rfl) (by kernel_rfl) Tryd.underlying4 rfl hbel⟩

theorem facts : joinedFacts Tryd.checked.prog 3 Tryd.f3 Rows.checkPlacesSpec Rows.checkPlacesRow = true := of_forced (by kernel_rfl)
theorem row : Rows.CheckPlacesSaid :=
  OpenClaim.holds_of_wide 3 Tryd.f3 rfl rfl rfl rfl rfl rfl rfl ⟨rfl, rfl, rfl, rfl, rfl⟩ rfl rfl rfl rfl rfl (by kernel_rfl) Tryd.func3 facts
    (of_decide_eq_true (by kernel_rfl)) (by unfold Func.isWrapper; first | (rw [if_pos (by decide +kernel)]; kernel_rfl) | (rw [if_neg (by decide +kernel)]; exact ⟨rfl, rfl⟩))
    (fun os started H enc _ => lifted os started H enc)
end Go.Proofs.YtbdhmikigkgoiaaDoor.rb.checkPlaces
namespace Go.Proofs.YtbdhmikigkgoiaaDoor
open Go

theorem checkPlaces_holds : Rows.CheckPlacesCardSaid :=
  Claim7.holds_tied_plain_at .later [] [.listed, .data] true (true, "fe79205d27e6a4c4e75f659dc7eb807d007b4b6c6878879a89c0fe886c43f2cd") false
    rb.checkPlaces.row (fun _ h => by cases h) (by kernel_rfl) (fun _ h => by cases h) checkPlaces_row_tie rfl ⟨rfl, rfl⟩ (by kernel_rfl) rfl
    (fun f fn hf hfn => by
      obtain rfl : f = 3 := Option.some.inj ((show Tryd.prog.funcNamed Rows.checkPlacesRow.func = some 3 by kernel_rfl).symm.trans hf) |>.symm
      obtain rfl : fn = Tryd.f3 := (Option.some.inj (Tryd.func3.symm.trans hfn)).symm
      exact ⟨by kernel_rfl, fun j t ht => by
        rw [Tryd.params3] at ht
        rcases j with _ | _ | j
        · obtain rfl : t = 22 := by simpa using ht.symm
          exact (show Tryd.prog.wantsStandIn 22 = false by kernel_rfl)
        · obtain rfl : t = 25 := by simpa using ht.symm
          exact (show Tryd.prog.wantsStandIn 25 = false by kernel_rfl)
        · simp at ht⟩)
    (by kernel_rfl)
#print axioms checkPlaces_holds
end Go.Proofs.YtbdhmikigkgoiaaDoor
