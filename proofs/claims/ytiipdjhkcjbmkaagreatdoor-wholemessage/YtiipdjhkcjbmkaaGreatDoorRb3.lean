/- A part of the proof (part 3): see the last text. -/
import Derived.Test.YtiipdjhkcjbmkaaGreatDoorRb2
set_option linter.unusedVariables false
set_option linter.unusedSimpArgs false
namespace Rb
open Go
noncomputable section
def natV (m : Nat) (K : Nat → Bool) : Bool := Nat.rec (motive := fun _ => Bool) (K 0) (fun p _ => K (Nat.succ p)) m
theorem natV_eq (m : Nat) (K : Nat → Bool) : natV m K = K m := by cases m <;> rfl
def spineK {α : Type} (l : List α) : (List α → Bool) → Bool := List.rec (motive := fun _ => (List α → Bool) → Bool) (fun K => K []) (fun x _ ih K => apK ih fun r => apK K (x :: r)) l
theorem spineK_eq {α : Type} : ∀ (l : List α) (K : List α → Bool), spineK l K = K l
 | [], K => rfl
 | x :: r, K => by show spineK r (fun r => K (x :: r)) = _; rw [spineK_eq r]
def dropK {α : Type} (n : Nat) : List α → (List α → Bool) → Bool := Nat.rec (motive := fun _ => List α → (List α → Bool) → Bool) (fun l K => K l) (fun _ ih l K => List.rec (motive := fun _ => Bool) (K []) (fun _ t _ => apK (ih t) K) l) n
theorem dropK_eq {α : Type} : ∀ (n : Nat) (l : List α) (K : List α → Bool), dropK n l K = K (l.drop n)
 | 0, l, K => rfl
 | n + 1, [], K => rfl
 | n + 1, x :: r, K => by rw [List.drop_succ_cons, ← dropK_eq n r K]; rfl
def fv (v : AV) (K : AV → Bool) : Bool :=
 match v with
 | .int k n => (match n with | .ofNat m => natV m fun m => K (.int k (.ofNat m)) | .negSucc m => natV m fun m => K (.int k (.negSucc m)))
 | .bool b => (match b with | true => K (.bool true) | false => K (.bool false))
 | .str s => spineK s fun s => K (.str s)
 | .ptr i o => natV i fun i => natV o fun o => K (.ptr i o)
 | .row i o l z => natV i fun i => natV o fun o => natV l fun l => K (.row i o l z)
 | .lst tk l cs => natV l fun l => spineK cs fun cs => K (.lst tk l cs)
 | .fptr cs => spineK cs fun cs => K (.fptr cs)
 | .agg cs => spineK cs fun cs => K (.agg cs)
 | .tup cs => spineK cs fun cs => K (.tup cs)
 | v => K v
theorem fv_eq (v : AV) (K : AV → Bool) : fv v K = K v := by
 unfold fv
 split <;> (try split) <;> simp only [natV_eq, spineK_eq]
def DoK (x : Option AV) (K : AV → Bool) : Bool := match x with | some v => fv v K | none => false
theorem DoK_eq (x : Option AV) (K : AV → Bool) : DoK x K = DoB x K := by
 cases x with
 | none => rfl
 | some v => exact fv_eq v K
def DoR (x : Option AV) (K : AV → Bool) : Bool := match x with | some v => K v | none => false
theorem DoR_eq (x : Option AV) (K : AV → Bool) : DoR x K = DoB x K := by cases x <;> rfl
def getK (E : EV) (t : Nat) (K : AV → Bool) : Bool := List.rec (motive := fun _ => Bool) (K .bot) (fun p _ ih => Prod.rec (motive := fun _ => Bool) (fun s v => Bool.rec (motive := fun _ => Bool) ih (K v) (Nat.beq s t)) p) E
theorem getK_eq : ∀ (E : EV) (t : Nat) (K : AV → Bool), getK E t K = K (eget E t)
 | [], t, K => rfl
 | (s, v) :: E, t, K => by
  show Bool.rec (motive := fun _ => Bool) (getK E t K) (K v) (Nat.beq s t) = K (cond (Nat.beq s t) v (eget E t))
  rw [getK_eq E t K]
  cases Nat.beq s t <;> rfl
def Opd.val (E : EV) : Opd → AV
 | .t n => eget E n
 | .k v => v
def ovals (E : EV) : Option Opd → Option AV
 | none => none
 | some x => some (x.val E)
def vals (E : EV) : List Opd → List AV
 | [] => []
 | x :: r => x.val E :: vals E r
def pvals (E : EV) : List (Nat × Nat × Opd) → List (Nat × Nat × AV)
 | [] => []
 | (a, b, x) :: r => (a, b, x.val E) :: pvals E r
theorem val_eq (E : EV) (x : Opd) : (x.sub E).ev [] = x.val E := by cases x <;> rfl
theorem vals_eq (E : EV) : ∀ xs : List Opd, evs [] (xs.map (Opd.sub E)) = vals E xs
 | [] => rfl
 | x :: r => by
  have := vals_eq E r
  simp only [evs, List.map_cons] at this ⊢
  rw [this, val_eq]; rfl
theorem pvals_eq (E : EV) : ∀ xs : List (Nat × Nat × Opd), evps [] (xs.map fun p => (p.1, p.2.1, p.2.2.sub E)) = pvals E xs
 | [] => rfl
 | (a, b, x) :: r => by
  have := pvals_eq E r
  simp only [evps, List.map_cons] at this ⊢
  rw [this, val_eq]; rfl
theorem ovals_eq (E : EV) (x : Option Opd) : (x.map (Opd.sub E)).map (Opd.ev []) = ovals E x := by
 cases x with
 | none => rfl
 | some x => exact congrArg some (val_eq E x)
def valK (x : Opd) (E : EV) (K : AV → Bool) : Bool := match x with | .t n => getK E n K | .k v => K v
theorem valK_eq (x : Opd) (E : EV) (K : AV → Bool) : valK x E K = K (x.val E) := by
 cases x with
 | t n => exact getK_eq E n K
 | k v => rfl
def valsK (E : EV) : List Opd → (List AV → Bool) → Bool
 | [], K => K []
 | x :: r, K => valK x E fun v => valsK E r fun vs => K (v :: vs)
theorem valsK_eq (E : EV) : ∀ (xs : List Opd) (K : List AV → Bool), valsK E xs K = K (vals E xs)
 | [], K => rfl
 | x :: r, K => by rw [valsK, valK_eq, valsK_eq E r]; rfl
def pvalsK (E : EV) : List (Nat × Nat × Opd) → (List (Nat × Nat × AV) → Bool) → Bool
 | [], K => K []
 | (a, b, x) :: r, K => valK x E fun v => pvalsK E r fun vs => K ((a, b, v) :: vs)
theorem pvalsK_eq (E : EV) : ∀ (xs : List (Nat × Nat × Opd)) (K : List (Nat × Nat × AV) → Bool), pvalsK E xs K = K (pvals E xs)
 | [], K => rfl
 | (a, b, x) :: r, K => by rw [pvalsK, valK_eq, pvalsK_eq E r]; rfl
def ovalK (E : EV) (x : Option Opd) (K : Option AV → Bool) : Bool := match x with | none => K none | some x => valK x E fun v => K (some v)
theorem ovalK_eq (E : EV) (x : Option Opd) (K : Option AV → Bool) : ovalK E x K = K (ovals E x) := by
 cases x with
 | none => rfl
 | some x => exact valK_eq x E _
def setK (x : AObj) (f : Nat) : TT → Nat → (TT → Bool) → Bool :=
 Nat.rec (motive := fun _ => TT → Nat → (TT → Bool) → Bool) (fun t _ K => K t)
  (fun _ ih t i K => TT.casesOn (motive := fun _ => Bool) t
    (cond (Nat.beq i 0) (K (.node x .leaf .leaf)) (cond (Nat.beq (Nat.mod i 2) 1) (ih .leaf (Nat.div i 2) fun l => K (.node .gone l .leaf)) (ih .leaf (Nat.sub (Nat.div i 2) 1) fun r => K (.node .gone .leaf r))))
    (fun a l r => cond (Nat.beq i 0) (K (.node x l r)) (cond (Nat.beq (Nat.mod i 2) 1) (ih l (Nat.div i 2) fun l => K (.node a l r)) (ih r (Nat.sub (Nat.div i 2) 1) fun r => K (.node a l r))))) f
theorem setK_eq (x : AObj) : ∀ (f : Nat) (t : TT) (i : Nat) (K : TT → Bool), setK x f t i K = K (TT.setF x f t i) := by
 intro f
 induction f with
 | zero => intro t i K; cases t <;> rfl
 | succ f ih =>
  intro t i K
  cases t with
  | leaf =>
   show cond (Nat.beq i 0) (K (.node x .leaf .leaf)) (cond (Nat.beq (i % 2) 1) (setK x f .leaf (i / 2) fun l => K (.node .gone l .leaf)) (setK x f .leaf (i / 2 - 1) fun r => K (.node .gone .leaf r))) = _
   rw [ih, ih, TT.setF]
   cases Nat.beq i 0 <;> cases Nat.beq (i % 2) 1 <;> rfl
  | node a l r =>
   show cond (Nat.beq i 0) (K (.node x l r)) (cond (Nat.beq (i % 2) 1) (setK x f l (i / 2) fun l => K (.node a l r)) (setK x f r (i / 2 - 1) fun r => K (.node a l r))) = _
   rw [ih, ih, TT.setF]
   cases Nat.beq i 0 <;> cases Nat.beq (i % 2) 1 <;> rfl
def THset (T : TH) (i : Nat) (x : AObj) (K : TH → Bool) : Bool := match T with | ⟨n, t⟩ => setK x (Nat.succ i) t i fun t => K ⟨n, t⟩
theorem THset_eq (T : TH) (i : Nat) (x : AObj) (K : TH → Bool) : THset T i x K = K (T.set i x) := by
 obtain ⟨n, t⟩ := T
 exact setK_eq x (i + 1) t i fun t => K ⟨n, t⟩
def THpush (T : TH) (x : AObj) (K : TH → Bool) : Bool := match T with | ⟨n, t⟩ => setK x (Nat.succ n) t n fun t => natV (Nat.succ n) fun m => K ⟨m, t⟩
theorem THpush_eq (T : TH) (x : AObj) (K : TH → Bool) : THpush T x K = K (T.push x) := by
 obtain ⟨n, t⟩ := T
 simp only [THpush, setK_eq, natV_eq]
 rfl
def objK (x : AObj) (K : AObj → Bool) : Bool :=
 match x with
 | .row cs => spineK cs fun cs => K (.row cs)
 | .map es => spineK es fun es => K (.map es)
 | .tok a b => natV a fun a => K (.tok a b)
 | .siter s p => natV p fun p => K (.siter s p)
 | .bld T u b => K (.bld T u b)
 | .buf U bs => K (.buf U bs)
 | .gone => K .gone
theorem objK_eq (x : AObj) (K : AObj → Bool) : objK x K = K x := by cases x <;> simp only [objK, spineK_eq, natV_eq]
def putK (n : Nat) : AV → List AV → (List AV → Bool) → Bool :=
 Nat.rec (motive := fun _ => AV → List AV → (List AV → Bool) → Bool) (fun v l K => List.rec (motive := fun _ => Bool) (K []) (fun _ t _ => K (v :: t)) l) (fun _ ih v l K => List.rec (motive := fun _ => Bool) (K []) (fun x t _ => apK (ih v t) fun r => apK K (x :: r)) l) n
theorem putK_eq : ∀ (n : Nat) (v : AV) (l : List AV) (K : List AV → Bool), putK n v l K = K (l.set n v)
 | 0, v, [], K => rfl
 | 0, v, x :: t, K => rfl
 | n + 1, v, [], K => rfl
 | n + 1, v, x :: t, K => by
  show putK n v t (fun r => K (x :: r)) = _
  rw [putK_eq n v t]; rfl
def cellsK (o : Nat) : List AV → List AV → (List AV → Bool) → Bool
 | [], cs, K => K cs
 | v :: r, cs, K => putK o v cs fun cs => cellsK (Nat.succ o) r cs K
theorem cellsK_eq : ∀ (o : Nat) (l cs : List AV) (K : List AV → Bool), cellsK o l cs K = K (setCells cs o l)
 | _, [], cs, K => rfl
 | o, v :: r, cs, K => by rw [cellsK, putK_eq, cellsK_eq (Nat.succ o) r]; rfl
inductive Eff where
 | wr (v : AV) (i : Nat) (cs : List AV) (o : Nat) (news : List AV)
 | keep (v : AV)
 | set (v : AV) (i : Nat) (x : AObj)
 | push (v : AV) (x : AObj)
 | gp (v : AV) (i : Nat) (x : AObj)
 | gs (v : AV) (i j : Nat) (x : AObj)
def Eff.app (T : TH) : Eff → AV × TH
 | .wr v i cs o news => (v, T.set i (.row (setCells cs o news)))
 | .keep v => (v, T)
 | .set v i x => (v, T.set i x)
 | .push v x => (v, T.push x)
 | .gp v i x => (v, (T.set i .gone).push x)
 | .gs v i j x => (v, (T.set i .gone).set j x)
def DoE (T : TH) (r : Option Eff) (K : PostB) : Bool :=
 match r with
 | none => false
 | some e => (match e with
   | .wr v i cs o news => fv v fun v => spineK news fun news => cellsK o news cs fun cs => THset T i (.row cs) (K v)
   | .keep v => fv v fun v => K v T
   | .set v i x => fv v fun v => objK x fun x => THset T i x (K v)
   | .push v x => fv v fun v => objK x fun x => THpush T x (K v)
   | .gp v i x => fv v fun v => objK x fun x => THset T i .gone fun T => THpush T x (K v)
   | .gs v i j x => fv v fun v => objK x fun x => THset T i .gone fun T => THset T j x (K v))
theorem DoE_eq (T : TH) (r : Option Eff) (K : PostB) : DoE T r K = DoHB (r.map (Eff.app T)) K := by
 cases r with
 | none => rfl
 | some e => cases e <;> simp only [DoE, fv_eq, objK_eq, THset_eq, THpush_eq, spineK_eq, cellsK_eq, Option.map_some, Eff.app, DoHB]
def storeE (T : TH) (n : Nat) (x v : AV) : Option Eff :=
 match x with
 | .ptr id o =>
  match T.t.get id with
  | .row cs => cond (and v.known (and (Nat.beq v.cells.length n) (and (v.cells.all AV.scalar) (leF (Nat.add o n) cs)))) (some (.wr (.tup []) id cs o v.cells)) none
  | _ => none
 | _ => none
theorem storeE_eq (T : TH) (n : Nat) (x v : AV) : (storeE T n x v).map (Eff.app T) = (tstore T n x v).map fun T => (.tup [], T) := by
 cases x with
 | ptr id o =>
  simp only [storeE, tstore]
  cases hc : T.t.get id with
  | row cs =>
   dsimp only
   rw [leF_eq, nb]
   by_cases h : v.known = true ∧ v.cells.length = n ∧ v.cells.all AV.scalar = true ∧ o + n ≤ cs.length
   · rw [if_pos h]
     have : (v.known && (decide (v.cells.length = n) && (v.cells.all AV.scalar && decide (Nat.add o n ≤ cs.length)))) = true := by
      simp only [h.1, h.2.1, h.2.2.1, decide_true, Bool.true_and, decide_eq_true_eq]; exact h.2.2.2
     rw [this]; rfl
   · rw [if_neg h]
     have : (v.known && (decide (v.cells.length = n) && (v.cells.all AV.scalar && decide (Nat.add o n ≤ cs.length)))) = false := by
      rw [Bool.eq_false_iff]; intro h2
      simp only [Bool.and_eq_true, decide_eq_true_eq] at h2
      exact h h2
     rw [this]; rfl
  | _ => rfl
 | _ => rfl
def boxE (T : TH) (mu : Bool) (cells : List AV) : Eff := cond mu (.push (.ptr T.n 0) (.row cells)) (.keep (.fptr cells))
theorem boxE_eq (T : TH) (mu : Bool) (cells : List AV) : (boxE T mu cells).app T = tbox T mu cells := by cases mu <;> rfl
def boxvE (T : TH) (mu : Bool) (n : Nat) (v : AV) : Option Eff := if v.known ∧ v.cells.length = n then some (boxE T mu v.cells) else none
theorem boxvE_eq (T : TH) (mu : Bool) (n : Nat) (v : AV) : (boxvE T mu n v).map (Eff.app T) = tboxv T mu n v := by
 unfold boxvE tboxv; split
 · exact congrArg some (boxE_eq _ _ _)
 · rfl
def bsliceE (T : TH) (mu : Bool) (sz len : Nat) (zero : List AV) (parts : List (Nat × Nat × AV)) : Option Eff :=
 match fillA (List.replicate len zero).flatten parts with
 | some cells => some (cond mu (.push (.row T.n 0 len sz) (.row cells)) (.keep (.lst .full len cells)))
 | none => none
theorem bsliceE_eq (T : TH) (mu : Bool) (sz len : Nat) (zero : List AV) (parts : List (Nat × Nat × AV)) : (bsliceE T mu sz len zero parts).map (Eff.app T) = tbslice T mu sz len zero parts := by
 unfold bsliceE tbslice
 cases fillA (List.replicate len zero).flatten parts with
 | none => rfl
 | some cells => cases mu <;> rfl
def appendE (T : TH) (mu : Bool) (sz bytes : Nat) (x y : AV) : Option Eff :=
 match acells T.ah sz y with
 | none => none
 | some (m, news) =>
  if ¬ news.all AV.scalar then none else
  match x with
  | .lst tk len cells =>
   if m = 0 then some (.keep (.lst tk len cells))
   else if ¬ (cells.length = len * sz ∧ (len + m) * bytes ≤ 140737488355328 ∧ len + m ≤ 9223372036854775807) then none
   else match tk, mu with
   | .nil, true | .full, true => some (.push (.row T.n 0 (len + m) sz) (.row (cells ++ news)))
   | .nil, false | .full, false => some (.push (.lst (.own T.n) (len + m) (cells ++ news)) (.tok ((len + m) * sz) sz))
   | .own t, _ => match T.t.get t with
    | .tok k sz' => if k = len * sz ∧ sz' = sz then some (.gp (.lst (.own T.n) (len + m) (cells ++ news)) t (.tok ((len + m) * sz) sz)) else none
    | _ => none
   | .dead, _ => none
  | .row id o len sz' =>
   match T.t.get id with
   | .row cs =>
    if m = 0 then some (.keep (.row id o len sz'))
    else if ¬ (o = 0 ∧ sz' = sz ∧ (len + m) * bytes ≤ 140737488355328 ∧ len + m ≤ 9223372036854775807) then none
    else if (len + m) * sz ≤ cs.length then some (.wr (.row id 0 (len + m) sz) id cs (len * sz) news)
    else if cs.length = len * sz then some (.gp (.row T.n 0 (len + m) sz) id (.row (cs ++ news)))
    else none
   | _ => none
  | _ => none
theorem appendE_eq (T : TH) (mu : Bool) (sz bytes : Nat) (x y : AV) : (appendE T mu sz bytes x y).map (Eff.app T) = tappend T mu sz bytes x y := by
 unfold appendE tappend
 cases acells T.ah sz y with
 | none => rfl
 | some p =>
  obtain ⟨m, news⟩ := p
  dsimp only
  split
  · rfl
  · cases x <;> try rfl
    · rename_i tk len cells
      dsimp only
      split
      · rfl
      · split
        · rfl
        · cases tk <;> cases mu <;> try rfl
          all_goals
           rename_i t
           dsimp only
           generalize T.t.get t = o
           cases o <;> try rfl
           dsimp only
           split <;> rfl
    · rename_i id o len sz'
      dsimp only
      generalize T.t.get id = o
      cases o <;> try rfl
      dsimp only
      split
      · rfl
      · split
        · rfl
        · split
          · rfl
          · split <;> rfl
def makeE (T : TH) (mu : Bool) (sz bytes : Nat) (zero : List AV) (len cap : AV) : Option Eff :=
 match len, cap with
 | .int .i64 n, .int .i64 c =>
  if 0 ≤ n ∧ n ≤ c ∧ bytes * c ≤ 281474976710656 ∧ c ≤ 9223372036854775807 ∧ zero.length = sz then
   if mu then some (.push (.row T.n 0 n.toNat sz) (.row (List.replicate c.toNat zero).flatten))
   else if n = c then some (.keep (.lst .full n.toNat (List.replicate n.toNat zero).flatten)) else none
  else none
 | _, _ => none
theorem makeE_eq (T : TH) (mu : Bool) (sz bytes : Nat) (zero : List AV) (len cap : AV) : (makeE T mu sz bytes zero len cap).map (Eff.app T) = tmake T mu sz bytes zero len cap := by
 unfold makeE tmake
 cases len <;> try rfl
 rename_i k n
 cases k <;> try rfl
 cases cap <;> try rfl
 rename_i k c
 cases k <;> try rfl
 dsimp only
 split
 · split
   · rfl
   · split <;> rfl
 · rfl
def copyE (T : TH) (sz : Nat) (x y : AV) : Option Eff :=
 match x, acells T.ah sz y with
 | .row id o len _, some (m, news) =>
  match T.t.get id with
  | .row cs =>
   let n := min m len
   if news.all AV.scalar ∧ o + n * sz ≤ cs.length then some (.wr (.int .i64 n) id cs o (news.take (n * sz))) else none
  | _ => none
 | _, _ => none
theorem copyE_eq (T : TH) (sz : Nat) (x y : AV) : (copyE T sz x y).map (Eff.app T) = tcopy T sz x y := by
 unfold copyE tcopy
 cases x <;> try rfl
 rename_i id o len z
 cases acells T.ah sz y with
 | none => rfl
 | some p =>
  obtain ⟨m, news⟩ := p
  dsimp only
  generalize T.t.get id = q
  cases q <;> try rfl
  dsimp only
  split <;> rfl
def mapupE (T : TH) (kk : FK) (m k v : AV) : Option Eff :=
 match m with
 | .map id =>
  match T.t.get id with
  | .map es => if plainKey kk k ∧ v.known then (match findA kk k es 0 with
      | some (some (i, _)) => some (.set (.tup []) id (.map (es.set i (k, v))))
      | some none => some (.set (.tup []) id (.map (es ++ [(k, v)])))
      | none => none) else none
  | _ => none
 | _ => none
theorem mapupE_eq (T : TH) (kk : FK) (m k v : AV) : (mapupE T kk m k v).map (Eff.app T) = (tmapup T kk m k v).map fun T => (.tup [], T) := by
 unfold mapupE tmapup
 cases m <;> try rfl
 rename_i id
 dsimp only
 generalize T.t.get id = q
 cases q <;> try rfl
 rename_i es
 dsimp only
 split
 · cases findA kk k es 0 with
   | none => rfl
   | some r =>
    cases r with
    | none => rfl
    | some p => rfl
 · rfl
def freezeE (T : TH) (x : AV) : Option Eff :=
 match x with
 | .row id o len sz =>
  match T.t.get id with
  | .row cs => if o + len * sz ≤ cs.length then some (.set (.lst .dead len ((cs.drop o).take (len * sz))) id .gone) else none
  | _ => none
 | .ptr id o =>
  match T.t.get id with
  | .row cs => match frzA (fun i => T.t.get i) cs with
   | some (l, id') => if id' = id then none else some (.gs (.ptr id o) id' id (.row l))
   | none => some (.set (.fptr (cs.drop o)) id .gone)
  | _ => none
 | .lst tk len cells => some (.keep (.lst tk len cells))
 | .fptr cs => some (.keep (.fptr cs))
 | .agg cells => match frzA (fun i => T.t.get i) cells with
  | some (l, id) => some (.set (.agg l) id .gone)
  | none => some (.keep (.agg cells))
 | _ => none
theorem freezeE_eq (T : TH) (x : AV) : (freezeE T x).map (Eff.app T) = tfreeze T x := by
 unfold freezeE tfreeze
 cases x <;> try rfl
 · rename_i id o
   dsimp only
   generalize T.t.get id = q
   cases q <;> try rfl
   rename_i cs
   dsimp only
   cases frzA (fun i => T.t.get i) cs with
   | none => rfl
   | some q =>
    obtain ⟨l, id'⟩ := q
    dsimp only
    by_cases e : id' = id
    · rw [if_pos e, if_pos e]; rfl
    · rw [if_neg e, if_neg e]; rfl
 · rename_i id o len sz
   dsimp only
   generalize T.t.get id = q
   cases q <;> try rfl
   dsimp only
   split <;> rfl
 · rename_i cs
   dsimp only
   cases frzA (fun i => T.t.get i) cs with
   | none => rfl
   | some q => rfl
structure OpC where
 f : CallsB → EV → TH → PostB → Bool
structure SetC where
 f : EV → AV → (EV → Bool) → Bool
structure RegC where
 f : CallsB → EV → TH → (EV → TH → Bool) → Bool
structure CodC where
 f : CallsB → EV → TH → (EV → TH → Bool) → (AExit → EV → TH → Bool) → Bool
structure PutC where
 f : EV → List AV → (EV → Bool) → Bool
structure SamC where
 f : EV → TH → Bool → Bool
structure ResC where
 f : EV → TH → (List AV → Bool) → Bool
structure FnC where
 f : CallsB → List AV → TH → PostB → Bool
def ldC (agg : Bool) (x : Option AV) (K : AV → Bool) : Bool := cond agg (DoK x K) (DoR x K)
theorem ldC_eq (agg : Bool) (x : Option AV) (K : AV → Bool) : ldC agg x K = DoB x K := by cases agg <;> simp only [ldC, cond_true, cond_false, DoK_eq, DoR_eq]
def iaddrK (arr : Option Nat) (sz : Nat) (x i : AV) (K : AV → Bool) : Bool :=
 match x with
 | .lst _ len cells => (match i with
   | .int _ n => (match n with
     | .ofNat m => (match arr with | none => cond (Nat.blt m len) (dropK (Nat.mul m sz) cells fun r => K (.fptr r)) false | some _ => DoK (iaddrF arr sz x i) K)
     | _ => DoK (iaddrF arr sz x i) K)
   | _ => DoK (iaddrF arr sz x i) K)
 | .fptr cells => (match i with
   | .int _ n => (match n with
     | .ofNat m => (match arr with | some l => cond (Nat.blt m l) (dropK (Nat.mul m sz) cells fun r => K (.fptr r)) false | none => DoK (iaddrF arr sz x i) K)
     | _ => DoK (iaddrF arr sz x i) K)
   | _ => DoK (iaddrF arr sz x i) K)
 | _ => DoK (iaddrF arr sz x i) K
theorem iaddrK_eq (arr : Option Nat) (sz : Nat) (x i : AV) (K : AV → Bool) : iaddrK arr sz x i K = DoB (aiaddr arr sz x i) K := by
 rw [← iaddrF_eq, ← DoK_eq]
 cases x <;> try rfl
 · rename_i cells
   cases i <;> try rfl
   rename_i k n
   cases n <;> try rfl
   rename_i m
   cases arr <;> try rfl
   rename_i l
   rw [DoK_eq]
   simp only [iaddrK, iaddrF, asNat, dropK_eq, dropF_eq]
   cases Nat.blt m l <;> rfl
 · rename_i tk len cells
   cases i <;> try rfl
   rename_i k n
   cases n <;> try rfl
   rename_i m
   cases arr <;> try rfl
   rw [DoK_eq]
   simp only [iaddrK, iaddrF, asNat, dropK_eq, dropF_eq]
   cases Nat.blt m len <;> rfl
def faddrK (off : Nat) (x : AV) (K : AV → Bool) : Bool :=
 match x with
 | .ptr i o => natV (Nat.add o off) fun o => K (.ptr i o)
 | .fptr cs => dropK off cs fun r => K (.fptr r)
 | _ => DoK (afaddr off x) K
theorem faddrK_eq (off : Nat) (x : AV) (K : AV → Bool) : faddrK off x K = DoB (afaddr off x) K := by
 unfold faddrK
 split
 · rw [natV_eq]; rfl
 · rw [dropK_eq]; rfl
 · exact DoK_eq _ _
def opC : AOp → OpC
 | .mv x => ⟨fun _ E T K => valK x E fun v => K v T⟩
 | .pick c a b => ⟨fun _ E T K => valK c E fun c => GdB c true (valK a E fun v => K v T) (valK b E fun v => K v T)⟩
 | .bin op x y => ⟨fun _ E T K => valK x E fun x => valK y E fun y => DoK ((binC op).f x y) fun v => K v T⟩
 | .beq neg x y => ⟨fun _ E T K => valK x E fun x => valK y E fun y => DoK (abeq neg x y) fun v => K v T⟩
 | .isnil k neg x => ⟨fun _ E T K => valK x E fun x => DoK (anil k neg x) fun v => K v T⟩
 | .eqagg neg ks x y => ⟨fun _ E T K => valK x E fun x => valK y E fun y => DoK (aeqAgg neg ks x y) fun v => K v T⟩
 | .un op x => ⟨fun _ E T K => valK x E fun x => DoK (aun op x) fun v => K v T⟩
 | .conv k x => ⟨fun _ E T K => valK x E fun x => DoK (convF k x) fun v => K v T⟩
 | .same x => ⟨fun _ E T K => valK x E fun x => DoR (asame x) fun v => K v T⟩
 | .nilck x => ⟨fun _ E T K => valK x E fun x => DoR (anilck x) fun v => K v T⟩
 | .field off sz agg x => ⟨fun _ E T K => valK x E fun x => ldC agg (fieldF off sz agg x) fun v => K v T⟩
 | .idx len sz agg x i => ⟨fun _ E T K => valK x E fun x => valK i E fun i => ldC agg (idxF len sz agg x i) fun v => K v T⟩
 | .idxs x i => ⟨fun _ E T K => valK x E fun x => valK i E fun i => DoK (idxsF x i) fun v => K v T⟩
 | .faddr off x => ⟨fun _ E T K => valK x E fun x => faddrK off x fun v => K v T⟩
 | .iaddr arr sz x i => ⟨fun _ E T K => valK x E fun x => valK i E fun i => iaddrK arr sz x i fun v => K v T⟩
 | .slice sz x lo hi mx => ⟨fun _ E T K => valK x E fun x => ovalK E lo fun lo => ovalK E hi fun hi => ovalK E mx fun mx => DoK (aslice sz x lo hi mx) fun v => K v T⟩
 | .sslice x lo hi => ⟨fun _ E T K => valK x E fun x => ovalK E lo fun lo => ovalK E hi fun hi => DoK (asslice x lo hi) fun v => K v T⟩
 | .mkif t x => ⟨fun _ E T K => valK x E fun v => K (.iface t v) T⟩
 | .mkfn key caps => ⟨fun _ E T K => valsK E caps fun vs => K (.fn key vs) T⟩
 | .extract i x => ⟨fun _ E T K => valK x E fun x => DoR (aextract i x) fun v => K v T⟩
 | .build zero parts => ⟨fun _ E T K => pvalsK E parts fun ps => DoK (abuild zero ps) fun v => K v T⟩
 | .len str x => ⟨fun _ E T K => valK x E fun x => DoK (alen str x) fun v => K v T⟩
 | .lenk n => ⟨fun _ E T K => K (.int .i64 n) T⟩
 | .cap x => ⟨fun _ E T K => valK x E fun x => DoK (acap x) fun v => K v T⟩
 | .minmax mx xs => ⟨fun _ E T K => valsK E xs fun vs => DoK (aminmax mx vs) fun v => K v T⟩
 | .load n agg x => ⟨fun _ E T K => valK x E fun x => ldC agg (loadF T n agg x) fun v => K v T⟩
 | .store n x v => ⟨fun _ E T K => valK x E fun x => valK v E fun v => DoE T (storeE T n x v) K⟩
 | .box mu n x => ⟨fun _ E T K => valK x E fun x => DoE T (boxvE T mu n x) K⟩
 | .alloc mu zero => ⟨fun _ E T K => DoE T (some (boxE T mu zero)) K⟩
 | .bslice mu sz len zero parts => ⟨fun _ E T K => pvalsK E parts fun ps => DoE T (bsliceE T mu sz len zero ps) K⟩
 | .append mu sz bytes x y => ⟨fun _ E T K => valK x E fun x => valK y E fun y => DoE T (appendE T mu sz bytes x y) K⟩
 | .make mu sz bytes zero len cap => ⟨fun _ E T K => valK len E fun l => valK cap E fun c => DoE T (makeE T mu sz bytes zero l c) K⟩
 | .copy sz x y => ⟨fun _ E T K => valK x E fun x => valK y E fun y => DoE T (copyE T sz x y) K⟩
 | .mkmap => ⟨fun _ E T K => DoE T (some (.push (.map T.n) (.map []))) K⟩
 | .lookup kk zero ok m k => ⟨fun _ E T K => valK m E fun m => valK k E fun k => DoK (alookup T.ah kk zero ok m k) fun v => K v T⟩
 | .mapup kk m k v => ⟨fun _ E T K => valK m E fun m => valK k E fun k => valK v E fun v => DoE T (mapupE T kk m k v) K⟩
 | .delete kk m k => ⟨fun _ E T K => DoB (tdelete T kk (m.val E) (k.val E)) fun T => K (.tup []) T⟩
 | .maplen m => ⟨fun _ E T K => valK m E fun m => DoK (amaplen T.ah m) fun v => K v T⟩
 | .sbytes x => ⟨fun _ E T K => valK x E fun x => DoK (asbytes x) fun v => K v T⟩
 | .bstr x => ⟨fun _ E T K => valK x E fun x => DoK (abstr T.ah x) fun v => K v T⟩
 | .srange x => ⟨fun _ E T K => DoHB (tsrange T (x.val E)) K⟩
 | .snext x => ⟨fun _ E T K => DoHB (tsnext T (x.val E)) K⟩
 | .call key args => ⟨fun B E T K => valsK E args fun vs => B key vs T K⟩
 | .callv f args => ⟨fun B E T K => valK f E fun f => valsK E args fun vs => clB B f vs T K⟩
 | .ext e xs => ⟨fun _ E T K => valsK E xs fun vs => DoHB (text T e vs) K⟩
 | .inv tbl x args => ⟨fun B E T K => valK x E fun x => valsK E args fun vs => invB B tbl x vs T K⟩
theorem mapB (x : Option TH) (K : PostB) : DoHB (x.map fun T => (.tup [], T)) K = DoB x fun T => K (.tup []) T := by cases x <;> rfl
theorem opC_eq (B : CallsB) (E : EV) (T : TH) (K : PostB) (op : AOp) : (opC op).f B E T K = opB B [] T K (op.sub E) := by
 cases op <;> simp only [opC, AOp.sub, opB, val_eq, vals_eq, pvals_eq, ovals_eq, valK_eq, valsK_eq, pvalsK_eq, ovalK_eq, DoK_eq, DoR_eq, ldC_eq, iaddrK_eq, faddrK_eq, binC_eq, convF_eq, fieldF_eq, idxF_eq, idxsF_eq, loadF_eq, DoE_eq, storeE_eq, boxvE_eq, bsliceE_eq, appendE_eq, makeE_eq, copyE_eq, mapupE_eq, mapB, Option.map_some, boxE_eq] <;> rfl
def setC (n : Nat) : Option Nat → SetC
 | none => ⟨fun E _ K => K E⟩
 | some d => cond (Nat.blt d n) ⟨fun E v K => K ((d, v) :: E)⟩ ⟨fun E _ K => K E⟩
theorem setC_eq (n : Nat) (d : Option Nat) (E : EV) (v : AV) (K : EV → Bool) : (setC n d).f E v K = K (esetd n E d v) := by
 cases d with
 | none => rfl
 | some d =>
  simp only [setC, esetd, eset]
  cases Nat.blt d n <;> rfl
def oneC (n : Nat) (o : AOper) : RegC :=
 match o.guard with
 | none => ⟨fun B E T K => (opC o.op).f B E T fun v T' => (setC n o.dst).f E v fun E => K E T'⟩
 | some (s, want) => ⟨fun B E T K => getK E s fun g =>
     Gd3B g want ((setC n (some s)).f E (.bool want) fun E => (opC o.op).f B E T fun v T' => (setC n o.dst).f E v fun E => K E T')
      ((setC n (some s)).f E (.bool !want) fun E => (setC n o.dst).f E (.tup []) fun E => K E T) ((setC n (some s)).f E (.tup []) fun E => (setC n o.dst).f E (.tup []) fun E => K E T)⟩
theorem oneC_eq (n : Nat) (o : AOper) (B : CallsB) (E : EV) (T : TH) (K : EV → TH → Bool) : (oneC n o).f B E T K = oneB B n o E T K := by
 unfold oneC oneB
 cases hg : o.guard with
 | none => simp only [opC_eq, setC_eq]
 | some g => simp only [opC_eq, setC_eq, esetd, getK_eq]
def regC (n : Nat) : List AOper → RegC
 | [] => ⟨fun _ E T K => K E T⟩
 | o :: r => ⟨fun B E T K => (oneC n o).f B E T fun E' T' => (regC n r).f B E' T' K⟩
theorem regC_eq (n : Nat) : ∀ (l : List AOper) (B : CallsB) (E : EV) (T : TH) (K : EV → TH → Bool), (regC n l).f B E T K = regB B n l E T K := by
 intro l
 induction l with
 | nil => intro B E T K; rfl
 | cons o r ih =>
  intro B E T K
  simp only [regC, oneC_eq, regB, oneB, ih]
def segC (n : Nat) (ops : List AOper) : List Nat → RegC
 | [] => ⟨fun _ E T K => K E T⟩
 | i :: r => match ops[i]? with
  | some o => ⟨fun B E T K => (oneC n o).f B E T fun E' T' => (segC n ops r).f B E' T' K⟩
  | none => ⟨fun _ _ _ _ => false⟩
theorem segC_eq (n : Nat) (ops : List AOper) : ∀ (l : List Nat) (B : CallsB) (E : EV) (T : TH) (K : EV → TH → Bool), (segC n ops l).f B E T K = segB B n ops l E T K := by
 intro l
 induction l with
 | nil => intro B E T K; rfl
 | cons i r ih =>
  intro B E T K
  simp only [segC, segB]
  cases ops[i]? with
  | none => rfl
  | some o => simp only [oneC_eq, ih]
def readC (o : AOper) : SamC :=
 match o.op with
 | .load n agg x => ⟨fun E T X => valK x E fun x => getK E (o.dst.getD 0) fun d => and (sameV (loadF T n agg x) d) X⟩
 | .lookup kk zero ok m k => ⟨fun E T X => and (sameV (alookup T.ah kk zero ok (m.val E) (k.val E)) (eget E (o.dst.getD 0))) X⟩
 | .maplen m => ⟨fun E T X => and (sameV (amaplen T.ah (m.val E)) (eget E (o.dst.getD 0))) X⟩
 | .bstr x => ⟨fun E T X => and (sameV (abstr T.ah (x.val E)) (eget E (o.dst.getD 0))) X⟩
 | _ => ⟨fun _ _ X => X⟩
theorem readC_eq (o : AOper) (E : EV) (T : TH) (X : Bool) : (readC o).f E T X = (readB T E o && X) := by
 unfold readC readB
 cases o.op <;> simp only [val_eq, Bool.true_and, valK_eq, getK_eq, loadF_eq] <;> rfl
def samC (ops : List AOper) : List Nat → SamC
 | [] => ⟨fun _ _ X => X⟩
 | l :: r => match ops[l]? with
  | some o => (match o.guard with
    | none => ⟨fun E T X => (readC o).f E T ((samC ops r).f E T X)⟩
    | some (s, want) => ⟨fun E T X => and (getK E s fun g => sameW g want ((readC o).f E T true)) ((samC ops r).f E T X)⟩)
  | none => ⟨fun E T X => (samC ops r).f E T X⟩
theorem samC_eq (ops : List AOper) : ∀ (l : List Nat) (E : EV) (T : TH) (X : Bool), (samC ops l).f E T X = samesT ops E T X l := by
 intro l
 induction l with
 | nil => intro E T X; rfl
 | cons i r ih =>
  intro E T X
  simp only [samC, samesT]
  cases ops[i]? with
  | none => simp only [ih, Bool.true_and]
  | some o =>
   simp only [sameGB]
   cases o.guard with
   | none => simp only [ih, readC_eq]
   | some g => simp only [ih, readC_eq, Bool.and_true, getK_eq]
def drawC (n : Nat) (ops : List AOper) (last : List Nat) : List (List Nat × Nat × List Nat) → RegC
 | [] => segC n ops last
 | (seg, e, st) :: r => match ops[e]? with
  | some o => ⟨fun B E T K => (segC n ops seg).f B E T fun E1 T1 => (oneC n o).f B E1 T1 fun E2 T2 => (samC ops st).f E1 T2 ((drawC n ops last r).f B E2 T2 K)⟩
  | none => ⟨fun B E T K => (segC n ops seg).f B E T fun _ _ => false⟩
theorem drawC_eq (n : Nat) (ops : List AOper) (last : List Nat) : ∀ (l : List (List Nat × Nat × List Nat)) (B : CallsB) (E : EV) (T : TH) (K : EV → TH → Bool), (drawC n ops last l).f B E T K = drawB B n ops last l E T K := by
 intro l
 induction l with
 | nil => intro B E T K; exact segC_eq _ _ _ _ _ _ _
 | cons p r ih =>
  obtain ⟨seg, e, st⟩ := p
  intro B E T K
  simp only [drawC, drawB]
  cases ops[e]? with
  | none => simp only [segC_eq]
  | some o => simp only [segC_eq, oneC_eq, samC_eq, ih]
def putC (n : Nat) : List Nat → PutC
 | [] => ⟨fun E _ K => K E⟩
 | t :: r => cond (Nat.blt t n) ⟨fun E s K => List.rec (motive := fun _ => Bool) ((putC n r).f ((t, .bot) :: E) [] K) (fun v q _ => (putC n r).f ((t, v) :: E) q K) s⟩ ⟨fun E s K => (putC n r).f E s.tail K⟩
theorem putC_eq (n : Nat) : ∀ (l : List Nat) (E : EV) (s : List AV) (K : EV → Bool), (putC n l).f E s K = K (eputs n E l s) := by
 intro l
 induction l with
 | nil => intro E s K; cases s <;> rfl
 | cons t r ih =>
  intro E s K
  simp only [putC, eputs, eset]
  cases Nat.blt t n with
  | true => cases s <;> simp only [cond_true, ih, List.headD_nil, List.headD_cons, List.tail_nil, List.tail_cons]
  | false => simp only [cond_false, ih]
def getsK (E : EV) : List Nat → (List AV → Bool) → Bool
 | [], K => K []
 | t :: r, K => getK E t fun v => getsK E r fun vs => K (v :: vs)
theorem getsK_eq (E : EV) : ∀ (l : List Nat) (K : List AV → Bool), getsK E l K = K (egets E l)
 | [], K => rfl
 | t :: r, K => by rw [getsK, getK_eq, getsK_eq E r]; rfl
def keepE (ks : List Nat) : EV → EV
 | [] => []
 | (t, v) :: E => cond (memN t ks) (keepE ks E) ((t, v) :: keepE ks E)
def keepK (ks : List Nat) (E : EV) : (EV → Bool) → Bool := List.rec (motive := fun _ => (EV → Bool) → Bool) (fun K => K []) (fun p _ ih K => Prod.rec (motive := fun _ => Bool) (fun t v => cond (memN t ks) (ih K) (ih fun E => K ((t, v) :: E))) p) E
theorem keepK_eq (ks : List Nat) : ∀ (E : EV) (K : EV → Bool), keepK ks E K = K (keepE ks E)
 | [], K => rfl
 | (t, v) :: E, K => by
  show cond (memN t ks) (keepK ks E K) (keepK ks E fun E => K ((t, v) :: E)) = _
  rw [keepK_eq ks E, keepK_eq ks E, keepE]
  cases memN t ks <;> rfl
theorem memN_iff : ∀ (t : Nat) (l : List Nat), memN t l = decide (t ∈ l)
 | t, [] => rfl
 | t, s :: r => by
  rw [memN, nb, memN_iff t r]
  by_cases h : t = s
  · simp [h]
  · simp [h]
theorem keepE_get (ks : List Nat) : ∀ (E : EV) (i : Nat), eget (keepE ks E) i = if i ∈ ks then .bot else eget E i
 | [], i => by simp [keepE, eget]
 | (t, v) :: E, i => by
  rw [keepE, memN_iff, eget_cons]
  by_cases h : t ∈ ks
  · simp only [h, decide_true, cond_true, keepE_get ks E i]
    by_cases hi : i ∈ ks
    · rw [if_pos hi, if_pos hi]
    · rw [if_neg hi, if_neg hi, if_neg (show ¬ t = i from fun e => hi (e ▸ h))]
  · simp only [h, decide_false, cond_false, eget_cons, keepE_get ks E i]
    by_cases e : t = i
    · subst e; rw [if_pos rfl, if_neg h, if_pos rfl]
    · rw [if_neg e, if_neg e]
theorem killsI_get : ∀ (ks : List Nat) (env : Env) (i : Nat), (Rb.kills env ks).getD i .bot = if i ∈ ks then .bot else env.getD i .bot
 | [], env, i => by simp [Rb.kills]
 | t :: r, env, i => by
  rw [Rb.kills, killsI_get r]
  by_cases hr : i ∈ r
  · rw [if_pos hr, if_pos (List.mem_cons_of_mem _ hr)]
  · rw [if_neg hr]
    by_cases e : t = i
    · subst e
      rw [if_pos List.mem_cons_self, List.getD_eq_getElem?_getD, List.getElem?_set]
      simp only [if_true]
      split <;> rfl
    · rw [if_neg (by simp only [List.mem_cons, not_or]; exact ⟨fun h => e h.symm, hr⟩), List.getD_eq_getElem?_getD, List.getElem?_set_ne e, ← List.getD_eq_getElem?_getD]
theorem killsI_length : ∀ (ks : List Nat) (env : Env), (Rb.kills env ks).length = env.length
 | [], env => rfl
 | t :: r, env => by rw [Rb.kills, killsI_length r]; simp
theorem Agree.keep {n : Nat} {E : EV} {env : Env} (h : Agree n E env) (ks : List Nat) : Agree n (keepE ks E) (Rb.kills env ks) :=
 ⟨by rw [killsI_length]; exact h.1, fun i => by rw [keepE_get, killsI_get, h.2 i]⟩
def blockX (id : Nat) (N : EV → TH → Bool) (X : AExit → EV → TH → Bool) : AExit → EV → TH → Bool
 | .exit id', E, T => cond (Nat.beq id' id) (N E T) (X (.exit id') E T)
 | e, E, T => X e E T
def LoopC (F : List AV → TH → (List AV → TH → Bool) → Bool) (n : Nat) : List AV → TH → Bool := Nat.rec (motive := fun _ => List AV → TH → Bool) (fun _ _ => false) (fun _ ih s T => F s T ih) n
def codeC (fuel n : Nat) : ACode → CodC
 | .skip => ⟨fun _ E T N _ => N E T⟩
 | .region ops => ⟨fun B E T N _ => (regC n ops).f B E T N⟩
 | .draw ops _ plan last => ⟨fun B E T N _ => (drawC n ops last plan).f B E T N⟩
 | .seq a b => ⟨fun B E T N X => (codeC fuel n a).f B E T (fun E T => (codeC fuel n b).f B E T N X) X⟩
 | .cond x a b => ⟨fun B E T N X => valK x E fun x => GdB x true ((codeC fuel n a).f B E T N X) ((codeC fuel n b).f B E T N X)⟩
 | .block id a => ⟨fun B E T N X => (codeC fuel n a).f B E T N (blockX id N X)⟩
 | .loop vs ks a => ⟨fun B E T N X => keepK ks E fun E0 => getsK E vs fun s => LoopC (fun s T K => (putC n vs).f E0 s fun E => (codeC fuel n a).f B E T (fun E' T' => getsK E' vs fun s => K s T') X) fuel s T⟩
 | .exit id => ⟨fun _ E T _ X => X (.exit id) E T⟩
 | .ret => ⟨fun _ E T _ X => X .ret E T⟩
 | .freeze t a => ⟨fun B E T N X => getK E t fun v => DoE T (freezeE T v) fun v T' => (setC n (some t)).f E v fun E => (codeC fuel n a).f B E T' N X⟩
 | .join vs ks a b => ⟨fun _ _ _ _ _ => false⟩
 | .rjoin vs ks ops b => ⟨fun _ _ _ _ _ => false⟩
theorem codeC_sound {Φ : Calls'} {B : CallsB} (hB : SoundB Φ B) (hΦ : Mono Φ) (fuel n : Nat) : ∀ (c : ACode) {E : EV} {env : Env} {T : TH} {N : EV → TH → Bool} {X : AExit → EV → TH → Bool} {Q : AExit → Env → AH → Prop}, Agree n E env → (codeC fuel n c).f B E T N X = true →
  (∀ E' env' T', Agree n E' env' → N E' T' = true → Q .normal env' T'.ah) → (∀ x E' env' T', x ≠ .normal → Agree n E' env' → X x E' T' = true → Q x env' T'.ah) → codeSem Φ c env T.ah Q := by
 have reg : ∀ (l : List AOper) {E : EV} {env : Env} {T : TH} {N : EV → TH → Bool} {Q : Env → AH → Prop}, Agree n E env → (regC n l).f B E T N = true → (∀ E' env' T', Agree n E' env' → N E' T' = true → Q env' T'.ah) → regSem Φ l env T.ah Q := by
  intro l E env T N Q ha h hN
  rw [regC_eq] at h
  refine regE_sound hΦ ha (regB_sound (Q := fun E' H' => ∃ T', H' = T'.ah ∧ N E' T' = true) hB h fun e T' h => ⟨T', rfl, h⟩) fun E' env' H' ha' h' => ?_
  obtain ⟨T', rfl, h'⟩ := h'
  exact hN _ _ _ ha' h'
 intro c
 induction c with
 | skip => intro E env T N X Q ha h hN hX; exact hN _ _ _ ha h
 | region ops => intro E env T N X Q ha h hN hX; exact reg ops ha h hN
 | draw ops pr plan last =>
  intro E env T N X Q ha h hN hX
  simp only [codeC, drawC_eq] at h
  refine drawE_sound hΦ ha (drawB_sound (Q := fun E' H' => ∃ T', H' = T'.ah ∧ N E' T' = true) hB h fun e T' h => ⟨T', rfl, h⟩) fun E' env' H' ha' h' => ?_
  obtain ⟨T', rfl, h'⟩ := h'
  exact hN _ _ _ ha' h'
 | seq a b iha ihb =>
  intro E env T N X Q ha h hN hX
  simp only [codeC] at h
  simp only [codeSem]
  refine iha ha h (fun E' env' T' ha' h' => ihb ha' h' hN hX) fun x E' env' T' hx ha' h' => ?_
  cases x with
  | normal => exact absurd rfl hx
  | exit i => exact hX _ _ _ _ hx ha' h'
  | ret => exact hX _ _ _ _ hx ha' h'
 | join vs ks a b iha ihb => intro E env T N X Q ha h hN hX; cases h
 | cond x a b iha ihb =>
  intro E env T N X Q ha h hN hX
  simp only [codeC, valK_eq] at h
  rw [← val_eq, sub_ev ha] at h
  exact GdB_sound h (fun h => iha ha h hN hX) fun h => ihb ha h hN hX
 | block id a ih =>
  intro E env T N X Q ha h hN hX
  simp only [codeC] at h
  simp only [codeSem]
  refine ih ha h hN fun x E' env' T' hx ha' h' => ?_
  cases x with
  | normal => exact absurd rfl hx
  | exit i =>
   simp only [blockX, nb] at h'
   dsimp only
   by_cases hi : i = id
   · rw [if_pos hi]; simp only [hi, decide_true, cond_true] at h'; exact hN _ _ _ ha' h'
   · rw [if_neg hi]; simp only [hi, decide_false, cond_false] at h'; exact hX _ _ _ _ hx ha' h'
  | ret => exact hX _ _ _ _ hx ha' h'
 | loop vs ks a ih =>
  intro E env T N X Q ha h hN hX
  simp only [codeC, keepK_eq, getsK_eq, putC_eq] at h
  simp only [codeSem]
  have main : ∀ (m : Nat) (s : List AV) (T : TH), LoopC (fun s T K => (codeC fuel n a).f B (eputs n (keepE ks E) vs s) T (fun E' T' => K (egets E' vs) T') X) m s T = true →
    LoopP (fun (s : List AV × AH) (K : List AV × AH → Prop) =>
      codeSem Φ a (puts (kills env ks) vs s.1) s.2 fun e env' H' => match e with
       | .normal => K (gets env' vs, H')
       | e => Q e env' H') (s, T.ah) := by
   intro m
   induction m with
   | zero => intro s T h; cases h
   | succ m ihm =>
    intro s T h
    refine LoopP.step ?_
    refine ih ((ha.keep ks).puts vs s) h (fun E' env' T' ha' h' => ?_) fun x E' env' T' hx ha' h' => ?_
    · dsimp only
      rw [← ha'.gets vs]
      exact ihm _ _ h'
    · cases x with
      | normal => exact absurd rfl hx
      | exit i => exact hX _ _ _ _ hx ha' h'
      | ret => exact hX _ _ _ _ hx ha' h'
  rw [← ha.gets vs]
  exact main fuel _ _ h
 | exit id => intro E env T N X Q ha h hN hX; exact hX _ _ _ _ (by intro h; cases h) ha h
 | ret => intro E env T N X Q ha h hN hX; exact hX _ _ _ _ (by intro h; cases h) ha h
 | freeze t a ih =>
  intro E env T N X Q ha h hN hX
  simp only [codeC, getK_eq, DoE_eq, freezeE_eq, setC_eq, esetd] at h
  simp only [codeSem]
  rw [ha.2 t] at h
  exact DoHB_sound (tfreeze_ah _ _) h fun v T' h' => ih (ha.set t v) h' hN hX
 | rjoin vs ks ops b ih => intro E env T N X Q ha h hN hX; cases h
def resC : List ARes → ResC
 | [] => ⟨fun _ _ K => K []⟩
 | .tmp t :: r => ⟨fun E T K => getK E t fun v => (resC r).f E T fun vs => K (v :: vs)⟩
 | .cell t n agg :: r => ⟨fun E T K => getK E t fun x => ldC agg (loadF T n agg x) fun v => (resC r).f E T fun vs => K (v :: vs)⟩
theorem resC_eq : ∀ (rs : List ARes) (E : EV) (T : TH) (K : List AV → Bool), (resC rs).f E T K = resB E T rs K := by
 intro rs
 induction rs with
 | nil => intros; rfl
 | cons r rs ih => intro E T K; cases r <;> simp only [resC, resB, ih, getK_eq, ldC_eq, loadF_eq]
def oneK (vs : List AV) (Q : PostB) (T : TH) : Bool :=
 match vs with
 | [v] => Q v T
 | vs => Q (.tup vs) T
theorem oneK_eq (vs : List AV) (Q : PostB) (T : TH) : oneK vs Q T = Q (oneRes vs) T := by
 cases vs with
 | nil => rfl
 | cons v r => cases r <;> rfl
def retX (rs : List ARes) (Q : PostB) : AExit → EV → TH → Bool
 | .exit _, _, _ => false
 | _, E, T => (resC rs).f E T fun vs => oneK vs Q T
def initK : List AV → Nat → (EV → Bool) → Bool
 | [], _, K => K []
 | a :: r, i, K => initK r (Nat.succ i) fun E => K ((i, a) :: E)
theorem initK_eq : ∀ (l : List AV) (i : Nat) (K : EV → Bool), initK l i K = K (einit l i)
 | [], _, _ => rfl
 | a :: r, i, K => by rw [initK, initK_eq r]; rfl
def fnC (fuel : Nat) (f : AFunc) : FnC :=
 ⟨fun B args T Q => and (Nat.ble args.length f.ntmps) (initK args 0 fun E => (codeC fuel f.ntmps f.body).f B E T (fun E T => (resC f.results).f E T fun vs => oneK vs Q T) (retX f.results Q))⟩
theorem fnC_sound {Φ : Calls'} {B : CallsB} (hB : SoundB Φ B) (hΦ : Mono Φ) {fuel : Nat} {f : AFunc} {args : List AV} {T : TH} {K : PostB} (h : (fnC fuel f).f B args T K = true) {Q : Post} (hK : ∀ v T', K v T' = true → Q v T'.ah) : fnSem Φ f args T.ah Q := by
 simp only [fnC, Bool.and_eq_true, initK_eq] at h
 have hle := Nat.le_of_ble_eq_true h.1
 have ha : Agree f.ntmps (einit args 0) (args ++ List.replicate (f.ntmps - args.length) .bot) := by
  refine ⟨by simp; omega, fun i => ?_⟩
  rw [einit_get]
  simp only [Nat.not_lt_zero, if_false, Nat.sub_zero]
  simp only [List.getD_eq_getElem?_getD]
  by_cases hi : i < args.length
  · rw [List.getElem?_append_left hi]
  · rw [List.getElem?_append_right (by omega), List.getElem?_eq_none (by omega), List.getElem?_replicate]
    split <;> rfl
 have fin : ∀ (E' : EV) (env' : Env) (T' : TH), Agree f.ntmps E' env' → (resC f.results).f E' T' (fun vs => oneK vs K T') = true → resSem env' T'.ah f.results fun vs => Q (oneRes vs) T'.ah := by
  intro E' env' T' ha' h'
  rw [resC_eq] at h'
  rw [← resE_eq ha']
  exact resB_sound h' fun vs h => hK _ _ (by rwa [oneK_eq] at h)
 refine codeC_sound hB hΦ fuel _ f.body ha h.2 (fun E' env' T' ha' h' => fin E' env' T' ha' h') fun x E' env' T' hx ha' h' => ?_
 cases x with
 | normal => exact absurd rfl hx
 | exit i => cases h'
 | ret => exact fin E' env' T' ha' h'
def dispI (tab : Nat → Option FnC) (B : CallsB) : CallsB := fun k args T Q => match tab k with
 | some c => c.f B args T Q
 | none => false
def tabH (C : Ctx) (fuel : Nat) : List Hint → Nat → Option FnC
 | [], _ => none
 | h :: r, k => cond (Nat.beq h.fid k) (some (fnC fuel (decF C h))) (tabH C fuel r k)
theorem tabH_mem {C : Ctx} {fuel : Nat} : ∀ {L : List Hint} {k : Nat} {c : FnC}, tabH C fuel L k = some c → ∃ h, h ∈ L ∧ h.fid = k ∧ c = fnC fuel (decF C h)
 | [], _, _, h => by cases h
 | p :: r, k, c, h => by
  unfold tabH at h
  cases hb : Nat.beq p.fid k with
  | true =>
   rw [hb] at h
   simp only [cond_true, Option.some.injEq] at h
   exact ⟨p, List.mem_cons_self, Nat.eq_of_beq_eq_true hb, h.symm⟩
  | false =>
   rw [hb] at h
   obtain ⟨f, hf, hc⟩ := tabH_mem (L := r) h
   exact ⟨f, List.mem_cons_of_mem _ hf, hc⟩
theorem dispI_ok {P : Program} {GT : Nat → Option (List AV)} {L : List Hint} (hL : chkH (idC P GT) L = true) (fuel : Nat) : DispOK (ACall (idC P GT)) (dispI (tabH (idC P GT) fuel L)) := by
 intro B hB k args T K h Q hQ
 unfold dispI at h
 split at h
 · rename_i c hc
   obtain ⟨hi, hm, hk, rfl⟩ := tabH_mem hc
   have hs : fnSem (ACall (idC P GT)) (decF (idC P GT) hi) args T.ah Q := fnC_sound hB (ACall_mono _) h hQ
   refine ⟨fnSem_nv (ACall_nv _) hs, fun f hf G w Vs hG hrel hargs => ?_⟩
   have hfk : f = k := by
    simp only [idC] at hf
    cases hg : goodFn P k with
    | true => rw [hg] at hf; simpa using hf.symm
    | false => rw [hg] at hf; cases hf
   subst hfk
   exact fn_sound (idC_fok P GT) (by rw [← hk]; exact chkH_mem hL _ hm) hs hG hrel hargs
 · cases h
end
end Rb

namespace Rb
open Go
noncomputable section
def forced (b : Bool) : Bool := Bool.rec (motive := fun _ => Bool) false true b
theorem forced_eq (b : Bool) : forced b = b := by cases b <;> rfl
theorem of_forced {b : Bool} (h : forced b = true) : b = true := by rwa [forced_eq] at h
def memL : List (Nat × List AV × AV) → Memo
 | [], _, _ => none
 | e :: r, k, args => cond (Nat.beq e.1 k) (cond (AV.sames e.2.1 args) (some e.2.2) (memL r k args)) (memL r k args)
theorem memL_nil {Φ : Calls'} : MemoOK Φ (memL []) := fun _ _ _ h => by cases h
end
end Rb

namespace Rb
open Go
mutual
def AV.weak : AV → AV
 | .fptr cs => .fptr (AV.weaks cs)
 | .lst _ len cs => .lst .dead len (AV.weaks cs)
 | .fn k cs => .fn k (AV.weaks cs)
 | .iface t v => .iface t (AV.weak v)
 | .agg cs => .agg (AV.weaks cs)
 | .tup cs => .tup (AV.weaks cs)
 | v => v
def AV.weaks : List AV → List AV
 | [] => []
 | c :: r => AV.weak c :: AV.weaks r
end
theorem weaks_map : ∀ cs : List AV, AV.weaks cs = cs.map AV.weak
 | [] => rfl
 | c :: r => by rw [AV.weaks, weaks_map r]; rfl
theorem weaks_get {cs : List AV} {j : Nat} {c : AV} (h : (AV.weaks cs)[j]? = some c) : ∃ d, cs[j]? = some d ∧ c = d.weak := by
 rw [weaks_map, List.getElem?_map] at h
 cases hc : cs[j]? with
 | none => rw [hc] at h; cases h
 | some d => rw [hc] at h; simp at h; exact ⟨d, rfl, h.symm⟩
theorem weaks_len (cs : List AV) : (AV.weaks cs).length = cs.length := by rw [weaks_map, List.length_map]
theorem VR.weak {F : FTab} {w : World} {G : Ghost} {c : AV} {V : Value} (h : VR F w G c V) : VR F w G c.weak V := by
 induction h with
 | bot V => exact .bot V
 | bool b => exact .bool b
 | int k n => exact .int k n
 | str s => exact .str s
 | nilp => exact .nilp
 | ptr id off h => exact .ptr id off h
 | fptr cells b o Vs h _ ih =>
  refine .fptr _ b o Vs (fun j c hj => ?_) fun j c hj => ?_
  · obtain ⟨d, hd, rfl⟩ := weaks_get hj; exact h j d hd
  · obtain ⟨d, hd, rfl⟩ := weaks_get hj; exact ih j d hd
 | lstnil => exact .lst0 none 0
 | lst0 a cap => exact .lst0 a cap
 | lst tk len cells b o cap Vs ht hle h _ ih =>
  refine .lst .dead len _ b o cap Vs trivial hle (fun j c hj => ?_) fun j c hj => ?_
  · obtain ⟨d, hd, rfl⟩ := weaks_get hj; exact h j d hd
  · obtain ⟨d, hd, rfl⟩ := weaks_get hj; exact ih j d hd
 | row id off len sz cap h hle hc => exact .row id off len sz cap h hle hc
 | map id h => exact .map id h
 | nilmap => exact .nilmap
 | fn key caps f Vs hk hf hl _ ih =>
  refine .fn key _ f Vs hk hf (by rw [weaks_len]; exact hl) fun j c V hc hV => ?_
  obtain ⟨d, hd, rfl⟩ := weaks_get hc; exact ih j d V hd hV
 | bfn key k caps f Vs hk hf hl _ ih =>
  refine .bfn key k _ f Vs hk hf (by rw [weaks_len]; exact hl) fun j c V hc hV => ?_
  obtain ⟨d, hd, rfl⟩ := weaks_get hc; exact ih j d V hd hV
 | nilfn => exact .nilfn
 | iface t v V _ ih => exact .iface t _ V ih
 | nilif => exact .nilif
 | agg cs Vs hl _ ih =>
  refine .agg _ Vs (by rw [weaks_len]; exact hl) fun j c V hc hV => ?_
  obtain ⟨d, hd, rfl⟩ := weaks_get hc; exact ih j d V hd hV
 | tup cs Vs hl _ ih =>
  refine .tup _ Vs (by rw [weaks_len]; exact hl) fun j c V hc hV => ?_
  obtain ⟨d, hd, rfl⟩ := weaks_get hc; exact ih j d V hd hV
theorem ACall.weak {C : Ctx} {key : Nat} {args : List AV} {H : AH} {Q : Post} (h : ACall C key args H (fun v H' => Q v.weak H')) : ACall C key args H Q := by
 refine ⟨by obtain ⟨v, H', hq⟩ := h.1; exact ⟨_, _, hq⟩, fun f hf G w Vs hG hrel hargs => ?_⟩
 refine Calls.mono (h.2 f hf G w Vs hG hrel hargs) fun e w' he => ?_
 obtain ⟨V, v, H', G', e1, hQ, hv, r⟩ := he
 exact ⟨V, v.weak, H', G', e1, hQ, hv.weak, r⟩
theorem ACall.weak_args {C : Ctx} {key : Nat} {args : List AV} {H : AH} {Q : Post} (h : ACall C key (AV.weaks args) H Q) : ACall C key args H Q := by
 refine ⟨h.1, fun f hf G w Vs hG hrel hargs => ?_⟩
 refine h.2 f hf G w Vs hG hrel ⟨by rw [weaks_len]; exact hargs.1, fun j c V hc hV => ?_⟩
 obtain ⟨d, hd, rfl⟩ := weaks_get hc
 exact (hargs.2 j d V hd hV).weak
end Rb

namespace Rb
open Go
noncomputable section
def lookA : List (List AV × AV) → List AV → Option AV
 | [], _ => none
 | e :: r, a => cond (AV.sames e.1 a) (some e.2) (lookA r a)
def grp (k : Nat) : List (Nat × List AV × AV) → List (List AV × AV)
 | [] => []
 | e :: r => cond (Nat.beq e.1 k) ((e.2.1, e.2.2) :: grp k r) (grp k r)
theorem look_grp (k : Nat) (args : List AV) : ∀ L : List (Nat × List AV × AV), lookA (grp k L) args = memL L k args
 | [] => rfl
 | e :: r => by
  have ih := look_grp k args r
  unfold grp memL
  cases Nat.beq e.1 k with
  | false => exact ih
  | true =>
   simp only [cond_true, lookA]
   cases AV.sames e.2.1 args with
   | false => exact ih
   | true => rfl
def memG (L : List (Nat × List AV × AV)) : Memo := fun k args => match grp k L with
 | [] => none
 | l => lookA l (AV.weaks args)
theorem memG_ok {C : Ctx} {L : List (Nat × List AV × AV)} (h : MemoOK (ACall C) (memL L)) : MemoOK (ACall C) (memG L) := by
 intro k args v hm H Q hQ
 have : lookA (grp k L) (AV.weaks args) = some v := by
  unfold memG at hm
  split at hm
  · cases hm
  · exact hm
 rw [look_grp] at this
 exact ACall.weak_args (h k _ v this H Q hQ)
theorem run_anyW {C : Ctx} (hGT : GTok C) {B : CallsB} (hB : SoundB (ACall C) B) {k : Nat} {args : List AV} {v : AV} (ha : AV.frozs args = true) (hv : v.froz = true) (h : B k args TH.mt (fun u _ => u.weak.same v) = true) (H : AH) (Q : Post) (hQ : Q v H) : ACall C k args H Q :=
 ACall.frame2 hGT (ACall.weak (Q := fun u _ => u.same v = true) (run_closed hB (K := fun u => u.weak.same v) h)) ha H Q fun u _ hu => by rw [AV.same_sound _ _ hu]; exact ⟨hv, hQ⟩
def entryW (B : CallsB) (e : Nat × List AV × AV) : Bool := and (AV.frozs e.2.1) (and e.2.2.froz (B e.1 e.2.1 TH.mt (fun u _ => u.weak.same e.2.2)))
def allW (B : CallsB) : List (Nat × List AV × AV) → Bool
 | [] => true
 | e :: r => and (entryW B e) (allW B r)
theorem memL_consW {C : Ctx} (hGT : GTok C) {B : CallsB} (hB : SoundB (ACall C) B) {e : Nat × List AV × AV} {L : List (Nat × List AV × AV)} (h : entryW B e = true) (hL : MemoOK (ACall C) (memL L)) : MemoOK (ACall C) (memL (e :: L)) := by
 obtain ⟨k0, a0, v0⟩ := e
 simp only [entryW, Bool.and_eq_true] at h
 obtain ⟨h1, h2, h3⟩ := h
 intro k args v hm H Q hQ
 unfold memL at hm
 dsimp only at hm
 cases hb : Nat.beq k0 k with
 | false => rw [hb] at hm; exact hL k args v hm H Q hQ
 | true =>
  rw [hb] at hm
  obtain rfl := Nat.eq_of_beq_eq_true hb
  cases hs : AV.sames a0 args with
  | false => rw [hs] at hm; exact hL k0 args v hm H Q hQ
  | true =>
   rw [hs] at hm
   simp only [cond_true, Option.some.injEq] at hm
   subst hm
   obtain rfl := AV.sames_sound _ _ hs
   exact run_anyW hGT hB h1 h2 h3 H Q hQ
theorem memL_appW {C : Ctx} (hGT : GTok C) {B : CallsB} (hB : SoundB (ACall C) B) {L : List (Nat × List AV × AV)} (hL : MemoOK (ACall C) (memL L)) : ∀ {N : List (Nat × List AV × AV)}, allW B N = true → MemoOK (ACall C) (memL (N ++ L))
 | [], _ => hL
 | e :: N, h => by
  simp only [allW, Bool.and_eq_true] at h
  exact memL_consW hGT hB h.1 (memL_appW hGT hB hL h.2)
end
end Rb

namespace Rb
open Go
def tenTab : List Int := [1, 10, 100, 1000, 10000, 100000, 1000000, 10000000, 100000000, 1000000000, 10000000000, 100000000000, 1000000000000, 10000000000000, 100000000000000, 1000000000000000, 10000000000000000, 100000000000000000, 1000000000000000000, 10000000000000000000]
def pow10tab : List AV := tenTab.map (AV.int .u64)
end Rb
